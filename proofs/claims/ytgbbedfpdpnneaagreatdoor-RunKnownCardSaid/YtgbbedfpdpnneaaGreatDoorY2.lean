/-
  What the functions of the given program reckon, each by a contract, up to the law. It is no claim by itself; each contract bears its own conditions.
-/
import Derived.Test.YtgbbedfpdpnneaaGreatDoorY1
set_option linter.unusedVariables false
set_option linter.unusedSimpArgs false
set_option maxRecDepth 100000
namespace Go.Scr
open Go.Proofs
open IntWalk renaming i64_in → Za
open List renaming length_append → Zb, getD_eq_getElem?_getD → Zc, length_drop → Ze, length_take → Zi, getElem?_eq_getElem → Zk, length_reverse → Zl, length_eq_zero_iff → Zm, range_succ → Zo, replicate → Zp, length_set → Zt, map_append → Zv, foldl_cons → Zw, foldl_append → Zx, length_singleton → Z2, reverse_reverse → Z4, length_zipWith → Z5, take_of_length_le → Z9, take_append_drop → Ja, length_cons → Jb, eq_nil_of_length_eq_zero → Jc, drop_append_of_le_length → Jd, nil_append → Jf, append_nil → Jg, zipWith_cons_cons → Jj, range_succ_eq_map → Jk, length_map → Jm, length_replicate → Jn, getElem?_reverse → Jo, map → Jv
open Int renaming toNat_natCast → Zd, tdiv_eq_ediv_of_nonneg → Zn, tmod_eq_emod_of_nonneg → Zq
open Nat renaming le_of_ble_eq_true → Zf, mul_one → Zg, le_refl → Zh, zero_add → Zj, mod_eq_of_lt → Zr, mod_lt → Zu, div_add_mod → Zz, pow_le_pow_right → Z3, mul_mod → Z8, mod_mul_mod → Je, add_sub_cancel_left → Jh, testBit_lt_two_pow → Ji, sub_self → Jr, mul_succ → Js, mul_comm → Jt, add_zero → Ju
open UInt8 renaming ofNat → Zs, toNat_ofNat' → Zy, xor_assoc → Z6, toNat_inj → Z7, xor_zero → Jp
open UInt32 renaming sub_add_cancel → Z0, add_sub_cancel → Z1, toNat_ofNat' → Jq
open BitVec renaming ofInt → Jl
open Go.IntKind renaming i64 → I6, u8 → U8
theorem c_dF {va vk:List Value} {r k:Bs} (ha:va=bv r) (hk:vk=bv k) (hr:r.length=4) (hkl:k.length=6):Con C N.des_F [.z 4 va,.z 6 vk] [] (.ret (.t [.o 1 (.k 0) 0 4,bool true])) [.sc (bv (dF r k))]:=by
 have hp:(permB (wideN 48) r).length=6:=by rw[permB_len,wideN_len]
 have hx:(xorL (permB (wideN 48) r) k).length=6:=xorL_len hp hkl
 generalize hxe:xorL (permB (wideN 48) r) k=x at hx
 refine fd.des_F.c ?_
 refine scopeN 0 rfl 8 (fun i=>⟨[(6,.z 6 (bv x)),(8,.o 1 (.k 0) 0 4),(9,i64 i)],[.sc (bv (dOut x i))]⟩) ?_ fun i hi=> ?_
 ·refine⟨[],_,_,_,_,c_wide,rfl,rfl,?_⟩
  refine⟨[],_,_,_,_,c_perm (b:=r) (t:=wideN 48) (n:=48) ha (nv_all (wideN_len _)) hr (wideN_len _) (by decide) (by decide) (by decide) (by decide +kernel),rfl,rfl,?_⟩
  refine⟨[],_,_,_,_,c_xor (a:=permB (wideN 48) r) (b:=k) (bv_all hp) hk hp hkl (by decide),rfl,rfl,?_⟩
  rw[hxe]
  refine⟨by decide,by decide,by decide,?_⟩
  refine⟨[],0,by decide,[.d 34 0],⟨?_,rfl,rfl,trivial⟩,⟨_,rfl,q7s ?_⟩,trivial⟩
  ·show V.z 6 (sub (bv x) 0 6)=_
   rw[bv_all hx]
  ·rfl
 have p1:I6.wrap (I6.wrap (6*(i:Int))+1)=((6*i+1:Nat):Int):=by
  rw[Za (6*(i:Int)) (by omega),Za _ (by omega)];omega
 refine⟨[],_,_,_,_,c_bit (n:=6*i+1) (b:=x) p1 rfl hx (by decide) (by omega) (by omega),rfl,rfl,?_⟩
 have p2:I6.wrap (I6.wrap (I6.wrap (6*(i:Int))+1)+5)=((6*i+6:Nat):Int):=by
  rw[p1,Za _ (by omega)];omega
 refine⟨[],_,_,_,_,c_bit (n:=6*i+6) (b:=x) p2 rfl hx (by decide) (by omega) (by omega),rfl,rfl,?_⟩
 have hb1:=toNat_lt2 (tb x (6*i+1-1))
 have hb2:=toNat_lt2 (tb x (6*i+6-1))
 have hrow:I6.wrap (I6.wrap (2*(((tb x (6*i+1-1)).toNat:Nat):Int))+(((tb x (6*i+6-1)).toNat:Nat):Int))=((dRowN x i:Nat):Int):=by
  rw[Za (2*(((tb x (6*i+1-1)).toNat:Nat):Int)) (by omega),Za _ (by omega)]
  rfl
 refine loopN (fun k=>⟨[(6,.z 6 (bv x)),(8,.o 1 (.k 0) 0 4),(9,i64 i),(10,i64 (6*i+1:Nat)),(11,i64 (dRowN x i:Nat)),(12,i64 (dColN x i k:Nat)),(13,i64 (k+1:Nat))],[.sc (bv (dOut x i))]⟩) 4 ⟨[.k 0],⟨rfl,rfl,rfl,q7i p1,q7i hrow,rfl,rfl,trivial⟩,⟨_,rfl,rfl⟩,trivial⟩ fun k hk=> ?_
 refine spl_d (fun h=> ?_) (fun h=> ?_)
 ·have hkl:k<4:=(by omega)
  have p3:I6.wrap (((6*i+1:Nat):Int)+((k+1:Nat):Int))=((6*i+k+2:Nat):Int):=by
   rw[Za _ (by omega)];omega
  refine⟨[],_,_,_,_,c_bit (n:=6*i+k+2) (b:=x) p3 rfl hx (by decide) (by omega) (by omega),rfl,rfl,?_⟩
  have hb:=toNat_lt2 (tb x (6*i+k+2-1))
  have hc:=dColN_lt x i k
  have hc2:2^k≤8:=by
   have:2^k≤2^3:=Z3 (by decide) (by omega)
   simpa using this
  refine⟨k+1,by omega,by omega,[.k 0],⟨rfl,rfl,rfl,rfl,rfl,q7i ?_,q7i (by simp(disch:=omega)only[Za];omega),trivial⟩,⟨_,rfl,rfl⟩,trivial⟩
  rw[Za (2*((dColN x i k:Nat):Int)) (by omega),Za _ (by omega)]
  show _=((2*dColN x i k+(tb x (6*i+1+k)).toNat:Nat):Int)
  rw[show 6*i+1+k=6*i+k+2-1 by omega]
  omega
 ·obtain rfl:k=4:=(by omega)
  have e2:I6.wrap ((i:Int).tdiv 2)=((i/2:Nat):Int):=by
   rw[Zn (by omega),Za _ (by omega)];omega
  have e3:I6.wrap (4*I6.wrap (1-(i:Int).tmod 2))=((4*(1-i%2):Nat):Int):=by
   rw[Zq (by omega),Za (1-(i:Int)%2) (by omega),Za _ (by omega)];omega
  have hcl:=dColN_lt x i 4
  obtain⟨o1,o2⟩:=dRow_ok i hi _ (dRowN_lt x i)
  refine⟨by decide,by rw[e2];omega,by rw[e2];omega,?_⟩
  refine⟨_,by rw[e2,Zd,Zg,Zj];exact bv_getD (by rw[dOut_len];omega),?_⟩
  refine⟨[],_,_,_,_,c_dboxes hi (dRowN_lt x i),rfl,rfl,?_⟩
  refine⟨by omega,?_,?_⟩
  ·show((dColN x i 4:Nat):Int)<(((dRow i (dRowN x i)).toArray.size:Nat):Int)
   simp only[List.size_toArray,o1];omega
  refine⟨_,by rw[Zd];exact str_get (by omega),?_⟩
  refine⟨[],_,_,_,_,c_dsign rfl (o2 _ hcl),rfl,rfl,?_⟩
  refine⟨by decide,by rw[e3];omega,by rw[e2];omega,by rw[e2];omega,by rw[e2,bv_len,dOut_len];omega,?_⟩
  have hset:(bv (dOut x i)).set (i/2) (.int .u8 (U8.wrap ((Jl U8.bits (((dOut x i).getD (i/2) 0).toNat:Int)|||Jl U8.bits (U8.wrap (((dS x i:Nat):Int)*2^(min ((4*(1-i%2):Nat):Int).toNat U8.bits)))).toNat:Int)))=bv (dOut x (i+1)):=by
   rw[put_dig _ (dS_lt hi) _ (by omega),u8_or,bv_set,dOut_step hi]
  have w1:I6.wrap ((i:Int)+1)=((i+1:Nat):Int):=by rw[Za _ (by omega)];omega
  refine spl_d (fun h=> ?_) (fun h=> ?_)
  ·rw[w1]at h
   refine⟨rfl,i+1,by omega,by omega,[.k 0],⟨rfl,rfl,q7i w1,trivial⟩,⟨_,rfl,q7s ?_⟩,trivial⟩
   rw[e2,e3,Zd,Zg,Zj]
   exact hset
  ·rw[w1]at h
   obtain rfl:i=7:=(by omega)
   refine⟨[],_,_,_,_,c_mixed,rfl,rfl,?_⟩
   have hm:tMixed.length=32:=rfl
   have h8:=dOut_len x 8
   refine⟨[],_,_,_,_,c_perm (b:=dOut x 8) (t:=tMixed) (n:=32) ?_ (nv_all hm) h8 hm (by decide) (by decide) (by decide) (by decide +kernel),rfl,rfl,?_⟩
   ·show sub ((bv (dOut x 7)).set _ _) 0 4=_
    rw[e2,e3]
    exact(congrArg (fun l=>sub l 0 4) hset).trans (bv_all h8)
   refine⟨_,rfl,[.d 83 0],rfl,⟨_,rfl,q7s ?_⟩,trivial⟩
   rw[dF,hxe]
def invN (t:List Nat) (n:Nat):List Nat:=(List.range n).foldl (fun o i=>o.set (t.getD i 0-1) (i+1)) (Zp t.length 0)
theorem invN_succ (t n):invN t (n+1)=(invN t n).set (t.getD n 0-1) (n+1):=by simp[invN,Zo]
theorem invN_len (t n):(invN t n).length=t.length:=by
 induction n with
 |zero=>simp[invN]
 |succ n ih=>rw[invN_succ,Zt,ih]
def tFirstI:List Nat:=invN tFirst 64
theorem inv_ok:∀i,i<64→1≤tFirst.getD i 0∧tFirst.getD i 0≤64∧(invN tFirst i).getD (tFirst.getD i 0-1) 0=0:=by decide +kernel
theorem tFirst_len:tFirst.length=64:=by decide +kernel
theorem nv_set (l:List Nat) (i x:Nat):(nv l).set i (.int .i64 (x:Int))=nv (l.set i x):=by simp[nv,List.map_set]
theorem nv_rep (n:Nat):Zp n (Value.int .i64 0)=nv (Zp n 0):=by simp[nv]
theorem c_invert {vt:List Value} (hv:vt=nv tFirst):Con C N.bits_Invert [.z 64 vt] [] (.ret (.t [.o 1 (.k 0) 0 64,bool true])) [.sc (nv tFirstI)]:=by
 subst hv
 refine fd.bits_Invert.c ?_
 refine⟨by decide,by decide,by decide,?_⟩
 refine loopN (fun i=>⟨[(0,.z 64 (nv tFirst)),(4,.o 1 (.k 0) 0 64),(12,i64 64),(13,i64 i)],[.sc (nv (invN tFirst i))]⟩) 64 ⟨[.d 10 0],⟨rfl,rfl,rfl,rfl,trivial⟩,⟨_,rfl,q7s ?_⟩,trivial⟩ fun i hi=> ?_
 ·show Zp 64 _=_
  rw[nv_rep,invN,tFirst_len];rfl
 refine spl_d (fun h=> ?_) (fun h=> ?_)
 ·have hlt:i<64:=(by omega)
  obtain⟨g1,g2,g3⟩:=inv_ok i hlt
  refine⟨by omega,by omega,?_⟩
  refine⟨_,by rw[Zd];exact nv_getD (by rw[tFirst_len];omega),?_⟩
  refine spl_d (fun h=> ?_) (fun h=> ?_)
  ·omega
  refine spl_d (fun h=> ?_) (fun h=> ?_)
  ·omega
  have e1:I6.wrap (((tFirst.getD i 0:Nat):Int)-1)=((tFirst.getD i 0-1:Nat):Int):=by rw[Za _ (by omega)];omega
  refine⟨by rw[e1];omega,by rw[e1];omega,?_⟩
  refine⟨_,by rw[e1,Zd,Zg,Zj];exact nv_getD (by rw[invN_len,tFirst_len];omega),?_⟩
  refine spl_d (fun h=> ?_) (fun h=> ?_)
  ·rw[g3]at h;omega
  refine⟨by rw[e1];omega,by rw[e1];omega,by rw[e1,nv_len,invN_len,tFirst_len];omega,?_⟩
  have w1:I6.wrap ((i:Int)+1)=((i+1:Nat):Int):=by rw[Za _ (by omega)];omega
  refine⟨i+1,by omega,by omega,[.k 0],⟨rfl,rfl,rfl,q7i w1,trivial⟩,⟨_,rfl,q7s ?_⟩,trivial⟩
  rw[e1,w1,Zd,Zg,Zj,nv_set,invN_succ]
 ·obtain rfl:i=64:=(by omega)
  refine⟨by decide,by decide,by decide,?_⟩
  have hl:(invN tFirst 64).length=64:=by rw[invN_len,tFirst_len]
  refine⟨by rw[nv_len,hl];decide,by decide,?_⟩
  refine⟨_,rfl,[.d 45 0],rfl,⟨_,rfl,q7s ?_⟩,trivial⟩
  show(Zp 64 (Value.int .i64 0)).take 0++(sub (nv (invN tFirst 64)) 0 64).take 64++(Zp 64 (Value.int .i64 0)).drop 64=_
  have ht:(nv (invN tFirst 64)).take 64=nv (invN tFirst 64):=Z9 (by rw[nv_len,hl];decide)
  have hd:(Zp 64 (Value.int .i64 0)).drop 64=[]:=rfl
  rw[nv_all hl,ht,hd,List.take_zero,Jf,Jg]
  rfl
def byD (i:Nat):Nat:=if i<2∨i=8∨i=15 then 1 else 2
def tabR (t:List Nat) (s:Nat):List Nat:=(t.take 28).drop s++(t.take 28).take s++(t.drop 28).drop s++(t.drop 28).take s
def dTab:Nat→List Nat
 |0=>tC0
 |i+1=>tabR (dTab i) (byD i)
def dPick (i n:Nat):List Nat:=(List.range n).map fun j=>(dTab (i+1)).getD (tC1.getD j 0-1) 0
def dKey (key:Bs) (i:Nat):Bs:=permB (dPick i 48) key
def dKs (key:Bs) (n:Nat):List (Bs):=(List.range n).map (dKey key)
def kV (l:List (Bs)):List V:=l.map fun k=> .z 6 (bv k)
theorem dTab_len:∀i,i<17→(dTab i).length=56:=by decide +kernel
theorem tC1_ok:∀j,j<48→1≤tC1.getD j 0∧tC1.getD j 0≤56:=by decide +kernel
theorem tC1_len:tC1.length=48:=by decide +kernel
theorem dPick_ok:∀i,i<16→∀j,j<48→1≤(dPick i 48).getD j 0∧(dPick i 48).getD j 0≤64:=by decide +kernel
theorem dPick_len (i n):(dPick i n).length=n:=by simp[dPick]
theorem dPick_succ (i n):dPick i (n+1)=dPick i n++[(dTab (i+1)).getD (tC1.getD n 0-1) 0]:=by simp[dPick,Zo]
theorem dKs_succ (key n):dKs key (n+1)=dKs key n++[dKey key n]:=by simp[dKs,Zo]
theorem dKs_len (key n):(dKs key n).length=n:=by simp[dKs]
theorem dKey_len (key i):(dKey key i).length=6:=by rw[dKey,permB_len,dPick_len]
theorem kV_len (l):(kV l).length=l.length:=by simp[kV]
theorem kV_lend (H ids) (l):(kV l).map (lend H ids 6)=kV l:=by
 unfold kV
 rw[List.map_map]
 exact List.map_congr_left fun _ _=>rfl
theorem tab_sub {t:List Nat} {s:Nat} (ht:t.length=56) (hs:s≤28):
  sub (nv (sub t 0 28)) s (28-s)++sub (nv (sub t 0 28)) 0 s++sub (nv (sub t 28 28)) s (28-s)++sub (nv (sub t 28 28)) 0 s=nv (tabR t s):=by
 rw[nv_sub,nv_sub,nv_sub,nv_sub,nv_app,nv_app,nv_app]
 congr 1
 have e1:sub t 28 28=t.drop 28:=sub_end _ _ _ (by omega)
 have e0:sub t 0 28=t.take 28:=rfl
 rw[e1,e0,tabR]
 rw[sub_end (t.take 28) s (28-s) (by rw[Zi];omega),sub_end (t.drop 28) s (28-s) (by rw[Ze];omega)]
 rfl
theorem tab_fin {t:List Nat} {s:Nat} (ht:t.length=56) (hs:s≤28):
  sub (sub (sub (sub (sub (nv t) 0 28) s (28-s)++sub (sub (nv t) 0 28) 0 s) 0 28++sub (sub (nv t) 28 28) s (28-s)) 0 (28+(28-s))++sub (sub (nv t) 28 28) 0 s) 0 56=nv (tabR t s):=by
 have l0:(sub (nv t) 0 28).length=28:=by rw[sub_length,nv_len,ht];rfl
 have l1:(sub (nv t) 28 28).length=28:=by rw[sub_length,nv_len,ht];rfl
 have a:sub (sub (sub (nv t) 0 28) s (28-s)++sub (sub (nv t) 0 28) 0 s) 0 28=sub (sub (nv t) 0 28) s (28-s)++sub (sub (nv t) 0 28) 0 s:=sub_all (by simp only[Zb,sub_length,nv_len,ht];omega)
 rw[a]
 have b:sub (sub (sub (nv t) 0 28) s (28-s)++sub (sub (nv t) 0 28) 0 s++sub (sub (nv t) 28 28) s (28-s)) 0 (28+(28-s))=sub (sub (nv t) 0 28) s (28-s)++sub (sub (nv t) 0 28) 0 s++sub (sub (nv t) 28 28) s (28-s):=sub_all (by simp only[Zb,sub_length,nv_len,ht];omega)
 rw[b,sub_all (by simp only[Zb,sub_length,nv_len,ht];omega)]
 rw[nv_sub t 0 28,nv_sub t 28 28]
 exact tab_sub ht hs
theorem kV_snap (H ids) (l) (n):(kV l).map (snap H ids (n+1))=kV l:=by
 unfold kV
 rw[List.map_map]
 exact List.map_congr_left fun _ _=>rfl
def dkB (key:Bs) (i:Nat):B:=match i with
 |0=> .pl []
 |i+1=> .mx (kV (dKs key (i+1)))
theorem c_dkeys {va:List Value} {key:Bs} (ha:va=bv key) (hk:key.length=8):Con C N.des_Keys [.z 8 va] [] (.ret (.t [.zz 1 16 (kV (dKs key 16)),i64 0])) []:=by
 subst ha
 refine fd.des_Keys.c ?_
 refine⟨[],_,_,_,_,c_chosen,rfl,rfl,?_⟩
 refine⟨by decide,by decide,by decide,?_⟩
 refine loopN (fun i=>⟨[(0,.z 8 (bv key)),(4,.z 56 (nv (dTab i))),(5,.z 48 (nv tC1)),(6,.o 1 (.k 0) 0 i),(24,i64 i)],[dkB key i]⟩) 16 ⟨[.d 23 0],⟨rfl,?_,?_,rfl,rfl,trivial⟩,⟨_,rfl,rfl⟩,trivial⟩ fun i hi=> ?_
 ·show V.z 56 (sub (nv tC0) 0 56)=_
  rw[nv_all (by decide +kernel)];rfl
 ·show V.z 48 (sub (nv tC1) 0 48)=_
  rw[nv_all (by decide +kernel)]
 refine spl_d (fun h=> ?_) (fun h=> ?_)
 ·have hlt:i<16:=(by omega)
  have ht:=dTab_len i (by omega)
  have l0:(sub (nv (dTab i)) 0 28).length=28:=by rw[sub_length,nv_len,ht];rfl
  have l1:(sub (nv (dTab i)) 28 28).length=28:=by rw[sub_length,nv_len,ht];rfl
  refine spl_d (fun h1=> ?_) (fun h1=>spl_eq (fun h2=> ?_) (fun h2=>spl_eq (fun h3=> ?_) (fun h3=> ?_)))
  all_goals
   first
    |have hs:dTab (i+1)=tabR (dTab i) 1:=by rw[dTab,byD,if_pos (by omega)]
    |have hs:dTab (i+1)=tabR (dTab i) 2:=by rw[dTab,byD,if_neg (by omega)]
   refine⟨by decide,by decide,by decide,by decide,?_⟩
   refine⟨[],_,_,_,_,c_cloneN (n:=28) (va:=sub (nv (dTab i)) 0 28) l0 (by decide) (by decide),rfl,rfl,?_⟩
   refine⟨by decide,by decide,by decide,by decide,?_⟩
   refine⟨[],_,_,_,_,c_cloneN (n:=28) (va:=sub (nv (dTab i)) 28 28) l1 (by decide) (by decide),rfl,rfl,?_⟩
   refine⟨by decide,by decide,by decide,by decide,?_⟩
   refine⟨by decide,by decide,by decide,by decide,?_⟩
   refine⟨(by first|decide|(simp only[Zb,sub_length,l0,l1];decide)),(by first|decide|(simp only[Zb,sub_length,l0,l1];decide)),(by first|decide|(simp only[Zb,sub_length,l0,l1];decide)),?_⟩
   refine⟨by decide,by decide,by decide,by decide,?_⟩
   refine⟨(by first|decide|(simp only[Zb,sub_length,l0,l1];decide)),(by first|decide|(simp only[Zb,sub_length,l0,l1];decide)),(by first|decide|(simp only[Zb,sub_length,l0,l1];decide)),?_⟩
   refine⟨by decide,by decide,by decide,by decide,?_⟩
   refine⟨(by first|decide|(simp only[Zb,sub_length,l0,l1];decide)),(by first|decide|(simp only[Zb,sub_length,l0,l1];decide)),(by first|decide|(simp only[Zb,sub_length,l0,l1];decide)),?_⟩
   refine loopNn (fun j=>⟨[(0,.z 8 (bv key)),(4,.z 56 (nv (dTab (i+1)))),(5,.z 48 (nv tC1)),(6,.o 1 (.k 0) 0 i),(11,.o 1 (.k 1) 0 j),(24,i64 i),(58,.z 48 (nv tC1)),(59,i64 48),(60,i64 j)],[dkB key i,.sc (nv (dPick i j))]⟩) 48 [(11,1,.sc [])] ⟨[.k 0,.d 900000 0],⟨rfl,?_,rfl,rfl,rfl,rfl,rfl,rfl,rfl,trivial⟩,⟨_,rfl,?_⟩,⟨_,rfl,rfl⟩,trivial⟩ fun j hj=> ?_
   ·rw[hs];exact congrArg (V.z 56) (tab_fin ht (by decide))
   ·rcases i with _|i
    ·rfl
    ·show B.mx ((kV _).map _)=_
     rw[kV_lend];rfl
   refine spl_d (fun h=> ?_) (fun h=> ?_)
   ·have hj':j<48:=(by omega)
    obtain⟨g1,g2⟩:=tC1_ok j hj'
    have e1:I6.wrap (((tC1.getD j 0:Nat):Int)-1)=((tC1.getD j 0-1:Nat):Int):=by rw[Za _ (by omega)];omega
    refine⟨by omega,by omega,?_⟩
    refine⟨_,by rw[Zd];exact nv_getD (by rw[tC1_len];omega),?_⟩
    refine⟨by rw[e1];omega,by rw[e1];omega,?_⟩
    refine⟨_,by rw[e1,Zd];exact nv_getD (by rw[dTab_len _ (by omega)];omega),?_⟩
    refine⟨Zh _,by omega,by rw[nv_len,dPick_len];omega,?_⟩
    refine⟨j+1,by omega,by omega,[.k 0,.d 71 0],⟨rfl,rfl,rfl,rfl,rfl,rfl,rfl,rfl,q7i (by simp(disch:=omega)only[Za];omega),trivial⟩,⟨_,rfl,?_⟩,⟨_,rfl,q7s ?_⟩,trivial⟩
    ·rcases i with _|i
     ·rfl
     ·show B.mx ((kV _).map _)=_
      rw[kV_lend];rfl
    ·rw[dPick_succ]
     exact nv_app1 (by rw[dPick_len,Zg])
   ·obtain rfl:j=48:=(by omega)
    refine⟨[],_,_,_,_,c_perm (b:=key) (t:=dPick i 48) (n:=48) rfl (nv_all (dPick_len _ _)) hk (dPick_len _ _) (by decide) (by decide) (by decide) (fun j hj=>dPick_ok i hlt j hj),rfl,rfl,?_⟩
    have w1:I6.wrap ((i:Int)+1)=((i+1:Nat):Int):=by rw[Za _ (by omega)];omega
    have hz:V.z 6 (sub (bv (dKey key i)) 0 6)= .z 6 (bv (dKey key i)):=by rw[bv_all (dKey_len _ _)]
    rcases i with _|i
    ·refine⟨by decide,by decide,by decide,?_⟩
     refine⟨1,by omega,by omega,[.d 82 0],⟨rfl,rfl,rfl,rfl,rfl,trivial⟩,⟨_,rfl,?_⟩,trivial⟩
     exact congrArg (fun z=>B.mx [z]) hz
    ·refine⟨by decide,by omega,by rw[kV_len,dKs_len];omega,?_⟩
     refine⟨i+1+1,by omega,by omega,[.d 82 0],⟨rfl,rfl,rfl,rfl,q7i w1,trivial⟩,⟨_,rfl,?_⟩,trivial⟩
     show B.mx (Jv (lend _ _ 6) (sub (kV (dKs key (i+1))) 0 ((i+1)*1)++[V.o 1 _ _ _]))= .mx (kV (dKs key (i+1+1)))
     rw[Zg,sub_all (by rw[kV_len,dKs_len]),Zv,kV_lend,dKs_succ key (i+1),show kV (dKs key (i+1)++[dKey key (i+1)])=kV (dKs key (i+1))++[V.z 6 (bv (dKey key (i+1)))] from Zv]
     exact congrArg (fun z=>B.mx (kV (dKs key (i+1))++[z])) hz
 ·obtain rfl:i=16:=(by omega)
  refine⟨_,rfl,[],?_,trivial⟩
  exact congrArg (fun z=>V.t [V.zz 1 16 z,i64 0]) ((congrArg (Jv _) (sub_all (by rw[kV_len,dKs_len]))).trans (kV_snap _ _ _ 2))
theorem kV_at {l:List (Bs)} {j:Nat} {x:Bs} (h:l[j]? =some x):(kV l)[j]? =some (.z 6 (bv x)):=by simp[kV,h]
theorem kV_set (l:List (Bs)) (i:Nat) (x:Bs):(kV l).set i (.z 6 (bv x))=kV (l.set i x):=by simp[kV,List.map_set]
theorem c_cloneK {n:Nat} {l:List (Bs)} {xs:List V} (hx:xs=kV l) (hn:l.length=n) (h0:0<n) (hm:n≤1000000):Con C N.slices_Clone_sbyte [.zz 1 n xs] [] (.ret (.o 1 (.k 0) 0 n)) [.pl (kV l)]:=by
 subst hx
 refine fd.slices_Clone_sbyte.c ?_
 refine .inl ⟨h0,?_⟩
 refine⟨by rw[kV_len,hn,Zg],by omega,by decide,?_⟩
 refine⟨_,rfl,[.d 7 0],?_,⟨_,rfl,?_⟩,trivial⟩
 ·rw[Zj];rfl
 ·rfl
theorem c_revK {n:Nat} {l:List (Bs)} (hn:l.length=n) (h0:0<n) (hm:n≤1073741824):Con C N.slices_Reverse_sbyte [.o 1 (.k 0) 0 n] [.pl (kV l)] (.ret (.t [])) [.pl (kV l.reverse)]:=by
 subst hn
 refine fd.slices_Reverse_sbyte.c ?_
 refine loopN (fun i=>⟨[(0,.o 1 (.k 0) 0 l.length),(2,i64 i),(3,i64 (l.length-1-i))],[.pl (kV (revAt l i))]⟩) l.length ⟨[.k 0],⟨rfl,rfl,q7i (by simp(disch:=omega)only[Za];omega),trivial⟩,⟨_,rfl,congrArg B.pl (by rw[revAt_zero])⟩,trivial⟩ fun i hi=> ?_
 refine spl_d (fun h=> ?_) (fun h=> ?_)
 ·have hlt:i<l.length-1-i:=(by omega)
  have e1:0+((l.length:Int)-1-i).toNat*1=l.length-1-i:=(by omega)
  have e2:0+((i:Int)).toNat*1=i:=(by omega)
  refine⟨by omega,by omega,_,by rw[e1];exact kV_at (revAt_mid l i (l.length-1-i) (by omega) (by omega) (by omega)),?_⟩
  refine⟨by omega,by omega,_,by rw[e2];exact kV_at (revAt_mid l i i (by omega) (by omega) (by omega)),?_⟩
  refine⟨by omega,by omega,by rw[e2,kV_len,revAt_len];show i+1≤_;omega,by omega,by omega,?_,?_⟩
  ·rw[e1,e2];show l.length-1-i+1≤((kV (revAt l i)).set _ _).length;rw[Zt,kV_len,revAt_len];omega
  refine⟨i+1,by omega,by omega,[.k 0],⟨rfl,q7i (by simp(disch:=omega)only[Za];omega),q7i (by simp(disch:=omega)only[Za];omega),trivial⟩,⟨_,rfl,congrArg B.pl ?_⟩,trivial⟩
  rw[e1,e2]
  show((kV (revAt l i)).set _ _).set _ _=_
  rw[kV_set,kV_set,revAt_step l i hlt]
 ·refine⟨_,rfl,[.k 0],rfl,⟨_,rfl,congrArg B.pl ?_⟩,trivial⟩
  rw[revAt_all l i (by omega)]
abbrev L2:=Bs×Bs
def dRnd (x:L2) (k:Bs):L2:=(x.2,xorL x.1 (dF x.2 k))
def dN (ks:List (Bs)) (x:L2) (n:Nat):L2:=(List.range n).foldl (fun x i=>dRnd x (ks.getD i [])) x
def dIn (b:Bs):L2:=(sub (permB tFirst b) 0 4,sub (permB tFirst b) 4 4)
def dOnce (ks:List (Bs)) (b:Bs):Bs:=permB tFirstI ((dN ks (dIn b) ks.length).2++(dN ks (dIn b) ks.length).1)
def okKs (ks:List (Bs)):Prop:=∀i,i<ks.length→(ks.getD i []).length=6
theorem dN_succ (ks x n):dN ks x (n+1)=dRnd (dN ks x n) (ks.getD n []):=by simp[dN,Zo]
theorem dF_len (r k):(dF r k).length=4:=by rw[dF,permB_len];rfl
theorem dN_len {ks x} (h1:x.1.length=4) (h2:x.2.length=4):∀n,(dN ks x n).1.length=4∧(dN ks x n).2.length=4
 |0=>⟨h1,h2⟩
 |n+1=>by
  obtain⟨a,b⟩:=dN_len (ks:=ks) h1 h2 n
  rw[dN_succ]
  exact⟨b,xorL_len a (dF_len _ _)⟩
theorem dIn_len (b):(dIn b).1.length=4∧(dIn b).2.length=4:=by
 have:(permB tFirst b).length=8:=by rw[permB_len,tFirst_len]
 constructor<;>(simp only[dIn,sub_length];omega)
theorem tFirst_ok:∀i,i<64→1≤tFirst.getD i 0∧tFirst.getD i 0≤8*8:=by decide +kernel
theorem tFirstI_ok:∀i,i<64→1≤tFirstI.getD i 0∧tFirstI.getD i 0≤8*8:=by decide +kernel
theorem tFirstI_len:tFirstI.length=64:=by decide +kernel
theorem getD_some {α:Type} {l:List α} {i:Nat} {d:α} (h:i<l.length):l[i]? =some (l.getD i d):=by simp[Zc,h]
theorem c_once {va:List Value} {xs:List V} {b:Bs} {ks:List (Bs)} {n:Nat} (ha:va=bv b) (hx:xs=kV ks) (hb:b.length=8) (hn:ks.length=n) (hm:n≤1000) (hk:okKs ks):
  Con C N.des_once [.z 8 va,.zz 1 n xs] [] (.ret (.o 1 (.k 0) 0 8)) [.sc (bv (dOnce ks b))]:=by
 subst ha;subst hx
 have hl:=dN_len (ks:=ks) (dIn_len b).1 (dIn_len b).2
 refine fd.des_once.c ?_
 refine scopeN 0 rfl (n+1) (fun i=>⟨[(1,.zz 1 n (kV ks)),(5,.z 64 (nv tFirst)),(6,.z 4 (bv (dN ks (dIn b) i).1)),(7,.z 4 (bv (dN ks (dIn b) i).2)),(8,i64 i)],[]⟩) ?_ fun i hi=> ?_
 ·refine⟨[],_,_,_,_,c_first,rfl,rfl,?_⟩
  refine⟨[],_,_,_,_,c_perm (b:=b) (t:=tFirst) (n:=64) rfl (nv_all tFirst_len) hb tFirst_len (by decide) (by decide) (by decide) tFirst_ok,rfl,rfl,?_⟩
  refine⟨by decide,by decide,by decide,by decide,?_⟩
  refine⟨by decide,by decide,by decide,by decide,?_⟩
  refine⟨[],0,by omega,[],⟨rfl,?_,?_,?_,rfl,trivial⟩,trivial⟩
  ·show V.z 64 (sub (nv tFirst) 0 64)=_
   rw[nv_all tFirst_len]
  ·exact congrArg (V.z 4) (bv_sub _ _ _)
  ·exact congrArg (V.z 4) (bv_sub _ _ _)
 refine spl_d (fun h=> ?_) (fun h=> ?_)
 ·have hlt:i<n:=(by omega)
  refine⟨by omega,by omega,_,by rw[Zd,Zg];exact kV_at (getD_some (d:=[]) (by omega)),?_⟩
  refine⟨[],_,_,_,_,c_dF (r:=(dN ks (dIn b) i).2) (k:=ks.getD i []) rfl rfl (hl i).2 (hk i (by omega)),rfl,rfl,?_⟩
  refine⟨[],_,_,_,_,c_xor (a:=(dN ks (dIn b) i).1) (b:=dF (dN ks (dIn b) i).2 (ks.getD i [])) rfl (bv_all (dF_len _ _)) (hl i).1 (dF_len _ _) (by decide),rfl,rfl,?_⟩
  refine⟨rfl,i+1,by omega,by omega,[],⟨rfl,rfl,?_,?_,q7i (by simp(disch:=omega)only[Za];omega),trivial⟩,trivial⟩
  ·rw[dN_succ];rfl
  ·rw[dN_succ]
   show V.z 4 (sub (bv _) 0 4)=_
   rw[bv_all (xorL_len (hl i).1 (dF_len _ _))];rfl
 ·obtain rfl:i=n:=(by omega)
  refine⟨[],_,_,_,_,c_invert rfl,rfl,rfl,?_⟩
  refine⟨[],_,_,_,_,c_concatB' (n:=2) (ls:=[(dN ks (dIn b) i).2,(dN ks (dIn b) i).1]) (t:=(dN ks (dIn b) i).2++(dN ks (dIn b) i).1) (by simp) ?_ rfl (by rw[Zb,(hl i).1,(hl i).2];decide) (by rw[Zb,(hl i).1,(hl i).2];decide),rfl,rfl,?_⟩
  ·show[V.z 4 _,V.z 4 _]=[V.z _ _,V.z _ _]
   rw[(hl i).1,(hl i).2]
  have h8:((dN ks (dIn b) i).2++(dN ks (dIn b) i).1).length=8:=by rw[Zb,(hl i).1,(hl i).2]
  refine⟨[],_,_,_,_,c_perm (b:=(dN ks (dIn b) i).2++(dN ks (dIn b) i).1) (t:=tFirstI) (l:=((dN ks (dIn b) i).2++(dN ks (dIn b) i).1).length) (n:=64) (bv_all rfl) (nv_all tFirstI_len) rfl tFirstI_len (by rw[h8];decide) (by decide) (by decide) (by rw[h8];exact tFirstI_ok),rfl,rfl,?_⟩
  refine⟨_,rfl,[.d 58 0],rfl,⟨_,rfl,q7s ?_⟩,trivial⟩
  rw[dOnce,hn]
def kkV (l:List (List (Bs))):List V:=l.map fun k=> .zz 1 16 (kV k)
theorem kkV_len (l):(kkV l).length=l.length:=by simp[kkV]
theorem kkV_at {l:List (List (Bs))} {j:Nat} {x} (h:l[j]? =some x):(kkV l)[j]? =some (.zz 1 16 (kV x)):=by simp[kkV,h]
abbrev desV (ks:List (List (Bs))):V:= .q [.zz 1 ks.length (kkV ks)] 0
def dPut (ks:List (List (Bs))) (back:Bool) (b:Bs) (i:Nat):Bs:=
 dOnce (if back != decide (i=1)then (if back then ks.getD (ks.length-1-i) []else ks.getD i []).reverse else (if back then ks.getD (ks.length-1-i) []else ks.getD i [])) b
def dBN (ks:List (List (Bs))) (back:Bool) (b:Bs) (n:Nat):Bs:=(List.range n).foldl (dPut ks back) b
def okKK (ks:List (List (Bs))):Prop:=ks.length≤3∧∀i,i<ks.length→(ks.getD i []).length=16∧okKs (ks.getD i [])
theorem dOnce_len (ks b):(dOnce ks b).length=8:=by rw[dOnce,permB_len,tFirstI_len]
theorem dBN_succ (ks back b n):dBN ks back b (n+1)=dPut ks back (dBN ks back b n) n:=by simp[dBN,Zo]
theorem dBN_len {ks back b} (h:b.length=8):∀n,(dBN ks back b n).length=8
 |0=>h
 |n+1=>by rw[dBN_succ];exact dOnce_len _ _
theorem okKs_rev {ks} (h:okKs ks):okKs ks.reverse:=by
 intro i hi
 have hi':i<ks.length:=by simpa using hi
 have e:ks.reverse.getD i []=ks.getD (ks.length-1-i) []:=by
  rw[Zc,Jo hi',Zc]
 rw[e]
 exact h _ (by omega)
def dD (ks:List (List (Bs))) (back:Bool) (b:Bs) (i:Nat):D:=match i with
 |0=>⟨[(0,desV ks),(1,.z 8 (bv b)),(2,bool back),(18,i64 ks.length),(19,i64 0)],[]⟩
 |i+1=>⟨[(0,desV ks),(1,.o 1 (.k 0) 0 8),(2,bool back),(18,i64 ks.length),(19,i64 (i+1:Nat))],[.sc (bv (dBN ks back b (i+1)))]⟩
theorem c_des_blk {va:List Value} {b:Bs} {ks:List (List (Bs))} {back:Bool} (ha:va=bv b) (hb:b.length=8) (hk:okKK ks) (h0:0<ks.length):
  Con C N.des_Des_Block [desV ks,.z 8 va,bool back] [] (okBlk 8) [.sc (bv (dBN ks back b ks.length))]:=by
 subst ha
 have hlen:=dBN_len (ks:=ks) (back:=back) hb
 obtain⟨h3,hk⟩:=hk
 have hend:∀i k,dOnce k (dBN ks back b i)=dPut ks back (dBN ks back b i) i→bv (dOnce k (dBN ks back b i))=bv (dBN ks back b (i+1)):=fun i k h=>by rw[h,dBN_succ]
 refine fd.des_Des_Block.c ?_
 refine⟨_,rfl,?_⟩
 refine loopN (dD ks back b) ks.length ⟨[],⟨rfl,rfl,rfl,rfl,rfl,trivial⟩,trivial⟩ fun i hi=> ?_
 rcases i with _|i
 ·refine spl_d (fun h=> ?_) (fun h=>absurd h (by omega))
  obtain⟨k1,k2⟩:=hk 0 h0
  refine⟨_,rfl,by omega,by omega,_,kkV_at (getD_some (d:=[]) h0),?_⟩
  cases back
  ·skip
   refine⟨[],_,_,_,_,c_once (b:=dBN ks false b 0) (ks:=ks.getD 0 []) (by first|exact bv_all (hlen _)|rfl) rfl (hlen _) k1 (by decide) k2,rfl,rfl,?_⟩
   refine⟨0+1,by omega,by omega,[.d 55 0],⟨rfl,rfl,rfl,rfl,rfl,trivial⟩,⟨_,rfl,q7s (hend _ _ ?_)⟩,trivial⟩
   rfl
  ·obtain⟨k1,k2⟩:=hk (ks.length-1-0) (by omega)
   have e1:I6.wrap (I6.wrap ((ks.length:Int)-1)-0)=((ks.length-1-0:Nat):Int):=by
    rw[Za ((ks.length:Int)-1) (by omega),Za _ (by omega)];omega
   refine⟨_,rfl,_,rfl,by rw[e1];omega,by rw[e1];omega,_,by rw[e1,Zd,Zg];exact kkV_at (getD_some (d:=[]) (by omega)),?_⟩
   refine⟨[],_,_,_,_,c_cloneK rfl k1 (by decide) (by decide),rfl,rfl,?_⟩
   refine⟨[.d 50 0],_,_,_,_,c_revK (l:=ks.getD (ks.length-1-0) []) k1 (by decide) (by decide),rfl,rfl,?_⟩
   refine⟨[],_,_,_,_,c_once (b:=dBN ks true b 0) (ks:=(ks.getD (ks.length-1-0) []).reverse) (by first|exact bv_all (hlen _)|rfl) (sub_all (by rw[kV_len,Zl,k1])) (hlen _) (by rw[Zl,k1]) (by decide) (okKs_rev k2),rfl,rfl,?_⟩
   refine⟨0+1,by omega,by omega,[.d 55 0],⟨rfl,rfl,rfl,rfl,rfl,trivial⟩,⟨_,rfl,q7s (hend _ _ ?_)⟩,trivial⟩
   rfl
 refine spl_d (fun h=> ?_) (fun h=> ?_)
 ·have hlt:i+1<ks.length:=(by omega)
  have w1:I6.wrap (((i+1:Nat):Int)+1)=((i+1+1:Nat):Int):=by rw[Za _ (by omega)];omega
  have one:(((i+1:Nat):Int)==1)=decide (i+1=1):=by
   by_cases h:i+1=1
   ·rw[h];rfl
   ·rw[decide_eq_false h];exact beq_false_of_ne (by omega)
  obtain⟨k1,k2⟩:=hk (i+1) hlt
  refine⟨_,rfl,by omega,by omega,_,by rw[Zd,Zg];exact kkV_at (getD_some (d:=[]) hlt),?_⟩
  cases back
  ·refine spl_i (fun h1=> ?_) (fun h1=> ?_)
   ·rw[one]at h1
    refine⟨[],_,_,_,_,c_cloneK rfl k1 (by decide) (by decide),rfl,rfl,?_⟩
    refine⟨[.d 50 0],_,_,_,_,c_revK (l:=ks.getD (i+1) []) k1 (by decide) (by decide),rfl,rfl,?_⟩
    refine⟨[],_,_,_,_,c_once (b:=dBN ks false b (i+1)) (ks:=(ks.getD (i+1) []).reverse) (by first|exact bv_all (hlen _)|rfl) (sub_all (by rw[kV_len,Zl,k1])) (hlen _) (by rw[Zl,k1]) (by decide) (okKs_rev k2),rfl,rfl,?_⟩
    refine⟨i+1+1,by omega,by omega,[.d 55 0],⟨rfl,rfl,rfl,rfl,q7i w1,trivial⟩,⟨_,rfl,q7s (hend _ _ ?_)⟩,trivial⟩
    unfold dPut;first|(rw [if_pos (show (false != decide (i+1=1))=true from h1)];rfl)|(rw [if_pos (show (true != decide (i+1=1))=true from h1)];rfl)
   ·rw[one]at h1
    refine⟨[],_,_,_,_,c_once (b:=dBN ks false b (i+1)) (ks:=ks.getD (i+1) []) (by first|exact bv_all (hlen _)|rfl) rfl (hlen _) k1 (by decide) k2,rfl,rfl,?_⟩
    refine⟨i+1+1,by omega,by omega,[.d 55 0],⟨rfl,rfl,rfl,rfl,q7i w1,trivial⟩,⟨_,rfl,q7s (hend _ _ ?_)⟩,trivial⟩
    unfold dPut;rw[if_neg (by rw[show (false != decide (i+1=1))=false from h1];decide)];rfl
  ·have e1:I6.wrap (I6.wrap ((ks.length:Int)-1)-((i+1:Nat):Int))=((ks.length-1-(i+1):Nat):Int):=by
    rw[Za ((ks.length:Int)-1) (by omega),Za _ (by omega)];omega
   obtain⟨k1,k2⟩:=hk (ks.length-1-(i+1)) (by omega)
   refine⟨_,rfl,_,rfl,by rw[e1];omega,by rw[e1];omega,_,by rw[e1,Zd,Zg];exact kkV_at (getD_some (d:=[]) (by omega)),?_⟩
   refine spl_i (fun h1=> ?_) (fun h1=> ?_)
   ·rw[one]at h1
    refine⟨[],_,_,_,_,c_cloneK rfl k1 (by decide) (by decide),rfl,rfl,?_⟩
    refine⟨[.d 50 0],_,_,_,_,c_revK (l:=ks.getD (ks.length-1-(i+1)) []) k1 (by decide) (by decide),rfl,rfl,?_⟩
    refine⟨[],_,_,_,_,c_once (b:=dBN ks true b (i+1)) (ks:=(ks.getD (ks.length-1-(i+1)) []).reverse) (by first|exact bv_all (hlen _)|rfl) (sub_all (by rw[kV_len,Zl,k1])) (hlen _) (by rw[Zl,k1]) (by decide) (okKs_rev k2),rfl,rfl,?_⟩
    refine⟨i+1+1,by omega,by omega,[.d 55 0],⟨rfl,rfl,rfl,rfl,q7i w1,trivial⟩,⟨_,rfl,q7s (hend _ _ ?_)⟩,trivial⟩
    unfold dPut;first|(rw [if_pos (show (false != decide (i+1=1))=true from h1)];rfl)|(rw [if_pos (show (true != decide (i+1=1))=true from h1)];rfl)
   ·rw[one]at h1
    refine⟨[],_,_,_,_,c_once (b:=dBN ks true b (i+1)) (ks:=ks.getD (ks.length-1-(i+1)) []) (by first|exact bv_all (hlen _)|rfl) rfl (hlen _) k1 (by decide) k2,rfl,rfl,?_⟩
    refine⟨i+1+1,by omega,by omega,[.d 55 0],⟨rfl,rfl,rfl,rfl,q7i w1,trivial⟩,⟨_,rfl,q7s (hend _ _ ?_)⟩,trivial⟩
    unfold dPut;rw[if_neg (by rw[show (true != decide (i+1=1))=false from h1];decide)];rfl
 ·have he:i+1=ks.length:=(by omega)
  refine⟨_,rfl,[.k 0],rfl,⟨_,rfl,q7s ?_⟩,trivial⟩
  rw[he]
theorem c_des_bad {va:List Value} {ks:List (List (Bs))} {n:Nat} {back:Bool} (hn:n≠8):Con C N.des_Des_Block [desV ks,.z n va,bool back] [] badBlk []:=by
 refine fd.des_Des_Block.c ?_
 refine spl_ne (fun h=> ?_) (fun h=> ?_)
 ·exact⟨_,rfl,[],rfl,trivial⟩
 ·omega
def dAllN (key:Bs) (n:Nat):List (List (Bs)):=(List.range n).map fun i=>dKs (sub key (8*i) 8) 16
def dAll (key:Bs) (n:Nat):List (List (Bs)):=if n=2 then dAllN key 2++[dKs (sub key 0 8) 16]else dAllN key n
theorem dAllN_succ (key n):dAllN key (n+1)=dAllN key n++[dKs (sub key (8*n) 8) 16]:=by simp[dAllN,Zo]
theorem dAllN_len (key n):(dAllN key n).length=n:=by simp[dAllN]
theorem dAll_len {key n} (h:1≤n∧n≤3):(dAll key n).length=if n=2 then 3 else n:=by
 unfold dAll
 split
 ·rename_i h;subst h;rw[Zb,dAllN_len];rfl
 ·exact dAllN_len _ _
theorem dKs_ok (key):(dKs key 16).length=16∧okKs (dKs key 16):=by
 refine⟨dKs_len _ _,fun i hi=> ?_⟩
 rw[dKs_len]at hi
 have:(dKs key 16).getD i []=dKey key i:=by simp[dKs,Zc,hi]
 rw[this,dKey_len]
theorem dAll_ok {key n} (h:1≤n∧n≤3):okKK (dAll key n)∧0<(dAll key n).length:=by
 have hl:=dAll_len (key:=key) h
 have hm:∀x∈dAll key n,x.length=16∧okKs x:=by
  intro x hx
  unfold dAll at hx
  split at hx
  ·rcases List.mem_append.1 hx with hx|hx
   ·obtain⟨i,_,rfl⟩:=List.mem_map.1 hx;exact dKs_ok _
   ·rw[List.mem_singleton.1 hx];exact dKs_ok _
  ·obtain⟨i,_,rfl⟩:=List.mem_map.1 hx;exact dKs_ok _
 refine⟨⟨by rw[hl];split<;>omega,fun i hi=>hm _ ?_⟩,by rw[hl];split<;>omega⟩
 rw[Zc,Zk hi]
 exact List.getElem_mem hi
def dNB (key:Bs) (m n i:Nat):D:=match i with
 |0=>⟨[(0,.z m (bv key)),(4,i64 n),(5,.p (.k 0) 0),(26,i64 n),(27,i64 0)],[.mx [nilv]]⟩
 |i+1=>⟨[(0,.z m (bv key)),(4,i64 n),(5,.p (.k 0) 0),(26,i64 n),(27,i64 (i+1:Nat))],[.mx [.o 1 (.k 1) 0 (i+1)],.pl (kkV (dAllN key (i+1)))]⟩
theorem c_des_new {va:List Value} {key:Bs} {m n:Nat} (ha:va=bv key) (hk:key.length=m) (hm:m=8*n) (hn:1≤n∧n≤3):Con C N.des_New [.z m va] [] (.ret (.t [desV (dAll key n),i64 0])) []:=by
 subst ha
 have e1:I6.wrap ((m:Int).tdiv 8)=(n:Int):=by
  rw[Zn (by omega),Za _ (by omega)];omega
 have e2:(m:Int).tmod 8=0:=by rw[Zq (by omega)];omega
 refine fd.des_New.c ?_
 refine⟨by decide,by decide,?_⟩
 rw[e1,e2]
 refine spl_d (fun h=>absurd h (by omega)) (fun h=> ?_)
 refine spl_d (fun h=>absurd h (by omega)) (fun h=> ?_)
 refine loopN (dNB key m n) n ⟨[.d 25 0],⟨rfl,rfl,rfl,rfl,rfl,trivial⟩,⟨_,rfl,rfl⟩,trivial⟩ fun i hi=> ?_
 rcases i with _|i
 ·refine spl_d (fun h=> ?_) (fun h=>absurd h (by omega))
  refine⟨by decide,by decide,by decide,by decide,by show 8≤m;omega,?_⟩
  refine⟨[],_,_,_,_,c_dkeys (key:=sub key (8*0) 8) (bv_sub _ _ _) (by rw[sub_length];omega),rfl,rfl,?_⟩
  refine⟨_,rfl,Zh _,by decide,by decide,?_⟩
  refine⟨1,by omega,by omega,[.k 0,.d 48 0],⟨rfl,rfl,rfl,rfl,rfl,trivial⟩,⟨_,rfl,?_⟩,⟨_,rfl,?_⟩,trivial⟩
  ·rfl
  ·exact congrArg B.pl rfl
 refine spl_d (fun h=> ?_) (fun h=> ?_)
 ·have hlt:i+1<n:=(by omega)
  have e3:I6.wrap (8*((i+1:Nat):Int))=((8*(i+1):Nat):Int):=by rw[Za _ (by omega)];omega
  have e4:I6.wrap (8*I6.wrap (((i+1:Nat):Int)+1))=((8*(i+1)+8:Nat):Int):=by
   rw[Za (((i+1:Nat):Int)+1) (by omega),Za _ (by omega)];omega
  refine⟨by rw[e4];omega,by rw[e3];omega,by rw[e3,e4];omega,Zh _,by rw[e4];omega,?_⟩
  refine⟨[],_,_,_,_,c_dkeys (key:=sub key (8*(i+1)) 8) (va:=sub (bv key) (8*(i+1)) 8) (bv_sub _ _ _) (by rw[sub_length];omega),?_,rfl,?_⟩
  ·rw[e3,e4]
   show[V.z (8*(i+1)+8-8*(i+1)) (sub (bv key) (8*(i+1)) (8*(i+1)+8-8*(i+1)))]=_
   rw[Jh]
  refine⟨_,rfl,Zh _,by omega,by rw[kkV_len,dAllN_len];omega,by show 0+0+1≤1;decide,?_⟩
  refine⟨i+1+1,by omega,by omega,[.k 0,.d 48 0],⟨rfl,rfl,rfl,rfl,q7i (by simp(disch:=omega)only[Za];omega),trivial⟩,⟨_,rfl,rfl⟩,⟨_,rfl,congrArg B.pl ?_⟩,trivial⟩
  rw[Zg,sub_all (by rw[kkV_len,dAllN_len]),dAllN_succ key (i+1)]
  exact(Zv (f:=fun k=>V.zz 1 16 (kV k)) (l₁:=dAllN key (i+1)) (l₂:=[dKs (sub key (8*(i+1)) 8) 16])).symm
 ·have hin:i+1=n:=(by omega)
  refine spl_eq (fun h=> ?_) (fun h=> ?_)
  ·obtain rfl:i=1:=(by omega)
   subst hin
   have hl:=dAll_len (key:=key) hn
   refine⟨_,rfl,_,rfl,by decide,by decide,_,rfl,Zh _,by decide,by rw[kkV_len,dAllN_len];decide,by show 0+0+1≤1;decide,?_⟩
   refine⟨_,rfl,[],?_,trivial⟩
   show V.t [V.q [V.zz 1 3 (sub (sub (kkV (dAllN key 2)) 0 2++kkV [dKs (sub key 0 8) 16]) 0 3)] 0,i64 0]=V.t [V.q [V.zz 1 (dAll key 2).length (kkV (dAll key 2))] 0,i64 0]
   have e:sub (sub (kkV (dAllN key 2)) 0 2++kkV [dKs (sub key 0 8) 16]) 0 3=kkV (dAll key 2):=by
    rw[sub_all (l:=kkV (dAllN key 2)) (by rw[kkV_len,dAllN_len]),dAll,if_pos rfl,sub_all (by rw[Zb,kkV_len,dAllN_len];rfl)]
    exact(Zv (f:=fun k=>V.zz 1 16 (kV k)) (l₁:=dAllN key 2) (l₂:=[dKs (sub key 0 8) 16])).symm
   rw[hl,if_pos rfl]
   exact congrArg (fun z=>V.t [V.q [V.zz 1 3 z] 0,i64 0]) e
  ·have hl:=dAll_len (key:=key) hn
   rw[if_neg (by omega)]at hl
   refine⟨_,rfl,[],?_,trivial⟩
   show V.t [V.q [V.zz 1 (i+1) (sub (kkV (dAllN key (i+1))) 0 ((i+1)*1))] 0,i64 0]=V.t [V.q [V.zz 1 (dAll key n).length (kkV (dAll key n))] 0,i64 0]
   rw[hl,hin]
   have e:sub (kkV (dAllN key n)) 0 (n*1)=kkV (dAll key n):=by
    rw[dAll,if_neg (by omega),sub_all (by rw[kkV_len,dAllN_len,Zg])]
   exact congrArg (fun z=>V.t [V.q [V.zz 1 n z] 0,i64 0]) e
theorem c_r2_bit {va:List Value} {b:Bs} {l n:Nat} {x:Int} (hx:x=n) (ha:va=bv b) (hl:b.length=l) (hm:l≤1000000) (h1:1≤n) (h2:n≤8*l):Con C N.r2_Bit [.z l va,i64 x] [] (.ret (i64 ((tb b (n-1)).toNat:Nat))) []:=by
 subst ha;subst hx
 have e0:I6.wrap ((n:Int)-1)=((n-1:Nat):Int):=by rw[Za _ (by omega)];omega
 have e1:I6.wrap ((I6.wrap ((n:Int)-1)).tdiv 8)=(((n-1)/8:Nat):Int):=by
  rw[e0,Zn (by omega),Za _ (by omega)];omega
 have e2:IntKind.u64.wrap (I6.wrap (7-(I6.wrap ((n:Int)-1)).tmod 8))=((7-(n-1)%8:Nat):Int):=by
  rw[e0,Zq (by omega),Za _ (by omega),wrap_u64];omega
 have e3:I6.wrap (8*(l:Int))=((8*l:Nat):Int):=by rw[Za _ (by omega)];omega
 refine fd.r2_Bit.c ?_
 refine spl_d (fun h=> ?_) (fun h=> ?_)
 ·omega
 refine spl_d (fun h=> ?_) (fun h=> ?_)
 ·rw[e3]at h;omega
 refine⟨by decide,by rw[e1];omega,by rw[e1];omega,?_⟩
 refine⟨_,by rw[e1,Zd];exact bv_getD (by omega),?_⟩
 refine⟨by decide,by rw[e2];omega,?_⟩
 refine⟨_,rfl,[],q7i ?_,trivial⟩
 rw[e2]
 exact bit_val _ (UInt8.toNat_lt _) _ (by omega)
theorem put_one:∀k,k<8→U8.wrap (1*2^(min ((k:Nat):Int).toNat U8.bits))=(((Zs (true.toNat*2^k)).toNat:Nat):Int):=by decide +kernel
theorem permP_skip {t:List Nat} {b:Bs} {i:Nat} (h:tb b (t.getD i 0-1)=false):permP t b (i+1)=permP t b i:=by
 unfold permP
 congr 1
 funext j
 unfold permF
 by_cases hj:j=i
 ·rw[hj,h];simp
 ·congr 1;exact decide_eq_decide.2 (by omega)
theorem c_r2_perm {va vt:List Value} {b:Bs} {t:List Nat} {l n:Nat} (ha:va=bv b) (hvt:vt=nv t) (hl:b.length=l) (ht:t.length=n) (hm:l≤1000000) (hn:n≤1000000) (h8:n%8=0) (hall:∀i,i<n→1≤t.getD i 0∧t.getD i 0≤8*l):Con C N.r2_Permute [.z l va,.z n vt] [] (.ret (.t [.o 1 (.k 0) 0 (n/8),bool true])) [.sc (bv (permB t b))]:=by
 subst ha;subst hvt;subst ht
 have e0:I6.wrap ((I6.wrap ((t.length:Int)+7)).tdiv 8)=((t.length/8:Nat):Int):=by
  rw[Za ((t.length:Int)+7) (by omega),Zn (by omega),Za _ (by omega)];omega
 have e8:I6.wrap (8*(l:Int))=((8*l:Nat):Int):=by rw[Za _ (by omega)];omega
 refine fd.r2_Permute.c ?_
 refine⟨by decide,?_⟩
 rw[e0]
 refine⟨by omega,by omega,by omega,?_⟩
 refine loopN (fun i=>⟨[(0,.z l (bv b)),(1,.z t.length (nv t)),(6,.o 1 (.k 0) 0 (t.length/8)),(7,i64 i)],[.sc (bv (permP t b i))]⟩) t.length ⟨[.d 12 0],⟨rfl,rfl,rfl,rfl,trivial⟩,⟨_,rfl,q7s ?_⟩,trivial⟩ fun i hi=> ?_
 ·show Zp ((t.length/8:Nat):Int).toNat (Value.int .u8 0)=_
  rw[Zd,permP_zero,bv_rep]
 refine spl_d (fun h=> ?_) (fun h=> ?_)
 ·have hlt:i<t.length:=(by omega)
  obtain⟨g1,g2⟩:=hall i hlt
  refine⟨by omega,by omega,?_⟩
  refine⟨_,by rw[Zd];exact nv_getD hlt,?_⟩
  refine spl_d (fun h=> ?_) (fun h=> ?_)
  ·omega
  refine⟨by omega,by omega,?_⟩
  refine⟨_,by rw[Zd];exact nv_getD hlt,?_⟩
  refine spl_d (fun h=> ?_) (fun h=> ?_)
  ·rw[e8]at h;omega
  have e2:I6.wrap ((i:Int).tdiv 8)=((i/8:Nat):Int):=by
   rw[Zn (by omega),Za _ (by omega)];omega
  have e3:IntKind.u64.wrap (I6.wrap (7-(i:Int).tmod 8))=((7-i%8:Nat):Int):=by
   rw[Zq (by omega),Za _ (by omega),wrap_u64];omega
  refine⟨by omega,by omega,?_⟩
  refine⟨_,by rw[Zd];exact nv_getD hlt,?_⟩
  refine⟨[],_,_,_,_,c_r2_bit (b:=b) rfl rfl hl hm g1 g2,rfl,rfl,?_⟩
  refine spl_eq (fun h=> ?_) (fun h=> ?_)
  ·have htb:tb b (t.getD i 0-1)=true:=by
    cases he:tb b (t.getD i 0-1)
    ·rw[he]at h;exact absurd h (by decide)
    ·rfl
   refine⟨by decide,by decide,by rw[e2];omega,by rw[e2];omega,?_⟩
   refine⟨_,by rw[e2,Zd,Zg,Zj];exact bv_getD (by rw[permP_len];omega),?_⟩
   refine⟨by decide,by rw[e3];omega,by rw[e2];omega,by rw[e2];omega,by rw[e2,bv_len,permP_len];omega,?_⟩
   refine⟨i+1,by omega,by omega,[.k 0],⟨rfl,rfl,rfl,q7i (by simp(disch:=omega)only[Za];omega),trivial⟩,⟨_,rfl,q7s ?_⟩,trivial⟩
   have hs:=permP_step (t:=t) (b:=b) (i:=i) hlt (by omega)
   rw[htb]at hs
   rw[e2,e3,Zd,Zg,Zj,put_one _ (by omega),u8_or,bv_set,hs]
  ·have htb:tb b (t.getD i 0-1)=false:=by
    cases he:tb b (t.getD i 0-1)
    ·rfl
    ·rw[he]at h;exact absurd rfl h
   refine⟨i+1,by omega,by omega,[.k 0],⟨rfl,rfl,rfl,q7i (by simp(disch:=omega)only[Za];omega),trivial⟩,⟨_,rfl,q7s ?_⟩,trivial⟩
   rw[permP_skip htb]
 ·obtain rfl:i=t.length:=(by omega)
  refine⟨_,rfl,[.k 0],rfl,⟨_,rfl,q7s ?_⟩,trivial⟩
  rw[permP_end]
theorem c_by {va vt:List Value} {b:Bs} {t:List Nat} {l n:Nat} (ha:va=bv b) (hvt:vt=nv t) (hl:b.length=l) (ht:t.length=n) (hm:l≤1000000) (hn:n≤1000000) (h8:n%8=0) (hall:∀i,i<n→1≤t.getD i 0∧t.getD i 0≤8*l):Con C N.r2_By [.z l va,.z n vt] [] (.ret (.o 1 (.k 0) 0 (n/8))) [.sc (bv (permB t b))]:=by
 refine fd.r2_By.c ?_
 refine⟨[],_,_,_,_,c_r2_perm ha hvt hl ht hm hn h8 hall,rfl,rfl,?_⟩
 exact⟨_,rfl,[.d 10 0],rfl,⟨_,rfl,rfl⟩,trivial⟩
theorem c_r2_invert {vt:List Value} (hv:vt=nv tFirst):Con C N.r2_Invert [.z 64 vt] [] (.ret (.t [.o 1 (.k 0) 0 64,bool true])) [.sc (nv tFirstI)]:=by
 subst hv
 refine fd.r2_Invert.c ?_
 refine⟨by decide,by decide,by decide,?_⟩
 refine loopN (fun i=>⟨[(0,.z 64 (nv tFirst)),(4,.o 1 (.k 0) 0 64),(5,i64 i)],[.sc (nv (invN tFirst i))]⟩) 64 ⟨[.d 8 0],⟨rfl,rfl,rfl,trivial⟩,⟨_,rfl,q7s ?_⟩,trivial⟩ fun i hi=> ?_
 ·show Zp 64 _=_
  rw[nv_rep,invN,tFirst_len];rfl
 refine spl_d (fun h=> ?_) (fun h=> ?_)
 ·have hlt:i<64:=(by omega)
  obtain⟨g1,g2,g3⟩:=inv_ok i hlt
  have get:(nv tFirst)[((i:Int)).toNat*1]? =some (Value.int .i64 ((tFirst.getD i 0:Nat):Int)):=by rw[Zd,Zg];exact nv_getD (by rw[tFirst_len];omega)
  have get':(nv tFirst)[((i:Int)).toNat]? =some (Value.int .i64 ((tFirst.getD i 0:Nat):Int)):=by rw[Zd];exact nv_getD (by rw[tFirst_len];omega)
  refine⟨by omega,by omega,_,get',?_⟩
  refine spl_d (fun h=> ?_) (fun h=> ?_)
  ·omega
  refine⟨by omega,by omega,_,get',?_⟩
  refine spl_d (fun h=> ?_) (fun h=> ?_)
  ·omega
  have e1:I6.wrap (((tFirst.getD i 0:Nat):Int)-1)=((tFirst.getD i 0-1:Nat):Int):=by rw[Za _ (by omega)];omega
  refine⟨by omega,by omega,_,get',?_⟩
  refine⟨by rw[e1];omega,by rw[e1];omega,?_⟩
  refine⟨_,by rw[e1,Zd,Zg,Zj];exact nv_getD (by rw[invN_len,tFirst_len];omega),?_⟩
  refine spl_ne (fun h=> ?_) (fun h=> ?_)
  ·rw[g3]at h;exact absurd rfl h
  refine⟨by omega,by omega,_,get',?_⟩
  refine⟨by rw[e1];omega,by rw[e1];omega,by rw[e1,nv_len,invN_len,tFirst_len];omega,?_⟩
  have w1:I6.wrap ((i:Int)+1)=((i+1:Nat):Int):=by rw[Za _ (by omega)];omega
  refine⟨i+1,by omega,by omega,[.k 0],⟨rfl,rfl,q7i w1,trivial⟩,⟨_,rfl,q7s ?_⟩,trivial⟩
  rw[e1,w1,Zd,Zg,Zj,nv_set,invN_succ]
 ·obtain rfl:i=64:=(by omega)
  exact⟨_,rfl,[.k 0],rfl,⟨_,rfl,rfl⟩,trivial⟩
theorem take_getD (l:List Nat) (k:Nat) (h:k<l.length):l.take (k+1)=l.take k++[l.getD k 0]:=by
 rw[List.take_add_one,Zk h,Zc,Zk h];rfl
def fsR (i:Nat):Nat:=if 4≤i then 57+2*(i-4)else 58+2*i
theorem fsR_v:∀i,i<8→∀c,c<8→I6.wrap (((fsR i:Nat):Int)-I6.wrap (8*((c:Nat):Int)))=((tFirst.getD (8*i+c) 0:Nat):Int):=by decide +kernel
theorem fsR_a:∀i,i<8→4≤i→I6.wrap (57+I6.wrap (2*I6.wrap (((i:Nat):Int)-4)))=((fsR i:Nat):Int):=by decide +kernel
theorem fsR_b:∀i,i<8→¬4≤i→I6.wrap (58+I6.wrap (2*((i:Nat):Int)))=((fsR i:Nat):Int):=by decide +kernel
theorem c_r6_first:Con C N.r6_first [] [] (.ret (.o 1 (.k 0) 0 64)) [.sc (nv tFirst)]:=by
 refine fd.r6_first.c ?_
 refine loopNn (fun i=>⟨[(1,.o 1 (.k 0) 0 (8*i)),(2,i64 i)],[.sc (nv (tFirst.take (8*i)))]⟩) 8 [(1,1,.sc [])] ⟨[.d 900000 0],⟨rfl,rfl,trivial⟩,⟨_,rfl,rfl⟩,trivial⟩ fun i hi=> ?_
 refine spl_d (fun h=> ?_) (fun h=> ?_)
 ·have hlt:i<8:=(by omega)
  refine spl_d (fun h4=> ?_) (fun h4=> ?_)
  all_goals
   refine loopN (fun c=>⟨[(1,.o 1 (.k 0) 0 (8*i+c)),(2,i64 i),(3,i64 (fsR i:Nat)),(4,i64 c)],[.sc (nv (tFirst.take (8*i+c)))]⟩) 8 ⟨[.k 0],⟨rfl,rfl,?_,rfl,trivial⟩,⟨_,rfl,rfl⟩,trivial⟩ fun c hc=> ?_
   ·first
     |exact q7i (fsR_a i hlt (by omega))
     |exact q7i (fsR_b i hlt (by omega))
   refine spl_d (fun h=> ?_) (fun h=> ?_)
   ·have hc8:c<8:=(by omega)
    have hl:8*i+c<tFirst.length:=by rw[tFirst_len];omega
    refine⟨Zh _,by omega,by rw[nv_len,Zi];omega,?_⟩
    refine⟨c+1,by omega,by omega,[.d 28 0],⟨rfl,rfl,rfl,q7i (by simp(disch:=omega)only[Za];omega),trivial⟩,⟨_,rfl,q7s ?_⟩,trivial⟩
    rw[fsR_v i hlt c hc8,Zg]
    show sub (nv (tFirst.take (8*i+c))) 0 (8*i+c)++[Value.int .i64 ((tFirst.getD (8*i+c) 0:Nat):Int)]=_
    rw[nv_app1 (by rw[Zi];omega),←take_getD _ _ hl];rfl
   ·obtain rfl:c=8:=(by omega)
    refine⟨i+1,by omega,by omega,[.k 0],⟨rfl,q7i (by simp(disch:=omega)only[Za];omega),trivial⟩,⟨_,rfl,rfl⟩,trivial⟩
 ·obtain rfl:i=8:=(by omega)
  refine⟨_,rfl,[.k 0],rfl,⟨_,rfl,q7s ?_⟩,trivial⟩
  rw[Z9 (by rw[tFirst_len];decide)]
theorem c_r6_wider:Con C N.r6_wider [] [] (.ret (.o 1 (.k 0) 0 48)) [.sc (nv (wideN 48))]:=by
 refine fd.r6_wider.c ?_
 refine loopNn (fun i=>⟨[(1,.o 1 (.k 0) 0 i),(2,i64 i)],[.sc (nv (wideN i))]⟩) 48 [(1,1,.sc [])] ⟨[.d 900000 0],⟨rfl,rfl,trivial⟩,⟨_,rfl,rfl⟩,trivial⟩ fun i hi=> ?_
 refine spl_d (fun h=> ?_) (fun h=> ?_)
 ·have hlt:i<48:=(by omega)
  refine⟨by decide,by decide,by decide,?_⟩
  refine⟨Zh _,by omega,by rw[nv_len,wideN_len];omega,?_⟩
  refine⟨i+1,by omega,by omega,[.d 18 0],⟨rfl,q7i (by simp(disch:=omega)only[Za];omega),trivial⟩,⟨_,rfl,q7s ?_⟩,trivial⟩
  rw[wide_v i hlt,Zg]
  show sub (nv (wideN i)) 0 i++[Value.int .i64 (((4*(i/6)+i%6+31)%32+1:Nat):Int)]=_
  rw[nv_app1 (wideN_len _),wideN_succ]
 ·obtain rfl:i=48:=(by omega)
  exact⟨_,rfl,[.k 0],rfl,⟨_,rfl,rfl⟩,trivial⟩
theorem c_r6_mixed:Con C N.r6_mixed [] [] (.ret (.o 1 (.k 0) 0 32)) [.sc (nv tMixed)]:=
 fd.r6_mixed.c ⟨_,rfl,[.d 1 0],rfl,⟨_,rfl,rfl⟩,trivial⟩
theorem c_r6_last:Con C N.r6_last [] [] (.ret (.o 1 (.k 0) 0 48)) [.sc (nv tC1)]:=
 fd.r6_last.c ⟨_,rfl,[.d 1 0],rfl,⟨_,rfl,rfl⟩,trivial⟩
theorem iv_app1 {l:List Int} {n:Nat} {x:Int} (h:l.length=n):sub (iv l) 0 n++[Value.int .i64 x]=iv (l++[x]):=by
 rw[iv_all h];simp[iv]
theorem c_r6_chosen:Con C N.r6_chosen [] [] (.ret (.o 1 (.k 0) 0 56)) [.sc (nv tC0)]:=by
 have b1:∀k,k≤28→ -100≤dnX 57 8 57 k∧dnX 57 8 57 k≤100:=by decide +kernel
 have b2:∀k,k≤24→ -100≤dnX 63 8 55 k∧dnX 63 8 55 k≤100:=by decide +kernel
 refine fd.r6_chosen.c ?_
 refine loopNn (fun i=>⟨[(1,.o 1 (.k 0) 0 i),(2,i64 (dnX 57 8 57 i))],[.sc (iv (dnL 57 8 57 i))]⟩) 28 [(1,1,.sc [])] ⟨[.d 900000 0],⟨rfl,rfl,trivial⟩,⟨_,rfl,rfl⟩,trivial⟩ fun i hi=> ?_
 have q1:=b1 i hi
 have w1:I6.wrap (dnX 57 8 57 i-8)=dnX 57 8 57 i-8:=Za _ (by omega)
 refine spl_d (fun h=> ?_) (fun h=> ?_)
 ·have hlt:i<28:=(by omega)
  refine⟨Zh _,by omega,by rw[iv_len,dnL_len];omega,?_⟩
  have hz:(sub (iv (dnL 57 8 57 i)) 0 (i*1)++sub [Value.int .i64 (dnX 57 8 57 i)] 0 (1*1))=iv (dnL 57 8 57 (i+1)):=by
   rw[Zg,dnL_succ];exact iv_app1 (dnL_len _ _ _ _)
  refine spl_d (fun h1=> ?_) (fun h1=> ?_)
  ·rw[w1]at h1
   refine⟨i+1,by omega,by omega,[.d 9 0],⟨rfl,q7i ?_,trivial⟩,⟨_,rfl,q7s hz⟩,trivial⟩
   rw[w1,Za _ (by omega),dnX,if_pos h1];rfl
  ·rw[w1]at h1
   refine⟨i+1,by omega,by omega,[.d 9 0],⟨rfl,q7i ?_,trivial⟩,⟨_,rfl,q7s hz⟩,trivial⟩
   rw[w1,dnX,if_neg h1]
 ·obtain rfl:i=28:=(by omega)
  refine loopN (fun j=>⟨[(1,.o 1 (.k 0) 0 (28+j)),(2,i64 (dnX 63 8 55 j))],[.sc (iv (dnL 57 8 57 28++dnL 63 8 55 j))]⟩) 24 ⟨[.k 0],⟨rfl,rfl,trivial⟩,⟨_,rfl,rfl⟩,trivial⟩ fun j hj=> ?_
  have q2:=b2 j hj
  have w2:I6.wrap (dnX 63 8 55 j-8)=dnX 63 8 55 j-8:=Za _ (by omega)
  have hl:(dnL 57 8 57 28++dnL 63 8 55 j).length=28+j:=by rw[Zb,dnL_len,dnL_len]
  refine spl_d (fun h=> ?_) (fun h=> ?_)
  ·have hlt:j<24:=(by omega)
   refine⟨Zh _,by omega,by rw[iv_len,hl];omega,?_⟩
   have hz:(sub (iv (dnL 57 8 57 28++dnL 63 8 55 j)) 0 ((28+j)*1)++sub [Value.int .i64 (dnX 63 8 55 j)] 0 (1*1))=iv (dnL 57 8 57 28++dnL 63 8 55 (j+1)):=by
    rw[Zg,dnL_succ 63,←List.append_assoc];exact iv_app1 hl
   refine spl_d (fun h1=> ?_) (fun h1=> ?_)
   ·rw[w2]at h1
    refine⟨j+1,by omega,by omega,[.d 22 0],⟨rfl,q7i ?_,trivial⟩,⟨_,rfl,q7s hz⟩,trivial⟩
    rw[w2,Za _ (by omega),dnX,if_pos h1];rfl
   ·rw[w2]at h1
    refine⟨j+1,by omega,by omega,[.d 22 0],⟨rfl,q7i ?_,trivial⟩,⟨_,rfl,q7s hz⟩,trivial⟩
    rw[w2,dnX,if_neg h1]
  ·obtain rfl:j=24:=(by omega)
   refine⟨by decide,by decide,by rw[iv_len,hl];decide,?_⟩
   refine⟨_,rfl,[.d 31 0],rfl,⟨_,rfl,q7s ?_⟩,trivial⟩
   rw[←tC0_iv]
   show sub (iv (dnL 57 8 57 28++dnL 63 8 55 24)) 0 52++iv [28,20,12,4]=iv ch0
   rw[iv_all hl,iv_app]
   rfl
theorem c_r6_rows {s:Nat} (hs:s<8):Con C N.r6_rows [i64 s] [] (.ret (.o 1 (.k 0) 0 4)) [.sc [strL (dRow s 0),strL (dRow s 1),strL (dRow s 2),strL (dRow s 3)]]:=by
 rcases s with _|_|_|_|_|_|_|_|s
 ·exact fd.r6_rows.c ⟨_,rfl,[.d 6 0],rfl,⟨_,rfl,rfl⟩,trivial⟩
 ·exact fd.r6_rows.c ⟨_,rfl,[.d 9 0],rfl,⟨_,rfl,rfl⟩,trivial⟩
 ·exact fd.r6_rows.c ⟨_,rfl,[.d 12 0],rfl,⟨_,rfl,rfl⟩,trivial⟩
 ·exact fd.r6_rows.c ⟨_,rfl,[.d 15 0],rfl,⟨_,rfl,rfl⟩,trivial⟩
 ·exact fd.r6_rows.c ⟨_,rfl,[.d 18 0],rfl,⟨_,rfl,rfl⟩,trivial⟩
 ·exact fd.r6_rows.c ⟨_,rfl,[.d 21 0],rfl,⟨_,rfl,rfl⟩,trivial⟩
 ·exact fd.r6_rows.c ⟨_,rfl,[.d 24 0],rfl,⟨_,rfl,rfl⟩,trivial⟩
 ·exact fd.r6_rows.c ⟨_,rfl,[.d 25 0],rfl,⟨_,rfl,rfl⟩,trivial⟩
 ·omega
theorem sd_get {s r:Nat} (hr:r<4):([strL (dRow s 0),strL (dRow s 1),strL (dRow s 2),strL (dRow s 3)]:List Value)[r]? =some (strL (dRow s r)):=by
 rcases r with _|_|_|_|r
 all_goals first|rfl|omega
def dSix (x:Bs) (s:Nat):Nat→Nat
 |0=>0
 |k+1=>2*dSix x s k+(tb x (6*s+k)).toNat
theorem dSix_lt (x s):∀k,dSix x s k<2^k
 |0=>by show 0<1;omega
 |k+1=>by
  have:=toNat_lt2 (tb x (6*s+k));have:=dSix_lt x s k
  unfold dSix;rw[Nat.pow_succ];omega
theorem dSix_rc (x s):dSix x s 6/32*2+dSix x s 6%2=dRowN x s∧dSix x s 6/2%16=dColN x s 4:=by
 have h0:=toNat_lt2 (tb x (6*s+0));have h1:=toNat_lt2 (tb x (6*s+1));have h2:=toNat_lt2 (tb x (6*s+1+1));have h3:=toNat_lt2 (tb x (6*s+1+2));have h4:=toNat_lt2 (tb x (6*s+1+3));have h5:=toNat_lt2 (tb x (6*s+5))
 have e6:dSix x s 6=2*(2*(2*(2*(2*(2*0+(tb x (6*s+0)).toNat)+(tb x (6*s+1)).toNat)+(tb x (6*s+1+1)).toNat)+(tb x (6*s+1+2)).toNat)+(tb x (6*s+1+3)).toNat)+(tb x (6*s+5)).toNat:=rfl
 have e4:dColN x s 4=2*(2*(2*(2*0+(tb x (6*s+1+0)).toNat)+(tb x (6*s+1+1)).toNat)+(tb x (6*s+1+2)).toNat)+(tb x (6*s+1+3)).toNat:=rfl
 have er:dRowN x s=2*(tb x (6*s)).toNat+(tb x (6*s+5)).toNat:=rfl
 rw[Ju]at h0 e4 e6
 omega
theorem put_dig6:∀d,d<16→∀j,j≤1→U8.wrap (I6.wrap (((d:Nat):Int)*2^(min ((4*j:Nat):Int).toNat I6.bits)))=(((Zs (d*16^j)).toNat:Nat):Int):=by decide +kernel
theorem six_v:∀v,v<64→I6.wrap (I6.wrap (I6.wrap (((v:Nat):Int).tdiv 32)*2)+((v:Nat):Int).tmod 2)=((v/32*2+v%2:Nat):Int)∧(I6.wrap (((v:Nat):Int).tdiv 2)).tmod 16=((v/2%16:Nat):Int):=by decide +kernel
theorem c_r6_F {va vk:List Value} {r k:Bs} (ha:va=bv r) (hk:vk=bv k) (hr:r.length=4) (hkl:k.length=6):Con C N.r6_F [.z 4 va,.z 6 vk] [] (.ret (.t [.o 1 (.k 0) 0 4,bool true])) [.sc (bv (dF r k))]:=by
 have hp:(permB (wideN 48) r).length=6:=by rw[permB_len,wideN_len]
 have hx:(xorL (permB (wideN 48) r) k).length=6:=xorL_len hp hkl
 generalize hxe:xorL (permB (wideN 48) r) k=x at hx
 refine fd.r6_F.c ?_
 refine⟨[],_,_,_,_,c_r6_wider,rfl,rfl,?_⟩
 refine⟨[],_,_,_,_,c_by (b:=r) (t:=wideN 48) (n:=48) ha (nv_all (wideN_len _)) hr (wideN_len _) (by decide) (by decide) (by decide) (by decide +kernel),rfl,rfl,?_⟩
 refine⟨[],_,_,_,_,c_both (a:=permB (wideN 48) r) (b:=k) (bv_all hp) hk hp hkl (by decide),rfl,rfl,?_⟩
 rw[hxe]
 refine⟨by decide,by decide,by decide,?_⟩
 refine loopN (fun i=>⟨[(6,.z 6 (bv x)),(7,.o 1 (.k 0) 0 4),(8,i64 i)],[.sc (bv (dOut x i))]⟩) 8 ⟨[.d 25 0],⟨?_,rfl,rfl,trivial⟩,⟨_,rfl,q7s ?_⟩,trivial⟩ fun i hi=> ?_
 ·show V.z 6 (sub (bv x) 0 6)=_
  rw[bv_all hx]
 ·rfl
 refine spl_d (fun h=> ?_) (fun h=> ?_)
 ·have hlt:i<8:=(by omega)
  refine loopN (fun k=>⟨[(6,.z 6 (bv x)),(7,.o 1 (.k 0) 0 4),(8,i64 i),(9,i64 (dSix x i k:Nat)),(10,i64 (k+1:Nat))],[.sc (bv (dOut x i))]⟩) 6 ⟨[.k 0],⟨rfl,rfl,rfl,rfl,rfl,trivial⟩,⟨_,rfl,rfl⟩,trivial⟩ fun k hk=> ?_
  refine spl_d (fun h=> ?_) (fun h=> ?_)
  ·have hk6:k<6:=(by omega)
   have p3:I6.wrap (I6.wrap (6*(i:Int))+((k+1:Nat):Int))=((6*i+k+1:Nat):Int):=by
    rw[Za (6*(i:Int)) (by omega),Za _ (by omega)];omega
   refine⟨[],_,_,_,_,c_r2_bit (n:=6*i+k+1) (b:=x) p3 rfl hx (by decide) (by omega) (by omega),rfl,rfl,?_⟩
   have hb:=toNat_lt2 (tb x (6*i+k+1-1))
   have hc:=dSix_lt x i k
   have hc2:2^k≤2^5:=Z3 (by decide) (by omega)
   refine⟨k+1,by omega,by omega,[.k 0],⟨rfl,rfl,rfl,q7i ?_,q7i (by simp(disch:=omega)only[Za];omega),trivial⟩,⟨_,rfl,rfl⟩,trivial⟩
   rw[Za (2*((dSix x i k:Nat):Int)) (by omega),Za _ (by omega)]
   show _=((2*dSix x i k+(tb x (6*i+k+1-1)).toNat:Nat):Int)
   omega
  ·obtain rfl:k=6:=(by omega)
   obtain⟨v1,v2⟩:=six_v _ (dSix_lt x i 6)
   obtain⟨r1,r2⟩:=dSix_rc x i
   rw[r1]at v1
   rw[r2]at v2
   have e2:I6.wrap ((i:Int).tdiv 2)=((i/2:Nat):Int):=by
    rw[Zn (by omega),Za _ (by omega)];omega
   have e3:IntKind.u64.wrap (I6.wrap (4-I6.wrap (4*(i:Int).tmod 2)))=((4*(1-i%2):Nat):Int):=by
    rw[Zq (by omega),Za (4*((i:Int)%2)) (by omega),Za _ (by omega),wrap_u64];omega
   have hcl:=dColN_lt x i 4
   obtain⟨o1,o2⟩:=dRow_ok i hlt _ (dRowN_lt x i)
   refine⟨[],_,_,_,_,c_r6_rows hlt,rfl,rfl,?_⟩
   refine⟨by decide,by decide,by rw[v1];omega,by rw[v1];have:=dRowN_lt x i;omega,?_⟩
   refine⟨_,by rw[v1,Zd,Zg,Zj];exact sd_get (dRowN_lt x i),?_⟩
   refine⟨by decide,by decide,?_⟩
   refine⟨[],_,_,_,_,c_At (l:=dRow i (dRowN x i)) (j:=dColN x i 4) rfl v2 (by rw[o1];exact hcl) (o2 _ hcl),rfl,rfl,?_⟩
   refine⟨by decide,by decide,by rw[e2];omega,by rw[e2];omega,?_⟩
   refine⟨_,by rw[e2,Zd,Zg,Zj];exact bv_getD (by rw[dOut_len];omega),?_⟩
   refine⟨by decide,by rw[e3];omega,by rw[e2];omega,by rw[e2];omega,by rw[e2,bv_len,dOut_len];omega,?_⟩
   refine⟨i+1,by omega,by omega,[.k 0],⟨rfl,rfl,q7i (by simp(disch:=omega)only[Za];omega),trivial⟩,⟨_,rfl,q7s ?_⟩,trivial⟩
   rw[e2,e3,Zd,Zg,Zj]
   show(bv (dOut x i)).set (i/2) (.int .u8 (U8.wrap ((Jl U8.bits (((dOut x i).getD (i/2) 0).toNat:Int)|||Jl U8.bits (U8.wrap (I6.wrap (((dS x i:Nat):Int)*2^(min ((4*(1-i%2):Nat):Int).toNat I6.bits))))).toNat:Int)))=bv (dOut x (i+1))
   rw[put_dig6 _ (dS_lt hlt) _ (by omega),u8_or,bv_set,dOut_step hlt]
 ·obtain rfl:i=8:=(by omega)
  refine⟨[],_,_,_,_,c_r6_mixed,rfl,rfl,?_⟩
  have hm:tMixed.length=32:=rfl
  have h8:=dOut_len x 8
  refine⟨[],_,_,_,_,c_by (b:=dOut x 8) (t:=tMixed) (n:=32) (bv_all h8) (nv_all hm) h8 hm (by decide) (by decide) (by decide) (by decide +kernel),rfl,rfl,?_⟩
  refine⟨_,rfl,[.d 77 0],rfl,⟨_,rfl,q7s ?_⟩,trivial⟩
  rw[dF,hxe]
theorem pack_congr {n:Nat} {f g:Nat→Bool} (h:∀j,j<8*n→f j=g j):pack n f=pack n g:=by
 apply tb_ext (by rw[pack_len,pack_len])
 intro j hj
 rw[pack_len]at hj
 rw[tb_pack hj,tb_pack hj,h j hj]
theorem permB_permB {t u:List Nat} {b:Bs} (h8:t.length%8=0) (hu:∀j,j<u.length→1≤u.getD j 0∧u.getD j 0≤t.length):permB u (permB t b)=permB (u.map fun k=>t.getD (k-1) 0) b:=by
 unfold permB
 rw[Jm]
 apply pack_congr
 intro j hj
 have hj':j<u.length:=by omega
 obtain⟨h1,h2⟩:=hu j hj'
 rw[tb_pack (by omega)]
 congr 2
 simp[Zc,hj']
def byS:Nat→Nat
 |0=>0
 |i+1=>byS i+byD i
def trn (i n:Nat):List Nat:=(List.range n).map fun j=>tC0.getD (28*(j/28)+(j%28+byS (i+1))%28) 0
theorem trn_succ (i n):trn i (n+1)=trn i n++[tC0.getD (28*(n/28)+(n%28+byS (i+1))%28) 0]:=by simp[trn,Zo]
theorem trn_len (i n):(trn i n).length=n:=by simp[trn]
theorem trn_tab:∀i,i<16→trn i 56=dTab (i+1):=by decide +kernel
theorem byS_le:∀i,i<17→byS i≤28:=by decide +kernel
theorem dTab_ok:∀i,i<17→∀j,j<56→1≤(dTab i).getD j 0∧(dTab i).getD j 0≤8*8:=by decide +kernel
theorem dKey_two {key:Bs} {i:Nat} (hi:i<16):permB tC1 (permB (dTab (i+1)) key)=dKey key i:=by
 have hl:=dTab_len (i+1) (by omega)
 rw[permB_permB (by rw[hl]) (by rw[tC1_len,hl];exact tC1_ok),dKey]
 congr 1
theorem c_r6_keys {va:List Value} {key:Bs} (ha:va=bv key) (hk:key.length=8):Con C N.r6_Keys [.z 8 va] [] (.ret (.t [.zz 1 16 (kV (dKs key 16)),i64 0])) []:=by
 subst ha
 have hl0:tC0.length=56:=by decide +kernel
 refine fd.r6_Keys.c ?_
 refine⟨[],_,_,_,_,c_r6_chosen,rfl,rfl,?_⟩
 refine loopNn (fun i=>⟨[(0,.z 8 (bv key)),(4,.z 56 (nv tC0)),(5,i64 (byS i:Nat)),(6,.o 1 (.k 0) 0 i),(7,i64 (i+1:Nat))],[.mx (kV (dKs key i))]⟩) 16 [(6,1,.mx [])] ⟨[.d 900000 0],⟨rfl,?_,rfl,rfl,rfl,trivial⟩,⟨_,rfl,rfl⟩,trivial⟩ fun i hi=> ?_
 ·show V.z 56 (sub (nv tC0) 0 56)=_
  rw[nv_all hl0]
 refine spl_d (fun h=> ?_) (fun h=> ?_)
 ·have hlt:i<16:=(by omega)
  have hb:=byS_le i (by omega)
  have hb1:=byS_le (i+1) (by omega)
  have one:∀k:Nat,(((i+1:Nat):Int)=(k:Int))→i+1=k:=fun k h=>by omega
  refine spl_eq (fun h1=> ?_) (fun h1=>spl_eq (fun h2=> ?_) (fun h2=>spl_eq (fun h3=> ?_) (fun h3=>spl_eq (fun h4=> ?_) (fun h4=> ?_))))
  all_goals
   first
    |have hs:byS (i+1)=byS i+1:=by rw[byS,byD,if_pos (by omega)]
    |have hs:byS (i+1)=byS i+2:=by rw[byS,byD,if_neg (by omega)]
   refine loopNn (fun j=>⟨[(0,.z 8 (bv key)),(4,.z 56 (nv tC0)),(5,i64 (byS (i+1):Nat)),(6,.o 1 (.k 0) 0 i),(7,i64 (i+1:Nat)),(8,.o 1 (.k 1) 0 j),(9,i64 j)],[.mx (kV (dKs key i)),.sc (nv (trn i j))]⟩) 56 [(8,1,.sc [])] ⟨[.k 0,.d 900000 0],⟨rfl,rfl,q7i ?_,rfl,rfl,rfl,rfl,trivial⟩,⟨_,rfl,?_⟩,⟨_,rfl,rfl⟩,trivial⟩ fun j hj=> ?_
   ·first
     |(rw [Za (((byS i:Nat):Int)+2) (by omega),Za _ (by omega)];omega)
     |(rw [Za _ (by omega)];omega)
   ·show B.mx ((kV _).map _)=_
    rw[kV_lend]
   refine spl_d (fun h=> ?_) (fun h=> ?_)
   ·have hj':j<56:=(by omega)
    have e0:I6.wrap (I6.wrap ((j:Int).tdiv 28)*28)=((28*(j/28):Nat):Int):=by
     rw[Zn (by omega),Za ((j:Int)/28) (by omega),Za _ (by omega)];omega
    have e1:I6.wrap (I6.wrap (I6.wrap ((j:Int).tdiv 28)*28)+(I6.wrap (I6.wrap ((j:Int)-I6.wrap (I6.wrap ((j:Int).tdiv 28)*28))+((byS (i+1):Nat):Int))).tmod 28)=((28*(j/28)+(j%28+byS (i+1))%28:Nat):Int):=by
     rw[e0,Za ((j:Int)-((28*(j/28):Nat):Int)) (by omega),Za (((j:Int)-((28*(j/28):Nat):Int))+_) (by omega),Zq (by omega),Za _ (by omega)];omega
    refine⟨by decide,by decide,by rw[e1];omega,by rw[e1];omega,?_⟩
    refine⟨_,by rw[e1,Zd];exact nv_getD (by rw[hl0];omega),?_⟩
    refine⟨Zh _,by omega,by rw[nv_len,trn_len];omega,?_⟩
    refine⟨j+1,by omega,by omega,[.k 0,.d 57 0],⟨rfl,rfl,rfl,rfl,rfl,rfl,q7i (by simp(disch:=omega)only[Za];omega),trivial⟩,⟨_,rfl,?_⟩,⟨_,rfl,q7s ?_⟩,trivial⟩
    ·show B.mx ((kV _).map _)=_
     rw[kV_lend]
    ·rw[trn_succ,Zg]
     exact nv_app1 (trn_len _ _)
   ·obtain rfl:j=56:=(by omega)
    refine⟨[],_,_,_,_,c_by (b:=key) (t:=dTab (i+1)) (n:=56) rfl (by rw[trn_tab i hlt];exact nv_all (dTab_len _ (by omega))) hk (dTab_len _ (by omega)) (by decide) (by decide) (by decide) (dTab_ok _ (by omega)),rfl,rfl,?_⟩
    refine⟨[],_,_,_,_,c_r6_last,rfl,rfl,?_⟩
    have h7:(permB (dTab (i+1)) key).length=7:=by rw[permB_len,dTab_len _ (by omega)]
    refine⟨[],_,_,_,_,c_by (b:=permB (dTab (i+1)) key) (t:=tC1) (n:=48) (bv_all h7) (nv_all tC1_len) h7 tC1_len (by decide) (by decide) (by decide) tC1_ok,rfl,rfl,?_⟩
    rw[dKey_two hlt]
    have hz:V.z 6 (sub (bv (dKey key i)) 0 6)= .z 6 (bv (dKey key i)):=by rw[bv_all (dKey_len _ _)]
    refine⟨by decide,by omega,by rw[kV_len,dKs_len];omega,?_⟩
    refine⟨i+1,by omega,by omega,[.d 65 0],⟨rfl,rfl,rfl,rfl,q7i (by simp(disch:=omega)only[Za];omega),trivial⟩,⟨_,rfl,?_⟩,trivial⟩
    show B.mx (Jv (lend _ _ 6) (sub (kV (dKs key i)) 0 (i*1)++[V.o 1 _ _ _]))= .mx (kV (dKs key (i+1)))
    rw[Zg,sub_all (by rw[kV_len,dKs_len]),Zv,kV_lend,dKs_succ key i,show kV (dKs key i++[dKey key i])=kV (dKs key i)++[V.z 6 (bv (dKey key i))] from Zv]
    exact congrArg (fun z=>B.mx (kV (dKs key i)++[z])) hz
 ·obtain rfl:i=16:=(by omega)
  refine⟨_,rfl,[],?_,trivial⟩
  exact congrArg (fun z=>V.t [V.zz 1 16 z,i64 0]) ((congrArg (Jv _) (sub_all (by rw[kV_len,dKs_len]))).trans (kV_snap _ _ _ 2))
theorem rev_getD {ks:List (Bs)} {i:Nat} (hi:i<ks.length):ks.reverse.getD i []=ks.getD (ks.length-1-i) []:=by
 rw[Zc,Jo hi,Zc]
theorem c_r6_one {va:List Value} {xs:List V} {b:Bs} {ks:List (Bs)} {back:Bool} (ha:va=bv b) (hx:xs=kV ks) (hb:b.length=8) (hn:ks.length=16) (hk:okKs ks):
  Con C N.r6_one [.zz 1 16 xs,.z 8 va,bool back] [] (.ret (.o 1 (.k 0) 0 8)) [.sc (bv (dOnce (if back then ks.reverse else ks) b))]:=by
 subst ha;subst hx
 generalize hq:(if back then ks.reverse else ks)=q
 have hqn:q.length=16:=by subst hq;split<;>simp[hn]
 have hqk:okKs q:=by subst hq;split;exact okKs_rev hk;exact hk
 have hl:=dN_len (ks:=q) (dIn_len b).1 (dIn_len b).2
 refine fd.r6_one.c ?_
 refine⟨[],_,_,_,_,c_r6_first,rfl,rfl,?_⟩
 refine⟨[],_,_,_,_,c_by (b:=b) (t:=tFirst) (n:=64) rfl (nv_all tFirst_len) hb tFirst_len (by decide) (by decide) (by decide) tFirst_ok,rfl,rfl,?_⟩
 refine⟨by decide,by decide,by decide,by decide,?_⟩
 refine⟨by decide,by decide,by decide,by decide,?_⟩
 refine loopN (fun i=>⟨[(0,.zz 1 16 (kV ks)),(2,bool back),(8,.z 4 (bv (dN q (dIn b) i).1)),(9,.z 4 (bv (dN q (dIn b) i).2)),(10,i64 i)],[]⟩) 16 ⟨[],⟨rfl,rfl,?_,?_,rfl,trivial⟩,trivial⟩ fun i hi=> ?_
 ·exact congrArg (V.z 4) (bv_sub _ _ _)
 ·exact congrArg (V.z 4) (bv_sub _ _ _)
 refine spl_d (fun h=> ?_) (fun h=> ?_)
 ·have hlt:i<16:=(by omega)
  have w15:I6.wrap (15-(i:Int))=((15-i:Nat):Int):=by rw[Za _ (by omega)];omega
  have get:(kV ks)[(((if back then 15-i else i:Nat):Int)).toNat*1]? =some (.z 6 (bv (q.getD i []))):=by
   rw[Zd,Zg]
   have:(if back then 15-i else i)<ks.length:=by split<;>omega
   rw[kV_at (getD_some (d:=[]) this)]
   subst hq
   cases back
   ·rfl
   ·rw[if_pos rfl,if_pos rfl,rev_getD (by omega),hn]
  have fin:bv (xorL (dN q (dIn b) i).1 (dF (dN q (dIn b) i).2 (q.getD i [])))=bv (dN q (dIn b) (i+1)).2:=by rw[dN_succ];rfl
  have fin1:(dN q (dIn b) i).2=(dN q (dIn b) (i+1)).1:=by rw[dN_succ];rfl
  cases back
  all_goals
   first
    |refine⟨by omega,by omega,_,get,?_⟩
    |(refine ⟨by rw[w15];omega,by rw[w15];omega,_,by rw[w15];exact get,?_⟩)
   refine⟨[],_,_,_,_,c_r6_F (r:=(dN q (dIn b) i).2) (k:=q.getD i []) rfl rfl (hl i).2 (hqk i (by omega)),rfl,rfl,?_⟩
   refine⟨[],_,_,_,_,c_both (a:=(dN q (dIn b) i).1) (b:=dF (dN q (dIn b) i).2 (q.getD i [])) rfl (bv_all (dF_len _ _)) (hl i).1 (dF_len _ _) (by decide),rfl,rfl,?_⟩
   refine⟨i+1,by omega,by omega,[],⟨rfl,rfl,congrArg (fun z=>V.z 4 (bv z)) fin1,?_,q7i (by simp(disch:=omega)only[Za];omega),trivial⟩,trivial⟩
   show V.z 4 (sub (bv _) 0 4)=_
   rw[bv_all (xorL_len (hl i).1 (dF_len _ _)),fin]
 ·obtain rfl:i=16:=(by omega)
  refine⟨[],_,_,_,_,c_r6_first,rfl,rfl,?_⟩
  refine⟨[],_,_,_,_,c_r2_invert (nv_all tFirst_len),rfl,rfl,?_⟩
  refine⟨by rw[bv_len,(hl 16).2],by decide,by decide,?_⟩
  refine⟨by rw[bv_len,(hl 16).1],by decide,by rw[Zb,bv_len,(hl 16).2];decide,?_⟩
  have h8:((dN q (dIn b) 16).2++(dN q (dIn b) 16).1).length=8:=by rw[Zb,(hl 16).1,(hl 16).2]
  refine⟨[],_,_,_,_,c_by (b:=(dN q (dIn b) 16).2++(dN q (dIn b) 16).1) (t:=tFirstI) (l:=8) (n:=64) ?_ (nv_all tFirstI_len) h8 tFirstI_len (by decide) (by decide) (by decide) tFirstI_ok,rfl,rfl,?_⟩
  ·show sub (sub ([]++bv (dN q (dIn b) 16).2) 0 4++bv (dN q (dIn b) 16).1) 0 8=_
   rw[Jf,bv_all (hl 16).2,bv_app,bv_all h8]
  refine⟨_,rfl,[.d 55 0],rfl,⟨_,rfl,q7s ?_⟩,trivial⟩
  rw[dOnce,hqn]
def dE (ks:List (List (Bs))) (back:Bool) (b:Bs) (i:Nat):D:=match i with
 |0=>⟨[(0,desV ks),(1,.z 8 (bv b)),(2,bool back),(8,i64 0)],[]⟩
 |i+1=>⟨[(0,desV ks),(1,.o 1 (.k 0) 0 8),(2,bool back),(8,i64 (i+1:Nat))],[.sc (bv (dBN ks back b (i+1)))]⟩
theorem c_r6_blk {va:List Value} {b:Bs} {ks:List (List (Bs))} {back:Bool} (ha:va=bv b) (hb:b.length=8) (hk:okKK ks) (h0:0<ks.length):
  Con C N.r6_Des_Block [desV ks,.z 8 va,bool back] [] (okBlk 8) [.sc (bv (dBN ks back b ks.length))]:=by
 subst ha
 have hlen:=dBN_len (ks:=ks) (back:=back) hb
 obtain⟨h3,hk⟩:=hk
 refine fd.r6_Des_Block.c ?_
 refine loopN (dE ks back b) ks.length ⟨[],⟨rfl,rfl,rfl,rfl,trivial⟩,trivial⟩ fun i hi=> ?_
 have e1:I6.wrap (I6.wrap ((ks.length:Int)-1)-(i:Int))=((ks.length-1-i:Nat):Int)∨ks.length≤i:=by
  by_cases h:i<ks.length
  ·left;rw[Za ((ks.length:Int)-1) (by omega),Za _ (by omega)];omega
  ·right;omega
 rcases i with _|i
 ·refine⟨_,rfl,?_⟩
  refine spl_d (fun h=> ?_) (fun h=>absurd h (by omega))
  have e1:I6.wrap (I6.wrap ((ks.length:Int)-1)-0)=((ks.length-1-0:Nat):Int):=e1.resolve_right (by omega)
  cases back
  ·obtain⟨k1,k2⟩:=hk 0 h0
   refine⟨_,rfl,by omega,by omega,_,kkV_at (getD_some (d:=[]) h0),?_⟩
   refine⟨[],_,_,_,_,c_r6_one (b:=b) (ks:=ks.getD 0 []) rfl rfl hb k1 k2,rfl,rfl,?_⟩
   refine⟨1,by omega,by omega,[.d 44 0],⟨rfl,rfl,rfl,rfl,trivial⟩,⟨_,rfl,q7s ?_⟩,trivial⟩
   rfl
  ·obtain⟨k1,k2⟩:=hk (ks.length-1-0) (by omega)
   refine⟨_,rfl,_,rfl,by rw[e1];omega,by rw[e1];omega,_,by rw[e1,Zd,Zg];exact kkV_at (getD_some (d:=[]) (by omega)),?_⟩
   refine⟨[],_,_,_,_,c_r6_one (b:=b) (ks:=ks.getD (ks.length-1-0) []) rfl rfl hb k1 k2,rfl,rfl,?_⟩
   refine⟨1,by omega,by omega,[.d 44 0],⟨rfl,rfl,rfl,rfl,trivial⟩,⟨_,rfl,q7s ?_⟩,trivial⟩
   rfl
 refine⟨_,rfl,?_⟩
 refine spl_d (fun h=> ?_) (fun h=> ?_)
 ·have hlt:i+1<ks.length:=(by omega)
  have e1:=e1.resolve_right (by omega)
  have w1:I6.wrap (((i+1:Nat):Int)+1)=((i+1+1:Nat):Int):=by rw[Za _ (by omega)];omega
  have one:(((i+1:Nat):Int)==1)=decide (i+1=1):=by
   by_cases h:i+1=1
   ·rw[h];rfl
   ·rw[decide_eq_false h];exact beq_false_of_ne (by omega)
  cases back
  ·obtain⟨k1,k2⟩:=hk (i+1) hlt
   refine⟨_,rfl,by omega,by omega,_,by rw[Zd,Zg];exact kkV_at (getD_some (d:=[]) hlt),?_⟩
   refine⟨[],_,_,_,_,c_r6_one (b:=dBN ks false b (i+1)) (ks:=ks.getD (i+1) []) (bv_all (hlen _)) rfl (hlen _) k1 k2,rfl,rfl,?_⟩
   refine⟨i+1+1,by omega,by omega,[.d 44 0],⟨rfl,rfl,rfl,q7i w1,trivial⟩,⟨_,rfl,q7s ?_⟩,trivial⟩
   rw[one,dBN_succ _ _ _ (i+1)];rfl
  ·obtain⟨k1,k2⟩:=hk (ks.length-1-(i+1)) (by omega)
   refine⟨_,rfl,_,rfl,by rw[e1];omega,by rw[e1];omega,_,by rw[e1,Zd,Zg];exact kkV_at (getD_some (d:=[]) (by omega)),?_⟩
   refine⟨[],_,_,_,_,c_r6_one (b:=dBN ks true b (i+1)) (ks:=ks.getD (ks.length-1-(i+1)) []) (bv_all (hlen _)) rfl (hlen _) k1 k2,rfl,rfl,?_⟩
   refine⟨i+1+1,by omega,by omega,[.d 44 0],⟨rfl,rfl,rfl,q7i w1,trivial⟩,⟨_,rfl,q7s ?_⟩,trivial⟩
   rw[one,dBN_succ _ _ _ (i+1)];rfl
 ·have he:i+1=ks.length:=(by omega)
  refine⟨_,rfl,[.k 0],rfl,⟨_,rfl,q7s ?_⟩,trivial⟩
  rw[he]
theorem c_r6_bad {va:List Value} {ks:List (List (Bs))} {n:Nat} {back:Bool} (hn:n≠8):Con C N.r6_Des_Block [desV ks,.z n va,bool back] [] badBlk []:=by
 refine fd.r6_Des_Block.c ?_
 refine spl_ne (fun h=> ?_) (fun h=> ?_)
 ·exact⟨_,rfl,[],rfl,trivial⟩
 ·omega
def dNE (key:Bs) (m:Nat) (i:Nat):D:=match i with
 |0=>⟨[(0,.z m (bv key)),(4,.p (.k 0) 0),(5,i64 0)],[.mx [nilv]]⟩
 |i+1=>⟨[(0,.z m (bv key)),(4,.p (.k 0) 0),(5,i64 (8*(i+1):Nat))],[.mx [.o 1 (.k 1) 0 (i+1)],.pl (kkV (dAllN key (i+1)))]⟩
theorem c_r6_new {va:List Value} {key:Bs} {m n:Nat} (ha:va=bv key) (hk:key.length=m) (hm:m=8*n) (hn:1≤n∧n≤3):Con C N.r6_New [.z m va] [] (.ret (.t [desV (dAll key n),i64 0])) []:=by
 subst ha
 refine fd.r6_New.c ?_
 refine spl_ne (fun h1=>spl_ne (fun h2=>spl_ne (fun h3=>absurd h3 (by omega)) (fun h3=> ?_)) (fun h2=> ?_)) (fun h1=> ?_)
 all_goals
  refine loopN (dNE key m) n ⟨[.d 22 0],⟨rfl,rfl,rfl,trivial⟩,⟨_,rfl,rfl⟩,trivial⟩ fun i hi=> ?_
  rcases i with _|i
  ·refine spl_d (fun h=> ?_) (fun h=>absurd h (by omega))
   refine⟨by decide,by decide,by decide,by decide,by show 8≤m;omega,?_⟩
   refine⟨[],_,_,_,_,c_r6_keys (key:=sub key (8*0) 8) (bv_sub _ _ _) (by rw[sub_length];omega),rfl,rfl,?_⟩
   refine⟨_,rfl,Zh _,by decide,by decide,?_⟩
   refine⟨1,by omega,by omega,[.k 0,.d 45 0],⟨rfl,rfl,rfl,trivial⟩,⟨_,rfl,?_⟩,⟨_,rfl,?_⟩,trivial⟩
   ·rfl
   ·exact congrArg B.pl rfl
  refine spl_d (fun h=> ?_) (fun h=> ?_)
  ·have hlt:i+1<n:=(by omega)
   have e4:I6.wrap (((8*(i+1):Nat):Int)+8)=((8*(i+1)+8:Nat):Int):=by
    rw[Za _ (by omega)];omega
   refine⟨by rw[e4];omega,by omega,by rw[e4];omega,Zh _,by rw[e4];omega,?_⟩
   refine⟨[],_,_,_,_,c_r6_keys (key:=sub key (8*(i+1)) 8) (va:=sub (bv key) (8*(i+1)) 8) (bv_sub _ _ _) (by rw[sub_length];omega),?_,rfl,?_⟩
   ·rw[e4]
    show[V.z (8*(i+1)+8-8*(i+1)) (sub (bv key) (8*(i+1)) (8*(i+1)+8-8*(i+1)))]=_
    rw[Jh]
   refine⟨_,rfl,Zh _,by omega,by rw[kkV_len,dAllN_len];omega,by show 0+0+1≤1;decide,?_⟩
   refine⟨i+1+1,by omega,by omega,[.k 0,.d 45 0],⟨rfl,rfl,q7i ?_,trivial⟩,⟨_,rfl,rfl⟩,⟨_,rfl,congrArg B.pl ?_⟩,trivial⟩
   ·rw[e4];omega
   rw[Zg,sub_all (by rw[kkV_len,dAllN_len]),dAllN_succ key (i+1)]
   exact(Zv (f:=fun k=>V.zz 1 16 (kV k)) (l₁:=dAllN key (i+1)) (l₂:=[dKs (sub key (8*(i+1)) 8) 16])).symm
  ·have hin:i+1=n:=(by omega)
   refine spl_eq (fun h=> ?_) (fun h=> ?_)
   ·obtain rfl:i=1:=(by omega)
    subst hin
    have hl:=dAll_len (key:=key) hn
    refine⟨_,rfl,_,rfl,by decide,by decide,_,rfl,Zh _,by decide,by rw[kkV_len,dAllN_len];decide,by show 0+0+1≤1;decide,?_⟩
    refine⟨_,rfl,[],?_,trivial⟩
    show V.t [V.q [V.zz 1 3 (sub (sub (kkV (dAllN key 2)) 0 2++kkV [dKs (sub key 0 8) 16]) 0 3)] 0,i64 0]=V.t [V.q [V.zz 1 (dAll key 2).length (kkV (dAll key 2))] 0,i64 0]
    have e:sub (sub (kkV (dAllN key 2)) 0 2++kkV [dKs (sub key 0 8) 16]) 0 3=kkV (dAll key 2):=by
     rw[sub_all (l:=kkV (dAllN key 2)) (by rw[kkV_len,dAllN_len]),dAll,if_pos rfl,sub_all (by rw[Zb,kkV_len,dAllN_len];rfl)]
     exact(Zv (f:=fun k=>V.zz 1 16 (kV k)) (l₁:=dAllN key 2) (l₂:=[dKs (sub key 0 8) 16])).symm
    rw[hl,if_pos rfl]
    exact congrArg (fun z=>V.t [V.q [V.zz 1 3 z] 0,i64 0]) e
   ·have hl:=dAll_len (key:=key) hn
    rw[if_neg (by omega)]at hl
    refine⟨_,rfl,[],?_,trivial⟩
    show V.t [V.q [V.zz 1 (i+1) (sub (kkV (dAllN key (i+1))) 0 ((i+1)*1))] 0,i64 0]=V.t [V.q [V.zz 1 (dAll key n).length (kkV (dAll key n))] 0,i64 0]
    rw[hl,hin]
    have e:sub (kkV (dAllN key n)) 0 (n*1)=kkV (dAll key n):=by
     rw[dAll,if_neg (by omega),sub_all (by rw[kkV_len,dAllN_len,Zg])]
    exact congrArg (fun z=>V.t [V.q [V.zz 1 n z] 0,i64 0]) e
abbrev nilp:V:= .s (.pointer none)
def CNew (t:Int) (n:Nat) (va:List Value) (k:Nat) (xs:List V):Prop:=
 (t=1∨t=2)∧k=N.des_Des_Block∧Con C N.des_New [.z n va] [] (.ret (.t [.q xs 0,i64 0])) []∨
 (t=3)∧k=N.idea_Idea_Block∧Con C N.idea_New [.z n va] [] (.ret (.t [.q xs 0,i64 0])) []∨
 (t=6)∧k=N.twofish_Twofish_Block∧Con C N.twofish_New [.z n va] [] (.ret (.t [.q xs 0,i64 0])) []∨
 (t=7)∧k=N.aria_Aria_Block∧Con C N.aria_New [.z n va] [] (.ret (.t [.q xs 0,i64 0])) []∨
 (t=4∨t=5∨t=8)∧k=N.small_Small_Block∧Con C N.small_New [i64 t,.z n va] [] (.ret (.t [.q xs 0,i64 0])) []
theorem c_new {t:Int} {n k:Nat} {va:List Value} {xs:List V} (hv:(n:Int)∈cLens t) (hm:n≤1000) (hs:CNew t n va k xs):Con C N.cipher_New [i64 t,.z n va] [] (.ret (.t [cipV t k xs,i64 0])) []:=by
 have hl:=cLens_len t
 rcases hs with ⟨ht,rfl,hs⟩|⟨ht,rfl,hs⟩|⟨ht,rfl,hs⟩|⟨ht,rfl,hs⟩|⟨ht,rfl,hs⟩
 ·rcases ht with rfl|rfl
  ·refine fd.cipher_New.c ?_
   refine⟨0,Unit,(fun _=>⟨[(6,.p (.k 0) 0),(7,i64 0)],[.mx [i64 1,.f (.func N.des_Des_Block) [.q xs 0] []]]⟩),fun _=>True,fun _=>0,?_,fun _ h=> ?_⟩
   ·refine⟨[],_,_,_,_,c_size (by simp[okTag]),rfl,rfl,?_⟩
    refine⟨[],_,_,_,_,c_lens (by simp[okTag]),rfl,rfl,?_⟩
    refine⟨[],_,_,_,_,c_contains (x:=n) (iv_all rfl) rfl (by omega),rfl,rfl,?_⟩
    refine spl_f (by rw[decide_eq_true hv];rfl) ?_
    refine⟨[],_,_,_,_,hs,rfl,rfl,?_⟩
    refine⟨Zh _,?_⟩
    exact⟨[],(),trivial,[.d 20 0],⟨rfl,rfl,trivial⟩,⟨_,rfl,rfl⟩,trivial⟩
   ·exact⟨_,rfl,[],rfl,trivial⟩
  ·refine fd.cipher_New.c ?_
   refine⟨0,Unit,(fun _=>⟨[(6,.p (.k 0) 0),(7,i64 0)],[.mx [i64 2,.f (.func N.des_Des_Block) [.q xs 0] []]]⟩),fun _=>True,fun _=>0,?_,fun _ h=> ?_⟩
   ·refine⟨[],_,_,_,_,c_size (by simp[okTag]),rfl,rfl,?_⟩
    refine⟨[],_,_,_,_,c_lens (by simp[okTag]),rfl,rfl,?_⟩
    refine⟨[],_,_,_,_,c_contains (x:=n) (iv_all rfl) rfl (by omega),rfl,rfl,?_⟩
    refine spl_f (by rw[decide_eq_true hv];rfl) ?_
    refine⟨[],_,_,_,_,hs,rfl,rfl,?_⟩
    refine⟨Zh _,?_⟩
    exact⟨[],(),trivial,[.d 20 0],⟨rfl,rfl,trivial⟩,⟨_,rfl,rfl⟩,trivial⟩
   ·exact⟨_,rfl,[],rfl,trivial⟩
 ·subst ht
  refine fd.cipher_New.c ?_
  refine⟨0,Unit,(fun _=>⟨[(6,.p (.k 0) 0),(7,i64 0)],[.mx [i64 3,.f (.func N.idea_Idea_Block) [.q xs 0] []]]⟩),fun _=>True,fun _=>0,?_,fun _ h=> ?_⟩
  ·refine⟨[],_,_,_,_,c_size (by simp[okTag]),rfl,rfl,?_⟩
   refine⟨[],_,_,_,_,c_lens (by simp[okTag]),rfl,rfl,?_⟩
   refine⟨[],_,_,_,_,c_contains (x:=n) (iv_all rfl) rfl (by omega),rfl,rfl,?_⟩
   refine spl_f (by rw[decide_eq_true hv];rfl) ?_
   refine⟨[],_,_,_,_,hs,rfl,rfl,?_⟩
   refine⟨Zh _,?_⟩
   exact⟨[],(),trivial,[.d 20 0],⟨rfl,rfl,trivial⟩,⟨_,rfl,rfl⟩,trivial⟩
  ·exact⟨_,rfl,[],rfl,trivial⟩
 ·subst ht
  refine fd.cipher_New.c ?_
  refine⟨0,Unit,(fun _=>⟨[(6,.p (.k 0) 0),(7,i64 0)],[.mx [i64 6,.f (.func N.twofish_Twofish_Block) [.q xs 0] []]]⟩),fun _=>True,fun _=>0,?_,fun _ h=> ?_⟩
  ·refine⟨[],_,_,_,_,c_size (by simp[okTag]),rfl,rfl,?_⟩
   refine⟨[],_,_,_,_,c_lens (by simp[okTag]),rfl,rfl,?_⟩
   refine⟨[],_,_,_,_,c_contains (x:=n) (iv_all rfl) rfl (by omega),rfl,rfl,?_⟩
   refine spl_f (by rw[decide_eq_true hv];rfl) ?_
   refine⟨[],_,_,_,_,hs,rfl,rfl,?_⟩
   refine⟨Zh _,?_⟩
   exact⟨[],(),trivial,[.d 20 0],⟨rfl,rfl,trivial⟩,⟨_,rfl,rfl⟩,trivial⟩
  ·exact⟨_,rfl,[],rfl,trivial⟩
 ·subst ht
  refine fd.cipher_New.c ?_
  refine⟨0,Unit,(fun _=>⟨[(6,.p (.k 0) 0),(7,i64 0)],[.mx [i64 7,.f (.func N.aria_Aria_Block) [.q xs 0] []]]⟩),fun _=>True,fun _=>0,?_,fun _ h=> ?_⟩
  ·refine⟨[],_,_,_,_,c_size (by simp[okTag]),rfl,rfl,?_⟩
   refine⟨[],_,_,_,_,c_lens (by simp[okTag]),rfl,rfl,?_⟩
   refine⟨[],_,_,_,_,c_contains (x:=n) (iv_all rfl) rfl (by omega),rfl,rfl,?_⟩
   refine spl_f (by rw[decide_eq_true hv];rfl) ?_
   refine⟨[],_,_,_,_,hs,rfl,rfl,?_⟩
   refine⟨Zh _,?_⟩
   exact⟨[],(),trivial,[.d 20 0],⟨rfl,rfl,trivial⟩,⟨_,rfl,rfl⟩,trivial⟩
  ·exact⟨_,rfl,[],rfl,trivial⟩
 ·exact c_new_small ht hv hm hs
def RNew (t:Int) (n:Nat) (va:List Value) (rs:List V):Prop:=
 ((t=1∨t=2)∧∃x,rs=[i64 t,.q x 0,nilp,nilp,nilp,nilp]∧Con C N.r6_New [.z n va] [] (.ret (.t [.q x 0,i64 0])) [])∨
 ((t=3)∧∃x,rs=[i64 t,nilp,.q x 0,nilp,nilp,nilp]∧Con C N.r7_New [.z n va] [] (.ret (.t [.q x 0,i64 0])) [])∨
 ((t=6)∧∃x,rs=[i64 t,nilp,nilp,nilp,.q x 0,nilp]∧Con C N.r9_New [.z n va] [] (.ret (.t [.q x 0,i64 0])) [])∨
 ((t=7)∧∃x,rs=[i64 t,nilp,nilp,nilp,nilp,.q x 0]∧Con C N.r10_New [.z n va] [] (.ret (.t [.q x 0,i64 0])) [])∨
 (t=4∨t=5∨t=8)∧∃x,rs=[i64 t,nilp,nilp,.q x 0,nilp,nilp]∧Con C N.r8_New [i64 t,.z n va] [] (.ret (.t [.q x 0,i64 0])) []
theorem mem_take_step {l:List Int} {i:Nat} {x:Int} (h:i<l.length):decide (x∈l.take (i+1))=(decide (x∈l.take i)||(l.getD i 0==x)):=by
 have e:l.getD i 0=l[i]:=by simp[Zc,h]
 rw[e,List.take_succ_eq_append_getElem h]
 rw[Bool.eq_iff_iff]
 simp only[decide_eq_true_eq,List.mem_append,List.mem_singleton,Bool.or_eq_true,beq_iff_eq]
 exact⟨fun h=>h.elim .inl fun h=> .inr h.symm,fun h=>h.elim .inl fun h=> .inr h.symm⟩
theorem RNew.ok {t n va rs} (h:RNew t n va rs):okTag t:=by
 unfold okTag
 rcases h with ⟨h,_⟩|⟨h,_⟩|⟨h,_⟩|⟨h,_⟩|⟨h,_⟩<;>omega
theorem cLens_pos {t} (h:okTag t):0<(cLens t).length:=by
 rcases h with rfl|rfl|rfl|rfl|rfl|rfl|rfl|rfl<;>decide
theorem c_r11_new {t:Int} {n:Nat} {va:List Value} {rs:List V} (hv:(n:Int)∈cLens t) (hs:RNew t n va rs):Con C N.r11_New [i64 t,.z n va] [] (.ret (.t [.q rs 0,i64 0])) []:=by
 have hok:=hs.ok
 have hl:=cLens_len t
 have hp:=cLens_pos hok
 refine fd.r11_New.c ?_
 refine⟨[],_,_,_,_,c_r11_lens hok,rfl,rfl,?_⟩
 refine spl_f (beq_false_of_ne (by omega)) ?_
 refine loopN (fun i=>⟨[(0,i64 t),(1,.z n va),(6,iz (cLens t)),(7,bool (decide ((n:Int)∈(cLens t).take i))),(8,i64 i)],[]⟩) (cLens t).length ⟨[],⟨rfl,rfl,?_,?_,rfl,trivial⟩,trivial⟩ fun i hi=> ?_
 ·show V.z _ (sub (iv _) 0 _)=_
  rw[iv_all rfl]
 ·exact congrArg bool (decide_eq_false (by simp)).symm
 refine spl_d (fun h=> ?_) (fun h=> ?_)
 ·have hlt:i<(cLens t).length:=(by omega)
  have hstep:=mem_take_step (x:=(n:Int)) hlt
  refine spl_i (fun h1=> ?_) (fun h1=> ?_)
  ·rw[h1,Bool.true_or]at hstep
   exact⟨i+1,by omega,by omega,[],⟨rfl,rfl,rfl,congrArg bool hstep.symm,q7i (by simp(disch:=omega)only[Za];omega),trivial⟩,trivial⟩
  ·rw[h1,Bool.false_or]at hstep
   refine⟨by omega,by omega,_,by rw[Zd];exact iv_getD hlt,?_⟩
   exact⟨i+1,by omega,by omega,[],⟨rfl,rfl,rfl,congrArg bool hstep.symm,q7i (by simp(disch:=omega)only[Za];omega),trivial⟩,trivial⟩
 obtain rfl:i=(cLens t).length:=(by omega)
 refine spl_f (by rw[List.take_length,decide_eq_true hv];rfl) ?_
 rcases hs with ⟨rfl|rfl,x,rfl,hs⟩|⟨rfl,x,rfl,hs⟩|⟨rfl,x,rfl,hs⟩|⟨rfl,x,rfl,hs⟩|⟨rfl|rfl|rfl,x,rfl,hs⟩
 all_goals
  refine⟨[],_,_,_,_,hs,rfl,rfl,?_⟩
  refine⟨Zf rfl,?_⟩
  exact⟨_,rfl,[],rfl,trivial⟩
theorem c_r11_new_badtag {t:Int} {n:Nat} {va:List Value} (ht:¬okTag t):Con C N.r11_New [i64 t,.z n va] [] (.ret (.t [nilp,i64 2])) []:=by
 refine fd.r11_New.c ?_
 refine⟨[],_,_,_,_,c_r11_lens_no ht,rfl,rfl,?_⟩
 exact⟨_,rfl,[],rfl,trivial⟩
theorem c_r11_new_badkey {t:Int} {n:Nat} {va:List Value} (hok:okTag t) (hv:(n:Int)∉cLens t):Con C N.r11_New [i64 t,.z n va] [] (.ret (.t [nilp,i64 4])) []:=by
 have hl:=cLens_len t
 have hp:=cLens_pos hok
 refine fd.r11_New.c ?_
 refine⟨[],_,_,_,_,c_r11_lens hok,rfl,rfl,?_⟩
 refine spl_f (beq_false_of_ne (by omega)) ?_
 refine loopN (fun i=>⟨[(0,i64 t),(1,.z n va),(6,iz (cLens t)),(7,bool (decide ((n:Int)∈(cLens t).take i))),(8,i64 i)],[]⟩) (cLens t).length ⟨[],⟨rfl,rfl,?_,?_,rfl,trivial⟩,trivial⟩ fun i hi=> ?_
 ·show V.z _ (sub (iv _) 0 _)=_
  rw[iv_all rfl]
 ·exact congrArg bool (decide_eq_false (by simp)).symm
 refine spl_d (fun h=> ?_) (fun h=> ?_)
 ·have hlt:i<(cLens t).length:=(by omega)
  have hstep:=mem_take_step (x:=(n:Int)) hlt
  refine spl_i (fun h1=> ?_) (fun h1=> ?_)
  ·rw[h1,Bool.true_or]at hstep
   exact⟨i+1,by omega,by omega,[],⟨rfl,rfl,rfl,congrArg bool hstep.symm,q7i (by simp(disch:=omega)only[Za];omega),trivial⟩,trivial⟩
  ·rw[h1,Bool.false_or]at hstep
   refine⟨by omega,by omega,_,by rw[Zd];exact iv_getD hlt,?_⟩
   exact⟨i+1,by omega,by omega,[],⟨rfl,rfl,rfl,congrArg bool hstep.symm,q7i (by simp(disch:=omega)only[Za];omega),trivial⟩,trivial⟩
 obtain rfl:i=(cLens t).length:=(by omega)
 refine spl_t (by rw[List.take_length,decide_eq_false hv];rfl) ?_
 exact⟨_,rfl,[],rfl,trivial⟩
def RBlk (t:Int) (n:Nat) (va:List Value) (back:Bool) (rs:List V) (l:List Value):Prop:=
 ((t=1∨t=2)∧∃x,rs=[i64 t,.q x 0,nilp,nilp,nilp,nilp]∧Con C N.r6_Des_Block [.q x 0,.z n va,bool back] [] (okBlk n) [.sc l])∨
 ((t=3)∧∃x,rs=[i64 t,nilp,.q x 0,nilp,nilp,nilp]∧Con C N.r7_Idea_Block [.q x 0,.z n va,bool back] [] (okBlk n) [.sc l])∨
 ((t=6)∧∃x,rs=[i64 t,nilp,nilp,nilp,.q x 0,nilp]∧Con C N.r9_Twofish_Block [.q x 0,.z n va,bool back] [] (okBlk n) [.sc l])∨
 ((t=7)∧∃x,rs=[i64 t,nilp,nilp,nilp,nilp,.q x 0]∧Con C N.r10_Aria_Block [.q x 0,.z n va,bool back] [] (okBlk n) [.sc l])∨
 (t=4∨t=5∨t=8)∧∃x,rs=[i64 t,nilp,nilp,.q x 0,nilp,nilp]∧Con C N.r8_Small_Block [.q x 0,.z n va,bool back] [] (okBlk n) [.sc l]
theorem c_r11_block {t:Int} {n:Nat} {va:List Value} {back:Bool} {rs:List V} {l:List Value} (hs:RBlk t n va back rs l):Con C N.r11_Cipher_block [.q rs 0,.z n va,bool back] [] (okBlk n) [.sc l]:=by
 rcases hs with ⟨ht,x,rfl,hs⟩|⟨ht,x,rfl,hs⟩|⟨ht,x,rfl,hs⟩|⟨ht,x,rfl,hs⟩|⟨ht,x,rfl,hs⟩
 ·rcases ht with rfl|rfl
  all_goals
   refine fd.r11_Cipher_block.c ?_
   refine⟨_,rfl,_,rfl,?_⟩
   refine⟨[],_,_,_,_,hs,rfl,rfl,?_⟩
   exact⟨_,rfl,[.d 21 0],rfl,⟨_,rfl,rfl⟩,trivial⟩
 ·rcases ht with rfl
  all_goals
   refine fd.r11_Cipher_block.c ?_
   refine⟨_,rfl,_,rfl,?_⟩
   refine⟨[],_,_,_,_,hs,rfl,rfl,?_⟩
   exact⟨_,rfl,[.d 32 0],rfl,⟨_,rfl,rfl⟩,trivial⟩
 ·rcases ht with rfl
  all_goals
   refine fd.r11_Cipher_block.c ?_
   refine⟨_,rfl,_,rfl,?_⟩
   refine⟨[],_,_,_,_,hs,rfl,rfl,?_⟩
   exact⟨_,rfl,[.d 43 0],rfl,⟨_,rfl,rfl⟩,trivial⟩
 ·rcases ht with rfl
  all_goals
   refine fd.r11_Cipher_block.c ?_
   refine⟨_,rfl,_,rfl,?_⟩
   refine⟨[],_,_,_,_,hs,rfl,rfl,?_⟩
   exact⟨_,rfl,[.d 54 0],rfl,⟨_,rfl,rfl⟩,trivial⟩
 ·rcases ht with rfl|rfl|rfl
  all_goals
   refine fd.r11_Cipher_block.c ?_
   refine⟨_,rfl,_,rfl,?_⟩
   refine⟨[],_,_,_,_,hs,rfl,rfl,?_⟩
   exact⟨_,rfl,[.d 63 0],rfl,⟨_,rfl,rfl⟩,trivial⟩
def RBlk_bad (t:Int) (n:Nat) (va:List Value) (back:Bool) (rs:List V):Prop:=
 ((t=1∨t=2)∧∃x,rs=[i64 t,.q x 0,nilp,nilp,nilp,nilp]∧Con C N.r6_Des_Block [.q x 0,.z n va,bool back] [] badBlk [])∨
 ((t=3)∧∃x,rs=[i64 t,nilp,.q x 0,nilp,nilp,nilp]∧Con C N.r7_Idea_Block [.q x 0,.z n va,bool back] [] badBlk [])∨
 ((t=6)∧∃x,rs=[i64 t,nilp,nilp,nilp,.q x 0,nilp]∧Con C N.r9_Twofish_Block [.q x 0,.z n va,bool back] [] badBlk [])∨
 ((t=7)∧∃x,rs=[i64 t,nilp,nilp,nilp,nilp,.q x 0]∧Con C N.r10_Aria_Block [.q x 0,.z n va,bool back] [] badBlk [])∨
 (t=4∨t=5∨t=8)∧∃x,rs=[i64 t,nilp,nilp,.q x 0,nilp,nilp]∧Con C N.r8_Small_Block [.q x 0,.z n va,bool back] [] badBlk []
theorem c_r11_block_bad {t:Int} {n:Nat} {va:List Value} {back:Bool} {rs:List V} (hs:RBlk_bad t n va back rs):Con C N.r11_Cipher_block [.q rs 0,.z n va,bool back] [] badBlk []:=by
 rcases hs with ⟨ht,x,rfl,hs⟩|⟨ht,x,rfl,hs⟩|⟨ht,x,rfl,hs⟩|⟨ht,x,rfl,hs⟩|⟨ht,x,rfl,hs⟩
 ·rcases ht with rfl|rfl
  all_goals
   refine fd.r11_Cipher_block.c ?_
   refine⟨_,rfl,_,rfl,?_⟩
   refine⟨[],_,_,_,_,hs,rfl,rfl,?_⟩
   exact⟨_,rfl,[],rfl,trivial⟩
 ·rcases ht with rfl
  all_goals
   refine fd.r11_Cipher_block.c ?_
   refine⟨_,rfl,_,rfl,?_⟩
   refine⟨[],_,_,_,_,hs,rfl,rfl,?_⟩
   exact⟨_,rfl,[],rfl,trivial⟩
 ·rcases ht with rfl
  all_goals
   refine fd.r11_Cipher_block.c ?_
   refine⟨_,rfl,_,rfl,?_⟩
   refine⟨[],_,_,_,_,hs,rfl,rfl,?_⟩
   exact⟨_,rfl,[],rfl,trivial⟩
 ·rcases ht with rfl
  all_goals
   refine fd.r11_Cipher_block.c ?_
   refine⟨_,rfl,_,rfl,?_⟩
   refine⟨[],_,_,_,_,hs,rfl,rfl,?_⟩
   exact⟨_,rfl,[],rfl,trivial⟩
 ·rcases ht with rfl|rfl|rfl
  all_goals
   refine fd.r11_Cipher_block.c ?_
   refine⟨_,rfl,_,rfl,?_⟩
   refine⟨[],_,_,_,_,hs,rfl,rfl,?_⟩
   exact⟨_,rfl,[],rfl,trivial⟩
def putBB (r:W2):Bs:=putB r.1++putB r.2
def putLL (r:W2):Bs:=putL r.1++putL r.2
def xF (key:Bs) (back:Bool) (b:Bs):W2:=if back then ((it (xDec (wrds beW key 4)) 32 (beW (sub b 0 4),beW (sub b 4 4),3337565984)).1,(it (xDec (wrds beW key 4)) 32 (beW (sub b 0 4),beW (sub b 4 4),3337565984)).2.1)else ((it (xEnc (wrds beW key 4)) 32 (beW (sub b 0 4),beW (sub b 4 4),0)).1,(it (xEnc (wrds beW key 4)) 32 (beW (sub b 0 4),beW (sub b 4 4),0)).2.1)
def mF (key:Bs) (back:Bool) (b:Bs):W2:=mTurn (if back then (mKeys (wrds beW key 8)).reverse else mKeys (wrds beW key 8)) (beW (sub b 0 4)) (beW (sub b 4 4))
def rG (K:List UInt32):Bool→Bs→W2
 |true,b=>((rDecN K (leW (sub b 0 4),leW (sub b 4 4)) 12).1-K.getD 0 0,(rDecN K (leW (sub b 0 4),leW (sub b 4 4)) 12).2-K.getD 1 0)
 |false,b=>rEncN K (leW (sub b 0 4),leW (sub b 4 4)) 12
def dFn (key:Bs) (back:Bool) (b:Bs):Bs:=dBN (dAll key (key.length/8)) back b (dAll key (key.length/8)).length
def aQ (key:Bs):Nat:=(key.length-16)/8
def aN (key:Bs):Nat:=13+2*aQ key
def cF (t:Int) (key:Bs) (back:Bool) (b:Bs):Bs:=
 if t=1∨t=2 then dFn key back b
 else if t=3 then putQ (turnI (if back then undI (keysI key)else keysI key) (ldQ b))
 else if t=4 then putBB (xF key back b)
 else if t=5 then putBB (mF key back b)
 else if t=6 then putW (if back then twD (tK key) (tS key) (ldW b)else twE (tK key) (tS key) (ldW b)) 4
 else if t=7 then (if back then ariaD (aQ key) key (aN key) b else ariaE (aQ key) key (aN key) b)
 else putLL (rG (gAll (wrds leW key 4) 78).1 back b)
structure Ciph (t:Int) (key:Bs) (s k:Nat) (xs rs:List V):Prop where
 ht:okTag t
 hs:cSize t=s
 hd:rs.head? =some (i64 t)
 kl:(key.length:Int)∈cLens t
 new:Con C N.cipher_New [i64 t,.z key.length (bv key)] [] (.ret (.t [cipV t k xs,i64 0])) []
 cn:CNew t key.length (bv key) k xs
 rnew:Con C N.r11_New [i64 t,.z key.length (bv key)] [] (.ret (.t [.q rs 0,i64 0])) []
 blk:∀{b:Bs} {back:Bool},b.length=s→Con C k [.q xs 0,.z s (bv b),bool back] [] (okBlk s) [.sc (bv (cF t key back b))]
 rblk:∀{b:Bs} {back:Bool},b.length=s→Con C N.r11_Cipher_block [.q rs 0,.z s (bv b),bool back] [] (okBlk s) [.sc (bv (cF t key back b))]
 bad:∀{n:Nat} {va:List Value} {back:Bool},n≠s→Con C k [.q xs 0,.z n va,bool back] [] badBlk []
 rbad:∀{n:Nat} {va:List Value} {back:Bool},n≠s→Con C N.r11_Cipher_block [.q rs 0,.z n va,bool back] [] badBlk []
 len:∀{b:Bs} {back:Bool},b.length=s→(cF t key back b).length=s
theorem putBB_len (r):(putBB r).length=8:=by rw[putBB,Zb,putB_len,putB_len]
theorem putLL_len (r):(putLL r).length=8:=by rw[putLL,Zb,putL_len,putL_len]
theorem putW_len4 (x):(putW x 4).length=16:=putW_len x 4
theorem ariaE_len {q key n b} (h:AOk q key n):(ariaE q key n b).length=16:=by
 rw[ariaE];exact xorL_len (aLay_len _ _ _) (aKey_len h _)
theorem ariaD_len {q key n b} (h:AOk q key n):(ariaD q key n b).length=16:=aDecN_len h _
theorem ciph_des {t:Int} {key:Bs} (ht:t=1∨t=2) (hv:(key.length:Int)∈cLens t):∃k xs rs,Ciph t key 8 k xs rs:=by
 obtain⟨n,hn,h3⟩:∃n,key.length=8*n∧(1≤n∧n≤3):=by
  refine⟨key.length/8,?_⟩
  rcases ht with rfl|rfl<;>simp[cLens]at hv<;>omega
 have hd:key.length/8=n:=by omega
 obtain⟨ok,pos⟩:=dAll_ok (key:=key) h3
 have hF:∀b back,cF t key back b=dBN (dAll key n) back b (dAll key n).length:=fun b back=>by rw[cF,if_pos ht,dFn,hd]
 refine⟨_,_,[i64 t,desV (dAll key n),nilp,nilp,nilp,nilp],⟨?_,?_,rfl,hv,c_new hv (by omega) (.inl ⟨ht,rfl,c_des_new rfl rfl hn h3⟩),.inl ⟨ht,rfl,c_des_new rfl rfl hn h3⟩,c_r11_new hv (.inl ⟨ht,_,rfl,c_r6_new rfl rfl hn h3⟩),fun hb=> ?_,fun hb=> ?_,fun hn=>c_des_bad hn,fun hn=>c_r11_block_bad (.inl ⟨ht,_,rfl,c_r6_bad hn⟩),fun hb=> ?_⟩⟩
 ·unfold okTag;omega
 ·unfold cSize;rw[if_pos (by omega)];rfl
 ·rw[hF];exact c_des_blk rfl hb ok pos
 ·rw[hF];exact c_r11_block (.inl ⟨ht,_,rfl,c_r6_blk rfl hb ok pos⟩)
 ·rw[hF];exact dBN_len hb _
theorem ciph_idea {key:Bs} (hk:key.length=16):∃k xs rs,Ciph 3 key 8 k xs rs:=by
 have hv:(key.length:Int)∈cLens 3:=by rw[hk];decide
 refine⟨_,_,[i64 3,nilp,rIdeaV (keysI key),nilp,nilp,nilp],⟨by simp[okTag],rfl,rfl,hv,c_new hv (by omega) (.inr (.inl ⟨rfl,rfl,by rw[hk];exact c_idea_new rfl hk⟩)),.inr (.inl ⟨rfl,rfl,by rw[hk];exact c_idea_new rfl hk⟩),c_r11_new hv (.inr (.inl ⟨rfl,_,rfl,by rw[hk];exact c_r7_new rfl hk⟩)),fun hb=>c_idea_blk rfl hb (keysI_len _) (keysI_ok _),fun hb=>c_r11_block (.inr (.inl ⟨rfl,_,rfl,c_r7_blk rfl hb (keysI_len _) (keysI_ok _)⟩)),fun hn=>c_idea_bad hn,fun hn=>c_r11_block_bad (.inr (.inl ⟨rfl,_,rfl,c_r7_bad hn⟩)),fun hb=>putQ_len _⟩⟩
theorem ciph_xtea {key:Bs} (hk:key.length=16):∃k xs rs,Ciph 4 key 8 k xs rs:=by
 have hv:(key.length:Int)∈cLens 4:=by rw[hk];decide
 have hl:=wrds_len beW key 4
 refine⟨_,_,[i64 4,nilp,nilp,rSmallV (wrds beW key 4) 4,nilp,nilp],⟨by simp[okTag],rfl,rfl,hv,c_new hv (by omega) (.inr (.inr (.inr (.inr ⟨.inl rfl,rfl,by rw[hk];exact c_small_new_x rfl hk⟩)))),.inr (.inr (.inr (.inr ⟨.inl rfl,rfl,by rw[hk];exact c_small_new_x rfl hk⟩))),c_r11_new hv (.inr (.inr (.inr (.inr ⟨.inl rfl,_,rfl,by rw[hk];exact c_r8_new_x rfl hk⟩)))),fun{b back} hb=> ?_,fun{b back} hb=> ?_,fun hn=>c_blk_bad hn,fun hn=>c_r11_block_bad (.inr (.inr (.inr (.inr ⟨.inl rfl,_,rfl,c_r8_blk_bad hn⟩)))),fun hb=>putBB_len _⟩⟩
 ·refine c_blk_x (r:=xF key back b) rfl hb ?_
  cases back
  ·exact c_xtea_enc hl rfl rfl
  ·exact c_xtea_dec hl rfl rfl
 ·refine c_r11_block (.inr (.inr (.inr (.inr ⟨.inl rfl,_,rfl,c_r8_blk_x (r:=xF key back b) rfl hb ?_⟩))))
  cases back
  ·exact c_r8_xtea_enc hl rfl rfl
  ·exact c_r8_xtea_dec hl rfl rfl
theorem ciph_magma {key:Bs} (hk:key.length=32):∃k xs rs,Ciph 5 key 8 k xs rs:=by
 have hv:(key.length:Int)∈cLens 5:=by rw[hk];decide
 have hl:=wrds_len beW key 8
 refine⟨_,_,[i64 5,nilp,nilp,rSmallV (wrds beW key 8) 5,nilp,nilp],⟨by simp[okTag],rfl,rfl,hv,c_new hv (by omega) (.inr (.inr (.inr (.inr ⟨.inr (.inl rfl),rfl,by rw[hk];exact c_small_new_m rfl hk⟩)))),.inr (.inr (.inr (.inr ⟨.inr (.inl rfl),rfl,by rw[hk];exact c_small_new_m rfl hk⟩))),c_r11_new hv (.inr (.inr (.inr (.inr ⟨.inr (.inl rfl),_,rfl,by rw[hk];exact c_r8_new_m rfl hk⟩)))),fun{b back} hb=> ?_,fun{b back} hb=> ?_,fun hn=>c_blk_bad hn,fun hn=>c_r11_block_bad (.inr (.inr (.inr (.inr ⟨.inr (.inl rfl),_,rfl,c_r8_blk_bad hn⟩)))),fun hb=>putBB_len _⟩⟩
 ·refine c_blk_m (r:=mF key back b) rfl hb ?_
  cases back
  ·exact c_magma_f hl rfl rfl
  ·exact c_magma_t hl rfl rfl
 ·refine c_r11_block (.inr (.inr (.inr (.inr ⟨.inr (.inl rfl),_,rfl,c_r8_blk_m (r:=mF key back b) rfl hb ?_⟩))))
  cases back
  ·exact c_r8_magma_f hl rfl rfl
  ·exact c_r8_magma_t hl rfl rfl
theorem blk_r5 {K:List UInt32} (hl:K.length=26) {b:Bs} {back:Bool} (hb:b.length=8):Con C N.small_Small_Block [smallV K 8,.z 8 (bv b),bool back] [] (okBlk 8) [.sc (bv (putLL (rG K back b)))]:=by
 refine c_blk_r (r:=rG K back b) rfl hb ?_
 cases back
 ·simp only[rG];exact c_rc5_enc hl rfl rfl
 ·simp only[rG];exact c_rc5_dec hl rfl rfl
theorem r8_blk_r5 {K:List UInt32} (hl:K.length=26) {b:Bs} {back:Bool} (hb:b.length=8):Con C N.r8_Small_Block [rSmallV K 8,.z 8 (bv b),bool back] [] (okBlk 8) [.sc (bv (putLL (rG K back b)))]:=by
 refine c_r8_blk_r (r:=rG K back b) rfl hb ?_
 cases back
 ·simp only[rG];exact c_r8_rc5_enc hl rfl rfl
 ·simp only[rG];exact c_r8_rc5_dec hl rfl rfl
theorem ciph_rc5 {key:Bs} (hk:key.length=16):∃k xs rs,Ciph 8 key 8 k xs rs:=by
 have hv:(key.length:Int)∈cLens 8:=by rw[hk];decide
 have hl:=(gAll_len (wrds leW key 4) 78).1
 have n1:=c_small_new_r rfl hk
 have n2:=c_r8_new_r rfl hk
 have hF:∀back b,cF 8 key back b=putLL (rG (gAll (wrds leW key 4) 78).1 back b):=fun _ _=>rfl
 generalize (gAll (wrds leW key 4) 78).1=K at hl n1 n2 hF
 rw[←hk]at n1 n2
 exact⟨_,_,[i64 8,nilp,nilp,rSmallV K 8,nilp,nilp],⟨by simp[okTag],rfl,rfl,hv,c_new hv (by omega) (.inr (.inr (.inr (.inr ⟨.inr (.inr rfl),rfl,n1⟩)))),.inr (.inr (.inr (.inr ⟨.inr (.inr rfl),rfl,n1⟩))),c_r11_new hv (.inr (.inr (.inr (.inr ⟨.inr (.inr rfl),_,rfl,n2⟩)))),fun{b back} hb=>by rw[hF];exact blk_r5 hl hb,fun{b back} hb=>by rw[hF];exact c_r11_block (.inr (.inr (.inr (.inr ⟨.inr (.inr rfl),_,rfl,r8_blk_r5 hl hb⟩)))),fun hn=>c_blk_bad hn,fun hn=>c_r11_block_bad (.inr (.inr (.inr (.inr ⟨.inr (.inr rfl),_,rfl,c_r8_blk_bad hn⟩)))),fun hb=>by rw[hF];exact putLL_len _⟩⟩
theorem ciph_two {key:Bs} (hk:key.length=16∨key.length=24∨key.length=32):∃k xs rs,Ciph 6 key 16 k xs rs:=by
 have hv:(key.length:Int)∈cLens 6:=by rcases hk with h|h|h<;>rw[h]<;>decide
 obtain⟨n,hn,h3⟩:∃n,key.length=8*n∧(2≤n∧n≤4):=⟨key.length/8,by omega⟩
 have hS:=tS_len hn
 refine⟨_,_,[i64 6,nilp,nilp,nilp,twoV (tK key) (tS key),nilp],⟨by simp[okTag],rfl,rfl,hv,c_new hv (by omega) (.inr (.inr (.inl ⟨rfl,rfl,c_tnew rfl rfl hn h3⟩))),.inr (.inr (.inl ⟨rfl,rfl,c_tnew rfl rfl hn h3⟩)),c_r11_new hv (.inr (.inr (.inl ⟨rfl,_,rfl,c_r9_new rfl rfl hn h3⟩))),fun{b back} hb=> ?_,fun{b back} hb=>c_r11_block (.inr (.inr (.inl ⟨rfl,_,rfl,?_⟩))),fun hn=>c_two_bad hn,fun hn=>c_r11_block_bad (.inr (.inr (.inl ⟨rfl,_,rfl,c_r9_bad hn⟩))),fun hb=>putW_len4 _⟩⟩
 ·cases back
  ·exact c_two_enc rfl hb (tK_len _) (by omega)
  ·exact c_two_dec rfl hb (tK_len _) (by omega)
 ·cases back
  ·exact c_r9_enc rfl hb (tK_len _) (by omega)
  ·exact c_r9_dec rfl hb (tK_len _) (by omega)
theorem ciph_aria {key:Bs} (hk:key.length=16∨key.length=24∨key.length=32):∃k xs rs,Ciph 7 key 16 k xs rs:=by
 have hv:(key.length:Int)∈cLens 7:=by rcases hk with h|h|h<;>rw[h]<;>decide
 have ok:AOk (aQ key) key (aN key):=by
  refine⟨?_,?_,?_,?_⟩<;>first|omega|(simp only[aN,aQ];omega)
 have new:Con C N.aria_New [.z key.length (bv key)] [] (.ret (.t [ariaV (aQ key) key (aN key),i64 0])) []∧Con C N.r10_New [.z key.length (bv key)] [] (.ret (.t [ariaR (aQ key) key (aN key),i64 0])) []:=by
  rcases hk with h|h|h
  ·rw[aN,aQ,h];exact⟨c_anew16 rfl h,c_r10_new16 rfl h⟩
  ·rw[aN,aQ,h];exact⟨c_anew24 rfl h,c_r10_new24 rfl h⟩
  ·rw[aN,aQ,h];exact⟨c_anew32 rfl h,c_r10_new32 rfl h⟩
 refine⟨_,_,[i64 7,nilp,nilp,nilp,nilp,ariaR (aQ key) key (aN key)],⟨by simp[okTag],rfl,rfl,hv,c_new hv (by omega) (.inr (.inr (.inr (.inl ⟨rfl,rfl,new.1⟩)))),.inr (.inr (.inr (.inl ⟨rfl,rfl,new.1⟩))),c_r11_new hv (.inr (.inr (.inr (.inl ⟨rfl,_,rfl,new.2⟩)))),fun{b back} hb=> ?_,fun{b back} hb=>c_r11_block (.inr (.inr (.inr (.inl ⟨rfl,_,rfl,?_⟩)))),fun hn=>c_aria_bad hn,fun hn=>c_r11_block_bad (.inr (.inr (.inr (.inl ⟨rfl,_,rfl,c_r10_bad hn⟩)))),fun{b back} hb=> ?_⟩⟩
 ·cases back
  ·exact c_aria_enc ok rfl hb
  ·exact c_aria_dec ok rfl hb
 ·cases back
  ·exact c_r10_enc ok rfl hb
  ·exact c_r10_dec ok rfl hb
 ·cases back
  ·exact ariaE_len ok
  ·exact ariaD_len ok
theorem ciph_ok {t:Int} {key:Bs} (ht:okTag t) (hv:(key.length:Int)∈cLens t):∃s k xs rs,Ciph t key s k xs rs:=by
 have h8:∀{t},(∃k xs rs,Ciph t key 8 k xs rs)→∃s k xs rs,Ciph t key s k xs rs:=fun h=>⟨8,h⟩
 have h16:∀{t},(∃k xs rs,Ciph t key 16 k xs rs)→∃s k xs rs,Ciph t key s k xs rs:=fun h=>⟨16,h⟩
 rcases ht with rfl|rfl|rfl|rfl|rfl|rfl|rfl|rfl
 ·exact h8 (ciph_des (.inl rfl) hv)
 ·exact h8 (ciph_des (.inr rfl) hv)
 ·exact h8 (ciph_idea (by simp[cLens]at hv;omega))
 ·exact h8 (ciph_xtea (by simp[cLens]at hv;omega))
 ·exact h8 (ciph_magma (by simp[cLens]at hv;omega))
 ·exact h16 (ciph_two (by simp[cLens]at hv;omega))
 ·exact h16 (ciph_aria (by simp[cLens]at hv;omega))
 ·exact h8 (ciph_rc5 (by simp[cLens]at hv;omega))
theorem Ciph.new' {t key s k xs rs} (h:Ciph t key s k xs rs) {n:Nat} {va:List Value} (hn:key.length=n) (ha:va=bv key):Con C N.cipher_New [i64 t,.z n va] [] (.ret (.t [cipV t k xs,i64 0])) []:=by subst ha;subst hn;exact h.new
theorem Ciph.enc {t key s k xs rs} (h:Ciph t key s k xs rs) {b:Bs} {va:List Value} (hb:b.length=s) (ha:va=bv b):Con C N.cipher_Cipher_Enc [cipV t k xs,.z s va] [] (okBlk s) [.sc (bv (cF t key false b))]:=by subst ha;exact c_enc_ok (h.blk hb)
theorem Ciph.dec {t key s k xs rs} (h:Ciph t key s k xs rs) {b:Bs} {va:List Value} (hb:b.length=s) (ha:va=bv b):Con C N.cipher_Cipher_Dec [cipV t k xs,.z s va] [] (okBlk s) [.sc (bv (cF t key true b))]:=by subst ha;exact c_dec_ok (h.blk hb)
theorem Ciph.rS {t key s k xs rs} (h:Ciph t key s k xs rs):Con C N.r11_Size [i64 t] [] (.ret (i64 s)) []:=by rw[←h.hs];exact c_r11_size h.ht
theorem Ciph.size {t key s k xs rs} (h:Ciph t key s k xs rs):Con C N.cipher_Cipher_Size [cipV t k xs] [] (.ret (i64 s)) []:=by rw[←h.hs];exact c_csize h.ht
theorem kLen_mem {t n:Int} (ht:okTag t):((kLen t n:Nat):Int)∈cLens t:=by
 have hp:=cLens_pos ht
 have h1:=Int.emod_nonneg n (b:=((cLens t).length:Int)) (by omega)
 have h2:=Int.emod_lt_of_pos n (b:=((cLens t).length:Int)) (by omega)
 have hi:(n%((cLens t).length:Int)).toNat<(cLens t).length:=by omega
 have hx:(cLens t).getD (n%((cLens t).length:Int)).toNat 0∈cLens t:=by
  rw[Zc,Zk hi];exact List.getElem_mem hi
 have h0:0≤(cLens t).getD (n%((cLens t).length:Int)).toNat 0:=by
  have:∀x∈cLens t,0≤x:=by
   rcases ht with rfl|rfl|rfl|rfl|rfl|rfl|rfl|rfl<;>decide
  exact this _ hx
 rw[kLen,Int.toNat_of_nonneg h0];exact hx
theorem ciph_law (tag n:Int) (k:Bs):∃s q xs rs,Ciph (tagOf tag) (keyOf (tagOf tag) n k) s q xs rs:=ciph_ok (tagOf_ok _) (by rw[keyOf_len];exact kLen_mem (tagOf_ok _))
theorem Ciph.s_le {t key s k xs rs} (h:Ciph t key s k xs rs):8≤s∧s≤16:=by
 have:=h.hs
 rcases h.ht with e|e|e|e|e|e|e|e<;>(subst e;simp[cSize]at this;omega)
theorem c_keyF {t n:Int} {m:Nat} {va:List Value} {k:Bs} (ht:okTag t) (hn: -9223372036854775808≤n∧n≤9223372036854775807) (ha:va=bv k) (hk:k.length=m):Con C N.law11_Key [i64 t,i64 n,.z m va] [] (.ret (.z (kLen t n) (bv (keyOf t n k)))) []:=by
 obtain⟨h1,h2,h3,h4,h5⟩:=kLen_ok ht n
 have hl:=cLens_len t
 have hp:=cLens_pos ht
 refine fd.law11_Key.c ?_
 refine⟨[],_,_,_,_,c_r11_lens ht,rfl,rfl,?_⟩
 refine⟨[],_,_,_,_,c_within (n:=(cLens t).length) (by omega) (by omega) hn,rfl,rfl,?_⟩
 refine⟨h4,h5,?_⟩
 refine⟨.int .i64 (kLen t n),?_,?_⟩
 ·rw[Zg,Zj];simp[iv,h3]
 refine⟨[],_,_,_,_,c_bytes (n:=kLen t n) ha hk (by omega),rfl,rfl,?_⟩
 exact⟨_,rfl,[],congrArg (V.z _) (bv_all (bytesN_len _ _)),trivial⟩
theorem it_in {α:Type} (f:α→α):∀(n:Nat) (x:α),it f n (f x)=f (it f n x)
 |0,_=>rfl
 |n+1,x=>congrArg f (it_in f n x)
theorem it_inv {α:Type} {f g:α→α} (h:∀x,g (f x)=x):∀(n:Nat) (x:α),it g n (it f n x)=x
 |0,_=>rfl
 |n+1,x=>by
  show g (it g n (f (it f n x)))=x
  rw[←it_in g,h,it_inv h n x]
theorem fold_inv {α:Type} {st bk:α→Nat→α} (h:∀x r,bk (st x r) r=x):∀(n:Nat) (x:α),(List.range n).foldl (fun x r=>bk x (n-1-r)) ((List.range n).foldl st x)=x
 |0,_=>rfl
 |n+1,x=>by
  have e1:(List.range (n+1)).foldl st x=st ((List.range n).foldl st x) n:=by rw[Zo,Zx];rfl
  rw[e1,Jk,Zw,List.foldl_map]
  rw[show n+1-1-0=n by omega,h]
  have e:∀(l:List Nat) (y:α),l.foldl (fun x r=>bk x (n+1-1-Nat.succ r)) y=l.foldl (fun x r=>bk x (n-1-r)) y:=by
   intro l y
   congr 1
   funext x r
   congr 1
   omega
  rw[e]
  exact fold_inv h n x
theorem fold_congr {α:Type} {f g:α→Nat→α} {n:Nat} (h:∀x r,r<n→f x r=g x r):∀(x:α),(List.range n).foldl f x=(List.range n).foldl g x:=by
 have:∀(l:List Nat),(∀r∈l,r<n)→∀x,l.foldl f x=l.foldl g x:=by
  intro l
  induction l with
  |nil=>intros;rfl
  |cons a r ih=>
   intro hl x
   rw[Zw,Zw,h x a (hl a (by simp))]
   exact ih (fun r hr=>hl r (by simp[hr])) _
 exact this _ (fun r hr=>List.mem_range.1 hr)
theorem fold_inv' {α:Type} {st bk:α→Nat→α} (h:∀x r,st (bk x r) r=x) (n:Nat) (x:α):(List.range n).foldl st ((List.range n).foldl (fun x r=>bk x (n-1-r)) x)=x:=by
 have:=fold_inv (st:=fun x r=>bk x (n-1-r)) (bk:=fun x r=>st x (n-1-r)) (fun x r=>h x _) n x
 rw[←this]
 rw[this]
 refine Eq.trans (fold_congr (fun y r hr=> ?_) _) this
 show st y r=st y (n-1-(n-1-r))
 rw[show n-1-(n-1-r)=r by omega]
theorem testBit_rol (v:UInt32) {k:Nat} (h:k<32) (i:Nat) (hi:i<32):(rol v k).toNat.testBit i=v.toNat.testBit ((i+32-k)%32):=by
 unfold rol
 have hv:v.toNat<2^32:=v.toNat_lt
 have e1:(UInt32.ofNat k).toNat%32=k:=by rw[Jq,Zr (show k<2^32 by omega)];exact Zr h
 have e2:(UInt32.ofNat (32-k)).toNat%32=(32-k)%32:=by rw[Jq,Zr (show 32-k<2^32 by omega)]
 rw[UInt32.toNat_or,UInt32.toNat_shiftLeft,UInt32.toNat_shiftRight,e1,e2,Nat.testBit_or,Nat.testBit_mod_two_pow,Nat.testBit_shiftLeft,Nat.testBit_shiftRight]
 by_cases hk:k=0
 ·subst hk
  simp[hi,Zr hi]
 ·rw[Zr (show 32-k<32 by omega)]
  by_cases hki:k≤i
  ·have:v.toNat.testBit (32-k+i)=false:=Ji (Nat.lt_of_lt_of_le hv (Z3 (by decide) (by omega)))
   rw[this,show(i+32-k)%32=i-k by omega]
   simp[hi,hki]
  ·rw[show (i+32-k)%32=32-k+i by omega]
   simp[hki]
theorem rol_inv (v:UInt32) {k j:Nat} (h:k<32) (hj:j<32) (e:(k+j)%32=0):rol (rol v k) j=v:=by
 apply UInt32.toNat_inj.1
 apply Nat.eq_of_testBit_eq
 intro i
 by_cases hi:i<32
 ·rw[testBit_rol _ hj i hi,testBit_rol _ h _ (Zu _ (by decide))]
  congr 1
  omega
 ·have hp:∀w:UInt32,w.toNat.testBit i=false:=fun w=>Ji (Nat.lt_of_lt_of_le w.toNat_lt (Z3 (by decide) (by omega)))
  rw[hp,hp]
theorem xor_can (a b:UInt32):a^^^b^^^b=a:=by rw[UInt32.xor_assoc,UInt32.xor_self,UInt32.xor_zero]
theorem or_shl8 (n:UInt64) (x:UInt8) (h:n.toNat<2^56):(n<<<8|||x.toUInt64).toNat=n.toNat*256+x.toNat:=by
 have hx:=x.toNat_lt
 rw[UInt64.toNat_or,UInt64.toNat_shiftLeft,UInt8.toNat_toUInt64,show(8:UInt64).toNat%64=8 from rfl,Nat.shiftLeft_eq,Zr (by omega)]
 rw[show (2:Nat)^8=2^8 from rfl,or_add _ (i:=8) (by omega)]
theorem load4 (a b c d:UInt8):(loadL [a,b,c,d]).toNat=((a.toNat*256+b.toNat)*256+c.toNat)*256+d.toNat:=by
 have ha:=a.toNat_lt;have hb:=b.toNat_lt;have hc:=c.toNat_lt;have hd:=d.toNat_lt
 show(((((((0:UInt64)<<<8|||a.toUInt64)<<<8|||b.toUInt64))<<<8|||c.toUInt64))<<<8|||d.toUInt64).toNat=_
 have e1:((0:UInt64)<<<8|||a.toUInt64).toNat=a.toNat:=by rw[or_shl8 _ _ (by decide)];show 0*256+_=_;omega
 have e2:(((0:UInt64)<<<8|||a.toUInt64)<<<8|||b.toUInt64).toNat=a.toNat*256+b.toNat:=by rw[or_shl8 _ _ (by omega),e1]
 have e3:((((0:UInt64)<<<8|||a.toUInt64)<<<8|||b.toUInt64)<<<8|||c.toUInt64).toNat=(a.toNat*256+b.toNat)*256+c.toNat:=by rw[or_shl8 _ _ (by omega),e2]
 rw[or_shl8 _ _ (by omega),e3]
theorem putB_eq (v:UInt32):putB v=[Zs (v.toNat/16777216),Zs (v.toNat/65536),Zs (v.toNat/256),Zs v.toNat]:=by
 have hv:=v.toNat_lt
 have s1:∀n:UInt64,(n>>>8).toNat=n.toNat/256:=fun n=>by rw[UInt64.toNat_shiftRight,show(8:UInt64).toNat%64=8 from rfl,Nat.shiftRight_eq_div_pow]
 have s2:∀n:UInt64,n.toUInt8=Zs n.toNat:=fun n=>by
  apply Z7.1;rw[UInt64.toNat_toUInt8,Zy]
 show[(v.toUInt64>>>8>>>8>>>8).toUInt8,(v.toUInt64>>>8>>>8).toUInt8,(v.toUInt64>>>8).toUInt8,v.toUInt64.toUInt8]=_
 rw[s2,s2,s2,s2,s1,s1,s1,UInt32.toNat_toUInt64]
 simp only[Nat.div_div_eq_div_mul]
theorem list4 {b:Bs} (h:b.length=4):∃p q r s,b=[p,q,r,s]:=by
 match b,h with
 |[p,q,r,s],_=>exact⟨p,q,r,s,rfl⟩
theorem beW4 (a b c d:UInt8):(beW [a,b,c,d]).toNat=((a.toNat*256+b.toNat)*256+c.toNat)*256+d.toNat:=by
 have ha:=a.toNat_lt;have hb:=b.toNat_lt;have hc:=c.toNat_lt;have hd:=d.toNat_lt
 rw[beW,UInt64.toNat_toUInt32,load4]
 omega
theorem beW_putB (v:UInt32):beW (putB v)=v:=by
 have hv:=v.toNat_lt
 apply UInt32.toNat_inj.1
 rw[putB_eq,beW4]
 simp only[Zy]
 omega
theorem putB_beW {b:Bs} (h:b.length=4):putB (beW b)=b:=by
 obtain⟨p,q,r,s,rfl⟩:=list4 h
 have hp:=p.toNat_lt;have hq:=q.toNat_lt;have hr:=r.toNat_lt;have hs:=s.toNat_lt
 rw[putB_eq,beW4]
 have e:∀(x:UInt8) (n:Nat),n%256=x.toNat→Zs n=x:=fun x n h=>by
  apply Z7.1;rw[Zy,←h]
 rw[e p _ (by omega),e q _ (by omega),e r _ (by omega),e s _ (by omega)]
theorem leW_putL (v:UInt32):leW (putL v)=v:=by
 rw[leW,putL,Z4];exact beW_putB v
theorem putL_leW {b:Bs} (h:b.length=4):putL (leW b)=b:=by
 have:=putB_beW (b:=b.reverse) (by rw[Zl,h])
 show(putB (beW b.reverse)).reverse=b
 rw[this,Z4]
theorem sub_two {a b:Bs} {n:Nat} (ha:a.length=n) (hb:b.length=n):sub (a++b) 0 n=a∧sub (a++b) n n=b:=by
 subst ha
 refine⟨by simp[sub],?_⟩
 simp only[sub,List.drop_left]
 exact Z9 (by omega)
theorem sub_cat {b:Bs} {n m:Nat} (h:b.length=n+m):sub b 0 n++sub b n m=b:=by
 rw[sub_end b n m (by omega)]
 exact Ja n b
theorem ld_putBB (r:W2):(beW (sub (putBB r) 0 4),beW (sub (putBB r) 4 4))=r:=by
 obtain⟨h1,h2⟩:=sub_two (putB_len r.1) (putB_len r.2)
 rw[putBB,h1,h2,beW_putB,beW_putB]
theorem putBB_ld {b:Bs} (h:b.length=8):putBB (beW (sub b 0 4),beW (sub b 4 4))=b:=by
 rw[putBB,putB_beW (by rw[sub_length];omega),putB_beW (by rw[sub_length];omega)]
 exact sub_cat h
theorem ld_putLL (r:W2):(leW (sub (putLL r) 0 4),leW (sub (putLL r) 4 4))=r:=by
 obtain⟨h1,h2⟩:=sub_two (putL_len r.1) (putL_len r.2)
 rw[putLL,h1,h2,leW_putL,leW_putL]
theorem putLL_ld {b:Bs} (h:b.length=8):putLL (leW (sub b 0 4),leW (sub b 4 4))=b:=by
 rw[putLL,putL_leW (by rw[sub_length];omega),putL_leW (by rw[sub_length];omega)]
 exact sub_cat h
theorem xDecEnc (k:List UInt32) (x):xDec k (xEnc k x)=x:=by
 obtain⟨v,w,s⟩:=x
 simp only[xDec,xEnc,Z1]
theorem xEncDec (k:List UInt32) (x):xEnc k (xDec k x)=x:=by
 obtain⟨v,w,s⟩:=x
 simp only[xDec,xEnc,Z0]
theorem xEnc_s (k:List UInt32) (n:Nat) (x):(it (xEnc k) n x).2.2=it (· +golden) n x.2.2:=by
 induction n with
 |zero=>rfl
 |succ n ih=>show(xEnc k _).2.2=_+golden;rw[←ih];rfl
theorem xDec_s (k:List UInt32) (n:Nat) (x):(it (xDec k) n x).2.2=it (· -golden) n x.2.2:=by
 induction n with
 |zero=>rfl
 |succ n ih=>show(xDec k _).2.2=_-golden;rw[←ih];rfl
theorem gold32:it (· +golden) 32 0=3337565984:=by decide
theorem gold0:it (· -golden) 32 3337565984=0:=by decide
def xteaE (k:List UInt32) (p:W2):W2:=((it (xEnc k) 32 (p.1,p.2,0)).1,(it (xEnc k) 32 (p.1,p.2,0)).2.1)
def xteaD (k:List UInt32) (p:W2):W2:=((it (xDec k) 32 (p.1,p.2,3337565984)).1,(it (xDec k) 32 (p.1,p.2,3337565984)).2.1)
theorem xteaDE (k p):xteaD k (xteaE k p)=p:=by
 have h:=it_inv (xDecEnc k) 32 (p.1,p.2,0)
 have hs:=(xEnc_s k 32 (p.1,p.2,0)).trans gold32
 have e:((it (xEnc k) 32 (p.1,p.2,0)).1,(it (xEnc k) 32 (p.1,p.2,0)).2.1,(3337565984:UInt32))=it (xEnc k) 32 (p.1,p.2,0):=by rw[←hs]
 simp only[xteaD,xteaE,e,h]
theorem xteaED (k p):xteaE k (xteaD k p)=p:=by
 have h:=it_inv (xEncDec k) 32 (p.1,p.2,3337565984)
 have hs:=(xDec_s k 32 (p.1,p.2,3337565984)).trans gold0
 have e:((it (xDec k) 32 (p.1,p.2,3337565984)).1,(it (xDec k) 32 (p.1,p.2,3337565984)).2.1,(0:UInt32))=it (xDec k) 32 (p.1,p.2,3337565984):=by rw[←hs]
 simp only[xteaD,xteaE,e,h]
theorem xF_eq (key:Bs) (back:Bool) (b:Bs):xF key back b=if back then xteaD (wrds beW key 4) (beW (sub b 0 4),beW (sub b 4 4))else xteaE (wrds beW key 4) (beW (sub b 0 4),beW (sub b 4 4)):=by
 cases back
 ·unfold xF xteaE;rw[if_neg (by decide),if_neg (by decide)]
 ·unfold xF xteaD;rw[if_pos rfl,if_pos rfl]
theorem xtea_inv {key:Bs} {b:Bs} (hb:b.length=8) (back:Bool):putBB (xF key (!back) (putBB (xF key back b)))=b:=by
 rw[xF_eq,ld_putBB,xF_eq]
 cases back
 ·simp only[Bool.not_false,if_true]
  rw[if_neg (by decide),xteaDE,putBB_ld hb]
 ·simp only[Bool.not_true,if_true]
  rw[if_neg (by decide),xteaED,putBB_ld hb]
def swp {α:Type} (x:α×α):α×α:=(x.2,x.1)
theorem feis:∀(ks:List UInt32) (x:W2),swp (ks.reverse.foldl mRound (swp (ks.foldl mRound x)))=x
 |[],_=>rfl
 |k::r,x=>by
  rw[List.reverse_cons,Zx,Zw,Zw,List.foldl_nil]
  have:=feis r (mRound x k)
  have e:r.reverse.foldl mRound (swp (r.foldl mRound (mRound x k)))=swp (mRound x k):=(congrArg swp this :)
  rw[e]
  simp only[swp,mRound,xor_can]
theorem mTurn_inv (ks:List UInt32) (x:W2):mTurn ks.reverse (mTurn ks x.1 x.2).1 (mTurn ks x.1 x.2).2=x:=by
 obtain⟨v,w⟩:=x
 have h:=feis ks (v,w)
 unfold mTurn
 generalize ks.foldl mRound (v,w)=z at h ⊢
 exact h
theorem magma_inv {key:Bs} {b:Bs} (hb:b.length=8) (back:Bool):putBB (mF key (!back) (putBB (mF key back b)))=b:=by
 have h:=ld_putBB (mF key back b)
 have h1:beW (sub (putBB (mF key back b)) 0 4)=(mF key back b).1:=congrArg Prod.fst h
 have h2:beW (sub (putBB (mF key back b)) 4 4)=(mF key back b).2:=congrArg Prod.snd h
 rw[mF,h1,h2]
 cases back
 ·rw[if_pos (by rfl)]
  simp only[mF]
  rw[if_neg (by decide)]
  rw[mTurn_inv (mKeys (wrds beW key 8)) (beW (sub b 0 4),beW (sub b 4 4)),putBB_ld hb]
 ·rw[if_neg (by decide)]
  simp only[mF,if_true]
  have:=mTurn_inv (mKeys (wrds beW key 8)).reverse (beW (sub b 0 4),beW (sub b 4 4))
  rw[Z4]at this
  rw[this,putBB_ld hb]
theorem rBack_step (s:List UInt32) (x:W2) (r:Nat):rBack s (rStep s x r) r=x:=by
 obtain⟨a,c⟩:=x
 have h32:∀v:UInt32,(v%32).toNat<32:=fun v=>by rw[UInt32.toNat_mod];exact Zu _ (by decide)
 have e1:rB s r (rStep s (a,c) r)=c:=by
  simp only[rB,rStep,Z1]
  rw[rol_inv _ (h32 _) (Zu _ (by decide)) (by have:=h32 (rA s r (a,c));omega),xor_can]
 simp only[rBack,e1]
 simp only[rStep,rA,Z1]
 rw[rol_inv _ (h32 _) (Zu _ (by decide)) (by have:=h32 c;omega),xor_can]
theorem rStep_back (s:List UInt32) (x:W2) (r:Nat):rStep s (rBack s x r) r=x:=by
 obtain⟨a,c⟩:=x
 have h32:∀v:UInt32,(v%32).toNat<32:=fun v=>by rw[UInt32.toNat_mod];exact Zu _ (by decide)
 have e1:rA s r (rBack s (a,c) r)=a:=by
  simp only[rA,rBack]
  rw[xor_can,rol_inv _ (Zu _ (by decide)) (h32 _) (by have:=h32 (rB s r (a,c));omega),Z0]
 simp only[rStep,e1]
 simp only[rBack,rB]
 rw[xor_can,rol_inv _ (Zu _ (by decide)) (h32 _) (by have:=h32 a;omega),Z0]
theorem rG_inv {K:List UInt32} {b:Bs} (hb:b.length=8) (back:Bool):putLL (rG K (!back) (putLL (rG K back b)))=b:=by
 have h:=ld_putLL (rG K back b)
 cases back
 ·simp only[rG,Bool.not_false]at h ⊢
  rw[h]
  have e:rDecN K (rEncN K (leW (sub b 0 4),leW (sub b 4 4)) 12) 12=(leW (sub b 0 4)+K.getD 0 0,leW (sub b 4 4)+K.getD 1 0):=fold_inv (rBack_step K) 12 _
  rw[e]
  simp only[Z1]
  exact putLL_ld hb
 ·simp only[rG,Bool.not_true]at h ⊢
  rw[h,rEncN]
  simp only[Z0]
  have e:=fold_inv' (rStep_back K) 12 (leW (sub b 0 4),leW (sub b 4 4))
  exact(congrArg putLL e).trans (putLL_ld hb)
def sqP (x:Nat):Nat:=x*x%65537
theorem sqP_mul (x y:Nat):sqP (x*y%65537)=sqP x*sqP y%65537:=by
 unfold sqP
 rw[←Z8,←Z8,Nat.mul_mul_mul_comm]
theorem sqN_mul (x y:Nat):∀n,it sqP (n+1) (x*y)=it sqP (n+1) x*it sqP (n+1) y%65537
 |0=>by show(x*y)*(x*y)%65537=(x*x%65537)*(y*y%65537)%65537;rw[←Z8,Nat.mul_mul_mul_comm]
 |n+1=>by
  show sqP (it sqP (n+1) (x*y))=sqP (it sqP (n+1) x)*sqP (it sqP (n+1) y)%65537
  rw[sqN_mul x y n,sqP_mul]
theorem sqP_neg {r:Nat} (h:r≤65537):sqP (65537-r)=sqP r:=by
 unfold sqP
 obtain⟨m,hm⟩:∃m,m+r=65537:=⟨65537-r,by omega⟩
 rw[show 65537-r=m by omega]
 have e1:m*m+m*r=65537*m:=by rw[←Nat.mul_add,hm,Jt]
 have e2:m*r+r*r=65537*r:=by rw[←Nat.add_mul,hm]
 generalize m*m=a at e1 ⊢
 generalize m*r=b at e1 e2
 generalize r*r=c at e2 ⊢
 omega
theorem ferm_small:∀x,x<257→1≤x→it sqP 16 x=1:=by decide +kernel
theorem p_small:∀q,q<257→2≤q→65537%q≠0:=by decide +kernel
theorem ferm:∀x,1≤x→x<65537→it sqP 16 x=1:=by
 intro x
 induction x using Nat.strongRecOn with
 |_ x ih=>
  intro h1 h2
  by_cases hs:x<257
  ·exact ferm_small x hs h1
  ·have hdm:=Zz 65537 x
   have hr:=Zu 65537 (show x>0 by omega)
   have hq:65537/x<257:=by
    rw[Nat.div_lt_iff_lt_mul (by omega)];omega
   have hq1:1≤65537/x:=by
    rw[Nat.le_div_iff_mul_le (by omega)];omega
   generalize 65537/x=q at hdm hq hq1
   generalize 65537%x=r at hdm hr
   have hr0:1≤r:=by
    rcases Nat.eq_zero_or_pos r with h0|h0
    ·exfalso
     subst h0
     rw[Ju]at hdm
     rcases Nat.lt_or_ge q 2 with h|h
     ·obtain rfl:q=1:=by omega
      omega
     ·exact p_small q hq h (by rw[←hdm];exact Nat.mul_mod_left _ _)
    ·exact h0
   have f1:=ih q (by omega) hq1 (by omega)
   have f2:=ih r hr hr0 (by omega)
   have e:=sqN_mul x q 15
   rw[f1,Zg]at e
   have e2:it sqP 16 (x*q)=it sqP 16 r:=by
    rw[show x*q=65537-r by omega]
    show it sqP 16 (65537-r)=_
    have:∀y,it sqP 16 y=it sqP 15 (sqP y):=fun y=>(it_in sqP 15 y).symm
    rw[this,this,sqP_neg (by omega)]
   have hlt:it sqP 16 x<65537:=Zu _ (by decide)
   rw[e2,f2,Zr hlt]at e
   exact e.symm
theorem st16_pos {a:Nat} (h:a<65536):1≤st16 a∧st16 a<65537:=by unfold st16;split<;>omega
theorem mul_ne {x y:Nat} (hx:1≤x∧x<65537) (hy:1≤y∧y<65537):x*y%65537≠0:=by
 intro h
 have e:=sqN_mul x y 15
 rw[ferm x hx.1 hx.2,ferm y hy.1 hy.2]at e
 have e2:it sqP 16 (x*y)=0:=by
  have h0:sqP (x*y)=0:=by unfold sqP;rw[Z8,h]
  have:it sqP 16 (x*y)=it sqP 15 (sqP (x*y)):=(it_in sqP 15 _).symm
  rw[this,h0];decide
 rw[e2]at e
 exact absurd e (by decide)
theorem st16_mod {r:Nat} (h1:1≤r) (h2:r<65537):st16 (r%65536)=r:=by unfold st16;split<;>omega
theorem st16_mul {a b:Nat} (ha:a<65536) (hb:b<65536):st16 (mulI a b)=st16 a*st16 b%65537:=by
 have h:=mul_ne (st16_pos ha) (st16_pos hb)
 exact st16_mod (by omega) (Zu _ (by decide))
theorem st16_inj {a b:Nat} (ha:a<65536) (hb:b<65536) (h:st16 a=st16 b):a=b:=by
 unfold st16 at h;split at h<;>split at h<;>omega
theorem inv_pow {a:Nat} (ha:a<65536):∀k,k≤16→st16 (it iStep k (1,a,65535)).1*st16 a%65537=it sqP k (st16 a)%65537∧st16 (it iStep k (1,a,65535)).2.1=it sqP k (st16 a)%65537
 |0,_=>⟨by show st16 1*st16 a%65537=st16 a%65537;rw[show st16 1=1 from rfl,Nat.one_mul],(Zr (st16_pos ha).2).symm⟩
 |k+1,hk=>by
  obtain⟨h1,h2⟩:=inv_pow ha k (by omega)
  obtain⟨b1,b2,b3⟩:=iStep_ok ha k
  have hodd:(it iStep k (1,a,65535)).2.2%2=1:=by
   rw[b3]
   have:∀k,k<16→65535/2^k%2=1:=by decide
   exact this k (by omega)
  show st16 (iStep (it iStep k (1,a,65535))).1*st16 a%65537=sqP (it sqP k (st16 a))%65537∧st16 (iStep (it iStep k (1,a,65535))).2.1=sqP (it sqP k (st16 a))%65537
  generalize it iStep k (1,a,65535)=z at*
  simp only[iStep,if_pos hodd]
  have hs:sqP (it sqP k (st16 a))%65537=(it sqP k (st16 a)%65537)*(it sqP k (st16 a)%65537)%65537:=by
   unfold sqP;rw[Nat.mod_mod,←Z8]
  rw[st16_mul b1 b2,st16_mul b2 b2,hs,←h2]
  refine⟨?_,rfl⟩
  rw[Je,Nat.mul_right_comm,←Je,h1,←h2]
theorem invI_st {a:Nat} (ha:a<65536):st16 a*st16 (invI a)%65537=1:=by
 have h:=(inv_pow ha 16 (by decide)).1
 rw[ferm _ (st16_pos ha).1 (st16_pos ha).2]at h
 rw[Jt];exact h
theorem mul_inv {a k:Nat} (ha:a<65536) (hk:k<65536):mulI (mulI a k) (invI k)=a:=by
 refine st16_inj (mulI_lt _ _) ha ?_
 rw[st16_mul (mulI_lt _ _) (invI_lt hk),st16_mul ha hk,Je,Nat.mul_assoc,Z8,invI_st hk,Zg,Nat.mod_mod,Zr (st16_pos ha).2]
theorem inv_mul {a k:Nat} (ha:a<65536) (hk:k<65536):mulI (mulI a (invI k)) k=a:=by
 refine st16_inj (mulI_lt _ _) ha ?_
 rw[st16_mul (mulI_lt _ _) hk,st16_mul ha (invI_lt hk),Je,Nat.mul_assoc,Jt (st16 (invI k)),Z8,invI_st hk,Zg,Nat.mod_mod,Zr (st16_pos ha).2]
theorem less_add {a k:Nat} (ha:a<65536) (hk:k<65536):lessI (addI a k) k=a:=by unfold lessI addI;omega
theorem add_less {a k:Nat} (ha:a<65536) (hk:k<65536):addI (lessI a k) k=a:=by unfold lessI addI;omega
theorem xorN_can (a b:Nat):a^^^b^^^b=a:=by rw[Nat.xor_assoc,Nat.xor_self,Nat.xor_zero]
theorem xorN_mid (a d g:Nat):(a^^^g)^^^(d^^^g)=a^^^d:=by
 rw[Nat.xor_assoc,Nat.xor_comm g,xorN_can]
theorem bkM_mix (k o) (z:Q4):bkM k o (mix4 k o z)=sw4 z:=by
 obtain⟨a,c,d,e⟩:=z
 simp only[bkM,mix4,sw4]
 have f:∀g h,maF k o (a^^^g) (c^^^h) (d^^^g) (e^^^h)=maF k o a c d e:=fun g h=>by unfold maF;rw[xorN_mid]
 have g':∀g h,maG k o (a^^^g) (c^^^h) (d^^^g) (e^^^h)=maG k o a c d e:=fun g h=>by unfold maG;rw[xorN_mid,f]
 have h':∀g h,maH k o (a^^^g) (c^^^h) (d^^^g) (e^^^h)=maH k o a c d e:=fun g h=>by unfold maH;rw[f,g']
 rw[g',h',xorN_can,xorN_can,xorN_can,xorN_can]
theorem mix_bkM (k o) (z:Q4):mix4 k o (sw4 (bkM k o z))=z:=by
 obtain⟨a,d,c,e⟩:=z
 simp only[bkM,mix4,sw4]
 have f:∀g h,maF k o (a^^^g) (c^^^h) (d^^^g) (e^^^h)=maF k o a c d e:=fun g h=>by unfold maF;rw[xorN_mid]
 have g':∀g h,maG k o (a^^^g) (c^^^h) (d^^^g) (e^^^h)=maG k o a c d e:=fun g h=>by unfold maG;rw[xorN_mid,f]
 have h':∀g h,maH k o (a^^^g) (c^^^h) (d^^^g) (e^^^h)=maH k o a c d e:=fun g h=>by unfold maH;rw[f,g']
 rw[g',h',xorN_can,xorN_can,xorN_can,xorN_can]
theorem bkL_lay {k:List Nat} (hk:okK k) (o) {z:Q4} (hz:okQ z):bkL k o (sw4 (lay4 k o z))=z:=by
 obtain⟨a,c,d,e⟩:=z
 obtain⟨h1,h2,h3,h4⟩:=hz
 simp only[bkL,lay4,sw4]
 rw[mul_inv h1 (hk _),less_add h2 (hk _),less_add h3 (hk _),mul_inv h4 (hk _)]
theorem lay_bkL {k:List Nat} (hk:okK k) (o) {z:Q4} (hz:okQ z):lay4 k o (bkL k o z)=sw4 z:=by
 obtain⟨a,d,c,e⟩:=z
 obtain⟨h1,h2,h3,h4⟩:=hz
 simp only[bkL,lay4,sw4]
 rw[inv_mul h1 (hk _),add_less h3 (hk _),add_less h2 (hk _),inv_mul h4 (hk _)]
theorem bk0_lay {k:List Nat} (hk:okK k) (o) {z:Q4} (hz:okQ z):bk0 k o (lay4 k o (sw4 z))=z:=by
 obtain⟨a,c,d,e⟩:=z
 obtain⟨h1,h2,h3,h4⟩:=hz
 simp only[bk0,lay4,sw4]
 rw[mul_inv h1 (hk _),less_add h3 (hk _),less_add h2 (hk _),mul_inv h4 (hk _)]
theorem lay_bk0 {k:List Nat} (hk:okK k) (o) {z:Q4} (hz:okQ z):lay4 k o (sw4 (bk0 k o z))=z:=by
 obtain⟨a,d,c,e⟩:=z
 obtain⟨h1,h2,h3,h4⟩:=hz
 simp only[bk0,lay4,sw4]
 rw[inv_mul h1 (hk _),add_less h2 (hk _),add_less h3 (hk _),inv_mul h4 (hk _)]
theorem fold_invP {α:Type} {P:α→Prop} {st bk:α→Nat→α} (h:∀x r,P x→bk (st x r) r=x) (hP:∀x r,P x→P (st x r)):∀(n:Nat) (x:α),P x→(List.range n).foldl (fun x r=>bk x (n-1-r)) ((List.range n).foldl st x)=x
 |0,_,_=>rfl
 |n+1,x,hx=>by
  have e1:(List.range (n+1)).foldl st x=st ((List.range n).foldl st x) n:=by rw[Zo,Zx];rfl
  have hp:∀m,P ((List.range m).foldl st x):=by
   intro m
   induction m with
   |zero=>exact hx
   |succ m ih=>rw[Zo,Zx];exact hP _ _ ih
  rw[e1,Jk,Zw,List.foldl_map]
  rw[show n+1-1-0=n by omega,h _ _ (hp n)]
  have e:∀(l:List Nat) (y:α),l.foldl (fun x r=>bk x (n+1-1-Nat.succ r)) y=l.foldl (fun x r=>bk x (n-1-r)) y:=by
   intro l y
   congr 1
   funext x r
   congr 1
   omega
  rw[e]
  exact fold_invP h hP n x hx
theorem fold_invP' {α:Type} {P:α→Prop} {st bk:α→Nat→α} (h:∀x r,P x→st (bk x r) r=x) (hP:∀x r,P x→P (bk x r)) (n:Nat) (x:α) (hx:P x):(List.range n).foldl st ((List.range n).foldl (fun x r=>bk x (n-1-r)) x)=x:=by
 have:=fold_invP (P:=P) (st:=fun x r=>bk x (n-1-r)) (bk:=fun x r=>st x (n-1-r)) (fun x r=>h x _) (fun x r=>hP x _) n x hx
 refine Eq.trans (fold_congr (fun y r hr=> ?_) _) this
 show st y r=st y (n-1-(n-1-r))
 rw[show n-1-(n-1-r)=r by omega]
theorem ideaDE {k:List Nat} (hk:okK k) {x:Q4} (hx:okQ x):turnI (undI k) (turnI k x)=x:=by
 rw[←bk_turn k hk]
 unfold bkN turnI
 rw[bk0_lay hk 48 (rndN_ok k hx 8)]
 exact fold_invP (P:=okQ) (st:=rnd k) (bk:=fun x r=>bkL k (6*r) (bkM k (6*r) x)) (fun x r h=>by
  show bkL k (6*r) (bkM k (6*r) (mix4 k (6*r) (lay4 k (6*r) x)))=x
  rw[bkM_mix,bkL_lay hk _ h]) (fun x r h=>mix4_ok _ _ (lay4_ok _ _ _)) 8 x hx
theorem ideaED {k:List Nat} (hk:okK k) {x:Q4} (hx:okQ x):turnI k (turnI (undI k) x)=x:=by
 rw[←bk_turn k hk]
 unfold bkN turnI
 have e:=fold_invP' (P:=okQ) (st:=rnd k) (bk:=fun x r=>bkL k (6*r) (bkM k (6*r) x)) (fun x r h=>by
  show mix4 k (6*r) (lay4 k (6*r) (bkL k (6*r) (bkM k (6*r) x)))=x
  rw[lay_bkL hk _ ⟨xor16 h.1 (mulI_lt _ _),xor16 h.2.1 (mulI_lt _ _),xor16 h.2.2.1 (addI_lt _ _),xor16 h.2.2.2 (addI_lt _ _)⟩,mix_bkM]) (fun x r h=>⟨mulI_lt _ _,lessI_lt _ _,lessI_lt _ _,mulI_lt _ _⟩) 8 (bk0 k 48 x) ⟨mulI_lt _ _,lessI_lt _ _,lessI_lt _ _,mulI_lt _ _⟩
 have e':rndN k ((List.range 8).foldl (bkR k) (bk0 k 48 x)) 8=bk0 k 48 x:=e
 rw[e',lay_bk0 hk 48 hx]
theorem ldQ_putQ {x:Q4} (h:okQ x):ldQ (putQ x)=x:=by
 obtain⟨a,c,d,e⟩:=x
 obtain⟨h1,h2,h3,h4⟩:=h
 have hn:∀n,n<65536→(Zs (n/256)).toNat*256+(Zs n).toNat=n:=fun n hn=>by
  simp only[Zy];omega
 show(_,_,_,_)=(a,c,d,e)
 have e1:w16 (putQ (a,c,d,e)) 0=a:=hn a h1
 have e2:w16 (putQ (a,c,d,e)) 1=c:=hn c h2
 have e3:w16 (putQ (a,c,d,e)) 2=d:=hn d h3
 have e4:w16 (putQ (a,c,d,e)) 3=e:=hn e h4
 rw[e1,e2,e3,e4]
theorem putQ_ldQ {b:Bs} (h:b.length=8):putQ (ldQ b)=b:=by
 match b,h with
 |[b0,b1,b2,b3,b4,b5,b6,b7],_=>
  have hp:∀x y:UInt8,putN (x.toNat*256+y.toNat)=[x,y]:=fun x y=>by
   have hx:=x.toNat_lt;have hy:=y.toNat_lt
   have e:∀(x:UInt8) (n:Nat),n%256=x.toNat→Zs n=x:=fun x n h=>by
    apply Z7.1;rw[Zy,←h]
   rw[putN,e x _ (by omega),e y _ (by omega)]
  show putN (b0.toNat*256+b1.toNat)++putN (b2.toNat*256+b3.toNat)++putN (b4.toNat*256+b5.toNat)++putN (b6.toNat*256+b7.toNat)=_
  rw[hp,hp,hp,hp];rfl
theorem ldQ_ok (b):okQ (ldQ b):=⟨w16_lt _ _,w16_lt _ _,w16_lt _ _,w16_lt _ _⟩
theorem turnI_ok (k x):okQ (turnI k x):=lay4_ok _ _ _
theorem idea_inv {key:Bs} {b:Bs} (hb:b.length=8) (back:Bool):putQ (turnI (if !back then undI (keysI key)else keysI key) (ldQ (putQ (turnI (if back then undI (keysI key)else keysI key) (ldQ b)))))=b:=by
 rw[ldQ_putQ (turnI_ok _ _)]
 cases back
 ·rw[if_pos (by rfl),if_neg (by decide),ideaDE (keysI_ok key) (ldQ_ok b),putQ_ldQ hb]
 ·rw[if_neg (by decide),if_pos (by rfl),ideaED (keysI_ok key) (ldQ_ok b),putQ_ldQ hb]
theorem wh_wh (k o) (x:W4):wh k o (wh k o x)=x:=by
 obtain⟨a,b,c,d⟩:=x
 simp only[wh,xor_can]
theorem swW_swW (x:W4):swW (swW x)=x:=rfl
theorem tDs_tEs (k s) (x:W4) (r):swW (tDs k s (swW (tEs k s x r)) r)=x:=by
 obtain⟨a,b,c,d⟩:=x
 simp only[swW,tDs,tEs]
 rw[rol_inv _ (by decide) (by decide) (by decide),xor_can,xor_can,rol_inv _ (by decide) (by decide) (by decide)]
theorem tEs_tDs (k s) (x:W4) (r):tEs k s (swW (tDs k s (swW x) r)) r=x:=by
 obtain⟨a,b,c,d⟩:=x
 simp only[swW,tDs,tEs]
 rw[xor_can,rol_inv _ (by decide) (by decide) (by decide),rol_inv _ (by decide) (by decide) (by decide),xor_can]
theorem fold_conj {α:Type} {f:α→Nat→α} {g:α→α} (hg:∀x,g (g x)=x):∀(l:List Nat) (y:α),l.foldl (fun x r=>g (f (g x) r)) y=g (l.foldl f (g y))
 |[],y=>(hg y).symm
 |a::l,y=>by
  rw[Zw,Zw,fold_conj hg l,hg]
theorem tDn_conj (k s) (y:W4):(List.range 16).foldl (fun x r=>swW (tDs k s (swW x) (16-1-r))) y=swW (tDn k s (swW y) 16):=
 fold_conj (f:=fun x r=>tDs k s x (15-r)) swW_swW (List.range 16) y
theorem twDE (k s) (x:W4):twD k s (twE k s x)=x:=by
 unfold twD twE
 rw[wh_wh]
 have e:=fold_inv (st:=tEs k s) (bk:=fun x r=>swW (tDs k s (swW x) r)) (tDs_tEs k s) 16 (wh k 0 x)
 rw[←tDn_conj]
 exact(congrArg (wh k 0) e).trans (wh_wh _ _ _)
theorem twED (k s) (x:W4):twE k s (twD k s x)=x:=by
 unfold twD twE
 rw[wh_wh]
 have e:=fold_inv' (st:=tEs k s) (bk:=fun x r=>swW (tDs k s (swW x) r)) (tEs_tDs k s) 16 (swW (wh k 4 x))
 rw[tDn_conj,swW_swW]at e
 have e':tEn k s (swW (tDn k s (wh k 4 x) 16)) 16=swW (wh k 4 x):=e
 rw[e',swW_swW,wh_wh]
theorem putW_eq (x:W4):putW x 4=putL x.1++(putL x.2.1++(putL x.2.2.1++(putL x.2.2.2++[]))):=rfl
theorem sub_off {a b:Bs} {n i m:Nat} (ha:a.length=n):sub (a++b) (n+i) m=sub b i m:=by
 subst ha
 simp only[sub,Jd,List.drop_append]
 rw[List.drop_eq_nil_of_le (by omega),Jf,show a.length+i-a.length=i by omega]
theorem sub_fst {a b:Bs} {n:Nat} (ha:a.length=n):sub (a++b) 0 n=a:=by subst ha;simp[sub]
theorem ldW_putW (x:W4):ldW (putW x 4)=x:=by
 obtain⟨a,b,c,d⟩:=x
 rw[putW_eq]
 unfold ldW
 have e1:∀t,sub (putL a++t) 0 4=putL a:=fun t=>sub_fst (putL_len a)
 have e2:∀t,sub (putL a++(putL b++t)) 4 4=putL b:=fun t=>(sub_off (i:=0) (putL_len a)).trans (sub_fst (putL_len b))
 have e3:∀t,sub (putL a++(putL b++(putL c++t))) 8 4=putL c:=fun t=>(sub_off (i:=4) (putL_len a)).trans ((sub_off (i:=0) (putL_len b)).trans (sub_fst (putL_len c)))
 have e4:∀t,sub (putL a++(putL b++(putL c++(putL d++t)))) 12 4=putL d:=fun t=>(sub_off (i:=8) (putL_len a)).trans ((sub_off (i:=4) (putL_len b)).trans ((sub_off (i:=0) (putL_len c)).trans (sub_fst (putL_len d))))
 rw[e1,e2,e3,e4,leW_putL,leW_putL,leW_putL,leW_putL]
theorem putW_ldW {b:Bs} (h:b.length=16):putW (ldW b) 4=b:=by
 rw[putW_eq]
 unfold ldW
 simp only
 rw[putL_leW (by rw[sub_length];omega),putL_leW (by rw[sub_length];omega),putL_leW (by rw[sub_length];omega),putL_leW (by rw[sub_length];omega),Jg]
 have e:∀(i:Nat),sub b i 4++b.drop (i+4)=b.drop i:=fun i=>by
  rw[←List.drop_drop];exact Ja 4 _
 have e3:sub b 12 4=b.drop 12:=sub_end _ _ _ (by omega)
 rw[e3,e 8,e 4]
 exact Ja 4 b
theorem two_inv {k s:List UInt32} {b:Bs} (hb:b.length=16) (back:Bool):putW (if !back then twD k s (ldW (putW (if back then twD k s (ldW b)else twE k s (ldW b)) 4))else twE k s (ldW (putW (if back then twD k s (ldW b)else twE k s (ldW b)) 4))) 4=b:=by
 rw[ldW_putW]
 cases back
 ·rw[if_pos (by rfl),if_neg (by decide),twDE,putW_ldW hb]
 ·rw[if_neg (by decide),if_pos (by rfl),twED,putW_ldW hb]
theorem xor8_can (a b:UInt8):a^^^b^^^b=a:=by rw[Z6,UInt8.xor_self,Jp]
theorem xorL_can:∀{a k:Bs},a.length≤k.length→xorL (xorL a k) k=a
 |[],_,_=>by simp[xorL]
 |a::r,[],h=>by simp at h
 |a::r,b::k,h=>by
  have ih:=xorL_can (a:=r) (k:=k) (by simpa using h)
  unfold xorL at ih ⊢
  rw[Jj,Jj,ih,xor8_can]
theorem ext_getD {a b:Bs} (hl:a.length=b.length) (h:∀i,i<a.length→a.getD i 0=b.getD i 0):a=b:=by
 apply List.ext_getElem hl
 intro i h1 h2
 have:=h i h1
 rwa [Zc,Zk h1,Zc,Zk h2]at this
theorem box_inv:∀j,j<4→∀x,x<256→((aBox ((j+2)%4)).getD ((aBox j).getD x 0).toNat 0).toNat=x:=by decide +kernel
theorem aLay_get {k b n i} (h:i<n):(aLay k b n).getD i 0=(aBox ((i+2*(k-1))%4)).getD (b.getD i 0).toNat 0:=by simp[aLay,Zc,h]
theorem aLay_inv {b:Bs} {k j:Nat} (hb:b.length=16) (h:k=1∧j=2∨k=2∧j=1):aLay k (aLay j b 16) 16=b:=by
 refine ext_getD (by rw[aLay_len,hb]) fun i h1=> ?_
 have hi:i<16:=by rw[aLay_len]at h1;exact h1
 rw[aLay_get hi,aLay_get hi]
 apply Z7.1
 have hx:=(b.getD i 0).toNat_lt
 rcases h with ⟨rfl,rfl⟩|⟨rfl,rfl⟩
 ·have:=box_inv ((i+2*(2-1))%4) (Zu _ (by decide)) _ hx
  rw[show ((i+2*(2-1))%4+2)%4=(i+2*(1-1))%4 by omega]at this
  exact this
 ·have:=box_inv ((i+2*(1-1))%4) (Zu _ (by decide)) _ hx
  rw[show ((i+2*(1-1))%4+2)%4=(i+2*(2-1))%4 by omega]at this
  exact this
def xS (f:Nat→UInt8) (n:Nat):UInt8:=(List.range n).foldl (fun s i=>s^^^f i) 0
theorem xS_succ (f n):xS f (n+1)=xS f n^^^f n:=by simp[xS,Zo]
theorem xS_add (f g:Nat→UInt8):∀n,xS (fun i=>f i^^^g i) n=xS f n^^^xS g n
 |0=>by show(0:UInt8)=0^^^0;decide
 |n+1=>by
  rw[xS_succ,xS_succ,xS_succ,xS_add f g n]
  generalize xS f n=a;generalize xS g n=b;generalize f n=c;generalize g n=d
  rw[Z6,Z6,←Z6 b,UInt8.xor_comm b,Z6 c]
theorem xS_zero:∀n,xS (fun _=>0) n=0
 |0=>rfl
 |n+1=>by rw[xS_succ,xS_zero n];decide
def xM (b:Bs) (m:Nat):UInt8:=xS (fun i=>if m.testBit i then b.getD i 0 else 0) 16
theorem xM_xor (b m n):xM b (m^^^n)=xM b m^^^xM b n:=by
 unfold xM
 rw[←xS_add]
 congr 1
 funext i
 rw[Nat.testBit_xor]
 cases m.testBit i<;>cases n.testBit i<;>simp
theorem xS_one (v:UInt8) (j:Nat):∀n,xS (fun i=>if j=i then v else 0) n=if j<n then v else 0
 |0=>by rw[if_neg (by omega)];rfl
 |n+1=>by
  rw[xS_succ,xS_one v j n]
  by_cases h:j<n
  ·rw[if_pos h,if_neg (by omega),if_pos (by omega),Jp]
  ·by_cases h2:j=n
   ·rw[if_neg h,if_pos h2,if_pos (by omega),UInt8.zero_xor]
   ·rw[if_neg h,if_neg h2,if_neg (by omega),Jp]
theorem xM_pow {b:Bs} {j:Nat} (h:j<16):xM b (2^j)=b.getD j 0:=by
 unfold xM
 have e:(fun i=>if (2^j).testBit i then b.getD i 0 else 0)=fun i=>if j=i then b.getD j 0 else 0:=by
  funext i
  rw[Nat.testBit_two_pow]
  by_cases hi:j=i
  ·subst hi;simp
  ·simp[hi]
 rw[e,xS_one,if_pos h]
theorem xM_zero (b):xM b 0=0:=by
 unfold xM
 have e:(fun i=>if (0:Nat).testBit i then b.getD i 0 else 0)=fun _=>(0:UInt8):=by funext i;simp
 rw[e,xS_zero]
theorem xM_fold (b:Bs) (f:Nat→Nat):∀n,(List.range n).foldl (fun s t=>s^^^xM b (f t)) 0=xM b ((List.range n).foldl (fun m t=>m^^^f t) 0)
 |0=>(xM_zero b).symm
 |n+1=>by
  rw[Zo,Zx,Zx]
  show _^^^xM b (f n)=xM b (_^^^f n)
  rw[xM_xor,xM_fold b f n]
def aMk (p:Nat):Nat:=(List.range 7).foldl (fun m t=>m^^^2^((aSum p).getD t 0)) 0
theorem aSum_l16:∀p,p<16→∀t,t<7→(aSum p).getD t 0<16:=by decide +kernel
theorem aMk_two:∀p,p<16→(List.range 7).foldl (fun m t=>m^^^aMk ((aSum p).getD t 0)) 0=2^p:=by decide +kernel
theorem aX_mask {b:Bs} {p:Nat} (hp:p<16):aX b p 7=xM b (aMk p):=by
 unfold aMk
 rw[←xM_fold]
 exact fold_congr (fun x t ht=>by rw[xM_pow (aSum_l16 p hp t ht)]) 0
theorem aMix_get {b:Bs} {p:Nat} (hp:p<16):(aMix b).getD p 0=xM b (aMk p):=by
 rw[←aX_mask hp];simp[aMix,Zc,hp]
theorem aMix_mix {b:Bs} (hb:b.length=16):aMix (aMix b)=b:=by
 refine ext_getD (by simp[aMix,hb]) fun p h1=> ?_
 have hp:p<16:=by simpa [aMix]using h1
 have e:(aMix (aMix b)).getD p 0=aX (aMix b) p 7:=by rw[aMix_get hp,←aX_mask hp]
 have e3:aX (aMix b) p 7=(List.range 7).foldl (fun s t=>s^^^xM b (aMk ((aSum p).getD t 0))) 0:=fold_congr (fun x t ht=>by rw[aMix_get (aSum_l16 p hp t ht)]) 0
 rw[e,e3,xM_fold b (fun t=>aMk ((aSum p).getD t 0)),aMk_two p hp,xM_pow hp]
theorem aMix_len' (b):(aMix b).length=16:=by simp[aMix]
theorem aria_DE {q:Nat} {key b:Bs} {n:Nat} (h:AOk q key n) (hb:b.length=16):ariaD q key n (ariaE q key n b)=b:=by
 have hK:=aKey_len h
 have hE:=aEncN_len h hb
 have h3:=h.h3
 have st:∀i,i≤n-2→aDecN q key n (ariaE q key n b) i=aEncN q key b (n-2-i):=by
  intro i
  induction i with
  |zero=>
   intro _
   show xorL (aLay 1 (xorL (xorL (aLay 2 (xorL (aEncN q key b (n-2)) (aKey q key (n-2))) 16) (aKey q key (n-1))) (aKey q key (n-1))) 16) (aKey q key (n-2))=_
   rw[xorL_can (by rw[aLay_len,hK];exact Zh _),aLay_inv (xorL_len (hE _) (hK _)) (.inl ⟨rfl,rfl⟩),xorL_can (by rw[hE,hK];exact Zh _)]
   rfl
  |succ i ih=>
   intro hi
   have e:n-2-i=n-3-i+1:=by omega
   have e2:n-2-(i+1)=n-3-i:=by omega
   show xorL (aLay (2-(n-3-i)%2) (aMix (aDecN q key n (ariaE q key n b) i)) 16) (aKey q key (n-3-i))=_
   rw[ih (by omega),e,e2]
   generalize n-3-i=r
   show xorL (aLay (2-r%2) (aMix (aMix (aLay (1+r%2) (xorL (aEncN q key b r) (aKey q key r)) 16))) 16) (aKey q key r)=_
   rw[aMix_mix (aLay_len _ _ _),aLay_inv (xorL_len (hE _) (hK _)) (by omega),xorL_can (by rw[hE,hK];exact Zh _)]
 have:=st (n-2) (Zh _)
 rw[Jr]at this
 exact this
theorem aria_ED {q:Nat} {key b:Bs} {n:Nat} (h:AOk q key n) (hb:b.length=16):ariaE q key n (ariaD q key n b)=b:=by
 have hK:=aKey_len h
 have hD:=aDecN_len (b:=b) h
 have h3:=h.h3
 have st:∀r,r≤n-2→aEncN q key (ariaD q key n b) r=aDecN q key n b (n-2-r):=by
  intro r
  induction r with
  |zero=>intro _;rfl
  |succ r ih=>
   intro hr
   have e:n-2-r=n-3-r+1:=by omega
   have e2:n-2-(r+1)=n-3-r:=by omega
   have e3:n-3-(n-3-r)=r:=by omega
   show aMix (aLay (1+r%2) (xorL (aEncN q key (ariaD q key n b) r) (aKey q key r)) 16)=_
   rw[ih (by omega),e,e2]
   show aMix (aLay (1+r%2) (xorL (xorL (aLay (2-(n-3-(n-3-r))%2) (aMix (aDecN q key n b (n-3-r))) 16) (aKey q key (n-3-(n-3-r)))) (aKey q key r)) 16)=_
   rw[e3,xorL_can (by rw[aLay_len,hK];exact Zh _),aLay_inv (aMix_len' _) (by omega),aMix_mix (hD _)]
 have e:=st (n-2) (Zh _)
 rw[Jr]at e
 unfold ariaE
 rw[e]
 show xorL (aLay 2 (xorL (xorL (aLay 1 (xorL b (aKey q key (n-1))) 16) (aKey q key (n-2))) (aKey q key (n-2))) 16) (aKey q key (n-1))=b
 rw[xorL_can (by rw[aLay_len,hK];exact Zh _),aLay_inv (xorL_len hb (hK _)) (.inr ⟨rfl,rfl⟩),xorL_can (by rw[hb,hK];exact Zh _)]
def id64:List Nat:=(List.range 64).map (· +1)
theorem perm_id {b:Bs} (hb:b.length=8):permB id64 b=b:=by
 apply tb_ext (by rw[permB_len,hb];rfl)
 intro j hj
 rw[permB_len]at hj
 have hj:j<64:=hj
 have h8:id64.length/8=8:=rfl
 unfold permB
 rw[h8,tb_pack (by omega)]
 have:id64.getD j 0=j+1:=by simp[id64,Zc,hj]
 rw[this];rfl
theorem first_I:(tFirst.map fun k=>tFirstI.getD (k-1) 0)=id64∧(tFirstI.map fun k=>tFirst.getD (k-1) 0)=id64:=by decide +kernel
theorem perm_FI {b:Bs} (hb:b.length=8):permB tFirst (permB tFirstI b)=b:=by
 rw[permB_permB (by rw[tFirstI_len]) (by rw[tFirst_len,tFirstI_len];exact tFirst_ok),first_I.1,perm_id hb]
theorem perm_IF {b:Bs} (hb:b.length=8):permB tFirstI (permB tFirst b)=b:=by
 rw[permB_permB (by rw[tFirst_len]) (by rw[tFirst_len,tFirstI_len];exact tFirstI_ok),first_I.2,perm_id hb]
theorem dRnd_inv {x:L2} {k:Bs} (h:x.1.length=4):swp (dRnd (swp (dRnd x k)) k)=x:=by
 obtain⟨a,c⟩:=x
 simp only[swp,dRnd]
 rw[xorL_can (by rw[dF_len,h];exact Zh _)]
theorem dN_inv {ks:List (Bs)} {x:L2} (h1:x.1.length=4) (h2:x.2.length=4):dN ks.reverse (swp (dN ks x ks.length)) ks.length=swp x:=by
 have e:=fold_invP (P:=fun x:L2=>x.1.length=4∧x.2.length=4) (st:=fun x i=>dRnd x (ks.getD i [])) (bk:=fun x i=>swp (dRnd (swp x) (ks.getD i []))) (fun x r h=>dRnd_inv h.1) (fun x r h=>⟨h.2,xorL_len h.1 (dF_len _ _)⟩) ks.length x ⟨h1,h2⟩
 have c:=fold_conj (f:=fun x r=>dRnd x (ks.getD (ks.length-1-r) [])) (g:=swp) (fun _=>rfl) (List.range ks.length) (dN ks x ks.length)
 have d:dN ks.reverse (swp (dN ks x ks.length)) ks.length=(List.range ks.length).foldl (fun x r=>dRnd x (ks.getD (ks.length-1-r) [])) (swp (dN ks x ks.length)):=by
  unfold dN
  exact fold_congr (fun y r hr=>by rw[rev_getD hr]) _
 rw[d]
 have:=congrArg swp (c.symm.trans e)
 exact this
theorem dOnce_inv {ks:List (Bs)} {b:Bs} (hb:b.length=8):dOnce ks.reverse (dOnce ks b)=b:=by
 obtain⟨i1,i2⟩:=dIn_len b
 obtain⟨y1,y2⟩:=dN_len (ks:=ks) i1 i2 ks.length
 have e:dIn (dOnce ks b)=swp (dN ks (dIn b) ks.length):=by
  obtain⟨s1,s2⟩:=sub_two y2 y1
  unfold dOnce dIn
  rw[perm_FI (by rw[Zb];unfold dIn at y1 y2;omega)]
  unfold dIn at s1 s2
  rw[s1,s2];rfl
 have hr:ks.reverse.length=ks.length:=Zl
 rw[dOnce,e,hr,dN_inv i1 i2]
 show permB tFirstI ((dIn b).1++(dIn b).2)=b
 have hp:(permB tFirst b).length=8:=by rw[permB_len,tFirst_len]
 have:(dIn b).1++(dIn b).2=permB tFirst b:=sub_cat (n:=4) (m:=4) hp
 rw[this,perm_IF hb]
theorem dOnce_inv' {ks:List (Bs)} {b:Bs} (hb:b.length=8):dOnce ks (dOnce ks.reverse b)=b:=by
 have:=dOnce_inv (ks:=ks.reverse) hb
 rwa [Z4]at this
theorem dB_inv:∀{K:List (List (Bs))} {b:Bs},(K.length=1∨K.length=3)→b.length=8→∀back,dBN K (!back) (dBN K back b K.length) K.length=b
 |[k],b,_,hb,false=>by show dOnce k.reverse (dOnce k b)=b;exact dOnce_inv hb
 |[k],b,_,hb,true=>by show dOnce k (dOnce k.reverse b)=b;exact dOnce_inv' hb
 |[k,l,m],b,_,hb,false=>by
  show dOnce k.reverse (dOnce l (dOnce m.reverse (dOnce m (dOnce l.reverse (dOnce k b)))))=b
  rw[dOnce_inv (dOnce_len _ _),dOnce_inv' (dOnce_len _ _),dOnce_inv hb]
 |[k,l,m],b,_,hb,true=>by
  show dOnce m (dOnce l.reverse (dOnce k (dOnce k.reverse (dOnce l (dOnce m.reverse b)))))=b
  rw[dOnce_inv' (dOnce_len _ _),dOnce_inv (dOnce_len _ _),dOnce_inv' hb]
 |[],_,h,_,_=>by simp at h
 |[_,_],_,h,_,_=>by simp at h
 |_::_::_::_::_,_,h,_,_=>by simp at h
theorem cF_inv {t:Int} {key b:Bs} {s:Nat} (ht:okTag t) (hs:cSize t=s) (hv:(key.length:Int)∈cLens t) (hb:b.length=s) (back:Bool):cF t key (!back) (cF t key back b)=b:=by
 rcases ht with rfl|rfl|rfl|rfl|rfl|rfl|rfl|rfl
 ·have h8:b.length=8:=by simp[cSize]at hs;omega
  have hn:key.length/8=1:=by simp[cLens]at hv;omega
  have hl:=dAll_len (key:=key) (n:=1) (by decide)
  show dFn key (!back) (dFn key back b)=b
  unfold dFn
  rw[hn]
  exact dB_inv (by rw[hl];decide) h8 back
 ·have h8:b.length=8:=by simp[cSize]at hs;omega
  have hn:key.length/8=2∨key.length/8=3:=by simp[cLens]at hv;omega
  show dFn key (!back) (dFn key back b)=b
  unfold dFn
  rcases hn with hn|hn
  ·have hl:=dAll_len (key:=key) (n:=2) (by decide)
   rw[hn]
   exact dB_inv (by rw[hl];decide) h8 back
  ·have hl:=dAll_len (key:=key) (n:=3) (by decide)
   rw[hn]
   exact dB_inv (by rw[hl];decide) h8 back
 ·have h8:b.length=8:=by simp[cSize]at hs;omega
  exact idea_inv h8 back
 ·have h8:b.length=8:=by simp[cSize]at hs;omega
  exact xtea_inv h8 back
 ·have h8:b.length=8:=by simp[cSize]at hs;omega
  exact magma_inv h8 back
 ·have h8:b.length=16:=by simp[cSize]at hs;omega
  exact two_inv h8 back
 ·have h8:b.length=16:=by simp[cSize]at hs;omega
  have ok:AOk (aQ key) key (aN key):=by
   have hk:key.length=16∨key.length=24∨key.length=32:=by simp[cLens]at hv;omega
   refine⟨?_,?_,?_,?_⟩<;>first|omega|(simp only[aN,aQ];omega)
  cases back
  ·exact aria_DE ok h8
  ·exact aria_ED ok h8
 ·have h8:b.length=8:=by simp[cSize]at hs;omega
  exact rG_inv h8 back
theorem Ciph.inv {t key s k xs rs} (h:Ciph t key s k xs rs) {b:Bs} (hb:b.length=s) (back:Bool):cF t key (!back) (cF t key back b)=b:=cF_inv h.ht h.hs h.kl hb back
def incN:Bs→Nat→Bs
 |b,0=>b
 |b,i+1=>if b.getD i 0+1=0 then incN (b.set i (b.getD i 0+1)) i else b.set i (b.getD i 0+1)
def incL (b:Bs):Bs:=incN b b.length
theorem incN_len:∀(i:Nat) (b:Bs),(incN b i).length=b.length
 |0,_=>rfl
 |i+1,b=>by
  unfold incN
  split
  ·rw[incN_len i,Zt]
  ·rw[Zt]
theorem incL_len (b):(incL b).length=b.length:=incN_len _ _
structure MS where
 ch:Bs
 row:Bs
 gone:Bs
def moBeg (E:Bs→Bs) (mode:Int) (s:MS):MS:=
 ⟨if mode=5 then E s.ch else if mode=6 then incL s.ch else s.ch,E s.ch,[]⟩
def moIn (back:Bool) (p o:UInt8):UInt8:=if back then p else o
def moByt (mode:Int) (back:Bool) (s:MS) (p:UInt8):UInt8×MS:=
 let o:=p^^^s.row.getD 0 0
 let g:=s.gone++[moIn back p o]
 (o,if mode=3 then ⟨s.ch.drop 1++[moIn back p o],[],g⟩else if mode=4 then (if s.row.length=1 then ⟨g,[],g⟩else ⟨s.ch,s.row.drop 1,g⟩)else ⟨s.ch,s.row.drop 1,g⟩)
def moOne (E:Bs→Bs) (mode:Int) (back:Bool) (s:MS) (p:UInt8):UInt8×MS:=
 moByt mode back (if s.row.length=0 then moBeg E mode s else s) p
def moMany (E:Bs→Bs) (mode:Int) (back:Bool):MS→Bs→Bs×MS
 |s,[]=>([],s)
 |s,p::r=>let x:=moOne E mode back s p;let y:=moMany E mode back x.2 r;(x.1::y.1,y.2)
def moBlk (E D:Bs→Bs) (mode:Int) (back:Bool) (c p:Bs):Bs×Bs:=
 if mode=1 then (if back then D p else E p,c)
 else if back then (xorL (D p) c,p)else (E (xorL p c),E (xorL p c))
def moBlks (E D:Bs→Bs) (mode:Int) (back:Bool) (n:Nat) (b c:Bs):Nat→Bs×Bs
 |0=>([],c)
 |i+1=>let x:=moBlks E D mode back n b c i;let y:=moBlk E D mode back x.2 (sub b (n*i) n);(x.1++y.1,y.2)
def moStep (E D:Bs→Bs) (n:Nat) (mode:Int) (back:Bool) (s:MS) (b:Bs):Bs×MS:=
 if mode=1∨mode=2 then ((moBlks E D mode back n b s.ch (b.length/n)).1,⟨(moBlks E D mode back n b s.ch (b.length/n)).2,s.row,s.gone⟩)
 else moMany E mode back s b
def moGrain (n:Nat) (mode:Int):Nat:=if mode=1∨mode=2 then n else 1
theorem moMany_snoc (E mode back):∀(l:Bs) (s:MS) (p:UInt8),moMany E mode back s (l++[p])=((moMany E mode back s l).1++[(moOne E mode back (moMany E mode back s l).2 p).1],(moOne E mode back (moMany E mode back s l).2 p).2)
 |[],s,p=>rfl
 |a::l,s,p=>by
  show((moOne E mode back s a).1::(moMany E mode back (moOne E mode back s a).2 (l++[p])).1,(moMany E mode back (moOne E mode back s a).2 (l++[p])).2)=_
  rw[moMany_snoc E mode back l];rfl
theorem moMany_app (E mode back):∀(l m:Bs) (s:MS),moMany E mode back s (l++m)=((moMany E mode back s l).1++(moMany E mode back (moMany E mode back s l).2 m).1,(moMany E mode back (moMany E mode back s l).2 m).2)
 |[],m,s=>rfl
 |a::l,m,s=>by
  show((moOne E mode back s a).1::(moMany E mode back (moOne E mode back s a).2 (l++m)).1,(moMany E mode back (moOne E mode back s a).2 (l++m)).2)=_
  rw[moMany_app E mode back l];rfl
theorem moMany_len (E mode back):∀(l:Bs) (s:MS),(moMany E mode back s l).1.length=l.length
 |[],_=>rfl
 |a::l,s=>by
  show(_::(moMany E mode back _ l).1).length=_
  rw[Jb,moMany_len E mode back l,Jb]
structure CI (E D:Bs→Bs) (n:Nat):Prop where
 le:∀{b:Bs},b.length=n→(E b).length=n
 ld:∀{b:Bs},b.length=n→(D b).length=n
 de:∀{b:Bs},b.length=n→D (E b)=b
 ed:∀{b:Bs},b.length=n→E (D b)=b
theorem Ciph.ci {t key s k xs rs} (h:Ciph t key s k xs rs):CI (cF t key false) (cF t key true) s:=
 ⟨fun hb=>h.len hb,fun hb=>h.len hb,fun hb=>h.inv hb false,fun hb=>h.inv hb true⟩
def plusX (a t:Bs):Bs:=xorL a t++a.drop t.length
theorem plusX_len {a t:Bs} (h:t.length≤a.length):(plusX a t).length=a.length:=by
 rw[plusX,Zb,Ze,xorL,Z5];omega
theorem plusX_full {a t:Bs} (h:t.length=a.length):plusX a t=xorL a t:=by
 rw[plusX,h,List.drop_length,Jg]
theorem xorL_comm (a b:Bs):xorL a b=xorL b a:=by
 unfold xorL
 exact List.zipWith_comm_of_comm (fun x y=>UInt8.xor_comm x y)
theorem xorL_length (a b:Bs):(xorL a b).length=min a.length b.length:=by simp[xorL]
def stE (E:Bs→Bs) (n:Nat) (swap:Bool) (last b:Bs):Bs:=
 let x:=E (xorL (b.take n) last)
 let y:=E (plusX x (b.drop n))
 if swap then y++x.take (b.length-n)else x.take (b.length-n)++y
def stP (D:Bs→Bs) (last x y:Bs):Bs:=
 xorL (D (x++(D y).drop x.length)) last++xorL ((D y).take x.length) x
def stD (D:Bs→Bs) (n:Nat) (swap:Bool) (last b:Bs):Bs:=
 if swap then stP D last (b.drop n) (b.take n)else stP D last (b.take (b.length-n)) (b.drop (b.length-n))
def stSw (n:Nat) (mode:Int) (b:Bs):Bool:=decide (mode=9)||(decide (mode=8)&& !decide (b.length=2*n))
def stT (E D:Bs→Bs) (n:Nat) (mode:Int) (back:Bool) (last b:Bs):Bs:=
 if b.length=n then (if back then xorL (D b) last else E (xorL b last))
 else if back then stD D n (stSw n mode b) last b else stE E n (stSw n mode b) last b
def stErr (n:Nat) (mode:Int) (last b:Bs):Int:=
 if mode<7∨9<mode then 3 else if last.length≠n then 5 else if b.length<n∨2*n<b.length then 7 else 0
theorem stE_len {E D:Bs→Bs} {n:Nat} (h:CI E D n) {swap:Bool} {last b:Bs} (hl:last.length=n) (h1:n≤b.length) (h2:b.length≤2*n):(stE E n swap last b).length=b.length:=by
 have lx:(E (xorL (b.take n) last)).length=n:=h.le (by rw[xorL_length,Zi];omega)
 have ly:(E (plusX (E (xorL (b.take n) last)) (b.drop n))).length=n:=h.le (by rw[plusX_len (by rw[Ze];omega),lx])
 unfold stE
 simp only
 split<;>(rw [Zb,Zi,lx,ly];omega)
theorem stP_len {E D:Bs→Bs} {n:Nat} (h:CI E D n) {last x y:Bs} (hl:last.length=n) (hx:x.length≤n) (hy:y.length=n):(stP D last x y).length=n+x.length:=by
 have lz:=h.ld hy
 have lp:(D (x++(D y).drop x.length)).length=n:=h.ld (by rw[Zb,Ze,lz];omega)
 rw[stP,Zb,xorL_length,xorL_length,lp,Zi,lz];omega
theorem stD_len {E D:Bs→Bs} {n:Nat} (h:CI E D n) {swap:Bool} {last b:Bs} (hl:last.length=n) (h1:n≤b.length) (h2:b.length≤2*n):(stD D n swap last b).length=b.length:=by
 unfold stD
 split
 ·rw[stP_len h hl (by rw[Ze];omega) (by rw[Zi];omega),Ze];omega
 ·rw[stP_len h hl (by rw[Zi];omega) (by rw[Ze];omega),Zi];omega
theorem stT_len {E D:Bs→Bs} {n:Nat} (h:CI E D n) {mode:Int} {back:Bool} {last b:Bs} (hl:last.length=n) (h1:n≤b.length) (h2:b.length≤2*n):(stT E D n mode back last b).length=b.length:=by
 unfold stT
 split
 ·rename_i hb
  cases back
  ·rw[if_neg (by decide),h.le (by rw[xorL_length];omega),hb]
  ·rw[if_pos rfl,xorL_length,h.ld hb];omega
 ·cases back
  ·rw[if_neg (by decide)];exact stE_len h hl h1 h2
  ·rw[if_pos rfl];exact stD_len h hl h1 h2
theorem sub_appL {a b:Bs} {i n:Nat} (h:i+n≤a.length):sub (a++b) i n=sub a i n:=by
 simp only[sub]
 rw[Jd (by omega),List.take_append_of_le_length (by rw[Ze];omega)]
theorem sub_appR {a b:Bs} {i n:Nat} (h:a.length≤i):sub (a++b) i n=sub b (i-a.length) n:=by
 have:=sub_off (a:=a) (b:=b) (n:=a.length) (i:=i-a.length) (m:=n) rfl
 rwa [show a.length+(i-a.length)=i by omega]at this
theorem moBlks_pre (E D mode back n) {a b c:Bs} {k:Nat} (h:a.length=n*k):∀i,i≤k→moBlks E D mode back n (a++b) c i=moBlks E D mode back n a c i
 |0,_=>rfl
 |i+1,hi=>by
  unfold moBlks
  rw[moBlks_pre E D mode back n h i (by omega),sub_appL (by
   rw[h,←Js]
   exact Nat.mul_le_mul_left n (by omega))]
theorem moBlks_succ (E D mode back n) (b c:Bs) (i):moBlks E D mode back n b c (i+1)=((moBlks E D mode back n b c i).1++(moBlk E D mode back (moBlks E D mode back n b c i).2 (sub b (n*i) n)).1,(moBlk E D mode back (moBlks E D mode back n b c i).2 (sub b (n*i) n)).2):=rfl
theorem moBlks_app (E D mode back n) {a b c:Bs} {k:Nat} (h:a.length=n*k):∀j,moBlks E D mode back n (a++b) c (k+j)=
  ((moBlks E D mode back n a c k).1++(moBlks E D mode back n b (moBlks E D mode back n a c k).2 j).1,(moBlks E D mode back n b (moBlks E D mode back n a c k).2 j).2)
 |0=>by
  show moBlks E D mode back n (a++b) c k=((moBlks E D mode back n a c k).1++[],(moBlks E D mode back n a c k).2)
  rw[moBlks_pre E D mode back n h k (Zh _),Jg]
 |j+1=>by
  show moBlks E D mode back n (a++b) c (k+j+1)=_
  rw[moBlks_succ,moBlks_app E D mode back n h j,sub_appR (by rw[h];exact Nat.mul_le_mul_left n (by omega)),h,show n*(k+j)-n*k=n*j by rw[Nat.mul_add];omega,moBlks_succ E D mode back n b _ j]
  simp only[List.append_assoc]
theorem moStep_app {E D:Bs→Bs} {n:Nat} {mode:Int} {back:Bool} {s:MS} {a b:Bs} (hn:0<n) (ha:a.length%moGrain n mode=0) (hb:b.length%moGrain n mode=0):
  moStep E D n mode back s (a++b)=((moStep E D n mode back s a).1++(moStep E D n mode back (moStep E D n mode back s a).2 b).1,(moStep E D n mode back (moStep E D n mode back s a).2 b).2):=by
 unfold moGrain at ha hb
 unfold moStep
 by_cases hm:mode=1∨mode=2
 ·rw[if_pos hm]at ha hb
  simp only[if_pos hm]
  have e1:a.length=n*(a.length/n):=by have:=Zz a.length n;omega
  have e2:(a++b).length/n=a.length/n+b.length/n:=by
   have:=Zz b.length n
   rw[Zb,show a.length+b.length=n*(a.length/n+b.length/n) by rw[Nat.mul_add];omega,Nat.mul_div_cancel_left _ hn]
  rw[e2,moBlks_app E D mode back n e1]
 ·simp only[if_neg hm]
  exact moMany_app E mode back a b s
structure MOk (n:Nat) (mode:Int) (s:MS):Prop where
 m:1≤mode∧mode≤6
 ch:mode=1∨s.ch.length=n
 row:s.row.length≤n
 blk:mode=1∨mode=2→s.row=[]
 g:mode=4→s.row.length=0∨s.gone.length+s.row.length=n
theorem moBeg_ok {E D:Bs→Bs} {n:Nat} {mode:Int} {s:MS} (h:CI E D n) (hm:3≤mode) (ok:MOk n mode s):(moBeg E mode s).ch.length=n∧(moBeg E mode s).row.length=n∧(moBeg E mode s).gone=[]:=by
 have hc:s.ch.length=n:=ok.ch.resolve_left (by omega)
 refine⟨?_,h.le hc,rfl⟩
 show(if mode=5 then E s.ch else if mode=6 then incL s.ch else s.ch).length=n
 split
 ·exact h.le hc
 ·split
  ·rw[incL_len,hc]
  ·exact hc
theorem moOne_ok {E D:Bs→Bs} {n:Nat} {mode:Int} {back:Bool} {s:MS} (h:CI E D n) (hn:0<n) (hm:3≤mode) (ok:MOk n mode s) (p:UInt8):MOk n mode (moOne E mode back s p).2:=by
 have hc:s.ch.length=n:=ok.ch.resolve_left (by omega)
 obtain⟨t,ht,h1,h2,h3,h4⟩:∃t,t=(if s.row.length=0 then moBeg E mode s else s)∧t.ch.length=n∧0<t.row.length∧t.row.length≤n∧(mode=4→t.gone.length+t.row.length=n):=by
  refine⟨_,rfl,?_⟩
  split
  ·obtain⟨b1,b2,b3⟩:=moBeg_ok h hm ok
   refine⟨b1,by omega,by omega,fun _=>by rw[b3,b2];simp⟩
  ·rename_i hr
   exact⟨hc,by omega,ok.row,fun h4=>(ok.g h4).resolve_left hr⟩
 have e:(moOne E mode back s p).2=(moByt mode back t p).2:=by rw[ht];rfl
 rw[e]
 unfold moByt
 simp only
 split
 ·rename_i h3'
  exact⟨ok.m,.inr (by simp[h1];omega),by simp,fun hb=>by omega,fun hb=>by omega⟩
 ·split
  ·rename_i h4'
   split
   ·rename_i h5
    refine⟨ok.m,.inr ?_,by simp,fun hb=>by omega,fun _=> .inl rfl⟩
    have:=h4 h4'
    rw[Zb,Z2];omega
   ·refine⟨ok.m,.inr h1,by simp;omega,fun hb=>by omega,fun _=> .inr ?_⟩
    have:=h4 h4'
    rw[Zb,Z2,Ze];omega
  ·rename_i h4'
   exact⟨ok.m,.inr h1,by simp;omega,fun hb=>by omega,fun hb=>absurd hb h4'⟩
theorem moMany_ok {E D:Bs→Bs} {n:Nat} {mode:Int} {back:Bool} (h:CI E D n) (hn:0<n) (hm:3≤mode):∀(l:Bs) {s:MS},MOk n mode s→MOk n mode (moMany E mode back s l).2
 |[],_,ok=>ok
 |p::l,_,ok=>moMany_ok h hn hm l (moOne_ok h hn hm ok p)
theorem moBlk_ok {E D:Bs→Bs} {n:Nat} {mode:Int} {back:Bool} {c p:Bs} (h:CI E D n) (hm:mode=1∨mode=2) (hc:mode=1∨c.length=n) (hp:p.length=n):
  (moBlk E D mode back c p).1.length=n∧(mode=1∨(moBlk E D mode back c p).2.length=n):=by
 unfold moBlk
 by_cases h1:mode=1
 ·rw[if_pos h1]
  refine⟨?_,.inl h1⟩
  show(if back then D p else E p).length=n
  cases back
  ·exact h.le hp
  ·exact h.ld hp
 ·rw[if_neg h1]
  have hc:=hc.resolve_left h1
  cases back
  ·have:(E (xorL p c)).length=n:=h.le (xorL_len hp hc)
   exact⟨this,.inr this⟩
  ·exact⟨xorL_len (h.ld hp) hc,.inr hp⟩
theorem moBlks_ok {E D:Bs→Bs} {n:Nat} {mode:Int} {back:Bool} {b c:Bs} (h:CI E D n) (hm:mode=1∨mode=2) (hc:mode=1∨c.length=n):∀i,n*i≤b.length→
  (moBlks E D mode back n b c i).1.length=n*i∧(mode=1∨(moBlks E D mode back n b c i).2.length=n)
 |0,_=>⟨rfl,hc⟩
 |i+1,hi=>by
  rw[Js]at hi
  obtain⟨a1,a2⟩:=moBlks_ok (back:=back) (b:=b) h hm hc i (by omega)
  obtain⟨b1,b2⟩:=moBlk_ok (back:=back) h hm a2 (p:=sub b (n*i) n) (by rw[sub_length];omega)
  exact⟨by rw[moBlks_succ];simp only[Zb,a1,b1,Js],b2⟩
theorem moStep_len {E D:Bs→Bs} {n:Nat} {mode:Int} {back:Bool} {s:MS} {b:Bs} (h:CI E D n) (ok:MOk n mode s) (hb:b.length%moGrain n mode=0):(moStep E D n mode back s b).1.length=b.length:=by
 unfold moGrain at hb
 unfold moStep
 by_cases hm:mode=1∨mode=2
 ·rw[if_pos hm]at hb
  simp only[if_pos hm]
  have:=Zz b.length n
  rw[(moBlks_ok h hm ok.ch _ (by omega)).1];omega
 ·simp only[if_neg hm]
  exact moMany_len E mode back b s
theorem moStep_ok {E D:Bs→Bs} {n:Nat} {mode:Int} {back:Bool} {s:MS} {b:Bs} (h:CI E D n) (hn:0<n) (ok:MOk n mode s):MOk n mode (moStep E D n mode back s b).2:=by
 unfold moStep
 by_cases hm:mode=1∨mode=2
 ·simp only[if_pos hm]
  have:=Zz b.length n
  exact⟨ok.m,(moBlks_ok h hm ok.ch _ (by omega)).2,ok.row,ok.blk,fun h4=>by omega⟩
 ·simp only[if_neg hm]
  exact moMany_ok h hn (by have:=ok.m;omega) b ok
def pdMade (kind:Int) (n:Nat):Bs:=
 if kind=1 then Zp n (Zs n)else if kind=2 then 128::Zp (n-1) 0 else Zp (n-1) 0++[Zs n]
theorem pdMade_len {kind n} (h:0<n):(pdMade kind n).length=n:=by
 unfold pdMade
 split
 ·simp
 ·split
  ·simp;omega
  ·simp;omega
def pdAdd (kind:Int) (size:Nat) (tail:Bs):Bs:=tail++pdMade kind (size-tail.length)
theorem pdAdd_len {kind size} {tail:Bs} (h:tail.length<size):(pdAdd kind size tail).length=size:=by
 rw[pdAdd,Zb,pdMade_len (by omega)];omega
def lastM (b:Bs):Nat→Nat
 |0=>0
 |k+1=>if b.getD k 0=128 then k+1 else lastM b k
def pdCnt (kind:Int) (b:Bs):Nat:=if kind=2 then b.length+1-lastM b b.length else (b.getD (b.length-1) 0).toNat
def pdLong (kind:Int) (b:Bs):Nat:=
 if pdCnt kind b<1∨b.length<pdCnt kind b∨(kind≠3∧b.drop (b.length-pdCnt kind b)≠pdMade kind (pdCnt kind b))then 0 else pdCnt kind b
def pdStrip (kind:Int) (b:Bs):Bs:=b.take (b.length-pdLong kind b)
theorem lastM_le (b:Bs):∀k,lastM b k≤k
 |0=>Zh _
 |k+1=>by
  unfold lastM
  split
  ·exact Zh _
  ·have:=lastM_le b k;omega
theorem getD_appR {a b:Bs} {i:Nat} (h:a.length≤i):(a++b).getD i 0=b.getD (i-a.length) 0:=by
 rw[Zc,List.getElem?_append_right h,Zc]
theorem pdLong_le (kind b):pdLong kind b≤b.length:=by
 unfold pdLong
 split<;>omega
def frontN (n l:Nat):Nat:=n*((l-n-1)/n)
theorem frontN_ok {n l:Nat} (hn:0<n) (h:n≤l):frontN n l≤l∧n≤l-frontN n l∧l-frontN n l≤2*n∧frontN n l%n=0∧(frontN n l=0∨n≤frontN n l):=by
 unfold frontN
 have hd:=Zz (l-n-1) n
 have hm:=Zu (l-n-1) hn
 refine⟨?_,?_,?_,Nat.mul_mod_right _ _,?_⟩
 ·omega
 ·by_cases h0:l=n
  ·subst h0
   rw[Jr,show(0-1:Nat)/l=0 from Nat.zero_div _,Nat.mul_zero];omega
  ·omega
 ·omega
 ·rcases Nat.eq_zero_or_pos ((l-n-1)/n)with h0|h0
  ·left;rw[h0,Nat.mul_zero]
  ·right;exact Nat.le_mul_of_pos_right n h0
def shLast (n:Nat) (back:Bool) (iv m o:Bs):Bs:=
 if frontN n m.length=0 then iv else if back then sub m (frontN n m.length-n) n else o.drop (frontN n m.length-n)
def shSt (E D:Bs→Bs) (n:Nat) (mode:Int) (back:Bool) (iv m:Bs):Bs×Int:=
 if m.length<n then ([],7)
 else let o:=(moStep E D n 2 back ⟨iv,[],[]⟩ (m.take (frontN n m.length))).1
  (o++stT E D n mode back (shLast n back iv m o) (m.drop (frontN n m.length)),0)
def padUp (pad:Int) (n:Nat) (m:Bs):Bs:=m.take (m.length-m.length%n)++pdAdd pad n (m.drop (m.length-m.length%n))
def shP (E D:Bs→Bs) (n:Nat) (mode pad:Int) (back:Bool) (iv m:Bs):Bs×Int:=
 if 7≤mode then shSt E D n mode back iv m
 else if pad=4 then (if m.length%moGrain n mode=0 then ((moStep E D n mode back ⟨iv,[],[]⟩ m).1,0)else ([],7))
 else if back=false then ((moStep E D n mode false ⟨iv,[],[]⟩ (padUp pad n m)).1,0)
 else if m.length=0∨m.length%n≠0 then ([],7)
 else let o:=(moStep E D n mode true ⟨iv,[],[]⟩ m).1
  if pdLong pad (o.drop (o.length-n))=0 then ([],8)else (o.take (o.length-n)++pdStrip pad (o.drop (o.length-n)),0)
def shOk (n:Nat) (mode pad:Int) (iv:Bs):Prop:=(1≤mode∧mode≤9)∧(1≤pad∧pad≤4)∧(pad=4∨mode≤2)∧iv.length=if mode=1 then 0 else n
noncomputable def shErr (tag mode pad:Int) (n lk li:Nat):Int:=by
 classical exact if ¬okTag tag then 2 else if (lk:Int)∉cLens tag then 4 else if ¬((1≤mode∧mode≤9)∧(1≤pad∧pad≤4)∧(pad=4∨mode≤2))then 3 else if li≠(if mode=1 then 0 else n)then 5 else 0
theorem ms_ok {n:Nat} {mode:Int} {iv:Bs} (hm:1≤mode∧mode≤6) (h:iv.length=if mode=1 then 0 else n):MOk n mode ⟨iv,[],[]⟩:=by
 refine⟨hm,?_,Nat.zero_le _,fun _=>rfl,fun _=> .inl rfl⟩
 by_cases h1:mode=1
 ·exact .inl h1
 ·rw[if_neg h1]at h;exact .inr h
theorem grain_2 (n:Nat):moGrain n 2=n:=rfl
theorem c_cloneB {n:Nat} {va:List Value} {l:Bs} (ha:va=bv l) (hn:l.length=n) (h0:0<n) (hm:n≤1073741824):Con C N.slices_Clone_byte [.z n va] [] (.ret (.o 1 (.k 0) 0 n)) [.sc (bv l)]:=by
 subst ha
 refine fd.slices_Clone_byte.c ?_
 refine .inl ⟨h0,(by simp only[storeL_len,bv_len,iv_len,wv_len,Zb,Jn,Zt,Zi,Ze,Jb,List.length_nil,sub_length,Zl,Jm,Z5];omega),by omega,by omega,?_⟩
 refine⟨_,rfl,[.d 7 0],?_,⟨_,rfl,rfl⟩,trivial⟩
 show V.o 1 (.k 0) 0 (0+n)=_
 rw[Zj]
theorem c_cloneZ {n:Nat} {va:List Value} {l:Bs} (ha:va=bv l) (hn:l.length=n) (hm:n≤1073741824):Con C N.slices_Clone_byte [.z n va] [] (.ret (.z n (bv l))) []:=by
 subst ha
 by_cases h0:0<n
 ·refine fd.slices_Clone_byte.c ?_
  refine .inl ⟨h0,(by simp only[storeL_len,bv_len,iv_len,wv_len,Zb,Jn,Zt,Zi,Ze,Jb,List.length_nil,sub_length,Zl,Jm,Z5];omega),by omega,by omega,?_⟩
  refine⟨_,rfl,[],?_,trivial⟩
  show V.z (0+n) (sub ([]++bv l) 0 (0+n))=_
  rw[Zj,Jf,bv_all hn]
 ·obtain rfl:n=0:=(by omega)
  obtain rfl:=Jc hn
  refine fd.slices_Clone_byte.w ?_
  refine .inr ⟨?_,?_⟩
  ·exact⟨.ret nilv,[],⟨_,rfl,[],rfl,trivial⟩,.ret .nl,.nil⟩
  ·refine⟨rfl,by decide,by decide,?_⟩
   exact⟨.ret (.z 0 []),[],⟨_,rfl,[],rfl,trivial⟩,.ret (.refl _),.nil⟩
def px (a t:Bs) (i:Nat):Bs:=(List.range a.length).map fun p=>if p<i then a.getD p 0^^^t.getD p 0 else a.getD p 0
theorem px_len (a t i):(px a t i).length=a.length:=by simp[px]
theorem px_zero (a t):px a t 0=a:=by
 refine ext_getD (px_len _ _ _) fun i hi=> ?_
 rw[px_len]at hi
 simp[px,Zc,hi]
theorem px_get {a t:Bs} {i:Nat} (h:i<a.length):(px a t i).getD i 0=a.getD i 0:=by simp[px,Zc,h]
theorem px_set {a t:Bs} {i:Nat} (h:i<a.length):(px a t i).set i (a.getD i 0^^^t.getD i 0)=px a t (i+1):=by
 refine ext_getD (by rw[Zt,px_len,px_len]) fun j hj=> ?_
 rw[Zt,px_len]at hj
 rw[Zc,List.getElem?_set]
 by_cases e:i=j
 ·subst e
  rw[if_pos rfl,if_pos (by rw[px_len];exact h)]
  simp[px,Zc,h]
 ·rw[if_neg e]
  simp only[px,Zc,List.getElem?_map,List.getElem?_range hj,Option.map_some,Option.getD_some]
  by_cases e2:j<i
  ·rw[if_pos e2,if_pos (by omega)]
  ·rw[if_neg e2,if_neg (by omega)]
theorem px_end {a t:Bs} (h:t.length≤a.length):px a t t.length=plusX a t:=by
 refine ext_getD (by rw[px_len,plusX_len h]) fun i hi=> ?_
 rw[px_len]at hi
 have e:(px a t t.length).getD i 0=if i<t.length then a.getD i 0^^^t.getD i 0 else a.getD i 0:=by
  simp[px,Zc,hi]
 rw[e]
 have lx:(xorL a t).length=t.length:=by rw[xorL_length];omega
 unfold plusX
 by_cases h1:i<t.length
 ·have e2:(xorL a t++a.drop t.length).getD i 0=(xorL a t).getD i 0:=by
   rw[Zc,List.getElem?_append_left (by omega),←Zc]
  rw[if_pos h1,e2]
  have h2:i<(List.zipWith (fun x1 x2=>x1^^^x2) a t).length:=by rw[Z5];omega
  unfold xorL
  rw[Zc (l:=List.zipWith _ a t),Zk h2]
  simp[Zc,h1,hi]
 ·have e2:(a.drop t.length).getD (i-t.length) 0=a.getD i 0:=by
   rw[Zc,List.getElem?_drop,show t.length+(i-t.length)=i by omega,←Zc]
  rw[if_neg h1,getD_appR (by omega),lx,e2]
theorem c_plus {n m:Nat} {va vt:List Value} {a t:Bs} (ha:va=bv a) (ht:vt=bv t) (hn:a.length=n) (hm:t.length=m) (h0:0<n) (hmn:m≤n) (hb:n≤1000):Con C N.steal_plus [.z n va,.z m vt] [] (.ret (.o 1 (.k 0) 0 n)) [.sc (bv (plusX a t))]:=by
 subst ha;subst ht
 refine fd.steal_plus.c ?_
 refine spl_d (fun h=>absurd h (by omega)) (fun _=> ?_)
 refine⟨[],_,_,_,_,c_cloneB rfl hn h0 (by omega),rfl,rfl,?_⟩
 refine loopN (fun i=>⟨[(5,.o 1 (.k 0) 0 n),(17,.z m (bv t)),(18,i64 m),(19,i64 i)],[.sc (bv (px a t i))]⟩) m ⟨[.d 16 0],⟨rfl,rfl,rfl,rfl,trivial⟩,⟨_,rfl,q7s (by rw[px_zero])⟩,trivial⟩ fun i hi=> ?_
 refine spl_d (fun h=> ?_) (fun h=> ?_)
 ·have hlt:i<m:=(by omega)
  refine⟨by omega,by omega,_,by rw[Zd];exact bv_getD (by omega),?_⟩
  refine⟨by omega,by omega,_,by rw[Zd,Zg,Zj];exact bv_getD (by rw[px_len];omega),?_⟩
  refine⟨by omega,by omega,by rw[Zd,bv_len,px_len];omega,?_⟩
  refine⟨i+1,by omega,by omega,[.k 0],⟨rfl,rfl,rfl,q7i (by simp(disch:=omega)only[Za];omega),trivial⟩,⟨_,rfl,q7s ?_⟩,trivial⟩
  rw[u8_xor,px_get (by omega),Zd,Zg,Zj,bv_set,px_set (by omega)]
 ·obtain rfl:i=m:=(by omega)
  refine⟨_,rfl,[.k 0],rfl,⟨_,rfl,q7s ?_⟩,trivial⟩
  rw[←hm,px_end (by omega)]
theorem c_plus' {n m:Nat} {va vt:List Value} {a t:Bs} (ha:va=bv a) (ht:vt=bv t) (hn:a.length=n) (hm:t.length=m) (h0:0<n) (hmn:m≤n) (hb:n≤1000):Con C N.steal_plus [.z m vt,.z n va] [] (.ret (.o 1 (.k 0) 0 n)) [.sc (bv (plusX a t))]:=by
 by_cases he:m=n
 ·subst he
  have e:plusX a t=plusX t a:=by rw[plusX_full (by omega),plusX_full (by omega),xorL_comm]
  rw[e]
  exact c_plus ht ha hm hn h0 (Zh _) hb
 subst ha;subst ht
 refine fd.steal_plus.c ?_
 refine spl_d (fun _=> ?_) (fun h=>absurd h (by omega))
 refine⟨[],_,_,_,_,c_cloneB rfl hn h0 (by omega),rfl,rfl,?_⟩
 refine loopN (fun i=>⟨[(5,.o 1 (.k 0) 0 n),(17,.z m (bv t)),(18,i64 m),(19,i64 i)],[.sc (bv (px a t i))]⟩) m ⟨[.d 16 0],⟨rfl,rfl,rfl,rfl,trivial⟩,⟨_,rfl,q7s (by rw[px_zero])⟩,trivial⟩ fun i hi=> ?_
 refine spl_d (fun h=> ?_) (fun h=> ?_)
 ·have hlt:i<m:=(by omega)
  refine⟨by omega,by omega,_,by rw[Zd];exact bv_getD (by omega),?_⟩
  refine⟨by omega,by omega,_,by rw[Zd,Zg,Zj];exact bv_getD (by rw[px_len];omega),?_⟩
  refine⟨by omega,by omega,by rw[Zd,bv_len,px_len];omega,?_⟩
  refine⟨i+1,by omega,by omega,[.k 0],⟨rfl,rfl,rfl,q7i (by simp(disch:=omega)only[Za];omega),trivial⟩,⟨_,rfl,q7s ?_⟩,trivial⟩
  rw[u8_xor,px_get (by omega),Zd,Zg,Zj,bv_set,px_set (by omega)]
 ·obtain rfl:i=m:=(by omega)
  refine⟨_,rfl,[.k 0],rfl,⟨_,rfl,q7s ?_⟩,trivial⟩
  rw[←hm,px_end (by omega)]
theorem bv_dropN {b:Bs} {m s:Nat} (hb:b.length=m) (hs:s≤m):sub (bv b) s (m-s)=bv (b.drop s):=by rw[bv_sub,sub_end _ _ _ (by omega)]
theorem c_ends {t key s k xs rs} (h:Ciph t key s k xs rs) {m:Nat} {vl vb:List Value} {last b:Bs} {swap:Bool} (hvl:vl=bv last) (hvb:vb=bv b) (hl:last.length=s) (hb:b.length=m) (h1:s<m) (h2:m≤2*s):
  Con C N.steal_ends [cipV t k xs,bool swap,.z s vl,.z m vb] [] (.ret (.o 1 (.k 0) 0 m)) [.sc (bv (stE (cF t key false) s swap last b))]:=by
 subst hvl;subst hvb
 have hs:=h.s_le
 have l1:(b.take s).length=s:=by rw[Zi];omega
 have l2:(b.drop s).length=m-s:=by rw[Ze,hb]
 have p1:plusX (b.take s) last=xorL (b.take s) last:=plusX_full (by omega)
 have lx1:(xorL (b.take s) last).length=s:=xorL_len l1 hl
 have lX:=h.len (back:=false) lx1
 have lp2:(plusX (cF t key false (xorL (b.take s) last)) (b.drop s)).length=s:=by rw[plusX_len (by omega),lX]
 have lY:=h.len (back:=false) lp2
 have hres:stE (cF t key false) s swap last b=if swap then cF t key false (plusX (cF t key false (xorL (b.take s) last)) (b.drop s))++(cF t key false (xorL (b.take s) last)).take (m-s)else (cF t key false (xorL (b.take s) last)).take (m-s)++cF t key false (plusX (cF t key false (xorL (b.take s) last)) (b.drop s)):=by
  unfold stE;rw[hb]
 have e1:I6.wrap ((m:Int)-(s:Int))=((m-s:Nat):Int):=by rw[Za _ (by omega)];omega
 rw[hres]
 refine fd.steal_ends.c ?_
 refine⟨[],_,_,_,_,h.size,rfl,rfl,?_⟩
 refine⟨by omega,by omega,by omega,by omega,?_⟩
 have c1:=c_plus (va:=sub (bv b) 0 s) (a:=b.take s) (t:=last) (bv_sub b 0 s) rfl l1 hl (by omega) (Zh _) (by omega)
 rw[p1]at c1
 refine⟨[],_,_,_,_,c1,rfl,rfl,?_⟩
 refine⟨[],_,_,_,_,h.enc lx1 (bv_all lx1),rfl,rfl,?_⟩
 generalize cF t key false (xorL (b.take s) last)=x at*
 refine⟨by omega,by omega,by omega,by omega,?_⟩
 refine⟨[],_,_,_,_,c_plus' (a:=x) (t:=b.drop s) (bv_all lX) (bv_dropN hb (by omega)) lX l2 (by omega) (by omega) (by omega),rfl,rfl,?_⟩
 refine⟨[],_,_,_,_,h.enc lp2 (bv_all lp2),rfl,rfl,?_⟩
 generalize cF t key false (plusX x (b.drop s))=y at*
 refine⟨by rw[e1];omega,by rw[e1];omega,by rw[e1];omega,by rw[e1];omega,?_⟩
 have lt:(x.take (m-s)).length=m-s:=by rw[Zi];omega
 cases swap
 ·refine⟨[],_,_,_,_,c_concatB' (n:=2) (ls:=[x.take (m-s),y]) (t:=x.take (m-s)++y) (by simp) ?_ rfl (by rw[Zb];omega) (by rw[Zb];omega),rfl,rfl,?_⟩
  ·rw[e1]
   show[V.z (m-s) (sub (bv x) 0 (m-s)),V.z s (sub (bv y) 0 s)]=[V.z _ _,V.z _ _]
   rw[bv_all lY,lt,lY,bv_sub];rfl
  have lc:(x.take (m-s)++y).length=m:=by rw[Zb];omega
  rw[lc]
  exact⟨_,rfl,[.d 48 0],rfl,⟨_,rfl,rfl⟩,trivial⟩
 ·refine⟨[],_,_,_,_,c_concatB' (n:=2) (ls:=[y,x.take (m-s)]) (t:=y++x.take (m-s)) (by simp) ?_ rfl (by rw[Zb];omega) (by rw[Zb];omega),rfl,rfl,?_⟩
  ·rw[e1]
   show[V.z s (sub (bv y) 0 s),V.z (m-s) (sub (bv x) 0 (m-s))]=[V.z _ _,V.z _ _]
   rw[bv_all lY,lt,lY,bv_sub];rfl
  have lc:(y++x.take (m-s)).length=m:=by rw[Zb];omega
  rw[lc]
  exact⟨_,rfl,[.d 48 0],rfl,⟨_,rfl,rfl⟩,trivial⟩
theorem Con.args {C:Ctx} {f:Nat} {ys ys0:List V} {bs bs':List B} {r:Oc} (h:Con C f ys bs r bs') (hw:WkL ys0 ys):Con C f ys0 bs r bs':=
 ⟨h.1,fun w F ι vs st gl dm hl=>h.2 w F ι vs st gl dm (hw.r hl)⟩
theorem c_begins {t key s k xs rs} (h:Ciph t key s k xs rs) {m:Nat} {vl vb:List Value} {last b:Bs} {swap:Bool} (hvl:vl=bv last) (hvb:vb=bv b) (hl:last.length=s) (hb:b.length=m) (h1:s<m) (h2:m≤2*s):
  Con C N.steal_begins [cipV t k xs,bool swap,.z s vl,.z m vb] [] (.ret (.o 1 (.k 0) 0 m)) [.sc (bv (stD (cF t key true) s swap last b))]:=by
 subst hvl;subst hvb
 have hs:=h.s_le
 have e1:I6.wrap ((m:Int)-(s:Int))=((m-s:Nat):Int):=by rw[Za _ (by omega)];omega
 cases swap
 ·have lx:(b.take (m-s)).length=m-s:=by simp only[Zi,Ze];omega
  have ly:(b.drop (m-s)).length=s:=by simp only[Zi,Ze];omega
  have hx:sub (bv b) 0 (m-s)=bv (b.take (m-s)):=bv_sub b 0 (m-s)
  have hy:sub (bv b) (m-s) s=bv (b.drop (m-s)):=by
   rw[bv_sub,sub_end _ _ _ (by omega)]
  have hres:stD (cF t key true) s false last b=stP (cF t key true) last (b.take (m-s)) (b.drop (m-s)):=by
   unfold stD;rw[if_neg (by decide),hb]
  have lz:=h.len (back:=true) ly
  rw[hres,stP]
  rw[lx]
  refine fd.steal_begins.c ?_
  refine⟨[],_,_,_,_,h.size,rfl,rfl,?_⟩
  refine⟨by rw[e1];omega,by rw[e1];omega,by rw[e1];omega,by rw[e1];omega,?_⟩
  refine⟨by rw[e1];omega,by rw[e1];omega,by omega,by omega,?_⟩
  refine⟨[],_,_,_,_,h.dec ly rfl,?_,rfl,?_⟩
  ·rw[e1,←hy]
   show[cipV t k xs,V.z (m-(m-s)) (sub (bv b) (m-s) (m-(m-s)))]=_
   rw[show m-(m-s)=s by omega]
  generalize cF t key true (b.drop (m-s))=z at*
  have lt:(z.take (m-s)).length=m-s:=by rw[Zi];omega
  refine⟨by rw[e1];omega,by rw[e1];omega,by rw[e1];omega,by rw[e1];omega,?_⟩
  refine⟨[],_,_,_,_,c_plus (a:=z.take (m-s)) (t:=b.take (m-s)) rfl rfl lt lx (by omega) (Zh _) (by omega),?_,rfl,?_⟩
  ·rw[e1,←hx]
   show[V.z (m-s) (sub (bv z) 0 (m-s)),V.z (m-s) (sub (bv b) 0 (m-s))]=_
   rw[bv_sub];rfl
  rw[plusX_full (by omega)]
  have lq:(xorL (z.take (m-s)) (b.take (m-s))).length=m-s:=xorL_len lt lx
  refine⟨by rw[e1];omega,by rw[e1];omega,by omega,by omega,?_⟩
  have lw:(b.take (m-s)++z.drop (m-s)).length=s:=by rw[Zb,lx,Ze];omega
  refine⟨[],_,_,_,_,c_concatB' (n:=2) (ls:=[b.take (m-s),z.drop (m-s)]) (t:=b.take (m-s)++z.drop (m-s)) (by simp) ?_ rfl (by omega) (by omega),rfl,rfl,?_⟩
  ·rw[e1]
   show[V.z (m-s) (sub (bv b) 0 (m-s)),V.z (s-(m-s)) (sub (bv z) (0+(m-s)*1) (s-(m-s)))]=[V.z _ _,V.z _ _]
   rw[hx,lx,Zj,Zg,bv_sub,sub_end _ _ _ (by omega),Ze,lz]
  rw[lw]
  refine⟨[],_,_,_,_,h.dec lw (bv_all lw),rfl,rfl,?_⟩
  have lp:=h.len (back:=true) lw
  generalize cF t key true (b.take (m-s)++z.drop (m-s))=p at*
  refine⟨[],_,_,_,_,c_plus (a:=p) (t:=last) (bv_all lp) rfl lp hl (by omega) (Zh _) (by omega),rfl,rfl,?_⟩
  rw[plusX_full (by omega)]
  have lp2:(xorL p last).length=s:=xorL_len lp hl
  have lr:(xorL p last++xorL (z.take (m-s)) (b.take (m-s))).length=m:=by rw[Zb];omega
  refine⟨[],_,_,_,_,c_concatB' (n:=2) (ls:=[xorL p last,xorL (z.take (m-s)) (b.take (m-s))]) (t:=xorL p last++xorL (z.take (m-s)) (b.take (m-s))) (by simp) ?_ rfl (by omega) (by omega),rfl,rfl,?_⟩
  ·show[V.z s (sub (bv (xorL p last)) 0 s),V.z (m-s) (sub (bv _) 0 (m-s))]=[V.z _ _,V.z _ _]
   rw[bv_all lp2,bv_all lq,lp2,lq]
  rw[lr]
  exact⟨_,rfl,[.d 64 0],rfl,⟨_,rfl,rfl⟩,trivial⟩
 ·have lx:(b.drop s).length=m-s:=by simp only[Zi,Ze];omega
  have ly:(b.take s).length=s:=by simp only[Zi,Ze];omega
  have hx:sub (bv b) s (m-s)=bv (b.drop s):=bv_dropN hb (by omega)
  have hy:sub (bv b) 0 s=bv (b.take s):=by
   exact bv_sub b 0 s
  have hres:stD (cF t key true) s true last b=stP (cF t key true) last (b.drop s) (b.take s):=by
   unfold stD;rw[if_pos rfl]
  have lz:=h.len (back:=true) ly
  rw[hres,stP]
  rw[lx]
  refine fd.steal_begins.c ?_
  refine⟨[],_,_,_,_,h.size,rfl,rfl,?_⟩
  refine⟨by rw[e1];omega,by rw[e1];omega,by rw[e1];omega,by rw[e1];omega,?_⟩
  refine⟨by rw[e1];omega,by rw[e1];omega,by omega,by omega,?_⟩
  refine⟨by omega,by omega,by omega,by omega,?_⟩
  refine⟨by omega,by omega,by omega,by omega,?_⟩
  refine⟨[],_,_,_,_,h.dec ly rfl,?_,rfl,?_⟩
  ·rw[←hy]
   rfl
  generalize cF t key true (b.take s)=z at*
  have lt:(z.take (m-s)).length=m-s:=by rw[Zi];omega
  refine⟨by rw[e1];omega,by rw[e1];omega,by rw[e1];omega,by rw[e1];omega,?_⟩
  refine⟨[],_,_,_,_,c_plus (a:=z.take (m-s)) (t:=b.drop s) rfl rfl lt lx (by omega) (Zh _) (by omega),?_,rfl,?_⟩
  ·rw[e1,←hx]
   show[V.z (m-s) (sub (bv z) 0 (m-s)),V.z (m-s) (sub (bv b) s (m-s))]=_
   rw[bv_sub];rfl
  rw[plusX_full (by omega)]
  have lq:(xorL (z.take (m-s)) (b.drop s)).length=m-s:=xorL_len lt lx
  refine⟨by rw[e1];omega,by rw[e1];omega,by omega,by omega,?_⟩
  have lw:(b.drop s++z.drop (m-s)).length=s:=by rw[Zb,lx,Ze];omega
  refine⟨[],_,_,_,_,c_concatB' (n:=2) (ls:=[b.drop s,z.drop (m-s)]) (t:=b.drop s++z.drop (m-s)) (by simp) ?_ rfl (by omega) (by omega),rfl,rfl,?_⟩
  ·rw[e1]
   show[V.z (m-s) (sub (bv b) s (m-s)),V.z (s-(m-s)) (sub (bv z) (0+(m-s)*1) (s-(m-s)))]=[V.z _ _,V.z _ _]
   rw[hx,lx,Zj,Zg,bv_sub,sub_end _ _ _ (by omega),Ze,lz]
  rw[lw]
  refine⟨[],_,_,_,_,h.dec lw (bv_all lw),rfl,rfl,?_⟩
  have lp:=h.len (back:=true) lw
  generalize cF t key true (b.drop s++z.drop (m-s))=p at*
  refine⟨[],_,_,_,_,c_plus (a:=p) (t:=last) (bv_all lp) rfl lp hl (by omega) (Zh _) (by omega),rfl,rfl,?_⟩
  rw[plusX_full (by omega)]
  have lp2:(xorL p last).length=s:=xorL_len lp hl
  have lr:(xorL p last++xorL (z.take (m-s)) (b.drop s)).length=m:=by rw[Zb];omega
  refine⟨[],_,_,_,_,c_concatB' (n:=2) (ls:=[xorL p last,xorL (z.take (m-s)) (b.drop s)]) (t:=xorL p last++xorL (z.take (m-s)) (b.drop s)) (by simp) ?_ rfl (by omega) (by omega),rfl,rfl,?_⟩
  ·show[V.z s (sub (bv (xorL p last)) 0 s),V.z (m-s) (sub (bv _) 0 (m-s))]=[V.z _ _,V.z _ _]
   rw[bv_all lp2,bv_all lq,lp2,lq]
  rw[lr]
  exact⟨_,rfl,[.d 64 0],rfl,⟨_,rfl,rfl⟩,trivial⟩
theorem c_swapped {mode:Int} {w:Bool}:Con C N.steal_swapped [i64 mode,bool w] [] (.ret (.t [bool (decide (mode=9)||(decide (mode=8)&& !w)),bool (decide (7≤mode∧mode≤9))])) []:=by
 refine fd.steal_swapped.c ?_
 refine spl_eq (fun h=> ?_) (fun h=>spl_eq (fun h7=> ?_) (fun h7=>spl_eq (fun h8=> ?_) (fun h8=> ?_)))
 ·subst h;exact⟨_,rfl,[],rfl,trivial⟩
 ·subst h7;exact⟨_,rfl,[],rfl,trivial⟩
 ·subst h8;exact⟨_,rfl,[],rfl,trivial⟩
 ·refine⟨_,rfl,[],?_,trivial⟩
  rw[decide_eq_false h,decide_eq_false h8,decide_eq_false (by omega)]
  rfl
theorem stSw_eq (n:Nat) (mode:Int) (b:Bs) {m:Nat} (hb:b.length=m):(decide (mode=9)||(decide (mode=8)&& !((m:Int)==((2*n:Nat):Int))))=stSw n mode b:=by
 unfold stSw
 rw[hb]
 congr 3
 by_cases h:m=2*n
 ·rw[h];simp
 ·rw[decide_eq_false h];exact beq_false_of_ne (by omega)
theorem c_tail {t key s k xs rs} (h:Ciph t key s k xs rs) {m:Nat} {vl vb:List Value} {last b:Bs} {mode:Int} {back:Bool} (hvl:vl=bv last) (hvb:vb=bv b) (hl:last.length=s) (hb:b.length=m) (hm:7≤mode∧mode≤9) (h1:s≤m) (h2:m≤2*s):
  Con C N.steal_Tail [cipV t k xs,i64 mode,bool back,.z s vl,.z m vb] [] (okBlk m) [.sc (bv (stT (cF t key false) (cF t key true) s mode back last b))]:=by
 subst hvl;subst hvb
 have hs:=h.s_le
 have w2:I6.wrap (2*(s:Int))=((2*s:Nat):Int):=by rw[Za _ (by omega)];omega
 have hsw:=stSw_eq s mode b hb
 refine fd.steal_Tail.c ?_
 refine scopeN 0 rfl 1 (fun _=>⟨[(0,cipV t k xs),(2,bool back),(3,.z s (bv last)),(4,.z m (bv b)),(12,i64 s),(13,bool (stSw s mode b))],[]⟩) ?_ fun i hi=> ?_
 ·refine⟨[],_,_,_,_,h.size,rfl,rfl,?_⟩
  refine⟨[],_,_,_,_,c_swapped,rfl,rfl,?_⟩
  rw[w2,hsw,decide_eq_true hm]
  refine spl_ne (fun h=>absurd rfl h) (fun _=> ?_)
  refine spl_d (fun h=>absurd h (by omega)) (fun _=> ?_)
  refine spl_d (fun h=>absurd h (by rw[w2];omega)) (fun _=> ?_)
  exact⟨[],0,by decide,[],⟨rfl,rfl,rfl,rfl,rfl,rfl,trivial⟩,trivial⟩
 refine loopN (fun _=>⟨[(0,cipV t k xs),(2,bool back),(3,.z s (bv last)),(4,.z m (bv b)),(12,i64 s),(13,bool (stSw s mode b))],[]⟩) 0 ⟨[],⟨rfl,rfl,rfl,rfl,rfl,rfl,trivial⟩,trivial⟩ fun j hj=> ?_
 refine spl_eq (fun he=> ?_) (fun he=> ?_)
 ·obtain rfl:m=s:=(by omega)
  have lD:=h.len (back:=true) hb
  have lX:=xorL_len hb hl
  have lE:=h.len (back:=false) lX
  cases back
  ·refine⟨[],_,_,_,_,c_xor (a:=b) (b:=last) rfl rfl hb hl (by omega),rfl,rfl,?_⟩
   refine⟨[],_,_,_,_,h.enc lX (bv_all lX),rfl,rfl,?_⟩
   refine spl_eq (fun _=> ?_) (fun h=>absurd rfl h)
   refine⟨_,rfl,[.d 74 0],rfl,⟨_,rfl,q7s ?_⟩,trivial⟩
   rw[stT,if_pos hb,if_neg (by decide)]
  ·refine⟨[],_,_,_,_,h.dec hb rfl,rfl,rfl,?_⟩
   refine⟨[],_,_,_,_,c_xor (a:=cF t key true b) (b:=last) (bv_all lD) rfl lD hl (by omega),rfl,rfl,?_⟩
   refine⟨_,rfl,[.d 61 0],rfl,⟨_,rfl,q7s ?_⟩,trivial⟩
   rw[stT,if_pos hb,if_pos rfl]
 ·have hne:¬b.length=s:=by omega
  refine spl_eq (fun h=>absurd h he) (fun _=> ?_)
  cases back
  ·refine⟨[],_,_,_,_,c_ends h rfl rfl hl hb (by omega) h2,rfl,rfl,?_⟩
   refine⟨_,rfl,[.d 94 0],rfl,⟨_,rfl,q7s ?_⟩,trivial⟩
   rw[stT,if_neg hne,if_neg (by decide)]
  ·refine⟨[],_,_,_,_,c_begins h rfl rfl hl hb (by omega) h2,rfl,rfl,?_⟩
   refine⟨_,rfl,[.d 89 0],rfl,⟨_,rfl,q7s ?_⟩,trivial⟩
   rw[stT,if_neg hne,if_pos rfl]
abbrev errBlk (e:Int):Oc:= .ret (.t [nilv,i64 e])
theorem c_tail_err {t key s k xs rs} (h:Ciph t key s k xs rs) {l m:Nat} {vl vb:List Value} {last b:Bs} {mode:Int} {back:Bool} (hl:last.length=l) (hb:b.length=m) (hm:m≤1000000) (he:stErr s mode last b≠0):
  Con C N.steal_Tail [cipV t k xs,i64 mode,bool back,.z l vl,.z m vb] [] (errBlk (stErr s mode last b)) []:=by
 have hs:=h.s_le
 have w2:I6.wrap (2*(s:Int))=((2*s:Nat):Int):=by rw[Za _ (by omega)];omega
 unfold stErr at he ⊢
 rw[hl,hb]at he ⊢
 refine fd.steal_Tail.c ?_
 refine⟨0,Unit,fun _=>⟨[],[]⟩,fun _=>False,fun _=>0,?_,fun _ h=>h.elim⟩
 ·refine⟨[],_,_,_,_,h.size,rfl,rfl,?_⟩
  refine⟨[],_,_,_,_,c_swapped,rfl,rfl,?_⟩
  by_cases h3:mode<7∨9<mode
  ·rw[if_pos h3,decide_eq_false (show ¬(7≤mode∧mode≤9) by omega)]
   exact⟨_,rfl,[],rfl,trivial⟩
  ·rw[if_neg h3]at he ⊢
   rw[decide_eq_true (show 7≤mode∧mode≤9 by omega)]
   refine spl_ne (fun h5=> ?_) (fun h5=> ?_)
   ·rw[if_pos (by omega)]
    exact⟨_,rfl,[],rfl,trivial⟩
   ·rw[if_neg (by omega)]at he ⊢
    refine spl_d (fun h7=> ?_) (fun h7=> ?_)
    ·rw[if_pos (by omega)]
     refine spl_d (fun _=> ?_) (fun h=>absurd h7 h)
     exact⟨_,rfl,[],rfl,trivial⟩
    ·refine spl_d (fun h7'=> ?_) (fun h7'=> ?_)
     ·rw[w2]at h7'
      rw[if_pos (by omega)]
      exact⟨_,rfl,[],rfl,trivial⟩
     ·rw[w2]at h7'
      rw[if_neg (by omega)]at he
      exact absurd rfl he
theorem u8_one (a:UInt8):U8.wrap ((a.toNat:Int)+1)=((a+1).toNat:Int):=u8_add a 1
theorem u8_zero (a:UInt8):((a.toNat:Int)=0)↔a=0:=by
 constructor
 ·intro h
  refine Z7.1 ?_
  have:(0:UInt8).toNat=0:=rfl
  omega
 ·intro h;subst h;rfl
theorem incN_step {c:Bs} {i:Nat}:incN c (i+1)=if c.getD i 0+1=0 then incN (c.set i (c.getD i 0+1)) i else c.set i (c.getD i 0+1):=by
 rw[incN]
theorem c_inc {n:Nat} {va:List Value} {b:Bs} (ha:va=bv b) (hn:b.length=n) (hm:n≤1000):Con C N.words_Inc [.z n va] [] (.ret (.o 1 (.k 0) 0 n)) [.sc (bv (incL b))]:=by
 subst ha
 refine fd.words_Inc.c ?_
 refine⟨0,Nat×Bs,fun x=>⟨[(3,.o 1 (.k 0) 0 n),(4,i64 x.1)],[.sc (bv x.2)]⟩,fun x=>x.1≤n∧x.2.length=n∧incN x.2 x.1=incL b,fun x=>x.1,?_,fun x hx=> ?_⟩
 ·refine⟨by omega,by omega,by omega,?_⟩
  refine⟨by rw[bv_len];omega,by omega,by decide,?_⟩
  refine⟨[],(n,b),⟨Zh _,hn,by rw[←hn];rfl⟩,[.d 9 0],⟨?_,?_,trivial⟩,⟨_,rfl,q7s ?_⟩,trivial⟩
  ·exact congrArg (V.o 1 (.k 0) 0) (by omega)
  ·exact q7i (by omega)
  ·rfl
 ·obtain⟨i,c⟩:=x
  obtain⟨h1,h2,h3⟩:=hx
  dsimp only at h1 h2 h3
  refine spl_d (fun h=> ?_) (fun h=> ?_)
  ·obtain⟨i,rfl⟩:∃j,i=j+1:=⟨i-1,by omega⟩
   have e1:I6.wrap (((i+1:Nat):Int)-1)=(i:Int):=by rw[Za _ (by omega)];omega
   rw[incN_step]at h3
   refine⟨by rw[e1];omega,by rw[e1];omega,.int .u8 ((c.getD i 0).toNat:Int),by rw[e1,Zd,Zg,Zj];exact bv_getD (show i<c.length by omega),?_⟩
   refine⟨by rw[e1];omega,by rw[e1];omega,by rw[e1,Zd,bv_len];show 0+i*1<c.length;omega,?_⟩
   have e2:(bv c).set (0+(I6.wrap (((i+1:Nat):Int)-1)).toNat*1) (.int .u8 (U8.wrap (((c.getD i 0).toNat:Int)+1)))=bv (c.set i (c.getD i 0+1)):=by
    rw[e1,Zd,Zg,Zj,u8_one,bv_set]
   have l2:(c.set i (c.getD i 0+1)).length=n:=by rw[Zt,h2]
   have g2:(c.set i (c.getD i 0+1)).getD i 0=c.getD i 0+1:=by
    rw[Zc,List.getElem?_set,if_pos rfl,if_pos (by omega)];rfl
   refine⟨by rw[e1];omega,by rw[e1];omega,.int .u8 ((c.getD i 0+1).toNat:Int),?_,?_⟩
   ·show((bv c).set (0+(I6.wrap (((i+1:Nat):Int)-1)).toNat*1) (.int .u8 (U8.wrap (((c.getD i 0).toNat:Int)+1))))[0+(I6.wrap (((i+1:Nat):Int)-1)).toNat*1]? =_
    rw[e2,e1,Zd,Zg,Zj,bv_getD (by omega),g2]
   refine spl_eq (fun hz=> ?_) (fun hz=> ?_)
   ·rw[if_pos ((u8_zero _).1 hz)]at h3
    exact⟨rfl,(i,c.set i (c.getD i 0+1)),⟨by show i≤n;omega,l2,h3⟩,(by show i<i+1;omega),[.k 0],⟨rfl,q7i e1,trivial⟩,⟨_,rfl,q7s e2⟩,trivial⟩
   ·rw[if_neg (fun e=>hz ((u8_zero _).2 e))]at h3
    refine⟨_,rfl,[.k 0],rfl,⟨_,rfl,q7s ?_⟩,trivial⟩
    rw[←h3];exact e2
  ·obtain rfl:i=0:=(by omega)
   refine⟨_,rfl,[.k 0],rfl,⟨_,rfl,q7s ?_⟩,trivial⟩
   rw[←h3];rfl
theorem c_begin {t key s k xs rs} (h:Ciph t key s k xs rs) {mode:Int} {back:Bool} {ch:Bs} {vc':List Value} {rv gv:V} (hv:vc'=bv ch) (hc:ch.length=s):
  Con C N.modes_Mode_begin [.p (.k 0) 0] [.mx [cipV t k xs,i64 mode,bool back,.z s vc',rv,gv]] (.ret (.t [])) [.mx [cipV t k xs,i64 mode,bool back,.z s (bv (moBeg (cF t key false) mode ⟨ch,[],[]⟩).ch),.z s (bv (cF t key false ch)),nilv]]:=by
 subst hv
 have hs:=h.s_le
 have lE:=h.len (back:=false) hc
 refine fd.modes_Mode_begin.c ?_
 refine⟨_,rfl,?_⟩
 refine⟨_,rfl,?_⟩
 refine⟨[],_,_,_,_,h.enc hc rfl,rfl,rfl,?_⟩
 refine⟨Zf rfl,?_⟩
 refine⟨Zf rfl,?_⟩
 refine⟨_,rfl,?_⟩
 refine spl_eq (fun h5=> ?_) (fun h5=> ?_)
 ·subst h5
  refine⟨_,rfl,?_⟩
  refine⟨[],_,_,_,_,c_cloneB (l:=cF t key false ch) rfl lE (by omega) (by omega),?_,rfl,?_⟩
  ·show[V.z s (sub (bv (cF t key false ch)) 0 s)]=_
   rw[bv_all lE]
  refine⟨Zf rfl,?_⟩
  refine⟨_,rfl,[.k 0],rfl,⟨_,rfl,?_⟩,trivial⟩
  show B.mx [cipV t k xs,i64 5,bool back,.z s (sub (bv (cF t key false ch)) 0 s),.z s (sub (bv (cF t key false ch)) 0 s),nilv]=_
  rw[bv_all lE];rfl
 refine spl_eq (fun h6=> ?_) (fun h6=> ?_)
 ·subst h6
  have lI:(incL ch).length=s:=by rw[incL_len,hc]
  refine⟨_,rfl,?_⟩
  refine⟨[],_,_,_,_,c_inc rfl hc (by omega),rfl,rfl,?_⟩
  refine⟨Zf rfl,?_⟩
  refine⟨_,rfl,[.k 0],rfl,⟨_,rfl,?_⟩,trivial⟩
  show B.mx [cipV t k xs,i64 6,bool back,.z s (sub (bv (incL ch)) 0 s),.z s (sub (bv (cF t key false ch)) 0 s),nilv]=_
  rw[bv_all lE,bv_all lI];rfl
 ·refine⟨_,rfl,[.k 0],rfl,⟨_,rfl,?_⟩,trivial⟩
  show B.mx [cipV t k xs,i64 mode,bool back,.z s (bv ch),.z s (sub (bv (cF t key false ch)) 0 s),nilv]=_
  rw[bv_all lE]
  unfold moBeg
  rw[if_neg h5,if_neg h6]
abbrev u8V (p:UInt8):V:= .s (.int .u8 p.toNat)
def gnV:Bs→Bs→Nat→V
 |[],_,_=> .u
 |_::_,g,i=> .o 1 (.k i) 0 g.length
def gnB:Bs→Bs→B
 |[],_=> .dead
 |_::_,g=> .sc (bv g)
def moX (cv:V) (mode:Int) (back:Bool) (m:MS) (i:Nat):B:= .mx [cv,i64 mode,bool back,.z m.ch.length (bv m.ch),.z m.row.length (bv m.row),gnV m.row m.gone i]
theorem gnV_pos {row g:Bs} {i:Nat} (h:0<row.length):gnV row g i= .o 1 (.k i) 0 g.length:=by
 cases row with
 |nil=>simp at h
 |cons a b=>rfl
theorem gnB_pos {row g:Bs} (h:0<row.length):gnB row g= .sc (bv g):=by
 cases row with
 |nil=>simp at h
 |cons a b=>rfl
theorem snoc_blk {l:Bs} {m:Nat} {x:Int} {y:UInt8} (hl:l.length=m) (hx:x=(y.toNat:Int)):sub (bv l) 0 (m*1)++sub [Value.int .u8 x] 0 (1*1)=bv (l++[y]):=by
 subst hx
 rw[Zg,bv_all hl]
 show bv l++bv [y]=_
 rw[bv_app]
theorem snoc_sub {l:Bs} {m:Nat} {x:Int} {y:UInt8} (hl:l.length=m) (hx:x=(y.toNat:Int)):sub (sub (bv l) 0 (m*1)++sub [Value.int .u8 x] 0 (1*1)) 0 (m+1)=bv (l++[y]):=by
 rw[snoc_blk hl hx]
 exact bv_all (by rw[Zb,hl];rfl)
theorem one_blk {x:Int} {y:UInt8} (hx:x=(y.toNat:Int)):sub ([]:List Value) 0 (0*1)++sub [Value.int .u8 x] 0 (1*1)=bv ([]++[y]):=by
 subst hx;rfl
theorem one_sub {x:Int} {y:UInt8} (hx:x=(y.toNat:Int)):sub (sub ([]:List Value) 0 (0*1)++sub [Value.int .u8 x] 0 (1*1)) 0 (0+1)=bv ([]++[y]):=by
 subst hx;rfl
theorem moByt3 {back:Bool} {ch row g:Bs} {p:UInt8}:moByt 3 back ⟨ch,row,g⟩ p=(p^^^row.getD 0 0,⟨ch.drop 1++[moIn back p (p^^^row.getD 0 0)],[],g++[moIn back p (p^^^row.getD 0 0)]⟩):=by
 unfold moByt;dsimp only;rw[if_pos rfl]
theorem moByt4 {back:Bool} {ch row g:Bs} {p:UInt8} (h:row.length=1):moByt 4 back ⟨ch,row,g⟩ p=(p^^^row.getD 0 0,⟨g++[moIn back p (p^^^row.getD 0 0)],[],g++[moIn back p (p^^^row.getD 0 0)]⟩):=by
 unfold moByt;dsimp only;rw[if_neg (by decide),if_pos rfl,if_pos h]
theorem moByt_row {mode:Int} {back:Bool} {ch row g:Bs} {p:UInt8} (h3:mode≠3) (h4:¬(mode=4∧row.length=1)):moByt mode back ⟨ch,row,g⟩ p=(p^^^row.getD 0 0,⟨ch,row.drop 1,g++[moIn back p (p^^^row.getD 0 0)]⟩):=by
 unfold moByt;dsimp only;rw[if_neg h3]
 by_cases h:mode=4
 ·rw[if_pos h,if_neg (fun e=>h4 ⟨h,e⟩)]
 ·rw[if_neg h]
theorem c_byteR {ct:Int} {cq:Nat} {cx:List V} {mode:Int} {back:Bool} {ch g row:Bs} {p:UInt8} (hc0:2≤ch.length) (hc:ch.length≤1000) (h0:0<row.length) (hr:row.length≤1000) (hg:g.length≤1000):
  Con C N.modes_Mode_byte [.p (.k 0) 0,u8V p] [moX (cipV ct cq cx) mode back ⟨ch,row,g⟩ 1,gnB row g] (.ret (u8V (moByt mode back ⟨ch,row,g⟩ p).1)) [moX (cipV ct cq cx) mode back (moByt mode back ⟨ch,row,g⟩ p).2 2,.dead,gnB (moByt mode back ⟨ch,row,g⟩ p).2.row (moByt mode back ⟨ch,row,g⟩ p).2.gone]:=by
 obtain⟨c,hcl⟩:∃c,ch.length=c:=⟨_,rfl⟩
 obtain⟨r,hrl⟩:∃r,row.length=r:=⟨_,rfl⟩
 obtain⟨j,hgl⟩:∃j,g.length=j:=⟨_,rfl⟩
 have hX:moX (cipV ct cq cx) mode back ⟨ch,row,g⟩ 1= .mx [cipV ct cq cx,i64 mode,bool back,.z c (bv ch),.z r (bv row),.o 1 (.k 1) 0 j]:=by
  unfold moX
  rw[gnV_pos h0,←hcl,←hrl,←hgl]
 rw[hX,gnB_pos h0]
 refine fd.modes_Mode_byte.w ?_
 refine⟨_,rfl,?_⟩
 refine spl_eq (fun h=>absurd h (by omega)) (fun _=> ?_)
 refine⟨_,rfl,?_⟩
 refine⟨by omega,by omega,_,bv_getD (k:=row) (i:=0) (by omega),?_⟩
 refine⟨_,rfl,?_⟩
 refine⟨by omega,by omega,by omega,by omega,?_⟩
 refine⟨Zf rfl,?_⟩
 refine⟨_,rfl,?_⟩
 cases back
 ·refine⟨_,rfl,?_⟩
  refine⟨Zh _,by omega,by rw[bv_len,hgl];omega,?_⟩
  refine⟨Zf rfl,?_⟩
  refine⟨_,rfl,?_⟩
  refine spl_eq (fun h3=> ?_) (fun h3=> ?_)
  ·subst h3
   rw[moByt3]
   have ld:(ch.drop 1).length=c-1:=by rw[Ze,hcl]
   have lc:(ch.drop 1++[moIn false p (p^^^row.getD 0 0)]).length=c:=by rw[Zb,ld];show c-1+1=c;omega
   refine⟨_,rfl,?_⟩
   refine⟨by omega,by omega,by omega,by omega,?_⟩
   refine⟨[],_,_,_,_,c_cloneB (n:=c-1) (va:=sub (bv ch) 1 (c-1)) (l:=ch.drop 1) (bv_dropN hcl (by omega)) ld (by omega) (by omega),rfl,rfl,?_⟩
   refine⟨Zh _,by omega,by rw[bv_len,ld];omega,?_⟩
   refine⟨Zf rfl,?_⟩
   refine⟨Zf rfl,?_⟩
   refine⟨.ret (u8V (p^^^row.getD 0 0)),[.mx [cipV ct cq cx,i64 3,bool false,.z c (bv (ch.drop 1++[moIn false p (p^^^row.getD 0 0)])),nilv,.z (j+1) (bv (g++[moIn false p (p^^^row.getD 0 0)]))],.dead],⟨_,rfl,[.k 0,.k 1],?_,⟨_,rfl,?_⟩,?_⟩,?_⟩
   ·show V.s (.int .u8 (U8.wrap _))=_
    rw[u8_xor]
   ·show B.mx [cipV ct cq cx,i64 3,bool false,.z (c-1+1) (sub (sub (bv (ch.drop 1)) 0 ((c-1)*1)++sub [Value.int .u8 _] 0 (1*1)) 0 (c-1+1)),nilv,.z (j+1) (sub (sub (bv g) 0 (j*1)++sub [Value.int .u8 _] 0 (1*1)) 0 (j+1))]=_
    rw[snoc_sub ld (u8_xor _ _),snoc_sub hgl (u8_xor _ _),show c-1+1=c by omega];rfl
   ·exact⟨⟨_,rfl,rfl⟩,trivial⟩
   ·refine⟨.ret (.refl _),.cons (.mx (.cons (.refl _) (.cons (.refl _) (.cons (.refl _) (.cons ?_ (.cons .nl (.cons .u .nil))))))) (.cons (.refl _) (.dd .nil))⟩
    show Wk _ (.z (ch.drop 1++[moIn false p (p^^^row.getD 0 0)]).length _)
    rw[lc];exact .refl _
  refine spl_eq (fun h4=> ?_) (fun h4=> ?_)
  ·subst h4
   refine⟨_,rfl,?_⟩
   refine spl_eq (fun hr1=> ?_) (fun hr1=> ?_)
   ·have hr1:r=1:=by have:=(rfl:Int.toNat 1=1);omega
    have lG:(g++[moIn false p (p^^^row.getD 0 0)]).length=j+1:=by rw[Zb,hgl];rfl
    rw[moByt4 (by omega)]
    refine⟨_,rfl,?_⟩
    refine⟨Zf rfl,?_⟩
    refine⟨.ret (u8V (p^^^row.getD 0 0)),[.mx [cipV ct cq cx,i64 4,bool false,.z (j+1) (bv (g++[moIn false p (p^^^row.getD 0 0)])),.z (r-1) (bv (row.drop 1)),.z (j+1) (bv (g++[moIn false p (p^^^row.getD 0 0)]))],.dead],⟨_,rfl,[.k 0,.k 1],?_,⟨_,rfl,?_⟩,?_⟩,?_⟩
    ·show V.s (.int .u8 (U8.wrap _))=_
     rw[u8_xor]
    ·show B.mx [cipV ct cq cx,i64 4,bool false,.z (j+1) (sub (sub (bv g) 0 (j*1)++sub [Value.int .u8 _] 0 (1*1)) 0 (j+1)),.z (r-1) (sub (bv row) 1 (r-1)),.z (j+1) (sub (sub (bv g) 0 (j*1)++sub [Value.int .u8 _] 0 (1*1)) 0 (j+1))]=_
     rw[snoc_sub hgl (u8_xor _ _),bv_dropN hrl (by omega)];rfl
    ·exact⟨⟨_,rfl,rfl⟩,trivial⟩
    ·refine⟨.ret (.refl _),.cons (.mx (.cons (.refl _) (.cons (.refl _) (.cons (.refl _) (.cons ?_ (.cons ?_ (.cons .u .nil))))))) (.cons (.refl _) (.dd .nil))⟩
     ·show Wk _ (.z (g++[moIn false p (p^^^row.getD 0 0)]).length _)
      rw[lG];exact .refl _
     ·rw[show r-1=0 by omega];exact .z0
   ·have hr2:r≠1:=by have:=(rfl:Int.toNat 1=1);omega
    have lr:(row.drop 1).length=r-1:=by rw[Ze,hrl]
    rw[moByt_row (by decide) (fun e=>hr2 (by omega))]
    by_cases hr1:r=1
    ·have e0:row.drop 1=[]:=Zm.1 (by omega)
     rw[e0]
     refine⟨.ret (u8V (p^^^row.getD 0 0)),[.mx [cipV ct cq cx,i64 4,bool false,.z c (bv ch),.z (r-1) (bv (row.drop 1)),.z (j+1) (bv (g++[moIn false p (p^^^row.getD 0 0)]))],.dead],⟨_,rfl,[.k 0,.k 1],?_,⟨_,rfl,?_⟩,?_⟩,?_⟩
     ·show V.s (.int .u8 (U8.wrap _))=_
      rw[u8_xor]
     ·show B.mx [cipV ct cq cx,i64 4,bool false,.z c (bv ch),.z (r-1) (sub (bv row) 1 (r-1)),.z (j+1) (sub (sub (bv g) 0 (j*1)++sub [Value.int .u8 _] 0 (1*1)) 0 (j+1))]=_
      rw[snoc_sub hgl (u8_xor _ _),bv_dropN hrl (by omega)];rfl
     ·exact⟨⟨_,rfl,rfl⟩,trivial⟩
     ·refine⟨.ret (.refl _),.cons (.mx (.cons (.refl _) (.cons (.refl _) (.cons (.refl _) (.cons ?_ (.cons ?_ (.cons .u .nil))))))) (.cons (.refl _) (.dd .nil))⟩
      ·show Wk _ (.z ch.length _)
       rw[hcl];exact .refl _
      ·rw[show r-1=0 by omega];exact .z0
    ·rw[gnB_pos (row:=row.drop 1) (by omega)]
     refine⟨.ret (u8V (p^^^row.getD 0 0)),[.mx [cipV ct cq cx,i64 4,bool false,.z c (bv ch),.z (r-1) (bv (row.drop 1)),.o 1 (.k 2) 0 (j+1)],.dead,.sc (bv (g++[moIn false p (p^^^row.getD 0 0)]))],⟨_,rfl,[.k 0,.k 1,.d 44 0],?_,⟨_,rfl,?_⟩,⟨_,rfl,rfl⟩,⟨_,rfl,q7s ?_⟩,trivial⟩,?_⟩
     ·show V.s (.int .u8 (U8.wrap _))=_
      rw[u8_xor]
     ·show B.mx [cipV ct cq cx,i64 4,bool false,.z c (bv ch),.z (r-1) (sub (bv row) 1 (r-1)),.o 1 (.k 2) 0 (j+1)]=_
      rw[bv_dropN hrl (by omega)]
     ·exact snoc_blk hgl (u8_xor _ _)
     ·refine⟨.ret (.refl _),.cons (.mx (.cons (.refl _) (.cons (.refl _) (.cons (.refl _) (.cons ?_ (.cons ?_ (.cons ?_ .nil))))))) (.cons (.refl _) (.cons (.refl _) .nil))⟩
      ·show Wk _ (.z ch.length _)
       rw[hcl];exact .refl _
      ·show Wk _ (.z (row.drop 1).length _)
       rw[lr];exact .refl _
      ·show Wk _ (gnV (row.drop 1) (g++[moIn false p (p^^^row.getD 0 0)]) 2)
       rw[gnV_pos (row:=row.drop 1) (by omega),Zb,hgl];exact .refl _
  ·have lr:(row.drop 1).length=r-1:=by rw[Ze,hrl]
   rw[moByt_row h3 (fun e=>h4 e.1)]
   by_cases hr1:r=1
   ·have e0:row.drop 1=[]:=Zm.1 (by omega)
    rw[e0]
    refine⟨.ret (u8V (p^^^row.getD 0 0)),[.mx [cipV ct cq cx,i64 mode,bool false,.z c (bv ch),.z (r-1) (bv (row.drop 1)),.z (j+1) (bv (g++[moIn false p (p^^^row.getD 0 0)]))],.dead],⟨_,rfl,[.k 0,.k 1],?_,⟨_,rfl,?_⟩,?_⟩,?_⟩
    ·show V.s (.int .u8 (U8.wrap _))=_
     rw[u8_xor]
    ·show B.mx [cipV ct cq cx,i64 mode,bool false,.z c (bv ch),.z (r-1) (sub (bv row) 1 (r-1)),.z (j+1) (sub (sub (bv g) 0 (j*1)++sub [Value.int .u8 _] 0 (1*1)) 0 (j+1))]=_
     rw[snoc_sub hgl (u8_xor _ _),bv_dropN hrl (by omega)];rfl
    ·exact⟨⟨_,rfl,rfl⟩,trivial⟩
    ·refine⟨.ret (.refl _),.cons (.mx (.cons (.refl _) (.cons (.refl _) (.cons (.refl _) (.cons ?_ (.cons ?_ (.cons .u .nil))))))) (.cons (.refl _) (.dd .nil))⟩
     ·show Wk _ (.z ch.length _)
      rw[hcl];exact .refl _
     ·rw[show r-1=0 by omega];exact .z0
   ·rw[gnB_pos (row:=row.drop 1) (by omega)]
    refine⟨.ret (u8V (p^^^row.getD 0 0)),[.mx [cipV ct cq cx,i64 mode,bool false,.z c (bv ch),.z (r-1) (bv (row.drop 1)),.o 1 (.k 2) 0 (j+1)],.dead,.sc (bv (g++[moIn false p (p^^^row.getD 0 0)]))],⟨_,rfl,[.k 0,.k 1,.d 44 0],?_,⟨_,rfl,?_⟩,⟨_,rfl,rfl⟩,⟨_,rfl,q7s ?_⟩,trivial⟩,?_⟩
    ·show V.s (.int .u8 (U8.wrap _))=_
     rw[u8_xor]
    ·show B.mx [cipV ct cq cx,i64 mode,bool false,.z c (bv ch),.z (r-1) (sub (bv row) 1 (r-1)),.o 1 (.k 2) 0 (j+1)]=_
     rw[bv_dropN hrl (by omega)]
    ·exact snoc_blk hgl (u8_xor _ _)
    ·refine⟨.ret (.refl _),.cons (.mx (.cons (.refl _) (.cons (.refl _) (.cons (.refl _) (.cons ?_ (.cons ?_ (.cons ?_ .nil))))))) (.cons (.refl _) (.cons (.refl _) .nil))⟩
     ·show Wk _ (.z ch.length _)
      rw[hcl];exact .refl _
     ·show Wk _ (.z (row.drop 1).length _)
      rw[lr];exact .refl _
     ·show Wk _ (gnV (row.drop 1) (g++[moIn false p (p^^^row.getD 0 0)]) 2)
      rw[gnV_pos (row:=row.drop 1) (by omega),Zb,hgl];exact .refl _
 ·refine⟨_,rfl,?_⟩
  refine⟨Zh _,by omega,by rw[bv_len,hgl];omega,?_⟩
  refine⟨Zf rfl,?_⟩
  refine⟨_,rfl,?_⟩
  refine spl_eq (fun h3=> ?_) (fun h3=> ?_)
  ·subst h3
   rw[moByt3]
   have ld:(ch.drop 1).length=c-1:=by rw[Ze,hcl]
   have lc:(ch.drop 1++[moIn true p (p^^^row.getD 0 0)]).length=c:=by rw[Zb,ld];show c-1+1=c;omega
   refine⟨_,rfl,?_⟩
   refine⟨by omega,by omega,by omega,by omega,?_⟩
   refine⟨[],_,_,_,_,c_cloneB (n:=c-1) (va:=sub (bv ch) 1 (c-1)) (l:=ch.drop 1) (bv_dropN hcl (by omega)) ld (by omega) (by omega),rfl,rfl,?_⟩
   refine⟨Zh _,by omega,by rw[bv_len,ld];omega,?_⟩
   refine⟨Zf rfl,?_⟩
   refine⟨Zf rfl,?_⟩
   refine⟨.ret (u8V (p^^^row.getD 0 0)),[.mx [cipV ct cq cx,i64 3,bool true,.z c (bv (ch.drop 1++[moIn true p (p^^^row.getD 0 0)])),nilv,.z (j+1) (bv (g++[moIn true p (p^^^row.getD 0 0)]))],.dead],⟨_,rfl,[.k 0,.k 1],?_,⟨_,rfl,?_⟩,?_⟩,?_⟩
   ·show V.s (.int .u8 (U8.wrap _))=_
    rw[u8_xor]
   ·show B.mx [cipV ct cq cx,i64 3,bool true,.z (c-1+1) (sub (sub (bv (ch.drop 1)) 0 ((c-1)*1)++sub [Value.int .u8 _] 0 (1*1)) 0 (c-1+1)),nilv,.z (j+1) (sub (sub (bv g) 0 (j*1)++sub [Value.int .u8 _] 0 (1*1)) 0 (j+1))]=_
    rw[snoc_sub ld rfl,snoc_sub hgl rfl,show c-1+1=c by omega];rfl
   ·exact⟨⟨_,rfl,rfl⟩,trivial⟩
   ·refine⟨.ret (.refl _),.cons (.mx (.cons (.refl _) (.cons (.refl _) (.cons (.refl _) (.cons ?_ (.cons .nl (.cons .u .nil))))))) (.cons (.refl _) (.dd .nil))⟩
    show Wk _ (.z (ch.drop 1++[moIn true p (p^^^row.getD 0 0)]).length _)
    rw[lc];exact .refl _
  refine spl_eq (fun h4=> ?_) (fun h4=> ?_)
  ·subst h4
   refine⟨_,rfl,?_⟩
   refine spl_eq (fun hr1=> ?_) (fun hr1=> ?_)
   ·have hr1:r=1:=by have:=(rfl:Int.toNat 1=1);omega
    have lG:(g++[moIn true p (p^^^row.getD 0 0)]).length=j+1:=by rw[Zb,hgl];rfl
    rw[moByt4 (by omega)]
    refine⟨_,rfl,?_⟩
    refine⟨Zf rfl,?_⟩
    refine⟨.ret (u8V (p^^^row.getD 0 0)),[.mx [cipV ct cq cx,i64 4,bool true,.z (j+1) (bv (g++[moIn true p (p^^^row.getD 0 0)])),.z (r-1) (bv (row.drop 1)),.z (j+1) (bv (g++[moIn true p (p^^^row.getD 0 0)]))],.dead],⟨_,rfl,[.k 0,.k 1],?_,⟨_,rfl,?_⟩,?_⟩,?_⟩
    ·show V.s (.int .u8 (U8.wrap _))=_
     rw[u8_xor]
    ·show B.mx [cipV ct cq cx,i64 4,bool true,.z (j+1) (sub (sub (bv g) 0 (j*1)++sub [Value.int .u8 _] 0 (1*1)) 0 (j+1)),.z (r-1) (sub (bv row) 1 (r-1)),.z (j+1) (sub (sub (bv g) 0 (j*1)++sub [Value.int .u8 _] 0 (1*1)) 0 (j+1))]=_
     rw[snoc_sub hgl rfl,bv_dropN hrl (by omega)];rfl
    ·exact⟨⟨_,rfl,rfl⟩,trivial⟩
    ·refine⟨.ret (.refl _),.cons (.mx (.cons (.refl _) (.cons (.refl _) (.cons (.refl _) (.cons ?_ (.cons ?_ (.cons .u .nil))))))) (.cons (.refl _) (.dd .nil))⟩
     ·show Wk _ (.z (g++[moIn true p (p^^^row.getD 0 0)]).length _)
      rw[lG];exact .refl _
     ·rw[show r-1=0 by omega];exact .z0
   ·have hr2:r≠1:=by have:=(rfl:Int.toNat 1=1);omega
    have lr:(row.drop 1).length=r-1:=by rw[Ze,hrl]
    rw[moByt_row (by decide) (fun e=>hr2 (by omega))]
    by_cases hr1:r=1
    ·have e0:row.drop 1=[]:=Zm.1 (by omega)
     rw[e0]
     refine⟨.ret (u8V (p^^^row.getD 0 0)),[.mx [cipV ct cq cx,i64 4,bool true,.z c (bv ch),.z (r-1) (bv (row.drop 1)),.z (j+1) (bv (g++[moIn true p (p^^^row.getD 0 0)]))],.dead],⟨_,rfl,[.k 0,.k 1],?_,⟨_,rfl,?_⟩,?_⟩,?_⟩
     ·show V.s (.int .u8 (U8.wrap _))=_
      rw[u8_xor]
     ·show B.mx [cipV ct cq cx,i64 4,bool true,.z c (bv ch),.z (r-1) (sub (bv row) 1 (r-1)),.z (j+1) (sub (sub (bv g) 0 (j*1)++sub [Value.int .u8 _] 0 (1*1)) 0 (j+1))]=_
      rw[snoc_sub hgl rfl,bv_dropN hrl (by omega)];rfl
     ·exact⟨⟨_,rfl,rfl⟩,trivial⟩
     ·refine⟨.ret (.refl _),.cons (.mx (.cons (.refl _) (.cons (.refl _) (.cons (.refl _) (.cons ?_ (.cons ?_ (.cons .u .nil))))))) (.cons (.refl _) (.dd .nil))⟩
      ·show Wk _ (.z ch.length _)
       rw[hcl];exact .refl _
      ·rw[show r-1=0 by omega];exact .z0
    ·rw[gnB_pos (row:=row.drop 1) (by omega)]
     refine⟨.ret (u8V (p^^^row.getD 0 0)),[.mx [cipV ct cq cx,i64 4,bool true,.z c (bv ch),.z (r-1) (bv (row.drop 1)),.o 1 (.k 2) 0 (j+1)],.dead,.sc (bv (g++[moIn true p (p^^^row.getD 0 0)]))],⟨_,rfl,[.k 0,.k 1,.d 44 0],?_,⟨_,rfl,?_⟩,⟨_,rfl,rfl⟩,⟨_,rfl,q7s ?_⟩,trivial⟩,?_⟩
     ·show V.s (.int .u8 (U8.wrap _))=_
      rw[u8_xor]
     ·show B.mx [cipV ct cq cx,i64 4,bool true,.z c (bv ch),.z (r-1) (sub (bv row) 1 (r-1)),.o 1 (.k 2) 0 (j+1)]=_
      rw[bv_dropN hrl (by omega)]
     ·exact snoc_blk hgl rfl
     ·refine⟨.ret (.refl _),.cons (.mx (.cons (.refl _) (.cons (.refl _) (.cons (.refl _) (.cons ?_ (.cons ?_ (.cons ?_ .nil))))))) (.cons (.refl _) (.cons (.refl _) .nil))⟩
      ·show Wk _ (.z ch.length _)
       rw[hcl];exact .refl _
      ·show Wk _ (.z (row.drop 1).length _)
       rw[lr];exact .refl _
      ·show Wk _ (gnV (row.drop 1) (g++[moIn true p (p^^^row.getD 0 0)]) 2)
       rw[gnV_pos (row:=row.drop 1) (by omega),Zb,hgl];exact .refl _
  ·have lr:(row.drop 1).length=r-1:=by rw[Ze,hrl]
   rw[moByt_row h3 (fun e=>h4 e.1)]
   by_cases hr1:r=1
   ·have e0:row.drop 1=[]:=Zm.1 (by omega)
    rw[e0]
    refine⟨.ret (u8V (p^^^row.getD 0 0)),[.mx [cipV ct cq cx,i64 mode,bool true,.z c (bv ch),.z (r-1) (bv (row.drop 1)),.z (j+1) (bv (g++[moIn true p (p^^^row.getD 0 0)]))],.dead],⟨_,rfl,[.k 0,.k 1],?_,⟨_,rfl,?_⟩,?_⟩,?_⟩
    ·show V.s (.int .u8 (U8.wrap _))=_
     rw[u8_xor]
    ·show B.mx [cipV ct cq cx,i64 mode,bool true,.z c (bv ch),.z (r-1) (sub (bv row) 1 (r-1)),.z (j+1) (sub (sub (bv g) 0 (j*1)++sub [Value.int .u8 _] 0 (1*1)) 0 (j+1))]=_
     rw[snoc_sub hgl rfl,bv_dropN hrl (by omega)];rfl
    ·exact⟨⟨_,rfl,rfl⟩,trivial⟩
    ·refine⟨.ret (.refl _),.cons (.mx (.cons (.refl _) (.cons (.refl _) (.cons (.refl _) (.cons ?_ (.cons ?_ (.cons .u .nil))))))) (.cons (.refl _) (.dd .nil))⟩
     ·show Wk _ (.z ch.length _)
      rw[hcl];exact .refl _
     ·rw[show r-1=0 by omega];exact .z0
   ·rw[gnB_pos (row:=row.drop 1) (by omega)]
    refine⟨.ret (u8V (p^^^row.getD 0 0)),[.mx [cipV ct cq cx,i64 mode,bool true,.z c (bv ch),.z (r-1) (bv (row.drop 1)),.o 1 (.k 2) 0 (j+1)],.dead,.sc (bv (g++[moIn true p (p^^^row.getD 0 0)]))],⟨_,rfl,[.k 0,.k 1,.d 44 0],?_,⟨_,rfl,?_⟩,⟨_,rfl,rfl⟩,⟨_,rfl,q7s ?_⟩,trivial⟩,?_⟩
    ·show V.s (.int .u8 (U8.wrap _))=_
     rw[u8_xor]
    ·show B.mx [cipV ct cq cx,i64 mode,bool true,.z c (bv ch),.z (r-1) (sub (bv row) 1 (r-1)),.o 1 (.k 2) 0 (j+1)]=_
     rw[bv_dropN hrl (by omega)]
    ·exact snoc_blk hgl rfl
    ·refine⟨.ret (.refl _),.cons (.mx (.cons (.refl _) (.cons (.refl _) (.cons (.refl _) (.cons ?_ (.cons ?_ (.cons ?_ .nil))))))) (.cons (.refl _) (.cons (.refl _) .nil))⟩
     ·show Wk _ (.z ch.length _)
      rw[hcl];exact .refl _
     ·show Wk _ (.z (row.drop 1).length _)
      rw[lr];exact .refl _
     ·show Wk _ (gnV (row.drop 1) (g++[moIn true p (p^^^row.getD 0 0)]) 2)
      rw[gnV_pos (row:=row.drop 1) (by omega),Zb,hgl];exact .refl _
theorem c_byteF {t key s k xs rs} (h:Ciph t key s k xs rs) {mode:Int} {back:Bool} {ch0 g0:Bs} {i0:Nat} {p:UInt8} (hl:ch0.length=s):
  Con C N.modes_Mode_byte [.p (.k 0) 0,u8V p] [moX (cipV t k xs) mode back ⟨ch0,[],g0⟩ i0,.dead] (.ret (u8V (moOne (cF t key false) mode back ⟨ch0,[],g0⟩ p).1)) [moX (cipV t k xs) mode back (moOne (cF t key false) mode back ⟨ch0,[],g0⟩ p).2 2,.dead,gnB (moOne (cF t key false) mode back ⟨ch0,[],g0⟩ p).2.row (moOne (cF t key false) mode back ⟨ch0,[],g0⟩ p).2.gone]:=by
 have hs:=h.s_le
 have hrl:=h.len (back:=false) hl
 have HB:=c_begin h (mode:=mode) (back:=back) (rv:= .z 0 []) (gv:= .u) rfl hl
 have eo:moOne (cF t key false) mode back ⟨ch0,[],g0⟩ p=moByt mode back ⟨(moBeg (cF t key false) mode ⟨ch0,[],[]⟩).ch,cF t key false ch0,[]⟩ p:=rfl
 have hcl:(moBeg (cF t key false) mode ⟨ch0,[],[]⟩).ch.length=s:=by
  show(if mode=5 then cF t key false ch0 else if mode=6 then incL ch0 else ch0).length=s
  split
  ·exact hrl
  ·split
   ·rw[incL_len,hl]
   ·exact hl
 have hX:moX (cipV t k xs) mode back ⟨ch0,[],g0⟩ i0= .mx [cipV t k xs,i64 mode,bool back,.z s (bv ch0),.z 0 [],.u]:=by
  unfold moX
  rw[←hl];rfl
 rw[hX,eo]
 generalize (moBeg (cF t key false) mode ⟨ch0,[],[]⟩).ch=ch at*
 generalize cF t key false ch0=row at*
 clear hX eo
 have hc0:2≤ch.length:=by omega
 have hr:row.length≤1000:=by omega
 refine fd.modes_Mode_byte.w ?_
 refine⟨_,rfl,?_⟩
 refine⟨[.k 0],_,_,_,_,HB,rfl,rfl,?_⟩
 refine⟨_,rfl,?_⟩
 refine⟨by omega,by omega,_,bv_getD (k:=row) (i:=0) (by omega),?_⟩
 refine⟨_,rfl,?_⟩
 refine⟨by omega,by omega,by omega,by omega,?_⟩
 refine⟨Zf rfl,?_⟩
 refine⟨_,rfl,?_⟩
 cases back
 ·refine⟨_,rfl,?_⟩
  refine⟨Zh _,by omega,?_⟩
  refine⟨Zf rfl,?_⟩
  refine⟨_,rfl,?_⟩
  refine spl_eq (fun h3=> ?_) (fun h3=> ?_)
  ·subst h3
   rw[moByt3]
   have ld:(ch.drop 1).length=s-1:=by rw[Ze,hcl]
   have lc:(ch.drop 1++[moIn false p (p^^^row.getD 0 0)]).length=s:=by rw[Zb,ld];show s-1+1=s;omega
   refine⟨_,rfl,?_⟩
   refine⟨by omega,by omega,by omega,by omega,?_⟩
   refine⟨[],_,_,_,_,c_cloneB (n:=s-1) (va:=sub (bv ch) 1 (s-1)) (l:=ch.drop 1) (bv_dropN hcl (by omega)) ld (by omega) (by omega),rfl,rfl,?_⟩
   refine⟨Zh _,by omega,by rw[bv_len,ld];omega,?_⟩
   refine⟨Zf rfl,?_⟩
   refine⟨Zf rfl,?_⟩
   refine⟨.ret (u8V (p^^^row.getD 0 0)),[.mx [cipV t k xs,i64 3,bool false,.z s (bv (ch.drop 1++[moIn false p (p^^^row.getD 0 0)])),nilv,.z (0+1) (bv ([]++[moIn false p (p^^^row.getD 0 0)]))],.dead],⟨_,rfl,[.k 0,.k 1],?_,⟨_,rfl,?_⟩,?_⟩,?_⟩
   ·show V.s (.int .u8 (U8.wrap _))=_
    rw[u8_xor]
   ·show B.mx [cipV t k xs,i64 3,bool false,.z (s-1+1) (sub (sub (bv (ch.drop 1)) 0 ((s-1)*1)++sub [Value.int .u8 _] 0 (1*1)) 0 (s-1+1)),nilv,.z (0+1) (sub (sub ([]:List Value) 0 (0*1)++sub [Value.int .u8 _] 0 (1*1)) 0 (0+1))]=_
    rw[snoc_sub ld (u8_xor _ _),one_sub (u8_xor _ _),show s-1+1=s by omega];rfl
   ·exact⟨⟨_,rfl,rfl⟩,trivial⟩
   ·refine⟨.ret (.refl _),.cons (.mx (.cons (.refl _) (.cons (.refl _) (.cons (.refl _) (.cons ?_ (.cons .nl (.cons .u .nil))))))) (.cons (.refl _) (.dd .nil))⟩
    show Wk _ (.z (ch.drop 1++[moIn false p (p^^^row.getD 0 0)]).length _)
    rw[lc];exact .refl _
  refine spl_eq (fun h4=> ?_) (fun h4=> ?_)
  ·subst h4
   refine⟨_,rfl,?_⟩
   refine spl_eq (fun hr1=> ?_) (fun hr1=> ?_)
   ·have hr1:s=1:=by have:=(rfl:Int.toNat 1=1);omega
    have lG:([]++[moIn false p (p^^^row.getD 0 0)]).length=0+1:=by rw[Zb];rfl
    rw[moByt4 (by omega)]
    refine⟨_,rfl,?_⟩
    refine⟨Zf rfl,?_⟩
    refine⟨.ret (u8V (p^^^row.getD 0 0)),[.mx [cipV t k xs,i64 4,bool false,.z (0+1) (bv ([]++[moIn false p (p^^^row.getD 0 0)])),.z (s-1) (bv (row.drop 1)),.z (0+1) (bv ([]++[moIn false p (p^^^row.getD 0 0)]))],.dead],⟨_,rfl,[.k 0,.k 1],?_,⟨_,rfl,?_⟩,?_⟩,?_⟩
    ·show V.s (.int .u8 (U8.wrap _))=_
     rw[u8_xor]
    ·show B.mx [cipV t k xs,i64 4,bool false,.z (0+1) (sub (sub ([]:List Value) 0 (0*1)++sub [Value.int .u8 _] 0 (1*1)) 0 (0+1)),.z (s-1) (sub (bv row) 1 (s-1)),.z (0+1) (sub (sub ([]:List Value) 0 (0*1)++sub [Value.int .u8 _] 0 (1*1)) 0 (0+1))]=_
     rw[one_sub (u8_xor _ _),bv_dropN hrl (by omega)];rfl
    ·exact⟨⟨_,rfl,rfl⟩,trivial⟩
    ·refine⟨.ret (.refl _),.cons (.mx (.cons (.refl _) (.cons (.refl _) (.cons (.refl _) (.cons ?_ (.cons ?_ (.cons .u .nil))))))) (.cons (.refl _) (.dd .nil))⟩
     ·show Wk _ (.z ([]++[moIn false p (p^^^row.getD 0 0)]).length _)
      rw[lG];exact .refl _
     ·rw[show s-1=0 by omega];exact .z0
   ·have hr2:s≠1:=by have:=(rfl:Int.toNat 1=1);omega
    have lr:(row.drop 1).length=s-1:=by rw[Ze,hrl]
    rw[moByt_row (by decide) (fun e=>hr2 (by omega))]
    by_cases hr1:s=1
    ·have e0:row.drop 1=[]:=Zm.1 (by omega)
     rw[e0]
     refine⟨.ret (u8V (p^^^row.getD 0 0)),[.mx [cipV t k xs,i64 4,bool false,.z s (bv ch),.z (s-1) (bv (row.drop 1)),.z (0+1) (bv ([]++[moIn false p (p^^^row.getD 0 0)]))],.dead],⟨_,rfl,[.k 0,.k 1],?_,⟨_,rfl,?_⟩,?_⟩,?_⟩
     ·show V.s (.int .u8 (U8.wrap _))=_
      rw[u8_xor]
     ·show B.mx [cipV t k xs,i64 4,bool false,.z s (bv ch),.z (s-1) (sub (bv row) 1 (s-1)),.z (0+1) (sub (sub ([]:List Value) 0 (0*1)++sub [Value.int .u8 _] 0 (1*1)) 0 (0+1))]=_
      rw[one_sub (u8_xor _ _),bv_dropN hrl (by omega)];rfl
     ·exact⟨⟨_,rfl,rfl⟩,trivial⟩
     ·refine⟨.ret (.refl _),.cons (.mx (.cons (.refl _) (.cons (.refl _) (.cons (.refl _) (.cons ?_ (.cons ?_ (.cons .u .nil))))))) (.cons (.refl _) (.dd .nil))⟩
      ·show Wk _ (.z ch.length _)
       rw[hcl];exact .refl _
      ·rw[show s-1=0 by omega];exact .z0
    ·rw[gnB_pos (row:=row.drop 1) (by omega)]
     refine⟨.ret (u8V (p^^^row.getD 0 0)),[.mx [cipV t k xs,i64 4,bool false,.z s (bv ch),.z (s-1) (bv (row.drop 1)),.o 1 (.k 2) 0 (0+1)],.dead,.sc (bv ([]++[moIn false p (p^^^row.getD 0 0)]))],⟨_,rfl,[.k 0,.k 1,.d 44 0],?_,⟨_,rfl,?_⟩,⟨_,rfl,rfl⟩,⟨_,rfl,q7s ?_⟩,trivial⟩,?_⟩
     ·show V.s (.int .u8 (U8.wrap _))=_
      rw[u8_xor]
     ·show B.mx [cipV t k xs,i64 4,bool false,.z s (bv ch),.z (s-1) (sub (bv row) 1 (s-1)),.o 1 (.k 2) 0 (0+1)]=_
      rw[bv_dropN hrl (by omega)]
     ·exact one_blk (u8_xor _ _)
     ·refine⟨.ret (.refl _),.cons (.mx (.cons (.refl _) (.cons (.refl _) (.cons (.refl _) (.cons ?_ (.cons ?_ (.cons ?_ .nil))))))) (.cons (.refl _) (.cons (.refl _) .nil))⟩
      ·show Wk _ (.z ch.length _)
       rw[hcl];exact .refl _
      ·show Wk _ (.z (row.drop 1).length _)
       rw[lr];exact .refl _
      ·show Wk _ (gnV (row.drop 1) ([]++[moIn false p (p^^^row.getD 0 0)]) 2)
       rw[gnV_pos (row:=row.drop 1) (by omega),Zb];exact .refl _
  ·have lr:(row.drop 1).length=s-1:=by rw[Ze,hrl]
   rw[moByt_row h3 (fun e=>h4 e.1)]
   by_cases hr1:s=1
   ·have e0:row.drop 1=[]:=Zm.1 (by omega)
    rw[e0]
    refine⟨.ret (u8V (p^^^row.getD 0 0)),[.mx [cipV t k xs,i64 mode,bool false,.z s (bv ch),.z (s-1) (bv (row.drop 1)),.z (0+1) (bv ([]++[moIn false p (p^^^row.getD 0 0)]))],.dead],⟨_,rfl,[.k 0,.k 1],?_,⟨_,rfl,?_⟩,?_⟩,?_⟩
    ·show V.s (.int .u8 (U8.wrap _))=_
     rw[u8_xor]
    ·show B.mx [cipV t k xs,i64 mode,bool false,.z s (bv ch),.z (s-1) (sub (bv row) 1 (s-1)),.z (0+1) (sub (sub ([]:List Value) 0 (0*1)++sub [Value.int .u8 _] 0 (1*1)) 0 (0+1))]=_
     rw[one_sub (u8_xor _ _),bv_dropN hrl (by omega)];rfl
    ·exact⟨⟨_,rfl,rfl⟩,trivial⟩
    ·refine⟨.ret (.refl _),.cons (.mx (.cons (.refl _) (.cons (.refl _) (.cons (.refl _) (.cons ?_ (.cons ?_ (.cons .u .nil))))))) (.cons (.refl _) (.dd .nil))⟩
     ·show Wk _ (.z ch.length _)
      rw[hcl];exact .refl _
     ·rw[show s-1=0 by omega];exact .z0
   ·rw[gnB_pos (row:=row.drop 1) (by omega)]
    refine⟨.ret (u8V (p^^^row.getD 0 0)),[.mx [cipV t k xs,i64 mode,bool false,.z s (bv ch),.z (s-1) (bv (row.drop 1)),.o 1 (.k 2) 0 (0+1)],.dead,.sc (bv ([]++[moIn false p (p^^^row.getD 0 0)]))],⟨_,rfl,[.k 0,.k 1,.d 44 0],?_,⟨_,rfl,?_⟩,⟨_,rfl,rfl⟩,⟨_,rfl,q7s ?_⟩,trivial⟩,?_⟩
    ·show V.s (.int .u8 (U8.wrap _))=_
     rw[u8_xor]
    ·show B.mx [cipV t k xs,i64 mode,bool false,.z s (bv ch),.z (s-1) (sub (bv row) 1 (s-1)),.o 1 (.k 2) 0 (0+1)]=_
     rw[bv_dropN hrl (by omega)]
    ·exact one_blk (u8_xor _ _)
    ·refine⟨.ret (.refl _),.cons (.mx (.cons (.refl _) (.cons (.refl _) (.cons (.refl _) (.cons ?_ (.cons ?_ (.cons ?_ .nil))))))) (.cons (.refl _) (.cons (.refl _) .nil))⟩
     ·show Wk _ (.z ch.length _)
      rw[hcl];exact .refl _
     ·show Wk _ (.z (row.drop 1).length _)
      rw[lr];exact .refl _
     ·show Wk _ (gnV (row.drop 1) ([]++[moIn false p (p^^^row.getD 0 0)]) 2)
      rw[gnV_pos (row:=row.drop 1) (by omega),Zb];exact .refl _
 ·refine⟨_,rfl,?_⟩
  refine⟨Zh _,by omega,?_⟩
  refine⟨Zf rfl,?_⟩
  refine⟨_,rfl,?_⟩
  refine spl_eq (fun h3=> ?_) (fun h3=> ?_)
  ·subst h3
   rw[moByt3]
   have ld:(ch.drop 1).length=s-1:=by rw[Ze,hcl]
   have lc:(ch.drop 1++[moIn true p (p^^^row.getD 0 0)]).length=s:=by rw[Zb,ld];show s-1+1=s;omega
   refine⟨_,rfl,?_⟩
   refine⟨by omega,by omega,by omega,by omega,?_⟩
   refine⟨[],_,_,_,_,c_cloneB (n:=s-1) (va:=sub (bv ch) 1 (s-1)) (l:=ch.drop 1) (bv_dropN hcl (by omega)) ld (by omega) (by omega),rfl,rfl,?_⟩
   refine⟨Zh _,by omega,by rw[bv_len,ld];omega,?_⟩
   refine⟨Zf rfl,?_⟩
   refine⟨Zf rfl,?_⟩
   refine⟨.ret (u8V (p^^^row.getD 0 0)),[.mx [cipV t k xs,i64 3,bool true,.z s (bv (ch.drop 1++[moIn true p (p^^^row.getD 0 0)])),nilv,.z (0+1) (bv ([]++[moIn true p (p^^^row.getD 0 0)]))],.dead],⟨_,rfl,[.k 0,.k 1],?_,⟨_,rfl,?_⟩,?_⟩,?_⟩
   ·show V.s (.int .u8 (U8.wrap _))=_
    rw[u8_xor]
   ·show B.mx [cipV t k xs,i64 3,bool true,.z (s-1+1) (sub (sub (bv (ch.drop 1)) 0 ((s-1)*1)++sub [Value.int .u8 _] 0 (1*1)) 0 (s-1+1)),nilv,.z (0+1) (sub (sub ([]:List Value) 0 (0*1)++sub [Value.int .u8 _] 0 (1*1)) 0 (0+1))]=_
    rw[snoc_sub ld rfl,one_sub rfl,show s-1+1=s by omega];rfl
   ·exact⟨⟨_,rfl,rfl⟩,trivial⟩
   ·refine⟨.ret (.refl _),.cons (.mx (.cons (.refl _) (.cons (.refl _) (.cons (.refl _) (.cons ?_ (.cons .nl (.cons .u .nil))))))) (.cons (.refl _) (.dd .nil))⟩
    show Wk _ (.z (ch.drop 1++[moIn true p (p^^^row.getD 0 0)]).length _)
    rw[lc];exact .refl _
  refine spl_eq (fun h4=> ?_) (fun h4=> ?_)
  ·subst h4
   refine⟨_,rfl,?_⟩
   refine spl_eq (fun hr1=> ?_) (fun hr1=> ?_)
   ·have hr1:s=1:=by have:=(rfl:Int.toNat 1=1);omega
    have lG:([]++[moIn true p (p^^^row.getD 0 0)]).length=0+1:=by rw[Zb];rfl
    rw[moByt4 (by omega)]
    refine⟨_,rfl,?_⟩
    refine⟨Zf rfl,?_⟩
    refine⟨.ret (u8V (p^^^row.getD 0 0)),[.mx [cipV t k xs,i64 4,bool true,.z (0+1) (bv ([]++[moIn true p (p^^^row.getD 0 0)])),.z (s-1) (bv (row.drop 1)),.z (0+1) (bv ([]++[moIn true p (p^^^row.getD 0 0)]))],.dead],⟨_,rfl,[.k 0,.k 1],?_,⟨_,rfl,?_⟩,?_⟩,?_⟩
    ·show V.s (.int .u8 (U8.wrap _))=_
     rw[u8_xor]
    ·show B.mx [cipV t k xs,i64 4,bool true,.z (0+1) (sub (sub ([]:List Value) 0 (0*1)++sub [Value.int .u8 _] 0 (1*1)) 0 (0+1)),.z (s-1) (sub (bv row) 1 (s-1)),.z (0+1) (sub (sub ([]:List Value) 0 (0*1)++sub [Value.int .u8 _] 0 (1*1)) 0 (0+1))]=_
     rw[one_sub rfl,bv_dropN hrl (by omega)];rfl
    ·exact⟨⟨_,rfl,rfl⟩,trivial⟩
    ·refine⟨.ret (.refl _),.cons (.mx (.cons (.refl _) (.cons (.refl _) (.cons (.refl _) (.cons ?_ (.cons ?_ (.cons .u .nil))))))) (.cons (.refl _) (.dd .nil))⟩
     ·show Wk _ (.z ([]++[moIn true p (p^^^row.getD 0 0)]).length _)
      rw[lG];exact .refl _
     ·rw[show s-1=0 by omega];exact .z0
   ·have hr2:s≠1:=by have:=(rfl:Int.toNat 1=1);omega
    have lr:(row.drop 1).length=s-1:=by rw[Ze,hrl]
    rw[moByt_row (by decide) (fun e=>hr2 (by omega))]
    by_cases hr1:s=1
    ·have e0:row.drop 1=[]:=Zm.1 (by omega)
     rw[e0]
     refine⟨.ret (u8V (p^^^row.getD 0 0)),[.mx [cipV t k xs,i64 4,bool true,.z s (bv ch),.z (s-1) (bv (row.drop 1)),.z (0+1) (bv ([]++[moIn true p (p^^^row.getD 0 0)]))],.dead],⟨_,rfl,[.k 0,.k 1],?_,⟨_,rfl,?_⟩,?_⟩,?_⟩
     ·show V.s (.int .u8 (U8.wrap _))=_
      rw[u8_xor]
     ·show B.mx [cipV t k xs,i64 4,bool true,.z s (bv ch),.z (s-1) (sub (bv row) 1 (s-1)),.z (0+1) (sub (sub ([]:List Value) 0 (0*1)++sub [Value.int .u8 _] 0 (1*1)) 0 (0+1))]=_
      rw[one_sub rfl,bv_dropN hrl (by omega)];rfl
     ·exact⟨⟨_,rfl,rfl⟩,trivial⟩
     ·refine⟨.ret (.refl _),.cons (.mx (.cons (.refl _) (.cons (.refl _) (.cons (.refl _) (.cons ?_ (.cons ?_ (.cons .u .nil))))))) (.cons (.refl _) (.dd .nil))⟩
      ·show Wk _ (.z ch.length _)
       rw[hcl];exact .refl _
      ·rw[show s-1=0 by omega];exact .z0
    ·rw[gnB_pos (row:=row.drop 1) (by omega)]
     refine⟨.ret (u8V (p^^^row.getD 0 0)),[.mx [cipV t k xs,i64 4,bool true,.z s (bv ch),.z (s-1) (bv (row.drop 1)),.o 1 (.k 2) 0 (0+1)],.dead,.sc (bv ([]++[moIn true p (p^^^row.getD 0 0)]))],⟨_,rfl,[.k 0,.k 1,.d 44 0],?_,⟨_,rfl,?_⟩,⟨_,rfl,rfl⟩,⟨_,rfl,q7s ?_⟩,trivial⟩,?_⟩
     ·show V.s (.int .u8 (U8.wrap _))=_
      rw[u8_xor]
     ·show B.mx [cipV t k xs,i64 4,bool true,.z s (bv ch),.z (s-1) (sub (bv row) 1 (s-1)),.o 1 (.k 2) 0 (0+1)]=_
      rw[bv_dropN hrl (by omega)]
     ·exact one_blk rfl
     ·refine⟨.ret (.refl _),.cons (.mx (.cons (.refl _) (.cons (.refl _) (.cons (.refl _) (.cons ?_ (.cons ?_ (.cons ?_ .nil))))))) (.cons (.refl _) (.cons (.refl _) .nil))⟩
      ·show Wk _ (.z ch.length _)
       rw[hcl];exact .refl _
      ·show Wk _ (.z (row.drop 1).length _)
       rw[lr];exact .refl _
      ·show Wk _ (gnV (row.drop 1) ([]++[moIn true p (p^^^row.getD 0 0)]) 2)
       rw[gnV_pos (row:=row.drop 1) (by omega),Zb];exact .refl _
  ·have lr:(row.drop 1).length=s-1:=by rw[Ze,hrl]
   rw[moByt_row h3 (fun e=>h4 e.1)]
   by_cases hr1:s=1
   ·have e0:row.drop 1=[]:=Zm.1 (by omega)
    rw[e0]
    refine⟨.ret (u8V (p^^^row.getD 0 0)),[.mx [cipV t k xs,i64 mode,bool true,.z s (bv ch),.z (s-1) (bv (row.drop 1)),.z (0+1) (bv ([]++[moIn true p (p^^^row.getD 0 0)]))],.dead],⟨_,rfl,[.k 0,.k 1],?_,⟨_,rfl,?_⟩,?_⟩,?_⟩
    ·show V.s (.int .u8 (U8.wrap _))=_
     rw[u8_xor]
    ·show B.mx [cipV t k xs,i64 mode,bool true,.z s (bv ch),.z (s-1) (sub (bv row) 1 (s-1)),.z (0+1) (sub (sub ([]:List Value) 0 (0*1)++sub [Value.int .u8 _] 0 (1*1)) 0 (0+1))]=_
     rw[one_sub rfl,bv_dropN hrl (by omega)];rfl
    ·exact⟨⟨_,rfl,rfl⟩,trivial⟩
    ·refine⟨.ret (.refl _),.cons (.mx (.cons (.refl _) (.cons (.refl _) (.cons (.refl _) (.cons ?_ (.cons ?_ (.cons .u .nil))))))) (.cons (.refl _) (.dd .nil))⟩
     ·show Wk _ (.z ch.length _)
      rw[hcl];exact .refl _
     ·rw[show s-1=0 by omega];exact .z0
   ·rw[gnB_pos (row:=row.drop 1) (by omega)]
    refine⟨.ret (u8V (p^^^row.getD 0 0)),[.mx [cipV t k xs,i64 mode,bool true,.z s (bv ch),.z (s-1) (bv (row.drop 1)),.o 1 (.k 2) 0 (0+1)],.dead,.sc (bv ([]++[moIn true p (p^^^row.getD 0 0)]))],⟨_,rfl,[.k 0,.k 1,.d 44 0],?_,⟨_,rfl,?_⟩,⟨_,rfl,rfl⟩,⟨_,rfl,q7s ?_⟩,trivial⟩,?_⟩
    ·show V.s (.int .u8 (U8.wrap _))=_
     rw[u8_xor]
    ·show B.mx [cipV t k xs,i64 mode,bool true,.z s (bv ch),.z (s-1) (sub (bv row) 1 (s-1)),.o 1 (.k 2) 0 (0+1)]=_
     rw[bv_dropN hrl (by omega)]
    ·exact one_blk rfl
    ·refine⟨.ret (.refl _),.cons (.mx (.cons (.refl _) (.cons (.refl _) (.cons (.refl _) (.cons ?_ (.cons ?_ (.cons ?_ .nil))))))) (.cons (.refl _) (.cons (.refl _) .nil))⟩
     ·show Wk _ (.z ch.length _)
      rw[hcl];exact .refl _
     ·show Wk _ (.z (row.drop 1).length _)
      rw[lr];exact .refl _
     ·show Wk _ (gnV (row.drop 1) ([]++[moIn true p (p^^^row.getD 0 0)]) 2)
      rw[gnV_pos (row:=row.drop 1) (by omega),Zb];exact .refl _
def GOk (n:Nat) (s:MS):Prop:=s.row.length=0∨s.gone.length+s.row.length=n
theorem moOne_gok {E D:Bs→Bs} {n:Nat} {mode:Int} {back:Bool} {s:MS} (h:CI E D n) (hn:0<n) (hm:3≤mode) (ok:MOk n mode s) (g:GOk n s) (p:UInt8):GOk n (moOne E mode back s p).2:=by
 obtain⟨t,ht,h1,h2⟩:∃t,t=(if s.row.length=0 then moBeg E mode s else s)∧0<t.row.length∧t.gone.length+t.row.length=n:=by
  refine⟨_,rfl,?_⟩
  split
  ·obtain⟨b1,b2,b3⟩:=moBeg_ok h hm ok
   exact⟨by omega,by rw[b3,b2];simp⟩
  ·rename_i hr
   exact⟨by omega,g.resolve_left hr⟩
 have e:(moOne E mode back s p).2=(moByt mode back t p).2:=by rw[ht];rfl
 rw[e]
 unfold moByt
 dsimp only
 split
 ·exact .inl rfl
 ·split
  ·split
   ·exact .inl rfl
   ·exact .inr (by show(t.gone++[_]).length+(t.row.drop 1).length=n;rw[Zb,Z2,Ze];omega)
  ·exact .inr (by show(t.gone++[_]).length+(t.row.drop 1).length=n;rw[Zb,Z2,Ze];omega)
theorem moMany_gok {E D:Bs→Bs} {n:Nat} {mode:Int} {back:Bool} (h:CI E D n) (hn:0<n) (hm:3≤mode):∀(l:Bs) {s:MS},MOk n mode s→GOk n s→GOk n (moMany E mode back s l).2
 |[],_,_,g=>g
 |p::l,_,ok,g=>moMany_gok h hn hm l (moOne_ok h hn hm ok p) (moOne_gok h hn hm ok g p)
theorem moStep_gok {E D:Bs→Bs} {n:Nat} {mode:Int} {back:Bool} {s:MS} {b:Bs} (h:CI E D n) (hn:0<n) (ok:MOk n mode s) (g:GOk n s):GOk n (moStep E D n mode back s b).2:=by
 unfold moStep
 by_cases hm:mode=1∨mode=2
 ·simp only[if_pos hm]
  exact g
 ·simp only[if_neg hm]
  exact moMany_gok h hn (by have:=ok.m;omega) b ok g
structure MK (n:Nat) (mode:Int) (s:MS):Prop where
 ok:MOk n mode s
 g:GOk n s
theorem MK.glen {n mode s} (h:MK n mode s) (hr:s.row.length≠0):s.gone.length≤n:=by
 have:=h.g.resolve_left hr
 omega
theorem MK.step {E D:Bs→Bs} {n:Nat} {mode:Int} {back:Bool} {s:MS} {b:Bs} (k:MK n mode s) (h:CI E D n) (hn:0<n):MK n mode (moStep E D n mode back s b).2:=⟨moStep_ok h hn k.ok,moStep_gok h hn k.ok k.g⟩
theorem MK.one {E D:Bs→Bs} {n:Nat} {mode:Int} {back:Bool} {s:MS} (k:MK n mode s) (h:CI E D n) (hn:0<n) (hm:3≤mode) (p:UInt8):MK n mode (moOne E mode back s p).2:=⟨moOne_ok h hn hm k.ok p,moOne_gok h hn hm k.ok k.g p⟩
theorem MK.new {n:Nat} {mode:Int} {iv:Bs} (hm:1≤mode∧mode≤6) (hc:mode=1∨iv.length=n):MK n mode ⟨iv,[],[]⟩:=⟨⟨hm,hc,Nat.zero_le _,fun _=>rfl,fun _=> .inl rfl⟩,.inl rfl⟩
structure RelD (n:Nat) (mode:Int) (x:MS×Bs×Nat):Prop where
 le:x.2.2≤x.2.1.length
 row:x.1.row=x.2.1.drop x.2.2
 len:x.2.1.length≤n
 made:x.1.row.length≠0→x.1.gone.length=x.2.2
 three:mode=3→x.1.row=[]
 blk:mode=1∨mode=2→x.2=([],0)
theorem RelD.new {n:Nat} {mode:Int} {iv:Bs}:RelD n mode (⟨iv,[],[]⟩,[],0):=⟨Zh _,rfl,Nat.zero_le _,fun h=>absurd rfl h,fun _=>rfl,fun _=>rfl⟩
theorem c_block {t key s k xs rs} (h:Ciph t key s k xs rs) {mode:Int} {back:Bool} {c:Nat} {p ch:Bs} {vp vch:List Value} (hvp:vp=bv p) (hvc:vch=bv ch) (hp:p.length=s) (hc:ch.length=c) (hm:mode=1∨mode=2∧c=s):
  Con C N.modes_Mode_block [.p (.k 0) 0,.z s vp] [.mx [cipV t k xs,i64 mode,bool back,.z c vch,.z 0 [],.u]] (.ret (.z s (bv (moBlk (cF t key false) (cF t key true) mode back ch p).1))) [.mx [cipV t k xs,i64 mode,bool back,.z c (bv (moBlk (cF t key false) (cF t key true) mode back ch p).2),.z 0 [],.u]]:=by
 subst hvp;subst hvc
 have hs:=h.s_le
 have lE:=h.len (back:=false) hp
 have lD:=h.len (back:=true) hp
 refine fd.modes_Mode_block.c ?_
 refine⟨_,rfl,?_⟩
 refine spl_eq (fun h1=> ?_) (fun h1=> ?_)
 ·subst h1
  refine⟨_,rfl,?_⟩
  cases back
  ·refine⟨_,rfl,?_⟩
   refine⟨_,rfl,?_⟩
   refine⟨[],_,_,_,_,h.enc hp rfl,rfl,rfl,?_⟩
   refine⟨_,rfl,[.k 0],?_,⟨_,rfl,?_⟩,trivial⟩
   ·show V.z s (sub (bv (cF t key false p)) 0 s)=_
    rw[bv_all lE];rfl
   ·rfl
  ·refine⟨_,rfl,?_⟩
   refine⟨[],_,_,_,_,h.dec hp rfl,rfl,rfl,?_⟩
   refine⟨_,rfl,[.k 0],?_,⟨_,rfl,?_⟩,trivial⟩
   ·show V.z s (sub (bv (cF t key true p)) 0 s)=_
    rw[bv_all lD];rfl
   ·rfl
 ·obtain⟨rfl,rfl⟩:=hm.resolve_left h1
  refine⟨_,rfl,?_⟩
  refine⟨_,rfl,?_⟩
  cases back
  ·have lx:=xorL_len hp hc
   have lX:=h.len (back:=false) lx
   refine⟨_,rfl,?_⟩
   refine⟨[],_,_,_,_,c_xor (a:=p) (b:=ch) rfl rfl hp hc (by omega),rfl,rfl,?_⟩
   refine⟨_,rfl,?_⟩
   refine⟨[],_,_,_,_,h.enc (b:=xorL p ch) lx (bv_all lx),rfl,rfl,?_⟩
   refine⟨[],_,_,_,_,c_cloneB (l:=cF t key false (xorL p ch)) (bv_all lX) lX (by omega) (by omega),rfl,rfl,?_⟩
   refine⟨Zf rfl,?_⟩
   refine⟨_,rfl,[.k 0],?_,⟨_,rfl,?_⟩,trivial⟩
   ·show V.z c (sub (bv (cF t key false (xorL p ch))) 0 c)=_
    rw[bv_all lX];rfl
   ·show B.mx [cipV t k xs,i64 2,bool false,.z c (sub (bv (cF t key false (xorL p ch))) 0 c),.z 0 [],.u]=_
    rw[bv_all lX];rfl
  ·have lx:=xorL_len lD hc
   refine⟨_,rfl,?_⟩
   refine⟨[],_,_,_,_,h.dec hp rfl,rfl,rfl,?_⟩
   refine⟨_,rfl,?_⟩
   refine⟨[],_,_,_,_,c_xor (a:=cF t key true p) (b:=ch) (bv_all lD) rfl lD hc (by omega),rfl,rfl,?_⟩
   refine⟨[],_,_,_,_,c_cloneB (l:=p) rfl hp (by omega) (by omega),rfl,rfl,?_⟩
   refine⟨Zf rfl,?_⟩
   refine⟨_,rfl,[.k 0],?_,⟨_,rfl,?_⟩,trivial⟩
   ·show V.z c (sub (bv (xorL (cF t key true p) ch)) 0 c)=_
    rw[bv_all lx];rfl
   ·show B.mx [cipV t k xs,i64 2,bool true,.z c (sub (bv p) 0 c),.z 0 [],.u]=_
    rw[bv_all hp];rfl
theorem c_grain1 {t key s k xs rs} (h:Ciph t key s k xs rs) {mode:Int} {back:Bool} {st:MS} (hm:3≤mode):
  Con C N.modes_Mode_Grain [.p (.k 0) 0] [moX (cipV t k xs) mode back st 1,gnB st.row st.gone] (.ret (i64 1)) [moX (cipV t k xs) mode back st 1,gnB st.row st.gone]:=by
 obtain⟨ch,row,g⟩:=st
 refine fd.modes_Mode_Grain.c ?_
 refine⟨_,rfl,?_⟩
 refine spl_eq (fun h1=>absurd h1 (by omega)) (fun _=> ?_)
 refine spl_eq (fun h1=>absurd h1 (by omega)) (fun _=> ?_)
 cases row<;>exact⟨_,rfl,[.k 0,.k 1],rfl,⟨_,rfl,rfl⟩,⟨_,rfl,rfl⟩,trivial⟩
theorem c_grainS {t key s k xs rs} (h:Ciph t key s k xs rs) {mode:Int} {back:Bool} {c:Nat} {vc:List Value} (hm:mode=1∨mode=2):
  Con C N.modes_Mode_Grain [.p (.k 0) 0] [.mx [cipV t k xs,i64 mode,bool back,.z c vc,.z 0 [],.u]] (.ret (i64 s)) [.mx [cipV t k xs,i64 mode,bool back,.z c vc,.z 0 [],.u]]:=by
 refine fd.modes_Mode_Grain.c ?_
 refine⟨_,rfl,?_⟩
 refine spl_eq (fun h1=> ?_) (fun h1=> ?_)
 ·refine⟨_,rfl,?_⟩
  refine⟨[],_,_,_,_,h.size,rfl,rfl,?_⟩
  exact⟨_,rfl,[.k 0],rfl,⟨_,rfl,rfl⟩,trivial⟩
 refine spl_eq (fun h2=> ?_) (fun h2=>absurd h2 (by omega))
 ·refine⟨_,rfl,?_⟩
  refine⟨[],_,_,_,_,h.size,rfl,rfl,?_⟩
  exact⟨_,rfl,[.k 0],rfl,⟨_,rfl,rfl⟩,trivial⟩
theorem c_new_m {t key s k xs rs} (h:Ciph t key s k xs rs) {mode:Int} {back:Bool} {l i:Nat} {vi:List Value} {iv:Bs} (hvi:vi=bv iv) (hl:iv.length=l) (hm:1≤mode∧mode≤6) (hi:l=if mode=1 then 0 else s):
  Con C N.modes_New [cipV t k xs,i64 mode,bool back,.z l vi] [] (.ret (.t [.p (.k 0) 0,i64 0])) [moX (cipV t k xs) mode back ⟨iv,[],[]⟩ i,.dead,.dead]:=by
 subst hvi
 have hs:=h.s_le
 have hX:moX (cipV t k xs) mode back ⟨iv,[],[]⟩ i= .mx [cipV t k xs,i64 mode,bool back,.z l (bv iv),.z 0 [],.u]:=by
  unfold moX;rw[hl];rfl
 rw[hX]
 have hm':mode=1∨mode=2∨mode=3∨mode=4∨mode=5∨mode=6:=by omega
 rcases hm' with rfl|rfl|rfl|rfl|rfl|rfl
 ·rw[if_pos rfl]at hi
  refine fd.modes_New.w ?_
  refine⟨[],_,_,_,_,h.size,rfl,rfl,?_⟩
  refine spl_ne (fun hh=>absurd hh (by omega)) (fun _=> ?_)
  refine⟨[],_,_,_,_,c_cloneZ rfl hl (by omega),rfl,rfl,?_⟩
  exact⟨.ret (.t [.p (.k 0) 0,i64 0]),[.mx [cipV t k xs,i64 1,bool back,.z l (bv iv),nilv,nilv]],⟨_,rfl,[.d 32 0],rfl,⟨_,rfl,rfl⟩,trivial⟩,.ret (.refl _),.cons (.mx (.cons (.refl _) (.cons (.refl _) (.cons (.refl _) (.cons (.refl _) (.cons .nl (.cons .u .nil))))))) (.dd (.dd .nil))⟩
 ·rw[if_neg (by decide)]at hi
  refine fd.modes_New.w ?_
  refine⟨[],_,_,_,_,h.size,rfl,rfl,?_⟩
  refine spl_ne (fun hh=>absurd hh (by omega)) (fun _=> ?_)
  refine⟨[],_,_,_,_,c_cloneZ rfl hl (by omega),rfl,rfl,?_⟩
  exact⟨.ret (.t [.p (.k 0) 0,i64 0]),[.mx [cipV t k xs,i64 2,bool back,.z l (bv iv),nilv,nilv]],⟨_,rfl,[.d 32 0],rfl,⟨_,rfl,rfl⟩,trivial⟩,.ret (.refl _),.cons (.mx (.cons (.refl _) (.cons (.refl _) (.cons (.refl _) (.cons (.refl _) (.cons .nl (.cons .u .nil))))))) (.dd (.dd .nil))⟩
 ·rw[if_neg (by decide)]at hi
  refine fd.modes_New.w ?_
  refine⟨[],_,_,_,_,h.size,rfl,rfl,?_⟩
  refine spl_ne (fun hh=>absurd hh (by omega)) (fun _=> ?_)
  refine⟨[],_,_,_,_,c_cloneZ rfl hl (by omega),rfl,rfl,?_⟩
  exact⟨.ret (.t [.p (.k 0) 0,i64 0]),[.mx [cipV t k xs,i64 3,bool back,.z l (bv iv),nilv,nilv]],⟨_,rfl,[.d 32 0],rfl,⟨_,rfl,rfl⟩,trivial⟩,.ret (.refl _),.cons (.mx (.cons (.refl _) (.cons (.refl _) (.cons (.refl _) (.cons (.refl _) (.cons .nl (.cons .u .nil))))))) (.dd (.dd .nil))⟩
 ·rw[if_neg (by decide)]at hi
  refine fd.modes_New.w ?_
  refine⟨[],_,_,_,_,h.size,rfl,rfl,?_⟩
  refine spl_ne (fun hh=>absurd hh (by omega)) (fun _=> ?_)
  refine⟨[],_,_,_,_,c_cloneZ rfl hl (by omega),rfl,rfl,?_⟩
  exact⟨.ret (.t [.p (.k 0) 0,i64 0]),[.mx [cipV t k xs,i64 4,bool back,.z l (bv iv),nilv,nilv]],⟨_,rfl,[.d 32 0],rfl,⟨_,rfl,rfl⟩,trivial⟩,.ret (.refl _),.cons (.mx (.cons (.refl _) (.cons (.refl _) (.cons (.refl _) (.cons (.refl _) (.cons .nl (.cons .u .nil))))))) (.dd (.dd .nil))⟩
 ·rw[if_neg (by decide)]at hi
  refine fd.modes_New.w ?_
  refine⟨[],_,_,_,_,h.size,rfl,rfl,?_⟩
  refine spl_ne (fun hh=>absurd hh (by omega)) (fun _=> ?_)
  refine⟨[],_,_,_,_,c_cloneZ rfl hl (by omega),rfl,rfl,?_⟩
  exact⟨.ret (.t [.p (.k 0) 0,i64 0]),[.mx [cipV t k xs,i64 5,bool back,.z l (bv iv),nilv,nilv]],⟨_,rfl,[.d 32 0],rfl,⟨_,rfl,rfl⟩,trivial⟩,.ret (.refl _),.cons (.mx (.cons (.refl _) (.cons (.refl _) (.cons (.refl _) (.cons (.refl _) (.cons .nl (.cons .u .nil))))))) (.dd (.dd .nil))⟩
 ·rw[if_neg (by decide)]at hi
  refine fd.modes_New.w ?_
  refine⟨[],_,_,_,_,h.size,rfl,rfl,?_⟩
  refine spl_ne (fun hh=>absurd hh (by omega)) (fun _=> ?_)
  refine⟨[],_,_,_,_,c_cloneZ rfl hl (by omega),rfl,rfl,?_⟩
  exact⟨.ret (.t [.p (.k 0) 0,i64 0]),[.mx [cipV t k xs,i64 6,bool back,.z l (bv iv),nilv,nilv]],⟨_,rfl,[.d 32 0],rfl,⟨_,rfl,rfl⟩,trivial⟩,.ret (.refl _),.cons (.mx (.cons (.refl _) (.cons (.refl _) (.cons (.refl _) (.cons (.refl _) (.cons .nl (.cons .u .nil))))))) (.dd (.dd .nil))⟩
theorem c_byte {t key s k xs rs} (h:Ciph t key s k xs rs) {mode:Int} {back:Bool} {st:MS} {p:UInt8} (hm:3≤mode) (K:MK s mode st):
  Con C N.modes_Mode_byte [.p (.k 0) 0,u8V p] [moX (cipV t k xs) mode back st 1,gnB st.row st.gone] (.ret (u8V (moOne (cF t key false) mode back st p).1)) [moX (cipV t k xs) mode back (moOne (cF t key false) mode back st p).2 2,.dead,gnB (moOne (cF t key false) mode back st p).2.row (moOne (cF t key false) mode back st p).2.gone]:=by
 have hs:=h.s_le
 have hc:st.ch.length=s:=K.ok.ch.resolve_left (by omega)
 have hr:=K.ok.row
 have hg:=K.glen
 obtain⟨ch,row,g⟩:=st
 dsimp only at hc hr hg
 by_cases h0:row.length=0
 ·obtain rfl:=Jc h0
  exact c_byteF h hc
 ·have e:moOne (cF t key false) mode back ⟨ch,row,g⟩ p=moByt mode back ⟨ch,row,g⟩ p:=by unfold moOne;rw[if_neg h0]
  rw[e]
  have hg:=hg h0
  exact c_byteR (by omega) (by omega) (by omega) (by omega) (by omega)
def msD (cv:V) (mode:Int) (back:Bool) (m:Nat) (b:Bs):Bool×Nat×MS×Bs→D
 |(false,i,st,o)=>⟨[(0,.p (.k 0) 0),(1,.z m (bv b)),(6,i64 1),(7,.o 1 (.k 2) 0 0)],[moX cv mode back st 1,gnB st.row st.gone,.sc []]⟩
 |(true,i,st,o)=>⟨[(0,.p (.k 0) 0),(1,.z (m-i) (bv (b.drop i))),(6,i64 1),(7,.o 1 (.k 3) 0 i)],[moX cv mode back st 2,.dead,gnB st.row st.gone,.sc (bv o)]⟩
theorem take_succ_getD {b:Bs} {i:Nat} (h:i<b.length):b.take (i+1)=b.take i++[(b.drop i).getD 0 0]:=by
 rw[List.take_add_one,Zk h,Zc,List.getElem?_drop,Ju,Zk h];rfl
end Go.Scr
