/-
  What the functions of the given program reckon, each by a contract, up to the law. It is no claim by itself; each contract bears its own conditions.
-/
import Derived.Test.YthhlfpbfdkogfaaGreatDoorY1
set_option linter.unusedVariables false
set_option linter.unusedSimpArgs false
set_option maxRecDepth 100000
namespace Go.Scr
open Go.Proofs
open IntWalk renaming i64_in → Za
open List renaming length_append → Zb, getD_eq_getElem?_getD → Zc, length_drop → Zf, length_take → Zg, replicate → Zk, nil_append → Zl, length_reverse → Zm, range_succ → Zo, getElem?_eq_getElem → Zp, length_set → Zs, map_append → Zv, foldl_cons → Zw, foldl_append → Zy, length_eq_zero_iff → Zz, take_append_drop → Z3, reverse_reverse → Z5, length_cons → Z6, length_zipWith → Z7, zipWith_cons_cons → Jb, take_of_length_le → Jc, length_replicate → Jd, drop_append_of_le_length → Je, append_nil → Jg, getElem?_set → Jh, range_succ_eq_map → Jl, length_map → Jn, length_singleton → Jo, getElem?_reverse → Jp, map → Ju
open Int renaming toNat_natCast → Zd, tdiv_eq_ediv_of_nonneg → Zn, tmod_eq_emod_of_nonneg → Zq
open Nat renaming mul_one → Ze, le_refl → Zh, zero_add → Zi, le_of_ble_eq_true → Zj, mod_eq_of_lt → Zr, mod_lt → Zu, div_add_mod → Zx, pow_le_pow_right → Z4, mul_mod → Ja, mod_mul_mod → Jf, add_sub_cancel_left → Ji, testBit_lt_two_pow → Jj, mul_comm → Jk, sub_self → Js, mul_succ → Jt
open UInt8 renaming ofNat → Zt, toNat_ofNat' → Z0, xor_assoc → Z8, toNat_inj → Z9, xor_zero → Jq
open UInt32 renaming sub_add_cancel → Z1, add_sub_cancel → Z2, toNat_ofNat' → Jr
open BitVec renaming ofInt → Jm
open Go.IntKind renaming i64 → I6, u8 → U8
theorem IZ {va vk:List Value} {r k:Bs} (ha:va=bv r) (hk:vk=bv k) (hr:r.length=4) (hkl:k.length=6):a9 C 187 [.z 4 va,.z 6 vk] [] (.ret (.t [.o 1 (.k 0) 0 4,bool true])) [.sc (bv (dF r k))]:=by
 have hp:(E3 (P6 48) r).length=6:=by rw[eQ,eZ]
 have hx:(j8 (E3 (P6 48) r) k).length=6:=B0 hp hkl;generalize hxe:j8 (E3 (P6 48) r) k=x at hx;refine Px.c ?_;refine bd 0 rfl 8 (fun i=>⟨[(6,.z 6 (bv x)),(8,.o 1 (.k 0) 0 4),(9,i64 i)],[.sc (bv (M5 x i))]⟩) ?_ fun i hi=> ?_
 ·refine⟨[],_,_,_,_,Nr,rfl,rfl,?_⟩;refine⟨[],_,_,_,_,ni (b:=r) (t:=P6 48) (n:=48) ha (G8 (eZ _)) hr (eZ _) (by decide) (by decide) (by decide) (by decide +kernel),rfl,rfl,?_⟩;refine⟨[],_,_,_,_,M4 (a:=E3 (P6 48) r) (b:=k) (g8 hp) hk hp hkl (by decide),rfl,rfl,?_⟩;rw[hxe];refine⟨by decide,by decide,by decide,?_⟩;refine⟨[],0,by decide,[.d 34 0],⟨?_,rfl,rfl,tq⟩,⟨_,rfl,g9 ?_⟩,tq⟩
  ·show V.z 6 (sub (bv x) 0 6)=_;rw[g8 hx]
  ·rfl
 have p1:I6.wrap (I6.wrap (6*(i:Int))+1)=((6*i+1:Nat):Int):=by
  rw[Za (6*(i:Int)) (by omega),Za _ (by omega)];omega
 refine⟨[],_,_,_,_,pn (n:=6*i+1) (b:=x) p1 rfl hx (by decide) (by omega) (by omega),rfl,rfl,?_⟩;have p2:I6.wrap (I6.wrap (I6.wrap (6*(i:Int))+1)+5)=((6*i+6:Nat):Int):=by
  rw[p1,Za _ (by omega)];omega
 refine⟨[],_,_,_,_,pn (n:=6*i+6) (b:=x) p2 rfl hx (by decide) (by omega) (by omega),rfl,rfl,?_⟩;have hb1:=bp (tb x (6*i+1-1));have hb2:=bp (tb x (6*i+6-1));have hrow:I6.wrap (I6.wrap (2*(((tb x (6*i+1-1)).toNat:Nat):Int))+(((tb x (6*i+6-1)).toNat:Nat):Int))=((fA x i:Nat):Int):=by
  rw[Za (2*(((tb x (6*i+1-1)).toNat:Nat):Int)) (by omega),Za _ (by omega)];rfl
 refine m5 (fun k=>⟨[(6,.z 6 (bv x)),(8,.o 1 (.k 0) 0 4),(9,i64 i),(10,i64 (6*i+1:Nat)),(11,i64 (fA x i:Nat)),(12,i64 (dr x i k:Nat)),(13,i64 (k+1:Nat))],[.sc (bv (M5 x i))]⟩) 4 ⟨[.k 0],⟨rfl,rfl,rfl,f6 p1,f6 hrow,rfl,rfl,tq⟩,⟨_,rfl,rfl⟩,tq⟩ fun k hk=> ?_;refine d9 (fun h=> ?_) (fun h=> ?_)
 ·have hkl:k<4:=(by omega);have p3:I6.wrap (((6*i+1:Nat):Int)+((k+1:Nat):Int))=((6*i+k+2:Nat):Int):=by
   rw[Za _ (by omega)];omega
  refine⟨[],_,_,_,_,pn (n:=6*i+k+2) (b:=x) p3 rfl hx (by decide) (by omega) (by omega),rfl,rfl,?_⟩;have hb:=bp (tb x (6*i+k+2-1));have hc:=nr x i k;have hc2:2^k<=8:=by
   have:2^k<=2^3:=Z4 (by decide) (by omega);simpa using this
  refine⟨k+1,by omega,by omega,[.k 0],⟨rfl,rfl,rfl,rfl,rfl,f6 ?_,f6 (by simp(disch:=omega)only[Za];omega),tq⟩,⟨_,rfl,rfl⟩,tq⟩;rw[Za (2*((dr x i k:Nat):Int)) (by omega),Za _ (by omega)];show _=((2*dr x i k+(tb x (6*i+1+k)).toNat:Nat):Int);rw[show 6*i+1+k=6*i+k+2-1 by omega];omega
 ·obtain rfl:k=4:=(by omega);have e2:I6.wrap ((i:Int).tdiv 2)=((i/2:Nat):Int):=by
   rw[Zn (by omega),Za _ (by omega)];omega
  have e3:I6.wrap (4*I6.wrap (1-(i:Int).tmod 2))=((4*(1-i%2):Nat):Int):=by
   rw[Zq (by omega),Za (1-(i:Int)%2) (by omega),Za _ (by omega)];omega
  have hcl:=nr x i 4;obtain⟨o1,o2⟩:=uC i hi _ (kJ x i);refine⟨by decide,by rw[e2];omega,by rw[e2];omega,?_⟩;refine⟨_,by rw[e2,Zd,Ze,Zi];exact p5 (by rw[kI];omega),?_⟩;refine⟨[],_,_,_,_,JA hi (kJ x i),rfl,rfl,?_⟩;refine⟨by omega,?_,?_⟩
  ·show((dr x i 4:Nat):Int)<(((Q6 i (fA x i)).toArray.size:Nat):Int);simp only[List.size_toArray,o1];omega
  refine⟨_,by rw[Zd];exact oE (by omega),?_⟩;refine⟨[],_,_,_,_,JG rfl (o2 _ hcl),rfl,rfl,?_⟩;refine⟨by decide,by rw[e3];omega,by rw[e2];omega,by rw[e2];omega,by rw[e2,i9,kI];omega,?_⟩;have hset:(bv (M5 x i)).set (i/2) (.int .u8 (U8.wrap ((Jm U8.bits (((M5 x i).getD (i/2) 0).toNat:Int)|||Jm U8.bits (U8.wrap (((dS x i:Nat):Int)*2^(min ((4*(1-i%2):Nat):Int).toNat U8.bits)))).toNat:Int)))=bv (M5 x (i+1)):=by
   rw[Xl _ (pS hi) _ (by omega),sg,K6,Aq hi]
  have w1:I6.wrap ((i:Int)+1)=((i+1:Nat):Int):=by rw[Za _ (by omega)];omega
  refine d9 (fun h=> ?_) (fun h=> ?_)
  ·rw[w1]at h;refine⟨rfl,i+1,by omega,by omega,[.k 0],⟨rfl,rfl,f6 w1,tq⟩,⟨_,rfl,g9 ?_⟩,tq⟩;rw[e2,e3,Zd,Ze,Zi];exact hset
  ·rw[w1]at h;obtain rfl:i=7:=(by omega);refine⟨[],_,_,_,_,KV,rfl,rfl,?_⟩;have hm:jF.length=32:=rfl;have h8:=kI x 8;refine⟨[],_,_,_,_,ni (b:=M5 x 8) (t:=jF) (n:=32) ?_ (G8 hm) h8 hm (by decide) (by decide) (by decide) (by decide +kernel),rfl,rfl,?_⟩
   ·show sub ((bv (M5 x 7)).set _ _) 0 4=_;rw[e2,e3];exact(congrArg (fun l=>sub l 0 4) hset).trans (g8 h8)
   refine⟨_,rfl,[.d 83 0],rfl,⟨_,rfl,g9 ?_⟩,tq⟩;rw[dF,hxe]
def az (t:List Nat) (n:Nat):List Nat:=(List.range n).foldl (fun o i=>o.set (t.getD i 0-1) (i+1)) (Zk t.length 0)
theorem vz (t n):az t (n+1)=(az t n).set (t.getD n 0-1) (n+1):=by simp[az,Zo]
theorem nT (t n):(az t n).length=t.length:=by
 induction n with
 |zero=>simp[az]
 |succ n ih=>rw[vz,Zs,ih]
def bZ:List Nat:=az z7 64
theorem BE:∀i,i<64->1<=z7.getD i 0/\z7.getD i 0<=64/\(az z7 i).getD (z7.getD i 0-1) 0=0:=by decide +kernel
theorem O4:z7.length=64:=by decide +kernel
theorem CE (l:List Nat) (i x:Nat):(nv l).set i (.int .i64 (x:Int))=nv (l.set i x):=by simp[nv,List.map_set]
theorem CD (n:Nat):Zk n (Value.int .i64 0)=nv (Zk n 0):=by simp[nv]
theorem JV {vt:List Value} (hv:vt=nv z7):a9 C 188 [.z 64 vt] [] (.ret (.t [.o 1 (.k 0) 0 64,bool true])) [.sc (nv bZ)]:=by
 subst hv;refine Ph.c ?_;refine⟨by decide,by decide,by decide,?_⟩;refine m5 (fun i=>⟨[(0,.z 64 (nv z7)),(4,.o 1 (.k 0) 0 64),(12,i64 64),(13,i64 i)],[.sc (nv (az z7 i))]⟩) 64 ⟨[.d 10 0],⟨rfl,rfl,rfl,rfl,tq⟩,⟨_,rfl,g9 ?_⟩,tq⟩ fun i hi=> ?_
 ·show Zk 64 _=_;rw[CD,az,O4];rfl
 refine d9 (fun h=> ?_) (fun h=> ?_)
 ·have d8:i<64:=(by omega);obtain⟨g1,g2,g3⟩:=BE i d8;refine⟨by omega,by omega,?_⟩;refine⟨_,by rw[Zd];exact X6 (by rw[O4];omega),?_⟩;refine d9 (fun h=> ?_) (fun h=> ?_)
  ·omega
  refine d9 (fun h=> ?_) (fun h=> ?_)
  ·omega
  have e1:I6.wrap (((z7.getD i 0:Nat):Int)-1)=((z7.getD i 0-1:Nat):Int):=by rw[Za _ (by omega)];omega
  refine⟨by rw[e1];omega,by rw[e1];omega,?_⟩;refine⟨_,by rw[e1,Zd,Ze,Zi];exact X6 (by rw[nT,O4];omega),?_⟩;refine d9 (fun h=> ?_) (fun h=> ?_)
  ·rw[g3]at h;omega
  refine⟨by rw[e1];omega,by rw[e1];omega,by rw[e1,K8,nT,O4];omega,?_⟩;have w1:I6.wrap ((i:Int)+1)=((i+1:Nat):Int):=by rw[Za _ (by omega)];omega
  refine⟨i+1,by omega,by omega,[.k 0],⟨rfl,rfl,rfl,f6 w1,tq⟩,⟨_,rfl,g9 ?_⟩,tq⟩;rw[e1,w1,Zd,Ze,Zi,CE,vz]
 ·obtain rfl:i=64:=(by omega);refine⟨by decide,by decide,by decide,?_⟩;have hl:(az z7 64).length=64:=by rw[nT,O4]
  refine⟨by rw[K8,hl];decide,by decide,?_⟩;refine⟨_,rfl,[.d 45 0],rfl,⟨_,rfl,g9 ?_⟩,tq⟩;show(Zk 64 (Value.int .i64 0)).take 0++(sub (nv (az z7 64)) 0 64).take 64++(Zk 64 (Value.int .i64 0)).drop 64=_;have ht:(nv (az z7 64)).take 64=nv (az z7 64):=Jc (by rw[K8,hl];decide);have hd:(Zk 64 (Value.int .i64 0)).drop 64=[]:=rfl;rw[G8 hl,ht,hd,List.take_zero,Zl,Jg];rfl
def kg (i:Nat):Nat:=if i<2\/i=8\/i=15 then 1 else 2
def mD (t:List Nat) (s:Nat):List Nat:=(t.take 28).drop s++(t.take 28).take s++(t.drop 28).drop s++(t.drop 28).take s
def O0:Nat->List Nat
 |0=>cY
 |i+1=>mD (O0 i) (kg i)
def en (i n:Nat):List Nat:=(List.range n).map fun j=>(O0 (i+1)).getD (aK.getD j 0-1) 0
def ay (key:Bs) (i:Nat):Bs:=E3 (en i 48) key
def F5 (key:Bs) (n:Nat):List (Bs):=(List.range n).map (ay key)
def kV (l:List (Bs)):List V:=l.map fun k=> .z 6 (bv k)
theorem kK:∀i,i<17->(O0 i).length=56:=by decide +kernel
theorem wQ:∀j,j<48->1<=aK.getD j 0/\aK.getD j 0<=56:=by decide +kernel
theorem rY:aK.length=48:=by decide +kernel
theorem OG:∀i,i<16->∀j,j<48->1<=(en i 48).getD j 0/\(en i 48).getD j 0<=64:=by decide +kernel
theorem nC (i n):(en i n).length=n:=by simp[en]
theorem OH (i n):en i (n+1)=en i n++[(O0 (i+1)).getD (aK.getD n 0-1) 0]:=by simp[en,Zo]
theorem Ap (key n):F5 key (n+1)=F5 key n++[ay key n]:=by simp[F5,Zo]
theorem gJ (key n):(F5 key n).length=n:=by simp[F5]
theorem uA (key i):(ay key i).length=6:=by rw[ay,eQ,nC]
theorem cG (l):(kV l).length=l.length:=by simp[kV]
theorem lg (H b9) (l):(kV l).map (o5 H b9 6)=kV l:=by
 unfold kV;rw[List.map_map];exact List.map_congr_left fun _ _=>rfl
theorem a05 {t:List Nat} {s:Nat} (ht:t.length=56) (hs:s<=28):
  sub (nv (sub t 0 28)) s (28-s)++sub (nv (sub t 0 28)) 0 s++sub (nv (sub t 28 28)) s (28-s)++sub (nv (sub t 28 28)) 0 s=nv (mD t s):=by
 rw[aZ,aZ,aZ,aZ,fM,fM,fM];congr 1;have e1:sub t 28 28=t.drop 28:=M0 _ _ _ (by omega);have e0:sub t 0 28=t.take 28:=rfl;rw[e1,e0,mD];rw[M0 (t.take 28) s (28-s) (by rw[Zg];omega),M0 (t.drop 28) s (28-s) (by rw[Zf];omega)];rfl
theorem a04 {t:List Nat} {s:Nat} (ht:t.length=56) (hs:s<=28):
  sub (sub (sub (sub (sub (nv t) 0 28) s (28-s)++sub (sub (nv t) 0 28) 0 s) 0 28++sub (sub (nv t) 28 28) s (28-s)) 0 (28+(28-s))++sub (sub (nv t) 28 28) 0 s) 0 56=nv (mD t s):=by
 have l0:(sub (nv t) 0 28).length=28:=by rw[l4,K8,ht];rfl
 have l1:(sub (nv t) 28 28).length=28:=by rw[l4,K8,ht];rfl
 have a:sub (sub (sub (nv t) 0 28) s (28-s)++sub (sub (nv t) 0 28) 0 s) 0 28=sub (sub (nv t) 0 28) s (28-s)++sub (sub (nv t) 0 28) 0 s:=C2 (by simp only[Zb,l4,K8,ht];omega);rw[a];have b:sub (sub (sub (nv t) 0 28) s (28-s)++sub (sub (nv t) 0 28) 0 s++sub (sub (nv t) 28 28) s (28-s)) 0 (28+(28-s))=sub (sub (nv t) 0 28) s (28-s)++sub (sub (nv t) 0 28) 0 s++sub (sub (nv t) 28 28) s (28-s):=C2 (by simp only[Zb,l4,K8,ht];omega);rw[b,C2 (by simp only[Zb,l4,K8,ht];omega)];rw[aZ t 0 28,aZ t 28 28];exact a05 ht hs
theorem BO (H b9) (l) (n):(kV l).map (E9 H b9 (n+1))=kV l:=by
 unfold kV;rw[List.map_map];exact List.map_congr_left fun _ _=>rfl
def Av (key:Bs) (i:Nat):B:=match i with
 |0=> .pl []
 |i+1=> .mx (kV (F5 key (i+1)))
theorem yU {va:List Value} {key:Bs} (ha:va=bv key) (hk:key.length=8):a9 C 126 [.z 8 va] [] (.ret (.t [.zz 1 16 (kV (F5 key 16)),i64 0])) []:=by
 subst ha;refine Py.c ?_;refine⟨[],_,_,_,_,Ib,rfl,rfl,?_⟩;refine⟨by decide,by decide,by decide,?_⟩;refine m5 (fun i=>⟨[(0,.z 8 (bv key)),(4,.z 56 (nv (O0 i))),(5,.z 48 (nv aK)),(6,.o 1 (.k 0) 0 i),(24,i64 i)],[Av key i]⟩) 16 ⟨[.d 23 0],⟨rfl,?_,?_,rfl,rfl,tq⟩,⟨_,rfl,rfl⟩,tq⟩ fun i hi=> ?_
 ·show V.z 56 (sub (nv cY) 0 56)=_;rw[G8 (by decide +kernel)];rfl
 ·show V.z 48 (sub (nv aK) 0 48)=_;rw[G8 (by decide +kernel)]
 refine d9 (fun h=> ?_) (fun h=> ?_)
 ·have d8:i<16:=(by omega);have ht:=kK i (by omega);have l0:(sub (nv (O0 i)) 0 28).length=28:=by rw[l4,K8,ht];rfl
  have l1:(sub (nv (O0 i)) 28 28).length=28:=by rw[l4,K8,ht];rfl
  refine d9 (fun h1=> ?_) (fun h1=>j5 (fun h2=> ?_) (fun h2=>j5 (fun h3=> ?_) (fun h3=> ?_)));all_goals
   first
    |have hs:O0 (i+1)=mD (O0 i) 1:=by rw[O0,kg,if_pos (by omega)]
    |have hs:O0 (i+1)=mD (O0 i) 2:=by rw[O0,kg,if_neg (by omega)]
   refine⟨by decide,by decide,by decide,by decide,?_⟩;refine⟨[],_,_,_,_,tI (n:=28) (va:=sub (nv (O0 i)) 0 28) l0 (by decide) (by decide),rfl,rfl,?_⟩;refine⟨by decide,by decide,by decide,by decide,?_⟩;refine⟨[],_,_,_,_,tI (n:=28) (va:=sub (nv (O0 i)) 28 28) l1 (by decide) (by decide),rfl,rfl,?_⟩;refine⟨by decide,by decide,by decide,by decide,?_⟩;refine⟨by decide,by decide,by decide,by decide,?_⟩;refine⟨(by first|decide|(simp only[Zb,l4,l0,l1];decide)),(by first|decide|(simp only[Zb,l4,l0,l1];decide)),(by first|decide|(simp only[Zb,l4,l0,l1];decide)),?_⟩;refine⟨by decide,by decide,by decide,by decide,?_⟩;refine⟨(by first|decide|(simp only[Zb,l4,l0,l1];decide)),(by first|decide|(simp only[Zb,l4,l0,l1];decide)),(by first|decide|(simp only[Zb,l4,l0,l1];decide)),?_⟩;refine⟨by decide,by decide,by decide,by decide,?_⟩;refine⟨(by first|decide|(simp only[Zb,l4,l0,l1];decide)),(by first|decide|(simp only[Zb,l4,l0,l1];decide)),(by first|decide|(simp only[Zb,l4,l0,l1];decide)),?_⟩;refine D6 (fun j=>⟨[(0,.z 8 (bv key)),(4,.z 56 (nv (O0 (i+1)))),(5,.z 48 (nv aK)),(6,.o 1 (.k 0) 0 i),(11,.o 1 (.k 1) 0 j),(24,i64 i),(58,.z 48 (nv aK)),(59,i64 48),(60,i64 j)],[Av key i,.sc (nv (en i j))]⟩) 48 [(11,1,.sc [])] ⟨[.k 0,.d 900000 0],⟨rfl,?_,rfl,rfl,rfl,rfl,rfl,rfl,rfl,tq⟩,⟨_,rfl,?_⟩,⟨_,rfl,rfl⟩,tq⟩ fun j hj=> ?_
   ·rw[hs];exact congrArg (V.z 56) (a04 ht (by decide))
   ·rcases i with _|i
    ·rfl
    ·show B.mx ((kV _).map _)=_;rw[lg];rfl
   refine d9 (fun h=> ?_) (fun h=> ?_)
   ·have hj':j<48:=(by omega);obtain⟨g1,g2⟩:=wQ j hj';have e1:I6.wrap (((aK.getD j 0:Nat):Int)-1)=((aK.getD j 0-1:Nat):Int):=by rw[Za _ (by omega)];omega
    refine⟨by omega,by omega,?_⟩;refine⟨_,by rw[Zd];exact X6 (by rw[rY];omega),?_⟩;refine⟨by rw[e1];omega,by rw[e1];omega,?_⟩;refine⟨_,by rw[e1,Zd];exact X6 (by rw[kK _ (by omega)];omega),?_⟩;refine⟨Zh _,by omega,by rw[K8,nC];omega,?_⟩;refine⟨j+1,by omega,by omega,[.k 0,.d 71 0],⟨rfl,rfl,rfl,rfl,rfl,rfl,rfl,rfl,f6 (by simp(disch:=omega)only[Za];omega),tq⟩,⟨_,rfl,?_⟩,⟨_,rfl,g9 ?_⟩,tq⟩
    ·rcases i with _|i
     ·rfl
     ·show B.mx ((kV _).map _)=_;rw[lg];rfl
    ·rw[OH];exact jv (by rw[nC,Ze])
   ·obtain rfl:j=48:=(by omega);refine⟨[],_,_,_,_,ni (b:=key) (t:=en i 48) (n:=48) rfl (G8 (nC _ _)) hk (nC _ _) (by decide) (by decide) (by decide) (fun j hj=>OG i d8 j hj),rfl,rfl,?_⟩;have w1:I6.wrap ((i:Int)+1)=((i+1:Nat):Int):=by rw[Za _ (by omega)];omega
    have hz:V.z 6 (sub (bv (ay key i)) 0 6)= .z 6 (bv (ay key i)):=by rw[g8 (uA _ _)]
    rcases i with _|i
    ·refine⟨by decide,by decide,by decide,?_⟩;refine⟨1,by omega,by omega,[.d 82 0],⟨rfl,rfl,rfl,rfl,rfl,tq⟩,⟨_,rfl,?_⟩,tq⟩;exact congrArg (fun z=>B.mx [z]) hz
    ·refine⟨by decide,by omega,by rw[cG,gJ];omega,?_⟩;refine⟨i+1+1,by omega,by omega,[.d 82 0],⟨rfl,rfl,rfl,rfl,f6 w1,tq⟩,⟨_,rfl,?_⟩,tq⟩;show B.mx (Ju (o5 _ _ 6) (sub (kV (F5 key (i+1))) 0 ((i+1)*1)++[V.o 1 _ _ _]))= .mx (kV (F5 key (i+1+1)));rw[Ze,C2 (by rw[cG,gJ]),Zv,lg,Ap key (i+1),show kV (F5 key (i+1)++[ay key (i+1)])=kV (F5 key (i+1))++[V.z 6 (bv (ay key (i+1)))] from Zv];exact congrArg (fun z=>B.mx (kV (F5 key (i+1))++[z])) hz
 ·obtain rfl:i=16:=(by omega);refine⟨_,rfl,[],?_,tq⟩;exact congrArg (fun z=>V.t [V.zz 1 16 z,i64 0]) ((congrArg (Ju _) (C2 (by rw[cG,gJ]))).trans (BO _ _ _ 2))
theorem qG {l:List (Bs)} {j:Nat} {x:Bs} (h:l[j]? =some x):(kV l)[j]? =some (.z 6 (bv x)):=by simp[kV,h]
theorem BN (l:List (Bs)) (i:Nat) (x:Bs):(kV l).set i (.z 6 (bv x))=kV (l.set i x):=by simp[kV,List.map_set]
theorem tG {n:Nat} {l:List (Bs)} {xs:List V} (hx:xs=kV l) (hn:l.length=n) (h0:0<n) (hm:n<=1000000):a9 C 127 [.zz 1 n xs] [] (.ret (.o 1 (.k 0) 0 n)) [.pl (kV l)]:=by
 subst hx;refine Tm.c ?_;refine .inl ⟨h0,?_⟩;refine⟨by rw[cG,hn,Ze],by omega,by decide,?_⟩;refine⟨_,rfl,[.d 7 0],?_,⟨_,rfl,?_⟩,tq⟩
 ·rw[Zi];rfl
 ·rfl
theorem uc {n:Nat} {l:List (Bs)} (hn:l.length=n) (h0:0<n) (hm:n<=1073741824):a9 C 128 [.o 1 (.k 0) 0 n] [.pl (kV l)] (.ret (.t [])) [.pl (kV l.reverse)]:=by
 subst hn;refine Tu.c ?_;refine m5 (fun i=>⟨[(0,.o 1 (.k 0) 0 l.length),(2,i64 i),(3,i64 (l.length-1-i))],[.pl (kV (aq l i))]⟩) l.length ⟨[.k 0],⟨rfl,rfl,f6 (by simp(disch:=omega)only[Za];omega),tq⟩,⟨_,rfl,congrArg B.pl (by rw[DC])⟩,tq⟩ fun i hi=> ?_;refine d9 (fun h=> ?_) (fun h=> ?_)
 ·have d8:i<l.length-1-i:=(by omega);have e1:0+((l.length:Int)-1-i).toNat*1=l.length-1-i:=(by omega);have e2:0+((i:Int)).toNat*1=i:=(by omega);refine⟨by omega,by omega,_,by rw[e1];exact qG (rI l i (l.length-1-i) (by omega) (by omega) (by omega)),?_⟩;refine⟨by omega,by omega,_,by rw[e2];exact qG (rI l i i (by omega) (by omega) (by omega)),?_⟩;refine⟨by omega,by omega,by rw[e2,cG,fY];show i+1<=_;omega,by omega,by omega,?_,?_⟩
  ·rw[e1,e2];show l.length-1-i+1<=((kV (aq l i)).set _ _).length;rw[Zs,cG,fY];omega
  refine⟨i+1,by omega,by omega,[.k 0],⟨rfl,f6 (by simp(disch:=omega)only[Za];omega),f6 (by simp(disch:=omega)only[Za];omega),tq⟩,⟨_,rfl,congrArg B.pl ?_⟩,tq⟩;rw[e1,e2];show((kV (aq l i)).set _ _).set _ _=_;rw[BN,BN,DB l i d8]
 ·refine⟨_,rfl,[.k 0],rfl,⟨_,rfl,congrArg B.pl ?_⟩,tq⟩;rw[DA l i (by omega)]
abbrev L2:=Bs×Bs
def fy (x:L2) (k:Bs):L2:=(x.2,j8 x.1 (dF x.2 k))
def dN (ks:List (Bs)) (x:L2) (n:Nat):L2:=(List.range n).foldl (fun x i=>fy x (ks.getD i [])) x
def A7 (b:Bs):L2:=(sub (E3 z7 b) 0 4,sub (E3 z7 b) 4 4)
def G2 (ks:List (Bs)) (b:Bs):Bs:=E3 bZ ((dN ks (A7 b) ks.length).2++(dN ks (A7 b) ks.length).1)
def ij (ks:List (Bs)):Prop:=∀i,i<ks.length->(ks.getD i []).length=6
theorem ny (ks x n):dN ks x (n+1)=fy (dN ks x n) (ks.getD n []):=by simp[dN,Zo]
theorem fx (r k):(dF r k).length=4:=by rw[dF,eQ];rfl
theorem pP {ks x} (h1:x.1.length=4) (h2:x.2.length=4):∀n,(dN ks x n).1.length=4/\(dN ks x n).2.length=4
 |0=>⟨h1,h2⟩
 |n+1=>by
  obtain⟨a,b⟩:=pP (ks:=ks) h1 h2 n;rw[ny];exact⟨b,B0 a (fx _ _)⟩
theorem nu (b):(A7 b).1.length=4/\(A7 b).2.length=4:=by
 have:(E3 z7 b).length=8:=by rw[eQ,O4]
 constructor<;>(simp only[A7,l4];omega)
theorem wS:∀i,i<64->1<=z7.getD i 0/\z7.getD i 0<=8*8:=by decide +kernel
theorem wR:∀i,i<64->1<=bZ.getD i 0/\bZ.getD i 0<=8*8:=by decide +kernel
theorem iE:bZ.length=64:=by decide +kernel
theorem getD_some {α:Type} {l:List α} {i:Nat} {d:α} (h:i<l.length):l[i]? =some (l.getD i d):=by simp[Zc,h]
theorem kv {va:List Value} {xs:List V} {b:Bs} {ks:List (Bs)} {n:Nat} (ha:va=bv b) (hx:xs=kV ks) (hb:b.length=8) (hn:ks.length=n) (hm:n<=1000) (hk:ij ks):
  a9 C 129 [.z 8 va,.zz 1 n xs] [] (.ret (.o 1 (.k 0) 0 8)) [.sc (bv (G2 ks b))]:=by
 subst ha;subst hx;have hl:=pP (ks:=ks) (nu b).1 (nu b).2;refine PL.c ?_;refine bd 0 rfl (n+1) (fun i=>⟨[(1,.zz 1 n (kV ks)),(5,.z 64 (nv z7)),(6,.z 4 (bv (dN ks (A7 b) i).1)),(7,.z 4 (bv (dN ks (A7 b) i).2)),(8,i64 i)],[]⟩) ?_ fun i hi=> ?_
 ·refine⟨[],_,_,_,_,JK,rfl,rfl,?_⟩;refine⟨[],_,_,_,_,ni (b:=b) (t:=z7) (n:=64) rfl (G8 O4) hb O4 (by decide) (by decide) (by decide) wS,rfl,rfl,?_⟩;refine⟨by decide,by decide,by decide,by decide,?_⟩;refine⟨by decide,by decide,by decide,by decide,?_⟩;refine⟨[],0,by omega,[],⟨rfl,?_,?_,?_,rfl,tq⟩,tq⟩
  ·show V.z 64 (sub (nv z7) 0 64)=_;rw[G8 O4]
  ·exact congrArg (V.z 4) (m8 _ _ _)
  ·exact congrArg (V.z 4) (m8 _ _ _)
 refine d9 (fun h=> ?_) (fun h=> ?_)
 ·have d8:i<n:=(by omega);refine⟨by omega,by omega,_,by rw[Zd,Ze];exact qG (getD_some (d:=[]) (by omega)),?_⟩;refine⟨[],_,_,_,_,IZ (r:=(dN ks (A7 b) i).2) (k:=ks.getD i []) rfl rfl (hl i).2 (hk i (by omega)),rfl,rfl,?_⟩;refine⟨[],_,_,_,_,M4 (a:=(dN ks (A7 b) i).1) (b:=dF (dN ks (A7 b) i).2 (ks.getD i [])) rfl (g8 (fx _ _)) (hl i).1 (fx _ _) (by decide),rfl,rfl,?_⟩;refine⟨rfl,i+1,by omega,by omega,[],⟨rfl,rfl,?_,?_,f6 (by simp(disch:=omega)only[Za];omega),tq⟩,tq⟩
  ·rw[ny];rfl
  ·rw[ny];show V.z 4 (sub (bv _) 0 4)=_;rw[g8 (B0 (hl i).1 (fx _ _))];rfl
 ·obtain rfl:i=n:=(by omega);refine⟨[],_,_,_,_,JV rfl,rfl,rfl,?_⟩;refine⟨[],_,_,_,_,cw (n:=2) (ls:=[(dN ks (A7 b) i).2,(dN ks (A7 b) i).1]) (t:=(dN ks (A7 b) i).2++(dN ks (A7 b) i).1) (by simp) ?_ rfl (by rw[Zb,(hl i).1,(hl i).2];decide) (by rw[Zb,(hl i).1,(hl i).2];decide),rfl,rfl,?_⟩
  ·show[V.z 4 _,V.z 4 _]=[V.z _ _,V.z _ _];rw[(hl i).1,(hl i).2]
  have h8:((dN ks (A7 b) i).2++(dN ks (A7 b) i).1).length=8:=by rw[Zb,(hl i).1,(hl i).2]
  refine⟨[],_,_,_,_,ni (b:=(dN ks (A7 b) i).2++(dN ks (A7 b) i).1) (t:=bZ) (l:=((dN ks (A7 b) i).2++(dN ks (A7 b) i).1).length) (n:=64) (g8 rfl) (G8 iE) rfl iE (by rw[h8];decide) (by decide) (by decide) (by rw[h8];exact wR),rfl,rfl,?_⟩;refine⟨_,rfl,[.d 58 0],rfl,⟨_,rfl,g9 ?_⟩,tq⟩;rw[G2,hn]
def I1 (l:List (List (Bs))):List V:=l.map fun k=> .zz 1 16 (kV k)
theorem cH (l):(I1 l).length=l.length:=by simp[I1]
theorem gV {l:List (List (Bs))} {j:Nat} {x} (h:l[j]? =some x):(I1 l)[j]? =some (.zz 1 16 (kV x)):=by simp[I1,h]
abbrev dt (ks:List (List (Bs))):V:= .q [.zz 1 ks.length (I1 ks)] 0
def ji (ks:List (List (Bs))) (back:Bool) (b:Bs) (i:Nat):Bs:=
 G2 (if back != decide (i=1)then (if back then ks.getD (ks.length-1-i) []else ks.getD i []).reverse else (if back then ks.getD (ks.length-1-i) []else ks.getD i [])) b
def M9 (ks:List (List (Bs))) (back:Bool) (b:Bs) (n:Nat):Bs:=(List.range n).foldl (ji ks back) b
def vX (ks:List (List (Bs))):Prop:=ks.length<=3/\∀i,i<ks.length->(ks.getD i []).length=16/\ij (ks.getD i [])
theorem nB (ks b):(G2 ks b).length=8:=by rw[G2,eQ,iE]
theorem pO (ks back b n):M9 ks back b (n+1)=ji ks back (M9 ks back b n) n:=by simp[M9,Zo]
theorem uy {ks back b} (h:b.length=8):∀n,(M9 ks back b n).length=8
 |0=>h
 |n+1=>by rw[pO];exact nB _ _
theorem re {ks} (h:ij ks):ij ks.reverse:=by
 intro i hi;have hi':i<ks.length:=by simpa using hi
 have e:ks.reverse.getD i []=ks.getD (ks.length-1-i) []:=by
  rw[Zc,Jp hi',Zc]
 rw[e];exact h _ (by omega)
def dD (ks:List (List (Bs))) (back:Bool) (b:Bs) (i:Nat):D:=match i with
 |0=>⟨[(0,dt ks),(1,.z 8 (bv b)),(2,bool back),(18,i64 ks.length),(19,i64 0)],[]⟩
 |i+1=>⟨[(0,dt ks),(1,.o 1 (.k 0) 0 8),(2,bool back),(18,i64 ks.length),(19,i64 (i+1:Nat))],[.sc (bv (M9 ks back b (i+1)))]⟩
theorem JD {va:List Value} {b:Bs} {ks:List (List (Bs))} {back:Bool} (ha:va=bv b) (hb:b.length=8) (hk:vX ks) (h0:0<ks.length):
  a9 C 79 [dt ks,.z 8 va,bool back] [] (C0 8) [.sc (bv (M9 ks back b ks.length))]:=by
 subst ha;have q6:=uy (ks:=ks) (back:=back) hb;obtain⟨h3,hk⟩:=hk;have hend:∀i k,G2 k (M9 ks back b i)=ji ks back (M9 ks back b i) i->bv (G2 k (M9 ks back b i))=bv (M9 ks back b (i+1)):=fun i k h=>by rw[h,pO]
 refine AF.c ?_;refine⟨_,rfl,?_⟩;refine m5 (dD ks back b) ks.length ⟨[],⟨rfl,rfl,rfl,rfl,rfl,tq⟩,tq⟩ fun i hi=> ?_;rcases i with _|i
 ·refine d9 (fun h=> ?_) (fun h=>absurd h (by omega));obtain⟨k1,k2⟩:=hk 0 h0;refine⟨_,rfl,by omega,by omega,_,gV (getD_some (d:=[]) h0),?_⟩;cases back
  ·skip
   refine⟨[],_,_,_,_,kv (b:=M9 ks false b 0) (ks:=ks.getD 0 []) (by first|exact g8 (q6 _)|rfl) rfl (q6 _) k1 (by decide) k2,rfl,rfl,?_⟩;refine⟨0+1,by omega,by omega,[.d 55 0],⟨rfl,rfl,rfl,rfl,rfl,tq⟩,⟨_,rfl,g9 (hend _ _ ?_)⟩,tq⟩;rfl
  ·obtain⟨k1,k2⟩:=hk (ks.length-1-0) (by omega);have e1:I6.wrap (I6.wrap ((ks.length:Int)-1)-0)=((ks.length-1-0:Nat):Int):=by
    rw[Za ((ks.length:Int)-1) (by omega),Za _ (by omega)];omega
   refine⟨_,rfl,_,rfl,by rw[e1];omega,by rw[e1];omega,_,by rw[e1,Zd,Ze];exact gV (getD_some (d:=[]) (by omega)),?_⟩;refine⟨[],_,_,_,_,tG rfl k1 (by decide) (by decide),rfl,rfl,?_⟩;refine⟨[.d 50 0],_,_,_,_,uc (l:=ks.getD (ks.length-1-0) []) k1 (by decide) (by decide),rfl,rfl,?_⟩;refine⟨[],_,_,_,_,kv (b:=M9 ks true b 0) (ks:=(ks.getD (ks.length-1-0) []).reverse) (by first|exact g8 (q6 _)|rfl) (C2 (by rw[cG,Zm,k1])) (q6 _) (by rw[Zm,k1]) (by decide) (re k2),rfl,rfl,?_⟩;refine⟨0+1,by omega,by omega,[.d 55 0],⟨rfl,rfl,rfl,rfl,rfl,tq⟩,⟨_,rfl,g9 (hend _ _ ?_)⟩,tq⟩;rfl
 refine d9 (fun h=> ?_) (fun h=> ?_)
 ·have d8:i+1<ks.length:=(by omega);have w1:I6.wrap (((i+1:Nat):Int)+1)=((i+1+1:Nat):Int):=by rw[Za _ (by omega)];omega
  have one:(((i+1:Nat):Int)==1)=decide (i+1=1):=by
   by_cases h:i+1=1
   ·rw[h];rfl
   ·rw[decide_eq_false h];exact beq_false_of_ne (by omega)
  obtain⟨k1,k2⟩:=hk (i+1) d8;refine⟨_,rfl,by omega,by omega,_,by rw[Zd,Ze];exact gV (getD_some (d:=[]) d8),?_⟩;cases back
  ·refine iB (fun h1=> ?_) (fun h1=> ?_)
   ·rw[one]at h1;refine⟨[],_,_,_,_,tG rfl k1 (by decide) (by decide),rfl,rfl,?_⟩;refine⟨[.d 50 0],_,_,_,_,uc (l:=ks.getD (i+1) []) k1 (by decide) (by decide),rfl,rfl,?_⟩;refine⟨[],_,_,_,_,kv (b:=M9 ks false b (i+1)) (ks:=(ks.getD (i+1) []).reverse) (by first|exact g8 (q6 _)|rfl) (C2 (by rw[cG,Zm,k1])) (q6 _) (by rw[Zm,k1]) (by decide) (re k2),rfl,rfl,?_⟩;refine⟨i+1+1,by omega,by omega,[.d 55 0],⟨rfl,rfl,rfl,rfl,f6 w1,tq⟩,⟨_,rfl,g9 (hend _ _ ?_)⟩,tq⟩;unfold ji;first|(rw [if_pos (show (false != decide (i+1=1))=true from h1)];rfl)|(rw [if_pos (show (true != decide (i+1=1))=true from h1)];rfl)
   ·rw[one]at h1;refine⟨[],_,_,_,_,kv (b:=M9 ks false b (i+1)) (ks:=ks.getD (i+1) []) (by first|exact g8 (q6 _)|rfl) rfl (q6 _) k1 (by decide) k2,rfl,rfl,?_⟩;refine⟨i+1+1,by omega,by omega,[.d 55 0],⟨rfl,rfl,rfl,rfl,f6 w1,tq⟩,⟨_,rfl,g9 (hend _ _ ?_)⟩,tq⟩;unfold ji;rw[if_neg (by rw[show (false != decide (i+1=1))=false from h1];decide)];rfl
  ·have e1:I6.wrap (I6.wrap ((ks.length:Int)-1)-((i+1:Nat):Int))=((ks.length-1-(i+1):Nat):Int):=by
    rw[Za ((ks.length:Int)-1) (by omega),Za _ (by omega)];omega
   obtain⟨k1,k2⟩:=hk (ks.length-1-(i+1)) (by omega);refine⟨_,rfl,_,rfl,by rw[e1];omega,by rw[e1];omega,_,by rw[e1,Zd,Ze];exact gV (getD_some (d:=[]) (by omega)),?_⟩;refine iB (fun h1=> ?_) (fun h1=> ?_)
   ·rw[one]at h1;refine⟨[],_,_,_,_,tG rfl k1 (by decide) (by decide),rfl,rfl,?_⟩;refine⟨[.d 50 0],_,_,_,_,uc (l:=ks.getD (ks.length-1-(i+1)) []) k1 (by decide) (by decide),rfl,rfl,?_⟩;refine⟨[],_,_,_,_,kv (b:=M9 ks true b (i+1)) (ks:=(ks.getD (ks.length-1-(i+1)) []).reverse) (by first|exact g8 (q6 _)|rfl) (C2 (by rw[cG,Zm,k1])) (q6 _) (by rw[Zm,k1]) (by decide) (re k2),rfl,rfl,?_⟩;refine⟨i+1+1,by omega,by omega,[.d 55 0],⟨rfl,rfl,rfl,rfl,f6 w1,tq⟩,⟨_,rfl,g9 (hend _ _ ?_)⟩,tq⟩;unfold ji;first|(rw [if_pos (show (false != decide (i+1=1))=true from h1)];rfl)|(rw [if_pos (show (true != decide (i+1=1))=true from h1)];rfl)
   ·rw[one]at h1;refine⟨[],_,_,_,_,kv (b:=M9 ks true b (i+1)) (ks:=ks.getD (ks.length-1-(i+1)) []) (by first|exact g8 (q6 _)|rfl) rfl (q6 _) k1 (by decide) k2,rfl,rfl,?_⟩;refine⟨i+1+1,by omega,by omega,[.d 55 0],⟨rfl,rfl,rfl,rfl,f6 w1,tq⟩,⟨_,rfl,g9 (hend _ _ ?_)⟩,tq⟩;unfold ji;rw[if_neg (by rw[show (true != decide (i+1=1))=false from h1];decide)];rfl
 ·have he:i+1=ks.length:=(by omega);refine⟨_,rfl,[.k 0],rfl,⟨_,rfl,g9 ?_⟩,tq⟩;rw[he]
theorem JC {va:List Value} {ks:List (List (Bs))} {n:Nat} {back:Bool} (hn:n≠8):a9 C 79 [dt ks,.z n va,bool back] [] U2 []:=by
 refine AF.c ?_;refine n7 (fun h=> ?_) (fun h=> ?_)
 ·exact⟨_,rfl,[],rfl,tq⟩
 ·omega
def N9 (key:Bs) (n:Nat):List (List (Bs)):=(List.range n).map fun i=>F5 (sub key (8*i) 8) 16
def I0 (key:Bs) (n:Nat):List (List (Bs)):=if n=2 then N9 key 2++[F5 (sub key 0 8) 16]else N9 key n
theorem Ao (key n):N9 key (n+1)=N9 key n++[F5 (sub key (8*n) 8) 16]:=by simp[N9,Zo]
theorem aU (key n):(N9 key n).length=n:=by simp[N9]
theorem gG {key n} (h:1<=n/\n<=3):(I0 key n).length=if n=2 then 3 else n:=by
 unfold I0;split
 ·rename_i h;subst h;rw[Zb,aU];rfl
 ·exact aU _ _
theorem uB (key):(F5 key 16).length=16/\ij (F5 key 16):=by
 refine⟨gJ _ _,fun i hi=> ?_⟩;rw[gJ]at hi;have:(F5 key 16).getD i []=ay key i:=by simp[F5,Zc,hi]
 rw[this,uA]
theorem OA {key n} (h:1<=n/\n<=3):vX (I0 key n)/\0<(I0 key n).length:=by
 have hl:=gG (key:=key) h;have hm:∀x∈I0 key n,x.length=16/\ij x:=by
  intro x hx;unfold I0 at hx;split at hx
  ·rcases List.mem_append.1 hx with hx|hx
   ·obtain⟨i,_,rfl⟩:=List.mem_map.1 hx;exact uB _
   ·rw[List.mem_singleton.1 hx];exact uB _
  ·obtain⟨i,_,rfl⟩:=List.mem_map.1 hx;exact uB _
 refine⟨⟨by rw[hl];split<;>omega,fun i hi=>hm _ ?_⟩,by rw[hl];split<;>omega⟩;rw[Zc,Zp hi];exact List.getElem_mem hi
def OD (key:Bs) (m n i:Nat):D:=match i with
 |0=>⟨[(0,.z m (bv key)),(4,i64 n),(5,.p (.k 0) 0),(26,i64 n),(27,i64 0)],[.mx [i6]]⟩
 |i+1=>⟨[(0,.z m (bv key)),(4,i64 n),(5,.p (.k 0) 0),(26,i64 n),(27,i64 (i+1:Nat))],[.mx [.o 1 (.k 1) 0 (i+1)],.pl (I1 (N9 key (i+1)))]⟩
theorem yT {va:List Value} {key:Bs} {m n:Nat} (ha:va=bv key) (hk:key.length=m) (hm:m=8*n) (hn:1<=n/\n<=3):a9 C 78 [.z m va] [] (.ret (.t [dt (I0 key n),i64 0])) []:=by
 subst ha;have e1:I6.wrap ((m:Int).tdiv 8)=(n:Int):=by
  rw[Zn (by omega),Za _ (by omega)];omega
 have e2:(m:Int).tmod 8=0:=by rw[Zq (by omega)];omega
 refine Pz.c ?_;refine⟨by decide,by decide,?_⟩;rw[e1,e2];refine d9 (fun h=>absurd h (by omega)) (fun h=> ?_);refine d9 (fun h=>absurd h (by omega)) (fun h=> ?_);refine m5 (OD key m n) n ⟨[.d 25 0],⟨rfl,rfl,rfl,rfl,rfl,tq⟩,⟨_,rfl,rfl⟩,tq⟩ fun i hi=> ?_;rcases i with _|i
 ·refine d9 (fun h=> ?_) (fun h=>absurd h (by omega));refine⟨by decide,by decide,by decide,by decide,by show 8<=m;omega,?_⟩;refine⟨[],_,_,_,_,yU (key:=sub key (8*0) 8) (m8 _ _ _) (by rw[l4];omega),rfl,rfl,?_⟩;refine⟨_,rfl,Zh _,by decide,by decide,?_⟩;refine⟨1,by omega,by omega,[.k 0,.d 48 0],⟨rfl,rfl,rfl,rfl,rfl,tq⟩,⟨_,rfl,?_⟩,⟨_,rfl,?_⟩,tq⟩
  ·rfl
  ·exact congrArg B.pl rfl
 refine d9 (fun h=> ?_) (fun h=> ?_)
 ·have d8:i+1<n:=(by omega);have e3:I6.wrap (8*((i+1:Nat):Int))=((8*(i+1):Nat):Int):=by rw[Za _ (by omega)];omega
  have e4:I6.wrap (8*I6.wrap (((i+1:Nat):Int)+1))=((8*(i+1)+8:Nat):Int):=by
   rw[Za (((i+1:Nat):Int)+1) (by omega),Za _ (by omega)];omega
  refine⟨by rw[e4];omega,by rw[e3];omega,by rw[e3,e4];omega,Zh _,by rw[e4];omega,?_⟩;refine⟨[],_,_,_,_,yU (key:=sub key (8*(i+1)) 8) (va:=sub (bv key) (8*(i+1)) 8) (m8 _ _ _) (by rw[l4];omega),?_,rfl,?_⟩
  ·rw[e3,e4];show[V.z (8*(i+1)+8-8*(i+1)) (sub (bv key) (8*(i+1)) (8*(i+1)+8-8*(i+1)))]=_;rw[Ji]
  refine⟨_,rfl,Zh _,by omega,by rw[cH,aU];omega,by show 0+0+1<=1;decide,?_⟩;refine⟨i+1+1,by omega,by omega,[.k 0,.d 48 0],⟨rfl,rfl,rfl,rfl,f6 (by simp(disch:=omega)only[Za];omega),tq⟩,⟨_,rfl,rfl⟩,⟨_,rfl,congrArg B.pl ?_⟩,tq⟩;rw[Ze,C2 (by rw[cH,aU]),Ao key (i+1)];exact(Zv (f:=fun k=>V.zz 1 16 (kV k)) (l₁:=N9 key (i+1)) (l₂:=[F5 (sub key (8*(i+1)) 8) 16])).symm
 ·have hin:i+1=n:=(by omega);refine j5 (fun h=> ?_) (fun h=> ?_)
  ·obtain rfl:i=1:=(by omega);subst hin;have hl:=gG (key:=key) hn;refine⟨_,rfl,_,rfl,by decide,by decide,_,rfl,Zh _,by decide,by rw[cH,aU];decide,by show 0+0+1<=1;decide,?_⟩;refine⟨_,rfl,[],?_,tq⟩;show V.t [V.q [V.zz 1 3 (sub (sub (I1 (N9 key 2)) 0 2++I1 [F5 (sub key 0 8) 16]) 0 3)] 0,i64 0]=V.t [V.q [V.zz 1 (I0 key 2).length (I1 (I0 key 2))] 0,i64 0];have e:sub (sub (I1 (N9 key 2)) 0 2++I1 [F5 (sub key 0 8) 16]) 0 3=I1 (I0 key 2):=by
    rw[C2 (l:=I1 (N9 key 2)) (by rw[cH,aU]),I0,if_pos rfl,C2 (by rw[Zb,cH,aU];rfl)];exact(Zv (f:=fun k=>V.zz 1 16 (kV k)) (l₁:=N9 key 2) (l₂:=[F5 (sub key 0 8) 16])).symm
   rw[hl,if_pos rfl];exact congrArg (fun z=>V.t [V.q [V.zz 1 3 z] 0,i64 0]) e
  ·have hl:=gG (key:=key) hn;rw[if_neg (by omega)]at hl;refine⟨_,rfl,[],?_,tq⟩;show V.t [V.q [V.zz 1 (i+1) (sub (I1 (N9 key (i+1))) 0 ((i+1)*1))] 0,i64 0]=V.t [V.q [V.zz 1 (I0 key n).length (I1 (I0 key n))] 0,i64 0];rw[hl,hin];have e:sub (I1 (N9 key n)) 0 (n*1)=I1 (I0 key n):=by
    rw[I0,if_neg (by omega),C2 (by rw[cH,aU,Ze])]
   exact congrArg (fun z=>V.t [V.q [V.zz 1 n z] 0,i64 0]) e
theorem zo {va:List Value} {b:Bs} {l n:Nat} {x:Int} (hx:x=n) (ha:va=bv b) (hl:b.length=l) (hm:l<=1000000) (h1:1<=n) (h2:n<=8*l):a9 C 262 [.z l va,i64 x] [] (.ret (i64 ((tb b (n-1)).toNat:Nat))) []:=by
 subst ha;subst hx;have e0:I6.wrap ((n:Int)-1)=((n-1:Nat):Int):=by rw[Za _ (by omega)];omega
 have e1:I6.wrap ((I6.wrap ((n:Int)-1)).tdiv 8)=(((n-1)/8:Nat):Int):=by
  rw[e0,Zn (by omega),Za _ (by omega)];omega
 have e2:IntKind.u64.wrap (I6.wrap (7-(I6.wrap ((n:Int)-1)).tmod 8))=((7-(n-1)%8:Nat):Int):=by
  rw[e0,Zq (by omega),Za _ (by omega),F9];omega
 have e3:I6.wrap (8*(l:Int))=((8*l:Nat):Int):=by rw[Za _ (by omega)];omega
 refine Rr.c ?_;refine d9 (fun h=> ?_) (fun h=> ?_)
 ·omega
 refine d9 (fun h=> ?_) (fun h=> ?_)
 ·rw[e3]at h;omega
 refine⟨by decide,by rw[e1];omega,by rw[e1];omega,?_⟩;refine⟨_,by rw[e1,Zd];exact p5 (by omega),?_⟩;refine⟨by decide,by rw[e2];omega,?_⟩;refine⟨_,rfl,[],f6 ?_,tq⟩;rw[e2];exact yv _ (UInt8.toNat_lt _) _ (by omega)
theorem Xn:∀k,k<8->U8.wrap (1*2^(min ((k:Nat):Int).toNat U8.bits))=(((Zt (true.toNat*2^k)).toNat:Nat):Int):=by decide +kernel
theorem Xa {t:List Nat} {b:Bs} {i:Nat} (h:tb b (t.getD i 0-1)=false):Q7 t b (i+1)=Q7 t b i:=by
 unfold Q7;congr 1;funext j;unfold eR;by_cases hj:j=i
 ·rw[hj,h];simp
 ·congr 1;exact decide_eq_decide.2 (by omega)
theorem LF {va vt:List Value} {b:Bs} {t:List Nat} {l n:Nat} (ha:va=bv b) (hvt:vt=nv t) (hl:b.length=l) (ht:t.length=n) (hm:l<=1000000) (hn:n<=1000000) (h8:n%8=0) (hall:∀i,i<n->1<=t.getD i 0/\t.getD i 0<=8*l):a9 C 220 [.z l va,.z n vt] [] (.ret (.t [.o 1 (.k 0) 0 (n/8),bool true])) [.sc (bv (E3 t b))]:=by
 subst ha;subst hvt;subst ht;have e0:I6.wrap ((I6.wrap ((t.length:Int)+7)).tdiv 8)=((t.length/8:Nat):Int):=by
  rw[Za ((t.length:Int)+7) (by omega),Zn (by omega),Za _ (by omega)];omega
 have e8:I6.wrap (8*(l:Int))=((8*l:Nat):Int):=by rw[Za _ (by omega)];omega
 refine Rv.c ?_;refine⟨by decide,?_⟩;rw[e0];refine⟨by omega,by omega,by omega,?_⟩;refine m5 (fun i=>⟨[(0,.z l (bv b)),(1,.z t.length (nv t)),(6,.o 1 (.k 0) 0 (t.length/8)),(7,i64 i)],[.sc (bv (Q7 t b i))]⟩) t.length ⟨[.d 12 0],⟨rfl,rfl,rfl,rfl,tq⟩,⟨_,rfl,g9 ?_⟩,tq⟩ fun i hi=> ?_
 ·show Zk ((t.length/8:Nat):Int).toNat (Value.int .u8 0)=_;rw[Zd,De,T5]
 refine d9 (fun h=> ?_) (fun h=> ?_)
 ·have d8:i<t.length:=(by omega);obtain⟨g1,g2⟩:=hall i d8;refine⟨by omega,by omega,?_⟩;refine⟨_,by rw[Zd];exact X6 d8,?_⟩;refine d9 (fun h=> ?_) (fun h=> ?_)
  ·omega
  refine⟨by omega,by omega,?_⟩;refine⟨_,by rw[Zd];exact X6 d8,?_⟩;refine d9 (fun h=> ?_) (fun h=> ?_)
  ·rw[e8]at h;omega
  have e2:I6.wrap ((i:Int).tdiv 8)=((i/8:Nat):Int):=by
   rw[Zn (by omega),Za _ (by omega)];omega
  have e3:IntKind.u64.wrap (I6.wrap (7-(i:Int).tmod 8))=((7-i%8:Nat):Int):=by
   rw[Zq (by omega),Za _ (by omega),F9];omega
  refine⟨by omega,by omega,?_⟩;refine⟨_,by rw[Zd];exact X6 d8,?_⟩;refine⟨[],_,_,_,_,zo (b:=b) rfl rfl hl hm g1 g2,rfl,rfl,?_⟩;refine j5 (fun h=> ?_) (fun h=> ?_)
  ·have htb:tb b (t.getD i 0-1)=true:=by
    cases he:tb b (t.getD i 0-1)
    ·rw[he]at h;exact absurd h (by decide)
    ·rfl
   refine⟨by decide,by decide,by rw[e2];omega,by rw[e2];omega,?_⟩;refine⟨_,by rw[e2,Zd,Ze,Zi];exact p5 (by rw[jz];omega),?_⟩;refine⟨by decide,by rw[e3];omega,by rw[e2];omega,by rw[e2];omega,by rw[e2,i9,jz];omega,?_⟩;refine⟨i+1,by omega,by omega,[.k 0],⟨rfl,rfl,rfl,f6 (by simp(disch:=omega)only[Za];omega),tq⟩,⟨_,rfl,g9 ?_⟩,tq⟩;have hs:=Dd (t:=t) (b:=b) (i:=i) d8 (by omega);rw[htb]at hs;rw[e2,e3,Zd,Ze,Zi,Xn _ (by omega),sg,K6,hs]
  ·have htb:tb b (t.getD i 0-1)=false:=by
    cases he:tb b (t.getD i 0-1)
    ·rfl
    ·rw[he]at h;exact absurd rfl h
   refine⟨i+1,by omega,by omega,[.k 0],⟨rfl,rfl,rfl,f6 (by simp(disch:=omega)only[Za];omega),tq⟩,⟨_,rfl,g9 ?_⟩,tq⟩;rw[Xa htb]
 ·obtain rfl:i=t.length:=(by omega);refine⟨_,rfl,[.k 0],rfl,⟨_,rfl,g9 ?_⟩,tq⟩;rw[Dc]
theorem ko {va vt:List Value} {b:Bs} {t:List Nat} {l n:Nat} (ha:va=bv b) (hvt:vt=nv t) (hl:b.length=l) (ht:t.length=n) (hm:l<=1000000) (hn:n<=1000000) (h8:n%8=0) (hall:∀i,i<n->1<=t.getD i 0/\t.getD i 0<=8*l):a9 C 163 [.z l va,.z n vt] [] (.ret (.o 1 (.k 0) 0 (n/8))) [.sc (bv (E3 t b))]:=by
 refine Rs.c ?_;refine⟨[],_,_,_,_,LF ha hvt hl ht hm hn h8 hall,rfl,rfl,?_⟩;exact⟨_,rfl,[.d 10 0],rfl,⟨_,rfl,rfl⟩,tq⟩
theorem LD {vt:List Value} (hv:vt=nv z7):a9 C 253 [.z 64 vt] [] (.ret (.t [.o 1 (.k 0) 0 64,bool true])) [.sc (nv bZ)]:=by
 subst hv;refine Ru.c ?_;refine⟨by decide,by decide,by decide,?_⟩;refine m5 (fun i=>⟨[(0,.z 64 (nv z7)),(4,.o 1 (.k 0) 0 64),(5,i64 i)],[.sc (nv (az z7 i))]⟩) 64 ⟨[.d 8 0],⟨rfl,rfl,rfl,tq⟩,⟨_,rfl,g9 ?_⟩,tq⟩ fun i hi=> ?_
 ·show Zk 64 _=_;rw[CD,az,O4];rfl
 refine d9 (fun h=> ?_) (fun h=> ?_)
 ·have d8:i<64:=(by omega);obtain⟨g1,g2,g3⟩:=BE i d8;have get:(nv z7)[((i:Int)).toNat*1]? =some (Value.int .i64 ((z7.getD i 0:Nat):Int)):=by rw[Zd,Ze];exact X6 (by rw[O4];omega)
  have get':(nv z7)[((i:Int)).toNat]? =some (Value.int .i64 ((z7.getD i 0:Nat):Int)):=by rw[Zd];exact X6 (by rw[O4];omega)
  refine⟨by omega,by omega,_,get',?_⟩;refine d9 (fun h=> ?_) (fun h=> ?_)
  ·omega
  refine⟨by omega,by omega,_,get',?_⟩;refine d9 (fun h=> ?_) (fun h=> ?_)
  ·omega
  have e1:I6.wrap (((z7.getD i 0:Nat):Int)-1)=((z7.getD i 0-1:Nat):Int):=by rw[Za _ (by omega)];omega
  refine⟨by omega,by omega,_,get',?_⟩;refine⟨by rw[e1];omega,by rw[e1];omega,?_⟩;refine⟨_,by rw[e1,Zd,Ze,Zi];exact X6 (by rw[nT,O4];omega),?_⟩;refine n7 (fun h=> ?_) (fun h=> ?_)
  ·rw[g3]at h;exact absurd rfl h
  refine⟨by omega,by omega,_,get',?_⟩;refine⟨by rw[e1];omega,by rw[e1];omega,by rw[e1,K8,nT,O4];omega,?_⟩;have w1:I6.wrap ((i:Int)+1)=((i+1:Nat):Int):=by rw[Za _ (by omega)];omega
  refine⟨i+1,by omega,by omega,[.k 0],⟨rfl,rfl,f6 w1,tq⟩,⟨_,rfl,g9 ?_⟩,tq⟩;rw[e1,w1,Zd,Ze,Zi,CE,vz]
 ·obtain rfl:i=64:=(by omega);exact⟨_,rfl,[.k 0],rfl,⟨_,rfl,rfl⟩,tq⟩
theorem a06 (l:List Nat) (k:Nat) (h:k<l.length):l.take (k+1)=l.take k++[l.getD k 0]:=by
 rw[List.take_add_one,Zp h,Zc,Zp h];rfl
def qu (i:Nat):Nat:=if 4<=i then 57+2*(i-4)else 58+2*i
theorem UX:∀i,i<8->∀c,c<8->I6.wrap (((qu i:Nat):Int)-I6.wrap (8*((c:Nat):Int)))=((z7.getD (8*i+c) 0:Nat):Int):=by decide +kernel
theorem UV:∀i,i<8->4<=i->I6.wrap (57+I6.wrap (2*I6.wrap (((i:Nat):Int)-4)))=((qu i:Nat):Int):=by decide +kernel
theorem UW:∀i,i<8->¬4<=i->I6.wrap (58+I6.wrap (2*((i:Nat):Int)))=((qu i:Nat):Int):=by decide +kernel
theorem zr:a9 C 251 [] [] (.ret (.o 1 (.k 0) 0 64)) [.sc (nv z7)]:=by
 refine Se.c ?_;refine D6 (fun i=>⟨[(1,.o 1 (.k 0) 0 (8*i)),(2,i64 i)],[.sc (nv (z7.take (8*i)))]⟩) 8 [(1,1,.sc [])] ⟨[.d 900000 0],⟨rfl,rfl,tq⟩,⟨_,rfl,rfl⟩,tq⟩ fun i hi=> ?_;refine d9 (fun h=> ?_) (fun h=> ?_)
 ·have d8:i<8:=(by omega);refine d9 (fun h4=> ?_) (fun h4=> ?_);all_goals
   refine m5 (fun c=>⟨[(1,.o 1 (.k 0) 0 (8*i+c)),(2,i64 i),(3,i64 (qu i:Nat)),(4,i64 c)],[.sc (nv (z7.take (8*i+c)))]⟩) 8 ⟨[.k 0],⟨rfl,rfl,?_,rfl,tq⟩,⟨_,rfl,rfl⟩,tq⟩ fun c hc=> ?_
   ·first
     |exact f6 (UV i d8 (by omega))
     |exact f6 (UW i d8 (by omega))
   refine d9 (fun h=> ?_) (fun h=> ?_)
   ·have hc8:c<8:=(by omega);have hl:8*i+c<z7.length:=by rw[O4];omega
    refine⟨Zh _,by omega,by rw[K8,Zg];omega,?_⟩;refine⟨c+1,by omega,by omega,[.d 28 0],⟨rfl,rfl,rfl,f6 (by simp(disch:=omega)only[Za];omega),tq⟩,⟨_,rfl,g9 ?_⟩,tq⟩;rw[UX i d8 c hc8,Ze];show sub (nv (z7.take (8*i+c))) 0 (8*i+c)++[Value.int .i64 ((z7.getD (8*i+c) 0:Nat):Int)]=_;rw[jv (by rw[Zg];omega),<-a06 _ _ hl];rfl
   ·obtain rfl:c=8:=(by omega);refine⟨i+1,by omega,by omega,[.k 0],⟨rfl,f6 (by simp(disch:=omega)only[Za];omega),tq⟩,⟨_,rfl,rfl⟩,tq⟩
 ·obtain rfl:i=8:=(by omega);refine⟨_,rfl,[.k 0],rfl,⟨_,rfl,g9 ?_⟩,tq⟩;rw[Jc (by rw[O4];decide)]
theorem LR:a9 C 268 [] [] (.ret (.o 1 (.k 0) 0 48)) [.sc (nv (P6 48))]:=by
 refine Si.c ?_;refine D6 (fun i=>⟨[(1,.o 1 (.k 0) 0 i),(2,i64 i)],[.sc (nv (P6 i))]⟩) 48 [(1,1,.sc [])] ⟨[.d 900000 0],⟨rfl,rfl,tq⟩,⟨_,rfl,rfl⟩,tq⟩ fun i hi=> ?_;refine d9 (fun h=> ?_) (fun h=> ?_)
 ·have d8:i<48:=(by omega);refine⟨by decide,by decide,by decide,?_⟩;refine⟨Zh _,by omega,by rw[K8,eZ];omega,?_⟩;refine⟨i+1,by omega,by omega,[.d 18 0],⟨rfl,f6 (by simp(disch:=omega)only[Za];omega),tq⟩,⟨_,rfl,g9 ?_⟩,tq⟩;rw[FY i d8,Ze];show sub (nv (P6 i)) 0 i++[Value.int .i64 (((4*(i/6)+i%6+31)%32+1:Nat):Int)]=_;rw[jv (eZ _),FX]
 ·obtain rfl:i=48:=(by omega);exact⟨_,rfl,[.k 0],rfl,⟨_,rfl,rfl⟩,tq⟩
theorem LO:a9 C 271 [] [] (.ret (.o 1 (.k 0) 0 32)) [.sc (nv jF)]:=
 Sg.c ⟨_,rfl,[.d 1 0],rfl,⟨_,rfl,rfl⟩,tq⟩
theorem LN:a9 C 164 [] [] (.ret (.o 1 (.k 0) 0 48)) [.sc (nv aK)]:=
 Sf.c ⟨_,rfl,[.d 1 0],rfl,⟨_,rfl,rfl⟩,tq⟩
theorem BI {l:List Int} {n:Nat} {x:Int} (h:l.length=n):sub (iv l) 0 n++[Value.int .i64 x]=iv (l++[x]):=by
 rw[X0 h];simp[iv]
theorem LM:a9 C 162 [] [] (.ret (.o 1 (.k 0) 0 56)) [.sc (nv cY)]:=by
 have b1:∀k,k<=28-> -100<=A8 57 8 57 k/\A8 57 8 57 k<=100:=by decide +kernel
 have b2:∀k,k<=24-> -100<=A8 63 8 55 k/\A8 63 8 55 k<=100:=by decide +kernel
 refine Sc.c ?_;refine D6 (fun i=>⟨[(1,.o 1 (.k 0) 0 i),(2,i64 (A8 57 8 57 i))],[.sc (iv (E0 57 8 57 i))]⟩) 28 [(1,1,.sc [])] ⟨[.d 900000 0],⟨rfl,rfl,tq⟩,⟨_,rfl,rfl⟩,tq⟩ fun i hi=> ?_;have q1:=b1 i hi;have w1:I6.wrap (A8 57 8 57 i-8)=A8 57 8 57 i-8:=Za _ (by omega);refine d9 (fun h=> ?_) (fun h=> ?_)
 ·have d8:i<28:=(by omega);refine⟨Zh _,by omega,by rw[L6,eB];omega,?_⟩;have hz:(sub (iv (E0 57 8 57 i)) 0 (i*1)++sub [Value.int .i64 (A8 57 8 57 i)] 0 (1*1))=iv (E0 57 8 57 (i+1)):=by
   rw[Ze,pX];exact BI (eB _ _ _ _)
  refine d9 (fun h1=> ?_) (fun h1=> ?_)
  ·rw[w1]at h1;refine⟨i+1,by omega,by omega,[.d 9 0],⟨rfl,f6 ?_,tq⟩,⟨_,rfl,g9 hz⟩,tq⟩;rw[w1,Za _ (by omega),A8,if_pos h1];rfl
  ·rw[w1]at h1;refine⟨i+1,by omega,by omega,[.d 9 0],⟨rfl,f6 ?_,tq⟩,⟨_,rfl,g9 hz⟩,tq⟩;rw[w1,A8,if_neg h1]
 ·obtain rfl:i=28:=(by omega);refine m5 (fun j=>⟨[(1,.o 1 (.k 0) 0 (28+j)),(2,i64 (A8 63 8 55 j))],[.sc (iv (E0 57 8 57 28++E0 63 8 55 j))]⟩) 24 ⟨[.k 0],⟨rfl,rfl,tq⟩,⟨_,rfl,rfl⟩,tq⟩ fun j hj=> ?_;have q2:=b2 j hj;have w2:I6.wrap (A8 63 8 55 j-8)=A8 63 8 55 j-8:=Za _ (by omega);have hl:(E0 57 8 57 28++E0 63 8 55 j).length=28+j:=by rw[Zb,eB,eB]
  refine d9 (fun h=> ?_) (fun h=> ?_)
  ·have d8:j<24:=(by omega);refine⟨Zh _,by omega,by rw[L6,hl];omega,?_⟩;have hz:(sub (iv (E0 57 8 57 28++E0 63 8 55 j)) 0 ((28+j)*1)++sub [Value.int .i64 (A8 63 8 55 j)] 0 (1*1))=iv (E0 57 8 57 28++E0 63 8 55 (j+1)):=by
    rw[Ze,pX 63,<-List.append_assoc];exact BI hl
   refine d9 (fun h1=> ?_) (fun h1=> ?_)
   ·rw[w2]at h1;refine⟨j+1,by omega,by omega,[.d 22 0],⟨rfl,f6 ?_,tq⟩,⟨_,rfl,g9 hz⟩,tq⟩;rw[w2,Za _ (by omega),A8,if_pos h1];rfl
   ·rw[w2]at h1;refine⟨j+1,by omega,by omega,[.d 22 0],⟨rfl,f6 ?_,tq⟩,⟨_,rfl,g9 hz⟩,tq⟩;rw[w2,A8,if_neg h1]
  ·obtain rfl:j=24:=(by omega);refine⟨by decide,by decide,by rw[L6,hl];decide,?_⟩;refine⟨_,rfl,[.d 31 0],rfl,⟨_,rfl,g9 ?_⟩,tq⟩;rw[<-Ea];show sub (iv (E0 57 8 57 28++E0 63 8 55 24)) 0 52++iv [28,20,12,4]=iv L3;rw[X0 hl,nU];rfl
theorem LQ {s:Nat} (hs:s<8):a9 C 270 [i64 s] [] (.ret (.o 1 (.k 0) 0 4)) [.sc [P3 (Q6 s 0),P3 (Q6 s 1),P3 (Q6 s 2),P3 (Q6 s 3)]]:=by
 rcases s with _|_|_|_|_|_|_|_|s
 ·exact gP.c ⟨_,rfl,[.d 6 0],rfl,⟨_,rfl,rfl⟩,tq⟩
 ·exact gP.c ⟨_,rfl,[.d 9 0],rfl,⟨_,rfl,rfl⟩,tq⟩
 ·exact gP.c ⟨_,rfl,[.d 12 0],rfl,⟨_,rfl,rfl⟩,tq⟩
 ·exact gP.c ⟨_,rfl,[.d 15 0],rfl,⟨_,rfl,rfl⟩,tq⟩
 ·exact gP.c ⟨_,rfl,[.d 18 0],rfl,⟨_,rfl,rfl⟩,tq⟩
 ·exact gP.c ⟨_,rfl,[.d 21 0],rfl,⟨_,rfl,rfl⟩,tq⟩
 ·exact gP.c ⟨_,rfl,[.d 24 0],rfl,⟨_,rfl,rfl⟩,tq⟩
 ·exact gP.c ⟨_,rfl,[.d 25 0],rfl,⟨_,rfl,rfl⟩,tq⟩
 ·omega
theorem a0C {s r:Nat} (hr:r<4):([P3 (Q6 s 0),P3 (Q6 s 1),P3 (Q6 s 2),P3 (Q6 s 3)]:List Value)[r]? =some (P3 (Q6 s r)):=by
 rcases r with _|_|_|_|r;all_goals first|rfl|omega
def ez (x:Bs) (s:Nat):Nat->Nat
 |0=>0
 |k+1=>2*ez x s k+(tb x (6*s+k)).toNat
theorem uD (x s):∀k,ez x s k<2^k
 |0=>by show 0<1;omega
 |k+1=>by
  have:=bp (tb x (6*s+k));have:=uD x s k;unfold ez;rw[Nat.pow_succ];omega
theorem OJ (x s):ez x s 6/32*2+ez x s 6%2=fA x s/\ez x s 6/2%16=dr x s 4:=by
 have h0:=bp (tb x (6*s+0));have h1:=bp (tb x (6*s+1));have h2:=bp (tb x (6*s+1+1));have h3:=bp (tb x (6*s+1+2));have h4:=bp (tb x (6*s+1+3));have h5:=bp (tb x (6*s+5));have e6:ez x s 6=2*(2*(2*(2*(2*(2*0+(tb x (6*s+0)).toNat)+(tb x (6*s+1)).toNat)+(tb x (6*s+1+1)).toNat)+(tb x (6*s+1+2)).toNat)+(tb x (6*s+1+3)).toNat)+(tb x (6*s+5)).toNat:=rfl;have e4:dr x s 4=2*(2*(2*(2*0+(tb x (6*s+1+0)).toNat)+(tb x (6*s+1+1)).toNat)+(tb x (6*s+1+2)).toNat)+(tb x (6*s+1+3)).toNat:=rfl;have er:fA x s=2*(tb x (6*s)).toNat+(tb x (6*s+5)).toNat:=rfl;rw[Nat.add_zero]at h0 e4 e6;omega
theorem Xm:∀d,d<16->∀j,j<=1->U8.wrap (I6.wrap (((d:Nat):Int)*2^(min ((4*j:Nat):Int).toNat I6.bits)))=(((Zt (d*16^j)).toNat:Nat):Int):=by decide +kernel
theorem a0I:∀v,v<64->I6.wrap (I6.wrap (I6.wrap (((v:Nat):Int).tdiv 32)*2)+((v:Nat):Int).tmod 2)=((v/32*2+v%2:Nat):Int)/\(I6.wrap (((v:Nat):Int).tdiv 2)).tmod 16=((v/2%16:Nat):Int):=by decide +kernel
theorem LJ {va vk:List Value} {r k:Bs} (ha:va=bv r) (hk:vk=bv k) (hr:r.length=4) (hkl:k.length=6):a9 C 252 [.z 4 va,.z 6 vk] [] (.ret (.t [.o 1 (.k 0) 0 4,bool true])) [.sc (bv (dF r k))]:=by
 have hp:(E3 (P6 48) r).length=6:=by rw[eQ,eZ]
 have hx:(j8 (E3 (P6 48) r) k).length=6:=B0 hp hkl;generalize hxe:j8 (E3 (P6 48) r) k=x at hx;refine RZ.c ?_;refine⟨[],_,_,_,_,LR,rfl,rfl,?_⟩;refine⟨[],_,_,_,_,ko (b:=r) (t:=P6 48) (n:=48) ha (G8 (eZ _)) hr (eZ _) (by decide) (by decide) (by decide) (by decide +kernel),rfl,rfl,?_⟩;refine⟨[],_,_,_,_,H4 (a:=E3 (P6 48) r) (b:=k) (g8 hp) hk hp hkl (by decide),rfl,rfl,?_⟩;rw[hxe];refine⟨by decide,by decide,by decide,?_⟩;refine m5 (fun i=>⟨[(6,.z 6 (bv x)),(7,.o 1 (.k 0) 0 4),(8,i64 i)],[.sc (bv (M5 x i))]⟩) 8 ⟨[.d 25 0],⟨?_,rfl,rfl,tq⟩,⟨_,rfl,g9 ?_⟩,tq⟩ fun i hi=> ?_
 ·show V.z 6 (sub (bv x) 0 6)=_;rw[g8 hx]
 ·rfl
 refine d9 (fun h=> ?_) (fun h=> ?_)
 ·have d8:i<8:=(by omega);refine m5 (fun k=>⟨[(6,.z 6 (bv x)),(7,.o 1 (.k 0) 0 4),(8,i64 i),(9,i64 (ez x i k:Nat)),(10,i64 (k+1:Nat))],[.sc (bv (M5 x i))]⟩) 6 ⟨[.k 0],⟨rfl,rfl,rfl,rfl,rfl,tq⟩,⟨_,rfl,rfl⟩,tq⟩ fun k hk=> ?_;refine d9 (fun h=> ?_) (fun h=> ?_)
  ·have hk6:k<6:=(by omega);have p3:I6.wrap (I6.wrap (6*(i:Int))+((k+1:Nat):Int))=((6*i+k+1:Nat):Int):=by
    rw[Za (6*(i:Int)) (by omega),Za _ (by omega)];omega
   refine⟨[],_,_,_,_,zo (n:=6*i+k+1) (b:=x) p3 rfl hx (by decide) (by omega) (by omega),rfl,rfl,?_⟩;have hb:=bp (tb x (6*i+k+1-1));have hc:=uD x i k;have hc2:2^k<=2^5:=Z4 (by decide) (by omega);refine⟨k+1,by omega,by omega,[.k 0],⟨rfl,rfl,rfl,f6 ?_,f6 (by simp(disch:=omega)only[Za];omega),tq⟩,⟨_,rfl,rfl⟩,tq⟩;rw[Za (2*((ez x i k:Nat):Int)) (by omega),Za _ (by omega)];show _=((2*ez x i k+(tb x (6*i+k+1-1)).toNat:Nat):Int);omega
  ·obtain rfl:k=6:=(by omega);obtain⟨v1,v2⟩:=a0I _ (uD x i 6);obtain⟨r1,r2⟩:=OJ x i;rw[r1]at v1;rw[r2]at v2;have e2:I6.wrap ((i:Int).tdiv 2)=((i/2:Nat):Int):=by
    rw[Zn (by omega),Za _ (by omega)];omega
   have e3:IntKind.u64.wrap (I6.wrap (4-I6.wrap (4*(i:Int).tmod 2)))=((4*(1-i%2):Nat):Int):=by
    rw[Zq (by omega),Za (4*((i:Int)%2)) (by omega),Za _ (by omega),F9];omega
   have hcl:=nr x i 4;obtain⟨o1,o2⟩:=uC i d8 _ (kJ x i);refine⟨[],_,_,_,_,LQ d8,rfl,rfl,?_⟩;refine⟨by decide,by decide,by rw[v1];omega,by rw[v1];have:=kJ x i;omega,?_⟩;refine⟨_,by rw[v1,Zd,Ze,Zi];exact a0C (kJ x i),?_⟩;refine⟨by decide,by decide,?_⟩;refine⟨[],_,_,_,_,pk (l:=Q6 i (fA x i)) (j:=dr x i 4) rfl v2 (by rw[o1];exact hcl) (o2 _ hcl),rfl,rfl,?_⟩;refine⟨by decide,by decide,by rw[e2];omega,by rw[e2];omega,?_⟩;refine⟨_,by rw[e2,Zd,Ze,Zi];exact p5 (by rw[kI];omega),?_⟩;refine⟨by decide,by rw[e3];omega,by rw[e2];omega,by rw[e2];omega,by rw[e2,i9,kI];omega,?_⟩;refine⟨i+1,by omega,by omega,[.k 0],⟨rfl,rfl,f6 (by simp(disch:=omega)only[Za];omega),tq⟩,⟨_,rfl,g9 ?_⟩,tq⟩;rw[e2,e3,Zd,Ze,Zi];show(bv (M5 x i)).set (i/2) (.int .u8 (U8.wrap ((Jm U8.bits (((M5 x i).getD (i/2) 0).toNat:Int)|||Jm U8.bits (U8.wrap (I6.wrap (((dS x i:Nat):Int)*2^(min ((4*(1-i%2):Nat):Int).toNat I6.bits))))).toNat:Int)))=bv (M5 x (i+1));rw[Xm _ (pS d8) _ (by omega),sg,K6,Aq d8]
 ·obtain rfl:i=8:=(by omega);refine⟨[],_,_,_,_,LO,rfl,rfl,?_⟩;have hm:jF.length=32:=rfl;have h8:=kI x 8;refine⟨[],_,_,_,_,ko (b:=M5 x 8) (t:=jF) (n:=32) (g8 h8) (G8 hm) h8 hm (by decide) (by decide) (by decide) (by decide +kernel),rfl,rfl,?_⟩;refine⟨_,rfl,[.d 77 0],rfl,⟨_,rfl,g9 ?_⟩,tq⟩;rw[dF,hxe]
theorem WR {n:Nat} {f g:Nat->Bool} (h:∀j,j<8*n->f j=g j):aE n f=aE n g:=by
 apply oH (by rw[fU,fU]);intro j hj;rw[fU]at hj;rw[gk hj,gk hj,h j hj]
theorem wi {t u:List Nat} {b:Bs} (h8:t.length%8=0) (hu:∀j,j<u.length->1<=u.getD j 0/\u.getD j 0<=t.length):E3 u (E3 t b)=E3 (u.map fun k=>t.getD (k-1) 0) b:=by
 unfold E3;rw[Jn];apply WR;intro j hj;have hj':j<u.length:=by omega
 obtain⟨h1,h2⟩:=hu j hj';rw[gk (by omega)];congr 2;simp[Zc,hj']
def ax:Nat->Nat
 |0=>0
 |i+1=>ax i+kg i
def jI (i n:Nat):List Nat:=(List.range n).map fun j=>cY.getD (28*(j/28)+(j%28+ax (i+1))%28) 0
theorem a2o (i n):jI i (n+1)=jI i n++[cY.getD (28*(n/28)+(n%28+ax (i+1))%28) 0]:=by simp[jI,Zo]
theorem FP (i n):(jI i n).length=n:=by simp[jI]
theorem a2p:∀i,i<16->jI i 56=O0 (i+1):=by decide +kernel
theorem yB:∀i,i<17->ax i<=28:=by decide +kernel
theorem OL:∀i,i<17->∀j,j<56->1<=(O0 i).getD j 0/\(O0 i).getD j 0<=8*8:=by decide +kernel
theorem OC {key:Bs} {i:Nat} (hi:i<16):E3 aK (E3 (O0 (i+1)) key)=ay key i:=by
 have hl:=kK (i+1) (by omega);rw[wi (by rw[hl]) (by rw[rY,hl];exact wQ),ay];congr 1
theorem zt {va:List Value} {key:Bs} (ha:va=bv key) (hk:key.length=8):a9 C 109 [.z 8 va] [] (.ret (.t [.zz 1 16 (kV (F5 key 16)),i64 0])) []:=by
 subst ha;have hl0:cY.length=56:=by decide +kernel
 refine Sa.c ?_;refine⟨[],_,_,_,_,LM,rfl,rfl,?_⟩;refine D6 (fun i=>⟨[(0,.z 8 (bv key)),(4,.z 56 (nv cY)),(5,i64 (ax i:Nat)),(6,.o 1 (.k 0) 0 i),(7,i64 (i+1:Nat))],[.mx (kV (F5 key i))]⟩) 16 [(6,1,.mx [])] ⟨[.d 900000 0],⟨rfl,?_,rfl,rfl,rfl,tq⟩,⟨_,rfl,rfl⟩,tq⟩ fun i hi=> ?_
 ·show V.z 56 (sub (nv cY) 0 56)=_;rw[G8 hl0]
 refine d9 (fun h=> ?_) (fun h=> ?_)
 ·have d8:i<16:=(by omega);have hb:=yB i (by omega);have hb1:=yB (i+1) (by omega);have one:∀k:Nat,(((i+1:Nat):Int)=(k:Int))->i+1=k:=fun k h=>by omega
  refine j5 (fun h1=> ?_) (fun h1=>j5 (fun h2=> ?_) (fun h2=>j5 (fun h3=> ?_) (fun h3=>j5 (fun h4=> ?_) (fun h4=> ?_))));all_goals
   first
    |have hs:ax (i+1)=ax i+1:=by rw[ax,kg,if_pos (by omega)]
    |have hs:ax (i+1)=ax i+2:=by rw[ax,kg,if_neg (by omega)]
   refine D6 (fun j=>⟨[(0,.z 8 (bv key)),(4,.z 56 (nv cY)),(5,i64 (ax (i+1):Nat)),(6,.o 1 (.k 0) 0 i),(7,i64 (i+1:Nat)),(8,.o 1 (.k 1) 0 j),(9,i64 j)],[.mx (kV (F5 key i)),.sc (nv (jI i j))]⟩) 56 [(8,1,.sc [])] ⟨[.k 0,.d 900000 0],⟨rfl,rfl,f6 ?_,rfl,rfl,rfl,rfl,tq⟩,⟨_,rfl,?_⟩,⟨_,rfl,rfl⟩,tq⟩ fun j hj=> ?_
   ·first
     |(rw [Za (((ax i:Nat):Int)+2) (by omega),Za _ (by omega)];omega)
     |(rw [Za _ (by omega)];omega)
   ·show B.mx ((kV _).map _)=_;rw[lg]
   refine d9 (fun h=> ?_) (fun h=> ?_)
   ·have hj':j<56:=(by omega);have e0:I6.wrap (I6.wrap ((j:Int).tdiv 28)*28)=((28*(j/28):Nat):Int):=by
     rw[Zn (by omega),Za ((j:Int)/28) (by omega),Za _ (by omega)];omega
    have e1:I6.wrap (I6.wrap (I6.wrap ((j:Int).tdiv 28)*28)+(I6.wrap (I6.wrap ((j:Int)-I6.wrap (I6.wrap ((j:Int).tdiv 28)*28))+((ax (i+1):Nat):Int))).tmod 28)=((28*(j/28)+(j%28+ax (i+1))%28:Nat):Int):=by
     rw[e0,Za ((j:Int)-((28*(j/28):Nat):Int)) (by omega),Za (((j:Int)-((28*(j/28):Nat):Int))+_) (by omega),Zq (by omega),Za _ (by omega)];omega
    refine⟨by decide,by decide,by rw[e1];omega,by rw[e1];omega,?_⟩;refine⟨_,by rw[e1,Zd];exact X6 (by rw[hl0];omega),?_⟩;refine⟨Zh _,by omega,by rw[K8,FP];omega,?_⟩;refine⟨j+1,by omega,by omega,[.k 0,.d 57 0],⟨rfl,rfl,rfl,rfl,rfl,rfl,f6 (by simp(disch:=omega)only[Za];omega),tq⟩,⟨_,rfl,?_⟩,⟨_,rfl,g9 ?_⟩,tq⟩
    ·show B.mx ((kV _).map _)=_;rw[lg]
    ·rw[a2o,Ze];exact jv (FP _ _)
   ·obtain rfl:j=56:=(by omega);refine⟨[],_,_,_,_,ko (b:=key) (t:=O0 (i+1)) (n:=56) rfl (by rw[a2p i d8];exact G8 (kK _ (by omega))) hk (kK _ (by omega)) (by decide) (by decide) (by decide) (OL _ (by omega)),rfl,rfl,?_⟩;refine⟨[],_,_,_,_,LN,rfl,rfl,?_⟩;have h7:(E3 (O0 (i+1)) key).length=7:=by rw[eQ,kK _ (by omega)]
    refine⟨[],_,_,_,_,ko (b:=E3 (O0 (i+1)) key) (t:=aK) (n:=48) (g8 h7) (G8 rY) h7 rY (by decide) (by decide) (by decide) wQ,rfl,rfl,?_⟩;rw[OC d8];have hz:V.z 6 (sub (bv (ay key i)) 0 6)= .z 6 (bv (ay key i)):=by rw[g8 (uA _ _)]
    refine⟨by decide,by omega,by rw[cG,gJ];omega,?_⟩;refine⟨i+1,by omega,by omega,[.d 65 0],⟨rfl,rfl,rfl,rfl,f6 (by simp(disch:=omega)only[Za];omega),tq⟩,⟨_,rfl,?_⟩,tq⟩;show B.mx (Ju (o5 _ _ 6) (sub (kV (F5 key i)) 0 (i*1)++[V.o 1 _ _ _]))= .mx (kV (F5 key (i+1)));rw[Ze,C2 (by rw[cG,gJ]),Zv,lg,Ap key i,show kV (F5 key i++[ay key i])=kV (F5 key i)++[V.z 6 (bv (ay key i))] from Zv];exact congrArg (fun z=>B.mx (kV (F5 key i)++[z])) hz
 ·obtain rfl:i=16:=(by omega);refine⟨_,rfl,[],?_,tq⟩;exact congrArg (fun z=>V.t [V.zz 1 16 z,i64 0]) ((congrArg (Ju _) (C2 (by rw[cG,gJ]))).trans (BO _ _ _ 2))
theorem DD {ks:List (Bs)} {i:Nat} (hi:i<ks.length):ks.reverse.getD i []=ks.getD (ks.length-1-i) []:=by
 rw[Zc,Jp hi,Zc]
theorem pC {va:List Value} {xs:List V} {b:Bs} {ks:List (Bs)} {back:Bool} (ha:va=bv b) (hx:xs=kV ks) (hb:b.length=8) (hn:ks.length=16) (hk:ij ks):
  a9 C 209 [.zz 1 16 xs,.z 8 va,bool back] [] (.ret (.o 1 (.k 0) 0 8)) [.sc (bv (G2 (if back then ks.reverse else ks) b))]:=by
 subst ha;subst hx;generalize hq:(if back then ks.reverse else ks)=q;have hqn:q.length=16:=by subst hq;split<;>simp[hn]
 have hqk:ij q:=by subst hq;split;exact re hk;exact hk
 have hl:=pP (ks:=q) (nu b).1 (nu b).2;refine Sh.c ?_;refine⟨[],_,_,_,_,zr,rfl,rfl,?_⟩;refine⟨[],_,_,_,_,ko (b:=b) (t:=z7) (n:=64) rfl (G8 O4) hb O4 (by decide) (by decide) (by decide) wS,rfl,rfl,?_⟩;refine⟨by decide,by decide,by decide,by decide,?_⟩;refine⟨by decide,by decide,by decide,by decide,?_⟩;refine m5 (fun i=>⟨[(0,.zz 1 16 (kV ks)),(2,bool back),(8,.z 4 (bv (dN q (A7 b) i).1)),(9,.z 4 (bv (dN q (A7 b) i).2)),(10,i64 i)],[]⟩) 16 ⟨[],⟨rfl,rfl,?_,?_,rfl,tq⟩,tq⟩ fun i hi=> ?_
 ·exact congrArg (V.z 4) (m8 _ _ _)
 ·exact congrArg (V.z 4) (m8 _ _ _)
 refine d9 (fun h=> ?_) (fun h=> ?_)
 ·have d8:i<16:=(by omega);have w15:I6.wrap (15-(i:Int))=((15-i:Nat):Int):=by rw[Za _ (by omega)];omega
  have get:(kV ks)[(((if back then 15-i else i:Nat):Int)).toNat*1]? =some (.z 6 (bv (q.getD i []))):=by
   rw[Zd,Ze];have:(if back then 15-i else i)<ks.length:=by split<;>omega
   rw[qG (getD_some (d:=[]) this)];subst hq;cases back
   ·rfl
   ·rw[if_pos rfl,if_pos rfl,DD (by omega),hn]
  have fin:bv (j8 (dN q (A7 b) i).1 (dF (dN q (A7 b) i).2 (q.getD i [])))=bv (dN q (A7 b) (i+1)).2:=by rw[ny];rfl
  have fin1:(dN q (A7 b) i).2=(dN q (A7 b) (i+1)).1:=by rw[ny];rfl
  cases back;all_goals
   first
    |refine⟨by omega,by omega,_,get,?_⟩
    |(refine ⟨by rw[w15];omega,by rw[w15];omega,_,by rw[w15];exact get,?_⟩)
   refine⟨[],_,_,_,_,LJ (r:=(dN q (A7 b) i).2) (k:=q.getD i []) rfl rfl (hl i).2 (hqk i (by omega)),rfl,rfl,?_⟩;refine⟨[],_,_,_,_,H4 (a:=(dN q (A7 b) i).1) (b:=dF (dN q (A7 b) i).2 (q.getD i [])) rfl (g8 (fx _ _)) (hl i).1 (fx _ _) (by decide),rfl,rfl,?_⟩;refine⟨i+1,by omega,by omega,[],⟨rfl,rfl,congrArg (fun z=>V.z 4 (bv z)) fin1,?_,f6 (by simp(disch:=omega)only[Za];omega),tq⟩,tq⟩;show V.z 4 (sub (bv _) 0 4)=_;rw[g8 (B0 (hl i).1 (fx _ _)),fin]
 ·obtain rfl:i=16:=(by omega);refine⟨[],_,_,_,_,zr,rfl,rfl,?_⟩;refine⟨[],_,_,_,_,LD (G8 O4),rfl,rfl,?_⟩;refine⟨by rw[i9,(hl 16).2],by decide,by decide,?_⟩;refine⟨by rw[i9,(hl 16).1],by decide,by rw[Zb,i9,(hl 16).2];decide,?_⟩;have h8:((dN q (A7 b) 16).2++(dN q (A7 b) 16).1).length=8:=by rw[Zb,(hl 16).1,(hl 16).2]
  refine⟨[],_,_,_,_,ko (b:=(dN q (A7 b) 16).2++(dN q (A7 b) 16).1) (t:=bZ) (l:=8) (n:=64) ?_ (G8 iE) h8 iE (by decide) (by decide) (by decide) wR,rfl,rfl,?_⟩
  ·show sub (sub ([]++bv (dN q (A7 b) 16).2) 0 4++bv (dN q (A7 b) 16).1) 0 8=_;rw[Zl,g8 (hl 16).2,A5,g8 h8]
  refine⟨_,rfl,[.d 55 0],rfl,⟨_,rfl,g9 ?_⟩,tq⟩;rw[G2,hqn]
def dE (ks:List (List (Bs))) (back:Bool) (b:Bs) (i:Nat):D:=match i with
 |0=>⟨[(0,dt ks),(1,.z 8 (bv b)),(2,bool back),(8,i64 0)],[]⟩
 |i+1=>⟨[(0,dt ks),(1,.o 1 (.k 0) 0 8),(2,bool back),(8,i64 (i+1:Nat))],[.sc (bv (M9 ks back b (i+1)))]⟩
theorem LL {va:List Value} {b:Bs} {ks:List (List (Bs))} {back:Bool} (ha:va=bv b) (hb:b.length=8) (hk:vX ks) (h0:0<ks.length):
  a9 C 153 [dt ks,.z 8 va,bool back] [] (C0 8) [.sc (bv (M9 ks back b ks.length))]:=by
 subst ha;have q6:=uy (ks:=ks) (back:=back) hb;obtain⟨h3,hk⟩:=hk;refine AP.c ?_;refine m5 (dE ks back b) ks.length ⟨[],⟨rfl,rfl,rfl,rfl,tq⟩,tq⟩ fun i hi=> ?_;have e1:I6.wrap (I6.wrap ((ks.length:Int)-1)-(i:Int))=((ks.length-1-i:Nat):Int)\/ks.length<=i:=by
  by_cases h:i<ks.length
  ·left;rw[Za ((ks.length:Int)-1) (by omega),Za _ (by omega)];omega
  ·right;omega
 rcases i with _|i
 ·refine⟨_,rfl,?_⟩;refine d9 (fun h=> ?_) (fun h=>absurd h (by omega));have e1:I6.wrap (I6.wrap ((ks.length:Int)-1)-0)=((ks.length-1-0:Nat):Int):=e1.resolve_right (by omega);cases back
  ·obtain⟨k1,k2⟩:=hk 0 h0;refine⟨_,rfl,by omega,by omega,_,gV (getD_some (d:=[]) h0),?_⟩;refine⟨[],_,_,_,_,pC (b:=b) (ks:=ks.getD 0 []) rfl rfl hb k1 k2,rfl,rfl,?_⟩;refine⟨1,by omega,by omega,[.d 44 0],⟨rfl,rfl,rfl,rfl,tq⟩,⟨_,rfl,g9 ?_⟩,tq⟩;rfl
  ·obtain⟨k1,k2⟩:=hk (ks.length-1-0) (by omega);refine⟨_,rfl,_,rfl,by rw[e1];omega,by rw[e1];omega,_,by rw[e1,Zd,Ze];exact gV (getD_some (d:=[]) (by omega)),?_⟩;refine⟨[],_,_,_,_,pC (b:=b) (ks:=ks.getD (ks.length-1-0) []) rfl rfl hb k1 k2,rfl,rfl,?_⟩;refine⟨1,by omega,by omega,[.d 44 0],⟨rfl,rfl,rfl,rfl,tq⟩,⟨_,rfl,g9 ?_⟩,tq⟩;rfl
 refine⟨_,rfl,?_⟩;refine d9 (fun h=> ?_) (fun h=> ?_)
 ·have d8:i+1<ks.length:=(by omega);have e1:=e1.resolve_right (by omega);have w1:I6.wrap (((i+1:Nat):Int)+1)=((i+1+1:Nat):Int):=by rw[Za _ (by omega)];omega
  have one:(((i+1:Nat):Int)==1)=decide (i+1=1):=by
   by_cases h:i+1=1
   ·rw[h];rfl
   ·rw[decide_eq_false h];exact beq_false_of_ne (by omega)
  cases back
  ·obtain⟨k1,k2⟩:=hk (i+1) d8;refine⟨_,rfl,by omega,by omega,_,by rw[Zd,Ze];exact gV (getD_some (d:=[]) d8),?_⟩;refine⟨[],_,_,_,_,pC (b:=M9 ks false b (i+1)) (ks:=ks.getD (i+1) []) (g8 (q6 _)) rfl (q6 _) k1 k2,rfl,rfl,?_⟩;refine⟨i+1+1,by omega,by omega,[.d 44 0],⟨rfl,rfl,rfl,f6 w1,tq⟩,⟨_,rfl,g9 ?_⟩,tq⟩;rw[one,pO _ _ _ (i+1)];rfl
  ·obtain⟨k1,k2⟩:=hk (ks.length-1-(i+1)) (by omega);refine⟨_,rfl,_,rfl,by rw[e1];omega,by rw[e1];omega,_,by rw[e1,Zd,Ze];exact gV (getD_some (d:=[]) (by omega)),?_⟩;refine⟨[],_,_,_,_,pC (b:=M9 ks true b (i+1)) (ks:=ks.getD (ks.length-1-(i+1)) []) (g8 (q6 _)) rfl (q6 _) k1 k2,rfl,rfl,?_⟩;refine⟨i+1+1,by omega,by omega,[.d 44 0],⟨rfl,rfl,rfl,f6 w1,tq⟩,⟨_,rfl,g9 ?_⟩,tq⟩;rw[one,pO _ _ _ (i+1)];rfl
 ·have he:i+1=ks.length:=(by omega);refine⟨_,rfl,[.k 0],rfl,⟨_,rfl,g9 ?_⟩,tq⟩;rw[he]
theorem LK {va:List Value} {ks:List (List (Bs))} {n:Nat} {back:Bool} (hn:n≠8):a9 C 153 [dt ks,.z n va,bool back] [] U2 []:=by
 refine AP.c ?_;refine n7 (fun h=> ?_) (fun h=> ?_)
 ·exact⟨_,rfl,[],rfl,tq⟩
 ·omega
def OE (key:Bs) (m:Nat) (i:Nat):D:=match i with
 |0=>⟨[(0,.z m (bv key)),(4,.p (.k 0) 0),(5,i64 0)],[.mx [i6]]⟩
 |i+1=>⟨[(0,.z m (bv key)),(4,.p (.k 0) 0),(5,i64 (8*(i+1):Nat))],[.mx [.o 1 (.k 1) 0 (i+1)],.pl (I1 (N9 key (i+1)))]⟩
theorem LP {va:List Value} {key:Bs} {m n:Nat} (ha:va=bv key) (hk:key.length=m) (hm:m=8*n) (hn:1<=n/\n<=3):a9 C 54 [.z m va] [] (.ret (.t [dt (I0 key n),i64 0])) []:=by
 subst ha;refine Sb.c ?_;refine n7 (fun h1=>n7 (fun h2=>n7 (fun h3=>absurd h3 (by omega)) (fun h3=> ?_)) (fun h2=> ?_)) (fun h1=> ?_);all_goals
  refine m5 (OE key m) n ⟨[.d 22 0],⟨rfl,rfl,rfl,tq⟩,⟨_,rfl,rfl⟩,tq⟩ fun i hi=> ?_;rcases i with _|i
  ·refine d9 (fun h=> ?_) (fun h=>absurd h (by omega));refine⟨by decide,by decide,by decide,by decide,by show 8<=m;omega,?_⟩;refine⟨[],_,_,_,_,zt (key:=sub key (8*0) 8) (m8 _ _ _) (by rw[l4];omega),rfl,rfl,?_⟩;refine⟨_,rfl,Zh _,by decide,by decide,?_⟩;refine⟨1,by omega,by omega,[.k 0,.d 45 0],⟨rfl,rfl,rfl,tq⟩,⟨_,rfl,?_⟩,⟨_,rfl,?_⟩,tq⟩
   ·rfl
   ·exact congrArg B.pl rfl
  refine d9 (fun h=> ?_) (fun h=> ?_)
  ·have d8:i+1<n:=(by omega);have e4:I6.wrap (((8*(i+1):Nat):Int)+8)=((8*(i+1)+8:Nat):Int):=by
    rw[Za _ (by omega)];omega
   refine⟨by rw[e4];omega,by omega,by rw[e4];omega,Zh _,by rw[e4];omega,?_⟩;refine⟨[],_,_,_,_,zt (key:=sub key (8*(i+1)) 8) (va:=sub (bv key) (8*(i+1)) 8) (m8 _ _ _) (by rw[l4];omega),?_,rfl,?_⟩
   ·rw[e4];show[V.z (8*(i+1)+8-8*(i+1)) (sub (bv key) (8*(i+1)) (8*(i+1)+8-8*(i+1)))]=_;rw[Ji]
   refine⟨_,rfl,Zh _,by omega,by rw[cH,aU];omega,by show 0+0+1<=1;decide,?_⟩;refine⟨i+1+1,by omega,by omega,[.k 0,.d 45 0],⟨rfl,rfl,f6 ?_,tq⟩,⟨_,rfl,rfl⟩,⟨_,rfl,congrArg B.pl ?_⟩,tq⟩
   ·rw[e4];omega
   rw[Ze,C2 (by rw[cH,aU]),Ao key (i+1)];exact(Zv (f:=fun k=>V.zz 1 16 (kV k)) (l₁:=N9 key (i+1)) (l₂:=[F5 (sub key (8*(i+1)) 8) 16])).symm
  ·have hin:i+1=n:=(by omega);refine j5 (fun h=> ?_) (fun h=> ?_)
   ·obtain rfl:i=1:=(by omega);subst hin;have hl:=gG (key:=key) hn;refine⟨_,rfl,_,rfl,by decide,by decide,_,rfl,Zh _,by decide,by rw[cH,aU];decide,by show 0+0+1<=1;decide,?_⟩;refine⟨_,rfl,[],?_,tq⟩;show V.t [V.q [V.zz 1 3 (sub (sub (I1 (N9 key 2)) 0 2++I1 [F5 (sub key 0 8) 16]) 0 3)] 0,i64 0]=V.t [V.q [V.zz 1 (I0 key 2).length (I1 (I0 key 2))] 0,i64 0];have e:sub (sub (I1 (N9 key 2)) 0 2++I1 [F5 (sub key 0 8) 16]) 0 3=I1 (I0 key 2):=by
     rw[C2 (l:=I1 (N9 key 2)) (by rw[cH,aU]),I0,if_pos rfl,C2 (by rw[Zb,cH,aU];rfl)];exact(Zv (f:=fun k=>V.zz 1 16 (kV k)) (l₁:=N9 key 2) (l₂:=[F5 (sub key 0 8) 16])).symm
    rw[hl,if_pos rfl];exact congrArg (fun z=>V.t [V.q [V.zz 1 3 z] 0,i64 0]) e
   ·have hl:=gG (key:=key) hn;rw[if_neg (by omega)]at hl;refine⟨_,rfl,[],?_,tq⟩;show V.t [V.q [V.zz 1 (i+1) (sub (I1 (N9 key (i+1))) 0 ((i+1)*1))] 0,i64 0]=V.t [V.q [V.zz 1 (I0 key n).length (I1 (I0 key n))] 0,i64 0];rw[hl,hin];have e:sub (I1 (N9 key n)) 0 (n*1)=I1 (I0 key n):=by
     rw[I0,if_neg (by omega),C2 (by rw[cH,aU,Ze])]
    exact congrArg (fun z=>V.t [V.q [V.zz 1 n z] 0,i64 0]) e
abbrev j7:V:= .s (.pointer none)
def xw (t:Int) (n:Nat) (va:List Value) (k:Nat) (xs:List V):Prop:=
 (t=1\/t=2)/\k=79/\a9 C 78 [.z n va] [] (.ret (.t [.q xs 0,i64 0])) []\/
 (t=3)/\k=81/\a9 C 80 [.z n va] [] (.ret (.t [.q xs 0,i64 0])) []\/
 (t=6)/\k=83/\a9 C 82 [.z n va] [] (.ret (.t [.q xs 0,i64 0])) []\/
 (t=7)/\k=85/\a9 C 84 [.z n va] [] (.ret (.t [.q xs 0,i64 0])) []\/
 (t=4\/t=5\/t=8)/\k=87/\a9 C 86 [i64 t,.z n va] [] (.ret (.t [.q xs 0,i64 0])) []
theorem iY {t:Int} {n k:Nat} {va:List Value} {xs:List V} (hv:(n:Int)∈p9 t) (hm:n<=1000) (hs:xw t n va k xs):a9 C 25 [i64 t,.z n va] [] (.ret (.t [f7 t k xs,i64 0])) []:=by
 have hl:=kj t;rcases hs with ⟨ht,rfl,hs⟩|⟨ht,rfl,hs⟩|⟨ht,rfl,hs⟩|⟨ht,rfl,hs⟩|⟨ht,rfl,hs⟩
 ·rcases ht with rfl|rfl
  ·refine gN.c ?_;refine⟨0,Unit,(fun _=>⟨[(6,.p (.k 0) 0),(7,i64 0)],[.mx [i64 1,.f (.func 79) [.q xs 0] []]]⟩),fun _=>True,fun _=>0,?_,fun _ h=> ?_⟩
   ·refine⟨[],_,_,_,_,dZ (by simp[y7]),rfl,rfl,?_⟩;refine⟨[],_,_,_,_,fo (by simp[y7]),rfl,rfl,?_⟩;refine⟨[],_,_,_,_,fj (x:=n) (X0 rfl) rfl (by omega),rfl,rfl,?_⟩;refine D8 (by rw[decide_eq_true hv];rfl) ?_;refine⟨[],_,_,_,_,hs,rfl,rfl,?_⟩;refine⟨Zh _,?_⟩;exact⟨[],(),tq,[.d 20 0],⟨rfl,rfl,tq⟩,⟨_,rfl,rfl⟩,tq⟩
   ·exact⟨_,rfl,[],rfl,tq⟩
  ·refine gN.c ?_;refine⟨0,Unit,(fun _=>⟨[(6,.p (.k 0) 0),(7,i64 0)],[.mx [i64 2,.f (.func 79) [.q xs 0] []]]⟩),fun _=>True,fun _=>0,?_,fun _ h=> ?_⟩
   ·refine⟨[],_,_,_,_,dZ (by simp[y7]),rfl,rfl,?_⟩;refine⟨[],_,_,_,_,fo (by simp[y7]),rfl,rfl,?_⟩;refine⟨[],_,_,_,_,fj (x:=n) (X0 rfl) rfl (by omega),rfl,rfl,?_⟩;refine D8 (by rw[decide_eq_true hv];rfl) ?_;refine⟨[],_,_,_,_,hs,rfl,rfl,?_⟩;refine⟨Zh _,?_⟩;exact⟨[],(),tq,[.d 20 0],⟨rfl,rfl,tq⟩,⟨_,rfl,rfl⟩,tq⟩
   ·exact⟨_,rfl,[],rfl,tq⟩
 ·subst ht;refine gN.c ?_;refine⟨0,Unit,(fun _=>⟨[(6,.p (.k 0) 0),(7,i64 0)],[.mx [i64 3,.f (.func 81) [.q xs 0] []]]⟩),fun _=>True,fun _=>0,?_,fun _ h=> ?_⟩
  ·refine⟨[],_,_,_,_,dZ (by simp[y7]),rfl,rfl,?_⟩;refine⟨[],_,_,_,_,fo (by simp[y7]),rfl,rfl,?_⟩;refine⟨[],_,_,_,_,fj (x:=n) (X0 rfl) rfl (by omega),rfl,rfl,?_⟩;refine D8 (by rw[decide_eq_true hv];rfl) ?_;refine⟨[],_,_,_,_,hs,rfl,rfl,?_⟩;refine⟨Zh _,?_⟩;exact⟨[],(),tq,[.d 20 0],⟨rfl,rfl,tq⟩,⟨_,rfl,rfl⟩,tq⟩
  ·exact⟨_,rfl,[],rfl,tq⟩
 ·subst ht;refine gN.c ?_;refine⟨0,Unit,(fun _=>⟨[(6,.p (.k 0) 0),(7,i64 0)],[.mx [i64 6,.f (.func 83) [.q xs 0] []]]⟩),fun _=>True,fun _=>0,?_,fun _ h=> ?_⟩
  ·refine⟨[],_,_,_,_,dZ (by simp[y7]),rfl,rfl,?_⟩;refine⟨[],_,_,_,_,fo (by simp[y7]),rfl,rfl,?_⟩;refine⟨[],_,_,_,_,fj (x:=n) (X0 rfl) rfl (by omega),rfl,rfl,?_⟩;refine D8 (by rw[decide_eq_true hv];rfl) ?_;refine⟨[],_,_,_,_,hs,rfl,rfl,?_⟩;refine⟨Zh _,?_⟩;exact⟨[],(),tq,[.d 20 0],⟨rfl,rfl,tq⟩,⟨_,rfl,rfl⟩,tq⟩
  ·exact⟨_,rfl,[],rfl,tq⟩
 ·subst ht;refine gN.c ?_;refine⟨0,Unit,(fun _=>⟨[(6,.p (.k 0) 0),(7,i64 0)],[.mx [i64 7,.f (.func 85) [.q xs 0] []]]⟩),fun _=>True,fun _=>0,?_,fun _ h=> ?_⟩
  ·refine⟨[],_,_,_,_,dZ (by simp[y7]),rfl,rfl,?_⟩;refine⟨[],_,_,_,_,fo (by simp[y7]),rfl,rfl,?_⟩;refine⟨[],_,_,_,_,fj (x:=n) (X0 rfl) rfl (by omega),rfl,rfl,?_⟩;refine D8 (by rw[decide_eq_true hv];rfl) ?_;refine⟨[],_,_,_,_,hs,rfl,rfl,?_⟩;refine⟨Zh _,?_⟩;exact⟨[],(),tq,[.d 20 0],⟨rfl,rfl,tq⟩,⟨_,rfl,rfl⟩,tq⟩
  ·exact⟨_,rfl,[],rfl,tq⟩
 ·exact KZ ht hv hm hs
def sM (t:Int) (n:Nat) (va:List Value) (rs:List V):Prop:=
 ((t=1\/t=2)/\∃x,rs=[i64 t,.q x 0,j7,j7,j7,j7]/\a9 C 54 [.z n va] [] (.ret (.t [.q x 0,i64 0])) [])\/
 ((t=3)/\∃x,rs=[i64 t,j7,.q x 0,j7,j7,j7]/\a9 C 55 [.z n va] [] (.ret (.t [.q x 0,i64 0])) [])\/
 ((t=6)/\∃x,rs=[i64 t,j7,j7,j7,.q x 0,j7]/\a9 C 56 [.z n va] [] (.ret (.t [.q x 0,i64 0])) [])\/
 ((t=7)/\∃x,rs=[i64 t,j7,j7,j7,j7,.q x 0]/\a9 C 57 [.z n va] [] (.ret (.t [.q x 0,i64 0])) [])\/
 (t=4\/t=5\/t=8)/\∃x,rs=[i64 t,j7,j7,.q x 0,j7,j7]/\a9 C 58 [i64 t,.z n va] [] (.ret (.t [.q x 0,i64 0])) []
theorem Cj {l:List Int} {i:Nat} {x:Int} (h:i<l.length):decide (x∈l.take (i+1))=(decide (x∈l.take i)||(l.getD i 0==x)):=by
 have e:l.getD i 0=l[i]:=by simp[Zc,h]
 rw[e,List.take_succ_eq_append_getElem h];rw[Bool.eq_iff_iff];simp only[decide_eq_true_eq,List.mem_append,List.mem_singleton,Bool.or_eq_true,beq_iff_eq];exact⟨fun h=>h.elim .inl fun h=> .inr h.symm,fun h=>h.elim .inl fun h=> .inr h.symm⟩
theorem sM.ok {t n va rs} (h:sM t n va rs):y7 t:=by
 unfold y7;rcases h with ⟨h,_⟩|⟨h,_⟩|⟨h,_⟩|⟨h,_⟩|⟨h,_⟩<;>omega
theorem pj {t} (h:y7 t):0<(p9 t).length:=by
 rcases h with rfl|rfl|rfl|rfl|rfl|rfl|rfl|rfl<;>decide
theorem jb {t:Int} {n:Nat} {va:List Value} {rs:List V} (hv:(n:Int)∈p9 t) (hs:sM t n va rs):a9 C 14 [i64 t,.z n va] [] (.ret (.t [.q rs 0,i64 0])) []:=by
 have hok:=hs.ok;have hl:=kj t;have hp:=pj hok;refine uV.c ?_;refine⟨[],_,_,_,_,tY hok,rfl,rfl,?_⟩;refine D8 (beq_false_of_ne (by omega)) ?_;refine m5 (fun i=>⟨[(0,i64 t),(1,.z n va),(6,iz (p9 t)),(7,bool (decide ((n:Int)∈(p9 t).take i))),(8,i64 i)],[]⟩) (p9 t).length ⟨[],⟨rfl,rfl,?_,?_,rfl,tq⟩,tq⟩ fun i hi=> ?_
 ·show V.z _ (sub (iv _) 0 _)=_;rw[X0 rfl]
 ·exact congrArg bool (decide_eq_false (by simp)).symm
 refine d9 (fun h=> ?_) (fun h=> ?_)
 ·have d8:i<(p9 t).length:=(by omega);have hstep:=Cj (x:=(n:Int)) d8;refine iB (fun h1=> ?_) (fun h1=> ?_)
  ·rw[h1,Bool.true_or]at hstep;exact⟨i+1,by omega,by omega,[],⟨rfl,rfl,rfl,congrArg bool hstep.symm,f6 (by simp(disch:=omega)only[Za];omega),tq⟩,tq⟩
  ·rw[h1,Bool.false_or]at hstep;refine⟨by omega,by omega,_,by rw[Zd];exact vE d8,?_⟩;exact⟨i+1,by omega,by omega,[],⟨rfl,rfl,rfl,congrArg bool hstep.symm,f6 (by simp(disch:=omega)only[Za];omega),tq⟩,tq⟩
 obtain rfl:i=(p9 t).length:=(by omega);refine D8 (by rw[List.take_length,decide_eq_true hv];rfl) ?_;rcases hs with ⟨rfl|rfl,x,rfl,hs⟩|⟨rfl,x,rfl,hs⟩|⟨rfl,x,rfl,hs⟩|⟨rfl,x,rfl,hs⟩|⟨rfl|rfl|rfl,x,rfl,hs⟩;all_goals
  refine⟨[],_,_,_,_,hs,rfl,rfl,?_⟩;refine⟨Zj rfl,?_⟩;exact⟨_,rfl,[],rfl,tq⟩
theorem Lw {t:Int} {n:Nat} {va:List Value} (ht:¬y7 t):a9 C 14 [i64 t,.z n va] [] (.ret (.t [j7,i64 2])) []:=by
 refine uV.c ?_;refine⟨[],_,_,_,_,Lu ht,rfl,rfl,?_⟩;exact⟨_,rfl,[],rfl,tq⟩
theorem Lv {t:Int} {n:Nat} {va:List Value} (hok:y7 t) (hv:(n:Int)∉p9 t):a9 C 14 [i64 t,.z n va] [] (.ret (.t [j7,i64 4])) []:=by
 have hl:=kj t;have hp:=pj hok;refine uV.c ?_;refine⟨[],_,_,_,_,tY hok,rfl,rfl,?_⟩;refine D8 (beq_false_of_ne (by omega)) ?_;refine m5 (fun i=>⟨[(0,i64 t),(1,.z n va),(6,iz (p9 t)),(7,bool (decide ((n:Int)∈(p9 t).take i))),(8,i64 i)],[]⟩) (p9 t).length ⟨[],⟨rfl,rfl,?_,?_,rfl,tq⟩,tq⟩ fun i hi=> ?_
 ·show V.z _ (sub (iv _) 0 _)=_;rw[X0 rfl]
 ·exact congrArg bool (decide_eq_false (by simp)).symm
 refine d9 (fun h=> ?_) (fun h=> ?_)
 ·have d8:i<(p9 t).length:=(by omega);have hstep:=Cj (x:=(n:Int)) d8;refine iB (fun h1=> ?_) (fun h1=> ?_)
  ·rw[h1,Bool.true_or]at hstep;exact⟨i+1,by omega,by omega,[],⟨rfl,rfl,rfl,congrArg bool hstep.symm,f6 (by simp(disch:=omega)only[Za];omega),tq⟩,tq⟩
  ·rw[h1,Bool.false_or]at hstep;refine⟨by omega,by omega,_,by rw[Zd];exact vE d8,?_⟩;exact⟨i+1,by omega,by omega,[],⟨rfl,rfl,rfl,congrArg bool hstep.symm,f6 (by simp(disch:=omega)only[Za];omega),tq⟩,tq⟩
 obtain rfl:i=(p9 t).length:=(by omega);refine eW (by rw[List.take_length,decide_eq_false hv];rfl) ?_;exact⟨_,rfl,[],rfl,tq⟩
def Gr (t:Int) (n:Nat) (va:List Value) (back:Bool) (rs:List V) (l:List Value):Prop:=
 ((t=1\/t=2)/\∃x,rs=[i64 t,.q x 0,j7,j7,j7,j7]/\a9 C 153 [.q x 0,.z n va,bool back] [] (C0 n) [.sc l])\/
 ((t=3)/\∃x,rs=[i64 t,j7,.q x 0,j7,j7,j7]/\a9 C 154 [.q x 0,.z n va,bool back] [] (C0 n) [.sc l])\/
 ((t=6)/\∃x,rs=[i64 t,j7,j7,j7,.q x 0,j7]/\a9 C 155 [.q x 0,.z n va,bool back] [] (C0 n) [.sc l])\/
 ((t=7)/\∃x,rs=[i64 t,j7,j7,j7,j7,.q x 0]/\a9 C 156 [.q x 0,.z n va,bool back] [] (C0 n) [.sc l])\/
 (t=4\/t=5\/t=8)/\∃x,rs=[i64 t,j7,j7,.q x 0,j7,j7]/\a9 C 157 [.q x 0,.z n va,bool back] [] (C0 n) [.sc l]
theorem iZ {t:Int} {n:Nat} {va:List Value} {back:Bool} {rs:List V} {l:List Value} (hs:Gr t n va back rs l):a9 C 88 [.q rs 0,.z n va,bool back] [] (C0 n) [.sc l]:=by
 rcases hs with ⟨ht,x,rfl,hs⟩|⟨ht,x,rfl,hs⟩|⟨ht,x,rfl,hs⟩|⟨ht,x,rfl,hs⟩|⟨ht,x,rfl,hs⟩
 ·rcases ht with rfl|rfl;all_goals
   refine eE.c ?_;refine⟨_,rfl,_,rfl,?_⟩;refine⟨[],_,_,_,_,hs,rfl,rfl,?_⟩;exact⟨_,rfl,[.d 21 0],rfl,⟨_,rfl,rfl⟩,tq⟩
 ·rcases ht with rfl;all_goals
   refine eE.c ?_;refine⟨_,rfl,_,rfl,?_⟩;refine⟨[],_,_,_,_,hs,rfl,rfl,?_⟩;exact⟨_,rfl,[.d 32 0],rfl,⟨_,rfl,rfl⟩,tq⟩
 ·rcases ht with rfl;all_goals
   refine eE.c ?_;refine⟨_,rfl,_,rfl,?_⟩;refine⟨[],_,_,_,_,hs,rfl,rfl,?_⟩;exact⟨_,rfl,[.d 43 0],rfl,⟨_,rfl,rfl⟩,tq⟩
 ·rcases ht with rfl;all_goals
   refine eE.c ?_;refine⟨_,rfl,_,rfl,?_⟩;refine⟨[],_,_,_,_,hs,rfl,rfl,?_⟩;exact⟨_,rfl,[.d 54 0],rfl,⟨_,rfl,rfl⟩,tq⟩
 ·rcases ht with rfl|rfl|rfl;all_goals
   refine eE.c ?_;refine⟨_,rfl,_,rfl,?_⟩;refine⟨[],_,_,_,_,hs,rfl,rfl,?_⟩;exact⟨_,rfl,[.d 63 0],rfl,⟨_,rfl,rfl⟩,tq⟩
def Gs (t:Int) (n:Nat) (va:List Value) (back:Bool) (rs:List V):Prop:=
 ((t=1\/t=2)/\∃x,rs=[i64 t,.q x 0,j7,j7,j7,j7]/\a9 C 153 [.q x 0,.z n va,bool back] [] U2 [])\/
 ((t=3)/\∃x,rs=[i64 t,j7,.q x 0,j7,j7,j7]/\a9 C 154 [.q x 0,.z n va,bool back] [] U2 [])\/
 ((t=6)/\∃x,rs=[i64 t,j7,j7,j7,.q x 0,j7]/\a9 C 155 [.q x 0,.z n va,bool back] [] U2 [])\/
 ((t=7)/\∃x,rs=[i64 t,j7,j7,j7,j7,.q x 0]/\a9 C 156 [.q x 0,.z n va,bool back] [] U2 [])\/
 (t=4\/t=5\/t=8)/\∃x,rs=[i64 t,j7,j7,.q x 0,j7,j7]/\a9 C 157 [.q x 0,.z n va,bool back] [] U2 []
theorem ja {t:Int} {n:Nat} {va:List Value} {back:Bool} {rs:List V} (hs:Gs t n va back rs):a9 C 88 [.q rs 0,.z n va,bool back] [] U2 []:=by
 rcases hs with ⟨ht,x,rfl,hs⟩|⟨ht,x,rfl,hs⟩|⟨ht,x,rfl,hs⟩|⟨ht,x,rfl,hs⟩|⟨ht,x,rfl,hs⟩
 ·rcases ht with rfl|rfl;all_goals
   refine eE.c ?_;refine⟨_,rfl,_,rfl,?_⟩;refine⟨[],_,_,_,_,hs,rfl,rfl,?_⟩;exact⟨_,rfl,[],rfl,tq⟩
 ·rcases ht with rfl;all_goals
   refine eE.c ?_;refine⟨_,rfl,_,rfl,?_⟩;refine⟨[],_,_,_,_,hs,rfl,rfl,?_⟩;exact⟨_,rfl,[],rfl,tq⟩
 ·rcases ht with rfl;all_goals
   refine eE.c ?_;refine⟨_,rfl,_,rfl,?_⟩;refine⟨[],_,_,_,_,hs,rfl,rfl,?_⟩;exact⟨_,rfl,[],rfl,tq⟩
 ·rcases ht with rfl;all_goals
   refine eE.c ?_;refine⟨_,rfl,_,rfl,?_⟩;refine⟨[],_,_,_,_,hs,rfl,rfl,?_⟩;exact⟨_,rfl,[],rfl,tq⟩
 ·rcases ht with rfl|rfl|rfl;all_goals
   refine eE.c ?_;refine⟨_,rfl,_,rfl,?_⟩;refine⟨[],_,_,_,_,hs,rfl,rfl,?_⟩;exact⟨_,rfl,[],rfl,tq⟩
theorem Lt {t:Int} {rs:List V} (ht:y7 t) (hr:rs.head? =some (i64 t)):a9 C 15 [.q rs 0] [] (.ret (i64 (q9 t))) []:=by
 obtain⟨r,rfl⟩:∃r,rs=i64 t::r:=by
  cases rs with
  |nil=>cases hr
  |cons a r=>exact⟨r,by cases hr;rfl⟩
 refine Qz.c ?_;refine⟨_,rfl,?_⟩;refine⟨[],_,_,_,_,pz ht,rfl,rfl,?_⟩;exact⟨_,rfl,[],rfl,tq⟩
def aF (r:W2):Bs:=P1 r.1++P1 r.2
def bc (r:W2):Bs:=q7 r.1++q7 r.2
def xF (key:Bs) (back:Bool) (b:Bs):W2:=if back then ((it (S3 (C7 t3 key 4)) 32 (t3 (sub b 0 4),t3 (sub b 4 4),3337565984)).1,(it (S3 (C7 t3 key 4)) 32 (t3 (sub b 0 4),t3 (sub b 4 4),3337565984)).2.1)else ((it (S4 (C7 t3 key 4)) 32 (t3 (sub b 0 4),t3 (sub b 4 4),0)).1,(it (S4 (C7 t3 key 4)) 32 (t3 (sub b 0 4),t3 (sub b 4 4),0)).2.1)
def mF (key:Bs) (back:Bool) (b:Bs):W2:=bP (if back then (E6 (C7 t3 key 8)).reverse else E6 (C7 t3 key 8)) (t3 (sub b 0 4)) (t3 (sub b 4 4))
def rG (K:List UInt32):Bool->Bs->W2
 |true,b=>((F7 K (r9 (sub b 0 4),r9 (sub b 4 4)) 12).1-K.getD 0 0,(F7 K (r9 (sub b 0 4),r9 (sub b 4 4)) 12).2-K.getD 1 0)
 |false,b=>D7 K (r9 (sub b 0 4),r9 (sub b 4 4)) 12
def gI (key:Bs) (back:Bool) (b:Bs):Bs:=M9 (I0 key (key.length/8)) back b (I0 key (key.length/8)).length
def aQ (key:Bs):Nat:=(key.length-16)/8
def aN (key:Bs):Nat:=13+2*aQ key
def cF (t:Int) (key:Bs) (back:Bool) (b:Bs):Bs:=
 if t=1\/t=2 then gI key back b
 else if t=3 then ap (K5 (if back then A9 (V2 key)else V2 key) (N4 b))
 else if t=4 then aF (xF key back b)
 else if t=5 then aF (mF key back b)
 else if t=6 then N7 (if back then da (tK key) (tS key) (B9 b)else db (tK key) (tS key) (B9 b)) 4
 else if t=7 then (if back then gy (aQ key) key (aN key) b else dP (aQ key) key (aN key) b)
 else bc (rG (z6 (C7 r9 key 4) 78).1 back b)
structure k9 (t:Int) (key:Bs) (s k:Nat) (xs rs:List V):Prop where
 ht:y7 t
 hs:q9 t=s
 hd:rs.head? =some (i64 t)
 kl:(key.length:Int)∈p9 t
 new:a9 C 25 [i64 t,.z key.length (bv key)] [] (.ret (.t [f7 t k xs,i64 0])) []
 cn:xw t key.length (bv key) k xs
 rnew:a9 C 14 [i64 t,.z key.length (bv key)] [] (.ret (.t [.q rs 0,i64 0])) []
 blk:∀{b:Bs} {back:Bool},b.length=s->a9 C k [.q xs 0,.z s (bv b),bool back] [] (C0 s) [.sc (bv (cF t key back b))]
 rblk:∀{b:Bs} {back:Bool},b.length=s->a9 C 88 [.q rs 0,.z s (bv b),bool back] [] (C0 s) [.sc (bv (cF t key back b))]
 bad:∀{n:Nat} {va:List Value} {back:Bool},n≠s->a9 C k [.q xs 0,.z n va,bool back] [] U2 []
 rbad:∀{n:Nat} {va:List Value} {back:Bool},n≠s->a9 C 88 [.q rs 0,.z n va,bool back] [] U2 []
 len:∀{b:Bs} {back:Bool},b.length=s->(cF t key back b).length=s
theorem Di (r):(aF r).length=8:=by rw[aF,Zb,ir,ir]
theorem Xg (r):(bc r).length=8:=by rw[bc,Zb,G3,G3]
theorem Xj (x):(N7 x 4).length=16:=eU x 4
theorem GL {q key n b} (h:bx q key n):(dP q key n b).length=16:=by
 rw[dP];exact B0 (P9 _ _ _) (fh h _)
theorem GK {q key n b} (h:bx q key n):(gy q key n b).length=16:=oU h _
theorem zZ {t:Int} {key:Bs} (ht:t=1\/t=2) (hv:(key.length:Int)∈p9 t):∃k xs rs,k9 t key 8 k xs rs:=by
 obtain⟨n,hn,h3⟩:∃n,key.length=8*n/\(1<=n/\n<=3):=by
  refine⟨key.length/8,?_⟩;rcases ht with rfl|rfl<;>simp[p9]at hv<;>omega
 have hd:key.length/8=n:=by omega
 obtain⟨ok,pos⟩:=OA (key:=key) h3;have hF:∀b back,cF t key back b=M9 (I0 key n) back b (I0 key n).length:=fun b back=>by rw[cF,if_pos ht,gI,hd]
 refine⟨_,_,[i64 t,dt (I0 key n),j7,j7,j7,j7],⟨?_,?_,rfl,hv,iY hv (by omega) (.inl ⟨ht,rfl,yT rfl rfl hn h3⟩),.inl ⟨ht,rfl,yT rfl rfl hn h3⟩,jb hv (.inl ⟨ht,_,rfl,LP rfl rfl hn h3⟩),fun hb=> ?_,fun hb=> ?_,fun hn=>JC hn,fun hn=>ja (.inl ⟨ht,_,rfl,LK hn⟩),fun hb=> ?_⟩⟩
 ·unfold y7;omega
 ·unfold q9;rw[if_pos (by omega)];rfl
 ·rw[hF];exact JD rfl hb ok pos
 ·rw[hF];exact iZ (.inl ⟨ht,_,rfl,LL rfl hb ok pos⟩)
 ·rw[hF];exact uy hb _
theorem NQ {key:Bs} (hk:key.length=16):∃k xs rs,k9 3 key 8 k xs rs:=by
 have hv:(key.length:Int)∈p9 3:=by rw[hk];decide
 refine⟨_,_,[i64 3,j7,oA (V2 key),j7,j7,j7],⟨by simp[y7],rfl,rfl,hv,iY hv (by omega) (.inr (.inl ⟨rfl,rfl,by rw[hk];exact yZ rfl hk⟩)),.inr (.inl ⟨rfl,rfl,by rw[hk];exact yZ rfl hk⟩),jb hv (.inr (.inl ⟨rfl,_,rfl,by rw[hk];exact LV rfl hk⟩)),fun hb=>JR rfl hb (fI _) (nW _),fun hb=>iZ (.inr (.inl ⟨rfl,_,rfl,LT rfl hb (fI _) (nW _)⟩)),fun hn=>JQ hn,fun hn=>ja (.inr (.inl ⟨rfl,_,rfl,LS hn⟩)),fun hb=>Xi _⟩⟩
theorem NV {key:Bs} (hk:key.length=16):∃k xs rs,k9 4 key 8 k xs rs:=by
 have hv:(key.length:Int)∈p9 4:=by rw[hk];decide
 have hl:=T3 t3 key 4;refine⟨_,_,[i64 4,j7,j7,K3 (C7 t3 key 4) 4,j7,j7],⟨by simp[y7],rfl,rfl,hv,iY hv (by omega) (.inr (.inr (.inr (.inr ⟨.inl rfl,rfl,by rw[hk];exact zH rfl hk⟩)))),.inr (.inr (.inr (.inr ⟨.inl rfl,rfl,by rw[hk];exact zH rfl hk⟩))),jb hv (.inr (.inr (.inr (.inr ⟨.inl rfl,_,rfl,by rw[hk];exact Md rfl hk⟩)))),fun{b back} hb=> ?_,fun{b back} hb=> ?_,fun hn=>tF hn,fun hn=>ja (.inr (.inr (.inr (.inr ⟨.inl rfl,_,rfl,tZ hn⟩)))),fun hb=>Di _⟩⟩
 ·refine HV (r:=xF key back b) rfl hb ?_;cases back
  ·exact Nt hl rfl rfl
  ·exact Ns hl rfl rfl
 ·refine iZ (.inr (.inr (.inr (.inr ⟨.inl rfl,_,rfl,LY (r:=xF key back b) rfl hb ?_⟩))));cases back
  ·exact Mj hl rfl rfl
  ·exact Mi hl rfl rfl
theorem NS {key:Bs} (hk:key.length=32):∃k xs rs,k9 5 key 8 k xs rs:=by
 have hv:(key.length:Int)∈p9 5:=by rw[hk];decide
 have hl:=T3 t3 key 8;refine⟨_,_,[i64 5,j7,j7,K3 (C7 t3 key 8) 5,j7,j7],⟨by simp[y7],rfl,rfl,hv,iY hv (by omega) (.inr (.inr (.inr (.inr ⟨.inr (.inl rfl),rfl,by rw[hk];exact zG rfl hk⟩)))),.inr (.inr (.inr (.inr ⟨.inr (.inl rfl),rfl,by rw[hk];exact zG rfl hk⟩))),jb hv (.inr (.inr (.inr (.inr ⟨.inr (.inl rfl),_,rfl,by rw[hk];exact Mb rfl hk⟩)))),fun{b back} hb=> ?_,fun{b back} hb=> ?_,fun hn=>tF hn,fun hn=>ja (.inr (.inr (.inr (.inr ⟨.inr (.inl rfl),_,rfl,tZ hn⟩)))),fun hb=>Di _⟩⟩
 ·refine HT (r:=mF key back b) rfl hb ?_;cases back
  ·exact KT hl rfl rfl
  ·exact KU hl rfl rfl
 ·refine iZ (.inr (.inr (.inr (.inr ⟨.inr (.inl rfl),_,rfl,LW (r:=mF key back b) rfl hb ?_⟩))));cases back
  ·exact LZ hl rfl rfl
  ·exact Ma hl rfl rfl
theorem Hb {K:List UInt32} (hl:K.length=26) {b:Bs} {back:Bool} (hb:b.length=8):a9 C 87 [U0 K 8,.z 8 (bv b),bool back] [] (C0 8) [.sc (bv (bc (rG K back b)))]:=by
 refine HU (r:=rG K back b) rfl hb ?_;cases back
 ·simp only[rG];exact Ms hl rfl rfl
 ·simp only[rG];exact Mr hl rfl rfl
theorem Xu {K:List UInt32} (hl:K.length=26) {b:Bs} {back:Bool} (hb:b.length=8):a9 C 157 [K3 K 8,.z 8 (bv b),bool back] [] (C0 8) [.sc (bv (bc (rG K back b)))]:=by
 refine LX (r:=rG K back b) rfl hb ?_;cases back
 ·simp only[rG];exact Mf hl rfl rfl
 ·simp only[rG];exact Me hl rfl rfl
theorem NT {key:Bs} (hk:key.length=16):∃k xs rs,k9 8 key 8 k xs rs:=by
 have hv:(key.length:Int)∈p9 8:=by rw[hk];decide
 have hl:=(nQ (C7 r9 key 4) 78).1;have n1:=MX rfl hk;have n2:=Mc rfl hk;have hF:∀back b,cF 8 key back b=bc (rG (z6 (C7 r9 key 4) 78).1 back b):=fun _ _=>rfl;generalize (z6 (C7 r9 key 4) 78).1=K at hl n1 n2 hF;rw[<-hk]at n1 n2;exact⟨_,_,[i64 8,j7,j7,K3 K 8,j7,j7],⟨by simp[y7],rfl,rfl,hv,iY hv (by omega) (.inr (.inr (.inr (.inr ⟨.inr (.inr rfl),rfl,n1⟩)))),.inr (.inr (.inr (.inr ⟨.inr (.inr rfl),rfl,n1⟩))),jb hv (.inr (.inr (.inr (.inr ⟨.inr (.inr rfl),_,rfl,n2⟩)))),fun{b back} hb=>by rw[hF];exact Hb hl hb,fun{b back} hb=>by rw[hF];exact iZ (.inr (.inr (.inr (.inr ⟨.inr (.inr rfl),_,rfl,Xu hl hb⟩)))),fun hn=>tF hn,fun hn=>ja (.inr (.inr (.inr (.inr ⟨.inr (.inr rfl),_,rfl,tZ hn⟩)))),fun hb=>by rw[hF];exact Xg _⟩⟩
theorem NU {key:Bs} (hk:key.length=16\/key.length=24\/key.length=32):∃k xs rs,k9 6 key 16 k xs rs:=by
 have hv:(key.length:Int)∈p9 6:=by rcases hk with h|h|h<;>rw[h]<;>decide
 obtain⟨n,hn,h3⟩:∃n,key.length=8*n/\(2<=n/\n<=4):=⟨key.length/8,by omega⟩;have hS:=sa hn;refine⟨_,_,[i64 6,j7,j7,j7,R5 (tK key) (tS key),j7],⟨by simp[y7],rfl,rfl,hv,iY hv (by omega) (.inr (.inr (.inl ⟨rfl,rfl,zQ rfl rfl hn h3⟩))),.inr (.inr (.inl ⟨rfl,rfl,zQ rfl rfl hn h3⟩)),jb hv (.inr (.inr (.inl ⟨rfl,_,rfl,Mp rfl rfl hn h3⟩))),fun{b back} hb=> ?_,fun{b back} hb=>iZ (.inr (.inr (.inl ⟨rfl,_,rfl,?_⟩))),fun hn=>Nn hn,fun hn=>ja (.inr (.inr (.inl ⟨rfl,_,rfl,Ml hn⟩))),fun hb=>Xj _⟩⟩
 ·cases back
  ·exact Np rfl hb (iF _) (by omega)
  ·exact No rfl hb (iF _) (by omega)
 ·cases back
  ·exact Mn rfl hb (iF _) (by omega)
  ·exact Mm rfl hb (iF _) (by omega)
theorem NP {key:Bs} (hk:key.length=16\/key.length=24\/key.length=32):∃k xs rs,k9 7 key 16 k xs rs:=by
 have hv:(key.length:Int)∈p9 7:=by rcases hk with h|h|h<;>rw[h]<;>decide
 have ok:bx (aQ key) key (aN key):=by
  refine⟨?_,?_,?_,?_⟩<;>first|omega|(simp only[aN,aQ];omega)
 have new:a9 C 84 [.z key.length (bv key)] [] (.ret (.t [dR (aQ key) key (aN key),i64 0])) []/\a9 C 57 [.z key.length (bv key)] [] (.ret (.t [dQ (aQ key) key (aN key),i64 0])) []:=by
  rcases hk with h|h|h
  ·rw[aN,aQ,h];exact⟨Hz rfl h,Ln rfl h⟩
  ·rw[aN,aQ,h];exact⟨HC rfl h,Lo rfl h⟩
  ·rw[aN,aQ,h];exact⟨HD rfl h,Lp rfl h⟩
 refine⟨_,_,[i64 7,j7,j7,j7,j7,dQ (aQ key) key (aN key)],⟨by simp[y7],rfl,rfl,hv,iY hv (by omega) (.inr (.inr (.inr (.inl ⟨rfl,rfl,new.1⟩)))),.inr (.inr (.inr (.inl ⟨rfl,rfl,new.1⟩))),jb hv (.inr (.inr (.inr (.inl ⟨rfl,_,rfl,new.2⟩)))),fun{b back} hb=> ?_,fun{b back} hb=>iZ (.inr (.inr (.inr (.inl ⟨rfl,_,rfl,?_⟩)))),fun hn=>HF hn,fun hn=>ja (.inr (.inr (.inr (.inl ⟨rfl,_,rfl,Lh hn⟩)))),fun{b back} hb=> ?_⟩⟩
 ·cases back
  ·exact HH ok rfl hb
  ·exact HG ok rfl hb
 ·cases back
  ·exact Lj ok rfl hb
  ·exact Li ok rfl hb
 ·cases back
  ·exact GL ok
  ·exact GK ok
theorem Aa {t:Int} {key:Bs} (ht:y7 t) (hv:(key.length:Int)∈p9 t):∃s k xs rs,k9 t key s k xs rs:=by
 have h8:∀{t},(∃k xs rs,k9 t key 8 k xs rs)->∃s k xs rs,k9 t key s k xs rs:=fun h=>⟨8,h⟩;have h16:∀{t},(∃k xs rs,k9 t key 16 k xs rs)->∃s k xs rs,k9 t key s k xs rs:=fun h=>⟨16,h⟩;rcases ht with rfl|rfl|rfl|rfl|rfl|rfl|rfl|rfl
 ·exact h8 (zZ (.inl rfl) hv)
 ·exact h8 (zZ (.inr rfl) hv)
 ·exact h8 (NQ (by simp[p9]at hv;omega))
 ·exact h8 (NV (by simp[p9]at hv;omega))
 ·exact h8 (NS (by simp[p9]at hv;omega))
 ·exact h16 (NU (by simp[p9]at hv;omega))
 ·exact h16 (NP (by simp[p9]at hv;omega))
 ·exact h8 (NT (by simp[p9]at hv;omega))
theorem k9.new' {t key s k xs rs} (h:k9 t key s k xs rs) {n:Nat} {va:List Value} (hn:key.length=n) (ha:va=bv key):a9 C 25 [i64 t,.z n va] [] (.ret (.t [f7 t k xs,i64 0])) []:=by subst ha;subst hn;exact h.new
theorem k9.enc {t key s k xs rs} (h:k9 t key s k xs rs) {b:Bs} {va:List Value} (hb:b.length=s) (ha:va=bv b):a9 C 26 [f7 t k xs,.z s va] [] (C0 s) [.sc (bv (cF t key false b))]:=by subst ha;exact JH (h.blk hb)
theorem k9.dec {t key s k xs rs} (h:k9 t key s k xs rs) {b:Bs} {va:List Value} (hb:b.length=s) (ha:va=bv b):a9 C 177 [f7 t k xs,.z s va] [] (C0 s) [.sc (bv (cF t key true b))]:=by subst ha;exact JB (h.blk hb)
theorem k9.rS {t key s k xs rs} (h:k9 t key s k xs rs):a9 C 23 [i64 t] [] (.ret (i64 s)) []:=by rw[<-h.hs];exact pz h.ht
theorem k9.size {t key s k xs rs} (h:k9 t key s k xs rs):a9 C 63 [f7 t k xs] [] (.ret (i64 s)) []:=by rw[<-h.hs];exact If h.ht
theorem k9.rsize {t key s k xs rs} (h:k9 t key s k xs rs):a9 C 15 [.q rs 0] [] (.ret (i64 s)) []:=by rw[<-h.hs];exact Lt h.ht h.hd
theorem Vt {t n:Int} (ht:y7 t):((cE t n:Nat):Int)∈p9 t:=by
 have hp:=pj ht;have h1:=Int.emod_nonneg n (b:=((p9 t).length:Int)) (by omega);have h2:=Int.emod_lt_of_pos n (b:=((p9 t).length:Int)) (by omega);have hi:(n%((p9 t).length:Int)).toNat<(p9 t).length:=by omega
 have hx:(p9 t).getD (n%((p9 t).length:Int)).toNat 0∈p9 t:=by
  rw[Zc,Zp hi];exact List.getElem_mem hi
 have h0:0<=(p9 t).getD (n%((p9 t).length:Int)).toNat 0:=by
  have:∀x∈p9 t,0<=x:=by
   rcases ht with rfl|rfl|rfl|rfl|rfl|rfl|rfl|rfl<;>decide
  exact this _ hx
 rw[cE,Int.toNat_of_nonneg h0];exact hx
theorem NR (tag n:Int) (k:Bs):∃s q xs rs,k9 (C3 tag) (aW (C3 tag) n k) s q xs rs:=Aa (jG _) (by rw[vG];exact Vt (jG _))
theorem k9.s_le {t key s k xs rs} (h:k9 t key s k xs rs):8<=s/\s<=16:=by
 have:=h.hs;rcases h.ht with e|e|e|e|e|e|e|e<;>(subst e;simp[q9]at this;omega)
theorem JY {t n:Int} {m:Nat} {va:List Value} {k:Bs} (ht:y7 t) (hn: -9223372036854775808<=n/\n<=9223372036854775807) (ha:va=bv k) (hk:k.length=m):a9 C 21 [i64 t,i64 n,.z m va] [] (.ret (.z (cE t n) (bv (aW t n k)))) []:=by
 obtain⟨h1,h2,h3,h4,h5⟩:=vF ht n;have hl:=kj t;have hp:=pj ht;refine Qc.c ?_;refine⟨[],_,_,_,_,tY ht,rfl,rfl,?_⟩;refine⟨[],_,_,_,_,zV (n:=(p9 t).length) (by omega) (by omega) hn,rfl,rfl,?_⟩;refine⟨h4,h5,?_⟩;refine⟨.int .i64 (cE t n),?_,?_⟩
 ·rw[Ze,Zi];simp[iv,h3]
 refine⟨[],_,_,_,_,yJ (n:=cE t n) ha hk (by omega),rfl,rfl,?_⟩;exact⟨_,rfl,[],congrArg (V.z _) (g8 (ph _ _)),tq⟩
theorem qE {α:Type} (f:α->α):∀(n:Nat) (x:α),it f n (f x)=f (it f n x)
 |0,_=>rfl
 |n+1,x=>congrArg f (qE f n x)
theorem vC {α:Type} {f g:α->α} (h:∀x,g (f x)=x):∀(n:Nat) (x:α),it g n (it f n x)=x
 |0,_=>rfl
 |n+1,x=>by
  show g (it g n (f (it f n x)))=x;rw[<-qE g,h,vC h n x]
theorem qr {α:Type} {st bk:α->Nat->α} (h:∀x r,bk (st x r) r=x):∀(n:Nat) (x:α),(List.range n).foldl (fun x r=>bk x (n-1-r)) ((List.range n).foldl st x)=x
 |0,_=>rfl
 |n+1,x=>by
  have e1:(List.range (n+1)).foldl st x=st ((List.range n).foldl st x) n:=by rw[Zo,Zy];rfl
  rw[e1,Jl,Zw,List.foldl_map];rw[show n+1-1-0=n by omega,h];have e:∀(l:List Nat) (y:α),l.foldl (fun x r=>bk x (n+1-1-Nat.succ r)) y=l.foldl (fun x r=>bk x (n-1-r)) y:=by
   intro l y;congr 1;funext x r;congr 1;omega
  rw[e];exact qr h n x
theorem nN {α:Type} {f g:α->Nat->α} {n:Nat} (h:∀x r,r<n->f x r=g x r):∀(x:α),(List.range n).foldl f x=(List.range n).foldl g x:=by
 have:∀(l:List Nat),(∀r∈l,r<n)->∀x,l.foldl f x=l.foldl g x:=by
  intro l;induction l with
  |nil=>intros;rfl
  |cons a r ih=>
   intro hl x;rw[Zw,Zw,h x a (hl a (by simp))];exact ih (fun r hr=>hl r (by simp[hr])) _
 exact this _ (fun r hr=>List.mem_range.1 hr)
theorem Bp {α:Type} {st bk:α->Nat->α} (h:∀x r,st (bk x r) r=x) (n:Nat) (x:α):(List.range n).foldl st ((List.range n).foldl (fun x r=>bk x (n-1-r)) x)=x:=by
 have:=qr (st:=fun x r=>bk x (n-1-r)) (bk:=fun x r=>st x (n-1-r)) (fun x r=>h x _) n x;rw[<-this];rw[this];refine Eq.trans (nN (fun y r hr=> ?_) _) this;show st y r=st y (n-1-(n-1-r));rw[show n-1-(n-1-r)=r by omega]
theorem Ee (v:UInt32) {k:Nat} (h:k<32) (i:Nat) (hi:i<32):(E7 v k).toNat.testBit i=v.toNat.testBit ((i+32-k)%32):=by
 unfold E7;have hv:v.toNat<2^32:=v.toNat_lt;have e1:(UInt32.ofNat k).toNat%32=k:=by rw[Jr,Zr (show k<2^32 by omega)];exact Zr h
 have e2:(UInt32.ofNat (32-k)).toNat%32=(32-k)%32:=by rw[Jr,Zr (show 32-k<2^32 by omega)]
 rw[UInt32.toNat_or,UInt32.toNat_shiftLeft,UInt32.toNat_shiftRight,e1,e2,Nat.testBit_or,Nat.testBit_mod_two_pow,Nat.testBit_shiftLeft,Nat.testBit_shiftRight];by_cases hk:k=0
 ·subst hk;simp[hi,Zr hi]
 ·rw[Zr (show 32-k<32 by omega)];by_cases hki:k<=i
  ·have:v.toNat.testBit (32-k+i)=false:=Jj (Nat.lt_of_lt_of_le hv (Z4 (by decide) (by omega)));rw[this,show(i+32-k)%32=i-k by omega];simp[hi,hki]
  ·rw[show (i+32-k)%32=32-k+i by omega];simp[hki]
theorem iA (v:UInt32) {k j:Nat} (h:k<32) (hj:j<32) (e:(k+j)%32=0):E7 (E7 v k) j=v:=by
 apply UInt32.toNat_inj.1;apply Nat.eq_of_testBit_eq;intro i;by_cases hi:i<32
 ·rw[Ee _ hj i hi,Ee _ h _ (Zu _ (by decide))];congr 1;omega
 ·have hp:∀w:UInt32,w.toNat.testBit i=false:=fun w=>Jj (Nat.lt_of_lt_of_le w.toNat_lt (Z4 (by decide) (by omega)));rw[hp,hp]
theorem fa (a b:UInt32):a^^^b^^^b=a:=by rw[UInt32.xor_assoc,UInt32.xor_self,UInt32.xor_zero]
theorem rj (n:UInt64) (x:UInt8) (h:n.toNat<2^56):(n<<<8|||x.toUInt64).toNat=n.toNat*256+x.toNat:=by
 have hx:=x.toNat_lt;rw[UInt64.toNat_or,UInt64.toNat_shiftLeft,UInt8.toNat_toUInt64,show(8:UInt64).toNat%64=8 from rfl,Nat.shiftLeft_eq,Zr (by omega)];rw[show (2:Nat)^8=2^8 from rfl,ri _ (i:=8) (by omega)]
theorem VP (a b c d:UInt8):(P0 [a,b,c,d]).toNat=((a.toNat*256+b.toNat)*256+c.toNat)*256+d.toNat:=by
 have ha:=a.toNat_lt;have hb:=b.toNat_lt;have hc:=c.toNat_lt;have hd:=d.toNat_lt;show(((((((0:UInt64)<<<8|||a.toUInt64)<<<8|||b.toUInt64))<<<8|||c.toUInt64))<<<8|||d.toUInt64).toNat=_;have e1:((0:UInt64)<<<8|||a.toUInt64).toNat=a.toNat:=by rw[rj _ _ (by decide)];show 0*256+_=_;omega
 have e2:(((0:UInt64)<<<8|||a.toUInt64)<<<8|||b.toUInt64).toNat=a.toNat*256+b.toNat:=by rw[rj _ _ (by omega),e1]
 have e3:((((0:UInt64)<<<8|||a.toUInt64)<<<8|||b.toUInt64)<<<8|||c.toUInt64).toNat=(a.toNat*256+b.toNat)*256+c.toNat:=by rw[rj _ _ (by omega),e2]
 rw[rj _ _ (by omega),e3]
theorem Dj (v:UInt32):P1 v=[Zt (v.toNat/16777216),Zt (v.toNat/65536),Zt (v.toNat/256),Zt v.toNat]:=by
 have hv:=v.toNat_lt;have s1:∀n:UInt64,(n>>>8).toNat=n.toNat/256:=fun n=>by rw[UInt64.toNat_shiftRight,show(8:UInt64).toNat%64=8 from rfl,Nat.shiftRight_eq_div_pow]
 have s2:∀n:UInt64,n.toUInt8=Zt n.toNat:=fun n=>by
  apply Z9.1;rw[UInt64.toNat_toUInt8,Z0]
 show[(v.toUInt64>>>8>>>8>>>8).toUInt8,(v.toUInt64>>>8>>>8).toUInt8,(v.toUInt64>>>8).toUInt8,v.toUInt64.toUInt8]=_;rw[s2,s2,s2,s2,s1,s1,s1,UInt32.toNat_toUInt64];simp only[Nat.div_div_eq_div_mul]
theorem VO {b:Bs} (h:b.length=4):∃p q r s,b=[p,q,r,s]:=by
 match b,h with
 |[p,q,r,s],_=>exact⟨p,q,r,s,rfl⟩
theorem yr (a b c d:UInt8):(t3 [a,b,c,d]).toNat=((a.toNat*256+b.toNat)*256+c.toNat)*256+d.toNat:=by
 have ha:=a.toNat_lt;have hb:=b.toNat_lt;have hc:=c.toNat_lt;have hd:=d.toNat_lt;rw[t3,UInt64.toNat_toUInt32,VP];omega
theorem th (v:UInt32):t3 (P1 v)=v:=by
 have hv:=v.toNat_lt;apply UInt32.toNat_inj.1;rw[Dj,yr];simp only[Z0];omega
theorem wj {b:Bs} (h:b.length=4):P1 (t3 b)=b:=by
 obtain⟨p,q,r,s,rfl⟩:=VO h;have hp:=p.toNat_lt;have hq:=q.toNat_lt;have hr:=r.toNat_lt;have hs:=s.toNat_lt;rw[Dj,yr];have e:∀(x:UInt8) (n:Nat),n%256=x.toNat->Zt n=x:=fun x n h=>by
  apply Z9.1;rw[Z0,<-h]
 rw[e p _ (by omega),e q _ (by omega),e r _ (by omega),e s _ (by omega)]
theorem lj (v:UInt32):r9 (q7 v)=v:=by
 rw[r9,q7,Z5];exact th v
theorem mi {b:Bs} (h:b.length=4):q7 (r9 b)=b:=by
 have:=wj (b:=b.reverse) (by rw[Zm,h]);show(P1 (t3 b.reverse)).reverse=b;rw[this,Z5]
theorem wM {a b:Bs} {n:Nat} (ha:a.length=n) (hb:b.length=n):sub (a++b) 0 n=a/\sub (a++b) n n=b:=by
 subst ha;refine⟨by simp[sub],?_⟩;simp only[sub,List.drop_left];exact Jc (by omega)
theorem wL {b:Bs} {n m:Nat} (h:b.length=n+m):sub b 0 n++sub b n m=b:=by
 rw[M0 b n m (by omega)];exact Z3 n b
theorem BV (r:W2):(t3 (sub (aF r) 0 4),t3 (sub (aF r) 4 4))=r:=by
 obtain⟨h1,h2⟩:=wM (ir r.1) (ir r.2);rw[aF,h1,h2,th,th]
theorem rx {b:Bs} (h:b.length=8):aF (t3 (sub b 0 4),t3 (sub b 4 4))=b:=by
 rw[aF,wj (by rw[l4];omega),wj (by rw[l4];omega)];exact wL h
theorem VH (r:W2):(r9 (sub (bc r) 0 4),r9 (sub (bc r) 4 4))=r:=by
 obtain⟨h1,h2⟩:=wM (G3 r.1) (G3 r.2);rw[bc,h1,h2,lj,lj]
theorem Dk {b:Bs} (h:b.length=8):bc (r9 (sub b 0 4),r9 (sub b 4 4))=b:=by
 rw[bc,mi (by rw[l4];omega),mi (by rw[l4];omega)];exact wL h
theorem a2Y (k:List UInt32) (x):S3 k (S4 k x)=x:=by
 obtain⟨v,w,s⟩:=x;simp only[S3,S4,Z2]
theorem a20 (k:List UInt32) (x):S4 k (S3 k x)=x:=by
 obtain⟨v,w,s⟩:=x;simp only[S3,S4,Z1]
theorem a21 (k:List UInt32) (n:Nat) (x):(it (S4 k) n x).2.2=it (· +H5) n x.2.2:=by
 induction n with
 |zero=>rfl
 |succ n ih=>show(S4 k _).2.2=_+H5;rw[<-ih];rfl
theorem a2Z (k:List UInt32) (n:Nat) (x):(it (S3 k) n x).2.2=it (· -H5) n x.2.2:=by
 induction n with
 |zero=>rfl
 |succ n ih=>show(S3 k _).2.2=_-H5;rw[<-ih];rfl
theorem Vc:it (· +H5) 32 0=3337565984:=by decide
theorem Vb:it (· -H5) 32 3337565984=0:=by decide
def mO (k:List UInt32) (p:W2):W2:=((it (S4 k) 32 (p.1,p.2,0)).1,(it (S4 k) 32 (p.1,p.2,0)).2.1)
def mN (k:List UInt32) (p:W2):W2:=((it (S3 k) 32 (p.1,p.2,3337565984)).1,(it (S3 k) 32 (p.1,p.2,3337565984)).2.1)
theorem a27 (k p):mN k (mO k p)=p:=by
 have h:=vC (a2Y k) 32 (p.1,p.2,0);have hs:=(a21 k 32 (p.1,p.2,0)).trans Vc;have e:((it (S4 k) 32 (p.1,p.2,0)).1,(it (S4 k) 32 (p.1,p.2,0)).2.1,(3337565984:UInt32))=it (S4 k) 32 (p.1,p.2,0):=by rw[<-hs]
 simp only[mN,mO,e,h]
theorem a28 (k p):mO k (mN k p)=p:=by
 have h:=vC (a20 k) 32 (p.1,p.2,3337565984);have hs:=(a2Z k 32 (p.1,p.2,3337565984)).trans Vb;have e:((it (S3 k) 32 (p.1,p.2,3337565984)).1,(it (S3 k) 32 (p.1,p.2,3337565984)).2.1,(0:UInt32))=it (S3 k) 32 (p.1,p.2,3337565984):=by rw[<-hs]
 simp only[mN,mO,e,h]
theorem Ga (key:Bs) (back:Bool) (b:Bs):xF key back b=if back then mN (C7 t3 key 4) (t3 (sub b 0 4),t3 (sub b 4 4))else mO (C7 t3 key 4) (t3 (sub b 0 4),t3 (sub b 4 4)):=by
 cases back
 ·unfold xF mO;rw[if_neg (by decide),if_neg (by decide)]
 ·unfold xF mN;rw[if_pos rfl,if_pos rfl]
theorem a29 {key:Bs} {b:Bs} (hb:b.length=8) (back:Bool):aF (xF key (!back) (aF (xF key back b)))=b:=by
 rw[Ga,BV,Ga];cases back
 ·simp only[Bool.not_false,if_true];rw[if_neg (by decide),a27,rx hb]
 ·simp only[Bool.not_true,if_true];rw[if_neg (by decide),a28,rx hb]
def V8 {α:Type} (x:α×α):α×α:=(x.2,x.1)
theorem Bi:∀(ks:List UInt32) (x:W2),V8 (ks.reverse.foldl T9 (V8 (ks.foldl T9 x)))=x
 |[],_=>rfl
 |k::r,x=>by
  rw[List.reverse_cons,Zy,Zw,Zw,List.foldl_nil];have:=Bi r (T9 x k);have e:r.reverse.foldl T9 (V8 (r.foldl T9 (T9 x k)))=V8 (T9 x k):=(congrArg V8 this :);rw[e];simp only[V8,T9,fa]
theorem Cg (ks:List UInt32) (x:W2):bP ks.reverse (bP ks x.1 x.2).1 (bP ks x.1 x.2).2=x:=by
 obtain⟨v,w⟩:=x;have h:=Bi ks (v,w);unfold bP;generalize ks.foldl T9 (v,w)=z at h ⊢;exact h
theorem VT {key:Bs} {b:Bs} (hb:b.length=8) (back:Bool):aF (mF key (!back) (aF (mF key back b)))=b:=by
 have h:=BV (mF key back b);have h1:t3 (sub (aF (mF key back b)) 0 4)=(mF key back b).1:=congrArg Prod.fst h;have h2:t3 (sub (aF (mF key back b)) 4 4)=(mF key back b).2:=congrArg Prod.snd h;rw[mF,h1,h2];cases back
 ·rw[if_pos (by rfl)];simp only[mF];rw[if_neg (by decide)];rw[Cg (E6 (C7 t3 key 8)) (t3 (sub b 0 4),t3 (sub b 4 4)),rx hb]
 ·rw[if_neg (by decide)];simp only[mF,if_true];have:=Cg (E6 (C7 t3 key 8)).reverse (t3 (sub b 0 4),t3 (sub b 4 4));rw[Z5]at this;rw[this,rx hb]
theorem XD (s:List UInt32) (x:W2) (r:Nat):ix s (iy s x r) r=x:=by
 obtain⟨a,c⟩:=x;have h32:∀v:UInt32,(v%32).toNat<32:=fun v=>by rw[UInt32.toNat_mod];exact Zu _ (by decide)
 have e1:rB s r (iy s (a,c) r)=c:=by
  simp only[rB,iy,Z2];rw[iA _ (h32 _) (Zu _ (by decide)) (by have:=h32 (rA s r (a,c));omega),fa]
 simp only[ix,e1];simp only[iy,rA,Z2];rw[iA _ (h32 _) (Zu _ (by decide)) (by have:=h32 c;omega),fa]
theorem XH (s:List UInt32) (x:W2) (r:Nat):iy s (ix s x r) r=x:=by
 obtain⟨a,c⟩:=x;have h32:∀v:UInt32,(v%32).toNat<32:=fun v=>by rw[UInt32.toNat_mod];exact Zu _ (by decide)
 have e1:rA s r (ix s (a,c) r)=a:=by
  simp only[rA,ix];rw[fa,iA _ (Zu _ (by decide)) (h32 _) (by have:=h32 (rB s r (a,c));omega),Z1]
 simp only[iy,e1];simp only[ix,rB];rw[fa,iA _ (Zu _ (by decide)) (h32 _) (by have:=h32 a;omega),Z1]
theorem XG {K:List UInt32} {b:Bs} (hb:b.length=8) (back:Bool):bc (rG K (!back) (bc (rG K back b)))=b:=by
 have h:=VH (rG K back b);cases back
 ·simp only[rG,Bool.not_false]at h ⊢;rw[h];have e:F7 K (D7 K (r9 (sub b 0 4),r9 (sub b 4 4)) 12) 12=(r9 (sub b 0 4)+K.getD 0 0,r9 (sub b 4 4)+K.getD 1 0):=qr (XD K) 12 _;rw[e];simp only[Z2];exact Dk hb
 ·simp only[rG,Bool.not_true]at h ⊢;rw[h,D7];simp only[Z1];have e:=Bp (XH K) 12 (r9 (sub b 0 4),r9 (sub b 4 4));exact(congrArg bc e).trans (Dk hb)
def B4 (x:Nat):Nat:=x*x%65537
theorem a0L (x y:Nat):B4 (x*y%65537)=B4 x*B4 y%65537:=by
 unfold B4;rw[<-Ja,<-Ja,Nat.mul_mul_mul_comm]
theorem wI (x y:Nat):∀n,it B4 (n+1) (x*y)=it B4 (n+1) x*it B4 (n+1) y%65537
 |0=>by show(x*y)*(x*y)%65537=(x*x%65537)*(y*y%65537)%65537;rw[<-Ja,Nat.mul_mul_mul_comm]
 |n+1=>by
  show B4 (it B4 (n+1) (x*y))=B4 (it B4 (n+1) x)*B4 (it B4 (n+1) y)%65537;rw[wI x y n,a0L]
theorem a0M {r:Nat} (h:r<=65537):B4 (65537-r)=B4 r:=by
 unfold B4;obtain⟨m,hm⟩:∃m,m+r=65537:=⟨65537-r,by omega⟩;rw[show 65537-r=m by omega];have e1:m*m+m*r=65537*m:=by rw[<-Nat.mul_add,hm,Jk]
 have e2:m*r+r*r=65537*r:=by rw[<-Nat.add_mul,hm]
 generalize m*m=a at e1 ⊢;generalize m*r=b at e1 e2;generalize r*r=c at e2 ⊢;omega
theorem Uu:∀x,x<257->1<=x->it B4 16 x=1:=by decide +kernel
theorem WQ:∀q,q<257->2<=q->65537%q≠0:=by decide +kernel
theorem vf:∀x,1<=x->x<65537->it B4 16 x=1:=by
 intro x;induction x using Nat.strongRecOn with
 |_ x ih=>
  intro h1 h2;by_cases hs:x<257
  ·exact Uu x hs h1
  ·have hdm:=Zx 65537 x;have hr:=Zu 65537 (show x>0 by omega);have hq:65537/x<257:=by
    rw[Nat.div_lt_iff_lt_mul (by omega)];omega
   have hq1:1<=65537/x:=by
    rw[Nat.le_div_iff_mul_le (by omega)];omega
   generalize 65537/x=q at hdm hq hq1;generalize 65537%x=r at hdm hr;have hr0:1<=r:=by
    rcases Nat.eq_zero_or_pos r with h0|h0
    ·exfalso;subst h0;rw[Nat.add_zero]at hdm;rcases Nat.lt_or_ge q 2 with h|h
     ·obtain rfl:q=1:=by omega
      omega
     ·exact WQ q hq h (by rw[<-hdm];exact Nat.mul_mod_left _ _)
    ·exact h0
   have f1:=ih q (by omega) hq1 (by omega);have f2:=ih r hr hr0 (by omega);have e:=wI x q 15;rw[f1,Ze]at e;have e2:it B4 16 (x*q)=it B4 16 r:=by
    rw[show x*q=65537-r by omega];show it B4 16 (65537-r)=_;have:∀y,it B4 16 y=it B4 15 (B4 y):=fun y=>(qE B4 15 y).symm;rw[this,this,a0M (by omega)]
   have d8:it B4 16 x<65537:=Zu _ (by decide);rw[e2,f2,Zr d8]at e;exact e.symm
theorem jC {a:Nat} (h:a<65536):1<=C1 a/\C1 a<65537:=by unfold C1;split<;>omega
theorem Wj {x y:Nat} (hx:1<=x/\x<65537) (hy:1<=y/\y<65537):x*y%65537≠0:=by
 intro h;have e:=wI x y 15;rw[vf x hx.1 hx.2,vf y hy.1 hy.2]at e;have e2:it B4 16 (x*y)=0:=by
  have h0:B4 (x*y)=0:=by unfold B4;rw[Ja,h]
  have:it B4 16 (x*y)=it B4 15 (B4 (x*y)):=(qE B4 15 _).symm;rw[this,h0];decide
 rw[e2]at e;exact absurd e (by decide)
theorem a0O {r:Nat} (h1:1<=r) (h2:r<65537):C1 (r%65536)=r:=by unfold C1;split<;>omega
theorem my {a b:Nat} (ha:a<65536) (hb:b<65536):C1 (I7 a b)=C1 a*C1 b%65537:=by
 have h:=Wj (jC ha) (jC hb);exact a0O (by omega) (Zu _ (by decide))
theorem DS {a b:Nat} (ha:a<65536) (hb:b<65536) (h:C1 a=C1 b):a=b:=by
 unfold C1 at h;split at h<;>split at h<;>omega
theorem BF {a:Nat} (ha:a<65536):∀k,k<=16->C1 (it S9 k (1,a,65535)).1*C1 a%65537=it B4 k (C1 a)%65537/\C1 (it S9 k (1,a,65535)).2.1=it B4 k (C1 a)%65537
 |0,_=>⟨by show C1 1*C1 a%65537=C1 a%65537;rw[show C1 1=1 from rfl,Nat.one_mul],(Zr (jC ha).2).symm⟩
 |k+1,hk=>by
  obtain⟨h1,h2⟩:=BF ha k (by omega);obtain⟨b1,b2,b3⟩:=qz ha k;have hodd:(it S9 k (1,a,65535)).2.2%2=1:=by
   rw[b3];have:∀k,k<16->65535/2^k%2=1:=by decide
   exact this k (by omega)
  show C1 (S9 (it S9 k (1,a,65535))).1*C1 a%65537=B4 (it B4 k (C1 a))%65537/\C1 (S9 (it S9 k (1,a,65535))).2.1=B4 (it B4 k (C1 a))%65537;generalize it S9 k (1,a,65535)=z at*
  simp only[S9,if_pos hodd];have hs:B4 (it B4 k (C1 a))%65537=(it B4 k (C1 a)%65537)*(it B4 k (C1 a)%65537)%65537:=by
   unfold B4;rw[Nat.mod_mod,<-Ja]
  rw[my b1 b2,my b2 b2,hs,<-h2];refine⟨?_,rfl⟩;rw[Jf,Nat.mul_right_comm,<-Jf,h1,<-h2]
theorem BD {a:Nat} (ha:a<65536):C1 a*C1 (G6 a)%65537=1:=by
 have h:=(BF ha 16 (by decide)).1;rw[vf _ (jC ha).1 (jC ha).2]at h;rw[Jk];exact h
theorem qW {a k:Nat} (ha:a<65536) (hk:k<65536):I7 (I7 a k) (G6 k)=a:=by
 refine DS (I8 _ _) ha ?_;rw[my (I8 _ _) (qC hk),my ha hk,Jf,Nat.mul_assoc,Ja,BD hk,Ze,Nat.mod_mod,Zr (jC ha).2]
theorem qD {a k:Nat} (ha:a<65536) (hk:k<65536):I7 (I7 a (G6 k)) k=a:=by
 refine DS (I8 _ _) ha ?_;rw[my (I8 _ _) hk,my ha (qC hk),Jf,Nat.mul_assoc,Jk (C1 (G6 k)),Ja,BD hk,Ze,Nat.mod_mod,Zr (jC ha).2]
theorem qN {a k:Nat} (ha:a<65536) (hk:k<65536):cJ (av a k) k=a:=by unfold cJ av;omega
theorem oW {a k:Nat} (ha:a<65536) (hk:k<65536):av (cJ a k) k=a:=by unfold cJ av;omega
theorem gp (a b:Nat):a^^^b^^^b=a:=by rw[Nat.xor_assoc,Nat.xor_self,Nat.xor_zero]
theorem sv (a d g:Nat):(a^^^g)^^^(d^^^g)=a^^^d:=by
 rw[Nat.xor_assoc,Nat.xor_comm g,gp]
theorem GW (k o) (z:Q4):aT k o (aY k o z)=H7 z:=by
 obtain⟨a,c,d,e⟩:=z;simp only[aT,aY,H7];have f:∀g h,eK k o (a^^^g) (c^^^h) (d^^^g) (e^^^h)=eK k o a c d e:=fun g h=>by unfold eK;rw[sv]
 have g':∀g h,ai k o (a^^^g) (c^^^h) (d^^^g) (e^^^h)=ai k o a c d e:=fun g h=>by unfold ai;rw[sv,f]
 have h':∀g h,aA k o (a^^^g) (c^^^h) (d^^^g) (e^^^h)=aA k o a c d e:=fun g h=>by unfold aA;rw[f,g']
 rw[g',h',gp,gp,gp,gp]
theorem Wb (k o) (z:Q4):aY k o (H7 (aT k o z))=z:=by
 obtain⟨a,d,c,e⟩:=z;simp only[aT,aY,H7];have f:∀g h,eK k o (a^^^g) (c^^^h) (d^^^g) (e^^^h)=eK k o a c d e:=fun g h=>by unfold eK;rw[sv]
 have g':∀g h,ai k o (a^^^g) (c^^^h) (d^^^g) (e^^^h)=ai k o a c d e:=fun g h=>by unfold ai;rw[sv,f]
 have h':∀g h,aA k o (a^^^g) (c^^^h) (d^^^g) (e^^^h)=aA k o a c d e:=fun g h=>by unfold aA;rw[f,g']
 rw[g',h',gp,gp,gp,gp]
theorem GV {k:List Nat} (hk:V5 k) (o) {z:Q4} (hz:I9 z):cr k o (H7 (y6 k o z))=z:=by
 obtain⟨a,c,d,e⟩:=z;obtain⟨h1,h2,h3,h4⟩:=hz;simp only[cr,y6,H7];rw[qW h1 (hk _),qN h2 (hk _),qN h3 (hk _),qW h4 (hk _)]
theorem Vy {k:List Nat} (hk:V5 k) (o) {z:Q4} (hz:I9 z):y6 k o (cr k o z)=H7 z:=by
 obtain⟨a,d,c,e⟩:=z;obtain⟨h1,h2,h3,h4⟩:=hz;simp only[cr,y6,H7];rw[qD h1 (hk _),oW h3 (hk _),oW h2 (hk _),qD h4 (hk _)]
theorem GU {k:List Nat} (hk:V5 k) (o) {z:Q4} (hz:I9 z):dT k o (y6 k o (H7 z))=z:=by
 obtain⟨a,c,d,e⟩:=z;obtain⟨h1,h2,h3,h4⟩:=hz;simp only[dT,y6,H7];rw[qW h1 (hk _),qN h3 (hk _),qN h2 (hk _),qW h4 (hk _)]
theorem Vx {k:List Nat} (hk:V5 k) (o) {z:Q4} (hz:I9 z):y6 k o (H7 (dT k o z))=z:=by
 obtain⟨a,d,c,e⟩:=z;obtain⟨h1,h2,h3,h4⟩:=hz;simp only[dT,y6,H7];rw[qD h1 (hk _),oW h2 (hk _),oW h3 (hk _),qD h4 (hk _)]
theorem qt {α:Type} {P:α->Prop} {st bk:α->Nat->α} (h:∀x r,P x->bk (st x r) r=x) (hP:∀x r,P x->P (st x r)):∀(n:Nat) (x:α),P x->(List.range n).foldl (fun x r=>bk x (n-1-r)) ((List.range n).foldl st x)=x
 |0,_,_=>rfl
 |n+1,x,hx=>by
  have e1:(List.range (n+1)).foldl st x=st ((List.range n).foldl st x) n:=by rw[Zo,Zy];rfl
  have hp:∀m,P ((List.range m).foldl st x):=by
   intro m;induction m with
   |zero=>exact hx
   |succ m ih=>rw[Zo,Zy];exact hP _ _ ih
  rw[e1,Jl,Zw,List.foldl_map];rw[show n+1-1-0=n by omega,h _ _ (hp n)];have e:∀(l:List Nat) (y:α),l.foldl (fun x r=>bk x (n+1-1-Nat.succ r)) y=l.foldl (fun x r=>bk x (n-1-r)) y:=by
   intro l y;congr 1;funext x r;congr 1;omega
  rw[e];exact qt h hP n x hx
theorem Ux {α:Type} {P:α->Prop} {st bk:α->Nat->α} (h:∀x r,P x->st (bk x r) r=x) (hP:∀x r,P x->P (bk x r)) (n:Nat) (x:α) (hx:P x):(List.range n).foldl st ((List.range n).foldl (fun x r=>bk x (n-1-r)) x)=x:=by
 have:=qt (P:=P) (st:=fun x r=>bk x (n-1-r)) (bk:=fun x r=>st x (n-1-r)) (fun x r=>h x _) (fun x r=>hP x _) n x hx;refine Eq.trans (nN (fun y r hr=> ?_) _) this;show st y r=st y (n-1-(n-1-r));rw[show n-1-(n-1-r)=r by omega]
theorem Vk {k:List Nat} (hk:V5 k) {x:Q4} (hx:I9 x):K5 (A9 k) (K5 k x)=x:=by
 rw[<-tl k hk];unfold Y8 K5;rw[GU hk 48 (rK k hx 8)];exact qt (P:=I9) (st:=mt k) (bk:=fun x r=>cr k (6*r) (aT k (6*r) x)) (fun x r h=>by
  show cr k (6*r) (aT k (6*r) (aY k (6*r) (y6 k (6*r) x)))=x;rw[GW,GV hk _ h]) (fun x r h=>Ck _ _ (fJ _ _ _)) 8 x hx
theorem Vl {k:List Nat} (hk:V5 k) {x:Q4} (hx:I9 x):K5 k (K5 (A9 k) x)=x:=by
 rw[<-tl k hk];unfold Y8 K5;have e:=Ux (P:=I9) (st:=mt k) (bk:=fun x r=>cr k (6*r) (aT k (6*r) x)) (fun x r h=>by
  show aY k (6*r) (y6 k (6*r) (cr k (6*r) (aT k (6*r) x)))=x;rw[Vy hk _ ⟨ar h.1 (I8 _ _),ar h.2.1 (I8 _ _),ar h.2.2.1 (dj _ _),ar h.2.2.2 (dj _ _)⟩,Wb]) (fun x r h=>⟨I8 _ _,hO _ _,hO _ _,I8 _ _⟩) 8 (dT k 48 x) ⟨I8 _ _,hO _ _,hO _ _,I8 _ _⟩
 have e':K9 k ((List.range 8).foldl (ke k) (dT k 48 x)) 8=dT k 48 x:=e;rw[e',Vx hk 48 hx]
theorem VF {x:Q4} (h:I9 x):N4 (ap x)=x:=by
 obtain⟨a,c,d,e⟩:=x;obtain⟨h1,h2,h3,h4⟩:=h;have hn:∀n,n<65536->(Zt (n/256)).toNat*256+(Zt n).toNat=n:=fun n hn=>by
  simp only[Z0];omega
 show(_,_,_,_)=(a,c,d,e);have e1:br (ap (a,c,d,e)) 0=a:=hn a h1;have e2:br (ap (a,c,d,e)) 1=c:=hn c h2;have e3:br (ap (a,c,d,e)) 2=d:=hn d h3;have e4:br (ap (a,c,d,e)) 3=e:=hn e h4;rw[e1,e2,e3,e4]
theorem Dl {b:Bs} (h:b.length=8):ap (N4 b)=b:=by
 match b,h with
 |[b0,b1,b2,b3,b4,b5,b6,b7],_=>
  have hp:∀x y:UInt8,bT (x.toNat*256+y.toNat)=[x,y]:=fun x y=>by
   have hx:=x.toNat_lt;have hy:=y.toNat_lt;have e:∀(x:UInt8) (n:Nat),n%256=x.toNat->Zt n=x:=fun x n h=>by
    apply Z9.1;rw[Z0,<-h]
   rw[bT,e x _ (by omega),e y _ (by omega)]
  show bT (b0.toNat*256+b1.toNat)++bT (b2.toNat*256+b3.toNat)++bT (b4.toNat*256+b5.toNat)++bT (b6.toNat*256+b7.toNat)=_;rw[hp,hp,hp,hp];rfl
theorem BU (b):I9 (N4 b):=⟨cd _ _,cd _ _,cd _ _,cd _ _⟩
theorem a2s (k x):I9 (K5 k x):=fJ _ _ _
theorem Vm {key:Bs} {b:Bs} (hb:b.length=8) (back:Bool):ap (K5 (if !back then A9 (V2 key)else V2 key) (N4 (ap (K5 (if back then A9 (V2 key)else V2 key) (N4 b)))))=b:=by
 rw[VF (a2s _ _)];cases back
 ·rw[if_pos (by rfl),if_neg (by decide),Vk (nW key) (BU b),Dl hb]
 ·rw[if_neg (by decide),if_pos (by rfl),Vl (nW key) (BU b),Dl hb]
theorem sr (k o) (x:W4):wh k o (wh k o x)=x:=by
 obtain⟨a,b,c,d⟩:=x;simp only[wh,fa]
theorem wN (x:W4):G4 (G4 x)=x:=rfl
theorem a00 (k s) (x:W4) (r):G4 (eX k s (G4 (iD k s x r)) r)=x:=by
 obtain⟨a,b,c,d⟩:=x;simp only[G4,eX,iD];rw[iA _ (by decide) (by decide) (by decide),fa,fa,iA _ (by decide) (by decide) (by decide)]
theorem a01 (k s) (x:W4) (r):iD k s (G4 (eX k s (G4 x) r)) r=x:=by
 obtain⟨a,b,c,d⟩:=x;simp only[G4,eX,iD];rw[fa,iA _ (by decide) (by decide) (by decide),iA _ (by decide) (by decide) (by decide),fa]
theorem vj {α:Type} {f:α->Nat->α} {g:α->α} (hg:∀x,g (g x)=x):∀(l:List Nat) (y:α),l.foldl (fun x r=>g (f (g x) r)) y=g (l.foldl f (g y))
 |[],y=>(hg y).symm
 |a::l,y=>by
  rw[Zw,Zw,vj hg l,hg]
theorem Eb (k s) (y:W4):(List.range 16).foldl (fun x r=>G4 (eX k s (G4 x) (16-1-r))) y=G4 (bY k s (G4 y) 16):=
 vj (f:=fun x r=>eX k s x (15-r)) wN (List.range 16) y
theorem a2t (k s) (x:W4):da k s (db k s x)=x:=by
 unfold da db;rw[sr];have e:=qr (st:=iD k s) (bk:=fun x r=>G4 (eX k s (G4 x) r)) (a00 k s) 16 (wh k 0 x);rw[<-Eb];exact(congrArg (wh k 0) e).trans (sr _ _ _)
theorem a2u (k s) (x:W4):db k s (da k s x)=x:=by
 unfold da db;rw[sr];have e:=Bp (st:=iD k s) (bk:=fun x r=>G4 (eX k s (G4 x) r)) (a01 k s) 16 (G4 (wh k 4 x));rw[Eb,wN]at e;have e':cZ k s (G4 (bY k s (wh k 4 x) 16)) 16=G4 (wh k 4 x):=e;rw[e',wN,sr]
theorem Dm (x:W4):N7 x 4=q7 x.1++(q7 x.2.1++(q7 x.2.2.1++(q7 x.2.2.2++[]))):=rfl
theorem jE {a b:Bs} {n i m:Nat} (ha:a.length=n):sub (a++b) (n+i) m=sub b i m:=by
 subst ha;simp only[sub,Je,List.drop_append];rw[List.drop_eq_nil_of_le (by omega),Zl,show a.length+i-a.length=i by omega]
theorem rW {a b:Bs} {n:Nat} (ha:a.length=n):sub (a++b) 0 n=a:=by subst ha;simp[sub]
theorem VG (x:W4):B9 (N7 x 4)=x:=by
 obtain⟨a,b,c,d⟩:=x;rw[Dm];unfold B9;have e1:∀t,sub (q7 a++t) 0 4=q7 a:=fun t=>rW (G3 a);have e2:∀t,sub (q7 a++(q7 b++t)) 4 4=q7 b:=fun t=>(jE (i:=0) (G3 a)).trans (rW (G3 b));have e3:∀t,sub (q7 a++(q7 b++(q7 c++t))) 8 4=q7 c:=fun t=>(jE (i:=4) (G3 a)).trans ((jE (i:=0) (G3 b)).trans (rW (G3 c)));have e4:∀t,sub (q7 a++(q7 b++(q7 c++(q7 d++t)))) 12 4=q7 d:=fun t=>(jE (i:=8) (G3 a)).trans ((jE (i:=4) (G3 b)).trans ((jE (i:=0) (G3 c)).trans (rW (G3 d))));rw[e1,e2,e3,e4,lj,lj,lj,lj]
theorem Dn {b:Bs} (h:b.length=16):N7 (B9 b) 4=b:=by
 rw[Dm];unfold B9;simp only
 rw[mi (by rw[l4];omega),mi (by rw[l4];omega),mi (by rw[l4];omega),mi (by rw[l4];omega),Jg];have e:∀(i:Nat),sub b i 4++b.drop (i+4)=b.drop i:=fun i=>by
  rw[<-List.drop_drop];exact Z3 4 _
 have e3:sub b 12 4=b.drop 12:=M0 _ _ _ (by omega);rw[e3,e 8,e 4];exact Z3 4 b
theorem a2v {k s:List UInt32} {b:Bs} (hb:b.length=16) (back:Bool):N7 (if !back then da k s (B9 (N7 (if back then da k s (B9 b)else db k s (B9 b)) 4))else db k s (B9 (N7 (if back then da k s (B9 b)else db k s (B9 b)) 4))) 4=b:=by
 rw[VG];cases back
 ·rw[if_pos (by rfl),if_neg (by decide),a2t,Dn hb]
 ·rw[if_neg (by decide),if_pos (by rfl),a2u,Dn hb]
theorem a24 (a b:UInt8):a^^^b^^^b=a:=by rw[Z8,UInt8.xor_self,Jq]
theorem iK:∀{a k:Bs},a.length<=k.length->j8 (j8 a k) k=a
 |[],_,_=>by simp[j8]
 |a::r,[],h=>by simp at h
 |a::r,b::k,h=>by
  have ih:=iK (a:=r) (k:=k) (by simpa using h);unfold j8 at ih ⊢;rw[Jb,Jb,ih,a24]
theorem jk {a b:Bs} (hl:a.length=b.length) (h:∀i,i<a.length->a.getD i 0=b.getD i 0):a=b:=by
 apply List.ext_getElem hl;intro i h1 h2;have:=h i h1
 rwa [Zc,Zp h1,Zc,Zp h2]at this
theorem yx:∀j,j<4->∀x,x<256->((gw ((j+2)%4)).getD ((gw j).getD x 0).toNat 0).toNat=x:=by decide +kernel
theorem xI {k b n i} (h:i<n):(G1 k b n).getD i 0=(gw ((i+2*(k-1))%4)).getD (b.getD i 0).toNat 0:=by simp[G1,Zc,h]
theorem oV {b:Bs} {k j:Nat} (hb:b.length=16) (h:k=1/\j=2\/k=2/\j=1):G1 k (G1 j b 16) 16=b:=by
 refine jk (by rw[P9,hb]) fun i h1=> ?_;have hi:i<16:=by rw[P9]at h1;exact h1
 rw[xI hi,xI hi];apply Z9.1;have hx:=(b.getD i 0).toNat_lt;rcases h with ⟨rfl,rfl⟩|⟨rfl,rfl⟩
 ·have:=yx ((i+2*(2-1))%4) (Zu _ (by decide)) _ hx;rw[show ((i+2*(2-1))%4+2)%4=(i+2*(1-1))%4 by omega]at this;exact this
 ·have:=yx ((i+2*(1-1))%4) (Zu _ (by decide)) _ hx;rw[show ((i+2*(1-1))%4+2)%4=(i+2*(2-1))%4 by omega]at this;exact this
def xS (f:Nat->UInt8) (n:Nat):UInt8:=(List.range n).foldl (fun s i=>s^^^f i) 0
theorem oO (f n):xS f (n+1)=xS f n^^^f n:=by simp[xS,Zo]
theorem Gc (f g:Nat->UInt8):∀n,xS (fun i=>f i^^^g i) n=xS f n^^^xS g n
 |0=>by show(0:UInt8)=0^^^0;decide
 |n+1=>by
  rw[oO,oO,oO,Gc f g n];generalize xS f n=a;generalize xS g n=b;generalize f n=c;generalize g n=d;rw[Z8,Z8,<-Z8 b,UInt8.xor_comm b,Z8 c]
theorem Ge:∀n,xS (fun _=>0) n=0
 |0=>rfl
 |n+1=>by rw[oO,Ge n];decide
def xM (b:Bs) (m:Nat):UInt8:=xS (fun i=>if m.testBit i then b.getD i 0 else 0) 16
theorem a22 (b m n):xM b (m^^^n)=xM b m^^^xM b n:=by
 unfold xM;rw[<-Gc];congr 1;funext i;rw[Nat.testBit_xor];cases m.testBit i<;>cases n.testBit i<;>simp
theorem Gd (v:UInt8) (j:Nat):∀n,xS (fun i=>if j=i then v else 0) n=if j<n then v else 0
 |0=>by rw[if_neg (by omega)];rfl
 |n+1=>by
  rw[oO,Gd v j n];by_cases h:j<n
  ·rw[if_pos h,if_neg (by omega),if_pos (by omega),Jq]
  ·by_cases h2:j=n
   ·rw[if_neg h,if_pos h2,if_pos (by omega),UInt8.zero_xor]
   ·rw[if_neg h,if_neg h2,if_neg (by omega),Jq]
theorem Gb {b:Bs} {j:Nat} (h:j<16):xM b (2^j)=b.getD j 0:=by
 unfold xM;have e:(fun i=>if (2^j).testBit i then b.getD i 0 else 0)=fun i=>if j=i then b.getD j 0 else 0:=by
  funext i;rw[Nat.testBit_two_pow];by_cases hi:j=i
  ·subst hi;simp
  ·simp[hi]
 rw[e,Gd,if_pos h]
theorem a23 (b):xM b 0=0:=by
 unfold xM;have e:(fun i=>if (0:Nat).testBit i then b.getD i 0 else 0)=fun _=>(0:UInt8):=by funext i;simp
 rw[e,Ge]
theorem xp (b:Bs) (f:Nat->Nat):∀n,(List.range n).foldl (fun s t=>s^^^xM b (f t)) 0=xM b ((List.range n).foldl (fun m t=>m^^^f t) 0)
 |0=>(a23 b).symm
 |n+1=>by
  rw[Zo,Zy,Zy];show _^^^xM b (f n)=xM b (_^^^f n);rw[a22,xp b f n]
def jU (p:Nat):Nat:=(List.range 7).foldl (fun m t=>m^^^2^((x9 p).getD t 0)) 0
theorem xP:∀p,p<16->∀t,t<7->(x9 p).getD t 0<16:=by decide +kernel
theorem Gw:∀p,p<16->(List.range 7).foldl (fun m t=>m^^^jU ((x9 p).getD t 0)) 0=2^p:=by decide +kernel
theorem xR {b:Bs} {p:Nat} (hp:p<16):aX b p 7=xM b (jU p):=by
 unfold jU;rw[<-xp];exact nN (fun x t ht=>by rw[Gb (xP p hp t ht)]) 0
theorem xK {b:Bs} {p:Nat} (hp:p<16):(H3 b).getD p 0=xM b (jU p):=by
 rw[<-xR hp];simp[H3,Zc,hp]
theorem xL {b:Bs} (hb:b.length=16):H3 (H3 b)=b:=by
 refine jk (by simp[H3,hb]) fun p h1=> ?_;have hp:p<16:=by simpa [H3]using h1
 have e:(H3 (H3 b)).getD p 0=aX (H3 b) p 7:=by rw[xK hp,<-xR hp]
 have e3:aX (H3 b) p 7=(List.range 7).foldl (fun s t=>s^^^xM b (jU ((x9 p).getD t 0))) 0:=nN (fun x t ht=>by rw[xK (xP p hp t ht)]) 0;rw[e,e3,xp b (fun t=>jU ((x9 p).getD t 0)),Gw p hp,Gb hp]
theorem Gv (b):(H3 b).length=16:=by simp[H3]
theorem GM {q:Nat} {key b:Bs} {n:Nat} (h:bx q key n) (hb:b.length=16):gy q key n (dP q key n b)=b:=by
 have hK:=fh h;have hE:=mU h hb;have h3:=h.h3;have st:∀i,i<=n-2->P8 q key n (dP q key n b) i=S5 q key b (n-2-i):=by
  intro i;induction i with
  |zero=>
   intro _;show j8 (G1 1 (j8 (j8 (G1 2 (j8 (S5 q key b (n-2)) (s6 q key (n-2))) 16) (s6 q key (n-1))) (s6 q key (n-1))) 16) (s6 q key (n-2))=_;rw[iK (by rw[P9,hK];exact Zh _),oV (B0 (hE _) (hK _)) (.inl ⟨rfl,rfl⟩),iK (by rw[hE,hK];exact Zh _)];rfl
  |succ i ih=>
   intro hi;have e:n-2-i=n-3-i+1:=by omega
   have e2:n-2-(i+1)=n-3-i:=by omega
   show j8 (G1 (2-(n-3-i)%2) (H3 (P8 q key n (dP q key n b) i)) 16) (s6 q key (n-3-i))=_;rw[ih (by omega),e,e2];generalize n-3-i=r;show j8 (G1 (2-r%2) (H3 (H3 (G1 (1+r%2) (j8 (S5 q key b r) (s6 q key r)) 16))) 16) (s6 q key r)=_;rw[xL (P9 _ _ _),oV (B0 (hE _) (hK _)) (by omega),iK (by rw[hE,hK];exact Zh _)]
 have:=st (n-2) (Zh _);rw[Js]at this;exact this
theorem GN {q:Nat} {key b:Bs} {n:Nat} (h:bx q key n) (hb:b.length=16):dP q key n (gy q key n b)=b:=by
 have hK:=fh h;have hD:=oU (b:=b) h;have h3:=h.h3;have st:∀r,r<=n-2->S5 q key (gy q key n b) r=P8 q key n b (n-2-r):=by
  intro r;induction r with
  |zero=>intro _;rfl
  |succ r ih=>
   intro hr;have e:n-2-r=n-3-r+1:=by omega
   have e2:n-2-(r+1)=n-3-r:=by omega
   have e3:n-3-(n-3-r)=r:=by omega
   show H3 (G1 (1+r%2) (j8 (S5 q key (gy q key n b) r) (s6 q key r)) 16)=_;rw[ih (by omega),e,e2];show H3 (G1 (1+r%2) (j8 (j8 (G1 (2-(n-3-(n-3-r))%2) (H3 (P8 q key n b (n-3-r))) 16) (s6 q key (n-3-(n-3-r)))) (s6 q key r)) 16)=_;rw[e3,iK (by rw[P9,hK];exact Zh _),oV (Gv _) (by omega),xL (hD _)]
 have e:=st (n-2) (Zh _);rw[Js]at e;unfold dP;rw[e];show j8 (G1 2 (j8 (j8 (G1 1 (j8 b (s6 q key (n-1))) 16) (s6 q key (n-2))) (s6 q key (n-2))) 16) (s6 q key (n-1))=b;rw[iK (by rw[P9,hK];exact Zh _),oV (B0 hb (hK _)) (.inr ⟨rfl,rfl⟩),iK (by rw[hb,hK];exact Zh _)]
def kX:List Nat:=(List.range 64).map (· +1)
theorem Df {b:Bs} (hb:b.length=8):E3 kX b=b:=by
 apply oH (by rw[eQ,hb];rfl);intro j hj;rw[eQ]at hj;have hj:j<64:=hj;have h8:kX.length/8=8:=rfl;unfold E3;rw[h8,gk (by omega)];have:kX.getD j 0=j+1:=by simp[kX,Zc,hj]
 rw[this];rfl
theorem Bn:(z7.map fun k=>bZ.getD (k-1) 0)=kX/\(bZ.map fun k=>z7.getD (k-1) 0)=kX:=by decide +kernel
theorem Xb {b:Bs} (hb:b.length=8):E3 z7 (E3 bZ b)=b:=by
 rw[wi (by rw[iE]) (by rw[O4,iE];exact wS),Bn.1,Df hb]
theorem Xc {b:Bs} (hb:b.length=8):E3 bZ (E3 z7 b)=b:=by
 rw[wi (by rw[O4]) (by rw[O4,iE];exact wR),Bn.2,Df hb]
theorem OI {x:L2} {k:Bs} (h:x.1.length=4):V8 (fy (V8 (fy x k)) k)=x:=by
 obtain⟨a,c⟩:=x;simp only[V8,fy];rw[iK (by rw[fx,h];exact Zh _)]
theorem OF {ks:List (Bs)} {x:L2} (h1:x.1.length=4) (h2:x.2.length=4):dN ks.reverse (V8 (dN ks x ks.length)) ks.length=V8 x:=by
 have e:=qt (P:=fun x:L2=>x.1.length=4/\x.2.length=4) (st:=fun x i=>fy x (ks.getD i [])) (bk:=fun x i=>V8 (fy (V8 x) (ks.getD i []))) (fun x r h=>OI h.1) (fun x r h=>⟨h.2,B0 h.1 (fx _ _)⟩) ks.length x ⟨h1,h2⟩;have c:=vj (f:=fun x r=>fy x (ks.getD (ks.length-1-r) [])) (g:=V8) (fun _=>rfl) (List.range ks.length) (dN ks x ks.length);have d:dN ks.reverse (V8 (dN ks x ks.length)) ks.length=(List.range ks.length).foldl (fun x r=>fy x (ks.getD (ks.length-1-r) [])) (V8 (dN ks x ks.length)):=by
  unfold dN;exact nN (fun y r hr=>by rw[DD hr]) _
 rw[d];have:=congrArg V8 (c.symm.trans e);exact this
theorem nA {ks:List (Bs)} {b:Bs} (hb:b.length=8):G2 ks.reverse (G2 ks b)=b:=by
 obtain⟨i1,i2⟩:=nu b;obtain⟨y1,y2⟩:=pP (ks:=ks) i1 i2 ks.length;have e:A7 (G2 ks b)=V8 (dN ks (A7 b) ks.length):=by
  obtain⟨s1,s2⟩:=wM y2 y1;unfold G2 A7;rw[Xb (by rw[Zb];unfold A7 at y1 y2;omega)];unfold A7 at s1 s2;rw[s1,s2];rfl
 have hr:ks.reverse.length=ks.length:=Zm;rw[G2,e,hr,OF i1 i2];show E3 bZ ((A7 b).1++(A7 b).2)=b;have hp:(E3 z7 b).length=8:=by rw[eQ,O4]
 have:(A7 b).1++(A7 b).2=E3 z7 b:=wL (n:=4) (m:=4) hp;rw[this,Xc hb]
theorem pR {ks:List (Bs)} {b:Bs} (hb:b.length=8):G2 ks (G2 ks.reverse b)=b:=by
 have:=nA (ks:=ks.reverse) hb
 rwa [Z5]at this
theorem uz:∀{K:List (List (Bs))} {b:Bs},(K.length=1\/K.length=3)->b.length=8->∀back,M9 K (!back) (M9 K back b K.length) K.length=b
 |[k],b,_,hb,false=>by show G2 k.reverse (G2 k b)=b;exact nA hb
 |[k],b,_,hb,true=>by show G2 k (G2 k.reverse b)=b;exact pR hb
 |[k,l,m],b,_,hb,false=>by
  show G2 k.reverse (G2 l (G2 m.reverse (G2 m (G2 l.reverse (G2 k b)))))=b;rw[nA (nB _ _),pR (nB _ _),nA hb]
 |[k,l,m],b,_,hb,true=>by
  show G2 m (G2 l.reverse (G2 k (G2 k.reverse (G2 l (G2 m.reverse b)))))=b;rw[pR (nB _ _),nA (nB _ _),pR hb]
 |[],_,h,_,_=>by simp at h
 |[_,_],_,h,_,_=>by simp at h
 |_::_::_::_::_,_,h,_,_=>by simp at h
theorem Hm {t:Int} {key b:Bs} {s:Nat} (ht:y7 t) (hs:q9 t=s) (hv:(key.length:Int)∈p9 t) (hb:b.length=s) (back:Bool):cF t key (!back) (cF t key back b)=b:=by
 rcases ht with rfl|rfl|rfl|rfl|rfl|rfl|rfl|rfl
 ·have h8:b.length=8:=by simp[q9]at hs;omega
  have hn:key.length/8=1:=by simp[p9]at hv;omega
  have hl:=gG (key:=key) (n:=1) (by decide);show gI key (!back) (gI key back b)=b;unfold gI;rw[hn];exact uz (by rw[hl];decide) h8 back
 ·have h8:b.length=8:=by simp[q9]at hs;omega
  have hn:key.length/8=2\/key.length/8=3:=by simp[p9]at hv;omega
  show gI key (!back) (gI key back b)=b;unfold gI;rcases hn with hn|hn
  ·have hl:=gG (key:=key) (n:=2) (by decide);rw[hn];exact uz (by rw[hl];decide) h8 back
  ·have hl:=gG (key:=key) (n:=3) (by decide);rw[hn];exact uz (by rw[hl];decide) h8 back
 ·have h8:b.length=8:=by simp[q9]at hs;omega
  exact Vm h8 back
 ·have h8:b.length=8:=by simp[q9]at hs;omega
  exact a29 h8 back
 ·have h8:b.length=8:=by simp[q9]at hs;omega
  exact VT h8 back
 ·have h8:b.length=16:=by simp[q9]at hs;omega
  exact a2v h8 back
 ·have h8:b.length=16:=by simp[q9]at hs;omega
  have ok:bx (aQ key) key (aN key):=by
   have hk:key.length=16\/key.length=24\/key.length=32:=by simp[p9]at hv;omega
   refine⟨?_,?_,?_,?_⟩<;>first|omega|(simp only[aN,aQ];omega)
  cases back
  ·exact GM ok h8
  ·exact GN ok h8
 ·have h8:b.length=8:=by simp[q9]at hs;omega
  exact XG h8 back
theorem k9.inv {t key s k xs rs} (h:k9 t key s k xs rs) {b:Bs} (hb:b.length=s) (back:Bool):cF t key (!back) (cF t key back b)=b:=Hm h.ht h.hs h.kl hb back
def fG:Bs->Nat->Bs
 |b,0=>b
 |b,i+1=>if b.getD i 0+1=0 then fG (b.set i (b.getD i 0+1)) i else b.set i (b.getD i 0+1)
def W9 (b:Bs):Bs:=fG b b.length
theorem BB:∀(i:Nat) (b:Bs),(fG b i).length=b.length
 |0,_=>rfl
 |i+1,b=>by
  unfold fG;split
  ·rw[BB i,Zs]
  ·rw[Zs]
theorem nS (b):(W9 b).length=b.length:=BB _ _
structure MS where
 ch:Bs
 row:Bs
 gone:Bs
def cK (E:Bs->Bs) (mode:Int) (s:MS):MS:=
 ⟨if mode=5 then E s.ch else if mode=6 then W9 s.ch else s.ch,E s.ch,[]⟩
def m9 (back:Bool) (p o:UInt8):UInt8:=if back then p else o
def K7 (mode:Int) (back:Bool) (s:MS) (p:UInt8):UInt8×MS:=
 let o:=p^^^s.row.getD 0 0
 let g:=s.gone++[m9 back p o]
 (o,if mode=3 then ⟨s.ch.drop 1++[m9 back p o],[],g⟩else if mode=4 then (if s.row.length=1 then ⟨g,[],g⟩else ⟨s.ch,s.row.drop 1,g⟩)else ⟨s.ch,s.row.drop 1,g⟩)
def w7 (E:Bs->Bs) (mode:Int) (back:Bool) (s:MS) (p:UInt8):UInt8×MS:=
 K7 mode back (if s.row.length=0 then cK E mode s else s) p
def A2 (E:Bs->Bs) (mode:Int) (back:Bool):MS->Bs->Bs×MS
 |s,[]=>([],s)
 |s,p::r=>let x:=w7 E mode back s p;let y:=A2 E mode back x.2 r;(x.1::y.1,y.2)
def N5 (E D:Bs->Bs) (mode:Int) (back:Bool) (c p:Bs):Bs×Bs:=
 if mode=1 then (if back then D p else E p,c)
 else if back then (j8 (D p) c,p)else (E (j8 p c),E (j8 p c))
def t4 (E D:Bs->Bs) (mode:Int) (back:Bool) (n:Nat) (b c:Bs):Nat->Bs×Bs
 |0=>([],c)
 |i+1=>let x:=t4 E D mode back n b c i;let y:=N5 E D mode back x.2 (sub b (n*i) n);(x.1++y.1,y.2)
def k5 (E D:Bs->Bs) (n:Nat) (mode:Int) (back:Bool) (s:MS) (b:Bs):Bs×MS:=
 if mode=1\/mode=2 then ((t4 E D mode back n b s.ch (b.length/n)).1,⟨(t4 E D mode back n b s.ch (b.length/n)).2,s.row,s.gone⟩)
 else A2 E mode back s b
def o6 (n:Nat) (mode:Int):Nat:=if mode=1\/mode=2 then n else 1
theorem lL (E mode back):∀(l:Bs) (s:MS) (p:UInt8),A2 E mode back s (l++[p])=((A2 E mode back s l).1++[(w7 E mode back (A2 E mode back s l).2 p).1],(w7 E mode back (A2 E mode back s l).2 p).2)
 |[],s,p=>rfl
 |a::l,s,p=>by
  show((w7 E mode back s a).1::(A2 E mode back (w7 E mode back s a).2 (l++[p])).1,(A2 E mode back (w7 E mode back s a).2 (l++[p])).2)=_;rw[lL E mode back l];rfl
theorem Cu (E mode back):∀(l m:Bs) (s:MS),A2 E mode back s (l++m)=((A2 E mode back s l).1++(A2 E mode back (A2 E mode back s l).2 m).1,(A2 E mode back (A2 E mode back s l).2 m).2)
 |[],m,s=>rfl
 |a::l,m,s=>by
  show((w7 E mode back s a).1::(A2 E mode back (w7 E mode back s a).2 (l++m)).1,(A2 E mode back (w7 E mode back s a).2 (l++m)).2)=_;rw[Cu E mode back l];rfl
theorem qQ (E mode back):∀(l:Bs) (s:MS),(A2 E mode back s l).1.length=l.length
 |[],_=>rfl
 |a::l,s=>by
  show(_::(A2 E mode back _ l).1).length=_;rw[Z6,qQ E mode back l,Z6]
structure CI (E D:Bs->Bs) (n:Nat):Prop where
 le:∀{b:Bs},b.length=n->(E b).length=n
 ld:∀{b:Bs},b.length=n->(D b).length=n
 de:∀{b:Bs},b.length=n->D (E b)=b
 ed:∀{b:Bs},b.length=n->E (D b)=b
theorem k9.ci {t key s k xs rs} (h:k9 t key s k xs rs):CI (cF t key false) (cF t key true) s:=
 ⟨fun hb=>h.len hb,fun hb=>h.len hb,fun hb=>h.inv hb false,fun hb=>h.inv hb true⟩
def O2 (a t:Bs):Bs:=j8 a t++a.drop t.length
theorem ru {a t:Bs} (h:t.length<=a.length):(O2 a t).length=a.length:=by
 rw[O2,Zb,Zf,j8,Z7];omega
theorem jA {a t:Bs} (h:t.length=a.length):O2 a t=j8 a t:=by
 rw[O2,h,List.drop_length,Jg]
theorem a26 (a t:Bs) (h:t.length<=a.length):j8 (a.take t.length) t=j8 a t:=by
 unfold j8;apply List.ext_getElem (by simp;omega);intro i h1 h2;simp
theorem Gg (a b:Bs):j8 a b=j8 b a:=by
 unfold j8;exact List.zipWith_comm_of_comm (fun x y=>UInt8.xor_comm x y)
theorem mL (a b:Bs):(j8 a b).length=min a.length b.length:=by simp[j8]
def gh (E:Bs->Bs) (n:Nat) (swap:Bool) (d7 b:Bs):Bs:=
 let x:=E (j8 (b.take n) d7)
 let y:=E (O2 x (b.drop n))
 if swap then y++x.take (b.length-n)else x.take (b.length-n)++y
def cU (D:Bs->Bs) (d7 x y:Bs):Bs:=
 j8 (D (x++(D y).drop x.length)) d7++j8 ((D y).take x.length) x
def bX (D:Bs->Bs) (n:Nat) (swap:Bool) (d7 b:Bs):Bs:=
 if swap then cU D d7 (b.drop n) (b.take n)else cU D d7 (b.take (b.length-n)) (b.drop (b.length-n))
def dK (n:Nat) (mode:Int) (b:Bs):Bool:=decide (mode=9)||(decide (mode=8)&& !decide (b.length=2*n))
def P2 (E D:Bs->Bs) (n:Nat) (mode:Int) (back:Bool) (d7 b:Bs):Bs:=
 if b.length=n then (if back then j8 (D b) d7 else E (j8 b d7))
 else if back then bX D n (dK n mode b) d7 b else gh E n (dK n mode b) d7 b
def oD (n:Nat) (mode:Int) (d7 b:Bs):Int:=
 if mode<7\/9<mode then 3 else if d7.length≠n then 5 else if b.length<n\/2*n<b.length then 7 else 0
theorem a0Q {E D:Bs->Bs} {n:Nat} (h:CI E D n) {swap:Bool} {d7 b:Bs} (hl:d7.length=n) (h1:n<=b.length) (h2:b.length<=2*n):(gh E n swap d7 b).length=b.length:=by
 have lx:(E (j8 (b.take n) d7)).length=n:=h.le (by rw[mL,Zg];omega);have ly:(E (O2 (E (j8 (b.take n) d7)) (b.drop n))).length=n:=h.le (by rw[ru (by rw[Zf];omega),lx]);unfold gh;simp only
 split<;>(rw [Zb,Zg,lx,ly];omega)
theorem DU {E D:Bs->Bs} {n:Nat} (h:CI E D n) {d7 x y:Bs} (hl:d7.length=n) (hx:x.length<=n) (hy:y.length=n):(cU D d7 x y).length=n+x.length:=by
 have lz:=h.ld hy;have lp:(D (x++(D y).drop x.length)).length=n:=h.ld (by rw[Zb,Zf,lz];omega);rw[cU,Zb,mL,mL,lp,Zg,lz];omega
theorem a0P {E D:Bs->Bs} {n:Nat} (h:CI E D n) {swap:Bool} {d7 b:Bs} (hl:d7.length=n) (h1:n<=b.length) (h2:b.length<=2*n):(bX D n swap d7 b).length=b.length:=by
 unfold bX;split
 ·rw[DU h hl (by rw[Zf];omega) (by rw[Zg];omega),Zf];omega
 ·rw[DU h hl (by rw[Zg];omega) (by rw[Zf];omega),Zg];omega
theorem stT_len {E D:Bs->Bs} {n:Nat} (h:CI E D n) {mode:Int} {back:Bool} {d7 b:Bs} (hl:d7.length=n) (h1:n<=b.length) (h2:b.length<=2*n):(P2 E D n mode back d7 b).length=b.length:=by
 unfold P2;split
 ·rename_i hb;cases back
  ·rw[if_neg (by decide),h.le (by rw[mL];omega),hb]
  ·rw[if_pos rfl,mL,h.ld hb];omega
 ·cases back
  ·rw[if_neg (by decide)];exact a0Q h hl h1 h2
  ·rw[if_pos rfl];exact a0P h hl h1 h2
theorem a0X {a b:Bs} {i n:Nat} (h:i+n<=a.length):sub (a++b) i n=sub a i n:=by
 simp only[sub];rw[Je (by omega),List.take_append_of_le_length (by rw[Zf];omega)]
theorem a0Y {a b:Bs} {i n:Nat} (h:a.length<=i):sub (a++b) i n=sub b (i-a.length) n:=by
 have:=jE (a:=a) (b:=b) (n:=a.length) (i:=i-a.length) (m:=n) rfl
 rwa [show a.length+(i-a.length)=i by omega]at this
theorem Cr (E D mode back n) {a b c:Bs} {k:Nat} (h:a.length=n*k):∀i,i<=k->t4 E D mode back n (a++b) c i=t4 E D mode back n a c i
 |0,_=>rfl
 |i+1,hi=>by
  unfold t4;rw[Cr E D mode back n h i (by omega),a0X (by
   rw[h,<-Jt];exact Nat.mul_le_mul_left n (by omega))]
theorem jt (E D mode back n) (b c:Bs) (i):t4 E D mode back n b c (i+1)=((t4 E D mode back n b c i).1++(N5 E D mode back (t4 E D mode back n b c i).2 (sub b (n*i) n)).1,(N5 E D mode back (t4 E D mode back n b c i).2 (sub b (n*i) n)).2):=rfl
theorem Co (E D mode back n) {a b c:Bs} {k:Nat} (h:a.length=n*k):∀j,t4 E D mode back n (a++b) c (k+j)=
  ((t4 E D mode back n a c k).1++(t4 E D mode back n b (t4 E D mode back n a c k).2 j).1,(t4 E D mode back n b (t4 E D mode back n a c k).2 j).2)
 |0=>by
  show t4 E D mode back n (a++b) c k=((t4 E D mode back n a c k).1++[],(t4 E D mode back n a c k).2);rw[Cr E D mode back n h k (Zh _),Jg]
 |j+1=>by
  show t4 E D mode back n (a++b) c (k+j+1)=_;rw[jt,Co E D mode back n h j,a0Y (by rw[h];exact Nat.mul_le_mul_left n (by omega)),h,show n*(k+j)-n*k=n*j by rw[Nat.mul_add];omega,jt E D mode back n b _ j];simp only[List.append_assoc]
theorem og {E D:Bs->Bs} {n:Nat} {mode:Int} {back:Bool} {s:MS} {a b:Bs} (hn:0<n) (ha:a.length%o6 n mode=0) (hb:b.length%o6 n mode=0):
  k5 E D n mode back s (a++b)=((k5 E D n mode back s a).1++(k5 E D n mode back (k5 E D n mode back s a).2 b).1,(k5 E D n mode back (k5 E D n mode back s a).2 b).2):=by
 unfold o6 at ha hb;unfold k5;by_cases hm:mode=1\/mode=2
 ·rw[if_pos hm]at ha hb;simp only[if_pos hm];have e1:a.length=n*(a.length/n):=by have:=Zx a.length n;omega
  have e2:(a++b).length/n=a.length/n+b.length/n:=by
   have:=Zx b.length n;rw[Zb,show a.length+b.length=n*(a.length/n+b.length/n) by rw[Nat.mul_add];omega,Nat.mul_div_cancel_left _ hn]
  rw[e2,Co E D mode back n e1]
 ·simp only[if_neg hm];exact Cu E mode back a b s
structure W1 (n:Nat) (mode:Int) (s:MS):Prop where
 m:1<=mode/\mode<=6
 ch:mode=1\/s.ch.length=n
 row:s.row.length<=n
 blk:mode=1\/mode=2->s.row=[]
 g:mode=4->s.row.length=0\/s.gone.length+s.row.length=n
theorem Cn {E D:Bs->Bs} {n:Nat} {mode:Int} {s:MS} (h:CI E D n) (hm:3<=mode) (ok:W1 n mode s):(cK E mode s).ch.length=n/\(cK E mode s).row.length=n/\(cK E mode s).gone=[]:=by
 have hc:s.ch.length=n:=ok.ch.resolve_left (by omega);refine⟨?_,h.le hc,rfl⟩;show(if mode=5 then E s.ch else if mode=6 then W9 s.ch else s.ch).length=n;split
 ·exact h.le hc
 ·split
  ·rw[nS,hc]
  ·exact hc
theorem qR {E D:Bs->Bs} {n:Nat} {mode:Int} {back:Bool} {s:MS} (h:CI E D n) (hn:0<n) (hm:3<=mode) (ok:W1 n mode s) (p:UInt8):W1 n mode (w7 E mode back s p).2:=by
 have hc:s.ch.length=n:=ok.ch.resolve_left (by omega);obtain⟨t,ht,h1,h2,h3,h4⟩:∃t,t=(if s.row.length=0 then cK E mode s else s)/\t.ch.length=n/\0<t.row.length/\t.row.length<=n/\(mode=4->t.gone.length+t.row.length=n):=by
  refine⟨_,rfl,?_⟩;split
  ·obtain⟨b1,b2,b3⟩:=Cn h hm ok;refine⟨b1,by omega,by omega,fun _=>by rw[b3,b2];simp⟩
  ·rename_i hr;exact⟨hc,by omega,ok.row,fun h4=>(ok.g h4).resolve_left hr⟩
 have e:(w7 E mode back s p).2=(K7 mode back t p).2:=by rw[ht];rfl
 rw[e];unfold K7;simp only
 split
 ·rename_i h3';exact⟨ok.m,.inr (by simp[h1];omega),by simp,fun hb=>by omega,fun hb=>by omega⟩
 ·split
  ·rename_i h4';split
   ·rename_i h5;refine⟨ok.m,.inr ?_,by simp,fun hb=>by omega,fun _=> .inl rfl⟩;have:=h4 h4';rw[Zb,Jo];omega
   ·refine⟨ok.m,.inr h1,by simp;omega,fun hb=>by omega,fun _=> .inr ?_⟩;have:=h4 h4';rw[Zb,Jo,Zf];omega
  ·rename_i h4';exact⟨ok.m,.inr h1,by simp;omega,fun hb=>by omega,fun hb=>absurd hb h4'⟩
theorem vQ {E D:Bs->Bs} {n:Nat} {mode:Int} {back:Bool} (h:CI E D n) (hn:0<n) (hm:3<=mode):∀(l:Bs) {s:MS},W1 n mode s->W1 n mode (A2 E mode back s l).2
 |[],_,ok=>ok
 |p::l,_,ok=>vQ h hn hm l (qR h hn hm ok p)
theorem qP {E D:Bs->Bs} {n:Nat} {mode:Int} {back:Bool} {c p:Bs} (h:CI E D n) (hm:mode=1\/mode=2) (hc:mode=1\/c.length=n) (hp:p.length=n):
  (N5 E D mode back c p).1.length=n/\(mode=1\/(N5 E D mode back c p).2.length=n):=by
 unfold N5;by_cases h1:mode=1
 ·rw[if_pos h1];refine⟨?_,.inl h1⟩;show(if back then D p else E p).length=n;cases back
  ·exact h.le hp
  ·exact h.ld hp
 ·rw[if_neg h1];have hc:=hc.resolve_left h1;cases back
  ·have:(E (j8 p c)).length=n:=h.le (B0 hp hc);exact⟨this,.inr this⟩
  ·exact⟨B0 (h.ld hp) hc,.inr hp⟩
theorem js {E D:Bs->Bs} {n:Nat} {mode:Int} {back:Bool} {b c:Bs} (h:CI E D n) (hm:mode=1\/mode=2) (hc:mode=1\/c.length=n):∀i,n*i<=b.length->
  (t4 E D mode back n b c i).1.length=n*i/\(mode=1\/(t4 E D mode back n b c i).2.length=n)
 |0,_=>⟨rfl,hc⟩
 |i+1,hi=>by
  rw[Jt]at hi;obtain⟨a1,a2⟩:=js (back:=back) (b:=b) h hm hc i (by omega);obtain⟨b1,b2⟩:=qP (back:=back) h hm a2 (p:=sub b (n*i) n) (by rw[l4];omega);exact⟨by rw[jt];simp only[Zb,a1,b1,Jt],b2⟩
theorem aB {E D:Bs->Bs} {n:Nat} {mode:Int} {back:Bool} {s:MS} {b:Bs} (h:CI E D n) (ok:W1 n mode s) (hb:b.length%o6 n mode=0):(k5 E D n mode back s b).1.length=b.length:=by
 unfold o6 at hb;unfold k5;by_cases hm:mode=1\/mode=2
 ·rw[if_pos hm]at hb;simp only[if_pos hm];have:=Zx b.length n;rw[(js h hm ok.ch _ (by omega)).1];omega
 ·simp only[if_neg hm];exact qQ E mode back b s
theorem vR {E D:Bs->Bs} {n:Nat} {mode:Int} {back:Bool} {s:MS} {b:Bs} (h:CI E D n) (hn:0<n) (ok:W1 n mode s):W1 n mode (k5 E D n mode back s b).2:=by
 unfold k5;by_cases hm:mode=1\/mode=2
 ·simp only[if_pos hm];have:=Zx b.length n;exact⟨ok.m,(js h hm ok.ch _ (by omega)).2,ok.row,ok.blk,fun h4=>by omega⟩
 ·simp only[if_neg hm];exact vQ h hn (by have:=ok.m;omega) b ok
def cM (E:Bs->Bs) (mode:Int) (c:Bs):Bs:=if mode=5 then E c else if mode=6 then W9 c else c
def L9 (kind:Int) (n:Nat):Bs:=
 if kind=1 then Zk n (Zt n)else if kind=2 then 128::Zk (n-1) 0 else Zk (n-1) 0++[Zt n]
theorem oy {kind n} (h:0<n):(L9 kind n).length=n:=by
 unfold L9;split
 ·simp
 ·split
  ·simp;omega
  ·simp;omega
def L8 (kind:Int) (size:Nat) (tail:Bs):Bs:=tail++L9 kind (size-tail.length)
theorem mf {kind size} {tail:Bs} (h:tail.length<size):(L8 kind size tail).length=size:=by
 rw[L8,Zb,oy (by omega)];omega
def T8 (b:Bs):Nat->Nat
 |0=>0
 |k+1=>if b.getD k 0=128 then k+1 else T8 b k
def ao (kind:Int) (b:Bs):Nat:=if kind=2 then b.length+1-T8 b b.length else (b.getD (b.length-1) 0).toNat
def A3 (kind:Int) (b:Bs):Nat:=
 if ao kind b<1\/b.length<ao kind b\/(kind≠3/\b.drop (b.length-ao kind b)≠L9 kind (ao kind b))then 0 else ao kind b
def V7 (kind:Int) (b:Bs):Bs:=b.take (b.length-A3 kind b)
theorem BQ (b:Bs):∀k,T8 b k<=k
 |0=>Zh _
 |k+1=>by
  unfold T8;split
  ·exact Zh _
  ·have:=BQ b k;omega
theorem BP (b:Bs) {j:Nat} (hj:b.getD j 0=128):∀k,j<k->(∀i,j<i->i<k->b.getD i 0≠128)->T8 b k=j+1
 |0,h,_=>by omega
 |k+1,h,hn=>by
  unfold T8;by_cases hk:k=j
  ·subst hk;rw[if_pos hj]
  ·rw[if_neg (hn k (by omega) (by omega))];exact BP b hj k (by omega) (fun i h1 h2=>hn i h1 (by omega))
theorem Va {a b:Bs} {i:Nat} (h:a.length<=i):(a++b).getD i 0=b.getD (i-a.length) 0:=by
 rw[Zc,List.getElem?_append_right h,Zc]
theorem rq (kind b):A3 kind b<=b.length:=by
 unfold A3;split<;>omega
def D4 (n l:Nat):Nat:=n*((l-n-1)/n)
theorem kU {n l:Nat} (hn:0<n) (h:n<=l):D4 n l<=l/\n<=l-D4 n l/\l-D4 n l<=2*n/\D4 n l%n=0/\(D4 n l=0\/n<=D4 n l):=by
 unfold D4;have hd:=Zx (l-n-1) n;have hm:=Zu (l-n-1) hn;refine⟨?_,?_,?_,Nat.mul_mod_right _ _,?_⟩
 ·omega
 ·by_cases h0:l=n
  ·subst h0;rw[Js,show(0-1:Nat)/l=0 from Nat.zero_div _,Nat.mul_zero];omega
  ·omega
 ·omega
 ·rcases Nat.eq_zero_or_pos ((l-n-1)/n)with h0|h0
  ·left;rw[h0,Nat.mul_zero]
  ·right;exact Nat.le_mul_of_pos_right n h0
def gd (n:Nat) (back:Bool) (iv m o:Bs):Bs:=
 if D4 n m.length=0 then iv else if back then sub m (D4 n m.length-n) n else o.drop (D4 n m.length-n)
def aJ (E D:Bs->Bs) (n:Nat) (mode:Int) (back:Bool) (iv m:Bs):Bs×Int:=
 if m.length<n then ([],7)
 else let o:=(k5 E D n 2 back ⟨iv,[],[]⟩ (m.take (D4 n m.length))).1
  (o++P2 E D n mode back (gd n back iv m o) (m.drop (D4 n m.length)),0)
def am (pad:Int) (n:Nat) (m:Bs):Bs:=m.take (m.length-m.length%n)++L8 pad n (m.drop (m.length-m.length%n))
def aI (E D:Bs->Bs) (n:Nat) (mode pad:Int) (back:Bool) (iv m:Bs):Bs×Int:=
 if 7<=mode then aJ E D n mode back iv m
 else if pad=4 then (if m.length%o6 n mode=0 then ((k5 E D n mode back ⟨iv,[],[]⟩ m).1,0)else ([],7))
 else if back=false then ((k5 E D n mode false ⟨iv,[],[]⟩ (am pad n m)).1,0)
 else if m.length=0\/m.length%n≠0 then ([],7)
 else let o:=(k5 E D n mode true ⟨iv,[],[]⟩ m).1
  if A3 pad (o.drop (o.length-n))=0 then ([],8)else (o.take (o.length-n)++V7 pad (o.drop (o.length-n)),0)
def D0 (n:Nat) (mode pad:Int) (iv:Bs):Prop:=(1<=mode/\mode<=9)/\(1<=pad/\pad<=4)/\(pad=4\/mode<=2)/\iv.length=if mode=1 then 0 else n
noncomputable def C6 (tag mode pad:Int) (n lk li:Nat):Int:=by
 classical exact if ¬y7 tag then 2 else if (lk:Int)∉p9 tag then 4 else if ¬((1<=mode/\mode<=9)/\(1<=pad/\pad<=4)/\(pad=4\/mode<=2))then 3 else if li≠(if mode=1 then 0 else n)then 5 else 0
theorem qU {n:Nat} {mode:Int} {iv:Bs} (hm:1<=mode/\mode<=6) (h:iv.length=if mode=1 then 0 else n):W1 n mode ⟨iv,[],[]⟩:=by
 refine⟨hm,?_,Nat.zero_le _,fun _=>rfl,fun _=> .inl rfl⟩;by_cases h1:mode=1
 ·exact .inl h1
 ·rw[if_neg h1]at h;exact .inr h
theorem Bv (n:Nat):o6 n 2=n:=rfl
theorem a0F {E D:Bs->Bs} {n:Nat} {back:Bool} {iv m:Bs} (h:CI E D n) (hn:0<n) (hi:iv.length=n) (hm:n<=m.length):
  (k5 E D n 2 back ⟨iv,[],[]⟩ (m.take (D4 n m.length))).1.length=D4 n m.length:=by
 obtain⟨f1,f2,f3,f4,f5⟩:=kU hn hm;have lt:(m.take (D4 n m.length)).length=D4 n m.length:=by rw[Zg];omega
 rw[aB h (qU (by decide) (by rw[if_neg (by decide),hi])) (by rw[lt,Bv,f4]),lt]
theorem a0E {n:Nat} {back:Bool} {iv m o:Bs} (hn:0<n) (hi:iv.length=n) (hm:n<=m.length) (ho:o.length=D4 n m.length):(gd n back iv m o).length=n:=by
 obtain⟨f1,f2,f3,f4,f5⟩:=kU hn hm;unfold gd;split
 ·exact hi
 ·split
  ·rw[l4];omega
  ·rw[Zf];omega
theorem a0G {E D:Bs->Bs} {n:Nat} {mode:Int} {back:Bool} {iv m:Bs} (h:CI E D n) (hn:0<n) (hi:iv.length=n) (hm:n<=m.length):(aJ E D n mode back iv m).1.length=m.length:=by
 obtain⟨f1,f2,f3,f4,f5⟩:=kU hn hm;have lo:=a0F (back:=back) h hn hi hm;unfold aJ;rw[if_neg (by omega)];simp only
 rw[Zb,stT_len h (a0E hn hi hm lo) (by rw[Zf];omega) (by rw[Zf];omega),lo,Zf];omega
theorem WS {pad:Int} {n:Nat} {m:Bs} (hn:0<n):(am pad n m).length=m.length/n*n+n:=by
 have hd:=Zx m.length n;have hm:=Zu m.length hn;have hc:m.length/n*n=n*(m.length/n):=Jk _ _;unfold am;rw[Zb,mf (by rw[Zf];omega),Zg];omega
theorem dV {n:Nat} {va:List Value} {l:Bs} (ha:va=bv l) (hn:l.length=n) (h0:0<n) (hm:n<=1073741824):a9 C 90 [.z n va] [] (.ret (.o 1 (.k 0) 0 n)) [.sc (bv l)]:=by
 subst ha;refine qn.c ?_;refine .inl ⟨h0,(by simp only[y8,i9,L6,x8,Zb,Jd,Zs,Zg,Zf,Z6,List.length_nil,l4,Zm,Jn,Z7];omega),by omega,by omega,?_⟩;refine⟨_,rfl,[.d 7 0],?_,⟨_,rfl,rfl⟩,tq⟩;show V.o 1 (.k 0) 0 (0+n)=_;rw[Zi]
theorem W6 {n:Nat} {va:List Value} {l:Bs} (ha:va=bv l) (hn:l.length=n) (hm:n<=1073741824):a9 C 90 [.z n va] [] (.ret (.z n (bv l))) []:=by
 subst ha;by_cases h0:0<n
 ·refine qn.c ?_;refine .inl ⟨h0,(by simp only[y8,i9,L6,x8,Zb,Jd,Zs,Zg,Zf,Z6,List.length_nil,l4,Zm,Jn,Z7];omega),by omega,by omega,?_⟩;refine⟨_,rfl,[],?_,tq⟩;show V.z (0+n) (sub ([]++bv l) 0 (0+n))=_;rw[Zi,Zl,g8 hn]
 ·obtain rfl:n=0:=(by omega);obtain rfl:=List.eq_nil_of_length_eq_zero hn;refine qn.w ?_;refine .inr ⟨?_,?_⟩
  ·exact⟨.ret i6,[],⟨_,rfl,[],rfl,tq⟩,.ret .nl,.nil⟩
  ·refine⟨rfl,by decide,by decide,?_⟩;exact⟨.ret (.z 0 []),[],⟨_,rfl,[],rfl,tq⟩,.ret (.refl _),.nil⟩
def px (a t:Bs) (i:Nat):Bs:=(List.range a.length).map fun p=>if p<i then a.getD p 0^^^t.getD p 0 else a.getD p 0
theorem cO (a t i):(px a t i).length=a.length:=by simp[px]
theorem Dr (a t):px a t 0=a:=by
 refine jk (cO _ _ _) fun i hi=> ?_;rw[cO]at hi;simp[px,Zc,hi]
theorem Dp {a t:Bs} {i:Nat} (h:i<a.length):(px a t i).getD i 0=a.getD i 0:=by simp[px,Zc,h]
theorem Dq {a t:Bs} {i:Nat} (h:i<a.length):(px a t i).set i (a.getD i 0^^^t.getD i 0)=px a t (i+1):=by
 refine jk (by rw[Zs,cO,cO]) fun j hj=> ?_;rw[Zs,cO]at hj;rw[Zc,Jh];by_cases e:i=j
 ·subst e;rw[if_pos rfl,if_pos (by rw[cO];exact h)];simp[px,Zc,h]
 ·rw[if_neg e];simp only[px,Zc,List.getElem?_map,List.getElem?_range hj,Option.map_some,Option.getD_some];by_cases e2:j<i
  ·rw[if_pos e2,if_pos (by omega)]
  ·rw[if_neg e2,if_neg (by omega)]
theorem Do {a t:Bs} (h:t.length<=a.length):px a t t.length=O2 a t:=by
 refine jk (by rw[cO,ru h]) fun i hi=> ?_;rw[cO]at hi;have e:(px a t t.length).getD i 0=if i<t.length then a.getD i 0^^^t.getD i 0 else a.getD i 0:=by
  simp[px,Zc,hi]
 rw[e];have lx:(j8 a t).length=t.length:=by rw[mL];omega
 unfold O2;by_cases h1:i<t.length
 ·have e2:(j8 a t++a.drop t.length).getD i 0=(j8 a t).getD i 0:=by
   rw[Zc,List.getElem?_append_left (by omega),<-Zc]
  rw[if_pos h1,e2];have h2:i<(List.zipWith (fun x1 x2=>x1^^^x2) a t).length:=by rw[Z7];omega
  unfold j8;rw[Zc (l:=List.zipWith _ a t),Zp h2];simp[Zc,h1,hi]
 ·have e2:(a.drop t.length).getD (i-t.length) 0=a.getD i 0:=by
   rw[Zc,List.getElem?_drop,show t.length+(i-t.length)=i by omega,<-Zc]
  rw[if_neg h1,Va (by omega),lx,e2]
theorem kw {n m:Nat} {va vt:List Value} {a t:Bs} (ha:va=bv a) (ht:vt=bv t) (hn:a.length=n) (hm:t.length=m) (h0:0<n) (hmn:m<=n) (hb:n<=1000):a9 C 229 [.z n va,.z m vt] [] (.ret (.o 1 (.k 0) 0 n)) [.sc (bv (O2 a t))]:=by
 subst ha;subst ht;refine Bg.c ?_;refine d9 (fun h=>absurd h (by omega)) (fun _=> ?_);refine⟨[],_,_,_,_,dV rfl hn h0 (by omega),rfl,rfl,?_⟩;refine m5 (fun i=>⟨[(5,.o 1 (.k 0) 0 n),(17,.z m (bv t)),(18,i64 m),(19,i64 i)],[.sc (bv (px a t i))]⟩) m ⟨[.d 16 0],⟨rfl,rfl,rfl,rfl,tq⟩,⟨_,rfl,g9 (by rw[Dr])⟩,tq⟩ fun i hi=> ?_;refine d9 (fun h=> ?_) (fun h=> ?_)
 ·have d8:i<m:=(by omega);refine⟨by omega,by omega,_,by rw[Zd];exact p5 (by omega),?_⟩;refine⟨by omega,by omega,_,by rw[Zd,Ze,Zi];exact p5 (by rw[cO];omega),?_⟩;refine⟨by omega,by omega,by rw[Zd,i9,cO];omega,?_⟩;refine⟨i+1,by omega,by omega,[.k 0],⟨rfl,rfl,rfl,f6 (by simp(disch:=omega)only[Za];omega),tq⟩,⟨_,rfl,g9 ?_⟩,tq⟩;rw[n5,Dp (by omega),Zd,Ze,Zi,K6,Dq (by omega)]
 ·obtain rfl:i=m:=(by omega);refine⟨_,rfl,[.k 0],rfl,⟨_,rfl,g9 ?_⟩,tq⟩;rw[<-hm,Do (by omega)]
theorem Lg {n m:Nat} {va vt:List Value} {a t:Bs} (ha:va=bv a) (ht:vt=bv t) (hn:a.length=n) (hm:t.length=m) (h0:0<n) (hmn:m<=n) (hb:n<=1000):a9 C 229 [.z m vt,.z n va] [] (.ret (.o 1 (.k 0) 0 n)) [.sc (bv (O2 a t))]:=by
 by_cases he:m=n
 ·subst he;have e:O2 a t=O2 t a:=by rw[jA (by omega),jA (by omega),Gg]
  rw[e];exact kw ht ha hm hn h0 (Zh _) hb
 subst ha;subst ht;refine Bg.c ?_;refine d9 (fun _=> ?_) (fun h=>absurd h (by omega));refine⟨[],_,_,_,_,dV rfl hn h0 (by omega),rfl,rfl,?_⟩;refine m5 (fun i=>⟨[(5,.o 1 (.k 0) 0 n),(17,.z m (bv t)),(18,i64 m),(19,i64 i)],[.sc (bv (px a t i))]⟩) m ⟨[.d 16 0],⟨rfl,rfl,rfl,rfl,tq⟩,⟨_,rfl,g9 (by rw[Dr])⟩,tq⟩ fun i hi=> ?_;refine d9 (fun h=> ?_) (fun h=> ?_)
 ·have d8:i<m:=(by omega);refine⟨by omega,by omega,_,by rw[Zd];exact p5 (by omega),?_⟩;refine⟨by omega,by omega,_,by rw[Zd,Ze,Zi];exact p5 (by rw[cO];omega),?_⟩;refine⟨by omega,by omega,by rw[Zd,i9,cO];omega,?_⟩;refine⟨i+1,by omega,by omega,[.k 0],⟨rfl,rfl,rfl,f6 (by simp(disch:=omega)only[Za];omega),tq⟩,⟨_,rfl,g9 ?_⟩,tq⟩;rw[n5,Dp (by omega),Zd,Ze,Zi,K6,Dq (by omega)]
 ·obtain rfl:i=m:=(by omega);refine⟨_,rfl,[.k 0],rfl,⟨_,rfl,g9 ?_⟩,tq⟩;rw[<-hm,Do (by omega)]
theorem y4 {b:Bs} {m s:Nat} (hb:b.length=m) (hs:s<=m):sub (bv b) s (m-s)=bv (b.drop s):=by rw[m8,M0 _ _ _ (by omega)]
theorem JI {t key s k xs rs} (h:k9 t key s k xs rs) {m:Nat} {vl vb:List Value} {d7 b:Bs} {swap:Bool} (hvl:vl=bv d7) (hvb:vb=bv b) (hl:d7.length=s) (hb:b.length=m) (h1:s<m) (h2:m<=2*s):
  a9 C 179 [f7 t k xs,bool swap,.z s vl,.z m vb] [] (.ret (.o 1 (.k 0) 0 m)) [.sc (bv (gh (cF t key false) s swap d7 b))]:=by
 subst hvl;subst hvb;have hs:=h.s_le;have l1:(b.take s).length=s:=by rw[Zg];omega
 have l2:(b.drop s).length=m-s:=by rw[Zf,hb]
 have p1:O2 (b.take s) d7=j8 (b.take s) d7:=jA (by omega);have lx1:(j8 (b.take s) d7).length=s:=B0 l1 hl;have lX:=h.len (back:=false) lx1;have lp2:(O2 (cF t key false (j8 (b.take s) d7)) (b.drop s)).length=s:=by rw[ru (by omega),lX]
 have lY:=h.len (back:=false) lp2;have hres:gh (cF t key false) s swap d7 b=if swap then cF t key false (O2 (cF t key false (j8 (b.take s) d7)) (b.drop s))++(cF t key false (j8 (b.take s) d7)).take (m-s)else (cF t key false (j8 (b.take s) d7)).take (m-s)++cF t key false (O2 (cF t key false (j8 (b.take s) d7)) (b.drop s)):=by
  unfold gh;rw[hb]
 have e1:I6.wrap ((m:Int)-(s:Int))=((m-s:Nat):Int):=by rw[Za _ (by omega)];omega
 rw[hres];refine TV.c ?_;refine⟨[],_,_,_,_,h.size,rfl,rfl,?_⟩;refine⟨by omega,by omega,by omega,by omega,?_⟩;have c1:=kw (va:=sub (bv b) 0 s) (a:=b.take s) (t:=d7) (m8 b 0 s) rfl l1 hl (by omega) (Zh _) (by omega);rw[p1]at c1;refine⟨[],_,_,_,_,c1,rfl,rfl,?_⟩;refine⟨[],_,_,_,_,h.enc lx1 (g8 lx1),rfl,rfl,?_⟩;generalize cF t key false (j8 (b.take s) d7)=x at*
 refine⟨by omega,by omega,by omega,by omega,?_⟩;refine⟨[],_,_,_,_,Lg (a:=x) (t:=b.drop s) (g8 lX) (y4 hb (by omega)) lX l2 (by omega) (by omega) (by omega),rfl,rfl,?_⟩;refine⟨[],_,_,_,_,h.enc lp2 (g8 lp2),rfl,rfl,?_⟩;generalize cF t key false (O2 x (b.drop s))=y at*
 refine⟨by rw[e1];omega,by rw[e1];omega,by rw[e1];omega,by rw[e1];omega,?_⟩;have lt:(x.take (m-s)).length=m-s:=by rw[Zg];omega
 cases swap
 ·refine⟨[],_,_,_,_,cw (n:=2) (ls:=[x.take (m-s),y]) (t:=x.take (m-s)++y) (by simp) ?_ rfl (by rw[Zb];omega) (by rw[Zb];omega),rfl,rfl,?_⟩
  ·rw[e1];show[V.z (m-s) (sub (bv x) 0 (m-s)),V.z s (sub (bv y) 0 s)]=[V.z _ _,V.z _ _];rw[g8 lY,lt,lY,m8];rfl
  have lc:(x.take (m-s)++y).length=m:=by rw[Zb];omega
  rw[lc];exact⟨_,rfl,[.d 48 0],rfl,⟨_,rfl,rfl⟩,tq⟩
 ·refine⟨[],_,_,_,_,cw (n:=2) (ls:=[y,x.take (m-s)]) (t:=y++x.take (m-s)) (by simp) ?_ rfl (by rw[Zb];omega) (by rw[Zb];omega),rfl,rfl,?_⟩
  ·rw[e1];show[V.z s (sub (bv y) 0 s),V.z (m-s) (sub (bv x) 0 (m-s))]=[V.z _ _,V.z _ _];rw[g8 lY,lt,lY,m8];rfl
  have lc:(y++x.take (m-s)).length=m:=by rw[Zb];omega
  rw[lc];exact⟨_,rfl,[.d 48 0],rfl,⟨_,rfl,rfl⟩,tq⟩
theorem a9.args {C:m6} {f:Nat} {ys ys0:List V} {bs bs':List B} {r:Oc} (h:a9 C f ys bs r bs') (hw:aS ys0 ys):a9 C f ys0 bs r bs':=
 ⟨h.1,fun w F ι vs st gl dm hl=>h.2 w F ι vs st gl dm (hw.r hl)⟩
theorem HQ {t key s k xs rs} (h:k9 t key s k xs rs) {m:Nat} {vl vb:List Value} {d7 b:Bs} {swap:Bool} (hvl:vl=bv d7) (hvb:vb=bv b) (hl:d7.length=s) (hb:b.length=m) (h1:s<m) (h2:m<=2*s):
  a9 C 178 [f7 t k xs,bool swap,.z s vl,.z m vb] [] (.ret (.o 1 (.k 0) 0 m)) [.sc (bv (bX (cF t key true) s swap d7 b))]:=by
 subst hvl;subst hvb;have hs:=h.s_le;have e1:I6.wrap ((m:Int)-(s:Int))=((m-s:Nat):Int):=by rw[Za _ (by omega)];omega
 cases swap
 ·have lx:(b.take (m-s)).length=m-s:=by simp only[Zg,Zf];omega
  have ly:(b.drop (m-s)).length=s:=by simp only[Zg,Zf];omega
  have hx:sub (bv b) 0 (m-s)=bv (b.take (m-s)):=m8 b 0 (m-s);have hy:sub (bv b) (m-s) s=bv (b.drop (m-s)):=by
   rw[m8,M0 _ _ _ (by omega)]
  have hres:bX (cF t key true) s false d7 b=cU (cF t key true) d7 (b.take (m-s)) (b.drop (m-s)):=by
   unfold bX;rw[if_neg (by decide),hb]
  have lz:=h.len (back:=true) ly;rw[hres,cU];rw[lx];refine Bf.c ?_;refine⟨[],_,_,_,_,h.size,rfl,rfl,?_⟩;refine⟨by rw[e1];omega,by rw[e1];omega,by rw[e1];omega,by rw[e1];omega,?_⟩;refine⟨by rw[e1];omega,by rw[e1];omega,by omega,by omega,?_⟩;refine⟨[],_,_,_,_,h.dec ly rfl,?_,rfl,?_⟩
  ·rw[e1,<-hy];show[f7 t k xs,V.z (m-(m-s)) (sub (bv b) (m-s) (m-(m-s)))]=_;rw[show m-(m-s)=s by omega]
  generalize cF t key true (b.drop (m-s))=z at*
  have lt:(z.take (m-s)).length=m-s:=by rw[Zg];omega
  refine⟨by rw[e1];omega,by rw[e1];omega,by rw[e1];omega,by rw[e1];omega,?_⟩;refine⟨[],_,_,_,_,kw (a:=z.take (m-s)) (t:=b.take (m-s)) rfl rfl lt lx (by omega) (Zh _) (by omega),?_,rfl,?_⟩
  ·rw[e1,<-hx];show[V.z (m-s) (sub (bv z) 0 (m-s)),V.z (m-s) (sub (bv b) 0 (m-s))]=_;rw[m8];rfl
  rw[jA (by omega)];have lq:(j8 (z.take (m-s)) (b.take (m-s))).length=m-s:=B0 lt lx;refine⟨by rw[e1];omega,by rw[e1];omega,by omega,by omega,?_⟩;have lw:(b.take (m-s)++z.drop (m-s)).length=s:=by rw[Zb,lx,Zf];omega
  refine⟨[],_,_,_,_,cw (n:=2) (ls:=[b.take (m-s),z.drop (m-s)]) (t:=b.take (m-s)++z.drop (m-s)) (by simp) ?_ rfl (by omega) (by omega),rfl,rfl,?_⟩
  ·rw[e1];show[V.z (m-s) (sub (bv b) 0 (m-s)),V.z (s-(m-s)) (sub (bv z) (0+(m-s)*1) (s-(m-s)))]=[V.z _ _,V.z _ _];rw[hx,lx,Zi,Ze,m8,M0 _ _ _ (by omega),Zf,lz]
  rw[lw];refine⟨[],_,_,_,_,h.dec lw (g8 lw),rfl,rfl,?_⟩;have lp:=h.len (back:=true) lw;generalize cF t key true (b.take (m-s)++z.drop (m-s))=p at*
  refine⟨[],_,_,_,_,kw (a:=p) (t:=d7) (g8 lp) rfl lp hl (by omega) (Zh _) (by omega),rfl,rfl,?_⟩;rw[jA (by omega)];have lp2:(j8 p d7).length=s:=B0 lp hl;have lr:(j8 p d7++j8 (z.take (m-s)) (b.take (m-s))).length=m:=by rw[Zb];omega
  refine⟨[],_,_,_,_,cw (n:=2) (ls:=[j8 p d7,j8 (z.take (m-s)) (b.take (m-s))]) (t:=j8 p d7++j8 (z.take (m-s)) (b.take (m-s))) (by simp) ?_ rfl (by omega) (by omega),rfl,rfl,?_⟩
  ·show[V.z s (sub (bv (j8 p d7)) 0 s),V.z (m-s) (sub (bv _) 0 (m-s))]=[V.z _ _,V.z _ _];rw[g8 lp2,g8 lq,lp2,lq]
  rw[lr];exact⟨_,rfl,[.d 64 0],rfl,⟨_,rfl,rfl⟩,tq⟩
 ·have lx:(b.drop s).length=m-s:=by simp only[Zg,Zf];omega
  have ly:(b.take s).length=s:=by simp only[Zg,Zf];omega
  have hx:sub (bv b) s (m-s)=bv (b.drop s):=y4 hb (by omega);have hy:sub (bv b) 0 s=bv (b.take s):=by
   exact m8 b 0 s
  have hres:bX (cF t key true) s true d7 b=cU (cF t key true) d7 (b.drop s) (b.take s):=by
   unfold bX;rw[if_pos rfl]
  have lz:=h.len (back:=true) ly;rw[hres,cU];rw[lx];refine Bf.c ?_;refine⟨[],_,_,_,_,h.size,rfl,rfl,?_⟩;refine⟨by rw[e1];omega,by rw[e1];omega,by rw[e1];omega,by rw[e1];omega,?_⟩;refine⟨by rw[e1];omega,by rw[e1];omega,by omega,by omega,?_⟩;refine⟨by omega,by omega,by omega,by omega,?_⟩;refine⟨by omega,by omega,by omega,by omega,?_⟩;refine⟨[],_,_,_,_,h.dec ly rfl,?_,rfl,?_⟩
  ·rw[<-hy];rfl
  generalize cF t key true (b.take s)=z at*
  have lt:(z.take (m-s)).length=m-s:=by rw[Zg];omega
  refine⟨by rw[e1];omega,by rw[e1];omega,by rw[e1];omega,by rw[e1];omega,?_⟩;refine⟨[],_,_,_,_,kw (a:=z.take (m-s)) (t:=b.drop s) rfl rfl lt lx (by omega) (Zh _) (by omega),?_,rfl,?_⟩
  ·rw[e1,<-hx];show[V.z (m-s) (sub (bv z) 0 (m-s)),V.z (m-s) (sub (bv b) s (m-s))]=_;rw[m8];rfl
  rw[jA (by omega)];have lq:(j8 (z.take (m-s)) (b.drop s)).length=m-s:=B0 lt lx;refine⟨by rw[e1];omega,by rw[e1];omega,by omega,by omega,?_⟩;have lw:(b.drop s++z.drop (m-s)).length=s:=by rw[Zb,lx,Zf];omega
  refine⟨[],_,_,_,_,cw (n:=2) (ls:=[b.drop s,z.drop (m-s)]) (t:=b.drop s++z.drop (m-s)) (by simp) ?_ rfl (by omega) (by omega),rfl,rfl,?_⟩
  ·rw[e1];show[V.z (m-s) (sub (bv b) s (m-s)),V.z (s-(m-s)) (sub (bv z) (0+(m-s)*1) (s-(m-s)))]=[V.z _ _,V.z _ _];rw[hx,lx,Zi,Ze,m8,M0 _ _ _ (by omega),Zf,lz]
  rw[lw];refine⟨[],_,_,_,_,h.dec lw (g8 lw),rfl,rfl,?_⟩;have lp:=h.len (back:=true) lw;generalize cF t key true (b.drop s++z.drop (m-s))=p at*
  refine⟨[],_,_,_,_,kw (a:=p) (t:=d7) (g8 lp) rfl lp hl (by omega) (Zh _) (by omega),rfl,rfl,?_⟩;rw[jA (by omega)];have lp2:(j8 p d7).length=s:=B0 lp hl;have lr:(j8 p d7++j8 (z.take (m-s)) (b.drop s)).length=m:=by rw[Zb];omega
  refine⟨[],_,_,_,_,cw (n:=2) (ls:=[j8 p d7,j8 (z.take (m-s)) (b.drop s)]) (t:=j8 p d7++j8 (z.take (m-s)) (b.drop s)) (by simp) ?_ rfl (by omega) (by omega),rfl,rfl,?_⟩
  ·show[V.z s (sub (bv (j8 p d7)) 0 s),V.z (m-s) (sub (bv _) 0 (m-s))]=[V.z _ _,V.z _ _];rw[g8 lp2,g8 lq,lp2,lq]
  rw[lr];exact⟨_,rfl,[.d 64 0],rfl,⟨_,rfl,rfl⟩,tq⟩
theorem zN {mode:Int} {w:Bool}:a9 C 176 [i64 mode,bool w] [] (.ret (.t [bool (decide (mode=9)||(decide (mode=8)&& !w)),bool (decide (7<=mode/\mode<=9))])) []:=by
 refine TW.c ?_;refine j5 (fun h=> ?_) (fun h=>j5 (fun h7=> ?_) (fun h7=>j5 (fun h8=> ?_) (fun h8=> ?_)))
 ·subst h;exact⟨_,rfl,[],rfl,tq⟩
 ·subst h7;exact⟨_,rfl,[],rfl,tq⟩
 ·subst h8;exact⟨_,rfl,[],rfl,tq⟩
 ·refine⟨_,rfl,[],?_,tq⟩;rw[decide_eq_false h,decide_eq_false h8,decide_eq_false (by omega)];rfl
theorem Lx {mode:Int} {w:Bool}:a9 C 75 [i64 mode,bool w] [] (.ret (bool (decide (mode=9)||(decide (mode=8)&& !w)))) []:=by
 refine Re.c ?_;refine j5 (fun h=> ?_) (fun h=>j5 (fun h8=> ?_) (fun h8=> ?_))
 ·subst h;exact⟨_,rfl,[],rfl,tq⟩
 ·subst h8;exact⟨_,rfl,[],rfl,tq⟩
 ·refine⟨_,rfl,[],?_,tq⟩;rw[decide_eq_false h,decide_eq_false h8];rfl
theorem Lr {n:Nat} {va:List Value} {rs:List V} {l:List Value} (h:a9 C 88 [.q rs 0,.z n va,bool false] [] (C0 n) [.sc l]):a9 C 74 [.q rs 0,.z n va] [] (.ret (.o 1 (.k 0) 0 n)) [.sc l]:=by
 refine Qy.c ?_;refine⟨[],_,_,_,_,h,rfl,rfl,?_⟩;exact⟨_,rfl,[.d 10 0],rfl,⟨_,rfl,rfl⟩,tq⟩
theorem Ls {n:Nat} {va:List Value} {rs:List V} {l:List Value} (h:a9 C 88 [.q rs 0,.z n va,bool true] [] (C0 n) [.sc l]):a9 C 73 [.q rs 0,.z n va] [] (.ret (.o 1 (.k 0) 0 n)) [.sc l]:=by
 refine QZ.c ?_;refine⟨[],_,_,_,_,h,rfl,rfl,?_⟩;exact⟨_,rfl,[.d 10 0],rfl,⟨_,rfl,rfl⟩,tq⟩
theorem k9.E {t key s k xs rs} (h:k9 t key s k xs rs) {b:Bs} {va:List Value} (hb:b.length=s) (ha:va=bv b):a9 C 74 [.q rs 0,.z s va] [] (.ret (.o 1 (.k 0) 0 s)) [.sc (bv (cF t key false b))]:=by subst ha;exact Lr (h.rblk hb)
theorem k9.Un {t key s k xs rs} (h:k9 t key s k xs rs) {b:Bs} {va:List Value} (hb:b.length=s) (ha:va=bv b):a9 C 73 [.q rs 0,.z s va] [] (.ret (.o 1 (.k 0) 0 s)) [.sc (bv (cF t key true b))]:=by subst ha;exact Ls (h.rblk hb)
theorem a0R (n:Nat) (mode:Int) (b:Bs) {m:Nat} (hb:b.length=m):(decide (mode=9)||(decide (mode=8)&& !((m:Int)==((2*n:Nat):Int))))=dK n mode b:=by
 unfold dK;rw[hb];congr 3;by_cases h:m=2*n
 ·rw[h];simp
 ·rw[decide_eq_false h];exact beq_false_of_ne (by omega)
theorem Ng {t key s k xs rs} (h:k9 t key s k xs rs) {m:Nat} {vl vb:List Value} {d7 b:Bs} {mode:Int} {back:Bool} (hvl:vl=bv d7) (hvb:vb=bv b) (hl:d7.length=s) (hb:b.length=m) (hm:7<=mode/\mode<=9) (h1:s<=m) (h2:m<=2*s):
  a9 C 116 [f7 t k xs,i64 mode,bool back,.z s vl,.z m vb] [] (C0 m) [.sc (bv (P2 (cF t key false) (cF t key true) s mode back d7 b))]:=by
 subst hvl;subst hvb;have hs:=h.s_le;have w2:I6.wrap (2*(s:Int))=((2*s:Nat):Int):=by rw[Za _ (by omega)];omega
 have hsw:=a0R s mode b hb;refine Be.c ?_;refine bd 0 rfl 1 (fun _=>⟨[(0,f7 t k xs),(2,bool back),(3,.z s (bv d7)),(4,.z m (bv b)),(12,i64 s),(13,bool (dK s mode b))],[]⟩) ?_ fun i hi=> ?_
 ·refine⟨[],_,_,_,_,h.size,rfl,rfl,?_⟩;refine⟨[],_,_,_,_,zN,rfl,rfl,?_⟩;rw[w2,hsw,decide_eq_true hm];refine n7 (fun h=>absurd rfl h) (fun _=> ?_);refine d9 (fun h=>absurd h (by omega)) (fun _=> ?_);refine d9 (fun h=>absurd h (by rw[w2];omega)) (fun _=> ?_);exact⟨[],0,by decide,[],⟨rfl,rfl,rfl,rfl,rfl,rfl,tq⟩,tq⟩
 refine m5 (fun _=>⟨[(0,f7 t k xs),(2,bool back),(3,.z s (bv d7)),(4,.z m (bv b)),(12,i64 s),(13,bool (dK s mode b))],[]⟩) 0 ⟨[],⟨rfl,rfl,rfl,rfl,rfl,rfl,tq⟩,tq⟩ fun j hj=> ?_;refine j5 (fun he=> ?_) (fun he=> ?_)
 ·obtain rfl:m=s:=(by omega);have lD:=h.len (back:=true) hb;have lX:=B0 hb hl;have lE:=h.len (back:=false) lX;cases back
  ·refine⟨[],_,_,_,_,M4 (a:=b) (b:=d7) rfl rfl hb hl (by omega),rfl,rfl,?_⟩;refine⟨[],_,_,_,_,h.enc lX (g8 lX),rfl,rfl,?_⟩;refine j5 (fun _=> ?_) (fun h=>absurd rfl h);refine⟨_,rfl,[.d 74 0],rfl,⟨_,rfl,g9 ?_⟩,tq⟩;rw[P2,if_pos hb,if_neg (by decide)]
  ·refine⟨[],_,_,_,_,h.dec hb rfl,rfl,rfl,?_⟩;refine⟨[],_,_,_,_,M4 (a:=cF t key true b) (b:=d7) (g8 lD) rfl lD hl (by omega),rfl,rfl,?_⟩;refine⟨_,rfl,[.d 61 0],rfl,⟨_,rfl,g9 ?_⟩,tq⟩;rw[P2,if_pos hb,if_pos rfl]
 ·have hne:¬b.length=s:=by omega
  refine j5 (fun h=>absurd h he) (fun _=> ?_);cases back
  ·refine⟨[],_,_,_,_,JI h rfl rfl hl hb (by omega) h2,rfl,rfl,?_⟩;refine⟨_,rfl,[.d 94 0],rfl,⟨_,rfl,g9 ?_⟩,tq⟩;rw[P2,if_neg hne,if_neg (by decide)]
  ·refine⟨[],_,_,_,_,HQ h rfl rfl hl hb (by omega) h2,rfl,rfl,?_⟩;refine⟨_,rfl,[.d 89 0],rfl,⟨_,rfl,g9 ?_⟩,tq⟩;rw[P2,if_neg hne,if_pos rfl]
abbrev OX (e:Int):Oc:= .ret (.t [i6,i64 e])
theorem Nh {t key s k xs rs} (h:k9 t key s k xs rs) {l m:Nat} {vl vb:List Value} {d7 b:Bs} {mode:Int} {back:Bool} (hl:d7.length=l) (hb:b.length=m) (hm:m<=1000000) (he:oD s mode d7 b≠0):
  a9 C 116 [f7 t k xs,i64 mode,bool back,.z l vl,.z m vb] [] (OX (oD s mode d7 b)) []:=by
 have hs:=h.s_le;have w2:I6.wrap (2*(s:Int))=((2*s:Nat):Int):=by rw[Za _ (by omega)];omega
 unfold oD at he ⊢;rw[hl,hb]at he ⊢;refine Be.c ?_;refine⟨0,Unit,fun _=>⟨[],[]⟩,fun _=>False,fun _=>0,?_,fun _ h=>h.elim⟩
 ·refine⟨[],_,_,_,_,h.size,rfl,rfl,?_⟩;refine⟨[],_,_,_,_,zN,rfl,rfl,?_⟩;by_cases h3:mode<7\/9<mode
  ·rw[if_pos h3,decide_eq_false (show ¬(7<=mode/\mode<=9) by omega)];exact⟨_,rfl,[],rfl,tq⟩
  ·rw[if_neg h3]at he ⊢;rw[decide_eq_true (show 7<=mode/\mode<=9 by omega)];refine n7 (fun h5=> ?_) (fun h5=> ?_)
   ·rw[if_pos (by omega)];exact⟨_,rfl,[],rfl,tq⟩
   ·rw[if_neg (by omega)]at he ⊢;refine d9 (fun h7=> ?_) (fun h7=> ?_)
    ·rw[if_pos (by omega)];refine d9 (fun _=> ?_) (fun h=>absurd h7 h);exact⟨_,rfl,[],rfl,tq⟩
    ·refine d9 (fun h7'=> ?_) (fun h7'=> ?_)
     ·rw[w2]at h7';rw[if_pos (by omega)];exact⟨_,rfl,[],rfl,tq⟩
     ·rw[w2]at h7';rw[if_neg (by omega)]at he;exact absurd rfl he
theorem Gi:∀(x:Bs),j8 (Zk x.length 0) x=x
 |[]=>rfl
 |a::x=>by
  have ih:=Gi x;unfold j8 at ih ⊢;rw[Z6,List.replicate_succ,Jb,ih,UInt8.zero_xor]
theorem a25 {b x:Bs} {n d:Nat} (hb:b.length=d) (hx:x.length=n) (hd:d<=n):j8 (b++Zk (n-d) 0) x=O2 x b:=by
 have e:x=x.take d++x.drop d:=(Z3 d x).symm;have l1:(x.take d).length=d:=by rw[Zg];omega
 have l2:(x.drop d).length=n-d:=by rw[Zf];omega
 have h:j8 (b++Zk (n-d) 0) (x.take d++x.drop d)=j8 b (x.take d)++j8 (Zk (n-d) 0) (x.drop d):=by
  unfold j8;exact List.zipWith_append (by rw[hb,l1])
 rw[<-e]at h;have hz:=Gi (x.drop d);rw[l2]at hz;have ht:=a26 x b (by omega);rw[hb]at ht;rw[h,hz,Gg b,ht,O2,hb]
set_option maxHeartbeats 2000000 in
theorem Ly {t key s k xs rs} (h:k9 t key s k xs rs) {m:Nat} {vl vb:List Value} {d7 b:Bs} {mode:Int} {back:Bool} (hvl:vl=bv d7) (hvb:vb=bv b) (hl:d7.length=s) (hb:b.length=m) (hm:7<=mode/\mode<=9) (h1:s<=m) (h2:m<=2*s):
  a9 C 19 [.q rs 0,i64 mode,bool back,.z s vl,.z m vb] [] (C0 m) [.sc (bv (P2 (cF t key false) (cF t key true) s mode back d7 b))]:=by
 subst hvl;subst hvb;have hs:=h.s_le;have w2:I6.wrap (2*(s:Int))=((2*s:Nat):Int):=by rw[Za _ (by omega)];omega
 have e1:I6.wrap ((m:Int)-(s:Int))=((m-s:Nat):Int):=by rw[Za _ (by omega)];omega
 refine Rd.c ?_;refine⟨[],_,_,_,_,h.rsize,rfl,rfl,?_⟩;refine d9 (fun h=>absurd h (by omega)) (fun _=> ?_);refine d9 (fun h=>absurd h (by omega)) (fun _=> ?_);refine n7 (fun h=>absurd rfl h) (fun _=> ?_);refine d9 (fun h=>absurd h (by omega)) (fun _=> ?_);refine d9 (fun h=>absurd h (by rw[w2];omega)) (fun _=> ?_);refine j5 (fun he=> ?_) (fun he=> ?_)
 ·obtain rfl:m=s:=(by omega);have lD:=h.len (back:=true) hb;have lX:=B0 hb hl;cases back
  ·refine⟨[],_,_,_,_,H4 (a:=b) (b:=d7) rfl rfl hb hl (by omega),rfl,rfl,?_⟩;refine⟨[],_,_,_,_,h.E lX (g8 lX),rfl,rfl,?_⟩;refine⟨_,rfl,[.d 64 0],rfl,⟨_,rfl,g9 ?_⟩,tq⟩;rw[P2,if_pos hb,if_neg (by decide)]
  ·refine⟨[],_,_,_,_,h.Un hb rfl,rfl,rfl,?_⟩;refine⟨[],_,_,_,_,H4 (a:=cF t key true b) (b:=d7) (g8 lD) rfl lD hl (by omega),rfl,rfl,?_⟩;refine⟨_,rfl,[.d 59 0],rfl,⟨_,rfl,g9 ?_⟩,tq⟩;rw[P2,if_pos hb,if_pos rfl]
 have hne:¬b.length=s:=by omega
 have hsw:(decide (mode=9)||(decide (mode=8)&& !(I6.wrap ((m:Int)-(s:Int))==(s:Int))))=dK s mode b:=by
  unfold dK;rw[e1,hb];congr 3;by_cases h:m=2*s
  ·rw[decide_eq_true h];exact beq_iff_eq.2 (by omega)
  ·rw[decide_eq_false h];exact beq_false_of_ne (by omega)
 refine⟨[],_,_,_,_,Lx,rfl,rfl,?_⟩;rw[hsw];have hT:P2 (cF t key false) (cF t key true) s mode back d7 b=if back then bX (cF t key true) s (dK s mode b) d7 b else gh (cF t key false) s (dK s mode b) d7 b:=by rw[P2,if_neg hne]
 rw[hT];generalize dK s mode b=swap;cases back
 ·have l1:(b.take s).length=s:=by rw[Zg];omega
  have l2:(b.drop s).length=m-s:=by rw[Zf,hb]
  have lx1:(j8 (b.take s) d7).length=s:=B0 l1 hl;have lX:=h.len (back:=false) lx1;have hres:gh (cF t key false) s swap d7 b=if swap then cF t key false (O2 (cF t key false (j8 (b.take s) d7)) (b.drop s))++(cF t key false (j8 (b.take s) d7)).take (m-s)else (cF t key false (j8 (b.take s) d7)).take (m-s)++cF t key false (O2 (cF t key false (j8 (b.take s) d7)) (b.drop s)):=by
   unfold gh;rw[hb]
  rw[if_neg (by decide),hres];refine⟨by omega,by omega,by omega,by omega,?_⟩;refine⟨[],_,_,_,_,H4 (va:=sub (bv b) 0 s) (a:=b.take s) (b:=d7) (m8 b 0 s) rfl l1 hl (by omega),rfl,rfl,?_⟩;refine⟨[],_,_,_,_,h.E lx1 (g8 lx1),rfl,rfl,?_⟩;have lp2:(O2 (cF t key false (j8 (b.take s) d7)) (b.drop s)).length=s:=by rw[ru (by omega),lX]
  have hfill:=a25 (x:=cF t key false (j8 (b.take s) d7)) l2 lX (by omega);generalize cF t key false (j8 (b.take s) d7)=x at*
  have e3:I6.wrap ((s:Int)-I6.wrap ((m:Int)-(s:Int)))=((s-(m-s):Nat):Int):=by rw[e1,Za _ (by omega)];omega
  refine⟨by omega,by omega,by omega,by omega,?_⟩;refine⟨by rw[Zd,y4 hb (by omega),i9,l2],by omega,by decide,?_⟩;refine⟨by rw[e3];omega,by rw[e3];omega,by rw[e3];omega,?_,_,rfl,?_⟩
  ·show 0+(0+(m-s))*1<=([]++sub (bv b) s (m-s):List Value).length;rw[Zl,y4 hb (by omega),i9,l2];omega
  have lq:(b.drop s++Zk (s-(m-s)) 0).length=s:=by rw[Zb,Jd,l2];omega
  refine⟨[],_,_,_,_,H4 (a:=b.drop s++Zk (s-(m-s)) 0) (b:=x) rfl rfl lq lX (by omega),?_,rfl,?_⟩
  ·rw[e3];show[V.z (0+(m-s)+(s-(m-s))) (sub (sub ([]++sub (bv b) s (m-s)) 0 ((0+(m-s))*1)++Zk (s-(m-s)) (Value.int .u8 0)) 0 (0+(m-s)+(s-(m-s)))),V.z s (sub (bv x) 0 s)]=_;rw[show 0+(m-s)+(s-(m-s))=s by omega,Zi,Ze,Zl,y4 hb (by omega),g8 l2,T5,A5,g8 lq,g8 lX]
  rw[hfill];refine⟨[],_,_,_,_,h.E lp2 (g8 lp2),rfl,rfl,?_⟩;have lY:=h.len (back:=false) lp2;generalize cF t key false (O2 x (b.drop s))=y at*
  have lt:(x.take (m-s)).length=m-s:=by rw[Zg];omega
  have ht:sub (bv x) 0 (m-s)=bv (x.take (m-s)):=m8 x 0 (m-s);cases swap
  ·rw[if_neg (by decide)];refine⟨by rw[e1];omega,by rw[e1];omega,by rw[e1];omega,by rw[e1];omega,?_⟩;refine⟨by rw[e1,i9,lX];show 0+0*1+(m-s)*1<=s;omega,by rw[e1];show 0+(m-s)<=_;omega,by decide,?_⟩;refine⟨by rw[i9,lY];omega,by rw[e1];show 0+(m-s)+s<=_;omega,?_,?_⟩
   ·rw[e1];show 0+(0+(m-s))*1<=([]++sub (bv x) (0+0*1) ((m-s)*1):List Value).length;rw[Zl,l4,i9,lX];omega
   rw[e1];refine⟨_,rfl,[.d 111 0],?_,⟨_,rfl,g9 ?_⟩,tq⟩
   ·show V.t [V.o 1 (.k 0) 0 (0+(m-s)+s),_]=_;rw[show 0+(m-s)+s=m by omega];rfl
   ·show sub ([]++sub (bv x) (0+0*1) ((m-s)*1)) 0 ((0+(m-s))*1)++sub (bv y) 0 (s*1)=_;simp only[Zl,Zi,Ze,Nat.zero_mul];rw[ht,g8 lt,g8 lY,A5]
  ·rw[if_pos rfl];refine⟨by rw[i9,lY];omega,by omega,by decide,?_⟩;refine⟨by rw[e1];omega,by rw[e1];omega,by rw[e1];omega,by rw[e1];omega,?_⟩;refine⟨by rw[e1,i9,lX];show 0+0*1+(m-s)*1<=s;omega,by rw[e1];show 0+s+(m-s)<=_;omega,?_,?_⟩
   ·show 0+(0+s)*1<=([]++sub (bv y) 0 (s*1):List Value).length;simp only[Zl,Ze,Zi];rw[g8 lY,i9,lY];exact Zh _
   rw[e1];refine⟨_,rfl,[.d 104 0],?_,⟨_,rfl,g9 ?_⟩,tq⟩
   ·show V.t [V.o 1 (.k 0) 0 (0+s+(m-s)),_]=_;rw[show 0+s+(m-s)=m by omega];rfl
   ·show sub ([]++sub (bv y) 0 (s*1)) 0 ((0+s)*1)++sub (bv x) (0+0*1) ((m-s)*1)=_;simp only[Zl,Zi,Ze,Nat.zero_mul];rw[g8 lY,g8 lY,ht,A5]
 ·rw[if_pos rfl];cases swap
  ·have lx:(b.take (m-s)).length=m-s:=by simp only[Zg,Zf];omega
   have ly:(b.drop (m-s)).length=s:=by simp only[Zg,Zf];omega
   have hx:sub (bv b) 0 (m-s)=bv (b.take (m-s)):=m8 b 0 (m-s);have hy:sub (bv b) (m-s) s=bv (b.drop (m-s)):=by
    rw[m8,M0 _ _ _ (by omega)]
   have hres:bX (cF t key true) s false d7 b=cU (cF t key true) d7 (b.take (m-s)) (b.drop (m-s)):=by
    unfold bX;rw[if_neg (by decide),hb]
   have lz:=h.len (back:=true) ly;rw[hres,cU];rw[lx];refine⟨by rw[e1];omega,by rw[e1];omega,by rw[e1];omega,by rw[e1];omega,?_⟩;refine⟨by rw[e1];omega,by rw[e1];omega,by omega,by omega,?_⟩;refine⟨[],_,_,_,_,h.Un ly rfl,?_,rfl,?_⟩
   ·rw[e1,<-hy];show[V.q rs 0,V.z (m-(m-s)) (sub (bv b) (m-s) (m-(m-s)))]=_;rw[show m-(m-s)=s by omega]
   generalize cF t key true (b.drop (m-s))=z at*
   have lt:(z.take (m-s)).length=m-s:=by rw[Zg];omega
   refine⟨by rw[e1];omega,by rw[e1];omega,by rw[e1];omega,by rw[e1];omega,?_⟩;refine⟨[],_,_,_,_,H4 (a:=z.take (m-s)) (b:=b.take (m-s)) rfl rfl lt lx (by omega),?_,rfl,?_⟩
   ·rw[e1,<-hx];show[V.z (m-s) (sub (bv z) 0 (m-s)),V.z (m-s) (sub (bv b) 0 (m-s))]=_;rw[m8];rfl
   have lq:(j8 (z.take (m-s)) (b.take (m-s))).length=m-s:=B0 lt lx;refine⟨?_,by rw[e1];omega,by decide,?_⟩
   ·rw[e1];show(sub (bv b) 0 (m-s)).length=m-s;rw[hx,i9,lx]
   refine⟨by rw[e1];omega,by rw[e1];omega,by omega,by omega,?_⟩;refine⟨?_,?_,?_,?_⟩
   ·rw[e1,i9,lz];show 0+(m-s)*1+(s-(m-s))*1<=s;omega
   ·rw[e1];show 0+(m-s)+(s-(m-s))<=_;omega
   ·rw[e1];show 0+(0+(m-s))*1<=([]++sub (bv b) 0 (m-s):List Value).length;rw[Zl,hx,i9,lx];omega
   have lw:(b.take (m-s)++z.drop (m-s)).length=s:=by rw[Zb,lx,Zf];omega
   refine⟨[],_,_,_,_,h.Un lw rfl,?_,rfl,?_⟩
   ·rw[e1];show[V.q rs 0,V.z (0+(m-s)+(s-(m-s))) (sub (sub ([]++sub (bv b) 0 (m-s)) 0 ((0+(m-s))*1)++sub (bv z) (0+(m-s)*1) ((s-(m-s))*1)) 0 (0+(m-s)+(s-(m-s))))]=_;rw[show 0+(m-s)+(s-(m-s))=s by omega,Zl,hx,Zi,Ze,Ze,Zi,g8 lx,m8,M0 z _ _ (by omega),A5,g8 lw]
   have lp:=h.len (back:=true) lw;generalize cF t key true (b.take (m-s)++z.drop (m-s))=p at*
   refine⟨[],_,_,_,_,H4 (a:=p) (b:=d7) (g8 lp) rfl lp hl (by omega),rfl,rfl,?_⟩;have lp2:(j8 p d7).length=s:=B0 lp hl;refine⟨?_,?_,?_,?_⟩
   ·rw[i9,lq];show 0+(m-s)*1<=m-s;omega
   ·show s+(m-s)<=_;omega
   ·rw[i9,lp2];omega
   rw[e1];refine⟨_,rfl,[.d 147 0],?_,⟨_,rfl,g9 ?_⟩,tq⟩
   ·show V.t [V.o 1 (.k 0) 0 (s+(m-s)),_]=_;rw[show s+(m-s)=m by omega];rfl
   ·show sub (bv (j8 p d7)) 0 (s*1)++sub (bv (j8 (z.take (m-s)) (b.take (m-s)))) 0 ((m-s)*1)=_;rw[Ze,Ze,g8 lp2,g8 lq,A5]
  ·have lx:(b.drop s).length=m-s:=by simp only[Zg,Zf];omega
   have ly:(b.take s).length=s:=by simp only[Zg,Zf];omega
   have hx:sub (bv b) s (m-s)=bv (b.drop s):=y4 hb (by omega);have hy:sub (bv b) 0 s=bv (b.take s):=by
    exact m8 b 0 s
   have hres:bX (cF t key true) s true d7 b=cU (cF t key true) d7 (b.drop s) (b.take s):=by
    unfold bX;rw[if_pos rfl]
   have lz:=h.len (back:=true) ly;rw[hres,cU];rw[lx];refine⟨by rw[e1];omega,by rw[e1];omega,by rw[e1];omega,by rw[e1];omega,?_⟩;refine⟨by rw[e1];omega,by rw[e1];omega,by omega,by omega,?_⟩;refine⟨by omega,by omega,by omega,by omega,?_⟩;refine⟨by omega,by omega,by omega,by omega,?_⟩;refine⟨[],_,_,_,_,h.Un ly rfl,?_,rfl,?_⟩
   ·rw[<-hy];rfl
   generalize cF t key true (b.take s)=z at*
   have lt:(z.take (m-s)).length=m-s:=by rw[Zg];omega
   refine⟨by rw[e1];omega,by rw[e1];omega,by rw[e1];omega,by rw[e1];omega,?_⟩;refine⟨[],_,_,_,_,H4 (a:=z.take (m-s)) (b:=b.drop s) rfl rfl lt lx (by omega),?_,rfl,?_⟩
   ·rw[e1,<-hx];show[V.z (m-s) (sub (bv z) 0 (m-s)),V.z (m-s) (sub (bv b) s (m-s))]=_;rw[m8];rfl
   have lq:(j8 (z.take (m-s)) (b.drop s)).length=m-s:=B0 lt lx;refine⟨?_,by omega,by decide,?_⟩
   ·
    show(sub (bv b) s (m-s)).length=m-s;rw[hx,i9,lx]
   refine⟨by rw[e1];omega,by rw[e1];omega,by omega,by omega,?_⟩;refine⟨?_,?_,?_,?_⟩
   ·rw[e1,i9,lz];show 0+(m-s)*1+(s-(m-s))*1<=s;omega
   ·rw[e1];show 0+(m-s)+(s-(m-s))<=_;omega
   ·
    show 0+(0+(m-s))*1<=([]++sub (bv b) s (m-s):List Value).length;rw[Zl,hx,i9,lx];omega
   have lw:(b.drop s++z.drop (m-s)).length=s:=by rw[Zb,lx,Zf];omega
   refine⟨[],_,_,_,_,h.Un lw rfl,?_,rfl,?_⟩
   ·rw[e1];show[V.q rs 0,V.z (0+(m-s)+(s-(m-s))) (sub (sub ([]++sub (bv b) s (m-s)) 0 ((0+(m-s))*1)++sub (bv z) (0+(m-s)*1) ((s-(m-s))*1)) 0 (0+(m-s)+(s-(m-s))))]=_;rw[show 0+(m-s)+(s-(m-s))=s by omega,Zl,hx,Zi,Ze,Ze,Zi,g8 lx,m8,M0 z _ _ (by omega),A5,g8 lw]
   have lp:=h.len (back:=true) lw;generalize cF t key true (b.drop s++z.drop (m-s))=p at*
   refine⟨[],_,_,_,_,H4 (a:=p) (b:=d7) (g8 lp) rfl lp hl (by omega),rfl,rfl,?_⟩;have lp2:(j8 p d7).length=s:=B0 lp hl;refine⟨?_,?_,?_,?_⟩
   ·rw[i9,lq];show 0+(m-s)*1<=m-s;omega
   ·show s+(m-s)<=_;omega
   ·rw[i9,lp2];omega
   rw[e1];refine⟨_,rfl,[.d 147 0],?_,⟨_,rfl,g9 ?_⟩,tq⟩
   ·show V.t [V.o 1 (.k 0) 0 (s+(m-s)),_]=_;rw[show s+(m-s)=m by omega];rfl
   ·show sub (bv (j8 p d7)) 0 (s*1)++sub (bv (j8 (z.take (m-s)) (b.drop s))) 0 ((m-s)*1)=_;rw[Ze,Ze,g8 lp2,g8 lq,A5]
theorem k9.stT_len {t key s k xs rs} (h:k9 t key s k xs rs) {m:Nat} {mode:Int} {back:Bool} {d7 b:Bs} (hl:d7.length=s) (hb:b.length=m) (h1:s<=m) (h2:m<=2*s):(P2 (cF t key false) (cF t key true) s mode back d7 b).length=m:=by
 subst hb;exact Go.Scr.stT_len h.ci hl h1 h2
theorem FT (a:UInt8):U8.wrap ((a.toNat:Int)+1)=((a+1).toNat:Int):=a2C a 1
theorem mJ (a:UInt8):((a.toNat:Int)=0)↔a=0:=by
 constructor
 ·intro h;refine Z9.1 ?_;have:(0:UInt8).toNat=0:=rfl;omega
 ·intro h;subst h;rfl
theorem BC {c:Bs} {i:Nat}:fG c (i+1)=if c.getD i 0+1=0 then fG (c.set i (c.getD i 0+1)) i else c.set i (c.getD i 0+1):=by
 rw[fG]
theorem JT {n:Nat} {va:List Value} {b:Bs} (ha:va=bv b) (hn:b.length=n) (hm:n<=1000):a9 C 230 [.z n va] [] (.ret (.o 1 (.k 0) 0 n)) [.sc (bv (W9 b))]:=by
 subst ha;refine Uh.c ?_;refine⟨0,Nat×Bs,fun x=>⟨[(3,.o 1 (.k 0) 0 n),(4,i64 x.1)],[.sc (bv x.2)]⟩,fun x=>x.1<=n/\x.2.length=n/\fG x.2 x.1=W9 b,fun x=>x.1,?_,fun x hx=> ?_⟩
 ·refine⟨by omega,by omega,by omega,?_⟩;refine⟨by rw[i9];omega,by omega,by decide,?_⟩;refine⟨[],(n,b),⟨Zh _,hn,by rw[<-hn];rfl⟩,[.d 9 0],⟨?_,?_,tq⟩,⟨_,rfl,g9 ?_⟩,tq⟩
  ·exact congrArg (V.o 1 (.k 0) 0) (by omega)
  ·exact f6 (by omega)
  ·rfl
 ·obtain⟨i,c⟩:=x;obtain⟨h1,h2,h3⟩:=hx;dsimp only at h1 h2 h3;refine d9 (fun h=> ?_) (fun h=> ?_)
  ·obtain⟨i,rfl⟩:∃j,i=j+1:=⟨i-1,by omega⟩;have e1:I6.wrap (((i+1:Nat):Int)-1)=(i:Int):=by rw[Za _ (by omega)];omega
   rw[BC]at h3;refine⟨by rw[e1];omega,by rw[e1];omega,.int .u8 ((c.getD i 0).toNat:Int),by rw[e1,Zd,Ze,Zi];exact p5 (show i<c.length by omega),?_⟩;refine⟨by rw[e1];omega,by rw[e1];omega,by rw[e1,Zd,i9];show 0+i*1<c.length;omega,?_⟩;have e2:(bv c).set (0+(I6.wrap (((i+1:Nat):Int)-1)).toNat*1) (.int .u8 (U8.wrap (((c.getD i 0).toNat:Int)+1)))=bv (c.set i (c.getD i 0+1)):=by
    rw[e1,Zd,Ze,Zi,FT,K6]
   have l2:(c.set i (c.getD i 0+1)).length=n:=by rw[Zs,h2]
   have g2:(c.set i (c.getD i 0+1)).getD i 0=c.getD i 0+1:=by
    rw[Zc,Jh,if_pos rfl,if_pos (by omega)];rfl
   refine⟨by rw[e1];omega,by rw[e1];omega,.int .u8 ((c.getD i 0+1).toNat:Int),?_,?_⟩
   ·show((bv c).set (0+(I6.wrap (((i+1:Nat):Int)-1)).toNat*1) (.int .u8 (U8.wrap (((c.getD i 0).toNat:Int)+1))))[0+(I6.wrap (((i+1:Nat):Int)-1)).toNat*1]? =_;rw[e2,e1,Zd,Ze,Zi,p5 (by omega),g2]
   refine j5 (fun hz=> ?_) (fun hz=> ?_)
   ·rw[if_pos ((mJ _).1 hz)]at h3;exact⟨rfl,(i,c.set i (c.getD i 0+1)),⟨by show i<=n;omega,l2,h3⟩,(by show i<i+1;omega),[.k 0],⟨rfl,f6 e1,tq⟩,⟨_,rfl,g9 e2⟩,tq⟩
   ·rw[if_neg (fun e=>hz ((mJ _).2 e))]at h3;refine⟨_,rfl,[.k 0],rfl,⟨_,rfl,g9 ?_⟩,tq⟩;rw[<-h3];exact e2
  ·obtain rfl:i=0:=(by omega);refine⟨_,rfl,[.k 0],rfl,⟨_,rfl,g9 ?_⟩,tq⟩;rw[<-h3];rfl
theorem pA {n:Nat} {va:List Value} {b:Bs} (ha:va=bv b) (hn:b.length=n) (hm:n<=1000):a9 C 124 [.z n va] [] (.ret (.o 1 (.k 0) 0 n)) [.sc (bv (W9 b))]:=by
 subst ha;refine Rj.c ?_;refine⟨by rw[i9];omega,by omega,by decide,?_⟩;refine⟨Nat×Bs,fun x=>⟨[(3,.o 1 (.k 0) 0 n),(4,i64 x.1)],[.sc (bv x.2)]⟩,fun x=>x.1<=n/\x.2.length=n/\fG x.2 x.1=W9 b,fun x=>x.1,?_,fun x hx=> ?_⟩
 ·refine⟨[],(n,b),⟨Zh _,hn,by rw[<-hn];rfl⟩,[.d 7 0],⟨?_,?_,tq⟩,⟨_,rfl,g9 ?_⟩,tq⟩
  ·exact congrArg (V.o 1 (.k 0) 0) (by omega)
  ·exact f6 (by omega)
  ·rfl
 ·obtain⟨i,c⟩:=x;obtain⟨h1,h2,h3⟩:=hx;dsimp only at h1 h2 h3;refine d9 (fun h=> ?_) (fun h=> ?_)
  ·obtain⟨i,rfl⟩:∃j,i=j+1:=⟨i-1,by omega⟩;have e1:I6.wrap (((i+1:Nat):Int)-1)=(i:Int):=by rw[Za _ (by omega)];omega
   rw[BC]at h3;refine⟨by rw[e1];omega,by rw[e1];omega,.int .u8 ((c.getD i 0).toNat:Int),by rw[e1,Zd,Ze,Zi];exact p5 (show i<c.length by omega),?_⟩;refine⟨by rw[e1];omega,by rw[e1];omega,by rw[e1,Zd,i9];show 0+i*1<c.length;omega,?_⟩;have e2:(bv c).set (0+(I6.wrap (((i+1:Nat):Int)-1)).toNat*1) (.int .u8 (U8.wrap (((c.getD i 0).toNat:Int)+1)))=bv (c.set i (c.getD i 0+1)):=by
    rw[e1,Zd,Ze,Zi,FT,K6]
   have l2:(c.set i (c.getD i 0+1)).length=n:=by rw[Zs,h2]
   have g2:(c.set i (c.getD i 0+1)).getD i 0=c.getD i 0+1:=by
    rw[Zc,Jh,if_pos rfl,if_pos (by omega)];rfl
   refine⟨by rw[e1];omega,by rw[e1];omega,.int .u8 ((c.getD i 0+1).toNat:Int),?_,?_⟩
   ·show((bv c).set (0+(I6.wrap (((i+1:Nat):Int)-1)).toNat*1) (.int .u8 (U8.wrap (((c.getD i 0).toNat:Int)+1))))[0+(I6.wrap (((i+1:Nat):Int)-1)).toNat*1]? =_;rw[e2,e1,Zd,Ze,Zi,p5 (by omega),g2]
   refine n7 (fun hz=> ?_) (fun hz=> ?_)
   ·rw[if_neg (fun e=>hz ((mJ _).2 e))]at h3;refine⟨_,rfl,[.k 0],rfl,⟨_,rfl,g9 ?_⟩,tq⟩;rw[<-h3];exact e2
   ·rw[if_pos ((mJ _).1 hz)]at h3;exact⟨(i,c.set i (c.getD i 0+1)),⟨by show i<=n;omega,l2,h3⟩,(by show i<i+1;omega),[.k 0],⟨rfl,f6 e1,tq⟩,⟨_,rfl,g9 e2⟩,tq⟩
  ·obtain rfl:i=0:=(by omega);refine⟨_,rfl,[.k 0],rfl,⟨_,rfl,g9 ?_⟩,tq⟩;rw[<-h3];rfl
theorem HP {t key s k xs rs} (h:k9 t key s k xs rs) {mode:Int} {back:Bool} {ch:Bs} {vc':List Value} {rv gv:V} (hv:vc'=bv ch) (hc:ch.length=s):
  a9 C 180 [.p (.k 0) 0] [.mx [f7 t k xs,i64 mode,bool back,.z s vc',rv,gv]] (.ret (.t [])) [.mx [f7 t k xs,i64 mode,bool back,.z s (bv (cK (cF t key false) mode ⟨ch,[],[]⟩).ch),.z s (bv (cF t key false ch)),i6]]:=by
 subst hv;have hs:=h.s_le;have lE:=h.len (back:=false) hc;refine Qn.c ?_;refine⟨_,rfl,?_⟩;refine⟨_,rfl,?_⟩;refine⟨[],_,_,_,_,h.enc hc rfl,rfl,rfl,?_⟩;refine⟨Zj rfl,?_⟩;refine⟨Zj rfl,?_⟩;refine⟨_,rfl,?_⟩;refine j5 (fun h5=> ?_) (fun h5=> ?_)
 ·subst h5;refine⟨_,rfl,?_⟩;refine⟨[],_,_,_,_,dV (l:=cF t key false ch) rfl lE (by omega) (by omega),?_,rfl,?_⟩
  ·show[V.z s (sub (bv (cF t key false ch)) 0 s)]=_;rw[g8 lE]
  refine⟨Zj rfl,?_⟩;refine⟨_,rfl,[.k 0],rfl,⟨_,rfl,?_⟩,tq⟩;show B.mx [f7 t k xs,i64 5,bool back,.z s (sub (bv (cF t key false ch)) 0 s),.z s (sub (bv (cF t key false ch)) 0 s),i6]=_;rw[g8 lE];rfl
 refine j5 (fun h6=> ?_) (fun h6=> ?_)
 ·subst h6;have lI:(W9 ch).length=s:=by rw[nS,hc]
  refine⟨_,rfl,?_⟩;refine⟨[],_,_,_,_,JT rfl hc (by omega),rfl,rfl,?_⟩;refine⟨Zj rfl,?_⟩;refine⟨_,rfl,[.k 0],rfl,⟨_,rfl,?_⟩,tq⟩;show B.mx [f7 t k xs,i64 6,bool back,.z s (sub (bv (W9 ch)) 0 s),.z s (sub (bv (cF t key false ch)) 0 s),i6]=_;rw[g8 lE,g8 lI];rfl
 ·refine⟨_,rfl,[.k 0],rfl,⟨_,rfl,?_⟩,tq⟩;show B.mx [f7 t k xs,i64 mode,bool back,.z s (bv ch),.z s (sub (bv (cF t key false ch)) 0 s),i6]=_;rw[g8 lE];unfold cK;rw[if_neg h5,if_neg h6]
abbrev y3 (p:UInt8):V:= .s (.int .u8 p.toNat)
def dw:Bs->Bs->Nat->V
 |[],_,_=> .u
 |_::_,g,i=> .o 1 (.k i) 0 g.length
def j6:Bs->Bs->B
 |[],_=> .dead
 |_::_,g=> .sc (bv g)
def j4 (cv:V) (mode:Int) (back:Bool) (m:MS) (i:Nat):B:= .mx [cv,i64 mode,bool back,.z m.ch.length (bv m.ch),.z m.row.length (bv m.row),dw m.row m.gone i]
theorem eI {row g:Bs} {i:Nat} (h:0<row.length):dw row g i= .o 1 (.k i) 0 g.length:=by
 cases row with
 |nil=>simp at h
 |cons a b=>rfl
theorem cD {row g:Bs} (h:0<row.length):j6 row g= .sc (bv g):=by
 cases row with
 |nil=>simp at h
 |cons a b=>rfl
theorem bo {l:Bs} {m:Nat} {x:Int} {y:UInt8} (hl:l.length=m) (hx:x=(y.toNat:Int)):sub (bv l) 0 (m*1)++sub [Value.int .u8 x] 0 (1*1)=bv (l++[y]):=by
 subst hx;rw[Ze,g8 hl];show bv l++bv [y]=_;rw[A5]
theorem T2 {l:Bs} {m:Nat} {x:Int} {y:UInt8} (hl:l.length=m) (hx:x=(y.toNat:Int)):sub (sub (bv l) 0 (m*1)++sub [Value.int .u8 x] 0 (1*1)) 0 (m+1)=bv (l++[y]):=by
 rw[bo hl hx];exact g8 (by rw[Zb,hl];rfl)
theorem V6 {x:Int} {y:UInt8} (hx:x=(y.toNat:Int)):sub ([]:List Value) 0 (0*1)++sub [Value.int .u8 x] 0 (1*1)=bv ([]++[y]):=by
 subst hx;rfl
theorem ik {x:Int} {y:UInt8} (hx:x=(y.toNat:Int)):sub (sub ([]:List Value) 0 (0*1)++sub [Value.int .u8 x] 0 (1*1)) 0 (0+1)=bv ([]++[y]):=by
 subst hx;rfl
theorem oa {back:Bool} {ch row g:Bs} {p:UInt8}:K7 3 back ⟨ch,row,g⟩ p=(p^^^row.getD 0 0,⟨ch.drop 1++[m9 back p (p^^^row.getD 0 0)],[],g++[m9 back p (p^^^row.getD 0 0)]⟩):=by
 unfold K7;dsimp only;rw[if_pos rfl]
theorem oe {back:Bool} {ch row g:Bs} {p:UInt8} (h:row.length=1):K7 4 back ⟨ch,row,g⟩ p=(p^^^row.getD 0 0,⟨g++[m9 back p (p^^^row.getD 0 0)],[],g++[m9 back p (p^^^row.getD 0 0)]⟩):=by
 unfold K7;dsimp only;rw[if_neg (by decide),if_pos rfl,if_pos h]
theorem dC {mode:Int} {back:Bool} {ch row g:Bs} {p:UInt8} (h3:mode≠3) (h4:¬(mode=4/\row.length=1)):K7 mode back ⟨ch,row,g⟩ p=(p^^^row.getD 0 0,⟨ch,row.drop 1,g++[m9 back p (p^^^row.getD 0 0)]⟩):=by
 unfold K7;dsimp only;rw[if_neg h3];by_cases h:mode=4
 ·rw[if_pos h,if_neg (fun e=>h4 ⟨h,e⟩)]
 ·rw[if_neg h]
theorem Ia {ct:Int} {cq:Nat} {cx:List V} {mode:Int} {back:Bool} {ch g row:Bs} {p:UInt8} (hc0:2<=ch.length) (hc:ch.length<=1000) (h0:0<row.length) (hr:row.length<=1000) (hg:g.length<=1000):
  a9 C 121 [.p (.k 0) 0,y3 p] [j4 (f7 ct cq cx) mode back ⟨ch,row,g⟩ 1,j6 row g] (.ret (y3 (K7 mode back ⟨ch,row,g⟩ p).1)) [j4 (f7 ct cq cx) mode back (K7 mode back ⟨ch,row,g⟩ p).2 2,.dead,j6 (K7 mode back ⟨ch,row,g⟩ p).2.row (K7 mode back ⟨ch,row,g⟩ p).2.gone]:=by
 obtain⟨c,hcl⟩:∃c,ch.length=c:=⟨_,rfl⟩;obtain⟨r,hrl⟩:∃r,row.length=r:=⟨_,rfl⟩;obtain⟨j,hgl⟩:∃j,g.length=j:=⟨_,rfl⟩;have hX:j4 (f7 ct cq cx) mode back ⟨ch,row,g⟩ 1= .mx [f7 ct cq cx,i64 mode,bool back,.z c (bv ch),.z r (bv row),.o 1 (.k 1) 0 j]:=by
  unfold j4;rw[eI h0,<-hcl,<-hrl,<-hgl]
 rw[hX,cD h0];refine AL.w ?_;refine⟨_,rfl,?_⟩;refine j5 (fun h=>absurd h (by omega)) (fun _=> ?_);refine⟨_,rfl,?_⟩;refine⟨by omega,by omega,_,p5 (k:=row) (i:=0) (by omega),?_⟩;refine⟨_,rfl,?_⟩;refine⟨by omega,by omega,by omega,by omega,?_⟩;refine⟨Zj rfl,?_⟩;refine⟨_,rfl,?_⟩;cases back
 ·refine⟨_,rfl,?_⟩;refine⟨Zh _,by omega,by rw[i9,hgl];omega,?_⟩;refine⟨Zj rfl,?_⟩;refine⟨_,rfl,?_⟩;refine j5 (fun h3=> ?_) (fun h3=> ?_)
  ·subst h3;rw[oa];have ld:(ch.drop 1).length=c-1:=by rw[Zf,hcl]
   have lc:(ch.drop 1++[m9 false p (p^^^row.getD 0 0)]).length=c:=by rw[Zb,ld];show c-1+1=c;omega
   refine⟨_,rfl,?_⟩;refine⟨by omega,by omega,by omega,by omega,?_⟩;refine⟨[],_,_,_,_,dV (n:=c-1) (va:=sub (bv ch) 1 (c-1)) (l:=ch.drop 1) (y4 hcl (by omega)) ld (by omega) (by omega),rfl,rfl,?_⟩;refine⟨Zh _,by omega,by rw[i9,ld];omega,?_⟩;refine⟨Zj rfl,?_⟩;refine⟨Zj rfl,?_⟩;refine⟨.ret (y3 (p^^^row.getD 0 0)),[.mx [f7 ct cq cx,i64 3,bool false,.z c (bv (ch.drop 1++[m9 false p (p^^^row.getD 0 0)])),i6,.z (j+1) (bv (g++[m9 false p (p^^^row.getD 0 0)]))],.dead],⟨_,rfl,[.k 0,.k 1],?_,⟨_,rfl,?_⟩,?_⟩,?_⟩
   ·show V.s (.int .u8 (U8.wrap _))=_;rw[n5]
   ·show B.mx [f7 ct cq cx,i64 3,bool false,.z (c-1+1) (sub (sub (bv (ch.drop 1)) 0 ((c-1)*1)++sub [Value.int .u8 _] 0 (1*1)) 0 (c-1+1)),i6,.z (j+1) (sub (sub (bv g) 0 (j*1)++sub [Value.int .u8 _] 0 (1*1)) 0 (j+1))]=_;rw[T2 ld (n5 _ _),T2 hgl (n5 _ _),show c-1+1=c by omega];rfl
   ·exact⟨⟨_,rfl,rfl⟩,tq⟩
   ·refine⟨.ret (.refl _),.cons (.mx (.cons (.refl _) (.cons (.refl _) (.cons (.refl _) (.cons ?_ (.cons .nl (.cons .u .nil))))))) (.cons (.refl _) (.dd .nil))⟩;show Wk _ (.z (ch.drop 1++[m9 false p (p^^^row.getD 0 0)]).length _);rw[lc];exact .refl _
  refine j5 (fun h4=> ?_) (fun h4=> ?_)
  ·subst h4;refine⟨_,rfl,?_⟩;refine j5 (fun hr1=> ?_) (fun hr1=> ?_)
   ·have hr1:r=1:=by have:=(rfl:Int.toNat 1=1);omega
    have lG:(g++[m9 false p (p^^^row.getD 0 0)]).length=j+1:=by rw[Zb,hgl];rfl
    rw[oe (by omega)];refine⟨_,rfl,?_⟩;refine⟨Zj rfl,?_⟩;refine⟨.ret (y3 (p^^^row.getD 0 0)),[.mx [f7 ct cq cx,i64 4,bool false,.z (j+1) (bv (g++[m9 false p (p^^^row.getD 0 0)])),.z (r-1) (bv (row.drop 1)),.z (j+1) (bv (g++[m9 false p (p^^^row.getD 0 0)]))],.dead],⟨_,rfl,[.k 0,.k 1],?_,⟨_,rfl,?_⟩,?_⟩,?_⟩
    ·show V.s (.int .u8 (U8.wrap _))=_;rw[n5]
    ·show B.mx [f7 ct cq cx,i64 4,bool false,.z (j+1) (sub (sub (bv g) 0 (j*1)++sub [Value.int .u8 _] 0 (1*1)) 0 (j+1)),.z (r-1) (sub (bv row) 1 (r-1)),.z (j+1) (sub (sub (bv g) 0 (j*1)++sub [Value.int .u8 _] 0 (1*1)) 0 (j+1))]=_;rw[T2 hgl (n5 _ _),y4 hrl (by omega)];rfl
    ·exact⟨⟨_,rfl,rfl⟩,tq⟩
    ·refine⟨.ret (.refl _),.cons (.mx (.cons (.refl _) (.cons (.refl _) (.cons (.refl _) (.cons ?_ (.cons ?_ (.cons .u .nil))))))) (.cons (.refl _) (.dd .nil))⟩
     ·show Wk _ (.z (g++[m9 false p (p^^^row.getD 0 0)]).length _);rw[lG];exact .refl _
     ·rw[show r-1=0 by omega];exact .z0
   ·have hr2:r≠1:=by have:=(rfl:Int.toNat 1=1);omega
    have lr:(row.drop 1).length=r-1:=by rw[Zf,hrl]
    rw[dC (by decide) (fun e=>hr2 (by omega))];by_cases hr1:r=1
    ·have e0:row.drop 1=[]:=Zz.1 (by omega);rw[e0];refine⟨.ret (y3 (p^^^row.getD 0 0)),[.mx [f7 ct cq cx,i64 4,bool false,.z c (bv ch),.z (r-1) (bv (row.drop 1)),.z (j+1) (bv (g++[m9 false p (p^^^row.getD 0 0)]))],.dead],⟨_,rfl,[.k 0,.k 1],?_,⟨_,rfl,?_⟩,?_⟩,?_⟩
     ·show V.s (.int .u8 (U8.wrap _))=_;rw[n5]
     ·show B.mx [f7 ct cq cx,i64 4,bool false,.z c (bv ch),.z (r-1) (sub (bv row) 1 (r-1)),.z (j+1) (sub (sub (bv g) 0 (j*1)++sub [Value.int .u8 _] 0 (1*1)) 0 (j+1))]=_;rw[T2 hgl (n5 _ _),y4 hrl (by omega)];rfl
     ·exact⟨⟨_,rfl,rfl⟩,tq⟩
     ·refine⟨.ret (.refl _),.cons (.mx (.cons (.refl _) (.cons (.refl _) (.cons (.refl _) (.cons ?_ (.cons ?_ (.cons .u .nil))))))) (.cons (.refl _) (.dd .nil))⟩
      ·show Wk _ (.z ch.length _);rw[hcl];exact .refl _
      ·rw[show r-1=0 by omega];exact .z0
    ·rw[cD (row:=row.drop 1) (by omega)];refine⟨.ret (y3 (p^^^row.getD 0 0)),[.mx [f7 ct cq cx,i64 4,bool false,.z c (bv ch),.z (r-1) (bv (row.drop 1)),.o 1 (.k 2) 0 (j+1)],.dead,.sc (bv (g++[m9 false p (p^^^row.getD 0 0)]))],⟨_,rfl,[.k 0,.k 1,.d 44 0],?_,⟨_,rfl,?_⟩,⟨_,rfl,rfl⟩,⟨_,rfl,g9 ?_⟩,tq⟩,?_⟩
     ·show V.s (.int .u8 (U8.wrap _))=_;rw[n5]
     ·show B.mx [f7 ct cq cx,i64 4,bool false,.z c (bv ch),.z (r-1) (sub (bv row) 1 (r-1)),.o 1 (.k 2) 0 (j+1)]=_;rw[y4 hrl (by omega)]
     ·exact bo hgl (n5 _ _)
     ·refine⟨.ret (.refl _),.cons (.mx (.cons (.refl _) (.cons (.refl _) (.cons (.refl _) (.cons ?_ (.cons ?_ (.cons ?_ .nil))))))) (.cons (.refl _) (.cons (.refl _) .nil))⟩
      ·show Wk _ (.z ch.length _);rw[hcl];exact .refl _
      ·show Wk _ (.z (row.drop 1).length _);rw[lr];exact .refl _
      ·show Wk _ (dw (row.drop 1) (g++[m9 false p (p^^^row.getD 0 0)]) 2);rw[eI (row:=row.drop 1) (by omega),Zb,hgl];exact .refl _
  ·have lr:(row.drop 1).length=r-1:=by rw[Zf,hrl]
   rw[dC h3 (fun e=>h4 e.1)];by_cases hr1:r=1
   ·have e0:row.drop 1=[]:=Zz.1 (by omega);rw[e0];refine⟨.ret (y3 (p^^^row.getD 0 0)),[.mx [f7 ct cq cx,i64 mode,bool false,.z c (bv ch),.z (r-1) (bv (row.drop 1)),.z (j+1) (bv (g++[m9 false p (p^^^row.getD 0 0)]))],.dead],⟨_,rfl,[.k 0,.k 1],?_,⟨_,rfl,?_⟩,?_⟩,?_⟩
    ·show V.s (.int .u8 (U8.wrap _))=_;rw[n5]
    ·show B.mx [f7 ct cq cx,i64 mode,bool false,.z c (bv ch),.z (r-1) (sub (bv row) 1 (r-1)),.z (j+1) (sub (sub (bv g) 0 (j*1)++sub [Value.int .u8 _] 0 (1*1)) 0 (j+1))]=_;rw[T2 hgl (n5 _ _),y4 hrl (by omega)];rfl
    ·exact⟨⟨_,rfl,rfl⟩,tq⟩
    ·refine⟨.ret (.refl _),.cons (.mx (.cons (.refl _) (.cons (.refl _) (.cons (.refl _) (.cons ?_ (.cons ?_ (.cons .u .nil))))))) (.cons (.refl _) (.dd .nil))⟩
     ·show Wk _ (.z ch.length _);rw[hcl];exact .refl _
     ·rw[show r-1=0 by omega];exact .z0
   ·rw[cD (row:=row.drop 1) (by omega)];refine⟨.ret (y3 (p^^^row.getD 0 0)),[.mx [f7 ct cq cx,i64 mode,bool false,.z c (bv ch),.z (r-1) (bv (row.drop 1)),.o 1 (.k 2) 0 (j+1)],.dead,.sc (bv (g++[m9 false p (p^^^row.getD 0 0)]))],⟨_,rfl,[.k 0,.k 1,.d 44 0],?_,⟨_,rfl,?_⟩,⟨_,rfl,rfl⟩,⟨_,rfl,g9 ?_⟩,tq⟩,?_⟩
    ·show V.s (.int .u8 (U8.wrap _))=_;rw[n5]
    ·show B.mx [f7 ct cq cx,i64 mode,bool false,.z c (bv ch),.z (r-1) (sub (bv row) 1 (r-1)),.o 1 (.k 2) 0 (j+1)]=_;rw[y4 hrl (by omega)]
    ·exact bo hgl (n5 _ _)
    ·refine⟨.ret (.refl _),.cons (.mx (.cons (.refl _) (.cons (.refl _) (.cons (.refl _) (.cons ?_ (.cons ?_ (.cons ?_ .nil))))))) (.cons (.refl _) (.cons (.refl _) .nil))⟩
     ·show Wk _ (.z ch.length _);rw[hcl];exact .refl _
     ·show Wk _ (.z (row.drop 1).length _);rw[lr];exact .refl _
     ·show Wk _ (dw (row.drop 1) (g++[m9 false p (p^^^row.getD 0 0)]) 2);rw[eI (row:=row.drop 1) (by omega),Zb,hgl];exact .refl _
 ·refine⟨_,rfl,?_⟩;refine⟨Zh _,by omega,by rw[i9,hgl];omega,?_⟩;refine⟨Zj rfl,?_⟩;refine⟨_,rfl,?_⟩;refine j5 (fun h3=> ?_) (fun h3=> ?_)
  ·subst h3;rw[oa];have ld:(ch.drop 1).length=c-1:=by rw[Zf,hcl]
   have lc:(ch.drop 1++[m9 true p (p^^^row.getD 0 0)]).length=c:=by rw[Zb,ld];show c-1+1=c;omega
   refine⟨_,rfl,?_⟩;refine⟨by omega,by omega,by omega,by omega,?_⟩;refine⟨[],_,_,_,_,dV (n:=c-1) (va:=sub (bv ch) 1 (c-1)) (l:=ch.drop 1) (y4 hcl (by omega)) ld (by omega) (by omega),rfl,rfl,?_⟩;refine⟨Zh _,by omega,by rw[i9,ld];omega,?_⟩;refine⟨Zj rfl,?_⟩;refine⟨Zj rfl,?_⟩;refine⟨.ret (y3 (p^^^row.getD 0 0)),[.mx [f7 ct cq cx,i64 3,bool true,.z c (bv (ch.drop 1++[m9 true p (p^^^row.getD 0 0)])),i6,.z (j+1) (bv (g++[m9 true p (p^^^row.getD 0 0)]))],.dead],⟨_,rfl,[.k 0,.k 1],?_,⟨_,rfl,?_⟩,?_⟩,?_⟩
   ·show V.s (.int .u8 (U8.wrap _))=_;rw[n5]
   ·show B.mx [f7 ct cq cx,i64 3,bool true,.z (c-1+1) (sub (sub (bv (ch.drop 1)) 0 ((c-1)*1)++sub [Value.int .u8 _] 0 (1*1)) 0 (c-1+1)),i6,.z (j+1) (sub (sub (bv g) 0 (j*1)++sub [Value.int .u8 _] 0 (1*1)) 0 (j+1))]=_;rw[T2 ld rfl,T2 hgl rfl,show c-1+1=c by omega];rfl
   ·exact⟨⟨_,rfl,rfl⟩,tq⟩
   ·refine⟨.ret (.refl _),.cons (.mx (.cons (.refl _) (.cons (.refl _) (.cons (.refl _) (.cons ?_ (.cons .nl (.cons .u .nil))))))) (.cons (.refl _) (.dd .nil))⟩;show Wk _ (.z (ch.drop 1++[m9 true p (p^^^row.getD 0 0)]).length _);rw[lc];exact .refl _
  refine j5 (fun h4=> ?_) (fun h4=> ?_)
  ·subst h4;refine⟨_,rfl,?_⟩;refine j5 (fun hr1=> ?_) (fun hr1=> ?_)
   ·have hr1:r=1:=by have:=(rfl:Int.toNat 1=1);omega
    have lG:(g++[m9 true p (p^^^row.getD 0 0)]).length=j+1:=by rw[Zb,hgl];rfl
    rw[oe (by omega)];refine⟨_,rfl,?_⟩;refine⟨Zj rfl,?_⟩;refine⟨.ret (y3 (p^^^row.getD 0 0)),[.mx [f7 ct cq cx,i64 4,bool true,.z (j+1) (bv (g++[m9 true p (p^^^row.getD 0 0)])),.z (r-1) (bv (row.drop 1)),.z (j+1) (bv (g++[m9 true p (p^^^row.getD 0 0)]))],.dead],⟨_,rfl,[.k 0,.k 1],?_,⟨_,rfl,?_⟩,?_⟩,?_⟩
    ·show V.s (.int .u8 (U8.wrap _))=_;rw[n5]
    ·show B.mx [f7 ct cq cx,i64 4,bool true,.z (j+1) (sub (sub (bv g) 0 (j*1)++sub [Value.int .u8 _] 0 (1*1)) 0 (j+1)),.z (r-1) (sub (bv row) 1 (r-1)),.z (j+1) (sub (sub (bv g) 0 (j*1)++sub [Value.int .u8 _] 0 (1*1)) 0 (j+1))]=_;rw[T2 hgl rfl,y4 hrl (by omega)];rfl
    ·exact⟨⟨_,rfl,rfl⟩,tq⟩
    ·refine⟨.ret (.refl _),.cons (.mx (.cons (.refl _) (.cons (.refl _) (.cons (.refl _) (.cons ?_ (.cons ?_ (.cons .u .nil))))))) (.cons (.refl _) (.dd .nil))⟩
     ·show Wk _ (.z (g++[m9 true p (p^^^row.getD 0 0)]).length _);rw[lG];exact .refl _
     ·rw[show r-1=0 by omega];exact .z0
   ·have hr2:r≠1:=by have:=(rfl:Int.toNat 1=1);omega
    have lr:(row.drop 1).length=r-1:=by rw[Zf,hrl]
    rw[dC (by decide) (fun e=>hr2 (by omega))];by_cases hr1:r=1
    ·have e0:row.drop 1=[]:=Zz.1 (by omega);rw[e0];refine⟨.ret (y3 (p^^^row.getD 0 0)),[.mx [f7 ct cq cx,i64 4,bool true,.z c (bv ch),.z (r-1) (bv (row.drop 1)),.z (j+1) (bv (g++[m9 true p (p^^^row.getD 0 0)]))],.dead],⟨_,rfl,[.k 0,.k 1],?_,⟨_,rfl,?_⟩,?_⟩,?_⟩
     ·show V.s (.int .u8 (U8.wrap _))=_;rw[n5]
     ·show B.mx [f7 ct cq cx,i64 4,bool true,.z c (bv ch),.z (r-1) (sub (bv row) 1 (r-1)),.z (j+1) (sub (sub (bv g) 0 (j*1)++sub [Value.int .u8 _] 0 (1*1)) 0 (j+1))]=_;rw[T2 hgl rfl,y4 hrl (by omega)];rfl
     ·exact⟨⟨_,rfl,rfl⟩,tq⟩
     ·refine⟨.ret (.refl _),.cons (.mx (.cons (.refl _) (.cons (.refl _) (.cons (.refl _) (.cons ?_ (.cons ?_ (.cons .u .nil))))))) (.cons (.refl _) (.dd .nil))⟩
      ·show Wk _ (.z ch.length _);rw[hcl];exact .refl _
      ·rw[show r-1=0 by omega];exact .z0
    ·rw[cD (row:=row.drop 1) (by omega)];refine⟨.ret (y3 (p^^^row.getD 0 0)),[.mx [f7 ct cq cx,i64 4,bool true,.z c (bv ch),.z (r-1) (bv (row.drop 1)),.o 1 (.k 2) 0 (j+1)],.dead,.sc (bv (g++[m9 true p (p^^^row.getD 0 0)]))],⟨_,rfl,[.k 0,.k 1,.d 44 0],?_,⟨_,rfl,?_⟩,⟨_,rfl,rfl⟩,⟨_,rfl,g9 ?_⟩,tq⟩,?_⟩
     ·show V.s (.int .u8 (U8.wrap _))=_;rw[n5]
     ·show B.mx [f7 ct cq cx,i64 4,bool true,.z c (bv ch),.z (r-1) (sub (bv row) 1 (r-1)),.o 1 (.k 2) 0 (j+1)]=_;rw[y4 hrl (by omega)]
     ·exact bo hgl rfl
     ·refine⟨.ret (.refl _),.cons (.mx (.cons (.refl _) (.cons (.refl _) (.cons (.refl _) (.cons ?_ (.cons ?_ (.cons ?_ .nil))))))) (.cons (.refl _) (.cons (.refl _) .nil))⟩
      ·show Wk _ (.z ch.length _);rw[hcl];exact .refl _
      ·show Wk _ (.z (row.drop 1).length _);rw[lr];exact .refl _
      ·show Wk _ (dw (row.drop 1) (g++[m9 true p (p^^^row.getD 0 0)]) 2);rw[eI (row:=row.drop 1) (by omega),Zb,hgl];exact .refl _
  ·have lr:(row.drop 1).length=r-1:=by rw[Zf,hrl]
   rw[dC h3 (fun e=>h4 e.1)];by_cases hr1:r=1
   ·have e0:row.drop 1=[]:=Zz.1 (by omega);rw[e0];refine⟨.ret (y3 (p^^^row.getD 0 0)),[.mx [f7 ct cq cx,i64 mode,bool true,.z c (bv ch),.z (r-1) (bv (row.drop 1)),.z (j+1) (bv (g++[m9 true p (p^^^row.getD 0 0)]))],.dead],⟨_,rfl,[.k 0,.k 1],?_,⟨_,rfl,?_⟩,?_⟩,?_⟩
    ·show V.s (.int .u8 (U8.wrap _))=_;rw[n5]
    ·show B.mx [f7 ct cq cx,i64 mode,bool true,.z c (bv ch),.z (r-1) (sub (bv row) 1 (r-1)),.z (j+1) (sub (sub (bv g) 0 (j*1)++sub [Value.int .u8 _] 0 (1*1)) 0 (j+1))]=_;rw[T2 hgl rfl,y4 hrl (by omega)];rfl
    ·exact⟨⟨_,rfl,rfl⟩,tq⟩
    ·refine⟨.ret (.refl _),.cons (.mx (.cons (.refl _) (.cons (.refl _) (.cons (.refl _) (.cons ?_ (.cons ?_ (.cons .u .nil))))))) (.cons (.refl _) (.dd .nil))⟩
     ·show Wk _ (.z ch.length _);rw[hcl];exact .refl _
     ·rw[show r-1=0 by omega];exact .z0
   ·rw[cD (row:=row.drop 1) (by omega)];refine⟨.ret (y3 (p^^^row.getD 0 0)),[.mx [f7 ct cq cx,i64 mode,bool true,.z c (bv ch),.z (r-1) (bv (row.drop 1)),.o 1 (.k 2) 0 (j+1)],.dead,.sc (bv (g++[m9 true p (p^^^row.getD 0 0)]))],⟨_,rfl,[.k 0,.k 1,.d 44 0],?_,⟨_,rfl,?_⟩,⟨_,rfl,rfl⟩,⟨_,rfl,g9 ?_⟩,tq⟩,?_⟩
    ·show V.s (.int .u8 (U8.wrap _))=_;rw[n5]
    ·show B.mx [f7 ct cq cx,i64 mode,bool true,.z c (bv ch),.z (r-1) (sub (bv row) 1 (r-1)),.o 1 (.k 2) 0 (j+1)]=_;rw[y4 hrl (by omega)]
    ·exact bo hgl rfl
    ·refine⟨.ret (.refl _),.cons (.mx (.cons (.refl _) (.cons (.refl _) (.cons (.refl _) (.cons ?_ (.cons ?_ (.cons ?_ .nil))))))) (.cons (.refl _) (.cons (.refl _) .nil))⟩
     ·show Wk _ (.z ch.length _);rw[hcl];exact .refl _
     ·show Wk _ (.z (row.drop 1).length _);rw[lr];exact .refl _
     ·show Wk _ (dw (row.drop 1) (g++[m9 true p (p^^^row.getD 0 0)]) 2);rw[eI (row:=row.drop 1) (by omega),Zb,hgl];exact .refl _
end Go.Scr
