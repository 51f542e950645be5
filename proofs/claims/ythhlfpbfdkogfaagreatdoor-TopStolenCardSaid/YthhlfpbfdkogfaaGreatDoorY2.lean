/-
  What the functions of the given program reckon, each by a contract, up to the law. It is no claim by itself; each contract bears its own conditions.
-/
import Derived.Test.YthhlfpbfdkogfaaGreatDoorY1
set_option linter.unusedVariables false
set_option linter.unusedSimpArgs false
set_option maxRecDepth 100000
namespace Go.Scr
open Go.Proofs
open IntWalk renaming i64_in → Za
open List renaming length_append → Zb, getD_eq_getElem?_getD → Zc, length_drop → Ze, length_take → Zf, replicate → Zj, take_append_drop → Zk, nil_append → Zl, length_reverse → Zm, range_succ → Zo, getElem?_eq_getElem → Zp, length_set → Zv, map_append → Zw, foldl_cons → Zx, foldl_append → Z0, reverse_reverse → Z4, length_cons → Z5, length_zipWith → Z6, append_nil → Z9, zipWith_cons_cons → Jb, take_of_length_le → Jc, length_replicate → Jd, getElem?_replicate_of_lt → Je, drop_append_of_le_length → Jf, append_assoc → Jj, take_length → Jm, range_succ_eq_map → Jp, length_map → Jr, length_singleton → Js, getElem?_reverse → Jt, map → Jx
open Int renaming toNat_natCast → Zd, tdiv_eq_ediv_of_nonneg → Zn, tmod_eq_emod_of_nonneg → Zr
open Nat renaming mul_one → Zg, le_refl → Zh, zero_add → Zi, mod_eq_of_lt → Zs, mod_lt → Zt, div_add_mod → Zu, le_of_ble_eq_true → Zz, pow_le_pow_right → Z3, mul_mod → Ja, mod_mul_mod → Jg, mul_succ → Jh, mul_comm → Ji, mul_mod_left → Jk, add_sub_cancel_left → Jl, testBit_lt_two_pow → Jn, sub_self → Jo, mul_zero → Jw
open UInt8 renaming ofNat → Zq, toNat_ofNat' → Zy, xor_assoc → Z7, toNat_inj → Z8, xor_zero → Ju
open UInt32 renaming sub_add_cancel → Z1, add_sub_cancel → Z2, toNat_ofNat' → Jv
open BitVec renaming ofInt → Jq
open Go.IntKind renaming i64 → I6, u8 → U8
theorem Gc {va vk:List Value} {r k:Bs} (ha:va=bv r) (hk:vk=bv k) (hr:r.length=4) (hkl:k.length=6):a7 C 187 [.z 4 va,.z 6 vk] [] (.ret (.t [.o 1 (.k 0) 0 4,bool true])) [.sc (bv (dF r k))]:=by
 have hp:(A3 (M2 48) r).length=6:=by rw[dl,dt]
 have hx:(f6 (A3 (M2 48) r) k).length=6:=t9 hp hkl;generalize hxe:f6 (A3 (M2 48) r) k=x at hx;refine Mo.c ?_;refine Y7 0 rfl 8 (fun i=>⟨[(6,.z 6 (bv x)),(8,.o 1 (.k 0) 0 4),(9,i64 i)],[.sc (bv (H8 x i))]⟩) ?_ fun i hi=> ?_
 ·refine⟨[],_,_,_,_,JE,rfl,rfl,?_⟩;refine⟨[],_,_,_,_,kP (b:=r) (t:=M2 48) (n:=48) ha (C9 (dt _)) hr (dt _) (by decide) (by decide) (by decide) (by decide +kernel),rfl,rfl,?_⟩;refine⟨[],_,_,_,_,H6 (a:=A3 (M2 48) r) (b:=k) (b9 hp) hk hp hkl (by decide),rfl,rfl,?_⟩;rw[hxe];refine⟨by decide,by decide,by decide,?_⟩;refine⟨[],0,by decide,[.d 34 0],⟨?_,rfl,rfl,tq⟩,⟨_,rfl,d8 ?_⟩,tq⟩
  ·show V.z 6 (sub (bv x) 0 6)=_;rw[b9 hx]
  ·rfl
 have p1:I6.wrap (I6.wrap (6*(i:Int))+1)=((6*i+1:Nat):Int):=by
  rw[Za (6*(i:Int)) (by omega),Za _ (by omega)];omega
 refine⟨[],_,_,_,_,nu (n:=6*i+1) (b:=x) p1 rfl hx (by decide) (by omega) (by omega),rfl,rfl,?_⟩;have p2:I6.wrap (I6.wrap (I6.wrap (6*(i:Int))+1)+5)=((6*i+6:Nat):Int):=by
  rw[p1,Za _ (by omega)];omega
 refine⟨[],_,_,_,_,nu (n:=6*i+6) (b:=x) p2 rfl hx (by decide) (by omega) (by omega),rfl,rfl,?_⟩;have hb1:=ae (tb x (6*i+1-1));have hb2:=ae (tb x (6*i+6-1));have hrow:I6.wrap (I6.wrap (2*(((tb x (6*i+1-1)).toNat:Nat):Int))+(((tb x (6*i+6-1)).toNat:Nat):Int))=((dO x i:Nat):Int):=by
  rw[Za (2*(((tb x (6*i+1-1)).toNat:Nat):Int)) (by omega),Za _ (by omega)];rfl
 refine j4 (fun k=>⟨[(6,.z 6 (bv x)),(8,.o 1 (.k 0) 0 4),(9,i64 i),(10,i64 (6*i+1:Nat)),(11,i64 (dO x i:Nat)),(12,i64 (bW x i k:Nat)),(13,i64 (k+1:Nat))],[.sc (bv (H8 x i))]⟩) 4 ⟨[.k 0],⟨rfl,rfl,rfl,c9 p1,c9 hrow,rfl,rfl,tq⟩,⟨_,rfl,rfl⟩,tq⟩ fun k hk=> ?_;refine b8 (fun h=> ?_) (fun h=> ?_)
 ·have hkl:k<4:=(by omega);have p3:I6.wrap (((6*i+1:Nat):Int)+((k+1:Nat):Int))=((6*i+k+2:Nat):Int):=by
   rw[Za _ (by omega)];omega
  refine⟨[],_,_,_,_,nu (n:=6*i+k+2) (b:=x) p3 rfl hx (by decide) (by omega) (by omega),rfl,rfl,?_⟩;have hb:=ae (tb x (6*i+k+2-1));have hc:=kX x i k;have hc2:2^k<=8:=by
   have:2^k<=2^3:=Z3 (by decide) (by omega);simpa using this
  refine⟨k+1,by omega,by omega,[.k 0],⟨rfl,rfl,rfl,rfl,rfl,c9 ?_,c9 (by simp(disch:=omega)only[Za];omega),tq⟩,⟨_,rfl,rfl⟩,tq⟩;rw[Za (2*((bW x i k:Nat):Int)) (by omega),Za _ (by omega)];show _=((2*bW x i k+(tb x (6*i+1+k)).toNat:Nat):Int);rw[show 6*i+1+k=6*i+k+2-1 by omega];omega
 ·obtain rfl:k=4:=(by omega);have e2:I6.wrap ((i:Int).tdiv 2)=((i/2:Nat):Int):=by
   rw[Zn (by omega),Za _ (by omega)];omega
  have e3:I6.wrap (4*I6.wrap (1-(i:Int).tmod 2))=((4*(1-i%2):Nat):Int):=by
   rw[Zr (by omega),Za (1-(i:Int)%2) (by omega),Za _ (by omega)];omega
  have hcl:=kX x i 4;obtain⟨o1,o2⟩:=sw i hi _ (jm x i);refine⟨by decide,by rw[e2];omega,by rw[e2];omega,?_⟩;refine⟨_,by rw[e2,Zd,Zg,Zi];exact y7 (by rw[jl];omega),?_⟩;refine⟨[],_,_,_,_,Gd hi (jm x i),rfl,rfl,?_⟩;refine⟨by omega,?_,?_⟩
  ·show((bW x i 4:Nat):Int)<(((M7 i (dO x i)).toArray.size:Nat):Int);simp only[List.size_toArray,o1];omega
  refine⟨_,by rw[Zd];exact mI (by omega),?_⟩;refine⟨[],_,_,_,_,Gj rfl (o2 _ hcl),rfl,rfl,?_⟩;refine⟨by decide,by rw[e3];omega,by rw[e2];omega,by rw[e2];omega,by rw[e2,f9,jl];omega,?_⟩;have hset:(bv (H8 x i)).set (i/2) (.int .u8 (U8.wrap ((Jq U8.bits (((H8 x i).getD (i/2) 0).toNat:Int)|||Jq U8.bits (U8.wrap (((dS x i:Nat):Int)*2^(min ((4*(1-i%2):Nat):Int).toNat U8.bits)))).toNat:Int)))=bv (H8 x (i+1)):=by
   rw[Tm _ (nZ hi) _ (by omega),qd,K3,yd hi]
  have w1:I6.wrap ((i:Int)+1)=((i+1:Nat):Int):=by rw[Za _ (by omega)];omega
  refine b8 (fun h=> ?_) (fun h=> ?_)
  ·rw[w1]at h;refine⟨rfl,i+1,by omega,by omega,[.k 0],⟨rfl,rfl,c9 w1,tq⟩,⟨_,rfl,d8 ?_⟩,tq⟩;rw[e2,e3,Zd,Zg,Zi];exact hset
  ·rw[w1]at h;obtain rfl:i=7:=(by omega);refine⟨[],_,_,_,_,GH,rfl,rfl,?_⟩;have hm:iA.length=32:=rfl;have h8:=jl x 8;refine⟨[],_,_,_,_,kP (b:=H8 x 8) (t:=iA) (n:=32) ?_ (C9 hm) h8 hm (by decide) (by decide) (by decide) (by decide +kernel),rfl,rfl,?_⟩
   ·show sub ((bv (H8 x 7)).set _ _) 0 4=_;rw[e2,e3];exact(congrArg (fun l=>sub l 0 4) hset).trans (b9 h8)
   refine⟨_,rfl,[.d 83 0],rfl,⟨_,rfl,d8 ?_⟩,tq⟩;rw[dF,hxe]
def V7 (t:List Nat) (n:Nat):List Nat:=(List.range n).foldl (fun o i=>o.set (t.getD i 0-1) (i+1)) (Zj t.length 0)
theorem th (t n):V7 t (n+1)=(V7 t n).set (t.getD n 0-1) (n+1):=by simp[V7,Zo]
theorem mf (t n):(V7 t n).length=t.length:=by
 induction n with
 |zero=>simp[V7]
 |succ n ih=>rw[th,Zv,ih]
def aO:List Nat:=V7 t5 64
theorem zo:∀i,i<64->1<=t5.getD i 0/\t5.getD i 0<=64/\(V7 t5 i).getD (t5.getD i 0-1) 0=0:=by decide +kernel
theorem L1:t5.length=64:=by decide +kernel
theorem Ap (l:List Nat) (i x:Nat):(nv l).set i (.int .i64 (x:Int))=nv (l.set i x):=by simp[nv,List.map_set]
theorem Ao (n:Nat):Zj n (Value.int .i64 0)=nv (Zj n 0):=by simp[nv]
theorem Gy {vt:List Value} (hv:vt=nv t5):a7 C 188 [.z 64 vt] [] (.ret (.t [.o 1 (.k 0) 0 64,bool true])) [.sc (nv aO)]:=by
 subst hv;refine LV.c ?_;refine⟨by decide,by decide,by decide,?_⟩;refine j4 (fun i=>⟨[(0,.z 64 (nv t5)),(4,.o 1 (.k 0) 0 64),(12,i64 64),(13,i64 i)],[.sc (nv (V7 t5 i))]⟩) 64 ⟨[.d 10 0],⟨rfl,rfl,rfl,rfl,tq⟩,⟨_,rfl,d8 ?_⟩,tq⟩ fun i hi=> ?_
 ·show Zj 64 _=_;rw[Ao,V7,L1];rfl
 refine b8 (fun h=> ?_) (fun h=> ?_)
 ·have a8:i<64:=(by omega);obtain⟨g1,g2,g3⟩:=zo i a8;refine⟨by omega,by omega,?_⟩;refine⟨_,by rw[Zd];exact S3 (by rw[L1];omega),?_⟩;refine b8 (fun h=> ?_) (fun h=> ?_)
  ·omega
  refine b8 (fun h=> ?_) (fun h=> ?_)
  ·omega
  have e1:I6.wrap (((t5.getD i 0:Nat):Int)-1)=((t5.getD i 0-1:Nat):Int):=by rw[Za _ (by omega)];omega
  refine⟨by rw[e1];omega,by rw[e1];omega,?_⟩;refine⟨_,by rw[e1,Zd,Zg,Zi];exact S3 (by rw[mf,L1];omega),?_⟩;refine b8 (fun h=> ?_) (fun h=> ?_)
  ·rw[g3]at h;omega
  refine⟨by rw[e1];omega,by rw[e1];omega,by rw[e1,G3,mf,L1];omega,?_⟩;have w1:I6.wrap ((i:Int)+1)=((i+1:Nat):Int):=by rw[Za _ (by omega)];omega
  refine⟨i+1,by omega,by omega,[.k 0],⟨rfl,rfl,rfl,c9 w1,tq⟩,⟨_,rfl,d8 ?_⟩,tq⟩;rw[e1,w1,Zd,Zg,Zi,Ap,th]
 ·obtain rfl:i=64:=(by omega);refine⟨by decide,by decide,by decide,?_⟩;have hl:(V7 t5 64).length=64:=by rw[mf,L1]
  refine⟨by rw[G3,hl];decide,by decide,?_⟩;refine⟨_,rfl,[.d 45 0],rfl,⟨_,rfl,d8 ?_⟩,tq⟩;show(Zj 64 (Value.int .i64 0)).take 0++(sub (nv (V7 t5 64)) 0 64).take 64++(Zj 64 (Value.int .i64 0)).drop 64=_;have ht:(nv (V7 t5 64)).take 64=nv (V7 t5 64):=Jc (by rw[G3,hl];decide);have hd:(Zj 64 (Value.int .i64 0)).drop 64=[]:=rfl;rw[C9 hl,ht,hd,List.take_zero,Zl,Z9];rfl
def iW (i:Nat):Nat:=if i<2\/i=8\/i=15 then 1 else 2
def kf (t:List Nat) (s:Nat):List Nat:=(t.take 28).drop s++(t.take 28).take s++(t.drop 28).drop s++(t.drop 28).take s
def K6:Nat->List Nat
 |0=>bG
 |i+1=>kf (K6 i) (iW i)
def cU (i n:Nat):List Nat:=(List.range n).map fun j=>(K6 (i+1)).getD (W9.getD j 0-1) 0
def V6 (key:Bs) (i:Nat):Bs:=A3 (cU i 48) key
def B1 (key:Bs) (n:Nat):List (Bs):=(List.range n).map (V6 key)
def kV (l:List (Bs)):List V:=l.map fun k=> .z 6 (bv k)
theorem jn:∀i,i<17->(K6 i).length=56:=by decide +kernel
theorem uE:∀j,j<48->1<=W9.getD j 0/\W9.getD j 0<=56:=by decide +kernel
theorem pX:W9.length=48:=by decide +kernel
theorem Lv:∀i,i<16->∀j,j<48->1<=(cU i 48).getD j 0/\(cU i 48).getD j 0<=64:=by decide +kernel
theorem lh (i n):(cU i n).length=n:=by simp[cU]
theorem Lw (i n):cU i (n+1)=cU i n++[(K6 (i+1)).getD (W9.getD n 0-1) 0]:=by simp[cU,Zo]
theorem yc (key n):B1 key (n+1)=B1 key n++[V6 key n]:=by simp[B1,Zo]
theorem fi (key n):(B1 key n).length=n:=by simp[B1]
theorem su (key i):(V6 key i).length=6:=by rw[V6,dl,lh]
theorem bo (l):(kV l).length=l.length:=by simp[kV]
theorem jz (H a6) (l):(kV l).map (l7 H a6 6)=kV l:=by
 unfold kV;rw[List.map_map];exact List.map_congr_left fun _ _=>rfl
theorem WM {t:List Nat} {s:Nat} (ht:t.length=56) (hs:s<=28):
  sub (nv (sub t 0 28)) s (28-s)++sub (nv (sub t 0 28)) 0 s++sub (nv (sub t 28 28)) s (28-s)++sub (nv (sub t 28 28)) 0 s=nv (kf t s):=by
 rw[Y4,Y4,Y4,Y4,en,en,en];congr 1;have e1:sub t 28 28=t.drop 28:=G6 _ _ _ (by omega);have e0:sub t 0 28=t.take 28:=rfl;rw[e1,e0,kf];rw[G6 (t.take 28) s (28-s) (by rw[Zf];omega),G6 (t.drop 28) s (28-s) (by rw[Ze];omega)];rfl
theorem WL {t:List Nat} {s:Nat} (ht:t.length=56) (hs:s<=28):
  sub (sub (sub (sub (sub (nv t) 0 28) s (28-s)++sub (sub (nv t) 0 28) 0 s) 0 28++sub (sub (nv t) 28 28) s (28-s)) 0 (28+(28-s))++sub (sub (nv t) 28 28) 0 s) 0 56=nv (kf t s):=by
 have l0:(sub (nv t) 0 28).length=28:=by rw[j5,G3,ht];rfl
 have l1:(sub (nv t) 28 28).length=28:=by rw[j5,G3,ht];rfl
 have a:sub (sub (sub (nv t) 0 28) s (28-s)++sub (sub (nv t) 0 28) 0 s) 0 28=sub (sub (nv t) 0 28) s (28-s)++sub (sub (nv t) 0 28) 0 s:=E0 (by simp only[Zb,j5,G3,ht];omega);rw[a];have b:sub (sub (sub (nv t) 0 28) s (28-s)++sub (sub (nv t) 0 28) 0 s++sub (sub (nv t) 28 28) s (28-s)) 0 (28+(28-s))=sub (sub (nv t) 0 28) s (28-s)++sub (sub (nv t) 0 28) 0 s++sub (sub (nv t) 28 28) s (28-s):=E0 (by simp only[Zb,j5,G3,ht];omega);rw[b,E0 (by simp only[Zb,j5,G3,ht];omega)];rw[Y4 t 0 28,Y4 t 28 28];exact WM ht hs
theorem zx (H a6) (l) (n):(kV l).map (B9 H a6 (n+1))=kV l:=by
 unfold kV;rw[List.map_map];exact List.map_congr_left fun _ _=>rfl
def yh (key:Bs) (i:Nat):B:=match i with
 |0=> .pl []
 |i+1=> .mx (kV (B1 key (i+1)))
theorem wI {va:List Value} {key:Bs} (ha:va=bv key) (hk:key.length=8):a7 C 126 [.z 8 va] [] (.ret (.t [.zz 1 16 (kV (B1 key 16)),i64 0])) []:=by
 subst ha;refine Mp.c ?_;refine⟨[],_,_,_,_,FC,rfl,rfl,?_⟩;refine⟨by decide,by decide,by decide,?_⟩;refine j4 (fun i=>⟨[(0,.z 8 (bv key)),(4,.z 56 (nv (K6 i))),(5,.z 48 (nv W9)),(6,.o 1 (.k 0) 0 i),(24,i64 i)],[yh key i]⟩) 16 ⟨[.d 23 0],⟨rfl,?_,?_,rfl,rfl,tq⟩,⟨_,rfl,rfl⟩,tq⟩ fun i hi=> ?_
 ·show V.z 56 (sub (nv bG) 0 56)=_;rw[C9 (by decide +kernel)];rfl
 ·show V.z 48 (sub (nv W9) 0 48)=_;rw[C9 (by decide +kernel)]
 refine b8 (fun h=> ?_) (fun h=> ?_)
 ·have a8:i<16:=(by omega);have ht:=jn i (by omega);have l0:(sub (nv (K6 i)) 0 28).length=28:=by rw[j5,G3,ht];rfl
  have l1:(sub (nv (K6 i)) 28 28).length=28:=by rw[j5,G3,ht];rfl
  refine b8 (fun h1=> ?_) (fun h1=>i9 (fun h2=> ?_) (fun h2=>i9 (fun h3=> ?_) (fun h3=> ?_)));all_goals
   first
    |have hs:K6 (i+1)=kf (K6 i) 1:=by rw[K6,iW,if_pos (by omega)]
    |have hs:K6 (i+1)=kf (K6 i) 2:=by rw[K6,iW,if_neg (by omega)]
   refine⟨by decide,by decide,by decide,by decide,?_⟩;refine⟨[],_,_,_,_,rI (n:=28) (va:=sub (nv (K6 i)) 0 28) l0 (by decide) (by decide),rfl,rfl,?_⟩;refine⟨by decide,by decide,by decide,by decide,?_⟩;refine⟨[],_,_,_,_,rI (n:=28) (va:=sub (nv (K6 i)) 28 28) l1 (by decide) (by decide),rfl,rfl,?_⟩;refine⟨by decide,by decide,by decide,by decide,?_⟩;refine⟨by decide,by decide,by decide,by decide,?_⟩;refine⟨(by first|decide|(simp only[Zb,j5,l0,l1];decide)),(by first|decide|(simp only[Zb,j5,l0,l1];decide)),(by first|decide|(simp only[Zb,j5,l0,l1];decide)),?_⟩;refine⟨by decide,by decide,by decide,by decide,?_⟩;refine⟨(by first|decide|(simp only[Zb,j5,l0,l1];decide)),(by first|decide|(simp only[Zb,j5,l0,l1];decide)),(by first|decide|(simp only[Zb,j5,l0,l1];decide)),?_⟩;refine⟨by decide,by decide,by decide,by decide,?_⟩;refine⟨(by first|decide|(simp only[Zb,j5,l0,l1];decide)),(by first|decide|(simp only[Zb,j5,l0,l1];decide)),(by first|decide|(simp only[Zb,j5,l0,l1];decide)),?_⟩;refine A5 (fun j=>⟨[(0,.z 8 (bv key)),(4,.z 56 (nv (K6 (i+1)))),(5,.z 48 (nv W9)),(6,.o 1 (.k 0) 0 i),(11,.o 1 (.k 1) 0 j),(24,i64 i),(58,.z 48 (nv W9)),(59,i64 48),(60,i64 j)],[yh key i,.sc (nv (cU i j))]⟩) 48 [(11,1,.sc [])] ⟨[.k 0,.d 900000 0],⟨rfl,?_,rfl,rfl,rfl,rfl,rfl,rfl,rfl,tq⟩,⟨_,rfl,?_⟩,⟨_,rfl,rfl⟩,tq⟩ fun j hj=> ?_
   ·rw[hs];exact congrArg (V.z 56) (WL ht (by decide))
   ·rcases i with _|i
    ·rfl
    ·show B.mx ((kV _).map _)=_;rw[jz];rfl
   refine b8 (fun h=> ?_) (fun h=> ?_)
   ·have hj':j<48:=(by omega);obtain⟨g1,g2⟩:=uE j hj';have e1:I6.wrap (((W9.getD j 0:Nat):Int)-1)=((W9.getD j 0-1:Nat):Int):=by rw[Za _ (by omega)];omega
    refine⟨by omega,by omega,?_⟩;refine⟨_,by rw[Zd];exact S3 (by rw[pX];omega),?_⟩;refine⟨by rw[e1];omega,by rw[e1];omega,?_⟩;refine⟨_,by rw[e1,Zd];exact S3 (by rw[jn _ (by omega)];omega),?_⟩;refine⟨Zh _,by omega,by rw[G3,lh];omega,?_⟩;refine⟨j+1,by omega,by omega,[.k 0,.d 71 0],⟨rfl,rfl,rfl,rfl,rfl,rfl,rfl,rfl,c9 (by simp(disch:=omega)only[Za];omega),tq⟩,⟨_,rfl,?_⟩,⟨_,rfl,d8 ?_⟩,tq⟩
    ·rcases i with _|i
     ·rfl
     ·show B.mx ((kV _).map _)=_;rw[jz];rfl
    ·rw[Lw];exact iq (by rw[lh,Zg])
   ·obtain rfl:j=48:=(by omega);refine⟨[],_,_,_,_,kP (b:=key) (t:=cU i 48) (n:=48) rfl (C9 (lh _ _)) hk (lh _ _) (by decide) (by decide) (by decide) (fun j hj=>Lv i a8 j hj),rfl,rfl,?_⟩;have w1:I6.wrap ((i:Int)+1)=((i+1:Nat):Int):=by rw[Za _ (by omega)];omega
    have hz:V.z 6 (sub (bv (V6 key i)) 0 6)= .z 6 (bv (V6 key i)):=by rw[b9 (su _ _)]
    rcases i with _|i
    ·refine⟨by decide,by decide,by decide,?_⟩;refine⟨1,by omega,by omega,[.d 82 0],⟨rfl,rfl,rfl,rfl,rfl,tq⟩,⟨_,rfl,?_⟩,tq⟩;exact congrArg (fun z=>B.mx [z]) hz
    ·refine⟨by decide,by omega,by rw[bo,fi];omega,?_⟩;refine⟨i+1+1,by omega,by omega,[.d 82 0],⟨rfl,rfl,rfl,rfl,c9 w1,tq⟩,⟨_,rfl,?_⟩,tq⟩;show B.mx (Jx (l7 _ _ 6) (sub (kV (B1 key (i+1))) 0 ((i+1)*1)++[V.o 1 _ _ _]))= .mx (kV (B1 key (i+1+1)));rw[Zg,E0 (by rw[bo,fi]),Zw,jz,yc key (i+1),show kV (B1 key (i+1)++[V6 key (i+1)])=kV (B1 key (i+1))++[V.z 6 (bv (V6 key (i+1)))] from Zw];exact congrArg (fun z=>B.mx (kV (B1 key (i+1))++[z])) hz
 ·obtain rfl:i=16:=(by omega);refine⟨_,rfl,[],?_,tq⟩;exact congrArg (fun z=>V.t [V.zz 1 16 z,i64 0]) ((congrArg (Jx _) (E0 (by rw[bo,fi]))).trans (zx _ _ _ 2))
theorem oW {l:List (Bs)} {j:Nat} {x:Bs} (h:l[j]? =some x):(kV l)[j]? =some (.z 6 (bv x)):=by simp[kV,h]
theorem zw (l:List (Bs)) (i:Nat) (x:Bs):(kV l).set i (.z 6 (bv x))=kV (l.set i x):=by simp[kV,List.map_set]
theorem rH {n:Nat} {l:List (Bs)} {xs:List V} (hx:xs=kV l) (hn:l.length=n) (h0:0<n) (hm:n<=1000000):a7 C 127 [.zz 1 n xs] [] (.ret (.o 1 (.k 0) 0 n)) [.pl (kV l)]:=by
 subst hx;refine OS.c ?_;refine .inl ⟨h0,?_⟩;refine⟨by rw[bo,hn,Zg],by omega,by decide,?_⟩;refine⟨_,rfl,[.d 7 0],?_,⟨_,rfl,?_⟩,tq⟩
 ·rw[Zi];rfl
 ·rfl
theorem rY {n:Nat} {l:List (Bs)} (hn:l.length=n) (h0:0<n) (hm:n<=1073741824):a7 C 128 [.o 1 (.k 0) 0 n] [.pl (kV l)] (.ret (.t [])) [.pl (kV l.reverse)]:=by
 subst hn;refine OY.c ?_;refine j4 (fun i=>⟨[(0,.o 1 (.k 0) 0 l.length),(2,i64 i),(3,i64 (l.length-1-i))],[.pl (kV (U5 l i))]⟩) l.length ⟨[.k 0],⟨rfl,rfl,c9 (by simp(disch:=omega)only[Za];omega),tq⟩,⟨_,rfl,congrArg B.pl (by rw[AY])⟩,tq⟩ fun i hi=> ?_;refine b8 (fun h=> ?_) (fun h=> ?_)
 ·have a8:i<l.length-1-i:=(by omega);have e1:0+((l.length:Int)-1-i).toNat*1=l.length-1-i:=(by omega);have e2:0+((i:Int)).toNat*1=i:=(by omega);refine⟨by omega,by omega,_,by rw[e1];exact oW (pL l i (l.length-1-i) (by omega) (by omega) (by omega)),?_⟩;refine⟨by omega,by omega,_,by rw[e2];exact oW (pL l i i (by omega) (by omega) (by omega)),?_⟩;refine⟨by omega,by omega,by rw[e2,bo,eG];show i+1<=_;omega,by omega,by omega,?_,?_⟩
  ·rw[e1,e2];show l.length-1-i+1<=((kV (U5 l i)).set _ _).length;rw[Zv,bo,eG];omega
  refine⟨i+1,by omega,by omega,[.k 0],⟨rfl,c9 (by simp(disch:=omega)only[Za];omega),c9 (by simp(disch:=omega)only[Za];omega),tq⟩,⟨_,rfl,congrArg B.pl ?_⟩,tq⟩;rw[e1,e2];show((kV (U5 l i)).set _ _).set _ _=_;rw[zw,zw,AX l i a8]
 ·refine⟨_,rfl,[.k 0],rfl,⟨_,rfl,congrArg B.pl ?_⟩,tq⟩;rw[AW l i (by omega)]
abbrev L2:=Bs×Bs
def dM (x:L2) (k:Bs):L2:=(x.2,f6 x.1 (dF x.2 k))
def dN (ks:List (Bs)) (x:L2) (n:Nat):L2:=(List.range n).foldl (fun x i=>dM x (ks.getD i [])) x
def u6 (b:Bs):L2:=(sub (A3 t5 b) 0 4,sub (A3 t5 b) 4 4)
def C2 (ks:List (Bs)) (b:Bs):Bs:=A3 aO ((dN ks (u6 b) ks.length).2++(dN ks (u6 b) ks.length).1)
def fP (ks:List (Bs)):Prop:=∀i,i<ks.length->(ks.getD i []).length=6
theorem kZ (ks x n):dN ks x (n+1)=dM (dN ks x n) (ks.getD n []):=by simp[dN,Zo]
theorem dL (r k):(dF r k).length=4:=by rw[dF,dl];rfl
theorem nW {ks x} (h1:x.1.length=4) (h2:x.2.length=4):∀n,(dN ks x n).1.length=4/\(dN ks x n).2.length=4
 |0=>⟨h1,h2⟩
 |n+1=>by
  obtain⟨a,b⟩:=nW (ks:=ks) h1 h2 n;rw[kZ];exact⟨b,t9 a (dL _ _)⟩
theorem kY (b):(u6 b).1.length=4/\(u6 b).2.length=4:=by
 have:(A3 t5 b).length=8:=by rw[dl,L1]
 constructor<;>(simp only[u6,j5];omega)
theorem uG:∀i,i<64->1<=t5.getD i 0/\t5.getD i 0<=8*8:=by decide +kernel
theorem uF:∀i,i<64->1<=aO.getD i 0/\aO.getD i 0<=8*8:=by decide +kernel
theorem gp:aO.length=64:=by decide +kernel
theorem getD_some {α:Type} {l:List α} {i:Nat} {d:α} (h:i<l.length):l[i]? =some (l.getD i d):=by simp[Zc,h]
theorem jc {va:List Value} {xs:List V} {b:Bs} {ks:List (Bs)} {n:Nat} (ha:va=bv b) (hx:xs=kV ks) (hb:b.length=8) (hn:ks.length=n) (hm:n<=1000) (hk:fP ks):
  a7 C 129 [.z 8 va,.zz 1 n xs] [] (.ret (.o 1 (.k 0) 0 8)) [.sc (bv (C2 ks b))]:=by
 subst ha;subst hx;have hl:=nW (ks:=ks) (kY b).1 (kY b).2;refine Mv.c ?_;refine Y7 0 rfl (n+1) (fun i=>⟨[(1,.zz 1 n (kV ks)),(5,.z 64 (nv t5)),(6,.z 4 (bv (dN ks (u6 b) i).1)),(7,.z 4 (bv (dN ks (u6 b) i).2)),(8,i64 i)],[]⟩) ?_ fun i hi=> ?_
 ·refine⟨[],_,_,_,_,Gm,rfl,rfl,?_⟩;refine⟨[],_,_,_,_,kP (b:=b) (t:=t5) (n:=64) rfl (C9 L1) hb L1 (by decide) (by decide) (by decide) uG,rfl,rfl,?_⟩;refine⟨by decide,by decide,by decide,by decide,?_⟩;refine⟨by decide,by decide,by decide,by decide,?_⟩;refine⟨[],0,by omega,[],⟨rfl,?_,?_,?_,rfl,tq⟩,tq⟩
  ·show V.z 64 (sub (nv t5) 0 64)=_;rw[C9 L1]
  ·exact congrArg (V.z 4) (k5 _ _ _)
  ·exact congrArg (V.z 4) (k5 _ _ _)
 refine b8 (fun h=> ?_) (fun h=> ?_)
 ·have a8:i<n:=(by omega);refine⟨by omega,by omega,_,by rw[Zd,Zg];exact oW (getD_some (d:=[]) (by omega)),?_⟩;refine⟨[],_,_,_,_,Gc (r:=(dN ks (u6 b) i).2) (k:=ks.getD i []) rfl rfl (hl i).2 (hk i (by omega)),rfl,rfl,?_⟩;refine⟨[],_,_,_,_,H6 (a:=(dN ks (u6 b) i).1) (b:=dF (dN ks (u6 b) i).2 (ks.getD i [])) rfl (b9 (dL _ _)) (hl i).1 (dL _ _) (by decide),rfl,rfl,?_⟩;refine⟨rfl,i+1,by omega,by omega,[],⟨rfl,rfl,?_,?_,c9 (by simp(disch:=omega)only[Za];omega),tq⟩,tq⟩
  ·rw[kZ];rfl
  ·rw[kZ];show V.z 4 (sub (bv _) 0 4)=_;rw[b9 (t9 (hl i).1 (dL _ _))];rfl
 ·obtain rfl:i=n:=(by omega);refine⟨[],_,_,_,_,Gy rfl,rfl,rfl,?_⟩;refine⟨[],_,_,_,_,R7 (n:=2) (ls:=[(dN ks (u6 b) i).2,(dN ks (u6 b) i).1]) (t:=(dN ks (u6 b) i).2++(dN ks (u6 b) i).1) (by simp) ?_ rfl (by rw[Zb,(hl i).1,(hl i).2];decide) (by rw[Zb,(hl i).1,(hl i).2];decide),rfl,rfl,?_⟩
  ·show[V.z 4 _,V.z 4 _]=[V.z _ _,V.z _ _];rw[(hl i).1,(hl i).2]
  have h8:((dN ks (u6 b) i).2++(dN ks (u6 b) i).1).length=8:=by rw[Zb,(hl i).1,(hl i).2]
  refine⟨[],_,_,_,_,kP (b:=(dN ks (u6 b) i).2++(dN ks (u6 b) i).1) (t:=aO) (l:=((dN ks (u6 b) i).2++(dN ks (u6 b) i).1).length) (n:=64) (b9 rfl) (C9 gp) rfl gp (by rw[h8];decide) (by decide) (by decide) (by rw[h8];exact uF),rfl,rfl,?_⟩;refine⟨_,rfl,[.d 58 0],rfl,⟨_,rfl,d8 ?_⟩,tq⟩;rw[C2,hn]
def E8 (l:List (List (Bs))):List V:=l.map fun k=> .zz 1 16 (kV k)
theorem bp (l):(E8 l).length=l.length:=by simp[E8]
theorem fE {l:List (List (Bs))} {j:Nat} {x} (h:l[j]? =some x):(E8 l)[j]? =some (.zz 1 16 (kV x)):=by simp[E8,h]
abbrev bX (ks:List (List (Bs))):V:= .q [.zz 1 ks.length (E8 ks)] 0
def gX (ks:List (List (Bs))) (back:Bool) (b:Bs) (i:Nat):Bs:=
 C2 (if back != decide (i=1)then (if back then ks.getD (ks.length-1-i) []else ks.getD i []).reverse else (if back then ks.getD (ks.length-1-i) []else ks.getD i [])) b
def I3 (ks:List (List (Bs))) (back:Bool) (b:Bs) (n:Nat):Bs:=(List.range n).foldl (gX ks back) b
def tU (ks:List (List (Bs))):Prop:=ks.length<=3/\∀i,i<ks.length->(ks.getD i []).length=16/\fP (ks.getD i [])
theorem lg (ks b):(C2 ks b).length=8:=by rw[C2,dl,gp]
theorem nV (ks back b n):I3 ks back b (n+1)=gX ks back (I3 ks back b n) n:=by simp[I3,Zo]
theorem sr {ks back b} (h:b.length=8):∀n,(I3 ks back b n).length=8
 |0=>h
 |n+1=>by rw[nV];exact lg _ _
theorem pw {ks} (h:fP ks):fP ks.reverse:=by
 intro i hi;have hi':i<ks.length:=by simpa using hi
 have e:ks.reverse.getD i []=ks.getD (ks.length-1-i) []:=by
  rw[Zc,Jt hi',Zc]
 rw[e];exact h _ (by omega)
def dD (ks:List (List (Bs))) (back:Bool) (b:Bs) (i:Nat):D:=match i with
 |0=>⟨[(0,bX ks),(1,.z 8 (bv b)),(2,bool back),(18,i64 ks.length),(19,i64 0)],[]⟩
 |i+1=>⟨[(0,bX ks),(1,.o 1 (.k 0) 0 8),(2,bool back),(18,i64 ks.length),(19,i64 (i+1:Nat))],[.sc (bv (I3 ks back b (i+1)))]⟩
theorem Gg {va:List Value} {b:Bs} {ks:List (List (Bs))} {back:Bool} (ha:va=bv b) (hb:b.length=8) (hk:tU ks) (h0:0<ks.length):
  a7 C 79 [bX ks,.z 8 va,bool back] [] (y4 8) [.sc (bv (I3 ks back b ks.length))]:=by
 subst ha;have m6:=sr (ks:=ks) (back:=back) hb;obtain⟨h3,hk⟩:=hk;have hend:∀i k,C2 k (I3 ks back b i)=gX ks back (I3 ks back b i) i->bv (C2 k (I3 ks back b i))=bv (I3 ks back b (i+1)):=fun i k h=>by rw[h,nV]
 refine yt.c ?_;refine⟨_,rfl,?_⟩;refine j4 (dD ks back b) ks.length ⟨[],⟨rfl,rfl,rfl,rfl,rfl,tq⟩,tq⟩ fun i hi=> ?_;rcases i with _|i
 ·refine b8 (fun h=> ?_) (fun h=>absurd h (by omega));obtain⟨k1,k2⟩:=hk 0 h0;refine⟨_,rfl,by omega,by omega,_,fE (getD_some (d:=[]) h0),?_⟩;cases back
  ·skip
   refine⟨[],_,_,_,_,jc (b:=I3 ks false b 0) (ks:=ks.getD 0 []) (by first|exact b9 (m6 _)|rfl) rfl (m6 _) k1 (by decide) k2,rfl,rfl,?_⟩;refine⟨0+1,by omega,by omega,[.d 55 0],⟨rfl,rfl,rfl,rfl,rfl,tq⟩,⟨_,rfl,d8 (hend _ _ ?_)⟩,tq⟩;rfl
  ·obtain⟨k1,k2⟩:=hk (ks.length-1-0) (by omega);have e1:I6.wrap (I6.wrap ((ks.length:Int)-1)-0)=((ks.length-1-0:Nat):Int):=by
    rw[Za ((ks.length:Int)-1) (by omega),Za _ (by omega)];omega
   refine⟨_,rfl,_,rfl,by rw[e1];omega,by rw[e1];omega,_,by rw[e1,Zd,Zg];exact fE (getD_some (d:=[]) (by omega)),?_⟩;refine⟨[],_,_,_,_,rH rfl k1 (by decide) (by decide),rfl,rfl,?_⟩;refine⟨[.d 50 0],_,_,_,_,rY (l:=ks.getD (ks.length-1-0) []) k1 (by decide) (by decide),rfl,rfl,?_⟩;refine⟨[],_,_,_,_,jc (b:=I3 ks true b 0) (ks:=(ks.getD (ks.length-1-0) []).reverse) (by first|exact b9 (m6 _)|rfl) (E0 (by rw[bo,Zm,k1])) (m6 _) (by rw[Zm,k1]) (by decide) (pw k2),rfl,rfl,?_⟩;refine⟨0+1,by omega,by omega,[.d 55 0],⟨rfl,rfl,rfl,rfl,rfl,tq⟩,⟨_,rfl,d8 (hend _ _ ?_)⟩,tq⟩;rfl
 refine b8 (fun h=> ?_) (fun h=> ?_)
 ·have a8:i+1<ks.length:=(by omega);have w1:I6.wrap (((i+1:Nat):Int)+1)=((i+1+1:Nat):Int):=by rw[Za _ (by omega)];omega
  have one:(((i+1:Nat):Int)==1)=decide (i+1=1):=by
   by_cases h:i+1=1
   ·rw[h];rfl
   ·rw[decide_eq_false h];exact beq_false_of_ne (by omega)
  obtain⟨k1,k2⟩:=hk (i+1) a8;refine⟨_,rfl,by omega,by omega,_,by rw[Zd,Zg];exact fE (getD_some (d:=[]) a8),?_⟩;cases back
  ·refine gg (fun h1=> ?_) (fun h1=> ?_)
   ·rw[one]at h1;refine⟨[],_,_,_,_,rH rfl k1 (by decide) (by decide),rfl,rfl,?_⟩;refine⟨[.d 50 0],_,_,_,_,rY (l:=ks.getD (i+1) []) k1 (by decide) (by decide),rfl,rfl,?_⟩;refine⟨[],_,_,_,_,jc (b:=I3 ks false b (i+1)) (ks:=(ks.getD (i+1) []).reverse) (by first|exact b9 (m6 _)|rfl) (E0 (by rw[bo,Zm,k1])) (m6 _) (by rw[Zm,k1]) (by decide) (pw k2),rfl,rfl,?_⟩;refine⟨i+1+1,by omega,by omega,[.d 55 0],⟨rfl,rfl,rfl,rfl,c9 w1,tq⟩,⟨_,rfl,d8 (hend _ _ ?_)⟩,tq⟩;unfold gX;first|(rw [if_pos (show (false != decide (i+1=1))=true from h1)];rfl)|(rw [if_pos (show (true != decide (i+1=1))=true from h1)];rfl)
   ·rw[one]at h1;refine⟨[],_,_,_,_,jc (b:=I3 ks false b (i+1)) (ks:=ks.getD (i+1) []) (by first|exact b9 (m6 _)|rfl) rfl (m6 _) k1 (by decide) k2,rfl,rfl,?_⟩;refine⟨i+1+1,by omega,by omega,[.d 55 0],⟨rfl,rfl,rfl,rfl,c9 w1,tq⟩,⟨_,rfl,d8 (hend _ _ ?_)⟩,tq⟩;unfold gX;rw[if_neg (by rw[show (false != decide (i+1=1))=false from h1];decide)];rfl
  ·have e1:I6.wrap (I6.wrap ((ks.length:Int)-1)-((i+1:Nat):Int))=((ks.length-1-(i+1):Nat):Int):=by
    rw[Za ((ks.length:Int)-1) (by omega),Za _ (by omega)];omega
   obtain⟨k1,k2⟩:=hk (ks.length-1-(i+1)) (by omega);refine⟨_,rfl,_,rfl,by rw[e1];omega,by rw[e1];omega,_,by rw[e1,Zd,Zg];exact fE (getD_some (d:=[]) (by omega)),?_⟩;refine gg (fun h1=> ?_) (fun h1=> ?_)
   ·rw[one]at h1;refine⟨[],_,_,_,_,rH rfl k1 (by decide) (by decide),rfl,rfl,?_⟩;refine⟨[.d 50 0],_,_,_,_,rY (l:=ks.getD (ks.length-1-(i+1)) []) k1 (by decide) (by decide),rfl,rfl,?_⟩;refine⟨[],_,_,_,_,jc (b:=I3 ks true b (i+1)) (ks:=(ks.getD (ks.length-1-(i+1)) []).reverse) (by first|exact b9 (m6 _)|rfl) (E0 (by rw[bo,Zm,k1])) (m6 _) (by rw[Zm,k1]) (by decide) (pw k2),rfl,rfl,?_⟩;refine⟨i+1+1,by omega,by omega,[.d 55 0],⟨rfl,rfl,rfl,rfl,c9 w1,tq⟩,⟨_,rfl,d8 (hend _ _ ?_)⟩,tq⟩;unfold gX;first|(rw [if_pos (show (false != decide (i+1=1))=true from h1)];rfl)|(rw [if_pos (show (true != decide (i+1=1))=true from h1)];rfl)
   ·rw[one]at h1;refine⟨[],_,_,_,_,jc (b:=I3 ks true b (i+1)) (ks:=ks.getD (ks.length-1-(i+1)) []) (by first|exact b9 (m6 _)|rfl) rfl (m6 _) k1 (by decide) k2,rfl,rfl,?_⟩;refine⟨i+1+1,by omega,by omega,[.d 55 0],⟨rfl,rfl,rfl,rfl,c9 w1,tq⟩,⟨_,rfl,d8 (hend _ _ ?_)⟩,tq⟩;unfold gX;rw[if_neg (by rw[show (true != decide (i+1=1))=false from h1];decide)];rfl
 ·have he:i+1=ks.length:=(by omega);refine⟨_,rfl,[.k 0],rfl,⟨_,rfl,d8 ?_⟩,tq⟩;rw[he]
theorem Gf {va:List Value} {ks:List (List (Bs))} {n:Nat} {back:Bool} (hn:n≠8):a7 C 79 [bX ks,.z n va,bool back] [] P3 []:=by
 refine yt.c ?_;refine n7 (fun h=> ?_) (fun h=> ?_)
 ·exact⟨_,rfl,[],rfl,tq⟩
 ·omega
def K5 (key:Bs) (n:Nat):List (List (Bs)):=(List.range n).map fun i=>B1 (sub key (8*i) 8) 16
def E7 (key:Bs) (n:Nat):List (List (Bs)):=if n=2 then K5 key 2++[B1 (sub key 0 8) 16]else K5 key n
theorem yb (key n):K5 key (n+1)=K5 key n++[B1 (sub key (8*n) 8) 16]:=by simp[K5,Zo]
theorem X8 (key n):(K5 key n).length=n:=by simp[K5]
theorem fe {key n} (h:1<=n/\n<=3):(E7 key n).length=if n=2 then 3 else n:=by
 unfold E7;split
 ·rename_i h;subst h;rw[Zb,X8];rfl
 ·exact X8 _ _
theorem sv (key):(B1 key 16).length=16/\fP (B1 key 16):=by
 refine⟨fi _ _,fun i hi=> ?_⟩;rw[fi]at hi;have:(B1 key 16).getD i []=V6 key i:=by simp[B1,Zc,hi]
 rw[this,su]
theorem Lp {key n} (h:1<=n/\n<=3):tU (E7 key n)/\0<(E7 key n).length:=by
 have hl:=fe (key:=key) h;have hm:∀x∈E7 key n,x.length=16/\fP x:=by
  intro x hx;unfold E7 at hx;split at hx
  ·rcases List.mem_append.1 hx with hx|hx
   ·obtain⟨i,_,rfl⟩:=List.mem_map.1 hx;exact sv _
   ·rw[List.mem_singleton.1 hx];exact sv _
  ·obtain⟨i,_,rfl⟩:=List.mem_map.1 hx;exact sv _
 refine⟨⟨by rw[hl];split<;>omega,fun i hi=>hm _ ?_⟩,by rw[hl];split<;>omega⟩;rw[Zc,Zp hi];exact List.getElem_mem hi
def Ls (key:Bs) (m n i:Nat):D:=match i with
 |0=>⟨[(0,.z m (bv key)),(4,i64 n),(5,.p (.k 0) 0),(26,i64 n),(27,i64 0)],[.mx [g8]]⟩
 |i+1=>⟨[(0,.z m (bv key)),(4,i64 n),(5,.p (.k 0) 0),(26,i64 n),(27,i64 (i+1:Nat))],[.mx [.o 1 (.k 1) 0 (i+1)],.pl (E8 (K5 key (i+1)))]⟩
theorem wH {va:List Value} {key:Bs} {m n:Nat} (ha:va=bv key) (hk:key.length=m) (hm:m=8*n) (hn:1<=n/\n<=3):a7 C 78 [.z m va] [] (.ret (.t [bX (E7 key n),i64 0])) []:=by
 subst ha;have e1:I6.wrap ((m:Int).tdiv 8)=(n:Int):=by
  rw[Zn (by omega),Za _ (by omega)];omega
 have e2:(m:Int).tmod 8=0:=by rw[Zr (by omega)];omega
 refine Mq.c ?_;refine⟨by decide,by decide,?_⟩;rw[e1,e2];refine b8 (fun h=>absurd h (by omega)) (fun h=> ?_);refine b8 (fun h=>absurd h (by omega)) (fun h=> ?_);refine j4 (Ls key m n) n ⟨[.d 25 0],⟨rfl,rfl,rfl,rfl,rfl,tq⟩,⟨_,rfl,rfl⟩,tq⟩ fun i hi=> ?_;rcases i with _|i
 ·refine b8 (fun h=> ?_) (fun h=>absurd h (by omega));refine⟨by decide,by decide,by decide,by decide,by show 8<=m;omega,?_⟩;refine⟨[],_,_,_,_,wI (key:=sub key (8*0) 8) (k5 _ _ _) (by rw[j5];omega),rfl,rfl,?_⟩;refine⟨_,rfl,Zh _,by decide,by decide,?_⟩;refine⟨1,by omega,by omega,[.k 0,.d 48 0],⟨rfl,rfl,rfl,rfl,rfl,tq⟩,⟨_,rfl,?_⟩,⟨_,rfl,?_⟩,tq⟩
  ·rfl
  ·exact congrArg B.pl rfl
 refine b8 (fun h=> ?_) (fun h=> ?_)
 ·have a8:i+1<n:=(by omega);have e3:I6.wrap (8*((i+1:Nat):Int))=((8*(i+1):Nat):Int):=by rw[Za _ (by omega)];omega
  have e4:I6.wrap (8*I6.wrap (((i+1:Nat):Int)+1))=((8*(i+1)+8:Nat):Int):=by
   rw[Za (((i+1:Nat):Int)+1) (by omega),Za _ (by omega)];omega
  refine⟨by rw[e4];omega,by rw[e3];omega,by rw[e3,e4];omega,Zh _,by rw[e4];omega,?_⟩;refine⟨[],_,_,_,_,wI (key:=sub key (8*(i+1)) 8) (va:=sub (bv key) (8*(i+1)) 8) (k5 _ _ _) (by rw[j5];omega),?_,rfl,?_⟩
  ·rw[e3,e4];show[V.z (8*(i+1)+8-8*(i+1)) (sub (bv key) (8*(i+1)) (8*(i+1)+8-8*(i+1)))]=_;rw[Jl]
  refine⟨_,rfl,Zh _,by omega,by rw[bp,X8];omega,by show 0+0+1<=1;decide,?_⟩;refine⟨i+1+1,by omega,by omega,[.k 0,.d 48 0],⟨rfl,rfl,rfl,rfl,c9 (by simp(disch:=omega)only[Za];omega),tq⟩,⟨_,rfl,rfl⟩,⟨_,rfl,congrArg B.pl ?_⟩,tq⟩;rw[Zg,E0 (by rw[bp,X8]),yb key (i+1)];exact(Zw (f:=fun k=>V.zz 1 16 (kV k)) (l₁:=K5 key (i+1)) (l₂:=[B1 (sub key (8*(i+1)) 8) 16])).symm
 ·have hin:i+1=n:=(by omega);refine i9 (fun h=> ?_) (fun h=> ?_)
  ·obtain rfl:i=1:=(by omega);subst hin;have hl:=fe (key:=key) hn;refine⟨_,rfl,_,rfl,by decide,by decide,_,rfl,Zh _,by decide,by rw[bp,X8];decide,by show 0+0+1<=1;decide,?_⟩;refine⟨_,rfl,[],?_,tq⟩;show V.t [V.q [V.zz 1 3 (sub (sub (E8 (K5 key 2)) 0 2++E8 [B1 (sub key 0 8) 16]) 0 3)] 0,i64 0]=V.t [V.q [V.zz 1 (E7 key 2).length (E8 (E7 key 2))] 0,i64 0];have e:sub (sub (E8 (K5 key 2)) 0 2++E8 [B1 (sub key 0 8) 16]) 0 3=E8 (E7 key 2):=by
    rw[E0 (l:=E8 (K5 key 2)) (by rw[bp,X8]),E7,if_pos rfl,E0 (by rw[Zb,bp,X8];rfl)];exact(Zw (f:=fun k=>V.zz 1 16 (kV k)) (l₁:=K5 key 2) (l₂:=[B1 (sub key 0 8) 16])).symm
   rw[hl,if_pos rfl];exact congrArg (fun z=>V.t [V.q [V.zz 1 3 z] 0,i64 0]) e
  ·have hl:=fe (key:=key) hn;rw[if_neg (by omega)]at hl;refine⟨_,rfl,[],?_,tq⟩;show V.t [V.q [V.zz 1 (i+1) (sub (E8 (K5 key (i+1))) 0 ((i+1)*1))] 0,i64 0]=V.t [V.q [V.zz 1 (E7 key n).length (E8 (E7 key n))] 0,i64 0];rw[hl,hin];have e:sub (E8 (K5 key n)) 0 (n*1)=E8 (E7 key n):=by
    rw[E7,if_neg (by omega),E0 (by rw[bp,X8,Zg])]
   exact congrArg (fun z=>V.t [V.q [V.zz 1 n z] 0,i64 0]) e
theorem wX {va:List Value} {b:Bs} {l n:Nat} {x:Int} (hx:x=n) (ha:va=bv b) (hl:b.length=l) (hm:l<=1000000) (h1:1<=n) (h2:n<=8*l):a7 C 262 [.z l va,i64 x] [] (.ret (i64 ((tb b (n-1)).toNat:Nat))) []:=by
 subst ha;subst hx;have e0:I6.wrap ((n:Int)-1)=((n-1:Nat):Int):=by rw[Za _ (by omega)];omega
 have e1:I6.wrap ((I6.wrap ((n:Int)-1)).tdiv 8)=(((n-1)/8:Nat):Int):=by
  rw[e0,Zn (by omega),Za _ (by omega)];omega
 have e2:IntKind.u64.wrap (I6.wrap (7-(I6.wrap ((n:Int)-1)).tmod 8))=((7-(n-1)%8:Nat):Int):=by
  rw[e0,Zr (by omega),Za _ (by omega),B5];omega
 have e3:I6.wrap (8*(l:Int))=((8*l:Nat):Int):=by rw[Za _ (by omega)];omega
 refine NM.c ?_;refine b8 (fun h=> ?_) (fun h=> ?_)
 ·omega
 refine b8 (fun h=> ?_) (fun h=> ?_)
 ·rw[e3]at h;omega
 refine⟨by decide,by rw[e1];omega,by rw[e1];omega,?_⟩;refine⟨_,by rw[e1,Zd];exact y7 (by omega),?_⟩;refine⟨by decide,by rw[e2];omega,?_⟩;refine⟨_,rfl,[],c9 ?_,tq⟩;rw[e2];exact wj _ (UInt8.toNat_lt _) _ (by omega)
theorem Tp:∀k,k<8->U8.wrap (1*2^(min ((k:Nat):Int).toNat U8.bits))=(((Zq (true.toNat*2^k)).toNat:Nat):Int):=by decide +kernel
theorem Tb {t:List Nat} {b:Bs} {i:Nat} (h:tb b (t.getD i 0-1)=false):M8 t b (i+1)=M8 t b i:=by
 unfold M8;congr 1;funext j;unfold dn;by_cases hj:j=i
 ·rw[hj,h];simp
 ·congr 1;exact decide_eq_decide.2 (by omega)
theorem Hm {va vt:List Value} {b:Bs} {t:List Nat} {l n:Nat} (ha:va=bv b) (hvt:vt=nv t) (hl:b.length=l) (ht:t.length=n) (hm:l<=1000000) (hn:n<=1000000) (h8:n%8=0) (hall:∀i,i<n->1<=t.getD i 0/\t.getD i 0<=8*l):a7 C 220 [.z l va,.z n vt] [] (.ret (.t [.o 1 (.k 0) 0 (n/8),bool true])) [.sc (bv (A3 t b))]:=by
 subst ha;subst hvt;subst ht;have e0:I6.wrap ((I6.wrap ((t.length:Int)+7)).tdiv 8)=((t.length/8:Nat):Int):=by
  rw[Za ((t.length:Int)+7) (by omega),Zn (by omega),Za _ (by omega)];omega
 have e8:I6.wrap (8*(l:Int))=((8*l:Nat):Int):=by rw[Za _ (by omega)];omega
 refine NP.c ?_;refine⟨by decide,?_⟩;rw[e0];refine⟨by omega,by omega,by omega,?_⟩;refine j4 (fun i=>⟨[(0,.z l (bv b)),(1,.z t.length (nv t)),(6,.o 1 (.k 0) 0 (t.length/8)),(7,i64 i)],[.sc (bv (M8 t b i))]⟩) t.length ⟨[.d 12 0],⟨rfl,rfl,rfl,rfl,tq⟩,⟨_,rfl,d8 ?_⟩,tq⟩ fun i hi=> ?_
 ·show Zj ((t.length/8:Nat):Int).toNat (Value.int .u8 0)=_;rw[Zd,AF,P4]
 refine b8 (fun h=> ?_) (fun h=> ?_)
 ·have a8:i<t.length:=(by omega);obtain⟨g1,g2⟩:=hall i a8;refine⟨by omega,by omega,?_⟩;refine⟨_,by rw[Zd];exact S3 a8,?_⟩;refine b8 (fun h=> ?_) (fun h=> ?_)
  ·omega
  refine⟨by omega,by omega,?_⟩;refine⟨_,by rw[Zd];exact S3 a8,?_⟩;refine b8 (fun h=> ?_) (fun h=> ?_)
  ·rw[e8]at h;omega
  have e2:I6.wrap ((i:Int).tdiv 8)=((i/8:Nat):Int):=by
   rw[Zn (by omega),Za _ (by omega)];omega
  have e3:IntKind.u64.wrap (I6.wrap (7-(i:Int).tmod 8))=((7-i%8:Nat):Int):=by
   rw[Zr (by omega),Za _ (by omega),B5];omega
  refine⟨by omega,by omega,?_⟩;refine⟨_,by rw[Zd];exact S3 a8,?_⟩;refine⟨[],_,_,_,_,wX (b:=b) rfl rfl hl hm g1 g2,rfl,rfl,?_⟩;refine i9 (fun h=> ?_) (fun h=> ?_)
  ·have htb:tb b (t.getD i 0-1)=true:=by
    cases he:tb b (t.getD i 0-1)
    ·rw[he]at h;exact absurd h (by decide)
    ·rfl
   refine⟨by decide,by decide,by rw[e2];omega,by rw[e2];omega,?_⟩;refine⟨_,by rw[e2,Zd,Zg,Zi];exact y7 (by rw[iu];omega),?_⟩;refine⟨by decide,by rw[e3];omega,by rw[e2];omega,by rw[e2];omega,by rw[e2,f9,iu];omega,?_⟩;refine⟨i+1,by omega,by omega,[.k 0],⟨rfl,rfl,rfl,c9 (by simp(disch:=omega)only[Za];omega),tq⟩,⟨_,rfl,d8 ?_⟩,tq⟩;have hs:=AE (t:=t) (b:=b) (i:=i) a8 (by omega);rw[htb]at hs;rw[e2,e3,Zd,Zg,Zi,Tp _ (by omega),qd,K3,hs]
  ·have htb:tb b (t.getD i 0-1)=false:=by
    cases he:tb b (t.getD i 0-1)
    ·rfl
    ·rw[he]at h;exact absurd rfl h
   refine⟨i+1,by omega,by omega,[.k 0],⟨rfl,rfl,rfl,c9 (by simp(disch:=omega)only[Za];omega),tq⟩,⟨_,rfl,d8 ?_⟩,tq⟩;rw[Tb htb]
 ·obtain rfl:i=t.length:=(by omega);refine⟨_,rfl,[.k 0],rfl,⟨_,rfl,d8 ?_⟩,tq⟩;rw[AD]
theorem iZ {va vt:List Value} {b:Bs} {t:List Nat} {l n:Nat} (ha:va=bv b) (hvt:vt=nv t) (hl:b.length=l) (ht:t.length=n) (hm:l<=1000000) (hn:n<=1000000) (h8:n%8=0) (hall:∀i,i<n->1<=t.getD i 0/\t.getD i 0<=8*l):a7 C 163 [.z l va,.z n vt] [] (.ret (.o 1 (.k 0) 0 (n/8))) [.sc (bv (A3 t b))]:=by
 refine NN.c ?_;refine⟨[],_,_,_,_,Hm ha hvt hl ht hm hn h8 hall,rfl,rfl,?_⟩;exact⟨_,rfl,[.d 10 0],rfl,⟨_,rfl,rfl⟩,tq⟩
theorem Hl {vt:List Value} (hv:vt=nv t5):a7 C 253 [.z 64 vt] [] (.ret (.t [.o 1 (.k 0) 0 64,bool true])) [.sc (nv aO)]:=by
 subst hv;refine NO.c ?_;refine⟨by decide,by decide,by decide,?_⟩;refine j4 (fun i=>⟨[(0,.z 64 (nv t5)),(4,.o 1 (.k 0) 0 64),(5,i64 i)],[.sc (nv (V7 t5 i))]⟩) 64 ⟨[.d 8 0],⟨rfl,rfl,rfl,tq⟩,⟨_,rfl,d8 ?_⟩,tq⟩ fun i hi=> ?_
 ·show Zj 64 _=_;rw[Ao,V7,L1];rfl
 refine b8 (fun h=> ?_) (fun h=> ?_)
 ·have a8:i<64:=(by omega);obtain⟨g1,g2,g3⟩:=zo i a8;have get:(nv t5)[((i:Int)).toNat*1]? =some (Value.int .i64 ((t5.getD i 0:Nat):Int)):=by rw[Zd,Zg];exact S3 (by rw[L1];omega)
  have get':(nv t5)[((i:Int)).toNat]? =some (Value.int .i64 ((t5.getD i 0:Nat):Int)):=by rw[Zd];exact S3 (by rw[L1];omega)
  refine⟨by omega,by omega,_,get',?_⟩;refine b8 (fun h=> ?_) (fun h=> ?_)
  ·omega
  refine⟨by omega,by omega,_,get',?_⟩;refine b8 (fun h=> ?_) (fun h=> ?_)
  ·omega
  have e1:I6.wrap (((t5.getD i 0:Nat):Int)-1)=((t5.getD i 0-1:Nat):Int):=by rw[Za _ (by omega)];omega
  refine⟨by omega,by omega,_,get',?_⟩;refine⟨by rw[e1];omega,by rw[e1];omega,?_⟩;refine⟨_,by rw[e1,Zd,Zg,Zi];exact S3 (by rw[mf,L1];omega),?_⟩;refine n7 (fun h=> ?_) (fun h=> ?_)
  ·rw[g3]at h;exact absurd rfl h
  refine⟨by omega,by omega,_,get',?_⟩;refine⟨by rw[e1];omega,by rw[e1];omega,by rw[e1,G3,mf,L1];omega,?_⟩;have w1:I6.wrap ((i:Int)+1)=((i+1:Nat):Int):=by rw[Za _ (by omega)];omega
  refine⟨i+1,by omega,by omega,[.k 0],⟨rfl,rfl,c9 w1,tq⟩,⟨_,rfl,d8 ?_⟩,tq⟩;rw[e1,w1,Zd,Zg,Zi,Ap,th]
 ·obtain rfl:i=64:=(by omega);exact⟨_,rfl,[.k 0],rfl,⟨_,rfl,rfl⟩,tq⟩
theorem WN (l:List Nat) (k:Nat) (h:k<l.length):l.take (k+1)=l.take k++[l.getD k 0]:=by
 rw[List.take_add_one,Zp h,Zc,Zp h];rfl
def oL (i:Nat):Nat:=if 4<=i then 57+2*(i-4)else 58+2*i
theorem Qb:∀i,i<8->∀c,c<8->I6.wrap (((oL i:Nat):Int)-I6.wrap (8*((c:Nat):Int)))=((t5.getD (8*i+c) 0:Nat):Int):=by decide +kernel
theorem PZ:∀i,i<8->4<=i->I6.wrap (57+I6.wrap (2*I6.wrap (((i:Nat):Int)-4)))=((oL i:Nat):Int):=by decide +kernel
theorem Qa:∀i,i<8->¬4<=i->I6.wrap (58+I6.wrap (2*((i:Nat):Int)))=((oL i:Nat):Int):=by decide +kernel
theorem xc:a7 C 251 [] [] (.ret (.o 1 (.k 0) 0 64)) [.sc (nv t5)]:=by
 refine Og.c ?_;refine A5 (fun i=>⟨[(1,.o 1 (.k 0) 0 (8*i)),(2,i64 i)],[.sc (nv (t5.take (8*i)))]⟩) 8 [(1,1,.sc [])] ⟨[.d 900000 0],⟨rfl,rfl,tq⟩,⟨_,rfl,rfl⟩,tq⟩ fun i hi=> ?_;refine b8 (fun h=> ?_) (fun h=> ?_)
 ·have a8:i<8:=(by omega);refine b8 (fun h4=> ?_) (fun h4=> ?_);all_goals
   refine j4 (fun c=>⟨[(1,.o 1 (.k 0) 0 (8*i+c)),(2,i64 i),(3,i64 (oL i:Nat)),(4,i64 c)],[.sc (nv (t5.take (8*i+c)))]⟩) 8 ⟨[.k 0],⟨rfl,rfl,?_,rfl,tq⟩,⟨_,rfl,rfl⟩,tq⟩ fun c hc=> ?_
   ·first
     |exact c9 (PZ i a8 (by omega))
     |exact c9 (Qa i a8 (by omega))
   refine b8 (fun h=> ?_) (fun h=> ?_)
   ·have hc8:c<8:=(by omega);have hl:8*i+c<t5.length:=by rw[L1];omega
    refine⟨Zh _,by omega,by rw[G3,Zf];omega,?_⟩;refine⟨c+1,by omega,by omega,[.d 28 0],⟨rfl,rfl,rfl,c9 (by simp(disch:=omega)only[Za];omega),tq⟩,⟨_,rfl,d8 ?_⟩,tq⟩;rw[Qb i a8 c hc8,Zg];show sub (nv (t5.take (8*i+c))) 0 (8*i+c)++[Value.int .i64 ((t5.getD (8*i+c) 0:Nat):Int)]=_;rw[iq (by rw[Zf];omega),<-WN _ _ hl];rfl
   ·obtain rfl:c=8:=(by omega);refine⟨i+1,by omega,by omega,[.k 0],⟨rfl,c9 (by simp(disch:=omega)only[Za];omega),tq⟩,⟨_,rfl,rfl⟩,tq⟩
 ·obtain rfl:i=8:=(by omega);refine⟨_,rfl,[.k 0],rfl,⟨_,rfl,d8 ?_⟩,tq⟩;rw[Jc (by rw[L1];decide)]
theorem HD:a7 C 268 [] [] (.ret (.o 1 (.k 0) 0 48)) [.sc (nv (M2 48))]:=by
 refine Ok.c ?_;refine A5 (fun i=>⟨[(1,.o 1 (.k 0) 0 i),(2,i64 i)],[.sc (nv (M2 i))]⟩) 48 [(1,1,.sc [])] ⟨[.d 900000 0],⟨rfl,rfl,tq⟩,⟨_,rfl,rfl⟩,tq⟩ fun i hi=> ?_;refine b8 (fun h=> ?_) (fun h=> ?_)
 ·have a8:i<48:=(by omega);refine⟨by decide,by decide,by decide,?_⟩;refine⟨Zh _,by omega,by rw[G3,dt];omega,?_⟩;refine⟨i+1,by omega,by omega,[.d 18 0],⟨rfl,c9 (by simp(disch:=omega)only[Za];omega),tq⟩,⟨_,rfl,d8 ?_⟩,tq⟩;rw[DJ i a8,Zg];show sub (nv (M2 i)) 0 i++[Value.int .i64 (((4*(i/6)+i%6+31)%32+1:Nat):Int)]=_;rw[iq (dt _),DI]
 ·obtain rfl:i=48:=(by omega);exact⟨_,rfl,[.k 0],rfl,⟨_,rfl,rfl⟩,tq⟩
theorem Hy:a7 C 271 [] [] (.ret (.o 1 (.k 0) 0 32)) [.sc (nv iA)]:=
 Oi.c ⟨_,rfl,[.d 1 0],rfl,⟨_,rfl,rfl⟩,tq⟩
theorem Hx:a7 C 164 [] [] (.ret (.o 1 (.k 0) 0 48)) [.sc (nv W9)]:=
 Oh.c ⟨_,rfl,[.d 1 0],rfl,⟨_,rfl,rfl⟩,tq⟩
theorem zq {l:List Int} {n:Nat} {x:Int} (h:l.length=n):sub (iv l) 0 n++[Value.int .i64 x]=iv (l++[x]):=by
 rw[S2 h];simp[iv]
theorem Hw:a7 C 162 [] [] (.ret (.o 1 (.k 0) 0 56)) [.sc (nv bG)]:=by
 have b1:∀k,k<=28-> -100<=u7 57 8 57 k/\u7 57 8 57 k<=100:=by decide +kernel
 have b2:∀k,k<=24-> -100<=u7 63 8 55 k/\u7 63 8 55 k<=100:=by decide +kernel
 refine Od.c ?_;refine A5 (fun i=>⟨[(1,.o 1 (.k 0) 0 i),(2,i64 (u7 57 8 57 i))],[.sc (iv (A2 57 8 57 i))]⟩) 28 [(1,1,.sc [])] ⟨[.d 900000 0],⟨rfl,rfl,tq⟩,⟨_,rfl,rfl⟩,tq⟩ fun i hi=> ?_;have q1:=b1 i hi;have w1:I6.wrap (u7 57 8 57 i-8)=u7 57 8 57 i-8:=Za _ (by omega);refine b8 (fun h=> ?_) (fun h=> ?_)
 ·have a8:i<28:=(by omega);refine⟨Zh _,by omega,by rw[G9,cY];omega,?_⟩;have hz:(sub (iv (A2 57 8 57 i)) 0 (i*1)++sub [Value.int .i64 (u7 57 8 57 i)] 0 (1*1))=iv (A2 57 8 57 (i+1)):=by
   rw[Zg,oj];exact zq (cY _ _ _ _)
  refine b8 (fun h1=> ?_) (fun h1=> ?_)
  ·rw[w1]at h1;refine⟨i+1,by omega,by omega,[.d 9 0],⟨rfl,c9 ?_,tq⟩,⟨_,rfl,d8 hz⟩,tq⟩;rw[w1,Za _ (by omega),u7,if_pos h1];rfl
  ·rw[w1]at h1;refine⟨i+1,by omega,by omega,[.d 9 0],⟨rfl,c9 ?_,tq⟩,⟨_,rfl,d8 hz⟩,tq⟩;rw[w1,u7,if_neg h1]
 ·obtain rfl:i=28:=(by omega);refine j4 (fun j=>⟨[(1,.o 1 (.k 0) 0 (28+j)),(2,i64 (u7 63 8 55 j))],[.sc (iv (A2 57 8 57 28++A2 63 8 55 j))]⟩) 24 ⟨[.k 0],⟨rfl,rfl,tq⟩,⟨_,rfl,rfl⟩,tq⟩ fun j hj=> ?_;have q2:=b2 j hj;have w2:I6.wrap (u7 63 8 55 j-8)=u7 63 8 55 j-8:=Za _ (by omega);have hl:(A2 57 8 57 28++A2 63 8 55 j).length=28+j:=by rw[Zb,cY,cY]
  refine b8 (fun h=> ?_) (fun h=> ?_)
  ·have a8:j<24:=(by omega);refine⟨Zh _,by omega,by rw[G9,hl];omega,?_⟩;have hz:(sub (iv (A2 57 8 57 28++A2 63 8 55 j)) 0 ((28+j)*1)++sub [Value.int .i64 (u7 63 8 55 j)] 0 (1*1))=iv (A2 57 8 57 28++A2 63 8 55 (j+1)):=by
    rw[Zg,oj 63,<-Jj];exact zq hl
   refine b8 (fun h1=> ?_) (fun h1=> ?_)
   ·rw[w2]at h1;refine⟨j+1,by omega,by omega,[.d 22 0],⟨rfl,c9 ?_,tq⟩,⟨_,rfl,d8 hz⟩,tq⟩;rw[w2,Za _ (by omega),u7,if_pos h1];rfl
   ·rw[w2]at h1;refine⟨j+1,by omega,by omega,[.d 22 0],⟨rfl,c9 ?_,tq⟩,⟨_,rfl,d8 hz⟩,tq⟩;rw[w2,u7,if_neg h1]
  ·obtain rfl:j=24:=(by omega);refine⟨by decide,by decide,by rw[G9,hl];decide,?_⟩;refine⟨_,rfl,[.d 31 0],rfl,⟨_,rfl,d8 ?_⟩,tq⟩;rw[<-BE];show sub (iv (A2 57 8 57 28++A2 63 8 55 24)) 0 52++iv [28,20,12,4]=iv H7;rw[S2 hl,mh];rfl
theorem HC {s:Nat} (hs:s<8):a7 C 270 [i64 s] [] (.ret (.o 1 (.k 0) 0 4)) [.sc [L8 (M7 s 0),L8 (M7 s 1),L8 (M7 s 2),L8 (M7 s 3)]]:=by
 rcases s with _|_|_|_|_|_|_|_|s
 ·exact fw.c ⟨_,rfl,[.d 6 0],rfl,⟨_,rfl,rfl⟩,tq⟩
 ·exact fw.c ⟨_,rfl,[.d 9 0],rfl,⟨_,rfl,rfl⟩,tq⟩
 ·exact fw.c ⟨_,rfl,[.d 12 0],rfl,⟨_,rfl,rfl⟩,tq⟩
 ·exact fw.c ⟨_,rfl,[.d 15 0],rfl,⟨_,rfl,rfl⟩,tq⟩
 ·exact fw.c ⟨_,rfl,[.d 18 0],rfl,⟨_,rfl,rfl⟩,tq⟩
 ·exact fw.c ⟨_,rfl,[.d 21 0],rfl,⟨_,rfl,rfl⟩,tq⟩
 ·exact fw.c ⟨_,rfl,[.d 24 0],rfl,⟨_,rfl,rfl⟩,tq⟩
 ·exact fw.c ⟨_,rfl,[.d 25 0],rfl,⟨_,rfl,rfl⟩,tq⟩
 ·omega
theorem Wb {s r:Nat} (hr:r<4):([L8 (M7 s 0),L8 (M7 s 1),L8 (M7 s 2),L8 (M7 s 3)]:List Value)[r]? =some (L8 (M7 s r)):=by
 rcases r with _|_|_|_|r;all_goals first|rfl|omega
def cV (x:Bs) (s:Nat):Nat->Nat
 |0=>0
 |k+1=>2*cV x s k+(tb x (6*s+k)).toNat
theorem sx (x s):∀k,cV x s k<2^k
 |0=>by show 0<1;omega
 |k+1=>by
  have:=ae (tb x (6*s+k));have:=sx x s k;unfold cV;rw[Nat.pow_succ];omega
theorem Ly (x s):cV x s 6/32*2+cV x s 6%2=dO x s/\cV x s 6/2%16=bW x s 4:=by
 have h0:=ae (tb x (6*s+0));have h1:=ae (tb x (6*s+1));have h2:=ae (tb x (6*s+1+1));have h3:=ae (tb x (6*s+1+2));have h4:=ae (tb x (6*s+1+3));have h5:=ae (tb x (6*s+5));have e6:cV x s 6=2*(2*(2*(2*(2*(2*0+(tb x (6*s+0)).toNat)+(tb x (6*s+1)).toNat)+(tb x (6*s+1+1)).toNat)+(tb x (6*s+1+2)).toNat)+(tb x (6*s+1+3)).toNat)+(tb x (6*s+5)).toNat:=rfl;have e4:bW x s 4=2*(2*(2*(2*0+(tb x (6*s+1+0)).toNat)+(tb x (6*s+1+1)).toNat)+(tb x (6*s+1+2)).toNat)+(tb x (6*s+1+3)).toNat:=rfl;have er:dO x s=2*(tb x (6*s)).toNat+(tb x (6*s+5)).toNat:=rfl;rw[Nat.add_zero]at h0 e4 e6;omega
theorem Tn:∀d,d<16->∀j,j<=1->U8.wrap (I6.wrap (((d:Nat):Int)*2^(min ((4*j:Nat):Int).toNat I6.bits)))=(((Zq (d*16^j)).toNat:Nat):Int):=by decide +kernel
theorem Wi:∀v,v<64->I6.wrap (I6.wrap (I6.wrap (((v:Nat):Int).tdiv 32)*2)+((v:Nat):Int).tmod 2)=((v/32*2+v%2:Nat):Int)/\(I6.wrap (((v:Nat):Int).tdiv 2)).tmod 16=((v/2%16:Nat):Int):=by decide +kernel
theorem Ht {va vk:List Value} {r k:Bs} (ha:va=bv r) (hk:vk=bv k) (hr:r.length=4) (hkl:k.length=6):a7 C 252 [.z 4 va,.z 6 vk] [] (.ret (.t [.o 1 (.k 0) 0 4,bool true])) [.sc (bv (dF r k))]:=by
 have hp:(A3 (M2 48) r).length=6:=by rw[dl,dt]
 have hx:(f6 (A3 (M2 48) r) k).length=6:=t9 hp hkl;generalize hxe:f6 (A3 (M2 48) r) k=x at hx;refine NY.c ?_;refine⟨[],_,_,_,_,HD,rfl,rfl,?_⟩;refine⟨[],_,_,_,_,iZ (b:=r) (t:=M2 48) (n:=48) ha (C9 (dt _)) hr (dt _) (by decide) (by decide) (by decide) (by decide +kernel),rfl,rfl,?_⟩;refine⟨[],_,_,_,_,D5 (a:=A3 (M2 48) r) (b:=k) (b9 hp) hk hp hkl (by decide),rfl,rfl,?_⟩;rw[hxe];refine⟨by decide,by decide,by decide,?_⟩;refine j4 (fun i=>⟨[(6,.z 6 (bv x)),(7,.o 1 (.k 0) 0 4),(8,i64 i)],[.sc (bv (H8 x i))]⟩) 8 ⟨[.d 25 0],⟨?_,rfl,rfl,tq⟩,⟨_,rfl,d8 ?_⟩,tq⟩ fun i hi=> ?_
 ·show V.z 6 (sub (bv x) 0 6)=_;rw[b9 hx]
 ·rfl
 refine b8 (fun h=> ?_) (fun h=> ?_)
 ·have a8:i<8:=(by omega);refine j4 (fun k=>⟨[(6,.z 6 (bv x)),(7,.o 1 (.k 0) 0 4),(8,i64 i),(9,i64 (cV x i k:Nat)),(10,i64 (k+1:Nat))],[.sc (bv (H8 x i))]⟩) 6 ⟨[.k 0],⟨rfl,rfl,rfl,rfl,rfl,tq⟩,⟨_,rfl,rfl⟩,tq⟩ fun k hk=> ?_;refine b8 (fun h=> ?_) (fun h=> ?_)
  ·have hk6:k<6:=(by omega);have p3:I6.wrap (I6.wrap (6*(i:Int))+((k+1:Nat):Int))=((6*i+k+1:Nat):Int):=by
    rw[Za (6*(i:Int)) (by omega),Za _ (by omega)];omega
   refine⟨[],_,_,_,_,wX (n:=6*i+k+1) (b:=x) p3 rfl hx (by decide) (by omega) (by omega),rfl,rfl,?_⟩;have hb:=ae (tb x (6*i+k+1-1));have hc:=sx x i k;have hc2:2^k<=2^5:=Z3 (by decide) (by omega);refine⟨k+1,by omega,by omega,[.k 0],⟨rfl,rfl,rfl,c9 ?_,c9 (by simp(disch:=omega)only[Za];omega),tq⟩,⟨_,rfl,rfl⟩,tq⟩;rw[Za (2*((cV x i k:Nat):Int)) (by omega),Za _ (by omega)];show _=((2*cV x i k+(tb x (6*i+k+1-1)).toNat:Nat):Int);omega
  ·obtain rfl:k=6:=(by omega);obtain⟨v1,v2⟩:=Wi _ (sx x i 6);obtain⟨r1,r2⟩:=Ly x i;rw[r1]at v1;rw[r2]at v2;have e2:I6.wrap ((i:Int).tdiv 2)=((i/2:Nat):Int):=by
    rw[Zn (by omega),Za _ (by omega)];omega
   have e3:IntKind.u64.wrap (I6.wrap (4-I6.wrap (4*(i:Int).tmod 2)))=((4*(1-i%2):Nat):Int):=by
    rw[Zr (by omega),Za (4*((i:Int)%2)) (by omega),Za _ (by omega),B5];omega
   have hcl:=kX x i 4;obtain⟨o1,o2⟩:=sw i a8 _ (jm x i);refine⟨[],_,_,_,_,HC a8,rfl,rfl,?_⟩;refine⟨by decide,by decide,by rw[v1];omega,by rw[v1];have:=jm x i;omega,?_⟩;refine⟨_,by rw[v1,Zd,Zg,Zi];exact Wb (jm x i),?_⟩;refine⟨by decide,by decide,?_⟩;refine⟨[],_,_,_,_,nq (l:=M7 i (dO x i)) (j:=bW x i 4) rfl v2 (by rw[o1];exact hcl) (o2 _ hcl),rfl,rfl,?_⟩;refine⟨by decide,by decide,by rw[e2];omega,by rw[e2];omega,?_⟩;refine⟨_,by rw[e2,Zd,Zg,Zi];exact y7 (by rw[jl];omega),?_⟩;refine⟨by decide,by rw[e3];omega,by rw[e2];omega,by rw[e2];omega,by rw[e2,f9,jl];omega,?_⟩;refine⟨i+1,by omega,by omega,[.k 0],⟨rfl,rfl,c9 (by simp(disch:=omega)only[Za];omega),tq⟩,⟨_,rfl,d8 ?_⟩,tq⟩;rw[e2,e3,Zd,Zg,Zi];show(bv (H8 x i)).set (i/2) (.int .u8 (U8.wrap ((Jq U8.bits (((H8 x i).getD (i/2) 0).toNat:Int)|||Jq U8.bits (U8.wrap (I6.wrap (((dS x i:Nat):Int)*2^(min ((4*(1-i%2):Nat):Int).toNat I6.bits))))).toNat:Int)))=bv (H8 x (i+1));rw[Tn _ (nZ a8) _ (by omega),qd,K3,yd a8]
 ·obtain rfl:i=8:=(by omega);refine⟨[],_,_,_,_,Hy,rfl,rfl,?_⟩;have hm:iA.length=32:=rfl;have h8:=jl x 8;refine⟨[],_,_,_,_,iZ (b:=H8 x 8) (t:=iA) (n:=32) (b9 h8) (C9 hm) h8 hm (by decide) (by decide) (by decide) (by decide +kernel),rfl,rfl,?_⟩;refine⟨_,rfl,[.d 77 0],rfl,⟨_,rfl,d8 ?_⟩,tq⟩;rw[dF,hxe]
theorem Sv {n:Nat} {f g:Nat->Bool} (h:∀j,j<8*n->f j=g j):W1 n f=W1 n g:=by
 apply mN (by rw[eC,eC]);intro j hj;rw[eC]at hj;rw[eO hj,eO hj,h j hj]
theorem uf {t u:List Nat} {b:Bs} (h8:t.length%8=0) (hu:∀j,j<u.length->1<=u.getD j 0/\u.getD j 0<=t.length):A3 u (A3 t b)=A3 (u.map fun k=>t.getD (k-1) 0) b:=by
 unfold A3;rw[Jr];apply Sv;intro j hj;have hj':j<u.length:=by omega
 obtain⟨h1,h2⟩:=hu j hj';rw[eO (by omega)];congr 2;simp[Zc,hj']
def V5:Nat->Nat
 |0=>0
 |i+1=>V5 i+iW i
def iB (i n:Nat):List Nat:=(List.range n).map fun j=>bG.getD (28*(j/28)+(j%28+V5 (i+1))%28) 0
theorem Yt (i n):iB i (n+1)=iB i n++[bG.getD (28*(n/28)+(n%28+V5 (i+1))%28) 0]:=by simp[iB,Zo]
theorem Dz (i n):(iB i n).length=n:=by simp[iB]
theorem Yu:∀i,i<16->iB i 56=K6 (i+1):=by decide +kernel
theorem wr:∀i,i<17->V5 i<=28:=by decide +kernel
theorem Lz:∀i,i<17->∀j,j<56->1<=(K6 i).getD j 0/\(K6 i).getD j 0<=8*8:=by decide +kernel
theorem Lr {key:Bs} {i:Nat} (hi:i<16):A3 W9 (A3 (K6 (i+1)) key)=V6 key i:=by
 have hl:=jn (i+1) (by omega);rw[uf (by rw[hl]) (by rw[pX,hl];exact uE),V6];congr 1
theorem xd {va:List Value} {key:Bs} (ha:va=bv key) (hk:key.length=8):a7 C 109 [.z 8 va] [] (.ret (.t [.zz 1 16 (kV (B1 key 16)),i64 0])) []:=by
 subst ha;have hl0:bG.length=56:=by decide +kernel
 refine Oa.c ?_;refine⟨[],_,_,_,_,Hw,rfl,rfl,?_⟩;refine A5 (fun i=>⟨[(0,.z 8 (bv key)),(4,.z 56 (nv bG)),(5,i64 (V5 i:Nat)),(6,.o 1 (.k 0) 0 i),(7,i64 (i+1:Nat))],[.mx (kV (B1 key i))]⟩) 16 [(6,1,.mx [])] ⟨[.d 900000 0],⟨rfl,?_,rfl,rfl,rfl,tq⟩,⟨_,rfl,rfl⟩,tq⟩ fun i hi=> ?_
 ·show V.z 56 (sub (nv bG) 0 56)=_;rw[C9 hl0]
 refine b8 (fun h=> ?_) (fun h=> ?_)
 ·have a8:i<16:=(by omega);have hb:=wr i (by omega);have hb1:=wr (i+1) (by omega);have one:∀k:Nat,(((i+1:Nat):Int)=(k:Int))->i+1=k:=fun k h=>by omega
  refine i9 (fun h1=> ?_) (fun h1=>i9 (fun h2=> ?_) (fun h2=>i9 (fun h3=> ?_) (fun h3=>i9 (fun h4=> ?_) (fun h4=> ?_))));all_goals
   first
    |have hs:V5 (i+1)=V5 i+1:=by rw[V5,iW,if_pos (by omega)]
    |have hs:V5 (i+1)=V5 i+2:=by rw[V5,iW,if_neg (by omega)]
   refine A5 (fun j=>⟨[(0,.z 8 (bv key)),(4,.z 56 (nv bG)),(5,i64 (V5 (i+1):Nat)),(6,.o 1 (.k 0) 0 i),(7,i64 (i+1:Nat)),(8,.o 1 (.k 1) 0 j),(9,i64 j)],[.mx (kV (B1 key i)),.sc (nv (iB i j))]⟩) 56 [(8,1,.sc [])] ⟨[.k 0,.d 900000 0],⟨rfl,rfl,c9 ?_,rfl,rfl,rfl,rfl,tq⟩,⟨_,rfl,?_⟩,⟨_,rfl,rfl⟩,tq⟩ fun j hj=> ?_
   ·first
     |(rw [Za (((V5 i:Nat):Int)+2) (by omega),Za _ (by omega)];omega)
     |(rw [Za _ (by omega)];omega)
   ·show B.mx ((kV _).map _)=_;rw[jz]
   refine b8 (fun h=> ?_) (fun h=> ?_)
   ·have hj':j<56:=(by omega);have e0:I6.wrap (I6.wrap ((j:Int).tdiv 28)*28)=((28*(j/28):Nat):Int):=by
     rw[Zn (by omega),Za ((j:Int)/28) (by omega),Za _ (by omega)];omega
    have e1:I6.wrap (I6.wrap (I6.wrap ((j:Int).tdiv 28)*28)+(I6.wrap (I6.wrap ((j:Int)-I6.wrap (I6.wrap ((j:Int).tdiv 28)*28))+((V5 (i+1):Nat):Int))).tmod 28)=((28*(j/28)+(j%28+V5 (i+1))%28:Nat):Int):=by
     rw[e0,Za ((j:Int)-((28*(j/28):Nat):Int)) (by omega),Za (((j:Int)-((28*(j/28):Nat):Int))+_) (by omega),Zr (by omega),Za _ (by omega)];omega
    refine⟨by decide,by decide,by rw[e1];omega,by rw[e1];omega,?_⟩;refine⟨_,by rw[e1,Zd];exact S3 (by rw[hl0];omega),?_⟩;refine⟨Zh _,by omega,by rw[G3,Dz];omega,?_⟩;refine⟨j+1,by omega,by omega,[.k 0,.d 57 0],⟨rfl,rfl,rfl,rfl,rfl,rfl,c9 (by simp(disch:=omega)only[Za];omega),tq⟩,⟨_,rfl,?_⟩,⟨_,rfl,d8 ?_⟩,tq⟩
    ·show B.mx ((kV _).map _)=_;rw[jz]
    ·rw[Yt,Zg];exact iq (Dz _ _)
   ·obtain rfl:j=56:=(by omega);refine⟨[],_,_,_,_,iZ (b:=key) (t:=K6 (i+1)) (n:=56) rfl (by rw[Yu i a8];exact C9 (jn _ (by omega))) hk (jn _ (by omega)) (by decide) (by decide) (by decide) (Lz _ (by omega)),rfl,rfl,?_⟩;refine⟨[],_,_,_,_,Hx,rfl,rfl,?_⟩;have h7:(A3 (K6 (i+1)) key).length=7:=by rw[dl,jn _ (by omega)]
    refine⟨[],_,_,_,_,iZ (b:=A3 (K6 (i+1)) key) (t:=W9) (n:=48) (b9 h7) (C9 pX) h7 pX (by decide) (by decide) (by decide) uE,rfl,rfl,?_⟩;rw[Lr a8];have hz:V.z 6 (sub (bv (V6 key i)) 0 6)= .z 6 (bv (V6 key i)):=by rw[b9 (su _ _)]
    refine⟨by decide,by omega,by rw[bo,fi];omega,?_⟩;refine⟨i+1,by omega,by omega,[.d 65 0],⟨rfl,rfl,rfl,rfl,c9 (by simp(disch:=omega)only[Za];omega),tq⟩,⟨_,rfl,?_⟩,tq⟩;show B.mx (Jx (l7 _ _ 6) (sub (kV (B1 key i)) 0 (i*1)++[V.o 1 _ _ _]))= .mx (kV (B1 key (i+1)));rw[Zg,E0 (by rw[bo,fi]),Zw,jz,yc key i,show kV (B1 key i++[V6 key i])=kV (B1 key i)++[V.z 6 (bv (V6 key i))] from Zw];exact congrArg (fun z=>B.mx (kV (B1 key i)++[z])) hz
 ·obtain rfl:i=16:=(by omega);refine⟨_,rfl,[],?_,tq⟩;exact congrArg (fun z=>V.t [V.zz 1 16 z,i64 0]) ((congrArg (Jx _) (E0 (by rw[bo,fi]))).trans (zx _ _ _ 2))
theorem AZ {ks:List (Bs)} {i:Nat} (hi:i<ks.length):ks.reverse.getD i []=ks.getD (ks.length-1-i) []:=by
 rw[Zc,Jt hi,Zc]
theorem nH {va:List Value} {xs:List V} {b:Bs} {ks:List (Bs)} {back:Bool} (ha:va=bv b) (hx:xs=kV ks) (hb:b.length=8) (hn:ks.length=16) (hk:fP ks):
  a7 C 209 [.zz 1 16 xs,.z 8 va,bool back] [] (.ret (.o 1 (.k 0) 0 8)) [.sc (bv (C2 (if back then ks.reverse else ks) b))]:=by
 subst ha;subst hx;generalize hq:(if back then ks.reverse else ks)=q;have hqn:q.length=16:=by subst hq;split<;>simp[hn]
 have hqk:fP q:=by subst hq;split;exact pw hk;exact hk
 have hl:=nW (ks:=q) (kY b).1 (kY b).2;refine Oj.c ?_;refine⟨[],_,_,_,_,xc,rfl,rfl,?_⟩;refine⟨[],_,_,_,_,iZ (b:=b) (t:=t5) (n:=64) rfl (C9 L1) hb L1 (by decide) (by decide) (by decide) uG,rfl,rfl,?_⟩;refine⟨by decide,by decide,by decide,by decide,?_⟩;refine⟨by decide,by decide,by decide,by decide,?_⟩;refine j4 (fun i=>⟨[(0,.zz 1 16 (kV ks)),(2,bool back),(8,.z 4 (bv (dN q (u6 b) i).1)),(9,.z 4 (bv (dN q (u6 b) i).2)),(10,i64 i)],[]⟩) 16 ⟨[],⟨rfl,rfl,?_,?_,rfl,tq⟩,tq⟩ fun i hi=> ?_
 ·exact congrArg (V.z 4) (k5 _ _ _)
 ·exact congrArg (V.z 4) (k5 _ _ _)
 refine b8 (fun h=> ?_) (fun h=> ?_)
 ·have a8:i<16:=(by omega);have w15:I6.wrap (15-(i:Int))=((15-i:Nat):Int):=by rw[Za _ (by omega)];omega
  have get:(kV ks)[(((if back then 15-i else i:Nat):Int)).toNat*1]? =some (.z 6 (bv (q.getD i []))):=by
   rw[Zd,Zg];have:(if back then 15-i else i)<ks.length:=by split<;>omega
   rw[oW (getD_some (d:=[]) this)];subst hq;cases back
   ·rfl
   ·rw[if_pos rfl,if_pos rfl,AZ (by omega),hn]
  have fin:bv (f6 (dN q (u6 b) i).1 (dF (dN q (u6 b) i).2 (q.getD i [])))=bv (dN q (u6 b) (i+1)).2:=by rw[kZ];rfl
  have fin1:(dN q (u6 b) i).2=(dN q (u6 b) (i+1)).1:=by rw[kZ];rfl
  cases back;all_goals
   first
    |refine⟨by omega,by omega,_,get,?_⟩
    |(refine ⟨by rw[w15];omega,by rw[w15];omega,_,by rw[w15];exact get,?_⟩)
   refine⟨[],_,_,_,_,Ht (r:=(dN q (u6 b) i).2) (k:=q.getD i []) rfl rfl (hl i).2 (hqk i (by omega)),rfl,rfl,?_⟩;refine⟨[],_,_,_,_,D5 (a:=(dN q (u6 b) i).1) (b:=dF (dN q (u6 b) i).2 (q.getD i [])) rfl (b9 (dL _ _)) (hl i).1 (dL _ _) (by decide),rfl,rfl,?_⟩;refine⟨i+1,by omega,by omega,[],⟨rfl,rfl,congrArg (fun z=>V.z 4 (bv z)) fin1,?_,c9 (by simp(disch:=omega)only[Za];omega),tq⟩,tq⟩;show V.z 4 (sub (bv _) 0 4)=_;rw[b9 (t9 (hl i).1 (dL _ _)),fin]
 ·obtain rfl:i=16:=(by omega);refine⟨[],_,_,_,_,xc,rfl,rfl,?_⟩;refine⟨[],_,_,_,_,Hl (C9 L1),rfl,rfl,?_⟩;refine⟨by rw[f9,(hl 16).2],by decide,by decide,?_⟩;refine⟨by rw[f9,(hl 16).1],by decide,by rw[Zb,f9,(hl 16).2];decide,?_⟩;have h8:((dN q (u6 b) 16).2++(dN q (u6 b) 16).1).length=8:=by rw[Zb,(hl 16).1,(hl 16).2]
  refine⟨[],_,_,_,_,iZ (b:=(dN q (u6 b) 16).2++(dN q (u6 b) 16).1) (t:=aO) (l:=8) (n:=64) ?_ (C9 gp) h8 gp (by decide) (by decide) (by decide) uF,rfl,rfl,?_⟩
  ·show sub (sub ([]++bv (dN q (u6 b) 16).2) 0 4++bv (dN q (u6 b) 16).1) 0 8=_;rw[Zl,b9 (hl 16).2,z5,b9 h8]
  refine⟨_,rfl,[.d 55 0],rfl,⟨_,rfl,d8 ?_⟩,tq⟩;rw[C2,hqn]
def dE (ks:List (List (Bs))) (back:Bool) (b:Bs) (i:Nat):D:=match i with
 |0=>⟨[(0,bX ks),(1,.z 8 (bv b)),(2,bool back),(8,i64 0)],[]⟩
 |i+1=>⟨[(0,bX ks),(1,.o 1 (.k 0) 0 8),(2,bool back),(8,i64 (i+1:Nat))],[.sc (bv (I3 ks back b (i+1)))]⟩
theorem Hv {va:List Value} {b:Bs} {ks:List (List (Bs))} {back:Bool} (ha:va=bv b) (hb:b.length=8) (hk:tU ks) (h0:0<ks.length):
  a7 C 153 [bX ks,.z 8 va,bool back] [] (y4 8) [.sc (bv (I3 ks back b ks.length))]:=by
 subst ha;have m6:=sr (ks:=ks) (back:=back) hb;obtain⟨h3,hk⟩:=hk;refine yA.c ?_;refine j4 (dE ks back b) ks.length ⟨[],⟨rfl,rfl,rfl,rfl,tq⟩,tq⟩ fun i hi=> ?_;have e1:I6.wrap (I6.wrap ((ks.length:Int)-1)-(i:Int))=((ks.length-1-i:Nat):Int)\/ks.length<=i:=by
  by_cases h:i<ks.length
  ·left;rw[Za ((ks.length:Int)-1) (by omega),Za _ (by omega)];omega
  ·right;omega
 rcases i with _|i
 ·refine⟨_,rfl,?_⟩;refine b8 (fun h=> ?_) (fun h=>absurd h (by omega));have e1:I6.wrap (I6.wrap ((ks.length:Int)-1)-0)=((ks.length-1-0:Nat):Int):=e1.resolve_right (by omega);cases back
  ·obtain⟨k1,k2⟩:=hk 0 h0;refine⟨_,rfl,by omega,by omega,_,fE (getD_some (d:=[]) h0),?_⟩;refine⟨[],_,_,_,_,nH (b:=b) (ks:=ks.getD 0 []) rfl rfl hb k1 k2,rfl,rfl,?_⟩;refine⟨1,by omega,by omega,[.d 44 0],⟨rfl,rfl,rfl,rfl,tq⟩,⟨_,rfl,d8 ?_⟩,tq⟩;rfl
  ·obtain⟨k1,k2⟩:=hk (ks.length-1-0) (by omega);refine⟨_,rfl,_,rfl,by rw[e1];omega,by rw[e1];omega,_,by rw[e1,Zd,Zg];exact fE (getD_some (d:=[]) (by omega)),?_⟩;refine⟨[],_,_,_,_,nH (b:=b) (ks:=ks.getD (ks.length-1-0) []) rfl rfl hb k1 k2,rfl,rfl,?_⟩;refine⟨1,by omega,by omega,[.d 44 0],⟨rfl,rfl,rfl,rfl,tq⟩,⟨_,rfl,d8 ?_⟩,tq⟩;rfl
 refine⟨_,rfl,?_⟩;refine b8 (fun h=> ?_) (fun h=> ?_)
 ·have a8:i+1<ks.length:=(by omega);have e1:=e1.resolve_right (by omega);have w1:I6.wrap (((i+1:Nat):Int)+1)=((i+1+1:Nat):Int):=by rw[Za _ (by omega)];omega
  have one:(((i+1:Nat):Int)==1)=decide (i+1=1):=by
   by_cases h:i+1=1
   ·rw[h];rfl
   ·rw[decide_eq_false h];exact beq_false_of_ne (by omega)
  cases back
  ·obtain⟨k1,k2⟩:=hk (i+1) a8;refine⟨_,rfl,by omega,by omega,_,by rw[Zd,Zg];exact fE (getD_some (d:=[]) a8),?_⟩;refine⟨[],_,_,_,_,nH (b:=I3 ks false b (i+1)) (ks:=ks.getD (i+1) []) (b9 (m6 _)) rfl (m6 _) k1 k2,rfl,rfl,?_⟩;refine⟨i+1+1,by omega,by omega,[.d 44 0],⟨rfl,rfl,rfl,c9 w1,tq⟩,⟨_,rfl,d8 ?_⟩,tq⟩;rw[one,nV _ _ _ (i+1)];rfl
  ·obtain⟨k1,k2⟩:=hk (ks.length-1-(i+1)) (by omega);refine⟨_,rfl,_,rfl,by rw[e1];omega,by rw[e1];omega,_,by rw[e1,Zd,Zg];exact fE (getD_some (d:=[]) (by omega)),?_⟩;refine⟨[],_,_,_,_,nH (b:=I3 ks true b (i+1)) (ks:=ks.getD (ks.length-1-(i+1)) []) (b9 (m6 _)) rfl (m6 _) k1 k2,rfl,rfl,?_⟩;refine⟨i+1+1,by omega,by omega,[.d 44 0],⟨rfl,rfl,rfl,c9 w1,tq⟩,⟨_,rfl,d8 ?_⟩,tq⟩;rw[one,nV _ _ _ (i+1)];rfl
 ·have he:i+1=ks.length:=(by omega);refine⟨_,rfl,[.k 0],rfl,⟨_,rfl,d8 ?_⟩,tq⟩;rw[he]
theorem Hu {va:List Value} {ks:List (List (Bs))} {n:Nat} {back:Bool} (hn:n≠8):a7 C 153 [bX ks,.z n va,bool back] [] P3 []:=by
 refine yA.c ?_;refine n7 (fun h=> ?_) (fun h=> ?_)
 ·exact⟨_,rfl,[],rfl,tq⟩
 ·omega
def Lt (key:Bs) (m:Nat) (i:Nat):D:=match i with
 |0=>⟨[(0,.z m (bv key)),(4,.p (.k 0) 0),(5,i64 0)],[.mx [g8]]⟩
 |i+1=>⟨[(0,.z m (bv key)),(4,.p (.k 0) 0),(5,i64 (8*(i+1):Nat))],[.mx [.o 1 (.k 1) 0 (i+1)],.pl (E8 (K5 key (i+1)))]⟩
theorem Hz {va:List Value} {key:Bs} {m n:Nat} (ha:va=bv key) (hk:key.length=m) (hm:m=8*n) (hn:1<=n/\n<=3):a7 C 54 [.z m va] [] (.ret (.t [bX (E7 key n),i64 0])) []:=by
 subst ha;refine Ob.c ?_;refine n7 (fun h1=>n7 (fun h2=>n7 (fun h3=>absurd h3 (by omega)) (fun h3=> ?_)) (fun h2=> ?_)) (fun h1=> ?_);all_goals
  refine j4 (Lt key m) n ⟨[.d 22 0],⟨rfl,rfl,rfl,tq⟩,⟨_,rfl,rfl⟩,tq⟩ fun i hi=> ?_;rcases i with _|i
  ·refine b8 (fun h=> ?_) (fun h=>absurd h (by omega));refine⟨by decide,by decide,by decide,by decide,by show 8<=m;omega,?_⟩;refine⟨[],_,_,_,_,xd (key:=sub key (8*0) 8) (k5 _ _ _) (by rw[j5];omega),rfl,rfl,?_⟩;refine⟨_,rfl,Zh _,by decide,by decide,?_⟩;refine⟨1,by omega,by omega,[.k 0,.d 45 0],⟨rfl,rfl,rfl,tq⟩,⟨_,rfl,?_⟩,⟨_,rfl,?_⟩,tq⟩
   ·rfl
   ·exact congrArg B.pl rfl
  refine b8 (fun h=> ?_) (fun h=> ?_)
  ·have a8:i+1<n:=(by omega);have e4:I6.wrap (((8*(i+1):Nat):Int)+8)=((8*(i+1)+8:Nat):Int):=by
    rw[Za _ (by omega)];omega
   refine⟨by rw[e4];omega,by omega,by rw[e4];omega,Zh _,by rw[e4];omega,?_⟩;refine⟨[],_,_,_,_,xd (key:=sub key (8*(i+1)) 8) (va:=sub (bv key) (8*(i+1)) 8) (k5 _ _ _) (by rw[j5];omega),?_,rfl,?_⟩
   ·rw[e4];show[V.z (8*(i+1)+8-8*(i+1)) (sub (bv key) (8*(i+1)) (8*(i+1)+8-8*(i+1)))]=_;rw[Jl]
   refine⟨_,rfl,Zh _,by omega,by rw[bp,X8];omega,by show 0+0+1<=1;decide,?_⟩;refine⟨i+1+1,by omega,by omega,[.k 0,.d 45 0],⟨rfl,rfl,c9 ?_,tq⟩,⟨_,rfl,rfl⟩,⟨_,rfl,congrArg B.pl ?_⟩,tq⟩
   ·rw[e4];omega
   rw[Zg,E0 (by rw[bp,X8]),yb key (i+1)];exact(Zw (f:=fun k=>V.zz 1 16 (kV k)) (l₁:=K5 key (i+1)) (l₂:=[B1 (sub key (8*(i+1)) 8) 16])).symm
  ·have hin:i+1=n:=(by omega);refine i9 (fun h=> ?_) (fun h=> ?_)
   ·obtain rfl:i=1:=(by omega);subst hin;have hl:=fe (key:=key) hn;refine⟨_,rfl,_,rfl,by decide,by decide,_,rfl,Zh _,by decide,by rw[bp,X8];decide,by show 0+0+1<=1;decide,?_⟩;refine⟨_,rfl,[],?_,tq⟩;show V.t [V.q [V.zz 1 3 (sub (sub (E8 (K5 key 2)) 0 2++E8 [B1 (sub key 0 8) 16]) 0 3)] 0,i64 0]=V.t [V.q [V.zz 1 (E7 key 2).length (E8 (E7 key 2))] 0,i64 0];have e:sub (sub (E8 (K5 key 2)) 0 2++E8 [B1 (sub key 0 8) 16]) 0 3=E8 (E7 key 2):=by
     rw[E0 (l:=E8 (K5 key 2)) (by rw[bp,X8]),E7,if_pos rfl,E0 (by rw[Zb,bp,X8];rfl)];exact(Zw (f:=fun k=>V.zz 1 16 (kV k)) (l₁:=K5 key 2) (l₂:=[B1 (sub key 0 8) 16])).symm
    rw[hl,if_pos rfl];exact congrArg (fun z=>V.t [V.q [V.zz 1 3 z] 0,i64 0]) e
   ·have hl:=fe (key:=key) hn;rw[if_neg (by omega)]at hl;refine⟨_,rfl,[],?_,tq⟩;show V.t [V.q [V.zz 1 (i+1) (sub (E8 (K5 key (i+1))) 0 ((i+1)*1))] 0,i64 0]=V.t [V.q [V.zz 1 (E7 key n).length (E8 (E7 key n))] 0,i64 0];rw[hl,hin];have e:sub (E8 (K5 key n)) 0 (n*1)=E8 (E7 key n):=by
     rw[E7,if_neg (by omega),E0 (by rw[bp,X8,Zg])]
    exact congrArg (fun z=>V.t [V.q [V.zz 1 n z] 0,i64 0]) e
abbrev j6:V:= .s (.pointer none)
def vd (t:Int) (n:Nat) (va:List Value) (k:Nat) (xs:List V):Prop:=
 (t=1\/t=2)/\k=79/\a7 C 78 [.z n va] [] (.ret (.t [.q xs 0,i64 0])) []\/
 (t=3)/\k=81/\a7 C 80 [.z n va] [] (.ret (.t [.q xs 0,i64 0])) []\/
 (t=6)/\k=83/\a7 C 82 [.z n va] [] (.ret (.t [.q xs 0,i64 0])) []\/
 (t=7)/\k=85/\a7 C 84 [.z n va] [] (.ret (.t [.q xs 0,i64 0])) []\/
 (t=4\/t=5\/t=8)/\k=87/\a7 C 86 [i64 t,.z n va] [] (.ret (.t [.q xs 0,i64 0])) []
theorem gP {t:Int} {n k:Nat} {va:List Value} {xs:List V} (hv:(n:Int)∈m7 t) (hm:n<=1000) (hs:vd t n va k xs):a7 C 25 [i64 t,.z n va] [] (.ret (.t [d7 t k xs,i64 0])) []:=by
 have hl:=iY t;rcases hs with ⟨ht,rfl,hs⟩|⟨ht,rfl,hs⟩|⟨ht,rfl,hs⟩|⟨ht,rfl,hs⟩|⟨ht,rfl,hs⟩
 ·rcases ht with rfl|rfl
  ·refine fq.c ?_;refine⟨0,Unit,(fun _=>⟨[(6,.p (.k 0) 0),(7,i64 0)],[.mx [i64 1,.f (.func 79) [.q xs 0] []]]⟩),fun _=>True,fun _=>0,?_,fun _ h=> ?_⟩
   ·refine⟨[],_,_,_,_,bU (by simp[q6]),rfl,rfl,?_⟩;refine⟨[],_,_,_,_,dB (by simp[q6]),rfl,rfl,?_⟩;refine⟨[],_,_,_,_,dA (x:=n) (S2 rfl) rfl (by omega),rfl,rfl,?_⟩;refine A1 (by rw[decide_eq_true hv];rfl) ?_;refine⟨[],_,_,_,_,hs,rfl,rfl,?_⟩;refine⟨Zh _,?_⟩;exact⟨[],(),tq,[.d 20 0],⟨rfl,rfl,tq⟩,⟨_,rfl,rfl⟩,tq⟩
   ·exact⟨_,rfl,[],rfl,tq⟩
  ·refine fq.c ?_;refine⟨0,Unit,(fun _=>⟨[(6,.p (.k 0) 0),(7,i64 0)],[.mx [i64 2,.f (.func 79) [.q xs 0] []]]⟩),fun _=>True,fun _=>0,?_,fun _ h=> ?_⟩
   ·refine⟨[],_,_,_,_,bU (by simp[q6]),rfl,rfl,?_⟩;refine⟨[],_,_,_,_,dB (by simp[q6]),rfl,rfl,?_⟩;refine⟨[],_,_,_,_,dA (x:=n) (S2 rfl) rfl (by omega),rfl,rfl,?_⟩;refine A1 (by rw[decide_eq_true hv];rfl) ?_;refine⟨[],_,_,_,_,hs,rfl,rfl,?_⟩;refine⟨Zh _,?_⟩;exact⟨[],(),tq,[.d 20 0],⟨rfl,rfl,tq⟩,⟨_,rfl,rfl⟩,tq⟩
   ·exact⟨_,rfl,[],rfl,tq⟩
 ·subst ht;refine fq.c ?_;refine⟨0,Unit,(fun _=>⟨[(6,.p (.k 0) 0),(7,i64 0)],[.mx [i64 3,.f (.func 81) [.q xs 0] []]]⟩),fun _=>True,fun _=>0,?_,fun _ h=> ?_⟩
  ·refine⟨[],_,_,_,_,bU (by simp[q6]),rfl,rfl,?_⟩;refine⟨[],_,_,_,_,dB (by simp[q6]),rfl,rfl,?_⟩;refine⟨[],_,_,_,_,dA (x:=n) (S2 rfl) rfl (by omega),rfl,rfl,?_⟩;refine A1 (by rw[decide_eq_true hv];rfl) ?_;refine⟨[],_,_,_,_,hs,rfl,rfl,?_⟩;refine⟨Zh _,?_⟩;exact⟨[],(),tq,[.d 20 0],⟨rfl,rfl,tq⟩,⟨_,rfl,rfl⟩,tq⟩
  ·exact⟨_,rfl,[],rfl,tq⟩
 ·subst ht;refine fq.c ?_;refine⟨0,Unit,(fun _=>⟨[(6,.p (.k 0) 0),(7,i64 0)],[.mx [i64 6,.f (.func 83) [.q xs 0] []]]⟩),fun _=>True,fun _=>0,?_,fun _ h=> ?_⟩
  ·refine⟨[],_,_,_,_,bU (by simp[q6]),rfl,rfl,?_⟩;refine⟨[],_,_,_,_,dB (by simp[q6]),rfl,rfl,?_⟩;refine⟨[],_,_,_,_,dA (x:=n) (S2 rfl) rfl (by omega),rfl,rfl,?_⟩;refine A1 (by rw[decide_eq_true hv];rfl) ?_;refine⟨[],_,_,_,_,hs,rfl,rfl,?_⟩;refine⟨Zh _,?_⟩;exact⟨[],(),tq,[.d 20 0],⟨rfl,rfl,tq⟩,⟨_,rfl,rfl⟩,tq⟩
  ·exact⟨_,rfl,[],rfl,tq⟩
 ·subst ht;refine fq.c ?_;refine⟨0,Unit,(fun _=>⟨[(6,.p (.k 0) 0),(7,i64 0)],[.mx [i64 7,.f (.func 85) [.q xs 0] []]]⟩),fun _=>True,fun _=>0,?_,fun _ h=> ?_⟩
  ·refine⟨[],_,_,_,_,bU (by simp[q6]),rfl,rfl,?_⟩;refine⟨[],_,_,_,_,dB (by simp[q6]),rfl,rfl,?_⟩;refine⟨[],_,_,_,_,dA (x:=n) (S2 rfl) rfl (by omega),rfl,rfl,?_⟩;refine A1 (by rw[decide_eq_true hv];rfl) ?_;refine⟨[],_,_,_,_,hs,rfl,rfl,?_⟩;refine⟨Zh _,?_⟩;exact⟨[],(),tq,[.d 20 0],⟨rfl,rfl,tq⟩,⟨_,rfl,rfl⟩,tq⟩
  ·exact⟨_,rfl,[],rfl,tq⟩
 ·exact GL ht hv hm hs
def qI (t:Int) (n:Nat) (va:List Value) (rs:List V):Prop:=
 ((t=1\/t=2)/\∃x,rs=[i64 t,.q x 0,j6,j6,j6,j6]/\a7 C 54 [.z n va] [] (.ret (.t [.q x 0,i64 0])) [])\/
 ((t=3)/\∃x,rs=[i64 t,j6,.q x 0,j6,j6,j6]/\a7 C 55 [.z n va] [] (.ret (.t [.q x 0,i64 0])) [])\/
 ((t=6)/\∃x,rs=[i64 t,j6,j6,j6,.q x 0,j6]/\a7 C 56 [.z n va] [] (.ret (.t [.q x 0,i64 0])) [])\/
 ((t=7)/\∃x,rs=[i64 t,j6,j6,j6,j6,.q x 0]/\a7 C 57 [.z n va] [] (.ret (.t [.q x 0,i64 0])) [])\/
 (t=4\/t=5\/t=8)/\∃x,rs=[i64 t,j6,j6,.q x 0,j6,j6]/\a7 C 58 [i64 t,.z n va] [] (.ret (.t [.q x 0,i64 0])) []
theorem zU {l:List Int} {i:Nat} {x:Int} (h:i<l.length):decide (x∈l.take (i+1))=(decide (x∈l.take i)||(l.getD i 0==x)):=by
 have e:l.getD i 0=l[i]:=by simp[Zc,h]
 rw[e,List.take_succ_eq_append_getElem h];rw[Bool.eq_iff_iff];simp only[decide_eq_true_eq,List.mem_append,List.mem_singleton,Bool.or_eq_true,beq_iff_eq];exact⟨fun h=>h.elim .inl fun h=> .inr h.symm,fun h=>h.elim .inl fun h=> .inr h.symm⟩
theorem qI.ok {t n va rs} (h:qI t n va rs):q6 t:=by
 unfold q6;rcases h with ⟨h,_⟩|⟨h,_⟩|⟨h,_⟩|⟨h,_⟩|⟨h,_⟩<;>omega
theorem np {t} (h:q6 t):0<(m7 t).length:=by
 rcases h with rfl|rfl|rfl|rfl|rfl|rfl|rfl|rfl<;>decide
theorem gS {t:Int} {n:Nat} {va:List Value} {rs:List V} (hv:(n:Int)∈m7 t) (hs:qI t n va rs):a7 C 14 [i64 t,.z n va] [] (.ret (.t [.q rs 0,i64 0])) []:=by
 have hok:=hs.ok;have hl:=iY t;have hp:=np hok;refine sN.c ?_;refine⟨[],_,_,_,_,rU hok,rfl,rfl,?_⟩;refine A1 (beq_false_of_ne (by omega)) ?_;refine j4 (fun i=>⟨[(0,i64 t),(1,.z n va),(6,iz (m7 t)),(7,bool (decide ((n:Int)∈(m7 t).take i))),(8,i64 i)],[]⟩) (m7 t).length ⟨[],⟨rfl,rfl,?_,?_,rfl,tq⟩,tq⟩ fun i hi=> ?_
 ·show V.z _ (sub (iv _) 0 _)=_;rw[S2 rfl]
 ·exact congrArg bool (decide_eq_false (by simp)).symm
 refine b8 (fun h=> ?_) (fun h=> ?_)
 ·have a8:i<(m7 t).length:=(by omega);have hstep:=zU (x:=(n:Int)) a8;refine gg (fun h1=> ?_) (fun h1=> ?_)
  ·rw[h1,Bool.true_or]at hstep;exact⟨i+1,by omega,by omega,[],⟨rfl,rfl,rfl,congrArg bool hstep.symm,c9 (by simp(disch:=omega)only[Za];omega),tq⟩,tq⟩
  ·rw[h1,Bool.false_or]at hstep;refine⟨by omega,by omega,_,by rw[Zd];exact tm a8,?_⟩;exact⟨i+1,by omega,by omega,[],⟨rfl,rfl,rfl,congrArg bool hstep.symm,c9 (by simp(disch:=omega)only[Za];omega),tq⟩,tq⟩
 obtain rfl:i=(m7 t).length:=(by omega);refine A1 (by rw[Jm,decide_eq_true hv];rfl) ?_;rcases hs with ⟨rfl|rfl,x,rfl,hs⟩|⟨rfl,x,rfl,hs⟩|⟨rfl,x,rfl,hs⟩|⟨rfl,x,rfl,hs⟩|⟨rfl|rfl|rfl,x,rfl,hs⟩;all_goals
  refine⟨[],_,_,_,_,hs,rfl,rfl,?_⟩;refine⟨Zz rfl,?_⟩;exact⟨_,rfl,[],rfl,tq⟩
theorem Hg {t:Int} {n:Nat} {va:List Value} (ht:¬q6 t):a7 C 14 [i64 t,.z n va] [] (.ret (.t [j6,i64 2])) []:=by
 refine sN.c ?_;refine⟨[],_,_,_,_,He ht,rfl,rfl,?_⟩;exact⟨_,rfl,[],rfl,tq⟩
theorem Hf {t:Int} {n:Nat} {va:List Value} (hok:q6 t) (hv:(n:Int)∉m7 t):a7 C 14 [i64 t,.z n va] [] (.ret (.t [j6,i64 4])) []:=by
 have hl:=iY t;have hp:=np hok;refine sN.c ?_;refine⟨[],_,_,_,_,rU hok,rfl,rfl,?_⟩;refine A1 (beq_false_of_ne (by omega)) ?_;refine j4 (fun i=>⟨[(0,i64 t),(1,.z n va),(6,iz (m7 t)),(7,bool (decide ((n:Int)∈(m7 t).take i))),(8,i64 i)],[]⟩) (m7 t).length ⟨[],⟨rfl,rfl,?_,?_,rfl,tq⟩,tq⟩ fun i hi=> ?_
 ·show V.z _ (sub (iv _) 0 _)=_;rw[S2 rfl]
 ·exact congrArg bool (decide_eq_false (by simp)).symm
 refine b8 (fun h=> ?_) (fun h=> ?_)
 ·have a8:i<(m7 t).length:=(by omega);have hstep:=zU (x:=(n:Int)) a8;refine gg (fun h1=> ?_) (fun h1=> ?_)
  ·rw[h1,Bool.true_or]at hstep;exact⟨i+1,by omega,by omega,[],⟨rfl,rfl,rfl,congrArg bool hstep.symm,c9 (by simp(disch:=omega)only[Za];omega),tq⟩,tq⟩
  ·rw[h1,Bool.false_or]at hstep;refine⟨by omega,by omega,_,by rw[Zd];exact tm a8,?_⟩;exact⟨i+1,by omega,by omega,[],⟨rfl,rfl,rfl,congrArg bool hstep.symm,c9 (by simp(disch:=omega)only[Za];omega),tq⟩,tq⟩
 obtain rfl:i=(m7 t).length:=(by omega);refine bC (by rw[Jm,decide_eq_false hv];rfl) ?_;exact⟨_,rfl,[],rfl,tq⟩
def DZ (t:Int) (n:Nat) (va:List Value) (back:Bool) (rs:List V) (l:List Value):Prop:=
 ((t=1\/t=2)/\∃x,rs=[i64 t,.q x 0,j6,j6,j6,j6]/\a7 C 153 [.q x 0,.z n va,bool back] [] (y4 n) [.sc l])\/
 ((t=3)/\∃x,rs=[i64 t,j6,.q x 0,j6,j6,j6]/\a7 C 154 [.q x 0,.z n va,bool back] [] (y4 n) [.sc l])\/
 ((t=6)/\∃x,rs=[i64 t,j6,j6,j6,.q x 0,j6]/\a7 C 155 [.q x 0,.z n va,bool back] [] (y4 n) [.sc l])\/
 ((t=7)/\∃x,rs=[i64 t,j6,j6,j6,j6,.q x 0]/\a7 C 156 [.q x 0,.z n va,bool back] [] (y4 n) [.sc l])\/
 (t=4\/t=5\/t=8)/\∃x,rs=[i64 t,j6,j6,.q x 0,j6,j6]/\a7 C 157 [.q x 0,.z n va,bool back] [] (y4 n) [.sc l]
theorem gQ {t:Int} {n:Nat} {va:List Value} {back:Bool} {rs:List V} {l:List Value} (hs:DZ t n va back rs l):a7 C 88 [.q rs 0,.z n va,bool back] [] (y4 n) [.sc l]:=by
 rcases hs with ⟨ht,x,rfl,hs⟩|⟨ht,x,rfl,hs⟩|⟨ht,x,rfl,hs⟩|⟨ht,x,rfl,hs⟩|⟨ht,x,rfl,hs⟩
 ·rcases ht with rfl|rfl;all_goals
   refine da.c ?_;refine⟨_,rfl,_,rfl,?_⟩;refine⟨[],_,_,_,_,hs,rfl,rfl,?_⟩;exact⟨_,rfl,[.d 21 0],rfl,⟨_,rfl,rfl⟩,tq⟩
 ·rcases ht with rfl;all_goals
   refine da.c ?_;refine⟨_,rfl,_,rfl,?_⟩;refine⟨[],_,_,_,_,hs,rfl,rfl,?_⟩;exact⟨_,rfl,[.d 32 0],rfl,⟨_,rfl,rfl⟩,tq⟩
 ·rcases ht with rfl;all_goals
   refine da.c ?_;refine⟨_,rfl,_,rfl,?_⟩;refine⟨[],_,_,_,_,hs,rfl,rfl,?_⟩;exact⟨_,rfl,[.d 43 0],rfl,⟨_,rfl,rfl⟩,tq⟩
 ·rcases ht with rfl;all_goals
   refine da.c ?_;refine⟨_,rfl,_,rfl,?_⟩;refine⟨[],_,_,_,_,hs,rfl,rfl,?_⟩;exact⟨_,rfl,[.d 54 0],rfl,⟨_,rfl,rfl⟩,tq⟩
 ·rcases ht with rfl|rfl|rfl;all_goals
   refine da.c ?_;refine⟨_,rfl,_,rfl,?_⟩;refine⟨[],_,_,_,_,hs,rfl,rfl,?_⟩;exact⟨_,rfl,[.d 63 0],rfl,⟨_,rfl,rfl⟩,tq⟩
def Ea (t:Int) (n:Nat) (va:List Value) (back:Bool) (rs:List V):Prop:=
 ((t=1\/t=2)/\∃x,rs=[i64 t,.q x 0,j6,j6,j6,j6]/\a7 C 153 [.q x 0,.z n va,bool back] [] P3 [])\/
 ((t=3)/\∃x,rs=[i64 t,j6,.q x 0,j6,j6,j6]/\a7 C 154 [.q x 0,.z n va,bool back] [] P3 [])\/
 ((t=6)/\∃x,rs=[i64 t,j6,j6,j6,.q x 0,j6]/\a7 C 155 [.q x 0,.z n va,bool back] [] P3 [])\/
 ((t=7)/\∃x,rs=[i64 t,j6,j6,j6,j6,.q x 0]/\a7 C 156 [.q x 0,.z n va,bool back] [] P3 [])\/
 (t=4\/t=5\/t=8)/\∃x,rs=[i64 t,j6,j6,.q x 0,j6,j6]/\a7 C 157 [.q x 0,.z n va,bool back] [] P3 []
theorem gR {t:Int} {n:Nat} {va:List Value} {back:Bool} {rs:List V} (hs:Ea t n va back rs):a7 C 88 [.q rs 0,.z n va,bool back] [] P3 []:=by
 rcases hs with ⟨ht,x,rfl,hs⟩|⟨ht,x,rfl,hs⟩|⟨ht,x,rfl,hs⟩|⟨ht,x,rfl,hs⟩|⟨ht,x,rfl,hs⟩
 ·rcases ht with rfl|rfl;all_goals
   refine da.c ?_;refine⟨_,rfl,_,rfl,?_⟩;refine⟨[],_,_,_,_,hs,rfl,rfl,?_⟩;exact⟨_,rfl,[],rfl,tq⟩
 ·rcases ht with rfl;all_goals
   refine da.c ?_;refine⟨_,rfl,_,rfl,?_⟩;refine⟨[],_,_,_,_,hs,rfl,rfl,?_⟩;exact⟨_,rfl,[],rfl,tq⟩
 ·rcases ht with rfl;all_goals
   refine da.c ?_;refine⟨_,rfl,_,rfl,?_⟩;refine⟨[],_,_,_,_,hs,rfl,rfl,?_⟩;exact⟨_,rfl,[],rfl,tq⟩
 ·rcases ht with rfl;all_goals
   refine da.c ?_;refine⟨_,rfl,_,rfl,?_⟩;refine⟨[],_,_,_,_,hs,rfl,rfl,?_⟩;exact⟨_,rfl,[],rfl,tq⟩
 ·rcases ht with rfl|rfl|rfl;all_goals
   refine da.c ?_;refine⟨_,rfl,_,rfl,?_⟩;refine⟨[],_,_,_,_,hs,rfl,rfl,?_⟩;exact⟨_,rfl,[],rfl,tq⟩
theorem Hd {t:Int} {rs:List V} (ht:q6 t) (hr:rs.head? =some (i64 t)):a7 C 15 [.q rs 0] [] (.ret (i64 (B6 t))) []:=by
 obtain⟨r,rfl⟩:∃r,rs=i64 t::r:=by
  cases rs with
  |nil=>cases hr
  |cons a r=>exact⟨r,by cases hr;rfl⟩
 refine Nk.c ?_;refine⟨_,rfl,?_⟩;refine⟨[],_,_,_,_,rV ht,rfl,rfl,?_⟩;exact⟨_,rfl,[],rfl,tq⟩
def W5 (r:W2):Bs:=L7 r.1++L7 r.2
def Y6 (r:W2):Bs:=m9 r.1++m9 r.2
def xF (key:Bs) (back:Bool) (b:Bs):W2:=if back then ((it (N6 (y8 o7 key 4)) 32 (o7 (sub b 0 4),o7 (sub b 4 4),3337565984)).1,(it (N6 (y8 o7 key 4)) 32 (o7 (sub b 0 4),o7 (sub b 4 4),3337565984)).2.1)else ((it (N7 (y8 o7 key 4)) 32 (o7 (sub b 0 4),o7 (sub b 4 4),0)).1,(it (N7 (y8 o7 key 4)) 32 (o7 (sub b 0 4),o7 (sub b 4 4),0)).2.1)
def mF (key:Bs) (back:Bool) (b:Bs):W2:=aE (if back then (A6 (y8 o7 key 8)).reverse else A6 (y8 o7 key 8)) (o7 (sub b 0 4)) (o7 (sub b 4 4))
def rG (K:List UInt32):Bool->Bs->W2
 |true,b=>((B4 K (o5 (sub b 0 4),o5 (sub b 4 4)) 12).1-K.getD 0 0,(B4 K (o5 (sub b 0 4),o5 (sub b 4 4)) 12).2-K.getD 1 0)
 |false,b=>z9 K (o5 (sub b 0 4),o5 (sub b 4 4)) 12
def fh (key:Bs) (back:Bool) (b:Bs):Bs:=I3 (E7 key (key.length/8)) back b (E7 key (key.length/8)).length
def aQ (key:Bs):Nat:=(key.length-16)/8
def aN (key:Bs):Nat:=13+2*aQ key
def cF (t:Int) (key:Bs) (back:Bool) (b:Bs):Bs:=
 if t=1\/t=2 then fh key back b
 else if t=3 then U4 (G1 (if back then u9 (P9 key)else P9 key) (I5 b))
 else if t=4 then W5 (xF key back b)
 else if t=5 then W5 (mF key back b)
 else if t=6 then I8 (if back then bI (tK key) (tS key) (x9 b)else bJ (tK key) (tS key) (x9 b)) 4
 else if t=7 then (if back then eW (aQ key) key (aN key) b else cD (aQ key) key (aN key) b)
 else Y6 (rG (t3 (y8 o5 key 4) 78).1 back b)
structure g9 (t:Int) (key:Bs) (s k:Nat) (xs rs:List V):Prop where
 ht:q6 t
 hs:B6 t=s
 hd:rs.head? =some (i64 t)
 kl:(key.length:Int)∈m7 t
 new:a7 C 25 [i64 t,.z key.length (bv key)] [] (.ret (.t [d7 t k xs,i64 0])) []
 cn:vd t key.length (bv key) k xs
 rnew:a7 C 14 [i64 t,.z key.length (bv key)] [] (.ret (.t [.q rs 0,i64 0])) []
 blk:∀{b:Bs} {back:Bool},b.length=s->a7 C k [.q xs 0,.z s (bv b),bool back] [] (y4 s) [.sc (bv (cF t key back b))]
 rblk:∀{b:Bs} {back:Bool},b.length=s->a7 C 88 [.q rs 0,.z s (bv b),bool back] [] (y4 s) [.sc (bv (cF t key back b))]
 bad:∀{n:Nat} {va:List Value} {back:Bool},n≠s->a7 C k [.q xs 0,.z n va,bool back] [] P3 []
 rbad:∀{n:Nat} {va:List Value} {back:Bool},n≠s->a7 C 88 [.q rs 0,.z n va,bool back] [] P3 []
 len:∀{b:Bs} {back:Bool},b.length=s->(cF t key back b).length=s
theorem AJ (r):(W5 r).length=8:=by rw[W5,Zb,fW,fW]
theorem Th (r):(Y6 r).length=8:=by rw[Y6,Zb,C4,C4]
theorem Tk (x):(I8 x 4).length=16:=dp x 4
theorem Ew {q key n b} (h:ak q key n):(cD q key n b).length=16:=by
 rw[cD];exact t9 (M5 _ _ _) (dy h _)
theorem Eu {q key n b} (h:ak q key n):(eW q key n b).length=16:=nb h _
theorem xL {t:Int} {key:Bs} (ht:t=1\/t=2) (hv:(key.length:Int)∈m7 t):∃k xs rs,g9 t key 8 k xs rs:=by
 obtain⟨n,hn,h3⟩:∃n,key.length=8*n/\(1<=n/\n<=3):=by
  refine⟨key.length/8,?_⟩;rcases ht with rfl|rfl<;>simp[m7]at hv<;>omega
 have hd:key.length/8=n:=by omega
 obtain⟨ok,pos⟩:=Lp (key:=key) h3;have hF:∀b back,cF t key back b=I3 (E7 key n) back b (E7 key n).length:=fun b back=>by rw[cF,if_pos ht,fh,hd]
 refine⟨_,_,[i64 t,bX (E7 key n),j6,j6,j6,j6],⟨?_,?_,rfl,hv,gP hv (by omega) (.inl ⟨ht,rfl,wH rfl rfl hn h3⟩),.inl ⟨ht,rfl,wH rfl rfl hn h3⟩,gS hv (.inl ⟨ht,_,rfl,Hz rfl rfl hn h3⟩),fun hb=> ?_,fun hb=> ?_,fun hn=>Gf hn,fun hn=>gR (.inl ⟨ht,_,rfl,Hu hn⟩),fun hb=> ?_⟩⟩
 ·unfold q6;omega
 ·unfold B6;rw[if_pos (by omega)];rfl
 ·rw[hF];exact Gg rfl hb ok pos
 ·rw[hF];exact gQ (.inl ⟨ht,_,rfl,Hv rfl hb ok pos⟩)
 ·rw[hF];exact sr hb _
theorem xN {key:Bs} (hk:key.length=16):∃k xs rs,g9 3 key 8 k xs rs:=by
 have hv:(key.length:Int)∈m7 3:=by rw[hk];decide
 refine⟨_,_,[i64 3,j6,mC (P9 key),j6,j6,j6],⟨by simp[q6],rfl,rfl,hv,gP hv (by omega) (.inr (.inl ⟨rfl,rfl,by rw[hk];exact wM rfl hk⟩)),.inr (.inl ⟨rfl,rfl,by rw[hk];exact wM rfl hk⟩),gS hv (.inr (.inl ⟨rfl,_,rfl,by rw[hk];exact HI rfl hk⟩)),fun hb=>Gu rfl hb (dY _) (mj _),fun hb=>gQ (.inr (.inl ⟨rfl,_,rfl,HG rfl hb (dY _) (mj _)⟩)),fun hn=>Gt hn,fun hn=>gR (.inr (.inl ⟨rfl,_,rfl,HF hn⟩)),fun hb=>Tj _⟩⟩
theorem JX {key:Bs} (hk:key.length=16):∃k xs rs,g9 4 key 8 k xs rs:=by
 have hv:(key.length:Int)∈m7 4:=by rw[hk];decide
 have hl:=O5 o7 key 4;refine⟨_,_,[i64 4,j6,j6,F9 (y8 o7 key 4) 4,j6,j6],⟨by simp[q6],rfl,rfl,hv,gP hv (by omega) (.inr (.inr (.inr (.inr ⟨.inl rfl,rfl,by rw[hk];exact xp rfl hk⟩)))),.inr (.inr (.inr (.inr ⟨.inl rfl,rfl,by rw[hk];exact xp rfl hk⟩))),gS hv (.inr (.inr (.inr (.inr ⟨.inl rfl,_,rfl,by rw[hk];exact HU rfl hk⟩)))),fun{b back} hb=> ?_,fun{b back} hb=> ?_,fun hn=>rF hn,fun hn=>gR (.inr (.inr (.inr (.inr ⟨.inl rfl,_,rfl,rW hn⟩)))),fun hb=>AJ _⟩⟩
 ·refine Fy (r:=xF key back b) rfl hb ?_;cases back
  ·exact JG hl rfl rfl
  ·exact JF hl rfl rfl
 ·refine gQ (.inr (.inr (.inr (.inr ⟨.inl rfl,_,rfl,HP (r:=xF key back b) rfl hb ?_⟩))));cases back
  ·exact Ia hl rfl rfl
  ·exact HZ hl rfl rfl
theorem JU {key:Bs} (hk:key.length=32):∃k xs rs,g9 5 key 8 k xs rs:=by
 have hv:(key.length:Int)∈m7 5:=by rw[hk];decide
 have hl:=O5 o7 key 8;refine⟨_,_,[i64 5,j6,j6,F9 (y8 o7 key 8) 5,j6,j6],⟨by simp[q6],rfl,rfl,hv,gP hv (by omega) (.inr (.inr (.inr (.inr ⟨.inr (.inl rfl),rfl,by rw[hk];exact xn rfl hk⟩)))),.inr (.inr (.inr (.inr ⟨.inr (.inl rfl),rfl,by rw[hk];exact xn rfl hk⟩))),gS hv (.inr (.inr (.inr (.inr ⟨.inr (.inl rfl),_,rfl,by rw[hk];exact HS rfl hk⟩)))),fun{b back} hb=> ?_,fun{b back} hb=> ?_,fun hn=>rF hn,fun hn=>gR (.inr (.inr (.inr (.inr ⟨.inr (.inl rfl),_,rfl,rW hn⟩)))),fun hb=>AJ _⟩⟩
 ·refine Fv (r:=mF key back b) rfl hb ?_;cases back
  ·exact GF hl rfl rfl
  ·exact GG hl rfl rfl
 ·refine gQ (.inr (.inr (.inr (.inr ⟨.inr (.inl rfl),_,rfl,HJ (r:=mF key back b) rfl hb ?_⟩))));cases back
  ·exact HQ hl rfl rfl
  ·exact HR hl rfl rfl
theorem EM {K:List UInt32} (hl:K.length=26) {b:Bs} {back:Bool} (hb:b.length=8):a7 C 87 [P1 K 8,.z 8 (bv b),bool back] [] (y4 8) [.sc (bv (Y6 (rG K back b)))]:=by
 refine Fw (r:=rG K back b) rfl hb ?_;cases back
 ·simp only[rG];exact Il hl rfl rfl
 ·simp only[rG];exact Ij hl rfl rfl
theorem Tx {K:List UInt32} (hl:K.length=26) {b:Bs} {back:Bool} (hb:b.length=8):a7 C 157 [F9 K 8,.z 8 (bv b),bool back] [] (y4 8) [.sc (bv (Y6 (rG K back b)))]:=by
 refine HM (r:=rG K back b) rfl hb ?_;cases back
 ·simp only[rG];exact HW hl rfl rfl
 ·simp only[rG];exact HV hl rfl rfl
theorem JV {key:Bs} (hk:key.length=16):∃k xs rs,g9 8 key 8 k xs rs:=by
 have hv:(key.length:Int)∈m7 8:=by rw[hk];decide
 have hl:=(mc (y8 o5 key 4) 78).1;have n1:=II rfl hk;have n2:=HT rfl hk;have hF:∀back b,cF 8 key back b=Y6 (rG (t3 (y8 o5 key 4) 78).1 back b):=fun _ _=>rfl;generalize (t3 (y8 o5 key 4) 78).1=K at hl n1 n2 hF;rw[<-hk]at n1 n2;exact⟨_,_,[i64 8,j6,j6,F9 K 8,j6,j6],⟨by simp[q6],rfl,rfl,hv,gP hv (by omega) (.inr (.inr (.inr (.inr ⟨.inr (.inr rfl),rfl,n1⟩)))),.inr (.inr (.inr (.inr ⟨.inr (.inr rfl),rfl,n1⟩))),gS hv (.inr (.inr (.inr (.inr ⟨.inr (.inr rfl),_,rfl,n2⟩)))),fun{b back} hb=>by rw[hF];exact EM hl hb,fun{b back} hb=>by rw[hF];exact gQ (.inr (.inr (.inr (.inr ⟨.inr (.inr rfl),_,rfl,Tx hl hb⟩)))),fun hn=>rF hn,fun hn=>gR (.inr (.inr (.inr (.inr ⟨.inr (.inr rfl),_,rfl,rW hn⟩)))),fun hb=>by rw[hF];exact Th _⟩⟩
theorem JW {key:Bs} (hk:key.length=16\/key.length=24\/key.length=32):∃k xs rs,g9 6 key 16 k xs rs:=by
 have hv:(key.length:Int)∈m7 6:=by rcases hk with h|h|h<;>rw[h]<;>decide
 obtain⟨n,hn,h3⟩:∃n,key.length=8*n/\(2<=n/\n<=4):=⟨key.length/8,by omega⟩;have hS:=pY hn;refine⟨_,_,[i64 6,j6,j6,j6,N3 (tK key) (tS key),j6],⟨by simp[q6],rfl,rfl,hv,gP hv (by omega) (.inr (.inr (.inl ⟨rfl,rfl,xB rfl rfl hn h3⟩))),.inr (.inr (.inl ⟨rfl,rfl,xB rfl rfl hn h3⟩)),gS hv (.inr (.inr (.inl ⟨rfl,_,rfl,Ih rfl rfl hn h3⟩))),fun{b back} hb=> ?_,fun{b back} hb=>gQ (.inr (.inr (.inl ⟨rfl,_,rfl,?_⟩))),fun hn=>JA hn,fun hn=>gR (.inr (.inr (.inl ⟨rfl,_,rfl,Ic hn⟩))),fun hb=>Tk _⟩⟩
 ·cases back
  ·exact JC rfl hb (gq _) (by omega)
  ·exact JB rfl hb (gq _) (by omega)
 ·cases back
  ·exact If rfl hb (gq _) (by omega)
  ·exact Ie rfl hb (gq _) (by omega)
theorem JS {key:Bs} (hk:key.length=16\/key.length=24\/key.length=32):∃k xs rs,g9 7 key 16 k xs rs:=by
 have hv:(key.length:Int)∈m7 7:=by rcases hk with h|h|h<;>rw[h]<;>decide
 have ok:ak (aQ key) key (aN key):=by
  refine⟨?_,?_,?_,?_⟩<;>first|omega|(simp only[aN,aQ];omega)
 have new:a7 C 84 [.z key.length (bv key)] [] (.ret (.t [cG (aQ key) key (aN key),i64 0])) []/\a7 C 57 [.z key.length (bv key)] [] (.ret (.t [cE (aQ key) key (aN key),i64 0])) []:=by
  rcases hk with h|h|h
  ·rw[aN,aQ,h];exact⟨Fi rfl h,GX rfl h⟩
  ·rw[aN,aQ,h];exact⟨Fj rfl h,GY rfl h⟩
  ·rw[aN,aQ,h];exact⟨Fk rfl h,GZ rfl h⟩
 refine⟨_,_,[i64 7,j6,j6,j6,j6,cE (aQ key) key (aN key)],⟨by simp[q6],rfl,rfl,hv,gP hv (by omega) (.inr (.inr (.inr (.inl ⟨rfl,rfl,new.1⟩)))),.inr (.inr (.inr (.inl ⟨rfl,rfl,new.1⟩))),gS hv (.inr (.inr (.inr (.inl ⟨rfl,_,rfl,new.2⟩)))),fun{b back} hb=> ?_,fun{b back} hb=>gQ (.inr (.inr (.inr (.inl ⟨rfl,_,rfl,?_⟩)))),fun hn=>Fl hn,fun hn=>gR (.inr (.inr (.inr (.inl ⟨rfl,_,rfl,GQ hn⟩)))),fun{b back} hb=> ?_⟩⟩
 ·cases back
  ·exact Fo ok rfl hb
  ·exact Fm ok rfl hb
 ·cases back
  ·exact GT ok rfl hb
  ·exact GR ok rfl hb
 ·cases back
  ·exact Ew ok
  ·exact Eu ok
theorem xO {t:Int} {key:Bs} (ht:q6 t) (hv:(key.length:Int)∈m7 t):∃s k xs rs,g9 t key s k xs rs:=by
 have h8:∀{t},(∃k xs rs,g9 t key 8 k xs rs)->∃s k xs rs,g9 t key s k xs rs:=fun h=>⟨8,h⟩;have h16:∀{t},(∃k xs rs,g9 t key 16 k xs rs)->∃s k xs rs,g9 t key s k xs rs:=fun h=>⟨16,h⟩;rcases ht with rfl|rfl|rfl|rfl|rfl|rfl|rfl|rfl
 ·exact h8 (xL (.inl rfl) hv)
 ·exact h8 (xL (.inr rfl) hv)
 ·exact h8 (xN (by simp[m7]at hv;omega))
 ·exact h8 (JX (by simp[m7]at hv;omega))
 ·exact h8 (JU (by simp[m7]at hv;omega))
 ·exact h16 (JW (by simp[m7]at hv;omega))
 ·exact h16 (JS (by simp[m7]at hv;omega))
 ·exact h8 (JV (by simp[m7]at hv;omega))
theorem g9.new' {t key s k xs rs} (h:g9 t key s k xs rs) {n:Nat} {va:List Value} (hn:key.length=n) (ha:va=bv key):a7 C 25 [i64 t,.z n va] [] (.ret (.t [d7 t k xs,i64 0])) []:=by subst ha;subst hn;exact h.new
theorem g9.enc {t key s k xs rs} (h:g9 t key s k xs rs) {b:Bs} {va:List Value} (hb:b.length=s) (ha:va=bv b):a7 C 26 [d7 t k xs,.z s va] [] (y4 s) [.sc (bv (cF t key false b))]:=by subst ha;exact Gk (h.blk hb)
theorem g9.dec {t key s k xs rs} (h:g9 t key s k xs rs) {b:Bs} {va:List Value} (hb:b.length=s) (ha:va=bv b):a7 C 177 [d7 t k xs,.z s va] [] (y4 s) [.sc (bv (cF t key true b))]:=by subst ha;exact Ge (h.blk hb)
theorem g9.rS {t key s k xs rs} (h:g9 t key s k xs rs):a7 C 23 [i64 t] [] (.ret (i64 s)) []:=by rw[<-h.hs];exact rV h.ht
theorem g9.size {t key s k xs rs} (h:g9 t key s k xs rs):a7 C 63 [d7 t k xs] [] (.ret (i64 s)) []:=by rw[<-h.hs];exact FF h.ht
theorem g9.rsize {t key s k xs rs} (h:g9 t key s k xs rs):a7 C 15 [.q rs 0] [] (.ret (i64 s)) []:=by rw[<-h.hs];exact Hd h.ht h.hd
theorem Qw {t n:Int} (ht:q6 t):((bn t n:Nat):Int)∈m7 t:=by
 have hp:=np ht;have h1:=Int.emod_nonneg n (b:=((m7 t).length:Int)) (by omega);have h2:=Int.emod_lt_of_pos n (b:=((m7 t).length:Int)) (by omega);have hi:(n%((m7 t).length:Int)).toNat<(m7 t).length:=by omega
 have hx:(m7 t).getD (n%((m7 t).length:Int)).toNat 0∈m7 t:=by
  rw[Zc,Zp hi];exact List.getElem_mem hi
 have h0:0<=(m7 t).getD (n%((m7 t).length:Int)).toNat 0:=by
  have:∀x∈m7 t,0<=x:=by
   rcases ht with rfl|rfl|rfl|rfl|rfl|rfl|rfl|rfl<;>decide
  exact this _ hx
 rw[bn,Int.toNat_of_nonneg h0];exact hx
theorem JT (tag n:Int) (k:Bs):∃s q xs rs,g9 (O4 tag) (jA (O4 tag) n k) s q xs rs:=xO (pZ _) (by rw[Qy];exact Qw (pZ _))
theorem g9.s_le {t key s k xs rs} (h:g9 t key s k xs rs):8<=s/\s<=16:=by
 have:=h.hs;rcases h.ht with e|e|e|e|e|e|e|e<;>(subst e;simp[B6]at this;omega)
theorem GB {t n:Int} {m:Nat} {va:List Value} {k:Bs} (ht:q6 t) (hn: -9223372036854775808<=n/\n<=9223372036854775807) (ha:va=bv k) (hk:k.length=m):a7 C 21 [i64 t,i64 n,.z m va] [] (.ret (.z (bn t n) (bv (jA t n k)))) []:=by
 obtain⟨h1,h2,h3,h4,h5⟩:=Qx ht n;have hl:=iY t;have hp:=np ht;refine MR.c ?_;refine⟨[],_,_,_,_,rU ht,rfl,rfl,?_⟩;refine⟨[],_,_,_,_,xH (n:=(m7 t).length) (by omega) (by omega) hn,rfl,rfl,?_⟩;refine⟨h4,h5,?_⟩;refine⟨.int .i64 (bn t n),?_,?_⟩
 ·rw[Zg,Zi];simp[iv,h3]
 refine⟨[],_,_,_,_,wD (n:=bn t n) ha hk (by omega),rfl,rfl,?_⟩;exact⟨_,rfl,[],congrArg (V.z _) (b9 (nn _ _)),tq⟩
theorem oU {α:Type} (f:α->α):∀(n:Nat) (x:α),it f n (f x)=f (it f n x)
 |0,_=>rfl
 |n+1,x=>congrArg f (oU f n x)
theorem tl {α:Type} {f g:α->α} (h:∀x,g (f x)=x):∀(n:Nat) (x:α),it g n (it f n x)=x
 |0,_=>rfl
 |n+1,x=>by
  show g (it g n (f (it f n x)))=x;rw[<-oU g,h,tl h n x]
theorem oJ {α:Type} {st bk:α->Nat->α} (h:∀x r,bk (st x r) r=x):∀(n:Nat) (x:α),(List.range n).foldl (fun x r=>bk x (n-1-r)) ((List.range n).foldl st x)=x
 |0,_=>rfl
 |n+1,x=>by
  have e1:(List.range (n+1)).foldl st x=st ((List.range n).foldl st x) n:=by rw[Zo,Z0];rfl
  rw[e1,Jp,Zx,List.foldl_map];rw[show n+1-1-0=n by omega,h];have e:∀(l:List Nat) (y:α),l.foldl (fun x r=>bk x (n+1-1-Nat.succ r)) y=l.foldl (fun x r=>bk x (n-1-r)) y:=by
   intro l y;congr 1;funext x r;congr 1;omega
  rw[e];exact oJ h n x
theorem lZ {α:Type} {f g:α->Nat->α} {n:Nat} (h:∀x r,r<n->f x r=g x r):∀(x:α),(List.range n).foldl f x=(List.range n).foldl g x:=by
 have:∀(l:List Nat),(∀r∈l,r<n)->∀x,l.foldl f x=l.foldl g x:=by
  intro l;induction l with
  |nil=>intros;rfl
  |cons a r ih=>
   intro hl x;rw[Zx,Zx,h x a (hl a (by simp))];exact ih (fun r hr=>hl r (by simp[hr])) _
 exact this _ (fun r hr=>List.mem_range.1 hr)
theorem yZ {α:Type} {st bk:α->Nat->α} (h:∀x r,st (bk x r) r=x) (n:Nat) (x:α):(List.range n).foldl st ((List.range n).foldl (fun x r=>bk x (n-1-r)) x)=x:=by
 have:=oJ (st:=fun x r=>bk x (n-1-r)) (bk:=fun x r=>st x (n-1-r)) (fun x r=>h x _) n x;rw[<-this];rw[this];refine Eq.trans (lZ (fun y r hr=> ?_) _) this;show st y r=st y (n-1-(n-1-r));rw[show n-1-(n-1-r)=r by omega]
theorem BK (v:UInt32) {k:Nat} (h:k<32) (i:Nat) (hi:i<32):(A7 v k).toNat.testBit i=v.toNat.testBit ((i+32-k)%32):=by
 unfold A7;have hv:v.toNat<2^32:=v.toNat_lt;have e1:(UInt32.ofNat k).toNat%32=k:=by rw[Jv,Zs (show k<2^32 by omega)];exact Zs h
 have e2:(UInt32.ofNat (32-k)).toNat%32=(32-k)%32:=by rw[Jv,Zs (show 32-k<2^32 by omega)]
 rw[UInt32.toNat_or,UInt32.toNat_shiftLeft,UInt32.toNat_shiftRight,e1,e2,Nat.testBit_or,Nat.testBit_mod_two_pow,Nat.testBit_shiftLeft,Nat.testBit_shiftRight];by_cases hk:k=0
 ·subst hk;simp[hi,Zs hi]
 ·rw[Zs (show 32-k<32 by omega)];by_cases hki:k<=i
  ·have:v.toNat.testBit (32-k+i)=false:=Jn (Nat.lt_of_lt_of_le hv (Z3 (by decide) (by omega)));rw[this,show(i+32-k)%32=i-k by omega];simp[hi,hki]
  ·rw[show (i+32-k)%32=32-k+i by omega];simp[hki]
theorem gf (v:UInt32) {k j:Nat} (h:k<32) (hj:j<32) (e:(k+j)%32=0):A7 (A7 v k) j=v:=by
 apply UInt32.toNat_inj.1;apply Nat.eq_of_testBit_eq;intro i;by_cases hi:i<32
 ·rw[BK _ hj i hi,BK _ h _ (Zt _ (by decide))];congr 1;omega
 ·have hp:∀w:UInt32,w.toNat.testBit i=false:=fun w=>Jn (Nat.lt_of_lt_of_le w.toNat_lt (Z3 (by decide) (by omega)));rw[hp,hp]
theorem du (a b:UInt32):a^^^b^^^b=a:=by rw[UInt32.xor_assoc,UInt32.xor_self,UInt32.xor_zero]
theorem pA (n:UInt64) (x:UInt8) (h:n.toNat<2^56):(n<<<8|||x.toUInt64).toNat=n.toNat*256+x.toNat:=by
 have hx:=x.toNat_lt;rw[UInt64.toNat_or,UInt64.toNat_shiftLeft,UInt8.toNat_toUInt64,show(8:UInt64).toNat%64=8 from rfl,Nat.shiftLeft_eq,Zs (by omega)];rw[show (2:Nat)^8=2^8 from rfl,pz _ (i:=8) (by omega)]
theorem Ro (a b c d:UInt8):(L6 [a,b,c,d]).toNat=((a.toNat*256+b.toNat)*256+c.toNat)*256+d.toNat:=by
 have ha:=a.toNat_lt;have hb:=b.toNat_lt;have hc:=c.toNat_lt;have hd:=d.toNat_lt;show(((((((0:UInt64)<<<8|||a.toUInt64)<<<8|||b.toUInt64))<<<8|||c.toUInt64))<<<8|||d.toUInt64).toNat=_;have e1:((0:UInt64)<<<8|||a.toUInt64).toNat=a.toNat:=by rw[pA _ _ (by decide)];show 0*256+_=_;omega
 have e2:(((0:UInt64)<<<8|||a.toUInt64)<<<8|||b.toUInt64).toNat=a.toNat*256+b.toNat:=by rw[pA _ _ (by omega),e1]
 have e3:((((0:UInt64)<<<8|||a.toUInt64)<<<8|||b.toUInt64)<<<8|||c.toUInt64).toNat=(a.toNat*256+b.toNat)*256+c.toNat:=by rw[pA _ _ (by omega),e2]
 rw[pA _ _ (by omega),e3]
theorem AK (v:UInt32):L7 v=[Zq (v.toNat/16777216),Zq (v.toNat/65536),Zq (v.toNat/256),Zq v.toNat]:=by
 have hv:=v.toNat_lt;have s1:∀n:UInt64,(n>>>8).toNat=n.toNat/256:=fun n=>by rw[UInt64.toNat_shiftRight,show(8:UInt64).toNat%64=8 from rfl,Nat.shiftRight_eq_div_pow]
 have s2:∀n:UInt64,n.toUInt8=Zq n.toNat:=fun n=>by
  apply Z8.1;rw[UInt64.toNat_toUInt8,Zy]
 show[(v.toUInt64>>>8>>>8>>>8).toUInt8,(v.toUInt64>>>8>>>8).toUInt8,(v.toUInt64>>>8).toUInt8,v.toUInt64.toUInt8]=_;rw[s2,s2,s2,s2,s1,s1,s1,UInt32.toNat_toUInt64];simp only[Nat.div_div_eq_div_mul]
theorem Rn {b:Bs} (h:b.length=4):∃p q r s,b=[p,q,r,s]:=by
 match b,h with
 |[p,q,r,s],_=>exact⟨p,q,r,s,rfl⟩
theorem we (a b c d:UInt8):(o7 [a,b,c,d]).toNat=((a.toNat*256+b.toNat)*256+c.toNat)*256+d.toNat:=by
 have ha:=a.toNat_lt;have hb:=b.toNat_lt;have hc:=c.toNat_lt;have hd:=d.toNat_lt;rw[o7,UInt64.toNat_toUInt32,Ro];omega
theorem re (v:UInt32):o7 (L7 v)=v:=by
 have hv:=v.toNat_lt;apply UInt32.toNat_inj.1;rw[AK,we];simp only[Zy];omega
theorem ug {b:Bs} (h:b.length=4):L7 (o7 b)=b:=by
 obtain⟨p,q,r,s,rfl⟩:=Rn h;have hp:=p.toNat_lt;have hq:=q.toNat_lt;have hr:=r.toNat_lt;have hs:=s.toNat_lt;rw[AK,we];have e:∀(x:UInt8) (n:Nat),n%256=x.toNat->Zq n=x:=fun x n h=>by
  apply Z8.1;rw[Zy,<-h]
 rw[e p _ (by omega),e q _ (by omega),e r _ (by omega),e s _ (by omega)]
theorem jC (v:UInt32):o5 (m9 v)=v:=by
 rw[o5,m9,Z4];exact re v
theorem jL {b:Bs} (h:b.length=4):m9 (o5 b)=b:=by
 have:=ug (b:=b.reverse) (by rw[Zm,h]);show(L7 (o7 b.reverse)).reverse=b;rw[this,Z4]
theorem uA {a b:Bs} {n:Nat} (ha:a.length=n) (hb:b.length=n):sub (a++b) 0 n=a/\sub (a++b) n n=b:=by
 subst ha;refine⟨by simp[sub],?_⟩;simp only[sub,List.drop_left];exact Jc (by omega)
theorem uz {b:Bs} {n m:Nat} (h:b.length=n+m):sub b 0 n++sub b n m=b:=by
 rw[G6 b n m (by omega)];exact Zk n b
theorem zF (r:W2):(o7 (sub (W5 r) 0 4),o7 (sub (W5 r) 4 4))=r:=by
 obtain⟨h1,h2⟩:=uA (fW r.1) (fW r.2);rw[W5,h1,h2,re,re]
theorem pE {b:Bs} (h:b.length=8):W5 (o7 (sub b 0 4),o7 (sub b 4 4))=b:=by
 rw[W5,ug (by rw[j5];omega),ug (by rw[j5];omega)];exact uz h
theorem Rg (r:W2):(o5 (sub (Y6 r) 0 4),o5 (sub (Y6 r) 4 4))=r:=by
 obtain⟨h1,h2⟩:=uA (C4 r.1) (C4 r.2);rw[Y6,h1,h2,jC,jC]
theorem AL {b:Bs} (h:b.length=8):Y6 (o5 (sub b 0 4),o5 (sub b 4 4))=b:=by
 rw[Y6,jL (by rw[j5];omega),jL (by rw[j5];omega)];exact uz h
theorem a0f (k:List UInt32) (x):N6 k (N7 k x)=x:=by
 obtain⟨v,w,s⟩:=x;simp only[N6,N7,Z2]
theorem a0h (k:List UInt32) (x):N7 k (N6 k x)=x:=by
 obtain⟨v,w,s⟩:=x;simp only[N6,N7,Z1]
theorem a0i (k:List UInt32) (n:Nat) (x):(it (N7 k) n x).2.2=it (· +D7) n x.2.2:=by
 induction n with
 |zero=>rfl
 |succ n ih=>show(N7 k _).2.2=_+D7;rw[<-ih];rfl
theorem a0g (k:List UInt32) (n:Nat) (x):(it (N6 k) n x).2.2=it (· -D7) n x.2.2:=by
 induction n with
 |zero=>rfl
 |succ n ih=>show(N6 k _).2.2=_-D7;rw[<-ih];rfl
theorem Qf:it (· +D7) 32 0=3337565984:=by decide
theorem Qe:it (· -D7) 32 3337565984=0:=by decide
def kt (k:List UInt32) (p:W2):W2:=((it (N7 k) 32 (p.1,p.2,0)).1,(it (N7 k) 32 (p.1,p.2,0)).2.1)
def kp (k:List UInt32) (p:W2):W2:=((it (N6 k) 32 (p.1,p.2,3337565984)).1,(it (N6 k) 32 (p.1,p.2,3337565984)).2.1)
theorem a0m (k p):kp k (kt k p)=p:=by
 have h:=tl (a0f k) 32 (p.1,p.2,0);have hs:=(a0i k 32 (p.1,p.2,0)).trans Qf;have e:((it (N7 k) 32 (p.1,p.2,0)).1,(it (N7 k) 32 (p.1,p.2,0)).2.1,(3337565984:UInt32))=it (N7 k) 32 (p.1,p.2,0):=by rw[<-hs]
 simp only[kp,kt,e,h]
theorem a0n (k p):kt k (kp k p)=p:=by
 have h:=tl (a0h k) 32 (p.1,p.2,3337565984);have hs:=(a0g k 32 (p.1,p.2,3337565984)).trans Qe;have e:((it (N6 k) 32 (p.1,p.2,3337565984)).1,(it (N6 k) 32 (p.1,p.2,3337565984)).2.1,(0:UInt32))=it (N6 k) 32 (p.1,p.2,3337565984):=by rw[<-hs]
 simp only[kp,kt,e,h]
theorem DL (key:Bs) (back:Bool) (b:Bs):xF key back b=if back then kp (y8 o7 key 4) (o7 (sub b 0 4),o7 (sub b 4 4))else kt (y8 o7 key 4) (o7 (sub b 0 4),o7 (sub b 4 4)):=by
 cases back
 ·unfold xF kt;rw[if_neg (by decide),if_neg (by decide)]
 ·unfold xF kp;rw[if_pos rfl,if_pos rfl]
theorem a0o {key:Bs} {b:Bs} (hb:b.length=8) (back:Bool):W5 (xF key (!back) (W5 (xF key back b)))=b:=by
 rw[DL,zF,DL];cases back
 ·simp only[Bool.not_false,if_true];rw[if_neg (by decide),a0m,pE hb]
 ·simp only[Bool.not_true,if_true];rw[if_neg (by decide),a0n,pE hb]
def R3 {α:Type} (x:α×α):α×α:=(x.2,x.1)
theorem yT:∀(ks:List UInt32) (x:W2),R3 (ks.reverse.foldl O9 (R3 (ks.foldl O9 x)))=x
 |[],_=>rfl
 |k::r,x=>by
  rw[List.reverse_cons,Z0,Zx,Zx,List.foldl_nil];have:=yT r (O9 x k);have e:r.reverse.foldl O9 (R3 (r.foldl O9 (O9 x k)))=R3 (O9 x k):=(congrArg R3 this :);rw[e];simp only[R3,O9,du]
theorem zR (ks:List UInt32) (x:W2):aE ks.reverse (aE ks x.1 x.2).1 (aE ks x.1 x.2).2=x:=by
 obtain⟨v,w⟩:=x;have h:=yT ks (v,w);unfold aE;generalize ks.foldl O9 (v,w)=z at h ⊢;exact h
theorem Rs {key:Bs} {b:Bs} (hb:b.length=8) (back:Bool):W5 (mF key (!back) (W5 (mF key back b)))=b:=by
 have h:=zF (mF key back b);have h1:o7 (sub (W5 (mF key back b)) 0 4)=(mF key back b).1:=congrArg Prod.fst h;have h2:o7 (sub (W5 (mF key back b)) 4 4)=(mF key back b).2:=congrArg Prod.snd h;rw[mF,h1,h2];cases back
 ·rw[if_pos (by rfl)];simp only[mF];rw[if_neg (by decide)];rw[zR (A6 (y8 o7 key 8)) (o7 (sub b 0 4),o7 (sub b 4 4)),pE hb]
 ·rw[if_neg (by decide)];simp only[mF,if_true];have:=zR (A6 (y8 o7 key 8)).reverse (o7 (sub b 0 4),o7 (sub b 4 4));rw[Z4]at this;rw[this,pE hb]
theorem Ua (s:List UInt32) (x:W2) (r:Nat):ga s (gd s x r) r=x:=by
 obtain⟨a,c⟩:=x;have h32:∀v:UInt32,(v%32).toNat<32:=fun v=>by rw[UInt32.toNat_mod];exact Zt _ (by decide)
 have e1:rB s r (gd s (a,c) r)=c:=by
  simp only[rB,gd,Z2];rw[gf _ (h32 _) (Zt _ (by decide)) (by have:=h32 (rA s r (a,c));omega),du]
 simp only[ga,e1];simp only[gd,rA,Z2];rw[gf _ (h32 _) (Zt _ (by decide)) (by have:=h32 c;omega),du]
theorem Uc (s:List UInt32) (x:W2) (r:Nat):gd s (ga s x r) r=x:=by
 obtain⟨a,c⟩:=x;have h32:∀v:UInt32,(v%32).toNat<32:=fun v=>by rw[UInt32.toNat_mod];exact Zt _ (by decide)
 have e1:rA s r (ga s (a,c) r)=a:=by
  simp only[rA,ga];rw[du,gf _ (Zt _ (by decide)) (h32 _) (by have:=h32 (rB s r (a,c));omega),Z1]
 simp only[gd,e1];simp only[ga,rB];rw[du,gf _ (Zt _ (by decide)) (h32 _) (by have:=h32 a;omega),Z1]
theorem Ub {K:List UInt32} {b:Bs} (hb:b.length=8) (back:Bool):Y6 (rG K (!back) (Y6 (rG K back b)))=b:=by
 have h:=Rg (rG K back b);cases back
 ·simp only[rG,Bool.not_false]at h ⊢;rw[h];have e:B4 K (z9 K (o5 (sub b 0 4),o5 (sub b 4 4)) 12) 12=(o5 (sub b 0 4)+K.getD 0 0,o5 (sub b 4 4)+K.getD 1 0):=oJ (Ua K) 12 _;rw[e];simp only[Z2];exact AL hb
 ·simp only[rG,Bool.not_true]at h ⊢;rw[h,z9];simp only[Z1];have e:=yZ (Uc K) 12 (o5 (sub b 0 4),o5 (sub b 4 4));exact(congrArg Y6 e).trans (AL hb)
def w9 (x:Nat):Nat:=x*x%65537
theorem Wm (x y:Nat):w9 (x*y%65537)=w9 x*w9 y%65537:=by
 unfold w9;rw[<-Ja,<-Ja,Nat.mul_mul_mul_comm]
theorem uw (x y:Nat):∀n,it w9 (n+1) (x*y)=it w9 (n+1) x*it w9 (n+1) y%65537
 |0=>by show(x*y)*(x*y)%65537=(x*x%65537)*(y*y%65537)%65537;rw[<-Ja,Nat.mul_mul_mul_comm]
 |n+1=>by
  show w9 (it w9 (n+1) (x*y))=w9 (it w9 (n+1) x)*w9 (it w9 (n+1) y)%65537;rw[uw x y n,Wm]
theorem Wn {r:Nat} (h:r<=65537):w9 (65537-r)=w9 r:=by
 unfold w9;obtain⟨m,hm⟩:∃m,m+r=65537:=⟨65537-r,by omega⟩;rw[show 65537-r=m by omega];have e1:m*m+m*r=65537*m:=by rw[<-Nat.mul_add,hm,Ji]
 have e2:m*r+r*r=65537*r:=by rw[<-Nat.add_mul,hm]
 generalize m*m=a at e1 ⊢;generalize m*r=b at e1 e2;generalize r*r=c at e2 ⊢;omega
theorem PL:∀x,x<257->1<=x->it w9 16 x=1:=by decide +kernel
theorem Su:∀q,q<257->2<=q->65537%q≠0:=by decide +kernel
theorem sS:∀x,1<=x->x<65537->it w9 16 x=1:=by
 intro x;induction x using Nat.strongRecOn with
 |_ x ih=>
  intro h1 h2;by_cases hs:x<257
  ·exact PL x hs h1
  ·have hdm:=Zu 65537 x;have hr:=Zt 65537 (show x>0 by omega);have hq:65537/x<257:=by
    rw[Nat.div_lt_iff_lt_mul (by omega)];omega
   have hq1:1<=65537/x:=by
    rw[Nat.le_div_iff_mul_le (by omega)];omega
   generalize 65537/x=q at hdm hq hq1;generalize 65537%x=r at hdm hr;have hr0:1<=r:=by
    rcases Nat.eq_zero_or_pos r with h0|h0
    ·exfalso;subst h0;rw[Nat.add_zero]at hdm;rcases Nat.lt_or_ge q 2 with h|h
     ·obtain rfl:q=1:=by omega
      omega
     ·exact Su q hq h (by rw[<-hdm];exact Jk _ _)
    ·exact h0
   have f1:=ih q (by omega) hq1 (by omega);have f2:=ih r hr hr0 (by omega);have e:=uw x q 15;rw[f1,Zg]at e;have e2:it w9 16 (x*q)=it w9 16 r:=by
    rw[show x*q=65537-r by omega];show it w9 16 (65537-r)=_;have:∀y,it w9 16 y=it w9 15 (w9 y):=fun y=>(oU w9 15 y).symm;rw[this,this,Wn (by omega)]
   have a8:it w9 16 x<65537:=Zt _ (by decide);rw[e2,f2,Zs a8]at e;exact e.symm
theorem ix {a:Nat} (h:a<65536):1<=y5 a/\y5 a<65537:=by unfold y5;split<;>omega
theorem Sd {x y:Nat} (hx:1<=x/\x<65537) (hy:1<=y/\y<65537):x*y%65537≠0:=by
 intro h;have e:=uw x y 15;rw[sS x hx.1 hx.2,sS y hy.1 hy.2]at e;have e2:it w9 16 (x*y)=0:=by
  have h0:w9 (x*y)=0:=by unfold w9;rw[Ja,h]
  have:it w9 16 (x*y)=it w9 15 (w9 (x*y)):=(oU w9 15 _).symm;rw[this,h0];decide
 rw[e2]at e;exact absurd e (by decide)
theorem Wp {r:Nat} (h1:1<=r) (h2:r<65537):y5 (r%65536)=r:=by unfold y5;split<;>omega
theorem jZ {a b:Nat} (ha:a<65536) (hb:b<65536):y5 (F5 a b)=y5 a*y5 b%65537:=by
 have h:=Sd (ix ha) (ix hb);exact Wp (by omega) (Zt _ (by decide))
theorem Bo {a b:Nat} (ha:a<65536) (hb:b<65536) (h:y5 a=y5 b):a=b:=by
 unfold y5 at h;split at h<;>split at h<;>omega
theorem zp {a:Nat} (ha:a<65536):∀k,k<=16->y5 (it O2 k (1,a,65535)).1*y5 a%65537=it w9 k (y5 a)%65537/\y5 (it O2 k (1,a,65535)).2.1=it w9 k (y5 a)%65537
 |0,_=>⟨by show y5 1*y5 a%65537=y5 a%65537;rw[show y5 1=1 from rfl,Nat.one_mul],(Zs (ix ha).2).symm⟩
 |k+1,hk=>by
  obtain⟨h1,h2⟩:=zp ha k (by omega);obtain⟨b1,b2,b3⟩:=oQ ha k;have hodd:(it O2 k (1,a,65535)).2.2%2=1:=by
   rw[b3];have:∀k,k<16->65535/2^k%2=1:=by decide
   exact this k (by omega)
  show y5 (O2 (it O2 k (1,a,65535))).1*y5 a%65537=w9 (it w9 k (y5 a))%65537/\y5 (O2 (it O2 k (1,a,65535))).2.1=w9 (it w9 k (y5 a))%65537;generalize it O2 k (1,a,65535)=z at*
  simp only[O2,if_pos hodd];have hs:w9 (it w9 k (y5 a))%65537=(it w9 k (y5 a)%65537)*(it w9 k (y5 a)%65537)%65537:=by
   unfold w9;rw[Nat.mod_mod,<-Ja]
  rw[jZ b1 b2,jZ b2 b2,hs,<-h2];refine⟨?_,rfl⟩;rw[Jg,Nat.mul_right_comm,<-Jg,h1,<-h2]
theorem zn {a:Nat} (ha:a<65536):y5 a*y5 (C8 a)%65537=1:=by
 have h:=(zp ha 16 (by decide)).1;rw[sS _ (ix ha).1 (ix ha).2]at h;rw[Ji];exact h
theorem pn {a k:Nat} (ha:a<65536) (hk:k<65536):F5 (F5 a k) (C8 k)=a:=by
 refine Bo (F6 _ _) ha ?_;rw[jZ (F6 _ _) (oS hk),jZ ha hk,Jg,Nat.mul_assoc,Ja,zn hk,Zg,Nat.mod_mod,Zs (ix ha).2]
theorem oT {a k:Nat} (ha:a<65536) (hk:k<65536):F5 (F5 a (C8 k)) k=a:=by
 refine Bo (F6 _ _) ha ?_;rw[jZ (F6 _ _) hk,jZ ha (oS hk),Jg,Nat.mul_assoc,Ji (y5 (C8 k)),Ja,zn hk,Zg,Nat.mod_mod,Zs (ix ha).2]
theorem pf {a k:Nat} (ha:a<65536) (hk:k<65536):br (V3 a k) k=a:=by unfold br V3;omega
theorem nf {a k:Nat} (ha:a<65536) (hk:k<65536):V3 (br a k) k=a:=by unfold br V3;omega
theorem eQ (a b:Nat):a^^^b^^^b=a:=by rw[Nat.xor_assoc,Nat.xor_self,Nat.xor_zero]
theorem qp (a d g:Nat):(a^^^g)^^^(d^^^g)=a^^^d:=by
 rw[Nat.xor_assoc,Nat.xor_comm g,eQ]
theorem EH (k o) (z:Q4):X7 k o (Y3 k o z)=E3 z:=by
 obtain⟨a,c,d,e⟩:=z;simp only[X7,Y3,E3];have f:∀g h,di k o (a^^^g) (c^^^h) (d^^^g) (e^^^h)=di k o a c d e:=fun g h=>by unfold di;rw[qp]
 have g':∀g h,U1 k o (a^^^g) (c^^^h) (d^^^g) (e^^^h)=U1 k o a c d e:=fun g h=>by unfold U1;rw[qp,f]
 have h':∀g h,V8 k o (a^^^g) (c^^^h) (d^^^g) (e^^^h)=V8 k o a c d e:=fun g h=>by unfold V8;rw[f,g']
 rw[g',h',eQ,eQ,eQ,eQ]
theorem RU (k o) (z:Q4):Y3 k o (E3 (X7 k o z))=z:=by
 obtain⟨a,d,c,e⟩:=z;simp only[X7,Y3,E3];have f:∀g h,di k o (a^^^g) (c^^^h) (d^^^g) (e^^^h)=di k o a c d e:=fun g h=>by unfold di;rw[qp]
 have g':∀g h,U1 k o (a^^^g) (c^^^h) (d^^^g) (e^^^h)=U1 k o a c d e:=fun g h=>by unfold U1;rw[qp,f]
 have h':∀g h,V8 k o (a^^^g) (c^^^h) (d^^^g) (e^^^h)=V8 k o a c d e:=fun g h=>by unfold V8;rw[f,g']
 rw[g',h',eQ,eQ,eQ,eQ]
theorem EG {k:List Nat} (hk:Q8 k) (o) {z:Q4} (hz:F7 z):aY k o (E3 (r9 k o z))=z:=by
 obtain⟨a,c,d,e⟩:=z;obtain⟨h1,h2,h3,h4⟩:=hz;simp only[aY,r9,E3];rw[pn h1 (hk _),pf h2 (hk _),pf h3 (hk _),pn h4 (hk _)]
theorem Ra {k:List Nat} (hk:Q8 k) (o) {z:Q4} (hz:F7 z):r9 k o (aY k o z)=E3 z:=by
 obtain⟨a,d,c,e⟩:=z;obtain⟨h1,h2,h3,h4⟩:=hz;simp only[aY,r9,E3];rw[oT h1 (hk _),nf h3 (hk _),nf h2 (hk _),oT h4 (hk _)]
theorem EF {k:List Nat} (hk:Q8 k) (o) {z:Q4} (hz:F7 z):cH k o (r9 k o (E3 z))=z:=by
 obtain⟨a,c,d,e⟩:=z;obtain⟨h1,h2,h3,h4⟩:=hz;simp only[cH,r9,E3];rw[pn h1 (hk _),pf h3 (hk _),pf h2 (hk _),pn h4 (hk _)]
theorem QZ {k:List Nat} (hk:Q8 k) (o) {z:Q4} (hz:F7 z):r9 k o (E3 (cH k o z))=z:=by
 obtain⟨a,d,c,e⟩:=z;obtain⟨h1,h2,h3,h4⟩:=hz;simp only[cH,r9,E3];rw[oT h1 (hk _),nf h2 (hk _),nf h3 (hk _),oT h4 (hk _)]
theorem oK {α:Type} {P:α->Prop} {st bk:α->Nat->α} (h:∀x r,P x->bk (st x r) r=x) (hP:∀x r,P x->P (st x r)):∀(n:Nat) (x:α),P x->(List.range n).foldl (fun x r=>bk x (n-1-r)) ((List.range n).foldl st x)=x
 |0,_,_=>rfl
 |n+1,x,hx=>by
  have e1:(List.range (n+1)).foldl st x=st ((List.range n).foldl st x) n:=by rw[Zo,Z0];rfl
  have hp:∀m,P ((List.range m).foldl st x):=by
   intro m;induction m with
   |zero=>exact hx
   |succ m ih=>rw[Zo,Z0];exact hP _ _ ih
  rw[e1,Jp,Zx,List.foldl_map];rw[show n+1-1-0=n by omega,h _ _ (hp n)];have e:∀(l:List Nat) (y:α),l.foldl (fun x r=>bk x (n+1-1-Nat.succ r)) y=l.foldl (fun x r=>bk x (n-1-r)) y:=by
   intro l y;congr 1;funext x r;congr 1;omega
  rw[e];exact oK h hP n x hx
theorem PO {α:Type} {P:α->Prop} {st bk:α->Nat->α} (h:∀x r,P x->st (bk x r) r=x) (hP:∀x r,P x->P (bk x r)) (n:Nat) (x:α) (hx:P x):(List.range n).foldl st ((List.range n).foldl (fun x r=>bk x (n-1-r)) x)=x:=by
 have:=oK (P:=P) (st:=fun x r=>bk x (n-1-r)) (bk:=fun x r=>st x (n-1-r)) (fun x r=>h x _) (fun x r=>hP x _) n x hx;refine Eq.trans (lZ (fun y r hr=> ?_) _) this;show st y r=st y (n-1-(n-1-r));rw[show n-1-(n-1-r)=r by omega]
theorem Qk {k:List Nat} (hk:Q8 k) {x:Q4} (hx:F7 x):G1 (u9 k) (G1 k x)=x:=by
 rw[<-rj k hk];unfold T4 G1;rw[EF hk 48 (pM k hx 8)];exact oK (P:=F7) (st:=jS k) (bk:=fun x r=>aY k (6*r) (X7 k (6*r) x)) (fun x r h=>by
  show aY k (6*r) (X7 k (6*r) (Y3 k (6*r) (r9 k (6*r) x)))=x;rw[EH,EG hk _ h]) (fun x r h=>zV _ _ (dZ _ _ _)) 8 x hx
theorem Ql {k:List Nat} (hk:Q8 k) {x:Q4} (hx:F7 x):G1 k (G1 (u9 k) x)=x:=by
 rw[<-rj k hk];unfold T4 G1;have e:=PO (P:=F7) (st:=jS k) (bk:=fun x r=>aY k (6*r) (X7 k (6*r) x)) (fun x r h=>by
  show Y3 k (6*r) (r9 k (6*r) (aY k (6*r) (X7 k (6*r) x)))=x;rw[Ra hk _ ⟨U9 h.1 (F6 _ _),U9 h.2.1 (F6 _ _),U9 h.2.2.1 (bO _ _),U9 h.2.2.2 (bO _ _)⟩,RU]) (fun x r h=>⟨F6 _ _,fJ _ _,fJ _ _,F6 _ _⟩) 8 (cH k 48 x) ⟨F6 _ _,fJ _ _,fJ _ _,F6 _ _⟩
 have e':G4 k ((List.range 8).foldl (iU k) (cH k 48 x)) 8=cH k 48 x:=e;rw[e',QZ hk 48 hx]
theorem Re {x:Q4} (h:F7 x):I5 (U4 x)=x:=by
 obtain⟨a,c,d,e⟩:=x;obtain⟨h1,h2,h3,h4⟩:=h;have hn:∀n,n<65536->(Zq (n/256)).toNat*256+(Zq n).toNat=n:=fun n hn=>by
  simp only[Zy];omega
 show(_,_,_,_)=(a,c,d,e);have e1:ag (U4 (a,c,d,e)) 0=a:=hn a h1;have e2:ag (U4 (a,c,d,e)) 1=c:=hn c h2;have e3:ag (U4 (a,c,d,e)) 2=d:=hn d h3;have e4:ag (U4 (a,c,d,e)) 3=e:=hn e h4;rw[e1,e2,e3,e4]
theorem AM {b:Bs} (h:b.length=8):U4 (I5 b)=b:=by
 match b,h with
 |[b0,b1,b2,b3,b4,b5,b6,b7],_=>
  have hp:∀x y:UInt8,aJ (x.toNat*256+y.toNat)=[x,y]:=fun x y=>by
   have hx:=x.toNat_lt;have hy:=y.toNat_lt;have e:∀(x:UInt8) (n:Nat),n%256=x.toNat->Zq n=x:=fun x n h=>by
    apply Z8.1;rw[Zy,<-h]
   rw[aJ,e x _ (by omega),e y _ (by omega)]
  show aJ (b0.toNat*256+b1.toNat)++aJ (b2.toNat*256+b3.toNat)++aJ (b4.toNat*256+b5.toNat)++aJ (b6.toNat*256+b7.toNat)=_;rw[hp,hp,hp,hp];rfl
theorem zE (b):F7 (I5 b):=⟨aR _ _,aR _ _,aR _ _,aR _ _⟩
theorem Yx (k x):F7 (G1 k x):=dZ _ _ _
theorem Qm {key:Bs} {b:Bs} (hb:b.length=8) (back:Bool):U4 (G1 (if !back then u9 (P9 key)else P9 key) (I5 (U4 (G1 (if back then u9 (P9 key)else P9 key) (I5 b)))))=b:=by
 rw[Re (Yx _ _)];cases back
 ·rw[if_pos (by rfl),if_neg (by decide),Qk (mj key) (zE b),AM hb]
 ·rw[if_neg (by decide),if_pos (by rfl),Ql (mj key) (zE b),AM hb]
theorem qm (k o) (x:W4):wh k o (wh k o x)=x:=by
 obtain⟨a,b,c,d⟩:=x;simp only[wh,du]
theorem uB (x:W4):C5 (C5 x)=x:=rfl
theorem WH (k s) (x:W4) (r):C5 (dq k s (C5 (gm k s x r)) r)=x:=by
 obtain⟨a,b,c,d⟩:=x;simp only[C5,dq,gm];rw[gf _ (by decide) (by decide) (by decide),du,du,gf _ (by decide) (by decide) (by decide)]
theorem WI (k s) (x:W4) (r):gm k s (C5 (dq k s (C5 x) r)) r=x:=by
 obtain⟨a,b,c,d⟩:=x;simp only[C5,dq,gm];rw[du,gf _ (by decide) (by decide) (by decide),gf _ (by decide) (by decide) (by decide),du]
theorem sT {α:Type} {f:α->Nat->α} {g:α->α} (hg:∀x,g (g x)=x):∀(l:List Nat) (y:α),l.foldl (fun x r=>g (f (g x) r)) y=g (l.foldl f (g y))
 |[],y=>(hg y).symm
 |a::l,y=>by
  rw[Zx,Zx,sT hg l,hg]
theorem BF (k s) (y:W4):(List.range 16).foldl (fun x r=>C5 (dq k s (C5 x) (16-1-r))) y=C5 (aM k s (C5 y) 16):=
 sT (f:=fun x r=>dq k s x (15-r)) uB (List.range 16) y
theorem Yy (k s) (x:W4):bI k s (bJ k s x)=x:=by
 unfold bI bJ;rw[qm];have e:=oJ (st:=gm k s) (bk:=fun x r=>C5 (dq k s (C5 x) r)) (WH k s) 16 (wh k 0 x);rw[<-BF];exact(congrArg (wh k 0) e).trans (qm _ _ _)
theorem Yz (k s) (x:W4):bJ k s (bI k s x)=x:=by
 unfold bI bJ;rw[qm];have e:=yZ (st:=gm k s) (bk:=fun x r=>C5 (dq k s (C5 x) r)) (WI k s) 16 (C5 (wh k 4 x));rw[BF,uB]at e;have e':bH k s (C5 (aM k s (wh k 4 x) 16)) 16=C5 (wh k 4 x):=e;rw[e',uB,qm]
theorem AN (x:W4):I8 x 4=m9 x.1++(m9 x.2.1++(m9 x.2.2.1++(m9 x.2.2.2++[]))):=rfl
theorem gk {a b:Bs} {n i m:Nat} (ha:a.length=n):sub (a++b) (n+i) m=sub b i m:=by
 subst ha;simp only[sub,Jf,List.drop_append];rw[List.drop_eq_nil_of_le (by omega),Zl,show a.length+i-a.length=i by omega]
theorem mJ {a b:Bs} {n:Nat} (ha:a.length=n):sub (a++b) 0 n=a:=by subst ha;simp[sub]
theorem Rf (x:W4):x9 (I8 x 4)=x:=by
 obtain⟨a,b,c,d⟩:=x;rw[AN];unfold x9;have e1:∀t,sub (m9 a++t) 0 4=m9 a:=fun t=>mJ (C4 a);have e2:∀t,sub (m9 a++(m9 b++t)) 4 4=m9 b:=fun t=>(gk (i:=0) (C4 a)).trans (mJ (C4 b));have e3:∀t,sub (m9 a++(m9 b++(m9 c++t))) 8 4=m9 c:=fun t=>(gk (i:=4) (C4 a)).trans ((gk (i:=0) (C4 b)).trans (mJ (C4 c)));have e4:∀t,sub (m9 a++(m9 b++(m9 c++(m9 d++t)))) 12 4=m9 d:=fun t=>(gk (i:=8) (C4 a)).trans ((gk (i:=4) (C4 b)).trans ((gk (i:=0) (C4 c)).trans (mJ (C4 d))));rw[e1,e2,e3,e4,jC,jC,jC,jC]
theorem AO {b:Bs} (h:b.length=16):I8 (x9 b) 4=b:=by
 rw[AN];unfold x9;simp only
 rw[jL (by rw[j5];omega),jL (by rw[j5];omega),jL (by rw[j5];omega),jL (by rw[j5];omega),Z9];have e:∀(i:Nat),sub b i 4++b.drop (i+4)=b.drop i:=fun i=>by
  rw[<-List.drop_drop];exact Zk 4 _
 have e3:sub b 12 4=b.drop 12:=G6 _ _ _ (by omega);rw[e3,e 8,e 4];exact Zk 4 b
theorem ZB {k s:List UInt32} {b:Bs} (hb:b.length=16) (back:Bool):I8 (if !back then bI k s (x9 (I8 (if back then bI k s (x9 b)else bJ k s (x9 b)) 4))else bJ k s (x9 (I8 (if back then bI k s (x9 b)else bJ k s (x9 b)) 4))) 4=b:=by
 rw[Rf];cases back
 ·rw[if_pos (by rfl),if_neg (by decide),Yy,AO hb]
 ·rw[if_neg (by decide),if_pos (by rfl),Yz,AO hb]
theorem DR (a b:UInt8):a^^^b^^^b=a:=by rw[Z7,UInt8.xor_self,Ju]
theorem V1:∀{a k:Bs},a.length<=k.length->f6 (f6 a k) k=a
 |[],_,_=>by simp[f6]
 |a::r,[],h=>by simp at h
 |a::r,b::k,h=>by
  have ih:=V1 (a:=r) (k:=k) (by simpa using h);unfold f6 at ih ⊢;rw[Jb,Jb,ih,DR]
theorem lv {a b:Bs} (hl:a.length=b.length) (h:∀i,i<a.length->a.getD i 0=b.getD i 0):a=b:=by
 apply List.ext_getElem hl;intro i h1 h2;have:=h i h1
 rwa [Zc,Zp h1,Zc,Zp h2]at this
theorem wm:∀j,j<4->∀x,x<256->((eU ((j+2)%4)).getD ((eU j).getD x 0).toNat 0).toNat=x:=by decide +kernel
theorem vx {k b n i} (h:i<n):(C0 k b n).getD i 0=(eU ((i+2*(k-1))%4)).getD (b.getD i 0).toNat 0:=by simp[C0,Zc,h]
theorem nd {b:Bs} {k j:Nat} (hb:b.length=16) (h:k=1/\j=2\/k=2/\j=1):C0 k (C0 j b 16) 16=b:=by
 refine lv (by rw[M5,hb]) fun i h1=> ?_;have hi:i<16:=by rw[M5]at h1;exact h1
 rw[vx hi,vx hi];apply Z8.1;have hx:=(b.getD i 0).toNat_lt;rcases h with ⟨rfl,rfl⟩|⟨rfl,rfl⟩
 ·have:=wm ((i+2*(2-1))%4) (Zt _ (by decide)) _ hx;rw[show ((i+2*(2-1))%4+2)%4=(i+2*(1-1))%4 by omega]at this;exact this
 ·have:=wm ((i+2*(1-1))%4) (Zt _ (by decide)) _ hx;rw[show ((i+2*(1-1))%4+2)%4=(i+2*(2-1))%4 by omega]at this;exact this
def xS (f:Nat->UInt8) (n:Nat):UInt8:=(List.range n).foldl (fun s i=>s^^^f i) 0
theorem mU (f n):xS f (n+1)=xS f n^^^f n:=by simp[xS,Zo]
theorem DN (f g:Nat->UInt8):∀n,xS (fun i=>f i^^^g i) n=xS f n^^^xS g n
 |0=>by show(0:UInt8)=0^^^0;decide
 |n+1=>by
  rw[mU,mU,mU,DN f g n];generalize xS f n=a;generalize xS g n=b;generalize f n=c;generalize g n=d;rw[Z7,Z7,<-Z7 b,UInt8.xor_comm b,Z7 c]
theorem DP:∀n,xS (fun _=>0) n=0
 |0=>rfl
 |n+1=>by rw[mU,DP n];decide
def xM (b:Bs) (m:Nat):UInt8:=xS (fun i=>if m.testBit i then b.getD i 0 else 0) 16
theorem a0j (b m n):xM b (m^^^n)=xM b m^^^xM b n:=by
 unfold xM;rw[<-DN];congr 1;funext i;rw[Nat.testBit_xor];cases m.testBit i<;>cases n.testBit i<;>simp
theorem DO (v:UInt8) (j:Nat):∀n,xS (fun i=>if j=i then v else 0) n=if j<n then v else 0
 |0=>by rw[if_neg (by omega)];rfl
 |n+1=>by
  rw[mU,DO v j n];by_cases h:j<n
  ·rw[if_pos h,if_neg (by omega),if_pos (by omega),Ju]
  ·by_cases h2:j=n
   ·rw[if_neg h,if_pos h2,if_pos (by omega),UInt8.zero_xor]
   ·rw[if_neg h,if_neg h2,if_neg (by omega),Ju]
theorem DM {b:Bs} {j:Nat} (h:j<16):xM b (2^j)=b.getD j 0:=by
 unfold xM;have e:(fun i=>if (2^j).testBit i then b.getD i 0 else 0)=fun i=>if j=i then b.getD j 0 else 0:=by
  funext i;rw[Nat.testBit_two_pow];by_cases hi:j=i
  ·subst hi;simp
  ·simp[hi]
 rw[e,DO,if_pos h]
theorem a0k (b):xM b 0=0:=by
 unfold xM;have e:(fun i=>if (0:Nat).testBit i then b.getD i 0 else 0)=fun _=>(0:UInt8):=by funext i;simp
 rw[e,DP]
theorem uW (b:Bs) (f:Nat->Nat):∀n,(List.range n).foldl (fun s t=>s^^^xM b (f t)) 0=xM b ((List.range n).foldl (fun m t=>m^^^f t) 0)
 |0=>(a0k b).symm
 |n+1=>by
  rw[Zo,Z0,Z0];show _^^^xM b (f n)=xM b (_^^^f n);rw[a0j,uW b f n]
def iM (p:Nat):Nat:=(List.range 7).foldl (fun m t=>m^^^2^((p9 p).getD t 0)) 0
theorem vD:∀p,p<16->∀t,t<7->(p9 p).getD t 0<16:=by decide +kernel
theorem Ee:∀p,p<16->(List.range 7).foldl (fun m t=>m^^^iM ((p9 p).getD t 0)) 0=2^p:=by decide +kernel
theorem vF {b:Bs} {p:Nat} (hp:p<16):aX b p 7=xM b (iM p):=by
 unfold iM;rw[<-uW];exact lZ (fun x t ht=>by rw[DM (vD p hp t ht)]) 0
theorem vz {b:Bs} {p:Nat} (hp:p<16):(D4 b).getD p 0=xM b (iM p):=by
 rw[<-vF hp];simp[D4,Zc,hp]
theorem vA {b:Bs} (hb:b.length=16):D4 (D4 b)=b:=by
 refine lv (by simp[D4,hb]) fun p h1=> ?_;have hp:p<16:=by simpa [D4]using h1
 have e:(D4 (D4 b)).getD p 0=aX (D4 b) p 7:=by rw[vz hp,<-vF hp]
 have e3:aX (D4 b) p 7=(List.range 7).foldl (fun s t=>s^^^xM b (iM ((p9 p).getD t 0))) 0:=lZ (fun x t ht=>by rw[vz (vD p hp t ht)]) 0;rw[e,e3,uW b (fun t=>iM ((p9 p).getD t 0)),Ee p hp,DM hp]
theorem Ed (b):(D4 b).length=16:=by simp[D4]
theorem Ex {q:Nat} {key b:Bs} {n:Nat} (h:ak q key n) (hb:b.length=16):eW q key n (cD q key n b)=b:=by
 have hK:=dy h;have hE:=kC h hb;have h3:=h.h3;have st:∀i,i<=n-2->M4 q key n (cD q key n b) i=N8 q key b (n-2-i):=by
  intro i;induction i with
  |zero=>
   intro _;show f6 (C0 1 (f6 (f6 (C0 2 (f6 (N8 q key b (n-2)) (o6 q key (n-2))) 16) (o6 q key (n-1))) (o6 q key (n-1))) 16) (o6 q key (n-2))=_;rw[V1 (by rw[M5,hK];exact Zh _),nd (t9 (hE _) (hK _)) (.inl ⟨rfl,rfl⟩),V1 (by rw[hE,hK];exact Zh _)];rfl
  |succ i ih=>
   intro hi;have e:n-2-i=n-3-i+1:=by omega
   have e2:n-2-(i+1)=n-3-i:=by omega
   show f6 (C0 (2-(n-3-i)%2) (D4 (M4 q key n (cD q key n b) i)) 16) (o6 q key (n-3-i))=_;rw[ih (by omega),e,e2];generalize n-3-i=r;show f6 (C0 (2-r%2) (D4 (D4 (C0 (1+r%2) (f6 (N8 q key b r) (o6 q key r)) 16))) 16) (o6 q key r)=_;rw[vA (M5 _ _ _),nd (t9 (hE _) (hK _)) (by omega),V1 (by rw[hE,hK];exact Zh _)]
 have:=st (n-2) (Zh _);rw[Jo]at this;exact this
theorem Ey {q:Nat} {key b:Bs} {n:Nat} (h:ak q key n) (hb:b.length=16):cD q key n (eW q key n b)=b:=by
 have hK:=dy h;have hD:=nb (b:=b) h;have h3:=h.h3;have st:∀r,r<=n-2->N8 q key (eW q key n b) r=M4 q key n b (n-2-r):=by
  intro r;induction r with
  |zero=>intro _;rfl
  |succ r ih=>
   intro hr;have e:n-2-r=n-3-r+1:=by omega
   have e2:n-2-(r+1)=n-3-r:=by omega
   have e3:n-3-(n-3-r)=r:=by omega
   show D4 (C0 (1+r%2) (f6 (N8 q key (eW q key n b) r) (o6 q key r)) 16)=_;rw[ih (by omega),e,e2];show D4 (C0 (1+r%2) (f6 (f6 (C0 (2-(n-3-(n-3-r))%2) (D4 (M4 q key n b (n-3-r))) 16) (o6 q key (n-3-(n-3-r)))) (o6 q key r)) 16)=_;rw[e3,V1 (by rw[M5,hK];exact Zh _),nd (Ed _) (by omega),vA (hD _)]
 have e:=st (n-2) (Zh _);rw[Jo]at e;unfold cD;rw[e];show f6 (C0 2 (f6 (f6 (C0 1 (f6 b (o6 q key (n-1))) 16) (o6 q key (n-2))) (o6 q key (n-2))) 16) (o6 q key (n-1))=b;rw[V1 (by rw[M5,hK];exact Zh _),nd (t9 hb (hK _)) (.inr ⟨rfl,rfl⟩),V1 (by rw[hb,hK];exact Zh _)]
def ju:List Nat:=(List.range 64).map (· +1)
theorem AG {b:Bs} (hb:b.length=8):A3 ju b=b:=by
 apply mN (by rw[dl,hb];rfl);intro j hj;rw[dl]at hj;have hj:j<64:=hj;have h8:ju.length/8=8:=rfl;unfold A3;rw[h8,eO (by omega)];have:ju.getD j 0=j+1:=by simp[ju,Zc,hj]
 rw[this];rfl
theorem yY:(t5.map fun k=>aO.getD (k-1) 0)=ju/\(aO.map fun k=>t5.getD (k-1) 0)=ju:=by decide +kernel
theorem Tc {b:Bs} (hb:b.length=8):A3 t5 (A3 aO b)=b:=by
 rw[uf (by rw[gp]) (by rw[L1,gp];exact uG),yY.1,AG hb]
theorem Td {b:Bs} (hb:b.length=8):A3 aO (A3 t5 b)=b:=by
 rw[uf (by rw[L1]) (by rw[L1,gp];exact uF),yY.2,AG hb]
theorem Lx {x:L2} {k:Bs} (h:x.1.length=4):R3 (dM (R3 (dM x k)) k)=x:=by
 obtain⟨a,c⟩:=x;simp only[R3,dM];rw[V1 (by rw[dL,h];exact Zh _)]
theorem Lu {ks:List (Bs)} {x:L2} (h1:x.1.length=4) (h2:x.2.length=4):dN ks.reverse (R3 (dN ks x ks.length)) ks.length=R3 x:=by
 have e:=oK (P:=fun x:L2=>x.1.length=4/\x.2.length=4) (st:=fun x i=>dM x (ks.getD i [])) (bk:=fun x i=>R3 (dM (R3 x) (ks.getD i []))) (fun x r h=>Lx h.1) (fun x r h=>⟨h.2,t9 h.1 (dL _ _)⟩) ks.length x ⟨h1,h2⟩;have c:=sT (f:=fun x r=>dM x (ks.getD (ks.length-1-r) [])) (g:=R3) (fun _=>rfl) (List.range ks.length) (dN ks x ks.length);have d:dN ks.reverse (R3 (dN ks x ks.length)) ks.length=(List.range ks.length).foldl (fun x r=>dM x (ks.getD (ks.length-1-r) [])) (R3 (dN ks x ks.length)):=by
  unfold dN;exact lZ (fun y r hr=>by rw[AZ hr]) _
 rw[d];have:=congrArg R3 (c.symm.trans e);exact this
theorem lf {ks:List (Bs)} {b:Bs} (hb:b.length=8):C2 ks.reverse (C2 ks b)=b:=by
 obtain⟨i1,i2⟩:=kY b;obtain⟨y1,y2⟩:=nW (ks:=ks) i1 i2 ks.length;have e:u6 (C2 ks b)=R3 (dN ks (u6 b) ks.length):=by
  obtain⟨s1,s2⟩:=uA y2 y1;unfold C2 u6;rw[Tc (by rw[Zb];unfold u6 at y1 y2;omega)];unfold u6 at s1 s2;rw[s1,s2];rfl
 have hr:ks.reverse.length=ks.length:=Zm;rw[C2,e,hr,Lu i1 i2];show A3 aO ((u6 b).1++(u6 b).2)=b;have hp:(A3 t5 b).length=8:=by rw[dl,L1]
 have:(u6 b).1++(u6 b).2=A3 t5 b:=uz (n:=4) (m:=4) hp;rw[this,Td hb]
theorem nY {ks:List (Bs)} {b:Bs} (hb:b.length=8):C2 ks (C2 ks.reverse b)=b:=by
 have:=lf (ks:=ks.reverse) hb
 rwa [Z4]at this
theorem ss:∀{K:List (List (Bs))} {b:Bs},(K.length=1\/K.length=3)->b.length=8->∀back,I3 K (!back) (I3 K back b K.length) K.length=b
 |[k],b,_,hb,false=>by show C2 k.reverse (C2 k b)=b;exact lf hb
 |[k],b,_,hb,true=>by show C2 k (C2 k.reverse b)=b;exact nY hb
 |[k,l,m],b,_,hb,false=>by
  show C2 k.reverse (C2 l (C2 m.reverse (C2 m (C2 l.reverse (C2 k b)))))=b;rw[lf (lg _ _),nY (lg _ _),lf hb]
 |[k,l,m],b,_,hb,true=>by
  show C2 m (C2 l.reverse (C2 k (C2 k.reverse (C2 l (C2 m.reverse b)))))=b;rw[nY (lg _ _),lf (lg _ _),nY hb]
 |[],_,h,_,_=>by simp at h
 |[_,_],_,h,_,_=>by simp at h
 |_::_::_::_::_,_,h,_,_=>by simp at h
theorem EW {t:Int} {key b:Bs} {s:Nat} (ht:q6 t) (hs:B6 t=s) (hv:(key.length:Int)∈m7 t) (hb:b.length=s) (back:Bool):cF t key (!back) (cF t key back b)=b:=by
 rcases ht with rfl|rfl|rfl|rfl|rfl|rfl|rfl|rfl
 ·have h8:b.length=8:=by simp[B6]at hs;omega
  have hn:key.length/8=1:=by simp[m7]at hv;omega
  have hl:=fe (key:=key) (n:=1) (by decide);show fh key (!back) (fh key back b)=b;unfold fh;rw[hn];exact ss (by rw[hl];decide) h8 back
 ·have h8:b.length=8:=by simp[B6]at hs;omega
  have hn:key.length/8=2\/key.length/8=3:=by simp[m7]at hv;omega
  show fh key (!back) (fh key back b)=b;unfold fh;rcases hn with hn|hn
  ·have hl:=fe (key:=key) (n:=2) (by decide);rw[hn];exact ss (by rw[hl];decide) h8 back
  ·have hl:=fe (key:=key) (n:=3) (by decide);rw[hn];exact ss (by rw[hl];decide) h8 back
 ·have h8:b.length=8:=by simp[B6]at hs;omega
  exact Qm h8 back
 ·have h8:b.length=8:=by simp[B6]at hs;omega
  exact a0o h8 back
 ·have h8:b.length=8:=by simp[B6]at hs;omega
  exact Rs h8 back
 ·have h8:b.length=16:=by simp[B6]at hs;omega
  exact ZB h8 back
 ·have h8:b.length=16:=by simp[B6]at hs;omega
  have ok:ak (aQ key) key (aN key):=by
   have hk:key.length=16\/key.length=24\/key.length=32:=by simp[m7]at hv;omega
   refine⟨?_,?_,?_,?_⟩<;>first|omega|(simp only[aN,aQ];omega)
  cases back
  ·exact Ex ok h8
  ·exact Ey ok h8
 ·have h8:b.length=8:=by simp[B6]at hs;omega
  exact Ub h8 back
theorem g9.inv {t key s k xs rs} (h:g9 t key s k xs rs) {b:Bs} (hb:b.length=s) (back:Bool):cF t key (!back) (cF t key back b)=b:=EW h.ht h.hs h.kl hb back
def fB:Bs->Nat->Bs
 |b,0=>b
 |b,i+1=>if b.getD i 0+1=0 then fB (b.set i (b.getD i 0+1)) i else b.set i (b.getD i 0+1)
def fA (b:Bs):Bs:=fB b b.length
theorem zk:∀(i:Nat) (b:Bs),(fB b i).length=b.length
 |0,_=>rfl
 |i+1,b=>by
  unfold fB;split
  ·rw[zk i,Zv]
  ·rw[Zv]
theorem tc (b):(fA b).length=b.length:=zk _ _
structure MS where
 ch:Bs
 row:Bs
 gone:Bs
def bt (E:Bs->Bs) (mode:Int) (s:MS):MS:=
 ⟨if mode=5 then E s.ch else if mode=6 then fA s.ch else s.ch,E s.ch,[]⟩
def m8 (back:Bool) (p o:UInt8):UInt8:=if back then p else o
def Q7 (mode:Int) (back:Bool) (s:MS) (p:UInt8):UInt8×MS:=
 let o:=p^^^s.row.getD 0 0
 let g:=s.gone++[m8 back p o]
 (o,if mode=3 then ⟨s.ch.drop 1++[m8 back p o],[],g⟩else if mode=4 then (if s.row.length=1 then ⟨g,[],g⟩else ⟨s.ch,s.row.drop 1,g⟩)else ⟨s.ch,s.row.drop 1,g⟩)
def y3 (E:Bs->Bs) (mode:Int) (back:Bool) (s:MS) (p:UInt8):UInt8×MS:=
 Q7 mode back (if s.row.length=0 then bt E mode s else s) p
def B8 (E:Bs->Bs) (mode:Int) (back:Bool):MS->Bs->Bs×MS
 |s,[]=>([],s)
 |s,p::r=>let x:=y3 E mode back s p;let y:=B8 E mode back x.2 r;(x.1::y.1,y.2)
def D9 (E D:Bs->Bs) (mode:Int) (back:Bool) (c p:Bs):Bs×Bs:=
 if mode=1 then (if back then D p else E p,c)
 else if back then (f6 (D p) c,p)else (E (f6 p c),E (f6 p c))
def t4 (E D:Bs->Bs) (mode:Int) (back:Bool) (n:Nat) (b c:Bs):Nat->Bs×Bs
 |0=>([],c)
 |i+1=>let x:=t4 E D mode back n b c i;let y:=D9 E D mode back x.2 (sub b (n*i) n);(x.1++y.1,y.2)
def f7 (E D:Bs->Bs) (n:Nat) (mode:Int) (back:Bool) (s:MS) (b:Bs):Bs×MS:=
 if mode=1\/mode=2 then ((t4 E D mode back n b s.ch (b.length/n)).1,⟨(t4 E D mode back n b s.ch (b.length/n)).2,s.row,s.gone⟩)
 else B8 E mode back s b
def k6 (n:Nat) (mode:Int):Nat:=if mode=1\/mode=2 then n else 1
theorem tG (E mode back):∀(l:Bs) (s:MS) (p:UInt8),B8 E mode back s (l++[p])=((B8 E mode back s l).1++[(y3 E mode back (B8 E mode back s l).2 p).1],(y3 E mode back (B8 E mode back s l).2 p).2)
 |[],s,p=>rfl
 |a::l,s,p=>by
  show((y3 E mode back s a).1::(B8 E mode back (y3 E mode back s a).2 (l++[p])).1,(B8 E mode back (y3 E mode back s a).2 (l++[p])).2)=_;rw[tG E mode back l];rfl
theorem Ac (E mode back):∀(l m:Bs) (s:MS),B8 E mode back s (l++m)=((B8 E mode back s l).1++(B8 E mode back (B8 E mode back s l).2 m).1,(B8 E mode back (B8 E mode back s l).2 m).2)
 |[],m,s=>rfl
 |a::l,m,s=>by
  show((y3 E mode back s a).1::(B8 E mode back (y3 E mode back s a).2 (l++m)).1,(B8 E mode back (y3 E mode back s a).2 (l++m)).2)=_;rw[Ac E mode back l];rfl
theorem tF (E mode back):∀(l:Bs) (s:MS),(B8 E mode back s l).1.length=l.length
 |[],_=>rfl
 |a::l,s=>by
  show(_::(B8 E mode back _ l).1).length=_;rw[Z5,tF E mode back l,Z5]
structure CI (E D:Bs->Bs) (n:Nat):Prop where
 le:∀{b:Bs},b.length=n->(E b).length=n
 ld:∀{b:Bs},b.length=n->(D b).length=n
 de:∀{b:Bs},b.length=n->D (E b)=b
 ed:∀{b:Bs},b.length=n->E (D b)=b
theorem g9.ci {t key s k xs rs} (h:g9 t key s k xs rs):CI (cF t key false) (cF t key true) s:=
 ⟨fun hb=>h.len hb,fun hb=>h.len hb,fun hb=>h.inv hb false,fun hb=>h.inv hb true⟩
def D0 (a t:Bs):Bs:=f6 a t++a.drop t.length
theorem jI {a t:Bs} (h:t.length<=a.length):(D0 a t).length=a.length:=by
 rw[D0,Zb,Ze,f6,Z6];omega
theorem iw {a t:Bs} (h:t.length=a.length):D0 a t=f6 a t:=by
 rw[D0,h,List.drop_length,Z9]
theorem uX (a t:Bs) (h:t.length<=a.length):f6 (a.take t.length) t=f6 a t:=by
 unfold f6;apply List.ext_getElem (by simp;omega);intro i h1 h2;simp
theorem ko (a b:Bs):f6 a b=f6 b a:=by
 unfold f6;exact List.zipWith_comm_of_comm (fun x y=>UInt8.xor_comm x y)
theorem bK (a b:Bs):(f6 a b).length=min a.length b.length:=by simp[f6]
def ab (E:Bs->Bs) (n:Nat) (swap:Bool) (a9 b:Bs):Bs:=
 let x:=E (f6 (b.take n) a9)
 let y:=E (D0 x (b.drop n))
 if swap then y++x.take (b.length-n)else x.take (b.length-n)++y
def S6 (D:Bs->Bs) (a9 x y:Bs):Bs:=
 f6 (D (x++(D y).drop x.length)) a9++f6 ((D y).take x.length) x
def Q9 (D:Bs->Bs) (n:Nat) (swap:Bool) (a9 b:Bs):Bs:=
 if swap then S6 D a9 (b.drop n) (b.take n)else S6 D a9 (b.take (b.length-n)) (b.drop (b.length-n))
def U7 (n:Nat) (mode:Int) (b:Bs):Bool:=decide (mode=9)||(decide (mode=8)&& !decide (b.length=2*n))
def A9 (E D:Bs->Bs) (n:Nat) (mode:Int) (back:Bool) (a9 b:Bs):Bs:=
 if b.length=n then (if back then f6 (D b) a9 else E (f6 b a9))
 else if back then Q9 D n (U7 n mode b) a9 b else ab E n (U7 n mode b) a9 b
def mH (n:Nat) (mode:Int) (a9 b:Bs):Int:=
 if mode<7\/9<mode then 3 else if a9.length≠n then 5 else if b.length<n\/2*n<b.length then 7 else 0
theorem Bt {E D:Bs->Bs} {n:Nat} (h:CI E D n) {swap:Bool} {a9 b:Bs} (hl:a9.length=n) (h1:n<=b.length) (h2:b.length<=2*n):(ab E n swap a9 b).length=b.length:=by
 have lx:(E (f6 (b.take n) a9)).length=n:=h.le (by rw[bK,Zf];omega);have ly:(E (D0 (E (f6 (b.take n) a9)) (b.drop n))).length=n:=h.le (by rw[jI (by rw[Ze];omega),lx]);unfold ab;simp only
 split<;>(rw [Zb,Zf,lx,ly];omega)
theorem Bu {E D:Bs->Bs} {n:Nat} (h:CI E D n) {a9 x y:Bs} (hl:a9.length=n) (hx:x.length<=n) (hy:y.length=n):(S6 D a9 x y).length=n+x.length:=by
 have lz:=h.ld hy;have lp:(D (x++(D y).drop x.length)).length=n:=h.ld (by rw[Zb,Ze,lz];omega);rw[S6,Zb,bK,bK,lp,Zf,lz];omega
theorem Bq {E D:Bs->Bs} {n:Nat} (h:CI E D n) {swap:Bool} {a9 b:Bs} (hl:a9.length=n) (h1:n<=b.length) (h2:b.length<=2*n):(Q9 D n swap a9 b).length=b.length:=by
 unfold Q9;split
 ·rw[Bu h hl (by rw[Ze];omega) (by rw[Zf];omega),Ze];omega
 ·rw[Bu h hl (by rw[Zf];omega) (by rw[Ze];omega),Zf];omega
theorem stT_len {E D:Bs->Bs} {n:Nat} (h:CI E D n) {mode:Int} {back:Bool} {a9 b:Bs} (hl:a9.length=n) (h1:n<=b.length) (h2:b.length<=2*n):(A9 E D n mode back a9 b).length=b.length:=by
 unfold A9;split
 ·rename_i hb;cases back
  ·rw[if_neg (by decide),h.le (by rw[bK];omega),hb]
  ·rw[if_pos rfl,bK,h.ld hb];omega
 ·cases back
  ·rw[if_neg (by decide)];exact Bt h hl h1 h2
  ·rw[if_pos rfl];exact Bq h hl h1 h2
theorem dr {a b:Bs} {n:Nat} (h:a.length=n):(a++b).take n=a:=by subst h;simp
theorem fj {a b:Bs} {n:Nat} (h:a.length=n):(a++b).drop n=b:=by subst h;simp
theorem Ws {E D:Bs->Bs} {n:Nat} (h:CI E D n) {a9 b1 b2:Bs} (hl:a9.length=n) (h1:b1.length=n) (h2:b2.length<=n):
  S6 D a9 ((E (f6 b1 a9)).take b2.length) (E (D0 (E (f6 b1 a9)) b2))=b1++b2:=by
 have l0:(f6 b1 a9).length=n:=by rw[bK];omega
 have lx:=h.le l0;have lp:(D0 (E (f6 b1 a9)) b2).length=n:=by rw[jI (by omega),lx]
 have d1:=h.de l0;generalize E (f6 b1 a9)=x at*
 have lt:(x.take b2.length).length=b2.length:=by rw[Zf];omega
 have lX:(f6 x b2).length=b2.length:=by rw[bK];omega
 unfold S6;rw[h.de lp,lt,D0,fj lX,dr lX,Zk,d1,V1 (by omega)];congr 1;rw[<-uX x b2 (by omega),ko (x.take b2.length) b2];exact V1 (by omega)
theorem Br {E D:Bs->Bs} {n:Nat} (h:CI E D n) {a9 x y:Bs} (hl:a9.length=n) (hx:x.length<=n) (hy:y.length=n):
  E (f6 ((S6 D a9 x y).take n) a9)=x++(D y).drop x.length/\E (D0 (x++(D y).drop x.length) ((S6 D a9 x y).drop n))=y:=by
 have lz:=h.ld hy;have lw:(x++(D y).drop x.length).length=n:=by rw[Zb,Ze,lz];omega
 have lp:(D (x++(D y).drop x.length)).length=n:=h.ld lw;have lP:(f6 (D (x++(D y).drop x.length)) a9).length=n:=by rw[bK];omega
 have lt:((D y).take x.length).length=x.length:=by rw[Zf];omega
 unfold S6;rw[dr lP,fj lP];refine⟨by rw[V1 (by omega),h.ed lw],?_⟩;have e:D0 (x++(D y).drop x.length) (f6 ((D y).take x.length) x)=D y:=by
  have lq:(f6 ((D y).take x.length) x).length=x.length:=by rw[bK];omega
  rw[D0,lq,fj rfl];rw[<-uX _ _ (by rw[lq,Zb];omega),lq,dr rfl,ko x,ko ((D y).take x.length) x];rw[ko x ((D y).take x.length),V1 (by omega)];exact Zk _ _
 rw[e,h.ed hy]
theorem Wq {E D:Bs->Bs} {n:Nat} (h:CI E D n) {swap:Bool} {a9 b:Bs} (hl:a9.length=n) (h1:n<=b.length) (h2:b.length<=2*n):Q9 D n swap a9 (ab E n swap a9 b)=b:=by
 have l1:(b.take n).length=n:=by rw[Zf];omega
 have l2:(b.drop n).length=b.length-n:=Ze;have hb:=Ws h hl l1 (b2:=b.drop n) (by omega);have le:=Bt (swap:=swap) h hl h1 h2;have lx:(E (f6 (b.take n) a9)).length=n:=h.le (by rw[bK];omega);have ly:(E (D0 (E (f6 (b.take n) a9)) (b.drop n))).length=n:=h.le (by rw[jI (by omega),lx]);rw[Zk,l2]at hb;unfold Q9;rw[le];unfold ab;simp only
 generalize E (D0 (E (f6 (b.take n) a9)) (b.drop n))=y at*
 generalize E (f6 (b.take n) a9)=x at*
 have lt:(x.take (b.length-n)).length=b.length-n:=by rw[Zf];omega
 cases swap
 ·simp only[Bool.false_eq_true,if_false];rw[dr lt,fj lt,hb]
 ·simp only[if_true];rw[dr ly,fj ly,hb]
theorem Wr {E D:Bs->Bs} {n:Nat} (h:CI E D n) {swap:Bool} {a9 b:Bs} (hl:a9.length=n) (h1:n<=b.length) (h2:b.length<=2*n):ab E n swap a9 (Q9 D n swap a9 b)=b:=by
 have ld:=Bq (swap:=swap) h hl h1 h2;unfold ab;rw[ld];unfold Q9;cases swap
 ·simp only[Bool.false_eq_true,if_false];have lx:(b.take (b.length-n)).length=b.length-n:=by rw[Zf];omega
  obtain⟨e1,e2⟩:=Br h hl (x:=b.take (b.length-n)) (y:=b.drop (b.length-n)) (by omega) (by rw[Ze];omega);rw[e1,e2,dr lx,Zk]
 ·simp only[if_true];have lx:(b.drop n).length=b.length-n:=Ze;obtain⟨e1,e2⟩:=Br h hl (x:=b.drop n) (y:=b.take n) (by omega) (by rw[Zf];omega);rw[e1,e2,dr lx,Zk]
theorem Wu {E D:Bs->Bs} {n:Nat} (h:CI E D n) {mode:Int} {a9 b:Bs} (hl:a9.length=n) (h1:n<=b.length) (h2:b.length<=2*n) (back:Bool):A9 E D n mode (!back) a9 (A9 E D n mode back a9 b)=b:=by
 have le:=stT_len (mode:=mode) (back:=back) h hl h1 h2;have hsw:U7 n mode (A9 E D n mode back a9 b)=U7 n mode b:=by unfold U7;rw[le]
 by_cases hb:b.length=n
 ·rw[hb]at le;have e:A9 E D n mode back a9 b=if back then f6 (D b) a9 else E (f6 b a9):=by unfold A9;rw[if_pos hb]
  rw[A9,if_pos le,e];cases back
  ·simp only[Bool.not_false,if_true,Bool.false_eq_true,if_false];rw[h.de (by rw[bK];omega),V1 (by omega)]
  ·simp only[Bool.not_true,if_true,Bool.false_eq_true,if_false];rw[V1 (by rw[h.ld hb];omega),h.ed hb]
 ·rw[A9,if_neg (by omega),hsw];have e:A9 E D n mode back a9 b=if back then Q9 D n (U7 n mode b) a9 b else ab E n (U7 n mode b) a9 b:=by unfold A9;rw[if_neg hb]
  rw[e];cases back
  ·simp only[Bool.not_false,if_true,Bool.false_eq_true,if_false];exact Wq h hl h1 h2
  ·simp only[Bool.not_true,if_true,Bool.false_eq_true,if_false];exact Wr h hl h1 h2
theorem BD {a b:Bs} {i n:Nat} (h:i+n<=a.length):sub (a++b) i n=sub a i n:=by
 simp only[sub];rw[Jf (by omega),List.take_append_of_le_length (by rw[Ze];omega)]
theorem WF {a b:Bs} {i n:Nat} (h:a.length<=i):sub (a++b) i n=sub b (i-a.length) n:=by
 have:=gk (a:=a) (b:=b) (n:=a.length) (i:=i-a.length) (m:=n) rfl
 rwa [show a.length+(i-a.length)=i by omega]at this
theorem Ab (E D mode back n) {a b c:Bs} {k:Nat} (h:a.length=n*k):∀i,i<=k->t4 E D mode back n (a++b) c i=t4 E D mode back n a c i
 |0,_=>rfl
 |i+1,hi=>by
  unfold t4;rw[Ab E D mode back n h i (by omega),BD (by
   rw[h,<-Jh];exact Nat.mul_le_mul_left n (by omega))]
theorem io (E D mode back n) (b c:Bs) (i):t4 E D mode back n b c (i+1)=((t4 E D mode back n b c i).1++(D9 E D mode back (t4 E D mode back n b c i).2 (sub b (n*i) n)).1,(D9 E D mode back (t4 E D mode back n b c i).2 (sub b (n*i) n)).2):=rfl
theorem zY (E D mode back n) {a b c:Bs} {k:Nat} (h:a.length=n*k):∀j,t4 E D mode back n (a++b) c (k+j)=
  ((t4 E D mode back n a c k).1++(t4 E D mode back n b (t4 E D mode back n a c k).2 j).1,(t4 E D mode back n b (t4 E D mode back n a c k).2 j).2)
 |0=>by
  show t4 E D mode back n (a++b) c k=((t4 E D mode back n a c k).1++[],(t4 E D mode back n a c k).2);rw[Ab E D mode back n h k (Zh _),Z9]
 |j+1=>by
  show t4 E D mode back n (a++b) c (k+j+1)=_;rw[io,zY E D mode back n h j,WF (by rw[h];exact Nat.mul_le_mul_left n (by omega)),h,show n*(k+j)-n*k=n*j by rw[Nat.mul_add];omega,io E D mode back n b _ j];simp only[Jj]
theorem pk {E D:Bs->Bs} {n:Nat} {mode:Int} {back:Bool} {s:MS} {a b:Bs} (hn:0<n) (ha:a.length%k6 n mode=0) (hb:b.length%k6 n mode=0):
  f7 E D n mode back s (a++b)=((f7 E D n mode back s a).1++(f7 E D n mode back (f7 E D n mode back s a).2 b).1,(f7 E D n mode back (f7 E D n mode back s a).2 b).2):=by
 unfold k6 at ha hb;unfold f7;by_cases hm:mode=1\/mode=2
 ·rw[if_pos hm]at ha hb;simp only[if_pos hm];have e1:a.length=n*(a.length/n):=by have:=Zu a.length n;omega
  have e2:(a++b).length/n=a.length/n+b.length/n:=by
   have:=Zu b.length n;rw[Zb,show a.length+b.length=n*(a.length/n+b.length/n) by rw[Nat.mul_add];omega,Nat.mul_div_cancel_left _ hn]
  rw[e2,zY E D mode back n e1]
 ·simp only[if_neg hm];exact Ac E mode back a b s
structure S9 (n:Nat) (mode:Int) (s:MS):Prop where
 m:1<=mode/\mode<=6
 ch:mode=1\/s.ch.length=n
 row:s.row.length<=n
 blk:mode=1\/mode=2->s.row=[]
 g:mode=4->s.row.length=0\/s.gone.length+s.row.length=n
theorem zX {E D:Bs->Bs} {n:Nat} {mode:Int} {s:MS} (h:CI E D n) (hm:3<=mode) (ok:S9 n mode s):(bt E mode s).ch.length=n/\(bt E mode s).row.length=n/\(bt E mode s).gone=[]:=by
 have hc:s.ch.length=n:=ok.ch.resolve_left (by omega);refine⟨?_,h.le hc,rfl⟩;show(if mode=5 then E s.ch else if mode=6 then fA s.ch else s.ch).length=n;split
 ·exact h.le hc
 ·split
  ·rw[tc,hc]
  ·exact hc
theorem tI {E D:Bs->Bs} {n:Nat} {mode:Int} {back:Bool} {s:MS} (h:CI E D n) (hn:0<n) (hm:3<=mode) (ok:S9 n mode s) (p:UInt8):S9 n mode (y3 E mode back s p).2:=by
 have hc:s.ch.length=n:=ok.ch.resolve_left (by omega);obtain⟨t,ht,h1,h2,h3,h4⟩:∃t,t=(if s.row.length=0 then bt E mode s else s)/\t.ch.length=n/\0<t.row.length/\t.row.length<=n/\(mode=4->t.gone.length+t.row.length=n):=by
  refine⟨_,rfl,?_⟩;split
  ·obtain⟨b1,b2,b3⟩:=zX h hm ok;refine⟨b1,by omega,by omega,fun _=>by rw[b3,b2];simp⟩
  ·rename_i hr;exact⟨hc,by omega,ok.row,fun h4=>(ok.g h4).resolve_left hr⟩
 have e:(y3 E mode back s p).2=(Q7 mode back t p).2:=by rw[ht];rfl
 rw[e];unfold Q7;simp only
 split
 ·rename_i h3';exact⟨ok.m,.inr (by simp[h1];omega),by simp,fun hb=>by omega,fun hb=>by omega⟩
 ·split
  ·rename_i h4';split
   ·rename_i h5;refine⟨ok.m,.inr ?_,by simp,fun hb=>by omega,fun _=> .inl rfl⟩;have:=h4 h4';rw[Zb,Js];omega
   ·refine⟨ok.m,.inr h1,by simp;omega,fun hb=>by omega,fun _=> .inr ?_⟩;have:=h4 h4';rw[Zb,Js,Ze];omega
  ·rename_i h4';exact⟨ok.m,.inr h1,by simp;omega,fun hb=>by omega,fun hb=>absurd hb h4'⟩
theorem Af {E D:Bs->Bs} {n:Nat} {mode:Int} {back:Bool} (h:CI E D n) (hn:0<n) (hm:3<=mode):∀(l:Bs) {s:MS},S9 n mode s->S9 n mode (B8 E mode back s l).2
 |[],_,ok=>ok
 |p::l,_,ok=>Af h hn hm l (tI h hn hm ok p)
theorem ph {E D:Bs->Bs} {n:Nat} {mode:Int} {back:Bool} {c p:Bs} (h:CI E D n) (hm:mode=1\/mode=2) (hc:mode=1\/c.length=n) (hp:p.length=n):
  (D9 E D mode back c p).1.length=n/\(mode=1\/(D9 E D mode back c p).2.length=n):=by
 unfold D9;by_cases h1:mode=1
 ·rw[if_pos h1];refine⟨?_,.inl h1⟩;show(if back then D p else E p).length=n;cases back
  ·exact h.le hp
  ·exact h.ld hp
 ·rw[if_neg h1];have hc:=hc.resolve_left h1;cases back
  ·have:(E (f6 p c)).length=n:=h.le (t9 hp hc);exact⟨this,.inr this⟩
  ·exact⟨t9 (h.ld hp) hc,.inr hp⟩
theorem mq {E D:Bs->Bs} {n:Nat} {mode:Int} {back:Bool} {b c:Bs} (h:CI E D n) (hm:mode=1\/mode=2) (hc:mode=1\/c.length=n):∀i,n*i<=b.length->
  (t4 E D mode back n b c i).1.length=n*i/\(mode=1\/(t4 E D mode back n b c i).2.length=n)
 |0,_=>⟨rfl,hc⟩
 |i+1,hi=>by
  rw[Jh]at hi;obtain⟨a1,a2⟩:=mq (back:=back) (b:=b) h hm hc i (by omega);obtain⟨b1,b2⟩:=ph (back:=back) h hm a2 (p:=sub b (n*i) n) (by rw[j5];omega);exact⟨by rw[io];simp only[Zb,a1,b1,Jh],b2⟩
theorem H9 {E D:Bs->Bs} {n:Nat} {mode:Int} {back:Bool} {s:MS} {b:Bs} (h:CI E D n) (ok:S9 n mode s) (hb:b.length%k6 n mode=0):(f7 E D n mode back s b).1.length=b.length:=by
 unfold k6 at hb;unfold f7;by_cases hm:mode=1\/mode=2
 ·rw[if_pos hm]at hb;simp only[if_pos hm];have:=Zu b.length n;rw[(mq h hm ok.ch _ (by omega)).1];omega
 ·simp only[if_neg hm];exact tF E mode back b s
theorem tM {E D:Bs->Bs} {n:Nat} {mode:Int} {back:Bool} {s:MS} {b:Bs} (h:CI E D n) (hn:0<n) (ok:S9 n mode s):S9 n mode (f7 E D n mode back s b).2:=by
 unfold f7;by_cases hm:mode=1\/mode=2
 ·simp only[if_pos hm];have:=Zu b.length n;exact⟨ok.m,(mq h hm ok.ch _ (by omega)).2,ok.row,ok.blk,fun h4=>by omega⟩
 ·simp only[if_neg hm];exact Af h hn (by have:=ok.m;omega) b ok
theorem RZ (E mode) (s:MS) (p:UInt8) (back:Bool):y3 E mode (!back) s (y3 E mode back s p).1=(p,(y3 E mode back s p).2):=by
 unfold y3;generalize (if s.row.length=0 then bt E mode s else s)=t;have e:p^^^t.row.getD 0 0^^^t.row.getD 0 0=p:=DR _ _;unfold Q7;simp only[e];cases back<;>simp[m8,e]
theorem Ae (E mode) (back:Bool):∀(l:Bs) (s:MS),B8 E mode (!back) s (B8 E mode back s l).1=(l,(B8 E mode back s l).2)
 |[],_=>rfl
 |p::l,s=>by
  have h:=RZ E mode s p back;have ih:=Ae E mode back l (y3 E mode back s p).2;show((y3 E mode (!back) s (y3 E mode back s p).1).1::(B8 E mode (!back) (y3 E mode (!back) s (y3 E mode back s p).1).2 (B8 E mode back (y3 E mode back s p).2 l).1).1,_)=_;rw[h,ih];rfl
theorem RX {E D:Bs->Bs} {n:Nat} {mode:Int} {c p:Bs} (h:CI E D n) (hc:mode=1\/c.length=n) (hp:p.length=n) (back:Bool):(D9 E D mode (!back) c (D9 E D mode back c p).1).1=p/\(back=false->(D9 E D mode (!back) c (D9 E D mode back c p).1).2=(D9 E D mode back c p).2):=by
 unfold D9;by_cases h1:mode=1
 ·simp only[if_pos h1];cases back
  ·exact⟨h.de hp,fun _=>by first|rfl|trivial⟩
  ·exact⟨h.ed hp,fun h=>by cases h⟩
 ·simp only[if_neg h1];have hc:=hc.resolve_left h1;cases back
  ·simp only[Bool.not_false,if_true,Bool.false_eq_true,if_false];exact⟨by rw[h.de (t9 hp hc),V1 (by omega)],fun _=>by first|rfl|trivial⟩
  ·simp only[Bool.not_true,if_true,Bool.false_eq_true,if_false];exact⟨by rw[V1 (by rw[h.ld hp];omega),h.ed hp],fun h=>by cases h⟩
theorem Aa {E D:Bs->Bs} {n:Nat} {mode:Int} {b c:Bs} (h:CI E D n) (hm:mode=1\/mode=2) (hc:mode=1\/c.length=n):∀i,n*i<=b.length->∀t:Bs,
  t4 E D mode true n ((t4 E D mode false n b c i).1++t) c i=(b.take (n*i),(t4 E D mode false n b c i).2)
 |0,_,t=>by rw[Jw,List.take_zero];rfl
 |i+1,hi,t=>by
  rw[Jh]at hi;obtain⟨a1,a2⟩:=mq (back:=false) (b:=b) h hm hc i (by omega);have hp:(sub b (n*i) n).length=n:=by rw[j5];omega
  obtain⟨b1,b2⟩:=ph (back:=false) h hm a2 hp;obtain⟨i1,i2⟩:=RX h a2 hp false;have e:(t4 E D mode false n b c (i+1)).1=(t4 E D mode false n b c i).1++(D9 E D mode false (t4 E D mode false n b c i).2 (sub b (n*i) n)).1:=rfl;have e2:(t4 E D mode false n b c (i+1)).2=(D9 E D mode false (t4 E D mode false n b c i).2 (sub b (n*i) n)).2:=rfl;rw[e,e2,Jj];have ih:=Aa (b:=b) h hm hc i (by omega) ((D9 E D mode false (t4 E D mode false n b c i).2 (sub b (n*i) n)).1++t);generalize t4 E D mode false n b c i=x at*
  generalize D9 E D mode false x.2 (sub b (n*i) n)=y at*
  have es:sub (x.1++(y.1++t)) (n*i) n=y.1:=by
   have:=(gk (a:=x.1) (b:=y.1++t) (n:=n*i) (i:=0) (m:=n) a1).trans (mJ b1);exact this
  have i2:=i2 rfl;simp only[Bool.not_false]at i1 i2;rw[io,ih,es,i1,i2,Jh];congr 1;simp only[sub];rw[List.take_add]
theorem tJ {E D:Bs->Bs} {n:Nat} {mode:Int} {s:MS} {b:Bs} (h:CI E D n) (hn:0<n) (ok:S9 n mode s) (hb:b.length%k6 n mode=0):
  f7 E D n mode true s (f7 E D n mode false s b).1=(b,(f7 E D n mode false s b).2):=by
 have hl:=H9 (back:=false) h ok hb;unfold k6 at hb;unfold f7 at hl ⊢;by_cases hm:mode=1\/mode=2
 ·rw[if_pos hm]at hb;simp only[if_pos hm]at hl ⊢;have hd:=Zu b.length n;have:=Aa h hm ok.ch (b:=b) (b.length/n) (by omega) [];rw[Z9]at this;rw[hl,this];simp only[show n*(b.length/n)=b.length by omega,Jm]
 ·simp only[if_neg hm];exact Ae E mode false b s
def O3 (kind:Int) (n:Nat):Bs:=
 if kind=1 then Zj n (Zq n)else if kind=2 then 128::Zj (n-1) 0 else Zj (n-1) 0++[Zq n]
theorem pD {kind n} (h:0<n):(O3 kind n).length=n:=by
 unfold O3;split
 ·simp
 ·split
  ·simp;omega
  ·simp;omega
def F8 (kind:Int) (size:Nat) (tail:Bs):Bs:=tail++O3 kind (size-tail.length)
theorem eE {kind size} {tail:Bs} (h:tail.length<size):(F8 kind size tail).length=size:=by
 rw[F8,Zb,pD (by omega)];omega
def O8 (b:Bs):Nat->Nat
 |0=>0
 |k+1=>if b.getD k 0=128 then k+1 else O8 b k
def cy (kind:Int) (b:Bs):Nat:=if kind=2 then b.length+1-O8 b b.length else (b.getD (b.length-1) 0).toNat
def C3 (kind:Int) (b:Bs):Nat:=
 if cy kind b<1\/b.length<cy kind b\/(kind≠3/\b.drop (b.length-cy kind b)≠O3 kind (cy kind b))then 0 else cy kind b
def S4 (kind:Int) (b:Bs):Bs:=b.take (b.length-C3 kind b)
theorem zB (b:Bs):∀k,O8 b k<=k
 |0=>Zh _
 |k+1=>by
  unfold O8;split
  ·exact Zh _
  ·have:=zB b k;omega
theorem zy (b:Bs) {j:Nat} (hj:b.getD j 0=128):∀k,j<k->(∀i,j<i->i<k->b.getD i 0≠128)->O8 b k=j+1
 |0,h,_=>by omega
 |k+1,h,hn=>by
  unfold O8;by_cases hk:k=j
  ·subst hk;rw[if_pos hj]
  ·rw[if_neg (hn k (by omega) (by omega))];exact zy b hj k (by omega) (fun i h1 h2=>hn i h1 (by omega))
theorem jt {a b:Bs} {i:Nat} (h:a.length<=i):(a++b).getD i 0=b.getD (i-a.length) 0:=by
 rw[Zc,List.getElem?_append_right h,Zc]
theorem SS {kind:Int} {size:Nat} {tail:Bs} (hk:kind=1\/kind=2\/kind=3) (h:tail.length<size) (hs:size<=16):cy kind (F8 kind size tail)=size-tail.length:=by
 have hl:=eE (kind:=kind) h;have hof:(Zq (size-tail.length)).toNat=size-tail.length:=by rw[Zy];omega
 unfold cy;rw[hl];unfold F8;rcases hk with rfl|rfl|rfl
 ·rw[if_neg (by decide),jt (by omega),O3,if_pos rfl];have:(Zj (size-tail.length) (Zq (size-tail.length))).getD (size-1-tail.length) 0=Zq (size-tail.length):=by
   rw[Zc,Je (by omega)];rfl
  rw[this,hof]
 ·rw[if_pos rfl];have e:O8 (tail++O3 2 (size-tail.length)) size=tail.length+1:=by
   refine zy _ ?_ size h (fun i h1 h2=> ?_)
   ·rw[jt (Zh _),Jo];rfl
   ·rw[jt (by omega)];show(128::Zj (size-tail.length-1) 0).getD (i-tail.length) 0≠128;obtain⟨q,hq⟩:∃q,i-tail.length=q+1:=⟨i-tail.length-1,by omega⟩;rw[hq,List.getD_cons_succ,Zc,Je (by omega)];decide
  rw[e];omega
 ·rw[if_neg (by decide),jt (by omega)];show((Zj (size-tail.length-1) 0++[Zq (size-tail.length)]).getD (size-1-tail.length) 0).toNat=_;rw[jt (by simp;omega)];rw[show size-1-tail.length-(Zj (size-tail.length-1) (0:UInt8)).length=0 by simp;omega];exact hof
theorem AC {kind:Int} {size:Nat} {tail:Bs} (hk:kind=1\/kind=2\/kind=3) (h:tail.length<size) (hs:size<=16):C3 kind (F8 kind size tail)=size-tail.length:=by
 have hc:=SS hk h hs;have hl:=eE (kind:=kind) h;unfold C3;rw[hc,hl,if_neg];intro hh;rcases hh with hh|hh|⟨_,hh⟩
 ·omega
 ·omega
 ·apply hh;rw[show size-(size-tail.length)=tail.length by omega];exact fj rfl
theorem Ta {kind:Int} {size:Nat} {tail:Bs} (hk:kind=1\/kind=2\/kind=3) (h:tail.length<size) (hs:size<=16):S4 kind (F8 kind size tail)=tail:=by
 unfold S4;rw[AC hk h hs,eE h,show size-(size-tail.length)=tail.length by omega];exact dr rfl
theorem ue (kind b):C3 kind b<=b.length:=by
 unfold C3;split<;>omega
def r8 (n l:Nat):Nat:=n*((l-n-1)/n)
theorem ic {n l:Nat} (hn:0<n) (h:n<=l):r8 n l<=l/\n<=l-r8 n l/\l-r8 n l<=2*n/\r8 n l%n=0/\(r8 n l=0\/n<=r8 n l):=by
 unfold r8;have hd:=Zu (l-n-1) n;have hm:=Zt (l-n-1) hn;refine⟨?_,?_,?_,Nat.mul_mod_right _ _,?_⟩
 ·omega
 ·by_cases h0:l=n
  ·subst h0;rw[Jo,show(0-1:Nat)/l=0 from Nat.zero_div _,Jw];omega
  ·omega
 ·omega
 ·rcases Nat.eq_zero_or_pos ((l-n-1)/n)with h0|h0
  ·left;rw[h0,Jw]
  ·right;exact Nat.le_mul_of_pos_right n h0
def W8 (n:Nat) (back:Bool) (iv m o:Bs):Bs:=
 if r8 n m.length=0 then iv else if back then sub m (r8 n m.length-n) n else o.drop (r8 n m.length-n)
def L0 (E D:Bs->Bs) (n:Nat) (mode:Int) (back:Bool) (iv m:Bs):Bs×Int:=
 if m.length<n then ([],7)
 else let o:=(f7 E D n 2 back ⟨iv,[],[]⟩ (m.take (r8 n m.length))).1
  (o++A9 E D n mode back (W8 n back iv m o) (m.drop (r8 n m.length)),0)
def K9 (pad:Int) (n:Nat) (m:Bs):Bs:=m.take (m.length-m.length%n)++F8 pad n (m.drop (m.length-m.length%n))
def D2 (E D:Bs->Bs) (n:Nat) (mode pad:Int) (back:Bool) (iv m:Bs):Bs×Int:=
 if 7<=mode then L0 E D n mode back iv m
 else if pad=4 then (if m.length%k6 n mode=0 then ((f7 E D n mode back ⟨iv,[],[]⟩ m).1,0)else ([],7))
 else if back=false then ((f7 E D n mode false ⟨iv,[],[]⟩ (K9 pad n m)).1,0)
 else if m.length=0\/m.length%n≠0 then ([],7)
 else let o:=(f7 E D n mode true ⟨iv,[],[]⟩ m).1
  if C3 pad (o.drop (o.length-n))=0 then ([],8)else (o.take (o.length-n)++S4 pad (o.drop (o.length-n)),0)
def D1 (n:Nat) (mode pad:Int) (iv:Bs):Prop:=(1<=mode/\mode<=9)/\(1<=pad/\pad<=4)/\(pad=4\/mode<=2)/\iv.length=if mode=1 then 0 else n
noncomputable def P0 (tag mode pad:Int) (n lk li:Nat):Int:=by
 classical exact if ¬q6 tag then 2 else if (lk:Int)∉m7 tag then 4 else if ¬((1<=mode/\mode<=9)/\(1<=pad/\pad<=4)/\(pad=4\/mode<=2))then 3 else if li≠(if mode=1 then 0 else n)then 5 else 0
theorem co {n:Nat} {mode:Int} {iv:Bs} (hm:1<=mode/\mode<=6) (h:iv.length=if mode=1 then 0 else n):S9 n mode ⟨iv,[],[]⟩:=by
 refine⟨hm,?_,Nat.zero_le _,fun _=>rfl,fun _=> .inl rfl⟩;by_cases h1:mode=1
 ·exact .inl h1
 ·rw[if_neg h1]at h;exact .inr h
theorem sV (n:Nat):k6 n 2=n:=rfl
theorem Bi {E D:Bs->Bs} {n:Nat} {back:Bool} {iv m:Bs} (h:CI E D n) (hn:0<n) (hi:iv.length=n) (hm:n<=m.length):
  (f7 E D n 2 back ⟨iv,[],[]⟩ (m.take (r8 n m.length))).1.length=r8 n m.length:=by
 obtain⟨f1,f2,f3,f4,f5⟩:=ic hn hm;have lt:(m.take (r8 n m.length)).length=r8 n m.length:=by rw[Zf];omega
 rw[H9 h (co (by decide) (by rw[if_neg (by decide),hi])) (by rw[lt,sV,f4]),lt]
theorem Bg {n:Nat} {back:Bool} {iv m o:Bs} (hn:0<n) (hi:iv.length=n) (hm:n<=m.length) (ho:o.length=r8 n m.length):(W8 n back iv m o).length=n:=by
 obtain⟨f1,f2,f3,f4,f5⟩:=ic hn hm;unfold W8;split
 ·exact hi
 ·split
  ·rw[j5];omega
  ·rw[Ze];omega
theorem pP {E D:Bs->Bs} {n:Nat} {mode:Int} {back:Bool} {iv m:Bs} (h:CI E D n) (hn:0<n) (hi:iv.length=n) (hm:n<=m.length):(L0 E D n mode back iv m).1.length=m.length:=by
 obtain⟨f1,f2,f3,f4,f5⟩:=ic hn hm;have lo:=Bi (back:=back) h hn hi hm;unfold L0;rw[if_neg (by omega)];simp only
 rw[Zb,stT_len h (Bg hn hi hm lo) (by rw[Ze];omega) (by rw[Ze];omega),lo,Ze];omega
theorem Wf {E D:Bs->Bs} {n:Nat} {mode:Int} {iv m:Bs} (h:CI E D n) (hn:0<n) (hi:iv.length=n) (hm:n<=m.length):L0 E D n mode true iv (L0 E D n mode false iv m).1=(m,0):=by
 obtain⟨f1,f2,f3,f4,f5⟩:=ic hn hm;have lo:=Bi (back:=false) h hn hi hm;have ll:=pP (mode:=mode) (back:=false) h hn hi hm;have e:(L0 E D n mode false iv m).1=(f7 E D n 2 false ⟨iv,[],[]⟩ (m.take (r8 n m.length))).1++A9 E D n mode false (W8 n false iv m (f7 E D n 2 false ⟨iv,[],[]⟩ (m.take (r8 n m.length))).1) (m.drop (r8 n m.length)):=by
  unfold L0;rw[if_neg (by omega)]
 rw[L0,if_neg (by omega),ll];simp only
 have lt:(m.take (r8 n m.length)).length=r8 n m.length:=by rw[Zf];omega
 have hs:=tJ (mode:=2) (s:=⟨iv,[],[]⟩) (b:=m.take (r8 n m.length)) h hn (co (by decide) (by rw[if_neg (by decide),hi])) (by rw[lt,sV,f4]);rw[e];have hl:=Bg (back:=false) hn hi hm lo;generalize ho:(f7 E D n 2 false ⟨iv,[],[]⟩ (m.take (r8 n m.length))).1=o at*
 rw[dr lo,fj lo,hs];simp only
 have el:W8 n true iv (o++A9 E D n mode false (W8 n false iv m o) (m.drop (r8 n m.length))) (m.take (r8 n m.length))=W8 n false iv m o:=by
  have ll':(o++A9 E D n mode false (W8 n false iv m o) (m.drop (r8 n m.length))).length=m.length:=by rw[<-e];exact ll
  unfold W8 at ll' ⊢;rw[ll'];by_cases h0:r8 n m.length=0
  ·rw[if_pos h0,if_pos h0]
  ·rw[if_neg h0,if_neg h0,if_pos rfl,if_neg (by decide)];rw[BD (by omega),G6 _ _ _ (by omega)]
 rw[el];have:=Wu (mode:=mode) (a9:=W8 n false iv m o) (b:=m.drop (r8 n m.length)) h hl (by rw[Ze];omega) (by rw[Ze];omega) false;simp only[Bool.not_false]at this;rw[this,Zk]
def jW (n:Nat) (mode pad:Int) (m:Bs):Prop:=¬(pad=4/\mode<=2/\m.length%n≠0\/7<=mode/\m.length<n)
theorem uc {pad:Int} {n:Nat} {m:Bs} (hn:0<n):(K9 pad n m).length=m.length/n*n+n:=by
 have hd:=Zu m.length n;have hm:=Zt m.length hn;have hc:m.length/n*n=n*(m.length/n):=Ji _ _;unfold K9;rw[Zb,eE (by rw[Ze];omega),Zf];omega
theorem oO {n:Nat} {mode:Int} {l:Nat} (h:mode<=2->l%n=0):l%k6 n mode=0:=by
 unfold k6;split
 ·exact h (by omega)
 ·exact Nat.mod_one _
theorem Bh {E D:Bs->Bs} {n:Nat} {mode pad:Int} {iv m:Bs} (h:CI E D n) (hn:0<n) (ok:D1 n mode pad iv) (hf:jW n mode pad m):
  (D2 E D n mode pad false iv m).2=0/\(D2 E D n mode pad false iv m).1.length=if pad=4 then m.length else m.length/n*n+n:=by
 obtain⟨o1,o2,o3,o4⟩:=ok;unfold jW at hf;unfold D2;by_cases h7:7<=mode
 ·rw[if_pos h7,if_pos (by omega)];have hi:iv.length=n:=by rw[o4,if_neg (by omega)]
  refine⟨?_,pP h hn hi (by omega)⟩;unfold L0;rw[if_neg (by omega)]
 ·rw[if_neg h7];by_cases h4:pad=4
  ·rw[if_pos h4,if_pos h4];have hg:m.length%k6 n mode=0:=oO fun hm=>by omega
   rw[if_pos hg];exact⟨rfl,H9 h (co (by omega) o4) hg⟩
  ·rw[if_neg h4,if_neg h4,if_pos rfl];refine⟨rfl,?_⟩;have hl:=uc (pad:=pad) (m:=m) hn;have hg:(K9 pad n m).length%k6 n mode=0:=oO fun hm=>by rw[hl,Nat.add_mod_right,Jk]
   rw[H9 h (co (by omega) o4) hg,hl]
theorem We {E D:Bs->Bs} {n:Nat} {mode pad:Int} {iv m:Bs} (h:CI E D n) (hn:0<n) (h16:n<=16) (ok:D1 n mode pad iv) (hf:jW n mode pad m):
  D2 E D n mode pad true iv (D2 E D n mode pad false iv m).1=(m,0):=by
 have m6:=Bh h hn ok hf;obtain⟨o1,o2,o3,o4⟩:=ok;unfold jW at hf;by_cases h7:7<=mode
 ·have hi:iv.length=n:=by rw[o4,if_neg (by omega)]
  have e:∀back m,D2 E D n mode pad back iv m=L0 E D n mode back iv m:=fun back m=>by unfold D2;rw[if_pos h7]
  rw[e,e];exact Wf h hn hi (by omega)
 ·by_cases h4:pad=4
  ·have hg:m.length%k6 n mode=0:=oO fun hm=>by omega
   have e:∀back m,m.length%k6 n mode=0->D2 E D n mode pad back iv m=((f7 E D n mode back ⟨iv,[],[]⟩ m).1,0):=fun back m hg=>by
    unfold D2;rw[if_neg h7,if_pos h4,if_pos hg]
   have hl:=H9 (back:=false) h (co (by omega) o4) hg;rw[e false m hg];simp only
   rw[e true _ (by rw[hl];exact hg),tJ h hn (co (by omega) o4) hg]
  ·have hm2:mode<=2:=by omega
   have hl:=uc (pad:=pad) (m:=m) hn;have hz:(K9 pad n m).length%n=0:=by rw[hl,Nat.add_mod_right,Jk]
   have hg:(K9 pad n m).length%k6 n mode=0:=oO fun _=>hz;have e:(D2 E D n mode pad false iv m).1=(f7 E D n mode false ⟨iv,[],[]⟩ (K9 pad n m)).1:=by
    unfold D2;rw[if_neg h7,if_neg h4,if_pos rfl]
   have hx:=H9 (back:=false) h (co (by omega) o4) hg;have hi:=tJ h hn (co (by omega) o4) hg;rw[e];unfold D2;rw[if_neg h7,if_neg h4,if_neg (by decide),hx,if_neg (by rw[hl]at hz ⊢;omega)];simp only
   rw[hi];simp only
   have hd:=Zu m.length n;have hmod:=Zt m.length hn;have hc:m.length/n*n=n*(m.length/n):=Ji _ _;have ha:(K9 pad n m).length-n=m.length-m.length%n:=by rw[hl];omega
   have lt:(m.take (m.length-m.length%n)).length=m.length-m.length%n:=by rw[Zf];omega
   have ht:(m.drop (m.length-m.length%n)).length<n:=by rw[Ze];omega
   have hp:pad=1\/pad=2\/pad=3:=by omega
   rw[ha];have e2:(K9 pad n m).drop (m.length-m.length%n)=F8 pad n (m.drop (m.length-m.length%n)):=fj lt;have e3:(K9 pad n m).take (m.length-m.length%n)=m.take (m.length-m.length%n):=dr lt;rw[e2,e3,AC hp ht h16,if_neg (by omega),Ta hp ht h16,Zk]
theorem cJ {n:Nat} {va:List Value} {l:Bs} (ha:va=bv l) (hn:l.length=n) (h0:0<n) (hm:n<=1073741824):a7 C 90 [.z n va] [] (.ret (.o 1 (.k 0) 0 n)) [.sc (bv l)]:=by
 subst ha;refine oG.c ?_;refine .inl ⟨h0,(by simp only[s3,f9,G9,p8,Zb,Jd,Zv,Zf,Ze,Z5,List.length_nil,j5,Zm,Jr,Z6];omega),by omega,by omega,?_⟩;refine⟨_,rfl,[.d 7 0],?_,⟨_,rfl,rfl⟩,tq⟩;show V.o 1 (.k 0) 0 (0+n)=_;rw[Zi]
theorem av {n:Nat} {va:List Value} {l:Bs} (ha:va=bv l) (hn:l.length=n) (hm:n<=1073741824):a7 C 90 [.z n va] [] (.ret (.z n (bv l))) []:=by
 subst ha;by_cases h0:0<n
 ·refine oG.c ?_;refine .inl ⟨h0,(by simp only[s3,f9,G9,p8,Zb,Jd,Zv,Zf,Ze,Z5,List.length_nil,j5,Zm,Jr,Z6];omega),by omega,by omega,?_⟩;refine⟨_,rfl,[],?_,tq⟩;show V.z (0+n) (sub ([]++bv l) 0 (0+n))=_;rw[Zi,Zl,b9 hn]
 ·obtain rfl:n=0:=(by omega);obtain rfl:=List.eq_nil_of_length_eq_zero hn;refine oG.w ?_;refine .inr ⟨?_,?_⟩
  ·exact⟨.ret g8,[],⟨_,rfl,[],rfl,tq⟩,.ret .nl,.nil⟩
  ·refine⟨rfl,by decide,by decide,?_⟩;exact⟨.ret (.z 0 []),[],⟨_,rfl,[],rfl,tq⟩,.ret (.refl _),.nil⟩
def px (a t:Bs) (i:Nat):Bs:=(List.range a.length).map fun p=>if p<i then a.getD p 0^^^t.getD p 0 else a.getD p 0
theorem bu (a t i):(px a t i).length=a.length:=by simp[px]
theorem AS (a t):px a t 0=a:=by
 refine lv (bu _ _ _) fun i hi=> ?_;rw[bu]at hi;simp[px,Zc,hi]
theorem AQ {a t:Bs} {i:Nat} (h:i<a.length):(px a t i).getD i 0=a.getD i 0:=by simp[px,Zc,h]
theorem AR {a t:Bs} {i:Nat} (h:i<a.length):(px a t i).set i (a.getD i 0^^^t.getD i 0)=px a t (i+1):=by
 refine lv (by rw[Zv,bu,bu]) fun j hj=> ?_;rw[Zv,bu]at hj;rw[Zc,List.getElem?_set];by_cases e:i=j
 ·subst e;rw[if_pos rfl,if_pos (by rw[bu];exact h)];simp[px,Zc,h]
 ·rw[if_neg e];simp only[px,Zc,List.getElem?_map,List.getElem?_range hj,Option.map_some,Option.getD_some];by_cases e2:j<i
  ·rw[if_pos e2,if_pos (by omega)]
  ·rw[if_neg e2,if_neg (by omega)]
theorem AP {a t:Bs} (h:t.length<=a.length):px a t t.length=D0 a t:=by
 refine lv (by rw[bu,jI h]) fun i hi=> ?_;rw[bu]at hi;have e:(px a t t.length).getD i 0=if i<t.length then a.getD i 0^^^t.getD i 0 else a.getD i 0:=by
  simp[px,Zc,hi]
 rw[e];have lx:(f6 a t).length=t.length:=by rw[bK];omega
 unfold D0;by_cases h1:i<t.length
 ·have e2:(f6 a t++a.drop t.length).getD i 0=(f6 a t).getD i 0:=by
   rw[Zc,List.getElem?_append_left (by omega),<-Zc]
  rw[if_pos h1,e2];have h2:i<(List.zipWith (fun x1 x2=>x1^^^x2) a t).length:=by rw[Z6];omega
  unfold f6;rw[Zc (l:=List.zipWith _ a t),Zp h2];simp[Zc,h1,hi]
 ·have e2:(a.drop t.length).getD (i-t.length) 0=a.getD i 0:=by
   rw[Zc,List.getElem?_drop,show t.length+(i-t.length)=i by omega,<-Zc]
  rw[if_neg h1,jt (by omega),lx,e2]
theorem jd {n m:Nat} {va vt:List Value} {a t:Bs} (ha:va=bv a) (ht:vt=bv t) (hn:a.length=n) (hm:t.length=m) (h0:0<n) (hmn:m<=n) (hb:n<=1000):a7 C 229 [.z n va,.z m vt] [] (.ret (.o 1 (.k 0) 0 n)) [.sc (bv (D0 a t))]:=by
 subst ha;subst ht;refine yR.c ?_;refine b8 (fun h=>absurd h (by omega)) (fun _=> ?_);refine⟨[],_,_,_,_,cJ rfl hn h0 (by omega),rfl,rfl,?_⟩;refine j4 (fun i=>⟨[(5,.o 1 (.k 0) 0 n),(17,.z m (bv t)),(18,i64 m),(19,i64 i)],[.sc (bv (px a t i))]⟩) m ⟨[.d 16 0],⟨rfl,rfl,rfl,rfl,tq⟩,⟨_,rfl,d8 (by rw[AS])⟩,tq⟩ fun i hi=> ?_;refine b8 (fun h=> ?_) (fun h=> ?_)
 ·have a8:i<m:=(by omega);refine⟨by omega,by omega,_,by rw[Zd];exact y7 (by omega),?_⟩;refine⟨by omega,by omega,_,by rw[Zd,Zg,Zi];exact y7 (by rw[bu];omega),?_⟩;refine⟨by omega,by omega,by rw[Zd,f9,bu];omega,?_⟩;refine⟨i+1,by omega,by omega,[.k 0],⟨rfl,rfl,rfl,c9 (by simp(disch:=omega)only[Za];omega),tq⟩,⟨_,rfl,d8 ?_⟩,tq⟩;rw[s6,AQ (by omega),Zd,Zg,Zi,K3,AR (by omega)]
 ·obtain rfl:i=m:=(by omega);refine⟨_,rfl,[.k 0],rfl,⟨_,rfl,d8 ?_⟩,tq⟩;rw[<-hm,AP (by omega)]
theorem GP {n m:Nat} {va vt:List Value} {a t:Bs} (ha:va=bv a) (ht:vt=bv t) (hn:a.length=n) (hm:t.length=m) (h0:0<n) (hmn:m<=n) (hb:n<=1000):a7 C 229 [.z m vt,.z n va] [] (.ret (.o 1 (.k 0) 0 n)) [.sc (bv (D0 a t))]:=by
 by_cases he:m=n
 ·subst he;have e:D0 a t=D0 t a:=by rw[iw (by omega),iw (by omega),ko]
  rw[e];exact jd ht ha hm hn h0 (Zh _) hb
 subst ha;subst ht;refine yR.c ?_;refine b8 (fun _=> ?_) (fun h=>absurd h (by omega));refine⟨[],_,_,_,_,cJ rfl hn h0 (by omega),rfl,rfl,?_⟩;refine j4 (fun i=>⟨[(5,.o 1 (.k 0) 0 n),(17,.z m (bv t)),(18,i64 m),(19,i64 i)],[.sc (bv (px a t i))]⟩) m ⟨[.d 16 0],⟨rfl,rfl,rfl,rfl,tq⟩,⟨_,rfl,d8 (by rw[AS])⟩,tq⟩ fun i hi=> ?_;refine b8 (fun h=> ?_) (fun h=> ?_)
 ·have a8:i<m:=(by omega);refine⟨by omega,by omega,_,by rw[Zd];exact y7 (by omega),?_⟩;refine⟨by omega,by omega,_,by rw[Zd,Zg,Zi];exact y7 (by rw[bu];omega),?_⟩;refine⟨by omega,by omega,by rw[Zd,f9,bu];omega,?_⟩;refine⟨i+1,by omega,by omega,[.k 0],⟨rfl,rfl,rfl,c9 (by simp(disch:=omega)only[Za];omega),tq⟩,⟨_,rfl,d8 ?_⟩,tq⟩;rw[s6,AQ (by omega),Zd,Zg,Zi,K3,AR (by omega)]
 ·obtain rfl:i=m:=(by omega);refine⟨_,rfl,[.k 0],rfl,⟨_,rfl,d8 ?_⟩,tq⟩;rw[<-hm,AP (by omega)]
theorem q7 {b:Bs} {m s:Nat} (hb:b.length=m) (hs:s<=m):sub (bv b) s (m-s)=bv (b.drop s):=by rw[k5,G6 _ _ _ (by omega)]
theorem Gl {t key s k xs rs} (h:g9 t key s k xs rs) {m:Nat} {vl vb:List Value} {a9 b:Bs} {swap:Bool} (hvl:vl=bv a9) (hvb:vb=bv b) (hl:a9.length=s) (hb:b.length=m) (h1:s<m) (h2:m<=2*s):
  a7 C 179 [d7 t k xs,bool swap,.z s vl,.z m vb] [] (.ret (.o 1 (.k 0) 0 m)) [.sc (bv (ab (cF t key false) s swap a9 b))]:=by
 subst hvl;subst hvb;have hs:=h.s_le;have l1:(b.take s).length=s:=by rw[Zf];omega
 have l2:(b.drop s).length=m-s:=by rw[Ze,hb]
 have p1:D0 (b.take s) a9=f6 (b.take s) a9:=iw (by omega);have lx1:(f6 (b.take s) a9).length=s:=t9 l1 hl;have lX:=h.len (back:=false) lx1;have lp2:(D0 (cF t key false (f6 (b.take s) a9)) (b.drop s)).length=s:=by rw[jI (by omega),lX]
 have lY:=h.len (back:=false) lp2;have hres:ab (cF t key false) s swap a9 b=if swap then cF t key false (D0 (cF t key false (f6 (b.take s) a9)) (b.drop s))++(cF t key false (f6 (b.take s) a9)).take (m-s)else (cF t key false (f6 (b.take s) a9)).take (m-s)++cF t key false (D0 (cF t key false (f6 (b.take s) a9)) (b.drop s)):=by
  unfold ab;rw[hb]
 have e1:I6.wrap ((m:Int)-(s:Int))=((m-s:Nat):Int):=by rw[Za _ (by omega)];omega
 rw[hres];refine Pf.c ?_;refine⟨[],_,_,_,_,h.size,rfl,rfl,?_⟩;refine⟨by omega,by omega,by omega,by omega,?_⟩;have c1:=jd (va:=sub (bv b) 0 s) (a:=b.take s) (t:=a9) (k5 b 0 s) rfl l1 hl (by omega) (Zh _) (by omega);rw[p1]at c1;refine⟨[],_,_,_,_,c1,rfl,rfl,?_⟩;refine⟨[],_,_,_,_,h.enc lx1 (b9 lx1),rfl,rfl,?_⟩;generalize cF t key false (f6 (b.take s) a9)=x at*
 refine⟨by omega,by omega,by omega,by omega,?_⟩;refine⟨[],_,_,_,_,GP (a:=x) (t:=b.drop s) (b9 lX) (q7 hb (by omega)) lX l2 (by omega) (by omega) (by omega),rfl,rfl,?_⟩;refine⟨[],_,_,_,_,h.enc lp2 (b9 lp2),rfl,rfl,?_⟩;generalize cF t key false (D0 x (b.drop s))=y at*
 refine⟨by rw[e1];omega,by rw[e1];omega,by rw[e1];omega,by rw[e1];omega,?_⟩;have lt:(x.take (m-s)).length=m-s:=by rw[Zf];omega
 cases swap
 ·refine⟨[],_,_,_,_,R7 (n:=2) (ls:=[x.take (m-s),y]) (t:=x.take (m-s)++y) (by simp) ?_ rfl (by rw[Zb];omega) (by rw[Zb];omega),rfl,rfl,?_⟩
  ·rw[e1];show[V.z (m-s) (sub (bv x) 0 (m-s)),V.z s (sub (bv y) 0 s)]=[V.z _ _,V.z _ _];rw[b9 lY,lt,lY,k5];rfl
  have lc:(x.take (m-s)++y).length=m:=by rw[Zb];omega
  rw[lc];exact⟨_,rfl,[.d 48 0],rfl,⟨_,rfl,rfl⟩,tq⟩
 ·refine⟨[],_,_,_,_,R7 (n:=2) (ls:=[y,x.take (m-s)]) (t:=y++x.take (m-s)) (by simp) ?_ rfl (by rw[Zb];omega) (by rw[Zb];omega),rfl,rfl,?_⟩
  ·rw[e1];show[V.z s (sub (bv y) 0 s),V.z (m-s) (sub (bv x) 0 (m-s))]=[V.z _ _,V.z _ _];rw[b9 lY,lt,lY,k5];rfl
  have lc:(y++x.take (m-s)).length=m:=by rw[Zb];omega
  rw[lc];exact⟨_,rfl,[.d 48 0],rfl,⟨_,rfl,rfl⟩,tq⟩
theorem a7.args {C:j7} {f:Nat} {ys ys0:List V} {bs bs':List B} {r:Oc} (h:a7 C f ys bs r bs') (hw:aT ys0 ys):a7 C f ys0 bs r bs':=
 ⟨h.1,fun w F ι vs st gl dm hl=>h.2 w F ι vs st gl dm (hw.r hl)⟩
theorem Fs {t key s k xs rs} (h:g9 t key s k xs rs) {m:Nat} {vl vb:List Value} {a9 b:Bs} {swap:Bool} (hvl:vl=bv a9) (hvb:vb=bv b) (hl:a9.length=s) (hb:b.length=m) (h1:s<m) (h2:m<=2*s):
  a7 C 178 [d7 t k xs,bool swap,.z s vl,.z m vb] [] (.ret (.o 1 (.k 0) 0 m)) [.sc (bv (Q9 (cF t key true) s swap a9 b))]:=by
 subst hvl;subst hvb;have hs:=h.s_le;have e1:I6.wrap ((m:Int)-(s:Int))=((m-s:Nat):Int):=by rw[Za _ (by omega)];omega
 cases swap
 ·have lx:(b.take (m-s)).length=m-s:=by simp only[Zf,Ze];omega
  have ly:(b.drop (m-s)).length=s:=by simp only[Zf,Ze];omega
  have hx:sub (bv b) 0 (m-s)=bv (b.take (m-s)):=k5 b 0 (m-s);have hy:sub (bv b) (m-s) s=bv (b.drop (m-s)):=by
   rw[k5,G6 _ _ _ (by omega)]
  have hres:Q9 (cF t key true) s false a9 b=S6 (cF t key true) a9 (b.take (m-s)) (b.drop (m-s)):=by
   unfold Q9;rw[if_neg (by decide),hb]
  have lz:=h.len (back:=true) ly;rw[hres,S6];rw[lx];refine yQ.c ?_;refine⟨[],_,_,_,_,h.size,rfl,rfl,?_⟩;refine⟨by rw[e1];omega,by rw[e1];omega,by rw[e1];omega,by rw[e1];omega,?_⟩;refine⟨by rw[e1];omega,by rw[e1];omega,by omega,by omega,?_⟩;refine⟨[],_,_,_,_,h.dec ly rfl,?_,rfl,?_⟩
  ·rw[e1,<-hy];show[d7 t k xs,V.z (m-(m-s)) (sub (bv b) (m-s) (m-(m-s)))]=_;rw[show m-(m-s)=s by omega]
  generalize cF t key true (b.drop (m-s))=z at*
  have lt:(z.take (m-s)).length=m-s:=by rw[Zf];omega
  refine⟨by rw[e1];omega,by rw[e1];omega,by rw[e1];omega,by rw[e1];omega,?_⟩;refine⟨[],_,_,_,_,jd (a:=z.take (m-s)) (t:=b.take (m-s)) rfl rfl lt lx (by omega) (Zh _) (by omega),?_,rfl,?_⟩
  ·rw[e1,<-hx];show[V.z (m-s) (sub (bv z) 0 (m-s)),V.z (m-s) (sub (bv b) 0 (m-s))]=_;rw[k5];rfl
  rw[iw (by omega)];have lq:(f6 (z.take (m-s)) (b.take (m-s))).length=m-s:=t9 lt lx;refine⟨by rw[e1];omega,by rw[e1];omega,by omega,by omega,?_⟩;have lw:(b.take (m-s)++z.drop (m-s)).length=s:=by rw[Zb,lx,Ze];omega
  refine⟨[],_,_,_,_,R7 (n:=2) (ls:=[b.take (m-s),z.drop (m-s)]) (t:=b.take (m-s)++z.drop (m-s)) (by simp) ?_ rfl (by omega) (by omega),rfl,rfl,?_⟩
  ·rw[e1];show[V.z (m-s) (sub (bv b) 0 (m-s)),V.z (s-(m-s)) (sub (bv z) (0+(m-s)*1) (s-(m-s)))]=[V.z _ _,V.z _ _];rw[hx,lx,Zi,Zg,k5,G6 _ _ _ (by omega),Ze,lz]
  rw[lw];refine⟨[],_,_,_,_,h.dec lw (b9 lw),rfl,rfl,?_⟩;have lp:=h.len (back:=true) lw;generalize cF t key true (b.take (m-s)++z.drop (m-s))=p at*
  refine⟨[],_,_,_,_,jd (a:=p) (t:=a9) (b9 lp) rfl lp hl (by omega) (Zh _) (by omega),rfl,rfl,?_⟩;rw[iw (by omega)];have lp2:(f6 p a9).length=s:=t9 lp hl;have lr:(f6 p a9++f6 (z.take (m-s)) (b.take (m-s))).length=m:=by rw[Zb];omega
  refine⟨[],_,_,_,_,R7 (n:=2) (ls:=[f6 p a9,f6 (z.take (m-s)) (b.take (m-s))]) (t:=f6 p a9++f6 (z.take (m-s)) (b.take (m-s))) (by simp) ?_ rfl (by omega) (by omega),rfl,rfl,?_⟩
  ·show[V.z s (sub (bv (f6 p a9)) 0 s),V.z (m-s) (sub (bv _) 0 (m-s))]=[V.z _ _,V.z _ _];rw[b9 lp2,b9 lq,lp2,lq]
  rw[lr];exact⟨_,rfl,[.d 64 0],rfl,⟨_,rfl,rfl⟩,tq⟩
 ·have lx:(b.drop s).length=m-s:=by simp only[Zf,Ze];omega
  have ly:(b.take s).length=s:=by simp only[Zf,Ze];omega
  have hx:sub (bv b) s (m-s)=bv (b.drop s):=q7 hb (by omega);have hy:sub (bv b) 0 s=bv (b.take s):=by
   exact k5 b 0 s
  have hres:Q9 (cF t key true) s true a9 b=S6 (cF t key true) a9 (b.drop s) (b.take s):=by
   unfold Q9;rw[if_pos rfl]
  have lz:=h.len (back:=true) ly;rw[hres,S6];rw[lx];refine yQ.c ?_;refine⟨[],_,_,_,_,h.size,rfl,rfl,?_⟩;refine⟨by rw[e1];omega,by rw[e1];omega,by rw[e1];omega,by rw[e1];omega,?_⟩;refine⟨by rw[e1];omega,by rw[e1];omega,by omega,by omega,?_⟩;refine⟨by omega,by omega,by omega,by omega,?_⟩;refine⟨by omega,by omega,by omega,by omega,?_⟩;refine⟨[],_,_,_,_,h.dec ly rfl,?_,rfl,?_⟩
  ·rw[<-hy];rfl
  generalize cF t key true (b.take s)=z at*
  have lt:(z.take (m-s)).length=m-s:=by rw[Zf];omega
  refine⟨by rw[e1];omega,by rw[e1];omega,by rw[e1];omega,by rw[e1];omega,?_⟩;refine⟨[],_,_,_,_,jd (a:=z.take (m-s)) (t:=b.drop s) rfl rfl lt lx (by omega) (Zh _) (by omega),?_,rfl,?_⟩
  ·rw[e1,<-hx];show[V.z (m-s) (sub (bv z) 0 (m-s)),V.z (m-s) (sub (bv b) s (m-s))]=_;rw[k5];rfl
  rw[iw (by omega)];have lq:(f6 (z.take (m-s)) (b.drop s)).length=m-s:=t9 lt lx;refine⟨by rw[e1];omega,by rw[e1];omega,by omega,by omega,?_⟩;have lw:(b.drop s++z.drop (m-s)).length=s:=by rw[Zb,lx,Ze];omega
  refine⟨[],_,_,_,_,R7 (n:=2) (ls:=[b.drop s,z.drop (m-s)]) (t:=b.drop s++z.drop (m-s)) (by simp) ?_ rfl (by omega) (by omega),rfl,rfl,?_⟩
  ·rw[e1];show[V.z (m-s) (sub (bv b) s (m-s)),V.z (s-(m-s)) (sub (bv z) (0+(m-s)*1) (s-(m-s)))]=[V.z _ _,V.z _ _];rw[hx,lx,Zi,Zg,k5,G6 _ _ _ (by omega),Ze,lz]
  rw[lw];refine⟨[],_,_,_,_,h.dec lw (b9 lw),rfl,rfl,?_⟩;have lp:=h.len (back:=true) lw;generalize cF t key true (b.drop s++z.drop (m-s))=p at*
  refine⟨[],_,_,_,_,jd (a:=p) (t:=a9) (b9 lp) rfl lp hl (by omega) (Zh _) (by omega),rfl,rfl,?_⟩;rw[iw (by omega)];have lp2:(f6 p a9).length=s:=t9 lp hl;have lr:(f6 p a9++f6 (z.take (m-s)) (b.drop s)).length=m:=by rw[Zb];omega
  refine⟨[],_,_,_,_,R7 (n:=2) (ls:=[f6 p a9,f6 (z.take (m-s)) (b.drop s)]) (t:=f6 p a9++f6 (z.take (m-s)) (b.drop s)) (by simp) ?_ rfl (by omega) (by omega),rfl,rfl,?_⟩
  ·show[V.z s (sub (bv (f6 p a9)) 0 s),V.z (m-s) (sub (bv _) 0 (m-s))]=[V.z _ _,V.z _ _];rw[b9 lp2,b9 lq,lp2,lq]
  rw[lr];exact⟨_,rfl,[.d 64 0],rfl,⟨_,rfl,rfl⟩,tq⟩
theorem xA {mode:Int} {w:Bool}:a7 C 176 [i64 mode,bool w] [] (.ret (.t [bool (decide (mode=9)||(decide (mode=8)&& !w)),bool (decide (7<=mode/\mode<=9))])) []:=by
 refine Pg.c ?_;refine i9 (fun h=> ?_) (fun h=>i9 (fun h7=> ?_) (fun h7=>i9 (fun h8=> ?_) (fun h8=> ?_)))
 ·subst h;exact⟨_,rfl,[],rfl,tq⟩
 ·subst h7;exact⟨_,rfl,[],rfl,tq⟩
 ·subst h8;exact⟨_,rfl,[],rfl,tq⟩
 ·refine⟨_,rfl,[],?_,tq⟩;rw[decide_eq_false h,decide_eq_false h8,decide_eq_false (by omega)];rfl
theorem Hj {mode:Int} {w:Bool}:a7 C 75 [i64 mode,bool w] [] (.ret (bool (decide (mode=9)||(decide (mode=8)&& !w)))) []:=by
 refine Nr.c ?_;refine i9 (fun h=> ?_) (fun h=>i9 (fun h8=> ?_) (fun h8=> ?_))
 ·subst h;exact⟨_,rfl,[],rfl,tq⟩
 ·subst h8;exact⟨_,rfl,[],rfl,tq⟩
 ·refine⟨_,rfl,[],?_,tq⟩;rw[decide_eq_false h,decide_eq_false h8];rfl
theorem Hb {n:Nat} {va:List Value} {rs:List V} {l:List Value} (h:a7 C 88 [.q rs 0,.z n va,bool false] [] (y4 n) [.sc l]):a7 C 74 [.q rs 0,.z n va] [] (.ret (.o 1 (.k 0) 0 n)) [.sc l]:=by
 refine Nj.c ?_;refine⟨[],_,_,_,_,h,rfl,rfl,?_⟩;exact⟨_,rfl,[.d 10 0],rfl,⟨_,rfl,rfl⟩,tq⟩
theorem Hc {n:Nat} {va:List Value} {rs:List V} {l:List Value} (h:a7 C 88 [.q rs 0,.z n va,bool true] [] (y4 n) [.sc l]):a7 C 73 [.q rs 0,.z n va] [] (.ret (.o 1 (.k 0) 0 n)) [.sc l]:=by
 refine Nl.c ?_;refine⟨[],_,_,_,_,h,rfl,rfl,?_⟩;exact⟨_,rfl,[.d 10 0],rfl,⟨_,rfl,rfl⟩,tq⟩
theorem g9.E {t key s k xs rs} (h:g9 t key s k xs rs) {b:Bs} {va:List Value} (hb:b.length=s) (ha:va=bv b):a7 C 74 [.q rs 0,.z s va] [] (.ret (.o 1 (.k 0) 0 s)) [.sc (bv (cF t key false b))]:=by subst ha;exact Hb (h.rblk hb)
theorem g9.Un {t key s k xs rs} (h:g9 t key s k xs rs) {b:Bs} {va:List Value} (hb:b.length=s) (ha:va=bv b):a7 C 73 [.q rs 0,.z s va] [] (.ret (.o 1 (.k 0) 0 s)) [.sc (bv (cF t key true b))]:=by subst ha;exact Hc (h.rblk hb)
theorem Wt (n:Nat) (mode:Int) (b:Bs) {m:Nat} (hb:b.length=m):(decide (mode=9)||(decide (mode=8)&& !((m:Int)==((2*n:Nat):Int))))=U7 n mode b:=by
 unfold U7;rw[hb];congr 3;by_cases h:m=2*n
 ·rw[h];simp
 ·rw[decide_eq_false h];exact beq_false_of_ne (by omega)
theorem nP {t key s k xs rs} (h:g9 t key s k xs rs) {m:Nat} {vl vb:List Value} {a9 b:Bs} {mode:Int} {back:Bool} (hvl:vl=bv a9) (hvb:vb=bv b) (hl:a9.length=s) (hb:b.length=m) (hm:7<=mode/\mode<=9) (h1:s<=m) (h2:m<=2*s):
  a7 C 116 [d7 t k xs,i64 mode,bool back,.z s vl,.z m vb] [] (y4 m) [.sc (bv (A9 (cF t key false) (cF t key true) s mode back a9 b))]:=by
 subst hvl;subst hvb;have hs:=h.s_le;have w2:I6.wrap (2*(s:Int))=((2*s:Nat):Int):=by rw[Za _ (by omega)];omega
 have hsw:=Wt s mode b hb;refine yP.c ?_;refine Y7 0 rfl 1 (fun _=>⟨[(0,d7 t k xs),(2,bool back),(3,.z s (bv a9)),(4,.z m (bv b)),(12,i64 s),(13,bool (U7 s mode b))],[]⟩) ?_ fun i hi=> ?_
 ·refine⟨[],_,_,_,_,h.size,rfl,rfl,?_⟩;refine⟨[],_,_,_,_,xA,rfl,rfl,?_⟩;rw[w2,hsw,decide_eq_true hm];refine n7 (fun h=>absurd rfl h) (fun _=> ?_);refine b8 (fun h=>absurd h (by omega)) (fun _=> ?_);refine b8 (fun h=>absurd h (by rw[w2];omega)) (fun _=> ?_);exact⟨[],0,by decide,[],⟨rfl,rfl,rfl,rfl,rfl,rfl,tq⟩,tq⟩
 refine j4 (fun _=>⟨[(0,d7 t k xs),(2,bool back),(3,.z s (bv a9)),(4,.z m (bv b)),(12,i64 s),(13,bool (U7 s mode b))],[]⟩) 0 ⟨[],⟨rfl,rfl,rfl,rfl,rfl,rfl,tq⟩,tq⟩ fun j hj=> ?_;refine i9 (fun he=> ?_) (fun he=> ?_)
 ·obtain rfl:m=s:=(by omega);have lD:=h.len (back:=true) hb;have lX:=t9 hb hl;have lE:=h.len (back:=false) lX;cases back
  ·refine⟨[],_,_,_,_,H6 (a:=b) (b:=a9) rfl rfl hb hl (by omega),rfl,rfl,?_⟩;refine⟨[],_,_,_,_,h.enc lX (b9 lX),rfl,rfl,?_⟩;refine i9 (fun _=> ?_) (fun h=>absurd rfl h);refine⟨_,rfl,[.d 74 0],rfl,⟨_,rfl,d8 ?_⟩,tq⟩;rw[A9,if_pos hb,if_neg (by decide)]
  ·refine⟨[],_,_,_,_,h.dec hb rfl,rfl,rfl,?_⟩;refine⟨[],_,_,_,_,H6 (a:=cF t key true b) (b:=a9) (b9 lD) rfl lD hl (by omega),rfl,rfl,?_⟩;refine⟨_,rfl,[.d 61 0],rfl,⟨_,rfl,d8 ?_⟩,tq⟩;rw[A9,if_pos hb,if_pos rfl]
 ·have hne:¬b.length=s:=by omega
  refine i9 (fun h=>absurd h he) (fun _=> ?_);cases back
  ·refine⟨[],_,_,_,_,Gl h rfl rfl hl hb (by omega) h2,rfl,rfl,?_⟩;refine⟨_,rfl,[.d 94 0],rfl,⟨_,rfl,d8 ?_⟩,tq⟩;rw[A9,if_neg hne,if_neg (by decide)]
  ·refine⟨[],_,_,_,_,Fs h rfl rfl hl hb (by omega) h2,rfl,rfl,?_⟩;refine⟨_,rfl,[.d 89 0],rfl,⟨_,rfl,d8 ?_⟩,tq⟩;rw[A9,if_neg hne,if_pos rfl]
abbrev LK (e:Int):Oc:= .ret (.t [g8,i64 e])
theorem IT {t key s k xs rs} (h:g9 t key s k xs rs) {l m:Nat} {vl vb:List Value} {a9 b:Bs} {mode:Int} {back:Bool} (hl:a9.length=l) (hb:b.length=m) (hm:m<=1000000) (he:mH s mode a9 b≠0):
  a7 C 116 [d7 t k xs,i64 mode,bool back,.z l vl,.z m vb] [] (LK (mH s mode a9 b)) []:=by
 have hs:=h.s_le;have w2:I6.wrap (2*(s:Int))=((2*s:Nat):Int):=by rw[Za _ (by omega)];omega
 unfold mH at he ⊢;rw[hl,hb]at he ⊢;refine yP.c ?_;refine⟨0,Unit,fun _=>⟨[],[]⟩,fun _=>False,fun _=>0,?_,fun _ h=>h.elim⟩
 ·refine⟨[],_,_,_,_,h.size,rfl,rfl,?_⟩;refine⟨[],_,_,_,_,xA,rfl,rfl,?_⟩;by_cases h3:mode<7\/9<mode
  ·rw[if_pos h3,decide_eq_false (show ¬(7<=mode/\mode<=9) by omega)];exact⟨_,rfl,[],rfl,tq⟩
  ·rw[if_neg h3]at he ⊢;rw[decide_eq_true (show 7<=mode/\mode<=9 by omega)];refine n7 (fun h5=> ?_) (fun h5=> ?_)
   ·rw[if_pos (by omega)];exact⟨_,rfl,[],rfl,tq⟩
   ·rw[if_neg (by omega)]at he ⊢;refine b8 (fun h7=> ?_) (fun h7=> ?_)
    ·rw[if_pos (by omega)];refine b8 (fun _=> ?_) (fun h=>absurd h7 h);exact⟨_,rfl,[],rfl,tq⟩
    ·refine b8 (fun h7'=> ?_) (fun h7'=> ?_)
     ·rw[w2]at h7';rw[if_pos (by omega)];exact⟨_,rfl,[],rfl,tq⟩
     ·rw[w2]at h7';rw[if_neg (by omega)]at he;exact absurd rfl he
theorem DT:∀(x:Bs),f6 (Zj x.length 0) x=x
 |[]=>rfl
 |a::x=>by
  have ih:=DT x;unfold f6 at ih ⊢;rw[Z5,List.replicate_succ,Jb,ih,UInt8.zero_xor]
theorem a0l {b x:Bs} {n d:Nat} (hb:b.length=d) (hx:x.length=n) (hd:d<=n):f6 (b++Zj (n-d) 0) x=D0 x b:=by
 have e:x=x.take d++x.drop d:=(Zk d x).symm;have l1:(x.take d).length=d:=by rw[Zf];omega
 have l2:(x.drop d).length=n-d:=by rw[Ze];omega
 have h:f6 (b++Zj (n-d) 0) (x.take d++x.drop d)=f6 b (x.take d)++f6 (Zj (n-d) 0) (x.drop d):=by
  unfold f6;exact List.zipWith_append (by rw[hb,l1])
 rw[<-e]at h;have hz:=DT (x.drop d);rw[l2]at hz;have ht:=uX x b (by omega);rw[hb]at ht;rw[h,hz,ko b,ht,D0,hb]
set_option maxHeartbeats 2000000 in
theorem a0A {t key s k xs rs} (h:g9 t key s k xs rs) {m:Nat} {vl vb:List Value} {a9 b:Bs} {mode:Int} {back:Bool} (hvl:vl=bv a9) (hvb:vb=bv b) (hl:a9.length=s) (hb:b.length=m) (hm:7<=mode/\mode<=9) (h1:s<=m) (h2:m<=2*s):
  a7 C 19 [.q rs 0,i64 mode,bool back,.z s vl,.z m vb] [] (y4 m) [.sc (bv (A9 (cF t key false) (cF t key true) s mode back a9 b))]:=by
 subst hvl;subst hvb;have hs:=h.s_le;have w2:I6.wrap (2*(s:Int))=((2*s:Nat):Int):=by rw[Za _ (by omega)];omega
 have e1:I6.wrap ((m:Int)-(s:Int))=((m-s:Nat):Int):=by rw[Za _ (by omega)];omega
 refine Nq.c ?_;refine⟨[],_,_,_,_,h.rsize,rfl,rfl,?_⟩;refine b8 (fun h=>absurd h (by omega)) (fun _=> ?_);refine b8 (fun h=>absurd h (by omega)) (fun _=> ?_);refine n7 (fun h=>absurd rfl h) (fun _=> ?_);refine b8 (fun h=>absurd h (by omega)) (fun _=> ?_);refine b8 (fun h=>absurd h (by rw[w2];omega)) (fun _=> ?_);refine i9 (fun he=> ?_) (fun he=> ?_)
 ·obtain rfl:m=s:=(by omega);have lD:=h.len (back:=true) hb;have lX:=t9 hb hl;cases back
  ·refine⟨[],_,_,_,_,D5 (a:=b) (b:=a9) rfl rfl hb hl (by omega),rfl,rfl,?_⟩;refine⟨[],_,_,_,_,h.E lX (b9 lX),rfl,rfl,?_⟩;refine⟨_,rfl,[.d 64 0],rfl,⟨_,rfl,d8 ?_⟩,tq⟩;rw[A9,if_pos hb,if_neg (by decide)]
  ·refine⟨[],_,_,_,_,h.Un hb rfl,rfl,rfl,?_⟩;refine⟨[],_,_,_,_,D5 (a:=cF t key true b) (b:=a9) (b9 lD) rfl lD hl (by omega),rfl,rfl,?_⟩;refine⟨_,rfl,[.d 59 0],rfl,⟨_,rfl,d8 ?_⟩,tq⟩;rw[A9,if_pos hb,if_pos rfl]
 have hne:¬b.length=s:=by omega
 have hsw:(decide (mode=9)||(decide (mode=8)&& !(I6.wrap ((m:Int)-(s:Int))==(s:Int))))=U7 s mode b:=by
  unfold U7;rw[e1,hb];congr 3;by_cases h:m=2*s
  ·rw[decide_eq_true h];exact beq_iff_eq.2 (by omega)
  ·rw[decide_eq_false h];exact beq_false_of_ne (by omega)
 refine⟨[],_,_,_,_,Hj,rfl,rfl,?_⟩;rw[hsw];have hT:A9 (cF t key false) (cF t key true) s mode back a9 b=if back then Q9 (cF t key true) s (U7 s mode b) a9 b else ab (cF t key false) s (U7 s mode b) a9 b:=by rw[A9,if_neg hne]
 rw[hT];generalize U7 s mode b=swap;cases back
 ·have l1:(b.take s).length=s:=by rw[Zf];omega
  have l2:(b.drop s).length=m-s:=by rw[Ze,hb]
  have lx1:(f6 (b.take s) a9).length=s:=t9 l1 hl;have lX:=h.len (back:=false) lx1;have hres:ab (cF t key false) s swap a9 b=if swap then cF t key false (D0 (cF t key false (f6 (b.take s) a9)) (b.drop s))++(cF t key false (f6 (b.take s) a9)).take (m-s)else (cF t key false (f6 (b.take s) a9)).take (m-s)++cF t key false (D0 (cF t key false (f6 (b.take s) a9)) (b.drop s)):=by
   unfold ab;rw[hb]
  rw[if_neg (by decide),hres];refine⟨by omega,by omega,by omega,by omega,?_⟩;refine⟨[],_,_,_,_,D5 (va:=sub (bv b) 0 s) (a:=b.take s) (b:=a9) (k5 b 0 s) rfl l1 hl (by omega),rfl,rfl,?_⟩;refine⟨[],_,_,_,_,h.E lx1 (b9 lx1),rfl,rfl,?_⟩;have lp2:(D0 (cF t key false (f6 (b.take s) a9)) (b.drop s)).length=s:=by rw[jI (by omega),lX]
  have hfill:=a0l (x:=cF t key false (f6 (b.take s) a9)) l2 lX (by omega);generalize cF t key false (f6 (b.take s) a9)=x at*
  have e3:I6.wrap ((s:Int)-I6.wrap ((m:Int)-(s:Int)))=((s-(m-s):Nat):Int):=by rw[e1,Za _ (by omega)];omega
  refine⟨by omega,by omega,by omega,by omega,?_⟩;refine⟨by rw[Zd,q7 hb (by omega),f9,l2],by omega,by decide,?_⟩;refine⟨by rw[e3];omega,by rw[e3];omega,by rw[e3];omega,?_,_,rfl,?_⟩
  ·show 0+(0+(m-s))*1<=([]++sub (bv b) s (m-s):List Value).length;rw[Zl,q7 hb (by omega),f9,l2];omega
  have lq:(b.drop s++Zj (s-(m-s)) 0).length=s:=by rw[Zb,Jd,l2];omega
  refine⟨[],_,_,_,_,D5 (a:=b.drop s++Zj (s-(m-s)) 0) (b:=x) rfl rfl lq lX (by omega),?_,rfl,?_⟩
  ·rw[e3];show[V.z (0+(m-s)+(s-(m-s))) (sub (sub ([]++sub (bv b) s (m-s)) 0 ((0+(m-s))*1)++Zj (s-(m-s)) (Value.int .u8 0)) 0 (0+(m-s)+(s-(m-s)))),V.z s (sub (bv x) 0 s)]=_;rw[show 0+(m-s)+(s-(m-s))=s by omega,Zi,Zg,Zl,q7 hb (by omega),b9 l2,P4,z5,b9 lq,b9 lX]
  rw[hfill];refine⟨[],_,_,_,_,h.E lp2 (b9 lp2),rfl,rfl,?_⟩;have lY:=h.len (back:=false) lp2;generalize cF t key false (D0 x (b.drop s))=y at*
  have lt:(x.take (m-s)).length=m-s:=by rw[Zf];omega
  have ht:sub (bv x) 0 (m-s)=bv (x.take (m-s)):=k5 x 0 (m-s);cases swap
  ·rw[if_neg (by decide)];refine⟨by rw[e1];omega,by rw[e1];omega,by rw[e1];omega,by rw[e1];omega,?_⟩;refine⟨by rw[e1,f9,lX];show 0+0*1+(m-s)*1<=s;omega,by rw[e1];show 0+(m-s)<=_;omega,by decide,?_⟩;refine⟨by rw[f9,lY];omega,by rw[e1];show 0+(m-s)+s<=_;omega,?_,?_⟩
   ·rw[e1];show 0+(0+(m-s))*1<=([]++sub (bv x) (0+0*1) ((m-s)*1):List Value).length;rw[Zl,j5,f9,lX];omega
   rw[e1];refine⟨_,rfl,[.d 111 0],?_,⟨_,rfl,d8 ?_⟩,tq⟩
   ·show V.t [V.o 1 (.k 0) 0 (0+(m-s)+s),_]=_;rw[show 0+(m-s)+s=m by omega];rfl
   ·show sub ([]++sub (bv x) (0+0*1) ((m-s)*1)) 0 ((0+(m-s))*1)++sub (bv y) 0 (s*1)=_;simp only[Zl,Zi,Zg,Nat.zero_mul];rw[ht,b9 lt,b9 lY,z5]
  ·rw[if_pos rfl];refine⟨by rw[f9,lY];omega,by omega,by decide,?_⟩;refine⟨by rw[e1];omega,by rw[e1];omega,by rw[e1];omega,by rw[e1];omega,?_⟩;refine⟨by rw[e1,f9,lX];show 0+0*1+(m-s)*1<=s;omega,by rw[e1];show 0+s+(m-s)<=_;omega,?_,?_⟩
   ·show 0+(0+s)*1<=([]++sub (bv y) 0 (s*1):List Value).length;simp only[Zl,Zg,Zi];rw[b9 lY,f9,lY];exact Zh _
   rw[e1];refine⟨_,rfl,[.d 104 0],?_,⟨_,rfl,d8 ?_⟩,tq⟩
   ·show V.t [V.o 1 (.k 0) 0 (0+s+(m-s)),_]=_;rw[show 0+s+(m-s)=m by omega];rfl
   ·show sub ([]++sub (bv y) 0 (s*1)) 0 ((0+s)*1)++sub (bv x) (0+0*1) ((m-s)*1)=_;simp only[Zl,Zi,Zg,Nat.zero_mul];rw[b9 lY,b9 lY,ht,z5]
 ·rw[if_pos rfl];cases swap
  ·have lx:(b.take (m-s)).length=m-s:=by simp only[Zf,Ze];omega
   have ly:(b.drop (m-s)).length=s:=by simp only[Zf,Ze];omega
   have hx:sub (bv b) 0 (m-s)=bv (b.take (m-s)):=k5 b 0 (m-s);have hy:sub (bv b) (m-s) s=bv (b.drop (m-s)):=by
    rw[k5,G6 _ _ _ (by omega)]
   have hres:Q9 (cF t key true) s false a9 b=S6 (cF t key true) a9 (b.take (m-s)) (b.drop (m-s)):=by
    unfold Q9;rw[if_neg (by decide),hb]
   have lz:=h.len (back:=true) ly;rw[hres,S6];rw[lx];refine⟨by rw[e1];omega,by rw[e1];omega,by rw[e1];omega,by rw[e1];omega,?_⟩;refine⟨by rw[e1];omega,by rw[e1];omega,by omega,by omega,?_⟩;refine⟨[],_,_,_,_,h.Un ly rfl,?_,rfl,?_⟩
   ·rw[e1,<-hy];show[V.q rs 0,V.z (m-(m-s)) (sub (bv b) (m-s) (m-(m-s)))]=_;rw[show m-(m-s)=s by omega]
   generalize cF t key true (b.drop (m-s))=z at*
   have lt:(z.take (m-s)).length=m-s:=by rw[Zf];omega
   refine⟨by rw[e1];omega,by rw[e1];omega,by rw[e1];omega,by rw[e1];omega,?_⟩;refine⟨[],_,_,_,_,D5 (a:=z.take (m-s)) (b:=b.take (m-s)) rfl rfl lt lx (by omega),?_,rfl,?_⟩
   ·rw[e1,<-hx];show[V.z (m-s) (sub (bv z) 0 (m-s)),V.z (m-s) (sub (bv b) 0 (m-s))]=_;rw[k5];rfl
   have lq:(f6 (z.take (m-s)) (b.take (m-s))).length=m-s:=t9 lt lx;refine⟨?_,by rw[e1];omega,by decide,?_⟩
   ·rw[e1];show(sub (bv b) 0 (m-s)).length=m-s;rw[hx,f9,lx]
   refine⟨by rw[e1];omega,by rw[e1];omega,by omega,by omega,?_⟩;refine⟨?_,?_,?_,?_⟩
   ·rw[e1,f9,lz];show 0+(m-s)*1+(s-(m-s))*1<=s;omega
   ·rw[e1];show 0+(m-s)+(s-(m-s))<=_;omega
   ·rw[e1];show 0+(0+(m-s))*1<=([]++sub (bv b) 0 (m-s):List Value).length;rw[Zl,hx,f9,lx];omega
   have lw:(b.take (m-s)++z.drop (m-s)).length=s:=by rw[Zb,lx,Ze];omega
   refine⟨[],_,_,_,_,h.Un lw rfl,?_,rfl,?_⟩
   ·rw[e1];show[V.q rs 0,V.z (0+(m-s)+(s-(m-s))) (sub (sub ([]++sub (bv b) 0 (m-s)) 0 ((0+(m-s))*1)++sub (bv z) (0+(m-s)*1) ((s-(m-s))*1)) 0 (0+(m-s)+(s-(m-s))))]=_;rw[show 0+(m-s)+(s-(m-s))=s by omega,Zl,hx,Zi,Zg,Zg,Zi,b9 lx,k5,G6 z _ _ (by omega),z5,b9 lw]
   have lp:=h.len (back:=true) lw;generalize cF t key true (b.take (m-s)++z.drop (m-s))=p at*
   refine⟨[],_,_,_,_,D5 (a:=p) (b:=a9) (b9 lp) rfl lp hl (by omega),rfl,rfl,?_⟩;have lp2:(f6 p a9).length=s:=t9 lp hl;refine⟨?_,?_,?_,?_⟩
   ·rw[f9,lq];show 0+(m-s)*1<=m-s;omega
   ·show s+(m-s)<=_;omega
   ·rw[f9,lp2];omega
   rw[e1];refine⟨_,rfl,[.d 147 0],?_,⟨_,rfl,d8 ?_⟩,tq⟩
   ·show V.t [V.o 1 (.k 0) 0 (s+(m-s)),_]=_;rw[show s+(m-s)=m by omega];rfl
   ·show sub (bv (f6 p a9)) 0 (s*1)++sub (bv (f6 (z.take (m-s)) (b.take (m-s)))) 0 ((m-s)*1)=_;rw[Zg,Zg,b9 lp2,b9 lq,z5]
  ·have lx:(b.drop s).length=m-s:=by simp only[Zf,Ze];omega
   have ly:(b.take s).length=s:=by simp only[Zf,Ze];omega
   have hx:sub (bv b) s (m-s)=bv (b.drop s):=q7 hb (by omega);have hy:sub (bv b) 0 s=bv (b.take s):=by
    exact k5 b 0 s
   have hres:Q9 (cF t key true) s true a9 b=S6 (cF t key true) a9 (b.drop s) (b.take s):=by
    unfold Q9;rw[if_pos rfl]
   have lz:=h.len (back:=true) ly;rw[hres,S6];rw[lx];refine⟨by rw[e1];omega,by rw[e1];omega,by rw[e1];omega,by rw[e1];omega,?_⟩;refine⟨by rw[e1];omega,by rw[e1];omega,by omega,by omega,?_⟩;refine⟨by omega,by omega,by omega,by omega,?_⟩;refine⟨by omega,by omega,by omega,by omega,?_⟩;refine⟨[],_,_,_,_,h.Un ly rfl,?_,rfl,?_⟩
   ·rw[<-hy];rfl
   generalize cF t key true (b.take s)=z at*
   have lt:(z.take (m-s)).length=m-s:=by rw[Zf];omega
   refine⟨by rw[e1];omega,by rw[e1];omega,by rw[e1];omega,by rw[e1];omega,?_⟩;refine⟨[],_,_,_,_,D5 (a:=z.take (m-s)) (b:=b.drop s) rfl rfl lt lx (by omega),?_,rfl,?_⟩
   ·rw[e1,<-hx];show[V.z (m-s) (sub (bv z) 0 (m-s)),V.z (m-s) (sub (bv b) s (m-s))]=_;rw[k5];rfl
   have lq:(f6 (z.take (m-s)) (b.drop s)).length=m-s:=t9 lt lx;refine⟨?_,by omega,by decide,?_⟩
   ·
    show(sub (bv b) s (m-s)).length=m-s;rw[hx,f9,lx]
   refine⟨by rw[e1];omega,by rw[e1];omega,by omega,by omega,?_⟩;refine⟨?_,?_,?_,?_⟩
   ·rw[e1,f9,lz];show 0+(m-s)*1+(s-(m-s))*1<=s;omega
   ·rw[e1];show 0+(m-s)+(s-(m-s))<=_;omega
   ·
    show 0+(0+(m-s))*1<=([]++sub (bv b) s (m-s):List Value).length;rw[Zl,hx,f9,lx];omega
   have lw:(b.drop s++z.drop (m-s)).length=s:=by rw[Zb,lx,Ze];omega
   refine⟨[],_,_,_,_,h.Un lw rfl,?_,rfl,?_⟩
   ·rw[e1];show[V.q rs 0,V.z (0+(m-s)+(s-(m-s))) (sub (sub ([]++sub (bv b) s (m-s)) 0 ((0+(m-s))*1)++sub (bv z) (0+(m-s)*1) ((s-(m-s))*1)) 0 (0+(m-s)+(s-(m-s))))]=_;rw[show 0+(m-s)+(s-(m-s))=s by omega,Zl,hx,Zi,Zg,Zg,Zi,b9 lx,k5,G6 z _ _ (by omega),z5,b9 lw]
   have lp:=h.len (back:=true) lw;generalize cF t key true (b.drop s++z.drop (m-s))=p at*
   refine⟨[],_,_,_,_,D5 (a:=p) (b:=a9) (b9 lp) rfl lp hl (by omega),rfl,rfl,?_⟩;have lp2:(f6 p a9).length=s:=t9 lp hl;refine⟨?_,?_,?_,?_⟩
   ·rw[f9,lq];show 0+(m-s)*1<=m-s;omega
   ·show s+(m-s)<=_;omega
   ·rw[f9,lp2];omega
   rw[e1];refine⟨_,rfl,[.d 147 0],?_,⟨_,rfl,d8 ?_⟩,tq⟩
   ·show V.t [V.o 1 (.k 0) 0 (s+(m-s)),_]=_;rw[show s+(m-s)=m by omega];rfl
   ·show sub (bv (f6 p a9)) 0 (s*1)++sub (bv (f6 (z.take (m-s)) (b.drop s))) 0 ((m-s)*1)=_;rw[Zg,Zg,b9 lp2,b9 lq,z5]
theorem g9.stT_len {t key s k xs rs} (h:g9 t key s k xs rs) {m:Nat} {mode:Int} {back:Bool} {a9 b:Bs} (hl:a9.length=s) (hb:b.length=m) (h1:s<=m) (h2:m<=2*s):(A9 (cF t key false) (cF t key true) s mode back a9 b).length=m:=by
 subst hb;exact Go.Scr.stT_len h.ci hl h1 h2
theorem ZJ (a:UInt8):U8.wrap ((a.toNat:Int)+1)=((a+1).toNat:Int):=ZI a 1
theorem DE (a:UInt8):((a.toNat:Int)=0)↔a=0:=by
 constructor
 ·intro h;refine Z8.1 ?_;have:(0:UInt8).toNat=0:=rfl;omega
 ·intro h;subst h;rfl
theorem Qo {c:Bs} {i:Nat}:fB c (i+1)=if c.getD i 0+1=0 then fB (c.set i (c.getD i 0+1)) i else c.set i (c.getD i 0+1):=by
 rw[fB]
theorem Gw {n:Nat} {va:List Value} {b:Bs} (ha:va=bv b) (hn:b.length=n) (hm:n<=1000):a7 C 230 [.z n va] [] (.ret (.o 1 (.k 0) 0 n)) [.sc (bv (fA b))]:=by
 subst ha;refine Pr.c ?_;refine⟨0,Nat×Bs,fun x=>⟨[(3,.o 1 (.k 0) 0 n),(4,i64 x.1)],[.sc (bv x.2)]⟩,fun x=>x.1<=n/\x.2.length=n/\fB x.2 x.1=fA b,fun x=>x.1,?_,fun x hx=> ?_⟩
 ·refine⟨by omega,by omega,by omega,?_⟩;refine⟨by rw[f9];omega,by omega,by decide,?_⟩;refine⟨[],(n,b),⟨Zh _,hn,by rw[<-hn];rfl⟩,[.d 9 0],⟨?_,?_,tq⟩,⟨_,rfl,d8 ?_⟩,tq⟩
  ·exact congrArg (V.o 1 (.k 0) 0) (by omega)
  ·exact c9 (by omega)
  ·rfl
 ·obtain⟨i,c⟩:=x;obtain⟨h1,h2,h3⟩:=hx;dsimp only at h1 h2 h3;refine b8 (fun h=> ?_) (fun h=> ?_)
  ·obtain⟨i,rfl⟩:∃j,i=j+1:=⟨i-1,by omega⟩;have e1:I6.wrap (((i+1:Nat):Int)-1)=(i:Int):=by rw[Za _ (by omega)];omega
   rw[Qo]at h3;refine⟨by rw[e1];omega,by rw[e1];omega,.int .u8 ((c.getD i 0).toNat:Int),by rw[e1,Zd,Zg,Zi];exact y7 (show i<c.length by omega),?_⟩;refine⟨by rw[e1];omega,by rw[e1];omega,by rw[e1,Zd,f9];show 0+i*1<c.length;omega,?_⟩;have e2:(bv c).set (0+(I6.wrap (((i+1:Nat):Int)-1)).toNat*1) (.int .u8 (U8.wrap (((c.getD i 0).toNat:Int)+1)))=bv (c.set i (c.getD i 0+1)):=by
    rw[e1,Zd,Zg,Zi,ZJ,K3]
   have l2:(c.set i (c.getD i 0+1)).length=n:=by rw[Zv,h2]
   have g2:(c.set i (c.getD i 0+1)).getD i 0=c.getD i 0+1:=by
    rw[Zc,List.getElem?_set,if_pos rfl,if_pos (by omega)];rfl
   refine⟨by rw[e1];omega,by rw[e1];omega,.int .u8 ((c.getD i 0+1).toNat:Int),?_,?_⟩
   ·show((bv c).set (0+(I6.wrap (((i+1:Nat):Int)-1)).toNat*1) (.int .u8 (U8.wrap (((c.getD i 0).toNat:Int)+1))))[0+(I6.wrap (((i+1:Nat):Int)-1)).toNat*1]? =_;rw[e2,e1,Zd,Zg,Zi,y7 (by omega),g2]
   refine i9 (fun hz=> ?_) (fun hz=> ?_)
   ·rw[if_pos ((DE _).1 hz)]at h3;exact⟨rfl,(i,c.set i (c.getD i 0+1)),⟨by show i<=n;omega,l2,h3⟩,(by show i<i+1;omega),[.k 0],⟨rfl,c9 e1,tq⟩,⟨_,rfl,d8 e2⟩,tq⟩
   ·rw[if_neg (fun e=>hz ((DE _).2 e))]at h3;refine⟨_,rfl,[.k 0],rfl,⟨_,rfl,d8 ?_⟩,tq⟩;rw[<-h3];exact e2
  ·obtain rfl:i=0:=(by omega);refine⟨_,rfl,[.k 0],rfl,⟨_,rfl,d8 ?_⟩,tq⟩;rw[<-h3];rfl
theorem Fr {t key s k xs rs} (h:g9 t key s k xs rs) {mode:Int} {back:Bool} {ch:Bs} {vc':List Value} {rv gv:V} (hv:vc'=bv ch) (hc:ch.length=s):
  a7 C 180 [.p (.k 0) 0] [.mx [d7 t k xs,i64 mode,bool back,.z s vc',rv,gv]] (.ret (.t [])) [.mx [d7 t k xs,i64 mode,bool back,.z s (bv (bt (cF t key false) mode ⟨ch,[],[]⟩).ch),.z s (bv (cF t key false ch)),g8]]:=by
 subst hv;have hs:=h.s_le;have lE:=h.len (back:=false) hc;refine MX.c ?_;refine⟨_,rfl,?_⟩;refine⟨_,rfl,?_⟩;refine⟨[],_,_,_,_,h.enc hc rfl,rfl,rfl,?_⟩;refine⟨Zz rfl,?_⟩;refine⟨Zz rfl,?_⟩;refine⟨_,rfl,?_⟩;refine i9 (fun h5=> ?_) (fun h5=> ?_)
 ·subst h5;refine⟨_,rfl,?_⟩;refine⟨[],_,_,_,_,cJ (l:=cF t key false ch) rfl lE (by omega) (by omega),?_,rfl,?_⟩
  ·show[V.z s (sub (bv (cF t key false ch)) 0 s)]=_;rw[b9 lE]
  refine⟨Zz rfl,?_⟩;refine⟨_,rfl,[.k 0],rfl,⟨_,rfl,?_⟩,tq⟩;show B.mx [d7 t k xs,i64 5,bool back,.z s (sub (bv (cF t key false ch)) 0 s),.z s (sub (bv (cF t key false ch)) 0 s),g8]=_;rw[b9 lE];rfl
 refine i9 (fun h6=> ?_) (fun h6=> ?_)
 ·subst h6;have lI:(fA ch).length=s:=by rw[tc,hc]
  refine⟨_,rfl,?_⟩;refine⟨[],_,_,_,_,Gw rfl hc (by omega),rfl,rfl,?_⟩;refine⟨Zz rfl,?_⟩;refine⟨_,rfl,[.k 0],rfl,⟨_,rfl,?_⟩,tq⟩;show B.mx [d7 t k xs,i64 6,bool back,.z s (sub (bv (fA ch)) 0 s),.z s (sub (bv (cF t key false ch)) 0 s),g8]=_;rw[b9 lE,b9 lI];rfl
 ·refine⟨_,rfl,[.k 0],rfl,⟨_,rfl,?_⟩,tq⟩;show B.mx [d7 t k xs,i64 mode,bool back,.z s (bv ch),.z s (sub (bv (cF t key false ch)) 0 s),g8]=_;rw[b9 lE];unfold bt;rw[if_neg h5,if_neg h6]
abbrev E6 (p:UInt8):V:= .s (.int .u8 p.toNat)
def ca:Bs->Bs->Nat->V
 |[],_,_=> .u
 |_::_,g,i=> .o 1 (.k i) 0 g.length
def i6:Bs->Bs->B
 |[],_=> .dead
 |_::_,g=> .sc (bv g)
def f8 (cv:V) (mode:Int) (back:Bool) (m:MS) (i:Nat):B:= .mx [cv,i64 mode,bool back,.z m.ch.length (bv m.ch),.z m.row.length (bv m.row),ca m.row m.gone i]
theorem dW {row g:Bs} {i:Nat} (h:0<row.length):ca row g i= .o 1 (.k i) 0 g.length:=by
 cases row with
 |nil=>simp at h
 |cons a b=>rfl
theorem dV {row g:Bs} (h:0<row.length):i6 row g= .sc (bv g):=by
 cases row with
 |nil=>simp at h
 |cons a b=>rfl
theorem jX {l:Bs} {m:Nat} {x:Int} {y:UInt8} (hl:l.length=m) (hx:x=(y.toNat:Int)):sub (bv l) 0 (m*1)++sub [Value.int .u8 x] 0 (1*1)=bv (l++[y]):=by
 subst hx;rw[Zg,b9 hl];show bv l++bv [y]=_;rw[z5]
theorem bB {l:Bs} {m:Nat} {x:Int} {y:UInt8} (hl:l.length=m) (hx:x=(y.toNat:Int)):sub (sub (bv l) 0 (m*1)++sub [Value.int .u8 x] 0 (1*1)) 0 (m+1)=bv (l++[y]):=by
 rw[jX hl hx];exact b9 (by rw[Zb,hl];rfl)
theorem mw {x:Int} {y:UInt8} (hx:x=(y.toNat:Int)):sub ([]:List Value) 0 (0*1)++sub [Value.int .u8 x] 0 (1*1)=bv ([]++[y]):=by
 subst hx;rfl
theorem fQ {x:Int} {y:UInt8} (hx:x=(y.toNat:Int)):sub (sub ([]:List Value) 0 (0*1)++sub [Value.int .u8 x] 0 (1*1)) 0 (0+1)=bv ([]++[y]):=by
 subst hx;rfl
theorem pi {back:Bool} {ch row g:Bs} {p:UInt8}:Q7 3 back ⟨ch,row,g⟩ p=(p^^^row.getD 0 0,⟨ch.drop 1++[m8 back p (p^^^row.getD 0 0)],[],g++[m8 back p (p^^^row.getD 0 0)]⟩):=by
 unfold Q7;dsimp only;rw[if_pos rfl]
theorem pj {back:Bool} {ch row g:Bs} {p:UInt8} (h:row.length=1):Q7 4 back ⟨ch,row,g⟩ p=(p^^^row.getD 0 0,⟨g++[m8 back p (p^^^row.getD 0 0)],[],g++[m8 back p (p^^^row.getD 0 0)]⟩):=by
 unfold Q7;dsimp only;rw[if_neg (by decide),if_pos rfl,if_pos h]
theorem fK {mode:Int} {back:Bool} {ch row g:Bs} {p:UInt8} (h3:mode≠3) (h4:¬(mode=4/\row.length=1)):Q7 mode back ⟨ch,row,g⟩ p=(p^^^row.getD 0 0,⟨ch,row.drop 1,g++[m8 back p (p^^^row.getD 0 0)]⟩):=by
 unfold Q7;dsimp only;rw[if_neg h3];by_cases h:mode=4
 ·rw[if_pos h,if_neg (fun e=>h4 ⟨h,e⟩)]
 ·rw[if_neg h]
end Go.Scr
