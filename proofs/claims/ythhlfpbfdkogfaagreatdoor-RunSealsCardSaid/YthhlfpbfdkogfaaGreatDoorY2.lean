/-
  What the functions of the given program reckon, each by a contract, up to the law. It is no claim by itself; each contract bears its own conditions.
-/
import Derived.Test.YthhlfpbfdkogfaaGreatDoorY1
set_option linter.unusedVariables false
set_option linter.unusedSimpArgs false
set_option maxRecDepth 100000
namespace Go.Scr
open Go.Proofs
open IntWalk renaming i64_in → Za
open List renaming length_append → Zb, getD_eq_getElem?_getD → Zc, length_drop → Zf, length_take → Zg, replicate → Zk, nil_append → Zl, length_reverse → Zm, range_succ → Zo, getElem?_eq_getElem → Zp, length_set → Zs, map_append → Zv, foldl_cons → Zw, foldl_append → Zy, length_eq_zero_iff → Zz, take_append_drop → Z3, reverse_reverse → Z5, length_cons → Z6, length_zipWith → Z7, zipWith_cons_cons → Jb, take_of_length_le → Jc, length_replicate → Jd, drop_append_of_le_length → Je, append_nil → Jg, getElem?_set → Jh, range_succ_eq_map → Jl, length_map → Jn, length_singleton → Jo, getElem?_reverse → Jp, map → Ju
open Int renaming toNat_natCast → Zd, tdiv_eq_ediv_of_nonneg → Zn, tmod_eq_emod_of_nonneg → Zq
open Nat renaming mul_one → Ze, le_refl → Zh, zero_add → Zi, le_of_ble_eq_true → Zj, mod_eq_of_lt → Zr, mod_lt → Zu, div_add_mod → Zx, pow_le_pow_right → Z4, mul_mod → Ja, mod_mul_mod → Jf, add_sub_cancel_left → Ji, testBit_lt_two_pow → Jj, mul_comm → Jk, sub_self → Js, mul_succ → Jt
open UInt8 renaming ofNat → Zt, toNat_ofNat' → Z0, xor_assoc → Z8, toNat_inj → Z9, xor_zero → Jq
open UInt32 renaming sub_add_cancel → Z1, add_sub_cancel → Z2, toNat_ofNat' → Jr
open BitVec renaming ofInt → Jm
open Go.IntKind renaming i64 → I6, u8 → U8
theorem Is {va vk:List Value} {r k:Bs} (ha:va=bv r) (hk:vk=bv k) (hr:r.length=4) (hkl:k.length=6):a6 C 187 [.z 4 va,.z 6 vk] [] (.ret (.t [.o 1 (.k 0) 0 4,bool true])) [.sc (bv (dF r k))]:=by
 have hp:(B3 (M6 48) r).length=6:=by rw[dK,dT]
 have hx:(i7 (B3 (M6 48) r) k).length=6:=w7 hp hkl;generalize hxe:i7 (B3 (M6 48) r) k=x at hx;refine OV.c ?_;refine au 0 rfl 8 (fun i=>⟨[(6,.z 6 (bv x)),(8,.o 1 (.k 0) 0 4),(9,i64 i)],[.sc (bv (I0 x i))]⟩) ?_ fun i hi=> ?_
 ·refine⟨[],_,_,_,_,MM,rfl,rfl,?_⟩;refine⟨[],_,_,_,_,mA (b:=r) (t:=M6 48) (n:=48) ha (D4 (dT _)) hr (dT _) (by decide) (by decide) (by decide) (by decide +kernel),rfl,rfl,?_⟩;refine⟨[],_,_,_,_,H9 (a:=B3 (M6 48) r) (b:=k) (d7 hp) hk hp hkl (by decide),rfl,rfl,?_⟩;rw[hxe];refine⟨by decide,by decide,by decide,?_⟩;refine⟨[],0,by decide,[.d 34 0],⟨?_,rfl,rfl,tq⟩,⟨_,rfl,d8 ?_⟩,tq⟩
  ·show V.z 6 (sub (bv x) 0 6)=_;rw[d7 hx]
  ·rfl
 have p1:I6.wrap (I6.wrap (6*(i:Int))+1)=((6*i+1:Nat):Int):=by
  rw[Za (6*(i:Int)) (by omega),Za _ (by omega)];omega
 refine⟨[],_,_,_,_,oH (n:=6*i+1) (b:=x) p1 rfl hx (by decide) (by omega) (by omega),rfl,rfl,?_⟩;have p2:I6.wrap (I6.wrap (I6.wrap (6*(i:Int))+1)+5)=((6*i+6:Nat):Int):=by
  rw[p1,Za _ (by omega)];omega
 refine⟨[],_,_,_,_,oH (n:=6*i+6) (b:=x) p2 rfl hx (by decide) (by omega) (by omega),rfl,rfl,?_⟩;have hb1:=az (tb x (6*i+1-1));have hb2:=az (tb x (6*i+6-1));have hrow:I6.wrap (I6.wrap (2*(((tb x (6*i+1-1)).toNat:Nat):Int))+(((tb x (6*i+6-1)).toNat:Nat):Int))=((eI x i:Nat):Int):=by
  rw[Za (2*(((tb x (6*i+1-1)).toNat:Nat):Int)) (by omega),Za _ (by omega)];rfl
 refine j9 (fun k=>⟨[(6,.z 6 (bv x)),(8,.o 1 (.k 0) 0 4),(9,i64 i),(10,i64 (6*i+1:Nat)),(11,i64 (eI x i:Nat)),(12,i64 (cC x i k:Nat)),(13,i64 (k+1:Nat))],[.sc (bv (I0 x i))]⟩) 4 ⟨[.k 0],⟨rfl,rfl,rfl,b9 p1,b9 hrow,rfl,rfl,tq⟩,⟨_,rfl,rfl⟩,tq⟩ fun k hk=> ?_;refine b8 (fun h=> ?_) (fun h=> ?_)
 ·have hkl:k<4:=(by omega);have p3:I6.wrap (((6*i+1:Nat):Int)+((k+1:Nat):Int))=((6*i+k+2:Nat):Int):=by
   rw[Za _ (by omega)];omega
  refine⟨[],_,_,_,_,oH (n:=6*i+k+2) (b:=x) p3 rfl hx (by decide) (by omega) (by omega),rfl,rfl,?_⟩;have hb:=az (tb x (6*i+k+2-1));have hc:=mJ x i k;have hc2:2^k<=8:=by
   have:2^k<=2^3:=Z4 (by decide) (by omega);simpa using this
  refine⟨k+1,by omega,by omega,[.k 0],⟨rfl,rfl,rfl,rfl,rfl,b9 ?_,b9 (by simp(disch:=omega)only[Za];omega),tq⟩,⟨_,rfl,rfl⟩,tq⟩;rw[Za (2*((cC x i k:Nat):Int)) (by omega),Za _ (by omega)];show _=((2*cC x i k+(tb x (6*i+1+k)).toNat:Nat):Int);rw[show 6*i+1+k=6*i+k+2-1 by omega];omega
 ·obtain rfl:k=4:=(by omega);have e2:I6.wrap ((i:Int).tdiv 2)=((i/2:Nat):Int):=by
   rw[Zn (by omega),Za _ (by omega)];omega
  have e3:I6.wrap (4*I6.wrap (1-(i:Int).tmod 2))=((4*(1-i%2):Nat):Int):=by
   rw[Zq (by omega),Za (1-(i:Int)%2) (by omega),Za _ (by omega)];omega
  have hcl:=mJ x i 4;obtain⟨o1,o2⟩:=tV i hi _ (jV x i);refine⟨by decide,by rw[e2];omega,by rw[e2];omega,?_⟩;refine⟨_,by rw[e2,Zd,Ze,Zi];exact m7 (by rw[jU];omega),?_⟩;refine⟨[],_,_,_,_,Iu hi (jV x i),rfl,rfl,?_⟩;refine⟨by omega,?_,?_⟩
  ·show((cC x i 4:Nat):Int)<(((N4 i (eI x i)).toArray.size:Nat):Int);simp only[List.size_toArray,o1];omega
  refine⟨_,by rw[Zd];exact nN (by omega),?_⟩;refine⟨[],_,_,_,_,IA rfl (o2 _ hcl),rfl,rfl,?_⟩;refine⟨by decide,by rw[e3];omega,by rw[e2];omega,by rw[e2];omega,by rw[e2,f7,jU];omega,?_⟩;have hset:(bv (I0 x i)).set (i/2) (.int .u8 (U8.wrap ((Jm U8.bits (((I0 x i).getD (i/2) 0).toNat:Int)|||Jm U8.bits (U8.wrap (((dS x i:Nat):Int)*2^(min ((4*(1-i%2):Nat):Int).toNat U8.bits)))).toNat:Int)))=bv (I0 x (i+1)):=by
   rw[WJ _ (pk hi) _ (by omega),ro,G0,zM hi]
  have w1:I6.wrap ((i:Int)+1)=((i+1:Nat):Int):=by rw[Za _ (by omega)];omega
  refine b8 (fun h=> ?_) (fun h=> ?_)
  ·rw[w1]at h;refine⟨rfl,i+1,by omega,by omega,[.k 0],⟨rfl,rfl,b9 w1,tq⟩,⟨_,rfl,d8 ?_⟩,tq⟩;rw[e2,e3,Zd,Ze,Zi];exact hset
  ·rw[w1]at h;obtain rfl:i=7:=(by omega);refine⟨[],_,_,_,_,JC,rfl,rfl,?_⟩;have hm:jb.length=32:=rfl;have h8:=jU x 8;refine⟨[],_,_,_,_,mA (b:=I0 x 8) (t:=jb) (n:=32) ?_ (D4 hm) h8 hm (by decide) (by decide) (by decide) (by decide +kernel),rfl,rfl,?_⟩
   ·show sub ((bv (I0 x 7)).set _ _) 0 4=_;rw[e2,e3];exact(congrArg (fun l=>sub l 0 4) hset).trans (d7 h8)
   refine⟨_,rfl,[.d 83 0],rfl,⟨_,rfl,d8 ?_⟩,tq⟩;rw[dF,hxe]
def X6 (t:List Nat) (n:Nat):List Nat:=(List.range n).foldl (fun o i=>o.set (t.getD i 0-1) (i+1)) (Zk t.length 0)
theorem uK (t n):X6 t (n+1)=(X6 t n).set (t.getD n 0-1) (n+1):=by simp[X6,Zo]
theorem ni (t n):(X6 t n).length=t.length:=by
 induction n with
 |zero=>simp[X6]
 |succ n ih=>rw[uK,Zs,ih]
def br:List Nat:=X6 u6 64
theorem Ba:∀i,i<64->1<=u6.getD i 0/\u6.getD i 0<=64/\(X6 u6 i).getD (u6.getD i 0-1) 0=0:=by decide +kernel
theorem L3:u6.length=64:=by decide +kernel
theorem BZ (l:List Nat) (i x:Nat):(nv l).set i (.int .i64 (x:Int))=nv (l.set i x):=by simp[nv,List.map_set]
theorem BX (n:Nat):Zk n (Value.int .i64 0)=nv (Zk n 0):=by simp[nv]
theorem IR {vt:List Value} (hv:vt=nv u6):a6 C 188 [.z 64 vt] [] (.ret (.t [.o 1 (.k 0) 0 64,bool true])) [.sc (nv br)]:=by
 subst hv;refine OD.c ?_;refine⟨by decide,by decide,by decide,?_⟩;refine j9 (fun i=>⟨[(0,.z 64 (nv u6)),(4,.o 1 (.k 0) 0 64),(12,i64 64),(13,i64 i)],[.sc (nv (X6 u6 i))]⟩) 64 ⟨[.d 10 0],⟨rfl,rfl,rfl,rfl,tq⟩,⟨_,rfl,d8 ?_⟩,tq⟩ fun i hi=> ?_
 ·show Zk 64 _=_;rw[BX,X6,L3];rfl
 refine b8 (fun h=> ?_) (fun h=> ?_)
 ·have a9:i<64:=(by omega);obtain⟨g1,g2,g3⟩:=Ba i a9;refine⟨by omega,by omega,?_⟩;refine⟨_,by rw[Zd];exact T8 (by rw[L3];omega),?_⟩;refine b8 (fun h=> ?_) (fun h=> ?_)
  ·omega
  refine b8 (fun h=> ?_) (fun h=> ?_)
  ·omega
  have e1:I6.wrap (((u6.getD i 0:Nat):Int)-1)=((u6.getD i 0-1:Nat):Int):=by rw[Za _ (by omega)];omega
  refine⟨by rw[e1];omega,by rw[e1];omega,?_⟩;refine⟨_,by rw[e1,Zd,Ze,Zi];exact T8 (by rw[ni,L3];omega),?_⟩;refine b8 (fun h=> ?_) (fun h=> ?_)
  ·rw[g3]at h;omega
  refine⟨by rw[e1];omega,by rw[e1];omega,by rw[e1,G2,ni,L3];omega,?_⟩;have w1:I6.wrap ((i:Int)+1)=((i+1:Nat):Int):=by rw[Za _ (by omega)];omega
  refine⟨i+1,by omega,by omega,[.k 0],⟨rfl,rfl,rfl,b9 w1,tq⟩,⟨_,rfl,d8 ?_⟩,tq⟩;rw[e1,w1,Zd,Ze,Zi,BZ,uK]
 ·obtain rfl:i=64:=(by omega);refine⟨by decide,by decide,by decide,?_⟩;have hl:(X6 u6 64).length=64:=by rw[ni,L3]
  refine⟨by rw[G2,hl];decide,by decide,?_⟩;refine⟨_,rfl,[.d 45 0],rfl,⟨_,rfl,d8 ?_⟩,tq⟩;show(Zk 64 (Value.int .i64 0)).take 0++(sub (nv (X6 u6 64)) 0 64).take 64++(Zk 64 (Value.int .i64 0)).drop 64=_;have ht:(nv (X6 u6 64)).take 64=nv (X6 u6 64):=Jc (by rw[G2,hl];decide);have hd:(Zk 64 (Value.int .i64 0)).drop 64=[]:=rfl;rw[D4 hl,ht,hd,List.take_zero,Zl,Jg];rfl
def jC (i:Nat):Nat:=if i<2\/i=8\/i=15 then 1 else 2
def lJ (t:List Nat) (s:Nat):List Nat:=(t.take 28).drop s++(t.take 28).take s++(t.drop 28).drop s++(t.drop 28).take s
def K8:Nat->List Nat
 |0=>ca
 |i+1=>lJ (K8 i) (jC i)
def du (i n:Nat):List Nat:=(List.range n).map fun j=>(K8 (i+1)).getD (Y9.getD j 0-1) 0
def X5 (key:Bs) (i:Nat):Bs:=B3 (du i 48) key
def C1 (key:Bs) (n:Nat):List (Bs):=(List.range n).map (X5 key)
def kV (l:List (Bs)):List V:=l.map fun k=> .z 6 (bv k)
theorem jW:∀i,i<17->(K8 i).length=56:=by decide +kernel
theorem wg:∀j,j<48->1<=Y9.getD j 0/\Y9.getD j 0<=56:=by decide +kernel
theorem rh:Y9.length=48:=by decide +kernel
theorem NY:∀i,i<16->∀j,j<48->1<=(du i 48).getD j 0/\(du i 48).getD j 0<=64:=by decide +kernel
theorem mP (i n):(du i n).length=n:=by simp[du]
theorem Oa (i n):du i (n+1)=du i n++[(K8 (i+1)).getD (Y9.getD n 0-1) 0]:=by simp[du,Zo]
theorem zL (key n):C1 key (n+1)=C1 key n++[X5 key n]:=by simp[C1,Zo]
theorem fM (key n):(C1 key n).length=n:=by simp[C1]
theorem tT (key i):(X5 key i).length=6:=by rw[X5,dK,mP]
theorem bN (l):(kV l).length=l.length:=by simp[kV]
theorem kp (H a7) (l):(kV l).map (l7 H a7 6)=kV l:=by
 unfold kV;rw[List.map_map];exact List.map_congr_left fun _ _=>rfl
theorem a0D {t:List Nat} {s:Nat} (ht:t.length=56) (hs:s<=28):
  sub (nv (sub t 0 28)) s (28-s)++sub (nv (sub t 0 28)) 0 s++sub (nv (sub t 28 28)) s (28-s)++sub (nv (sub t 28 28)) 0 s=nv (lJ t s):=by
 rw[ap,ap,ap,ap,eY,eY,eY];congr 1;have e1:sub t 28 28=t.drop 28:=H6 _ _ _ (by omega);have e0:sub t 0 28=t.take 28:=rfl;rw[e1,e0,lJ];rw[H6 (t.take 28) s (28-s) (by rw[Zg];omega),H6 (t.drop 28) s (28-s) (by rw[Zf];omega)];rfl
theorem a0C {t:List Nat} {s:Nat} (ht:t.length=56) (hs:s<=28):
  sub (sub (sub (sub (sub (nv t) 0 28) s (28-s)++sub (sub (nv t) 0 28) 0 s) 0 28++sub (sub (nv t) 28 28) s (28-s)) 0 (28+(28-s))++sub (sub (nv t) 28 28) 0 s) 0 56=nv (lJ t s):=by
 have l0:(sub (nv t) 0 28).length=28:=by rw[j6,G2,ht];rfl
 have l1:(sub (nv t) 28 28).length=28:=by rw[j6,G2,ht];rfl
 have a:sub (sub (sub (nv t) 0 28) s (28-s)++sub (sub (nv t) 0 28) 0 s) 0 28=sub (sub (nv t) 0 28) s (28-s)++sub (sub (nv t) 0 28) 0 s:=y8 (by simp only[Zb,j6,G2,ht];omega);rw[a];have b:sub (sub (sub (nv t) 0 28) s (28-s)++sub (sub (nv t) 0 28) 0 s++sub (sub (nv t) 28 28) s (28-s)) 0 (28+(28-s))=sub (sub (nv t) 0 28) s (28-s)++sub (sub (nv t) 0 28) 0 s++sub (sub (nv t) 28 28) s (28-s):=y8 (by simp only[Zb,j6,G2,ht];omega);rw[b,y8 (by simp only[Zb,j6,G2,ht];omega)];rw[ap t 0 28,ap t 28 28];exact a0D ht hs
theorem Bj (H a7) (l) (n):(kV l).map (B9 H a7 (n+1))=kV l:=by
 unfold kV;rw[List.map_map];exact List.map_congr_left fun _ _=>rfl
def zR (key:Bs) (i:Nat):B:=match i with
 |0=> .pl []
 |i+1=> .mx (kV (C1 key (i+1)))
theorem yr {va:List Value} {key:Bs} (ha:va=bv key) (hk:key.length=8):a6 C 126 [.z 8 va] [] (.ret (.t [.zz 1 16 (kV (C1 key 16)),i64 0])) []:=by
 subst ha;refine OW.c ?_;refine⟨[],_,_,_,_,Hq,rfl,rfl,?_⟩;refine⟨by decide,by decide,by decide,?_⟩;refine j9 (fun i=>⟨[(0,.z 8 (bv key)),(4,.z 56 (nv (K8 i))),(5,.z 48 (nv Y9)),(6,.o 1 (.k 0) 0 i),(24,i64 i)],[zR key i]⟩) 16 ⟨[.d 23 0],⟨rfl,?_,?_,rfl,rfl,tq⟩,⟨_,rfl,rfl⟩,tq⟩ fun i hi=> ?_
 ·show V.z 56 (sub (nv ca) 0 56)=_;rw[D4 (by decide +kernel)];rfl
 ·show V.z 48 (sub (nv Y9) 0 48)=_;rw[D4 (by decide +kernel)]
 refine b8 (fun h=> ?_) (fun h=> ?_)
 ·have a9:i<16:=(by omega);have ht:=jW i (by omega);have l0:(sub (nv (K8 i)) 0 28).length=28:=by rw[j6,G2,ht];rfl
  have l1:(sub (nv (K8 i)) 28 28).length=28:=by rw[j6,G2,ht];rfl
  refine b8 (fun h1=> ?_) (fun h1=>g8 (fun h2=> ?_) (fun h2=>g8 (fun h3=> ?_) (fun h3=> ?_)));all_goals
   first
    |have hs:K8 (i+1)=lJ (K8 i) 1:=by rw[K8,jC,if_pos (by omega)]
    |have hs:K8 (i+1)=lJ (K8 i) 2:=by rw[K8,jC,if_neg (by omega)]
   refine⟨by decide,by decide,by decide,by decide,?_⟩;refine⟨[],_,_,_,_,sP (n:=28) (va:=sub (nv (K8 i)) 0 28) l0 (by decide) (by decide),rfl,rfl,?_⟩;refine⟨by decide,by decide,by decide,by decide,?_⟩;refine⟨[],_,_,_,_,sP (n:=28) (va:=sub (nv (K8 i)) 28 28) l1 (by decide) (by decide),rfl,rfl,?_⟩;refine⟨by decide,by decide,by decide,by decide,?_⟩;refine⟨by decide,by decide,by decide,by decide,?_⟩;refine⟨(by first|decide|(simp only[Zb,j6,l0,l1];decide)),(by first|decide|(simp only[Zb,j6,l0,l1];decide)),(by first|decide|(simp only[Zb,j6,l0,l1];decide)),?_⟩;refine⟨by decide,by decide,by decide,by decide,?_⟩;refine⟨(by first|decide|(simp only[Zb,j6,l0,l1];decide)),(by first|decide|(simp only[Zb,j6,l0,l1];decide)),(by first|decide|(simp only[Zb,j6,l0,l1];decide)),?_⟩;refine⟨by decide,by decide,by decide,by decide,?_⟩;refine⟨(by first|decide|(simp only[Zb,j6,l0,l1];decide)),(by first|decide|(simp only[Zb,j6,l0,l1];decide)),(by first|decide|(simp only[Zb,j6,l0,l1];decide)),?_⟩;refine A8 (fun j=>⟨[(0,.z 8 (bv key)),(4,.z 56 (nv (K8 (i+1)))),(5,.z 48 (nv Y9)),(6,.o 1 (.k 0) 0 i),(11,.o 1 (.k 1) 0 j),(24,i64 i),(58,.z 48 (nv Y9)),(59,i64 48),(60,i64 j)],[zR key i,.sc (nv (du i j))]⟩) 48 [(11,1,.sc [])] ⟨[.k 0,.d 900000 0],⟨rfl,?_,rfl,rfl,rfl,rfl,rfl,rfl,rfl,tq⟩,⟨_,rfl,?_⟩,⟨_,rfl,rfl⟩,tq⟩ fun j hj=> ?_
   ·rw[hs];exact congrArg (V.z 56) (a0C ht (by decide))
   ·rcases i with _|i
    ·rfl
    ·show B.mx ((kV _).map _)=_;rw[kp];rfl
   refine b8 (fun h=> ?_) (fun h=> ?_)
   ·have hj':j<48:=(by omega);obtain⟨g1,g2⟩:=wg j hj';have e1:I6.wrap (((Y9.getD j 0:Nat):Int)-1)=((Y9.getD j 0-1:Nat):Int):=by rw[Za _ (by omega)];omega
    refine⟨by omega,by omega,?_⟩;refine⟨_,by rw[Zd];exact T8 (by rw[rh];omega),?_⟩;refine⟨by rw[e1];omega,by rw[e1];omega,?_⟩;refine⟨_,by rw[e1,Zd];exact T8 (by rw[jW _ (by omega)];omega),?_⟩;refine⟨Zh _,by omega,by rw[G2,mP];omega,?_⟩;refine⟨j+1,by omega,by omega,[.k 0,.d 71 0],⟨rfl,rfl,rfl,rfl,rfl,rfl,rfl,rfl,b9 (by simp(disch:=omega)only[Za];omega),tq⟩,⟨_,rfl,?_⟩,⟨_,rfl,d8 ?_⟩,tq⟩
    ·rcases i with _|i
     ·rfl
     ·show B.mx ((kV _).map _)=_;rw[kp];rfl
    ·rw[Oa];exact iS (by rw[mP,Ze])
   ·obtain rfl:j=48:=(by omega);refine⟨[],_,_,_,_,mA (b:=key) (t:=du i 48) (n:=48) rfl (D4 (mP _ _)) hk (mP _ _) (by decide) (by decide) (by decide) (fun j hj=>NY i a9 j hj),rfl,rfl,?_⟩;have w1:I6.wrap ((i:Int)+1)=((i+1:Nat):Int):=by rw[Za _ (by omega)];omega
    have hz:V.z 6 (sub (bv (X5 key i)) 0 6)= .z 6 (bv (X5 key i)):=by rw[d7 (tT _ _)]
    rcases i with _|i
    ·refine⟨by decide,by decide,by decide,?_⟩;refine⟨1,by omega,by omega,[.d 82 0],⟨rfl,rfl,rfl,rfl,rfl,tq⟩,⟨_,rfl,?_⟩,tq⟩;exact congrArg (fun z=>B.mx [z]) hz
    ·refine⟨by decide,by omega,by rw[bN,fM];omega,?_⟩;refine⟨i+1+1,by omega,by omega,[.d 82 0],⟨rfl,rfl,rfl,rfl,b9 w1,tq⟩,⟨_,rfl,?_⟩,tq⟩;show B.mx (Ju (l7 _ _ 6) (sub (kV (C1 key (i+1))) 0 ((i+1)*1)++[V.o 1 _ _ _]))= .mx (kV (C1 key (i+1+1)));rw[Ze,y8 (by rw[bN,fM]),Zv,kp,zL key (i+1),show kV (C1 key (i+1)++[X5 key (i+1)])=kV (C1 key (i+1))++[V.z 6 (bv (X5 key (i+1)))] from Zv];exact congrArg (fun z=>B.mx (kV (C1 key (i+1))++[z])) hz
 ·obtain rfl:i=16:=(by omega);refine⟨_,rfl,[],?_,tq⟩;exact congrArg (fun z=>V.t [V.zz 1 16 z,i64 0]) ((congrArg (Ju _) (y8 (by rw[bN,fM]))).trans (Bj _ _ _ 2))
theorem pX {l:List (Bs)} {j:Nat} {x:Bs} (h:l[j]? =some x):(kV l)[j]? =some (.z 6 (bv x)):=by simp[kV,h]
theorem Bi (l:List (Bs)) (i:Nat) (x:Bs):(kV l).set i (.z 6 (bv x))=kV (l.set i x):=by simp[kV,List.map_set]
theorem sO {n:Nat} {l:List (Bs)} {xs:List V} (hx:xs=kV l) (hn:l.length=n) (h0:0<n) (hm:n<=1000000):a6 C 127 [.zz 1 n xs] [] (.ret (.o 1 (.k 0) 0 n)) [.pl (kV l)]:=by
 subst hx;refine Si.c ?_;refine .inl ⟨h0,?_⟩;refine⟨by rw[bN,hn,Ze],by omega,by decide,?_⟩;refine⟨_,rfl,[.d 7 0],?_,⟨_,rfl,?_⟩,tq⟩
 ·rw[Zi];rfl
 ·rfl
theorem tj {n:Nat} {l:List (Bs)} (hn:l.length=n) (h0:0<n) (hm:n<=1073741824):a6 C 128 [.o 1 (.k 0) 0 n] [.pl (kV l)] (.ret (.t [])) [.pl (kV l.reverse)]:=by
 subst hn;refine Sq.c ?_;refine j9 (fun i=>⟨[(0,.o 1 (.k 0) 0 l.length),(2,i64 i),(3,i64 (l.length-1-i))],[.pl (kV (W7 l i))]⟩) l.length ⟨[.k 0],⟨rfl,rfl,b9 (by simp(disch:=omega)only[Za];omega),tq⟩,⟨_,rfl,congrArg B.pl (by rw[Da])⟩,tq⟩ fun i hi=> ?_;refine b8 (fun h=> ?_) (fun h=> ?_)
 ·have a9:i<l.length-1-i:=(by omega);have e1:0+((l.length:Int)-1-i).toNat*1=l.length-1-i:=(by omega);have e2:0+((i:Int)).toNat*1=i:=(by omega);refine⟨by omega,by omega,_,by rw[e1];exact pX (qO l i (l.length-1-i) (by omega) (by omega) (by omega)),?_⟩;refine⟨by omega,by omega,_,by rw[e2];exact pX (qO l i i (by omega) (by omega) (by omega)),?_⟩;refine⟨by omega,by omega,by rw[e2,bN,fi];show i+1<=_;omega,by omega,by omega,?_,?_⟩
  ·rw[e1,e2];show l.length-1-i+1<=((kV (W7 l i)).set _ _).length;rw[Zs,bN,fi];omega
  refine⟨i+1,by omega,by omega,[.k 0],⟨rfl,b9 (by simp(disch:=omega)only[Za];omega),b9 (by simp(disch:=omega)only[Za];omega),tq⟩,⟨_,rfl,congrArg B.pl ?_⟩,tq⟩;rw[e1,e2];show((kV (W7 l i)).set _ _).set _ _=_;rw[Bi,Bi,CZ l i a9]
 ·refine⟨_,rfl,[.k 0],rfl,⟨_,rfl,congrArg B.pl ?_⟩,tq⟩;rw[CY l i (by omega)]
abbrev L2:=Bs×Bs
def eG (x:L2) (k:Bs):L2:=(x.2,i7 x.1 (dF x.2 k))
def dN (ks:List (Bs)) (x:L2) (n:Nat):L2:=(List.range n).foldl (fun x i=>eG x (ks.getD i [])) x
def v9 (b:Bs):L2:=(sub (B3 u6 b) 0 4,sub (B3 u6 b) 4 4)
def C8 (ks:List (Bs)) (b:Bs):Bs:=B3 br ((dN ks (v9 b) ks.length).2++(dN ks (v9 b) ks.length).1)
def gE (ks:List (Bs)):Prop:=∀i,i<ks.length->(ks.getD i []).length=6
theorem mL (ks x n):dN ks x (n+1)=eG (dN ks x n) (ks.getD n []):=by simp[dN,Zo]
theorem eE (r k):(dF r k).length=4:=by rw[dF,dK];rfl
theorem ph {ks x} (h1:x.1.length=4) (h2:x.2.length=4):∀n,(dN ks x n).1.length=4/\(dN ks x n).2.length=4
 |0=>⟨h1,h2⟩
 |n+1=>by
  obtain⟨a,b⟩:=ph (ks:=ks) h1 h2 n;rw[mL];exact⟨b,w7 a (eE _ _)⟩
theorem mK (b):(v9 b).1.length=4/\(v9 b).2.length=4:=by
 have:(B3 u6 b).length=8:=by rw[dK,L3]
 constructor<;>(simp only[v9,j6];omega)
theorem wj:∀i,i<64->1<=u6.getD i 0/\u6.getD i 0<=8*8:=by decide +kernel
theorem wi:∀i,i<64->1<=br.getD i 0/\br.getD i 0<=8*8:=by decide +kernel
theorem gS:br.length=64:=by decide +kernel
theorem getD_some {α:Type} {l:List α} {i:Nat} {d:α} (h:i<l.length):l[i]? =some (l.getD i d):=by simp[Zc,h]
theorem jJ {va:List Value} {xs:List V} {b:Bs} {ks:List (Bs)} {n:Nat} (ha:va=bv b) (hx:xs=kV ks) (hb:b.length=8) (hn:ks.length=n) (hm:n<=1000) (hk:gE ks):
  a6 C 129 [.z 8 va,.zz 1 n xs] [] (.ret (.o 1 (.k 0) 0 8)) [.sc (bv (C8 ks b))]:=by
 subst ha;subst hx;have hl:=ph (ks:=ks) (mK b).1 (mK b).2;refine Pb.c ?_;refine au 0 rfl (n+1) (fun i=>⟨[(1,.zz 1 n (kV ks)),(5,.z 64 (nv u6)),(6,.z 4 (bv (dN ks (v9 b) i).1)),(7,.z 4 (bv (dN ks (v9 b) i).2)),(8,i64 i)],[]⟩) ?_ fun i hi=> ?_
 ·refine⟨[],_,_,_,_,IE,rfl,rfl,?_⟩;refine⟨[],_,_,_,_,mA (b:=b) (t:=u6) (n:=64) rfl (D4 L3) hb L3 (by decide) (by decide) (by decide) wj,rfl,rfl,?_⟩;refine⟨by decide,by decide,by decide,by decide,?_⟩;refine⟨by decide,by decide,by decide,by decide,?_⟩;refine⟨[],0,by omega,[],⟨rfl,?_,?_,?_,rfl,tq⟩,tq⟩
  ·show V.z 64 (sub (nv u6) 0 64)=_;rw[D4 L3]
  ·exact congrArg (V.z 4) (k7 _ _ _)
  ·exact congrArg (V.z 4) (k7 _ _ _)
 refine b8 (fun h=> ?_) (fun h=> ?_)
 ·have a9:i<n:=(by omega);refine⟨by omega,by omega,_,by rw[Zd,Ze];exact pX (getD_some (d:=[]) (by omega)),?_⟩;refine⟨[],_,_,_,_,Is (r:=(dN ks (v9 b) i).2) (k:=ks.getD i []) rfl rfl (hl i).2 (hk i (by omega)),rfl,rfl,?_⟩;refine⟨[],_,_,_,_,H9 (a:=(dN ks (v9 b) i).1) (b:=dF (dN ks (v9 b) i).2 (ks.getD i [])) rfl (d7 (eE _ _)) (hl i).1 (eE _ _) (by decide),rfl,rfl,?_⟩;refine⟨rfl,i+1,by omega,by omega,[],⟨rfl,rfl,?_,?_,b9 (by simp(disch:=omega)only[Za];omega),tq⟩,tq⟩
  ·rw[mL];rfl
  ·rw[mL];show V.z 4 (sub (bv _) 0 4)=_;rw[d7 (w7 (hl i).1 (eE _ _))];rfl
 ·obtain rfl:i=n:=(by omega);refine⟨[],_,_,_,_,IR rfl,rfl,rfl,?_⟩;refine⟨[],_,_,_,_,bF (n:=2) (ls:=[(dN ks (v9 b) i).2,(dN ks (v9 b) i).1]) (t:=(dN ks (v9 b) i).2++(dN ks (v9 b) i).1) (by simp) ?_ rfl (by rw[Zb,(hl i).1,(hl i).2];decide) (by rw[Zb,(hl i).1,(hl i).2];decide),rfl,rfl,?_⟩
  ·show[V.z 4 _,V.z 4 _]=[V.z _ _,V.z _ _];rw[(hl i).1,(hl i).2]
  have h8:((dN ks (v9 b) i).2++(dN ks (v9 b) i).1).length=8:=by rw[Zb,(hl i).1,(hl i).2]
  refine⟨[],_,_,_,_,mA (b:=(dN ks (v9 b) i).2++(dN ks (v9 b) i).1) (t:=br) (l:=((dN ks (v9 b) i).2++(dN ks (v9 b) i).1).length) (n:=64) (d7 rfl) (D4 gS) rfl gS (by rw[h8];decide) (by decide) (by decide) (by rw[h8];exact wi),rfl,rfl,?_⟩;refine⟨_,rfl,[.d 58 0],rfl,⟨_,rfl,d8 ?_⟩,tq⟩;rw[C8,hn]
def E7 (l:List (List (Bs))):List V:=l.map fun k=> .zz 1 16 (kV k)
theorem bO (l):(E7 l).length=l.length:=by simp[E7]
theorem gg {l:List (List (Bs))} {j:Nat} {x} (h:l[j]? =some x):(E7 l)[j]? =some (.zz 1 16 (kV x)):=by simp[E7,h]
abbrev cD (ks:List (List (Bs))):V:= .q [.zz 1 ks.length (E7 ks)] 0
def iF (ks:List (List (Bs))) (back:Bool) (b:Bs) (i:Nat):Bs:=
 C8 (if back != decide (i=1)then (if back then ks.getD (ks.length-1-i) []else ks.getD i []).reverse else (if back then ks.getD (ks.length-1-i) []else ks.getD i [])) b
def I5 (ks:List (List (Bs))) (back:Bool) (b:Bs) (n:Nat):Bs:=(List.range n).foldl (iF ks back) b
def vq (ks:List (List (Bs))):Prop:=ks.length<=3/\∀i,i<ks.length->(ks.getD i []).length=16/\gE (ks.getD i [])
theorem mO (ks b):(C8 ks b).length=8:=by rw[C8,dK,gS]
theorem pg (ks back b n):I5 ks back b (n+1)=iF ks back (I5 ks back b n) n:=by simp[I5,Zo]
theorem tO {ks back b} (h:b.length=8):∀n,(I5 ks back b n).length=8
 |0=>h
 |n+1=>by rw[pg];exact mO _ _
theorem qx {ks} (h:gE ks):gE ks.reverse:=by
 intro i hi;have hi':i<ks.length:=by simpa using hi
 have e:ks.reverse.getD i []=ks.getD (ks.length-1-i) []:=by
  rw[Zc,Jp hi',Zc]
 rw[e];exact h _ (by omega)
def dD (ks:List (List (Bs))) (back:Bool) (b:Bs) (i:Nat):D:=match i with
 |0=>⟨[(0,cD ks),(1,.z 8 (bv b)),(2,bool back),(18,i64 ks.length),(19,i64 0)],[]⟩
 |i+1=>⟨[(0,cD ks),(1,.o 1 (.k 0) 0 8),(2,bool back),(18,i64 ks.length),(19,i64 (i+1:Nat))],[.sc (bv (I5 ks back b (i+1)))]⟩
theorem Ix {va:List Value} {b:Bs} {ks:List (List (Bs))} {back:Bool} (ha:va=bv b) (hb:b.length=8) (hk:vq ks) (h0:0<ks.length):
  a6 C 79 [cD ks,.z 8 va,bool back] [] (y6 8) [.sc (bv (I5 ks back b ks.length))]:=by
 subst ha;have n7:=tO (ks:=ks) (back:=back) hb;obtain⟨h3,hk⟩:=hk;have hend:∀i k,C8 k (I5 ks back b i)=iF ks back (I5 ks back b i) i->bv (C8 k (I5 ks back b i))=bv (I5 ks back b (i+1)):=fun i k h=>by rw[h,pg]
 refine Ab.c ?_;refine⟨_,rfl,?_⟩;refine j9 (dD ks back b) ks.length ⟨[],⟨rfl,rfl,rfl,rfl,rfl,tq⟩,tq⟩ fun i hi=> ?_;rcases i with _|i
 ·refine b8 (fun h=> ?_) (fun h=>absurd h (by omega));obtain⟨k1,k2⟩:=hk 0 h0;refine⟨_,rfl,by omega,by omega,_,gg (getD_some (d:=[]) h0),?_⟩;cases back
  ·skip
   refine⟨[],_,_,_,_,jJ (b:=I5 ks false b 0) (ks:=ks.getD 0 []) (by first|exact d7 (n7 _)|rfl) rfl (n7 _) k1 (by decide) k2,rfl,rfl,?_⟩;refine⟨0+1,by omega,by omega,[.d 55 0],⟨rfl,rfl,rfl,rfl,rfl,tq⟩,⟨_,rfl,d8 (hend _ _ ?_)⟩,tq⟩;rfl
  ·obtain⟨k1,k2⟩:=hk (ks.length-1-0) (by omega);have e1:I6.wrap (I6.wrap ((ks.length:Int)-1)-0)=((ks.length-1-0:Nat):Int):=by
    rw[Za ((ks.length:Int)-1) (by omega),Za _ (by omega)];omega
   refine⟨_,rfl,_,rfl,by rw[e1];omega,by rw[e1];omega,_,by rw[e1,Zd,Ze];exact gg (getD_some (d:=[]) (by omega)),?_⟩;refine⟨[],_,_,_,_,sO rfl k1 (by decide) (by decide),rfl,rfl,?_⟩;refine⟨[.d 50 0],_,_,_,_,tj (l:=ks.getD (ks.length-1-0) []) k1 (by decide) (by decide),rfl,rfl,?_⟩;refine⟨[],_,_,_,_,jJ (b:=I5 ks true b 0) (ks:=(ks.getD (ks.length-1-0) []).reverse) (by first|exact d7 (n7 _)|rfl) (y8 (by rw[bN,Zm,k1])) (n7 _) (by rw[Zm,k1]) (by decide) (qx k2),rfl,rfl,?_⟩;refine⟨0+1,by omega,by omega,[.d 55 0],⟨rfl,rfl,rfl,rfl,rfl,tq⟩,⟨_,rfl,d8 (hend _ _ ?_)⟩,tq⟩;rfl
 refine b8 (fun h=> ?_) (fun h=> ?_)
 ·have a9:i+1<ks.length:=(by omega);have w1:I6.wrap (((i+1:Nat):Int)+1)=((i+1+1:Nat):Int):=by rw[Za _ (by omega)];omega
  have one:(((i+1:Nat):Int)==1)=decide (i+1=1):=by
   by_cases h:i+1=1
   ·rw[h];rfl
   ·rw[decide_eq_false h];exact beq_false_of_ne (by omega)
  obtain⟨k1,k2⟩:=hk (i+1) a9;refine⟨_,rfl,by omega,by omega,_,by rw[Zd,Ze];exact gg (getD_some (d:=[]) a9),?_⟩;cases back
  ·refine gP (fun h1=> ?_) (fun h1=> ?_)
   ·rw[one]at h1;refine⟨[],_,_,_,_,sO rfl k1 (by decide) (by decide),rfl,rfl,?_⟩;refine⟨[.d 50 0],_,_,_,_,tj (l:=ks.getD (i+1) []) k1 (by decide) (by decide),rfl,rfl,?_⟩;refine⟨[],_,_,_,_,jJ (b:=I5 ks false b (i+1)) (ks:=(ks.getD (i+1) []).reverse) (by first|exact d7 (n7 _)|rfl) (y8 (by rw[bN,Zm,k1])) (n7 _) (by rw[Zm,k1]) (by decide) (qx k2),rfl,rfl,?_⟩;refine⟨i+1+1,by omega,by omega,[.d 55 0],⟨rfl,rfl,rfl,rfl,b9 w1,tq⟩,⟨_,rfl,d8 (hend _ _ ?_)⟩,tq⟩;unfold iF;first|(rw [if_pos (show (false != decide (i+1=1))=true from h1)];rfl)|(rw [if_pos (show (true != decide (i+1=1))=true from h1)];rfl)
   ·rw[one]at h1;refine⟨[],_,_,_,_,jJ (b:=I5 ks false b (i+1)) (ks:=ks.getD (i+1) []) (by first|exact d7 (n7 _)|rfl) rfl (n7 _) k1 (by decide) k2,rfl,rfl,?_⟩;refine⟨i+1+1,by omega,by omega,[.d 55 0],⟨rfl,rfl,rfl,rfl,b9 w1,tq⟩,⟨_,rfl,d8 (hend _ _ ?_)⟩,tq⟩;unfold iF;rw[if_neg (by rw[show (false != decide (i+1=1))=false from h1];decide)];rfl
  ·have e1:I6.wrap (I6.wrap ((ks.length:Int)-1)-((i+1:Nat):Int))=((ks.length-1-(i+1):Nat):Int):=by
    rw[Za ((ks.length:Int)-1) (by omega),Za _ (by omega)];omega
   obtain⟨k1,k2⟩:=hk (ks.length-1-(i+1)) (by omega);refine⟨_,rfl,_,rfl,by rw[e1];omega,by rw[e1];omega,_,by rw[e1,Zd,Ze];exact gg (getD_some (d:=[]) (by omega)),?_⟩;refine gP (fun h1=> ?_) (fun h1=> ?_)
   ·rw[one]at h1;refine⟨[],_,_,_,_,sO rfl k1 (by decide) (by decide),rfl,rfl,?_⟩;refine⟨[.d 50 0],_,_,_,_,tj (l:=ks.getD (ks.length-1-(i+1)) []) k1 (by decide) (by decide),rfl,rfl,?_⟩;refine⟨[],_,_,_,_,jJ (b:=I5 ks true b (i+1)) (ks:=(ks.getD (ks.length-1-(i+1)) []).reverse) (by first|exact d7 (n7 _)|rfl) (y8 (by rw[bN,Zm,k1])) (n7 _) (by rw[Zm,k1]) (by decide) (qx k2),rfl,rfl,?_⟩;refine⟨i+1+1,by omega,by omega,[.d 55 0],⟨rfl,rfl,rfl,rfl,b9 w1,tq⟩,⟨_,rfl,d8 (hend _ _ ?_)⟩,tq⟩;unfold iF;first|(rw [if_pos (show (false != decide (i+1=1))=true from h1)];rfl)|(rw [if_pos (show (true != decide (i+1=1))=true from h1)];rfl)
   ·rw[one]at h1;refine⟨[],_,_,_,_,jJ (b:=I5 ks true b (i+1)) (ks:=ks.getD (ks.length-1-(i+1)) []) (by first|exact d7 (n7 _)|rfl) rfl (n7 _) k1 (by decide) k2,rfl,rfl,?_⟩;refine⟨i+1+1,by omega,by omega,[.d 55 0],⟨rfl,rfl,rfl,rfl,b9 w1,tq⟩,⟨_,rfl,d8 (hend _ _ ?_)⟩,tq⟩;unfold iF;rw[if_neg (by rw[show (true != decide (i+1=1))=false from h1];decide)];rfl
 ·have he:i+1=ks.length:=(by omega);refine⟨_,rfl,[.k 0],rfl,⟨_,rfl,d8 ?_⟩,tq⟩;rw[he]
theorem Iw {va:List Value} {ks:List (List (Bs))} {n:Nat} {back:Bool} (hn:n≠8):a6 C 79 [cD ks,.z n va,bool back] [] Q5 []:=by
 refine Ab.c ?_;refine l5 (fun h=> ?_) (fun h=> ?_)
 ·exact⟨_,rfl,[],rfl,tq⟩
 ·omega
def K7 (key:Bs) (n:Nat):List (List (Bs)):=(List.range n).map fun i=>C1 (sub key (8*i) 8) 16
def E6 (key:Bs) (n:Nat):List (List (Bs)):=if n=2 then K7 key 2++[C1 (sub key 0 8) 16]else K7 key n
theorem zK (key n):K7 key (n+1)=K7 key n++[C1 (sub key (8*n) 8) 16]:=by simp[K7,Zo]
theorem aj (key n):(K7 key n).length=n:=by simp[K7]
theorem fJ {key n} (h:1<=n/\n<=3):(E6 key n).length=if n=2 then 3 else n:=by
 unfold E6;split
 ·rename_i h;subst h;rw[Zb,aj];rfl
 ·exact aj _ _
theorem tU (key):(C1 key 16).length=16/\gE (C1 key 16):=by
 refine⟨fM _ _,fun i hi=> ?_⟩;rw[fM]at hi;have:(C1 key 16).getD i []=X5 key i:=by simp[C1,Zc,hi]
 rw[this,tT]
theorem NR {key n} (h:1<=n/\n<=3):vq (E6 key n)/\0<(E6 key n).length:=by
 have hl:=fJ (key:=key) h;have hm:∀x∈E6 key n,x.length=16/\gE x:=by
  intro x hx;unfold E6 at hx;split at hx
  ·rcases List.mem_append.1 hx with hx|hx
   ·obtain⟨i,_,rfl⟩:=List.mem_map.1 hx;exact tU _
   ·rw[List.mem_singleton.1 hx];exact tU _
  ·obtain⟨i,_,rfl⟩:=List.mem_map.1 hx;exact tU _
 refine⟨⟨by rw[hl];split<;>omega,fun i hi=>hm _ ?_⟩,by rw[hl];split<;>omega⟩;rw[Zc,Zp hi];exact List.getElem_mem hi
def NU (key:Bs) (m n i:Nat):D:=match i with
 |0=>⟨[(0,.z m (bv key)),(4,i64 n),(5,.p (.k 0) 0),(26,i64 n),(27,i64 0)],[.mx [d9]]⟩
 |i+1=>⟨[(0,.z m (bv key)),(4,i64 n),(5,.p (.k 0) 0),(26,i64 n),(27,i64 (i+1:Nat))],[.mx [.o 1 (.k 1) 0 (i+1)],.pl (E7 (K7 key (i+1)))]⟩
theorem yq {va:List Value} {key:Bs} {m n:Nat} (ha:va=bv key) (hk:key.length=m) (hm:m=8*n) (hn:1<=n/\n<=3):a6 C 78 [.z m va] [] (.ret (.t [cD (E6 key n),i64 0])) []:=by
 subst ha;have e1:I6.wrap ((m:Int).tdiv 8)=(n:Int):=by
  rw[Zn (by omega),Za _ (by omega)];omega
 have e2:(m:Int).tmod 8=0:=by rw[Zq (by omega)];omega
 refine OX.c ?_;refine⟨by decide,by decide,?_⟩;rw[e1,e2];refine b8 (fun h=>absurd h (by omega)) (fun h=> ?_);refine b8 (fun h=>absurd h (by omega)) (fun h=> ?_);refine j9 (NU key m n) n ⟨[.d 25 0],⟨rfl,rfl,rfl,rfl,rfl,tq⟩,⟨_,rfl,rfl⟩,tq⟩ fun i hi=> ?_;rcases i with _|i
 ·refine b8 (fun h=> ?_) (fun h=>absurd h (by omega));refine⟨by decide,by decide,by decide,by decide,by show 8<=m;omega,?_⟩;refine⟨[],_,_,_,_,yr (key:=sub key (8*0) 8) (k7 _ _ _) (by rw[j6];omega),rfl,rfl,?_⟩;refine⟨_,rfl,Zh _,by decide,by decide,?_⟩;refine⟨1,by omega,by omega,[.k 0,.d 48 0],⟨rfl,rfl,rfl,rfl,rfl,tq⟩,⟨_,rfl,?_⟩,⟨_,rfl,?_⟩,tq⟩
  ·rfl
  ·exact congrArg B.pl rfl
 refine b8 (fun h=> ?_) (fun h=> ?_)
 ·have a9:i+1<n:=(by omega);have e3:I6.wrap (8*((i+1:Nat):Int))=((8*(i+1):Nat):Int):=by rw[Za _ (by omega)];omega
  have e4:I6.wrap (8*I6.wrap (((i+1:Nat):Int)+1))=((8*(i+1)+8:Nat):Int):=by
   rw[Za (((i+1:Nat):Int)+1) (by omega),Za _ (by omega)];omega
  refine⟨by rw[e4];omega,by rw[e3];omega,by rw[e3,e4];omega,Zh _,by rw[e4];omega,?_⟩;refine⟨[],_,_,_,_,yr (key:=sub key (8*(i+1)) 8) (va:=sub (bv key) (8*(i+1)) 8) (k7 _ _ _) (by rw[j6];omega),?_,rfl,?_⟩
  ·rw[e3,e4];show[V.z (8*(i+1)+8-8*(i+1)) (sub (bv key) (8*(i+1)) (8*(i+1)+8-8*(i+1)))]=_;rw[Ji]
  refine⟨_,rfl,Zh _,by omega,by rw[bO,aj];omega,by show 0+0+1<=1;decide,?_⟩;refine⟨i+1+1,by omega,by omega,[.k 0,.d 48 0],⟨rfl,rfl,rfl,rfl,b9 (by simp(disch:=omega)only[Za];omega),tq⟩,⟨_,rfl,rfl⟩,⟨_,rfl,congrArg B.pl ?_⟩,tq⟩;rw[Ze,y8 (by rw[bO,aj]),zK key (i+1)];exact(Zv (f:=fun k=>V.zz 1 16 (kV k)) (l₁:=K7 key (i+1)) (l₂:=[C1 (sub key (8*(i+1)) 8) 16])).symm
 ·have hin:i+1=n:=(by omega);refine g8 (fun h=> ?_) (fun h=> ?_)
  ·obtain rfl:i=1:=(by omega);subst hin;have hl:=fJ (key:=key) hn;refine⟨_,rfl,_,rfl,by decide,by decide,_,rfl,Zh _,by decide,by rw[bO,aj];decide,by show 0+0+1<=1;decide,?_⟩;refine⟨_,rfl,[],?_,tq⟩;show V.t [V.q [V.zz 1 3 (sub (sub (E7 (K7 key 2)) 0 2++E7 [C1 (sub key 0 8) 16]) 0 3)] 0,i64 0]=V.t [V.q [V.zz 1 (E6 key 2).length (E7 (E6 key 2))] 0,i64 0];have e:sub (sub (E7 (K7 key 2)) 0 2++E7 [C1 (sub key 0 8) 16]) 0 3=E7 (E6 key 2):=by
    rw[y8 (l:=E7 (K7 key 2)) (by rw[bO,aj]),E6,if_pos rfl,y8 (by rw[Zb,bO,aj];rfl)];exact(Zv (f:=fun k=>V.zz 1 16 (kV k)) (l₁:=K7 key 2) (l₂:=[C1 (sub key 0 8) 16])).symm
   rw[hl,if_pos rfl];exact congrArg (fun z=>V.t [V.q [V.zz 1 3 z] 0,i64 0]) e
  ·have hl:=fJ (key:=key) hn;rw[if_neg (by omega)]at hl;refine⟨_,rfl,[],?_,tq⟩;show V.t [V.q [V.zz 1 (i+1) (sub (E7 (K7 key (i+1))) 0 ((i+1)*1))] 0,i64 0]=V.t [V.q [V.zz 1 (E6 key n).length (E7 (E6 key n))] 0,i64 0];rw[hl,hin];have e:sub (E7 (K7 key n)) 0 (n*1)=E7 (E6 key n):=by
    rw[E6,if_neg (by omega),y8 (by rw[bO,aj,Ze])]
   exact congrArg (fun z=>V.t [V.q [V.zz 1 n z] 0,i64 0]) e
theorem yI {va:List Value} {b:Bs} {l n:Nat} {x:Int} (hx:x=n) (ha:va=bv b) (hl:b.length=l) (hm:l<=1000000) (h1:1<=n) (h2:n<=8*l):a6 C 262 [.z l va,i64 x] [] (.ret (i64 ((tb b (n-1)).toNat:Nat))) []:=by
 subst ha;subst hx;have e0:I6.wrap ((n:Int)-1)=((n-1:Nat):Int):=by rw[Za _ (by omega)];omega
 have e1:I6.wrap ((I6.wrap ((n:Int)-1)).tdiv 8)=(((n-1)/8:Nat):Int):=by
  rw[e0,Zn (by omega),Za _ (by omega)];omega
 have e2:IntKind.u64.wrap (I6.wrap (7-(I6.wrap ((n:Int)-1)).tmod 8))=((7-(n-1)%8:Nat):Int):=by
  rw[e0,Zq (by omega),Za _ (by omega),C5];omega
 have e3:I6.wrap (8*(l:Int))=((8*l:Nat):Int):=by rw[Za _ (by omega)];omega
 refine Qq.c ?_;refine b8 (fun h=> ?_) (fun h=> ?_)
 ·omega
 refine b8 (fun h=> ?_) (fun h=> ?_)
 ·rw[e3]at h;omega
 refine⟨by decide,by rw[e1];omega,by rw[e1];omega,?_⟩;refine⟨_,by rw[e1,Zd];exact m7 (by omega),?_⟩;refine⟨by decide,by rw[e2];omega,?_⟩;refine⟨_,rfl,[],b9 ?_,tq⟩;rw[e2];exact xQ _ (UInt8.toNat_lt _) _ (by omega)
theorem WL:∀k,k<8->U8.wrap (1*2^(min ((k:Nat):Int).toNat U8.bits))=(((Zt (true.toNat*2^k)).toNat:Nat):Int):=by decide +kernel
theorem Wt {t:List Nat} {b:Bs} {i:Nat} (h:tb b (t.getD i 0-1)=false):N5 t b (i+1)=N5 t b i:=by
 unfold N5;congr 1;funext j;unfold dL;by_cases hj:j=i
 ·rw[hj,h];simp
 ·congr 1;exact decide_eq_decide.2 (by omega)
theorem Lc {va vt:List Value} {b:Bs} {t:List Nat} {l n:Nat} (ha:va=bv b) (hvt:vt=nv t) (hl:b.length=l) (ht:t.length=n) (hm:l<=1000000) (hn:n<=1000000) (h8:n%8=0) (hall:∀i,i<n->1<=t.getD i 0/\t.getD i 0<=8*l):a6 C 220 [.z l va,.z n vt] [] (.ret (.t [.o 1 (.k 0) 0 (n/8),bool true])) [.sc (bv (B3 t b))]:=by
 subst ha;subst hvt;subst ht;have e0:I6.wrap ((I6.wrap ((t.length:Int)+7)).tdiv 8)=((t.length/8:Nat):Int):=by
  rw[Za ((t.length:Int)+7) (by omega),Zn (by omega),Za _ (by omega)];omega
 have e8:I6.wrap (8*(l:Int))=((8*l:Nat):Int):=by rw[Za _ (by omega)];omega
 refine Qt.c ?_;refine⟨by decide,?_⟩;rw[e0];refine⟨by omega,by omega,by omega,?_⟩;refine j9 (fun i=>⟨[(0,.z l (bv b)),(1,.z t.length (nv t)),(6,.o 1 (.k 0) 0 (t.length/8)),(7,i64 i)],[.sc (bv (N5 t b i))]⟩) t.length ⟨[.d 12 0],⟨rfl,rfl,rfl,rfl,tq⟩,⟨_,rfl,d8 ?_⟩,tq⟩ fun i hi=> ?_
 ·show Zk ((t.length/8:Nat):Int).toNat (Value.int .u8 0)=_;rw[Zd,Cw,P3]
 refine b8 (fun h=> ?_) (fun h=> ?_)
 ·have a9:i<t.length:=(by omega);obtain⟨g1,g2⟩:=hall i a9;refine⟨by omega,by omega,?_⟩;refine⟨_,by rw[Zd];exact T8 a9,?_⟩;refine b8 (fun h=> ?_) (fun h=> ?_)
  ·omega
  refine⟨by omega,by omega,?_⟩;refine⟨_,by rw[Zd];exact T8 a9,?_⟩;refine b8 (fun h=> ?_) (fun h=> ?_)
  ·rw[e8]at h;omega
  have e2:I6.wrap ((i:Int).tdiv 8)=((i/8:Nat):Int):=by
   rw[Zn (by omega),Za _ (by omega)];omega
  have e3:IntKind.u64.wrap (I6.wrap (7-(i:Int).tmod 8))=((7-i%8:Nat):Int):=by
   rw[Zq (by omega),Za _ (by omega),C5];omega
  refine⟨by omega,by omega,?_⟩;refine⟨_,by rw[Zd];exact T8 a9,?_⟩;refine⟨[],_,_,_,_,yI (b:=b) rfl rfl hl hm g1 g2,rfl,rfl,?_⟩;refine g8 (fun h=> ?_) (fun h=> ?_)
  ·have htb:tb b (t.getD i 0-1)=true:=by
    cases he:tb b (t.getD i 0-1)
    ·rw[he]at h;exact absurd h (by decide)
    ·rfl
   refine⟨by decide,by decide,by rw[e2];omega,by rw[e2];omega,?_⟩;refine⟨_,by rw[e2,Zd,Ze,Zi];exact m7 (by rw[iV];omega),?_⟩;refine⟨by decide,by rw[e3];omega,by rw[e2];omega,by rw[e2];omega,by rw[e2,f7,iV];omega,?_⟩;refine⟨i+1,by omega,by omega,[.k 0],⟨rfl,rfl,rfl,b9 (by simp(disch:=omega)only[Za];omega),tq⟩,⟨_,rfl,d8 ?_⟩,tq⟩;have hs:=Cv (t:=t) (b:=b) (i:=i) a9 (by omega);rw[htb]at hs;rw[e2,e3,Zd,Ze,Zi,WL _ (by omega),ro,G0,hs]
  ·have htb:tb b (t.getD i 0-1)=false:=by
    cases he:tb b (t.getD i 0-1)
    ·rfl
    ·rw[he]at h;exact absurd rfl h
   refine⟨i+1,by omega,by omega,[.k 0],⟨rfl,rfl,rfl,b9 (by simp(disch:=omega)only[Za];omega),tq⟩,⟨_,rfl,d8 ?_⟩,tq⟩;rw[Wt htb]
 ·obtain rfl:i=t.length:=(by omega);refine⟨_,rfl,[.k 0],rfl,⟨_,rfl,d8 ?_⟩,tq⟩;rw[Cu]
theorem jG {va vt:List Value} {b:Bs} {t:List Nat} {l n:Nat} (ha:va=bv b) (hvt:vt=nv t) (hl:b.length=l) (ht:t.length=n) (hm:l<=1000000) (hn:n<=1000000) (h8:n%8=0) (hall:∀i,i<n->1<=t.getD i 0/\t.getD i 0<=8*l):a6 C 163 [.z l va,.z n vt] [] (.ret (.o 1 (.k 0) 0 (n/8))) [.sc (bv (B3 t b))]:=by
 refine Qr.c ?_;refine⟨[],_,_,_,_,Lc ha hvt hl ht hm hn h8 hall,rfl,rfl,?_⟩;exact⟨_,rfl,[.d 10 0],rfl,⟨_,rfl,rfl⟩,tq⟩
theorem La {vt:List Value} (hv:vt=nv u6):a6 C 253 [.z 64 vt] [] (.ret (.t [.o 1 (.k 0) 0 64,bool true])) [.sc (nv br)]:=by
 subst hv;refine Qs.c ?_;refine⟨by decide,by decide,by decide,?_⟩;refine j9 (fun i=>⟨[(0,.z 64 (nv u6)),(4,.o 1 (.k 0) 0 64),(5,i64 i)],[.sc (nv (X6 u6 i))]⟩) 64 ⟨[.d 8 0],⟨rfl,rfl,rfl,tq⟩,⟨_,rfl,d8 ?_⟩,tq⟩ fun i hi=> ?_
 ·show Zk 64 _=_;rw[BX,X6,L3];rfl
 refine b8 (fun h=> ?_) (fun h=> ?_)
 ·have a9:i<64:=(by omega);obtain⟨g1,g2,g3⟩:=Ba i a9;have get:(nv u6)[((i:Int)).toNat*1]? =some (Value.int .i64 ((u6.getD i 0:Nat):Int)):=by rw[Zd,Ze];exact T8 (by rw[L3];omega)
  have get':(nv u6)[((i:Int)).toNat]? =some (Value.int .i64 ((u6.getD i 0:Nat):Int)):=by rw[Zd];exact T8 (by rw[L3];omega)
  refine⟨by omega,by omega,_,get',?_⟩;refine b8 (fun h=> ?_) (fun h=> ?_)
  ·omega
  refine⟨by omega,by omega,_,get',?_⟩;refine b8 (fun h=> ?_) (fun h=> ?_)
  ·omega
  have e1:I6.wrap (((u6.getD i 0:Nat):Int)-1)=((u6.getD i 0-1:Nat):Int):=by rw[Za _ (by omega)];omega
  refine⟨by omega,by omega,_,get',?_⟩;refine⟨by rw[e1];omega,by rw[e1];omega,?_⟩;refine⟨_,by rw[e1,Zd,Ze,Zi];exact T8 (by rw[ni,L3];omega),?_⟩;refine l5 (fun h=> ?_) (fun h=> ?_)
  ·rw[g3]at h;exact absurd rfl h
  refine⟨by omega,by omega,_,get',?_⟩;refine⟨by rw[e1];omega,by rw[e1];omega,by rw[e1,G2,ni,L3];omega,?_⟩;have w1:I6.wrap ((i:Int)+1)=((i+1:Nat):Int):=by rw[Za _ (by omega)];omega
  refine⟨i+1,by omega,by omega,[.k 0],⟨rfl,rfl,b9 w1,tq⟩,⟨_,rfl,d8 ?_⟩,tq⟩;rw[e1,w1,Zd,Ze,Zi,BZ,uK]
 ·obtain rfl:i=64:=(by omega);exact⟨_,rfl,[.k 0],rfl,⟨_,rfl,rfl⟩,tq⟩
theorem a0E (l:List Nat) (k:Nat) (h:k<l.length):l.take (k+1)=l.take k++[l.getD k 0]:=by
 rw[List.take_add_one,Zp h,Zc,Zp h];rfl
def pN (i:Nat):Nat:=if 4<=i then 57+2*(i-4)else 58+2*i
theorem Uf:∀i,i<8->∀c,c<8->I6.wrap (((pN i:Nat):Int)-I6.wrap (8*((c:Nat):Int)))=((u6.getD (8*i+c) 0:Nat):Int):=by decide +kernel
theorem Ud:∀i,i<8->4<=i->I6.wrap (57+I6.wrap (2*I6.wrap (((i:Nat):Int)-4)))=((pN i:Nat):Int):=by decide +kernel
theorem Ue:∀i,i<8->¬4<=i->I6.wrap (58+I6.wrap (2*((i:Nat):Int)))=((pN i:Nat):Int):=by decide +kernel
theorem yL:a6 C 251 [] [] (.ret (.o 1 (.k 0) 0 64)) [.sc (nv u6)]:=by
 refine Rf.c ?_;refine A8 (fun i=>⟨[(1,.o 1 (.k 0) 0 (8*i)),(2,i64 i)],[.sc (nv (u6.take (8*i)))]⟩) 8 [(1,1,.sc [])] ⟨[.d 900000 0],⟨rfl,rfl,tq⟩,⟨_,rfl,rfl⟩,tq⟩ fun i hi=> ?_;refine b8 (fun h=> ?_) (fun h=> ?_)
 ·have a9:i<8:=(by omega);refine b8 (fun h4=> ?_) (fun h4=> ?_);all_goals
   refine j9 (fun c=>⟨[(1,.o 1 (.k 0) 0 (8*i+c)),(2,i64 i),(3,i64 (pN i:Nat)),(4,i64 c)],[.sc (nv (u6.take (8*i+c)))]⟩) 8 ⟨[.k 0],⟨rfl,rfl,?_,rfl,tq⟩,⟨_,rfl,rfl⟩,tq⟩ fun c hc=> ?_
   ·first
     |exact b9 (Ud i a9 (by omega))
     |exact b9 (Ue i a9 (by omega))
   refine b8 (fun h=> ?_) (fun h=> ?_)
   ·have hc8:c<8:=(by omega);have hl:8*i+c<u6.length:=by rw[L3];omega
    refine⟨Zh _,by omega,by rw[G2,Zg];omega,?_⟩;refine⟨c+1,by omega,by omega,[.d 28 0],⟨rfl,rfl,rfl,b9 (by simp(disch:=omega)only[Za];omega),tq⟩,⟨_,rfl,d8 ?_⟩,tq⟩;rw[Uf i a9 c hc8,Ze];show sub (nv (u6.take (8*i+c))) 0 (8*i+c)++[Value.int .i64 ((u6.getD (8*i+c) 0:Nat):Int)]=_;rw[iS (by rw[Zg];omega),<-a0E _ _ hl];rfl
   ·obtain rfl:c=8:=(by omega);refine⟨i+1,by omega,by omega,[.k 0],⟨rfl,b9 (by simp(disch:=omega)only[Za];omega),tq⟩,⟨_,rfl,rfl⟩,tq⟩
 ·obtain rfl:i=8:=(by omega);refine⟨_,rfl,[.k 0],rfl,⟨_,rfl,d8 ?_⟩,tq⟩;rw[Jc (by rw[L3];decide)]
theorem Lo:a6 C 268 [] [] (.ret (.o 1 (.k 0) 0 48)) [.sc (nv (M6 48))]:=by
 refine Rj.c ?_;refine A8 (fun i=>⟨[(1,.o 1 (.k 0) 0 i),(2,i64 i)],[.sc (nv (M6 i))]⟩) 48 [(1,1,.sc [])] ⟨[.d 900000 0],⟨rfl,rfl,tq⟩,⟨_,rfl,rfl⟩,tq⟩ fun i hi=> ?_;refine b8 (fun h=> ?_) (fun h=> ?_)
 ·have a9:i<48:=(by omega);refine⟨by decide,by decide,by decide,?_⟩;refine⟨Zh _,by omega,by rw[G2,dT];omega,?_⟩;refine⟨i+1,by omega,by omega,[.d 18 0],⟨rfl,b9 (by simp(disch:=omega)only[Za];omega),tq⟩,⟨_,rfl,d8 ?_⟩,tq⟩;rw[Fv i a9,Ze];show sub (nv (M6 i)) 0 i++[Value.int .i64 (((4*(i/6)+i%6+31)%32+1:Nat):Int)]=_;rw[iS (dT _),Fu]
 ·obtain rfl:i=48:=(by omega);exact⟨_,rfl,[.k 0],rfl,⟨_,rfl,rfl⟩,tq⟩
theorem Ll:a6 C 271 [] [] (.ret (.o 1 (.k 0) 0 32)) [.sc (nv jb)]:=
 Rh.c ⟨_,rfl,[.d 1 0],rfl,⟨_,rfl,rfl⟩,tq⟩
theorem Lk:a6 C 164 [] [] (.ret (.o 1 (.k 0) 0 48)) [.sc (nv Y9)]:=
 Rg.c ⟨_,rfl,[.d 1 0],rfl,⟨_,rfl,rfl⟩,tq⟩
theorem Bd {l:List Int} {n:Nat} {x:Int} (h:l.length=n):sub (iv l) 0 n++[Value.int .i64 x]=iv (l++[x]):=by
 rw[T4 h];simp[iv]
theorem Lj:a6 C 162 [] [] (.ret (.o 1 (.k 0) 0 56)) [.sc (nv ca)]:=by
 have b1:∀k,k<=28-> -100<=w5 57 8 57 k/\w5 57 8 57 k<=100:=by decide +kernel
 have b2:∀k,k<=24-> -100<=w5 63 8 55 k/\w5 63 8 55 k<=100:=by decide +kernel
 refine Rd.c ?_;refine A8 (fun i=>⟨[(1,.o 1 (.k 0) 0 i),(2,i64 (w5 57 8 57 i))],[.sc (iv (B2 57 8 57 i))]⟩) 28 [(1,1,.sc [])] ⟨[.d 900000 0],⟨rfl,rfl,tq⟩,⟨_,rfl,rfl⟩,tq⟩ fun i hi=> ?_;have q1:=b1 i hi;have w1:I6.wrap (w5 57 8 57 i-8)=w5 57 8 57 i-8:=Za _ (by omega);refine b8 (fun h=> ?_) (fun h=> ?_)
 ·have a9:i<28:=(by omega);refine⟨Zh _,by omega,by rw[G9,dx];omega,?_⟩;have hz:(sub (iv (B2 57 8 57 i)) 0 (i*1)++sub [Value.int .i64 (w5 57 8 57 i)] 0 (1*1))=iv (B2 57 8 57 (i+1)):=by
   rw[Ze,pt];exact Bd (dx _ _ _ _)
  refine b8 (fun h1=> ?_) (fun h1=> ?_)
  ·rw[w1]at h1;refine⟨i+1,by omega,by omega,[.d 9 0],⟨rfl,b9 ?_,tq⟩,⟨_,rfl,d8 hz⟩,tq⟩;rw[w1,Za _ (by omega),w5,if_pos h1];rfl
  ·rw[w1]at h1;refine⟨i+1,by omega,by omega,[.d 9 0],⟨rfl,b9 ?_,tq⟩,⟨_,rfl,d8 hz⟩,tq⟩;rw[w1,w5,if_neg h1]
 ·obtain rfl:i=28:=(by omega);refine j9 (fun j=>⟨[(1,.o 1 (.k 0) 0 (28+j)),(2,i64 (w5 63 8 55 j))],[.sc (iv (B2 57 8 57 28++B2 63 8 55 j))]⟩) 24 ⟨[.k 0],⟨rfl,rfl,tq⟩,⟨_,rfl,rfl⟩,tq⟩ fun j hj=> ?_;have q2:=b2 j hj;have w2:I6.wrap (w5 63 8 55 j-8)=w5 63 8 55 j-8:=Za _ (by omega);have hl:(B2 57 8 57 28++B2 63 8 55 j).length=28+j:=by rw[Zb,dx,dx]
  refine b8 (fun h=> ?_) (fun h=> ?_)
  ·have a9:j<24:=(by omega);refine⟨Zh _,by omega,by rw[G9,hl];omega,?_⟩;have hz:(sub (iv (B2 57 8 57 28++B2 63 8 55 j)) 0 ((28+j)*1)++sub [Value.int .i64 (w5 63 8 55 j)] 0 (1*1))=iv (B2 57 8 57 28++B2 63 8 55 (j+1)):=by
    rw[Ze,pt 63,<-List.append_assoc];exact Bd hl
   refine b8 (fun h1=> ?_) (fun h1=> ?_)
   ·rw[w2]at h1;refine⟨j+1,by omega,by omega,[.d 22 0],⟨rfl,b9 ?_,tq⟩,⟨_,rfl,d8 hz⟩,tq⟩;rw[w2,Za _ (by omega),w5,if_pos h1];rfl
   ·rw[w2]at h1;refine⟨j+1,by omega,by omega,[.d 22 0],⟨rfl,b9 ?_,tq⟩,⟨_,rfl,d8 hz⟩,tq⟩;rw[w2,w5,if_neg h1]
  ·obtain rfl:j=24:=(by omega);refine⟨by decide,by decide,by rw[G9,hl];decide,?_⟩;refine⟨_,rfl,[.d 31 0],rfl,⟨_,rfl,d8 ?_⟩,tq⟩;rw[<-Dy];show sub (iv (B2 57 8 57 28++B2 63 8 55 24)) 0 52++iv [28,20,12,4]=iv G6;rw[T4 hl,nj];rfl
theorem Ln {s:Nat} (hs:s<8):a6 C 270 [i64 s] [] (.ret (.o 1 (.k 0) 0 4)) [.sc [M3 (N4 s 0),M3 (N4 s 1),M3 (N4 s 2),M3 (N4 s 3)]]:=by
 rcases s with _|_|_|_|_|_|_|_|s
 ·exact fW.c ⟨_,rfl,[.d 6 0],rfl,⟨_,rfl,rfl⟩,tq⟩
 ·exact fW.c ⟨_,rfl,[.d 9 0],rfl,⟨_,rfl,rfl⟩,tq⟩
 ·exact fW.c ⟨_,rfl,[.d 12 0],rfl,⟨_,rfl,rfl⟩,tq⟩
 ·exact fW.c ⟨_,rfl,[.d 15 0],rfl,⟨_,rfl,rfl⟩,tq⟩
 ·exact fW.c ⟨_,rfl,[.d 18 0],rfl,⟨_,rfl,rfl⟩,tq⟩
 ·exact fW.c ⟨_,rfl,[.d 21 0],rfl,⟨_,rfl,rfl⟩,tq⟩
 ·exact fW.c ⟨_,rfl,[.d 24 0],rfl,⟨_,rfl,rfl⟩,tq⟩
 ·exact fW.c ⟨_,rfl,[.d 25 0],rfl,⟨_,rfl,rfl⟩,tq⟩
 ·omega
theorem a0a {s r:Nat} (hr:r<4):([M3 (N4 s 0),M3 (N4 s 1),M3 (N4 s 2),M3 (N4 s 3)]:List Value)[r]? =some (M3 (N4 s r)):=by
 rcases r with _|_|_|_|r;all_goals first|rfl|omega
def dv (x:Bs) (s:Nat):Nat->Nat
 |0=>0
 |k+1=>2*dv x s k+(tb x (6*s+k)).toNat
theorem tW (x s):∀k,dv x s k<2^k
 |0=>by show 0<1;omega
 |k+1=>by
  have:=az (tb x (6*s+k));have:=tW x s k;unfold dv;rw[Nat.pow_succ];omega
theorem Od (x s):dv x s 6/32*2+dv x s 6%2=eI x s/\dv x s 6/2%16=cC x s 4:=by
 have h0:=az (tb x (6*s+0));have h1:=az (tb x (6*s+1));have h2:=az (tb x (6*s+1+1));have h3:=az (tb x (6*s+1+2));have h4:=az (tb x (6*s+1+3));have h5:=az (tb x (6*s+5));have e6:dv x s 6=2*(2*(2*(2*(2*(2*0+(tb x (6*s+0)).toNat)+(tb x (6*s+1)).toNat)+(tb x (6*s+1+1)).toNat)+(tb x (6*s+1+2)).toNat)+(tb x (6*s+1+3)).toNat)+(tb x (6*s+5)).toNat:=rfl;have e4:cC x s 4=2*(2*(2*(2*0+(tb x (6*s+1+0)).toNat)+(tb x (6*s+1+1)).toNat)+(tb x (6*s+1+2)).toNat)+(tb x (6*s+1+3)).toNat:=rfl;have er:eI x s=2*(tb x (6*s)).toNat+(tb x (6*s+5)).toNat:=rfl;rw[Nat.add_zero]at h0 e4 e6;omega
theorem WK:∀d,d<16->∀j,j<=1->U8.wrap (I6.wrap (((d:Nat):Int)*2^(min ((4*j:Nat):Int).toNat I6.bits)))=(((Zt (d*16^j)).toNat:Nat):Int):=by decide +kernel
theorem a0g:∀v,v<64->I6.wrap (I6.wrap (I6.wrap (((v:Nat):Int).tdiv 32)*2)+((v:Nat):Int).tmod 2)=((v/32*2+v%2:Nat):Int)/\(I6.wrap (((v:Nat):Int).tdiv 2)).tmod 16=((v/2%16:Nat):Int):=by decide +kernel
theorem Lg {va vk:List Value} {r k:Bs} (ha:va=bv r) (hk:vk=bv k) (hr:r.length=4) (hkl:k.length=6):a6 C 252 [.z 4 va,.z 6 vk] [] (.ret (.t [.o 1 (.k 0) 0 4,bool true])) [.sc (bv (dF r k))]:=by
 have hp:(B3 (M6 48) r).length=6:=by rw[dK,dT]
 have hx:(i7 (B3 (M6 48) r) k).length=6:=w7 hp hkl;generalize hxe:i7 (B3 (M6 48) r) k=x at hx;refine Ra.c ?_;refine⟨[],_,_,_,_,Lo,rfl,rfl,?_⟩;refine⟨[],_,_,_,_,jG (b:=r) (t:=M6 48) (n:=48) ha (D4 (dT _)) hr (dT _) (by decide) (by decide) (by decide) (by decide +kernel),rfl,rfl,?_⟩;refine⟨[],_,_,_,_,D8 (a:=B3 (M6 48) r) (b:=k) (d7 hp) hk hp hkl (by decide),rfl,rfl,?_⟩;rw[hxe];refine⟨by decide,by decide,by decide,?_⟩;refine j9 (fun i=>⟨[(6,.z 6 (bv x)),(7,.o 1 (.k 0) 0 4),(8,i64 i)],[.sc (bv (I0 x i))]⟩) 8 ⟨[.d 25 0],⟨?_,rfl,rfl,tq⟩,⟨_,rfl,d8 ?_⟩,tq⟩ fun i hi=> ?_
 ·show V.z 6 (sub (bv x) 0 6)=_;rw[d7 hx]
 ·rfl
 refine b8 (fun h=> ?_) (fun h=> ?_)
 ·have a9:i<8:=(by omega);refine j9 (fun k=>⟨[(6,.z 6 (bv x)),(7,.o 1 (.k 0) 0 4),(8,i64 i),(9,i64 (dv x i k:Nat)),(10,i64 (k+1:Nat))],[.sc (bv (I0 x i))]⟩) 6 ⟨[.k 0],⟨rfl,rfl,rfl,rfl,rfl,tq⟩,⟨_,rfl,rfl⟩,tq⟩ fun k hk=> ?_;refine b8 (fun h=> ?_) (fun h=> ?_)
  ·have hk6:k<6:=(by omega);have p3:I6.wrap (I6.wrap (6*(i:Int))+((k+1:Nat):Int))=((6*i+k+1:Nat):Int):=by
    rw[Za (6*(i:Int)) (by omega),Za _ (by omega)];omega
   refine⟨[],_,_,_,_,yI (n:=6*i+k+1) (b:=x) p3 rfl hx (by decide) (by omega) (by omega),rfl,rfl,?_⟩;have hb:=az (tb x (6*i+k+1-1));have hc:=tW x i k;have hc2:2^k<=2^5:=Z4 (by decide) (by omega);refine⟨k+1,by omega,by omega,[.k 0],⟨rfl,rfl,rfl,b9 ?_,b9 (by simp(disch:=omega)only[Za];omega),tq⟩,⟨_,rfl,rfl⟩,tq⟩;rw[Za (2*((dv x i k:Nat):Int)) (by omega),Za _ (by omega)];show _=((2*dv x i k+(tb x (6*i+k+1-1)).toNat:Nat):Int);omega
  ·obtain rfl:k=6:=(by omega);obtain⟨v1,v2⟩:=a0g _ (tW x i 6);obtain⟨r1,r2⟩:=Od x i;rw[r1]at v1;rw[r2]at v2;have e2:I6.wrap ((i:Int).tdiv 2)=((i/2:Nat):Int):=by
    rw[Zn (by omega),Za _ (by omega)];omega
   have e3:IntKind.u64.wrap (I6.wrap (4-I6.wrap (4*(i:Int).tmod 2)))=((4*(1-i%2):Nat):Int):=by
    rw[Zq (by omega),Za (4*((i:Int)%2)) (by omega),Za _ (by omega),C5];omega
   have hcl:=mJ x i 4;obtain⟨o1,o2⟩:=tV i a9 _ (jV x i);refine⟨[],_,_,_,_,Ln a9,rfl,rfl,?_⟩;refine⟨by decide,by decide,by rw[v1];omega,by rw[v1];have:=jV x i;omega,?_⟩;refine⟨_,by rw[v1,Zd,Ze,Zi];exact a0a (jV x i),?_⟩;refine⟨by decide,by decide,?_⟩;refine⟨[],_,_,_,_,oF (l:=N4 i (eI x i)) (j:=cC x i 4) rfl v2 (by rw[o1];exact hcl) (o2 _ hcl),rfl,rfl,?_⟩;refine⟨by decide,by decide,by rw[e2];omega,by rw[e2];omega,?_⟩;refine⟨_,by rw[e2,Zd,Ze,Zi];exact m7 (by rw[jU];omega),?_⟩;refine⟨by decide,by rw[e3];omega,by rw[e2];omega,by rw[e2];omega,by rw[e2,f7,jU];omega,?_⟩;refine⟨i+1,by omega,by omega,[.k 0],⟨rfl,rfl,b9 (by simp(disch:=omega)only[Za];omega),tq⟩,⟨_,rfl,d8 ?_⟩,tq⟩;rw[e2,e3,Zd,Ze,Zi];show(bv (I0 x i)).set (i/2) (.int .u8 (U8.wrap ((Jm U8.bits (((I0 x i).getD (i/2) 0).toNat:Int)|||Jm U8.bits (U8.wrap (I6.wrap (((dS x i:Nat):Int)*2^(min ((4*(1-i%2):Nat):Int).toNat I6.bits))))).toNat:Int)))=bv (I0 x (i+1));rw[WK _ (pk a9) _ (by omega),ro,G0,zM a9]
 ·obtain rfl:i=8:=(by omega);refine⟨[],_,_,_,_,Ll,rfl,rfl,?_⟩;have hm:jb.length=32:=rfl;have h8:=jU x 8;refine⟨[],_,_,_,_,jG (b:=I0 x 8) (t:=jb) (n:=32) (d7 h8) (D4 hm) h8 hm (by decide) (by decide) (by decide) (by decide +kernel),rfl,rfl,?_⟩;refine⟨_,rfl,[.d 77 0],rfl,⟨_,rfl,d8 ?_⟩,tq⟩;rw[dF,hxe]
theorem Wj {n:Nat} {f g:Nat->Bool} (h:∀j,j<8*n->f j=g j):Y3 n f=Y3 n g:=by
 apply nQ (by rw[fe,fe]);intro j hj;rw[fe]at hj;rw[fw hj,fw hj,h j hj]
theorem vB {t u:List Nat} {b:Bs} (h8:t.length%8=0) (hu:∀j,j<u.length->1<=u.getD j 0/\u.getD j 0<=t.length):B3 u (B3 t b)=B3 (u.map fun k=>t.getD (k-1) 0) b:=by
 unfold B3;rw[Jn];apply Wj;intro j hj;have hj':j<u.length:=by omega
 obtain⟨h1,h2⟩:=hu j hj';rw[fw (by omega)];congr 2;simp[Zc,hj']
def X4:Nat->Nat
 |0=>0
 |i+1=>X4 i+jC i
def je (i n:Nat):List Nat:=(List.range n).map fun j=>ca.getD (28*(j/28)+(j%28+X4 (i+1))%28) 0
theorem a1V (i n):je i (n+1)=je i n++[ca.getD (28*(n/28)+(n%28+X4 (i+1))%28) 0]:=by simp[je,Zo]
theorem Fl (i n):(je i n).length=n:=by simp[je]
theorem a1W:∀i,i<16->je i 56=K8 (i+1):=by decide +kernel
theorem xX:∀i,i<17->X4 i<=28:=by decide +kernel
theorem Oe:∀i,i<17->∀j,j<56->1<=(K8 i).getD j 0/\(K8 i).getD j 0<=8*8:=by decide +kernel
theorem NT {key:Bs} {i:Nat} (hi:i<16):B3 Y9 (B3 (K8 (i+1)) key)=X5 key i:=by
 have hl:=jW (i+1) (by omega);rw[vB (by rw[hl]) (by rw[rh,hl];exact wg),X5];congr 1
theorem yM {va:List Value} {key:Bs} (ha:va=bv key) (hk:key.length=8):a6 C 109 [.z 8 va] [] (.ret (.t [.zz 1 16 (kV (C1 key 16)),i64 0])) []:=by
 subst ha;have hl0:ca.length=56:=by decide +kernel
 refine Rb.c ?_;refine⟨[],_,_,_,_,Lj,rfl,rfl,?_⟩;refine A8 (fun i=>⟨[(0,.z 8 (bv key)),(4,.z 56 (nv ca)),(5,i64 (X4 i:Nat)),(6,.o 1 (.k 0) 0 i),(7,i64 (i+1:Nat))],[.mx (kV (C1 key i))]⟩) 16 [(6,1,.mx [])] ⟨[.d 900000 0],⟨rfl,?_,rfl,rfl,rfl,tq⟩,⟨_,rfl,rfl⟩,tq⟩ fun i hi=> ?_
 ·show V.z 56 (sub (nv ca) 0 56)=_;rw[D4 hl0]
 refine b8 (fun h=> ?_) (fun h=> ?_)
 ·have a9:i<16:=(by omega);have hb:=xX i (by omega);have hb1:=xX (i+1) (by omega);have one:∀k:Nat,(((i+1:Nat):Int)=(k:Int))->i+1=k:=fun k h=>by omega
  refine g8 (fun h1=> ?_) (fun h1=>g8 (fun h2=> ?_) (fun h2=>g8 (fun h3=> ?_) (fun h3=>g8 (fun h4=> ?_) (fun h4=> ?_))));all_goals
   first
    |have hs:X4 (i+1)=X4 i+1:=by rw[X4,jC,if_pos (by omega)]
    |have hs:X4 (i+1)=X4 i+2:=by rw[X4,jC,if_neg (by omega)]
   refine A8 (fun j=>⟨[(0,.z 8 (bv key)),(4,.z 56 (nv ca)),(5,i64 (X4 (i+1):Nat)),(6,.o 1 (.k 0) 0 i),(7,i64 (i+1:Nat)),(8,.o 1 (.k 1) 0 j),(9,i64 j)],[.mx (kV (C1 key i)),.sc (nv (je i j))]⟩) 56 [(8,1,.sc [])] ⟨[.k 0,.d 900000 0],⟨rfl,rfl,b9 ?_,rfl,rfl,rfl,rfl,tq⟩,⟨_,rfl,?_⟩,⟨_,rfl,rfl⟩,tq⟩ fun j hj=> ?_
   ·first
     |(rw [Za (((X4 i:Nat):Int)+2) (by omega),Za _ (by omega)];omega)
     |(rw [Za _ (by omega)];omega)
   ·show B.mx ((kV _).map _)=_;rw[kp]
   refine b8 (fun h=> ?_) (fun h=> ?_)
   ·have hj':j<56:=(by omega);have e0:I6.wrap (I6.wrap ((j:Int).tdiv 28)*28)=((28*(j/28):Nat):Int):=by
     rw[Zn (by omega),Za ((j:Int)/28) (by omega),Za _ (by omega)];omega
    have e1:I6.wrap (I6.wrap (I6.wrap ((j:Int).tdiv 28)*28)+(I6.wrap (I6.wrap ((j:Int)-I6.wrap (I6.wrap ((j:Int).tdiv 28)*28))+((X4 (i+1):Nat):Int))).tmod 28)=((28*(j/28)+(j%28+X4 (i+1))%28:Nat):Int):=by
     rw[e0,Za ((j:Int)-((28*(j/28):Nat):Int)) (by omega),Za (((j:Int)-((28*(j/28):Nat):Int))+_) (by omega),Zq (by omega),Za _ (by omega)];omega
    refine⟨by decide,by decide,by rw[e1];omega,by rw[e1];omega,?_⟩;refine⟨_,by rw[e1,Zd];exact T8 (by rw[hl0];omega),?_⟩;refine⟨Zh _,by omega,by rw[G2,Fl];omega,?_⟩;refine⟨j+1,by omega,by omega,[.k 0,.d 57 0],⟨rfl,rfl,rfl,rfl,rfl,rfl,b9 (by simp(disch:=omega)only[Za];omega),tq⟩,⟨_,rfl,?_⟩,⟨_,rfl,d8 ?_⟩,tq⟩
    ·show B.mx ((kV _).map _)=_;rw[kp]
    ·rw[a1V,Ze];exact iS (Fl _ _)
   ·obtain rfl:j=56:=(by omega);refine⟨[],_,_,_,_,jG (b:=key) (t:=K8 (i+1)) (n:=56) rfl (by rw[a1W i a9];exact D4 (jW _ (by omega))) hk (jW _ (by omega)) (by decide) (by decide) (by decide) (Oe _ (by omega)),rfl,rfl,?_⟩;refine⟨[],_,_,_,_,Lk,rfl,rfl,?_⟩;have h7:(B3 (K8 (i+1)) key).length=7:=by rw[dK,jW _ (by omega)]
    refine⟨[],_,_,_,_,jG (b:=B3 (K8 (i+1)) key) (t:=Y9) (n:=48) (d7 h7) (D4 rh) h7 rh (by decide) (by decide) (by decide) wg,rfl,rfl,?_⟩;rw[NT a9];have hz:V.z 6 (sub (bv (X5 key i)) 0 6)= .z 6 (bv (X5 key i)):=by rw[d7 (tT _ _)]
    refine⟨by decide,by omega,by rw[bN,fM];omega,?_⟩;refine⟨i+1,by omega,by omega,[.d 65 0],⟨rfl,rfl,rfl,rfl,b9 (by simp(disch:=omega)only[Za];omega),tq⟩,⟨_,rfl,?_⟩,tq⟩;show B.mx (Ju (l7 _ _ 6) (sub (kV (C1 key i)) 0 (i*1)++[V.o 1 _ _ _]))= .mx (kV (C1 key (i+1)));rw[Ze,y8 (by rw[bN,fM]),Zv,kp,zL key i,show kV (C1 key i++[X5 key i])=kV (C1 key i)++[V.z 6 (bv (X5 key i))] from Zv];exact congrArg (fun z=>B.mx (kV (C1 key i)++[z])) hz
 ·obtain rfl:i=16:=(by omega);refine⟨_,rfl,[],?_,tq⟩;exact congrArg (fun z=>V.t [V.zz 1 16 z,i64 0]) ((congrArg (Ju _) (y8 (by rw[bN,fM]))).trans (Bj _ _ _ 2))
theorem Db {ks:List (Bs)} {i:Nat} (hi:i<ks.length):ks.reverse.getD i []=ks.getD (ks.length-1-i) []:=by
 rw[Zc,Jp hi,Zc]
theorem oS {va:List Value} {xs:List V} {b:Bs} {ks:List (Bs)} {back:Bool} (ha:va=bv b) (hx:xs=kV ks) (hb:b.length=8) (hn:ks.length=16) (hk:gE ks):
  a6 C 209 [.zz 1 16 xs,.z 8 va,bool back] [] (.ret (.o 1 (.k 0) 0 8)) [.sc (bv (C8 (if back then ks.reverse else ks) b))]:=by
 subst ha;subst hx;generalize hq:(if back then ks.reverse else ks)=q;have hqn:q.length=16:=by subst hq;split<;>simp[hn]
 have hqk:gE q:=by subst hq;split;exact qx hk;exact hk
 have hl:=ph (ks:=q) (mK b).1 (mK b).2;refine Ri.c ?_;refine⟨[],_,_,_,_,yL,rfl,rfl,?_⟩;refine⟨[],_,_,_,_,jG (b:=b) (t:=u6) (n:=64) rfl (D4 L3) hb L3 (by decide) (by decide) (by decide) wj,rfl,rfl,?_⟩;refine⟨by decide,by decide,by decide,by decide,?_⟩;refine⟨by decide,by decide,by decide,by decide,?_⟩;refine j9 (fun i=>⟨[(0,.zz 1 16 (kV ks)),(2,bool back),(8,.z 4 (bv (dN q (v9 b) i).1)),(9,.z 4 (bv (dN q (v9 b) i).2)),(10,i64 i)],[]⟩) 16 ⟨[],⟨rfl,rfl,?_,?_,rfl,tq⟩,tq⟩ fun i hi=> ?_
 ·exact congrArg (V.z 4) (k7 _ _ _)
 ·exact congrArg (V.z 4) (k7 _ _ _)
 refine b8 (fun h=> ?_) (fun h=> ?_)
 ·have a9:i<16:=(by omega);have w15:I6.wrap (15-(i:Int))=((15-i:Nat):Int):=by rw[Za _ (by omega)];omega
  have get:(kV ks)[(((if back then 15-i else i:Nat):Int)).toNat*1]? =some (.z 6 (bv (q.getD i []))):=by
   rw[Zd,Ze];have:(if back then 15-i else i)<ks.length:=by split<;>omega
   rw[pX (getD_some (d:=[]) this)];subst hq;cases back
   ·rfl
   ·rw[if_pos rfl,if_pos rfl,Db (by omega),hn]
  have fin:bv (i7 (dN q (v9 b) i).1 (dF (dN q (v9 b) i).2 (q.getD i [])))=bv (dN q (v9 b) (i+1)).2:=by rw[mL];rfl
  have fin1:(dN q (v9 b) i).2=(dN q (v9 b) (i+1)).1:=by rw[mL];rfl
  cases back;all_goals
   first
    |refine⟨by omega,by omega,_,get,?_⟩
    |(refine ⟨by rw[w15];omega,by rw[w15];omega,_,by rw[w15];exact get,?_⟩)
   refine⟨[],_,_,_,_,Lg (r:=(dN q (v9 b) i).2) (k:=q.getD i []) rfl rfl (hl i).2 (hqk i (by omega)),rfl,rfl,?_⟩;refine⟨[],_,_,_,_,D8 (a:=(dN q (v9 b) i).1) (b:=dF (dN q (v9 b) i).2 (q.getD i [])) rfl (d7 (eE _ _)) (hl i).1 (eE _ _) (by decide),rfl,rfl,?_⟩;refine⟨i+1,by omega,by omega,[],⟨rfl,rfl,congrArg (fun z=>V.z 4 (bv z)) fin1,?_,b9 (by simp(disch:=omega)only[Za];omega),tq⟩,tq⟩;show V.z 4 (sub (bv _) 0 4)=_;rw[d7 (w7 (hl i).1 (eE _ _)),fin]
 ·obtain rfl:i=16:=(by omega);refine⟨[],_,_,_,_,yL,rfl,rfl,?_⟩;refine⟨[],_,_,_,_,La (D4 L3),rfl,rfl,?_⟩;refine⟨by rw[f7,(hl 16).2],by decide,by decide,?_⟩;refine⟨by rw[f7,(hl 16).1],by decide,by rw[Zb,f7,(hl 16).2];decide,?_⟩;have h8:((dN q (v9 b) 16).2++(dN q (v9 b) 16).1).length=8:=by rw[Zb,(hl 16).1,(hl 16).2]
  refine⟨[],_,_,_,_,jG (b:=(dN q (v9 b) 16).2++(dN q (v9 b) 16).1) (t:=br) (l:=8) (n:=64) ?_ (D4 gS) h8 gS (by decide) (by decide) (by decide) wi,rfl,rfl,?_⟩
  ·show sub (sub ([]++bv (dN q (v9 b) 16).2) 0 4++bv (dN q (v9 b) 16).1) 0 8=_;rw[Zl,d7 (hl 16).2,v7,d7 h8]
  refine⟨_,rfl,[.d 55 0],rfl,⟨_,rfl,d8 ?_⟩,tq⟩;rw[C8,hqn]
def dE (ks:List (List (Bs))) (back:Bool) (b:Bs) (i:Nat):D:=match i with
 |0=>⟨[(0,cD ks),(1,.z 8 (bv b)),(2,bool back),(8,i64 0)],[]⟩
 |i+1=>⟨[(0,cD ks),(1,.o 1 (.k 0) 0 8),(2,bool back),(8,i64 (i+1:Nat))],[.sc (bv (I5 ks back b (i+1)))]⟩
theorem Li {va:List Value} {b:Bs} {ks:List (List (Bs))} {back:Bool} (ha:va=bv b) (hb:b.length=8) (hk:vq ks) (h0:0<ks.length):
  a6 C 153 [cD ks,.z 8 va,bool back] [] (y6 8) [.sc (bv (I5 ks back b ks.length))]:=by
 subst ha;have n7:=tO (ks:=ks) (back:=back) hb;obtain⟨h3,hk⟩:=hk;refine Al.c ?_;refine j9 (dE ks back b) ks.length ⟨[],⟨rfl,rfl,rfl,rfl,tq⟩,tq⟩ fun i hi=> ?_;have e1:I6.wrap (I6.wrap ((ks.length:Int)-1)-(i:Int))=((ks.length-1-i:Nat):Int)\/ks.length<=i:=by
  by_cases h:i<ks.length
  ·left;rw[Za ((ks.length:Int)-1) (by omega),Za _ (by omega)];omega
  ·right;omega
 rcases i with _|i
 ·refine⟨_,rfl,?_⟩;refine b8 (fun h=> ?_) (fun h=>absurd h (by omega));have e1:I6.wrap (I6.wrap ((ks.length:Int)-1)-0)=((ks.length-1-0:Nat):Int):=e1.resolve_right (by omega);cases back
  ·obtain⟨k1,k2⟩:=hk 0 h0;refine⟨_,rfl,by omega,by omega,_,gg (getD_some (d:=[]) h0),?_⟩;refine⟨[],_,_,_,_,oS (b:=b) (ks:=ks.getD 0 []) rfl rfl hb k1 k2,rfl,rfl,?_⟩;refine⟨1,by omega,by omega,[.d 44 0],⟨rfl,rfl,rfl,rfl,tq⟩,⟨_,rfl,d8 ?_⟩,tq⟩;rfl
  ·obtain⟨k1,k2⟩:=hk (ks.length-1-0) (by omega);refine⟨_,rfl,_,rfl,by rw[e1];omega,by rw[e1];omega,_,by rw[e1,Zd,Ze];exact gg (getD_some (d:=[]) (by omega)),?_⟩;refine⟨[],_,_,_,_,oS (b:=b) (ks:=ks.getD (ks.length-1-0) []) rfl rfl hb k1 k2,rfl,rfl,?_⟩;refine⟨1,by omega,by omega,[.d 44 0],⟨rfl,rfl,rfl,rfl,tq⟩,⟨_,rfl,d8 ?_⟩,tq⟩;rfl
 refine⟨_,rfl,?_⟩;refine b8 (fun h=> ?_) (fun h=> ?_)
 ·have a9:i+1<ks.length:=(by omega);have e1:=e1.resolve_right (by omega);have w1:I6.wrap (((i+1:Nat):Int)+1)=((i+1+1:Nat):Int):=by rw[Za _ (by omega)];omega
  have one:(((i+1:Nat):Int)==1)=decide (i+1=1):=by
   by_cases h:i+1=1
   ·rw[h];rfl
   ·rw[decide_eq_false h];exact beq_false_of_ne (by omega)
  cases back
  ·obtain⟨k1,k2⟩:=hk (i+1) a9;refine⟨_,rfl,by omega,by omega,_,by rw[Zd,Ze];exact gg (getD_some (d:=[]) a9),?_⟩;refine⟨[],_,_,_,_,oS (b:=I5 ks false b (i+1)) (ks:=ks.getD (i+1) []) (d7 (n7 _)) rfl (n7 _) k1 k2,rfl,rfl,?_⟩;refine⟨i+1+1,by omega,by omega,[.d 44 0],⟨rfl,rfl,rfl,b9 w1,tq⟩,⟨_,rfl,d8 ?_⟩,tq⟩;rw[one,pg _ _ _ (i+1)];rfl
  ·obtain⟨k1,k2⟩:=hk (ks.length-1-(i+1)) (by omega);refine⟨_,rfl,_,rfl,by rw[e1];omega,by rw[e1];omega,_,by rw[e1,Zd,Ze];exact gg (getD_some (d:=[]) (by omega)),?_⟩;refine⟨[],_,_,_,_,oS (b:=I5 ks true b (i+1)) (ks:=ks.getD (ks.length-1-(i+1)) []) (d7 (n7 _)) rfl (n7 _) k1 k2,rfl,rfl,?_⟩;refine⟨i+1+1,by omega,by omega,[.d 44 0],⟨rfl,rfl,rfl,b9 w1,tq⟩,⟨_,rfl,d8 ?_⟩,tq⟩;rw[one,pg _ _ _ (i+1)];rfl
 ·have he:i+1=ks.length:=(by omega);refine⟨_,rfl,[.k 0],rfl,⟨_,rfl,d8 ?_⟩,tq⟩;rw[he]
theorem Lh {va:List Value} {ks:List (List (Bs))} {n:Nat} {back:Bool} (hn:n≠8):a6 C 153 [cD ks,.z n va,bool back] [] Q5 []:=by
 refine Al.c ?_;refine l5 (fun h=> ?_) (fun h=> ?_)
 ·exact⟨_,rfl,[],rfl,tq⟩
 ·omega
def NV (key:Bs) (m:Nat) (i:Nat):D:=match i with
 |0=>⟨[(0,.z m (bv key)),(4,.p (.k 0) 0),(5,i64 0)],[.mx [d9]]⟩
 |i+1=>⟨[(0,.z m (bv key)),(4,.p (.k 0) 0),(5,i64 (8*(i+1):Nat))],[.mx [.o 1 (.k 1) 0 (i+1)],.pl (E7 (K7 key (i+1)))]⟩
theorem Lm {va:List Value} {key:Bs} {m n:Nat} (ha:va=bv key) (hk:key.length=m) (hm:m=8*n) (hn:1<=n/\n<=3):a6 C 54 [.z m va] [] (.ret (.t [cD (E6 key n),i64 0])) []:=by
 subst ha;refine Rc.c ?_;refine l5 (fun h1=>l5 (fun h2=>l5 (fun h3=>absurd h3 (by omega)) (fun h3=> ?_)) (fun h2=> ?_)) (fun h1=> ?_);all_goals
  refine j9 (NV key m) n ⟨[.d 22 0],⟨rfl,rfl,rfl,tq⟩,⟨_,rfl,rfl⟩,tq⟩ fun i hi=> ?_;rcases i with _|i
  ·refine b8 (fun h=> ?_) (fun h=>absurd h (by omega));refine⟨by decide,by decide,by decide,by decide,by show 8<=m;omega,?_⟩;refine⟨[],_,_,_,_,yM (key:=sub key (8*0) 8) (k7 _ _ _) (by rw[j6];omega),rfl,rfl,?_⟩;refine⟨_,rfl,Zh _,by decide,by decide,?_⟩;refine⟨1,by omega,by omega,[.k 0,.d 45 0],⟨rfl,rfl,rfl,tq⟩,⟨_,rfl,?_⟩,⟨_,rfl,?_⟩,tq⟩
   ·rfl
   ·exact congrArg B.pl rfl
  refine b8 (fun h=> ?_) (fun h=> ?_)
  ·have a9:i+1<n:=(by omega);have e4:I6.wrap (((8*(i+1):Nat):Int)+8)=((8*(i+1)+8:Nat):Int):=by
    rw[Za _ (by omega)];omega
   refine⟨by rw[e4];omega,by omega,by rw[e4];omega,Zh _,by rw[e4];omega,?_⟩;refine⟨[],_,_,_,_,yM (key:=sub key (8*(i+1)) 8) (va:=sub (bv key) (8*(i+1)) 8) (k7 _ _ _) (by rw[j6];omega),?_,rfl,?_⟩
   ·rw[e4];show[V.z (8*(i+1)+8-8*(i+1)) (sub (bv key) (8*(i+1)) (8*(i+1)+8-8*(i+1)))]=_;rw[Ji]
   refine⟨_,rfl,Zh _,by omega,by rw[bO,aj];omega,by show 0+0+1<=1;decide,?_⟩;refine⟨i+1+1,by omega,by omega,[.k 0,.d 45 0],⟨rfl,rfl,b9 ?_,tq⟩,⟨_,rfl,rfl⟩,⟨_,rfl,congrArg B.pl ?_⟩,tq⟩
   ·rw[e4];omega
   rw[Ze,y8 (by rw[bO,aj]),zK key (i+1)];exact(Zv (f:=fun k=>V.zz 1 16 (kV k)) (l₁:=K7 key (i+1)) (l₂:=[C1 (sub key (8*(i+1)) 8) 16])).symm
  ·have hin:i+1=n:=(by omega);refine g8 (fun h=> ?_) (fun h=> ?_)
   ·obtain rfl:i=1:=(by omega);subst hin;have hl:=fJ (key:=key) hn;refine⟨_,rfl,_,rfl,by decide,by decide,_,rfl,Zh _,by decide,by rw[bO,aj];decide,by show 0+0+1<=1;decide,?_⟩;refine⟨_,rfl,[],?_,tq⟩;show V.t [V.q [V.zz 1 3 (sub (sub (E7 (K7 key 2)) 0 2++E7 [C1 (sub key 0 8) 16]) 0 3)] 0,i64 0]=V.t [V.q [V.zz 1 (E6 key 2).length (E7 (E6 key 2))] 0,i64 0];have e:sub (sub (E7 (K7 key 2)) 0 2++E7 [C1 (sub key 0 8) 16]) 0 3=E7 (E6 key 2):=by
     rw[y8 (l:=E7 (K7 key 2)) (by rw[bO,aj]),E6,if_pos rfl,y8 (by rw[Zb,bO,aj];rfl)];exact(Zv (f:=fun k=>V.zz 1 16 (kV k)) (l₁:=K7 key 2) (l₂:=[C1 (sub key 0 8) 16])).symm
    rw[hl,if_pos rfl];exact congrArg (fun z=>V.t [V.q [V.zz 1 3 z] 0,i64 0]) e
   ·have hl:=fJ (key:=key) hn;rw[if_neg (by omega)]at hl;refine⟨_,rfl,[],?_,tq⟩;show V.t [V.q [V.zz 1 (i+1) (sub (E7 (K7 key (i+1))) 0 ((i+1)*1))] 0,i64 0]=V.t [V.q [V.zz 1 (E6 key n).length (E7 (E6 key n))] 0,i64 0];rw[hl,hin];have e:sub (E7 (K7 key n)) 0 (n*1)=E7 (E6 key n):=by
     rw[E6,if_neg (by omega),y8 (by rw[bO,aj,Ze])]
    exact congrArg (fun z=>V.t [V.q [V.zz 1 n z] 0,i64 0]) e
abbrev i6:V:= .s (.pointer none)
def wI (t:Int) (n:Nat) (va:List Value) (k:Nat) (xs:List V):Prop:=
 (t=1\/t=2)/\k=79/\a6 C 78 [.z n va] [] (.ret (.t [.q xs 0,i64 0])) []\/
 (t=3)/\k=81/\a6 C 80 [.z n va] [] (.ret (.t [.q xs 0,i64 0])) []\/
 (t=6)/\k=83/\a6 C 82 [.z n va] [] (.ret (.t [.q xs 0,i64 0])) []\/
 (t=7)/\k=85/\a6 C 84 [.z n va] [] (.ret (.t [.q xs 0,i64 0])) []\/
 (t=4\/t=5\/t=8)/\k=87/\a6 C 86 [i64 t,.z n va] [] (.ret (.t [.q xs 0,i64 0])) []
theorem ir {t:Int} {n k:Nat} {va:List Value} {xs:List V} (hv:(n:Int)∈n6 t) (hm:n<=1000) (hs:wI t n va k xs):a6 C 25 [i64 t,.z n va] [] (.ret (.t [c9 t k xs,i64 0])) []:=by
 have hl:=jE t;rcases hs with ⟨ht,rfl,hs⟩|⟨ht,rfl,hs⟩|⟨ht,rfl,hs⟩|⟨ht,rfl,hs⟩|⟨ht,rfl,hs⟩
 ·rcases ht with rfl|rfl
  ·refine fU.c ?_;refine⟨0,Unit,(fun _=>⟨[(6,.p (.k 0) 0),(7,i64 0)],[.mx [i64 1,.f (.func 79) [.q xs 0] []]]⟩),fun _=>True,fun _=>0,?_,fun _ h=> ?_⟩
   ·refine⟨[],_,_,_,_,dq (by simp[t7]),rfl,rfl,?_⟩;refine⟨[],_,_,_,_,ek (by simp[t7]),rfl,rfl,?_⟩;refine⟨[],_,_,_,_,ej (x:=n) (T4 rfl) rfl (by omega),rfl,rfl,?_⟩;refine B0 (by rw[decide_eq_true hv];rfl) ?_;refine⟨[],_,_,_,_,hs,rfl,rfl,?_⟩;refine⟨Zh _,?_⟩;exact⟨[],(),tq,[.d 20 0],⟨rfl,rfl,tq⟩,⟨_,rfl,rfl⟩,tq⟩
   ·exact⟨_,rfl,[],rfl,tq⟩
  ·refine fU.c ?_;refine⟨0,Unit,(fun _=>⟨[(6,.p (.k 0) 0),(7,i64 0)],[.mx [i64 2,.f (.func 79) [.q xs 0] []]]⟩),fun _=>True,fun _=>0,?_,fun _ h=> ?_⟩
   ·refine⟨[],_,_,_,_,dq (by simp[t7]),rfl,rfl,?_⟩;refine⟨[],_,_,_,_,ek (by simp[t7]),rfl,rfl,?_⟩;refine⟨[],_,_,_,_,ej (x:=n) (T4 rfl) rfl (by omega),rfl,rfl,?_⟩;refine B0 (by rw[decide_eq_true hv];rfl) ?_;refine⟨[],_,_,_,_,hs,rfl,rfl,?_⟩;refine⟨Zh _,?_⟩;exact⟨[],(),tq,[.d 20 0],⟨rfl,rfl,tq⟩,⟨_,rfl,rfl⟩,tq⟩
   ·exact⟨_,rfl,[],rfl,tq⟩
 ·subst ht;refine fU.c ?_;refine⟨0,Unit,(fun _=>⟨[(6,.p (.k 0) 0),(7,i64 0)],[.mx [i64 3,.f (.func 81) [.q xs 0] []]]⟩),fun _=>True,fun _=>0,?_,fun _ h=> ?_⟩
  ·refine⟨[],_,_,_,_,dq (by simp[t7]),rfl,rfl,?_⟩;refine⟨[],_,_,_,_,ek (by simp[t7]),rfl,rfl,?_⟩;refine⟨[],_,_,_,_,ej (x:=n) (T4 rfl) rfl (by omega),rfl,rfl,?_⟩;refine B0 (by rw[decide_eq_true hv];rfl) ?_;refine⟨[],_,_,_,_,hs,rfl,rfl,?_⟩;refine⟨Zh _,?_⟩;exact⟨[],(),tq,[.d 20 0],⟨rfl,rfl,tq⟩,⟨_,rfl,rfl⟩,tq⟩
  ·exact⟨_,rfl,[],rfl,tq⟩
 ·subst ht;refine fU.c ?_;refine⟨0,Unit,(fun _=>⟨[(6,.p (.k 0) 0),(7,i64 0)],[.mx [i64 6,.f (.func 83) [.q xs 0] []]]⟩),fun _=>True,fun _=>0,?_,fun _ h=> ?_⟩
  ·refine⟨[],_,_,_,_,dq (by simp[t7]),rfl,rfl,?_⟩;refine⟨[],_,_,_,_,ek (by simp[t7]),rfl,rfl,?_⟩;refine⟨[],_,_,_,_,ej (x:=n) (T4 rfl) rfl (by omega),rfl,rfl,?_⟩;refine B0 (by rw[decide_eq_true hv];rfl) ?_;refine⟨[],_,_,_,_,hs,rfl,rfl,?_⟩;refine⟨Zh _,?_⟩;exact⟨[],(),tq,[.d 20 0],⟨rfl,rfl,tq⟩,⟨_,rfl,rfl⟩,tq⟩
  ·exact⟨_,rfl,[],rfl,tq⟩
 ·subst ht;refine fU.c ?_;refine⟨0,Unit,(fun _=>⟨[(6,.p (.k 0) 0),(7,i64 0)],[.mx [i64 7,.f (.func 85) [.q xs 0] []]]⟩),fun _=>True,fun _=>0,?_,fun _ h=> ?_⟩
  ·refine⟨[],_,_,_,_,dq (by simp[t7]),rfl,rfl,?_⟩;refine⟨[],_,_,_,_,ek (by simp[t7]),rfl,rfl,?_⟩;refine⟨[],_,_,_,_,ej (x:=n) (T4 rfl) rfl (by omega),rfl,rfl,?_⟩;refine B0 (by rw[decide_eq_true hv];rfl) ?_;refine⟨[],_,_,_,_,hs,rfl,rfl,?_⟩;refine⟨Zh _,?_⟩;exact⟨[],(),tq,[.d 20 0],⟨rfl,rfl,tq⟩,⟨_,rfl,rfl⟩,tq⟩
  ·exact⟨_,rfl,[],rfl,tq⟩
 ·exact JG ht hv hm hs
def sb (t:Int) (n:Nat) (va:List Value) (rs:List V):Prop:=
 ((t=1\/t=2)/\∃x,rs=[i64 t,.q x 0,i6,i6,i6,i6]/\a6 C 54 [.z n va] [] (.ret (.t [.q x 0,i64 0])) [])\/
 ((t=3)/\∃x,rs=[i64 t,i6,.q x 0,i6,i6,i6]/\a6 C 55 [.z n va] [] (.ret (.t [.q x 0,i64 0])) [])\/
 ((t=6)/\∃x,rs=[i64 t,i6,i6,i6,.q x 0,i6]/\a6 C 56 [.z n va] [] (.ret (.t [.q x 0,i64 0])) [])\/
 ((t=7)/\∃x,rs=[i64 t,i6,i6,i6,i6,.q x 0]/\a6 C 57 [.z n va] [] (.ret (.t [.q x 0,i64 0])) [])\/
 (t=4\/t=5\/t=8)/\∃x,rs=[i64 t,i6,i6,.q x 0,i6,i6]/\a6 C 58 [i64 t,.z n va] [] (.ret (.t [.q x 0,i64 0])) []
theorem BD {l:List Int} {i:Nat} {x:Int} (h:i<l.length):decide (x∈l.take (i+1))=(decide (x∈l.take i)||(l.getD i 0==x)):=by
 have e:l.getD i 0=l[i]:=by simp[Zc,h]
 rw[e,List.take_succ_eq_append_getElem h];rw[Bool.eq_iff_iff];simp only[decide_eq_true_eq,List.mem_append,List.mem_singleton,Bool.or_eq_true,beq_iff_eq];exact⟨fun h=>h.elim .inl fun h=> .inr h.symm,fun h=>h.elim .inl fun h=> .inr h.symm⟩
theorem sb.ok {t n va rs} (h:sb t n va rs):t7 t:=by
 unfold t7;rcases h with ⟨h,_⟩|⟨h,_⟩|⟨h,_⟩|⟨h,_⟩|⟨h,_⟩<;>omega
theorem oE {t} (h:t7 t):0<(n6 t).length:=by
 rcases h with rfl|rfl|rfl|rfl|rfl|rfl|rfl|rfl<;>decide
theorem ix {t:Int} {n:Nat} {va:List Value} {rs:List V} (hv:(n:Int)∈n6 t) (hs:sb t n va rs):a6 C 14 [i64 t,.z n va] [] (.ret (.t [.q rs 0,i64 0])) []:=by
 have hok:=hs.ok;have hl:=jE t;have hp:=oE hok;refine ur.c ?_;refine⟨[],_,_,_,_,tc hok,rfl,rfl,?_⟩;refine B0 (beq_false_of_ne (by omega)) ?_;refine j9 (fun i=>⟨[(0,i64 t),(1,.z n va),(6,iz (n6 t)),(7,bool (decide ((n:Int)∈(n6 t).take i))),(8,i64 i)],[]⟩) (n6 t).length ⟨[],⟨rfl,rfl,?_,?_,rfl,tq⟩,tq⟩ fun i hi=> ?_
 ·show V.z _ (sub (iv _) 0 _)=_;rw[T4 rfl]
 ·exact congrArg bool (decide_eq_false (by simp)).symm
 refine b8 (fun h=> ?_) (fun h=> ?_)
 ·have a9:i<(n6 t).length:=(by omega);have hstep:=BD (x:=(n:Int)) a9;refine gP (fun h1=> ?_) (fun h1=> ?_)
  ·rw[h1,Bool.true_or]at hstep;exact⟨i+1,by omega,by omega,[],⟨rfl,rfl,rfl,congrArg bool hstep.symm,b9 (by simp(disch:=omega)only[Za];omega),tq⟩,tq⟩
  ·rw[h1,Bool.false_or]at hstep;refine⟨by omega,by omega,_,by rw[Zd];exact uP a9,?_⟩;exact⟨i+1,by omega,by omega,[],⟨rfl,rfl,rfl,congrArg bool hstep.symm,b9 (by simp(disch:=omega)only[Za];omega),tq⟩,tq⟩
 obtain rfl:i=(n6 t).length:=(by omega);refine B0 (by rw[List.take_length,decide_eq_true hv];rfl) ?_;rcases hs with ⟨rfl|rfl,x,rfl,hs⟩|⟨rfl,x,rfl,hs⟩|⟨rfl,x,rfl,hs⟩|⟨rfl,x,rfl,hs⟩|⟨rfl|rfl|rfl,x,rfl,hs⟩;all_goals
  refine⟨[],_,_,_,_,hs,rfl,rfl,?_⟩;refine⟨Zj rfl,?_⟩;exact⟨_,rfl,[],rfl,tq⟩
theorem KT {t:Int} {n:Nat} {va:List Value} (ht:¬t7 t):a6 C 14 [i64 t,.z n va] [] (.ret (.t [i6,i64 2])) []:=by
 refine ur.c ?_;refine⟨[],_,_,_,_,KM ht,rfl,rfl,?_⟩;exact⟨_,rfl,[],rfl,tq⟩
theorem KQ {t:Int} {n:Nat} {va:List Value} (hok:t7 t) (hv:(n:Int)∉n6 t):a6 C 14 [i64 t,.z n va] [] (.ret (.t [i6,i64 4])) []:=by
 have hl:=jE t;have hp:=oE hok;refine ur.c ?_;refine⟨[],_,_,_,_,tc hok,rfl,rfl,?_⟩;refine B0 (beq_false_of_ne (by omega)) ?_;refine j9 (fun i=>⟨[(0,i64 t),(1,.z n va),(6,iz (n6 t)),(7,bool (decide ((n:Int)∈(n6 t).take i))),(8,i64 i)],[]⟩) (n6 t).length ⟨[],⟨rfl,rfl,?_,?_,rfl,tq⟩,tq⟩ fun i hi=> ?_
 ·show V.z _ (sub (iv _) 0 _)=_;rw[T4 rfl]
 ·exact congrArg bool (decide_eq_false (by simp)).symm
 refine b8 (fun h=> ?_) (fun h=> ?_)
 ·have a9:i<(n6 t).length:=(by omega);have hstep:=BD (x:=(n:Int)) a9;refine gP (fun h1=> ?_) (fun h1=> ?_)
  ·rw[h1,Bool.true_or]at hstep;exact⟨i+1,by omega,by omega,[],⟨rfl,rfl,rfl,congrArg bool hstep.symm,b9 (by simp(disch:=omega)only[Za];omega),tq⟩,tq⟩
  ·rw[h1,Bool.false_or]at hstep;refine⟨by omega,by omega,_,by rw[Zd];exact uP a9,?_⟩;exact⟨i+1,by omega,by omega,[],⟨rfl,rfl,rfl,congrArg bool hstep.symm,b9 (by simp(disch:=omega)only[Za];omega),tq⟩,tq⟩
 obtain rfl:i=(n6 t).length:=(by omega);refine dP (by rw[List.take_length,decide_eq_false hv];rfl) ?_;exact⟨_,rfl,[],rfl,tq⟩
def FO (t:Int) (n:Nat) (va:List Value) (back:Bool) (rs:List V) (l:List Value):Prop:=
 ((t=1\/t=2)/\∃x,rs=[i64 t,.q x 0,i6,i6,i6,i6]/\a6 C 153 [.q x 0,.z n va,bool back] [] (y6 n) [.sc l])\/
 ((t=3)/\∃x,rs=[i64 t,i6,.q x 0,i6,i6,i6]/\a6 C 154 [.q x 0,.z n va,bool back] [] (y6 n) [.sc l])\/
 ((t=6)/\∃x,rs=[i64 t,i6,i6,i6,.q x 0,i6]/\a6 C 155 [.q x 0,.z n va,bool back] [] (y6 n) [.sc l])\/
 ((t=7)/\∃x,rs=[i64 t,i6,i6,i6,i6,.q x 0]/\a6 C 156 [.q x 0,.z n va,bool back] [] (y6 n) [.sc l])\/
 (t=4\/t=5\/t=8)/\∃x,rs=[i64 t,i6,i6,.q x 0,i6,i6]/\a6 C 157 [.q x 0,.z n va,bool back] [] (y6 n) [.sc l]
theorem iu {t:Int} {n:Nat} {va:List Value} {back:Bool} {rs:List V} {l:List Value} (hs:FO t n va back rs l):a6 C 88 [.q rs 0,.z n va,bool back] [] (y6 n) [.sc l]:=by
 rcases hs with ⟨ht,x,rfl,hs⟩|⟨ht,x,rfl,hs⟩|⟨ht,x,rfl,hs⟩|⟨ht,x,rfl,hs⟩|⟨ht,x,rfl,hs⟩
 ·rcases ht with rfl|rfl;all_goals
   refine dz.c ?_;refine⟨_,rfl,_,rfl,?_⟩;refine⟨[],_,_,_,_,hs,rfl,rfl,?_⟩;exact⟨_,rfl,[.d 21 0],rfl,⟨_,rfl,rfl⟩,tq⟩
 ·rcases ht with rfl;all_goals
   refine dz.c ?_;refine⟨_,rfl,_,rfl,?_⟩;refine⟨[],_,_,_,_,hs,rfl,rfl,?_⟩;exact⟨_,rfl,[.d 32 0],rfl,⟨_,rfl,rfl⟩,tq⟩
 ·rcases ht with rfl;all_goals
   refine dz.c ?_;refine⟨_,rfl,_,rfl,?_⟩;refine⟨[],_,_,_,_,hs,rfl,rfl,?_⟩;exact⟨_,rfl,[.d 43 0],rfl,⟨_,rfl,rfl⟩,tq⟩
 ·rcases ht with rfl;all_goals
   refine dz.c ?_;refine⟨_,rfl,_,rfl,?_⟩;refine⟨[],_,_,_,_,hs,rfl,rfl,?_⟩;exact⟨_,rfl,[.d 54 0],rfl,⟨_,rfl,rfl⟩,tq⟩
 ·rcases ht with rfl|rfl|rfl;all_goals
   refine dz.c ?_;refine⟨_,rfl,_,rfl,?_⟩;refine⟨[],_,_,_,_,hs,rfl,rfl,?_⟩;exact⟨_,rfl,[.d 63 0],rfl,⟨_,rfl,rfl⟩,tq⟩
def FP (t:Int) (n:Nat) (va:List Value) (back:Bool) (rs:List V):Prop:=
 ((t=1\/t=2)/\∃x,rs=[i64 t,.q x 0,i6,i6,i6,i6]/\a6 C 153 [.q x 0,.z n va,bool back] [] Q5 [])\/
 ((t=3)/\∃x,rs=[i64 t,i6,.q x 0,i6,i6,i6]/\a6 C 154 [.q x 0,.z n va,bool back] [] Q5 [])\/
 ((t=6)/\∃x,rs=[i64 t,i6,i6,i6,.q x 0,i6]/\a6 C 155 [.q x 0,.z n va,bool back] [] Q5 [])\/
 ((t=7)/\∃x,rs=[i64 t,i6,i6,i6,i6,.q x 0]/\a6 C 156 [.q x 0,.z n va,bool back] [] Q5 [])\/
 (t=4\/t=5\/t=8)/\∃x,rs=[i64 t,i6,i6,.q x 0,i6,i6]/\a6 C 157 [.q x 0,.z n va,bool back] [] Q5 []
theorem iw {t:Int} {n:Nat} {va:List Value} {back:Bool} {rs:List V} (hs:FP t n va back rs):a6 C 88 [.q rs 0,.z n va,bool back] [] Q5 []:=by
 rcases hs with ⟨ht,x,rfl,hs⟩|⟨ht,x,rfl,hs⟩|⟨ht,x,rfl,hs⟩|⟨ht,x,rfl,hs⟩|⟨ht,x,rfl,hs⟩
 ·rcases ht with rfl|rfl;all_goals
   refine dz.c ?_;refine⟨_,rfl,_,rfl,?_⟩;refine⟨[],_,_,_,_,hs,rfl,rfl,?_⟩;exact⟨_,rfl,[],rfl,tq⟩
 ·rcases ht with rfl;all_goals
   refine dz.c ?_;refine⟨_,rfl,_,rfl,?_⟩;refine⟨[],_,_,_,_,hs,rfl,rfl,?_⟩;exact⟨_,rfl,[],rfl,tq⟩
 ·rcases ht with rfl;all_goals
   refine dz.c ?_;refine⟨_,rfl,_,rfl,?_⟩;refine⟨[],_,_,_,_,hs,rfl,rfl,?_⟩;exact⟨_,rfl,[],rfl,tq⟩
 ·rcases ht with rfl;all_goals
   refine dz.c ?_;refine⟨_,rfl,_,rfl,?_⟩;refine⟨[],_,_,_,_,hs,rfl,rfl,?_⟩;exact⟨_,rfl,[],rfl,tq⟩
 ·rcases ht with rfl|rfl|rfl;all_goals
   refine dz.c ?_;refine⟨_,rfl,_,rfl,?_⟩;refine⟨[],_,_,_,_,hs,rfl,rfl,?_⟩;exact⟨_,rfl,[],rfl,tq⟩
theorem JZ {t:Int} {rs:List V} (ht:t7 t) (hr:rs.head? =some (i64 t)):a6 C 15 [.q rs 0] [] (.ret (i64 (n9 t))) []:=by
 obtain⟨r,rfl⟩:∃r,rs=i64 t::r:=by
  cases rs with
  |nil=>cases hr
  |cons a r=>exact⟨r,by cases hr;rfl⟩
 refine PX.c ?_;refine⟨_,rfl,?_⟩;refine⟨[],_,_,_,_,oP ht,rfl,rfl,?_⟩;exact⟨_,rfl,[],rfl,tq⟩
def Y4 (r:W2):Bs:=M0 r.1++M0 r.2
def ar (r:W2):Bs:=n8 r.1++n8 r.2
def xF (key:Bs) (back:Bool) (b:Bs):W2:=if back then ((it (O3 (z7 o9 key 4)) 32 (o9 (sub b 0 4),o9 (sub b 4 4),3337565984)).1,(it (O3 (z7 o9 key 4)) 32 (o9 (sub b 0 4),o9 (sub b 4 4),3337565984)).2.1)else ((it (O4 (z7 o9 key 4)) 32 (o9 (sub b 0 4),o9 (sub b 4 4),0)).1,(it (O4 (z7 o9 key 4)) 32 (o9 (sub b 0 4),o9 (sub b 4 4),0)).2.1)
def mF (key:Bs) (back:Bool) (b:Bs):W2:=aZ (if back then (B6 (z7 o9 key 8)).reverse else B6 (z7 o9 key 8)) (o9 (sub b 0 4)) (o9 (sub b 4 4))
def rG (K:List UInt32):Bool->Bs->W2
 |true,b=>((C3 K (o6 (sub b 0 4),o6 (sub b 4 4)) 12).1-K.getD 0 0,(C3 K (o6 (sub b 0 4),o6 (sub b 4 4)) 12).2-K.getD 1 0)
 |false,b=>A9 K (o6 (sub b 0 4),o6 (sub b 4 4)) 12
def fL (key:Bs) (back:Bool) (b:Bs):Bs:=I5 (E6 key (key.length/8)) back b (E6 key (key.length/8)).length
def aQ (key:Bs):Nat:=(key.length-16)/8
def aN (key:Bs):Nat:=13+2*aQ key
def cF (t:Int) (key:Bs) (back:Bool) (b:Bs):Bs:=
 if t=1\/t=2 then fL key back b
 else if t=3 then W6 (F9 (if back then w6 (R4 key)else R4 key) (I8 b))
 else if t=4 then Y4 (xF key back b)
 else if t=5 then Y4 (mF key back b)
 else if t=6 then K5 (if back then ce (tK key) (tS key) (y5 b)else cf (tK key) (tS key) (y5 b)) 4
 else if t=7 then (if back then fD (aQ key) key (aN key) b else db (aQ key) key (aN key) b)
 else ar (rG (t9 (z7 o6 key 4) 78).1 back b)
structure j5 (t:Int) (key:Bs) (s k:Nat) (xs rs:List V):Prop where
 ht:t7 t
 hs:n9 t=s
 hd:rs.head? =some (i64 t)
 kl:(key.length:Int)∈n6 t
 new:a6 C 25 [i64 t,.z key.length (bv key)] [] (.ret (.t [c9 t k xs,i64 0])) []
 cn:wI t key.length (bv key) k xs
 rnew:a6 C 14 [i64 t,.z key.length (bv key)] [] (.ret (.t [.q rs 0,i64 0])) []
 blk:∀{b:Bs} {back:Bool},b.length=s->a6 C k [.q xs 0,.z s (bv b),bool back] [] (y6 s) [.sc (bv (cF t key back b))]
 rblk:∀{b:Bs} {back:Bool},b.length=s->a6 C 88 [.q rs 0,.z s (bv b),bool back] [] (y6 s) [.sc (bv (cF t key back b))]
 bad:∀{n:Nat} {va:List Value} {back:Bool},n≠s->a6 C k [.q xs 0,.z n va,bool back] [] Q5 []
 rbad:∀{n:Nat} {va:List Value} {back:Bool},n≠s->a6 C 88 [.q rs 0,.z n va,bool back] [] Q5 []
 len:∀{b:Bs} {back:Bool},b.length=s->(cF t key back b).length=s
theorem CA (r):(Y4 r).length=8:=by rw[Y4,Zb,gJ,gJ]
theorem Wz (r):(ar r).length=8:=by rw[ar,Zb,C9,C9]
theorem WH (x):(K5 x 4).length=16:=dM x 4
theorem Gi {q key n b} (h:aG q key n):(db q key n b).length=16:=by
 rw[db];exact w7 (M9 _ _ _) (dY h _)
theorem Gh {q key n b} (h:aG q key n):(fD q key n b).length=16:=oh h _
theorem zu {t:Int} {key:Bs} (ht:t=1\/t=2) (hv:(key.length:Int)∈n6 t):∃k xs rs,j5 t key 8 k xs rs:=by
 obtain⟨n,hn,h3⟩:∃n,key.length=8*n/\(1<=n/\n<=3):=by
  refine⟨key.length/8,?_⟩;rcases ht with rfl|rfl<;>simp[n6]at hv<;>omega
 have hd:key.length/8=n:=by omega
 obtain⟨ok,pos⟩:=NR (key:=key) h3;have hF:∀b back,cF t key back b=I5 (E6 key n) back b (E6 key n).length:=fun b back=>by rw[cF,if_pos ht,fL,hd]
 refine⟨_,_,[i64 t,cD (E6 key n),i6,i6,i6,i6],⟨?_,?_,rfl,hv,ir hv (by omega) (.inl ⟨ht,rfl,yq rfl rfl hn h3⟩),.inl ⟨ht,rfl,yq rfl rfl hn h3⟩,ix hv (.inl ⟨ht,_,rfl,Lm rfl rfl hn h3⟩),fun hb=> ?_,fun hb=> ?_,fun hn=>Iw hn,fun hn=>iw (.inl ⟨ht,_,rfl,Lh hn⟩),fun hb=> ?_⟩⟩
 ·unfold t7;omega
 ·unfold n9;rw[if_pos (by omega)];rfl
 ·rw[hF];exact Ix rfl hb ok pos
 ·rw[hF];exact iu (.inl ⟨ht,_,rfl,Li rfl hb ok pos⟩)
 ·rw[hF];exact tO hb _
theorem Nc {key:Bs} (hk:key.length=16):∃k xs rs,j5 3 key 8 k xs rs:=by
 have hv:(key.length:Int)∈n6 3:=by rw[hk];decide
 refine⟨_,_,[i64 3,i6,nJ (R4 key),i6,i6,i6],⟨by simp[t7],rfl,rfl,hv,ir hv (by omega) (.inr (.inl ⟨rfl,rfl,by rw[hk];exact yx rfl hk⟩)),.inr (.inl ⟨rfl,rfl,by rw[hk];exact yx rfl hk⟩),ix hv (.inr (.inl ⟨rfl,_,rfl,by rw[hk];exact Ls rfl hk⟩)),fun hb=>IL rfl hb (eU _) (nm _),fun hb=>iu (.inr (.inl ⟨rfl,_,rfl,Lq rfl hb (eU _) (nm _)⟩)),fun hn=>IK hn,fun hn=>iw (.inr (.inl ⟨rfl,_,rfl,Lp hn⟩)),fun hb=>WG _⟩⟩
theorem Ni {key:Bs} (hk:key.length=16):∃k xs rs,j5 4 key 8 k xs rs:=by
 have hv:(key.length:Int)∈n6 4:=by rw[hk];decide
 have hl:=P1 o9 key 4;refine⟨_,_,[i64 4,i6,i6,F8 (z7 o9 key 4) 4,i6,i6],⟨by simp[t7],rfl,rfl,hv,ir hv (by omega) (.inr (.inr (.inr (.inr ⟨.inl rfl,rfl,by rw[hk];exact yY rfl hk⟩)))),.inr (.inr (.inr (.inr ⟨.inl rfl,rfl,by rw[hk];exact yY rfl hk⟩))),ix hv (.inr (.inr (.inr (.inr ⟨.inl rfl,_,rfl,by rw[hk];exact LA rfl hk⟩)))),fun{b back} hb=> ?_,fun{b back} hb=> ?_,fun hn=>sN hn,fun hn=>iw (.inr (.inr (.inr (.inr ⟨.inl rfl,_,rfl,tg hn⟩)))),fun hb=>CA _⟩⟩
 ·refine Hj (r:=xF key back b) rfl hb ?_;cases back
  ·exact MP hl rfl rfl
  ·exact MN hl rfl rfl
 ·refine iu (.inr (.inr (.inr (.inr ⟨.inl rfl,_,rfl,Lv (r:=xF key back b) rfl hb ?_⟩))));cases back
  ·exact LH hl rfl rfl
  ·exact LG hl rfl rfl
theorem Nf {key:Bs} (hk:key.length=32):∃k xs rs,j5 5 key 8 k xs rs:=by
 have hv:(key.length:Int)∈n6 5:=by rw[hk];decide
 have hl:=P1 o9 key 8;refine⟨_,_,[i64 5,i6,i6,F8 (z7 o9 key 8) 5,i6,i6],⟨by simp[t7],rfl,rfl,hv,ir hv (by omega) (.inr (.inr (.inr (.inr ⟨.inr (.inl rfl),rfl,by rw[hk];exact yX rfl hk⟩)))),.inr (.inr (.inr (.inr ⟨.inr (.inl rfl),rfl,by rw[hk];exact yX rfl hk⟩))),ix hv (.inr (.inr (.inr (.inr ⟨.inr (.inl rfl),_,rfl,by rw[hk];exact Ly rfl hk⟩)))),fun{b back} hb=> ?_,fun{b back} hb=> ?_,fun hn=>sN hn,fun hn=>iw (.inr (.inr (.inr (.inr ⟨.inr (.inl rfl),_,rfl,tg hn⟩)))),fun hb=>CA _⟩⟩
 ·refine Hg (r:=mF key back b) rfl hb ?_;cases back
  ·exact JA hl rfl rfl
  ·exact JB hl rfl rfl
 ·refine iu (.inr (.inr (.inr (.inr ⟨.inr (.inl rfl),_,rfl,Lt (r:=mF key back b) rfl hb ?_⟩))));cases back
  ·exact Lw hl rfl rfl
  ·exact Lx hl rfl rfl
theorem Gy {K:List UInt32} (hl:K.length=26) {b:Bs} {back:Bool} (hb:b.length=8):a6 C 87 [P8 K 8,.z 8 (bv b),bool back] [] (y6 8) [.sc (bv (ar (rG K back b)))]:=by
 refine Hi (r:=rG K back b) rfl hb ?_;cases back
 ·simp only[rG];exact LQ hl rfl rfl
 ·simp only[rG];exact LP hl rfl rfl
theorem WS {K:List UInt32} (hl:K.length=26) {b:Bs} {back:Bool} (hb:b.length=8):a6 C 157 [F8 K 8,.z 8 (bv b),bool back] [] (y6 8) [.sc (bv (ar (rG K back b)))]:=by
 refine Lu (r:=rG K back b) rfl hb ?_;cases back
 ·simp only[rG];exact LC hl rfl rfl
 ·simp only[rG];exact LB hl rfl rfl
theorem Ng {key:Bs} (hk:key.length=16):∃k xs rs,j5 8 key 8 k xs rs:=by
 have hv:(key.length:Int)∈n6 8:=by rw[hk];decide
 have hl:=(nf (z7 o6 key 4) 78).1;have n1:=Mr rfl hk;have n2:=Lz rfl hk;have hF:∀back b,cF 8 key back b=ar (rG (t9 (z7 o6 key 4) 78).1 back b):=fun _ _=>rfl;generalize (t9 (z7 o6 key 4) 78).1=K at hl n1 n2 hF;rw[<-hk]at n1 n2;exact⟨_,_,[i64 8,i6,i6,F8 K 8,i6,i6],⟨by simp[t7],rfl,rfl,hv,ir hv (by omega) (.inr (.inr (.inr (.inr ⟨.inr (.inr rfl),rfl,n1⟩)))),.inr (.inr (.inr (.inr ⟨.inr (.inr rfl),rfl,n1⟩))),ix hv (.inr (.inr (.inr (.inr ⟨.inr (.inr rfl),_,rfl,n2⟩)))),fun{b back} hb=>by rw[hF];exact Gy hl hb,fun{b back} hb=>by rw[hF];exact iu (.inr (.inr (.inr (.inr ⟨.inr (.inr rfl),_,rfl,WS hl hb⟩)))),fun hn=>sN hn,fun hn=>iw (.inr (.inr (.inr (.inr ⟨.inr (.inr rfl),_,rfl,tg hn⟩)))),fun hb=>by rw[hF];exact Wz _⟩⟩
theorem Nh {key:Bs} (hk:key.length=16\/key.length=24\/key.length=32):∃k xs rs,j5 6 key 16 k xs rs:=by
 have hv:(key.length:Int)∈n6 6:=by rcases hk with h|h|h<;>rw[h]<;>decide
 obtain⟨n,hn,h3⟩:∃n,key.length=8*n/\(2<=n/\n<=4):=⟨key.length/8,by omega⟩;have hS:=ri hn;refine⟨_,_,[i64 6,i6,i6,i6,O0 (tK key) (tS key),i6],⟨by simp[t7],rfl,rfl,hv,ir hv (by omega) (.inr (.inr (.inl ⟨rfl,rfl,zi rfl rfl hn h3⟩))),.inr (.inr (.inl ⟨rfl,rfl,zi rfl rfl hn h3⟩)),ix hv (.inr (.inr (.inl ⟨rfl,_,rfl,LN rfl rfl hn h3⟩))),fun{b back} hb=> ?_,fun{b back} hb=>iu (.inr (.inr (.inl ⟨rfl,_,rfl,?_⟩))),fun hn=>MH hn,fun hn=>iw (.inr (.inr (.inl ⟨rfl,_,rfl,LJ hn⟩))),fun hb=>WH _⟩⟩
 ·cases back
  ·exact MJ rfl hb (gT _) (by omega)
  ·exact MI rfl hb (gT _) (by omega)
 ·cases back
  ·exact LL rfl hb (gT _) (by omega)
  ·exact LK rfl hb (gT _) (by omega)
theorem Nb {key:Bs} (hk:key.length=16\/key.length=24\/key.length=32):∃k xs rs,j5 7 key 16 k xs rs:=by
 have hv:(key.length:Int)∈n6 7:=by rcases hk with h|h|h<;>rw[h]<;>decide
 have ok:aG (aQ key) key (aN key):=by
  refine⟨?_,?_,?_,?_⟩<;>first|omega|(simp only[aN,aQ];omega)
 have new:a6 C 84 [.z key.length (bv key)] [] (.ret (.t [dh (aQ key) key (aN key),i64 0])) []/\a6 C 57 [.z key.length (bv key)] [] (.ret (.t [dc (aQ key) key (aN key),i64 0])) []:=by
  rcases hk with h|h|h
  ·rw[aN,aQ,h];exact⟨GT rfl h,JT rfl h⟩
  ·rw[aN,aQ,h];exact⟨GU rfl h,JU rfl h⟩
  ·rw[aN,aQ,h];exact⟨GV rfl h,JV rfl h⟩
 refine⟨_,_,[i64 7,i6,i6,i6,i6,dc (aQ key) key (aN key)],⟨by simp[t7],rfl,rfl,hv,ir hv (by omega) (.inr (.inr (.inr (.inl ⟨rfl,rfl,new.1⟩)))),.inr (.inr (.inr (.inl ⟨rfl,rfl,new.1⟩))),ix hv (.inr (.inr (.inr (.inl ⟨rfl,_,rfl,new.2⟩)))),fun{b back} hb=> ?_,fun{b back} hb=>iu (.inr (.inr (.inr (.inl ⟨rfl,_,rfl,?_⟩)))),fun hn=>GW hn,fun hn=>iw (.inr (.inr (.inr (.inl ⟨rfl,_,rfl,JN hn⟩)))),fun{b back} hb=> ?_⟩⟩
 ·cases back
  ·exact GY ok rfl hb
  ·exact GX ok rfl hb
 ·cases back
  ·exact JP ok rfl hb
  ·exact JO ok rfl hb
 ·cases back
  ·exact Gi ok
  ·exact Gh ok
theorem zv {t:Int} {key:Bs} (ht:t7 t) (hv:(key.length:Int)∈n6 t):∃s k xs rs,j5 t key s k xs rs:=by
 have h8:∀{t},(∃k xs rs,j5 t key 8 k xs rs)->∃s k xs rs,j5 t key s k xs rs:=fun h=>⟨8,h⟩;have h16:∀{t},(∃k xs rs,j5 t key 16 k xs rs)->∃s k xs rs,j5 t key s k xs rs:=fun h=>⟨16,h⟩;rcases ht with rfl|rfl|rfl|rfl|rfl|rfl|rfl|rfl
 ·exact h8 (zu (.inl rfl) hv)
 ·exact h8 (zu (.inr rfl) hv)
 ·exact h8 (Nc (by simp[n6]at hv;omega))
 ·exact h8 (Ni (by simp[n6]at hv;omega))
 ·exact h8 (Nf (by simp[n6]at hv;omega))
 ·exact h16 (Nh (by simp[n6]at hv;omega))
 ·exact h16 (Nb (by simp[n6]at hv;omega))
 ·exact h8 (Ng (by simp[n6]at hv;omega))
theorem j5.new' {t key s k xs rs} (h:j5 t key s k xs rs) {n:Nat} {va:List Value} (hn:key.length=n) (ha:va=bv key):a6 C 25 [i64 t,.z n va] [] (.ret (.t [c9 t k xs,i64 0])) []:=by subst ha;subst hn;exact h.new
theorem j5.enc {t key s k xs rs} (h:j5 t key s k xs rs) {b:Bs} {va:List Value} (hb:b.length=s) (ha:va=bv b):a6 C 26 [c9 t k xs,.z s va] [] (y6 s) [.sc (bv (cF t key false b))]:=by subst ha;exact IB (h.blk hb)
theorem j5.dec {t key s k xs rs} (h:j5 t key s k xs rs) {b:Bs} {va:List Value} (hb:b.length=s) (ha:va=bv b):a6 C 177 [c9 t k xs,.z s va] [] (y6 s) [.sc (bv (cF t key true b))]:=by subst ha;exact Iv (h.blk hb)
theorem j5.rS {t key s k xs rs} (h:j5 t key s k xs rs):a6 C 23 [i64 t] [] (.ret (i64 s)) []:=by rw[<-h.hs];exact oP h.ht
theorem j5.size {t key s k xs rs} (h:j5 t key s k xs rs):a6 C 63 [c9 t k xs] [] (.ret (i64 s)) []:=by rw[<-h.hs];exact Hv h.ht
theorem j5.rsize {t key s k xs rs} (h:j5 t key s k xs rs):a6 C 15 [.q rs 0] [] (.ret (i64 s)) []:=by rw[<-h.hs];exact JZ h.ht h.hd
theorem UR {t n:Int} (ht:t7 t):((bM t n:Nat):Int)∈n6 t:=by
 have hp:=oE ht;have h1:=Int.emod_nonneg n (b:=((n6 t).length:Int)) (by omega);have h2:=Int.emod_lt_of_pos n (b:=((n6 t).length:Int)) (by omega);have hi:(n%((n6 t).length:Int)).toNat<(n6 t).length:=by omega
 have hx:(n6 t).getD (n%((n6 t).length:Int)).toNat 0∈n6 t:=by
  rw[Zc,Zp hi];exact List.getElem_mem hi
 have h0:0<=(n6 t).getD (n%((n6 t).length:Int)).toNat 0:=by
  have:∀x∈n6 t,0<=x:=by
   rcases ht with rfl|rfl|rfl|rfl|rfl|rfl|rfl|rfl<;>decide
  exact this _ hx
 rw[bM,Int.toNat_of_nonneg h0];exact hx
theorem Nd (tag n:Int) (k:Bs):∃s q xs rs,j5 (y9 tag) (am (y9 tag) n k) s q xs rs:=zv (jc _) (by rw[uR];exact UR (jc _))
theorem j5.s_le {t key s k xs rs} (h:j5 t key s k xs rs):8<=s/\s<=16:=by
 have:=h.hs;rcases h.ht with e|e|e|e|e|e|e|e<;>(subst e;simp[n9]at this;omega)
theorem IW {t n:Int} {m:Nat} {va:List Value} {k:Bs} (ht:t7 t) (hn: -9223372036854775808<=n/\n<=9223372036854775807) (ha:va=bv k) (hk:k.length=m):a6 C 21 [i64 t,i64 n,.z m va] [] (.ret (.z (bM t n) (bv (am t n k)))) []:=by
 obtain⟨h1,h2,h3,h4,h5⟩:=uQ ht n;have hl:=jE t;have hp:=oE ht;refine Pq.c ?_;refine⟨[],_,_,_,_,tc ht,rfl,rfl,?_⟩;refine⟨[],_,_,_,_,zp (n:=(n6 t).length) (by omega) (by omega) hn,rfl,rfl,?_⟩;refine⟨h4,h5,?_⟩;refine⟨.int .i64 (bM t n),?_,?_⟩
 ·rw[Ze,Zi];simp[iv,h3]
 refine⟨[],_,_,_,_,yf (n:=bM t n) ha hk (by omega),rfl,rfl,?_⟩;exact⟨_,rfl,[],congrArg (V.z _) (d7 (oC _ _)),tq⟩
theorem pV {α:Type} (f:α->α):∀(n:Nat) (x:α),it f n (f x)=f (it f n x)
 |0,_=>rfl
 |n+1,x=>congrArg f (pV f n x)
theorem uN {α:Type} {f g:α->α} (h:∀x,g (f x)=x):∀(n:Nat) (x:α),it g n (it f n x)=x
 |0,_=>rfl
 |n+1,x=>by
  show g (it g n (f (it f n x)))=x;rw[<-pV g,h,uN h n x]
theorem pL {α:Type} {st bk:α->Nat->α} (h:∀x r,bk (st x r) r=x):∀(n:Nat) (x:α),(List.range n).foldl (fun x r=>bk x (n-1-r)) ((List.range n).foldl st x)=x
 |0,_=>rfl
 |n+1,x=>by
  have e1:(List.range (n+1)).foldl st x=st ((List.range n).foldl st x) n:=by rw[Zo,Zy];rfl
  rw[e1,Jl,Zw,List.foldl_map];rw[show n+1-1-0=n by omega,h];have e:∀(l:List Nat) (y:α),l.foldl (fun x r=>bk x (n+1-1-Nat.succ r)) y=l.foldl (fun x r=>bk x (n-1-r)) y:=by
   intro l y;congr 1;funext x r;congr 1;omega
  rw[e];exact pL h n x
theorem na {α:Type} {f g:α->Nat->α} {n:Nat} (h:∀x r,r<n->f x r=g x r):∀(x:α),(List.range n).foldl f x=(List.range n).foldl g x:=by
 have:∀(l:List Nat),(∀r∈l,r<n)->∀x,l.foldl f x=l.foldl g x:=by
  intro l;induction l with
  |nil=>intros;rfl
  |cons a r ih=>
   intro hl x;rw[Zw,Zw,h x a (hl a (by simp))];exact ih (fun r hr=>hl r (by simp[hr])) _
 exact this _ (fun r hr=>List.mem_range.1 hr)
theorem AN {α:Type} {st bk:α->Nat->α} (h:∀x r,st (bk x r) r=x) (n:Nat) (x:α):(List.range n).foldl st ((List.range n).foldl (fun x r=>bk x (n-1-r)) x)=x:=by
 have:=pL (st:=fun x r=>bk x (n-1-r)) (bk:=fun x r=>st x (n-1-r)) (fun x r=>h x _) n x;rw[<-this];rw[this];refine Eq.trans (na (fun y r hr=> ?_) _) this;show st y r=st y (n-1-(n-1-r));rw[show n-1-(n-1-r)=r by omega]
theorem DC (v:UInt32) {k:Nat} (h:k<32) (i:Nat) (hi:i<32):(B7 v k).toNat.testBit i=v.toNat.testBit ((i+32-k)%32):=by
 unfold B7;have hv:v.toNat<2^32:=v.toNat_lt;have e1:(UInt32.ofNat k).toNat%32=k:=by rw[Jr,Zr (show k<2^32 by omega)];exact Zr h
 have e2:(UInt32.ofNat (32-k)).toNat%32=(32-k)%32:=by rw[Jr,Zr (show 32-k<2^32 by omega)]
 rw[UInt32.toNat_or,UInt32.toNat_shiftLeft,UInt32.toNat_shiftRight,e1,e2,Nat.testBit_or,Nat.testBit_mod_two_pow,Nat.testBit_shiftLeft,Nat.testBit_shiftRight];by_cases hk:k=0
 ·subst hk;simp[hi,Zr hi]
 ·rw[Zr (show 32-k<32 by omega)];by_cases hki:k<=i
  ·have:v.toNat.testBit (32-k+i)=false:=Jj (Nat.lt_of_lt_of_le hv (Z4 (by decide) (by omega)));rw[this,show(i+32-k)%32=i-k by omega];simp[hi,hki]
  ·rw[show (i+32-k)%32=32-k+i by omega];simp[hki]
theorem gO (v:UInt32) {k j:Nat} (h:k<32) (hj:j<32) (e:(k+j)%32=0):B7 (B7 v k) j=v:=by
 apply UInt32.toNat_inj.1;apply Nat.eq_of_testBit_eq;intro i;by_cases hi:i<32
 ·rw[DC _ hj i hi,DC _ h _ (Zu _ (by decide))];congr 1;omega
 ·have hp:∀w:UInt32,w.toNat.testBit i=false:=fun w=>Jj (Nat.lt_of_lt_of_le w.toNat_lt (Z4 (by decide) (by omega)));rw[hp,hp]
theorem dU (a b:UInt32):a^^^b^^^b=a:=by rw[UInt32.xor_assoc,UInt32.xor_self,UInt32.xor_zero]
theorem qB (n:UInt64) (x:UInt8) (h:n.toNat<2^56):(n<<<8|||x.toUInt64).toNat=n.toNat*256+x.toNat:=by
 have hx:=x.toNat_lt;rw[UInt64.toNat_or,UInt64.toNat_shiftLeft,UInt8.toNat_toUInt64,show(8:UInt64).toNat%64=8 from rfl,Nat.shiftLeft_eq,Zr (by omega)];rw[show (2:Nat)^8=2^8 from rfl,qz _ (i:=8) (by omega)]
theorem Vk (a b c d:UInt8):(L9 [a,b,c,d]).toNat=((a.toNat*256+b.toNat)*256+c.toNat)*256+d.toNat:=by
 have ha:=a.toNat_lt;have hb:=b.toNat_lt;have hc:=c.toNat_lt;have hd:=d.toNat_lt;show(((((((0:UInt64)<<<8|||a.toUInt64)<<<8|||b.toUInt64))<<<8|||c.toUInt64))<<<8|||d.toUInt64).toNat=_;have e1:((0:UInt64)<<<8|||a.toUInt64).toNat=a.toNat:=by rw[qB _ _ (by decide)];show 0*256+_=_;omega
 have e2:(((0:UInt64)<<<8|||a.toUInt64)<<<8|||b.toUInt64).toNat=a.toNat*256+b.toNat:=by rw[qB _ _ (by omega),e1]
 have e3:((((0:UInt64)<<<8|||a.toUInt64)<<<8|||b.toUInt64)<<<8|||c.toUInt64).toNat=(a.toNat*256+b.toNat)*256+c.toNat:=by rw[qB _ _ (by omega),e2]
 rw[qB _ _ (by omega),e3]
theorem CB (v:UInt32):M0 v=[Zt (v.toNat/16777216),Zt (v.toNat/65536),Zt (v.toNat/256),Zt v.toNat]:=by
 have hv:=v.toNat_lt;have s1:∀n:UInt64,(n>>>8).toNat=n.toNat/256:=fun n=>by rw[UInt64.toNat_shiftRight,show(8:UInt64).toNat%64=8 from rfl,Nat.shiftRight_eq_div_pow]
 have s2:∀n:UInt64,n.toUInt8=Zt n.toNat:=fun n=>by
  apply Z9.1;rw[UInt64.toNat_toUInt8,Z0]
 show[(v.toUInt64>>>8>>>8>>>8).toUInt8,(v.toUInt64>>>8>>>8).toUInt8,(v.toUInt64>>>8).toUInt8,v.toUInt64.toUInt8]=_;rw[s2,s2,s2,s2,s1,s1,s1,UInt32.toNat_toUInt64];simp only[Nat.div_div_eq_div_mul]
theorem Vj {b:Bs} (h:b.length=4):∃p q r s,b=[p,q,r,s]:=by
 match b,h with
 |[p,q,r,s],_=>exact⟨p,q,r,s,rfl⟩
theorem xN (a b c d:UInt8):(o9 [a,b,c,d]).toNat=((a.toNat*256+b.toNat)*256+c.toNat)*256+d.toNat:=by
 have ha:=a.toNat_lt;have hb:=b.toNat_lt;have hc:=c.toNat_lt;have hd:=d.toNat_lt;rw[o9,UInt64.toNat_toUInt32,Vk];omega
theorem sA (v:UInt32):o9 (M0 v)=v:=by
 have hv:=v.toNat_lt;apply UInt32.toNat_inj.1;rw[CB,xN];simp only[Z0];omega
theorem vC {b:Bs} (h:b.length=4):M0 (o9 b)=b:=by
 obtain⟨p,q,r,s,rfl⟩:=Vj h;have hp:=p.toNat_lt;have hq:=q.toNat_lt;have hr:=r.toNat_lt;have hs:=s.toNat_lt;rw[CB,xN];have e:∀(x:UInt8) (n:Nat),n%256=x.toNat->Zt n=x:=fun x n h=>by
  apply Z9.1;rw[Z0,<-h]
 rw[e p _ (by omega),e q _ (by omega),e r _ (by omega),e s _ (by omega)]
theorem kv (v:UInt32):o6 (n8 v)=v:=by
 rw[o6,n8,Z5];exact sA v
theorem kO {b:Bs} (h:b.length=4):n8 (o6 b)=b:=by
 have:=vC (b:=b.reverse) (by rw[Zm,h]);show(M0 (o9 b.reverse)).reverse=b;rw[this,Z5]
theorem wa {a b:Bs} {n:Nat} (ha:a.length=n) (hb:b.length=n):sub (a++b) 0 n=a/\sub (a++b) n n=b:=by
 subst ha;refine⟨by simp[sub],?_⟩;simp only[sub,List.drop_left];exact Jc (by omega)
theorem vZ {b:Bs} {n m:Nat} (h:b.length=n+m):sub b 0 n++sub b n m=b:=by
 rw[H6 b n m (by omega)];exact Z3 n b
theorem Bp (r:W2):(o9 (sub (Y4 r) 0 4),o9 (sub (Y4 r) 4 4))=r:=by
 obtain⟨h1,h2⟩:=wa (gJ r.1) (gJ r.2);rw[Y4,h1,h2,sA,sA]
theorem qH {b:Bs} (h:b.length=8):Y4 (o9 (sub b 0 4),o9 (sub b 4 4))=b:=by
 rw[Y4,vC (by rw[j6];omega),vC (by rw[j6];omega)];exact vZ h
theorem Vc (r:W2):(o6 (sub (ar r) 0 4),o6 (sub (ar r) 4 4))=r:=by
 obtain⟨h1,h2⟩:=wa (C9 r.1) (C9 r.2);rw[ar,h1,h2,kv,kv]
theorem CD {b:Bs} (h:b.length=8):ar (o6 (sub b 0 4),o6 (sub b 4 4))=b:=by
 rw[ar,kO (by rw[j6];omega),kO (by rw[j6];omega)];exact vZ h
theorem a2w (k:List UInt32) (x):O3 k (O4 k x)=x:=by
 obtain⟨v,w,s⟩:=x;simp only[O3,O4,Z2]
theorem a2y (k:List UInt32) (x):O4 k (O3 k x)=x:=by
 obtain⟨v,w,s⟩:=x;simp only[O3,O4,Z1]
theorem a2z (k:List UInt32) (n:Nat) (x):(it (O4 k) n x).2.2=it (· +D9) n x.2.2:=by
 induction n with
 |zero=>rfl
 |succ n ih=>show(O4 k _).2.2=_+D9;rw[<-ih];rfl
theorem a2x (k:List UInt32) (n:Nat) (x):(it (O3 k) n x).2.2=it (· -D9) n x.2.2:=by
 induction n with
 |zero=>rfl
 |succ n ih=>show(O3 k _).2.2=_-D9;rw[<-ih];rfl
theorem Uk:it (· +D9) 32 0=3337565984:=by decide
theorem Uj:it (· -D9) 32 3337565984=0:=by decide
def mc (k:List UInt32) (p:W2):W2:=((it (O4 k) 32 (p.1,p.2,0)).1,(it (O4 k) 32 (p.1,p.2,0)).2.1)
def mb (k:List UInt32) (p:W2):W2:=((it (O3 k) 32 (p.1,p.2,3337565984)).1,(it (O3 k) 32 (p.1,p.2,3337565984)).2.1)
theorem a2F (k p):mb k (mc k p)=p:=by
 have h:=uN (a2w k) 32 (p.1,p.2,0);have hs:=(a2z k 32 (p.1,p.2,0)).trans Uk;have e:((it (O4 k) 32 (p.1,p.2,0)).1,(it (O4 k) 32 (p.1,p.2,0)).2.1,(3337565984:UInt32))=it (O4 k) 32 (p.1,p.2,0):=by rw[<-hs]
 simp only[mb,mc,e,h]
theorem a2G (k p):mc k (mb k p)=p:=by
 have h:=uN (a2y k) 32 (p.1,p.2,3337565984);have hs:=(a2x k 32 (p.1,p.2,3337565984)).trans Uj;have e:((it (O3 k) 32 (p.1,p.2,3337565984)).1,(it (O3 k) 32 (p.1,p.2,3337565984)).2.1,(0:UInt32))=it (O3 k) 32 (p.1,p.2,3337565984):=by rw[<-hs]
 simp only[mb,mc,e,h]
theorem Fy (key:Bs) (back:Bool) (b:Bs):xF key back b=if back then mb (z7 o9 key 4) (o9 (sub b 0 4),o9 (sub b 4 4))else mc (z7 o9 key 4) (o9 (sub b 0 4),o9 (sub b 4 4)):=by
 cases back
 ·unfold xF mc;rw[if_neg (by decide),if_neg (by decide)]
 ·unfold xF mb;rw[if_pos rfl,if_pos rfl]
theorem a2H {key:Bs} {b:Bs} (hb:b.length=8) (back:Bool):Y4 (xF key (!back) (Y4 (xF key back b)))=b:=by
 rw[Fy,Bp,Fy];cases back
 ·simp only[Bool.not_false,if_true];rw[if_neg (by decide),a2F,qH hb]
 ·simp only[Bool.not_true,if_true];rw[if_neg (by decide),a2G,qH hb]
def S2 {α:Type} (x:α×α):α×α:=(x.2,x.1)
theorem AG:∀(ks:List UInt32) (x:W2),S2 (ks.reverse.foldl P7 (S2 (ks.foldl P7 x)))=x
 |[],_=>rfl
 |k::r,x=>by
  rw[List.reverse_cons,Zy,Zw,Zw,List.foldl_nil];have:=AG r (P7 x k);have e:r.reverse.foldl P7 (S2 (r.foldl P7 (P7 x k)))=S2 (P7 x k):=(congrArg S2 this :);rw[e];simp only[S2,P7,dU]
theorem BA (ks:List UInt32) (x:W2):aZ ks.reverse (aZ ks x.1 x.2).1 (aZ ks x.1 x.2).2=x:=by
 obtain⟨v,w⟩:=x;have h:=AG ks (v,w);unfold aZ;generalize ks.foldl P7 (v,w)=z at h ⊢;exact h
theorem Vo {key:Bs} {b:Bs} (hb:b.length=8) (back:Bool):Y4 (mF key (!back) (Y4 (mF key back b)))=b:=by
 have h:=Bp (mF key back b);have h1:o9 (sub (Y4 (mF key back b)) 0 4)=(mF key back b).1:=congrArg Prod.fst h;have h2:o9 (sub (Y4 (mF key back b)) 4 4)=(mF key back b).2:=congrArg Prod.snd h;rw[mF,h1,h2];cases back
 ·rw[if_pos (by rfl)];simp only[mF];rw[if_neg (by decide)];rw[BA (B6 (z7 o9 key 8)) (o9 (sub b 0 4),o9 (sub b 4 4)),qH hb]
 ·rw[if_neg (by decide)];simp only[mF,if_true];have:=BA (B6 (z7 o9 key 8)).reverse (o9 (sub b 0 4),o9 (sub b 4 4));rw[Z5]at this;rw[this,qH hb]
theorem Xb (s:List UInt32) (x:W2) (r:Nat):gM s (gN s x r) r=x:=by
 obtain⟨a,c⟩:=x;have h32:∀v:UInt32,(v%32).toNat<32:=fun v=>by rw[UInt32.toNat_mod];exact Zu _ (by decide)
 have e1:rB s r (gN s (a,c) r)=c:=by
  simp only[rB,gN,Z2];rw[gO _ (h32 _) (Zu _ (by decide)) (by have:=h32 (rA s r (a,c));omega),dU]
 simp only[gM,e1];simp only[gN,rA,Z2];rw[gO _ (h32 _) (Zu _ (by decide)) (by have:=h32 c;omega),dU]
theorem Xf (s:List UInt32) (x:W2) (r:Nat):gN s (gM s x r) r=x:=by
 obtain⟨a,c⟩:=x;have h32:∀v:UInt32,(v%32).toNat<32:=fun v=>by rw[UInt32.toNat_mod];exact Zu _ (by decide)
 have e1:rA s r (gM s (a,c) r)=a:=by
  simp only[rA,gM];rw[dU,gO _ (Zu _ (by decide)) (h32 _) (by have:=h32 (rB s r (a,c));omega),Z1]
 simp only[gN,e1];simp only[gM,rB];rw[dU,gO _ (Zu _ (by decide)) (h32 _) (by have:=h32 a;omega),Z1]
theorem Xe {K:List UInt32} {b:Bs} (hb:b.length=8) (back:Bool):ar (rG K (!back) (ar (rG K back b)))=b:=by
 have h:=Vc (rG K back b);cases back
 ·simp only[rG,Bool.not_false]at h ⊢;rw[h];have e:C3 K (A9 K (o6 (sub b 0 4),o6 (sub b 4 4)) 12) 12=(o6 (sub b 0 4)+K.getD 0 0,o6 (sub b 4 4)+K.getD 1 0):=pL (Xb K) 12 _;rw[e];simp only[Z2];exact CD hb
 ·simp only[rG,Bool.not_true]at h ⊢;rw[h,A9];simp only[Z1];have e:=AN (Xf K) 12 (o6 (sub b 0 4),o6 (sub b 4 4));exact(congrArg ar e).trans (CD hb)
def x7 (x:Nat):Nat:=x*x%65537
theorem a0j (x y:Nat):x7 (x*y%65537)=x7 x*x7 y%65537:=by
 unfold x7;rw[<-Ja,<-Ja,Nat.mul_mul_mul_comm]
theorem vW (x y:Nat):∀n,it x7 (n+1) (x*y)=it x7 (n+1) x*it x7 (n+1) y%65537
 |0=>by show(x*y)*(x*y)%65537=(x*x%65537)*(y*y%65537)%65537;rw[<-Ja,Nat.mul_mul_mul_comm]
 |n+1=>by
  show x7 (it x7 (n+1) (x*y))=x7 (it x7 (n+1) x)*x7 (it x7 (n+1) y)%65537;rw[vW x y n,a0j]
theorem a0k {r:Nat} (h:r<=65537):x7 (65537-r)=x7 r:=by
 unfold x7;obtain⟨m,hm⟩:∃m,m+r=65537:=⟨65537-r,by omega⟩;rw[show 65537-r=m by omega];have e1:m*m+m*r=65537*m:=by rw[<-Nat.mul_add,hm,Jk]
 have e2:m*r+r*r=65537*r:=by rw[<-Nat.add_mul,hm]
 generalize m*m=a at e1 ⊢;generalize m*r=b at e1 e2;generalize r*r=c at e2 ⊢;omega
theorem Tx:∀x,x<257->1<=x->it x7 16 x=1:=by decide +kernel
theorem Wi:∀q,q<257->2<=q->65537%q≠0:=by decide +kernel
theorem uz:∀x,1<=x->x<65537->it x7 16 x=1:=by
 intro x;induction x using Nat.strongRecOn with
 |_ x ih=>
  intro h1 h2;by_cases hs:x<257
  ·exact Tx x hs h1
  ·have hdm:=Zx 65537 x;have hr:=Zu 65537 (show x>0 by omega);have hq:65537/x<257:=by
    rw[Nat.div_lt_iff_lt_mul (by omega)];omega
   have hq1:1<=65537/x:=by
    rw[Nat.le_div_iff_mul_le (by omega)];omega
   generalize 65537/x=q at hdm hq hq1;generalize 65537%x=r at hdm hr;have hr0:1<=r:=by
    rcases Nat.eq_zero_or_pos r with h0|h0
    ·exfalso;subst h0;rw[Nat.add_zero]at hdm;rcases Nat.lt_or_ge q 2 with h|h
     ·obtain rfl:q=1:=by omega
      omega
     ·exact Wi q hq h (by rw[<-hdm];exact Nat.mul_mod_left _ _)
    ·exact h0
   have f1:=ih q (by omega) hq1 (by omega);have f2:=ih r hr hr0 (by omega);have e:=vW x q 15;rw[f1,Ze]at e;have e2:it x7 16 (x*q)=it x7 16 r:=by
    rw[show x*q=65537-r by omega];show it x7 16 (65537-r)=_;have:∀y,it x7 16 y=it x7 15 (x7 y):=fun y=>(pV x7 15 y).symm;rw[this,this,a0k (by omega)]
   have a9:it x7 16 x<65537:=Zu _ (by decide);rw[e2,f2,Zr a9]at e;exact e.symm
theorem iY {a:Nat} (h:a<65536):1<=y7 a/\y7 a<65537:=by unfold y7;split<;>omega
theorem VH {x y:Nat} (hx:1<=x/\x<65537) (hy:1<=y/\y<65537):x*y%65537≠0:=by
 intro h;have e:=vW x y 15;rw[uz x hx.1 hx.2,uz y hy.1 hy.2]at e;have e2:it x7 16 (x*y)=0:=by
  have h0:x7 (x*y)=0:=by unfold x7;rw[Ja,h]
  have:it x7 16 (x*y)=it x7 15 (x7 (x*y)):=(pV x7 15 _).symm;rw[this,h0];decide
 rw[e2]at e;exact absurd e (by decide)
theorem a0m {r:Nat} (h1:1<=r) (h2:r<65537):y7 (r%65536)=r:=by unfold y7;split<;>omega
theorem lg {a b:Nat} (ha:a<65536) (hb:b<65536):y7 (F5 a b)=y7 a*y7 b%65537:=by
 have h:=VH (iY ha) (iY hb);exact a0m (by omega) (Zu _ (by decide))
theorem Dq {a b:Nat} (ha:a<65536) (hb:b<65536) (h:y7 a=y7 b):a=b:=by
 unfold y7 at h;split at h<;>split at h<;>omega
theorem Bb {a:Nat} (ha:a<65536):∀k,k<=16->y7 (it O9 k (1,a,65535)).1*y7 a%65537=it x7 k (y7 a)%65537/\y7 (it O9 k (1,a,65535)).2.1=it x7 k (y7 a)%65537
 |0,_=>⟨by show y7 1*y7 a%65537=y7 a%65537;rw[show y7 1=1 from rfl,Nat.one_mul],(Zr (iY ha).2).symm⟩
 |k+1,hk=>by
  obtain⟨h1,h2⟩:=Bb ha k (by omega);obtain⟨b1,b2,b3⟩:=pR ha k;have hodd:(it O9 k (1,a,65535)).2.2%2=1:=by
   rw[b3];have:∀k,k<16->65535/2^k%2=1:=by decide
   exact this k (by omega)
  show y7 (O9 (it O9 k (1,a,65535))).1*y7 a%65537=x7 (it x7 k (y7 a))%65537/\y7 (O9 (it O9 k (1,a,65535))).2.1=x7 (it x7 k (y7 a))%65537;generalize it O9 k (1,a,65535)=z at*
  simp only[O9,if_pos hodd];have hs:x7 (it x7 k (y7 a))%65537=(it x7 k (y7 a)%65537)*(it x7 k (y7 a)%65537)%65537:=by
   unfold x7;rw[Nat.mod_mod,<-Ja]
  rw[lg b1 b2,lg b2 b2,hs,<-h2];refine⟨?_,rfl⟩;rw[Jf,Nat.mul_right_comm,<-Jf,h1,<-h2]
theorem AZ {a:Nat} (ha:a<65536):y7 a*y7 (D2 a)%65537=1:=by
 have h:=(Bb ha 16 (by decide)).1;rw[uz _ (iY ha).1 (iY ha).2]at h;rw[Jk];exact h
theorem qo {a k:Nat} (ha:a<65536) (hk:k<65536):F5 (F5 a k) (D2 k)=a:=by
 refine Dq (F6 _ _) ha ?_;rw[lg (F6 _ _) (pT hk),lg ha hk,Jf,Nat.mul_assoc,Ja,AZ hk,Ze,Nat.mod_mod,Zr (iY ha).2]
theorem pU {a k:Nat} (ha:a<65536) (hk:k<65536):F5 (F5 a (D2 k)) k=a:=by
 refine Dq (F6 _ _) ha ?_;rw[lg (F6 _ _) hk,lg ha (pT hk),Jf,Nat.mul_assoc,Jk (y7 (D2 k)),Ja,AZ hk,Ze,Nat.mod_mod,Zr (iY ha).2]
theorem qe {a k:Nat} (ha:a<65536) (hk:k<65536):bQ (X0 a k) k=a:=by unfold bQ X0;omega
theorem ol {a k:Nat} (ha:a<65536) (hk:k<65536):X0 (bQ a k) k=a:=by unfold bQ X0;omega
theorem fy (a b:Nat):a^^^b^^^b=a:=by rw[Nat.xor_assoc,Nat.xor_self,Nat.xor_zero]
theorem rI (a d g:Nat):(a^^^g)^^^(d^^^g)=a^^^d:=by
 rw[Nat.xor_assoc,Nat.xor_comm g,fy]
theorem Gt (k o) (z:Q4):ai k o (ao k o z)=E3 z:=by
 obtain⟨a,c,d,e⟩:=z;simp only[ai,ao,E3];have f:∀g h,dG k o (a^^^g) (c^^^h) (d^^^g) (e^^^h)=dG k o a c d e:=fun g h=>by unfold dG;rw[rI]
 have g':∀g h,V9 k o (a^^^g) (c^^^h) (d^^^g) (e^^^h)=V9 k o a c d e:=fun g h=>by unfold V9;rw[rI,f]
 have h':∀g h,X7 k o (a^^^g) (c^^^h) (d^^^g) (e^^^h)=X7 k o a c d e:=fun g h=>by unfold X7;rw[f,g']
 rw[g',h',fy,fy,fy,fy]
theorem Vw (k o) (z:Q4):ao k o (E3 (ai k o z))=z:=by
 obtain⟨a,d,c,e⟩:=z;simp only[ai,ao,E3];have f:∀g h,dG k o (a^^^g) (c^^^h) (d^^^g) (e^^^h)=dG k o a c d e:=fun g h=>by unfold dG;rw[rI]
 have g':∀g h,V9 k o (a^^^g) (c^^^h) (d^^^g) (e^^^h)=V9 k o a c d e:=fun g h=>by unfold V9;rw[rI,f]
 have h':∀g h,X7 k o (a^^^g) (c^^^h) (d^^^g) (e^^^h)=X7 k o a c d e:=fun g h=>by unfold X7;rw[f,g']
 rw[g',h',fy,fy,fy,fy]
theorem Gs {k:List Nat} (hk:R7 k) (o) {z:Q4} (hz:F7 z):bD k o (E3 (t6 k o z))=z:=by
 obtain⟨a,c,d,e⟩:=z;obtain⟨h1,h2,h3,h4⟩:=hz;simp only[bD,t6,E3];rw[qo h1 (hk _),qe h2 (hk _),qe h3 (hk _),qo h4 (hk _)]
theorem UW {k:List Nat} (hk:R7 k) (o) {z:Q4} (hz:F7 z):t6 k o (bD k o z)=E3 z:=by
 obtain⟨a,d,c,e⟩:=z;obtain⟨h1,h2,h3,h4⟩:=hz;simp only[bD,t6,E3];rw[pU h1 (hk _),ol h3 (hk _),ol h2 (hk _),pU h4 (hk _)]
theorem Gr {k:List Nat} (hk:R7 k) (o) {z:Q4} (hz:F7 z):di k o (t6 k o (E3 z))=z:=by
 obtain⟨a,c,d,e⟩:=z;obtain⟨h1,h2,h3,h4⟩:=hz;simp only[di,t6,E3];rw[qo h1 (hk _),qe h3 (hk _),qe h2 (hk _),qo h4 (hk _)]
theorem UV {k:List Nat} (hk:R7 k) (o) {z:Q4} (hz:F7 z):t6 k o (E3 (di k o z))=z:=by
 obtain⟨a,d,c,e⟩:=z;obtain⟨h1,h2,h3,h4⟩:=hz;simp only[di,t6,E3];rw[pU h1 (hk _),ol h2 (hk _),ol h3 (hk _),pU h4 (hk _)]
theorem pM {α:Type} {P:α->Prop} {st bk:α->Nat->α} (h:∀x r,P x->bk (st x r) r=x) (hP:∀x r,P x->P (st x r)):∀(n:Nat) (x:α),P x->(List.range n).foldl (fun x r=>bk x (n-1-r)) ((List.range n).foldl st x)=x
 |0,_,_=>rfl
 |n+1,x,hx=>by
  have e1:(List.range (n+1)).foldl st x=st ((List.range n).foldl st x) n:=by rw[Zo,Zy];rfl
  have hp:∀m,P ((List.range m).foldl st x):=by
   intro m;induction m with
   |zero=>exact hx
   |succ m ih=>rw[Zo,Zy];exact hP _ _ ih
  rw[e1,Jl,Zw,List.foldl_map];rw[show n+1-1-0=n by omega,h _ _ (hp n)];have e:∀(l:List Nat) (y:α),l.foldl (fun x r=>bk x (n+1-1-Nat.succ r)) y=l.foldl (fun x r=>bk x (n-1-r)) y:=by
   intro l y;congr 1;funext x r;congr 1;omega
  rw[e];exact pM h hP n x hx
theorem TS {α:Type} {P:α->Prop} {st bk:α->Nat->α} (h:∀x r,P x->st (bk x r) r=x) (hP:∀x r,P x->P (bk x r)) (n:Nat) (x:α) (hx:P x):(List.range n).foldl st ((List.range n).foldl (fun x r=>bk x (n-1-r)) x)=x:=by
 have:=pM (P:=P) (st:=fun x r=>bk x (n-1-r)) (bk:=fun x r=>st x (n-1-r)) (fun x r=>h x _) (fun x r=>hP x _) n x hx;refine Eq.trans (na (fun y r hr=> ?_) _) this;show st y r=st y (n-1-(n-1-r));rw[show n-1-(n-1-r)=r by omega]
theorem Ut {k:List Nat} (hk:R7 k) {x:Q4} (hx:F7 x):F9 (w6 k) (F9 k x)=x:=by
 rw[<-sD k hk];unfold V1 F9;rw[Gr hk 48 (qQ k hx 8)];exact pM (P:=F7) (st:=kX k) (bk:=fun x r=>bD k (6*r) (ai k (6*r) x)) (fun x r h=>by
  show bD k (6*r) (ai k (6*r) (ao k (6*r) (t6 k (6*r) x)))=x;rw[Gt,Gs hk _ h]) (fun x r h=>BE _ _ (eV _ _ _)) 8 x hx
theorem Uu {k:List Nat} (hk:R7 k) {x:Q4} (hx:F7 x):F9 k (F9 (w6 k) x)=x:=by
 rw[<-sD k hk];unfold V1 F9;have e:=TS (P:=F7) (st:=kX k) (bk:=fun x r=>bD k (6*r) (ai k (6*r) x)) (fun x r h=>by
  show ao k (6*r) (t6 k (6*r) (bD k (6*r) (ai k (6*r) x)))=x;rw[UW hk _ ⟨W8 h.1 (F6 _ _),W8 h.2.1 (F6 _ _),W8 h.2.2.1 (cu _ _),W8 h.2.2.2 (cu _ _)⟩,Vw]) (fun x r h=>⟨F6 _ _,gq _ _,gq _ _,F6 _ _⟩) 8 (di k 48 x) ⟨F6 _ _,gq _ _,gq _ _,F6 _ _⟩
 have e':G3 k ((List.range 8).foldl (jA k) (di k 48 x)) 8=di k 48 x:=e;rw[e',UV hk 48 hx]
theorem Va {x:Q4} (h:F7 x):I8 (W6 x)=x:=by
 obtain⟨a,c,d,e⟩:=x;obtain⟨h1,h2,h3,h4⟩:=h;have hn:∀n,n<65536->(Zt (n/256)).toNat*256+(Zt n).toNat=n:=fun n hn=>by
  simp only[Z0];omega
 show(_,_,_,_)=(a,c,d,e);have e1:aB (W6 (a,c,d,e)) 0=a:=hn a h1;have e2:aB (W6 (a,c,d,e)) 1=c:=hn c h2;have e3:aB (W6 (a,c,d,e)) 2=d:=hn d h3;have e4:aB (W6 (a,c,d,e)) 3=e:=hn e h4;rw[e1,e2,e3,e4]
theorem CE {b:Bs} (h:b.length=8):W6 (I8 b)=b:=by
 match b,h with
 |[b0,b1,b2,b3,b4,b5,b6,b7],_=>
  have hp:∀x y:UInt8,bi (x.toNat*256+y.toNat)=[x,y]:=fun x y=>by
   have hx:=x.toNat_lt;have hy:=y.toNat_lt;have e:∀(x:UInt8) (n:Nat),n%256=x.toNat->Zt n=x:=fun x n h=>by
    apply Z9.1;rw[Z0,<-h]
   rw[bi,e x _ (by omega),e y _ (by omega)]
  show bi (b0.toNat*256+b1.toNat)++bi (b2.toNat*256+b3.toNat)++bi (b4.toNat*256+b5.toNat)++bi (b6.toNat*256+b7.toNat)=_;rw[hp,hp,hp,hp];rfl
theorem Bo (b):F7 (I8 b):=⟨bu _ _,bu _ _,bu _ _,bu _ _⟩
theorem a1Z (k x):F7 (F9 k x):=eV _ _ _
theorem Uv {key:Bs} {b:Bs} (hb:b.length=8) (back:Bool):W6 (F9 (if !back then w6 (R4 key)else R4 key) (I8 (W6 (F9 (if back then w6 (R4 key)else R4 key) (I8 b)))))=b:=by
 rw[Va (a1Z _ _)];cases back
 ·rw[if_pos (by rfl),if_neg (by decide),Ut (nm key) (Bo b),CE hb]
 ·rw[if_neg (by decide),if_pos (by rfl),Uu (nm key) (Bo b),CE hb]
theorem rE (k o) (x:W4):wh k o (wh k o x)=x:=by
 obtain⟨a,b,c,d⟩:=x;simp only[wh,dU]
theorem wc (x:W4):D0 (D0 x)=x:=rfl
theorem a0y (k s) (x:W4) (r):D0 (dQ k s (D0 (gR k s x r)) r)=x:=by
 obtain⟨a,b,c,d⟩:=x;simp only[D0,dQ,gR];rw[gO _ (by decide) (by decide) (by decide),dU,dU,gO _ (by decide) (by decide) (by decide)]
theorem a0z (k s) (x:W4) (r):gR k s (D0 (dQ k s (D0 x) r)) r=x:=by
 obtain⟨a,b,c,d⟩:=x;simp only[D0,dQ,gR];rw[dU,gO _ (by decide) (by decide) (by decide),gO _ (by decide) (by decide) (by decide),dU]
theorem uC {α:Type} {f:α->Nat->α} {g:α->α} (hg:∀x,g (g x)=x):∀(l:List Nat) (y:α),l.foldl (fun x r=>g (f (g x) r)) y=g (l.foldl f (g y))
 |[],y=>(hg y).symm
 |a::l,y=>by
  rw[Zw,Zw,uC hg l,hg]
theorem Dz (k s) (y:W4):(List.range 16).foldl (fun x r=>D0 (dQ k s (D0 x) (16-1-r))) y=D0 (bq k s (D0 y) 16):=
 uC (f:=fun x r=>dQ k s x (15-r)) wc (List.range 16) y
theorem a10 (k s) (x:W4):ce k s (cf k s x)=x:=by
 unfold ce cf;rw[rE];have e:=pL (st:=gR k s) (bk:=fun x r=>D0 (dQ k s (D0 x) r)) (a0y k s) 16 (wh k 0 x);rw[<-Dz];exact(congrArg (wh k 0) e).trans (rE _ _ _)
theorem a11 (k s) (x:W4):cf k s (ce k s x)=x:=by
 unfold ce cf;rw[rE];have e:=AN (st:=gR k s) (bk:=fun x r=>D0 (dQ k s (D0 x) r)) (a0z k s) 16 (D0 (wh k 4 x));rw[Dz,wc]at e;have e':cd k s (D0 (bq k s (wh k 4 x) 16)) 16=D0 (wh k 4 x):=e;rw[e',wc,rE]
theorem CF (x:W4):K5 x 4=n8 x.1++(n8 x.2.1++(n8 x.2.2.1++(n8 x.2.2.2++[]))):=rfl
theorem ja {a b:Bs} {n i m:Nat} (ha:a.length=n):sub (a++b) (n+i) m=sub b i m:=by
 subst ha;simp only[sub,Je,List.drop_append];rw[List.drop_eq_nil_of_le (by omega),Zl,show a.length+i-a.length=i by omega]
theorem rc {a b:Bs} {n:Nat} (ha:a.length=n):sub (a++b) 0 n=a:=by subst ha;simp[sub]
theorem Vb (x:W4):y5 (K5 x 4)=x:=by
 obtain⟨a,b,c,d⟩:=x;rw[CF];unfold y5;have e1:∀t,sub (n8 a++t) 0 4=n8 a:=fun t=>rc (C9 a);have e2:∀t,sub (n8 a++(n8 b++t)) 4 4=n8 b:=fun t=>(ja (i:=0) (C9 a)).trans (rc (C9 b));have e3:∀t,sub (n8 a++(n8 b++(n8 c++t))) 8 4=n8 c:=fun t=>(ja (i:=4) (C9 a)).trans ((ja (i:=0) (C9 b)).trans (rc (C9 c)));have e4:∀t,sub (n8 a++(n8 b++(n8 c++(n8 d++t)))) 12 4=n8 d:=fun t=>(ja (i:=8) (C9 a)).trans ((ja (i:=4) (C9 b)).trans ((ja (i:=0) (C9 c)).trans (rc (C9 d))));rw[e1,e2,e3,e4,kv,kv,kv,kv]
theorem CG {b:Bs} (h:b.length=16):K5 (y5 b) 4=b:=by
 rw[CF];unfold y5;simp only
 rw[kO (by rw[j6];omega),kO (by rw[j6];omega),kO (by rw[j6];omega),kO (by rw[j6];omega),Jg];have e:∀(i:Nat),sub b i 4++b.drop (i+4)=b.drop i:=fun i=>by
  rw[<-List.drop_drop];exact Z3 4 _
 have e3:sub b 12 4=b.drop 12:=H6 _ _ _ (by omega);rw[e3,e 8,e 4];exact Z3 4 b
theorem a12 {k s:List UInt32} {b:Bs} (hb:b.length=16) (back:Bool):K5 (if !back then ce k s (y5 (K5 (if back then ce k s (y5 b)else cf k s (y5 b)) 4))else cf k s (y5 (K5 (if back then ce k s (y5 b)else cf k s (y5 b)) 4))) 4=b:=by
 rw[Vb];cases back
 ·rw[if_pos (by rfl),if_neg (by decide),a10,CG hb]
 ·rw[if_neg (by decide),if_pos (by rfl),a11,CG hb]
theorem a2C (a b:UInt8):a^^^b^^^b=a:=by rw[Z8,UInt8.xor_self,Jq]
theorem gY:∀{a k:Bs},a.length<=k.length->i7 (i7 a k) k=a
 |[],_,_=>by simp[i7]
 |a::r,[],h=>by simp at h
 |a::r,b::k,h=>by
  have ih:=gY (a:=r) (k:=k) (by simpa using h);unfold i7 at ih ⊢;rw[Jb,Jb,ih,a2C]
theorem iH {a b:Bs} (hl:a.length=b.length) (h:∀i,i<a.length->a.getD i 0=b.getD i 0):a=b:=by
 apply List.ext_getElem hl;intro i h1 h2;have:=h i h1
 rwa [Zc,Zp h1,Zc,Zp h2]at this
theorem xT:∀j,j<4->∀x,x<256->((fC ((j+2)%4)).getD ((fC j).getD x 0).toNat 0).toNat=x:=by decide +kernel
theorem wU {k b n i} (h:i<n):(C7 k b n).getD i 0=(fC ((i+2*(k-1))%4)).getD (b.getD i 0).toNat 0:=by simp[C7,Zc,h]
theorem oj {b:Bs} {k j:Nat} (hb:b.length=16) (h:k=1/\j=2\/k=2/\j=1):C7 k (C7 j b 16) 16=b:=by
 refine iH (by rw[M9,hb]) fun i h1=> ?_;have hi:i<16:=by rw[M9]at h1;exact h1
 rw[wU hi,wU hi];apply Z9.1;have hx:=(b.getD i 0).toNat_lt;rcases h with ⟨rfl,rfl⟩|⟨rfl,rfl⟩
 ·have:=xT ((i+2*(2-1))%4) (Zu _ (by decide)) _ hx;rw[show ((i+2*(2-1))%4+2)%4=(i+2*(1-1))%4 by omega]at this;exact this
 ·have:=xT ((i+2*(1-1))%4) (Zu _ (by decide)) _ hx;rw[show ((i+2*(1-1))%4+2)%4=(i+2*(2-1))%4 by omega]at this;exact this
def xS (f:Nat->UInt8) (n:Nat):UInt8:=(List.range n).foldl (fun s i=>s^^^f i) 0
theorem nX (f n):xS f (n+1)=xS f n^^^f n:=by simp[xS,Zo]
theorem FA (f g:Nat->UInt8):∀n,xS (fun i=>f i^^^g i) n=xS f n^^^xS g n
 |0=>by show(0:UInt8)=0^^^0;decide
 |n+1=>by
  rw[nX,nX,nX,FA f g n];generalize xS f n=a;generalize xS g n=b;generalize f n=c;generalize g n=d;rw[Z8,Z8,<-Z8 b,UInt8.xor_comm b,Z8 c]
theorem FC:∀n,xS (fun _=>0) n=0
 |0=>rfl
 |n+1=>by rw[nX,FC n];decide
def xM (b:Bs) (m:Nat):UInt8:=xS (fun i=>if m.testBit i then b.getD i 0 else 0) 16
theorem a2A (b m n):xM b (m^^^n)=xM b m^^^xM b n:=by
 unfold xM;rw[<-FA];congr 1;funext i;rw[Nat.testBit_xor];cases m.testBit i<;>cases n.testBit i<;>simp
theorem FB (v:UInt8) (j:Nat):∀n,xS (fun i=>if j=i then v else 0) n=if j<n then v else 0
 |0=>by rw[if_neg (by omega)];rfl
 |n+1=>by
  rw[nX,FB v j n];by_cases h:j<n
  ·rw[if_pos h,if_neg (by omega),if_pos (by omega),Jq]
  ·by_cases h2:j=n
   ·rw[if_neg h,if_pos h2,if_pos (by omega),UInt8.zero_xor]
   ·rw[if_neg h,if_neg h2,if_neg (by omega),Jq]
theorem Fz {b:Bs} {j:Nat} (h:j<16):xM b (2^j)=b.getD j 0:=by
 unfold xM;have e:(fun i=>if (2^j).testBit i then b.getD i 0 else 0)=fun i=>if j=i then b.getD j 0 else 0:=by
  funext i;rw[Nat.testBit_two_pow];by_cases hi:j=i
  ·subst hi;simp
  ·simp[hi]
 rw[e,FB,if_pos h]
theorem a2B (b):xM b 0=0:=by
 unfold xM;have e:(fun i=>if (0:Nat).testBit i then b.getD i 0 else 0)=fun _=>(0:UInt8):=by funext i;simp
 rw[e,FC]
theorem wF (b:Bs) (f:Nat->Nat):∀n,(List.range n).foldl (fun s t=>s^^^xM b (f t)) 0=xM b ((List.range n).foldl (fun m t=>m^^^f t) 0)
 |0=>(a2B b).symm
 |n+1=>by
  rw[Zo,Zy,Zy];show _^^^xM b (f n)=xM b (_^^^f n);rw[a2A,wF b f n]
def jq (p:Nat):Nat:=(List.range 7).foldl (fun m t=>m^^^2^((s6 p).getD t 0)) 0
theorem xc:∀p,p<16->∀t,t<7->(s6 p).getD t 0<16:=by decide +kernel
theorem FT:∀p,p<16->(List.range 7).foldl (fun m t=>m^^^jq ((s6 p).getD t 0)) 0=2^p:=by decide +kernel
theorem xe {b:Bs} {p:Nat} (hp:p<16):aX b p 7=xM b (jq p):=by
 unfold jq;rw[<-wF];exact na (fun x t ht=>by rw[Fz (xc p hp t ht)]) 0
theorem wW {b:Bs} {p:Nat} (hp:p<16):(D7 b).getD p 0=xM b (jq p):=by
 rw[<-xe hp];simp[D7,Zc,hp]
theorem wX {b:Bs} (hb:b.length=16):D7 (D7 b)=b:=by
 refine iH (by simp[D7,hb]) fun p h1=> ?_;have hp:p<16:=by simpa [D7]using h1
 have e:(D7 (D7 b)).getD p 0=aX (D7 b) p 7:=by rw[wW hp,<-xe hp]
 have e3:aX (D7 b) p 7=(List.range 7).foldl (fun s t=>s^^^xM b (jq ((s6 p).getD t 0))) 0:=na (fun x t ht=>by rw[wW (xc p hp t ht)]) 0;rw[e,e3,wF b (fun t=>jq ((s6 p).getD t 0)),FT p hp,Fz hp]
theorem FS (b):(D7 b).length=16:=by simp[D7]
theorem Gj {q:Nat} {key b:Bs} {n:Nat} (h:aG q key n) (hb:b.length=16):fD q key n (db q key n b)=b:=by
 have hK:=dY h;have hE:=mj h hb;have h3:=h.h3;have st:∀i,i<=n-2->M8 q key n (db q key n b) i=O5 q key b (n-2-i):=by
  intro i;induction i with
  |zero=>
   intro _;show i7 (C7 1 (i7 (i7 (C7 2 (i7 (O5 q key b (n-2)) (o8 q key (n-2))) 16) (o8 q key (n-1))) (o8 q key (n-1))) 16) (o8 q key (n-2))=_;rw[gY (by rw[M9,hK];exact Zh _),oj (w7 (hE _) (hK _)) (.inl ⟨rfl,rfl⟩),gY (by rw[hE,hK];exact Zh _)];rfl
  |succ i ih=>
   intro hi;have e:n-2-i=n-3-i+1:=by omega
   have e2:n-2-(i+1)=n-3-i:=by omega
   show i7 (C7 (2-(n-3-i)%2) (D7 (M8 q key n (db q key n b) i)) 16) (o8 q key (n-3-i))=_;rw[ih (by omega),e,e2];generalize n-3-i=r;show i7 (C7 (2-r%2) (D7 (D7 (C7 (1+r%2) (i7 (O5 q key b r) (o8 q key r)) 16))) 16) (o8 q key r)=_;rw[wX (M9 _ _ _),oj (w7 (hE _) (hK _)) (by omega),gY (by rw[hE,hK];exact Zh _)]
 have:=st (n-2) (Zh _);rw[Js]at this;exact this
theorem Gk {q:Nat} {key b:Bs} {n:Nat} (h:aG q key n) (hb:b.length=16):db q key n (fD q key n b)=b:=by
 have hK:=dY h;have hD:=oh (b:=b) h;have h3:=h.h3;have st:∀r,r<=n-2->O5 q key (fD q key n b) r=M8 q key n b (n-2-r):=by
  intro r;induction r with
  |zero=>intro _;rfl
  |succ r ih=>
   intro hr;have e:n-2-r=n-3-r+1:=by omega
   have e2:n-2-(r+1)=n-3-r:=by omega
   have e3:n-3-(n-3-r)=r:=by omega
   show D7 (C7 (1+r%2) (i7 (O5 q key (fD q key n b) r) (o8 q key r)) 16)=_;rw[ih (by omega),e,e2];show D7 (C7 (1+r%2) (i7 (i7 (C7 (2-(n-3-(n-3-r))%2) (D7 (M8 q key n b (n-3-r))) 16) (o8 q key (n-3-(n-3-r)))) (o8 q key r)) 16)=_;rw[e3,gY (by rw[M9,hK];exact Zh _),oj (FS _) (by omega),wX (hD _)]
 have e:=st (n-2) (Zh _);rw[Js]at e;unfold db;rw[e];show i7 (C7 2 (i7 (i7 (C7 1 (i7 b (o8 q key (n-1))) 16) (o8 q key (n-2))) (o8 q key (n-2))) 16) (o8 q key (n-1))=b;rw[gY (by rw[M9,hK];exact Zh _),oj (w7 hb (hK _)) (.inr ⟨rfl,rfl⟩),gY (by rw[hb,hK];exact Zh _)]
def ki:List Nat:=(List.range 64).map (· +1)
theorem Cx {b:Bs} (hb:b.length=8):B3 ki b=b:=by
 apply nQ (by rw[dK,hb];rfl);intro j hj;rw[dK]at hj;have hj:j<64:=hj;have h8:ki.length/8=8:=rfl;unfold B3;rw[h8,fw (by omega)];have:ki.getD j 0=j+1:=by simp[ki,Zc,hj]
 rw[this];rfl
theorem AL:(u6.map fun k=>br.getD (k-1) 0)=ki/\(br.map fun k=>u6.getD (k-1) 0)=ki:=by decide +kernel
theorem Wu {b:Bs} (hb:b.length=8):B3 u6 (B3 br b)=b:=by
 rw[vB (by rw[gS]) (by rw[L3,gS];exact wj),AL.1,Cx hb]
theorem Wv {b:Bs} (hb:b.length=8):B3 br (B3 u6 b)=b:=by
 rw[vB (by rw[L3]) (by rw[L3,gS];exact wi),AL.2,Cx hb]
theorem Ob {x:L2} {k:Bs} (h:x.1.length=4):S2 (eG (S2 (eG x k)) k)=x:=by
 obtain⟨a,c⟩:=x;simp only[S2,eG];rw[gY (by rw[eE,h];exact Zh _)]
theorem NX {ks:List (Bs)} {x:L2} (h1:x.1.length=4) (h2:x.2.length=4):dN ks.reverse (S2 (dN ks x ks.length)) ks.length=S2 x:=by
 have e:=pM (P:=fun x:L2=>x.1.length=4/\x.2.length=4) (st:=fun x i=>eG x (ks.getD i [])) (bk:=fun x i=>S2 (eG (S2 x) (ks.getD i []))) (fun x r h=>Ob h.1) (fun x r h=>⟨h.2,w7 h.1 (eE _ _)⟩) ks.length x ⟨h1,h2⟩;have c:=uC (f:=fun x r=>eG x (ks.getD (ks.length-1-r) [])) (g:=S2) (fun _=>rfl) (List.range ks.length) (dN ks x ks.length);have d:dN ks.reverse (S2 (dN ks x ks.length)) ks.length=(List.range ks.length).foldl (fun x r=>eG x (ks.getD (ks.length-1-r) [])) (S2 (dN ks x ks.length)):=by
  unfold dN;exact na (fun y r hr=>by rw[Db hr]) _
 rw[d];have:=congrArg S2 (c.symm.trans e);exact this
theorem mN {ks:List (Bs)} {b:Bs} (hb:b.length=8):C8 ks.reverse (C8 ks b)=b:=by
 obtain⟨i1,i2⟩:=mK b;obtain⟨y1,y2⟩:=ph (ks:=ks) i1 i2 ks.length;have e:v9 (C8 ks b)=S2 (dN ks (v9 b) ks.length):=by
  obtain⟨s1,s2⟩:=wa y2 y1;unfold C8 v9;rw[Wu (by rw[Zb];unfold v9 at y1 y2;omega)];unfold v9 at s1 s2;rw[s1,s2];rfl
 have hr:ks.reverse.length=ks.length:=Zm;rw[C8,e,hr,NX i1 i2];show B3 br ((v9 b).1++(v9 b).2)=b;have hp:(B3 u6 b).length=8:=by rw[dK,L3]
 have:(v9 b).1++(v9 b).2=B3 u6 b:=vZ (n:=4) (m:=4) hp;rw[this,Wv hb]
theorem pj {ks:List (Bs)} {b:Bs} (hb:b.length=8):C8 ks (C8 ks.reverse b)=b:=by
 have:=mN (ks:=ks.reverse) hb
 rwa [Z5]at this
theorem tP:∀{K:List (List (Bs))} {b:Bs},(K.length=1\/K.length=3)->b.length=8->∀back,I5 K (!back) (I5 K back b K.length) K.length=b
 |[k],b,_,hb,false=>by show C8 k.reverse (C8 k b)=b;exact mN hb
 |[k],b,_,hb,true=>by show C8 k (C8 k.reverse b)=b;exact pj hb
 |[k,l,m],b,_,hb,false=>by
  show C8 k.reverse (C8 l (C8 m.reverse (C8 m (C8 l.reverse (C8 k b)))))=b;rw[mN (mO _ _),pj (mO _ _),mN hb]
 |[k,l,m],b,_,hb,true=>by
  show C8 m (C8 l.reverse (C8 k (C8 k.reverse (C8 l (C8 m.reverse b)))))=b;rw[pj (mO _ _),mN (mO _ _),pj hb]
 |[],_,h,_,_=>by simp at h
 |[_,_],_,h,_,_=>by simp at h
 |_::_::_::_::_,_,h,_,_=>by simp at h
theorem GI {t:Int} {key b:Bs} {s:Nat} (ht:t7 t) (hs:n9 t=s) (hv:(key.length:Int)∈n6 t) (hb:b.length=s) (back:Bool):cF t key (!back) (cF t key back b)=b:=by
 rcases ht with rfl|rfl|rfl|rfl|rfl|rfl|rfl|rfl
 ·have h8:b.length=8:=by simp[n9]at hs;omega
  have hn:key.length/8=1:=by simp[n6]at hv;omega
  have hl:=fJ (key:=key) (n:=1) (by decide);show fL key (!back) (fL key back b)=b;unfold fL;rw[hn];exact tP (by rw[hl];decide) h8 back
 ·have h8:b.length=8:=by simp[n9]at hs;omega
  have hn:key.length/8=2\/key.length/8=3:=by simp[n6]at hv;omega
  show fL key (!back) (fL key back b)=b;unfold fL;rcases hn with hn|hn
  ·have hl:=fJ (key:=key) (n:=2) (by decide);rw[hn];exact tP (by rw[hl];decide) h8 back
  ·have hl:=fJ (key:=key) (n:=3) (by decide);rw[hn];exact tP (by rw[hl];decide) h8 back
 ·have h8:b.length=8:=by simp[n9]at hs;omega
  exact Uv h8 back
 ·have h8:b.length=8:=by simp[n9]at hs;omega
  exact a2H h8 back
 ·have h8:b.length=8:=by simp[n9]at hs;omega
  exact Vo h8 back
 ·have h8:b.length=16:=by simp[n9]at hs;omega
  exact a12 h8 back
 ·have h8:b.length=16:=by simp[n9]at hs;omega
  have ok:aG (aQ key) key (aN key):=by
   have hk:key.length=16\/key.length=24\/key.length=32:=by simp[n6]at hv;omega
   refine⟨?_,?_,?_,?_⟩<;>first|omega|(simp only[aN,aQ];omega)
  cases back
  ·exact Gj ok h8
  ·exact Gk ok h8
 ·have h8:b.length=8:=by simp[n9]at hs;omega
  exact Xe h8 back
theorem j5.inv {t key s k xs rs} (h:j5 t key s k xs rs) {b:Bs} (hb:b.length=s) (back:Bool):cF t key (!back) (cF t key back b)=b:=GI h.ht h.hs h.kl hb back
def eQ:Bs->Nat->Bs
 |b,0=>b
 |b,i+1=>if b.getD i 0+1=0 then eQ (b.set i (b.getD i 0+1)) i else b.set i (b.getD i 0+1)
def T3 (b:Bs):Bs:=eQ b b.length
theorem AX:∀(i:Nat) (b:Bs),(eQ b i).length=b.length
 |0,_=>rfl
 |i+1,b=>by
  unfold eQ;split
  ·rw[AX i,Zs]
  ·rw[Zs]
theorem nh (b):(T3 b).length=b.length:=AX _ _
structure MS where
 ch:Bs
 row:Bs
 gone:Bs
def bR (E:Bs->Bs) (mode:Int) (s:MS):MS:=
 ⟨if mode=5 then E s.ch else if mode=6 then T3 s.ch else s.ch,E s.ch,[]⟩
def k8 (back:Bool) (p o:UInt8):UInt8:=if back then p else o
def G1 (mode:Int) (back:Bool) (s:MS) (p:UInt8):UInt8×MS:=
 let o:=p^^^s.row.getD 0 0
 let g:=s.gone++[k8 back p o]
 (o,if mode=3 then ⟨s.ch.drop 1++[k8 back p o],[],g⟩else if mode=4 then (if s.row.length=1 then ⟨g,[],g⟩else ⟨s.ch,s.row.drop 1,g⟩)else ⟨s.ch,s.row.drop 1,g⟩)
def q7 (E:Bs->Bs) (mode:Int) (back:Bool) (s:MS) (p:UInt8):UInt8×MS:=
 G1 mode back (if s.row.length=0 then bR E mode s else s) p
def u9 (E:Bs->Bs) (mode:Int) (back:Bool):MS->Bs->Bs×MS
 |s,[]=>([],s)
 |s,p::r=>let x:=q7 E mode back s p;let y:=u9 E mode back x.2 r;(x.1::y.1,y.2)
def I9 (E D:Bs->Bs) (mode:Int) (back:Bool) (c p:Bs):Bs×Bs:=
 if mode=1 then (if back then D p else E p,c)
 else if back then (i7 (D p) c,p)else (E (i7 p c),E (i7 p c))
def p5 (E D:Bs->Bs) (mode:Int) (back:Bool) (n:Nat) (b c:Bs):Nat->Bs×Bs
 |0=>([],c)
 |i+1=>let x:=p5 E D mode back n b c i;let y:=I9 E D mode back x.2 (sub b (n*i) n);(x.1++y.1,y.2)
def j4 (E D:Bs->Bs) (n:Nat) (mode:Int) (back:Bool) (s:MS) (b:Bs):Bs×MS:=
 if mode=1\/mode=2 then ((p5 E D mode back n b s.ch (b.length/n)).1,⟨(p5 E D mode back n b s.ch (b.length/n)).2,s.row,s.gone⟩)
 else u9 E mode back s b
def l8 (n:Nat) (mode:Int):Nat:=if mode=1\/mode=2 then n else 1
theorem kB (E mode back):∀(l:Bs) (s:MS) (p:UInt8),u9 E mode back s (l++[p])=((u9 E mode back s l).1++[(q7 E mode back (u9 E mode back s l).2 p).1],(q7 E mode back (u9 E mode back s l).2 p).2)
 |[],s,p=>rfl
 |a::l,s,p=>by
  show((q7 E mode back s a).1::(u9 E mode back (q7 E mode back s a).2 (l++[p])).1,(u9 E mode back (q7 E mode back s a).2 (l++[p])).2)=_;rw[kB E mode back l];rfl
theorem BO (E mode back):∀(l m:Bs) (s:MS),u9 E mode back s (l++m)=((u9 E mode back s l).1++(u9 E mode back (u9 E mode back s l).2 m).1,(u9 E mode back (u9 E mode back s l).2 m).2)
 |[],m,s=>rfl
 |a::l,m,s=>by
  show((q7 E mode back s a).1::(u9 E mode back (q7 E mode back s a).2 (l++m)).1,(u9 E mode back (q7 E mode back s a).2 (l++m)).2)=_;rw[BO E mode back l];rfl
theorem qj (E mode back):∀(l:Bs) (s:MS),(u9 E mode back s l).1.length=l.length
 |[],_=>rfl
 |a::l,s=>by
  show(_::(u9 E mode back _ l).1).length=_;rw[Z6,qj E mode back l,Z6]
structure CI (E D:Bs->Bs) (n:Nat):Prop where
 le:∀{b:Bs},b.length=n->(E b).length=n
 ld:∀{b:Bs},b.length=n->(D b).length=n
 de:∀{b:Bs},b.length=n->D (E b)=b
 ed:∀{b:Bs},b.length=n->E (D b)=b
theorem j5.ci {t key s k xs rs} (h:j5 t key s k xs rs):CI (cF t key false) (cF t key true) s:=
 ⟨fun hb=>h.len hb,fun hb=>h.len hb,fun hb=>h.inv hb false,fun hb=>h.inv hb true⟩
def L0 (a t:Bs):Bs:=i7 a t++a.drop t.length
theorem qG {a t:Bs} (h:t.length<=a.length):(L0 a t).length=a.length:=by
 rw[L0,Zb,Zf,i7,Z7];omega
theorem iW {a t:Bs} (h:t.length=a.length):L0 a t=i7 a t:=by
 rw[L0,h,List.drop_length,Jg]
theorem a2E (a t:Bs) (h:t.length<=a.length):i7 (a.take t.length) t=i7 a t:=by
 unfold i7;apply List.ext_getElem (by simp;omega);intro i h1 h2;simp
theorem FE (a b:Bs):i7 a b=i7 b a:=by
 unfold i7;exact List.zipWith_comm_of_comm (fun x y=>UInt8.xor_comm x y)
theorem ma (a b:Bs):(i7 a b).length=min a.length b.length:=by simp[i7]
def fv (E:Bs->Bs) (n:Nat) (swap:Bool) (a8 b:Bs):Bs:=
 let x:=E (i7 (b.take n) a8)
 let y:=E (L0 x (b.drop n))
 if swap then y++x.take (b.length-n)else x.take (b.length-n)++y
def bW (D:Bs->Bs) (a8 x y:Bs):Bs:=
 i7 (D (x++(D y).drop x.length)) a8++i7 ((D y).take x.length) x
def bp (D:Bs->Bs) (n:Nat) (swap:Bool) (a8 b:Bs):Bs:=
 if swap then bW D a8 (b.drop n) (b.take n)else bW D a8 (b.take (b.length-n)) (b.drop (b.length-n))
def cX (n:Nat) (mode:Int) (b:Bs):Bool:=decide (mode=9)||(decide (mode=8)&& !decide (b.length=2*n))
def M2 (E D:Bs->Bs) (n:Nat) (mode:Int) (back:Bool) (a8 b:Bs):Bs:=
 if b.length=n then (if back then i7 (D b) a8 else E (i7 b a8))
 else if back then bp D n (cX n mode b) a8 b else fv E n (cX n mode b) a8 b
def nM (n:Nat) (mode:Int) (a8 b:Bs):Int:=
 if mode<7\/9<mode then 3 else if a8.length≠n then 5 else if b.length<n\/2*n<b.length then 7 else 0
theorem a0o {E D:Bs->Bs} {n:Nat} (h:CI E D n) {swap:Bool} {a8 b:Bs} (hl:a8.length=n) (h1:n<=b.length) (h2:b.length<=2*n):(fv E n swap a8 b).length=b.length:=by
 have lx:(E (i7 (b.take n) a8)).length=n:=h.le (by rw[ma,Zg];omega);have ly:(E (L0 (E (i7 (b.take n) a8)) (b.drop n))).length=n:=h.le (by rw[qG (by rw[Zf];omega),lx]);unfold fv;simp only
 split<;>(rw [Zb,Zg,lx,ly];omega)
theorem Ds {E D:Bs->Bs} {n:Nat} (h:CI E D n) {a8 x y:Bs} (hl:a8.length=n) (hx:x.length<=n) (hy:y.length=n):(bW D a8 x y).length=n+x.length:=by
 have lz:=h.ld hy;have lp:(D (x++(D y).drop x.length)).length=n:=h.ld (by rw[Zb,Zf,lz];omega);rw[bW,Zb,ma,ma,lp,Zg,lz];omega
theorem a0n {E D:Bs->Bs} {n:Nat} (h:CI E D n) {swap:Bool} {a8 b:Bs} (hl:a8.length=n) (h1:n<=b.length) (h2:b.length<=2*n):(bp D n swap a8 b).length=b.length:=by
 unfold bp;split
 ·rw[Ds h hl (by rw[Zf];omega) (by rw[Zg];omega),Zf];omega
 ·rw[Ds h hl (by rw[Zg];omega) (by rw[Zf];omega),Zg];omega
theorem stT_len {E D:Bs->Bs} {n:Nat} (h:CI E D n) {mode:Int} {back:Bool} {a8 b:Bs} (hl:a8.length=n) (h1:n<=b.length) (h2:b.length<=2*n):(M2 E D n mode back a8 b).length=b.length:=by
 unfold M2;split
 ·rename_i hb;cases back
  ·rw[if_neg (by decide),h.le (by rw[ma];omega),hb]
  ·rw[if_pos rfl,ma,h.ld hb];omega
 ·cases back
  ·rw[if_neg (by decide)];exact a0o h hl h1 h2
  ·rw[if_pos rfl];exact a0n h hl h1 h2
theorem a0v {a b:Bs} {i n:Nat} (h:i+n<=a.length):sub (a++b) i n=sub a i n:=by
 simp only[sub];rw[Je (by omega),List.take_append_of_le_length (by rw[Zf];omega)]
theorem a0w {a b:Bs} {i n:Nat} (h:a.length<=i):sub (a++b) i n=sub b (i-a.length) n:=by
 have:=ja (a:=a) (b:=b) (n:=a.length) (i:=i-a.length) (m:=n) rfl
 rwa [show a.length+(i-a.length)=i by omega]at this
theorem BL (E D mode back n) {a b c:Bs} {k:Nat} (h:a.length=n*k):∀i,i<=k->p5 E D mode back n (a++b) c i=p5 E D mode back n a c i
 |0,_=>rfl
 |i+1,hi=>by
  unfold p5;rw[BL E D mode back n h i (by omega),a0v (by
   rw[h,<-Jt];exact Nat.mul_le_mul_left n (by omega))]
theorem iQ (E D mode back n) (b c:Bs) (i):p5 E D mode back n b c (i+1)=((p5 E D mode back n b c i).1++(I9 E D mode back (p5 E D mode back n b c i).2 (sub b (n*i) n)).1,(I9 E D mode back (p5 E D mode back n b c i).2 (sub b (n*i) n)).2):=rfl
theorem BI (E D mode back n) {a b c:Bs} {k:Nat} (h:a.length=n*k):∀j,p5 E D mode back n (a++b) c (k+j)=
  ((p5 E D mode back n a c k).1++(p5 E D mode back n b (p5 E D mode back n a c k).2 j).1,(p5 E D mode back n b (p5 E D mode back n a c k).2 j).2)
 |0=>by
  show p5 E D mode back n (a++b) c k=((p5 E D mode back n a c k).1++[],(p5 E D mode back n a c k).2);rw[BL E D mode back n h k (Zh _),Jg]
 |j+1=>by
  show p5 E D mode back n (a++b) c (k+j+1)=_;rw[iQ,BI E D mode back n h j,a0w (by rw[h];exact Nat.mul_le_mul_left n (by omega)),h,show n*(k+j)-n*k=n*j by rw[Nat.mul_add];omega,iQ E D mode back n b _ j];simp only[List.append_assoc]
theorem ny {E D:Bs->Bs} {n:Nat} {mode:Int} {back:Bool} {s:MS} {a b:Bs} (hn:0<n) (ha:a.length%l8 n mode=0) (hb:b.length%l8 n mode=0):
  j4 E D n mode back s (a++b)=((j4 E D n mode back s a).1++(j4 E D n mode back (j4 E D n mode back s a).2 b).1,(j4 E D n mode back (j4 E D n mode back s a).2 b).2):=by
 unfold l8 at ha hb;unfold j4;by_cases hm:mode=1\/mode=2
 ·rw[if_pos hm]at ha hb;simp only[if_pos hm];have e1:a.length=n*(a.length/n):=by have:=Zx a.length n;omega
  have e2:(a++b).length/n=a.length/n+b.length/n:=by
   have:=Zx b.length n;rw[Zb,show a.length+b.length=n*(a.length/n+b.length/n) by rw[Nat.mul_add];omega,Nat.mul_div_cancel_left _ hn]
  rw[e2,BI E D mode back n e1]
 ·simp only[if_neg hm];exact BO E mode back a b s
structure S5 (n:Nat) (mode:Int) (s:MS):Prop where
 m:1<=mode/\mode<=6
 ch:mode=1\/s.ch.length=n
 row:s.row.length<=n
 blk:mode=1\/mode=2->s.row=[]
 g:mode=4->s.row.length=0\/s.gone.length+s.row.length=n
theorem BH {E D:Bs->Bs} {n:Nat} {mode:Int} {s:MS} (h:CI E D n) (hm:3<=mode) (ok:S5 n mode s):(bR E mode s).ch.length=n/\(bR E mode s).row.length=n/\(bR E mode s).gone=[]:=by
 have hc:s.ch.length=n:=ok.ch.resolve_left (by omega);refine⟨?_,h.le hc,rfl⟩;show(if mode=5 then E s.ch else if mode=6 then T3 s.ch else s.ch).length=n;split
 ·exact h.le hc
 ·split
  ·rw[nh,hc]
  ·exact hc
theorem qk {E D:Bs->Bs} {n:Nat} {mode:Int} {back:Bool} {s:MS} (h:CI E D n) (hn:0<n) (hm:3<=mode) (ok:S5 n mode s) (p:UInt8):S5 n mode (q7 E mode back s p).2:=by
 have hc:s.ch.length=n:=ok.ch.resolve_left (by omega);obtain⟨t,ht,h1,h2,h3,h4⟩:∃t,t=(if s.row.length=0 then bR E mode s else s)/\t.ch.length=n/\0<t.row.length/\t.row.length<=n/\(mode=4->t.gone.length+t.row.length=n):=by
  refine⟨_,rfl,?_⟩;split
  ·obtain⟨b1,b2,b3⟩:=BH h hm ok;refine⟨b1,by omega,by omega,fun _=>by rw[b3,b2];simp⟩
  ·rename_i hr;exact⟨hc,by omega,ok.row,fun h4=>(ok.g h4).resolve_left hr⟩
 have e:(q7 E mode back s p).2=(G1 mode back t p).2:=by rw[ht];rfl
 rw[e];unfold G1;simp only
 split
 ·rename_i h3';exact⟨ok.m,.inr (by simp[h1];omega),by simp,fun hb=>by omega,fun hb=>by omega⟩
 ·split
  ·rename_i h4';split
   ·rename_i h5;refine⟨ok.m,.inr ?_,by simp,fun hb=>by omega,fun _=> .inl rfl⟩;have:=h4 h4';rw[Zb,Jo];omega
   ·refine⟨ok.m,.inr h1,by simp;omega,fun hb=>by omega,fun _=> .inr ?_⟩;have:=h4 h4';rw[Zb,Jo,Zf];omega
  ·rename_i h4';exact⟨ok.m,.inr h1,by simp;omega,fun hb=>by omega,fun hb=>absurd hb h4'⟩
theorem ve {E D:Bs->Bs} {n:Nat} {mode:Int} {back:Bool} (h:CI E D n) (hn:0<n) (hm:3<=mode):∀(l:Bs) {s:MS},S5 n mode s->S5 n mode (u9 E mode back s l).2
 |[],_,ok=>ok
 |p::l,_,ok=>ve h hn hm l (qk h hn hm ok p)
theorem qh {E D:Bs->Bs} {n:Nat} {mode:Int} {back:Bool} {c p:Bs} (h:CI E D n) (hm:mode=1\/mode=2) (hc:mode=1\/c.length=n) (hp:p.length=n):
  (I9 E D mode back c p).1.length=n/\(mode=1\/(I9 E D mode back c p).2.length=n):=by
 unfold I9;by_cases h1:mode=1
 ·rw[if_pos h1];refine⟨?_,.inl h1⟩;show(if back then D p else E p).length=n;cases back
  ·exact h.le hp
  ·exact h.ld hp
 ·rw[if_neg h1];have hc:=hc.resolve_left h1;cases back
  ·have:(E (i7 p c)).length=n:=h.le (w7 hp hc);exact⟨this,.inr this⟩
  ·exact⟨w7 (h.ld hp) hc,.inr hp⟩
theorem iP {E D:Bs->Bs} {n:Nat} {mode:Int} {back:Bool} {b c:Bs} (h:CI E D n) (hm:mode=1\/mode=2) (hc:mode=1\/c.length=n):∀i,n*i<=b.length->
  (p5 E D mode back n b c i).1.length=n*i/\(mode=1\/(p5 E D mode back n b c i).2.length=n)
 |0,_=>⟨rfl,hc⟩
 |i+1,hi=>by
  rw[Jt]at hi;obtain⟨a1,a2⟩:=iP (back:=back) (b:=b) h hm hc i (by omega);obtain⟨b1,b2⟩:=qh (back:=back) h hm a2 (p:=sub b (n*i) n) (by rw[j6];omega);exact⟨by rw[iQ];simp only[Zb,a1,b1,Jt],b2⟩
theorem X8 {E D:Bs->Bs} {n:Nat} {mode:Int} {back:Bool} {s:MS} {b:Bs} (h:CI E D n) (ok:S5 n mode s) (hb:b.length%l8 n mode=0):(j4 E D n mode back s b).1.length=b.length:=by
 unfold l8 at hb;unfold j4;by_cases hm:mode=1\/mode=2
 ·rw[if_pos hm]at hb;simp only[if_pos hm];have:=Zx b.length n;rw[(iP h hm ok.ch _ (by omega)).1];omega
 ·simp only[if_neg hm];exact qj E mode back b s
theorem vf {E D:Bs->Bs} {n:Nat} {mode:Int} {back:Bool} {s:MS} {b:Bs} (h:CI E D n) (hn:0<n) (ok:S5 n mode s):S5 n mode (j4 E D n mode back s b).2:=by
 unfold j4;by_cases hm:mode=1\/mode=2
 ·simp only[if_pos hm];have:=Zx b.length n;exact⟨ok.m,(iP h hm ok.ch _ (by omega)).2,ok.row,ok.blk,fun h4=>by omega⟩
 ·simp only[if_neg hm];exact ve h hn (by have:=ok.m;omega) b ok
def bS (E:Bs->Bs) (mode:Int) (c:Bs):Bs:=if mode=5 then E c else if mode=6 then T3 c else c
def H5 (kind:Int) (n:Nat):Bs:=
 if kind=1 then Zk n (Zt n)else if kind=2 then 128::Zk (n-1) 0 else Zk (n-1) 0++[Zt n]
theorem nH {kind n} (h:0<n):(H5 kind n).length=n:=by
 unfold H5;split
 ·simp
 ·split
  ·simp;omega
  ·simp;omega
def H4 (kind:Int) (size:Nat) (tail:Bs):Bs:=tail++H5 kind (size-tail.length)
theorem kK {kind size} {tail:Bs} (h:tail.length<size):(H4 kind size tail).length=size:=by
 rw[H4,Zb,nH (by omega)];omega
def P6 (b:Bs):Nat->Nat
 |0=>0
 |k+1=>if b.getD k 0=128 then k+1 else P6 b k
def W5 (kind:Int) (b:Bs):Nat:=if kind=2 then b.length+1-P6 b b.length else (b.getD (b.length-1) 0).toNat
def v5 (kind:Int) (b:Bs):Nat:=
 if W5 kind b<1\/b.length<W5 kind b\/(kind≠3/\b.drop (b.length-W5 kind b)≠H5 kind (W5 kind b))then 0 else W5 kind b
def R9 (kind:Int) (b:Bs):Bs:=b.take (b.length-v5 kind b)
theorem Bl (b:Bs):∀k,P6 b k<=k
 |0=>Zh _
 |k+1=>by
  unfold P6;split
  ·exact Zh _
  ·have:=Bl b k;omega
theorem Bk (b:Bs) {j:Nat} (hj:b.getD j 0=128):∀k,j<k->(∀i,j<i->i<k->b.getD i 0≠128)->P6 b k=j+1
 |0,h,_=>by omega
 |k+1,h,hn=>by
  unfold P6;by_cases hk:k=j
  ·subst hk;rw[if_pos hj]
  ·rw[if_neg (hn k (by omega) (by omega))];exact Bk b hj k (by omega) (fun i h1 h2=>hn i h1 (by omega))
theorem Ui {a b:Bs} {i:Nat} (h:a.length<=i):(a++b).getD i 0=b.getD (i-a.length) 0:=by
 rw[Zc,List.getElem?_append_right h,Zc]
theorem qF (kind b):v5 kind b<=b.length:=by
 unfold v5;split<;>omega
def A6 (n l:Nat):Nat:=n*((l-n-1)/n)
theorem kg {n l:Nat} (hn:0<n) (h:n<=l):A6 n l<=l/\n<=l-A6 n l/\l-A6 n l<=2*n/\A6 n l%n=0/\(A6 n l=0\/n<=A6 n l):=by
 unfold A6;have hd:=Zx (l-n-1) n;have hm:=Zu (l-n-1) hn;refine⟨?_,?_,?_,Nat.mul_mod_right _ _,?_⟩
 ·omega
 ·by_cases h0:l=n
  ·subst h0;rw[Js,show(0-1:Nat)/l=0 from Nat.zero_div _,Nat.mul_zero];omega
  ·omega
 ·omega
 ·rcases Nat.eq_zero_or_pos ((l-n-1)/n)with h0|h0
  ·left;rw[h0,Nat.mul_zero]
  ·right;exact Nat.le_mul_of_pos_right n h0
def fp (n:Nat) (back:Bool) (iv m o:Bs):Bs:=
 if A6 n m.length=0 then iv else if back then sub m (A6 n m.length-n) n else o.drop (A6 n m.length-n)
def Y8 (E D:Bs->Bs) (n:Nat) (mode:Int) (back:Bool) (iv m:Bs):Bs×Int:=
 if m.length<n then ([],7)
 else let o:=(j4 E D n 2 back ⟨iv,[],[]⟩ (m.take (A6 n m.length))).1
  (o++M2 E D n mode back (fp n back iv m o) (m.drop (A6 n m.length)),0)
def W3 (pad:Int) (n:Nat) (m:Bs):Bs:=m.take (m.length-m.length%n)++H4 pad n (m.drop (m.length-m.length%n))
def Y7 (E D:Bs->Bs) (n:Nat) (mode pad:Int) (back:Bool) (iv m:Bs):Bs×Int:=
 if 7<=mode then Y8 E D n mode back iv m
 else if pad=4 then (if m.length%l8 n mode=0 then ((j4 E D n mode back ⟨iv,[],[]⟩ m).1,0)else ([],7))
 else if back=false then ((j4 E D n mode false ⟨iv,[],[]⟩ (W3 pad n m)).1,0)
 else if m.length=0\/m.length%n≠0 then ([],7)
 else let o:=(j4 E D n mode true ⟨iv,[],[]⟩ m).1
  if v5 pad (o.drop (o.length-n))=0 then ([],8)else (o.take (o.length-n)++R9 pad (o.drop (o.length-n)),0)
def A2 (n:Nat) (mode pad:Int) (iv:Bs):Prop:=(1<=mode/\mode<=9)/\(1<=pad/\pad<=4)/\(pad=4\/mode<=2)/\iv.length=if mode=1 then 0 else n
noncomputable def z6 (tag mode pad:Int) (n lk li:Nat):Int:=by
 classical exact if ¬t7 tag then 2 else if (lk:Int)∉n6 tag then 4 else if ¬((1<=mode/\mode<=9)/\(1<=pad/\pad<=4)/\(pad=4\/mode<=2))then 3 else if li≠(if mode=1 then 0 else n)then 5 else 0
theorem qm {n:Nat} {mode:Int} {iv:Bs} (hm:1<=mode/\mode<=6) (h:iv.length=if mode=1 then 0 else n):S5 n mode ⟨iv,[],[]⟩:=by
 refine⟨hm,?_,Nat.zero_le _,fun _=>rfl,fun _=> .inl rfl⟩;by_cases h1:mode=1
 ·exact .inl h1
 ·rw[if_neg h1]at h;exact .inr h
theorem AS (n:Nat):l8 n 2=n:=rfl
theorem a0d {E D:Bs->Bs} {n:Nat} {back:Bool} {iv m:Bs} (h:CI E D n) (hn:0<n) (hi:iv.length=n) (hm:n<=m.length):
  (j4 E D n 2 back ⟨iv,[],[]⟩ (m.take (A6 n m.length))).1.length=A6 n m.length:=by
 obtain⟨f1,f2,f3,f4,f5⟩:=kg hn hm;have lt:(m.take (A6 n m.length)).length=A6 n m.length:=by rw[Zg];omega
 rw[X8 h (qm (by decide) (by rw[if_neg (by decide),hi])) (by rw[lt,AS,f4]),lt]
theorem a0c {n:Nat} {back:Bool} {iv m o:Bs} (hn:0<n) (hi:iv.length=n) (hm:n<=m.length) (ho:o.length=A6 n m.length):(fp n back iv m o).length=n:=by
 obtain⟨f1,f2,f3,f4,f5⟩:=kg hn hm;unfold fp;split
 ·exact hi
 ·split
  ·rw[j6];omega
  ·rw[Zf];omega
theorem a0e {E D:Bs->Bs} {n:Nat} {mode:Int} {back:Bool} {iv m:Bs} (h:CI E D n) (hn:0<n) (hi:iv.length=n) (hm:n<=m.length):(Y8 E D n mode back iv m).1.length=m.length:=by
 obtain⟨f1,f2,f3,f4,f5⟩:=kg hn hm;have lo:=a0d (back:=back) h hn hi hm;unfold Y8;rw[if_neg (by omega)];simp only
 rw[Zb,stT_len h (a0c hn hi hm lo) (by rw[Zf];omega) (by rw[Zf];omega),lo,Zf];omega
theorem Wl {pad:Int} {n:Nat} {m:Bs} (hn:0<n):(W3 pad n m).length=m.length/n*n+n:=by
 have hd:=Zx m.length n;have hm:=Zu m.length hn;have hc:m.length/n*n=n*(m.length/n):=Jk _ _;unfold W3;rw[Zb,kK (by rw[Zf];omega),Zg];omega
theorem dk {n:Nat} {va:List Value} {l:Bs} (ha:va=bv l) (hn:l.length=n) (h0:0<n) (hm:n<=1073741824):a6 C 90 [.z n va] [] (.ret (.o 1 (.k 0) 0 n)) [.sc (bv l)]:=by
 subst ha;refine pI.c ?_;refine .inl ⟨h0,(by simp only[t8,f7,G9,s3,Zb,Jd,Zs,Zg,Zf,Z6,List.length_nil,j6,Zm,Jn,Z7];omega),by omega,by omega,?_⟩;refine⟨_,rfl,[.d 7 0],?_,⟨_,rfl,rfl⟩,tq⟩;show V.o 1 (.k 0) 0 (0+n)=_;rw[Zi]
theorem S8 {n:Nat} {va:List Value} {l:Bs} (ha:va=bv l) (hn:l.length=n) (hm:n<=1073741824):a6 C 90 [.z n va] [] (.ret (.z n (bv l))) []:=by
 subst ha;by_cases h0:0<n
 ·refine pI.c ?_;refine .inl ⟨h0,(by simp only[t8,f7,G9,s3,Zb,Jd,Zs,Zg,Zf,Z6,List.length_nil,j6,Zm,Jn,Z7];omega),by omega,by omega,?_⟩;refine⟨_,rfl,[],?_,tq⟩;show V.z (0+n) (sub ([]++bv l) 0 (0+n))=_;rw[Zi,Zl,d7 hn]
 ·obtain rfl:n=0:=(by omega);obtain rfl:=List.eq_nil_of_length_eq_zero hn;refine pI.w ?_;refine .inr ⟨?_,?_⟩
  ·exact⟨.ret d9,[],⟨_,rfl,[],rfl,tq⟩,.ret .nl,.nil⟩
  ·refine⟨rfl,by decide,by decide,?_⟩;exact⟨.ret (.z 0 []),[],⟨_,rfl,[],rfl,tq⟩,.ret (.refl _),.nil⟩
def px (a t:Bs) (i:Nat):Bs:=(List.range a.length).map fun p=>if p<i then a.getD p 0^^^t.getD p 0 else a.getD p 0
theorem bT (a t i):(px a t i).length=a.length:=by simp[px]
theorem CM (a t):px a t 0=a:=by
 refine iH (bT _ _ _) fun i hi=> ?_;rw[bT]at hi;simp[px,Zc,hi]
theorem CJ {a t:Bs} {i:Nat} (h:i<a.length):(px a t i).getD i 0=a.getD i 0:=by simp[px,Zc,h]
theorem CL {a t:Bs} {i:Nat} (h:i<a.length):(px a t i).set i (a.getD i 0^^^t.getD i 0)=px a t (i+1):=by
 refine iH (by rw[Zs,bT,bT]) fun j hj=> ?_;rw[Zs,bT]at hj;rw[Zc,Jh];by_cases e:i=j
 ·subst e;rw[if_pos rfl,if_pos (by rw[bT];exact h)];simp[px,Zc,h]
 ·rw[if_neg e];simp only[px,Zc,List.getElem?_map,List.getElem?_range hj,Option.map_some,Option.getD_some];by_cases e2:j<i
  ·rw[if_pos e2,if_pos (by omega)]
  ·rw[if_neg e2,if_neg (by omega)]
theorem CH {a t:Bs} (h:t.length<=a.length):px a t t.length=L0 a t:=by
 refine iH (by rw[bT,qG h]) fun i hi=> ?_;rw[bT]at hi;have e:(px a t t.length).getD i 0=if i<t.length then a.getD i 0^^^t.getD i 0 else a.getD i 0:=by
  simp[px,Zc,hi]
 rw[e];have lx:(i7 a t).length=t.length:=by rw[ma];omega
 unfold L0;by_cases h1:i<t.length
 ·have e2:(i7 a t++a.drop t.length).getD i 0=(i7 a t).getD i 0:=by
   rw[Zc,List.getElem?_append_left (by omega),<-Zc]
  rw[if_pos h1,e2];have h2:i<(List.zipWith (fun x1 x2=>x1^^^x2) a t).length:=by rw[Z7];omega
  unfold i7;rw[Zc (l:=List.zipWith _ a t),Zp h2];simp[Zc,h1,hi]
 ·have e2:(a.drop t.length).getD (i-t.length) 0=a.getD i 0:=by
   rw[Zc,List.getElem?_drop,show t.length+(i-t.length)=i by omega,<-Zc]
  rw[if_neg h1,Ui (by omega),lx,e2]
theorem jK {n m:Nat} {va vt:List Value} {a t:Bs} (ha:va=bv a) (ht:vt=bv t) (hn:a.length=n) (hm:t.length=m) (h0:0<n) (hmn:m<=n) (hb:n<=1000):a6 C 229 [.z n va,.z m vt] [] (.ret (.o 1 (.k 0) 0 n)) [.sc (bv (L0 a t))]:=by
 subst ha;subst ht;refine AE.c ?_;refine b8 (fun h=>absurd h (by omega)) (fun _=> ?_);refine⟨[],_,_,_,_,dk rfl hn h0 (by omega),rfl,rfl,?_⟩;refine j9 (fun i=>⟨[(5,.o 1 (.k 0) 0 n),(17,.z m (bv t)),(18,i64 m),(19,i64 i)],[.sc (bv (px a t i))]⟩) m ⟨[.d 16 0],⟨rfl,rfl,rfl,rfl,tq⟩,⟨_,rfl,d8 (by rw[CM])⟩,tq⟩ fun i hi=> ?_;refine b8 (fun h=> ?_) (fun h=> ?_)
 ·have a9:i<m:=(by omega);refine⟨by omega,by omega,_,by rw[Zd];exact m7 (by omega),?_⟩;refine⟨by omega,by omega,_,by rw[Zd,Ze,Zi];exact m7 (by rw[bT];omega),?_⟩;refine⟨by omega,by omega,by rw[Zd,f7,bT];omega,?_⟩;refine⟨i+1,by omega,by omega,[.k 0],⟨rfl,rfl,rfl,b9 (by simp(disch:=omega)only[Za];omega),tq⟩,⟨_,rfl,d8 ?_⟩,tq⟩;rw[k9,CJ (by omega),Zd,Ze,Zi,G0,CL (by omega)]
 ·obtain rfl:i=m:=(by omega);refine⟨_,rfl,[.k 0],rfl,⟨_,rfl,d8 ?_⟩,tq⟩;rw[<-hm,CH (by omega)]
theorem JM {n m:Nat} {va vt:List Value} {a t:Bs} (ha:va=bv a) (ht:vt=bv t) (hn:a.length=n) (hm:t.length=m) (h0:0<n) (hmn:m<=n) (hb:n<=1000):a6 C 229 [.z m vt,.z n va] [] (.ret (.o 1 (.k 0) 0 n)) [.sc (bv (L0 a t))]:=by
 by_cases he:m=n
 ·subst he;have e:L0 a t=L0 t a:=by rw[iW (by omega),iW (by omega),FE]
  rw[e];exact jK ht ha hm hn h0 (Zh _) hb
 subst ha;subst ht;refine AE.c ?_;refine b8 (fun _=> ?_) (fun h=>absurd h (by omega));refine⟨[],_,_,_,_,dk rfl hn h0 (by omega),rfl,rfl,?_⟩;refine j9 (fun i=>⟨[(5,.o 1 (.k 0) 0 n),(17,.z m (bv t)),(18,i64 m),(19,i64 i)],[.sc (bv (px a t i))]⟩) m ⟨[.d 16 0],⟨rfl,rfl,rfl,rfl,tq⟩,⟨_,rfl,d8 (by rw[CM])⟩,tq⟩ fun i hi=> ?_;refine b8 (fun h=> ?_) (fun h=> ?_)
 ·have a9:i<m:=(by omega);refine⟨by omega,by omega,_,by rw[Zd];exact m7 (by omega),?_⟩;refine⟨by omega,by omega,_,by rw[Zd,Ze,Zi];exact m7 (by rw[bT];omega),?_⟩;refine⟨by omega,by omega,by rw[Zd,f7,bT];omega,?_⟩;refine⟨i+1,by omega,by omega,[.k 0],⟨rfl,rfl,rfl,b9 (by simp(disch:=omega)only[Za];omega),tq⟩,⟨_,rfl,d8 ?_⟩,tq⟩;rw[k9,CJ (by omega),Zd,Ze,Zi,G0,CL (by omega)]
 ·obtain rfl:i=m:=(by omega);refine⟨_,rfl,[.k 0],rfl,⟨_,rfl,d8 ?_⟩,tq⟩;rw[<-hm,CH (by omega)]
theorem t4 {b:Bs} {m s:Nat} (hb:b.length=m) (hs:s<=m):sub (bv b) s (m-s)=bv (b.drop s):=by rw[k7,H6 _ _ _ (by omega)]
theorem IC {t key s k xs rs} (h:j5 t key s k xs rs) {m:Nat} {vl vb:List Value} {a8 b:Bs} {swap:Bool} (hvl:vl=bv a8) (hvb:vb=bv b) (hl:a8.length=s) (hb:b.length=m) (h1:s<m) (h2:m<=2*s):
  a6 C 179 [c9 t k xs,bool swap,.z s vl,.z m vb] [] (.ret (.o 1 (.k 0) 0 m)) [.sc (bv (fv (cF t key false) s swap a8 b))]:=by
 subst hvl;subst hvb;have hs:=h.s_le;have l1:(b.take s).length=s:=by rw[Zg];omega
 have l2:(b.drop s).length=m-s:=by rw[Zf,hb]
 have p1:L0 (b.take s) a8=i7 (b.take s) a8:=iW (by omega);have lx1:(i7 (b.take s) a8).length=s:=w7 l1 hl;have lX:=h.len (back:=false) lx1;have lp2:(L0 (cF t key false (i7 (b.take s) a8)) (b.drop s)).length=s:=by rw[qG (by omega),lX]
 have lY:=h.len (back:=false) lp2;have hres:fv (cF t key false) s swap a8 b=if swap then cF t key false (L0 (cF t key false (i7 (b.take s) a8)) (b.drop s))++(cF t key false (i7 (b.take s) a8)).take (m-s)else (cF t key false (i7 (b.take s) a8)).take (m-s)++cF t key false (L0 (cF t key false (i7 (b.take s) a8)) (b.drop s)):=by
  unfold fv;rw[hb]
 have e1:I6.wrap ((m:Int)-(s:Int))=((m-s:Nat):Int):=by rw[Za _ (by omega)];omega
 rw[hres];refine Sy.c ?_;refine⟨[],_,_,_,_,h.size,rfl,rfl,?_⟩;refine⟨by omega,by omega,by omega,by omega,?_⟩;have c1:=jK (va:=sub (bv b) 0 s) (a:=b.take s) (t:=a8) (k7 b 0 s) rfl l1 hl (by omega) (Zh _) (by omega);rw[p1]at c1;refine⟨[],_,_,_,_,c1,rfl,rfl,?_⟩;refine⟨[],_,_,_,_,h.enc lx1 (d7 lx1),rfl,rfl,?_⟩;generalize cF t key false (i7 (b.take s) a8)=x at*
 refine⟨by omega,by omega,by omega,by omega,?_⟩;refine⟨[],_,_,_,_,JM (a:=x) (t:=b.drop s) (d7 lX) (t4 hb (by omega)) lX l2 (by omega) (by omega) (by omega),rfl,rfl,?_⟩;refine⟨[],_,_,_,_,h.enc lp2 (d7 lp2),rfl,rfl,?_⟩;generalize cF t key false (L0 x (b.drop s))=y at*
 refine⟨by rw[e1];omega,by rw[e1];omega,by rw[e1];omega,by rw[e1];omega,?_⟩;have lt:(x.take (m-s)).length=m-s:=by rw[Zg];omega
 cases swap
 ·refine⟨[],_,_,_,_,bF (n:=2) (ls:=[x.take (m-s),y]) (t:=x.take (m-s)++y) (by simp) ?_ rfl (by rw[Zb];omega) (by rw[Zb];omega),rfl,rfl,?_⟩
  ·rw[e1];show[V.z (m-s) (sub (bv x) 0 (m-s)),V.z s (sub (bv y) 0 s)]=[V.z _ _,V.z _ _];rw[d7 lY,lt,lY,k7];rfl
  have lc:(x.take (m-s)++y).length=m:=by rw[Zb];omega
  rw[lc];exact⟨_,rfl,[.d 48 0],rfl,⟨_,rfl,rfl⟩,tq⟩
 ·refine⟨[],_,_,_,_,bF (n:=2) (ls:=[y,x.take (m-s)]) (t:=y++x.take (m-s)) (by simp) ?_ rfl (by rw[Zb];omega) (by rw[Zb];omega),rfl,rfl,?_⟩
  ·rw[e1];show[V.z s (sub (bv y) 0 s),V.z (m-s) (sub (bv x) 0 (m-s))]=[V.z _ _,V.z _ _];rw[d7 lY,lt,lY,k7];rfl
  have lc:(y++x.take (m-s)).length=m:=by rw[Zb];omega
  rw[lc];exact⟨_,rfl,[.d 48 0],rfl,⟨_,rfl,rfl⟩,tq⟩
theorem a6.args {C:k5} {f:Nat} {ys ys0:List V} {bs bs':List B} {r:Oc} (h:a6 C f ys bs r bs') (hw:ah ys0 ys):a6 C f ys0 bs r bs':=
 ⟨h.1,fun w F ι vs st gl dm hl=>h.2 w F ι vs st gl dm (hw.r hl)⟩
theorem Hd {t key s k xs rs} (h:j5 t key s k xs rs) {m:Nat} {vl vb:List Value} {a8 b:Bs} {swap:Bool} (hvl:vl=bv a8) (hvb:vb=bv b) (hl:a8.length=s) (hb:b.length=m) (h1:s<m) (h2:m<=2*s):
  a6 C 178 [c9 t k xs,bool swap,.z s vl,.z m vb] [] (.ret (.o 1 (.k 0) 0 m)) [.sc (bv (bp (cF t key true) s swap a8 b))]:=by
 subst hvl;subst hvb;have hs:=h.s_le;have e1:I6.wrap ((m:Int)-(s:Int))=((m-s:Nat):Int):=by rw[Za _ (by omega)];omega
 cases swap
 ·have lx:(b.take (m-s)).length=m-s:=by simp only[Zg,Zf];omega
  have ly:(b.drop (m-s)).length=s:=by simp only[Zg,Zf];omega
  have hx:sub (bv b) 0 (m-s)=bv (b.take (m-s)):=k7 b 0 (m-s);have hy:sub (bv b) (m-s) s=bv (b.drop (m-s)):=by
   rw[k7,H6 _ _ _ (by omega)]
  have hres:bp (cF t key true) s false a8 b=bW (cF t key true) a8 (b.take (m-s)) (b.drop (m-s)):=by
   unfold bp;rw[if_neg (by decide),hb]
  have lz:=h.len (back:=true) ly;rw[hres,bW];rw[lx];refine AD.c ?_;refine⟨[],_,_,_,_,h.size,rfl,rfl,?_⟩;refine⟨by rw[e1];omega,by rw[e1];omega,by rw[e1];omega,by rw[e1];omega,?_⟩;refine⟨by rw[e1];omega,by rw[e1];omega,by omega,by omega,?_⟩;refine⟨[],_,_,_,_,h.dec ly rfl,?_,rfl,?_⟩
  ·rw[e1,<-hy];show[c9 t k xs,V.z (m-(m-s)) (sub (bv b) (m-s) (m-(m-s)))]=_;rw[show m-(m-s)=s by omega]
  generalize cF t key true (b.drop (m-s))=z at*
  have lt:(z.take (m-s)).length=m-s:=by rw[Zg];omega
  refine⟨by rw[e1];omega,by rw[e1];omega,by rw[e1];omega,by rw[e1];omega,?_⟩;refine⟨[],_,_,_,_,jK (a:=z.take (m-s)) (t:=b.take (m-s)) rfl rfl lt lx (by omega) (Zh _) (by omega),?_,rfl,?_⟩
  ·rw[e1,<-hx];show[V.z (m-s) (sub (bv z) 0 (m-s)),V.z (m-s) (sub (bv b) 0 (m-s))]=_;rw[k7];rfl
  rw[iW (by omega)];have lq:(i7 (z.take (m-s)) (b.take (m-s))).length=m-s:=w7 lt lx;refine⟨by rw[e1];omega,by rw[e1];omega,by omega,by omega,?_⟩;have lw:(b.take (m-s)++z.drop (m-s)).length=s:=by rw[Zb,lx,Zf];omega
  refine⟨[],_,_,_,_,bF (n:=2) (ls:=[b.take (m-s),z.drop (m-s)]) (t:=b.take (m-s)++z.drop (m-s)) (by simp) ?_ rfl (by omega) (by omega),rfl,rfl,?_⟩
  ·rw[e1];show[V.z (m-s) (sub (bv b) 0 (m-s)),V.z (s-(m-s)) (sub (bv z) (0+(m-s)*1) (s-(m-s)))]=[V.z _ _,V.z _ _];rw[hx,lx,Zi,Ze,k7,H6 _ _ _ (by omega),Zf,lz]
  rw[lw];refine⟨[],_,_,_,_,h.dec lw (d7 lw),rfl,rfl,?_⟩;have lp:=h.len (back:=true) lw;generalize cF t key true (b.take (m-s)++z.drop (m-s))=p at*
  refine⟨[],_,_,_,_,jK (a:=p) (t:=a8) (d7 lp) rfl lp hl (by omega) (Zh _) (by omega),rfl,rfl,?_⟩;rw[iW (by omega)];have lp2:(i7 p a8).length=s:=w7 lp hl;have lr:(i7 p a8++i7 (z.take (m-s)) (b.take (m-s))).length=m:=by rw[Zb];omega
  refine⟨[],_,_,_,_,bF (n:=2) (ls:=[i7 p a8,i7 (z.take (m-s)) (b.take (m-s))]) (t:=i7 p a8++i7 (z.take (m-s)) (b.take (m-s))) (by simp) ?_ rfl (by omega) (by omega),rfl,rfl,?_⟩
  ·show[V.z s (sub (bv (i7 p a8)) 0 s),V.z (m-s) (sub (bv _) 0 (m-s))]=[V.z _ _,V.z _ _];rw[d7 lp2,d7 lq,lp2,lq]
  rw[lr];exact⟨_,rfl,[.d 64 0],rfl,⟨_,rfl,rfl⟩,tq⟩
 ·have lx:(b.drop s).length=m-s:=by simp only[Zg,Zf];omega
  have ly:(b.take s).length=s:=by simp only[Zg,Zf];omega
  have hx:sub (bv b) s (m-s)=bv (b.drop s):=t4 hb (by omega);have hy:sub (bv b) 0 s=bv (b.take s):=by
   exact k7 b 0 s
  have hres:bp (cF t key true) s true a8 b=bW (cF t key true) a8 (b.drop s) (b.take s):=by
   unfold bp;rw[if_pos rfl]
  have lz:=h.len (back:=true) ly;rw[hres,bW];rw[lx];refine AD.c ?_;refine⟨[],_,_,_,_,h.size,rfl,rfl,?_⟩;refine⟨by rw[e1];omega,by rw[e1];omega,by rw[e1];omega,by rw[e1];omega,?_⟩;refine⟨by rw[e1];omega,by rw[e1];omega,by omega,by omega,?_⟩;refine⟨by omega,by omega,by omega,by omega,?_⟩;refine⟨by omega,by omega,by omega,by omega,?_⟩;refine⟨[],_,_,_,_,h.dec ly rfl,?_,rfl,?_⟩
  ·rw[<-hy];rfl
  generalize cF t key true (b.take s)=z at*
  have lt:(z.take (m-s)).length=m-s:=by rw[Zg];omega
  refine⟨by rw[e1];omega,by rw[e1];omega,by rw[e1];omega,by rw[e1];omega,?_⟩;refine⟨[],_,_,_,_,jK (a:=z.take (m-s)) (t:=b.drop s) rfl rfl lt lx (by omega) (Zh _) (by omega),?_,rfl,?_⟩
  ·rw[e1,<-hx];show[V.z (m-s) (sub (bv z) 0 (m-s)),V.z (m-s) (sub (bv b) s (m-s))]=_;rw[k7];rfl
  rw[iW (by omega)];have lq:(i7 (z.take (m-s)) (b.drop s)).length=m-s:=w7 lt lx;refine⟨by rw[e1];omega,by rw[e1];omega,by omega,by omega,?_⟩;have lw:(b.drop s++z.drop (m-s)).length=s:=by rw[Zb,lx,Zf];omega
  refine⟨[],_,_,_,_,bF (n:=2) (ls:=[b.drop s,z.drop (m-s)]) (t:=b.drop s++z.drop (m-s)) (by simp) ?_ rfl (by omega) (by omega),rfl,rfl,?_⟩
  ·rw[e1];show[V.z (m-s) (sub (bv b) s (m-s)),V.z (s-(m-s)) (sub (bv z) (0+(m-s)*1) (s-(m-s)))]=[V.z _ _,V.z _ _];rw[hx,lx,Zi,Ze,k7,H6 _ _ _ (by omega),Zf,lz]
  rw[lw];refine⟨[],_,_,_,_,h.dec lw (d7 lw),rfl,rfl,?_⟩;have lp:=h.len (back:=true) lw;generalize cF t key true (b.drop s++z.drop (m-s))=p at*
  refine⟨[],_,_,_,_,jK (a:=p) (t:=a8) (d7 lp) rfl lp hl (by omega) (Zh _) (by omega),rfl,rfl,?_⟩;rw[iW (by omega)];have lp2:(i7 p a8).length=s:=w7 lp hl;have lr:(i7 p a8++i7 (z.take (m-s)) (b.drop s)).length=m:=by rw[Zb];omega
  refine⟨[],_,_,_,_,bF (n:=2) (ls:=[i7 p a8,i7 (z.take (m-s)) (b.drop s)]) (t:=i7 p a8++i7 (z.take (m-s)) (b.drop s)) (by simp) ?_ rfl (by omega) (by omega),rfl,rfl,?_⟩
  ·show[V.z s (sub (bv (i7 p a8)) 0 s),V.z (m-s) (sub (bv _) 0 (m-s))]=[V.z _ _,V.z _ _];rw[d7 lp2,d7 lq,lp2,lq]
  rw[lr];exact⟨_,rfl,[.d 64 0],rfl,⟨_,rfl,rfl⟩,tq⟩
theorem zf {mode:Int} {w:Bool}:a6 C 176 [i64 mode,bool w] [] (.ret (.t [bool (decide (mode=9)||(decide (mode=8)&& !w)),bool (decide (7<=mode/\mode<=9))])) []:=by
 refine Sz.c ?_;refine g8 (fun h=> ?_) (fun h=>g8 (fun h7=> ?_) (fun h7=>g8 (fun h8=> ?_) (fun h8=> ?_)))
 ·subst h;exact⟨_,rfl,[],rfl,tq⟩
 ·subst h7;exact⟨_,rfl,[],rfl,tq⟩
 ·subst h8;exact⟨_,rfl,[],rfl,tq⟩
 ·refine⟨_,rfl,[],?_,tq⟩;rw[decide_eq_false h,decide_eq_false h8,decide_eq_false (by omega)];rfl
theorem KU {mode:Int} {w:Bool}:a6 C 75 [i64 mode,bool w] [] (.ret (bool (decide (mode=9)||(decide (mode=8)&& !w)))) []:=by
 refine Qd.c ?_;refine g8 (fun h=> ?_) (fun h=>g8 (fun h8=> ?_) (fun h8=> ?_))
 ·subst h;exact⟨_,rfl,[],rfl,tq⟩
 ·subst h8;exact⟨_,rfl,[],rfl,tq⟩
 ·refine⟨_,rfl,[],?_,tq⟩;rw[decide_eq_false h,decide_eq_false h8];rfl
theorem JX {n:Nat} {va:List Value} {rs:List V} {l:List Value} (h:a6 C 88 [.q rs 0,.z n va,bool false] [] (y6 n) [.sc l]):a6 C 74 [.q rs 0,.z n va] [] (.ret (.o 1 (.k 0) 0 n)) [.sc l]:=by
 refine PW.c ?_;refine⟨[],_,_,_,_,h,rfl,rfl,?_⟩;exact⟨_,rfl,[.d 10 0],rfl,⟨_,rfl,rfl⟩,tq⟩
theorem JY {n:Nat} {va:List Value} {rs:List V} {l:List Value} (h:a6 C 88 [.q rs 0,.z n va,bool true] [] (y6 n) [.sc l]):a6 C 73 [.q rs 0,.z n va] [] (.ret (.o 1 (.k 0) 0 n)) [.sc l]:=by
 refine PY.c ?_;refine⟨[],_,_,_,_,h,rfl,rfl,?_⟩;exact⟨_,rfl,[.d 10 0],rfl,⟨_,rfl,rfl⟩,tq⟩
theorem j5.E {t key s k xs rs} (h:j5 t key s k xs rs) {b:Bs} {va:List Value} (hb:b.length=s) (ha:va=bv b):a6 C 74 [.q rs 0,.z s va] [] (.ret (.o 1 (.k 0) 0 s)) [.sc (bv (cF t key false b))]:=by subst ha;exact JX (h.rblk hb)
theorem j5.Un {t key s k xs rs} (h:j5 t key s k xs rs) {b:Bs} {va:List Value} (hb:b.length=s) (ha:va=bv b):a6 C 73 [.q rs 0,.z s va] [] (.ret (.o 1 (.k 0) 0 s)) [.sc (bv (cF t key true b))]:=by subst ha;exact JY (h.rblk hb)
theorem a0p (n:Nat) (mode:Int) (b:Bs) {m:Nat} (hb:b.length=m):(decide (mode=9)||(decide (mode=8)&& !((m:Int)==((2*n:Nat):Int))))=cX n mode b:=by
 unfold cX;rw[hb];congr 3;by_cases h:m=2*n
 ·rw[h];simp
 ·rw[decide_eq_false h];exact beq_false_of_ne (by omega)
theorem MA {t key s k xs rs} (h:j5 t key s k xs rs) {m:Nat} {vl vb:List Value} {a8 b:Bs} {mode:Int} {back:Bool} (hvl:vl=bv a8) (hvb:vb=bv b) (hl:a8.length=s) (hb:b.length=m) (hm:7<=mode/\mode<=9) (h1:s<=m) (h2:m<=2*s):
  a6 C 116 [c9 t k xs,i64 mode,bool back,.z s vl,.z m vb] [] (y6 m) [.sc (bv (M2 (cF t key false) (cF t key true) s mode back a8 b))]:=by
 subst hvl;subst hvb;have hs:=h.s_le;have w2:I6.wrap (2*(s:Int))=((2*s:Nat):Int):=by rw[Za _ (by omega)];omega
 have hsw:=a0p s mode b hb;refine AC.c ?_;refine au 0 rfl 1 (fun _=>⟨[(0,c9 t k xs),(2,bool back),(3,.z s (bv a8)),(4,.z m (bv b)),(12,i64 s),(13,bool (cX s mode b))],[]⟩) ?_ fun i hi=> ?_
 ·refine⟨[],_,_,_,_,h.size,rfl,rfl,?_⟩;refine⟨[],_,_,_,_,zf,rfl,rfl,?_⟩;rw[w2,hsw,decide_eq_true hm];refine l5 (fun h=>absurd rfl h) (fun _=> ?_);refine b8 (fun h=>absurd h (by omega)) (fun _=> ?_);refine b8 (fun h=>absurd h (by rw[w2];omega)) (fun _=> ?_);exact⟨[],0,by decide,[],⟨rfl,rfl,rfl,rfl,rfl,rfl,tq⟩,tq⟩
 refine j9 (fun _=>⟨[(0,c9 t k xs),(2,bool back),(3,.z s (bv a8)),(4,.z m (bv b)),(12,i64 s),(13,bool (cX s mode b))],[]⟩) 0 ⟨[],⟨rfl,rfl,rfl,rfl,rfl,rfl,tq⟩,tq⟩ fun j hj=> ?_;refine g8 (fun he=> ?_) (fun he=> ?_)
 ·obtain rfl:m=s:=(by omega);have lD:=h.len (back:=true) hb;have lX:=w7 hb hl;have lE:=h.len (back:=false) lX;cases back
  ·refine⟨[],_,_,_,_,H9 (a:=b) (b:=a8) rfl rfl hb hl (by omega),rfl,rfl,?_⟩;refine⟨[],_,_,_,_,h.enc lX (d7 lX),rfl,rfl,?_⟩;refine g8 (fun _=> ?_) (fun h=>absurd rfl h);refine⟨_,rfl,[.d 74 0],rfl,⟨_,rfl,d8 ?_⟩,tq⟩;rw[M2,if_pos hb,if_neg (by decide)]
  ·refine⟨[],_,_,_,_,h.dec hb rfl,rfl,rfl,?_⟩;refine⟨[],_,_,_,_,H9 (a:=cF t key true b) (b:=a8) (d7 lD) rfl lD hl (by omega),rfl,rfl,?_⟩;refine⟨_,rfl,[.d 61 0],rfl,⟨_,rfl,d8 ?_⟩,tq⟩;rw[M2,if_pos hb,if_pos rfl]
 ·have hne:¬b.length=s:=by omega
  refine g8 (fun h=>absurd h he) (fun _=> ?_);cases back
  ·refine⟨[],_,_,_,_,IC h rfl rfl hl hb (by omega) h2,rfl,rfl,?_⟩;refine⟨_,rfl,[.d 94 0],rfl,⟨_,rfl,d8 ?_⟩,tq⟩;rw[M2,if_neg hne,if_neg (by decide)]
  ·refine⟨[],_,_,_,_,Hd h rfl rfl hl hb (by omega) h2,rfl,rfl,?_⟩;refine⟨_,rfl,[.d 89 0],rfl,⟨_,rfl,d8 ?_⟩,tq⟩;rw[M2,if_neg hne,if_pos rfl]
abbrev Ot (e:Int):Oc:= .ret (.t [d9,i64 e])
theorem MB {t key s k xs rs} (h:j5 t key s k xs rs) {l m:Nat} {vl vb:List Value} {a8 b:Bs} {mode:Int} {back:Bool} (hl:a8.length=l) (hb:b.length=m) (hm:m<=1000000) (he:nM s mode a8 b≠0):
  a6 C 116 [c9 t k xs,i64 mode,bool back,.z l vl,.z m vb] [] (Ot (nM s mode a8 b)) []:=by
 have hs:=h.s_le;have w2:I6.wrap (2*(s:Int))=((2*s:Nat):Int):=by rw[Za _ (by omega)];omega
 unfold nM at he ⊢;rw[hl,hb]at he ⊢;refine AC.c ?_;refine⟨0,Unit,fun _=>⟨[],[]⟩,fun _=>False,fun _=>0,?_,fun _ h=>h.elim⟩
 ·refine⟨[],_,_,_,_,h.size,rfl,rfl,?_⟩;refine⟨[],_,_,_,_,zf,rfl,rfl,?_⟩;by_cases h3:mode<7\/9<mode
  ·rw[if_pos h3,decide_eq_false (show ¬(7<=mode/\mode<=9) by omega)];exact⟨_,rfl,[],rfl,tq⟩
  ·rw[if_neg h3]at he ⊢;rw[decide_eq_true (show 7<=mode/\mode<=9 by omega)];refine l5 (fun h5=> ?_) (fun h5=> ?_)
   ·rw[if_pos (by omega)];exact⟨_,rfl,[],rfl,tq⟩
   ·rw[if_neg (by omega)]at he ⊢;refine b8 (fun h7=> ?_) (fun h7=> ?_)
    ·rw[if_pos (by omega)];refine b8 (fun _=> ?_) (fun h=>absurd h7 h);exact⟨_,rfl,[],rfl,tq⟩
    ·refine b8 (fun h7'=> ?_) (fun h7'=> ?_)
     ·rw[w2]at h7';rw[if_pos (by omega)];exact⟨_,rfl,[],rfl,tq⟩
     ·rw[w2]at h7';rw[if_neg (by omega)]at he;exact absurd rfl he
theorem FG:∀(x:Bs),i7 (Zk x.length 0) x=x
 |[]=>rfl
 |a::x=>by
  have ih:=FG x;unfold i7 at ih ⊢;rw[Z6,List.replicate_succ,Jb,ih,UInt8.zero_xor]
theorem a2D {b x:Bs} {n d:Nat} (hb:b.length=d) (hx:x.length=n) (hd:d<=n):i7 (b++Zk (n-d) 0) x=L0 x b:=by
 have e:x=x.take d++x.drop d:=(Z3 d x).symm;have l1:(x.take d).length=d:=by rw[Zg];omega
 have l2:(x.drop d).length=n-d:=by rw[Zf];omega
 have h:i7 (b++Zk (n-d) 0) (x.take d++x.drop d)=i7 b (x.take d)++i7 (Zk (n-d) 0) (x.drop d):=by
  unfold i7;exact List.zipWith_append (by rw[hb,l1])
 rw[<-e]at h;have hz:=FG (x.drop d);rw[l2]at hz;have ht:=a2E x b (by omega);rw[hb]at ht;rw[h,hz,FE b,ht,L0,hb]
set_option maxHeartbeats 2000000 in
theorem KV {t key s k xs rs} (h:j5 t key s k xs rs) {m:Nat} {vl vb:List Value} {a8 b:Bs} {mode:Int} {back:Bool} (hvl:vl=bv a8) (hvb:vb=bv b) (hl:a8.length=s) (hb:b.length=m) (hm:7<=mode/\mode<=9) (h1:s<=m) (h2:m<=2*s):
  a6 C 19 [.q rs 0,i64 mode,bool back,.z s vl,.z m vb] [] (y6 m) [.sc (bv (M2 (cF t key false) (cF t key true) s mode back a8 b))]:=by
 subst hvl;subst hvb;have hs:=h.s_le;have w2:I6.wrap (2*(s:Int))=((2*s:Nat):Int):=by rw[Za _ (by omega)];omega
 have e1:I6.wrap ((m:Int)-(s:Int))=((m-s:Nat):Int):=by rw[Za _ (by omega)];omega
 refine Qc.c ?_;refine⟨[],_,_,_,_,h.rsize,rfl,rfl,?_⟩;refine b8 (fun h=>absurd h (by omega)) (fun _=> ?_);refine b8 (fun h=>absurd h (by omega)) (fun _=> ?_);refine l5 (fun h=>absurd rfl h) (fun _=> ?_);refine b8 (fun h=>absurd h (by omega)) (fun _=> ?_);refine b8 (fun h=>absurd h (by rw[w2];omega)) (fun _=> ?_);refine g8 (fun he=> ?_) (fun he=> ?_)
 ·obtain rfl:m=s:=(by omega);have lD:=h.len (back:=true) hb;have lX:=w7 hb hl;cases back
  ·refine⟨[],_,_,_,_,D8 (a:=b) (b:=a8) rfl rfl hb hl (by omega),rfl,rfl,?_⟩;refine⟨[],_,_,_,_,h.E lX (d7 lX),rfl,rfl,?_⟩;refine⟨_,rfl,[.d 64 0],rfl,⟨_,rfl,d8 ?_⟩,tq⟩;rw[M2,if_pos hb,if_neg (by decide)]
  ·refine⟨[],_,_,_,_,h.Un hb rfl,rfl,rfl,?_⟩;refine⟨[],_,_,_,_,D8 (a:=cF t key true b) (b:=a8) (d7 lD) rfl lD hl (by omega),rfl,rfl,?_⟩;refine⟨_,rfl,[.d 59 0],rfl,⟨_,rfl,d8 ?_⟩,tq⟩;rw[M2,if_pos hb,if_pos rfl]
 have hne:¬b.length=s:=by omega
 have hsw:(decide (mode=9)||(decide (mode=8)&& !(I6.wrap ((m:Int)-(s:Int))==(s:Int))))=cX s mode b:=by
  unfold cX;rw[e1,hb];congr 3;by_cases h:m=2*s
  ·rw[decide_eq_true h];exact beq_iff_eq.2 (by omega)
  ·rw[decide_eq_false h];exact beq_false_of_ne (by omega)
 refine⟨[],_,_,_,_,KU,rfl,rfl,?_⟩;rw[hsw];have hT:M2 (cF t key false) (cF t key true) s mode back a8 b=if back then bp (cF t key true) s (cX s mode b) a8 b else fv (cF t key false) s (cX s mode b) a8 b:=by rw[M2,if_neg hne]
 rw[hT];generalize cX s mode b=swap;cases back
 ·have l1:(b.take s).length=s:=by rw[Zg];omega
  have l2:(b.drop s).length=m-s:=by rw[Zf,hb]
  have lx1:(i7 (b.take s) a8).length=s:=w7 l1 hl;have lX:=h.len (back:=false) lx1;have hres:fv (cF t key false) s swap a8 b=if swap then cF t key false (L0 (cF t key false (i7 (b.take s) a8)) (b.drop s))++(cF t key false (i7 (b.take s) a8)).take (m-s)else (cF t key false (i7 (b.take s) a8)).take (m-s)++cF t key false (L0 (cF t key false (i7 (b.take s) a8)) (b.drop s)):=by
   unfold fv;rw[hb]
  rw[if_neg (by decide),hres];refine⟨by omega,by omega,by omega,by omega,?_⟩;refine⟨[],_,_,_,_,D8 (va:=sub (bv b) 0 s) (a:=b.take s) (b:=a8) (k7 b 0 s) rfl l1 hl (by omega),rfl,rfl,?_⟩;refine⟨[],_,_,_,_,h.E lx1 (d7 lx1),rfl,rfl,?_⟩;have lp2:(L0 (cF t key false (i7 (b.take s) a8)) (b.drop s)).length=s:=by rw[qG (by omega),lX]
  have hfill:=a2D (x:=cF t key false (i7 (b.take s) a8)) l2 lX (by omega);generalize cF t key false (i7 (b.take s) a8)=x at*
  have e3:I6.wrap ((s:Int)-I6.wrap ((m:Int)-(s:Int)))=((s-(m-s):Nat):Int):=by rw[e1,Za _ (by omega)];omega
  refine⟨by omega,by omega,by omega,by omega,?_⟩;refine⟨by rw[Zd,t4 hb (by omega),f7,l2],by omega,by decide,?_⟩;refine⟨by rw[e3];omega,by rw[e3];omega,by rw[e3];omega,?_,_,rfl,?_⟩
  ·show 0+(0+(m-s))*1<=([]++sub (bv b) s (m-s):List Value).length;rw[Zl,t4 hb (by omega),f7,l2];omega
  have lq:(b.drop s++Zk (s-(m-s)) 0).length=s:=by rw[Zb,Jd,l2];omega
  refine⟨[],_,_,_,_,D8 (a:=b.drop s++Zk (s-(m-s)) 0) (b:=x) rfl rfl lq lX (by omega),?_,rfl,?_⟩
  ·rw[e3];show[V.z (0+(m-s)+(s-(m-s))) (sub (sub ([]++sub (bv b) s (m-s)) 0 ((0+(m-s))*1)++Zk (s-(m-s)) (Value.int .u8 0)) 0 (0+(m-s)+(s-(m-s)))),V.z s (sub (bv x) 0 s)]=_;rw[show 0+(m-s)+(s-(m-s))=s by omega,Zi,Ze,Zl,t4 hb (by omega),d7 l2,P3,v7,d7 lq,d7 lX]
  rw[hfill];refine⟨[],_,_,_,_,h.E lp2 (d7 lp2),rfl,rfl,?_⟩;have lY:=h.len (back:=false) lp2;generalize cF t key false (L0 x (b.drop s))=y at*
  have lt:(x.take (m-s)).length=m-s:=by rw[Zg];omega
  have ht:sub (bv x) 0 (m-s)=bv (x.take (m-s)):=k7 x 0 (m-s);cases swap
  ·rw[if_neg (by decide)];refine⟨by rw[e1];omega,by rw[e1];omega,by rw[e1];omega,by rw[e1];omega,?_⟩;refine⟨by rw[e1,f7,lX];show 0+0*1+(m-s)*1<=s;omega,by rw[e1];show 0+(m-s)<=_;omega,by decide,?_⟩;refine⟨by rw[f7,lY];omega,by rw[e1];show 0+(m-s)+s<=_;omega,?_,?_⟩
   ·rw[e1];show 0+(0+(m-s))*1<=([]++sub (bv x) (0+0*1) ((m-s)*1):List Value).length;rw[Zl,j6,f7,lX];omega
   rw[e1];refine⟨_,rfl,[.d 111 0],?_,⟨_,rfl,d8 ?_⟩,tq⟩
   ·show V.t [V.o 1 (.k 0) 0 (0+(m-s)+s),_]=_;rw[show 0+(m-s)+s=m by omega];rfl
   ·show sub ([]++sub (bv x) (0+0*1) ((m-s)*1)) 0 ((0+(m-s))*1)++sub (bv y) 0 (s*1)=_;simp only[Zl,Zi,Ze,Nat.zero_mul];rw[ht,d7 lt,d7 lY,v7]
  ·rw[if_pos rfl];refine⟨by rw[f7,lY];omega,by omega,by decide,?_⟩;refine⟨by rw[e1];omega,by rw[e1];omega,by rw[e1];omega,by rw[e1];omega,?_⟩;refine⟨by rw[e1,f7,lX];show 0+0*1+(m-s)*1<=s;omega,by rw[e1];show 0+s+(m-s)<=_;omega,?_,?_⟩
   ·show 0+(0+s)*1<=([]++sub (bv y) 0 (s*1):List Value).length;simp only[Zl,Ze,Zi];rw[d7 lY,f7,lY];exact Zh _
   rw[e1];refine⟨_,rfl,[.d 104 0],?_,⟨_,rfl,d8 ?_⟩,tq⟩
   ·show V.t [V.o 1 (.k 0) 0 (0+s+(m-s)),_]=_;rw[show 0+s+(m-s)=m by omega];rfl
   ·show sub ([]++sub (bv y) 0 (s*1)) 0 ((0+s)*1)++sub (bv x) (0+0*1) ((m-s)*1)=_;simp only[Zl,Zi,Ze,Nat.zero_mul];rw[d7 lY,d7 lY,ht,v7]
 ·rw[if_pos rfl];cases swap
  ·have lx:(b.take (m-s)).length=m-s:=by simp only[Zg,Zf];omega
   have ly:(b.drop (m-s)).length=s:=by simp only[Zg,Zf];omega
   have hx:sub (bv b) 0 (m-s)=bv (b.take (m-s)):=k7 b 0 (m-s);have hy:sub (bv b) (m-s) s=bv (b.drop (m-s)):=by
    rw[k7,H6 _ _ _ (by omega)]
   have hres:bp (cF t key true) s false a8 b=bW (cF t key true) a8 (b.take (m-s)) (b.drop (m-s)):=by
    unfold bp;rw[if_neg (by decide),hb]
   have lz:=h.len (back:=true) ly;rw[hres,bW];rw[lx];refine⟨by rw[e1];omega,by rw[e1];omega,by rw[e1];omega,by rw[e1];omega,?_⟩;refine⟨by rw[e1];omega,by rw[e1];omega,by omega,by omega,?_⟩;refine⟨[],_,_,_,_,h.Un ly rfl,?_,rfl,?_⟩
   ·rw[e1,<-hy];show[V.q rs 0,V.z (m-(m-s)) (sub (bv b) (m-s) (m-(m-s)))]=_;rw[show m-(m-s)=s by omega]
   generalize cF t key true (b.drop (m-s))=z at*
   have lt:(z.take (m-s)).length=m-s:=by rw[Zg];omega
   refine⟨by rw[e1];omega,by rw[e1];omega,by rw[e1];omega,by rw[e1];omega,?_⟩;refine⟨[],_,_,_,_,D8 (a:=z.take (m-s)) (b:=b.take (m-s)) rfl rfl lt lx (by omega),?_,rfl,?_⟩
   ·rw[e1,<-hx];show[V.z (m-s) (sub (bv z) 0 (m-s)),V.z (m-s) (sub (bv b) 0 (m-s))]=_;rw[k7];rfl
   have lq:(i7 (z.take (m-s)) (b.take (m-s))).length=m-s:=w7 lt lx;refine⟨?_,by rw[e1];omega,by decide,?_⟩
   ·rw[e1];show(sub (bv b) 0 (m-s)).length=m-s;rw[hx,f7,lx]
   refine⟨by rw[e1];omega,by rw[e1];omega,by omega,by omega,?_⟩;refine⟨?_,?_,?_,?_⟩
   ·rw[e1,f7,lz];show 0+(m-s)*1+(s-(m-s))*1<=s;omega
   ·rw[e1];show 0+(m-s)+(s-(m-s))<=_;omega
   ·rw[e1];show 0+(0+(m-s))*1<=([]++sub (bv b) 0 (m-s):List Value).length;rw[Zl,hx,f7,lx];omega
   have lw:(b.take (m-s)++z.drop (m-s)).length=s:=by rw[Zb,lx,Zf];omega
   refine⟨[],_,_,_,_,h.Un lw rfl,?_,rfl,?_⟩
   ·rw[e1];show[V.q rs 0,V.z (0+(m-s)+(s-(m-s))) (sub (sub ([]++sub (bv b) 0 (m-s)) 0 ((0+(m-s))*1)++sub (bv z) (0+(m-s)*1) ((s-(m-s))*1)) 0 (0+(m-s)+(s-(m-s))))]=_;rw[show 0+(m-s)+(s-(m-s))=s by omega,Zl,hx,Zi,Ze,Ze,Zi,d7 lx,k7,H6 z _ _ (by omega),v7,d7 lw]
   have lp:=h.len (back:=true) lw;generalize cF t key true (b.take (m-s)++z.drop (m-s))=p at*
   refine⟨[],_,_,_,_,D8 (a:=p) (b:=a8) (d7 lp) rfl lp hl (by omega),rfl,rfl,?_⟩;have lp2:(i7 p a8).length=s:=w7 lp hl;refine⟨?_,?_,?_,?_⟩
   ·rw[f7,lq];show 0+(m-s)*1<=m-s;omega
   ·show s+(m-s)<=_;omega
   ·rw[f7,lp2];omega
   rw[e1];refine⟨_,rfl,[.d 147 0],?_,⟨_,rfl,d8 ?_⟩,tq⟩
   ·show V.t [V.o 1 (.k 0) 0 (s+(m-s)),_]=_;rw[show s+(m-s)=m by omega];rfl
   ·show sub (bv (i7 p a8)) 0 (s*1)++sub (bv (i7 (z.take (m-s)) (b.take (m-s)))) 0 ((m-s)*1)=_;rw[Ze,Ze,d7 lp2,d7 lq,v7]
  ·have lx:(b.drop s).length=m-s:=by simp only[Zg,Zf];omega
   have ly:(b.take s).length=s:=by simp only[Zg,Zf];omega
   have hx:sub (bv b) s (m-s)=bv (b.drop s):=t4 hb (by omega);have hy:sub (bv b) 0 s=bv (b.take s):=by
    exact k7 b 0 s
   have hres:bp (cF t key true) s true a8 b=bW (cF t key true) a8 (b.drop s) (b.take s):=by
    unfold bp;rw[if_pos rfl]
   have lz:=h.len (back:=true) ly;rw[hres,bW];rw[lx];refine⟨by rw[e1];omega,by rw[e1];omega,by rw[e1];omega,by rw[e1];omega,?_⟩;refine⟨by rw[e1];omega,by rw[e1];omega,by omega,by omega,?_⟩;refine⟨by omega,by omega,by omega,by omega,?_⟩;refine⟨by omega,by omega,by omega,by omega,?_⟩;refine⟨[],_,_,_,_,h.Un ly rfl,?_,rfl,?_⟩
   ·rw[<-hy];rfl
   generalize cF t key true (b.take s)=z at*
   have lt:(z.take (m-s)).length=m-s:=by rw[Zg];omega
   refine⟨by rw[e1];omega,by rw[e1];omega,by rw[e1];omega,by rw[e1];omega,?_⟩;refine⟨[],_,_,_,_,D8 (a:=z.take (m-s)) (b:=b.drop s) rfl rfl lt lx (by omega),?_,rfl,?_⟩
   ·rw[e1,<-hx];show[V.z (m-s) (sub (bv z) 0 (m-s)),V.z (m-s) (sub (bv b) s (m-s))]=_;rw[k7];rfl
   have lq:(i7 (z.take (m-s)) (b.drop s)).length=m-s:=w7 lt lx;refine⟨?_,by omega,by decide,?_⟩
   ·
    show(sub (bv b) s (m-s)).length=m-s;rw[hx,f7,lx]
   refine⟨by rw[e1];omega,by rw[e1];omega,by omega,by omega,?_⟩;refine⟨?_,?_,?_,?_⟩
   ·rw[e1,f7,lz];show 0+(m-s)*1+(s-(m-s))*1<=s;omega
   ·rw[e1];show 0+(m-s)+(s-(m-s))<=_;omega
   ·
    show 0+(0+(m-s))*1<=([]++sub (bv b) s (m-s):List Value).length;rw[Zl,hx,f7,lx];omega
   have lw:(b.drop s++z.drop (m-s)).length=s:=by rw[Zb,lx,Zf];omega
   refine⟨[],_,_,_,_,h.Un lw rfl,?_,rfl,?_⟩
   ·rw[e1];show[V.q rs 0,V.z (0+(m-s)+(s-(m-s))) (sub (sub ([]++sub (bv b) s (m-s)) 0 ((0+(m-s))*1)++sub (bv z) (0+(m-s)*1) ((s-(m-s))*1)) 0 (0+(m-s)+(s-(m-s))))]=_;rw[show 0+(m-s)+(s-(m-s))=s by omega,Zl,hx,Zi,Ze,Ze,Zi,d7 lx,k7,H6 z _ _ (by omega),v7,d7 lw]
   have lp:=h.len (back:=true) lw;generalize cF t key true (b.drop s++z.drop (m-s))=p at*
   refine⟨[],_,_,_,_,D8 (a:=p) (b:=a8) (d7 lp) rfl lp hl (by omega),rfl,rfl,?_⟩;have lp2:(i7 p a8).length=s:=w7 lp hl;refine⟨?_,?_,?_,?_⟩
   ·rw[f7,lq];show 0+(m-s)*1<=m-s;omega
   ·show s+(m-s)<=_;omega
   ·rw[f7,lp2];omega
   rw[e1];refine⟨_,rfl,[.d 147 0],?_,⟨_,rfl,d8 ?_⟩,tq⟩
   ·show V.t [V.o 1 (.k 0) 0 (s+(m-s)),_]=_;rw[show s+(m-s)=m by omega];rfl
   ·show sub (bv (i7 p a8)) 0 (s*1)++sub (bv (i7 (z.take (m-s)) (b.drop s))) 0 ((m-s)*1)=_;rw[Ze,Ze,d7 lp2,d7 lq,v7]
theorem j5.stT_len {t key s k xs rs} (h:j5 t key s k xs rs) {m:Nat} {mode:Int} {back:Bool} {a8 b:Bs} (hl:a8.length=s) (hb:b.length=m) (h1:s<=m) (h2:m<=2*s):(M2 (cF t key false) (cF t key true) s mode back a8 b).length=m:=by
 subst hb;exact Go.Scr.stT_len h.ci hl h1 h2
theorem Fq (a:UInt8):U8.wrap ((a.toNat:Int)+1)=((a+1).toNat:Int):=a2a a 1
theorem lW (a:UInt8):((a.toNat:Int)=0)↔a=0:=by
 constructor
 ·intro h;refine Z9.1 ?_;have:(0:UInt8).toNat=0:=rfl;omega
 ·intro h;subst h;rfl
theorem AY {c:Bs} {i:Nat}:eQ c (i+1)=if c.getD i 0+1=0 then eQ (c.set i (c.getD i 0+1)) i else c.set i (c.getD i 0+1):=by
 rw[eQ]
theorem IP {n:Nat} {va:List Value} {b:Bs} (ha:va=bv b) (hn:b.length=n) (hm:n<=1000):a6 C 230 [.z n va] [] (.ret (.o 1 (.k 0) 0 n)) [.sc (bv (T3 b))]:=by
 subst ha;refine Tj.c ?_;refine⟨0,Nat×Bs,fun x=>⟨[(3,.o 1 (.k 0) 0 n),(4,i64 x.1)],[.sc (bv x.2)]⟩,fun x=>x.1<=n/\x.2.length=n/\eQ x.2 x.1=T3 b,fun x=>x.1,?_,fun x hx=> ?_⟩
 ·refine⟨by omega,by omega,by omega,?_⟩;refine⟨by rw[f7];omega,by omega,by decide,?_⟩;refine⟨[],(n,b),⟨Zh _,hn,by rw[<-hn];rfl⟩,[.d 9 0],⟨?_,?_,tq⟩,⟨_,rfl,d8 ?_⟩,tq⟩
  ·exact congrArg (V.o 1 (.k 0) 0) (by omega)
  ·exact b9 (by omega)
  ·rfl
 ·obtain⟨i,c⟩:=x;obtain⟨h1,h2,h3⟩:=hx;dsimp only at h1 h2 h3;refine b8 (fun h=> ?_) (fun h=> ?_)
  ·obtain⟨i,rfl⟩:∃j,i=j+1:=⟨i-1,by omega⟩;have e1:I6.wrap (((i+1:Nat):Int)-1)=(i:Int):=by rw[Za _ (by omega)];omega
   rw[AY]at h3;refine⟨by rw[e1];omega,by rw[e1];omega,.int .u8 ((c.getD i 0).toNat:Int),by rw[e1,Zd,Ze,Zi];exact m7 (show i<c.length by omega),?_⟩;refine⟨by rw[e1];omega,by rw[e1];omega,by rw[e1,Zd,f7];show 0+i*1<c.length;omega,?_⟩;have e2:(bv c).set (0+(I6.wrap (((i+1:Nat):Int)-1)).toNat*1) (.int .u8 (U8.wrap (((c.getD i 0).toNat:Int)+1)))=bv (c.set i (c.getD i 0+1)):=by
    rw[e1,Zd,Ze,Zi,Fq,G0]
   have l2:(c.set i (c.getD i 0+1)).length=n:=by rw[Zs,h2]
   have g2:(c.set i (c.getD i 0+1)).getD i 0=c.getD i 0+1:=by
    rw[Zc,Jh,if_pos rfl,if_pos (by omega)];rfl
   refine⟨by rw[e1];omega,by rw[e1];omega,.int .u8 ((c.getD i 0+1).toNat:Int),?_,?_⟩
   ·show((bv c).set (0+(I6.wrap (((i+1:Nat):Int)-1)).toNat*1) (.int .u8 (U8.wrap (((c.getD i 0).toNat:Int)+1))))[0+(I6.wrap (((i+1:Nat):Int)-1)).toNat*1]? =_;rw[e2,e1,Zd,Ze,Zi,m7 (by omega),g2]
   refine g8 (fun hz=> ?_) (fun hz=> ?_)
   ·rw[if_pos ((lW _).1 hz)]at h3;exact⟨rfl,(i,c.set i (c.getD i 0+1)),⟨by show i<=n;omega,l2,h3⟩,(by show i<i+1;omega),[.k 0],⟨rfl,b9 e1,tq⟩,⟨_,rfl,d8 e2⟩,tq⟩
   ·rw[if_neg (fun e=>hz ((lW _).2 e))]at h3;refine⟨_,rfl,[.k 0],rfl,⟨_,rfl,d8 ?_⟩,tq⟩;rw[<-h3];exact e2
  ·obtain rfl:i=0:=(by omega);refine⟨_,rfl,[.k 0],rfl,⟨_,rfl,d8 ?_⟩,tq⟩;rw[<-h3];rfl
theorem oQ {n:Nat} {va:List Value} {b:Bs} (ha:va=bv b) (hn:b.length=n) (hm:n<=1000):a6 C 124 [.z n va] [] (.ret (.o 1 (.k 0) 0 n)) [.sc (bv (T3 b))]:=by
 subst ha;refine Qi.c ?_;refine⟨by rw[f7];omega,by omega,by decide,?_⟩;refine⟨Nat×Bs,fun x=>⟨[(3,.o 1 (.k 0) 0 n),(4,i64 x.1)],[.sc (bv x.2)]⟩,fun x=>x.1<=n/\x.2.length=n/\eQ x.2 x.1=T3 b,fun x=>x.1,?_,fun x hx=> ?_⟩
 ·refine⟨[],(n,b),⟨Zh _,hn,by rw[<-hn];rfl⟩,[.d 7 0],⟨?_,?_,tq⟩,⟨_,rfl,d8 ?_⟩,tq⟩
  ·exact congrArg (V.o 1 (.k 0) 0) (by omega)
  ·exact b9 (by omega)
  ·rfl
 ·obtain⟨i,c⟩:=x;obtain⟨h1,h2,h3⟩:=hx;dsimp only at h1 h2 h3;refine b8 (fun h=> ?_) (fun h=> ?_)
  ·obtain⟨i,rfl⟩:∃j,i=j+1:=⟨i-1,by omega⟩;have e1:I6.wrap (((i+1:Nat):Int)-1)=(i:Int):=by rw[Za _ (by omega)];omega
   rw[AY]at h3;refine⟨by rw[e1];omega,by rw[e1];omega,.int .u8 ((c.getD i 0).toNat:Int),by rw[e1,Zd,Ze,Zi];exact m7 (show i<c.length by omega),?_⟩;refine⟨by rw[e1];omega,by rw[e1];omega,by rw[e1,Zd,f7];show 0+i*1<c.length;omega,?_⟩;have e2:(bv c).set (0+(I6.wrap (((i+1:Nat):Int)-1)).toNat*1) (.int .u8 (U8.wrap (((c.getD i 0).toNat:Int)+1)))=bv (c.set i (c.getD i 0+1)):=by
    rw[e1,Zd,Ze,Zi,Fq,G0]
   have l2:(c.set i (c.getD i 0+1)).length=n:=by rw[Zs,h2]
   have g2:(c.set i (c.getD i 0+1)).getD i 0=c.getD i 0+1:=by
    rw[Zc,Jh,if_pos rfl,if_pos (by omega)];rfl
   refine⟨by rw[e1];omega,by rw[e1];omega,.int .u8 ((c.getD i 0+1).toNat:Int),?_,?_⟩
   ·show((bv c).set (0+(I6.wrap (((i+1:Nat):Int)-1)).toNat*1) (.int .u8 (U8.wrap (((c.getD i 0).toNat:Int)+1))))[0+(I6.wrap (((i+1:Nat):Int)-1)).toNat*1]? =_;rw[e2,e1,Zd,Ze,Zi,m7 (by omega),g2]
   refine l5 (fun hz=> ?_) (fun hz=> ?_)
   ·rw[if_neg (fun e=>hz ((lW _).2 e))]at h3;refine⟨_,rfl,[.k 0],rfl,⟨_,rfl,d8 ?_⟩,tq⟩;rw[<-h3];exact e2
   ·rw[if_pos ((lW _).1 hz)]at h3;exact⟨(i,c.set i (c.getD i 0+1)),⟨by show i<=n;omega,l2,h3⟩,(by show i<i+1;omega),[.k 0],⟨rfl,b9 e1,tq⟩,⟨_,rfl,d8 e2⟩,tq⟩
  ·obtain rfl:i=0:=(by omega);refine⟨_,rfl,[.k 0],rfl,⟨_,rfl,d8 ?_⟩,tq⟩;rw[<-h3];rfl
theorem Hc {t key s k xs rs} (h:j5 t key s k xs rs) {mode:Int} {back:Bool} {ch:Bs} {vc':List Value} {rv gv:V} (hv:vc'=bv ch) (hc:ch.length=s):
  a6 C 180 [.p (.k 0) 0] [.mx [c9 t k xs,i64 mode,bool back,.z s vc',rv,gv]] (.ret (.t [])) [.mx [c9 t k xs,i64 mode,bool back,.z s (bv (bR (cF t key false) mode ⟨ch,[],[]⟩).ch),.z s (bv (cF t key false ch)),d9]]:=by
 subst hv;have hs:=h.s_le;have lE:=h.len (back:=false) hc;refine PJ.c ?_;refine⟨_,rfl,?_⟩;refine⟨_,rfl,?_⟩;refine⟨[],_,_,_,_,h.enc hc rfl,rfl,rfl,?_⟩;refine⟨Zj rfl,?_⟩;refine⟨Zj rfl,?_⟩;refine⟨_,rfl,?_⟩;refine g8 (fun h5=> ?_) (fun h5=> ?_)
 ·subst h5;refine⟨_,rfl,?_⟩;refine⟨[],_,_,_,_,dk (l:=cF t key false ch) rfl lE (by omega) (by omega),?_,rfl,?_⟩
  ·show[V.z s (sub (bv (cF t key false ch)) 0 s)]=_;rw[d7 lE]
  refine⟨Zj rfl,?_⟩;refine⟨_,rfl,[.k 0],rfl,⟨_,rfl,?_⟩,tq⟩;show B.mx [c9 t k xs,i64 5,bool back,.z s (sub (bv (cF t key false ch)) 0 s),.z s (sub (bv (cF t key false ch)) 0 s),d9]=_;rw[d7 lE];rfl
 refine g8 (fun h6=> ?_) (fun h6=> ?_)
 ·subst h6;have lI:(T3 ch).length=s:=by rw[nh,hc]
  refine⟨_,rfl,?_⟩;refine⟨[],_,_,_,_,IP rfl hc (by omega),rfl,rfl,?_⟩;refine⟨Zj rfl,?_⟩;refine⟨_,rfl,[.k 0],rfl,⟨_,rfl,?_⟩,tq⟩;show B.mx [c9 t k xs,i64 6,bool back,.z s (sub (bv (T3 ch)) 0 s),.z s (sub (bv (cF t key false ch)) 0 s),d9]=_;rw[d7 lE,d7 lI];rfl
 ·refine⟨_,rfl,[.k 0],rfl,⟨_,rfl,?_⟩,tq⟩;show B.mx [c9 t k xs,i64 mode,bool back,.z s (bv ch),.z s (sub (bv (cF t key false ch)) 0 s),d9]=_;rw[d7 lE];unfold bR;rw[if_neg h5,if_neg h6]
abbrev t3 (p:UInt8):V:= .s (.int .u8 p.toNat)
def cH:Bs->Bs->Nat->V
 |[],_,_=> .u
 |_::_,g,i=> .o 1 (.k i) 0 g.length
def g9:Bs->Bs->B
 |[],_=> .dead
 |_::_,g=> .sc (bv g)
def f8 (cv:V) (mode:Int) (back:Bool) (m:MS) (i:Nat):B:= .mx [cv,i64 mode,bool back,.z m.ch.length (bv m.ch),.z m.row.length (bv m.row),cH m.row m.gone i]
theorem dB {row g:Bs} {i:Nat} (h:0<row.length):cH row g i= .o 1 (.k i) 0 g.length:=by
 cases row with
 |nil=>simp at h
 |cons a b=>rfl
theorem bL {row g:Bs} (h:0<row.length):g9 row g= .sc (bv g):=by
 cases row with
 |nil=>simp at h
 |cons a b=>rfl
theorem ay {l:Bs} {m:Nat} {x:Int} {y:UInt8} (hl:l.length=m) (hx:x=(y.toNat:Int)):sub (bv l) 0 (m*1)++sub [Value.int .u8 x] 0 (1*1)=bv (l++[y]):=by
 subst hx;rw[Ze,d7 hl];show bv l++bv [y]=_;rw[v7]
theorem P0 {l:Bs} {m:Nat} {x:Int} {y:UInt8} (hl:l.length=m) (hx:x=(y.toNat:Int)):sub (sub (bv l) 0 (m*1)++sub [Value.int .u8 x] 0 (1*1)) 0 (m+1)=bv (l++[y]):=by
 rw[ay hl hx];exact d7 (by rw[Zb,hl];rfl)
theorem R8 {x:Int} {y:UInt8} (hx:x=(y.toNat:Int)):sub ([]:List Value) 0 (0*1)++sub [Value.int .u8 x] 0 (1*1)=bv ([]++[y]):=by
 subst hx;rfl
theorem gF {x:Int} {y:UInt8} (hx:x=(y.toNat:Int)):sub (sub ([]:List Value) 0 (0*1)++sub [Value.int .u8 x] 0 (1*1)) 0 (0+1)=bv ([]++[y]):=by
 subst hx;rfl
theorem nr {back:Bool} {ch row g:Bs} {p:UInt8}:G1 3 back ⟨ch,row,g⟩ p=(p^^^row.getD 0 0,⟨ch.drop 1++[k8 back p (p^^^row.getD 0 0)],[],g++[k8 back p (p^^^row.getD 0 0)]⟩):=by
 unfold G1;dsimp only;rw[if_pos rfl]
theorem nu {back:Bool} {ch row g:Bs} {p:UInt8} (h:row.length=1):G1 4 back ⟨ch,row,g⟩ p=(p^^^row.getD 0 0,⟨g++[k8 back p (p^^^row.getD 0 0)],[],g++[k8 back p (p^^^row.getD 0 0)]⟩):=by
 unfold G1;dsimp only;rw[if_neg (by decide),if_pos rfl,if_pos h]
theorem cQ {mode:Int} {back:Bool} {ch row g:Bs} {p:UInt8} (h3:mode≠3) (h4:¬(mode=4/\row.length=1)):G1 mode back ⟨ch,row,g⟩ p=(p^^^row.getD 0 0,⟨ch,row.drop 1,g++[k8 back p (p^^^row.getD 0 0)]⟩):=by
 unfold G1;dsimp only;rw[if_neg h3];by_cases h:mode=4
 ·rw[if_pos h,if_neg (fun e=>h4 ⟨h,e⟩)]
 ·rw[if_neg h]
theorem Ho {ct:Int} {cq:Nat} {cx:List V} {mode:Int} {back:Bool} {ch g row:Bs} {p:UInt8} (hc0:2<=ch.length) (hc:ch.length<=1000) (h0:0<row.length) (hr:row.length<=1000) (hg:g.length<=1000):
  a6 C 121 [.p (.k 0) 0,t3 p] [f8 (c9 ct cq cx) mode back ⟨ch,row,g⟩ 1,g9 row g] (.ret (t3 (G1 mode back ⟨ch,row,g⟩ p).1)) [f8 (c9 ct cq cx) mode back (G1 mode back ⟨ch,row,g⟩ p).2 2,.dead,g9 (G1 mode back ⟨ch,row,g⟩ p).2.row (G1 mode back ⟨ch,row,g⟩ p).2.gone]:=by
 obtain⟨c,hcl⟩:∃c,ch.length=c:=⟨_,rfl⟩;obtain⟨r,hrl⟩:∃r,row.length=r:=⟨_,rfl⟩;obtain⟨j,hgl⟩:∃j,g.length=j:=⟨_,rfl⟩;have hX:f8 (c9 ct cq cx) mode back ⟨ch,row,g⟩ 1= .mx [c9 ct cq cx,i64 mode,bool back,.z c (bv ch),.z r (bv row),.o 1 (.k 1) 0 j]:=by
  unfold f8;rw[dB h0,<-hcl,<-hrl,<-hgl]
 rw[hX,bL h0];refine Ah.w ?_;refine⟨_,rfl,?_⟩;refine g8 (fun h=>absurd h (by omega)) (fun _=> ?_);refine⟨_,rfl,?_⟩;refine⟨by omega,by omega,_,m7 (k:=row) (i:=0) (by omega),?_⟩;refine⟨_,rfl,?_⟩;refine⟨by omega,by omega,by omega,by omega,?_⟩;refine⟨Zj rfl,?_⟩;refine⟨_,rfl,?_⟩;cases back
 ·refine⟨_,rfl,?_⟩;refine⟨Zh _,by omega,by rw[f7,hgl];omega,?_⟩;refine⟨Zj rfl,?_⟩;refine⟨_,rfl,?_⟩;refine g8 (fun h3=> ?_) (fun h3=> ?_)
  ·subst h3;rw[nr];have ld:(ch.drop 1).length=c-1:=by rw[Zf,hcl]
   have lc:(ch.drop 1++[k8 false p (p^^^row.getD 0 0)]).length=c:=by rw[Zb,ld];show c-1+1=c;omega
   refine⟨_,rfl,?_⟩;refine⟨by omega,by omega,by omega,by omega,?_⟩;refine⟨[],_,_,_,_,dk (n:=c-1) (va:=sub (bv ch) 1 (c-1)) (l:=ch.drop 1) (t4 hcl (by omega)) ld (by omega) (by omega),rfl,rfl,?_⟩;refine⟨Zh _,by omega,by rw[f7,ld];omega,?_⟩;refine⟨Zj rfl,?_⟩;refine⟨Zj rfl,?_⟩;refine⟨.ret (t3 (p^^^row.getD 0 0)),[.mx [c9 ct cq cx,i64 3,bool false,.z c (bv (ch.drop 1++[k8 false p (p^^^row.getD 0 0)])),d9,.z (j+1) (bv (g++[k8 false p (p^^^row.getD 0 0)]))],.dead],⟨_,rfl,[.k 0,.k 1],?_,⟨_,rfl,?_⟩,?_⟩,?_⟩
   ·show V.s (.int .u8 (U8.wrap _))=_;rw[k9]
   ·show B.mx [c9 ct cq cx,i64 3,bool false,.z (c-1+1) (sub (sub (bv (ch.drop 1)) 0 ((c-1)*1)++sub [Value.int .u8 _] 0 (1*1)) 0 (c-1+1)),d9,.z (j+1) (sub (sub (bv g) 0 (j*1)++sub [Value.int .u8 _] 0 (1*1)) 0 (j+1))]=_;rw[P0 ld (k9 _ _),P0 hgl (k9 _ _),show c-1+1=c by omega];rfl
   ·exact⟨⟨_,rfl,rfl⟩,tq⟩
   ·refine⟨.ret (.refl _),.cons (.mx (.cons (.refl _) (.cons (.refl _) (.cons (.refl _) (.cons ?_ (.cons .nl (.cons .u .nil))))))) (.cons (.refl _) (.dd .nil))⟩;show Wk _ (.z (ch.drop 1++[k8 false p (p^^^row.getD 0 0)]).length _);rw[lc];exact .refl _
  refine g8 (fun h4=> ?_) (fun h4=> ?_)
  ·subst h4;refine⟨_,rfl,?_⟩;refine g8 (fun hr1=> ?_) (fun hr1=> ?_)
   ·have hr1:r=1:=by have:=(rfl:Int.toNat 1=1);omega
    have lG:(g++[k8 false p (p^^^row.getD 0 0)]).length=j+1:=by rw[Zb,hgl];rfl
    rw[nu (by omega)];refine⟨_,rfl,?_⟩;refine⟨Zj rfl,?_⟩;refine⟨.ret (t3 (p^^^row.getD 0 0)),[.mx [c9 ct cq cx,i64 4,bool false,.z (j+1) (bv (g++[k8 false p (p^^^row.getD 0 0)])),.z (r-1) (bv (row.drop 1)),.z (j+1) (bv (g++[k8 false p (p^^^row.getD 0 0)]))],.dead],⟨_,rfl,[.k 0,.k 1],?_,⟨_,rfl,?_⟩,?_⟩,?_⟩
    ·show V.s (.int .u8 (U8.wrap _))=_;rw[k9]
    ·show B.mx [c9 ct cq cx,i64 4,bool false,.z (j+1) (sub (sub (bv g) 0 (j*1)++sub [Value.int .u8 _] 0 (1*1)) 0 (j+1)),.z (r-1) (sub (bv row) 1 (r-1)),.z (j+1) (sub (sub (bv g) 0 (j*1)++sub [Value.int .u8 _] 0 (1*1)) 0 (j+1))]=_;rw[P0 hgl (k9 _ _),t4 hrl (by omega)];rfl
    ·exact⟨⟨_,rfl,rfl⟩,tq⟩
    ·refine⟨.ret (.refl _),.cons (.mx (.cons (.refl _) (.cons (.refl _) (.cons (.refl _) (.cons ?_ (.cons ?_ (.cons .u .nil))))))) (.cons (.refl _) (.dd .nil))⟩
     ·show Wk _ (.z (g++[k8 false p (p^^^row.getD 0 0)]).length _);rw[lG];exact .refl _
     ·rw[show r-1=0 by omega];exact .z0
   ·have hr2:r≠1:=by have:=(rfl:Int.toNat 1=1);omega
    have lr:(row.drop 1).length=r-1:=by rw[Zf,hrl]
    rw[cQ (by decide) (fun e=>hr2 (by omega))];by_cases hr1:r=1
    ·have e0:row.drop 1=[]:=Zz.1 (by omega);rw[e0];refine⟨.ret (t3 (p^^^row.getD 0 0)),[.mx [c9 ct cq cx,i64 4,bool false,.z c (bv ch),.z (r-1) (bv (row.drop 1)),.z (j+1) (bv (g++[k8 false p (p^^^row.getD 0 0)]))],.dead],⟨_,rfl,[.k 0,.k 1],?_,⟨_,rfl,?_⟩,?_⟩,?_⟩
     ·show V.s (.int .u8 (U8.wrap _))=_;rw[k9]
     ·show B.mx [c9 ct cq cx,i64 4,bool false,.z c (bv ch),.z (r-1) (sub (bv row) 1 (r-1)),.z (j+1) (sub (sub (bv g) 0 (j*1)++sub [Value.int .u8 _] 0 (1*1)) 0 (j+1))]=_;rw[P0 hgl (k9 _ _),t4 hrl (by omega)];rfl
     ·exact⟨⟨_,rfl,rfl⟩,tq⟩
     ·refine⟨.ret (.refl _),.cons (.mx (.cons (.refl _) (.cons (.refl _) (.cons (.refl _) (.cons ?_ (.cons ?_ (.cons .u .nil))))))) (.cons (.refl _) (.dd .nil))⟩
      ·show Wk _ (.z ch.length _);rw[hcl];exact .refl _
      ·rw[show r-1=0 by omega];exact .z0
    ·rw[bL (row:=row.drop 1) (by omega)];refine⟨.ret (t3 (p^^^row.getD 0 0)),[.mx [c9 ct cq cx,i64 4,bool false,.z c (bv ch),.z (r-1) (bv (row.drop 1)),.o 1 (.k 2) 0 (j+1)],.dead,.sc (bv (g++[k8 false p (p^^^row.getD 0 0)]))],⟨_,rfl,[.k 0,.k 1,.d 44 0],?_,⟨_,rfl,?_⟩,⟨_,rfl,rfl⟩,⟨_,rfl,d8 ?_⟩,tq⟩,?_⟩
     ·show V.s (.int .u8 (U8.wrap _))=_;rw[k9]
     ·show B.mx [c9 ct cq cx,i64 4,bool false,.z c (bv ch),.z (r-1) (sub (bv row) 1 (r-1)),.o 1 (.k 2) 0 (j+1)]=_;rw[t4 hrl (by omega)]
     ·exact ay hgl (k9 _ _)
     ·refine⟨.ret (.refl _),.cons (.mx (.cons (.refl _) (.cons (.refl _) (.cons (.refl _) (.cons ?_ (.cons ?_ (.cons ?_ .nil))))))) (.cons (.refl _) (.cons (.refl _) .nil))⟩
      ·show Wk _ (.z ch.length _);rw[hcl];exact .refl _
      ·show Wk _ (.z (row.drop 1).length _);rw[lr];exact .refl _
      ·show Wk _ (cH (row.drop 1) (g++[k8 false p (p^^^row.getD 0 0)]) 2);rw[dB (row:=row.drop 1) (by omega),Zb,hgl];exact .refl _
  ·have lr:(row.drop 1).length=r-1:=by rw[Zf,hrl]
   rw[cQ h3 (fun e=>h4 e.1)];by_cases hr1:r=1
   ·have e0:row.drop 1=[]:=Zz.1 (by omega);rw[e0];refine⟨.ret (t3 (p^^^row.getD 0 0)),[.mx [c9 ct cq cx,i64 mode,bool false,.z c (bv ch),.z (r-1) (bv (row.drop 1)),.z (j+1) (bv (g++[k8 false p (p^^^row.getD 0 0)]))],.dead],⟨_,rfl,[.k 0,.k 1],?_,⟨_,rfl,?_⟩,?_⟩,?_⟩
    ·show V.s (.int .u8 (U8.wrap _))=_;rw[k9]
    ·show B.mx [c9 ct cq cx,i64 mode,bool false,.z c (bv ch),.z (r-1) (sub (bv row) 1 (r-1)),.z (j+1) (sub (sub (bv g) 0 (j*1)++sub [Value.int .u8 _] 0 (1*1)) 0 (j+1))]=_;rw[P0 hgl (k9 _ _),t4 hrl (by omega)];rfl
    ·exact⟨⟨_,rfl,rfl⟩,tq⟩
    ·refine⟨.ret (.refl _),.cons (.mx (.cons (.refl _) (.cons (.refl _) (.cons (.refl _) (.cons ?_ (.cons ?_ (.cons .u .nil))))))) (.cons (.refl _) (.dd .nil))⟩
     ·show Wk _ (.z ch.length _);rw[hcl];exact .refl _
     ·rw[show r-1=0 by omega];exact .z0
   ·rw[bL (row:=row.drop 1) (by omega)];refine⟨.ret (t3 (p^^^row.getD 0 0)),[.mx [c9 ct cq cx,i64 mode,bool false,.z c (bv ch),.z (r-1) (bv (row.drop 1)),.o 1 (.k 2) 0 (j+1)],.dead,.sc (bv (g++[k8 false p (p^^^row.getD 0 0)]))],⟨_,rfl,[.k 0,.k 1,.d 44 0],?_,⟨_,rfl,?_⟩,⟨_,rfl,rfl⟩,⟨_,rfl,d8 ?_⟩,tq⟩,?_⟩
    ·show V.s (.int .u8 (U8.wrap _))=_;rw[k9]
    ·show B.mx [c9 ct cq cx,i64 mode,bool false,.z c (bv ch),.z (r-1) (sub (bv row) 1 (r-1)),.o 1 (.k 2) 0 (j+1)]=_;rw[t4 hrl (by omega)]
    ·exact ay hgl (k9 _ _)
    ·refine⟨.ret (.refl _),.cons (.mx (.cons (.refl _) (.cons (.refl _) (.cons (.refl _) (.cons ?_ (.cons ?_ (.cons ?_ .nil))))))) (.cons (.refl _) (.cons (.refl _) .nil))⟩
     ·show Wk _ (.z ch.length _);rw[hcl];exact .refl _
     ·show Wk _ (.z (row.drop 1).length _);rw[lr];exact .refl _
     ·show Wk _ (cH (row.drop 1) (g++[k8 false p (p^^^row.getD 0 0)]) 2);rw[dB (row:=row.drop 1) (by omega),Zb,hgl];exact .refl _
 ·refine⟨_,rfl,?_⟩;refine⟨Zh _,by omega,by rw[f7,hgl];omega,?_⟩;refine⟨Zj rfl,?_⟩;refine⟨_,rfl,?_⟩;refine g8 (fun h3=> ?_) (fun h3=> ?_)
  ·subst h3;rw[nr];have ld:(ch.drop 1).length=c-1:=by rw[Zf,hcl]
   have lc:(ch.drop 1++[k8 true p (p^^^row.getD 0 0)]).length=c:=by rw[Zb,ld];show c-1+1=c;omega
   refine⟨_,rfl,?_⟩;refine⟨by omega,by omega,by omega,by omega,?_⟩;refine⟨[],_,_,_,_,dk (n:=c-1) (va:=sub (bv ch) 1 (c-1)) (l:=ch.drop 1) (t4 hcl (by omega)) ld (by omega) (by omega),rfl,rfl,?_⟩;refine⟨Zh _,by omega,by rw[f7,ld];omega,?_⟩;refine⟨Zj rfl,?_⟩;refine⟨Zj rfl,?_⟩;refine⟨.ret (t3 (p^^^row.getD 0 0)),[.mx [c9 ct cq cx,i64 3,bool true,.z c (bv (ch.drop 1++[k8 true p (p^^^row.getD 0 0)])),d9,.z (j+1) (bv (g++[k8 true p (p^^^row.getD 0 0)]))],.dead],⟨_,rfl,[.k 0,.k 1],?_,⟨_,rfl,?_⟩,?_⟩,?_⟩
   ·show V.s (.int .u8 (U8.wrap _))=_;rw[k9]
   ·show B.mx [c9 ct cq cx,i64 3,bool true,.z (c-1+1) (sub (sub (bv (ch.drop 1)) 0 ((c-1)*1)++sub [Value.int .u8 _] 0 (1*1)) 0 (c-1+1)),d9,.z (j+1) (sub (sub (bv g) 0 (j*1)++sub [Value.int .u8 _] 0 (1*1)) 0 (j+1))]=_;rw[P0 ld rfl,P0 hgl rfl,show c-1+1=c by omega];rfl
   ·exact⟨⟨_,rfl,rfl⟩,tq⟩
   ·refine⟨.ret (.refl _),.cons (.mx (.cons (.refl _) (.cons (.refl _) (.cons (.refl _) (.cons ?_ (.cons .nl (.cons .u .nil))))))) (.cons (.refl _) (.dd .nil))⟩;show Wk _ (.z (ch.drop 1++[k8 true p (p^^^row.getD 0 0)]).length _);rw[lc];exact .refl _
  refine g8 (fun h4=> ?_) (fun h4=> ?_)
  ·subst h4;refine⟨_,rfl,?_⟩;refine g8 (fun hr1=> ?_) (fun hr1=> ?_)
   ·have hr1:r=1:=by have:=(rfl:Int.toNat 1=1);omega
    have lG:(g++[k8 true p (p^^^row.getD 0 0)]).length=j+1:=by rw[Zb,hgl];rfl
    rw[nu (by omega)];refine⟨_,rfl,?_⟩;refine⟨Zj rfl,?_⟩;refine⟨.ret (t3 (p^^^row.getD 0 0)),[.mx [c9 ct cq cx,i64 4,bool true,.z (j+1) (bv (g++[k8 true p (p^^^row.getD 0 0)])),.z (r-1) (bv (row.drop 1)),.z (j+1) (bv (g++[k8 true p (p^^^row.getD 0 0)]))],.dead],⟨_,rfl,[.k 0,.k 1],?_,⟨_,rfl,?_⟩,?_⟩,?_⟩
    ·show V.s (.int .u8 (U8.wrap _))=_;rw[k9]
    ·show B.mx [c9 ct cq cx,i64 4,bool true,.z (j+1) (sub (sub (bv g) 0 (j*1)++sub [Value.int .u8 _] 0 (1*1)) 0 (j+1)),.z (r-1) (sub (bv row) 1 (r-1)),.z (j+1) (sub (sub (bv g) 0 (j*1)++sub [Value.int .u8 _] 0 (1*1)) 0 (j+1))]=_;rw[P0 hgl rfl,t4 hrl (by omega)];rfl
    ·exact⟨⟨_,rfl,rfl⟩,tq⟩
    ·refine⟨.ret (.refl _),.cons (.mx (.cons (.refl _) (.cons (.refl _) (.cons (.refl _) (.cons ?_ (.cons ?_ (.cons .u .nil))))))) (.cons (.refl _) (.dd .nil))⟩
     ·show Wk _ (.z (g++[k8 true p (p^^^row.getD 0 0)]).length _);rw[lG];exact .refl _
     ·rw[show r-1=0 by omega];exact .z0
   ·have hr2:r≠1:=by have:=(rfl:Int.toNat 1=1);omega
    have lr:(row.drop 1).length=r-1:=by rw[Zf,hrl]
    rw[cQ (by decide) (fun e=>hr2 (by omega))];by_cases hr1:r=1
    ·have e0:row.drop 1=[]:=Zz.1 (by omega);rw[e0];refine⟨.ret (t3 (p^^^row.getD 0 0)),[.mx [c9 ct cq cx,i64 4,bool true,.z c (bv ch),.z (r-1) (bv (row.drop 1)),.z (j+1) (bv (g++[k8 true p (p^^^row.getD 0 0)]))],.dead],⟨_,rfl,[.k 0,.k 1],?_,⟨_,rfl,?_⟩,?_⟩,?_⟩
     ·show V.s (.int .u8 (U8.wrap _))=_;rw[k9]
     ·show B.mx [c9 ct cq cx,i64 4,bool true,.z c (bv ch),.z (r-1) (sub (bv row) 1 (r-1)),.z (j+1) (sub (sub (bv g) 0 (j*1)++sub [Value.int .u8 _] 0 (1*1)) 0 (j+1))]=_;rw[P0 hgl rfl,t4 hrl (by omega)];rfl
     ·exact⟨⟨_,rfl,rfl⟩,tq⟩
     ·refine⟨.ret (.refl _),.cons (.mx (.cons (.refl _) (.cons (.refl _) (.cons (.refl _) (.cons ?_ (.cons ?_ (.cons .u .nil))))))) (.cons (.refl _) (.dd .nil))⟩
      ·show Wk _ (.z ch.length _);rw[hcl];exact .refl _
      ·rw[show r-1=0 by omega];exact .z0
    ·rw[bL (row:=row.drop 1) (by omega)];refine⟨.ret (t3 (p^^^row.getD 0 0)),[.mx [c9 ct cq cx,i64 4,bool true,.z c (bv ch),.z (r-1) (bv (row.drop 1)),.o 1 (.k 2) 0 (j+1)],.dead,.sc (bv (g++[k8 true p (p^^^row.getD 0 0)]))],⟨_,rfl,[.k 0,.k 1,.d 44 0],?_,⟨_,rfl,?_⟩,⟨_,rfl,rfl⟩,⟨_,rfl,d8 ?_⟩,tq⟩,?_⟩
     ·show V.s (.int .u8 (U8.wrap _))=_;rw[k9]
     ·show B.mx [c9 ct cq cx,i64 4,bool true,.z c (bv ch),.z (r-1) (sub (bv row) 1 (r-1)),.o 1 (.k 2) 0 (j+1)]=_;rw[t4 hrl (by omega)]
     ·exact ay hgl rfl
     ·refine⟨.ret (.refl _),.cons (.mx (.cons (.refl _) (.cons (.refl _) (.cons (.refl _) (.cons ?_ (.cons ?_ (.cons ?_ .nil))))))) (.cons (.refl _) (.cons (.refl _) .nil))⟩
      ·show Wk _ (.z ch.length _);rw[hcl];exact .refl _
      ·show Wk _ (.z (row.drop 1).length _);rw[lr];exact .refl _
      ·show Wk _ (cH (row.drop 1) (g++[k8 true p (p^^^row.getD 0 0)]) 2);rw[dB (row:=row.drop 1) (by omega),Zb,hgl];exact .refl _
  ·have lr:(row.drop 1).length=r-1:=by rw[Zf,hrl]
   rw[cQ h3 (fun e=>h4 e.1)];by_cases hr1:r=1
   ·have e0:row.drop 1=[]:=Zz.1 (by omega);rw[e0];refine⟨.ret (t3 (p^^^row.getD 0 0)),[.mx [c9 ct cq cx,i64 mode,bool true,.z c (bv ch),.z (r-1) (bv (row.drop 1)),.z (j+1) (bv (g++[k8 true p (p^^^row.getD 0 0)]))],.dead],⟨_,rfl,[.k 0,.k 1],?_,⟨_,rfl,?_⟩,?_⟩,?_⟩
    ·show V.s (.int .u8 (U8.wrap _))=_;rw[k9]
    ·show B.mx [c9 ct cq cx,i64 mode,bool true,.z c (bv ch),.z (r-1) (sub (bv row) 1 (r-1)),.z (j+1) (sub (sub (bv g) 0 (j*1)++sub [Value.int .u8 _] 0 (1*1)) 0 (j+1))]=_;rw[P0 hgl rfl,t4 hrl (by omega)];rfl
    ·exact⟨⟨_,rfl,rfl⟩,tq⟩
    ·refine⟨.ret (.refl _),.cons (.mx (.cons (.refl _) (.cons (.refl _) (.cons (.refl _) (.cons ?_ (.cons ?_ (.cons .u .nil))))))) (.cons (.refl _) (.dd .nil))⟩
     ·show Wk _ (.z ch.length _);rw[hcl];exact .refl _
     ·rw[show r-1=0 by omega];exact .z0
   ·rw[bL (row:=row.drop 1) (by omega)];refine⟨.ret (t3 (p^^^row.getD 0 0)),[.mx [c9 ct cq cx,i64 mode,bool true,.z c (bv ch),.z (r-1) (bv (row.drop 1)),.o 1 (.k 2) 0 (j+1)],.dead,.sc (bv (g++[k8 true p (p^^^row.getD 0 0)]))],⟨_,rfl,[.k 0,.k 1,.d 44 0],?_,⟨_,rfl,?_⟩,⟨_,rfl,rfl⟩,⟨_,rfl,d8 ?_⟩,tq⟩,?_⟩
    ·show V.s (.int .u8 (U8.wrap _))=_;rw[k9]
    ·show B.mx [c9 ct cq cx,i64 mode,bool true,.z c (bv ch),.z (r-1) (sub (bv row) 1 (r-1)),.o 1 (.k 2) 0 (j+1)]=_;rw[t4 hrl (by omega)]
    ·exact ay hgl rfl
    ·refine⟨.ret (.refl _),.cons (.mx (.cons (.refl _) (.cons (.refl _) (.cons (.refl _) (.cons ?_ (.cons ?_ (.cons ?_ .nil))))))) (.cons (.refl _) (.cons (.refl _) .nil))⟩
     ·show Wk _ (.z ch.length _);rw[hcl];exact .refl _
     ·show Wk _ (.z (row.drop 1).length _);rw[lr];exact .refl _
     ·show Wk _ (cH (row.drop 1) (g++[k8 true p (p^^^row.getD 0 0)]) 2);rw[dB (row:=row.drop 1) (by omega),Zb,hgl];exact .refl _
end Go.Scr
