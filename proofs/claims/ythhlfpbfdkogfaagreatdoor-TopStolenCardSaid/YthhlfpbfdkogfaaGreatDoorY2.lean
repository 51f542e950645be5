/-
  What the functions of the given program reckon, each by a contract, up to the law. It is no claim by itself; each contract bears its own conditions.
-/
import Derived.Test.YthhlfpbfdkogfaaGreatDoorY1
set_option linter.unusedVariables false
set_option linter.unusedSimpArgs false
set_option maxRecDepth 100000
namespace Go.Scr
open Go.Proofs
open IntWalk renaming i64_in → Za
open List renaming length_append → Zb, getD_eq_getElem?_getD → Zc, length_drop → Ze, length_take → Zf, replicate → Zj, take_append_drop → Zk, nil_append → Zl, length_reverse → Zm, range_succ → Zo, getElem?_eq_getElem → Zp, length_set → Zv, map_append → Zw, foldl_cons → Zx, foldl_append → Z0, reverse_reverse → Z4, length_cons → Z5, length_zipWith → Z6, append_nil → Z9, zipWith_cons_cons → Jb, take_of_length_le → Jc, length_replicate → Jd, getElem?_replicate_of_lt → Je, drop_append_of_le_length → Jf, append_assoc → Jj, take_length → Jm, range_succ_eq_map → Jp, length_map → Jr, length_singleton → Js, getElem?_reverse → Jt, map → Jx
open Int renaming toNat_natCast → Zd, tdiv_eq_ediv_of_nonneg → Zn, tmod_eq_emod_of_nonneg → Zr
open Nat renaming mul_one → Zg, le_refl → Zh, zero_add → Zi, mod_eq_of_lt → Zs, mod_lt → Zt, div_add_mod → Zu, le_of_ble_eq_true → Zz, pow_le_pow_right → Z3, mul_mod → Ja, mod_mul_mod → Jg, mul_succ → Jh, mul_comm → Ji, mul_mod_left → Jk, add_sub_cancel_left → Jl, testBit_lt_two_pow → Jn, sub_self → Jo, mul_zero → Jw
open UInt8 renaming ofNat → Zq, toNat_ofNat' → Zy, xor_assoc → Z7, toNat_inj → Z8, xor_zero → Ju
open UInt32 renaming sub_add_cancel → Z1, add_sub_cancel → Z2, toNat_ofNat' → Jv
open BitVec renaming ofInt → Jq
open Go.IntKind renaming i64 → I6, u8 → U8
theorem JD {va vk:List Value} {r k:Bs} (ha:va=bv r) (hk:vk=bv k) (hr:r.length=4) (hkl:k.length=6):a7 C 187 [.z 4 va,.z 6 vk] [] (.ret (.t [.o 1 (.k 0) 0 4,bool true])) [.sc (bv (dF r k))]:=by
 have hp:(B9 (N6 48) r).length=6:=by rw[dZ,eB]
 have hx:(f8 (B9 (N6 48) r) k).length=6:=w6 hp hkl;generalize hxe:f8 (B9 (N6 48) r) k=x at hx;refine Pe.c ?_;refine U9 0 rfl 8 (fun i=>⟨[(6,.z 6 (bv x)),(8,.o 1 (.k 0) 0 4),(9,i64 i)],[.sc (bv (K7 x i))]⟩) ?_ fun i hi=> ?_
 ·refine⟨[],_,_,_,_,MM,rfl,rfl,?_⟩;refine⟨[],_,_,_,_,jU (b:=r) (t:=N6 48) (n:=48) ha (B8 (eB _)) hr (eB _) (by decide) (by decide) (by decide) (by decide +kernel),rfl,rfl,?_⟩;refine⟨[],_,_,_,_,B5 (a:=B9 (N6 48) r) (b:=k) (b8 hp) hk hp hkl (by decide),rfl,rfl,?_⟩;rw[hxe];refine⟨by decide,by decide,by decide,?_⟩;refine⟨[],0,by decide,[.d 34 0],⟨?_,rfl,rfl,tq⟩,⟨_,rfl,d9 ?_⟩,tq⟩
  ·show V.z 6 (sub (bv x) 0 6)=_;rw[b8 hx]
  ·rfl
 have p1:I6.wrap (I6.wrap (6*(i:Int))+1)=((6*i+1:Nat):Int):=by
  rw[Za (6*(i:Int)) (by omega),Za _ (by omega)];omega
 refine⟨[],_,_,_,_,oK (n:=6*i+1) (b:=x) p1 rfl hx (by decide) (by omega) (by omega),rfl,rfl,?_⟩;have p2:I6.wrap (I6.wrap (I6.wrap (6*(i:Int))+1)+5)=((6*i+6:Nat):Int):=by
  rw[p1,Za _ (by omega)];omega
 refine⟨[],_,_,_,_,oK (n:=6*i+6) (b:=x) p2 rfl hx (by decide) (by omega) (by omega),rfl,rfl,?_⟩;have hb1:=aO (tb x (6*i+1-1));have hb2:=aO (tb x (6*i+6-1));have hrow:I6.wrap (I6.wrap (2*(((tb x (6*i+1-1)).toNat:Nat):Int))+(((tb x (6*i+6-1)).toNat:Nat):Int))=((fa x i:Nat):Int):=by
  rw[Za (2*(((tb x (6*i+1-1)).toNat:Nat):Int)) (by omega),Za _ (by omega)];rfl
 refine j9 (fun k=>⟨[(6,.z 6 (bv x)),(8,.o 1 (.k 0) 0 4),(9,i64 i),(10,i64 (6*i+1:Nat)),(11,i64 (fa x i:Nat)),(12,i64 (cU x i k:Nat)),(13,i64 (k+1:Nat))],[.sc (bv (K7 x i))]⟩) 4 ⟨[.k 0],⟨rfl,rfl,rfl,d7 p1,d7 hrow,rfl,rfl,tq⟩,⟨_,rfl,rfl⟩,tq⟩ fun k hk=> ?_;refine c9 (fun h=> ?_) (fun h=> ?_)
 ·have hkl:k<4:=(by omega);have p3:I6.wrap (((6*i+1:Nat):Int)+((k+1:Nat):Int))=((6*i+k+2:Nat):Int):=by
   rw[Za _ (by omega)];omega
  refine⟨[],_,_,_,_,oK (n:=6*i+k+2) (b:=x) p3 rfl hx (by decide) (by omega) (by omega),rfl,rfl,?_⟩;have hb:=aO (tb x (6*i+k+2-1));have hc:=mU x i k;have hc2:2^k<=8:=by
   have:2^k<=2^3:=Z3 (by decide) (by omega);simpa using this
  refine⟨k+1,by omega,by omega,[.k 0],⟨rfl,rfl,rfl,rfl,rfl,d7 ?_,d7 (by simp(disch:=omega)only[Za];omega),tq⟩,⟨_,rfl,rfl⟩,tq⟩;rw[Za (2*((cU x i k:Nat):Int)) (by omega),Za _ (by omega)];show _=((2*cU x i k+(tb x (6*i+1+k)).toNat:Nat):Int);rw[show 6*i+1+k=6*i+k+2-1 by omega];omega
 ·obtain rfl:k=4:=(by omega);have e2:I6.wrap ((i:Int).tdiv 2)=((i/2:Nat):Int):=by
   rw[Zn (by omega),Za _ (by omega)];omega
  have e3:I6.wrap (4*I6.wrap (1-(i:Int).tmod 2))=((4*(1-i%2):Nat):Int):=by
   rw[Zr (by omega),Za (1-(i:Int)%2) (by omega),Za _ (by omega)];omega
  have hcl:=mU x i 4;obtain⟨o1,o2⟩:=tV i hi _ (kn x i);refine⟨by decide,by rw[e2];omega,by rw[e2];omega,?_⟩;refine⟨_,by rw[e2,Zd,Zg,Zi];exact A1 (by rw[kj];omega),?_⟩;refine⟨[],_,_,_,_,JE hi (kn x i),rfl,rfl,?_⟩;refine⟨by omega,?_,?_⟩
  ·show((cU x i 4:Nat):Int)<(((O0 i (fa x i)).toArray.size:Nat):Int);simp only[List.size_toArray,o1];omega
  refine⟨_,by rw[Zd];exact nQ (by omega),?_⟩;refine⟨[],_,_,_,_,JJ rfl (o2 _ hcl),rfl,rfl,?_⟩;refine⟨by decide,by rw[e3];omega,by rw[e2];omega,by rw[e2];omega,by rw[e2,f9,kj];omega,?_⟩;have hset:(bv (K7 x i)).set (i/2) (.int .u8 (U8.wrap ((Jq U8.bits (((K7 x i).getD (i/2) 0).toNat:Int)|||Jq U8.bits (U8.wrap (((dS x i:Nat):Int)*2^(min ((4*(1-i%2):Nat):Int).toNat U8.bits)))).toNat:Int)))=bv (K7 x (i+1)):=by
   rw[Wh _ (pz hi) _ (by omega),rJ,L0,Ar hi]
  have w1:I6.wrap ((i:Int)+1)=((i+1:Nat):Int):=by rw[Za _ (by omega)];omega
  refine c9 (fun h=> ?_) (fun h=> ?_)
  ·rw[w1]at h;refine⟨rfl,i+1,by omega,by omega,[.k 0],⟨rfl,rfl,d7 w1,tq⟩,⟨_,rfl,d9 ?_⟩,tq⟩;rw[e2,e3,Zd,Zg,Zi];exact hset
  ·rw[w1]at h;obtain rfl:i=7:=(by omega);refine⟨[],_,_,_,_,KX,rfl,rfl,?_⟩;have hm:jn.length=32:=rfl;have h8:=kj x 8;refine⟨[],_,_,_,_,jU (b:=K7 x 8) (t:=jn) (n:=32) ?_ (B8 hm) h8 hm (by decide) (by decide) (by decide) (by decide +kernel),rfl,rfl,?_⟩
   ·show sub ((bv (K7 x 7)).set _ _) 0 4=_;rw[e2,e3];exact(congrArg (fun l=>sub l 0 4) hset).trans (b8 h8)
   refine⟨_,rfl,[.d 83 0],rfl,⟨_,rfl,d9 ?_⟩,tq⟩;rw[dF,hxe]
def Y5 (t:List Nat) (n:Nat):List Nat:=(List.range n).foldl (fun o i=>o.set (t.getD i 0-1) (i+1)) (Zj t.length 0)
theorem uA (t n):Y5 t (n+1)=(Y5 t n).set (t.getD n 0-1) (n+1):=by simp[Y5,Zo]
theorem nn (t n):(Y5 t n).length=t.length:=by
 induction n with
 |zero=>simp[Y5]
 |succ n ih=>rw[uA,Zv,ih]
def bJ:List Nat:=Y5 u9 64
theorem BJ:∀i,i<64->1<=u9.getD i 0/\u9.getD i 0<=64/\(Y5 u9 i).getD (u9.getD i 0-1) 0=0:=by decide +kernel
theorem M2:u9.length=64:=by decide +kernel
theorem CR (l:List Nat) (i x:Nat):(nv l).set i (.int .i64 (x:Int))=nv (l.set i x):=by simp[nv,List.map_set]
theorem CQ (n:Nat):Zj n (Value.int .i64 0)=nv (Zj n 0):=by simp[nv]
theorem JW {vt:List Value} (hv:vt=nv u9):a7 C 188 [.z 64 vt] [] (.ret (.t [.o 1 (.k 0) 0 64,bool true])) [.sc (nv bJ)]:=by
 subst hv;refine OL.c ?_;refine⟨by decide,by decide,by decide,?_⟩;refine j9 (fun i=>⟨[(0,.z 64 (nv u9)),(4,.o 1 (.k 0) 0 64),(12,i64 64),(13,i64 i)],[.sc (nv (Y5 u9 i))]⟩) 64 ⟨[.d 10 0],⟨rfl,rfl,rfl,rfl,tq⟩,⟨_,rfl,d9 ?_⟩,tq⟩ fun i hi=> ?_
 ·show Zj 64 _=_;rw[CQ,Y5,M2];rfl
 refine c9 (fun h=> ?_) (fun h=> ?_)
 ·have a9:i<64:=(by omega);obtain⟨g1,g2,g3⟩:=BJ i a9;refine⟨by omega,by omega,?_⟩;refine⟨_,by rw[Zd];exact R3 (by rw[M2];omega),?_⟩;refine c9 (fun h=> ?_) (fun h=> ?_)
  ·omega
  refine c9 (fun h=> ?_) (fun h=> ?_)
  ·omega
  have e1:I6.wrap (((u9.getD i 0:Nat):Int)-1)=((u9.getD i 0-1:Nat):Int):=by rw[Za _ (by omega)];omega
  refine⟨by rw[e1];omega,by rw[e1];omega,?_⟩;refine⟨_,by rw[e1,Zd,Zg,Zi];exact R3 (by rw[nn,M2];omega),?_⟩;refine c9 (fun h=> ?_) (fun h=> ?_)
  ·rw[g3]at h;omega
  refine⟨by rw[e1];omega,by rw[e1];omega,by rw[e1,G4,nn,M2];omega,?_⟩;have w1:I6.wrap ((i:Int)+1)=((i+1:Nat):Int):=by rw[Za _ (by omega)];omega
  refine⟨i+1,by omega,by omega,[.k 0],⟨rfl,rfl,rfl,d7 w1,tq⟩,⟨_,rfl,d9 ?_⟩,tq⟩;rw[e1,w1,Zd,Zg,Zi,CR,uA]
 ·obtain rfl:i=64:=(by omega);refine⟨by decide,by decide,by decide,?_⟩;have hl:(Y5 u9 64).length=64:=by rw[nn,M2]
  refine⟨by rw[G4,hl];decide,by decide,?_⟩;refine⟨_,rfl,[.d 45 0],rfl,⟨_,rfl,d9 ?_⟩,tq⟩;show(Zj 64 (Value.int .i64 0)).take 0++(sub (nv (Y5 u9 64)) 0 64).take 64++(Zj 64 (Value.int .i64 0)).drop 64=_;have ht:(nv (Y5 u9 64)).take 64=nv (Y5 u9 64):=Jc (by rw[G4,hl];decide);have hd:(Zj 64 (Value.int .i64 0)).drop 64=[]:=rfl;rw[B8 hl,ht,hd,List.take_zero,Zl,Z9];rfl
def fV (i:Nat):Nat:=if i<2\/i=8\/i=15 then 1 else 2
def iu (t:List Nat) (s:Nat):List Nat:=(t.take 28).drop s++(t.take 28).take s++(t.drop 28).drop s++(t.drop 28).take s
def C9:Nat->List Nat
 |0=>bH
 |i+1=>iu (C9 i) (fV i)
def bV (i n:Nat):List Nat:=(List.range n).map fun j=>(C9 (i+1)).getD (O4.getD j 0-1) 0
def Q6 (key:Bs) (i:Nat):Bs:=B9 (bV i 48) key
def y5 (key:Bs) (n:Nat):List (Bs):=(List.range n).map (Q6 key)
def kV (l:List (Bs)):List V:=l.map fun k=> .z 6 (bv k)
theorem gk:∀i,i<17->(C9 i).length=56:=by decide +kernel
theorem rC:∀j,j<48->1<=O4.getD j 0/\O4.getD j 0<=56:=by decide +kernel
theorem nU:O4.length=48:=by decide +kernel
theorem As:∀i,i<16->∀j,j<48->1<=(bV i 48).getD j 0/\(bV i 48).getD j 0<=64:=by decide +kernel
theorem eY (i n):(bV i n).length=n:=by simp[bV]
theorem Au (i n):bV i (n+1)=bV i n++[(C9 (i+1)).getD (O4.getD n 0-1) 0]:=by simp[bV,Zo]
theorem tU (key n):y5 key (n+1)=y5 key n++[Q6 key n]:=by simp[y5,Zo]
theorem cV (key n):(y5 key n).length=n:=by simp[y5]
theorem pu (key i):(Q6 key i).length=6:=by rw[Q6,dZ,eY]
theorem Y7 (l):(kV l).length=l.length:=by simp[kV]
theorem fu (H a6) (l):(kV l).map (m5 H a6 6)=kV l:=by
 unfold kV;rw[List.map_map];exact List.map_congr_left fun _ _=>rfl
theorem ZU {t:List Nat} {s:Nat} (ht:t.length=56) (hs:s<=28):
  sub (nv (sub t 0 28)) s (28-s)++sub (nv (sub t 0 28)) 0 s++sub (nv (sub t 28 28)) s (28-s)++sub (nv (sub t 28 28)) 0 s=nv (iu t s):=by
 rw[aG,aG,aG,aG,fy,fy,fy];congr 1;have e1:sub t 28 28=t.drop 28:=G5 _ _ _ (by omega);have e0:sub t 0 28=t.take 28:=rfl;rw[e1,e0,iu];rw[G5 (t.take 28) s (28-s) (by rw[Zf];omega),G5 (t.drop 28) s (28-s) (by rw[Ze];omega)];rfl
theorem Eo {t:List Nat} {s:Nat} (ht:t.length=56) (hs:s<=28):
  sub (sub (sub (sub (sub (nv t) 0 28) s (28-s)++sub (sub (nv t) 0 28) 0 s) 0 28++sub (sub (nv t) 28 28) s (28-s)) 0 (28+(28-s))++sub (sub (nv t) 28 28) 0 s) 0 56=nv (iu t s):=by
 have l0:(sub (nv t) 0 28).length=28:=by rw[j4,G4,ht];rfl
 have l1:(sub (nv t) 28 28).length=28:=by rw[j4,G4,ht];rfl
 have a:sub (sub (sub (nv t) 0 28) s (28-s)++sub (sub (nv t) 0 28) 0 s) 0 28=sub (sub (nv t) 0 28) s (28-s)++sub (sub (nv t) 0 28) 0 s:=z5 (by simp only[Zb,j4,G4,ht];omega);rw[a];have b:sub (sub (sub (nv t) 0 28) s (28-s)++sub (sub (nv t) 0 28) 0 s++sub (sub (nv t) 28 28) s (28-s)) 0 (28+(28-s))=sub (sub (nv t) 0 28) s (28-s)++sub (sub (nv t) 0 28) 0 s++sub (sub (nv t) 28 28) s (28-s):=z5 (by simp only[Zb,j4,G4,ht];omega);rw[b,z5 (by simp only[Zb,j4,G4,ht];omega)];rw[aG t 0 28,aG t 28 28];exact ZU ht hs
theorem uG (H a6) (l) (n):(kV l).map (D4 H a6 (n+1))=kV l:=by
 unfold kV;rw[List.map_map];exact List.map_congr_left fun _ _=>rfl
def pE (key:Bs) (i:Nat):B:=match i with
 |0=> .pl []
 |i+1=> .mx (kV (y5 key (i+1)))
theorem ym {va:List Value} {key:Bs} (ha:va=bv key) (hk:key.length=8):a7 C 126 [.z 8 va] [] (.ret (.t [.zz 1 16 (kV (y5 key 16)),i64 0])) []:=by
 subst ha;refine AK.c ?_;refine⟨[],_,_,_,_,yh,rfl,rfl,?_⟩;refine⟨by decide,by decide,by decide,?_⟩;refine j9 (fun i=>⟨[(0,.z 8 (bv key)),(4,.z 56 (nv (C9 i))),(5,.z 48 (nv O4)),(6,.o 1 (.k 0) 0 i),(24,i64 i)],[pE key i]⟩) 16 ⟨[.d 23 0],⟨rfl,?_,?_,rfl,rfl,tq⟩,⟨_,rfl,rfl⟩,tq⟩ fun i hi=> ?_
 ·show V.z 56 (sub (nv bH) 0 56)=_;rw[B8 (by decide +kernel)];rfl
 ·show V.z 48 (sub (nv O4) 0 48)=_;rw[B8 (by decide +kernel)]
 refine c9 (fun h=> ?_) (fun h=> ?_)
 ·have a9:i<16:=(by omega);have ht:=gk i (by omega);have l0:(sub (nv (C9 i)) 0 28).length=28:=by rw[j4,G4,ht];rfl
  have l1:(sub (nv (C9 i)) 28 28).length=28:=by rw[j4,G4,ht];rfl
  refine c9 (fun h1=> ?_) (fun h1=>j7 (fun h2=> ?_) (fun h2=>j7 (fun h3=> ?_) (fun h3=> ?_)));all_goals
   first
    |have hs:C9 (i+1)=iu (C9 i) 1:=by rw[C9,fV,if_pos (by omega)]
    |have hs:C9 (i+1)=iu (C9 i) 2:=by rw[C9,fV,if_neg (by omega)]
   refine⟨by decide,by decide,by decide,by decide,?_⟩;refine⟨[],_,_,_,_,mJ (n:=28) (va:=sub (nv (C9 i)) 0 28) l0 (by decide) (by decide),rfl,rfl,?_⟩;refine⟨by decide,by decide,by decide,by decide,?_⟩;refine⟨[],_,_,_,_,mJ (n:=28) (va:=sub (nv (C9 i)) 28 28) l1 (by decide) (by decide),rfl,rfl,?_⟩;refine⟨by decide,by decide,by decide,by decide,?_⟩;refine⟨by decide,by decide,by decide,by decide,?_⟩;refine⟨(by first|decide|(simp only[Zb,j4,l0,l1];decide)),(by first|decide|(simp only[Zb,j4,l0,l1];decide)),(by first|decide|(simp only[Zb,j4,l0,l1];decide)),?_⟩;refine⟨by decide,by decide,by decide,by decide,?_⟩;refine⟨(by first|decide|(simp only[Zb,j4,l0,l1];decide)),(by first|decide|(simp only[Zb,j4,l0,l1];decide)),(by first|decide|(simp only[Zb,j4,l0,l1];decide)),?_⟩;refine⟨by decide,by decide,by decide,by decide,?_⟩;refine⟨(by first|decide|(simp only[Zb,j4,l0,l1];decide)),(by first|decide|(simp only[Zb,j4,l0,l1];decide)),(by first|decide|(simp only[Zb,j4,l0,l1];decide)),?_⟩;refine B1 (fun j=>⟨[(0,.z 8 (bv key)),(4,.z 56 (nv (C9 (i+1)))),(5,.z 48 (nv O4)),(6,.o 1 (.k 0) 0 i),(11,.o 1 (.k 1) 0 j),(24,i64 i),(58,.z 48 (nv O4)),(59,i64 48),(60,i64 j)],[pE key i,.sc (nv (bV i j))]⟩) 48 [(11,1,.sc [])] ⟨[.k 0,.d 900000 0],⟨rfl,?_,rfl,rfl,rfl,rfl,rfl,rfl,rfl,tq⟩,⟨_,rfl,?_⟩,⟨_,rfl,rfl⟩,tq⟩ fun j hj=> ?_
   ·rw[hs];exact congrArg (V.z 56) (Eo ht (by decide))
   ·rcases i with _|i
    ·rfl
    ·show B.mx ((kV _).map _)=_;rw[fu];rfl
   refine c9 (fun h=> ?_) (fun h=> ?_)
   ·have hj':j<48:=(by omega);obtain⟨g1,g2⟩:=rC j hj';have e1:I6.wrap (((O4.getD j 0:Nat):Int)-1)=((O4.getD j 0-1:Nat):Int):=by rw[Za _ (by omega)];omega
    refine⟨by omega,by omega,?_⟩;refine⟨_,by rw[Zd];exact R3 (by rw[nU];omega),?_⟩;refine⟨by rw[e1];omega,by rw[e1];omega,?_⟩;refine⟨_,by rw[e1,Zd];exact R3 (by rw[gk _ (by omega)];omega),?_⟩;refine⟨Zh _,by omega,by rw[G4,eY];omega,?_⟩;refine⟨j+1,by omega,by omega,[.k 0,.d 71 0],⟨rfl,rfl,rfl,rfl,rfl,rfl,rfl,rfl,d7 (by simp(disch:=omega)only[Za];omega),tq⟩,⟨_,rfl,?_⟩,⟨_,rfl,d9 ?_⟩,tq⟩
    ·rcases i with _|i
     ·rfl
     ·show B.mx ((kV _).map _)=_;rw[fu];rfl
    ·rw[Au];exact gV (by rw[eY,Zg])
   ·obtain rfl:j=48:=(by omega);refine⟨[],_,_,_,_,jU (b:=key) (t:=bV i 48) (n:=48) rfl (B8 (eY _ _)) hk (eY _ _) (by decide) (by decide) (by decide) (fun j hj=>As i a9 j hj),rfl,rfl,?_⟩;have w1:I6.wrap ((i:Int)+1)=((i+1:Nat):Int):=by rw[Za _ (by omega)];omega
    have hz:V.z 6 (sub (bv (Q6 key i)) 0 6)= .z 6 (bv (Q6 key i)):=by rw[b8 (pu _ _)]
    rcases i with _|i
    ·refine⟨by decide,by decide,by decide,?_⟩;refine⟨1,by omega,by omega,[.d 82 0],⟨rfl,rfl,rfl,rfl,rfl,tq⟩,⟨_,rfl,?_⟩,tq⟩;exact congrArg (fun z=>B.mx [z]) hz
    ·refine⟨by decide,by omega,by rw[Y7,cV];omega,?_⟩;refine⟨i+1+1,by omega,by omega,[.d 82 0],⟨rfl,rfl,rfl,rfl,d7 w1,tq⟩,⟨_,rfl,?_⟩,tq⟩;show B.mx (Jx (m5 _ _ 6) (sub (kV (y5 key (i+1))) 0 ((i+1)*1)++[V.o 1 _ _ _]))= .mx (kV (y5 key (i+1+1)));rw[Zg,z5 (by rw[Y7,cV]),Zw,fu,tU key (i+1),show kV (y5 key (i+1)++[Q6 key (i+1)])=kV (y5 key (i+1))++[V.z 6 (bv (Q6 key (i+1)))] from Zw];exact congrArg (fun z=>B.mx (kV (y5 key (i+1))++[z])) hz
 ·obtain rfl:i=16:=(by omega);refine⟨_,rfl,[],?_,tq⟩;exact congrArg (fun z=>V.t [V.zz 1 16 z,i64 0]) ((congrArg (Jx _) (z5 (by rw[Y7,cV]))).trans (uG _ _ _ 2))
theorem ql {l:List (Bs)} {j:Nat} {x:Bs} (h:l[j]? =some x):(kV l)[j]? =some (.z 6 (bv x)):=by simp[kV,h]
theorem BU (l:List (Bs)) (i:Nat) (x:Bs):(kV l).set i (.z 6 (bv x))=kV (l.set i x):=by simp[kV,List.map_set]
theorem sV {n:Nat} {l:List (Bs)} {xs:List V} (hx:xs=kV l) (hn:l.length=n) (h0:0<n) (hm:n<=1000000):a7 C 127 [.zz 1 n xs] [] (.ret (.o 1 (.k 0) 0 n)) [.pl (kV l)]:=by
 subst hx;refine Sp.c ?_;refine .inl ⟨h0,?_⟩;refine⟨by rw[Y7,hn,Zg],by omega,by decide,?_⟩;refine⟨_,rfl,[.d 7 0],?_,⟨_,rfl,?_⟩,tq⟩
 ·rw[Zi];rfl
 ·rfl
theorem tm {n:Nat} {l:List (Bs)} (hn:l.length=n) (h0:0<n) (hm:n<=1073741824):a7 C 128 [.o 1 (.k 0) 0 n] [.pl (kV l)] (.ret (.t [])) [.pl (kV l.reverse)]:=by
 subst hn;refine Sw.c ?_;refine j9 (fun i=>⟨[(0,.o 1 (.k 0) 0 l.length),(2,i64 i),(3,i64 (l.length-1-i))],[.pl (kV (X0 l i))]⟩) l.length ⟨[.k 0],⟨rfl,rfl,d7 (by simp(disch:=omega)only[Za];omega),tq⟩,⟨_,rfl,congrArg B.pl (by rw[DH])⟩,tq⟩ fun i hi=> ?_;refine c9 (fun h=> ?_) (fun h=> ?_)
 ·have a9:i<l.length-1-i:=(by omega);have e1:0+((l.length:Int)-1-i).toNat*1=l.length-1-i:=(by omega);have e2:0+((i:Int)).toNat*1=i:=(by omega);refine⟨by omega,by omega,_,by rw[e1];exact ql (rc l i (l.length-1-i) (by omega) (by omega) (by omega)),?_⟩;refine⟨by omega,by omega,_,by rw[e2];exact ql (rc l i i (by omega) (by omega) (by omega)),?_⟩;refine⟨by omega,by omega,by rw[e2,Y7,fF];show i+1<=_;omega,by omega,by omega,?_,?_⟩
  ·rw[e1,e2];show l.length-1-i+1<=((kV (X0 l i)).set _ _).length;rw[Zv,Y7,fF];omega
  refine⟨i+1,by omega,by omega,[.k 0],⟨rfl,d7 (by simp(disch:=omega)only[Za];omega),d7 (by simp(disch:=omega)only[Za];omega),tq⟩,⟨_,rfl,congrArg B.pl ?_⟩,tq⟩;rw[e1,e2];show((kV (X0 l i)).set _ _).set _ _=_;rw[BU,BU,DG l i a9]
 ·refine⟨_,rfl,[.k 0],rfl,⟨_,rfl,congrArg B.pl ?_⟩,tq⟩;rw[DF l i (by omega)]
abbrev L2:=Bs×Bs
def eZ (x:L2) (k:Bs):L2:=(x.2,f8 x.1 (dF x.2 k))
def dN (ks:List (Bs)) (x:L2) (n:Nat):L2:=(List.range n).foldl (fun x i=>eZ x (ks.getD i [])) x
def y4 (b:Bs):L2:=(sub (B9 u9 b) 0 4,sub (B9 u9 b) 4 4)
def E6 (ks:List (Bs)) (b:Bs):Bs:=B9 bJ ((dN ks (y4 b) ks.length).2++(dN ks (y4 b) ks.length).1)
def gW (ks:List (Bs)):Prop:=∀i,i<ks.length->(ks.getD i []).length=6
theorem mW (ks x n):dN ks x (n+1)=eZ (dN ks x n) (ks.getD n []):=by simp[dN,Zo]
theorem eW (r k):(dF r k).length=4:=by rw[dF,dZ];rfl
theorem pv {ks x} (h1:x.1.length=4) (h2:x.2.length=4):∀n,(dN ks x n).1.length=4/\(dN ks x n).2.length=4
 |0=>⟨h1,h2⟩
 |n+1=>by
  obtain⟨a,b⟩:=pv (ks:=ks) h1 h2 n;rw[mW];exact⟨b,w6 a (eW _ _)⟩
theorem mV (b):(y4 b).1.length=4/\(y4 b).2.length=4:=by
 have:(B9 u9 b).length=8:=by rw[dZ,M2]
 constructor<;>(simp only[y4,j4];omega)
theorem vR:∀i,i<64->1<=u9.getD i 0/\u9.getD i 0<=8*8:=by decide +kernel
theorem vQ:∀i,i<64->1<=bJ.getD i 0/\bJ.getD i 0<=8*8:=by decide +kernel
theorem ir:bJ.length=64:=by decide +kernel
theorem getD_some {α:Type} {l:List α} {i:Nat} {d:α} (h:i<l.length):l[i]? =some (l.getD i d):=by simp[Zc,h]
theorem jT {va:List Value} {xs:List V} {b:Bs} {ks:List (Bs)} {n:Nat} (ha:va=bv b) (hx:xs=kV ks) (hb:b.length=8) (hn:ks.length=n) (hm:n<=1000) (hk:gW ks):
  a7 C 129 [.z 8 va,.zz 1 n xs] [] (.ret (.o 1 (.k 0) 0 8)) [.sc (bv (E6 ks b))]:=by
 subst ha;subst hx;have hl:=pv (ks:=ks) (mV b).1 (mV b).2;refine Pi.c ?_;refine U9 0 rfl (n+1) (fun i=>⟨[(1,.zz 1 n (kV ks)),(5,.z 64 (nv u9)),(6,.z 4 (bv (dN ks (y4 b) i).1)),(7,.z 4 (bv (dN ks (y4 b) i).2)),(8,i64 i)],[]⟩) ?_ fun i hi=> ?_
 ·refine⟨[],_,_,_,_,JO,rfl,rfl,?_⟩;refine⟨[],_,_,_,_,jU (b:=b) (t:=u9) (n:=64) rfl (B8 M2) hb M2 (by decide) (by decide) (by decide) vR,rfl,rfl,?_⟩;refine⟨by decide,by decide,by decide,by decide,?_⟩;refine⟨by decide,by decide,by decide,by decide,?_⟩;refine⟨[],0,by omega,[],⟨rfl,?_,?_,?_,rfl,tq⟩,tq⟩
  ·show V.z 64 (sub (nv u9) 0 64)=_;rw[B8 M2]
  ·exact congrArg (V.z 4) (l4 _ _ _)
  ·exact congrArg (V.z 4) (l4 _ _ _)
 refine c9 (fun h=> ?_) (fun h=> ?_)
 ·have a9:i<n:=(by omega);refine⟨by omega,by omega,_,by rw[Zd,Zg];exact ql (getD_some (d:=[]) (by omega)),?_⟩;refine⟨[],_,_,_,_,JD (r:=(dN ks (y4 b) i).2) (k:=ks.getD i []) rfl rfl (hl i).2 (hk i (by omega)),rfl,rfl,?_⟩;refine⟨[],_,_,_,_,B5 (a:=(dN ks (y4 b) i).1) (b:=dF (dN ks (y4 b) i).2 (ks.getD i [])) rfl (b8 (eW _ _)) (hl i).1 (eW _ _) (by decide),rfl,rfl,?_⟩;refine⟨rfl,i+1,by omega,by omega,[],⟨rfl,rfl,?_,?_,d7 (by simp(disch:=omega)only[Za];omega),tq⟩,tq⟩
  ·rw[mW];rfl
  ·rw[mW];show V.z 4 (sub (bv _) 0 4)=_;rw[b8 (w6 (hl i).1 (eW _ _))];rfl
 ·obtain rfl:i=n:=(by omega);refine⟨[],_,_,_,_,JW rfl,rfl,rfl,?_⟩;refine⟨[],_,_,_,_,U1 (n:=2) (ls:=[(dN ks (y4 b) i).2,(dN ks (y4 b) i).1]) (t:=(dN ks (y4 b) i).2++(dN ks (y4 b) i).1) (by simp) ?_ rfl (by rw[Zb,(hl i).1,(hl i).2];decide) (by rw[Zb,(hl i).1,(hl i).2];decide),rfl,rfl,?_⟩
  ·show[V.z 4 _,V.z 4 _]=[V.z _ _,V.z _ _];rw[(hl i).1,(hl i).2]
  have h8:((dN ks (y4 b) i).2++(dN ks (y4 b) i).1).length=8:=by rw[Zb,(hl i).1,(hl i).2]
  refine⟨[],_,_,_,_,jU (b:=(dN ks (y4 b) i).2++(dN ks (y4 b) i).1) (t:=bJ) (l:=((dN ks (y4 b) i).2++(dN ks (y4 b) i).1).length) (n:=64) (b8 rfl) (B8 ir) rfl ir (by rw[h8];decide) (by decide) (by decide) (by rw[h8];exact vQ),rfl,rfl,?_⟩;refine⟨_,rfl,[.d 58 0],rfl,⟨_,rfl,d9 ?_⟩,tq⟩;rw[E6,hn]
def A5 (l:List (List (Bs))):List V:=l.map fun k=> .zz 1 16 (kV k)
theorem S8 (l):(A5 l).length=l.length:=by simp[A5]
theorem gK {l:List (List (Bs))} {j:Nat} {x} (h:l[j]? =some x):(A5 l)[j]? =some (.zz 1 16 (kV x)):=by simp[A5,h]
abbrev bo (ks:List (List (Bs))):V:= .q [.zz 1 ks.length (A5 ks)] 0
def iT (ks:List (List (Bs))) (back:Bool) (b:Bs) (i:Nat):Bs:=
 E6 (if back != decide (i=1)then (if back then ks.getD (ks.length-1-i) []else ks.getD i []).reverse else (if back then ks.getD (ks.length-1-i) []else ks.getD i [])) b
def K6 (ks:List (List (Bs))) (back:Bool) (b:Bs) (n:Nat):Bs:=(List.range n).foldl (iT ks back) b
def uX (ks:List (List (Bs))):Prop:=ks.length<=3/\∀i,i<ks.length->(ks.getD i []).length=16/\gW (ks.getD i [])
theorem mY (ks b):(E6 ks b).length=8:=by rw[E6,dZ,ir]
theorem pt (ks back b n):K6 ks back b (n+1)=iT ks back (K6 ks back b n) n:=by simp[K6,Zo]
theorem pr {ks back b} (h:b.length=8):∀n,(K6 ks back b n).length=8
 |0=>h
 |n+1=>by rw[pt];exact mY _ _
theorem qK {ks} (h:gW ks):gW ks.reverse:=by
 intro i hi;have hi':i<ks.length:=by simpa using hi
 have e:ks.reverse.getD i []=ks.getD (ks.length-1-i) []:=by
  rw[Zc,Jt hi',Zc]
 rw[e];exact h _ (by omega)
def dD (ks:List (List (Bs))) (back:Bool) (b:Bs) (i:Nat):D:=match i with
 |0=>⟨[(0,bo ks),(1,.z 8 (bv b)),(2,bool back),(18,i64 ks.length),(19,i64 0)],[]⟩
 |i+1=>⟨[(0,bo ks),(1,.o 1 (.k 0) 0 8),(2,bool back),(18,i64 ks.length),(19,i64 (i+1:Nat))],[.sc (bv (K6 ks back b (i+1)))]⟩
theorem yl {va:List Value} {b:Bs} {ks:List (List (Bs))} {back:Bool} (ha:va=bv b) (hb:b.length=8) (hk:uX ks) (h0:0<ks.length):
  a7 C 79 [bo ks,.z 8 va,bool back] [] (A8 8) [.sc (bv (K6 ks back b ks.length))]:=by
 subst ha;have o8:=pr (ks:=ks) (back:=back) hb;obtain⟨h3,hk⟩:=hk;have hend:∀i k,E6 k (K6 ks back b i)=iT ks back (K6 ks back b i) i->bv (E6 k (K6 ks back b i))=bv (K6 ks back b (i+1)):=fun i k h=>by rw[h,pt]
 refine AJ.c ?_;refine⟨_,rfl,?_⟩;refine j9 (dD ks back b) ks.length ⟨[],⟨rfl,rfl,rfl,rfl,rfl,tq⟩,tq⟩ fun i hi=> ?_;rcases i with _|i
 ·refine c9 (fun h=> ?_) (fun h=>absurd h (by omega));obtain⟨k1,k2⟩:=hk 0 h0;refine⟨_,rfl,by omega,by omega,_,gK (getD_some (d:=[]) h0),?_⟩;cases back
  ·skip
   refine⟨[],_,_,_,_,jT (b:=K6 ks false b 0) (ks:=ks.getD 0 []) (by first|exact b8 (o8 _)|rfl) rfl (o8 _) k1 (by decide) k2,rfl,rfl,?_⟩;refine⟨0+1,by omega,by omega,[.d 55 0],⟨rfl,rfl,rfl,rfl,rfl,tq⟩,⟨_,rfl,d9 (hend _ _ ?_)⟩,tq⟩;rfl
  ·obtain⟨k1,k2⟩:=hk (ks.length-1-0) (by omega);have e1:I6.wrap (I6.wrap ((ks.length:Int)-1)-0)=((ks.length-1-0:Nat):Int):=by
    rw[Za ((ks.length:Int)-1) (by omega),Za _ (by omega)];omega
   refine⟨_,rfl,_,rfl,by rw[e1];omega,by rw[e1];omega,_,by rw[e1,Zd,Zg];exact gK (getD_some (d:=[]) (by omega)),?_⟩;refine⟨[],_,_,_,_,sV rfl k1 (by decide) (by decide),rfl,rfl,?_⟩;refine⟨[.d 50 0],_,_,_,_,tm (l:=ks.getD (ks.length-1-0) []) k1 (by decide) (by decide),rfl,rfl,?_⟩;refine⟨[],_,_,_,_,jT (b:=K6 ks true b 0) (ks:=(ks.getD (ks.length-1-0) []).reverse) (by first|exact b8 (o8 _)|rfl) (z5 (by rw[Y7,Zm,k1])) (o8 _) (by rw[Zm,k1]) (by decide) (qK k2),rfl,rfl,?_⟩;refine⟨0+1,by omega,by omega,[.d 55 0],⟨rfl,rfl,rfl,rfl,rfl,tq⟩,⟨_,rfl,d9 (hend _ _ ?_)⟩,tq⟩;rfl
 refine c9 (fun h=> ?_) (fun h=> ?_)
 ·have a9:i+1<ks.length:=(by omega);have w1:I6.wrap (((i+1:Nat):Int)+1)=((i+1+1:Nat):Int):=by rw[Za _ (by omega)];omega
  have one:(((i+1:Nat):Int)==1)=decide (i+1=1):=by
   by_cases h:i+1=1
   ·rw[h];rfl
   ·rw[decide_eq_false h];exact beq_false_of_ne (by omega)
  obtain⟨k1,k2⟩:=hk (i+1) a9;refine⟨_,rfl,by omega,by omega,_,by rw[Zd,Zg];exact gK (getD_some (d:=[]) a9),?_⟩;cases back
  ·refine ik (fun h1=> ?_) (fun h1=> ?_)
   ·rw[one]at h1;refine⟨[],_,_,_,_,sV rfl k1 (by decide) (by decide),rfl,rfl,?_⟩;refine⟨[.d 50 0],_,_,_,_,tm (l:=ks.getD (i+1) []) k1 (by decide) (by decide),rfl,rfl,?_⟩;refine⟨[],_,_,_,_,jT (b:=K6 ks false b (i+1)) (ks:=(ks.getD (i+1) []).reverse) (by first|exact b8 (o8 _)|rfl) (z5 (by rw[Y7,Zm,k1])) (o8 _) (by rw[Zm,k1]) (by decide) (qK k2),rfl,rfl,?_⟩;refine⟨i+1+1,by omega,by omega,[.d 55 0],⟨rfl,rfl,rfl,rfl,d7 w1,tq⟩,⟨_,rfl,d9 (hend _ _ ?_)⟩,tq⟩;unfold iT;first|(rw [if_pos (show (false != decide (i+1=1))=true from h1)];rfl)|(rw [if_pos (show (true != decide (i+1=1))=true from h1)];rfl)
   ·rw[one]at h1;refine⟨[],_,_,_,_,jT (b:=K6 ks false b (i+1)) (ks:=ks.getD (i+1) []) (by first|exact b8 (o8 _)|rfl) rfl (o8 _) k1 (by decide) k2,rfl,rfl,?_⟩;refine⟨i+1+1,by omega,by omega,[.d 55 0],⟨rfl,rfl,rfl,rfl,d7 w1,tq⟩,⟨_,rfl,d9 (hend _ _ ?_)⟩,tq⟩;unfold iT;rw[if_neg (by rw[show (false != decide (i+1=1))=false from h1];decide)];rfl
  ·have e1:I6.wrap (I6.wrap ((ks.length:Int)-1)-((i+1:Nat):Int))=((ks.length-1-(i+1):Nat):Int):=by
    rw[Za ((ks.length:Int)-1) (by omega),Za _ (by omega)];omega
   obtain⟨k1,k2⟩:=hk (ks.length-1-(i+1)) (by omega);refine⟨_,rfl,_,rfl,by rw[e1];omega,by rw[e1];omega,_,by rw[e1,Zd,Zg];exact gK (getD_some (d:=[]) (by omega)),?_⟩;refine ik (fun h1=> ?_) (fun h1=> ?_)
   ·rw[one]at h1;refine⟨[],_,_,_,_,sV rfl k1 (by decide) (by decide),rfl,rfl,?_⟩;refine⟨[.d 50 0],_,_,_,_,tm (l:=ks.getD (ks.length-1-(i+1)) []) k1 (by decide) (by decide),rfl,rfl,?_⟩;refine⟨[],_,_,_,_,jT (b:=K6 ks true b (i+1)) (ks:=(ks.getD (ks.length-1-(i+1)) []).reverse) (by first|exact b8 (o8 _)|rfl) (z5 (by rw[Y7,Zm,k1])) (o8 _) (by rw[Zm,k1]) (by decide) (qK k2),rfl,rfl,?_⟩;refine⟨i+1+1,by omega,by omega,[.d 55 0],⟨rfl,rfl,rfl,rfl,d7 w1,tq⟩,⟨_,rfl,d9 (hend _ _ ?_)⟩,tq⟩;unfold iT;first|(rw [if_pos (show (false != decide (i+1=1))=true from h1)];rfl)|(rw [if_pos (show (true != decide (i+1=1))=true from h1)];rfl)
   ·rw[one]at h1;refine⟨[],_,_,_,_,jT (b:=K6 ks true b (i+1)) (ks:=ks.getD (ks.length-1-(i+1)) []) (by first|exact b8 (o8 _)|rfl) rfl (o8 _) k1 (by decide) k2,rfl,rfl,?_⟩;refine⟨i+1+1,by omega,by omega,[.d 55 0],⟨rfl,rfl,rfl,rfl,d7 w1,tq⟩,⟨_,rfl,d9 (hend _ _ ?_)⟩,tq⟩;unfold iT;rw[if_neg (by rw[show (true != decide (i+1=1))=false from h1];decide)];rfl
 ·have he:i+1=ks.length:=(by omega);refine⟨_,rfl,[.k 0],rfl,⟨_,rfl,d9 ?_⟩,tq⟩;rw[he]
theorem yk {va:List Value} {ks:List (List (Bs))} {n:Nat} {back:Bool} (hn:n≠8):a7 C 79 [bo ks,.z n va,bool back] [] R9 []:=by
 refine AJ.c ?_;refine o9 (fun h=> ?_) (fun h=> ?_)
 ·exact⟨_,rfl,[],rfl,tq⟩
 ·omega
def F5 (key:Bs) (n:Nat):List (List (Bs)):=(List.range n).map fun i=>y5 (sub key (8*i) 8) 16
def A4 (key:Bs) (n:Nat):List (List (Bs)):=if n=2 then F5 key 2++[y5 (sub key 0 8) 16]else F5 key n
theorem tO (key n):F5 key (n+1)=F5 key n++[y5 (sub key (8*n) 8) 16]:=by simp[F5,Zo]
theorem P3 (key n):(F5 key n).length=n:=by simp[F5]
theorem dL {key n} (h:1<=n/\n<=3):(A4 key n).length=if n=2 then 3 else n:=by
 unfold A4;split
 ·rename_i h;subst h;rw[Zb,P3];rfl
 ·exact P3 _ _
theorem tT (key):(y5 key 16).length=16/\gW (y5 key 16):=by
 refine⟨cV _ _,fun i hi=> ?_⟩;rw[cV]at hi;have:(y5 key 16).getD i []=Q6 key i:=by simp[y5,Zc,hi]
 rw[this,pu]
theorem Aq {key n} (h:1<=n/\n<=3):uX (A4 key n)/\0<(A4 key n).length:=by
 have hl:=dL (key:=key) h;have hm:∀x∈A4 key n,x.length=16/\gW x:=by
  intro x hx;unfold A4 at hx;split at hx
  ·rcases List.mem_append.1 hx with hx|hx
   ·obtain⟨i,_,rfl⟩:=List.mem_map.1 hx;exact tT _
   ·rw[List.mem_singleton.1 hx];exact tT _
  ·obtain⟨i,_,rfl⟩:=List.mem_map.1 hx;exact tT _
 refine⟨⟨by rw[hl];split<;>omega,fun i hi=>hm _ ?_⟩,by rw[hl];split<;>omega⟩;rw[Zc,Zp hi];exact List.getElem_mem hi
def NV (key:Bs) (m n i:Nat):D:=match i with
 |0=>⟨[(0,.z m (bv key)),(4,i64 n),(5,.p (.k 0) 0),(26,i64 n),(27,i64 0)],[.mx [g8]]⟩
 |i+1=>⟨[(0,.z m (bv key)),(4,i64 n),(5,.p (.k 0) 0),(26,i64 n),(27,i64 (i+1:Nat))],[.mx [.o 1 (.k 1) 0 (i+1)],.pl (A5 (F5 key (i+1)))]⟩
theorem oP {va:List Value} {key:Bs} {m n:Nat} (ha:va=bv key) (hk:key.length=m) (hm:m=8*n) (hn:1<=n/\n<=3):a7 C 78 [.z m va] [] (.ret (.t [bo (A4 key n),i64 0])) []:=by
 subst ha;have e1:I6.wrap ((m:Int).tdiv 8)=(n:Int):=by
  rw[Zn (by omega),Za _ (by omega)];omega
 have e2:(m:Int).tmod 8=0:=by rw[Zr (by omega)];omega
 refine AM.c ?_;refine⟨by decide,by decide,?_⟩;rw[e1,e2];refine c9 (fun h=>absurd h (by omega)) (fun h=> ?_);refine c9 (fun h=>absurd h (by omega)) (fun h=> ?_);refine j9 (NV key m n) n ⟨[.d 25 0],⟨rfl,rfl,rfl,rfl,rfl,tq⟩,⟨_,rfl,rfl⟩,tq⟩ fun i hi=> ?_;rcases i with _|i
 ·refine c9 (fun h=> ?_) (fun h=>absurd h (by omega));refine⟨by decide,by decide,by decide,by decide,by show 8<=m;omega,?_⟩;refine⟨[],_,_,_,_,ym (key:=sub key (8*0) 8) (l4 _ _ _) (by rw[j4];omega),rfl,rfl,?_⟩;refine⟨_,rfl,Zh _,by decide,by decide,?_⟩;refine⟨1,by omega,by omega,[.k 0,.d 48 0],⟨rfl,rfl,rfl,rfl,rfl,tq⟩,⟨_,rfl,?_⟩,⟨_,rfl,?_⟩,tq⟩
  ·rfl
  ·exact congrArg B.pl rfl
 refine c9 (fun h=> ?_) (fun h=> ?_)
 ·have a9:i+1<n:=(by omega);have e3:I6.wrap (8*((i+1:Nat):Int))=((8*(i+1):Nat):Int):=by rw[Za _ (by omega)];omega
  have e4:I6.wrap (8*I6.wrap (((i+1:Nat):Int)+1))=((8*(i+1)+8:Nat):Int):=by
   rw[Za (((i+1:Nat):Int)+1) (by omega),Za _ (by omega)];omega
  refine⟨by rw[e4];omega,by rw[e3];omega,by rw[e3,e4];omega,Zh _,by rw[e4];omega,?_⟩;refine⟨[],_,_,_,_,ym (key:=sub key (8*(i+1)) 8) (va:=sub (bv key) (8*(i+1)) 8) (l4 _ _ _) (by rw[j4];omega),?_,rfl,?_⟩
  ·rw[e3,e4];show[V.z (8*(i+1)+8-8*(i+1)) (sub (bv key) (8*(i+1)) (8*(i+1)+8-8*(i+1)))]=_;rw[Jl]
  refine⟨_,rfl,Zh _,by omega,by rw[S8,P3];omega,by show 0+0+1<=1;decide,?_⟩;refine⟨i+1+1,by omega,by omega,[.k 0,.d 48 0],⟨rfl,rfl,rfl,rfl,d7 (by simp(disch:=omega)only[Za];omega),tq⟩,⟨_,rfl,rfl⟩,⟨_,rfl,congrArg B.pl ?_⟩,tq⟩;rw[Zg,z5 (by rw[S8,P3]),tO key (i+1)];exact(Zw (f:=fun k=>V.zz 1 16 (kV k)) (l₁:=F5 key (i+1)) (l₂:=[y5 (sub key (8*(i+1)) 8) 16])).symm
 ·have hin:i+1=n:=(by omega);refine j7 (fun h=> ?_) (fun h=> ?_)
  ·obtain rfl:i=1:=(by omega);subst hin;have hl:=dL (key:=key) hn;refine⟨_,rfl,_,rfl,by decide,by decide,_,rfl,Zh _,by decide,by rw[S8,P3];decide,by show 0+0+1<=1;decide,?_⟩;refine⟨_,rfl,[],?_,tq⟩;show V.t [V.q [V.zz 1 3 (sub (sub (A5 (F5 key 2)) 0 2++A5 [y5 (sub key 0 8) 16]) 0 3)] 0,i64 0]=V.t [V.q [V.zz 1 (A4 key 2).length (A5 (A4 key 2))] 0,i64 0];have e:sub (sub (A5 (F5 key 2)) 0 2++A5 [y5 (sub key 0 8) 16]) 0 3=A5 (A4 key 2):=by
    rw[z5 (l:=A5 (F5 key 2)) (by rw[S8,P3]),A4,if_pos rfl,z5 (by rw[Zb,S8,P3];rfl)];exact(Zw (f:=fun k=>V.zz 1 16 (kV k)) (l₁:=F5 key 2) (l₂:=[y5 (sub key 0 8) 16])).symm
   rw[hl,if_pos rfl];exact congrArg (fun z=>V.t [V.q [V.zz 1 3 z] 0,i64 0]) e
  ·have hl:=dL (key:=key) hn;rw[if_neg (by omega)]at hl;refine⟨_,rfl,[],?_,tq⟩;show V.t [V.q [V.zz 1 (i+1) (sub (A5 (F5 key (i+1))) 0 ((i+1)*1))] 0,i64 0]=V.t [V.q [V.zz 1 (A4 key n).length (A5 (A4 key n))] 0,i64 0];rw[hl,hin];have e:sub (A5 (F5 key n)) 0 (n*1)=A5 (A4 key n):=by
    rw[A4,if_neg (by omega),z5 (by rw[S8,P3,Zg])]
   exact congrArg (fun z=>V.t [V.q [V.zz 1 n z] 0,i64 0]) e
theorem yN {va:List Value} {b:Bs} {l n:Nat} {x:Int} (hx:x=n) (ha:va=bv b) (hl:b.length=l) (hm:l<=1000000) (h1:1<=n) (h2:n<=8*l):a7 C 262 [.z l va,i64 x] [] (.ret (i64 ((tb b (n-1)).toNat:Nat))) []:=by
 subst ha;subst hx;have e0:I6.wrap ((n:Int)-1)=((n-1:Nat):Int):=by rw[Za _ (by omega)];omega
 have e1:I6.wrap ((I6.wrap ((n:Int)-1)).tdiv 8)=(((n-1)/8:Nat):Int):=by
  rw[e0,Zn (by omega),Za _ (by omega)];omega
 have e2:IntKind.u64.wrap (I6.wrap (7-(I6.wrap ((n:Int)-1)).tmod 8))=((7-(n-1)%8:Nat):Int):=by
  rw[e0,Zr (by omega),Za _ (by omega),D5];omega
 have e3:I6.wrap (8*(l:Int))=((8*l:Nat):Int):=by rw[Za _ (by omega)];omega
 refine Qs.c ?_;refine c9 (fun h=> ?_) (fun h=> ?_)
 ·omega
 refine c9 (fun h=> ?_) (fun h=> ?_)
 ·rw[e3]at h;omega
 refine⟨by decide,by rw[e1];omega,by rw[e1];omega,?_⟩;refine⟨_,by rw[e1,Zd];exact A1 (by omega),?_⟩;refine⟨by decide,by rw[e2];omega,?_⟩;refine⟨_,rfl,[],d7 ?_,tq⟩;rw[e2];exact xD _ (UInt8.toNat_lt _) _ (by omega)
theorem Wj:∀k,k<8->U8.wrap (1*2^(min ((k:Nat):Int).toNat U8.bits))=(((Zq (true.toNat*2^k)).toNat:Nat):Int):=by decide +kernel
theorem VZ {t:List Nat} {b:Bs} {i:Nat} (h:tb b (t.getD i 0-1)=false):O2 t b (i+1)=O2 t b i:=by
 unfold O2;congr 1;funext j;unfold ej;by_cases hj:j=i
 ·rw[hj,h];simp
 ·congr 1;exact decide_eq_decide.2 (by omega)
theorem Lw {va vt:List Value} {b:Bs} {t:List Nat} {l n:Nat} (ha:va=bv b) (hvt:vt=nv t) (hl:b.length=l) (ht:t.length=n) (hm:l<=1000000) (hn:n<=1000000) (h8:n%8=0) (hall:∀i,i<n->1<=t.getD i 0/\t.getD i 0<=8*l):a7 C 220 [.z l va,.z n vt] [] (.ret (.t [.o 1 (.k 0) 0 (n/8),bool true])) [.sc (bv (B9 t b))]:=by
 subst ha;subst hvt;subst ht;have e0:I6.wrap ((I6.wrap ((t.length:Int)+7)).tdiv 8)=((t.length/8:Nat):Int):=by
  rw[Za ((t.length:Int)+7) (by omega),Zn (by omega),Za _ (by omega)];omega
 have e8:I6.wrap (8*(l:Int))=((8*l:Nat):Int):=by rw[Za _ (by omega)];omega
 refine Qv.c ?_;refine⟨by decide,?_⟩;rw[e0];refine⟨by omega,by omega,by omega,?_⟩;refine j9 (fun i=>⟨[(0,.z l (bv b)),(1,.z t.length (nv t)),(6,.o 1 (.k 0) 0 (t.length/8)),(7,i64 i)],[.sc (bv (O2 t b i))]⟩) t.length ⟨[.d 12 0],⟨rfl,rfl,rfl,rfl,tq⟩,⟨_,rfl,d9 ?_⟩,tq⟩ fun i hi=> ?_
 ·show Zj ((t.length/8:Nat):Int).toNat (Value.int .u8 0)=_;rw[Zd,Dk,S2]
 refine c9 (fun h=> ?_) (fun h=> ?_)
 ·have a9:i<t.length:=(by omega);obtain⟨g1,g2⟩:=hall i a9;refine⟨by omega,by omega,?_⟩;refine⟨_,by rw[Zd];exact R3 a9,?_⟩;refine c9 (fun h=> ?_) (fun h=> ?_)
  ·omega
  refine⟨by omega,by omega,?_⟩;refine⟨_,by rw[Zd];exact R3 a9,?_⟩;refine c9 (fun h=> ?_) (fun h=> ?_)
  ·rw[e8]at h;omega
  have e2:I6.wrap ((i:Int).tdiv 8)=((i/8:Nat):Int):=by
   rw[Zn (by omega),Za _ (by omega)];omega
  have e3:IntKind.u64.wrap (I6.wrap (7-(i:Int).tmod 8))=((7-i%8:Nat):Int):=by
   rw[Zr (by omega),Za _ (by omega),D5];omega
  refine⟨by omega,by omega,?_⟩;refine⟨_,by rw[Zd];exact R3 a9,?_⟩;refine⟨[],_,_,_,_,yN (b:=b) rfl rfl hl hm g1 g2,rfl,rfl,?_⟩;refine j7 (fun h=> ?_) (fun h=> ?_)
  ·have htb:tb b (t.getD i 0-1)=true:=by
    cases he:tb b (t.getD i 0-1)
    ·rw[he]at h;exact absurd h (by decide)
    ·rfl
   refine⟨by decide,by decide,by rw[e2];omega,by rw[e2];omega,?_⟩;refine⟨_,by rw[e2,Zd,Zg,Zi];exact A1 (by rw[ji];omega),?_⟩;refine⟨by decide,by rw[e3];omega,by rw[e2];omega,by rw[e2];omega,by rw[e2,f9,ji];omega,?_⟩;refine⟨i+1,by omega,by omega,[.k 0],⟨rfl,rfl,rfl,d7 (by simp(disch:=omega)only[Za];omega),tq⟩,⟨_,rfl,d9 ?_⟩,tq⟩;have hs:=Dj (t:=t) (b:=b) (i:=i) a9 (by omega);rw[htb]at hs;rw[e2,e3,Zd,Zg,Zi,Wj _ (by omega),rJ,L0,hs]
  ·have htb:tb b (t.getD i 0-1)=false:=by
    cases he:tb b (t.getD i 0-1)
    ·rfl
    ·rw[he]at h;exact absurd rfl h
   refine⟨i+1,by omega,by omega,[.k 0],⟨rfl,rfl,rfl,d7 (by simp(disch:=omega)only[Za];omega),tq⟩,⟨_,rfl,d9 ?_⟩,tq⟩;rw[VZ htb]
 ·obtain rfl:i=t.length:=(by omega);refine⟨_,rfl,[.k 0],rfl,⟨_,rfl,d9 ?_⟩,tq⟩;rw[Di]
theorem jQ {va vt:List Value} {b:Bs} {t:List Nat} {l n:Nat} (ha:va=bv b) (hvt:vt=nv t) (hl:b.length=l) (ht:t.length=n) (hm:l<=1000000) (hn:n<=1000000) (h8:n%8=0) (hall:∀i,i<n->1<=t.getD i 0/\t.getD i 0<=8*l):a7 C 163 [.z l va,.z n vt] [] (.ret (.o 1 (.k 0) 0 (n/8))) [.sc (bv (B9 t b))]:=by
 refine Qt.c ?_;refine⟨[],_,_,_,_,Lw ha hvt hl ht hm hn h8 hall,rfl,rfl,?_⟩;exact⟨_,rfl,[.d 10 0],rfl,⟨_,rfl,rfl⟩,tq⟩
theorem Lv {vt:List Value} (hv:vt=nv u9):a7 C 253 [.z 64 vt] [] (.ret (.t [.o 1 (.k 0) 0 64,bool true])) [.sc (nv bJ)]:=by
 subst hv;refine Qu.c ?_;refine⟨by decide,by decide,by decide,?_⟩;refine j9 (fun i=>⟨[(0,.z 64 (nv u9)),(4,.o 1 (.k 0) 0 64),(5,i64 i)],[.sc (nv (Y5 u9 i))]⟩) 64 ⟨[.d 8 0],⟨rfl,rfl,rfl,tq⟩,⟨_,rfl,d9 ?_⟩,tq⟩ fun i hi=> ?_
 ·show Zj 64 _=_;rw[CQ,Y5,M2];rfl
 refine c9 (fun h=> ?_) (fun h=> ?_)
 ·have a9:i<64:=(by omega);obtain⟨g1,g2,g3⟩:=BJ i a9;have get:(nv u9)[((i:Int)).toNat*1]? =some (Value.int .i64 ((u9.getD i 0:Nat):Int)):=by rw[Zd,Zg];exact R3 (by rw[M2];omega)
  have get':(nv u9)[((i:Int)).toNat]? =some (Value.int .i64 ((u9.getD i 0:Nat):Int)):=by rw[Zd];exact R3 (by rw[M2];omega)
  refine⟨by omega,by omega,_,get',?_⟩;refine c9 (fun h=> ?_) (fun h=> ?_)
  ·omega
  refine⟨by omega,by omega,_,get',?_⟩;refine c9 (fun h=> ?_) (fun h=> ?_)
  ·omega
  have e1:I6.wrap (((u9.getD i 0:Nat):Int)-1)=((u9.getD i 0-1:Nat):Int):=by rw[Za _ (by omega)];omega
  refine⟨by omega,by omega,_,get',?_⟩;refine⟨by rw[e1];omega,by rw[e1];omega,?_⟩;refine⟨_,by rw[e1,Zd,Zg,Zi];exact R3 (by rw[nn,M2];omega),?_⟩;refine o9 (fun h=> ?_) (fun h=> ?_)
  ·rw[g3]at h;exact absurd rfl h
  refine⟨by omega,by omega,_,get',?_⟩;refine⟨by rw[e1];omega,by rw[e1];omega,by rw[e1,G4,nn,M2];omega,?_⟩;have w1:I6.wrap ((i:Int)+1)=((i+1:Nat):Int):=by rw[Za _ (by omega)];omega
  refine⟨i+1,by omega,by omega,[.k 0],⟨rfl,rfl,d7 w1,tq⟩,⟨_,rfl,d9 ?_⟩,tq⟩;rw[e1,w1,Zd,Zg,Zi,CR,uA]
 ·obtain rfl:i=64:=(by omega);exact⟨_,rfl,[.k 0],rfl,⟨_,rfl,rfl⟩,tq⟩
theorem ZV (l:List Nat) (k:Nat) (h:k<l.length):l.take (k+1)=l.take k++[l.getD k 0]:=by
 rw[List.take_add_one,Zp h,Zc,Zp h];rfl
def pX (i:Nat):Nat:=if 4<=i then 57+2*(i-4)else 58+2*i
theorem Uj:∀i,i<8->∀c,c<8->I6.wrap (((pX i:Nat):Int)-I6.wrap (8*((c:Nat):Int)))=((u9.getD (8*i+c) 0:Nat):Int):=by decide +kernel
theorem Uh:∀i,i<8->4<=i->I6.wrap (57+I6.wrap (2*I6.wrap (((i:Nat):Int)-4)))=((pX i:Nat):Int):=by decide +kernel
theorem Ui:∀i,i<8->¬4<=i->I6.wrap (58+I6.wrap (2*((i:Nat):Int)))=((pX i:Nat):Int):=by decide +kernel
theorem yS:a7 C 251 [] [] (.ret (.o 1 (.k 0) 0 64)) [.sc (nv u9)]:=by
 refine Rh.c ?_;refine B1 (fun i=>⟨[(1,.o 1 (.k 0) 0 (8*i)),(2,i64 i)],[.sc (nv (u9.take (8*i)))]⟩) 8 [(1,1,.sc [])] ⟨[.d 900000 0],⟨rfl,rfl,tq⟩,⟨_,rfl,rfl⟩,tq⟩ fun i hi=> ?_;refine c9 (fun h=> ?_) (fun h=> ?_)
 ·have a9:i<8:=(by omega);refine c9 (fun h4=> ?_) (fun h4=> ?_);all_goals
   refine j9 (fun c=>⟨[(1,.o 1 (.k 0) 0 (8*i+c)),(2,i64 i),(3,i64 (pX i:Nat)),(4,i64 c)],[.sc (nv (u9.take (8*i+c)))]⟩) 8 ⟨[.k 0],⟨rfl,rfl,?_,rfl,tq⟩,⟨_,rfl,rfl⟩,tq⟩ fun c hc=> ?_
   ·first
     |exact d7 (Uh i a9 (by omega))
     |exact d7 (Ui i a9 (by omega))
   refine c9 (fun h=> ?_) (fun h=> ?_)
   ·have hc8:c<8:=(by omega);have hl:8*i+c<u9.length:=by rw[M2];omega
    refine⟨Zh _,by omega,by rw[G4,Zf];omega,?_⟩;refine⟨c+1,by omega,by omega,[.d 28 0],⟨rfl,rfl,rfl,d7 (by simp(disch:=omega)only[Za];omega),tq⟩,⟨_,rfl,d9 ?_⟩,tq⟩;rw[Uj i a9 c hc8,Zg];show sub (nv (u9.take (8*i+c))) 0 (8*i+c)++[Value.int .i64 ((u9.getD (8*i+c) 0:Nat):Int)]=_;rw[gV (by rw[Zf];omega),<-ZV _ _ hl];rfl
   ·obtain rfl:c=8:=(by omega);refine⟨i+1,by omega,by omega,[.k 0],⟨rfl,d7 (by simp(disch:=omega)only[Za];omega),tq⟩,⟨_,rfl,rfl⟩,tq⟩
 ·obtain rfl:i=8:=(by omega);refine⟨_,rfl,[.k 0],rfl,⟨_,rfl,d9 ?_⟩,tq⟩;rw[Jc (by rw[M2];decide)]
theorem LG:a7 C 268 [] [] (.ret (.o 1 (.k 0) 0 48)) [.sc (nv (N6 48))]:=by
 refine Rl.c ?_;refine B1 (fun i=>⟨[(1,.o 1 (.k 0) 0 i),(2,i64 i)],[.sc (nv (N6 i))]⟩) 48 [(1,1,.sc [])] ⟨[.d 900000 0],⟨rfl,rfl,tq⟩,⟨_,rfl,rfl⟩,tq⟩ fun i hi=> ?_;refine c9 (fun h=> ?_) (fun h=> ?_)
 ·have a9:i<48:=(by omega);refine⟨by decide,by decide,by decide,?_⟩;refine⟨Zh _,by omega,by rw[G4,eB];omega,?_⟩;refine⟨i+1,by omega,by omega,[.d 18 0],⟨rfl,d7 (by simp(disch:=omega)only[Za];omega),tq⟩,⟨_,rfl,d9 ?_⟩,tq⟩;rw[Gl i a9,Zg];show sub (nv (N6 i)) 0 i++[Value.int .i64 (((4*(i/6)+i%6+31)%32+1:Nat):Int)]=_;rw[gV (eB _),Gk]
 ·obtain rfl:i=48:=(by omega);exact⟨_,rfl,[.k 0],rfl,⟨_,rfl,rfl⟩,tq⟩
theorem LD:a7 C 271 [] [] (.ret (.o 1 (.k 0) 0 32)) [.sc (nv jn)]:=
 Rj.c ⟨_,rfl,[.d 1 0],rfl,⟨_,rfl,rfl⟩,tq⟩
theorem LC:a7 C 164 [] [] (.ret (.o 1 (.k 0) 0 48)) [.sc (nv O4)]:=
 Ri.c ⟨_,rfl,[.d 1 0],rfl,⟨_,rfl,rfl⟩,tq⟩
theorem BM {l:List Int} {n:Nat} {x:Int} (h:l.length=n):sub (iv l) 0 n++[Value.int .i64 x]=iv (l++[x]):=by
 rw[K8 h];simp[iv]
theorem LB:a7 C 162 [] [] (.ret (.o 1 (.k 0) 0 56)) [.sc (nv bH)]:=by
 have b1:∀k,k<=28-> -100<=y6 57 8 57 k/\y6 57 8 57 k<=100:=by decide +kernel
 have b2:∀k,k<=24-> -100<=y6 63 8 55 k/\y6 63 8 55 k<=100:=by decide +kernel
 refine Rf.c ?_;refine B1 (fun i=>⟨[(1,.o 1 (.k 0) 0 i),(2,i64 (y6 57 8 57 i))],[.sc (iv (B7 57 8 57 i))]⟩) 28 [(1,1,.sc [])] ⟨[.d 900000 0],⟨rfl,rfl,tq⟩,⟨_,rfl,rfl⟩,tq⟩ fun i hi=> ?_;have q1:=b1 i hi;have w1:I6.wrap (y6 57 8 57 i-8)=y6 57 8 57 i-8:=Za _ (by omega);refine c9 (fun h=> ?_) (fun h=> ?_)
 ·have a9:i<28:=(by omega);refine⟨Zh _,by omega,by rw[I9,dP];omega,?_⟩;have hz:(sub (iv (B7 57 8 57 i)) 0 (i*1)++sub [Value.int .i64 (y6 57 8 57 i)] 0 (1*1))=iv (B7 57 8 57 (i+1)):=by
   rw[Zg,pF];exact BM (dP _ _ _ _)
  refine c9 (fun h1=> ?_) (fun h1=> ?_)
  ·rw[w1]at h1;refine⟨i+1,by omega,by omega,[.d 9 0],⟨rfl,d7 ?_,tq⟩,⟨_,rfl,d9 hz⟩,tq⟩;rw[w1,Za _ (by omega),y6,if_pos h1];rfl
  ·rw[w1]at h1;refine⟨i+1,by omega,by omega,[.d 9 0],⟨rfl,d7 ?_,tq⟩,⟨_,rfl,d9 hz⟩,tq⟩;rw[w1,y6,if_neg h1]
 ·obtain rfl:i=28:=(by omega);refine j9 (fun j=>⟨[(1,.o 1 (.k 0) 0 (28+j)),(2,i64 (y6 63 8 55 j))],[.sc (iv (B7 57 8 57 28++B7 63 8 55 j))]⟩) 24 ⟨[.k 0],⟨rfl,rfl,tq⟩,⟨_,rfl,rfl⟩,tq⟩ fun j hj=> ?_;have q2:=b2 j hj;have w2:I6.wrap (y6 63 8 55 j-8)=y6 63 8 55 j-8:=Za _ (by omega);have hl:(B7 57 8 57 28++B7 63 8 55 j).length=28+j:=by rw[Zb,dP,dP]
  refine c9 (fun h=> ?_) (fun h=> ?_)
  ·have a9:j<24:=(by omega);refine⟨Zh _,by omega,by rw[I9,hl];omega,?_⟩;have hz:(sub (iv (B7 57 8 57 28++B7 63 8 55 j)) 0 ((28+j)*1)++sub [Value.int .i64 (y6 63 8 55 j)] 0 (1*1))=iv (B7 57 8 57 28++B7 63 8 55 (j+1)):=by
    rw[Zg,pF 63,<-Jj];exact BM hl
   refine c9 (fun h1=> ?_) (fun h1=> ?_)
   ·rw[w2]at h1;refine⟨j+1,by omega,by omega,[.d 22 0],⟨rfl,d7 ?_,tq⟩,⟨_,rfl,d9 hz⟩,tq⟩;rw[w2,Za _ (by omega),y6,if_pos h1];rfl
   ·rw[w2]at h1;refine⟨j+1,by omega,by omega,[.d 22 0],⟨rfl,d7 ?_,tq⟩,⟨_,rfl,d9 hz⟩,tq⟩;rw[w2,y6,if_neg h1]
  ·obtain rfl:j=24:=(by omega);refine⟨by decide,by decide,by rw[I9,hl];decide,?_⟩;refine⟨_,rfl,[.d 31 0],rfl,⟨_,rfl,d9 ?_⟩,tq⟩;rw[<-Ek];show sub (iv (B7 57 8 57 28++B7 63 8 55 24)) 0 52++iv [28,20,12,4]=iv H3;rw[K8 hl,np];rfl
theorem LF {s:Nat} (hs:s<8):a7 C 270 [i64 s] [] (.ret (.o 1 (.k 0) 0 4)) [.sc [N3 (O0 s 0),N3 (O0 s 1),N3 (O0 s 2),N3 (O0 s 3)]]:=by
 rcases s with _|_|_|_|_|_|_|_|s
 ·exact gC.c ⟨_,rfl,[.d 6 0],rfl,⟨_,rfl,rfl⟩,tq⟩
 ·exact gC.c ⟨_,rfl,[.d 9 0],rfl,⟨_,rfl,rfl⟩,tq⟩
 ·exact gC.c ⟨_,rfl,[.d 12 0],rfl,⟨_,rfl,rfl⟩,tq⟩
 ·exact gC.c ⟨_,rfl,[.d 15 0],rfl,⟨_,rfl,rfl⟩,tq⟩
 ·exact gC.c ⟨_,rfl,[.d 18 0],rfl,⟨_,rfl,rfl⟩,tq⟩
 ·exact gC.c ⟨_,rfl,[.d 21 0],rfl,⟨_,rfl,rfl⟩,tq⟩
 ·exact gC.c ⟨_,rfl,[.d 24 0],rfl,⟨_,rfl,rfl⟩,tq⟩
 ·exact gC.c ⟨_,rfl,[.d 25 0],rfl,⟨_,rfl,rfl⟩,tq⟩
 ·omega
theorem Yq {s r:Nat} (hr:r<4):([N3 (O0 s 0),N3 (O0 s 1),N3 (O0 s 2),N3 (O0 s 3)]:List Value)[r]? =some (N3 (O0 s r)):=by
 rcases r with _|_|_|_|r;all_goals first|rfl|omega
def dM (x:Bs) (s:Nat):Nat->Nat
 |0=>0
 |k+1=>2*dM x s k+(tb x (6*s+k)).toNat
theorem tW (x s):∀k,dM x s k<2^k
 |0=>by show 0<1;omega
 |k+1=>by
  have:=aO (tb x (6*s+k));have:=tW x s k;unfold dM;rw[Nat.pow_succ];omega
theorem Od (x s):dM x s 6/32*2+dM x s 6%2=fa x s/\dM x s 6/2%16=cU x s 4:=by
 have h0:=aO (tb x (6*s+0));have h1:=aO (tb x (6*s+1));have h2:=aO (tb x (6*s+1+1));have h3:=aO (tb x (6*s+1+2));have h4:=aO (tb x (6*s+1+3));have h5:=aO (tb x (6*s+5));have e6:dM x s 6=2*(2*(2*(2*(2*(2*0+(tb x (6*s+0)).toNat)+(tb x (6*s+1)).toNat)+(tb x (6*s+1+1)).toNat)+(tb x (6*s+1+2)).toNat)+(tb x (6*s+1+3)).toNat)+(tb x (6*s+5)).toNat:=rfl;have e4:cU x s 4=2*(2*(2*(2*0+(tb x (6*s+1+0)).toNat)+(tb x (6*s+1+1)).toNat)+(tb x (6*s+1+2)).toNat)+(tb x (6*s+1+3)).toNat:=rfl;have er:fa x s=2*(tb x (6*s)).toNat+(tb x (6*s+5)).toNat:=rfl;rw[Nat.add_zero]at h0 e4 e6;omega
theorem Wi:∀d,d<16->∀j,j<=1->U8.wrap (I6.wrap (((d:Nat):Int)*2^(min ((4*j:Nat):Int).toNat I6.bits)))=(((Zq (d*16^j)).toNat:Nat):Int):=by decide +kernel
theorem Yw:∀v,v<64->I6.wrap (I6.wrap (I6.wrap (((v:Nat):Int).tdiv 32)*2)+((v:Nat):Int).tmod 2)=((v/32*2+v%2:Nat):Int)/\(I6.wrap (((v:Nat):Int).tdiv 2)).tmod 16=((v/2%16:Nat):Int):=by decide +kernel
theorem LA {va vk:List Value} {r k:Bs} (ha:va=bv r) (hk:vk=bv k) (hr:r.length=4) (hkl:k.length=6):a7 C 252 [.z 4 va,.z 6 vk] [] (.ret (.t [.o 1 (.k 0) 0 4,bool true])) [.sc (bv (dF r k))]:=by
 have hp:(B9 (N6 48) r).length=6:=by rw[dZ,eB]
 have hx:(f8 (B9 (N6 48) r) k).length=6:=w6 hp hkl;generalize hxe:f8 (B9 (N6 48) r) k=x at hx;refine Rc.c ?_;refine⟨[],_,_,_,_,LG,rfl,rfl,?_⟩;refine⟨[],_,_,_,_,jQ (b:=r) (t:=N6 48) (n:=48) ha (B8 (eB _)) hr (eB _) (by decide) (by decide) (by decide) (by decide +kernel),rfl,rfl,?_⟩;refine⟨[],_,_,_,_,G1 (a:=B9 (N6 48) r) (b:=k) (b8 hp) hk hp hkl (by decide),rfl,rfl,?_⟩;rw[hxe];refine⟨by decide,by decide,by decide,?_⟩;refine j9 (fun i=>⟨[(6,.z 6 (bv x)),(7,.o 1 (.k 0) 0 4),(8,i64 i)],[.sc (bv (K7 x i))]⟩) 8 ⟨[.d 25 0],⟨?_,rfl,rfl,tq⟩,⟨_,rfl,d9 ?_⟩,tq⟩ fun i hi=> ?_
 ·show V.z 6 (sub (bv x) 0 6)=_;rw[b8 hx]
 ·rfl
 refine c9 (fun h=> ?_) (fun h=> ?_)
 ·have a9:i<8:=(by omega);refine j9 (fun k=>⟨[(6,.z 6 (bv x)),(7,.o 1 (.k 0) 0 4),(8,i64 i),(9,i64 (dM x i k:Nat)),(10,i64 (k+1:Nat))],[.sc (bv (K7 x i))]⟩) 6 ⟨[.k 0],⟨rfl,rfl,rfl,rfl,rfl,tq⟩,⟨_,rfl,rfl⟩,tq⟩ fun k hk=> ?_;refine c9 (fun h=> ?_) (fun h=> ?_)
  ·have hk6:k<6:=(by omega);have p3:I6.wrap (I6.wrap (6*(i:Int))+((k+1:Nat):Int))=((6*i+k+1:Nat):Int):=by
    rw[Za (6*(i:Int)) (by omega),Za _ (by omega)];omega
   refine⟨[],_,_,_,_,yN (n:=6*i+k+1) (b:=x) p3 rfl hx (by decide) (by omega) (by omega),rfl,rfl,?_⟩;have hb:=aO (tb x (6*i+k+1-1));have hc:=tW x i k;have hc2:2^k<=2^5:=Z3 (by decide) (by omega);refine⟨k+1,by omega,by omega,[.k 0],⟨rfl,rfl,rfl,d7 ?_,d7 (by simp(disch:=omega)only[Za];omega),tq⟩,⟨_,rfl,rfl⟩,tq⟩;rw[Za (2*((dM x i k:Nat):Int)) (by omega),Za _ (by omega)];show _=((2*dM x i k+(tb x (6*i+k+1-1)).toNat:Nat):Int);omega
  ·obtain rfl:k=6:=(by omega);obtain⟨v1,v2⟩:=Yw _ (tW x i 6);obtain⟨r1,r2⟩:=Od x i;rw[r1]at v1;rw[r2]at v2;have e2:I6.wrap ((i:Int).tdiv 2)=((i/2:Nat):Int):=by
    rw[Zn (by omega),Za _ (by omega)];omega
   have e3:IntKind.u64.wrap (I6.wrap (4-I6.wrap (4*(i:Int).tmod 2)))=((4*(1-i%2):Nat):Int):=by
    rw[Zr (by omega),Za (4*((i:Int)%2)) (by omega),Za _ (by omega),D5];omega
   have hcl:=mU x i 4;obtain⟨o1,o2⟩:=tV i a9 _ (kn x i);refine⟨[],_,_,_,_,LF a9,rfl,rfl,?_⟩;refine⟨by decide,by decide,by rw[v1];omega,by rw[v1];have:=kn x i;omega,?_⟩;refine⟨_,by rw[v1,Zd,Zg,Zi];exact Yq (kn x i),?_⟩;refine⟨by decide,by decide,?_⟩;refine⟨[],_,_,_,_,oI (l:=O0 i (fa x i)) (j:=cU x i 4) rfl v2 (by rw[o1];exact hcl) (o2 _ hcl),rfl,rfl,?_⟩;refine⟨by decide,by decide,by rw[e2];omega,by rw[e2];omega,?_⟩;refine⟨_,by rw[e2,Zd,Zg,Zi];exact A1 (by rw[kj];omega),?_⟩;refine⟨by decide,by rw[e3];omega,by rw[e2];omega,by rw[e2];omega,by rw[e2,f9,kj];omega,?_⟩;refine⟨i+1,by omega,by omega,[.k 0],⟨rfl,rfl,d7 (by simp(disch:=omega)only[Za];omega),tq⟩,⟨_,rfl,d9 ?_⟩,tq⟩;rw[e2,e3,Zd,Zg,Zi];show(bv (K7 x i)).set (i/2) (.int .u8 (U8.wrap ((Jq U8.bits (((K7 x i).getD (i/2) 0).toNat:Int)|||Jq U8.bits (U8.wrap (I6.wrap (((dS x i:Nat):Int)*2^(min ((4*(1-i%2):Nat):Int).toNat I6.bits))))).toNat:Int)))=bv (K7 x (i+1));rw[Wi _ (pz a9) _ (by omega),rJ,L0,Ar a9]
 ·obtain rfl:i=8:=(by omega);refine⟨[],_,_,_,_,LD,rfl,rfl,?_⟩;have hm:jn.length=32:=rfl;have h8:=kj x 8;refine⟨[],_,_,_,_,jQ (b:=K7 x 8) (t:=jn) (n:=32) (b8 h8) (B8 hm) h8 hm (by decide) (by decide) (by decide) (by decide +kernel),rfl,rfl,?_⟩;refine⟨_,rfl,[.d 77 0],rfl,⟨_,rfl,d9 ?_⟩,tq⟩;rw[dF,hxe]
theorem VS {n:Nat} {f g:Nat->Bool} (h:∀j,j<8*n->f j=g j):ae n f=ae n g:=by
 apply nV (by rw[fD,fD]);intro j hj;rw[fD]at hj;rw[fK hj,fK hj,h j hj]
theorem vq {t u:List Nat} {b:Bs} (h8:t.length%8=0) (hu:∀j,j<u.length->1<=u.getD j 0/\u.getD j 0<=t.length):B9 u (B9 t b)=B9 (u.map fun k=>t.getD (k-1) 0) b:=by
 unfold B9;rw[Jr];apply VS;intro j hj;have hj':j<u.length:=by omega
 obtain⟨h1,h2⟩:=hu j hj';rw[fK (by omega)];congr 2;simp[Zc,hj']
def Y4:Nat->Nat
 |0=>0
 |i+1=>Y4 i+fV i
def jp (i n:Nat):List Nat:=(List.range n).map fun j=>bH.getD (28*(j/28)+(j%28+Y4 (i+1))%28) 0
theorem a1l (i n):jp i (n+1)=jp i n++[bH.getD (28*(n/28)+(n%28+Y4 (i+1))%28) 0]:=by simp[jp,Zo]
theorem Gb (i n):(jp i n).length=n:=by simp[jp]
theorem a1m:∀i,i<16->jp i 56=C9 (i+1):=by decide +kernel
theorem xO:∀i,i<17->Y4 i<=28:=by decide +kernel
theorem Oe:∀i,i<17->∀j,j<56->1<=(C9 i).getD j 0/\(C9 i).getD j 0<=8*8:=by decide +kernel
theorem NU {key:Bs} {i:Nat} (hi:i<16):B9 O4 (B9 (C9 (i+1)) key)=Q6 key i:=by
 have hl:=gk (i+1) (by omega);rw[vq (by rw[hl]) (by rw[nU,hl];exact rC),Q6];congr 1
theorem yT {va:List Value} {key:Bs} (ha:va=bv key) (hk:key.length=8):a7 C 109 [.z 8 va] [] (.ret (.t [.zz 1 16 (kV (y5 key 16)),i64 0])) []:=by
 subst ha;have hl0:bH.length=56:=by decide +kernel
 refine Rd.c ?_;refine⟨[],_,_,_,_,LB,rfl,rfl,?_⟩;refine B1 (fun i=>⟨[(0,.z 8 (bv key)),(4,.z 56 (nv bH)),(5,i64 (Y4 i:Nat)),(6,.o 1 (.k 0) 0 i),(7,i64 (i+1:Nat))],[.mx (kV (y5 key i))]⟩) 16 [(6,1,.mx [])] ⟨[.d 900000 0],⟨rfl,?_,rfl,rfl,rfl,tq⟩,⟨_,rfl,rfl⟩,tq⟩ fun i hi=> ?_
 ·show V.z 56 (sub (nv bH) 0 56)=_;rw[B8 hl0]
 refine c9 (fun h=> ?_) (fun h=> ?_)
 ·have a9:i<16:=(by omega);have hb:=xO i (by omega);have hb1:=xO (i+1) (by omega);have one:∀k:Nat,(((i+1:Nat):Int)=(k:Int))->i+1=k:=fun k h=>by omega
  refine j7 (fun h1=> ?_) (fun h1=>j7 (fun h2=> ?_) (fun h2=>j7 (fun h3=> ?_) (fun h3=>j7 (fun h4=> ?_) (fun h4=> ?_))));all_goals
   first
    |have hs:Y4 (i+1)=Y4 i+1:=by rw[Y4,fV,if_pos (by omega)]
    |have hs:Y4 (i+1)=Y4 i+2:=by rw[Y4,fV,if_neg (by omega)]
   refine B1 (fun j=>⟨[(0,.z 8 (bv key)),(4,.z 56 (nv bH)),(5,i64 (Y4 (i+1):Nat)),(6,.o 1 (.k 0) 0 i),(7,i64 (i+1:Nat)),(8,.o 1 (.k 1) 0 j),(9,i64 j)],[.mx (kV (y5 key i)),.sc (nv (jp i j))]⟩) 56 [(8,1,.sc [])] ⟨[.k 0,.d 900000 0],⟨rfl,rfl,d7 ?_,rfl,rfl,rfl,rfl,tq⟩,⟨_,rfl,?_⟩,⟨_,rfl,rfl⟩,tq⟩ fun j hj=> ?_
   ·first
     |(rw [Za (((Y4 i:Nat):Int)+2) (by omega),Za _ (by omega)];omega)
     |(rw [Za _ (by omega)];omega)
   ·show B.mx ((kV _).map _)=_;rw[fu]
   refine c9 (fun h=> ?_) (fun h=> ?_)
   ·have hj':j<56:=(by omega);have e0:I6.wrap (I6.wrap ((j:Int).tdiv 28)*28)=((28*(j/28):Nat):Int):=by
     rw[Zn (by omega),Za ((j:Int)/28) (by omega),Za _ (by omega)];omega
    have e1:I6.wrap (I6.wrap (I6.wrap ((j:Int).tdiv 28)*28)+(I6.wrap (I6.wrap ((j:Int)-I6.wrap (I6.wrap ((j:Int).tdiv 28)*28))+((Y4 (i+1):Nat):Int))).tmod 28)=((28*(j/28)+(j%28+Y4 (i+1))%28:Nat):Int):=by
     rw[e0,Za ((j:Int)-((28*(j/28):Nat):Int)) (by omega),Za (((j:Int)-((28*(j/28):Nat):Int))+_) (by omega),Zr (by omega),Za _ (by omega)];omega
    refine⟨by decide,by decide,by rw[e1];omega,by rw[e1];omega,?_⟩;refine⟨_,by rw[e1,Zd];exact R3 (by rw[hl0];omega),?_⟩;refine⟨Zh _,by omega,by rw[G4,Gb];omega,?_⟩;refine⟨j+1,by omega,by omega,[.k 0,.d 57 0],⟨rfl,rfl,rfl,rfl,rfl,rfl,d7 (by simp(disch:=omega)only[Za];omega),tq⟩,⟨_,rfl,?_⟩,⟨_,rfl,d9 ?_⟩,tq⟩
    ·show B.mx ((kV _).map _)=_;rw[fu]
    ·rw[a1l,Zg];exact gV (Gb _ _)
   ·obtain rfl:j=56:=(by omega);refine⟨[],_,_,_,_,jQ (b:=key) (t:=C9 (i+1)) (n:=56) rfl (by rw[a1m i a9];exact B8 (gk _ (by omega))) hk (gk _ (by omega)) (by decide) (by decide) (by decide) (Oe _ (by omega)),rfl,rfl,?_⟩;refine⟨[],_,_,_,_,LC,rfl,rfl,?_⟩;have h7:(B9 (C9 (i+1)) key).length=7:=by rw[dZ,gk _ (by omega)]
    refine⟨[],_,_,_,_,jQ (b:=B9 (C9 (i+1)) key) (t:=O4) (n:=48) (b8 h7) (B8 nU) h7 nU (by decide) (by decide) (by decide) rC,rfl,rfl,?_⟩;rw[NU a9];have hz:V.z 6 (sub (bv (Q6 key i)) 0 6)= .z 6 (bv (Q6 key i)):=by rw[b8 (pu _ _)]
    refine⟨by decide,by omega,by rw[Y7,cV];omega,?_⟩;refine⟨i+1,by omega,by omega,[.d 65 0],⟨rfl,rfl,rfl,rfl,d7 (by simp(disch:=omega)only[Za];omega),tq⟩,⟨_,rfl,?_⟩,tq⟩;show B.mx (Jx (m5 _ _ 6) (sub (kV (y5 key i)) 0 (i*1)++[V.o 1 _ _ _]))= .mx (kV (y5 key (i+1)));rw[Zg,z5 (by rw[Y7,cV]),Zw,fu,tU key i,show kV (y5 key i++[Q6 key i])=kV (y5 key i)++[V.z 6 (bv (Q6 key i))] from Zw];exact congrArg (fun z=>B.mx (kV (y5 key i)++[z])) hz
 ·obtain rfl:i=16:=(by omega);refine⟨_,rfl,[],?_,tq⟩;exact congrArg (fun z=>V.t [V.zz 1 16 z,i64 0]) ((congrArg (Jx _) (z5 (by rw[Y7,cV]))).trans (uG _ _ _ 2))
theorem DI {ks:List (Bs)} {i:Nat} (hi:i<ks.length):ks.reverse.getD i []=ks.getD (ks.length-1-i) []:=by
 rw[Zc,Jt hi,Zc]
theorem oW {va:List Value} {xs:List V} {b:Bs} {ks:List (Bs)} {back:Bool} (ha:va=bv b) (hx:xs=kV ks) (hb:b.length=8) (hn:ks.length=16) (hk:gW ks):
  a7 C 209 [.zz 1 16 xs,.z 8 va,bool back] [] (.ret (.o 1 (.k 0) 0 8)) [.sc (bv (E6 (if back then ks.reverse else ks) b))]:=by
 subst ha;subst hx;generalize hq:(if back then ks.reverse else ks)=q;have hqn:q.length=16:=by subst hq;split<;>simp[hn]
 have hqk:gW q:=by subst hq;split;exact qK hk;exact hk
 have hl:=pv (ks:=q) (mV b).1 (mV b).2;refine Rk.c ?_;refine⟨[],_,_,_,_,yS,rfl,rfl,?_⟩;refine⟨[],_,_,_,_,jQ (b:=b) (t:=u9) (n:=64) rfl (B8 M2) hb M2 (by decide) (by decide) (by decide) vR,rfl,rfl,?_⟩;refine⟨by decide,by decide,by decide,by decide,?_⟩;refine⟨by decide,by decide,by decide,by decide,?_⟩;refine j9 (fun i=>⟨[(0,.zz 1 16 (kV ks)),(2,bool back),(8,.z 4 (bv (dN q (y4 b) i).1)),(9,.z 4 (bv (dN q (y4 b) i).2)),(10,i64 i)],[]⟩) 16 ⟨[],⟨rfl,rfl,?_,?_,rfl,tq⟩,tq⟩ fun i hi=> ?_
 ·exact congrArg (V.z 4) (l4 _ _ _)
 ·exact congrArg (V.z 4) (l4 _ _ _)
 refine c9 (fun h=> ?_) (fun h=> ?_)
 ·have a9:i<16:=(by omega);have w15:I6.wrap (15-(i:Int))=((15-i:Nat):Int):=by rw[Za _ (by omega)];omega
  have get:(kV ks)[(((if back then 15-i else i:Nat):Int)).toNat*1]? =some (.z 6 (bv (q.getD i []))):=by
   rw[Zd,Zg];have:(if back then 15-i else i)<ks.length:=by split<;>omega
   rw[ql (getD_some (d:=[]) this)];subst hq;cases back
   ·rfl
   ·rw[if_pos rfl,if_pos rfl,DI (by omega),hn]
  have fin:bv (f8 (dN q (y4 b) i).1 (dF (dN q (y4 b) i).2 (q.getD i [])))=bv (dN q (y4 b) (i+1)).2:=by rw[mW];rfl
  have fin1:(dN q (y4 b) i).2=(dN q (y4 b) (i+1)).1:=by rw[mW];rfl
  cases back;all_goals
   first
    |refine⟨by omega,by omega,_,get,?_⟩
    |(refine ⟨by rw[w15];omega,by rw[w15];omega,_,by rw[w15];exact get,?_⟩)
   refine⟨[],_,_,_,_,LA (r:=(dN q (y4 b) i).2) (k:=q.getD i []) rfl rfl (hl i).2 (hqk i (by omega)),rfl,rfl,?_⟩;refine⟨[],_,_,_,_,G1 (a:=(dN q (y4 b) i).1) (b:=dF (dN q (y4 b) i).2 (q.getD i [])) rfl (b8 (eW _ _)) (hl i).1 (eW _ _) (by decide),rfl,rfl,?_⟩;refine⟨i+1,by omega,by omega,[],⟨rfl,rfl,congrArg (fun z=>V.z 4 (bv z)) fin1,?_,d7 (by simp(disch:=omega)only[Za];omega),tq⟩,tq⟩;show V.z 4 (sub (bv _) 0 4)=_;rw[b8 (w6 (hl i).1 (eW _ _)),fin]
 ·obtain rfl:i=16:=(by omega);refine⟨[],_,_,_,_,yS,rfl,rfl,?_⟩;refine⟨[],_,_,_,_,Lv (B8 M2),rfl,rfl,?_⟩;refine⟨by rw[f9,(hl 16).2],by decide,by decide,?_⟩;refine⟨by rw[f9,(hl 16).1],by decide,by rw[Zb,f9,(hl 16).2];decide,?_⟩;have h8:((dN q (y4 b) 16).2++(dN q (y4 b) 16).1).length=8:=by rw[Zb,(hl 16).1,(hl 16).2]
  refine⟨[],_,_,_,_,jQ (b:=(dN q (y4 b) 16).2++(dN q (y4 b) 16).1) (t:=bJ) (l:=8) (n:=64) ?_ (B8 ir) h8 ir (by decide) (by decide) (by decide) vQ,rfl,rfl,?_⟩
  ·show sub (sub ([]++bv (dN q (y4 b) 16).2) 0 4++bv (dN q (y4 b) 16).1) 0 8=_;rw[Zl,b8 (hl 16).2,x5,b8 h8]
  refine⟨_,rfl,[.d 55 0],rfl,⟨_,rfl,d9 ?_⟩,tq⟩;rw[E6,hqn]
def dE (ks:List (List (Bs))) (back:Bool) (b:Bs) (i:Nat):D:=match i with
 |0=>⟨[(0,bo ks),(1,.z 8 (bv b)),(2,bool back),(8,i64 0)],[]⟩
 |i+1=>⟨[(0,bo ks),(1,.o 1 (.k 0) 0 8),(2,bool back),(8,i64 (i+1:Nat))],[.sc (bv (K6 ks back b (i+1)))]⟩
theorem yR {va:List Value} {b:Bs} {ks:List (List (Bs))} {back:Bool} (ha:va=bv b) (hb:b.length=8) (hk:uX ks) (h0:0<ks.length):
  a7 C 153 [bo ks,.z 8 va,bool back] [] (A8 8) [.sc (bv (K6 ks back b ks.length))]:=by
 subst ha;have o8:=pr (ks:=ks) (back:=back) hb;obtain⟨h3,hk⟩:=hk;refine AU.c ?_;refine j9 (dE ks back b) ks.length ⟨[],⟨rfl,rfl,rfl,rfl,tq⟩,tq⟩ fun i hi=> ?_;have e1:I6.wrap (I6.wrap ((ks.length:Int)-1)-(i:Int))=((ks.length-1-i:Nat):Int)\/ks.length<=i:=by
  by_cases h:i<ks.length
  ·left;rw[Za ((ks.length:Int)-1) (by omega),Za _ (by omega)];omega
  ·right;omega
 rcases i with _|i
 ·refine⟨_,rfl,?_⟩;refine c9 (fun h=> ?_) (fun h=>absurd h (by omega));have e1:I6.wrap (I6.wrap ((ks.length:Int)-1)-0)=((ks.length-1-0:Nat):Int):=e1.resolve_right (by omega);cases back
  ·obtain⟨k1,k2⟩:=hk 0 h0;refine⟨_,rfl,by omega,by omega,_,gK (getD_some (d:=[]) h0),?_⟩;refine⟨[],_,_,_,_,oW (b:=b) (ks:=ks.getD 0 []) rfl rfl hb k1 k2,rfl,rfl,?_⟩;refine⟨1,by omega,by omega,[.d 44 0],⟨rfl,rfl,rfl,rfl,tq⟩,⟨_,rfl,d9 ?_⟩,tq⟩;rfl
  ·obtain⟨k1,k2⟩:=hk (ks.length-1-0) (by omega);refine⟨_,rfl,_,rfl,by rw[e1];omega,by rw[e1];omega,_,by rw[e1,Zd,Zg];exact gK (getD_some (d:=[]) (by omega)),?_⟩;refine⟨[],_,_,_,_,oW (b:=b) (ks:=ks.getD (ks.length-1-0) []) rfl rfl hb k1 k2,rfl,rfl,?_⟩;refine⟨1,by omega,by omega,[.d 44 0],⟨rfl,rfl,rfl,rfl,tq⟩,⟨_,rfl,d9 ?_⟩,tq⟩;rfl
 refine⟨_,rfl,?_⟩;refine c9 (fun h=> ?_) (fun h=> ?_)
 ·have a9:i+1<ks.length:=(by omega);have e1:=e1.resolve_right (by omega);have w1:I6.wrap (((i+1:Nat):Int)+1)=((i+1+1:Nat):Int):=by rw[Za _ (by omega)];omega
  have one:(((i+1:Nat):Int)==1)=decide (i+1=1):=by
   by_cases h:i+1=1
   ·rw[h];rfl
   ·rw[decide_eq_false h];exact beq_false_of_ne (by omega)
  cases back
  ·obtain⟨k1,k2⟩:=hk (i+1) a9;refine⟨_,rfl,by omega,by omega,_,by rw[Zd,Zg];exact gK (getD_some (d:=[]) a9),?_⟩;refine⟨[],_,_,_,_,oW (b:=K6 ks false b (i+1)) (ks:=ks.getD (i+1) []) (b8 (o8 _)) rfl (o8 _) k1 k2,rfl,rfl,?_⟩;refine⟨i+1+1,by omega,by omega,[.d 44 0],⟨rfl,rfl,rfl,d7 w1,tq⟩,⟨_,rfl,d9 ?_⟩,tq⟩;rw[one,pt _ _ _ (i+1)];rfl
  ·obtain⟨k1,k2⟩:=hk (ks.length-1-(i+1)) (by omega);refine⟨_,rfl,_,rfl,by rw[e1];omega,by rw[e1];omega,_,by rw[e1,Zd,Zg];exact gK (getD_some (d:=[]) (by omega)),?_⟩;refine⟨[],_,_,_,_,oW (b:=K6 ks true b (i+1)) (ks:=ks.getD (ks.length-1-(i+1)) []) (b8 (o8 _)) rfl (o8 _) k1 k2,rfl,rfl,?_⟩;refine⟨i+1+1,by omega,by omega,[.d 44 0],⟨rfl,rfl,rfl,d7 w1,tq⟩,⟨_,rfl,d9 ?_⟩,tq⟩;rw[one,pt _ _ _ (i+1)];rfl
 ·have he:i+1=ks.length:=(by omega);refine⟨_,rfl,[.k 0],rfl,⟨_,rfl,d9 ?_⟩,tq⟩;rw[he]
theorem yQ {va:List Value} {ks:List (List (Bs))} {n:Nat} {back:Bool} (hn:n≠8):a7 C 153 [bo ks,.z n va,bool back] [] R9 []:=by
 refine AU.c ?_;refine o9 (fun h=> ?_) (fun h=> ?_)
 ·exact⟨_,rfl,[],rfl,tq⟩
 ·omega
def NY (key:Bs) (m:Nat) (i:Nat):D:=match i with
 |0=>⟨[(0,.z m (bv key)),(4,.p (.k 0) 0),(5,i64 0)],[.mx [g8]]⟩
 |i+1=>⟨[(0,.z m (bv key)),(4,.p (.k 0) 0),(5,i64 (8*(i+1):Nat))],[.mx [.o 1 (.k 1) 0 (i+1)],.pl (A5 (F5 key (i+1)))]⟩
theorem yU {va:List Value} {key:Bs} {m n:Nat} (ha:va=bv key) (hk:key.length=m) (hm:m=8*n) (hn:1<=n/\n<=3):a7 C 54 [.z m va] [] (.ret (.t [bo (A4 key n),i64 0])) []:=by
 subst ha;refine Re.c ?_;refine o9 (fun h1=>o9 (fun h2=>o9 (fun h3=>absurd h3 (by omega)) (fun h3=> ?_)) (fun h2=> ?_)) (fun h1=> ?_);all_goals
  refine j9 (NY key m) n ⟨[.d 22 0],⟨rfl,rfl,rfl,tq⟩,⟨_,rfl,rfl⟩,tq⟩ fun i hi=> ?_;rcases i with _|i
  ·refine c9 (fun h=> ?_) (fun h=>absurd h (by omega));refine⟨by decide,by decide,by decide,by decide,by show 8<=m;omega,?_⟩;refine⟨[],_,_,_,_,yT (key:=sub key (8*0) 8) (l4 _ _ _) (by rw[j4];omega),rfl,rfl,?_⟩;refine⟨_,rfl,Zh _,by decide,by decide,?_⟩;refine⟨1,by omega,by omega,[.k 0,.d 45 0],⟨rfl,rfl,rfl,tq⟩,⟨_,rfl,?_⟩,⟨_,rfl,?_⟩,tq⟩
   ·rfl
   ·exact congrArg B.pl rfl
  refine c9 (fun h=> ?_) (fun h=> ?_)
  ·have a9:i+1<n:=(by omega);have e4:I6.wrap (((8*(i+1):Nat):Int)+8)=((8*(i+1)+8:Nat):Int):=by
    rw[Za _ (by omega)];omega
   refine⟨by rw[e4];omega,by omega,by rw[e4];omega,Zh _,by rw[e4];omega,?_⟩;refine⟨[],_,_,_,_,yT (key:=sub key (8*(i+1)) 8) (va:=sub (bv key) (8*(i+1)) 8) (l4 _ _ _) (by rw[j4];omega),?_,rfl,?_⟩
   ·rw[e4];show[V.z (8*(i+1)+8-8*(i+1)) (sub (bv key) (8*(i+1)) (8*(i+1)+8-8*(i+1)))]=_;rw[Jl]
   refine⟨_,rfl,Zh _,by omega,by rw[S8,P3];omega,by show 0+0+1<=1;decide,?_⟩;refine⟨i+1+1,by omega,by omega,[.k 0,.d 45 0],⟨rfl,rfl,d7 ?_,tq⟩,⟨_,rfl,rfl⟩,⟨_,rfl,congrArg B.pl ?_⟩,tq⟩
   ·rw[e4];omega
   rw[Zg,z5 (by rw[S8,P3]),tO key (i+1)];exact(Zw (f:=fun k=>V.zz 1 16 (kV k)) (l₁:=F5 key (i+1)) (l₂:=[y5 (sub key (8*(i+1)) 8) 16])).symm
  ·have hin:i+1=n:=(by omega);refine j7 (fun h=> ?_) (fun h=> ?_)
   ·obtain rfl:i=1:=(by omega);subst hin;have hl:=dL (key:=key) hn;refine⟨_,rfl,_,rfl,by decide,by decide,_,rfl,Zh _,by decide,by rw[S8,P3];decide,by show 0+0+1<=1;decide,?_⟩;refine⟨_,rfl,[],?_,tq⟩;show V.t [V.q [V.zz 1 3 (sub (sub (A5 (F5 key 2)) 0 2++A5 [y5 (sub key 0 8) 16]) 0 3)] 0,i64 0]=V.t [V.q [V.zz 1 (A4 key 2).length (A5 (A4 key 2))] 0,i64 0];have e:sub (sub (A5 (F5 key 2)) 0 2++A5 [y5 (sub key 0 8) 16]) 0 3=A5 (A4 key 2):=by
     rw[z5 (l:=A5 (F5 key 2)) (by rw[S8,P3]),A4,if_pos rfl,z5 (by rw[Zb,S8,P3];rfl)];exact(Zw (f:=fun k=>V.zz 1 16 (kV k)) (l₁:=F5 key 2) (l₂:=[y5 (sub key 0 8) 16])).symm
    rw[hl,if_pos rfl];exact congrArg (fun z=>V.t [V.q [V.zz 1 3 z] 0,i64 0]) e
   ·have hl:=dL (key:=key) hn;rw[if_neg (by omega)]at hl;refine⟨_,rfl,[],?_,tq⟩;show V.t [V.q [V.zz 1 (i+1) (sub (A5 (F5 key (i+1))) 0 ((i+1)*1))] 0,i64 0]=V.t [V.q [V.zz 1 (A4 key n).length (A5 (A4 key n))] 0,i64 0];rw[hl,hin];have e:sub (A5 (F5 key n)) 0 (n*1)=A5 (A4 key n):=by
     rw[A4,if_neg (by omega),z5 (by rw[S8,P3,Zg])]
    exact congrArg (fun z=>V.t [V.q [V.zz 1 n z] 0,i64 0]) e
abbrev i7:V:= .s (.pointer none)
def wr (t:Int) (n:Nat) (va:List Value) (k:Nat) (xs:List V):Prop:=
 (t=1\/t=2)/\k=79/\a7 C 78 [.z n va] [] (.ret (.t [.q xs 0,i64 0])) []\/
 (t=3)/\k=81/\a7 C 80 [.z n va] [] (.ret (.t [.q xs 0,i64 0])) []\/
 (t=6)/\k=83/\a7 C 82 [.z n va] [] (.ret (.t [.q xs 0,i64 0])) []\/
 (t=7)/\k=85/\a7 C 84 [.z n va] [] (.ret (.t [.q xs 0,i64 0])) []\/
 (t=4\/t=5\/t=8)/\k=87/\a7 C 86 [i64 t,.z n va] [] (.ret (.t [.q xs 0,i64 0])) []
theorem ax {t:Int} {n k:Nat} {va:List Value} {xs:List V} (hv:(n:Int)∈m6 t) (hm:n<=1000) (hs:wr t n va k xs):a7 C 25 [i64 t,.z n va] [] (.ret (.t [b9 t k xs,i64 0])) []:=by
 have hl:=fW t;rcases hs with ⟨ht,rfl,hs⟩|⟨ht,rfl,hs⟩|⟨ht,rfl,hs⟩|⟨ht,rfl,hs⟩|⟨ht,rfl,hs⟩
 ·rcases ht with rfl|rfl
  ·refine aB.c ?_;refine⟨0,Unit,(fun _=>⟨[(6,.p (.k 0) 0),(7,i64 0)],[.mx [i64 1,.f (.func 79) [.q xs 0] []]]⟩),fun _=>True,fun _=>0,?_,fun _ h=> ?_⟩
   ·refine⟨[],_,_,_,_,Q5 (by simp[m8]),rfl,rfl,?_⟩;refine⟨[],_,_,_,_,U4 (by simp[m8]),rfl,rfl,?_⟩;refine⟨[],_,_,_,_,U2 (x:=n) (K8 rfl) rfl (by omega),rfl,rfl,?_⟩;refine w9 (by rw[decide_eq_true hv];rfl) ?_;refine⟨[],_,_,_,_,hs,rfl,rfl,?_⟩;refine⟨Zh _,?_⟩;exact⟨[],(),tq,[.d 20 0],⟨rfl,rfl,tq⟩,⟨_,rfl,rfl⟩,tq⟩
   ·exact⟨_,rfl,[],rfl,tq⟩
  ·refine aB.c ?_;refine⟨0,Unit,(fun _=>⟨[(6,.p (.k 0) 0),(7,i64 0)],[.mx [i64 2,.f (.func 79) [.q xs 0] []]]⟩),fun _=>True,fun _=>0,?_,fun _ h=> ?_⟩
   ·refine⟨[],_,_,_,_,Q5 (by simp[m8]),rfl,rfl,?_⟩;refine⟨[],_,_,_,_,U4 (by simp[m8]),rfl,rfl,?_⟩;refine⟨[],_,_,_,_,U2 (x:=n) (K8 rfl) rfl (by omega),rfl,rfl,?_⟩;refine w9 (by rw[decide_eq_true hv];rfl) ?_;refine⟨[],_,_,_,_,hs,rfl,rfl,?_⟩;refine⟨Zh _,?_⟩;exact⟨[],(),tq,[.d 20 0],⟨rfl,rfl,tq⟩,⟨_,rfl,rfl⟩,tq⟩
   ·exact⟨_,rfl,[],rfl,tq⟩
 ·subst ht;refine aB.c ?_;refine⟨0,Unit,(fun _=>⟨[(6,.p (.k 0) 0),(7,i64 0)],[.mx [i64 3,.f (.func 81) [.q xs 0] []]]⟩),fun _=>True,fun _=>0,?_,fun _ h=> ?_⟩
  ·refine⟨[],_,_,_,_,Q5 (by simp[m8]),rfl,rfl,?_⟩;refine⟨[],_,_,_,_,U4 (by simp[m8]),rfl,rfl,?_⟩;refine⟨[],_,_,_,_,U2 (x:=n) (K8 rfl) rfl (by omega),rfl,rfl,?_⟩;refine w9 (by rw[decide_eq_true hv];rfl) ?_;refine⟨[],_,_,_,_,hs,rfl,rfl,?_⟩;refine⟨Zh _,?_⟩;exact⟨[],(),tq,[.d 20 0],⟨rfl,rfl,tq⟩,⟨_,rfl,rfl⟩,tq⟩
  ·exact⟨_,rfl,[],rfl,tq⟩
 ·subst ht;refine aB.c ?_;refine⟨0,Unit,(fun _=>⟨[(6,.p (.k 0) 0),(7,i64 0)],[.mx [i64 6,.f (.func 83) [.q xs 0] []]]⟩),fun _=>True,fun _=>0,?_,fun _ h=> ?_⟩
  ·refine⟨[],_,_,_,_,Q5 (by simp[m8]),rfl,rfl,?_⟩;refine⟨[],_,_,_,_,U4 (by simp[m8]),rfl,rfl,?_⟩;refine⟨[],_,_,_,_,U2 (x:=n) (K8 rfl) rfl (by omega),rfl,rfl,?_⟩;refine w9 (by rw[decide_eq_true hv];rfl) ?_;refine⟨[],_,_,_,_,hs,rfl,rfl,?_⟩;refine⟨Zh _,?_⟩;exact⟨[],(),tq,[.d 20 0],⟨rfl,rfl,tq⟩,⟨_,rfl,rfl⟩,tq⟩
  ·exact⟨_,rfl,[],rfl,tq⟩
 ·subst ht;refine aB.c ?_;refine⟨0,Unit,(fun _=>⟨[(6,.p (.k 0) 0),(7,i64 0)],[.mx [i64 7,.f (.func 85) [.q xs 0] []]]⟩),fun _=>True,fun _=>0,?_,fun _ h=> ?_⟩
  ·refine⟨[],_,_,_,_,Q5 (by simp[m8]),rfl,rfl,?_⟩;refine⟨[],_,_,_,_,U4 (by simp[m8]),rfl,rfl,?_⟩;refine⟨[],_,_,_,_,U2 (x:=n) (K8 rfl) rfl (by omega),rfl,rfl,?_⟩;refine w9 (by rw[decide_eq_true hv];rfl) ?_;refine⟨[],_,_,_,_,hs,rfl,rfl,?_⟩;refine⟨Zh _,?_⟩;exact⟨[],(),tq,[.d 20 0],⟨rfl,rfl,tq⟩,⟨_,rfl,rfl⟩,tq⟩
  ·exact⟨_,rfl,[],rfl,tq⟩
 ·exact Lc ht hv hm hs
def sq (t:Int) (n:Nat) (va:List Value) (rs:List V):Prop:=
 ((t=1\/t=2)/\∃x,rs=[i64 t,.q x 0,i7,i7,i7,i7]/\a7 C 54 [.z n va] [] (.ret (.t [.q x 0,i64 0])) [])\/
 ((t=3)/\∃x,rs=[i64 t,i7,.q x 0,i7,i7,i7]/\a7 C 55 [.z n va] [] (.ret (.t [.q x 0,i64 0])) [])\/
 ((t=6)/\∃x,rs=[i64 t,i7,i7,i7,.q x 0,i7]/\a7 C 56 [.z n va] [] (.ret (.t [.q x 0,i64 0])) [])\/
 ((t=7)/\∃x,rs=[i64 t,i7,i7,i7,i7,.q x 0]/\a7 C 57 [.z n va] [] (.ret (.t [.q x 0,i64 0])) [])\/
 (t=4\/t=5\/t=8)/\∃x,rs=[i64 t,i7,i7,.q x 0,i7,i7]/\a7 C 58 [i64 t,.z n va] [] (.ret (.t [.q x 0,i64 0])) []
theorem Cp {l:List Int} {i:Nat} {x:Int} (h:i<l.length):decide (x∈l.take (i+1))=(decide (x∈l.take i)||(l.getD i 0==x)):=by
 have e:l.getD i 0=l[i]:=by simp[Zc,h]
 rw[e,List.take_succ_eq_append_getElem h];rw[Bool.eq_iff_iff];simp only[decide_eq_true_eq,List.mem_append,List.mem_singleton,Bool.or_eq_true,beq_iff_eq];exact⟨fun h=>h.elim .inl fun h=> .inr h.symm,fun h=>h.elim .inl fun h=> .inr h.symm⟩
theorem sq.ok {t n va rs} (h:sq t n va rs):m8 t:=by
 unfold m8;rcases h with ⟨h,_⟩|⟨h,_⟩|⟨h,_⟩|⟨h,_⟩|⟨h,_⟩<;>omega
theorem oH {t} (h:m8 t):0<(m6 t).length:=by
 rcases h with rfl|rfl|rfl|rfl|rfl|rfl|rfl|rfl<;>decide
theorem aA {t:Int} {n:Nat} {va:List Value} {rs:List V} (hv:(n:Int)∈m6 t) (hs:sq t n va rs):a7 C 14 [i64 t,.z n va] [] (.ret (.t [.q rs 0,i64 0])) []:=by
 have hok:=hs.ok;have hl:=fW t;have hp:=oH hok;refine uj.c ?_;refine⟨[],_,_,_,_,tk hok,rfl,rfl,?_⟩;refine w9 (beq_false_of_ne (by omega)) ?_;refine j9 (fun i=>⟨[(0,i64 t),(1,.z n va),(6,iz (m6 t)),(7,bool (decide ((n:Int)∈(m6 t).take i))),(8,i64 i)],[]⟩) (m6 t).length ⟨[],⟨rfl,rfl,?_,?_,rfl,tq⟩,tq⟩ fun i hi=> ?_
 ·show V.z _ (sub (iv _) 0 _)=_;rw[K8 rfl]
 ·exact congrArg bool (decide_eq_false (by simp)).symm
 refine c9 (fun h=> ?_) (fun h=> ?_)
 ·have a9:i<(m6 t).length:=(by omega);have hstep:=Cp (x:=(n:Int)) a9;refine ik (fun h1=> ?_) (fun h1=> ?_)
  ·rw[h1,Bool.true_or]at hstep;exact⟨i+1,by omega,by omega,[],⟨rfl,rfl,rfl,congrArg bool hstep.symm,d7 (by simp(disch:=omega)only[Za];omega),tq⟩,tq⟩
  ·rw[h1,Bool.false_or]at hstep;refine⟨by omega,by omega,_,by rw[Zd];exact uF a9,?_⟩;exact⟨i+1,by omega,by omega,[],⟨rfl,rfl,rfl,congrArg bool hstep.symm,d7 (by simp(disch:=omega)only[Za];omega),tq⟩,tq⟩
 obtain rfl:i=(m6 t).length:=(by omega);refine w9 (by rw[Jm,decide_eq_true hv];rfl) ?_;rcases hs with ⟨rfl|rfl,x,rfl,hs⟩|⟨rfl,x,rfl,hs⟩|⟨rfl,x,rfl,hs⟩|⟨rfl,x,rfl,hs⟩|⟨rfl|rfl|rfl,x,rfl,hs⟩;all_goals
  refine⟨[],_,_,_,_,hs,rfl,rfl,?_⟩;refine⟨Zz rfl,?_⟩;exact⟨_,rfl,[],rfl,tq⟩
theorem Lr {t:Int} {n:Nat} {va:List Value} (ht:¬m8 t):a7 C 14 [i64 t,.z n va] [] (.ret (.t [i7,i64 2])) []:=by
 refine uj.c ?_;refine⟨[],_,_,_,_,Lp ht,rfl,rfl,?_⟩;exact⟨_,rfl,[],rfl,tq⟩
theorem Lq {t:Int} {n:Nat} {va:List Value} (hok:m8 t) (hv:(n:Int)∉m6 t):a7 C 14 [i64 t,.z n va] [] (.ret (.t [i7,i64 4])) []:=by
 have hl:=fW t;have hp:=oH hok;refine uj.c ?_;refine⟨[],_,_,_,_,tk hok,rfl,rfl,?_⟩;refine w9 (beq_false_of_ne (by omega)) ?_;refine j9 (fun i=>⟨[(0,i64 t),(1,.z n va),(6,iz (m6 t)),(7,bool (decide ((n:Int)∈(m6 t).take i))),(8,i64 i)],[]⟩) (m6 t).length ⟨[],⟨rfl,rfl,?_,?_,rfl,tq⟩,tq⟩ fun i hi=> ?_
 ·show V.z _ (sub (iv _) 0 _)=_;rw[K8 rfl]
 ·exact congrArg bool (decide_eq_false (by simp)).symm
 refine c9 (fun h=> ?_) (fun h=> ?_)
 ·have a9:i<(m6 t).length:=(by omega);have hstep:=Cp (x:=(n:Int)) a9;refine ik (fun h1=> ?_) (fun h1=> ?_)
  ·rw[h1,Bool.true_or]at hstep;exact⟨i+1,by omega,by omega,[],⟨rfl,rfl,rfl,congrArg bool hstep.symm,d7 (by simp(disch:=omega)only[Za];omega),tq⟩,tq⟩
  ·rw[h1,Bool.false_or]at hstep;refine⟨by omega,by omega,_,by rw[Zd];exact uF a9,?_⟩;exact⟨i+1,by omega,by omega,[],⟨rfl,rfl,rfl,congrArg bool hstep.symm,d7 (by simp(disch:=omega)only[Za];omega),tq⟩,tq⟩
 obtain rfl:i=(m6 t).length:=(by omega);refine bG (by rw[Jm,decide_eq_false hv];rfl) ?_;exact⟨_,rfl,[],rfl,tq⟩
def GE (t:Int) (n:Nat) (va:List Value) (back:Bool) (rs:List V) (l:List Value):Prop:=
 ((t=1\/t=2)/\∃x,rs=[i64 t,.q x 0,i7,i7,i7,i7]/\a7 C 153 [.q x 0,.z n va,bool back] [] (A8 n) [.sc l])\/
 ((t=3)/\∃x,rs=[i64 t,i7,.q x 0,i7,i7,i7]/\a7 C 154 [.q x 0,.z n va,bool back] [] (A8 n) [.sc l])\/
 ((t=6)/\∃x,rs=[i64 t,i7,i7,i7,.q x 0,i7]/\a7 C 155 [.q x 0,.z n va,bool back] [] (A8 n) [.sc l])\/
 ((t=7)/\∃x,rs=[i64 t,i7,i7,i7,i7,.q x 0]/\a7 C 156 [.q x 0,.z n va,bool back] [] (A8 n) [.sc l])\/
 (t=4\/t=5\/t=8)/\∃x,rs=[i64 t,i7,i7,.q x 0,i7,i7]/\a7 C 157 [.q x 0,.z n va,bool back] [] (A8 n) [.sc l]
theorem ay {t:Int} {n:Nat} {va:List Value} {back:Bool} {rs:List V} {l:List Value} (hs:GE t n va back rs l):a7 C 88 [.q rs 0,.z n va,bool back] [] (A8 n) [.sc l]:=by
 rcases hs with ⟨ht,x,rfl,hs⟩|⟨ht,x,rfl,hs⟩|⟨ht,x,rfl,hs⟩|⟨ht,x,rfl,hs⟩|⟨ht,x,rfl,hs⟩
 ·rcases ht with rfl|rfl;all_goals
   refine dT.c ?_;refine⟨_,rfl,_,rfl,?_⟩;refine⟨[],_,_,_,_,hs,rfl,rfl,?_⟩;exact⟨_,rfl,[.d 21 0],rfl,⟨_,rfl,rfl⟩,tq⟩
 ·rcases ht with rfl;all_goals
   refine dT.c ?_;refine⟨_,rfl,_,rfl,?_⟩;refine⟨[],_,_,_,_,hs,rfl,rfl,?_⟩;exact⟨_,rfl,[.d 32 0],rfl,⟨_,rfl,rfl⟩,tq⟩
 ·rcases ht with rfl;all_goals
   refine dT.c ?_;refine⟨_,rfl,_,rfl,?_⟩;refine⟨[],_,_,_,_,hs,rfl,rfl,?_⟩;exact⟨_,rfl,[.d 43 0],rfl,⟨_,rfl,rfl⟩,tq⟩
 ·rcases ht with rfl;all_goals
   refine dT.c ?_;refine⟨_,rfl,_,rfl,?_⟩;refine⟨[],_,_,_,_,hs,rfl,rfl,?_⟩;exact⟨_,rfl,[.d 54 0],rfl,⟨_,rfl,rfl⟩,tq⟩
 ·rcases ht with rfl|rfl|rfl;all_goals
   refine dT.c ?_;refine⟨_,rfl,_,rfl,?_⟩;refine⟨[],_,_,_,_,hs,rfl,rfl,?_⟩;exact⟨_,rfl,[.d 63 0],rfl,⟨_,rfl,rfl⟩,tq⟩
def GF (t:Int) (n:Nat) (va:List Value) (back:Bool) (rs:List V):Prop:=
 ((t=1\/t=2)/\∃x,rs=[i64 t,.q x 0,i7,i7,i7,i7]/\a7 C 153 [.q x 0,.z n va,bool back] [] R9 [])\/
 ((t=3)/\∃x,rs=[i64 t,i7,.q x 0,i7,i7,i7]/\a7 C 154 [.q x 0,.z n va,bool back] [] R9 [])\/
 ((t=6)/\∃x,rs=[i64 t,i7,i7,i7,.q x 0,i7]/\a7 C 155 [.q x 0,.z n va,bool back] [] R9 [])\/
 ((t=7)/\∃x,rs=[i64 t,i7,i7,i7,i7,.q x 0]/\a7 C 156 [.q x 0,.z n va,bool back] [] R9 [])\/
 (t=4\/t=5\/t=8)/\∃x,rs=[i64 t,i7,i7,.q x 0,i7,i7]/\a7 C 157 [.q x 0,.z n va,bool back] [] R9 []
theorem az {t:Int} {n:Nat} {va:List Value} {back:Bool} {rs:List V} (hs:GF t n va back rs):a7 C 88 [.q rs 0,.z n va,bool back] [] R9 []:=by
 rcases hs with ⟨ht,x,rfl,hs⟩|⟨ht,x,rfl,hs⟩|⟨ht,x,rfl,hs⟩|⟨ht,x,rfl,hs⟩|⟨ht,x,rfl,hs⟩
 ·rcases ht with rfl|rfl;all_goals
   refine dT.c ?_;refine⟨_,rfl,_,rfl,?_⟩;refine⟨[],_,_,_,_,hs,rfl,rfl,?_⟩;exact⟨_,rfl,[],rfl,tq⟩
 ·rcases ht with rfl;all_goals
   refine dT.c ?_;refine⟨_,rfl,_,rfl,?_⟩;refine⟨[],_,_,_,_,hs,rfl,rfl,?_⟩;exact⟨_,rfl,[],rfl,tq⟩
 ·rcases ht with rfl;all_goals
   refine dT.c ?_;refine⟨_,rfl,_,rfl,?_⟩;refine⟨[],_,_,_,_,hs,rfl,rfl,?_⟩;exact⟨_,rfl,[],rfl,tq⟩
 ·rcases ht with rfl;all_goals
   refine dT.c ?_;refine⟨_,rfl,_,rfl,?_⟩;refine⟨[],_,_,_,_,hs,rfl,rfl,?_⟩;exact⟨_,rfl,[],rfl,tq⟩
 ·rcases ht with rfl|rfl|rfl;all_goals
   refine dT.c ?_;refine⟨_,rfl,_,rfl,?_⟩;refine⟨[],_,_,_,_,hs,rfl,rfl,?_⟩;exact⟨_,rfl,[],rfl,tq⟩
theorem Lo {t:Int} {rs:List V} (ht:m8 t) (hr:rs.head? =some (i64 t)):a7 C 15 [.q rs 0] [] (.ret (i64 (C8 t))) []:=by
 obtain⟨r,rfl⟩:∃r,rs=i64 t::r:=by
  cases rs with
  |nil=>cases hr
  |cons a r=>exact⟨r,by cases hr;rfl⟩
 refine Qb.c ?_;refine⟨_,rfl,?_⟩;refine⟨[],_,_,_,_,oU ht,rfl,rfl,?_⟩;exact⟨_,rfl,[],rfl,tq⟩
def af (r:W2):Bs:=M8 r.1++M8 r.2
def ah (r:W2):Bs:=p6 r.1++p6 r.2
def xF (key:Bs) (back:Bool) (b:Bs):W2:=if back then ((it (O7 (w5 o7 key 4)) 32 (o7 (sub b 0 4),o7 (sub b 4 4),3337565984)).1,(it (O7 (w5 o7 key 4)) 32 (o7 (sub b 0 4),o7 (sub b 4 4),3337565984)).2.1)else ((it (O8 (w5 o7 key 4)) 32 (o7 (sub b 0 4),o7 (sub b 4 4),0)).1,(it (O8 (w5 o7 key 4)) 32 (o7 (sub b 0 4),o7 (sub b 4 4),0)).2.1)
def mF (key:Bs) (back:Bool) (b:Bs):W2:=bw (if back then (C2 (w5 o7 key 8)).reverse else C2 (w5 o7 key 8)) (o7 (sub b 0 4)) (o7 (sub b 4 4))
def rG (K:List UInt32):Bool->Bs->W2
 |true,b=>((D3 K (o5 (sub b 0 4),o5 (sub b 4 4)) 12).1-K.getD 0 0,(D3 K (o5 (sub b 0 4),o5 (sub b 4 4)) 12).2-K.getD 1 0)
 |false,b=>B4 K (o5 (sub b 0 4),o5 (sub b 4 4)) 12
def eX (key:Bs) (back:Bool) (b:Bs):Bs:=K6 (A4 key (key.length/8)) back b (A4 key (key.length/8)).length
def aQ (key:Bs):Nat:=(key.length-16)/8
def aN (key:Bs):Nat:=13+2*aQ key
def cF (t:Int) (key:Bs) (back:Bool) (b:Bs):Bs:=
 if t=1\/t=2 then eX key back b
 else if t=3 then W9 (I1 (if back then y7 (O1 key)else O1 key) (L3 b))
 else if t=4 then af (xF key back b)
 else if t=5 then af (mF key back b)
 else if t=6 then L5 (if back then cy (tK key) (tS key) (A6 b)else cz (tK key) (tS key) (A6 b)) 4
 else if t=7 then (if back then fP (aQ key) key (aN key) b else dz (aQ key) key (aN key) b)
 else ah (rG (t6 (w5 o5 key 4) 78).1 back b)
structure i6 (t:Int) (key:Bs) (s k:Nat) (xs rs:List V):Prop where
 ht:m8 t
 hs:C8 t=s
 hd:rs.head? =some (i64 t)
 kl:(key.length:Int)∈m6 t
 new:a7 C 25 [i64 t,.z key.length (bv key)] [] (.ret (.t [b9 t k xs,i64 0])) []
 cn:wr t key.length (bv key) k xs
 rnew:a7 C 14 [i64 t,.z key.length (bv key)] [] (.ret (.t [.q rs 0,i64 0])) []
 blk:∀{b:Bs} {back:Bool},b.length=s->a7 C k [.q xs 0,.z s (bv b),bool back] [] (A8 s) [.sc (bv (cF t key back b))]
 rblk:∀{b:Bs} {back:Bool},b.length=s->a7 C 88 [.q rs 0,.z s (bv b),bool back] [] (A8 s) [.sc (bv (cF t key back b))]
 bad:∀{n:Nat} {va:List Value} {back:Bool},n≠s->a7 C k [.q xs 0,.z n va,bool back] [] R9 []
 rbad:∀{n:Nat} {va:List Value} {back:Bool},n≠s->a7 C 88 [.q rs 0,.z n va,bool back] [] R9 []
 len:∀{b:Bs} {back:Bool},b.length=s->(cF t key back b).length=s
theorem qU (r):(af r).length=8:=by rw[af,Zb,ia,ia]
theorem Dq (r):(ah r).length=8:=by rw[ah,Zb,E8,E8]
theorem Dv (x):(L5 x 4).length=16:=ek x 4
theorem xr {q key n b} (h:aq q key n):(dz q key n b).length=16:=by
 rw[dz];exact w6 (N8 _ _ _) (eI h _)
theorem xp {q key n b} (h:aq q key n):(fP q key n b).length=16:=ou h _
theorem zY {t:Int} {key:Bs} (ht:t=1\/t=2) (hv:(key.length:Int)∈m6 t):∃k xs rs,i6 t key 8 k xs rs:=by
 obtain⟨n,hn,h3⟩:∃n,key.length=8*n/\(1<=n/\n<=3):=by
  refine⟨key.length/8,?_⟩;rcases ht with rfl|rfl<;>simp[m6]at hv<;>omega
 have hd:key.length/8=n:=by omega
 obtain⟨ok,pos⟩:=Aq (key:=key) h3;have hF:∀b back,cF t key back b=K6 (A4 key n) back b (A4 key n).length:=fun b back=>by rw[cF,if_pos ht,eX,hd]
 refine⟨_,_,[i64 t,bo (A4 key n),i7,i7,i7,i7],⟨?_,?_,rfl,hv,ax hv (by omega) (.inl ⟨ht,rfl,oP rfl rfl hn h3⟩),.inl ⟨ht,rfl,oP rfl rfl hn h3⟩,aA hv (.inl ⟨ht,_,rfl,yU rfl rfl hn h3⟩),fun hb=> ?_,fun hb=> ?_,fun hn=>yk hn,fun hn=>az (.inl ⟨ht,_,rfl,yQ hn⟩),fun hb=> ?_⟩⟩
 ·unfold m8;omega
 ·unfold C8;rw[if_pos (by omega)];rfl
 ·rw[hF];exact yl rfl hb ok pos
 ·rw[hF];exact ay (.inl ⟨ht,_,rfl,yR rfl hb ok pos⟩)
 ·rw[hF];exact pr hb _
theorem Aa {key:Bs} (hk:key.length=16):∃k xs rs,i6 3 key 8 k xs rs:=by
 have hv:(key.length:Int)∈m6 3:=by rw[hk];decide
 refine⟨_,_,[i64 3,i7,kX (O1 key),i7,i7,i7],⟨by simp[m8],rfl,rfl,hv,ax hv (by omega) (.inr (.inl ⟨rfl,rfl,by rw[hk];exact oR rfl hk⟩)),.inr (.inl ⟨rfl,rfl,by rw[hk];exact oR rfl hk⟩),aA hv (.inr (.inl ⟨rfl,_,rfl,by rw[hk];exact yX rfl hk⟩)),fun hb=>yu rfl hb (Y8 _) (gI _),fun hb=>ay (.inr (.inl ⟨rfl,_,rfl,yW rfl hb (Y8 _) (gI _)⟩)),fun hn=>yt hn,fun hn=>az (.inr (.inl ⟨rfl,_,rfl,yV hn⟩)),fun hb=>Ds _⟩⟩
theorem Nk {key:Bs} (hk:key.length=16):∃k xs rs,i6 4 key 8 k xs rs:=by
 have hv:(key.length:Int)∈m6 4:=by rw[hk];decide
 have hl:=I7 o7 key 4;refine⟨_,_,[i64 4,i7,i7,F8 (w5 o7 key 4) 4,i7,i7],⟨by simp[m8],rfl,rfl,hv,ax hv (by omega) (.inr (.inr (.inr (.inr ⟨.inl rfl,rfl,by rw[hk];exact pf rfl hk⟩)))),.inr (.inr (.inr (.inr ⟨.inl rfl,rfl,by rw[hk];exact pf rfl hk⟩))),aA hv (.inr (.inr (.inr (.inr ⟨.inl rfl,_,rfl,by rw[hk];exact zg rfl hk⟩)))),fun{b back} hb=> ?_,fun{b back} hb=> ?_,fun hn=>jP hn,fun hn=>az (.inr (.inr (.inr (.inr ⟨.inl rfl,_,rfl,ka hn⟩)))),fun hb=>qU _⟩⟩
 ·refine ye (r:=xF key back b) rfl hb ?_;cases back
  ·exact zU hl rfl rfl
  ·exact zT hl rfl rfl
 ·refine ay (.inr (.inr (.inr (.inr ⟨.inl rfl,_,rfl,yZ (r:=xF key back b) rfl hb ?_⟩))));cases back
  ·exact zj hl rfl rfl
  ·exact zi hl rfl rfl
theorem Nc {key:Bs} (hk:key.length=32):∃k xs rs,i6 5 key 8 k xs rs:=by
 have hv:(key.length:Int)∈m6 5:=by rw[hk];decide
 have hl:=I7 o7 key 8;refine⟨_,_,[i64 5,i7,i7,F8 (w5 o7 key 8) 5,i7,i7],⟨by simp[m8],rfl,rfl,hv,ax hv (by omega) (.inr (.inr (.inr (.inr ⟨.inr (.inl rfl),rfl,by rw[hk];exact pe rfl hk⟩)))),.inr (.inr (.inr (.inr ⟨.inr (.inl rfl),rfl,by rw[hk];exact pe rfl hk⟩))),aA hv (.inr (.inr (.inr (.inr ⟨.inr (.inl rfl),_,rfl,by rw[hk];exact ze rfl hk⟩)))),fun{b back} hb=> ?_,fun{b back} hb=> ?_,fun hn=>jP hn,fun hn=>az (.inr (.inr (.inr (.inr ⟨.inr (.inl rfl),_,rfl,ka hn⟩)))),fun hb=>qU _⟩⟩
 ·refine yd (r:=mF key back b) rfl hb ?_;cases back
  ·exact yA hl rfl rfl
  ·exact yB hl rfl rfl
 ·refine ay (.inr (.inr (.inr (.inr ⟨.inr (.inl rfl),_,rfl,yY (r:=mF key back b) rfl hb ?_⟩))));cases back
  ·exact zb hl rfl rfl
  ·exact zd hl rfl rfl
theorem xE {K:List UInt32} (hl:K.length=26) {b:Bs} {back:Bool} (hb:b.length=8):a7 C 87 [M9 K 8,.z 8 (bv b),bool back] [] (A8 8) [.sc (bv (ah (rG K back b)))]:=by
 refine Ij (r:=rG K back b) rfl hb ?_;cases back
 ·simp only[rG];exact LS hl rfl rfl
 ·simp only[rG];exact LR hl rfl rfl
theorem DB {K:List UInt32} (hl:K.length=26) {b:Bs} {back:Bool} (hb:b.length=8):a7 C 157 [F8 K 8,.z 8 (bv b),bool back] [] (A8 8) [.sc (bv (ah (rG K back b)))]:=by
 refine LI (r:=rG K back b) rfl hb ?_;cases back
 ·simp only[rG];exact LK hl rfl rfl
 ·simp only[rG];exact LJ hl rfl rfl
theorem Ng {key:Bs} (hk:key.length=16):∃k xs rs,i6 8 key 8 k xs rs:=by
 have hv:(key.length:Int)∈m6 8:=by rw[hk];decide
 have hl:=(iZ (w5 o5 key 4) 78).1;have n1:=zw rfl hk;have n2:=zf rfl hk;have hF:∀back b,cF 8 key back b=ah (rG (t6 (w5 o5 key 4) 78).1 back b):=fun _ _=>rfl;generalize (t6 (w5 o5 key 4) 78).1=K at hl n1 n2 hF;rw[<-hk]at n1 n2;exact⟨_,_,[i64 8,i7,i7,F8 K 8,i7,i7],⟨by simp[m8],rfl,rfl,hv,ax hv (by omega) (.inr (.inr (.inr (.inr ⟨.inr (.inr rfl),rfl,n1⟩)))),.inr (.inr (.inr (.inr ⟨.inr (.inr rfl),rfl,n1⟩))),aA hv (.inr (.inr (.inr (.inr ⟨.inr (.inr rfl),_,rfl,n2⟩)))),fun{b back} hb=>by rw[hF];exact xE hl hb,fun{b back} hb=>by rw[hF];exact ay (.inr (.inr (.inr (.inr ⟨.inr (.inr rfl),_,rfl,DB hl hb⟩)))),fun hn=>jP hn,fun hn=>az (.inr (.inr (.inr (.inr ⟨.inr (.inr rfl),_,rfl,ka hn⟩)))),fun hb=>by rw[hF];exact Dq _⟩⟩
theorem Ni {key:Bs} (hk:key.length=16\/key.length=24\/key.length=32):∃k xs rs,i6 6 key 16 k xs rs:=by
 have hv:(key.length:Int)∈m6 6:=by rcases hk with h|h|h<;>rw[h]<;>decide
 obtain⟨n,hn,h3⟩:∃n,key.length=8*n/\(2<=n/\n<=4):=⟨key.length/8,by omega⟩;have hS:=jo hn;refine⟨_,_,[i64 6,i7,i7,i7,M4 (tK key) (tS key),i7],⟨by simp[m8],rfl,rfl,hv,ax hv (by omega) (.inr (.inr (.inl ⟨rfl,rfl,pj rfl rfl hn h3⟩))),.inr (.inr (.inl ⟨rfl,rfl,pj rfl rfl hn h3⟩)),aA hv (.inr (.inr (.inl ⟨rfl,_,rfl,zp rfl rfl hn h3⟩))),fun{b back} hb=> ?_,fun{b back} hb=>ay (.inr (.inr (.inl ⟨rfl,_,rfl,?_⟩))),fun hn=>zN hn,fun hn=>az (.inr (.inr (.inl ⟨rfl,_,rfl,zk hn⟩))),fun hb=>Dv _⟩⟩
 ·cases back
  ·exact zQ rfl hb (aM _) (by omega)
  ·exact zO rfl hb (aM _) (by omega)
 ·cases back
  ·exact zo rfl hb (aM _) (by omega)
  ·exact zn rfl hb (aM _) (by omega)
theorem MY {key:Bs} (hk:key.length=16\/key.length=24\/key.length=32):∃k xs rs,i6 7 key 16 k xs rs:=by
 have hv:(key.length:Int)∈m6 7:=by rcases hk with h|h|h<;>rw[h]<;>decide
 have ok:aq (aQ key) key (aN key):=by
  refine⟨?_,?_,?_,?_⟩<;>first|omega|(simp only[aN,aQ];omega)
 have new:a7 C 84 [.z key.length (bv key)] [] (.ret (.t [Y3 (aQ key) key (aN key),i64 0])) []/\a7 C 57 [.z key.length (bv key)] [] (.ret (.t [bP (aQ key) key (aN key),i64 0])) []:=by
  rcases hk with h|h|h
  ·rw[aN,aQ,h];exact⟨xW rfl h,yJ rfl h⟩
  ·rw[aN,aQ,h];exact⟨xX rfl h,yK rfl h⟩
  ·rw[aN,aQ,h];exact⟨xY rfl h,yL rfl h⟩
 refine⟨_,_,[i64 7,i7,i7,i7,i7,bP (aQ key) key (aN key)],⟨by simp[m8],rfl,rfl,hv,ax hv (by omega) (.inr (.inr (.inr (.inl ⟨rfl,rfl,new.1⟩)))),.inr (.inr (.inr (.inl ⟨rfl,rfl,new.1⟩))),aA hv (.inr (.inr (.inr (.inl ⟨rfl,_,rfl,new.2⟩)))),fun{b back} hb=> ?_,fun{b back} hb=>ay (.inr (.inr (.inr (.inl ⟨rfl,_,rfl,?_⟩)))),fun hn=>xZ hn,fun hn=>az (.inr (.inr (.inr (.inl ⟨rfl,_,rfl,yF hn⟩)))),fun{b back} hb=> ?_⟩⟩
 ·cases back
  ·exact yb ok rfl hb
  ·exact ya ok rfl hb
 ·cases back
  ·exact yH ok rfl hb
  ·exact yG ok rfl hb
 ·cases back
  ·exact xr ok
  ·exact xp ok
theorem Ab {t:Int} {key:Bs} (ht:m8 t) (hv:(key.length:Int)∈m6 t):∃s k xs rs,i6 t key s k xs rs:=by
 have h8:∀{t},(∃k xs rs,i6 t key 8 k xs rs)->∃s k xs rs,i6 t key s k xs rs:=fun h=>⟨8,h⟩;have h16:∀{t},(∃k xs rs,i6 t key 16 k xs rs)->∃s k xs rs,i6 t key s k xs rs:=fun h=>⟨16,h⟩;rcases ht with rfl|rfl|rfl|rfl|rfl|rfl|rfl|rfl
 ·exact h8 (zY (.inl rfl) hv)
 ·exact h8 (zY (.inr rfl) hv)
 ·exact h8 (Aa (by simp[m6]at hv;omega))
 ·exact h8 (Nk (by simp[m6]at hv;omega))
 ·exact h8 (Nc (by simp[m6]at hv;omega))
 ·exact h16 (Ni (by simp[m6]at hv;omega))
 ·exact h16 (MY (by simp[m6]at hv;omega))
 ·exact h8 (Ng (by simp[m6]at hv;omega))
theorem i6.new' {t key s k xs rs} (h:i6 t key s k xs rs) {n:Nat} {va:List Value} (hn:key.length=n) (ha:va=bv key):a7 C 25 [i64 t,.z n va] [] (.ret (.t [b9 t k xs,i64 0])) []:=by subst ha;subst hn;exact h.new
theorem i6.enc {t key s k xs rs} (h:i6 t key s k xs rs) {b:Bs} {va:List Value} (hb:b.length=s) (ha:va=bv b):a7 C 26 [b9 t k xs,.z s va] [] (A8 s) [.sc (bv (cF t key false b))]:=by subst ha;exact JK (h.blk hb)
theorem i6.dec {t key s k xs rs} (h:i6 t key s k xs rs) {b:Bs} {va:List Value} (hb:b.length=s) (ha:va=bv b):a7 C 177 [b9 t k xs,.z s va] [] (A8 s) [.sc (bv (cF t key true b))]:=by subst ha;exact JF (h.blk hb)
theorem i6.rS {t key s k xs rs} (h:i6 t key s k xs rs):a7 C 23 [i64 t] [] (.ret (i64 s)) []:=by rw[<-h.hs];exact oU h.ht
theorem i6.size {t key s k xs rs} (h:i6 t key s k xs rs):a7 C 63 [b9 t k xs] [] (.ret (i64 s)) []:=by rw[<-h.hs];exact Ir h.ht
theorem i6.rsize {t key s k xs rs} (h:i6 t key s k xs rs):a7 C 15 [.q rs 0] [] (.ret (i64 s)) []:=by rw[<-h.hs];exact Lo h.ht h.hd
theorem BP {t n:Int} (ht:m8 t):((Y6 t n:Nat):Int)∈m6 t:=by
 have hp:=oH ht;have h1:=Int.emod_nonneg n (b:=((m6 t).length:Int)) (by omega);have h2:=Int.emod_lt_of_pos n (b:=((m6 t).length:Int)) (by omega);have hi:(n%((m6 t).length:Int)).toNat<(m6 t).length:=by omega
 have hx:(m6 t).getD (n%((m6 t).length:Int)).toNat 0∈m6 t:=by
  rw[Zc,Zp hi];exact List.getElem_mem hi
 have h0:0<=(m6 t).getD (n%((m6 t).length:Int)).toNat 0:=by
  have:∀x∈m6 t,0<=x:=by
   rcases ht with rfl|rfl|rfl|rfl|rfl|rfl|rfl|rfl<;>decide
  exact this _ hx
 rw[Y6,Int.toNat_of_nonneg h0];exact hx
theorem Nb (tag n:Int) (k:Bs):∃s q xs rs,i6 (m7 tag) (S7 (m7 tag) n k) s q xs rs:=Ab (iw _) (by rw[uH];exact BP (iw _))
theorem i6.s_le {t key s k xs rs} (h:i6 t key s k xs rs):8<=s/\s<=16:=by
 have:=h.hs;rcases h.ht with e|e|e|e|e|e|e|e<;>(subst e;simp[C8]at this;omega)
theorem vK {l:Bs} {n:Nat} (h:l.length=n):0+n<=(bv l).length:=Nat.le_of_eq (by rw[Zi,f9,h])
theorem JZ {t n:Int} {m:Nat} {va:List Value} {k:Bs} (ht:m8 t) (hn: -9223372036854775808<=n/\n<=9223372036854775807) (ha:va=bv k) (hk:k.length=m):a7 C 21 [i64 t,i64 n,.z m va] [] (.ret (.z (Y6 t n) (bv (S7 t n k)))) []:=by
 obtain⟨h1,h2,h3,h4,h5⟩:=BQ ht n;have hl:=fW t;have hp:=oH ht;refine Pw.c ?_;refine⟨[],_,_,_,_,tk ht,rfl,rfl,?_⟩;refine⟨[],_,_,_,_,zS (n:=(m6 t).length) (by omega) (by omega) hn,rfl,rfl,?_⟩;refine⟨h4,h5,?_⟩;refine⟨.int .i64 (Y6 t n),?_,?_⟩
 ·rw[Zg,Zi];simp[iv,h3]
 refine⟨[],_,_,_,_,yg (n:=Y6 t n) ha hk (by omega),rfl,rfl,?_⟩;exact⟨_,rfl,[],congrArg (V.z _) (b8 (oG _ _)),tq⟩
theorem qj {α:Type} (f:α->α):∀(n:Nat) (x:α),it f n (f x)=f (it f n x)
 |0,_=>rfl
 |n+1,x=>congrArg f (qj f n x)
theorem uD {α:Type} {f g:α->α} (h:∀x,g (f x)=x):∀(n:Nat) (x:α),it g n (it f n x)=x
 |0,_=>rfl
 |n+1,x=>by
  show g (it g n (f (it f n x)))=x;rw[<-qj g,h,uD h n x]
theorem pV {α:Type} {st bk:α->Nat->α} (h:∀x r,bk (st x r) r=x):∀(n:Nat) (x:α),(List.range n).foldl (fun x r=>bk x (n-1-r)) ((List.range n).foldl st x)=x
 |0,_=>rfl
 |n+1,x=>by
  have e1:(List.range (n+1)).foldl st x=st ((List.range n).foldl st x) n:=by rw[Zo,Z0];rfl
  rw[e1,Jp,Zx,List.foldl_map];rw[show n+1-1-0=n by omega,h];have e:∀(l:List Nat) (y:α),l.foldl (fun x r=>bk x (n+1-1-Nat.succ r)) y=l.foldl (fun x r=>bk x (n-1-r)) y:=by
   intro l y;congr 1;funext x r;congr 1;omega
  rw[e];exact pV h n x
theorem ni {α:Type} {f g:α->Nat->α} {n:Nat} (h:∀x r,r<n->f x r=g x r):∀(x:α),(List.range n).foldl f x=(List.range n).foldl g x:=by
 have:∀(l:List Nat),(∀r∈l,r<n)->∀x,l.foldl f x=l.foldl g x:=by
  intro l;induction l with
  |nil=>intros;rfl
  |cons a r ih=>
   intro hl x;rw[Zx,Zx,h x a (hl a (by simp))];exact ih (fun r hr=>hl r (by simp[hr])) _
 exact this _ (fun r hr=>List.mem_range.1 hr)
theorem Bv {α:Type} {st bk:α->Nat->α} (h:∀x r,st (bk x r) r=x) (n:Nat) (x:α):(List.range n).foldl st ((List.range n).foldl (fun x r=>bk x (n-1-r)) x)=x:=by
 have:=pV (st:=fun x r=>bk x (n-1-r)) (bk:=fun x r=>st x (n-1-r)) (fun x r=>h x _) n x;rw[<-this];rw[this];refine Eq.trans (ni (fun y r hr=> ?_) _) this;show st y r=st y (n-1-(n-1-r));rw[show n-1-(n-1-r)=r by omega]
theorem Ep (v:UInt32) {k:Nat} (h:k<32) (i:Nat) (hi:i<32):(C3 v k).toNat.testBit i=v.toNat.testBit ((i+32-k)%32):=by
 unfold C3;have hv:v.toNat<2^32:=v.toNat_lt;have e1:(UInt32.ofNat k).toNat%32=k:=by rw[Jv,Zs (show k<2^32 by omega)];exact Zs h
 have e2:(UInt32.ofNat (32-k)).toNat%32=(32-k)%32:=by rw[Jv,Zs (show 32-k<2^32 by omega)]
 rw[UInt32.toNat_or,UInt32.toNat_shiftLeft,UInt32.toNat_shiftRight,e1,e2,Nat.testBit_or,Nat.testBit_mod_two_pow,Nat.testBit_shiftLeft,Nat.testBit_shiftRight];by_cases hk:k=0
 ·subst hk;simp[hi,Zs hi]
 ·rw[Zs (show 32-k<32 by omega)];by_cases hki:k<=i
  ·have:v.toNat.testBit (32-k+i)=false:=Jn (Nat.lt_of_lt_of_le hv (Z3 (by decide) (by omega)));rw[this,show(i+32-k)%32=i-k by omega];simp[hi,hki]
  ·rw[show (i+32-k)%32=32-k+i by omega];simp[hki]
theorem ij (v:UInt32) {k j:Nat} (h:k<32) (hj:j<32) (e:(k+j)%32=0):C3 (C3 v k) j=v:=by
 apply UInt32.toNat_inj.1;apply Nat.eq_of_testBit_eq;intro i;by_cases hi:i<32
 ·rw[Ep _ hj i hi,Ep _ h _ (Zt _ (by decide))];congr 1;omega
 ·have hp:∀w:UInt32,w.toNat.testBit i=false:=fun w=>Jn (Nat.lt_of_lt_of_le w.toNat_lt (Z3 (by decide) (by omega)));rw[hp,hp]
theorem eC (a b:UInt32):a^^^b^^^b=a:=by rw[UInt32.xor_assoc,UInt32.xor_self,UInt32.xor_zero]
theorem qN (n:UInt64) (x:UInt8) (h:n.toNat<2^56):(n<<<8|||x.toUInt64).toNat=n.toNat*256+x.toNat:=by
 have hx:=x.toNat_lt;rw[UInt64.toNat_or,UInt64.toNat_shiftLeft,UInt8.toNat_toUInt64,show(8:UInt64).toNat%64=8 from rfl,Nat.shiftLeft_eq,Zs (by omega)];rw[show (2:Nat)^8=2^8 from rfl,qM _ (i:=8) (by omega)]
theorem Vl (a b c d:UInt8):(M7 [a,b,c,d]).toNat=((a.toNat*256+b.toNat)*256+c.toNat)*256+d.toNat:=by
 have ha:=a.toNat_lt;have hb:=b.toNat_lt;have hc:=c.toNat_lt;have hd:=d.toNat_lt;show(((((((0:UInt64)<<<8|||a.toUInt64)<<<8|||b.toUInt64))<<<8|||c.toUInt64))<<<8|||d.toUInt64).toNat=_;have e1:((0:UInt64)<<<8|||a.toUInt64).toNat=a.toNat:=by rw[qN _ _ (by decide)];show 0*256+_=_;omega
 have e2:(((0:UInt64)<<<8|||a.toUInt64)<<<8|||b.toUInt64).toNat=a.toNat*256+b.toNat:=by rw[qN _ _ (by omega),e1]
 have e3:((((0:UInt64)<<<8|||a.toUInt64)<<<8|||b.toUInt64)<<<8|||c.toUInt64).toNat=(a.toNat*256+b.toNat)*256+c.toNat:=by rw[qN _ _ (by omega),e2]
 rw[qN _ _ (by omega),e3]
theorem Do (v:UInt32):M8 v=[Zq (v.toNat/16777216),Zq (v.toNat/65536),Zq (v.toNat/256),Zq v.toNat]:=by
 have hv:=v.toNat_lt;have s1:∀n:UInt64,(n>>>8).toNat=n.toNat/256:=fun n=>by rw[UInt64.toNat_shiftRight,show(8:UInt64).toNat%64=8 from rfl,Nat.shiftRight_eq_div_pow]
 have s2:∀n:UInt64,n.toUInt8=Zq n.toNat:=fun n=>by
  apply Z8.1;rw[UInt64.toNat_toUInt8,Zy]
 show[(v.toUInt64>>>8>>>8>>>8).toUInt8,(v.toUInt64>>>8>>>8).toUInt8,(v.toUInt64>>>8).toUInt8,v.toUInt64.toUInt8]=_;rw[s2,s2,s2,s2,s1,s1,s1,UInt32.toNat_toUInt64];simp only[Nat.div_div_eq_div_mul]
theorem Vk {b:Bs} (h:b.length=4):∃p q r s,b=[p,q,r,s]:=by
 match b,h with
 |[p,q,r,s],_=>exact⟨p,q,r,s,rfl⟩
theorem xA (a b c d:UInt8):(o7 [a,b,c,d]).toNat=((a.toNat*256+b.toNat)*256+c.toNat)*256+d.toNat:=by
 have ha:=a.toNat_lt;have hb:=b.toNat_lt;have hc:=c.toNat_lt;have hd:=d.toNat_lt;rw[o7,UInt64.toNat_toUInt32,Vl];omega
theorem sK (v:UInt32):o7 (M8 v)=v:=by
 have hv:=v.toNat_lt;apply UInt32.toNat_inj.1;rw[Do,xA];simp only[Zy];omega
theorem vu {b:Bs} (h:b.length=4):M8 (o7 b)=b:=by
 obtain⟨p,q,r,s,rfl⟩:=Vk h;have hp:=p.toNat_lt;have hq:=q.toNat_lt;have hr:=r.toNat_lt;have hs:=s.toNat_lt;rw[Do,xA];have e:∀(x:UInt8) (n:Nat),n%256=x.toNat->Zq n=x:=fun x n h=>by
  apply Z8.1;rw[Zy,<-h]
 rw[e p _ (by omega),e q _ (by omega),e r _ (by omega),e s _ (by omega)]
theorem kH (v:UInt32):o5 (p6 v)=v:=by
 rw[o5,p6,Z4];exact sK v
theorem kS {b:Bs} (h:b.length=4):p6 (o5 b)=b:=by
 have:=vu (b:=b.reverse) (by rw[Zm,h]);show(M8 (o7 b.reverse)).reverse=b;rw[this,Z4]
theorem vM {a b:Bs} {n:Nat} (ha:a.length=n) (hb:b.length=n):sub (a++b) 0 n=a/\sub (a++b) n n=b:=by
 subst ha;refine⟨by simp[sub],?_⟩;simp only[sub,List.drop_left];exact Jc (by omega)
theorem vL {b:Bs} {n m:Nat} (h:b.length=n+m):sub b 0 n++sub b n m=b:=by
 rw[G5 b n m (by omega)];exact Zk n b
theorem Ca (r:W2):(o7 (sub (af r) 0 4),o7 (sub (af r) 4 4))=r:=by
 obtain⟨h1,h2⟩:=vM (ia r.1) (ia r.2);rw[af,h1,h2,sK,sK]
theorem qT {b:Bs} (h:b.length=8):af (o7 (sub b 0 4),o7 (sub b 4 4))=b:=by
 rw[af,vu (by rw[j4];omega),vu (by rw[j4];omega)];exact vL h
theorem Vd (r:W2):(o5 (sub (ah r) 0 4),o5 (sub (ah r) 4 4))=r:=by
 obtain⟨h1,h2⟩:=vM (E8 r.1) (E8 r.2);rw[ah,h1,h2,kH,kH]
theorem Dp {b:Bs} (h:b.length=8):ah (o5 (sub b 0 4),o5 (sub b 4 4))=b:=by
 rw[ah,kS (by rw[j4];omega),kS (by rw[j4];omega)];exact vL h
theorem a1V (k:List UInt32) (x):O7 k (O8 k x)=x:=by
 obtain⟨v,w,s⟩:=x;simp only[O7,O8,Z2]
theorem a1X (k:List UInt32) (x):O8 k (O7 k x)=x:=by
 obtain⟨v,w,s⟩:=x;simp only[O7,O8,Z1]
theorem a1Y (k:List UInt32) (n:Nat) (x):(it (O8 k) n x).2.2=it (· +G2) n x.2.2:=by
 induction n with
 |zero=>rfl
 |succ n ih=>show(O8 k _).2.2=_+G2;rw[<-ih];rfl
theorem a1W (k:List UInt32) (n:Nat) (x):(it (O7 k) n x).2.2=it (· -G2) n x.2.2:=by
 induction n with
 |zero=>rfl
 |succ n ih=>show(O7 k _).2.2=_-G2;rw[<-ih];rfl
theorem Uo:it (· +G2) 32 0=3337565984:=by decide
theorem Um:it (· -G2) 32 3337565984=0:=by decide
def mj (k:List UInt32) (p:W2):W2:=((it (O8 k) 32 (p.1,p.2,0)).1,(it (O8 k) 32 (p.1,p.2,0)).2.1)
def mi (k:List UInt32) (p:W2):W2:=((it (O7 k) 32 (p.1,p.2,3337565984)).1,(it (O7 k) 32 (p.1,p.2,3337565984)).2.1)
theorem a12 (k p):mi k (mj k p)=p:=by
 have h:=uD (a1V k) 32 (p.1,p.2,0);have hs:=(a1Y k 32 (p.1,p.2,0)).trans Uo;have e:((it (O8 k) 32 (p.1,p.2,0)).1,(it (O8 k) 32 (p.1,p.2,0)).2.1,(3337565984:UInt32))=it (O8 k) 32 (p.1,p.2,0):=by rw[<-hs]
 simp only[mi,mj,e,h]
theorem a13 (k p):mj k (mi k p)=p:=by
 have h:=uD (a1X k) 32 (p.1,p.2,3337565984);have hs:=(a1W k 32 (p.1,p.2,3337565984)).trans Um;have e:((it (O7 k) 32 (p.1,p.2,3337565984)).1,(it (O7 k) 32 (p.1,p.2,3337565984)).2.1,(0:UInt32))=it (O7 k) 32 (p.1,p.2,3337565984):=by rw[<-hs]
 simp only[mi,mj,e,h]
theorem Gn (key:Bs) (back:Bool) (b:Bs):xF key back b=if back then mi (w5 o7 key 4) (o7 (sub b 0 4),o7 (sub b 4 4))else mj (w5 o7 key 4) (o7 (sub b 0 4),o7 (sub b 4 4)):=by
 cases back
 ·unfold xF mj;rw[if_neg (by decide),if_neg (by decide)]
 ·unfold xF mi;rw[if_pos rfl,if_pos rfl]
theorem a14 {key:Bs} {b:Bs} (hb:b.length=8) (back:Bool):af (xF key (!back) (af (xF key back b)))=b:=by
 rw[Gn,Ca,Gn];cases back
 ·simp only[Bool.not_false,if_true];rw[if_neg (by decide),a12,qT hb]
 ·simp only[Bool.not_true,if_true];rw[if_neg (by decide),a13,qT hb]
def T6 {α:Type} (x:α×α):α×α:=(x.2,x.1)
theorem Bo:∀(ks:List UInt32) (x:W2),T6 (ks.reverse.foldl Q9 (T6 (ks.foldl Q9 x)))=x
 |[],_=>rfl
 |k::r,x=>by
  rw[List.reverse_cons,Z0,Zx,Zx,List.foldl_nil];have:=Bo r (Q9 x k);have e:r.reverse.foldl Q9 (T6 (r.foldl Q9 (Q9 x k)))=T6 (Q9 x k):=(congrArg T6 this :);rw[e];simp only[T6,Q9,eC]
theorem Cm (ks:List UInt32) (x:W2):bw ks.reverse (bw ks x.1 x.2).1 (bw ks x.1 x.2).2=x:=by
 obtain⟨v,w⟩:=x;have h:=Bo ks (v,w);unfold bw;generalize ks.foldl Q9 (v,w)=z at h ⊢;exact h
theorem Vp {key:Bs} {b:Bs} (hb:b.length=8) (back:Bool):af (mF key (!back) (af (mF key back b)))=b:=by
 have h:=Ca (mF key back b);have h1:o7 (sub (af (mF key back b)) 0 4)=(mF key back b).1:=congrArg Prod.fst h;have h2:o7 (sub (af (mF key back b)) 4 4)=(mF key back b).2:=congrArg Prod.snd h;rw[mF,h1,h2];cases back
 ·rw[if_pos (by rfl)];simp only[mF];rw[if_neg (by decide)];rw[Cm (C2 (w5 o7 key 8)) (o7 (sub b 0 4),o7 (sub b 4 4)),qT hb]
 ·rw[if_neg (by decide)];simp only[mF,if_true];have:=Cm (C2 (w5 o7 key 8)).reverse (o7 (sub b 0 4),o7 (sub b 4 4));rw[Z4]at this;rw[this,qT hb]
theorem Wz (s:List UInt32) (x:W2) (r:Nat):ie s (ig s x r) r=x:=by
 obtain⟨a,c⟩:=x;have h32:∀v:UInt32,(v%32).toNat<32:=fun v=>by rw[UInt32.toNat_mod];exact Zt _ (by decide)
 have e1:rB s r (ig s (a,c) r)=c:=by
  simp only[rB,ig,Z2];rw[ij _ (h32 _) (Zt _ (by decide)) (by have:=h32 (rA s r (a,c));omega),eC]
 simp only[ie,e1];simp only[ig,rA,Z2];rw[ij _ (h32 _) (Zt _ (by decide)) (by have:=h32 c;omega),eC]
theorem WG (s:List UInt32) (x:W2) (r:Nat):ig s (ie s x r) r=x:=by
 obtain⟨a,c⟩:=x;have h32:∀v:UInt32,(v%32).toNat<32:=fun v=>by rw[UInt32.toNat_mod];exact Zt _ (by decide)
 have e1:rA s r (ie s (a,c) r)=a:=by
  simp only[rA,ie];rw[eC,ij _ (Zt _ (by decide)) (h32 _) (by have:=h32 (rB s r (a,c));omega),Z1]
 simp only[ig,e1];simp only[ie,rB];rw[eC,ij _ (Zt _ (by decide)) (h32 _) (by have:=h32 a;omega),Z1]
theorem WF {K:List UInt32} {b:Bs} (hb:b.length=8) (back:Bool):ah (rG K (!back) (ah (rG K back b)))=b:=by
 have h:=Vd (rG K back b);cases back
 ·simp only[rG,Bool.not_false]at h ⊢;rw[h];have e:D3 K (B4 K (o5 (sub b 0 4),o5 (sub b 4 4)) 12) 12=(o5 (sub b 0 4)+K.getD 0 0,o5 (sub b 4 4)+K.getD 1 0):=pV (Wz K) 12 _;rw[e];simp only[Z2];exact Dp hb
 ·simp only[rG,Bool.not_true]at h ⊢;rw[h,B4];simp only[Z1];have e:=Bv (WG K) 12 (o5 (sub b 0 4),o5 (sub b 4 4));exact(congrArg ah e).trans (Dp hb)
def z4 (x:Nat):Nat:=x*x%65537
theorem Yz (x y:Nat):z4 (x*y%65537)=z4 x*z4 y%65537:=by
 unfold z4;rw[<-Ja,<-Ja,Nat.mul_mul_mul_comm]
theorem vH (x y:Nat):∀n,it z4 (n+1) (x*y)=it z4 (n+1) x*it z4 (n+1) y%65537
 |0=>by show(x*y)*(x*y)%65537=(x*x%65537)*(y*y%65537)%65537;rw[<-Ja,Nat.mul_mul_mul_comm]
 |n+1=>by
  show z4 (it z4 (n+1) (x*y))=z4 (it z4 (n+1) x)*z4 (it z4 (n+1) y)%65537;rw[vH x y n,Yz]
theorem ZB {r:Nat} (h:r<=65537):z4 (65537-r)=z4 r:=by
 unfold z4;obtain⟨m,hm⟩:∃m,m+r=65537:=⟨65537-r,by omega⟩;rw[show 65537-r=m by omega];have e1:m*m+m*r=65537*m:=by rw[<-Nat.mul_add,hm,Ji]
 have e2:m*r+r*r=65537*r:=by rw[<-Nat.add_mul,hm]
 generalize m*m=a at e1 ⊢;generalize m*r=b at e1 e2;generalize r*r=c at e2 ⊢;omega
theorem TV:∀x,x<257->1<=x->it z4 16 x=1:=by decide +kernel
theorem VR:∀q,q<257->2<=q->65537%q≠0:=by decide +kernel
theorem uo:∀x,1<=x->x<65537->it z4 16 x=1:=by
 intro x;induction x using Nat.strongRecOn with
 |_ x ih=>
  intro h1 h2;by_cases hs:x<257
  ·exact TV x hs h1
  ·have hdm:=Zu 65537 x;have hr:=Zt 65537 (show x>0 by omega);have hq:65537/x<257:=by
    rw[Nat.div_lt_iff_lt_mul (by omega)];omega
   have hq1:1<=65537/x:=by
    rw[Nat.le_div_iff_mul_le (by omega)];omega
   generalize 65537/x=q at hdm hq hq1;generalize 65537%x=r at hdm hr;have hr0:1<=r:=by
    rcases Nat.eq_zero_or_pos r with h0|h0
    ·exfalso;subst h0;rw[Nat.add_zero]at hdm;rcases Nat.lt_or_ge q 2 with h|h
     ·obtain rfl:q=1:=by omega
      omega
     ·exact VR q hq h (by rw[<-hdm];exact Jk _ _)
    ·exact h0
   have f1:=ih q (by omega) hq1 (by omega);have f2:=ih r hr hr0 (by omega);have e:=vH x q 15;rw[f1,Zg]at e;have e2:it z4 16 (x*q)=it z4 16 r:=by
    rw[show x*q=65537-r by omega];show it z4 16 (65537-r)=_;have:∀y,it z4 16 y=it z4 15 (z4 y):=fun y=>(qj z4 15 y).symm;rw[this,this,ZB (by omega)]
   have a9:it z4 16 x<65537:=Zt _ (by decide);rw[e2,f2,Zs a9]at e;exact e.symm
theorem jl {a:Nat} (h:a<65536):1<=A9 a/\A9 a<65537:=by unfold A9;split<;>omega
theorem VD {x y:Nat} (hx:1<=x/\x<65537) (hy:1<=y/\y<65537):x*y%65537≠0:=by
 intro h;have e:=vH x y 15;rw[uo x hx.1 hx.2,uo y hy.1 hy.2]at e;have e2:it z4 16 (x*y)=0:=by
  have h0:z4 (x*y)=0:=by unfold z4;rw[Ja,h]
  have:it z4 16 (x*y)=it z4 15 (z4 (x*y)):=(qj z4 15 _).symm;rw[this,h0];decide
 rw[e2]at e;exact absurd e (by decide)
theorem ZD {r:Nat} (h1:1<=r) (h2:r<65537):A9 (r%65536)=r:=by unfold A9;split<;>omega
theorem lQ {a b:Nat} (ha:a<65536) (hb:b<65536):A9 (H6 a b)=A9 a*A9 b%65537:=by
 have h:=VD (jl ha) (jl hb);exact ZD (by omega) (Zt _ (by decide))
theorem DY {a b:Nat} (ha:a<65536) (hb:b<65536) (h:A9 a=A9 b):a=b:=by
 unfold A9 at h;split at h<;>split at h<;>omega
theorem BK {a:Nat} (ha:a<65536):∀k,k<=16->A9 (it P5 k (1,a,65535)).1*A9 a%65537=it z4 k (A9 a)%65537/\A9 (it P5 k (1,a,65535)).2.1=it z4 k (A9 a)%65537
 |0,_=>⟨by show A9 1*A9 a%65537=A9 a%65537;rw[show A9 1=1 from rfl,Nat.one_mul],(Zs (jl ha).2).symm⟩
 |k+1,hk=>by
  obtain⟨h1,h2⟩:=BK ha k (by omega);obtain⟨b1,b2,b3⟩:=qc ha k;have hodd:(it P5 k (1,a,65535)).2.2%2=1:=by
   rw[b3];have:∀k,k<16->65535/2^k%2=1:=by decide
   exact this k (by omega)
  show A9 (P5 (it P5 k (1,a,65535))).1*A9 a%65537=z4 (it z4 k (A9 a))%65537/\A9 (P5 (it P5 k (1,a,65535))).2.1=z4 (it z4 k (A9 a))%65537;generalize it P5 k (1,a,65535)=z at*
  simp only[P5,if_pos hodd];have hs:z4 (it z4 k (A9 a))%65537=(it z4 k (A9 a)%65537)*(it z4 k (A9 a)%65537)%65537:=by
   unfold z4;rw[Nat.mod_mod,<-Ja]
  rw[lQ b1 b2,lQ b2 b2,hs,<-h2];refine⟨?_,rfl⟩;rw[Jg,Nat.mul_right_comm,<-Jg,h1,<-h2]
theorem BI {a:Nat} (ha:a<65536):A9 a*A9 (F6 a)%65537=1:=by
 have h:=(BK ha 16 (by decide)).1;rw[uo _ (jl ha).1 (jl ha).2]at h;rw[Ji];exact h
theorem qE {a k:Nat} (ha:a<65536) (hk:k<65536):H6 (H6 a k) (F6 k)=a:=by
 refine DY (H7 _ _) ha ?_;rw[lQ (H7 _ _) (qg hk),lQ ha hk,Jg,Nat.mul_assoc,Ja,BI hk,Zg,Nat.mod_mod,Zs (jl ha).2]
theorem qh {a k:Nat} (ha:a<65536) (hk:k<65536):H6 (H6 a (F6 k)) k=a:=by
 refine DY (H7 _ _) ha ?_;rw[lQ (H7 _ _) hk,lQ ha (qg hk),Jg,Nat.mul_assoc,Ji (A9 (F6 k)),Ja,BI hk,Zg,Nat.mod_mod,Zs (jl ha).2]
theorem qu {a k:Nat} (ha:a<65536) (hk:k<65536):bY (X8 a k) k=a:=by unfold bY X8;omega
theorem oy {a k:Nat} (ha:a<65536) (hk:k<65536):X8 (bY a k) k=a:=by unfold bY X8;omega
theorem fL (a b:Nat):a^^^b^^^b=a:=by rw[Nat.xor_assoc,Nat.xor_self,Nat.xor_zero]
theorem rU (a d g:Nat):(a^^^g)^^^(d^^^g)=a^^^d:=by
 rw[Nat.xor_assoc,Nat.xor_comm g,fL]
theorem Hn (k o) (z:Q4):au k o (aF k o z)=G6 z:=by
 obtain⟨a,c,d,e⟩:=z;simp only[au,aF,G6];have f:∀g h,dW k o (a^^^g) (c^^^h) (d^^^g) (e^^^h)=dW k o a c d e:=fun g h=>by unfold dW;rw[rU]
 have g':∀g h,W7 k o (a^^^g) (c^^^h) (d^^^g) (e^^^h)=W7 k o a c d e:=fun g h=>by unfold W7;rw[rU,f]
 have h':∀g h,Y9 k o (a^^^g) (c^^^h) (d^^^g) (e^^^h)=Y9 k o a c d e:=fun g h=>by unfold Y9;rw[f,g']
 rw[g',h',fL,fL,fL,fL]
theorem Vw (k o) (z:Q4):aF k o (G6 (au k o z))=z:=by
 obtain⟨a,d,c,e⟩:=z;simp only[au,aF,G6];have f:∀g h,dW k o (a^^^g) (c^^^h) (d^^^g) (e^^^h)=dW k o a c d e:=fun g h=>by unfold dW;rw[rU]
 have g':∀g h,W7 k o (a^^^g) (c^^^h) (d^^^g) (e^^^h)=W7 k o a c d e:=fun g h=>by unfold W7;rw[rU,f]
 have h':∀g h,Y9 k o (a^^^g) (c^^^h) (d^^^g) (e^^^h)=Y9 k o a c d e:=fun g h=>by unfold Y9;rw[f,g']
 rw[g',h',fL,fL,fL,fL]
theorem Hm {k:List Nat} (hk:T4 k) (o) {z:Q4} (hz:H8 z):bQ k o (G6 (t9 k o z))=z:=by
 obtain⟨a,c,d,e⟩:=z;obtain⟨h1,h2,h3,h4⟩:=hz;simp only[bQ,t9,G6];rw[qE h1 (hk _),qu h2 (hk _),qu h3 (hk _),qE h4 (hk _)]
theorem UX {k:List Nat} (hk:T4 k) (o) {z:Q4} (hz:H8 z):t9 k o (bQ k o z)=G6 z:=by
 obtain⟨a,d,c,e⟩:=z;obtain⟨h1,h2,h3,h4⟩:=hz;simp only[bQ,t9,G6];rw[qh h1 (hk _),oy h3 (hk _),oy h2 (hk _),qh h4 (hk _)]
theorem Hl {k:List Nat} (hk:T4 k) (o) {z:Q4} (hz:H8 z):dA k o (t9 k o (G6 z))=z:=by
 obtain⟨a,c,d,e⟩:=z;obtain⟨h1,h2,h3,h4⟩:=hz;simp only[dA,t9,G6];rw[qE h1 (hk _),qu h3 (hk _),qu h2 (hk _),qE h4 (hk _)]
theorem UW {k:List Nat} (hk:T4 k) (o) {z:Q4} (hz:H8 z):t9 k o (G6 (dA k o z))=z:=by
 obtain⟨a,d,c,e⟩:=z;obtain⟨h1,h2,h3,h4⟩:=hz;simp only[dA,t9,G6];rw[qh h1 (hk _),oy h2 (hk _),oy h3 (hk _),qh h4 (hk _)]
theorem pW {α:Type} {P:α->Prop} {st bk:α->Nat->α} (h:∀x r,P x->bk (st x r) r=x) (hP:∀x r,P x->P (st x r)):∀(n:Nat) (x:α),P x->(List.range n).foldl (fun x r=>bk x (n-1-r)) ((List.range n).foldl st x)=x
 |0,_,_=>rfl
 |n+1,x,hx=>by
  have e1:(List.range (n+1)).foldl st x=st ((List.range n).foldl st x) n:=by rw[Zo,Z0];rfl
  have hp:∀m,P ((List.range m).foldl st x):=by
   intro m;induction m with
   |zero=>exact hx
   |succ m ih=>rw[Zo,Z0];exact hP _ _ ih
  rw[e1,Jp,Zx,List.foldl_map];rw[show n+1-1-0=n by omega,h _ _ (hp n)];have e:∀(l:List Nat) (y:α),l.foldl (fun x r=>bk x (n+1-1-Nat.succ r)) y=l.foldl (fun x r=>bk x (n-1-r)) y:=by
   intro l y;congr 1;funext x r;congr 1;omega
  rw[e];exact pW h hP n x hx
theorem TY {α:Type} {P:α->Prop} {st bk:α->Nat->α} (h:∀x r,P x->st (bk x r) r=x) (hP:∀x r,P x->P (bk x r)) (n:Nat) (x:α) (hx:P x):(List.range n).foldl st ((List.range n).foldl (fun x r=>bk x (n-1-r)) x)=x:=by
 have:=pW (P:=P) (st:=fun x r=>bk x (n-1-r)) (bk:=fun x r=>st x (n-1-r)) (fun x r=>h x _) (fun x r=>hP x _) n x hx;refine Eq.trans (ni (fun y r hr=> ?_) _) this;show st y r=st y (n-1-(n-1-r));rw[show n-1-(n-1-r)=r by omega]
theorem Ut {k:List Nat} (hk:T4 k) {x:Q4} (hx:H8 x):I1 (y7 k) (I1 k x)=x:=by
 rw[<-sN k hk];unfold V6 I1;rw[Hl hk 48 (re k hx 8)];exact pW (P:=H8) (st:=lg k) (bk:=fun x r=>bQ k (6*r) (au k (6*r) x)) (fun x r h=>by
  show bQ k (6*r) (au k (6*r) (aF k (6*r) (t9 k (6*r) x)))=x;rw[Hn,Hm hk _ h]) (fun x r h=>Cq _ _ (fv _ _ _)) 8 x hx
theorem Uu {k:List Nat} (hk:T4 k) {x:Q4} (hx:H8 x):I1 k (I1 (y7 k) x)=x:=by
 rw[<-sN k hk];unfold V6 I1;have e:=TY (P:=H8) (st:=lg k) (bk:=fun x r=>bQ k (6*r) (au k (6*r) x)) (fun x r h=>by
  show aF k (6*r) (t9 k (6*r) (bQ k (6*r) (au k (6*r) x)))=x;rw[UX hk _ ⟨X4 h.1 (H7 _ _),X4 h.2.1 (H7 _ _),X4 h.2.2.1 (cH _ _),X4 h.2.2.2 (cH _ _)⟩,Vw]) (fun x r h=>⟨H7 _ _,gP _ _,gP _ _,H7 _ _⟩) 8 (dA k 48 x) ⟨H7 _ _,gP _ _,gP _ _,H7 _ _⟩
 have e':I4 k ((List.range 8).foldl (jJ k) (dA k 48 x)) 8=dA k 48 x:=e;rw[e',UW hk 48 hx]
theorem Vb {x:Q4} (h:H8 x):L3 (W9 x)=x:=by
 obtain⟨a,c,d,e⟩:=x;obtain⟨h1,h2,h3,h4⟩:=h;have hn:∀n,n<65536->(Zq (n/256)).toNat*256+(Zq n).toNat=n:=fun n hn=>by
  simp only[Zy];omega
 show(_,_,_,_)=(a,c,d,e);have e1:aR (W9 (a,c,d,e)) 0=a:=hn a h1;have e2:aR (W9 (a,c,d,e)) 1=c:=hn c h2;have e3:aR (W9 (a,c,d,e)) 2=d:=hn d h3;have e4:aR (W9 (a,c,d,e)) 3=e:=hn e h4;rw[e1,e2,e3,e4]
theorem Dr {b:Bs} (h:b.length=8):W9 (L3 b)=b:=by
 match b,h with
 |[b0,b1,b2,b3,b4,b5,b6,b7],_=>
  have hp:∀x y:UInt8,bD (x.toNat*256+y.toNat)=[x,y]:=fun x y=>by
   have hx:=x.toNat_lt;have hy:=y.toNat_lt;have e:∀(x:UInt8) (n:Nat),n%256=x.toNat->Zq n=x:=fun x n h=>by
    apply Z8.1;rw[Zy,<-h]
   rw[bD,e x _ (by omega),e y _ (by omega)]
  show bD (b0.toNat*256+b1.toNat)++bD (b2.toNat*256+b3.toNat)++bD (b4.toNat*256+b5.toNat)++bD (b6.toNat*256+b7.toNat)=_;rw[hp,hp,hp,hp];rfl
theorem BZ (b):H8 (L3 b):=⟨bL _ _,bL _ _,bL _ _,bL _ _⟩
theorem a1p (k x):H8 (I1 k x):=fv _ _ _
theorem Uv {key:Bs} {b:Bs} (hb:b.length=8) (back:Bool):W9 (I1 (if !back then y7 (O1 key)else O1 key) (L3 (W9 (I1 (if back then y7 (O1 key)else O1 key) (L3 b)))))=b:=by
 rw[Vb (a1p _ _)];cases back
 ·rw[if_pos (by rfl),if_neg (by decide),Ut (gI key) (BZ b),Dr hb]
 ·rw[if_neg (by decide),if_pos (by rfl),Uu (gI key) (BZ b),Dr hb]
theorem rQ (k o) (x:W4):wh k o (wh k o x)=x:=by
 obtain⟨a,b,c,d⟩:=x;simp only[wh,eC]
theorem vN (x:W4):E9 (E9 x)=x:=rfl
theorem ZQ (k s) (x:W4) (r):E9 (ez k s (E9 (iq k s x r)) r)=x:=by
 obtain⟨a,b,c,d⟩:=x;simp only[E9,ez,iq];rw[ij _ (by decide) (by decide) (by decide),eC,eC,ij _ (by decide) (by decide) (by decide)]
theorem ZR (k s) (x:W4) (r):iq k s (E9 (ez k s (E9 x) r)) r=x:=by
 obtain⟨a,b,c,d⟩:=x;simp only[E9,ez,iq];rw[eC,ij _ (by decide) (by decide) (by decide),ij _ (by decide) (by decide) (by decide),eC]
theorem uq {α:Type} {f:α->Nat->α} {g:α->α} (hg:∀x,g (g x)=x):∀(l:List Nat) (y:α),l.foldl (fun x r=>g (f (g x) r)) y=g (l.foldl f (g y))
 |[],y=>(hg y).symm
 |a::l,y=>by
  rw[Zx,Zx,uq hg l,hg]
theorem El (k s) (y:W4):(List.range 16).foldl (fun x r=>E9 (ez k s (E9 x) (16-1-r))) y=E9 (bI k s (E9 y) 16):=
 uq (f:=fun x r=>ez k s x (15-r)) vN (List.range 16) y
theorem a1q (k s) (x:W4):cy k s (cz k s x)=x:=by
 unfold cy cz;rw[rQ];have e:=pV (st:=iq k s) (bk:=fun x r=>E9 (ez k s (E9 x) r)) (ZQ k s) 16 (wh k 0 x);rw[<-El];exact(congrArg (wh k 0) e).trans (rQ _ _ _)
theorem a1r (k s) (x:W4):cz k s (cy k s x)=x:=by
 unfold cy cz;rw[rQ];have e:=Bv (st:=iq k s) (bk:=fun x r=>E9 (ez k s (E9 x) r)) (ZR k s) 16 (E9 (wh k 4 x));rw[El,vN]at e;have e':cw k s (E9 (bI k s (wh k 4 x) 16)) 16=E9 (wh k 4 x):=e;rw[e',vN,rQ]
theorem Dt (x:W4):L5 x 4=p6 x.1++(p6 x.2.1++(p6 x.2.2.1++(p6 x.2.2.2++[]))):=rfl
theorem ip {a b:Bs} {n i m:Nat} (ha:a.length=n):sub (a++b) (n+i) m=sub b i m:=by
 subst ha;simp only[sub,Jf,List.drop_append];rw[List.drop_eq_nil_of_le (by omega),Zl,show a.length+i-a.length=i by omega]
theorem nR {a b:Bs} {n:Nat} (ha:a.length=n):sub (a++b) 0 n=a:=by subst ha;simp[sub]
theorem Vc (x:W4):A6 (L5 x 4)=x:=by
 obtain⟨a,b,c,d⟩:=x;rw[Dt];unfold A6;have e1:∀t,sub (p6 a++t) 0 4=p6 a:=fun t=>nR (E8 a);have e2:∀t,sub (p6 a++(p6 b++t)) 4 4=p6 b:=fun t=>(ip (i:=0) (E8 a)).trans (nR (E8 b));have e3:∀t,sub (p6 a++(p6 b++(p6 c++t))) 8 4=p6 c:=fun t=>(ip (i:=4) (E8 a)).trans ((ip (i:=0) (E8 b)).trans (nR (E8 c)));have e4:∀t,sub (p6 a++(p6 b++(p6 c++(p6 d++t)))) 12 4=p6 d:=fun t=>(ip (i:=8) (E8 a)).trans ((ip (i:=4) (E8 b)).trans ((ip (i:=0) (E8 c)).trans (nR (E8 d))));rw[e1,e2,e3,e4,kH,kH,kH,kH]
theorem Du {b:Bs} (h:b.length=16):L5 (A6 b) 4=b:=by
 rw[Dt];unfold A6;simp only
 rw[kS (by rw[j4];omega),kS (by rw[j4];omega),kS (by rw[j4];omega),kS (by rw[j4];omega),Z9];have e:∀(i:Nat),sub b i 4++b.drop (i+4)=b.drop i:=fun i=>by
  rw[<-List.drop_drop];exact Zk 4 _
 have e3:sub b 12 4=b.drop 12:=G5 _ _ _ (by omega);rw[e3,e 8,e 4];exact Zk 4 b
theorem a1s {k s:List UInt32} {b:Bs} (hb:b.length=16) (back:Bool):L5 (if !back then cy k s (A6 (L5 (if back then cy k s (A6 b)else cz k s (A6 b)) 4))else cz k s (A6 (L5 (if back then cy k s (A6 b)else cz k s (A6 b)) 4))) 4=b:=by
 rw[Vc];cases back
 ·rw[if_pos (by rfl),if_neg (by decide),a1q,Du hb]
 ·rw[if_neg (by decide),if_pos (by rfl),a1r,Du hb]
theorem Gu (a b:UInt8):a^^^b^^^b=a:=by rw[Z7,UInt8.xor_self,Ju]
theorem X5:∀{a k:Bs},a.length<=k.length->f8 (f8 a k) k=a
 |[],_,_=>by simp[f8]
 |a::r,[],h=>by simp at h
 |a::r,b::k,h=>by
  have ih:=X5 (a:=r) (k:=k) (by simpa using h);unfold f8 at ih ⊢;rw[Jb,Jb,ih,Gu]
theorem nb {a b:Bs} (hl:a.length=b.length) (h:∀i,i<a.length->a.getD i 0=b.getD i 0):a=b:=by
 apply List.ext_getElem hl;intro i h1 h2;have:=h i h1
 rwa [Zc,Zp h1,Zc,Zp h2]at this
theorem xI:∀j,j<4->∀x,x<256->((fO ((j+2)%4)).getD ((fO j).getD x 0).toNat 0).toNat=x:=by decide +kernel
theorem wG {k b n i} (h:i<n):(E5 k b n).getD i 0=(fO ((i+2*(k-1))%4)).getD (b.getD i 0).toNat 0:=by simp[E5,Zc,h]
theorem ov {b:Bs} {k j:Nat} (hb:b.length=16) (h:k=1/\j=2\/k=2/\j=1):E5 k (E5 j b 16) 16=b:=by
 refine nb (by rw[N8,hb]) fun i h1=> ?_;have hi:i<16:=by rw[N8]at h1;exact h1
 rw[wG hi,wG hi];apply Z8.1;have hx:=(b.getD i 0).toNat_lt;rcases h with ⟨rfl,rfl⟩|⟨rfl,rfl⟩
 ·have:=xI ((i+2*(2-1))%4) (Zt _ (by decide)) _ hx;rw[show ((i+2*(2-1))%4+2)%4=(i+2*(1-1))%4 by omega]at this;exact this
 ·have:=xI ((i+2*(1-1))%4) (Zt _ (by decide)) _ hx;rw[show ((i+2*(1-1))%4+2)%4=(i+2*(2-1))%4 by omega]at this;exact this
def xS (f:Nat->UInt8) (n:Nat):UInt8:=(List.range n).foldl (fun s i=>s^^^f i) 0
theorem og (f n):xS f (n+1)=xS f n^^^f n:=by simp[xS,Zo]
theorem Gq (f g:Nat->UInt8):∀n,xS (fun i=>f i^^^g i) n=xS f n^^^xS g n
 |0=>by show(0:UInt8)=0^^^0;decide
 |n+1=>by
  rw[og,og,og,Gq f g n];generalize xS f n=a;generalize xS g n=b;generalize f n=c;generalize g n=d;rw[Z7,Z7,<-Z7 b,UInt8.xor_comm b,Z7 c]
theorem Gs:∀n,xS (fun _=>0) n=0
 |0=>rfl
 |n+1=>by rw[og,Gs n];decide
def xM (b:Bs) (m:Nat):UInt8:=xS (fun i=>if m.testBit i then b.getD i 0 else 0) 16
theorem a1Z (b m n):xM b (m^^^n)=xM b m^^^xM b n:=by
 unfold xM;rw[<-Gq];congr 1;funext i;rw[Nat.testBit_xor];cases m.testBit i<;>cases n.testBit i<;>simp
theorem Gr (v:UInt8) (j:Nat):∀n,xS (fun i=>if j=i then v else 0) n=if j<n then v else 0
 |0=>by rw[if_neg (by omega)];rfl
 |n+1=>by
  rw[og,Gr v j n];by_cases h:j<n
  ·rw[if_pos h,if_neg (by omega),if_pos (by omega),Ju]
  ·by_cases h2:j=n
   ·rw[if_neg h,if_pos h2,if_pos (by omega),UInt8.zero_xor]
   ·rw[if_neg h,if_neg h2,if_neg (by omega),Ju]
theorem Gp {b:Bs} {j:Nat} (h:j<16):xM b (2^j)=b.getD j 0:=by
 unfold xM;have e:(fun i=>if (2^j).testBit i then b.getD i 0 else 0)=fun i=>if j=i then b.getD j 0 else 0:=by
  funext i;rw[Nat.testBit_two_pow];by_cases hi:j=i
  ·subst hi;simp
  ·simp[hi]
 rw[e,Gr,if_pos h]
theorem a10 (b):xM b 0=0:=by
 unfold xM;have e:(fun i=>if (0:Nat).testBit i then b.getD i 0 else 0)=fun _=>(0:UInt8):=by funext i;simp
 rw[e,Gs]
theorem wm (b:Bs) (f:Nat->Nat):∀n,(List.range n).foldl (fun s t=>s^^^xM b (f t)) 0=xM b ((List.range n).foldl (fun m t=>m^^^f t) 0)
 |0=>(a10 b).symm
 |n+1=>by
  rw[Zo,Z0,Z0];show _^^^xM b (f n)=xM b (_^^^f n);rw[a1Z,wm b f n]
def jA (p:Nat):Nat:=(List.range 7).foldl (fun m t=>m^^^2^((t5 p).getD t 0)) 0
theorem wM:∀p,p<16->∀t,t<7->(t5 p).getD t 0<16:=by decide +kernel
theorem GJ:∀p,p<16->(List.range 7).foldl (fun m t=>m^^^jA ((t5 p).getD t 0)) 0=2^p:=by decide +kernel
theorem wO {b:Bs} {p:Nat} (hp:p<16):aX b p 7=xM b (jA p):=by
 unfold jA;rw[<-wm];exact ni (fun x t ht=>by rw[Gp (wM p hp t ht)]) 0
theorem wI {b:Bs} {p:Nat} (hp:p<16):(G0 b).getD p 0=xM b (jA p):=by
 rw[<-wO hp];simp[G0,Zc,hp]
theorem wJ {b:Bs} (hb:b.length=16):G0 (G0 b)=b:=by
 refine nb (by simp[G0,hb]) fun p h1=> ?_;have hp:p<16:=by simpa [G0]using h1
 have e:(G0 (G0 b)).getD p 0=aX (G0 b) p 7:=by rw[wI hp,<-wO hp]
 have e3:aX (G0 b) p 7=(List.range 7).foldl (fun s t=>s^^^xM b (jA ((t5 p).getD t 0))) 0:=ni (fun x t ht=>by rw[wI (wM p hp t ht)]) 0;rw[e,e3,wm b (fun t=>jA ((t5 p).getD t 0)),GJ p hp,Gp hp]
theorem GI (b):(G0 b).length=16:=by simp[G0]
theorem Hc {q:Nat} {key b:Bs} {n:Nat} (h:aq q key n) (hb:b.length=16):fP q key n (dz q key n b)=b:=by
 have hK:=eI h;have hE:=mt h hb;have h3:=h.h3;have st:∀i,i<=n-2->N7 q key n (dz q key n b) i=O9 q key b (n-2-i):=by
  intro i;induction i with
  |zero=>
   intro _;show f8 (E5 1 (f8 (f8 (E5 2 (f8 (O9 q key b (n-2)) (o6 q key (n-2))) 16) (o6 q key (n-1))) (o6 q key (n-1))) 16) (o6 q key (n-2))=_;rw[X5 (by rw[N8,hK];exact Zh _),ov (w6 (hE _) (hK _)) (.inl ⟨rfl,rfl⟩),X5 (by rw[hE,hK];exact Zh _)];rfl
  |succ i ih=>
   intro hi;have e:n-2-i=n-3-i+1:=by omega
   have e2:n-2-(i+1)=n-3-i:=by omega
   show f8 (E5 (2-(n-3-i)%2) (G0 (N7 q key n (dz q key n b) i)) 16) (o6 q key (n-3-i))=_;rw[ih (by omega),e,e2];generalize n-3-i=r;show f8 (E5 (2-r%2) (G0 (G0 (E5 (1+r%2) (f8 (O9 q key b r) (o6 q key r)) 16))) 16) (o6 q key r)=_;rw[wJ (N8 _ _ _),ov (w6 (hE _) (hK _)) (by omega),X5 (by rw[hE,hK];exact Zh _)]
 have:=st (n-2) (Zh _);rw[Jo]at this;exact this
theorem Hd {q:Nat} {key b:Bs} {n:Nat} (h:aq q key n) (hb:b.length=16):dz q key n (fP q key n b)=b:=by
 have hK:=eI h;have hD:=ou (b:=b) h;have h3:=h.h3;have st:∀r,r<=n-2->O9 q key (fP q key n b) r=N7 q key n b (n-2-r):=by
  intro r;induction r with
  |zero=>intro _;rfl
  |succ r ih=>
   intro hr;have e:n-2-r=n-3-r+1:=by omega
   have e2:n-2-(r+1)=n-3-r:=by omega
   have e3:n-3-(n-3-r)=r:=by omega
   show G0 (E5 (1+r%2) (f8 (O9 q key (fP q key n b) r) (o6 q key r)) 16)=_;rw[ih (by omega),e,e2];show G0 (E5 (1+r%2) (f8 (f8 (E5 (2-(n-3-(n-3-r))%2) (G0 (N7 q key n b (n-3-r))) 16) (o6 q key (n-3-(n-3-r)))) (o6 q key r)) 16)=_;rw[e3,X5 (by rw[N8,hK];exact Zh _),ov (GI _) (by omega),wJ (hD _)]
 have e:=st (n-2) (Zh _);rw[Jo]at e;unfold dz;rw[e];show f8 (E5 2 (f8 (f8 (E5 1 (f8 b (o6 q key (n-1))) 16) (o6 q key (n-2))) (o6 q key (n-2))) 16) (o6 q key (n-1))=b;rw[X5 (by rw[N8,hK];exact Zh _),ov (w6 hb (hK _)) (.inr ⟨rfl,rfl⟩),X5 (by rw[hb,hK];exact Zh _)]
def kD:List Nat:=(List.range 64).map (· +1)
theorem Dl {b:Bs} (hb:b.length=8):B9 kD b=b:=by
 apply nV (by rw[dZ,hb];rfl);intro j hj;rw[dZ]at hj;have hj:j<64:=hj;have h8:kD.length/8=8:=rfl;unfold B9;rw[h8,fK (by omega)];have:kD.getD j 0=j+1:=by simp[kD,Zc,hj]
 rw[this];rfl
theorem Bu:(u9.map fun k=>bJ.getD (k-1) 0)=kD/\(bJ.map fun k=>u9.getD (k-1) 0)=kD:=by decide +kernel
theorem Wa {b:Bs} (hb:b.length=8):B9 u9 (B9 bJ b)=b:=by
 rw[vq (by rw[ir]) (by rw[M2,ir];exact vR),Bu.1,Dl hb]
theorem Wb {b:Bs} (hb:b.length=8):B9 bJ (B9 u9 b)=b:=by
 rw[vq (by rw[M2]) (by rw[M2,ir];exact vQ),Bu.2,Dl hb]
theorem Ob {x:L2} {k:Bs} (h:x.1.length=4):T6 (eZ (T6 (eZ x k)) k)=x:=by
 obtain⟨a,c⟩:=x;simp only[T6,eZ];rw[X5 (by rw[eW,h];exact Zh _)]
theorem Oa {ks:List (Bs)} {x:L2} (h1:x.1.length=4) (h2:x.2.length=4):dN ks.reverse (T6 (dN ks x ks.length)) ks.length=T6 x:=by
 have e:=pW (P:=fun x:L2=>x.1.length=4/\x.2.length=4) (st:=fun x i=>eZ x (ks.getD i [])) (bk:=fun x i=>T6 (eZ (T6 x) (ks.getD i []))) (fun x r h=>Ob h.1) (fun x r h=>⟨h.2,w6 h.1 (eW _ _)⟩) ks.length x ⟨h1,h2⟩;have c:=uq (f:=fun x r=>eZ x (ks.getD (ks.length-1-r) [])) (g:=T6) (fun _=>rfl) (List.range ks.length) (dN ks x ks.length);have d:dN ks.reverse (T6 (dN ks x ks.length)) ks.length=(List.range ks.length).foldl (fun x r=>eZ x (ks.getD (ks.length-1-r) [])) (T6 (dN ks x ks.length)):=by
  unfold dN;exact ni (fun y r hr=>by rw[DI hr]) _
 rw[d];have:=congrArg T6 (c.symm.trans e);exact this
theorem mX {ks:List (Bs)} {b:Bs} (hb:b.length=8):E6 ks.reverse (E6 ks b)=b:=by
 obtain⟨i1,i2⟩:=mV b;obtain⟨y1,y2⟩:=pv (ks:=ks) i1 i2 ks.length;have e:y4 (E6 ks b)=T6 (dN ks (y4 b) ks.length):=by
  obtain⟨s1,s2⟩:=vM y2 y1;unfold E6 y4;rw[Wa (by rw[Zb];unfold y4 at y1 y2;omega)];unfold y4 at s1 s2;rw[s1,s2];rfl
 have hr:ks.reverse.length=ks.length:=Zm;rw[E6,e,hr,Oa i1 i2];show B9 bJ ((y4 b).1++(y4 b).2)=b;have hp:(B9 u9 b).length=8:=by rw[dZ,M2]
 have:(y4 b).1++(y4 b).2=B9 u9 b:=vL (n:=4) (m:=4) hp;rw[this,Wb hb]
theorem py {ks:List (Bs)} {b:Bs} (hb:b.length=8):E6 ks (E6 ks.reverse b)=b:=by
 have:=mX (ks:=ks.reverse) hb
 rwa [Z4]at this
theorem tP:∀{K:List (List (Bs))} {b:Bs},(K.length=1\/K.length=3)->b.length=8->∀back,K6 K (!back) (K6 K back b K.length) K.length=b
 |[k],b,_,hb,false=>by show E6 k.reverse (E6 k b)=b;exact mX hb
 |[k],b,_,hb,true=>by show E6 k (E6 k.reverse b)=b;exact py hb
 |[k,l,m],b,_,hb,false=>by
  show E6 k.reverse (E6 l (E6 m.reverse (E6 m (E6 l.reverse (E6 k b)))))=b;rw[mX (mY _ _),py (mY _ _),mX hb]
 |[k,l,m],b,_,hb,true=>by
  show E6 m (E6 l.reverse (E6 k (E6 k.reverse (E6 l (E6 m.reverse b)))))=b;rw[py (mY _ _),mX (mY _ _),py hb]
 |[],_,h,_,_=>by simp at h
 |[_,_],_,h,_,_=>by simp at h
 |_::_::_::_::_,_,h,_,_=>by simp at h
theorem HJ {t:Int} {key b:Bs} {s:Nat} (ht:m8 t) (hs:C8 t=s) (hv:(key.length:Int)∈m6 t) (hb:b.length=s) (back:Bool):cF t key (!back) (cF t key back b)=b:=by
 rcases ht with rfl|rfl|rfl|rfl|rfl|rfl|rfl|rfl
 ·have h8:b.length=8:=by simp[C8]at hs;omega
  have hn:key.length/8=1:=by simp[m6]at hv;omega
  have hl:=dL (key:=key) (n:=1) (by decide);show eX key (!back) (eX key back b)=b;unfold eX;rw[hn];exact tP (by rw[hl];decide) h8 back
 ·have h8:b.length=8:=by simp[C8]at hs;omega
  have hn:key.length/8=2\/key.length/8=3:=by simp[m6]at hv;omega
  show eX key (!back) (eX key back b)=b;unfold eX;rcases hn with hn|hn
  ·have hl:=dL (key:=key) (n:=2) (by decide);rw[hn];exact tP (by rw[hl];decide) h8 back
  ·have hl:=dL (key:=key) (n:=3) (by decide);rw[hn];exact tP (by rw[hl];decide) h8 back
 ·have h8:b.length=8:=by simp[C8]at hs;omega
  exact Uv h8 back
 ·have h8:b.length=8:=by simp[C8]at hs;omega
  exact a14 h8 back
 ·have h8:b.length=8:=by simp[C8]at hs;omega
  exact Vp h8 back
 ·have h8:b.length=16:=by simp[C8]at hs;omega
  exact a1s h8 back
 ·have h8:b.length=16:=by simp[C8]at hs;omega
  have ok:aq (aQ key) key (aN key):=by
   have hk:key.length=16\/key.length=24\/key.length=32:=by simp[m6]at hv;omega
   refine⟨?_,?_,?_,?_⟩<;>first|omega|(simp only[aN,aQ];omega)
  cases back
  ·exact Hc ok h8
  ·exact Hd ok h8
 ·have h8:b.length=8:=by simp[C8]at hs;omega
  exact WF h8 back
theorem i6.inv {t key s k xs rs} (h:i6 t key s k xs rs) {b:Bs} (hb:b.length=s) (back:Bool):cF t key (!back) (cF t key back b)=b:=HJ h.ht h.hs h.kl hb back
def gG:Bs->Nat->Bs
 |b,0=>b
 |b,i+1=>if b.getD i 0+1=0 then gG (b.set i (b.getD i 0+1)) i else b.set i (b.getD i 0+1)
def gF (b:Bs):Bs:=gG b b.length
theorem BH:∀(i:Nat) (b:Bs),(gG b i).length=b.length
 |0,_=>rfl
 |i+1,b=>by
  unfold gG;split
  ·rw[BH i,Zv]
  ·rw[Zv]
theorem uy (b):(gF b).length=b.length:=BH _ _
structure MS where
 ch:Bs
 row:Bs
 gone:Bs
def bZ (E:Bs->Bs) (mode:Int) (s:MS):MS:=
 ⟨if mode=5 then E s.ch else if mode=6 then gF s.ch else s.ch,E s.ch,[]⟩
def p5 (back:Bool) (p o:UInt8):UInt8:=if back then p else o
def T3 (mode:Int) (back:Bool) (s:MS) (p:UInt8):UInt8×MS:=
 let o:=p^^^s.row.getD 0 0
 let g:=s.gone++[p5 back p o]
 (o,if mode=3 then ⟨s.ch.drop 1++[p5 back p o],[],g⟩else if mode=4 then (if s.row.length=1 then ⟨g,[],g⟩else ⟨s.ch,s.row.drop 1,g⟩)else ⟨s.ch,s.row.drop 1,g⟩)
def x6 (E:Bs->Bs) (mode:Int) (back:Bool) (s:MS) (p:UInt8):UInt8×MS:=
 T3 mode back (if s.row.length=0 then bZ E mode s else s) p
def A7 (E:Bs->Bs) (mode:Int) (back:Bool):MS->Bs->Bs×MS
 |s,[]=>([],s)
 |s,p::r=>let x:=x6 E mode back s p;let y:=A7 E mode back x.2 r;(x.1::y.1,y.2)
def D1 (E D:Bs->Bs) (mode:Int) (back:Bool) (c p:Bs):Bs×Bs:=
 if mode=1 then (if back then D p else E p,c)
 else if back then (f8 (D p) c,p)else (E (f8 p c),E (f8 p c))
def q6 (E D:Bs->Bs) (mode:Int) (back:Bool) (n:Nat) (b c:Bs):Nat->Bs×Bs
 |0=>([],c)
 |i+1=>let x:=q6 E D mode back n b c i;let y:=D1 E D mode back x.2 (sub b (n*i) n);(x.1++y.1,y.2)
def f7 (E D:Bs->Bs) (n:Nat) (mode:Int) (back:Bool) (s:MS) (b:Bs):Bs×MS:=
 if mode=1\/mode=2 then ((q6 E D mode back n b s.ch (b.length/n)).1,⟨(q6 E D mode back n b s.ch (b.length/n)).2,s.row,s.gone⟩)
 else A7 E mode back s b
def k7 (n:Nat) (mode:Int):Nat:=if mode=1\/mode=2 then n else 1
theorem nC (E mode back):∀(l:Bs) (s:MS) (p:UInt8),A7 E mode back s (l++[p])=((A7 E mode back s l).1++[(x6 E mode back (A7 E mode back s l).2 p).1],(x6 E mode back (A7 E mode back s l).2 p).2)
 |[],s,p=>rfl
 |a::l,s,p=>by
  show((x6 E mode back s a).1::(A7 E mode back (x6 E mode back s a).2 (l++[p])).1,(A7 E mode back (x6 E mode back s a).2 (l++[p])).2)=_;rw[nC E mode back l];rfl
theorem Cy (E mode back):∀(l m:Bs) (s:MS),A7 E mode back s (l++m)=((A7 E mode back s l).1++(A7 E mode back (A7 E mode back s l).2 m).1,(A7 E mode back (A7 E mode back s l).2 m).2)
 |[],m,s=>rfl
 |a::l,m,s=>by
  show((x6 E mode back s a).1::(A7 E mode back (x6 E mode back s a).2 (l++m)).1,(A7 E mode back (x6 E mode back s a).2 (l++m)).2)=_;rw[Cy E mode back l];rfl
theorem qz (E mode back):∀(l:Bs) (s:MS),(A7 E mode back s l).1.length=l.length
 |[],_=>rfl
 |a::l,s=>by
  show(_::(A7 E mode back _ l).1).length=_;rw[Z5,qz E mode back l,Z5]
structure CI (E D:Bs->Bs) (n:Nat):Prop where
 le:∀{b:Bs},b.length=n->(E b).length=n
 ld:∀{b:Bs},b.length=n->(D b).length=n
 de:∀{b:Bs},b.length=n->D (E b)=b
 ed:∀{b:Bs},b.length=n->E (D b)=b
theorem i6.ci {t key s k xs rs} (h:i6 t key s k xs rs):CI (cF t key false) (cF t key true) s:=
 ⟨fun hb=>h.len hb,fun hb=>h.len hb,fun hb=>h.inv hb false,fun hb=>h.inv hb true⟩
def F7 (a t:Bs):Bs:=f8 a t++a.drop t.length
theorem kP {a t:Bs} (h:t.length<=a.length):(F7 a t).length=a.length:=by
 rw[F7,Zb,Ze,f8,Z6];omega
theorem jj {a t:Bs} (h:t.length=a.length):F7 a t=f8 a t:=by
 rw[F7,h,List.drop_length,Z9]
theorem wn (a t:Bs) (h:t.length<=a.length):f8 (a.take t.length) t=f8 a t:=by
 unfold f8;apply List.ext_getElem (by simp;omega);intro i h1 h2;simp
theorem mh (a b:Bs):f8 a b=f8 b a:=by
 unfold f8;exact List.zipWith_comm_of_comm (fun x y=>UInt8.xor_comm x y)
theorem cB (a b:Bs):(f8 a b).length=min a.length b.length:=by simp[f8]
def aL (E:Bs->Bs) (n:Nat) (swap:Bool) (a8 b:Bs):Bs:=
 let x:=E (f8 (b.take n) a8)
 let y:=E (F7 x (b.drop n))
 if swap then y++x.take (b.length-n)else x.take (b.length-n)++y
def V2 (D:Bs->Bs) (a8 x y:Bs):Bs:=
 f8 (D (x++(D y).drop x.length)) a8++f8 ((D y).take x.length) x
def T5 (D:Bs->Bs) (n:Nat) (swap:Bool) (a8 b:Bs):Bs:=
 if swap then V2 D a8 (b.drop n) (b.take n)else V2 D a8 (b.take (b.length-n)) (b.drop (b.length-n))
def X3 (n:Nat) (mode:Int) (b:Bs):Bool:=decide (mode=9)||(decide (mode=8)&& !decide (b.length=2*n))
def C5 (E D:Bs->Bs) (n:Nat) (mode:Int) (back:Bool) (a8 b:Bs):Bs:=
 if b.length=n then (if back then f8 (D b) a8 else E (f8 b a8))
 else if back then T5 D n (X3 n mode b) a8 b else aL E n (X3 n mode b) a8 b
def nP (n:Nat) (mode:Int) (a8 b:Bs):Int:=
 if mode<7\/9<mode then 3 else if a8.length≠n then 5 else if b.length<n\/2*n<b.length then 7 else 0
theorem Ec {E D:Bs->Bs} {n:Nat} (h:CI E D n) {swap:Bool} {a8 b:Bs} (hl:a8.length=n) (h1:n<=b.length) (h2:b.length<=2*n):(aL E n swap a8 b).length=b.length:=by
 have lx:(E (f8 (b.take n) a8)).length=n:=h.le (by rw[cB,Zf];omega);have ly:(E (F7 (E (f8 (b.take n) a8)) (b.drop n))).length=n:=h.le (by rw[kP (by rw[Ze];omega),lx]);unfold aL;simp only
 split<;>(rw [Zb,Zf,lx,ly];omega)
theorem Ed {E D:Bs->Bs} {n:Nat} (h:CI E D n) {a8 x y:Bs} (hl:a8.length=n) (hx:x.length<=n) (hy:y.length=n):(V2 D a8 x y).length=n+x.length:=by
 have lz:=h.ld hy;have lp:(D (x++(D y).drop x.length)).length=n:=h.ld (by rw[Zb,Ze,lz];omega);rw[V2,Zb,cB,cB,lp,Zf,lz];omega
theorem Ea {E D:Bs->Bs} {n:Nat} (h:CI E D n) {swap:Bool} {a8 b:Bs} (hl:a8.length=n) (h1:n<=b.length) (h2:b.length<=2*n):(T5 D n swap a8 b).length=b.length:=by
 unfold T5;split
 ·rw[Ed h hl (by rw[Ze];omega) (by rw[Zf];omega),Ze];omega
 ·rw[Ed h hl (by rw[Zf];omega) (by rw[Ze];omega),Zf];omega
theorem stT_len {E D:Bs->Bs} {n:Nat} (h:CI E D n) {mode:Int} {back:Bool} {a8 b:Bs} (hl:a8.length=n) (h1:n<=b.length) (h2:b.length<=2*n):(C5 E D n mode back a8 b).length=b.length:=by
 unfold C5;split
 ·rename_i hb;cases back
  ·rw[if_neg (by decide),h.le (by rw[cB];omega),hb]
  ·rw[if_pos rfl,cB,h.ld hb];omega
 ·cases back
  ·rw[if_neg (by decide)];exact Ec h hl h1 h2
  ·rw[if_pos rfl];exact Ea h hl h1 h2
theorem eA {a b:Bs} {n:Nat} (h:a.length=n):(a++b).take n=a:=by subst h;simp
theorem gm {a b:Bs} {n:Nat} (h:a.length=n):(a++b).drop n=b:=by subst h;simp
theorem ZG {E D:Bs->Bs} {n:Nat} (h:CI E D n) {a8 b1 b2:Bs} (hl:a8.length=n) (h1:b1.length=n) (h2:b2.length<=n):
  V2 D a8 ((E (f8 b1 a8)).take b2.length) (E (F7 (E (f8 b1 a8)) b2))=b1++b2:=by
 have l0:(f8 b1 a8).length=n:=by rw[cB];omega
 have lx:=h.le l0;have lp:(F7 (E (f8 b1 a8)) b2).length=n:=by rw[kP (by omega),lx]
 have d1:=h.de l0;generalize E (f8 b1 a8)=x at*
 have lt:(x.take b2.length).length=b2.length:=by rw[Zf];omega
 have lX:(f8 x b2).length=b2.length:=by rw[cB];omega
 unfold V2;rw[h.de lp,lt,F7,gm lX,eA lX,Zk,d1,X5 (by omega)];congr 1;rw[<-wn x b2 (by omega),mh (x.take b2.length) b2];exact X5 (by omega)
theorem Eb {E D:Bs->Bs} {n:Nat} (h:CI E D n) {a8 x y:Bs} (hl:a8.length=n) (hx:x.length<=n) (hy:y.length=n):
  E (f8 ((V2 D a8 x y).take n) a8)=x++(D y).drop x.length/\E (F7 (x++(D y).drop x.length) ((V2 D a8 x y).drop n))=y:=by
 have lz:=h.ld hy;have lw:(x++(D y).drop x.length).length=n:=by rw[Zb,Ze,lz];omega
 have lp:(D (x++(D y).drop x.length)).length=n:=h.ld lw;have lP:(f8 (D (x++(D y).drop x.length)) a8).length=n:=by rw[cB];omega
 have lt:((D y).take x.length).length=x.length:=by rw[Zf];omega
 unfold V2;rw[eA lP,gm lP];refine⟨by rw[X5 (by omega),h.ed lw],?_⟩;have e:F7 (x++(D y).drop x.length) (f8 ((D y).take x.length) x)=D y:=by
  have lq:(f8 ((D y).take x.length) x).length=x.length:=by rw[cB];omega
  rw[F7,lq,gm rfl];rw[<-wn _ _ (by rw[lq,Zb];omega),lq,eA rfl,mh x,mh ((D y).take x.length) x];rw[mh x ((D y).take x.length),X5 (by omega)];exact Zk _ _
 rw[e,h.ed hy]
theorem ZE {E D:Bs->Bs} {n:Nat} (h:CI E D n) {swap:Bool} {a8 b:Bs} (hl:a8.length=n) (h1:n<=b.length) (h2:b.length<=2*n):T5 D n swap a8 (aL E n swap a8 b)=b:=by
 have l1:(b.take n).length=n:=by rw[Zf];omega
 have l2:(b.drop n).length=b.length-n:=Ze;have hb:=ZG h hl l1 (b2:=b.drop n) (by omega);have le:=Ec (swap:=swap) h hl h1 h2;have lx:(E (f8 (b.take n) a8)).length=n:=h.le (by rw[cB];omega);have ly:(E (F7 (E (f8 (b.take n) a8)) (b.drop n))).length=n:=h.le (by rw[kP (by omega),lx]);rw[Zk,l2]at hb;unfold T5;rw[le];unfold aL;simp only
 generalize E (F7 (E (f8 (b.take n) a8)) (b.drop n))=y at*
 generalize E (f8 (b.take n) a8)=x at*
 have lt:(x.take (b.length-n)).length=b.length-n:=by rw[Zf];omega
 cases swap
 ·simp only[Bool.false_eq_true,if_false];rw[eA lt,gm lt,hb]
 ·simp only[if_true];rw[eA ly,gm ly,hb]
theorem ZF {E D:Bs->Bs} {n:Nat} (h:CI E D n) {swap:Bool} {a8 b:Bs} (hl:a8.length=n) (h1:n<=b.length) (h2:b.length<=2*n):aL E n swap a8 (T5 D n swap a8 b)=b:=by
 have ld:=Ea (swap:=swap) h hl h1 h2;unfold aL;rw[ld];unfold T5;cases swap
 ·simp only[Bool.false_eq_true,if_false];have lx:(b.take (b.length-n)).length=b.length-n:=by rw[Zf];omega
  obtain⟨e1,e2⟩:=Eb h hl (x:=b.take (b.length-n)) (y:=b.drop (b.length-n)) (by omega) (by rw[Ze];omega);rw[e1,e2,eA lx,Zk]
 ·simp only[if_true];have lx:(b.drop n).length=b.length-n:=Ze;obtain⟨e1,e2⟩:=Eb h hl (x:=b.drop n) (y:=b.take n) (by omega) (by rw[Zf];omega);rw[e1,e2,eA lx,Zk]
theorem ZI {E D:Bs->Bs} {n:Nat} (h:CI E D n) {mode:Int} {a8 b:Bs} (hl:a8.length=n) (h1:n<=b.length) (h2:b.length<=2*n) (back:Bool):C5 E D n mode (!back) a8 (C5 E D n mode back a8 b)=b:=by
 have le:=stT_len (mode:=mode) (back:=back) h hl h1 h2;have hsw:X3 n mode (C5 E D n mode back a8 b)=X3 n mode b:=by unfold X3;rw[le]
 by_cases hb:b.length=n
 ·rw[hb]at le;have e:C5 E D n mode back a8 b=if back then f8 (D b) a8 else E (f8 b a8):=by unfold C5;rw[if_pos hb]
  rw[C5,if_pos le,e];cases back
  ·simp only[Bool.not_false,if_true,Bool.false_eq_true,if_false];rw[h.de (by rw[cB];omega),X5 (by omega)]
  ·simp only[Bool.not_true,if_true,Bool.false_eq_true,if_false];rw[X5 (by rw[h.ld hb];omega),h.ed hb]
 ·rw[C5,if_neg (by omega),hsw];have e:C5 E D n mode back a8 b=if back then T5 D n (X3 n mode b) a8 b else aL E n (X3 n mode b) a8 b:=by unfold C5;rw[if_neg hb]
  rw[e];cases back
  ·simp only[Bool.not_false,if_true,Bool.false_eq_true,if_false];exact ZE h hl h1 h2
  ·simp only[Bool.not_true,if_true,Bool.false_eq_true,if_false];exact ZF h hl h1 h2
theorem Ej {a b:Bs} {i n:Nat} (h:i+n<=a.length):sub (a++b) i n=sub a i n:=by
 simp only[sub];rw[Jf (by omega),List.take_append_of_le_length (by rw[Ze];omega)]
theorem ZO {a b:Bs} {i n:Nat} (h:a.length<=i):sub (a++b) i n=sub b (i-a.length) n:=by
 have:=ip (a:=a) (b:=b) (n:=a.length) (i:=i-a.length) (m:=n) rfl
 rwa [show a.length+(i-a.length)=i by omega]at this
theorem Cx (E D mode back n) {a b c:Bs} {k:Nat} (h:a.length=n*k):∀i,i<=k->q6 E D mode back n (a++b) c i=q6 E D mode back n a c i
 |0,_=>rfl
 |i+1,hi=>by
  unfold q6;rw[Cx E D mode back n h i (by omega),Ej (by
   rw[h,<-Jh];exact Nat.mul_le_mul_left n (by omega))]
theorem gQ (E D mode back n) (b c:Bs) (i):q6 E D mode back n b c (i+1)=((q6 E D mode back n b c i).1++(D1 E D mode back (q6 E D mode back n b c i).2 (sub b (n*i) n)).1,(D1 E D mode back (q6 E D mode back n b c i).2 (sub b (n*i) n)).2):=rfl
theorem Ct (E D mode back n) {a b c:Bs} {k:Nat} (h:a.length=n*k):∀j,q6 E D mode back n (a++b) c (k+j)=
  ((q6 E D mode back n a c k).1++(q6 E D mode back n b (q6 E D mode back n a c k).2 j).1,(q6 E D mode back n b (q6 E D mode back n a c k).2 j).2)
 |0=>by
  show q6 E D mode back n (a++b) c k=((q6 E D mode back n a c k).1++[],(q6 E D mode back n a c k).2);rw[Cx E D mode back n h k (Zh _),Z9]
 |j+1=>by
  show q6 E D mode back n (a++b) c (k+j+1)=_;rw[gQ,Ct E D mode back n h j,ZO (by rw[h];exact Nat.mul_le_mul_left n (by omega)),h,show n*(k+j)-n*k=n*j by rw[Nat.mul_add];omega,gQ E D mode back n b _ j];simp only[Jj]
theorem qB {E D:Bs->Bs} {n:Nat} {mode:Int} {back:Bool} {s:MS} {a b:Bs} (hn:0<n) (ha:a.length%k7 n mode=0) (hb:b.length%k7 n mode=0):
  f7 E D n mode back s (a++b)=((f7 E D n mode back s a).1++(f7 E D n mode back (f7 E D n mode back s a).2 b).1,(f7 E D n mode back (f7 E D n mode back s a).2 b).2):=by
 unfold k7 at ha hb;unfold f7;by_cases hm:mode=1\/mode=2
 ·rw[if_pos hm]at ha hb;simp only[if_pos hm];have e1:a.length=n*(a.length/n):=by have:=Zu a.length n;omega
  have e2:(a++b).length/n=a.length/n+b.length/n:=by
   have:=Zu b.length n;rw[Zb,show a.length+b.length=n*(a.length/n+b.length/n) by rw[Nat.mul_add];omega,Nat.mul_div_cancel_left _ hn]
  rw[e2,Ct E D mode back n e1]
 ·simp only[if_neg hm];exact Cy E mode back a b s
structure V4 (n:Nat) (mode:Int) (s:MS):Prop where
 m:1<=mode/\mode<=6
 ch:mode=1\/s.ch.length=n
 row:s.row.length<=n
 blk:mode=1\/mode=2->s.row=[]
 g:mode=4->s.row.length=0\/s.gone.length+s.row.length=n
theorem Cs {E D:Bs->Bs} {n:Nat} {mode:Int} {s:MS} (h:CI E D n) (hm:3<=mode) (ok:V4 n mode s):(bZ E mode s).ch.length=n/\(bZ E mode s).row.length=n/\(bZ E mode s).gone=[]:=by
 have hc:s.ch.length=n:=ok.ch.resolve_left (by omega);refine⟨?_,h.le hc,rfl⟩;show(if mode=5 then E s.ch else if mode=6 then gF s.ch else s.ch).length=n;split
 ·exact h.le hc
 ·split
  ·rw[uy,hc]
  ·exact hc
theorem uQ {E D:Bs->Bs} {n:Nat} {mode:Int} {back:Bool} {s:MS} (h:CI E D n) (hn:0<n) (hm:3<=mode) (ok:V4 n mode s) (p:UInt8):V4 n mode (x6 E mode back s p).2:=by
 have hc:s.ch.length=n:=ok.ch.resolve_left (by omega);obtain⟨t,ht,h1,h2,h3,h4⟩:∃t,t=(if s.row.length=0 then bZ E mode s else s)/\t.ch.length=n/\0<t.row.length/\t.row.length<=n/\(mode=4->t.gone.length+t.row.length=n):=by
  refine⟨_,rfl,?_⟩;split
  ·obtain⟨b1,b2,b3⟩:=Cs h hm ok;refine⟨b1,by omega,by omega,fun _=>by rw[b3,b2];simp⟩
  ·rename_i hr;exact⟨hc,by omega,ok.row,fun h4=>(ok.g h4).resolve_left hr⟩
 have e:(x6 E mode back s p).2=(T3 mode back t p).2:=by rw[ht];rfl
 rw[e];unfold T3;simp only
 split
 ·rename_i h3';exact⟨ok.m,.inr (by simp[h1];omega),by simp,fun hb=>by omega,fun hb=>by omega⟩
 ·split
  ·rename_i h4';split
   ·rename_i h5;refine⟨ok.m,.inr ?_,by simp,fun hb=>by omega,fun _=> .inl rfl⟩;have:=h4 h4';rw[Zb,Js];omega
   ·refine⟨ok.m,.inr h1,by simp;omega,fun hb=>by omega,fun _=> .inr ?_⟩;have:=h4 h4';rw[Zb,Js,Ze];omega
  ·rename_i h4';exact⟨ok.m,.inr h1,by simp;omega,fun hb=>by omega,fun hb=>absurd hb h4'⟩
theorem CB {E D:Bs->Bs} {n:Nat} {mode:Int} {back:Bool} (h:CI E D n) (hn:0<n) (hm:3<=mode):∀(l:Bs) {s:MS},V4 n mode s->V4 n mode (A7 E mode back s l).2
 |[],_,ok=>ok
 |p::l,_,ok=>CB h hn hm l (uQ h hn hm ok p)
theorem nA {E D:Bs->Bs} {n:Nat} {mode:Int} {back:Bool} {c p:Bs} (h:CI E D n) (hm:mode=1\/mode=2) (hc:mode=1\/c.length=n) (hp:p.length=n):
  (D1 E D mode back c p).1.length=n/\(mode=1\/(D1 E D mode back c p).2.length=n):=by
 unfold D1;by_cases h1:mode=1
 ·rw[if_pos h1];refine⟨?_,.inl h1⟩;show(if back then D p else E p).length=n;cases back
  ·exact h.le hp
  ·exact h.ld hp
 ·rw[if_neg h1];have hc:=hc.resolve_left h1;cases back
  ·have:(E (f8 p c)).length=n:=h.le (w6 hp hc);exact⟨this,.inr this⟩
  ·exact⟨w6 (h.ld hp) hc,.inr hp⟩
theorem nB {E D:Bs->Bs} {n:Nat} {mode:Int} {back:Bool} {b c:Bs} (h:CI E D n) (hm:mode=1\/mode=2) (hc:mode=1\/c.length=n):∀i,n*i<=b.length->
  (q6 E D mode back n b c i).1.length=n*i/\(mode=1\/(q6 E D mode back n b c i).2.length=n)
 |0,_=>⟨rfl,hc⟩
 |i+1,hi=>by
  rw[Jh]at hi;obtain⟨a1,a2⟩:=nB (back:=back) (b:=b) h hm hc i (by omega);obtain⟨b1,b2⟩:=nA (back:=back) h hm a2 (p:=sub b (n*i) n) (by rw[j4];omega);exact⟨by rw[gQ];simp only[Zb,a1,b1,Jh],b2⟩
theorem I3 {E D:Bs->Bs} {n:Nat} {mode:Int} {back:Bool} {s:MS} {b:Bs} (h:CI E D n) (ok:V4 n mode s) (hb:b.length%k7 n mode=0):(f7 E D n mode back s b).1.length=b.length:=by
 unfold k7 at hb;unfold f7;by_cases hm:mode=1\/mode=2
 ·rw[if_pos hm]at hb;simp only[if_pos hm];have:=Zu b.length n;rw[(nB h hm ok.ch _ (by omega)).1];omega
 ·simp only[if_neg hm];exact qz E mode back b s
theorem uS {E D:Bs->Bs} {n:Nat} {mode:Int} {back:Bool} {s:MS} {b:Bs} (h:CI E D n) (hn:0<n) (ok:V4 n mode s):V4 n mode (f7 E D n mode back s b).2:=by
 unfold f7;by_cases hm:mode=1\/mode=2
 ·simp only[if_pos hm];have:=Zu b.length n;exact⟨ok.m,(nB h hm ok.ch _ (by omega)).2,ok.row,ok.blk,fun h4=>by omega⟩
 ·simp only[if_neg hm];exact CB h hn (by have:=ok.m;omega) b ok
theorem Vy (E mode) (s:MS) (p:UInt8) (back:Bool):x6 E mode (!back) s (x6 E mode back s p).1=(p,(x6 E mode back s p).2):=by
 unfold x6;generalize (if s.row.length=0 then bZ E mode s else s)=t;have e:p^^^t.row.getD 0 0^^^t.row.getD 0 0=p:=Gu _ _;unfold T3;simp only[e];cases back<;>simp[p5,e]
theorem CA (E mode) (back:Bool):∀(l:Bs) (s:MS),A7 E mode (!back) s (A7 E mode back s l).1=(l,(A7 E mode back s l).2)
 |[],_=>rfl
 |p::l,s=>by
  have h:=Vy E mode s p back;have ih:=CA E mode back l (x6 E mode back s p).2;show((x6 E mode (!back) s (x6 E mode back s p).1).1::(A7 E mode (!back) (x6 E mode (!back) s (x6 E mode back s p).1).2 (A7 E mode back (x6 E mode back s p).2 l).1).1,_)=_;rw[h,ih];rfl
theorem Vx {E D:Bs->Bs} {n:Nat} {mode:Int} {c p:Bs} (h:CI E D n) (hc:mode=1\/c.length=n) (hp:p.length=n) (back:Bool):(D1 E D mode (!back) c (D1 E D mode back c p).1).1=p/\(back=false->(D1 E D mode (!back) c (D1 E D mode back c p).1).2=(D1 E D mode back c p).2):=by
 unfold D1;by_cases h1:mode=1
 ·simp only[if_pos h1];cases back
  ·exact⟨h.de hp,fun _=>by first|rfl|trivial⟩
  ·exact⟨h.ed hp,fun h=>by cases h⟩
 ·simp only[if_neg h1];have hc:=hc.resolve_left h1;cases back
  ·simp only[Bool.not_false,if_true,Bool.false_eq_true,if_false];exact⟨by rw[h.de (w6 hp hc),X5 (by omega)],fun _=>by first|rfl|trivial⟩
  ·simp only[Bool.not_true,if_true,Bool.false_eq_true,if_false];exact⟨by rw[X5 (by rw[h.ld hp];omega),h.ed hp],fun h=>by cases h⟩
theorem Cw {E D:Bs->Bs} {n:Nat} {mode:Int} {b c:Bs} (h:CI E D n) (hm:mode=1\/mode=2) (hc:mode=1\/c.length=n):∀i,n*i<=b.length->∀t:Bs,
  q6 E D mode true n ((q6 E D mode false n b c i).1++t) c i=(b.take (n*i),(q6 E D mode false n b c i).2)
 |0,_,t=>by rw[Jw,List.take_zero];rfl
 |i+1,hi,t=>by
  rw[Jh]at hi;obtain⟨a1,a2⟩:=nB (back:=false) (b:=b) h hm hc i (by omega);have hp:(sub b (n*i) n).length=n:=by rw[j4];omega
  obtain⟨b1,b2⟩:=nA (back:=false) h hm a2 hp;obtain⟨i1,i2⟩:=Vx h a2 hp false;have e:(q6 E D mode false n b c (i+1)).1=(q6 E D mode false n b c i).1++(D1 E D mode false (q6 E D mode false n b c i).2 (sub b (n*i) n)).1:=rfl;have e2:(q6 E D mode false n b c (i+1)).2=(D1 E D mode false (q6 E D mode false n b c i).2 (sub b (n*i) n)).2:=rfl;rw[e,e2,Jj];have ih:=Cw (b:=b) h hm hc i (by omega) ((D1 E D mode false (q6 E D mode false n b c i).2 (sub b (n*i) n)).1++t);generalize q6 E D mode false n b c i=x at*
  generalize D1 E D mode false x.2 (sub b (n*i) n)=y at*
  have es:sub (x.1++(y.1++t)) (n*i) n=y.1:=by
   have:=(ip (a:=x.1) (b:=y.1++t) (n:=n*i) (i:=0) (m:=n) a1).trans (nR b1);exact this
  have i2:=i2 rfl;simp only[Bool.not_false]at i1 i2;rw[gQ,ih,es,i1,i2,Jh];congr 1;simp only[sub];rw[List.take_add]
theorem uR {E D:Bs->Bs} {n:Nat} {mode:Int} {s:MS} {b:Bs} (h:CI E D n) (hn:0<n) (ok:V4 n mode s) (hb:b.length%k7 n mode=0):
  f7 E D n mode true s (f7 E D n mode false s b).1=(b,(f7 E D n mode false s b).2):=by
 have hl:=I3 (back:=false) h ok hb;unfold k7 at hb;unfold f7 at hl ⊢;by_cases hm:mode=1\/mode=2
 ·rw[if_pos hm]at hb;simp only[if_pos hm]at hl ⊢;have hd:=Zu b.length n;have:=Cw h hm ok.ch (b:=b) (b.length/n) (by omega) [];rw[Z9]at this;rw[hl,this];simp only[show n*(b.length/n)=b.length by omega,Jm]
 ·simp only[if_neg hm];exact CA E mode false b s
def P6 (kind:Int) (n:Nat):Bs:=
 if kind=1 then Zj n (Zq n)else if kind=2 then 128::Zj (n-1) 0 else Zj (n-1) 0++[Zq n]
theorem qR {kind n} (h:0<n):(P6 kind n).length=n:=by
 unfold P6;split
 ·simp
 ·split
  ·simp;omega
  ·simp;omega
def H9 (kind:Int) (size:Nat) (tail:Bs):Bs:=tail++P6 kind (size-tail.length)
theorem fE {kind size} {tail:Bs} (h:tail.length<size):(H9 kind size tail).length=size:=by
 rw[H9,Zb,qR (by omega)];omega
def Q8 (b:Bs):Nat->Nat
 |0=>0
 |k+1=>if b.getD k 0=128 then k+1 else Q8 b k
def dp (kind:Int) (b:Bs):Nat:=if kind=2 then b.length+1-Q8 b b.length else (b.getD (b.length-1) 0).toNat
def E7 (kind:Int) (b:Bs):Nat:=
 if dp kind b<1\/b.length<dp kind b\/(kind≠3/\b.drop (b.length-dp kind b)≠P6 kind (dp kind b))then 0 else dp kind b
def U7 (kind:Int) (b:Bs):Bs:=b.take (b.length-E7 kind b)
theorem BW (b:Bs):∀k,Q8 b k<=k
 |0=>Zh _
 |k+1=>by
  unfold Q8;split
  ·exact Zh _
  ·have:=BW b k;omega
theorem BV (b:Bs) {j:Nat} (hj:b.getD j 0=128):∀k,j<k->(∀i,j<i->i<k->b.getD i 0≠128)->Q8 b k=j+1
 |0,h,_=>by omega
 |k+1,h,hn=>by
  unfold Q8;by_cases hk:k=j
  ·subst hk;rw[if_pos hj]
  ·rw[if_neg (hn k (by omega) (by omega))];exact BV b hj k (by omega) (fun i h1 h2=>hn i h1 (by omega))
theorem kC {a b:Bs} {i:Nat} (h:a.length<=i):(a++b).getD i 0=b.getD (i-a.length) 0:=by
 rw[Zc,List.getElem?_append_right h,Zc]
theorem VX {kind:Int} {size:Nat} {tail:Bs} (hk:kind=1\/kind=2\/kind=3) (h:tail.length<size) (hs:size<=16):dp kind (H9 kind size tail)=size-tail.length:=by
 have hl:=fE (kind:=kind) h;have hof:(Zq (size-tail.length)).toNat=size-tail.length:=by rw[Zy];omega
 unfold dp;rw[hl];unfold H9;rcases hk with rfl|rfl|rfl
 ·rw[if_neg (by decide),kC (by omega),P6,if_pos rfl];have:(Zj (size-tail.length) (Zq (size-tail.length))).getD (size-1-tail.length) 0=Zq (size-tail.length):=by
   rw[Zc,Je (by omega)];rfl
  rw[this,hof]
 ·rw[if_pos rfl];have e:Q8 (tail++P6 2 (size-tail.length)) size=tail.length+1:=by
   refine BV _ ?_ size h (fun i h1 h2=> ?_)
   ·rw[kC (Zh _),Jo];rfl
   ·rw[kC (by omega)];show(128::Zj (size-tail.length-1) 0).getD (i-tail.length) 0≠128;obtain⟨q,hq⟩:∃q,i-tail.length=q+1:=⟨i-tail.length-1,by omega⟩;rw[hq,List.getD_cons_succ,Zc,Je (by omega)];decide
  rw[e];omega
 ·rw[if_neg (by decide),kC (by omega)];show((Zj (size-tail.length-1) 0++[Zq (size-tail.length)]).getD (size-1-tail.length) 0).toNat=_;rw[kC (by simp;omega)];rw[show size-1-tail.length-(Zj (size-tail.length-1) (0:UInt8)).length=0 by simp;omega];exact hof
theorem Dh {kind:Int} {size:Nat} {tail:Bs} (hk:kind=1\/kind=2\/kind=3) (h:tail.length<size) (hs:size<=16):E7 kind (H9 kind size tail)=size-tail.length:=by
 have hc:=VX hk h hs;have hl:=fE (kind:=kind) h;unfold E7;rw[hc,hl,if_neg];intro hh;rcases hh with hh|hh|⟨_,hh⟩
 ·omega
 ·omega
 ·apply hh;rw[show size-(size-tail.length)=tail.length by omega];exact gm rfl
theorem VY {kind:Int} {size:Nat} {tail:Bs} (hk:kind=1\/kind=2\/kind=3) (h:tail.length<size) (hs:size<=16):U7 kind (H9 kind size tail)=tail:=by
 unfold U7;rw[Dh hk h hs,fE h,show size-(size-tail.length)=tail.length by omega];exact eA rfl
theorem vo (kind b):E7 kind b<=b.length:=by
 unfold E7;split<;>omega
def t8 (n l:Nat):Nat:=n*((l-n-1)/n)
theorem iY {n l:Nat} (hn:0<n) (h:n<=l):t8 n l<=l/\n<=l-t8 n l/\l-t8 n l<=2*n/\t8 n l%n=0/\(t8 n l=0\/n<=t8 n l):=by
 unfold t8;have hd:=Zu (l-n-1) n;have hm:=Zt (l-n-1) hn;refine⟨?_,?_,?_,Nat.mul_mod_right _ _,?_⟩
 ·omega
 ·by_cases h0:l=n
  ·subst h0;rw[Jo,show(0-1:Nat)/l=0 from Nat.zero_div _,Jw];omega
  ·omega
 ·omega
 ·rcases Nat.eq_zero_or_pos ((l-n-1)/n)with h0|h0
  ·left;rw[h0,Jw]
  ·right;exact Nat.le_mul_of_pos_right n h0
def aj (n:Nat) (back:Bool) (iv m o:Bs):Bs:=
 if t8 n m.length=0 then iv else if back then sub m (t8 n m.length-n) n else o.drop (t8 n m.length-n)
def M0 (E D:Bs->Bs) (n:Nat) (mode:Int) (back:Bool) (iv m:Bs):Bs×Int:=
 if m.length<n then ([],7)
 else let o:=(f7 E D n 2 back ⟨iv,[],[]⟩ (m.take (t8 n m.length))).1
  (o++C5 E D n mode back (aj n back iv m o) (m.drop (t8 n m.length)),0)
def L9 (pad:Int) (n:Nat) (m:Bs):Bs:=m.take (m.length-m.length%n)++H9 pad n (m.drop (m.length-m.length%n))
def E3 (E D:Bs->Bs) (n:Nat) (mode pad:Int) (back:Bool) (iv m:Bs):Bs×Int:=
 if 7<=mode then M0 E D n mode back iv m
 else if pad=4 then (if m.length%k7 n mode=0 then ((f7 E D n mode back ⟨iv,[],[]⟩ m).1,0)else ([],7))
 else if back=false then ((f7 E D n mode false ⟨iv,[],[]⟩ (L9 pad n m)).1,0)
 else if m.length=0\/m.length%n≠0 then ([],7)
 else let o:=(f7 E D n mode true ⟨iv,[],[]⟩ m).1
  if E7 pad (o.drop (o.length-n))=0 then ([],8)else (o.take (o.length-n)++U7 pad (o.drop (o.length-n)),0)
def C0 (n:Nat) (mode pad:Int) (iv:Bs):Prop:=(1<=mode/\mode<=9)/\(1<=pad/\pad<=4)/\(pad=4\/mode<=2)/\iv.length=if mode=1 then 0 else n
noncomputable def R4 (tag mode pad:Int) (n lk li:Nat):Int:=by
 classical exact if ¬m8 tag then 2 else if (lk:Int)∉m6 tag then 4 else if ¬((1<=mode/\mode<=9)/\(1<=pad/\pad<=4)/\(pad=4\/mode<=2))then 3 else if li≠(if mode=1 then 0 else n)then 5 else 0
theorem dj {n:Nat} {mode:Int} {iv:Bs} (hm:1<=mode/\mode<=6) (h:iv.length=if mode=1 then 0 else n):V4 n mode ⟨iv,[],[]⟩:=by
 refine⟨hm,?_,Nat.zero_le _,fun _=>rfl,fun _=> .inl rfl⟩;by_cases h1:mode=1
 ·exact .inl h1
 ·rw[if_neg h1]at h;exact .inr h
theorem ut (n:Nat):k7 n 2=n:=rfl
theorem DS {E D:Bs->Bs} {n:Nat} {back:Bool} {iv m:Bs} (h:CI E D n) (hn:0<n) (hi:iv.length=n) (hm:n<=m.length):
  (f7 E D n 2 back ⟨iv,[],[]⟩ (m.take (t8 n m.length))).1.length=t8 n m.length:=by
 obtain⟨f1,f2,f3,f4,f5⟩:=iY hn hm;have lt:(m.take (t8 n m.length)).length=t8 n m.length:=by rw[Zf];omega
 rw[I3 h (dj (by decide) (by rw[if_neg (by decide),hi])) (by rw[lt,ut,f4]),lt]
theorem DQ {n:Nat} {back:Bool} {iv m o:Bs} (hn:0<n) (hi:iv.length=n) (hm:n<=m.length) (ho:o.length=t8 n m.length):(aj n back iv m o).length=n:=by
 obtain⟨f1,f2,f3,f4,f5⟩:=iY hn hm;unfold aj;split
 ·exact hi
 ·split
  ·rw[j4];omega
  ·rw[Ze];omega
theorem rj {E D:Bs->Bs} {n:Nat} {mode:Int} {back:Bool} {iv m:Bs} (h:CI E D n) (hn:0<n) (hi:iv.length=n) (hm:n<=m.length):(M0 E D n mode back iv m).1.length=m.length:=by
 obtain⟨f1,f2,f3,f4,f5⟩:=iY hn hm;have lo:=DS (back:=back) h hn hi hm;unfold M0;rw[if_neg (by omega)];simp only
 rw[Zb,stT_len h (DQ hn hi hm lo) (by rw[Ze];omega) (by rw[Ze];omega),lo,Ze];omega
theorem Yt {E D:Bs->Bs} {n:Nat} {mode:Int} {iv m:Bs} (h:CI E D n) (hn:0<n) (hi:iv.length=n) (hm:n<=m.length):M0 E D n mode true iv (M0 E D n mode false iv m).1=(m,0):=by
 obtain⟨f1,f2,f3,f4,f5⟩:=iY hn hm;have lo:=DS (back:=false) h hn hi hm;have ll:=rj (mode:=mode) (back:=false) h hn hi hm;have e:(M0 E D n mode false iv m).1=(f7 E D n 2 false ⟨iv,[],[]⟩ (m.take (t8 n m.length))).1++C5 E D n mode false (aj n false iv m (f7 E D n 2 false ⟨iv,[],[]⟩ (m.take (t8 n m.length))).1) (m.drop (t8 n m.length)):=by
  unfold M0;rw[if_neg (by omega)]
 rw[M0,if_neg (by omega),ll];simp only
 have lt:(m.take (t8 n m.length)).length=t8 n m.length:=by rw[Zf];omega
 have hs:=uR (mode:=2) (s:=⟨iv,[],[]⟩) (b:=m.take (t8 n m.length)) h hn (dj (by decide) (by rw[if_neg (by decide),hi])) (by rw[lt,ut,f4]);rw[e];have hl:=DQ (back:=false) hn hi hm lo;generalize ho:(f7 E D n 2 false ⟨iv,[],[]⟩ (m.take (t8 n m.length))).1=o at*
 rw[eA lo,gm lo,hs];simp only
 have el:aj n true iv (o++C5 E D n mode false (aj n false iv m o) (m.drop (t8 n m.length))) (m.take (t8 n m.length))=aj n false iv m o:=by
  have ll':(o++C5 E D n mode false (aj n false iv m o) (m.drop (t8 n m.length))).length=m.length:=by rw[<-e];exact ll
  unfold aj at ll' ⊢;rw[ll'];by_cases h0:t8 n m.length=0
  ·rw[if_pos h0,if_pos h0]
  ·rw[if_neg h0,if_neg h0,if_pos rfl,if_neg (by decide)];rw[Ej (by omega),G5 _ _ _ (by omega)]
 rw[el];have:=ZI (mode:=mode) (a8:=aj n false iv m o) (b:=m.drop (t8 n m.length)) h hl (by rw[Ze];omega) (by rw[Ze];omega) false;simp only[Bool.not_false]at this;rw[this,Zk]
def lv (n:Nat) (mode pad:Int) (m:Bs):Prop:=¬(pad=4/\mode<=2/\m.length%n≠0\/7<=mode/\m.length<n)
theorem vh {pad:Int} {n:Nat} {m:Bs} (hn:0<n):(L9 pad n m).length=m.length/n*n+n:=by
 have hd:=Zu m.length n;have hm:=Zt m.length hn;have hc:m.length/n*n=n*(m.length/n):=Ji _ _;unfold L9;rw[Zb,fE (by rw[Ze];omega),Zf];omega
theorem qa {n:Nat} {mode:Int} {l:Nat} (h:mode<=2->l%n=0):l%k7 n mode=0:=by
 unfold k7;split
 ·exact h (by omega)
 ·exact Nat.mod_one _
theorem DR {E D:Bs->Bs} {n:Nat} {mode pad:Int} {iv m:Bs} (h:CI E D n) (hn:0<n) (ok:C0 n mode pad iv) (hf:lv n mode pad m):
  (E3 E D n mode pad false iv m).2=0/\(E3 E D n mode pad false iv m).1.length=if pad=4 then m.length else m.length/n*n+n:=by
 obtain⟨o1,o2,o3,o4⟩:=ok;unfold lv at hf;unfold E3;by_cases h7:7<=mode
 ·rw[if_pos h7,if_pos (by omega)];have hi:iv.length=n:=by rw[o4,if_neg (by omega)]
  refine⟨?_,rj h hn hi (by omega)⟩;unfold M0;rw[if_neg (by omega)]
 ·rw[if_neg h7];by_cases h4:pad=4
  ·rw[if_pos h4,if_pos h4];have hg:m.length%k7 n mode=0:=qa fun hm=>by omega
   rw[if_pos hg];exact⟨rfl,I3 h (dj (by omega) o4) hg⟩
  ·rw[if_neg h4,if_neg h4,if_pos rfl];refine⟨rfl,?_⟩;have hl:=vh (pad:=pad) (m:=m) hn;have hg:(L9 pad n m).length%k7 n mode=0:=qa fun hm=>by rw[hl,Nat.add_mod_right,Jk]
   rw[I3 h (dj (by omega) o4) hg,hl]
theorem Ys {E D:Bs->Bs} {n:Nat} {mode pad:Int} {iv m:Bs} (h:CI E D n) (hn:0<n) (h16:n<=16) (ok:C0 n mode pad iv) (hf:lv n mode pad m):
  E3 E D n mode pad true iv (E3 E D n mode pad false iv m).1=(m,0):=by
 have o8:=DR h hn ok hf;obtain⟨o1,o2,o3,o4⟩:=ok;unfold lv at hf;by_cases h7:7<=mode
 ·have hi:iv.length=n:=by rw[o4,if_neg (by omega)]
  have e:∀back m,E3 E D n mode pad back iv m=M0 E D n mode back iv m:=fun back m=>by unfold E3;rw[if_pos h7]
  rw[e,e];exact Yt h hn hi (by omega)
 ·by_cases h4:pad=4
  ·have hg:m.length%k7 n mode=0:=qa fun hm=>by omega
   have e:∀back m,m.length%k7 n mode=0->E3 E D n mode pad back iv m=((f7 E D n mode back ⟨iv,[],[]⟩ m).1,0):=fun back m hg=>by
    unfold E3;rw[if_neg h7,if_pos h4,if_pos hg]
   have hl:=I3 (back:=false) h (dj (by omega) o4) hg;rw[e false m hg];simp only
   rw[e true _ (by rw[hl];exact hg),uR h hn (dj (by omega) o4) hg]
  ·have hm2:mode<=2:=by omega
   have hl:=vh (pad:=pad) (m:=m) hn;have hz:(L9 pad n m).length%n=0:=by rw[hl,Nat.add_mod_right,Jk]
   have hg:(L9 pad n m).length%k7 n mode=0:=qa fun _=>hz;have e:(E3 E D n mode pad false iv m).1=(f7 E D n mode false ⟨iv,[],[]⟩ (L9 pad n m)).1:=by
    unfold E3;rw[if_neg h7,if_neg h4,if_pos rfl]
   have hx:=I3 (back:=false) h (dj (by omega) o4) hg;have hi:=uR h hn (dj (by omega) o4) hg;rw[e];unfold E3;rw[if_neg h7,if_neg h4,if_neg (by decide),hx,if_neg (by rw[hl]at hz ⊢;omega)];simp only
   rw[hi];simp only
   have hd:=Zu m.length n;have hmod:=Zt m.length hn;have hc:m.length/n*n=n*(m.length/n):=Ji _ _;have ha:(L9 pad n m).length-n=m.length-m.length%n:=by rw[hl];omega
   have lt:(m.take (m.length-m.length%n)).length=m.length-m.length%n:=by rw[Zf];omega
   have ht:(m.drop (m.length-m.length%n)).length<n:=by rw[Ze];omega
   have hp:pad=1\/pad=2\/pad=3:=by omega
   rw[ha];have e2:(L9 pad n m).drop (m.length-m.length%n)=H9 pad n (m.drop (m.length-m.length%n)):=gm lt;have e3:(L9 pad n m).take (m.length-m.length%n)=m.take (m.length-m.length%n):=eA lt;rw[e2,e3,Dh hp ht h16,if_neg (by omega),VY hp ht h16,Zk]
theorem dB {n:Nat} {va:List Value} {l:Bs} (ha:va=bv l) (hn:l.length=n) (h0:0<n) (hm:n<=1073741824):a7 C 90 [.z n va] [] (.ret (.o 1 (.k 0) 0 n)) [.sc (bv l)]:=by
 subst ha;refine pS.c ?_;refine .inl ⟨h0,(by simp only[u6,f9,I9,t3,Zb,Jd,Zv,Zf,Ze,Z5,List.length_nil,j4,Zm,Jr,Z6];omega),by omega,by omega,?_⟩;refine⟨_,rfl,[.d 7 0],?_,⟨_,rfl,rfl⟩,tq⟩;show V.o 1 (.k 0) 0 (0+n)=_;rw[Zi]
theorem aw {n:Nat} {va:List Value} {l:Bs} (ha:va=bv l) (hn:l.length=n) (hm:n<=1073741824):a7 C 90 [.z n va] [] (.ret (.z n (bv l))) []:=by
 subst ha;by_cases h0:0<n
 ·refine pS.c ?_;refine .inl ⟨h0,(by simp only[u6,f9,I9,t3,Zb,Jd,Zv,Zf,Ze,Z5,List.length_nil,j4,Zm,Jr,Z6];omega),by omega,by omega,?_⟩;refine⟨_,rfl,[],?_,tq⟩;show V.z (0+n) (sub ([]++bv l) 0 (0+n))=_;rw[Zi,Zl,b8 hn]
 ·obtain rfl:n=0:=(by omega);obtain rfl:=List.eq_nil_of_length_eq_zero hn;refine pS.w ?_;refine .inr ⟨?_,?_⟩
  ·exact⟨.ret g8,[],⟨_,rfl,[],rfl,tq⟩,.ret .nl,.nil⟩
  ·refine⟨rfl,by decide,by decide,?_⟩;exact⟨.ret (.z 0 []),[],⟨_,rfl,[],rfl,tq⟩,.ret (.refl _),.nil⟩
def px (a t:Bs) (i:Nat):Bs:=(List.range a.length).map fun p=>if p<i then a.getD p 0^^^t.getD p 0 else a.getD p 0
theorem ca (a t i):(px a t i).length=a.length:=by simp[px]
theorem Dz (a t):px a t 0=a:=by
 refine nb (ca _ _ _) fun i hi=> ?_;rw[ca]at hi;simp[px,Zc,hi]
theorem Dx {a t:Bs} {i:Nat} (h:i<a.length):(px a t i).getD i 0=a.getD i 0:=by simp[px,Zc,h]
theorem Dy {a t:Bs} {i:Nat} (h:i<a.length):(px a t i).set i (a.getD i 0^^^t.getD i 0)=px a t (i+1):=by
 refine nb (by rw[Zv,ca,ca]) fun j hj=> ?_;rw[Zv,ca]at hj;rw[Zc,List.getElem?_set];by_cases e:i=j
 ·subst e;rw[if_pos rfl,if_pos (by rw[ca];exact h)];simp[px,Zc,h]
 ·rw[if_neg e];simp only[px,Zc,List.getElem?_map,List.getElem?_range hj,Option.map_some,Option.getD_some];by_cases e2:j<i
  ·rw[if_pos e2,if_pos (by omega)]
  ·rw[if_neg e2,if_neg (by omega)]
theorem Dw {a t:Bs} (h:t.length<=a.length):px a t t.length=F7 a t:=by
 refine nb (by rw[ca,kP h]) fun i hi=> ?_;rw[ca]at hi;have e:(px a t t.length).getD i 0=if i<t.length then a.getD i 0^^^t.getD i 0 else a.getD i 0:=by
  simp[px,Zc,hi]
 rw[e];have lx:(f8 a t).length=t.length:=by rw[cB];omega
 unfold F7;by_cases h1:i<t.length
 ·have e2:(f8 a t++a.drop t.length).getD i 0=(f8 a t).getD i 0:=by
   rw[Zc,List.getElem?_append_left (by omega),<-Zc]
  rw[if_pos h1,e2];have h2:i<(List.zipWith (fun x1 x2=>x1^^^x2) a t).length:=by rw[Z6];omega
  unfold f8;rw[Zc (l:=List.zipWith _ a t),Zp h2];simp[Zc,h1,hi]
 ·have e2:(a.drop t.length).getD (i-t.length) 0=a.getD i 0:=by
   rw[Zc,List.getElem?_drop,show t.length+(i-t.length)=i by omega,<-Zc]
  rw[if_neg h1,kC (by omega),lx,e2]
theorem jV {n m:Nat} {va vt:List Value} {a t:Bs} (ha:va=bv a) (ht:vt=bv t) (hn:a.length=n) (hm:t.length=m) (h0:0<n) (hmn:m<=n) (hb:n<=1000):a7 C 229 [.z n va,.z m vt] [] (.ret (.o 1 (.k 0) 0 n)) [.sc (bv (F7 a t))]:=by
 subst ha;subst ht;refine Bl.c ?_;refine c9 (fun h=>absurd h (by omega)) (fun _=> ?_);refine⟨[],_,_,_,_,dB rfl hn h0 (by omega),rfl,rfl,?_⟩;refine j9 (fun i=>⟨[(5,.o 1 (.k 0) 0 n),(17,.z m (bv t)),(18,i64 m),(19,i64 i)],[.sc (bv (px a t i))]⟩) m ⟨[.d 16 0],⟨rfl,rfl,rfl,rfl,tq⟩,⟨_,rfl,d9 (by rw[Dz])⟩,tq⟩ fun i hi=> ?_;refine c9 (fun h=> ?_) (fun h=> ?_)
 ·have a9:i<m:=(by omega);refine⟨by omega,by omega,_,by rw[Zd];exact A1 (by omega),?_⟩;refine⟨by omega,by omega,_,by rw[Zd,Zg,Zi];exact A1 (by rw[ca];omega),?_⟩;refine⟨by omega,by omega,by rw[Zd,f9,ca];omega,?_⟩;refine⟨i+1,by omega,by omega,[.k 0],⟨rfl,rfl,rfl,d7 (by simp(disch:=omega)only[Za];omega),tq⟩,⟨_,rfl,d9 ?_⟩,tq⟩;rw[u7,Dx (by omega),Zd,Zg,Zi,L0,Dy (by omega)]
 ·obtain rfl:i=m:=(by omega);refine⟨_,rfl,[.k 0],rfl,⟨_,rfl,d9 ?_⟩,tq⟩;rw[<-hm,Dw (by omega)]
theorem Lh {n m:Nat} {va vt:List Value} {a t:Bs} (ha:va=bv a) (ht:vt=bv t) (hn:a.length=n) (hm:t.length=m) (h0:0<n) (hmn:m<=n) (hb:n<=1000):a7 C 229 [.z m vt,.z n va] [] (.ret (.o 1 (.k 0) 0 n)) [.sc (bv (F7 a t))]:=by
 by_cases he:m=n
 ·subst he;have e:F7 a t=F7 t a:=by rw[jj (by omega),jj (by omega),mh]
  rw[e];exact jV ht ha hm hn h0 (Zh _) hb
 subst ha;subst ht;refine Bl.c ?_;refine c9 (fun _=> ?_) (fun h=>absurd h (by omega));refine⟨[],_,_,_,_,dB rfl hn h0 (by omega),rfl,rfl,?_⟩;refine j9 (fun i=>⟨[(5,.o 1 (.k 0) 0 n),(17,.z m (bv t)),(18,i64 m),(19,i64 i)],[.sc (bv (px a t i))]⟩) m ⟨[.d 16 0],⟨rfl,rfl,rfl,rfl,tq⟩,⟨_,rfl,d9 (by rw[Dz])⟩,tq⟩ fun i hi=> ?_;refine c9 (fun h=> ?_) (fun h=> ?_)
 ·have a9:i<m:=(by omega);refine⟨by omega,by omega,_,by rw[Zd];exact A1 (by omega),?_⟩;refine⟨by omega,by omega,_,by rw[Zd,Zg,Zi];exact A1 (by rw[ca];omega),?_⟩;refine⟨by omega,by omega,by rw[Zd,f9,ca];omega,?_⟩;refine⟨i+1,by omega,by omega,[.k 0],⟨rfl,rfl,rfl,d7 (by simp(disch:=omega)only[Za];omega),tq⟩,⟨_,rfl,d9 ?_⟩,tq⟩;rw[u7,Dx (by omega),Zd,Zg,Zi,L0,Dy (by omega)]
 ·obtain rfl:i=m:=(by omega);refine⟨_,rfl,[.k 0],rfl,⟨_,rfl,d9 ?_⟩,tq⟩;rw[<-hm,Dw (by omega)]
theorem p8 {b:Bs} {m s:Nat} (hb:b.length=m) (hs:s<=m):sub (bv b) s (m-s)=bv (b.drop s):=by rw[l4,G5 _ _ _ (by omega)]
theorem JL {t key s k xs rs} (h:i6 t key s k xs rs) {m:Nat} {vl vb:List Value} {a8 b:Bs} {swap:Bool} (hvl:vl=bv a8) (hvb:vb=bv b) (hl:a8.length=s) (hb:b.length=m) (h1:s<m) (h2:m<=2*s):
  a7 C 179 [b9 t k xs,bool swap,.z s vl,.z m vb] [] (.ret (.o 1 (.k 0) 0 m)) [.sc (bv (aL (cF t key false) s swap a8 b))]:=by
 subst hvl;subst hvb;have hs:=h.s_le;have l1:(b.take s).length=s:=by rw[Zf];omega
 have l2:(b.drop s).length=m-s:=by rw[Ze,hb]
 have p1:F7 (b.take s) a8=f8 (b.take s) a8:=jj (by omega);have lx1:(f8 (b.take s) a8).length=s:=w6 l1 hl;have lX:=h.len (back:=false) lx1;have lp2:(F7 (cF t key false (f8 (b.take s) a8)) (b.drop s)).length=s:=by rw[kP (by omega),lX]
 have lY:=h.len (back:=false) lp2;have hres:aL (cF t key false) s swap a8 b=if swap then cF t key false (F7 (cF t key false (f8 (b.take s) a8)) (b.drop s))++(cF t key false (f8 (b.take s) a8)).take (m-s)else (cF t key false (f8 (b.take s) a8)).take (m-s)++cF t key false (F7 (cF t key false (f8 (b.take s) a8)) (b.drop s)):=by
  unfold aL;rw[hb]
 have e1:I6.wrap ((m:Int)-(s:Int))=((m-s:Nat):Int):=by rw[Za _ (by omega)];omega
 rw[hres];refine Tc.c ?_;refine⟨[],_,_,_,_,h.size,rfl,rfl,?_⟩;refine⟨by omega,by omega,by omega,by omega,?_⟩;have c1:=jV (va:=sub (bv b) 0 s) (a:=b.take s) (t:=a8) (l4 b 0 s) rfl l1 hl (by omega) (Zh _) (by omega);rw[p1]at c1;refine⟨[],_,_,_,_,c1,rfl,rfl,?_⟩;refine⟨[],_,_,_,_,h.enc lx1 (b8 lx1),rfl,rfl,?_⟩;generalize cF t key false (f8 (b.take s) a8)=x at*
 refine⟨by omega,by omega,by omega,by omega,?_⟩;refine⟨[],_,_,_,_,Lh (a:=x) (t:=b.drop s) (b8 lX) (p8 hb (by omega)) lX l2 (by omega) (by omega) (by omega),rfl,rfl,?_⟩;refine⟨[],_,_,_,_,h.enc lp2 (b8 lp2),rfl,rfl,?_⟩;generalize cF t key false (F7 x (b.drop s))=y at*
 refine⟨by rw[e1];omega,by rw[e1];omega,by rw[e1];omega,by rw[e1];omega,?_⟩;have lt:(x.take (m-s)).length=m-s:=by rw[Zf];omega
 cases swap
 ·refine⟨[],_,_,_,_,U1 (n:=2) (ls:=[x.take (m-s),y]) (t:=x.take (m-s)++y) (by simp) ?_ rfl (by rw[Zb];omega) (by rw[Zb];omega),rfl,rfl,?_⟩
  ·rw[e1];show[V.z (m-s) (sub (bv x) 0 (m-s)),V.z s (sub (bv y) 0 s)]=[V.z _ _,V.z _ _];rw[b8 lY,lt,lY,l4];rfl
  have lc:(x.take (m-s)++y).length=m:=by rw[Zb];omega
  rw[lc];exact⟨_,rfl,[.d 48 0],rfl,⟨_,rfl,rfl⟩,tq⟩
 ·refine⟨[],_,_,_,_,U1 (n:=2) (ls:=[y,x.take (m-s)]) (t:=y++x.take (m-s)) (by simp) ?_ rfl (by rw[Zb];omega) (by rw[Zb];omega),rfl,rfl,?_⟩
  ·rw[e1];show[V.z s (sub (bv y) 0 s),V.z (m-s) (sub (bv x) 0 (m-s))]=[V.z _ _,V.z _ _];rw[b8 lY,lt,lY,l4];rfl
  have lc:(y++x.take (m-s)).length=m:=by rw[Zb];omega
  rw[lc];exact⟨_,rfl,[.d 48 0],rfl,⟨_,rfl,rfl⟩,tq⟩
theorem a7.args {C:k8} {f:Nat} {ys ys0:List V} {bs bs':List B} {r:Oc} (h:a7 C f ys bs r bs') (hw:bN ys0 ys):a7 C f ys0 bs r bs':=
 ⟨h.1,fun w F ι vs st gl dm hl=>h.2 w F ι vs st gl dm (hw.r hl)⟩
theorem Ig {t key s k xs rs} (h:i6 t key s k xs rs) {m:Nat} {vl vb:List Value} {a8 b:Bs} {swap:Bool} (hvl:vl=bv a8) (hvb:vb=bv b) (hl:a8.length=s) (hb:b.length=m) (h1:s<m) (h2:m<=2*s):
  a7 C 178 [b9 t k xs,bool swap,.z s vl,.z m vb] [] (.ret (.o 1 (.k 0) 0 m)) [.sc (bv (T5 (cF t key true) s swap a8 b))]:=by
 subst hvl;subst hvb;have hs:=h.s_le;have e1:I6.wrap ((m:Int)-(s:Int))=((m-s:Nat):Int):=by rw[Za _ (by omega)];omega
 cases swap
 ·have lx:(b.take (m-s)).length=m-s:=by simp only[Zf,Ze];omega
  have ly:(b.drop (m-s)).length=s:=by simp only[Zf,Ze];omega
  have hx:sub (bv b) 0 (m-s)=bv (b.take (m-s)):=l4 b 0 (m-s);have hy:sub (bv b) (m-s) s=bv (b.drop (m-s)):=by
   rw[l4,G5 _ _ _ (by omega)]
  have hres:T5 (cF t key true) s false a8 b=V2 (cF t key true) a8 (b.take (m-s)) (b.drop (m-s)):=by
   unfold T5;rw[if_neg (by decide),hb]
  have lz:=h.len (back:=true) ly;rw[hres,V2];rw[lx];refine Bk.c ?_;refine⟨[],_,_,_,_,h.size,rfl,rfl,?_⟩;refine⟨by rw[e1];omega,by rw[e1];omega,by rw[e1];omega,by rw[e1];omega,?_⟩;refine⟨by rw[e1];omega,by rw[e1];omega,by omega,by omega,?_⟩;refine⟨[],_,_,_,_,h.dec ly rfl,?_,rfl,?_⟩
  ·rw[e1,<-hy];show[b9 t k xs,V.z (m-(m-s)) (sub (bv b) (m-s) (m-(m-s)))]=_;rw[show m-(m-s)=s by omega]
  generalize cF t key true (b.drop (m-s))=z at*
  have lt:(z.take (m-s)).length=m-s:=by rw[Zf];omega
  refine⟨by rw[e1];omega,by rw[e1];omega,by rw[e1];omega,by rw[e1];omega,?_⟩;refine⟨[],_,_,_,_,jV (a:=z.take (m-s)) (t:=b.take (m-s)) rfl rfl lt lx (by omega) (Zh _) (by omega),?_,rfl,?_⟩
  ·rw[e1,<-hx];show[V.z (m-s) (sub (bv z) 0 (m-s)),V.z (m-s) (sub (bv b) 0 (m-s))]=_;rw[l4];rfl
  rw[jj (by omega)];have lq:(f8 (z.take (m-s)) (b.take (m-s))).length=m-s:=w6 lt lx;refine⟨by rw[e1];omega,by rw[e1];omega,by omega,by omega,?_⟩;have lw:(b.take (m-s)++z.drop (m-s)).length=s:=by rw[Zb,lx,Ze];omega
  refine⟨[],_,_,_,_,U1 (n:=2) (ls:=[b.take (m-s),z.drop (m-s)]) (t:=b.take (m-s)++z.drop (m-s)) (by simp) ?_ rfl (by omega) (by omega),rfl,rfl,?_⟩
  ·rw[e1];show[V.z (m-s) (sub (bv b) 0 (m-s)),V.z (s-(m-s)) (sub (bv z) (0+(m-s)*1) (s-(m-s)))]=[V.z _ _,V.z _ _];rw[hx,lx,Zi,Zg,l4,G5 _ _ _ (by omega),Ze,lz]
  rw[lw];refine⟨[],_,_,_,_,h.dec lw (b8 lw),rfl,rfl,?_⟩;have lp:=h.len (back:=true) lw;generalize cF t key true (b.take (m-s)++z.drop (m-s))=p at*
  refine⟨[],_,_,_,_,jV (a:=p) (t:=a8) (b8 lp) rfl lp hl (by omega) (Zh _) (by omega),rfl,rfl,?_⟩;rw[jj (by omega)];have lp2:(f8 p a8).length=s:=w6 lp hl;have lr:(f8 p a8++f8 (z.take (m-s)) (b.take (m-s))).length=m:=by rw[Zb];omega
  refine⟨[],_,_,_,_,U1 (n:=2) (ls:=[f8 p a8,f8 (z.take (m-s)) (b.take (m-s))]) (t:=f8 p a8++f8 (z.take (m-s)) (b.take (m-s))) (by simp) ?_ rfl (by omega) (by omega),rfl,rfl,?_⟩
  ·show[V.z s (sub (bv (f8 p a8)) 0 s),V.z (m-s) (sub (bv _) 0 (m-s))]=[V.z _ _,V.z _ _];rw[b8 lp2,b8 lq,lp2,lq]
  rw[lr];exact⟨_,rfl,[.d 64 0],rfl,⟨_,rfl,rfl⟩,tq⟩
 ·have lx:(b.drop s).length=m-s:=by simp only[Zf,Ze];omega
  have ly:(b.take s).length=s:=by simp only[Zf,Ze];omega
  have hx:sub (bv b) s (m-s)=bv (b.drop s):=p8 hb (by omega);have hy:sub (bv b) 0 s=bv (b.take s):=by
   exact l4 b 0 s
  have hres:T5 (cF t key true) s true a8 b=V2 (cF t key true) a8 (b.drop s) (b.take s):=by
   unfold T5;rw[if_pos rfl]
  have lz:=h.len (back:=true) ly;rw[hres,V2];rw[lx];refine Bk.c ?_;refine⟨[],_,_,_,_,h.size,rfl,rfl,?_⟩;refine⟨by rw[e1];omega,by rw[e1];omega,by rw[e1];omega,by rw[e1];omega,?_⟩;refine⟨by rw[e1];omega,by rw[e1];omega,by omega,by omega,?_⟩;refine⟨by omega,by omega,by omega,by omega,?_⟩;refine⟨by omega,by omega,by omega,by omega,?_⟩;refine⟨[],_,_,_,_,h.dec ly rfl,?_,rfl,?_⟩
  ·rw[<-hy];rfl
  generalize cF t key true (b.take s)=z at*
  have lt:(z.take (m-s)).length=m-s:=by rw[Zf];omega
  refine⟨by rw[e1];omega,by rw[e1];omega,by rw[e1];omega,by rw[e1];omega,?_⟩;refine⟨[],_,_,_,_,jV (a:=z.take (m-s)) (t:=b.drop s) rfl rfl lt lx (by omega) (Zh _) (by omega),?_,rfl,?_⟩
  ·rw[e1,<-hx];show[V.z (m-s) (sub (bv z) 0 (m-s)),V.z (m-s) (sub (bv b) s (m-s))]=_;rw[l4];rfl
  rw[jj (by omega)];have lq:(f8 (z.take (m-s)) (b.drop s)).length=m-s:=w6 lt lx;refine⟨by rw[e1];omega,by rw[e1];omega,by omega,by omega,?_⟩;have lw:(b.drop s++z.drop (m-s)).length=s:=by rw[Zb,lx,Ze];omega
  refine⟨[],_,_,_,_,U1 (n:=2) (ls:=[b.drop s,z.drop (m-s)]) (t:=b.drop s++z.drop (m-s)) (by simp) ?_ rfl (by omega) (by omega),rfl,rfl,?_⟩
  ·rw[e1];show[V.z (m-s) (sub (bv b) s (m-s)),V.z (s-(m-s)) (sub (bv z) (0+(m-s)*1) (s-(m-s)))]=[V.z _ _,V.z _ _];rw[hx,lx,Zi,Zg,l4,G5 _ _ _ (by omega),Ze,lz]
  rw[lw];refine⟨[],_,_,_,_,h.dec lw (b8 lw),rfl,rfl,?_⟩;have lp:=h.len (back:=true) lw;generalize cF t key true (b.drop s++z.drop (m-s))=p at*
  refine⟨[],_,_,_,_,jV (a:=p) (t:=a8) (b8 lp) rfl lp hl (by omega) (Zh _) (by omega),rfl,rfl,?_⟩;rw[jj (by omega)];have lp2:(f8 p a8).length=s:=w6 lp hl;have lr:(f8 p a8++f8 (z.take (m-s)) (b.drop s)).length=m:=by rw[Zb];omega
  refine⟨[],_,_,_,_,U1 (n:=2) (ls:=[f8 p a8,f8 (z.take (m-s)) (b.drop s)]) (t:=f8 p a8++f8 (z.take (m-s)) (b.drop s)) (by simp) ?_ rfl (by omega) (by omega),rfl,rfl,?_⟩
  ·show[V.z s (sub (bv (f8 p a8)) 0 s),V.z (m-s) (sub (bv _) 0 (m-s))]=[V.z _ _,V.z _ _];rw[b8 lp2,b8 lq,lp2,lq]
  rw[lr];exact⟨_,rfl,[.d 64 0],rfl,⟨_,rfl,rfl⟩,tq⟩
theorem zG {mode:Int} {w:Bool}:a7 C 176 [i64 mode,bool w] [] (.ret (.t [bool (decide (mode=9)||(decide (mode=8)&& !w)),bool (decide (7<=mode/\mode<=9))])) []:=by
 refine Td.c ?_;refine j7 (fun h=> ?_) (fun h=>j7 (fun h7=> ?_) (fun h7=>j7 (fun h8=> ?_) (fun h8=> ?_)))
 ·subst h;exact⟨_,rfl,[],rfl,tq⟩
 ·subst h7;exact⟨_,rfl,[],rfl,tq⟩
 ·subst h8;exact⟨_,rfl,[],rfl,tq⟩
 ·refine⟨_,rfl,[],?_,tq⟩;rw[decide_eq_false h,decide_eq_false h8,decide_eq_false (by omega)];rfl
theorem Lt {mode:Int} {w:Bool}:a7 C 75 [i64 mode,bool w] [] (.ret (bool (decide (mode=9)||(decide (mode=8)&& !w)))) []:=by
 refine Qi.c ?_;refine j7 (fun h=> ?_) (fun h=>j7 (fun h8=> ?_) (fun h8=> ?_))
 ·subst h;exact⟨_,rfl,[],rfl,tq⟩
 ·subst h8;exact⟨_,rfl,[],rfl,tq⟩
 ·refine⟨_,rfl,[],?_,tq⟩;rw[decide_eq_false h,decide_eq_false h8];rfl
theorem Lm {n:Nat} {va:List Value} {rs:List V} {l:List Value} (h:a7 C 88 [.q rs 0,.z n va,bool false] [] (A8 n) [.sc l]):a7 C 74 [.q rs 0,.z n va] [] (.ret (.o 1 (.k 0) 0 n)) [.sc l]:=by
 refine Qa.c ?_;refine⟨[],_,_,_,_,h,rfl,rfl,?_⟩;exact⟨_,rfl,[.d 10 0],rfl,⟨_,rfl,rfl⟩,tq⟩
theorem Ln {n:Nat} {va:List Value} {rs:List V} {l:List Value} (h:a7 C 88 [.q rs 0,.z n va,bool true] [] (A8 n) [.sc l]):a7 C 73 [.q rs 0,.z n va] [] (.ret (.o 1 (.k 0) 0 n)) [.sc l]:=by
 refine Qc.c ?_;refine⟨[],_,_,_,_,h,rfl,rfl,?_⟩;exact⟨_,rfl,[.d 10 0],rfl,⟨_,rfl,rfl⟩,tq⟩
theorem i6.E {t key s k xs rs} (h:i6 t key s k xs rs) {b:Bs} {va:List Value} (hb:b.length=s) (ha:va=bv b):a7 C 74 [.q rs 0,.z s va] [] (.ret (.o 1 (.k 0) 0 s)) [.sc (bv (cF t key false b))]:=by subst ha;exact Lm (h.rblk hb)
theorem i6.Un {t key s k xs rs} (h:i6 t key s k xs rs) {b:Bs} {va:List Value} (hb:b.length=s) (ha:va=bv b):a7 C 73 [.q rs 0,.z s va] [] (.ret (.o 1 (.k 0) 0 s)) [.sc (bv (cF t key true b))]:=by subst ha;exact Ln (h.rblk hb)
theorem ZH (n:Nat) (mode:Int) (b:Bs) {m:Nat} (hb:b.length=m):(decide (mode=9)||(decide (mode=8)&& !((m:Int)==((2*n:Nat):Int))))=X3 n mode b:=by
 unfold X3;rw[hb];congr 3;by_cases h:m=2*n
 ·rw[h];simp
 ·rw[decide_eq_false h];exact beq_false_of_ne (by omega)
theorem pi {t key s k xs rs} (h:i6 t key s k xs rs) {m:Nat} {vl vb:List Value} {a8 b:Bs} {mode:Int} {back:Bool} (hvl:vl=bv a8) (hvb:vb=bv b) (hl:a8.length=s) (hb:b.length=m) (hm:7<=mode/\mode<=9) (h1:s<=m) (h2:m<=2*s):
  a7 C 116 [b9 t k xs,i64 mode,bool back,.z s vl,.z m vb] [] (A8 m) [.sc (bv (C5 (cF t key false) (cF t key true) s mode back a8 b))]:=by
 subst hvl;subst hvb;have hs:=h.s_le;have w2:I6.wrap (2*(s:Int))=((2*s:Nat):Int):=by rw[Za _ (by omega)];omega
 have hsw:=ZH s mode b hb;refine Bj.c ?_;refine U9 0 rfl 1 (fun _=>⟨[(0,b9 t k xs),(2,bool back),(3,.z s (bv a8)),(4,.z m (bv b)),(12,i64 s),(13,bool (X3 s mode b))],[]⟩) ?_ fun i hi=> ?_
 ·refine⟨[],_,_,_,_,h.size,rfl,rfl,?_⟩;refine⟨[],_,_,_,_,zG,rfl,rfl,?_⟩;rw[w2,hsw,decide_eq_true hm];refine o9 (fun h=>absurd rfl h) (fun _=> ?_);refine c9 (fun h=>absurd h (by omega)) (fun _=> ?_);refine c9 (fun h=>absurd h (by rw[w2];omega)) (fun _=> ?_);exact⟨[],0,by decide,[],⟨rfl,rfl,rfl,rfl,rfl,rfl,tq⟩,tq⟩
 refine j9 (fun _=>⟨[(0,b9 t k xs),(2,bool back),(3,.z s (bv a8)),(4,.z m (bv b)),(12,i64 s),(13,bool (X3 s mode b))],[]⟩) 0 ⟨[],⟨rfl,rfl,rfl,rfl,rfl,rfl,tq⟩,tq⟩ fun j hj=> ?_;refine j7 (fun he=> ?_) (fun he=> ?_)
 ·obtain rfl:m=s:=(by omega);have lD:=h.len (back:=true) hb;have lX:=w6 hb hl;have lE:=h.len (back:=false) lX;cases back
  ·refine⟨[],_,_,_,_,B5 (a:=b) (b:=a8) rfl rfl hb hl (by omega),rfl,rfl,?_⟩;refine⟨[],_,_,_,_,h.enc lX (b8 lX),rfl,rfl,?_⟩;refine j7 (fun _=> ?_) (fun h=>absurd rfl h);refine⟨_,rfl,[.d 74 0],rfl,⟨_,rfl,d9 ?_⟩,tq⟩;rw[C5,if_pos hb,if_neg (by decide)]
  ·refine⟨[],_,_,_,_,h.dec hb rfl,rfl,rfl,?_⟩;refine⟨[],_,_,_,_,B5 (a:=cF t key true b) (b:=a8) (b8 lD) rfl lD hl (by omega),rfl,rfl,?_⟩;refine⟨_,rfl,[.d 61 0],rfl,⟨_,rfl,d9 ?_⟩,tq⟩;rw[C5,if_pos hb,if_pos rfl]
 ·have hne:¬b.length=s:=by omega
  refine j7 (fun h=>absurd h he) (fun _=> ?_);cases back
  ·refine⟨[],_,_,_,_,JL h rfl rfl hl hb (by omega) h2,rfl,rfl,?_⟩;refine⟨_,rfl,[.d 94 0],rfl,⟨_,rfl,d9 ?_⟩,tq⟩;rw[C5,if_neg hne,if_neg (by decide)]
  ·refine⟨[],_,_,_,_,Ig h rfl rfl hl hb (by omega) h2,rfl,rfl,?_⟩;refine⟨_,rfl,[.d 89 0],rfl,⟨_,rfl,d9 ?_⟩,tq⟩;rw[C5,if_neg hne,if_pos rfl]
abbrev Ot (e:Int):Oc:= .ret (.t [g8,i64 e])
theorem ME {t key s k xs rs} (h:i6 t key s k xs rs) {l m:Nat} {vl vb:List Value} {a8 b:Bs} {mode:Int} {back:Bool} (hl:a8.length=l) (hb:b.length=m) (hm:m<=1000000) (he:nP s mode a8 b≠0):
  a7 C 116 [b9 t k xs,i64 mode,bool back,.z l vl,.z m vb] [] (Ot (nP s mode a8 b)) []:=by
 have hs:=h.s_le;have w2:I6.wrap (2*(s:Int))=((2*s:Nat):Int):=by rw[Za _ (by omega)];omega
 unfold nP at he ⊢;rw[hl,hb]at he ⊢;refine Bj.c ?_;refine⟨0,Unit,fun _=>⟨[],[]⟩,fun _=>False,fun _=>0,?_,fun _ h=>h.elim⟩
 ·refine⟨[],_,_,_,_,h.size,rfl,rfl,?_⟩;refine⟨[],_,_,_,_,zG,rfl,rfl,?_⟩;by_cases h3:mode<7\/9<mode
  ·rw[if_pos h3,decide_eq_false (show ¬(7<=mode/\mode<=9) by omega)];exact⟨_,rfl,[],rfl,tq⟩
  ·rw[if_neg h3]at he ⊢;rw[decide_eq_true (show 7<=mode/\mode<=9 by omega)];refine o9 (fun h5=> ?_) (fun h5=> ?_)
   ·rw[if_pos (by omega)];exact⟨_,rfl,[],rfl,tq⟩
   ·rw[if_neg (by omega)]at he ⊢;refine c9 (fun h7=> ?_) (fun h7=> ?_)
    ·rw[if_pos (by omega)];refine c9 (fun _=> ?_) (fun h=>absurd h7 h);exact⟨_,rfl,[],rfl,tq⟩
    ·refine c9 (fun h7'=> ?_) (fun h7'=> ?_)
     ·rw[w2]at h7';rw[if_pos (by omega)];exact⟨_,rfl,[],rfl,tq⟩
     ·rw[w2]at h7';rw[if_neg (by omega)]at he;exact absurd rfl he
theorem Gw:∀(x:Bs),f8 (Zj x.length 0) x=x
 |[]=>rfl
 |a::x=>by
  have ih:=Gw x;unfold f8 at ih ⊢;rw[Z5,List.replicate_succ,Jb,ih,UInt8.zero_xor]
theorem a11 {b x:Bs} {n d:Nat} (hb:b.length=d) (hx:x.length=n) (hd:d<=n):f8 (b++Zj (n-d) 0) x=F7 x b:=by
 have e:x=x.take d++x.drop d:=(Zk d x).symm;have l1:(x.take d).length=d:=by rw[Zf];omega
 have l2:(x.drop d).length=n-d:=by rw[Ze];omega
 have h:f8 (b++Zj (n-d) 0) (x.take d++x.drop d)=f8 b (x.take d)++f8 (Zj (n-d) 0) (x.drop d):=by
  unfold f8;exact List.zipWith_append (by rw[hb,l1])
 rw[<-e]at h;have hz:=Gw (x.drop d);rw[l2]at hz;have ht:=wn x b (by omega);rw[hb]at ht;rw[h,hz,mh b,ht,F7,hb]
set_option maxHeartbeats 2000000 in
theorem a2c {t key s k xs rs} (h:i6 t key s k xs rs) {m:Nat} {vl vb:List Value} {a8 b:Bs} {mode:Int} {back:Bool} (hvl:vl=bv a8) (hvb:vb=bv b) (hl:a8.length=s) (hb:b.length=m) (hm:7<=mode/\mode<=9) (h1:s<=m) (h2:m<=2*s):
  a7 C 19 [.q rs 0,i64 mode,bool back,.z s vl,.z m vb] [] (A8 m) [.sc (bv (C5 (cF t key false) (cF t key true) s mode back a8 b))]:=by
 subst hvl;subst hvb;have hs:=h.s_le;have w2:I6.wrap (2*(s:Int))=((2*s:Nat):Int):=by rw[Za _ (by omega)];omega
 have e1:I6.wrap ((m:Int)-(s:Int))=((m-s:Nat):Int):=by rw[Za _ (by omega)];omega
 refine Qh.c ?_;refine⟨[],_,_,_,_,h.rsize,rfl,rfl,?_⟩;refine c9 (fun h=>absurd h (by omega)) (fun _=> ?_);refine c9 (fun h=>absurd h (by omega)) (fun _=> ?_);refine o9 (fun h=>absurd rfl h) (fun _=> ?_);refine c9 (fun h=>absurd h (by omega)) (fun _=> ?_);refine c9 (fun h=>absurd h (by rw[w2];omega)) (fun _=> ?_);refine j7 (fun he=> ?_) (fun he=> ?_)
 ·obtain rfl:m=s:=(by omega);have lD:=h.len (back:=true) hb;have lX:=w6 hb hl;cases back
  ·refine⟨[],_,_,_,_,G1 (a:=b) (b:=a8) rfl rfl hb hl (by omega),rfl,rfl,?_⟩;refine⟨[],_,_,_,_,h.E lX (b8 lX),rfl,rfl,?_⟩;refine⟨_,rfl,[.d 64 0],rfl,⟨_,rfl,d9 ?_⟩,tq⟩;rw[C5,if_pos hb,if_neg (by decide)]
  ·refine⟨[],_,_,_,_,h.Un hb rfl,rfl,rfl,?_⟩;refine⟨[],_,_,_,_,G1 (a:=cF t key true b) (b:=a8) (b8 lD) rfl lD hl (by omega),rfl,rfl,?_⟩;refine⟨_,rfl,[.d 59 0],rfl,⟨_,rfl,d9 ?_⟩,tq⟩;rw[C5,if_pos hb,if_pos rfl]
 have hne:¬b.length=s:=by omega
 have hsw:(decide (mode=9)||(decide (mode=8)&& !(I6.wrap ((m:Int)-(s:Int))==(s:Int))))=X3 s mode b:=by
  unfold X3;rw[e1,hb];congr 3;by_cases h:m=2*s
  ·rw[decide_eq_true h];exact beq_iff_eq.2 (by omega)
  ·rw[decide_eq_false h];exact beq_false_of_ne (by omega)
 refine⟨[],_,_,_,_,Lt,rfl,rfl,?_⟩;rw[hsw];have hT:C5 (cF t key false) (cF t key true) s mode back a8 b=if back then T5 (cF t key true) s (X3 s mode b) a8 b else aL (cF t key false) s (X3 s mode b) a8 b:=by rw[C5,if_neg hne]
 rw[hT];generalize X3 s mode b=swap;cases back
 ·have l1:(b.take s).length=s:=by rw[Zf];omega
  have l2:(b.drop s).length=m-s:=by rw[Ze,hb]
  have lx1:(f8 (b.take s) a8).length=s:=w6 l1 hl;have lX:=h.len (back:=false) lx1;have hres:aL (cF t key false) s swap a8 b=if swap then cF t key false (F7 (cF t key false (f8 (b.take s) a8)) (b.drop s))++(cF t key false (f8 (b.take s) a8)).take (m-s)else (cF t key false (f8 (b.take s) a8)).take (m-s)++cF t key false (F7 (cF t key false (f8 (b.take s) a8)) (b.drop s)):=by
   unfold aL;rw[hb]
  rw[if_neg (by decide),hres];refine⟨by omega,by omega,by omega,by omega,?_⟩;refine⟨[],_,_,_,_,G1 (va:=sub (bv b) 0 s) (a:=b.take s) (b:=a8) (l4 b 0 s) rfl l1 hl (by omega),rfl,rfl,?_⟩;refine⟨[],_,_,_,_,h.E lx1 (b8 lx1),rfl,rfl,?_⟩;have lp2:(F7 (cF t key false (f8 (b.take s) a8)) (b.drop s)).length=s:=by rw[kP (by omega),lX]
  have hfill:=a11 (x:=cF t key false (f8 (b.take s) a8)) l2 lX (by omega);generalize cF t key false (f8 (b.take s) a8)=x at*
  have e3:I6.wrap ((s:Int)-I6.wrap ((m:Int)-(s:Int)))=((s-(m-s):Nat):Int):=by rw[e1,Za _ (by omega)];omega
  refine⟨by omega,by omega,by omega,by omega,?_⟩;refine⟨by rw[Zd,p8 hb (by omega),f9,l2],by omega,by decide,?_⟩;refine⟨by rw[e3];omega,by rw[e3];omega,by rw[e3];omega,?_,_,rfl,?_⟩
  ·show 0+(0+(m-s))*1<=([]++sub (bv b) s (m-s):List Value).length;rw[Zl,p8 hb (by omega),f9,l2];omega
  have lq:(b.drop s++Zj (s-(m-s)) 0).length=s:=by rw[Zb,Jd,l2];omega
  refine⟨[],_,_,_,_,G1 (a:=b.drop s++Zj (s-(m-s)) 0) (b:=x) rfl rfl lq lX (by omega),?_,rfl,?_⟩
  ·rw[e3];show[V.z (0+(m-s)+(s-(m-s))) (sub (sub ([]++sub (bv b) s (m-s)) 0 ((0+(m-s))*1)++Zj (s-(m-s)) (Value.int .u8 0)) 0 (0+(m-s)+(s-(m-s)))),V.z s (sub (bv x) 0 s)]=_;rw[show 0+(m-s)+(s-(m-s))=s by omega,Zi,Zg,Zl,p8 hb (by omega),b8 l2,S2,x5,b8 lq,b8 lX]
  rw[hfill];refine⟨[],_,_,_,_,h.E lp2 (b8 lp2),rfl,rfl,?_⟩;have lY:=h.len (back:=false) lp2;generalize cF t key false (F7 x (b.drop s))=y at*
  have lt:(x.take (m-s)).length=m-s:=by rw[Zf];omega
  have ht:sub (bv x) 0 (m-s)=bv (x.take (m-s)):=l4 x 0 (m-s);cases swap
  ·rw[if_neg (by decide)];refine⟨by rw[e1];omega,by rw[e1];omega,by rw[e1];omega,by rw[e1];omega,?_⟩;refine⟨by rw[e1,f9,lX];show 0+0*1+(m-s)*1<=s;omega,by rw[e1];show 0+(m-s)<=_;omega,by decide,?_⟩;refine⟨by rw[f9,lY];omega,by rw[e1];show 0+(m-s)+s<=_;omega,?_,?_⟩
   ·rw[e1];show 0+(0+(m-s))*1<=([]++sub (bv x) (0+0*1) ((m-s)*1):List Value).length;rw[Zl,j4,f9,lX];omega
   rw[e1];refine⟨_,rfl,[.d 111 0],?_,⟨_,rfl,d9 ?_⟩,tq⟩
   ·show V.t [V.o 1 (.k 0) 0 (0+(m-s)+s),_]=_;rw[show 0+(m-s)+s=m by omega];rfl
   ·show sub ([]++sub (bv x) (0+0*1) ((m-s)*1)) 0 ((0+(m-s))*1)++sub (bv y) 0 (s*1)=_;simp only[Zl,Zi,Zg,Nat.zero_mul];rw[ht,b8 lt,b8 lY,x5]
  ·rw[if_pos rfl];refine⟨by rw[f9,lY];omega,by omega,by decide,?_⟩;refine⟨by rw[e1];omega,by rw[e1];omega,by rw[e1];omega,by rw[e1];omega,?_⟩;refine⟨by rw[e1,f9,lX];show 0+0*1+(m-s)*1<=s;omega,by rw[e1];show 0+s+(m-s)<=_;omega,?_,?_⟩
   ·show 0+(0+s)*1<=([]++sub (bv y) 0 (s*1):List Value).length;simp only[Zl,Zg,Zi];rw[b8 lY,f9,lY];exact Zh _
   rw[e1];refine⟨_,rfl,[.d 104 0],?_,⟨_,rfl,d9 ?_⟩,tq⟩
   ·show V.t [V.o 1 (.k 0) 0 (0+s+(m-s)),_]=_;rw[show 0+s+(m-s)=m by omega];rfl
   ·show sub ([]++sub (bv y) 0 (s*1)) 0 ((0+s)*1)++sub (bv x) (0+0*1) ((m-s)*1)=_;simp only[Zl,Zi,Zg,Nat.zero_mul];rw[b8 lY,b8 lY,ht,x5]
 ·rw[if_pos rfl];cases swap
  ·have lx:(b.take (m-s)).length=m-s:=by simp only[Zf,Ze];omega
   have ly:(b.drop (m-s)).length=s:=by simp only[Zf,Ze];omega
   have hx:sub (bv b) 0 (m-s)=bv (b.take (m-s)):=l4 b 0 (m-s);have hy:sub (bv b) (m-s) s=bv (b.drop (m-s)):=by
    rw[l4,G5 _ _ _ (by omega)]
   have hres:T5 (cF t key true) s false a8 b=V2 (cF t key true) a8 (b.take (m-s)) (b.drop (m-s)):=by
    unfold T5;rw[if_neg (by decide),hb]
   have lz:=h.len (back:=true) ly;rw[hres,V2];rw[lx];refine⟨by rw[e1];omega,by rw[e1];omega,by rw[e1];omega,by rw[e1];omega,?_⟩;refine⟨by rw[e1];omega,by rw[e1];omega,by omega,by omega,?_⟩;refine⟨[],_,_,_,_,h.Un ly rfl,?_,rfl,?_⟩
   ·rw[e1,<-hy];show[V.q rs 0,V.z (m-(m-s)) (sub (bv b) (m-s) (m-(m-s)))]=_;rw[show m-(m-s)=s by omega]
   generalize cF t key true (b.drop (m-s))=z at*
   have lt:(z.take (m-s)).length=m-s:=by rw[Zf];omega
   refine⟨by rw[e1];omega,by rw[e1];omega,by rw[e1];omega,by rw[e1];omega,?_⟩;refine⟨[],_,_,_,_,G1 (a:=z.take (m-s)) (b:=b.take (m-s)) rfl rfl lt lx (by omega),?_,rfl,?_⟩
   ·rw[e1,<-hx];show[V.z (m-s) (sub (bv z) 0 (m-s)),V.z (m-s) (sub (bv b) 0 (m-s))]=_;rw[l4];rfl
   have lq:(f8 (z.take (m-s)) (b.take (m-s))).length=m-s:=w6 lt lx;refine⟨?_,by rw[e1];omega,by decide,?_⟩
   ·rw[e1];show(sub (bv b) 0 (m-s)).length=m-s;rw[hx,f9,lx]
   refine⟨by rw[e1];omega,by rw[e1];omega,by omega,by omega,?_⟩;refine⟨?_,?_,?_,?_⟩
   ·rw[e1,f9,lz];show 0+(m-s)*1+(s-(m-s))*1<=s;omega
   ·rw[e1];show 0+(m-s)+(s-(m-s))<=_;omega
   ·rw[e1];show 0+(0+(m-s))*1<=([]++sub (bv b) 0 (m-s):List Value).length;rw[Zl,hx,f9,lx];omega
   have lw:(b.take (m-s)++z.drop (m-s)).length=s:=by rw[Zb,lx,Ze];omega
   refine⟨[],_,_,_,_,h.Un lw rfl,?_,rfl,?_⟩
   ·rw[e1];show[V.q rs 0,V.z (0+(m-s)+(s-(m-s))) (sub (sub ([]++sub (bv b) 0 (m-s)) 0 ((0+(m-s))*1)++sub (bv z) (0+(m-s)*1) ((s-(m-s))*1)) 0 (0+(m-s)+(s-(m-s))))]=_;rw[show 0+(m-s)+(s-(m-s))=s by omega,Zl,hx,Zi,Zg,Zg,Zi,b8 lx,l4,G5 z _ _ (by omega),x5,b8 lw]
   have lp:=h.len (back:=true) lw;generalize cF t key true (b.take (m-s)++z.drop (m-s))=p at*
   refine⟨[],_,_,_,_,G1 (a:=p) (b:=a8) (b8 lp) rfl lp hl (by omega),rfl,rfl,?_⟩;have lp2:(f8 p a8).length=s:=w6 lp hl;refine⟨?_,?_,?_,?_⟩
   ·rw[f9,lq];show 0+(m-s)*1<=m-s;omega
   ·show s+(m-s)<=_;omega
   ·rw[f9,lp2];omega
   rw[e1];refine⟨_,rfl,[.d 147 0],?_,⟨_,rfl,d9 ?_⟩,tq⟩
   ·show V.t [V.o 1 (.k 0) 0 (s+(m-s)),_]=_;rw[show s+(m-s)=m by omega];rfl
   ·show sub (bv (f8 p a8)) 0 (s*1)++sub (bv (f8 (z.take (m-s)) (b.take (m-s)))) 0 ((m-s)*1)=_;rw[Zg,Zg,b8 lp2,b8 lq,x5]
  ·have lx:(b.drop s).length=m-s:=by simp only[Zf,Ze];omega
   have ly:(b.take s).length=s:=by simp only[Zf,Ze];omega
   have hx:sub (bv b) s (m-s)=bv (b.drop s):=p8 hb (by omega);have hy:sub (bv b) 0 s=bv (b.take s):=by
    exact l4 b 0 s
   have hres:T5 (cF t key true) s true a8 b=V2 (cF t key true) a8 (b.drop s) (b.take s):=by
    unfold T5;rw[if_pos rfl]
   have lz:=h.len (back:=true) ly;rw[hres,V2];rw[lx];refine⟨by rw[e1];omega,by rw[e1];omega,by rw[e1];omega,by rw[e1];omega,?_⟩;refine⟨by rw[e1];omega,by rw[e1];omega,by omega,by omega,?_⟩;refine⟨by omega,by omega,by omega,by omega,?_⟩;refine⟨by omega,by omega,by omega,by omega,?_⟩;refine⟨[],_,_,_,_,h.Un ly rfl,?_,rfl,?_⟩
   ·rw[<-hy];rfl
   generalize cF t key true (b.take s)=z at*
   have lt:(z.take (m-s)).length=m-s:=by rw[Zf];omega
   refine⟨by rw[e1];omega,by rw[e1];omega,by rw[e1];omega,by rw[e1];omega,?_⟩;refine⟨[],_,_,_,_,G1 (a:=z.take (m-s)) (b:=b.drop s) rfl rfl lt lx (by omega),?_,rfl,?_⟩
   ·rw[e1,<-hx];show[V.z (m-s) (sub (bv z) 0 (m-s)),V.z (m-s) (sub (bv b) s (m-s))]=_;rw[l4];rfl
   have lq:(f8 (z.take (m-s)) (b.drop s)).length=m-s:=w6 lt lx;refine⟨?_,by omega,by decide,?_⟩
   ·
    show(sub (bv b) s (m-s)).length=m-s;rw[hx,f9,lx]
   refine⟨by rw[e1];omega,by rw[e1];omega,by omega,by omega,?_⟩;refine⟨?_,?_,?_,?_⟩
   ·rw[e1,f9,lz];show 0+(m-s)*1+(s-(m-s))*1<=s;omega
   ·rw[e1];show 0+(m-s)+(s-(m-s))<=_;omega
   ·
    show 0+(0+(m-s))*1<=([]++sub (bv b) s (m-s):List Value).length;rw[Zl,hx,f9,lx];omega
   have lw:(b.drop s++z.drop (m-s)).length=s:=by rw[Zb,lx,Ze];omega
   refine⟨[],_,_,_,_,h.Un lw rfl,?_,rfl,?_⟩
   ·rw[e1];show[V.q rs 0,V.z (0+(m-s)+(s-(m-s))) (sub (sub ([]++sub (bv b) s (m-s)) 0 ((0+(m-s))*1)++sub (bv z) (0+(m-s)*1) ((s-(m-s))*1)) 0 (0+(m-s)+(s-(m-s))))]=_;rw[show 0+(m-s)+(s-(m-s))=s by omega,Zl,hx,Zi,Zg,Zg,Zi,b8 lx,l4,G5 z _ _ (by omega),x5,b8 lw]
   have lp:=h.len (back:=true) lw;generalize cF t key true (b.drop s++z.drop (m-s))=p at*
   refine⟨[],_,_,_,_,G1 (a:=p) (b:=a8) (b8 lp) rfl lp hl (by omega),rfl,rfl,?_⟩;have lp2:(f8 p a8).length=s:=w6 lp hl;refine⟨?_,?_,?_,?_⟩
   ·rw[f9,lq];show 0+(m-s)*1<=m-s;omega
   ·show s+(m-s)<=_;omega
   ·rw[f9,lp2];omega
   rw[e1];refine⟨_,rfl,[.d 147 0],?_,⟨_,rfl,d9 ?_⟩,tq⟩
   ·show V.t [V.o 1 (.k 0) 0 (s+(m-s)),_]=_;rw[show s+(m-s)=m by omega];rfl
   ·show sub (bv (f8 p a8)) 0 (s*1)++sub (bv (f8 (z.take (m-s)) (b.drop s))) 0 ((m-s)*1)=_;rw[Zg,Zg,b8 lp2,b8 lq,x5]
theorem i6.stT_len {t key s k xs rs} (h:i6 t key s k xs rs) {m:Nat} {mode:Int} {back:Bool} {a8 b:Bs} (hl:a8.length=s) (hb:b.length=m) (h1:s<=m) (h2:m<=2*s):(C5 (cF t key false) (cF t key true) s mode back a8 b).length=m:=by
 subst hb;exact Go.Scr.stT_len h.ci hl h1 h2
theorem Hy (a b:Bs):bs a++bs b=bs (a++b):=by
 apply ByteArray.ext;show(bs a++bs b).data=_;rw[ByteArray.data_append];show a.toArray++b.toArray=(a++b).toArray;simp
theorem xK (a:Bs):(bs a).size=a.length:=rfl
theorem a1z (a:UInt8):U8.wrap ((a.toNat:Int)+1)=((a+1).toNat:Int):=Ge a 1
theorem Gg (a:UInt8):((a.toNat:Int)=0)↔a=0:=by
 constructor
 ·intro h;refine Z8.1 ?_;have:(0:UInt8).toNat=0:=rfl;omega
 ·intro h;subst h;rfl
theorem Ux {c:Bs} {i:Nat}:gG c (i+1)=if c.getD i 0+1=0 then gG (c.set i (c.getD i 0+1)) i else c.set i (c.getD i 0+1):=by
 rw[gG]
theorem JU {n:Nat} {va:List Value} {b:Bs} (ha:va=bv b) (hn:b.length=n) (hm:n<=1000):a7 C 230 [.z n va] [] (.ret (.o 1 (.k 0) 0 n)) [.sc (bv (gF b))]:=by
 subst ha;refine Tn.c ?_;refine⟨0,Nat×Bs,fun x=>⟨[(3,.o 1 (.k 0) 0 n),(4,i64 x.1)],[.sc (bv x.2)]⟩,fun x=>x.1<=n/\x.2.length=n/\gG x.2 x.1=gF b,fun x=>x.1,?_,fun x hx=> ?_⟩
 ·refine⟨by omega,by omega,by omega,?_⟩;refine⟨by rw[f9];omega,by omega,by decide,?_⟩;refine⟨[],(n,b),⟨Zh _,hn,by rw[<-hn];rfl⟩,[.d 9 0],⟨?_,?_,tq⟩,⟨_,rfl,d9 ?_⟩,tq⟩
  ·exact congrArg (V.o 1 (.k 0) 0) (by omega)
  ·exact d7 (by omega)
  ·rfl
 ·obtain⟨i,c⟩:=x;obtain⟨h1,h2,h3⟩:=hx;dsimp only at h1 h2 h3;refine c9 (fun h=> ?_) (fun h=> ?_)
  ·obtain⟨i,rfl⟩:∃j,i=j+1:=⟨i-1,by omega⟩;have e1:I6.wrap (((i+1:Nat):Int)-1)=(i:Int):=by rw[Za _ (by omega)];omega
   rw[Ux]at h3;refine⟨by rw[e1];omega,by rw[e1];omega,.int .u8 ((c.getD i 0).toNat:Int),by rw[e1,Zd,Zg,Zi];exact A1 (show i<c.length by omega),?_⟩;refine⟨by rw[e1];omega,by rw[e1];omega,by rw[e1,Zd,f9];show 0+i*1<c.length;omega,?_⟩;have e2:(bv c).set (0+(I6.wrap (((i+1:Nat):Int)-1)).toNat*1) (.int .u8 (U8.wrap (((c.getD i 0).toNat:Int)+1)))=bv (c.set i (c.getD i 0+1)):=by
    rw[e1,Zd,Zg,Zi,a1z,L0]
   have l2:(c.set i (c.getD i 0+1)).length=n:=by rw[Zv,h2]
   have g2:(c.set i (c.getD i 0+1)).getD i 0=c.getD i 0+1:=by
    rw[Zc,List.getElem?_set,if_pos rfl,if_pos (by omega)];rfl
   refine⟨by rw[e1];omega,by rw[e1];omega,.int .u8 ((c.getD i 0+1).toNat:Int),?_,?_⟩
   ·show((bv c).set (0+(I6.wrap (((i+1:Nat):Int)-1)).toNat*1) (.int .u8 (U8.wrap (((c.getD i 0).toNat:Int)+1))))[0+(I6.wrap (((i+1:Nat):Int)-1)).toNat*1]? =_;rw[e2,e1,Zd,Zg,Zi,A1 (by omega),g2]
   refine j7 (fun hz=> ?_) (fun hz=> ?_)
   ·rw[if_pos ((Gg _).1 hz)]at h3;exact⟨rfl,(i,c.set i (c.getD i 0+1)),⟨by show i<=n;omega,l2,h3⟩,(by show i<i+1;omega),[.k 0],⟨rfl,d7 e1,tq⟩,⟨_,rfl,d9 e2⟩,tq⟩
   ·rw[if_neg (fun e=>hz ((Gg _).2 e))]at h3;refine⟨_,rfl,[.k 0],rfl,⟨_,rfl,d9 ?_⟩,tq⟩;rw[<-h3];exact e2
  ·obtain rfl:i=0:=(by omega);refine⟨_,rfl,[.k 0],rfl,⟨_,rfl,d9 ?_⟩,tq⟩;rw[<-h3];rfl
theorem If {t key s k xs rs} (h:i6 t key s k xs rs) {mode:Int} {back:Bool} {ch:Bs} {vc':List Value} {rv gv:V} (hv:vc'=bv ch) (hc:ch.length=s):
  a7 C 180 [.p (.k 0) 0] [.mx [b9 t k xs,i64 mode,bool back,.z s vc',rv,gv]] (.ret (.t [])) [.mx [b9 t k xs,i64 mode,bool back,.z s (bv (bZ (cF t key false) mode ⟨ch,[],[]⟩).ch),.z s (bv (cF t key false ch)),g8]]:=by
 subst hv;have hs:=h.s_le;have lE:=h.len (back:=false) hc;refine PN.c ?_;refine⟨_,rfl,?_⟩;refine⟨_,rfl,?_⟩;refine⟨[],_,_,_,_,h.enc hc rfl,rfl,rfl,?_⟩;refine⟨Zz rfl,?_⟩;refine⟨Zz rfl,?_⟩;refine⟨_,rfl,?_⟩;refine j7 (fun h5=> ?_) (fun h5=> ?_)
 ·subst h5;refine⟨_,rfl,?_⟩;refine⟨[],_,_,_,_,dB (l:=cF t key false ch) rfl lE (by omega) (by omega),?_,rfl,?_⟩
  ·show[V.z s (sub (bv (cF t key false ch)) 0 s)]=_;rw[b8 lE]
  refine⟨Zz rfl,?_⟩;refine⟨_,rfl,[.k 0],rfl,⟨_,rfl,?_⟩,tq⟩;show B.mx [b9 t k xs,i64 5,bool back,.z s (sub (bv (cF t key false ch)) 0 s),.z s (sub (bv (cF t key false ch)) 0 s),g8]=_;rw[b8 lE];rfl
 refine j7 (fun h6=> ?_) (fun h6=> ?_)
 ·subst h6;have lI:(gF ch).length=s:=by rw[uy,hc]
  refine⟨_,rfl,?_⟩;refine⟨[],_,_,_,_,JU rfl hc (by omega),rfl,rfl,?_⟩;refine⟨Zz rfl,?_⟩;refine⟨_,rfl,[.k 0],rfl,⟨_,rfl,?_⟩,tq⟩;show B.mx [b9 t k xs,i64 6,bool back,.z s (sub (bv (gF ch)) 0 s),.z s (sub (bv (cF t key false ch)) 0 s),g8]=_;rw[b8 lE,b8 lI];rfl
 ·refine⟨_,rfl,[.k 0],rfl,⟨_,rfl,?_⟩,tq⟩;show B.mx [b9 t k xs,i64 mode,bool back,.z s (bv ch),.z s (sub (bv (cF t key false ch)) 0 s),g8]=_;rw[b8 lE];unfold bZ;rw[if_neg h5,if_neg h6]
abbrev E4 (p:UInt8):V:= .s (.int .u8 p.toNat)
def cZ:Bs->Bs->Nat->V
 |[],_,_=> .u
 |_::_,g,i=> .o 1 (.k i) 0 g.length
def g9:Bs->Bs->B
 |[],_=> .dead
 |_::_,g=> .sc (bv g)
def f6 (cv:V) (mode:Int) (back:Bool) (m:MS) (i:Nat):B:= .mx [cv,i64 mode,bool back,.z m.ch.length (bv m.ch),.z m.row.length (bv m.row),cZ m.row m.gone i]
theorem fo {row g:Bs} {i:Nat} (h:0<row.length):cZ row g i= .o 1 (.k i) 0 g.length:=by
 cases row with
 |nil=>simp at h
 |cons a b=>rfl
theorem fj {row g:Bs} (h:0<row.length):g9 row g= .sc (bv g):=by
 cases row with
 |nil=>simp at h
 |cons a b=>rfl
theorem jk {l:Bs} {m:Nat} {x:Int} {y:UInt8} (hl:l.length=m) (hx:x=(y.toNat:Int)):sub (bv l) 0 (m*1)++sub [Value.int .u8 x] 0 (1*1)=bv (l++[y]):=by
 subst hx;rw[Zg,b8 hl];show bv l++bv [y]=_;rw[x5]
theorem cg {l:Bs} {m:Nat} {x:Int} {y:UInt8} (hl:l.length=m) (hx:x=(y.toNat:Int)):sub (sub (bv l) 0 (m*1)++sub [Value.int .u8 x] 0 (1*1)) 0 (m+1)=bv (l++[y]):=by
 rw[jk hl hx];exact b8 (by rw[Zb,hl];rfl)
theorem kM {x:Int} {y:UInt8} (hx:x=(y.toNat:Int)):sub ([]:List Value) 0 (0*1)++sub [Value.int .u8 x] 0 (1*1)=bv ([]++[y]):=by
 subst hx;rfl
theorem gX {x:Int} {y:UInt8} (hx:x=(y.toNat:Int)):sub (sub ([]:List Value) 0 (0*1)++sub [Value.int .u8 x] 0 (1*1)) 0 (0+1)=bv ([]++[y]):=by
 subst hx;rfl
theorem qx {back:Bool} {ch row g:Bs} {p:UInt8}:T3 3 back ⟨ch,row,g⟩ p=(p^^^row.getD 0 0,⟨ch.drop 1++[p5 back p (p^^^row.getD 0 0)],[],g++[p5 back p (p^^^row.getD 0 0)]⟩):=by
 unfold T3;dsimp only;rw[if_pos rfl]
theorem qy {back:Bool} {ch row g:Bs} {p:UInt8} (h:row.length=1):T3 4 back ⟨ch,row,g⟩ p=(p^^^row.getD 0 0,⟨g++[p5 back p (p^^^row.getD 0 0)],[],g++[p5 back p (p^^^row.getD 0 0)]⟩):=by
 unfold T3;dsimp only;rw[if_neg (by decide),if_pos rfl,if_pos h]
theorem gR {mode:Int} {back:Bool} {ch row g:Bs} {p:UInt8} (h3:mode≠3) (h4:¬(mode=4/\row.length=1)):T3 mode back ⟨ch,row,g⟩ p=(p^^^row.getD 0 0,⟨ch,row.drop 1,g++[p5 back p (p^^^row.getD 0 0)]⟩):=by
 unfold T3;dsimp only;rw[if_neg h3];by_cases h:mode=4
 ·rw[if_pos h,if_neg (fun e=>h4 ⟨h,e⟩)]
 ·rw[if_neg h]
end Go.Scr
