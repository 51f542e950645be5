/-
  What the functions of the given program reckon, each by a contract, up to the law. It is no claim by itself; each contract bears its own conditions.
-/
import Derived.Test.YthhlfpbfdkogfaaGreatDoorY1
set_option linter.unusedVariables false
set_option linter.unusedSimpArgs false
set_option maxRecDepth 100000
namespace Go.Scr
open Go.Proofs
open IntWalk renaming i64_in → Za
open List renaming length_append → Zb, getD_eq_getElem?_getD → Zc, length_drop → Zf, length_take → Zh, replicate → Zk, nil_append → Zl, length_reverse → Zm, range_succ → Zo, getElem?_eq_getElem → Zp, length_set → Zs, map_append → Zu, foldl_cons → Zv, foldl_append → Zx, length_eq_zero_iff → Zy, take_append_drop → Z2, reverse_reverse → Z4, length_cons → Z5, length_zipWith → Z6, zipWith_cons_cons → Jb, take_of_length_le → Jc, length_replicate → Jd, drop_append_of_le_length → Je, append_nil → Jg, getElem?_set → Jh, range_succ_eq_map → Jk, length_map → Jm, length_singleton → Jn, getElem?_reverse → Jo, map → Jt
open Int renaming toNat_natCast → Zd, tdiv_eq_ediv_of_nonneg → Zn, tmod_eq_emod_of_nonneg → Zq
open Nat renaming mul_one → Ze, le_refl → Zg, zero_add → Zi, le_of_ble_eq_true → Zj, mod_eq_of_lt → Zr, mod_lt → Zw, pow_le_pow_right → Z3, div_add_mod → Z9, mul_mod → Ja, mod_mul_mod → Jf, add_sub_cancel_left → Ji, testBit_lt_two_pow → Jj, mul_succ → Jr, mul_comm → Js
open UInt8 renaming ofNat → Zt, toNat_ofNat' → Zz, xor_assoc → Z7, toNat_inj → Z8, xor_zero → Jp
open UInt32 renaming sub_add_cancel → Z0, add_sub_cancel → Z1, toNat_ofNat' → Jq
open BitVec renaming ofInt → Jl
open Go.IntKind renaming i64 → I6, u8 → U8
theorem Lu {va vk:List Value} {r k:Bs} (ha:va=bv r) (hk:vk=bv k) (hr:r.length=4) (hkl:k.length=6):b9 C 187 [.z 4 va,.z 6 vk] [] (.ret (.t [.o 1 (.k 0) 0 4,bool true])) [.sc (bv (dF r k))]:=by
 have hp:(E7 (Q8 48) r).length=6:=by rw[ff,fx]
 have hx:(j9 (E7 (Q8 48) r) k).length=6:=B5 hp hkl;generalize hxe:j9 (E7 (Q8 48) r) k=x at hx;refine Rj.c ?_;refine bn 0 rfl 8 (fun i=>⟨[(6,.z 6 (bv x)),(8,.o 1 (.k 0) 0 4),(9,i64 i)],[.sc (bv (N5 x i))]⟩) ?_ fun i hi=> ?_
 ·refine⟨[],_,_,_,_,OT,rfl,rfl,?_⟩;refine⟨[],_,_,_,_,nG (b:=r) (t:=Q8 48) (n:=48) ha (H7 (fx _)) hr (fx _) (by decide) (by decide) (by decide) (by decide +kernel),rfl,rfl,?_⟩;refine⟨[],_,_,_,_,N4 (a:=E7 (Q8 48) r) (b:=k) (g8 hp) hk hp hkl (by decide),rfl,rfl,?_⟩;rw[hxe];refine⟨by decide,by decide,by decide,?_⟩;refine⟨[],0,by decide,[.d 34 0],⟨?_,rfl,rfl,tq⟩,⟨_,rfl,i6 ?_⟩,tq⟩
  ·show V.z 6 (sub (bv x) 0 6)=_;rw[g8 hx]
  ·rfl
 have p1:I6.wrap (I6.wrap (6*(i:Int))+1)=((6*i+1:Nat):Int):=by
  rw[Za (6*(i:Int)) (by omega),Za _ (by omega)];omega
 refine⟨[],_,_,_,_,pL (n:=6*i+1) (b:=x) p1 rfl hx (by decide) (by omega) (by omega),rfl,rfl,?_⟩;have p2:I6.wrap (I6.wrap (I6.wrap (6*(i:Int))+1)+5)=((6*i+6:Nat):Int):=by
  rw[p1,Za _ (by omega)];omega
 refine⟨[],_,_,_,_,pL (n:=6*i+6) (b:=x) p2 rfl hx (by decide) (by omega) (by omega),rfl,rfl,?_⟩;have hb1:=bt (tb x (6*i+1-1));have hb2:=bt (tb x (6*i+6-1));have hrow:I6.wrap (I6.wrap (2*(((tb x (6*i+1-1)).toNat:Nat):Int))+(((tb x (6*i+6-1)).toNat:Nat):Int))=((fM x i:Nat):Int):=by
  rw[Za (2*(((tb x (6*i+1-1)).toNat:Nat):Int)) (by omega),Za _ (by omega)];rfl
 refine m9 (fun k=>⟨[(6,.z 6 (bv x)),(8,.o 1 (.k 0) 0 4),(9,i64 i),(10,i64 (6*i+1:Nat)),(11,i64 (fM x i:Nat)),(12,i64 (dA x i k:Nat)),(13,i64 (k+1:Nat))],[.sc (bv (N5 x i))]⟩) 4 ⟨[.k 0],⟨rfl,rfl,rfl,f8 p1,f8 hrow,rfl,rfl,tq⟩,⟨_,rfl,rfl⟩,tq⟩ fun k hk=> ?_;refine d9 (fun h=> ?_) (fun h=> ?_)
 ·have hkl:k<4:=(by omega);have p3:I6.wrap (((6*i+1:Nat):Int)+((k+1:Nat):Int))=((6*i+k+2:Nat):Int):=by
   rw[Za _ (by omega)];omega
  refine⟨[],_,_,_,_,pL (n:=6*i+k+2) (b:=x) p3 rfl hx (by decide) (by omega) (by omega),rfl,rfl,?_⟩;have hb:=bt (tb x (6*i+k+2-1));have hc:=nQ x i k;have hc2:2^k<=8:=by
   have:2^k<=2^3:=Z3 (by decide) (by omega);simpa using this
  refine⟨k+1,by omega,by omega,[.k 0],⟨rfl,rfl,rfl,rfl,rfl,f8 ?_,f8 (by simp(disch:=omega)only[Za];omega),tq⟩,⟨_,rfl,rfl⟩,tq⟩;rw[Za (2*((dA x i k:Nat):Int)) (by omega),Za _ (by omega)];show _=((2*dA x i k+(tb x (6*i+1+k)).toNat:Nat):Int);rw[show 6*i+1+k=6*i+k+2-1 by omega];omega
 ·obtain rfl:k=4:=(by omega);have e2:I6.wrap ((i:Int).tdiv 2)=((i/2:Nat):Int):=by
   rw[Zn (by omega),Za _ (by omega)];omega
  have e3:I6.wrap (4*I6.wrap (1-(i:Int).tmod 2))=((4*(1-i%2):Nat):Int):=by
   rw[Zq (by omega),Za (1-(i:Int)%2) (by omega),Za _ (by omega)];omega
  have hcl:=nQ x i 4;obtain⟨o1,o2⟩:=uY i hi _ (kU x i);refine⟨by decide,by rw[e2];omega,by rw[e2];omega,?_⟩;refine⟨_,by rw[e2,Zd,Ze,Zi];exact p9 (by rw[kT];omega),?_⟩;refine⟨[],_,_,_,_,Lv hi (kU x i),rfl,rfl,?_⟩;refine⟨by omega,?_,?_⟩
  ·show((dA x i 4:Nat):Int)<(((S2 i (fM x i)).toArray.size:Nat):Int);simp only[List.size_toArray,o1];omega
  refine⟨_,by rw[Zd];exact oY (by omega),?_⟩;refine⟨[],_,_,_,_,LB rfl (o2 _ hcl),rfl,rfl,?_⟩;refine⟨by decide,by rw[e3];omega,by rw[e2];omega,by rw[e2];omega,by rw[e2,j6,kT];omega,?_⟩;have hset:(bv (N5 x i)).set (i/2) (.int .u8 (U8.wrap ((Jl U8.bits (((N5 x i).getD (i/2) 0).toNat:Int)|||Jl U8.bits (U8.wrap (((dS x i:Nat):Int)*2^(min ((4*(1-i%2):Nat):Int).toNat U8.bits)))).toNat:Int)))=bv (N5 x (i+1)):=by
   rw[Ym _ (qp hi) _ (by omega),sK,L4,Bc hi]
  have w1:I6.wrap ((i:Int)+1)=((i+1:Nat):Int):=by rw[Za _ (by omega)];omega
  refine d9 (fun h=> ?_) (fun h=> ?_)
  ·rw[w1]at h;refine⟨rfl,i+1,by omega,by omega,[.k 0],⟨rfl,rfl,f8 w1,tq⟩,⟨_,rfl,i6 ?_⟩,tq⟩;rw[e2,e3,Zd,Ze,Zi];exact hset
  ·rw[w1]at h;obtain rfl:i=7:=(by omega);refine⟨[],_,_,_,_,Ma,rfl,rfl,?_⟩;have hm:jR.length=32:=rfl;have h8:=kT x 8;refine⟨[],_,_,_,_,nG (b:=N5 x 8) (t:=jR) (n:=32) ?_ (H7 hm) h8 hm (by decide) (by decide) (by decide) (by decide +kernel),rfl,rfl,?_⟩
   ·show sub ((bv (N5 x 7)).set _ _) 0 4=_;rw[e2,e3];exact(congrArg (fun l=>sub l 0 4) hset).trans (g8 h8)
   refine⟨_,rfl,[.d 83 0],rfl,⟨_,rfl,i6 ?_⟩,tq⟩;rw[dF,hxe]
def aE (t:List Nat) (n:Nat):List Nat:=(List.range n).foldl (fun o i=>o.set (t.getD i 0-1) (i+1)) (Zk t.length 0)
theorem vV (t n):aE t (n+1)=(aE t n).set (t.getD n 0-1) (n+1):=by simp[aE,Zo]
theorem oy (t n):(aE t n).length=t.length:=by
 induction n with
 |zero=>simp[aE]
 |succ n ih=>rw[vV,Zs,ih]
def cg:List Nat:=aE A5 64
theorem Cu:∀i,i<64->1<=A5.getD i 0/\A5.getD i 0<=64/\(aE A5 i).getD (A5.getD i 0-1) 0=0:=by decide +kernel
theorem P3:A5.length=64:=by decide +kernel
theorem Dw (l:List Nat) (i x:Nat):(nv l).set i (.int .i64 (x:Int))=nv (l.set i x):=by simp[nv,List.map_set]
theorem Dv (n:Nat):Zk n (Value.int .i64 0)=nv (Zk n 0):=by simp[nv]
theorem LR {vt:List Value} (hv:vt=nv A5):b9 C 188 [.z 64 vt] [] (.ret (.t [.o 1 (.k 0) 0 64,bool true])) [.sc (nv cg)]:=by
 subst hv;refine Qu.c ?_;refine⟨by decide,by decide,by decide,?_⟩;refine m9 (fun i=>⟨[(0,.z 64 (nv A5)),(4,.o 1 (.k 0) 0 64),(12,i64 64),(13,i64 i)],[.sc (nv (aE A5 i))]⟩) 64 ⟨[.d 10 0],⟨rfl,rfl,rfl,rfl,tq⟩,⟨_,rfl,i6 ?_⟩,tq⟩ fun i hi=> ?_
 ·show Zk 64 _=_;rw[Dv,aE,P3];rfl
 refine d9 (fun h=> ?_) (fun h=> ?_)
 ·have d8:i<64:=(by omega);obtain⟨g1,g2,g3⟩:=Cu i d8;refine⟨by omega,by omega,?_⟩;refine⟨_,by rw[Zd];exact Y6 (by rw[P3];omega),?_⟩;refine d9 (fun h=> ?_) (fun h=> ?_)
  ·omega
  refine d9 (fun h=> ?_) (fun h=> ?_)
  ·omega
  have e1:I6.wrap (((A5.getD i 0:Nat):Int)-1)=((A5.getD i 0-1:Nat):Int):=by rw[Za _ (by omega)];omega
  refine⟨by rw[e1];omega,by rw[e1];omega,?_⟩;refine⟨_,by rw[e1,Zd,Ze,Zi];exact Y6 (by rw[oy,P3];omega),?_⟩;refine d9 (fun h=> ?_) (fun h=> ?_)
  ·rw[g3]at h;omega
  refine⟨by rw[e1];omega,by rw[e1];omega,by rw[e1,L6,oy,P3];omega,?_⟩;have w1:I6.wrap ((i:Int)+1)=((i+1:Nat):Int):=by rw[Za _ (by omega)];omega
  refine⟨i+1,by omega,by omega,[.k 0],⟨rfl,rfl,rfl,f8 w1,tq⟩,⟨_,rfl,i6 ?_⟩,tq⟩;rw[e1,w1,Zd,Ze,Zi,Dw,vV]
 ·obtain rfl:i=64:=(by omega);refine⟨by decide,by decide,by decide,?_⟩;have hl:(aE A5 64).length=64:=by rw[oy,P3]
  refine⟨by rw[L6,hl];decide,by decide,?_⟩;refine⟨_,rfl,[.d 45 0],rfl,⟨_,rfl,i6 ?_⟩,tq⟩;show(Zk 64 (Value.int .i64 0)).take 0++(sub (nv (aE A5 64)) 0 64).take 64++(Zk 64 (Value.int .i64 0)).drop 64=_;have ht:(nv (aE A5 64)).take 64=nv (aE A5 64):=Jc (by rw[L6,hl];decide);have hd:(Zk 64 (Value.int .i64 0)).drop 64=[]:=rfl;rw[H7 hl,ht,hd,List.take_zero,Zl,Jg];rfl
def kD (i:Nat):Nat:=if i<2\/i=8\/i=15 then 1 else 2
def mV (t:List Nat) (s:Nat):List Nat:=(t.take 28).drop s++(t.take 28).take s++(t.drop 28).drop s++(t.drop 28).take s
def O7:Nat->List Nat
 |0=>dc
 |i+1=>mV (O7 i) (kD i)
def eN (i n:Nat):List Nat:=(List.range n).map fun j=>(O7 (i+1)).getD (aM.getD j 0-1) 0
def aD (key:Bs) (i:Nat):Bs:=E7 (eN i 48) key
def G0 (key:Bs) (n:Nat):List (Bs):=(List.range n).map (aD key)
def kV (l:List (Bs)):List V:=l.map fun k=> .z 6 (bv k)
theorem kX:∀i,i<17->(O7 i).length=56:=by decide +kernel
theorem xG:∀j,j<48->1<=aM.getD j 0/\aM.getD j 0<=56:=by decide +kernel
theorem sF:aM.length=48:=by decide +kernel
theorem PW:∀i,i<16->∀j,j<48->1<=(eN i 48).getD j 0/\(eN i 48).getD j 0<=64:=by decide +kernel
theorem nV (i n):(eN i n).length=n:=by simp[eN]
theorem PX (i n):eN i (n+1)=eN i n++[(O7 (i+1)).getD (aM.getD n 0-1) 0]:=by simp[eN,Zo]
theorem Bb (key n):G0 key (n+1)=G0 key n++[aD key n]:=by simp[G0,Zo]
theorem gT (key n):(G0 key n).length=n:=by simp[G0]
theorem uW (key i):(aD key i).length=6:=by rw[aD,ff,nV]
theorem cI (l):(kV l).length=l.length:=by simp[kV]
theorem ma (H d7) (l):(kV l).map (p5 H d7 6)=kV l:=by
 unfold kV;rw[List.map_map];exact List.map_congr_left fun _ _=>rfl
theorem a1V {t:List Nat} {s:Nat} (ht:t.length=56) (hs:s<=28):
  sub (nv (sub t 0 28)) s (28-s)++sub (nv (sub t 0 28)) 0 s++sub (nv (sub t 28 28)) s (28-s)++sub (nv (sub t 28 28)) 0 s=nv (mV t s):=by
 rw[bd,bd,bd,bd,gf,gf,gf];congr 1;have e1:sub t 28 28=t.drop 28:=M9 _ _ _ (by omega);have e0:sub t 0 28=t.take 28:=rfl;rw[e1,e0,mV];rw[M9 (t.take 28) s (28-s) (by rw[Zh];omega),M9 (t.drop 28) s (28-s) (by rw[Zf];omega)];rfl
theorem a1U {t:List Nat} {s:Nat} (ht:t.length=56) (hs:s<=28):
  sub (sub (sub (sub (sub (nv t) 0 28) s (28-s)++sub (sub (nv t) 0 28) 0 s) 0 28++sub (sub (nv t) 28 28) s (28-s)) 0 (28+(28-s))++sub (sub (nv t) 28 28) 0 s) 0 56=nv (mV t s):=by
 have l0:(sub (nv t) 0 28).length=28:=by rw[m5,L6,ht];rfl
 have l1:(sub (nv t) 28 28).length=28:=by rw[m5,L6,ht];rfl
 have a:sub (sub (sub (nv t) 0 28) s (28-s)++sub (sub (nv t) 0 28) 0 s) 0 28=sub (sub (nv t) 0 28) s (28-s)++sub (sub (nv t) 0 28) 0 s:=C3 (by simp only[Zb,m5,L6,ht];omega);rw[a];have b:sub (sub (sub (nv t) 0 28) s (28-s)++sub (sub (nv t) 0 28) 0 s++sub (sub (nv t) 28 28) s (28-s)) 0 (28+(28-s))=sub (sub (nv t) 0 28) s (28-s)++sub (sub (nv t) 0 28) 0 s++sub (sub (nv t) 28 28) s (28-s):=C3 (by simp only[Zb,m5,L6,ht];omega);rw[b,C3 (by simp only[Zb,m5,L6,ht];omega)];rw[bd t 0 28,bd t 28 28];exact a1V ht hs
theorem CD (H d7) (l) (n):(kV l).map (F7 H d7 (n+1))=kV l:=by
 unfold kV;rw[List.map_map];exact List.map_congr_left fun _ _=>rfl
def Bg (key:Bs) (i:Nat):B:=match i with
 |0=> .pl []
 |i+1=> .mx (kV (G0 key (i+1)))
theorem zF {va:List Value} {key:Bs} (ha:va=bv key) (hk:key.length=8):b9 C 126 [.z 8 va] [] (.ret (.t [.zz 1 16 (kV (G0 key 16)),i64 0])) []:=by
 subst ha;refine Rk.c ?_;refine⟨[],_,_,_,_,JJ,rfl,rfl,?_⟩;refine⟨by decide,by decide,by decide,?_⟩;refine m9 (fun i=>⟨[(0,.z 8 (bv key)),(4,.z 56 (nv (O7 i))),(5,.z 48 (nv aM)),(6,.o 1 (.k 0) 0 i),(24,i64 i)],[Bg key i]⟩) 16 ⟨[.d 23 0],⟨rfl,?_,?_,rfl,rfl,tq⟩,⟨_,rfl,rfl⟩,tq⟩ fun i hi=> ?_
 ·show V.z 56 (sub (nv dc) 0 56)=_;rw[H7 (by decide +kernel)];rfl
 ·show V.z 48 (sub (nv aM) 0 48)=_;rw[H7 (by decide +kernel)]
 refine d9 (fun h=> ?_) (fun h=> ?_)
 ·have d8:i<16:=(by omega);have ht:=kX i (by omega);have l0:(sub (nv (O7 i)) 0 28).length=28:=by rw[m5,L6,ht];rfl
  have l1:(sub (nv (O7 i)) 28 28).length=28:=by rw[m5,L6,ht];rfl
  refine d9 (fun h1=> ?_) (fun h1=>i7 (fun h2=> ?_) (fun h2=>i7 (fun h3=> ?_) (fun h3=> ?_)));all_goals
   first
    |have hs:O7 (i+1)=mV (O7 i) 1:=by rw[O7,kD,if_pos (by omega)]
    |have hs:O7 (i+1)=mV (O7 i) 2:=by rw[O7,kD,if_neg (by omega)]
   refine⟨by decide,by decide,by decide,by decide,?_⟩;refine⟨[],_,_,_,_,um (n:=28) (va:=sub (nv (O7 i)) 0 28) l0 (by decide) (by decide),rfl,rfl,?_⟩;refine⟨by decide,by decide,by decide,by decide,?_⟩;refine⟨[],_,_,_,_,um (n:=28) (va:=sub (nv (O7 i)) 28 28) l1 (by decide) (by decide),rfl,rfl,?_⟩;refine⟨by decide,by decide,by decide,by decide,?_⟩;refine⟨by decide,by decide,by decide,by decide,?_⟩;refine⟨(by first|decide|(simp only[Zb,m5,l0,l1];decide)),(by first|decide|(simp only[Zb,m5,l0,l1];decide)),(by first|decide|(simp only[Zb,m5,l0,l1];decide)),?_⟩;refine⟨by decide,by decide,by decide,by decide,?_⟩;refine⟨(by first|decide|(simp only[Zb,m5,l0,l1];decide)),(by first|decide|(simp only[Zb,m5,l0,l1];decide)),(by first|decide|(simp only[Zb,m5,l0,l1];decide)),?_⟩;refine⟨by decide,by decide,by decide,by decide,?_⟩;refine⟨(by first|decide|(simp only[Zb,m5,l0,l1];decide)),(by first|decide|(simp only[Zb,m5,l0,l1];decide)),(by first|decide|(simp only[Zb,m5,l0,l1];decide)),?_⟩;refine E9 (fun j=>⟨[(0,.z 8 (bv key)),(4,.z 56 (nv (O7 (i+1)))),(5,.z 48 (nv aM)),(6,.o 1 (.k 0) 0 i),(11,.o 1 (.k 1) 0 j),(24,i64 i),(58,.z 48 (nv aM)),(59,i64 48),(60,i64 j)],[Bg key i,.sc (nv (eN i j))]⟩) 48 [(11,1,.sc [])] ⟨[.k 0,.d 900000 0],⟨rfl,?_,rfl,rfl,rfl,rfl,rfl,rfl,rfl,tq⟩,⟨_,rfl,?_⟩,⟨_,rfl,rfl⟩,tq⟩ fun j hj=> ?_
   ·rw[hs];exact congrArg (V.z 56) (a1U ht (by decide))
   ·rcases i with _|i
    ·rfl
    ·show B.mx ((kV _).map _)=_;rw[ma];rfl
   refine d9 (fun h=> ?_) (fun h=> ?_)
   ·have hj':j<48:=(by omega);obtain⟨g1,g2⟩:=xG j hj';have e1:I6.wrap (((aM.getD j 0:Nat):Int)-1)=((aM.getD j 0-1:Nat):Int):=by rw[Za _ (by omega)];omega
    refine⟨by omega,by omega,?_⟩;refine⟨_,by rw[Zd];exact Y6 (by rw[sF];omega),?_⟩;refine⟨by rw[e1];omega,by rw[e1];omega,?_⟩;refine⟨_,by rw[e1,Zd];exact Y6 (by rw[kX _ (by omega)];omega),?_⟩;refine⟨Zg _,by omega,by rw[L6,nV];omega,?_⟩;refine⟨j+1,by omega,by omega,[.k 0,.d 71 0],⟨rfl,rfl,rfl,rfl,rfl,rfl,rfl,rfl,f8 (by simp(disch:=omega)only[Za];omega),tq⟩,⟨_,rfl,?_⟩,⟨_,rfl,i6 ?_⟩,tq⟩
    ·rcases i with _|i
     ·rfl
     ·show B.mx ((kV _).map _)=_;rw[ma];rfl
    ·rw[PX];exact jI (by rw[nV,Ze])
   ·obtain rfl:j=48:=(by omega);refine⟨[],_,_,_,_,nG (b:=key) (t:=eN i 48) (n:=48) rfl (H7 (nV _ _)) hk (nV _ _) (by decide) (by decide) (by decide) (fun j hj=>PW i d8 j hj),rfl,rfl,?_⟩;have w1:I6.wrap ((i:Int)+1)=((i+1:Nat):Int):=by rw[Za _ (by omega)];omega
    have hz:V.z 6 (sub (bv (aD key i)) 0 6)= .z 6 (bv (aD key i)):=by rw[g8 (uW _ _)]
    rcases i with _|i
    ·refine⟨by decide,by decide,by decide,?_⟩;refine⟨1,by omega,by omega,[.d 82 0],⟨rfl,rfl,rfl,rfl,rfl,tq⟩,⟨_,rfl,?_⟩,tq⟩;exact congrArg (fun z=>B.mx [z]) hz
    ·refine⟨by decide,by omega,by rw[cI,gT];omega,?_⟩;refine⟨i+1+1,by omega,by omega,[.d 82 0],⟨rfl,rfl,rfl,rfl,f8 w1,tq⟩,⟨_,rfl,?_⟩,tq⟩;show B.mx (Jt (p5 _ _ 6) (sub (kV (G0 key (i+1))) 0 ((i+1)*1)++[V.o 1 _ _ _]))= .mx (kV (G0 key (i+1+1)));rw[Ze,C3 (by rw[cI,gT]),Zu,ma,Bb key (i+1),show kV (G0 key (i+1)++[aD key (i+1)])=kV (G0 key (i+1))++[V.z 6 (bv (aD key (i+1)))] from Zu];exact congrArg (fun z=>B.mx (kV (G0 key (i+1))++[z])) hz
 ·obtain rfl:i=16:=(by omega);refine⟨_,rfl,[],?_,tq⟩;exact congrArg (fun z=>V.t [V.zz 1 16 z,i64 0]) ((congrArg (Jt _) (C3 (by rw[cI,gT]))).trans (CD _ _ _ 2))
theorem ro {l:List (Bs)} {j:Nat} {x:Bs} (h:l[j]? =some x):(kV l)[j]? =some (.z 6 (bv x)):=by simp[kV,h]
theorem CB (l:List (Bs)) (i:Nat) (x:Bs):(kV l).set i (.z 6 (bv x))=kV (l.set i x):=by simp[kV,List.map_set]
theorem ul {n:Nat} {l:List (Bs)} {xs:List V} (hx:xs=kV l) (hn:l.length=n) (h0:0<n) (hm:n<=1000000):b9 C 127 [.zz 1 n xs] [] (.ret (.o 1 (.k 0) 0 n)) [.pl (kV l)]:=by
 subst hx;refine Vd.c ?_;refine .inl ⟨h0,?_⟩;refine⟨by rw[cI,hn,Ze],by omega,by decide,?_⟩;refine⟨_,rfl,[.d 7 0],?_,⟨_,rfl,?_⟩,tq⟩
 ·rw[Zi];rfl
 ·rfl
theorem uD {n:Nat} {l:List (Bs)} (hn:l.length=n) (h0:0<n) (hm:n<=1073741824):b9 C 128 [.o 1 (.k 0) 0 n] [.pl (kV l)] (.ret (.t [])) [.pl (kV l.reverse)]:=by
 subst hn;refine Vl.c ?_;refine m9 (fun i=>⟨[(0,.o 1 (.k 0) 0 l.length),(2,i64 i),(3,i64 (l.length-1-i))],[.pl (kV (aw l i))]⟩) l.length ⟨[.k 0],⟨rfl,rfl,f8 (by simp(disch:=omega)only[Za];omega),tq⟩,⟨_,rfl,congrArg B.pl (by rw[Eu])⟩,tq⟩ fun i hi=> ?_;refine d9 (fun h=> ?_) (fun h=> ?_)
 ·have d8:i<l.length-1-i:=(by omega);have e1:0+((l.length:Int)-1-i).toNat*1=l.length-1-i:=(by omega);have e2:0+((i:Int)).toNat*1=i:=(by omega);refine⟨by omega,by omega,_,by rw[e1];exact ro (sm l i (l.length-1-i) (by omega) (by omega) (by omega)),?_⟩;refine⟨by omega,by omega,_,by rw[e2];exact ro (sm l i i (by omega) (by omega) (by omega)),?_⟩;refine⟨by omega,by omega,by rw[e2,cI,gq];show i+1<=_;omega,by omega,by omega,?_,?_⟩
  ·rw[e1,e2];show l.length-1-i+1<=((kV (aw l i)).set _ _).length;rw[Zs,cI,gq];omega
  refine⟨i+1,by omega,by omega,[.k 0],⟨rfl,f8 (by simp(disch:=omega)only[Za];omega),f8 (by simp(disch:=omega)only[Za];omega),tq⟩,⟨_,rfl,congrArg B.pl ?_⟩,tq⟩;rw[e1,e2];show((kV (aw l i)).set _ _).set _ _=_;rw[CB,CB,Et l i d8]
 ·refine⟨_,rfl,[.k 0],rfl,⟨_,rfl,congrArg B.pl ?_⟩,tq⟩;rw[Es l i (by omega)]
abbrev L2:=Bs×Bs
def fL (x:L2) (k:Bs):L2:=(x.2,j9 x.1 (dF x.2 k))
def dN (ks:List (Bs)) (x:L2) (n:Nat):L2:=(List.range n).foldl (fun x i=>fL x (ks.getD i [])) x
def B2 (b:Bs):L2:=(sub (E7 A5 b) 0 4,sub (E7 A5 b) 4 4)
def G8 (ks:List (Bs)) (b:Bs):Bs:=E7 cg ((dN ks (B2 b) ks.length).2++(dN ks (B2 b) ks.length).1)
def iB (ks:List (Bs)):Prop:=∀i,i<ks.length->(ks.getD i []).length=6
theorem nS (ks x n):dN ks x (n+1)=fL (dN ks x n) (ks.getD n []):=by simp[dN,Zo]
theorem fK (r k):(dF r k).length=4:=by rw[dF,ff];rfl
theorem qm {ks x} (h1:x.1.length=4) (h2:x.2.length=4):∀n,(dN ks x n).1.length=4/\(dN ks x n).2.length=4
 |0=>⟨h1,h2⟩
 |n+1=>by
  obtain⟨a,b⟩:=qm (ks:=ks) h1 h2 n;rw[nS];exact⟨b,B5 a (fK _ _)⟩
theorem nR (b):(B2 b).1.length=4/\(B2 b).2.length=4:=by
 have:(E7 A5 b).length=8:=by rw[ff,P3]
 constructor<;>(simp only[B2,m5];omega)
theorem xI:∀i,i<64->1<=A5.getD i 0/\A5.getD i 0<=8*8:=by decide +kernel
theorem xH:∀i,i<64->1<=cg.getD i 0/\cg.getD i 0<=8*8:=by decide +kernel
theorem iS:cg.length=64:=by decide +kernel
theorem getD_some {α:Type} {l:List α} {i:Nat} {d:α} (h:i<l.length):l[i]? =some (l.getD i d):=by simp[Zc,h]
theorem kJ {va:List Value} {xs:List V} {b:Bs} {ks:List (Bs)} {n:Nat} (ha:va=bv b) (hx:xs=kV ks) (hb:b.length=8) (hn:ks.length=n) (hm:n<=1000) (hk:iB ks):
  b9 C 129 [.z 8 va,.zz 1 n xs] [] (.ret (.o 1 (.k 0) 0 8)) [.sc (bv (G8 ks b))]:=by
 subst ha;subst hx;have hl:=qm (ks:=ks) (nR b).1 (nR b).2;refine Rp.c ?_;refine bn 0 rfl (n+1) (fun i=>⟨[(1,.zz 1 n (kV ks)),(5,.z 64 (nv A5)),(6,.z 4 (bv (dN ks (B2 b) i).1)),(7,.z 4 (bv (dN ks (B2 b) i).2)),(8,i64 i)],[]⟩) ?_ fun i hi=> ?_
 ·refine⟨[],_,_,_,_,LG,rfl,rfl,?_⟩;refine⟨[],_,_,_,_,nG (b:=b) (t:=A5) (n:=64) rfl (H7 P3) hb P3 (by decide) (by decide) (by decide) xI,rfl,rfl,?_⟩;refine⟨by decide,by decide,by decide,by decide,?_⟩;refine⟨by decide,by decide,by decide,by decide,?_⟩;refine⟨[],0,by omega,[],⟨rfl,?_,?_,?_,rfl,tq⟩,tq⟩
  ·show V.z 64 (sub (nv A5) 0 64)=_;rw[H7 P3]
  ·exact congrArg (V.z 4) (o6 _ _ _)
  ·exact congrArg (V.z 4) (o6 _ _ _)
 refine d9 (fun h=> ?_) (fun h=> ?_)
 ·have d8:i<n:=(by omega);refine⟨by omega,by omega,_,by rw[Zd,Ze];exact ro (getD_some (d:=[]) (by omega)),?_⟩;refine⟨[],_,_,_,_,Lu (r:=(dN ks (B2 b) i).2) (k:=ks.getD i []) rfl rfl (hl i).2 (hk i (by omega)),rfl,rfl,?_⟩;refine⟨[],_,_,_,_,N4 (a:=(dN ks (B2 b) i).1) (b:=dF (dN ks (B2 b) i).2 (ks.getD i [])) rfl (g8 (fK _ _)) (hl i).1 (fK _ _) (by decide),rfl,rfl,?_⟩;refine⟨rfl,i+1,by omega,by omega,[],⟨rfl,rfl,?_,?_,f8 (by simp(disch:=omega)only[Za];omega),tq⟩,tq⟩
  ·rw[nS];rfl
  ·rw[nS];show V.z 4 (sub (bv _) 0 4)=_;rw[g8 (B5 (hl i).1 (fK _ _))];rfl
 ·obtain rfl:i=n:=(by omega);refine⟨[],_,_,_,_,LR rfl,rfl,rfl,?_⟩;refine⟨[],_,_,_,_,eB (n:=2) (ls:=[(dN ks (B2 b) i).2,(dN ks (B2 b) i).1]) (t:=(dN ks (B2 b) i).2++(dN ks (B2 b) i).1) (by simp) ?_ rfl (by rw[Zb,(hl i).1,(hl i).2];decide) (by rw[Zb,(hl i).1,(hl i).2];decide),rfl,rfl,?_⟩
  ·show[V.z 4 _,V.z 4 _]=[V.z _ _,V.z _ _];rw[(hl i).1,(hl i).2]
  have h8:((dN ks (B2 b) i).2++(dN ks (B2 b) i).1).length=8:=by rw[Zb,(hl i).1,(hl i).2]
  refine⟨[],_,_,_,_,nG (b:=(dN ks (B2 b) i).2++(dN ks (B2 b) i).1) (t:=cg) (l:=((dN ks (B2 b) i).2++(dN ks (B2 b) i).1).length) (n:=64) (g8 rfl) (H7 iS) rfl iS (by rw[h8];decide) (by decide) (by decide) (by rw[h8];exact xH),rfl,rfl,?_⟩;refine⟨_,rfl,[.d 58 0],rfl,⟨_,rfl,i6 ?_⟩,tq⟩;rw[G8,hn]
def I9 (l:List (List (Bs))):List V:=l.map fun k=> .zz 1 16 (kV k)
theorem cJ (l):(I9 l).length=l.length:=by simp[I9]
theorem ii {l:List (List (Bs))} {j:Nat} {x} (h:l[j]? =some x):(I9 l)[j]? =some (.zz 1 16 (kV x)):=by simp[I9,h]
abbrev dB (ks:List (List (Bs))):V:= .q [.zz 1 ks.length (I9 ks)] 0
def jv (ks:List (List (Bs))) (back:Bool) (b:Bs) (i:Nat):Bs:=
 G8 (if back != decide (i=1)then (if back then ks.getD (ks.length-1-i) []else ks.getD i []).reverse else (if back then ks.getD (ks.length-1-i) []else ks.getD i [])) b
def N9 (ks:List (List (Bs))) (back:Bool) (b:Bs) (n:Nat):Bs:=(List.range n).foldl (jv ks back) b
def wE (ks:List (List (Bs))):Prop:=ks.length<=3/\∀i,i<ks.length->(ks.getD i []).length=16/\iB (ks.getD i [])
theorem nU (ks b):(G8 ks b).length=8:=by rw[G8,ff,iS]
theorem ql (ks back b n):N9 ks back b (n+1)=jv ks back (N9 ks back b n) n:=by simp[N9,Zo]
theorem uU {ks back b} (h:b.length=8):∀n,(N9 ks back b n).length=8
 |0=>h
 |n+1=>by rw[ql];exact nU _ _
theorem rR {ks} (h:iB ks):iB ks.reverse:=by
 intro i hi;have hi':i<ks.length:=by simpa using hi
 have e:ks.reverse.getD i []=ks.getD (ks.length-1-i) []:=by
  rw[Zc,Jo hi',Zc]
 rw[e];exact h _ (by omega)
def dD (ks:List (List (Bs))) (back:Bool) (b:Bs) (i:Nat):D:=match i with
 |0=>⟨[(0,dB ks),(1,.z 8 (bv b)),(2,bool back),(18,i64 ks.length),(19,i64 0)],[]⟩
 |i+1=>⟨[(0,dB ks),(1,.o 1 (.k 0) 0 8),(2,bool back),(18,i64 ks.length),(19,i64 (i+1:Nat))],[.sc (bv (N9 ks back b (i+1)))]⟩
theorem Ly {va:List Value} {b:Bs} {ks:List (List (Bs))} {back:Bool} (ha:va=bv b) (hb:b.length=8) (hk:wE ks) (h0:0<ks.length):
  b9 C 79 [dB ks,.z 8 va,bool back] [] (C6 8) [.sc (bv (N9 ks back b ks.length))]:=by
 subst ha;have s3:=uU (ks:=ks) (back:=back) hb;obtain⟨h3,hk⟩:=hk;have hend:∀i k,G8 k (N9 ks back b i)=jv ks back (N9 ks back b i) i->bv (G8 k (N9 ks back b i))=bv (N9 ks back b (i+1)):=fun i k h=>by rw[h,ql]
 refine Br.c ?_;refine⟨_,rfl,?_⟩;refine m9 (dD ks back b) ks.length ⟨[],⟨rfl,rfl,rfl,rfl,rfl,tq⟩,tq⟩ fun i hi=> ?_;rcases i with _|i
 ·refine d9 (fun h=> ?_) (fun h=>absurd h (by omega));obtain⟨k1,k2⟩:=hk 0 h0;refine⟨_,rfl,by omega,by omega,_,ii (getD_some (d:=[]) h0),?_⟩;cases back
  ·skip
   refine⟨[],_,_,_,_,kJ (b:=N9 ks false b 0) (ks:=ks.getD 0 []) (by first|exact g8 (s3 _)|rfl) rfl (s3 _) k1 (by decide) k2,rfl,rfl,?_⟩;refine⟨0+1,by omega,by omega,[.d 55 0],⟨rfl,rfl,rfl,rfl,rfl,tq⟩,⟨_,rfl,i6 (hend _ _ ?_)⟩,tq⟩;rfl
  ·obtain⟨k1,k2⟩:=hk (ks.length-1-0) (by omega);have e1:I6.wrap (I6.wrap ((ks.length:Int)-1)-0)=((ks.length-1-0:Nat):Int):=by
    rw[Za ((ks.length:Int)-1) (by omega),Za _ (by omega)];omega
   refine⟨_,rfl,_,rfl,by rw[e1];omega,by rw[e1];omega,_,by rw[e1,Zd,Ze];exact ii (getD_some (d:=[]) (by omega)),?_⟩;refine⟨[],_,_,_,_,ul rfl k1 (by decide) (by decide),rfl,rfl,?_⟩;refine⟨[.d 50 0],_,_,_,_,uD (l:=ks.getD (ks.length-1-0) []) k1 (by decide) (by decide),rfl,rfl,?_⟩;refine⟨[],_,_,_,_,kJ (b:=N9 ks true b 0) (ks:=(ks.getD (ks.length-1-0) []).reverse) (by first|exact g8 (s3 _)|rfl) (C3 (by rw[cI,Zm,k1])) (s3 _) (by rw[Zm,k1]) (by decide) (rR k2),rfl,rfl,?_⟩;refine⟨0+1,by omega,by omega,[.d 55 0],⟨rfl,rfl,rfl,rfl,rfl,tq⟩,⟨_,rfl,i6 (hend _ _ ?_)⟩,tq⟩;rfl
 refine d9 (fun h=> ?_) (fun h=> ?_)
 ·have d8:i+1<ks.length:=(by omega);have w1:I6.wrap (((i+1:Nat):Int)+1)=((i+1+1:Nat):Int):=by rw[Za _ (by omega)];omega
  have one:(((i+1:Nat):Int)==1)=decide (i+1=1):=by
   by_cases h:i+1=1
   ·rw[h];rfl
   ·rw[decide_eq_false h];exact beq_false_of_ne (by omega)
  obtain⟨k1,k2⟩:=hk (i+1) d8;refine⟨_,rfl,by omega,by omega,_,by rw[Zd,Ze];exact ii (getD_some (d:=[]) d8),?_⟩;cases back
  ·refine iP (fun h1=> ?_) (fun h1=> ?_)
   ·rw[one]at h1;refine⟨[],_,_,_,_,ul rfl k1 (by decide) (by decide),rfl,rfl,?_⟩;refine⟨[.d 50 0],_,_,_,_,uD (l:=ks.getD (i+1) []) k1 (by decide) (by decide),rfl,rfl,?_⟩;refine⟨[],_,_,_,_,kJ (b:=N9 ks false b (i+1)) (ks:=(ks.getD (i+1) []).reverse) (by first|exact g8 (s3 _)|rfl) (C3 (by rw[cI,Zm,k1])) (s3 _) (by rw[Zm,k1]) (by decide) (rR k2),rfl,rfl,?_⟩;refine⟨i+1+1,by omega,by omega,[.d 55 0],⟨rfl,rfl,rfl,rfl,f8 w1,tq⟩,⟨_,rfl,i6 (hend _ _ ?_)⟩,tq⟩;unfold jv;first|(rw [if_pos (show (false != decide (i+1=1))=true from h1)];rfl)|(rw [if_pos (show (true != decide (i+1=1))=true from h1)];rfl)
   ·rw[one]at h1;refine⟨[],_,_,_,_,kJ (b:=N9 ks false b (i+1)) (ks:=ks.getD (i+1) []) (by first|exact g8 (s3 _)|rfl) rfl (s3 _) k1 (by decide) k2,rfl,rfl,?_⟩;refine⟨i+1+1,by omega,by omega,[.d 55 0],⟨rfl,rfl,rfl,rfl,f8 w1,tq⟩,⟨_,rfl,i6 (hend _ _ ?_)⟩,tq⟩;unfold jv;rw[if_neg (by rw[show (false != decide (i+1=1))=false from h1];decide)];rfl
  ·have e1:I6.wrap (I6.wrap ((ks.length:Int)-1)-((i+1:Nat):Int))=((ks.length-1-(i+1):Nat):Int):=by
    rw[Za ((ks.length:Int)-1) (by omega),Za _ (by omega)];omega
   obtain⟨k1,k2⟩:=hk (ks.length-1-(i+1)) (by omega);refine⟨_,rfl,_,rfl,by rw[e1];omega,by rw[e1];omega,_,by rw[e1,Zd,Ze];exact ii (getD_some (d:=[]) (by omega)),?_⟩;refine iP (fun h1=> ?_) (fun h1=> ?_)
   ·rw[one]at h1;refine⟨[],_,_,_,_,ul rfl k1 (by decide) (by decide),rfl,rfl,?_⟩;refine⟨[.d 50 0],_,_,_,_,uD (l:=ks.getD (ks.length-1-(i+1)) []) k1 (by decide) (by decide),rfl,rfl,?_⟩;refine⟨[],_,_,_,_,kJ (b:=N9 ks true b (i+1)) (ks:=(ks.getD (ks.length-1-(i+1)) []).reverse) (by first|exact g8 (s3 _)|rfl) (C3 (by rw[cI,Zm,k1])) (s3 _) (by rw[Zm,k1]) (by decide) (rR k2),rfl,rfl,?_⟩;refine⟨i+1+1,by omega,by omega,[.d 55 0],⟨rfl,rfl,rfl,rfl,f8 w1,tq⟩,⟨_,rfl,i6 (hend _ _ ?_)⟩,tq⟩;unfold jv;first|(rw [if_pos (show (false != decide (i+1=1))=true from h1)];rfl)|(rw [if_pos (show (true != decide (i+1=1))=true from h1)];rfl)
   ·rw[one]at h1;refine⟨[],_,_,_,_,kJ (b:=N9 ks true b (i+1)) (ks:=ks.getD (ks.length-1-(i+1)) []) (by first|exact g8 (s3 _)|rfl) rfl (s3 _) k1 (by decide) k2,rfl,rfl,?_⟩;refine⟨i+1+1,by omega,by omega,[.d 55 0],⟨rfl,rfl,rfl,rfl,f8 w1,tq⟩,⟨_,rfl,i6 (hend _ _ ?_)⟩,tq⟩;unfold jv;rw[if_neg (by rw[show (true != decide (i+1=1))=false from h1];decide)];rfl
 ·have he:i+1=ks.length:=(by omega);refine⟨_,rfl,[.k 0],rfl,⟨_,rfl,i6 ?_⟩,tq⟩;rw[he]
theorem Lx {va:List Value} {ks:List (List (Bs))} {n:Nat} {back:Bool} (hn:n≠8):b9 C 79 [dB ks,.z n va,bool back] [] V5 []:=by
 refine Br.c ?_;refine p6 (fun h=> ?_) (fun h=> ?_)
 ·exact⟨_,rfl,[],rfl,tq⟩
 ·omega
def O6 (key:Bs) (n:Nat):List (List (Bs)):=(List.range n).map fun i=>G0 (sub key (8*i) 8) 16
def I8 (key:Bs) (n:Nat):List (List (Bs)):=if n=2 then O6 key 2++[G0 (sub key 0 8) 16]else O6 key n
theorem Ba (key n):O6 key (n+1)=O6 key n++[G0 (sub key (8*n) 8) 16]:=by simp[O6,Zo]
theorem aW (key n):(O6 key n).length=n:=by simp[O6]
theorem gQ {key n} (h:1<=n/\n<=3):(I8 key n).length=if n=2 then 3 else n:=by
 unfold I8;split
 ·rename_i h;subst h;rw[Zb,aW];rfl
 ·exact aW _ _
theorem uX (key):(G0 key 16).length=16/\iB (G0 key 16):=by
 refine⟨gT _ _,fun i hi=> ?_⟩;rw[gT]at hi;have:(G0 key 16).getD i []=aD key i:=by simp[G0,Zc,hi]
 rw[this,uW]
theorem PO {key n} (h:1<=n/\n<=3):wE (I8 key n)/\0<(I8 key n).length:=by
 have hl:=gQ (key:=key) h;have hm:∀x∈I8 key n,x.length=16/\iB x:=by
  intro x hx;unfold I8 at hx;split at hx
  ·rcases List.mem_append.1 hx with hx|hx
   ·obtain⟨i,_,rfl⟩:=List.mem_map.1 hx;exact uX _
   ·rw[List.mem_singleton.1 hx];exact uX _
  ·obtain⟨i,_,rfl⟩:=List.mem_map.1 hx;exact uX _
 refine⟨⟨by rw[hl];split<;>omega,fun i hi=>hm _ ?_⟩,by rw[hl];split<;>omega⟩;rw[Zc,Zp hi];exact List.getElem_mem hi
def PT (key:Bs) (m n i:Nat):D:=match i with
 |0=>⟨[(0,.z m (bv key)),(4,i64 n),(5,.p (.k 0) 0),(26,i64 n),(27,i64 0)],[.mx [g9]]⟩
 |i+1=>⟨[(0,.z m (bv key)),(4,i64 n),(5,.p (.k 0) 0),(26,i64 n),(27,i64 (i+1:Nat))],[.mx [.o 1 (.k 1) 0 (i+1)],.pl (I9 (O6 key (i+1)))]⟩
theorem zE {va:List Value} {key:Bs} {m n:Nat} (ha:va=bv key) (hk:key.length=m) (hm:m=8*n) (hn:1<=n/\n<=3):b9 C 78 [.z m va] [] (.ret (.t [dB (I8 key n),i64 0])) []:=by
 subst ha;have e1:I6.wrap ((m:Int).tdiv 8)=(n:Int):=by
  rw[Zn (by omega),Za _ (by omega)];omega
 have e2:(m:Int).tmod 8=0:=by rw[Zq (by omega)];omega
 refine Rl.c ?_;refine⟨by decide,by decide,?_⟩;rw[e1,e2];refine d9 (fun h=>absurd h (by omega)) (fun h=> ?_);refine d9 (fun h=>absurd h (by omega)) (fun h=> ?_);refine m9 (PT key m n) n ⟨[.d 25 0],⟨rfl,rfl,rfl,rfl,rfl,tq⟩,⟨_,rfl,rfl⟩,tq⟩ fun i hi=> ?_;rcases i with _|i
 ·refine d9 (fun h=> ?_) (fun h=>absurd h (by omega));refine⟨by decide,by decide,by decide,by decide,by show 8<=m;omega,?_⟩;refine⟨[],_,_,_,_,zF (key:=sub key (8*0) 8) (o6 _ _ _) (by rw[m5];omega),rfl,rfl,?_⟩;refine⟨_,rfl,Zg _,by decide,by decide,?_⟩;refine⟨1,by omega,by omega,[.k 0,.d 48 0],⟨rfl,rfl,rfl,rfl,rfl,tq⟩,⟨_,rfl,?_⟩,⟨_,rfl,?_⟩,tq⟩
  ·rfl
  ·exact congrArg B.pl rfl
 refine d9 (fun h=> ?_) (fun h=> ?_)
 ·have d8:i+1<n:=(by omega);have e3:I6.wrap (8*((i+1:Nat):Int))=((8*(i+1):Nat):Int):=by rw[Za _ (by omega)];omega
  have e4:I6.wrap (8*I6.wrap (((i+1:Nat):Int)+1))=((8*(i+1)+8:Nat):Int):=by
   rw[Za (((i+1:Nat):Int)+1) (by omega),Za _ (by omega)];omega
  refine⟨by rw[e4];omega,by rw[e3];omega,by rw[e3,e4];omega,Zg _,by rw[e4];omega,?_⟩;refine⟨[],_,_,_,_,zF (key:=sub key (8*(i+1)) 8) (va:=sub (bv key) (8*(i+1)) 8) (o6 _ _ _) (by rw[m5];omega),?_,rfl,?_⟩
  ·rw[e3,e4];show[V.z (8*(i+1)+8-8*(i+1)) (sub (bv key) (8*(i+1)) (8*(i+1)+8-8*(i+1)))]=_;rw[Ji]
  refine⟨_,rfl,Zg _,by omega,by rw[cJ,aW];omega,by show 0+0+1<=1;decide,?_⟩;refine⟨i+1+1,by omega,by omega,[.k 0,.d 48 0],⟨rfl,rfl,rfl,rfl,f8 (by simp(disch:=omega)only[Za];omega),tq⟩,⟨_,rfl,rfl⟩,⟨_,rfl,congrArg B.pl ?_⟩,tq⟩;rw[Ze,C3 (by rw[cJ,aW]),Ba key (i+1)];exact(Zu (f:=fun k=>V.zz 1 16 (kV k)) (l₁:=O6 key (i+1)) (l₂:=[G0 (sub key (8*(i+1)) 8) 16])).symm
 ·have hin:i+1=n:=(by omega);refine i7 (fun h=> ?_) (fun h=> ?_)
  ·obtain rfl:i=1:=(by omega);subst hin;have hl:=gQ (key:=key) hn;refine⟨_,rfl,_,rfl,by decide,by decide,_,rfl,Zg _,by decide,by rw[cJ,aW];decide,by show 0+0+1<=1;decide,?_⟩;refine⟨_,rfl,[],?_,tq⟩;show V.t [V.q [V.zz 1 3 (sub (sub (I9 (O6 key 2)) 0 2++I9 [G0 (sub key 0 8) 16]) 0 3)] 0,i64 0]=V.t [V.q [V.zz 1 (I8 key 2).length (I9 (I8 key 2))] 0,i64 0];have e:sub (sub (I9 (O6 key 2)) 0 2++I9 [G0 (sub key 0 8) 16]) 0 3=I9 (I8 key 2):=by
    rw[C3 (l:=I9 (O6 key 2)) (by rw[cJ,aW]),I8,if_pos rfl,C3 (by rw[Zb,cJ,aW];rfl)];exact(Zu (f:=fun k=>V.zz 1 16 (kV k)) (l₁:=O6 key 2) (l₂:=[G0 (sub key 0 8) 16])).symm
   rw[hl,if_pos rfl];exact congrArg (fun z=>V.t [V.q [V.zz 1 3 z] 0,i64 0]) e
  ·have hl:=gQ (key:=key) hn;rw[if_neg (by omega)]at hl;refine⟨_,rfl,[],?_,tq⟩;show V.t [V.q [V.zz 1 (i+1) (sub (I9 (O6 key (i+1))) 0 ((i+1)*1))] 0,i64 0]=V.t [V.q [V.zz 1 (I8 key n).length (I9 (I8 key n))] 0,i64 0];rw[hl,hin];have e:sub (I9 (O6 key n)) 0 (n*1)=I9 (I8 key n):=by
    rw[I8,if_neg (by omega),C3 (by rw[cJ,aW,Ze])]
   exact congrArg (fun z=>V.t [V.q [V.zz 1 n z] 0,i64 0]) e
theorem zW {va:List Value} {b:Bs} {l n:Nat} {x:Int} (hx:x=n) (ha:va=bv b) (hl:b.length=l) (hm:l<=1000000) (h1:1<=n) (h2:n<=8*l):b9 C 262 [.z l va,i64 x] [] (.ret (i64 ((tb b (n-1)).toNat:Nat))) []:=by
 subst ha;subst hx;have e0:I6.wrap ((n:Int)-1)=((n-1:Nat):Int):=by rw[Za _ (by omega)];omega
 have e1:I6.wrap ((I6.wrap ((n:Int)-1)).tdiv 8)=(((n-1)/8:Nat):Int):=by
  rw[e0,Zn (by omega),Za _ (by omega)];omega
 have e2:IntKind.u64.wrap (I6.wrap (7-(I6.wrap ((n:Int)-1)).tmod 8))=((7-(n-1)%8:Nat):Int):=by
  rw[e0,Zq (by omega),Za _ (by omega),G3];omega
 have e3:I6.wrap (8*(l:Int))=((8*l:Nat):Int):=by rw[Za _ (by omega)];omega
 refine Tx.c ?_;refine d9 (fun h=> ?_) (fun h=> ?_)
 ·omega
 refine d9 (fun h=> ?_) (fun h=> ?_)
 ·rw[e3]at h;omega
 refine⟨by decide,by rw[e1];omega,by rw[e1];omega,?_⟩;refine⟨_,by rw[e1,Zd];exact p9 (by omega),?_⟩;refine⟨by decide,by rw[e2];omega,?_⟩;refine⟨_,rfl,[],f8 ?_,tq⟩;rw[e2];exact za _ (UInt8.toNat_lt _) _ (by omega)
theorem Yo:∀k,k<8->U8.wrap (1*2^(min ((k:Nat):Int).toNat U8.bits))=(((Zt (true.toNat*2^k)).toNat:Nat):Int):=by decide +kernel
theorem Yb {t:List Nat} {b:Bs} {i:Nat} (h:tb b (t.getD i 0-1)=false):S3 t b (i+1)=S3 t b i:=by
 unfold S3;congr 1;funext j;unfold fh;by_cases hj:j=i
 ·rw[hj,h];simp
 ·congr 1;exact decide_eq_decide.2 (by omega)
theorem MU {va vt:List Value} {b:Bs} {t:List Nat} {l n:Nat} (ha:va=bv b) (hvt:vt=nv t) (hl:b.length=l) (ht:t.length=n) (hm:l<=1000000) (hn:n<=1000000) (h8:n%8=0) (hall:∀i,i<n->1<=t.getD i 0/\t.getD i 0<=8*l):b9 C 220 [.z l va,.z n vt] [] (.ret (.t [.o 1 (.k 0) 0 (n/8),bool true])) [.sc (bv (E7 t b))]:=by
 subst ha;subst hvt;subst ht;have e0:I6.wrap ((I6.wrap ((t.length:Int)+7)).tdiv 8)=((t.length/8:Nat):Int):=by
  rw[Za ((t.length:Int)+7) (by omega),Zn (by omega),Za _ (by omega)];omega
 have e8:I6.wrap (8*(l:Int))=((8*l:Nat):Int):=by rw[Za _ (by omega)];omega
 refine TS.c ?_;refine⟨by decide,?_⟩;rw[e0];refine⟨by omega,by omega,by omega,?_⟩;refine m9 (fun i=>⟨[(0,.z l (bv b)),(1,.z t.length (nv t)),(6,.o 1 (.k 0) 0 (t.length/8)),(7,i64 i)],[.sc (bv (S3 t b i))]⟩) t.length ⟨[.d 12 0],⟨rfl,rfl,rfl,rfl,tq⟩,⟨_,rfl,i6 ?_⟩,tq⟩ fun i hi=> ?_
 ·show Zk ((t.length/8:Nat):Int).toNat (Value.int .u8 0)=_;rw[Zd,DT,U4]
 refine d9 (fun h=> ?_) (fun h=> ?_)
 ·have d8:i<t.length:=(by omega);obtain⟨g1,g2⟩:=hall i d8;refine⟨by omega,by omega,?_⟩;refine⟨_,by rw[Zd];exact Y6 d8,?_⟩;refine d9 (fun h=> ?_) (fun h=> ?_)
  ·omega
  refine⟨by omega,by omega,?_⟩;refine⟨_,by rw[Zd];exact Y6 d8,?_⟩;refine d9 (fun h=> ?_) (fun h=> ?_)
  ·rw[e8]at h;omega
  have e2:I6.wrap ((i:Int).tdiv 8)=((i/8:Nat):Int):=by
   rw[Zn (by omega),Za _ (by omega)];omega
  have e3:IntKind.u64.wrap (I6.wrap (7-(i:Int).tmod 8))=((7-i%8:Nat):Int):=by
   rw[Zq (by omega),Za _ (by omega),G3];omega
  refine⟨by omega,by omega,?_⟩;refine⟨_,by rw[Zd];exact Y6 d8,?_⟩;refine⟨[],_,_,_,_,zW (b:=b) rfl rfl hl hm g1 g2,rfl,rfl,?_⟩;refine i7 (fun h=> ?_) (fun h=> ?_)
  ·have htb:tb b (t.getD i 0-1)=true:=by
    cases he:tb b (t.getD i 0-1)
    ·rw[he]at h;exact absurd h (by decide)
    ·rfl
   refine⟨by decide,by decide,by rw[e2];omega,by rw[e2];omega,?_⟩;refine⟨_,by rw[e2,Zd,Ze,Zi];exact p9 (by rw[jL];omega),?_⟩;refine⟨by decide,by rw[e3];omega,by rw[e2];omega,by rw[e2];omega,by rw[e2,j6,jL];omega,?_⟩;refine⟨i+1,by omega,by omega,[.k 0],⟨rfl,rfl,rfl,f8 (by simp(disch:=omega)only[Za];omega),tq⟩,⟨_,rfl,i6 ?_⟩,tq⟩;have hs:=DS (t:=t) (b:=b) (i:=i) d8 (by omega);rw[htb]at hs;rw[e2,e3,Zd,Ze,Zi,Yo _ (by omega),sK,L4,hs]
  ·have htb:tb b (t.getD i 0-1)=false:=by
    cases he:tb b (t.getD i 0-1)
    ·rfl
    ·rw[he]at h;exact absurd rfl h
   refine⟨i+1,by omega,by omega,[.k 0],⟨rfl,rfl,rfl,f8 (by simp(disch:=omega)only[Za];omega),tq⟩,⟨_,rfl,i6 ?_⟩,tq⟩;rw[Yb htb]
 ·obtain rfl:i=t.length:=(by omega);refine⟨_,rfl,[.k 0],rfl,⟨_,rfl,i6 ?_⟩,tq⟩;rw[DR]
theorem kG {va vt:List Value} {b:Bs} {t:List Nat} {l n:Nat} (ha:va=bv b) (hvt:vt=nv t) (hl:b.length=l) (ht:t.length=n) (hm:l<=1000000) (hn:n<=1000000) (h8:n%8=0) (hall:∀i,i<n->1<=t.getD i 0/\t.getD i 0<=8*l):b9 C 163 [.z l va,.z n vt] [] (.ret (.o 1 (.k 0) 0 (n/8))) [.sc (bv (E7 t b))]:=by
 refine Ty.c ?_;refine⟨[],_,_,_,_,MU ha hvt hl ht hm hn h8 hall,rfl,rfl,?_⟩;exact⟨_,rfl,[.d 10 0],rfl,⟨_,rfl,rfl⟩,tq⟩
theorem MT {vt:List Value} (hv:vt=nv A5):b9 C 253 [.z 64 vt] [] (.ret (.t [.o 1 (.k 0) 0 64,bool true])) [.sc (nv cg)]:=by
 subst hv;refine Tz.c ?_;refine⟨by decide,by decide,by decide,?_⟩;refine m9 (fun i=>⟨[(0,.z 64 (nv A5)),(4,.o 1 (.k 0) 0 64),(5,i64 i)],[.sc (nv (aE A5 i))]⟩) 64 ⟨[.d 8 0],⟨rfl,rfl,rfl,tq⟩,⟨_,rfl,i6 ?_⟩,tq⟩ fun i hi=> ?_
 ·show Zk 64 _=_;rw[Dv,aE,P3];rfl
 refine d9 (fun h=> ?_) (fun h=> ?_)
 ·have d8:i<64:=(by omega);obtain⟨g1,g2,g3⟩:=Cu i d8;have get:(nv A5)[((i:Int)).toNat*1]? =some (Value.int .i64 ((A5.getD i 0:Nat):Int)):=by rw[Zd,Ze];exact Y6 (by rw[P3];omega)
  have get':(nv A5)[((i:Int)).toNat]? =some (Value.int .i64 ((A5.getD i 0:Nat):Int)):=by rw[Zd];exact Y6 (by rw[P3];omega)
  refine⟨by omega,by omega,_,get',?_⟩;refine d9 (fun h=> ?_) (fun h=> ?_)
  ·omega
  refine⟨by omega,by omega,_,get',?_⟩;refine d9 (fun h=> ?_) (fun h=> ?_)
  ·omega
  have e1:I6.wrap (((A5.getD i 0:Nat):Int)-1)=((A5.getD i 0-1:Nat):Int):=by rw[Za _ (by omega)];omega
  refine⟨by omega,by omega,_,get',?_⟩;refine⟨by rw[e1];omega,by rw[e1];omega,?_⟩;refine⟨_,by rw[e1,Zd,Ze,Zi];exact Y6 (by rw[oy,P3];omega),?_⟩;refine p6 (fun h=> ?_) (fun h=> ?_)
  ·rw[g3]at h;exact absurd rfl h
  refine⟨by omega,by omega,_,get',?_⟩;refine⟨by rw[e1];omega,by rw[e1];omega,by rw[e1,L6,oy,P3];omega,?_⟩;have w1:I6.wrap ((i:Int)+1)=((i+1:Nat):Int):=by rw[Za _ (by omega)];omega
  refine⟨i+1,by omega,by omega,[.k 0],⟨rfl,rfl,f8 w1,tq⟩,⟨_,rfl,i6 ?_⟩,tq⟩;rw[e1,w1,Zd,Ze,Zi,Dw,vV]
 ·obtain rfl:i=64:=(by omega);exact⟨_,rfl,[.k 0],rfl,⟨_,rfl,rfl⟩,tq⟩
theorem a1W (l:List Nat) (k:Nat) (h:k<l.length):l.take (k+1)=l.take k++[l.getD k 0]:=by
 rw[List.take_add_one,Zp h,Zc,Zp h];rfl
def qY (i:Nat):Nat:=if 4<=i then 57+2*(i-4)else 58+2*i
theorem Wf:∀i,i<8->∀c,c<8->I6.wrap (((qY i:Nat):Int)-I6.wrap (8*((c:Nat):Int)))=((A5.getD (8*i+c) 0:Nat):Int):=by decide +kernel
theorem Wd:∀i,i<8->4<=i->I6.wrap (57+I6.wrap (2*I6.wrap (((i:Nat):Int)-4)))=((qY i:Nat):Int):=by decide +kernel
theorem We:∀i,i<8->¬4<=i->I6.wrap (58+I6.wrap (2*((i:Nat):Int)))=((qY i:Nat):Int):=by decide +kernel
theorem zZ:b9 C 251 [] [] (.ret (.o 1 (.k 0) 0 64)) [.sc (nv A5)]:=by
 refine Uh.c ?_;refine E9 (fun i=>⟨[(1,.o 1 (.k 0) 0 (8*i)),(2,i64 i)],[.sc (nv (A5.take (8*i)))]⟩) 8 [(1,1,.sc [])] ⟨[.d 900000 0],⟨rfl,rfl,tq⟩,⟨_,rfl,rfl⟩,tq⟩ fun i hi=> ?_;refine d9 (fun h=> ?_) (fun h=> ?_)
 ·have d8:i<8:=(by omega);refine d9 (fun h4=> ?_) (fun h4=> ?_);all_goals
   refine m9 (fun c=>⟨[(1,.o 1 (.k 0) 0 (8*i+c)),(2,i64 i),(3,i64 (qY i:Nat)),(4,i64 c)],[.sc (nv (A5.take (8*i+c)))]⟩) 8 ⟨[.k 0],⟨rfl,rfl,?_,rfl,tq⟩,⟨_,rfl,rfl⟩,tq⟩ fun c hc=> ?_
   ·first
     |exact f8 (Wd i d8 (by omega))
     |exact f8 (We i d8 (by omega))
   refine d9 (fun h=> ?_) (fun h=> ?_)
   ·have hc8:c<8:=(by omega);have hl:8*i+c<A5.length:=by rw[P3];omega
    refine⟨Zg _,by omega,by rw[L6,Zh];omega,?_⟩;refine⟨c+1,by omega,by omega,[.d 28 0],⟨rfl,rfl,rfl,f8 (by simp(disch:=omega)only[Za];omega),tq⟩,⟨_,rfl,i6 ?_⟩,tq⟩;rw[Wf i d8 c hc8,Ze];show sub (nv (A5.take (8*i+c))) 0 (8*i+c)++[Value.int .i64 ((A5.getD (8*i+c) 0:Nat):Int)]=_;rw[jI (by rw[Zh];omega),<-a1W _ _ hl];rfl
   ·obtain rfl:c=8:=(by omega);refine⟨i+1,by omega,by omega,[.k 0],⟨rfl,f8 (by simp(disch:=omega)only[Za];omega),tq⟩,⟨_,rfl,rfl⟩,tq⟩
 ·obtain rfl:i=8:=(by omega);refine⟨_,rfl,[.k 0],rfl,⟨_,rfl,i6 ?_⟩,tq⟩;rw[Jc (by rw[P3];decide)]
theorem Nh:b9 C 268 [] [] (.ret (.o 1 (.k 0) 0 48)) [.sc (nv (Q8 48))]:=by
 refine Ul.c ?_;refine E9 (fun i=>⟨[(1,.o 1 (.k 0) 0 i),(2,i64 i)],[.sc (nv (Q8 i))]⟩) 48 [(1,1,.sc [])] ⟨[.d 900000 0],⟨rfl,rfl,tq⟩,⟨_,rfl,rfl⟩,tq⟩ fun i hi=> ?_;refine d9 (fun h=> ?_) (fun h=> ?_)
 ·have d8:i<48:=(by omega);refine⟨by decide,by decide,by decide,?_⟩;refine⟨Zg _,by omega,by rw[L6,fx];omega,?_⟩;refine⟨i+1,by omega,by omega,[.d 18 0],⟨rfl,f8 (by simp(disch:=omega)only[Za];omega),tq⟩,⟨_,rfl,i6 ?_⟩,tq⟩;rw[GQ i d8,Ze];show sub (nv (Q8 i)) 0 i++[Value.int .i64 (((4*(i/6)+i%6+31)%32+1:Nat):Int)]=_;rw[jI (fx _),GP]
 ·obtain rfl:i=48:=(by omega);exact⟨_,rfl,[.k 0],rfl,⟨_,rfl,rfl⟩,tq⟩
theorem Nd:b9 C 271 [] [] (.ret (.o 1 (.k 0) 0 32)) [.sc (nv jR)]:=
 Uj.c ⟨_,rfl,[.d 1 0],rfl,⟨_,rfl,rfl⟩,tq⟩
theorem Nc:b9 C 164 [] [] (.ret (.o 1 (.k 0) 0 48)) [.sc (nv aM)]:=
 Ui.c ⟨_,rfl,[.d 1 0],rfl,⟨_,rfl,rfl⟩,tq⟩
theorem Cw {l:List Int} {n:Nat} {x:Int} (h:l.length=n):sub (iv l) 0 n++[Value.int .i64 x]=iv (l++[x]):=by
 rw[Y3 h];simp[iv]
theorem Nb:b9 C 162 [] [] (.ret (.o 1 (.k 0) 0 56)) [.sc (nv dc)]:=by
 have b1:∀k,k<=28-> -100<=B3 57 8 57 k/\B3 57 8 57 k<=100:=by decide +kernel
 have b2:∀k,k<=24-> -100<=B3 63 8 55 k/\B3 63 8 55 k<=100:=by decide +kernel
 refine Uf.c ?_;refine E9 (fun i=>⟨[(1,.o 1 (.k 0) 0 i),(2,i64 (B3 57 8 57 i))],[.sc (iv (E6 57 8 57 i))]⟩) 28 [(1,1,.sc [])] ⟨[.d 900000 0],⟨rfl,rfl,tq⟩,⟨_,rfl,rfl⟩,tq⟩ fun i hi=> ?_;have q1:=b1 i hi;have w1:I6.wrap (B3 57 8 57 i-8)=B3 57 8 57 i-8:=Za _ (by omega);refine d9 (fun h=> ?_) (fun h=> ?_)
 ·have d8:i<28:=(by omega);refine⟨Zg _,by omega,by rw[M5,eQ];omega,?_⟩;have hz:(sub (iv (E6 57 8 57 i)) 0 (i*1)++sub [Value.int .i64 (B3 57 8 57 i)] 0 (1*1))=iv (E6 57 8 57 (i+1)):=by
   rw[Ze,qx];exact Cw (eQ _ _ _ _)
  refine d9 (fun h1=> ?_) (fun h1=> ?_)
  ·rw[w1]at h1;refine⟨i+1,by omega,by omega,[.d 9 0],⟨rfl,f8 ?_,tq⟩,⟨_,rfl,i6 hz⟩,tq⟩;rw[w1,Za _ (by omega),B3,if_pos h1];rfl
  ·rw[w1]at h1;refine⟨i+1,by omega,by omega,[.d 9 0],⟨rfl,f8 ?_,tq⟩,⟨_,rfl,i6 hz⟩,tq⟩;rw[w1,B3,if_neg h1]
 ·obtain rfl:i=28:=(by omega);refine m9 (fun j=>⟨[(1,.o 1 (.k 0) 0 (28+j)),(2,i64 (B3 63 8 55 j))],[.sc (iv (E6 57 8 57 28++E6 63 8 55 j))]⟩) 24 ⟨[.k 0],⟨rfl,rfl,tq⟩,⟨_,rfl,rfl⟩,tq⟩ fun j hj=> ?_;have q2:=b2 j hj;have w2:I6.wrap (B3 63 8 55 j-8)=B3 63 8 55 j-8:=Za _ (by omega);have hl:(E6 57 8 57 28++E6 63 8 55 j).length=28+j:=by rw[Zb,eQ,eQ]
  refine d9 (fun h=> ?_) (fun h=> ?_)
  ·have d8:j<24:=(by omega);refine⟨Zg _,by omega,by rw[M5,hl];omega,?_⟩;have hz:(sub (iv (E6 57 8 57 28++E6 63 8 55 j)) 0 ((28+j)*1)++sub [Value.int .i64 (B3 63 8 55 j)] 0 (1*1))=iv (E6 57 8 57 28++E6 63 8 55 (j+1)):=by
    rw[Ze,qx 63,<-List.append_assoc];exact Cw hl
   refine d9 (fun h1=> ?_) (fun h1=> ?_)
   ·rw[w2]at h1;refine⟨j+1,by omega,by omega,[.d 22 0],⟨rfl,f8 ?_,tq⟩,⟨_,rfl,i6 hz⟩,tq⟩;rw[w2,Za _ (by omega),B3,if_pos h1];rfl
   ·rw[w2]at h1;refine⟨j+1,by omega,by omega,[.d 22 0],⟨rfl,f8 ?_,tq⟩,⟨_,rfl,i6 hz⟩,tq⟩;rw[w2,B3,if_neg h1]
  ·obtain rfl:j=24:=(by omega);refine⟨by decide,by decide,by rw[M5,hl];decide,?_⟩;refine⟨_,rfl,[.d 31 0],rfl,⟨_,rfl,i6 ?_⟩,tq⟩;rw[<-ET];show sub (iv (E6 57 8 57 28++E6 63 8 55 24)) 0 52++iv [28,20,12,4]=iv A8;rw[Y3 hl,oz];rfl
theorem Ng {s:Nat} (hs:s<8):b9 C 270 [i64 s] [] (.ret (.o 1 (.k 0) 0 4)) [.sc [Q5 (S2 s 0),Q5 (S2 s 1),Q5 (S2 s 2),Q5 (S2 s 3)]]:=by
 rcases s with _|_|_|_|_|_|_|_|s
 ·exact gY.c ⟨_,rfl,[.d 6 0],rfl,⟨_,rfl,rfl⟩,tq⟩
 ·exact gY.c ⟨_,rfl,[.d 9 0],rfl,⟨_,rfl,rfl⟩,tq⟩
 ·exact gY.c ⟨_,rfl,[.d 12 0],rfl,⟨_,rfl,rfl⟩,tq⟩
 ·exact gY.c ⟨_,rfl,[.d 15 0],rfl,⟨_,rfl,rfl⟩,tq⟩
 ·exact gY.c ⟨_,rfl,[.d 18 0],rfl,⟨_,rfl,rfl⟩,tq⟩
 ·exact gY.c ⟨_,rfl,[.d 21 0],rfl,⟨_,rfl,rfl⟩,tq⟩
 ·exact gY.c ⟨_,rfl,[.d 24 0],rfl,⟨_,rfl,rfl⟩,tq⟩
 ·exact gY.c ⟨_,rfl,[.d 25 0],rfl,⟨_,rfl,rfl⟩,tq⟩
 ·omega
theorem a1v {s r:Nat} (hr:r<4):([Q5 (S2 s 0),Q5 (S2 s 1),Q5 (S2 s 2),Q5 (S2 s 3)]:List Value)[r]? =some (Q5 (S2 s r)):=by
 rcases r with _|_|_|_|r;all_goals first|rfl|omega
def eO (x:Bs) (s:Nat):Nat->Nat
 |0=>0
 |k+1=>2*eO x s k+(tb x (6*s+k)).toNat
theorem uZ (x s):∀k,eO x s k<2^k
 |0=>by show 0<1;omega
 |k+1=>by
  have:=bt (tb x (6*s+k));have:=uZ x s k;unfold eO;rw[Nat.pow_succ];omega
theorem PZ (x s):eO x s 6/32*2+eO x s 6%2=fM x s/\eO x s 6/2%16=dA x s 4:=by
 have h0:=bt (tb x (6*s+0));have h1:=bt (tb x (6*s+1));have h2:=bt (tb x (6*s+1+1));have h3:=bt (tb x (6*s+1+2));have h4:=bt (tb x (6*s+1+3));have h5:=bt (tb x (6*s+5));have e6:eO x s 6=2*(2*(2*(2*(2*(2*0+(tb x (6*s+0)).toNat)+(tb x (6*s+1)).toNat)+(tb x (6*s+1+1)).toNat)+(tb x (6*s+1+2)).toNat)+(tb x (6*s+1+3)).toNat)+(tb x (6*s+5)).toNat:=rfl;have e4:dA x s 4=2*(2*(2*(2*0+(tb x (6*s+1+0)).toNat)+(tb x (6*s+1+1)).toNat)+(tb x (6*s+1+2)).toNat)+(tb x (6*s+1+3)).toNat:=rfl;have er:fM x s=2*(tb x (6*s)).toNat+(tb x (6*s+5)).toNat:=rfl;rw[Nat.add_zero]at h0 e4 e6;omega
theorem Yn:∀d,d<16->∀j,j<=1->U8.wrap (I6.wrap (((d:Nat):Int)*2^(min ((4*j:Nat):Int).toNat I6.bits)))=(((Zt (d*16^j)).toNat:Nat):Int):=by decide +kernel
theorem a1y:∀v,v<64->I6.wrap (I6.wrap (I6.wrap (((v:Nat):Int).tdiv 32)*2)+((v:Nat):Int).tmod 2)=((v/32*2+v%2:Nat):Int)/\(I6.wrap (((v:Nat):Int).tdiv 2)).tmod 16=((v/2%16:Nat):Int):=by decide +kernel
theorem MY {va vk:List Value} {r k:Bs} (ha:va=bv r) (hk:vk=bv k) (hr:r.length=4) (hkl:k.length=6):b9 C 252 [.z 4 va,.z 6 vk] [] (.ret (.t [.o 1 (.k 0) 0 4,bool true])) [.sc (bv (dF r k))]:=by
 have hp:(E7 (Q8 48) r).length=6:=by rw[ff,fx]
 have hx:(j9 (E7 (Q8 48) r) k).length=6:=B5 hp hkl;generalize hxe:j9 (E7 (Q8 48) r) k=x at hx;refine Uc.c ?_;refine⟨[],_,_,_,_,Nh,rfl,rfl,?_⟩;refine⟨[],_,_,_,_,kG (b:=r) (t:=Q8 48) (n:=48) ha (H7 (fx _)) hr (fx _) (by decide) (by decide) (by decide) (by decide +kernel),rfl,rfl,?_⟩;refine⟨[],_,_,_,_,I0 (a:=E7 (Q8 48) r) (b:=k) (g8 hp) hk hp hkl (by decide),rfl,rfl,?_⟩;rw[hxe];refine⟨by decide,by decide,by decide,?_⟩;refine m9 (fun i=>⟨[(6,.z 6 (bv x)),(7,.o 1 (.k 0) 0 4),(8,i64 i)],[.sc (bv (N5 x i))]⟩) 8 ⟨[.d 25 0],⟨?_,rfl,rfl,tq⟩,⟨_,rfl,i6 ?_⟩,tq⟩ fun i hi=> ?_
 ·show V.z 6 (sub (bv x) 0 6)=_;rw[g8 hx]
 ·rfl
 refine d9 (fun h=> ?_) (fun h=> ?_)
 ·have d8:i<8:=(by omega);refine m9 (fun k=>⟨[(6,.z 6 (bv x)),(7,.o 1 (.k 0) 0 4),(8,i64 i),(9,i64 (eO x i k:Nat)),(10,i64 (k+1:Nat))],[.sc (bv (N5 x i))]⟩) 6 ⟨[.k 0],⟨rfl,rfl,rfl,rfl,rfl,tq⟩,⟨_,rfl,rfl⟩,tq⟩ fun k hk=> ?_;refine d9 (fun h=> ?_) (fun h=> ?_)
  ·have hk6:k<6:=(by omega);have p3:I6.wrap (I6.wrap (6*(i:Int))+((k+1:Nat):Int))=((6*i+k+1:Nat):Int):=by
    rw[Za (6*(i:Int)) (by omega),Za _ (by omega)];omega
   refine⟨[],_,_,_,_,zW (n:=6*i+k+1) (b:=x) p3 rfl hx (by decide) (by omega) (by omega),rfl,rfl,?_⟩;have hb:=bt (tb x (6*i+k+1-1));have hc:=uZ x i k;have hc2:2^k<=2^5:=Z3 (by decide) (by omega);refine⟨k+1,by omega,by omega,[.k 0],⟨rfl,rfl,rfl,f8 ?_,f8 (by simp(disch:=omega)only[Za];omega),tq⟩,⟨_,rfl,rfl⟩,tq⟩;rw[Za (2*((eO x i k:Nat):Int)) (by omega),Za _ (by omega)];show _=((2*eO x i k+(tb x (6*i+k+1-1)).toNat:Nat):Int);omega
  ·obtain rfl:k=6:=(by omega);obtain⟨v1,v2⟩:=a1y _ (uZ x i 6);obtain⟨r1,r2⟩:=PZ x i;rw[r1]at v1;rw[r2]at v2;have e2:I6.wrap ((i:Int).tdiv 2)=((i/2:Nat):Int):=by
    rw[Zn (by omega),Za _ (by omega)];omega
   have e3:IntKind.u64.wrap (I6.wrap (4-I6.wrap (4*(i:Int).tmod 2)))=((4*(1-i%2):Nat):Int):=by
    rw[Zq (by omega),Za (4*((i:Int)%2)) (by omega),Za _ (by omega),G3];omega
   have hcl:=nQ x i 4;obtain⟨o1,o2⟩:=uY i d8 _ (kU x i);refine⟨[],_,_,_,_,Ng d8,rfl,rfl,?_⟩;refine⟨by decide,by decide,by rw[v1];omega,by rw[v1];have:=kU x i;omega,?_⟩;refine⟨_,by rw[v1,Zd,Ze,Zi];exact a1v (kU x i),?_⟩;refine⟨by decide,by decide,?_⟩;refine⟨[],_,_,_,_,pJ (l:=S2 i (fM x i)) (j:=dA x i 4) rfl v2 (by rw[o1];exact hcl) (o2 _ hcl),rfl,rfl,?_⟩;refine⟨by decide,by decide,by rw[e2];omega,by rw[e2];omega,?_⟩;refine⟨_,by rw[e2,Zd,Ze,Zi];exact p9 (by rw[kT];omega),?_⟩;refine⟨by decide,by rw[e3];omega,by rw[e2];omega,by rw[e2];omega,by rw[e2,j6,kT];omega,?_⟩;refine⟨i+1,by omega,by omega,[.k 0],⟨rfl,rfl,f8 (by simp(disch:=omega)only[Za];omega),tq⟩,⟨_,rfl,i6 ?_⟩,tq⟩;rw[e2,e3,Zd,Ze,Zi];show(bv (N5 x i)).set (i/2) (.int .u8 (U8.wrap ((Jl U8.bits (((N5 x i).getD (i/2) 0).toNat:Int)|||Jl U8.bits (U8.wrap (I6.wrap (((dS x i:Nat):Int)*2^(min ((4*(1-i%2):Nat):Int).toNat I6.bits))))).toNat:Int)))=bv (N5 x (i+1));rw[Yn _ (qp d8) _ (by omega),sK,L4,Bc d8]
 ·obtain rfl:i=8:=(by omega);refine⟨[],_,_,_,_,Nd,rfl,rfl,?_⟩;have hm:jR.length=32:=rfl;have h8:=kT x 8;refine⟨[],_,_,_,_,kG (b:=N5 x 8) (t:=jR) (n:=32) (g8 h8) (H7 hm) h8 hm (by decide) (by decide) (by decide) (by decide +kernel),rfl,rfl,?_⟩;refine⟨_,rfl,[.d 77 0],rfl,⟨_,rfl,i6 ?_⟩,tq⟩;rw[dF,hxe]
theorem XR {n:Nat} {f g:Nat->Bool} (h:∀j,j<8*n->f j=g j):aH n f=aH n g:=by
 apply pb (by rw[gm,gm]);intro j hj;rw[gm]at hj;rw[gE hj,gE hj,h j hj]
theorem wM {t u:List Nat} {b:Bs} (h8:t.length%8=0) (hu:∀j,j<u.length->1<=u.getD j 0/\u.getD j 0<=t.length):E7 u (E7 t b)=E7 (u.map fun k=>t.getD (k-1) 0) b:=by
 unfold E7;rw[Jm];apply XR;intro j hj;have hj':j<u.length:=by omega
 obtain⟨h1,h2⟩:=hu j hj';rw[gE (by omega)];congr 2;simp[Zc,hj']
def aB:Nat->Nat
 |0=>0
 |i+1=>aB i+kD i
def jU (i n:Nat):List Nat:=(List.range n).map fun j=>dc.getD (28*(j/28)+(j%28+aB (i+1))%28) 0
theorem a3e (i n):jU i (n+1)=jU i n++[dc.getD (28*(n/28)+(n%28+aB (i+1))%28) 0]:=by simp[jU,Zo]
theorem GH (i n):(jU i n).length=n:=by simp[jU]
theorem a3f:∀i,i<16->jU i 56=O7 (i+1):=by decide +kernel
theorem zj:∀i,i<17->aB i<=28:=by decide +kernel
theorem Qa:∀i,i<17->∀j,j<56->1<=(O7 i).getD j 0/\(O7 i).getD j 0<=8*8:=by decide +kernel
theorem PR {key:Bs} {i:Nat} (hi:i<16):E7 aM (E7 (O7 (i+1)) key)=aD key i:=by
 have hl:=kX (i+1) (by omega);rw[wM (by rw[hl]) (by rw[sF,hl];exact xG),aD];congr 1
theorem Aa {va:List Value} {key:Bs} (ha:va=bv key) (hk:key.length=8):b9 C 109 [.z 8 va] [] (.ret (.t [.zz 1 16 (kV (G0 key 16)),i64 0])) []:=by
 subst ha;have hl0:dc.length=56:=by decide +kernel
 refine Ud.c ?_;refine⟨[],_,_,_,_,Nb,rfl,rfl,?_⟩;refine E9 (fun i=>⟨[(0,.z 8 (bv key)),(4,.z 56 (nv dc)),(5,i64 (aB i:Nat)),(6,.o 1 (.k 0) 0 i),(7,i64 (i+1:Nat))],[.mx (kV (G0 key i))]⟩) 16 [(6,1,.mx [])] ⟨[.d 900000 0],⟨rfl,?_,rfl,rfl,rfl,tq⟩,⟨_,rfl,rfl⟩,tq⟩ fun i hi=> ?_
 ·show V.z 56 (sub (nv dc) 0 56)=_;rw[H7 hl0]
 refine d9 (fun h=> ?_) (fun h=> ?_)
 ·have d8:i<16:=(by omega);have hb:=zj i (by omega);have hb1:=zj (i+1) (by omega);have one:∀k:Nat,(((i+1:Nat):Int)=(k:Int))->i+1=k:=fun k h=>by omega
  refine i7 (fun h1=> ?_) (fun h1=>i7 (fun h2=> ?_) (fun h2=>i7 (fun h3=> ?_) (fun h3=>i7 (fun h4=> ?_) (fun h4=> ?_))));all_goals
   first
    |have hs:aB (i+1)=aB i+1:=by rw[aB,kD,if_pos (by omega)]
    |have hs:aB (i+1)=aB i+2:=by rw[aB,kD,if_neg (by omega)]
   refine E9 (fun j=>⟨[(0,.z 8 (bv key)),(4,.z 56 (nv dc)),(5,i64 (aB (i+1):Nat)),(6,.o 1 (.k 0) 0 i),(7,i64 (i+1:Nat)),(8,.o 1 (.k 1) 0 j),(9,i64 j)],[.mx (kV (G0 key i)),.sc (nv (jU i j))]⟩) 56 [(8,1,.sc [])] ⟨[.k 0,.d 900000 0],⟨rfl,rfl,f8 ?_,rfl,rfl,rfl,rfl,tq⟩,⟨_,rfl,?_⟩,⟨_,rfl,rfl⟩,tq⟩ fun j hj=> ?_
   ·first
     |(rw [Za (((aB i:Nat):Int)+2) (by omega),Za _ (by omega)];omega)
     |(rw [Za _ (by omega)];omega)
   ·show B.mx ((kV _).map _)=_;rw[ma]
   refine d9 (fun h=> ?_) (fun h=> ?_)
   ·have hj':j<56:=(by omega);have e0:I6.wrap (I6.wrap ((j:Int).tdiv 28)*28)=((28*(j/28):Nat):Int):=by
     rw[Zn (by omega),Za ((j:Int)/28) (by omega),Za _ (by omega)];omega
    have e1:I6.wrap (I6.wrap (I6.wrap ((j:Int).tdiv 28)*28)+(I6.wrap (I6.wrap ((j:Int)-I6.wrap (I6.wrap ((j:Int).tdiv 28)*28))+((aB (i+1):Nat):Int))).tmod 28)=((28*(j/28)+(j%28+aB (i+1))%28:Nat):Int):=by
     rw[e0,Za ((j:Int)-((28*(j/28):Nat):Int)) (by omega),Za (((j:Int)-((28*(j/28):Nat):Int))+_) (by omega),Zq (by omega),Za _ (by omega)];omega
    refine⟨by decide,by decide,by rw[e1];omega,by rw[e1];omega,?_⟩;refine⟨_,by rw[e1,Zd];exact Y6 (by rw[hl0];omega),?_⟩;refine⟨Zg _,by omega,by rw[L6,GH];omega,?_⟩;refine⟨j+1,by omega,by omega,[.k 0,.d 57 0],⟨rfl,rfl,rfl,rfl,rfl,rfl,f8 (by simp(disch:=omega)only[Za];omega),tq⟩,⟨_,rfl,?_⟩,⟨_,rfl,i6 ?_⟩,tq⟩
    ·show B.mx ((kV _).map _)=_;rw[ma]
    ·rw[a3e,Ze];exact jI (GH _ _)
   ·obtain rfl:j=56:=(by omega);refine⟨[],_,_,_,_,kG (b:=key) (t:=O7 (i+1)) (n:=56) rfl (by rw[a3f i d8];exact H7 (kX _ (by omega))) hk (kX _ (by omega)) (by decide) (by decide) (by decide) (Qa _ (by omega)),rfl,rfl,?_⟩;refine⟨[],_,_,_,_,Nc,rfl,rfl,?_⟩;have h7:(E7 (O7 (i+1)) key).length=7:=by rw[ff,kX _ (by omega)]
    refine⟨[],_,_,_,_,kG (b:=E7 (O7 (i+1)) key) (t:=aM) (n:=48) (g8 h7) (H7 sF) h7 sF (by decide) (by decide) (by decide) xG,rfl,rfl,?_⟩;rw[PR d8];have hz:V.z 6 (sub (bv (aD key i)) 0 6)= .z 6 (bv (aD key i)):=by rw[g8 (uW _ _)]
    refine⟨by decide,by omega,by rw[cI,gT];omega,?_⟩;refine⟨i+1,by omega,by omega,[.d 65 0],⟨rfl,rfl,rfl,rfl,f8 (by simp(disch:=omega)only[Za];omega),tq⟩,⟨_,rfl,?_⟩,tq⟩;show B.mx (Jt (p5 _ _ 6) (sub (kV (G0 key i)) 0 (i*1)++[V.o 1 _ _ _]))= .mx (kV (G0 key (i+1)));rw[Ze,C3 (by rw[cI,gT]),Zu,ma,Bb key i,show kV (G0 key i++[aD key i])=kV (G0 key i)++[V.z 6 (bv (aD key i))] from Zu];exact congrArg (fun z=>B.mx (kV (G0 key i)++[z])) hz
 ·obtain rfl:i=16:=(by omega);refine⟨_,rfl,[],?_,tq⟩;exact congrArg (fun z=>V.t [V.zz 1 16 z,i64 0]) ((congrArg (Jt _) (C3 (by rw[cI,gT]))).trans (CD _ _ _ 2))
theorem Ew {ks:List (Bs)} {i:Nat} (hi:i<ks.length):ks.reverse.getD i []=ks.getD (ks.length-1-i) []:=by
 rw[Zc,Jo hi,Zc]
theorem pW {va:List Value} {xs:List V} {b:Bs} {ks:List (Bs)} {back:Bool} (ha:va=bv b) (hx:xs=kV ks) (hb:b.length=8) (hn:ks.length=16) (hk:iB ks):
  b9 C 209 [.zz 1 16 xs,.z 8 va,bool back] [] (.ret (.o 1 (.k 0) 0 8)) [.sc (bv (G8 (if back then ks.reverse else ks) b))]:=by
 subst ha;subst hx;generalize hq:(if back then ks.reverse else ks)=q;have hqn:q.length=16:=by subst hq;split<;>simp[hn]
 have hqk:iB q:=by subst hq;split;exact rR hk;exact hk
 have hl:=qm (ks:=q) (nR b).1 (nR b).2;refine Uk.c ?_;refine⟨[],_,_,_,_,zZ,rfl,rfl,?_⟩;refine⟨[],_,_,_,_,kG (b:=b) (t:=A5) (n:=64) rfl (H7 P3) hb P3 (by decide) (by decide) (by decide) xI,rfl,rfl,?_⟩;refine⟨by decide,by decide,by decide,by decide,?_⟩;refine⟨by decide,by decide,by decide,by decide,?_⟩;refine m9 (fun i=>⟨[(0,.zz 1 16 (kV ks)),(2,bool back),(8,.z 4 (bv (dN q (B2 b) i).1)),(9,.z 4 (bv (dN q (B2 b) i).2)),(10,i64 i)],[]⟩) 16 ⟨[],⟨rfl,rfl,?_,?_,rfl,tq⟩,tq⟩ fun i hi=> ?_
 ·exact congrArg (V.z 4) (o6 _ _ _)
 ·exact congrArg (V.z 4) (o6 _ _ _)
 refine d9 (fun h=> ?_) (fun h=> ?_)
 ·have d8:i<16:=(by omega);have w15:I6.wrap (15-(i:Int))=((15-i:Nat):Int):=by rw[Za _ (by omega)];omega
  have get:(kV ks)[(((if back then 15-i else i:Nat):Int)).toNat*1]? =some (.z 6 (bv (q.getD i []))):=by
   rw[Zd,Ze];have:(if back then 15-i else i)<ks.length:=by split<;>omega
   rw[ro (getD_some (d:=[]) this)];subst hq;cases back
   ·rfl
   ·rw[if_pos rfl,if_pos rfl,Ew (by omega),hn]
  have fin:bv (j9 (dN q (B2 b) i).1 (dF (dN q (B2 b) i).2 (q.getD i [])))=bv (dN q (B2 b) (i+1)).2:=by rw[nS];rfl
  have fin1:(dN q (B2 b) i).2=(dN q (B2 b) (i+1)).1:=by rw[nS];rfl
  cases back;all_goals
   first
    |refine⟨by omega,by omega,_,get,?_⟩
    |(refine ⟨by rw[w15];omega,by rw[w15];omega,_,by rw[w15];exact get,?_⟩)
   refine⟨[],_,_,_,_,MY (r:=(dN q (B2 b) i).2) (k:=q.getD i []) rfl rfl (hl i).2 (hqk i (by omega)),rfl,rfl,?_⟩;refine⟨[],_,_,_,_,I0 (a:=(dN q (B2 b) i).1) (b:=dF (dN q (B2 b) i).2 (q.getD i [])) rfl (g8 (fK _ _)) (hl i).1 (fK _ _) (by decide),rfl,rfl,?_⟩;refine⟨i+1,by omega,by omega,[],⟨rfl,rfl,congrArg (fun z=>V.z 4 (bv z)) fin1,?_,f8 (by simp(disch:=omega)only[Za];omega),tq⟩,tq⟩;show V.z 4 (sub (bv _) 0 4)=_;rw[g8 (B5 (hl i).1 (fK _ _)),fin]
 ·obtain rfl:i=16:=(by omega);refine⟨[],_,_,_,_,zZ,rfl,rfl,?_⟩;refine⟨[],_,_,_,_,MT (H7 P3),rfl,rfl,?_⟩;refine⟨by rw[j6,(hl 16).2],by decide,by decide,?_⟩;refine⟨by rw[j6,(hl 16).1],by decide,by rw[Zb,j6,(hl 16).2];decide,?_⟩;have h8:((dN q (B2 b) 16).2++(dN q (B2 b) 16).1).length=8:=by rw[Zb,(hl 16).1,(hl 16).2]
  refine⟨[],_,_,_,_,kG (b:=(dN q (B2 b) 16).2++(dN q (B2 b) 16).1) (t:=cg) (l:=8) (n:=64) ?_ (H7 iS) h8 iS (by decide) (by decide) (by decide) xH,rfl,rfl,?_⟩
  ·show sub (sub ([]++bv (dN q (B2 b) 16).2) 0 4++bv (dN q (B2 b) 16).1) 0 8=_;rw[Zl,g8 (hl 16).2,B7,g8 h8]
  refine⟨_,rfl,[.d 55 0],rfl,⟨_,rfl,i6 ?_⟩,tq⟩;rw[G8,hqn]
def dE (ks:List (List (Bs))) (back:Bool) (b:Bs) (i:Nat):D:=match i with
 |0=>⟨[(0,dB ks),(1,.z 8 (bv b)),(2,bool back),(8,i64 0)],[]⟩
 |i+1=>⟨[(0,dB ks),(1,.o 1 (.k 0) 0 8),(2,bool back),(8,i64 (i+1:Nat))],[.sc (bv (N9 ks back b (i+1)))]⟩
theorem Na {va:List Value} {b:Bs} {ks:List (List (Bs))} {back:Bool} (ha:va=bv b) (hb:b.length=8) (hk:wE ks) (h0:0<ks.length):
  b9 C 153 [dB ks,.z 8 va,bool back] [] (C6 8) [.sc (bv (N9 ks back b ks.length))]:=by
 subst ha;have s3:=uU (ks:=ks) (back:=back) hb;obtain⟨h3,hk⟩:=hk;refine BH.c ?_;refine m9 (dE ks back b) ks.length ⟨[],⟨rfl,rfl,rfl,rfl,tq⟩,tq⟩ fun i hi=> ?_;have e1:I6.wrap (I6.wrap ((ks.length:Int)-1)-(i:Int))=((ks.length-1-i:Nat):Int)\/ks.length<=i:=by
  by_cases h:i<ks.length
  ·left;rw[Za ((ks.length:Int)-1) (by omega),Za _ (by omega)];omega
  ·right;omega
 rcases i with _|i
 ·refine⟨_,rfl,?_⟩;refine d9 (fun h=> ?_) (fun h=>absurd h (by omega));have e1:I6.wrap (I6.wrap ((ks.length:Int)-1)-0)=((ks.length-1-0:Nat):Int):=e1.resolve_right (by omega);cases back
  ·obtain⟨k1,k2⟩:=hk 0 h0;refine⟨_,rfl,by omega,by omega,_,ii (getD_some (d:=[]) h0),?_⟩;refine⟨[],_,_,_,_,pW (b:=b) (ks:=ks.getD 0 []) rfl rfl hb k1 k2,rfl,rfl,?_⟩;refine⟨1,by omega,by omega,[.d 44 0],⟨rfl,rfl,rfl,rfl,tq⟩,⟨_,rfl,i6 ?_⟩,tq⟩;rfl
  ·obtain⟨k1,k2⟩:=hk (ks.length-1-0) (by omega);refine⟨_,rfl,_,rfl,by rw[e1];omega,by rw[e1];omega,_,by rw[e1,Zd,Ze];exact ii (getD_some (d:=[]) (by omega)),?_⟩;refine⟨[],_,_,_,_,pW (b:=b) (ks:=ks.getD (ks.length-1-0) []) rfl rfl hb k1 k2,rfl,rfl,?_⟩;refine⟨1,by omega,by omega,[.d 44 0],⟨rfl,rfl,rfl,rfl,tq⟩,⟨_,rfl,i6 ?_⟩,tq⟩;rfl
 refine⟨_,rfl,?_⟩;refine d9 (fun h=> ?_) (fun h=> ?_)
 ·have d8:i+1<ks.length:=(by omega);have e1:=e1.resolve_right (by omega);have w1:I6.wrap (((i+1:Nat):Int)+1)=((i+1+1:Nat):Int):=by rw[Za _ (by omega)];omega
  have one:(((i+1:Nat):Int)==1)=decide (i+1=1):=by
   by_cases h:i+1=1
   ·rw[h];rfl
   ·rw[decide_eq_false h];exact beq_false_of_ne (by omega)
  cases back
  ·obtain⟨k1,k2⟩:=hk (i+1) d8;refine⟨_,rfl,by omega,by omega,_,by rw[Zd,Ze];exact ii (getD_some (d:=[]) d8),?_⟩;refine⟨[],_,_,_,_,pW (b:=N9 ks false b (i+1)) (ks:=ks.getD (i+1) []) (g8 (s3 _)) rfl (s3 _) k1 k2,rfl,rfl,?_⟩;refine⟨i+1+1,by omega,by omega,[.d 44 0],⟨rfl,rfl,rfl,f8 w1,tq⟩,⟨_,rfl,i6 ?_⟩,tq⟩;rw[one,ql _ _ _ (i+1)];rfl
  ·obtain⟨k1,k2⟩:=hk (ks.length-1-(i+1)) (by omega);refine⟨_,rfl,_,rfl,by rw[e1];omega,by rw[e1];omega,_,by rw[e1,Zd,Ze];exact ii (getD_some (d:=[]) (by omega)),?_⟩;refine⟨[],_,_,_,_,pW (b:=N9 ks true b (i+1)) (ks:=ks.getD (ks.length-1-(i+1)) []) (g8 (s3 _)) rfl (s3 _) k1 k2,rfl,rfl,?_⟩;refine⟨i+1+1,by omega,by omega,[.d 44 0],⟨rfl,rfl,rfl,f8 w1,tq⟩,⟨_,rfl,i6 ?_⟩,tq⟩;rw[one,ql _ _ _ (i+1)];rfl
 ·have he:i+1=ks.length:=(by omega);refine⟨_,rfl,[.k 0],rfl,⟨_,rfl,i6 ?_⟩,tq⟩;rw[he]
theorem MZ {va:List Value} {ks:List (List (Bs))} {n:Nat} {back:Bool} (hn:n≠8):b9 C 153 [dB ks,.z n va,bool back] [] V5 []:=by
 refine BH.c ?_;refine p6 (fun h=> ?_) (fun h=> ?_)
 ·exact⟨_,rfl,[],rfl,tq⟩
 ·omega
def PU (key:Bs) (m:Nat) (i:Nat):D:=match i with
 |0=>⟨[(0,.z m (bv key)),(4,.p (.k 0) 0),(5,i64 0)],[.mx [g9]]⟩
 |i+1=>⟨[(0,.z m (bv key)),(4,.p (.k 0) 0),(5,i64 (8*(i+1):Nat))],[.mx [.o 1 (.k 1) 0 (i+1)],.pl (I9 (O6 key (i+1)))]⟩
theorem Nf {va:List Value} {key:Bs} {m n:Nat} (ha:va=bv key) (hk:key.length=m) (hm:m=8*n) (hn:1<=n/\n<=3):b9 C 54 [.z m va] [] (.ret (.t [dB (I8 key n),i64 0])) []:=by
 subst ha;refine Ue.c ?_;refine p6 (fun h1=>p6 (fun h2=>p6 (fun h3=>absurd h3 (by omega)) (fun h3=> ?_)) (fun h2=> ?_)) (fun h1=> ?_);all_goals
  refine m9 (PU key m) n ⟨[.d 22 0],⟨rfl,rfl,rfl,tq⟩,⟨_,rfl,rfl⟩,tq⟩ fun i hi=> ?_;rcases i with _|i
  ·refine d9 (fun h=> ?_) (fun h=>absurd h (by omega));refine⟨by decide,by decide,by decide,by decide,by show 8<=m;omega,?_⟩;refine⟨[],_,_,_,_,Aa (key:=sub key (8*0) 8) (o6 _ _ _) (by rw[m5];omega),rfl,rfl,?_⟩;refine⟨_,rfl,Zg _,by decide,by decide,?_⟩;refine⟨1,by omega,by omega,[.k 0,.d 45 0],⟨rfl,rfl,rfl,tq⟩,⟨_,rfl,?_⟩,⟨_,rfl,?_⟩,tq⟩
   ·rfl
   ·exact congrArg B.pl rfl
  refine d9 (fun h=> ?_) (fun h=> ?_)
  ·have d8:i+1<n:=(by omega);have e4:I6.wrap (((8*(i+1):Nat):Int)+8)=((8*(i+1)+8:Nat):Int):=by
    rw[Za _ (by omega)];omega
   refine⟨by rw[e4];omega,by omega,by rw[e4];omega,Zg _,by rw[e4];omega,?_⟩;refine⟨[],_,_,_,_,Aa (key:=sub key (8*(i+1)) 8) (va:=sub (bv key) (8*(i+1)) 8) (o6 _ _ _) (by rw[m5];omega),?_,rfl,?_⟩
   ·rw[e4];show[V.z (8*(i+1)+8-8*(i+1)) (sub (bv key) (8*(i+1)) (8*(i+1)+8-8*(i+1)))]=_;rw[Ji]
   refine⟨_,rfl,Zg _,by omega,by rw[cJ,aW];omega,by show 0+0+1<=1;decide,?_⟩;refine⟨i+1+1,by omega,by omega,[.k 0,.d 45 0],⟨rfl,rfl,f8 ?_,tq⟩,⟨_,rfl,rfl⟩,⟨_,rfl,congrArg B.pl ?_⟩,tq⟩
   ·rw[e4];omega
   rw[Ze,C3 (by rw[cJ,aW]),Ba key (i+1)];exact(Zu (f:=fun k=>V.zz 1 16 (kV k)) (l₁:=O6 key (i+1)) (l₂:=[G0 (sub key (8*(i+1)) 8) 16])).symm
  ·have hin:i+1=n:=(by omega);refine i7 (fun h=> ?_) (fun h=> ?_)
   ·obtain rfl:i=1:=(by omega);subst hin;have hl:=gQ (key:=key) hn;refine⟨_,rfl,_,rfl,by decide,by decide,_,rfl,Zg _,by decide,by rw[cJ,aW];decide,by show 0+0+1<=1;decide,?_⟩;refine⟨_,rfl,[],?_,tq⟩;show V.t [V.q [V.zz 1 3 (sub (sub (I9 (O6 key 2)) 0 2++I9 [G0 (sub key 0 8) 16]) 0 3)] 0,i64 0]=V.t [V.q [V.zz 1 (I8 key 2).length (I9 (I8 key 2))] 0,i64 0];have e:sub (sub (I9 (O6 key 2)) 0 2++I9 [G0 (sub key 0 8) 16]) 0 3=I9 (I8 key 2):=by
     rw[C3 (l:=I9 (O6 key 2)) (by rw[cJ,aW]),I8,if_pos rfl,C3 (by rw[Zb,cJ,aW];rfl)];exact(Zu (f:=fun k=>V.zz 1 16 (kV k)) (l₁:=O6 key 2) (l₂:=[G0 (sub key 0 8) 16])).symm
    rw[hl,if_pos rfl];exact congrArg (fun z=>V.t [V.q [V.zz 1 3 z] 0,i64 0]) e
   ·have hl:=gQ (key:=key) hn;rw[if_neg (by omega)]at hl;refine⟨_,rfl,[],?_,tq⟩;show V.t [V.q [V.zz 1 (i+1) (sub (I9 (O6 key (i+1))) 0 ((i+1)*1))] 0,i64 0]=V.t [V.q [V.zz 1 (I8 key n).length (I9 (I8 key n))] 0,i64 0];rw[hl,hin];have e:sub (I9 (O6 key n)) 0 (n*1)=I9 (I8 key n):=by
     rw[I8,if_neg (by omega),C3 (by rw[cJ,aW,Ze])]
    exact congrArg (fun z=>V.t [V.q [V.zz 1 n z] 0,i64 0]) e
abbrev j8:V:= .s (.pointer none)
def yd (t:Int) (n:Nat) (va:List Value) (k:Nat) (xs:List V):Prop:=
 (t=1\/t=2)/\k=79/\b9 C 78 [.z n va] [] (.ret (.t [.q xs 0,i64 0])) []\/
 (t=3)/\k=81/\b9 C 80 [.z n va] [] (.ret (.t [.q xs 0,i64 0])) []\/
 (t=6)/\k=83/\b9 C 82 [.z n va] [] (.ret (.t [.q xs 0,i64 0])) []\/
 (t=7)/\k=85/\b9 C 84 [.z n va] [] (.ret (.t [.q xs 0,i64 0])) []\/
 (t=4\/t=5\/t=8)/\k=87/\b9 C 86 [i64 t,.z n va] [] (.ret (.t [.q xs 0,i64 0])) []
theorem jn {t:Int} {n k:Nat} {va:List Value} {xs:List V} (hv:(n:Int)∈r9 t) (hm:n<=1000) (hs:yd t n va k xs):b9 C 25 [i64 t,.z n va] [] (.ret (.t [f9 t k xs,i64 0])) []:=by
 have hl:=kF t;rcases hs with ⟨ht,rfl,hs⟩|⟨ht,rfl,hs⟩|⟨ht,rfl,hs⟩|⟨ht,rfl,hs⟩|⟨ht,rfl,hs⟩
 ·rcases ht with rfl|rfl
  ·refine gW.c ?_;refine⟨0,Unit,(fun _=>⟨[(6,.p (.k 0) 0),(7,i64 0)],[.mx [i64 1,.f (.func 79) [.q xs 0] []]]⟩),fun _=>True,fun _=>0,?_,fun _ h=> ?_⟩
   ·refine⟨[],_,_,_,_,eJ (by simp[A1]),rfl,rfl,?_⟩;refine⟨[],_,_,_,_,fE (by simp[A1]),rfl,rfl,?_⟩;refine⟨[],_,_,_,_,fD (x:=n) (Y3 rfl) rfl (by omega),rfl,rfl,?_⟩;refine E5 (by rw[decide_eq_true hv];rfl) ?_;refine⟨[],_,_,_,_,hs,rfl,rfl,?_⟩;refine⟨Zg _,?_⟩;exact⟨[],(),tq,[.d 20 0],⟨rfl,rfl,tq⟩,⟨_,rfl,rfl⟩,tq⟩
   ·exact⟨_,rfl,[],rfl,tq⟩
  ·refine gW.c ?_;refine⟨0,Unit,(fun _=>⟨[(6,.p (.k 0) 0),(7,i64 0)],[.mx [i64 2,.f (.func 79) [.q xs 0] []]]⟩),fun _=>True,fun _=>0,?_,fun _ h=> ?_⟩
   ·refine⟨[],_,_,_,_,eJ (by simp[A1]),rfl,rfl,?_⟩;refine⟨[],_,_,_,_,fE (by simp[A1]),rfl,rfl,?_⟩;refine⟨[],_,_,_,_,fD (x:=n) (Y3 rfl) rfl (by omega),rfl,rfl,?_⟩;refine E5 (by rw[decide_eq_true hv];rfl) ?_;refine⟨[],_,_,_,_,hs,rfl,rfl,?_⟩;refine⟨Zg _,?_⟩;exact⟨[],(),tq,[.d 20 0],⟨rfl,rfl,tq⟩,⟨_,rfl,rfl⟩,tq⟩
   ·exact⟨_,rfl,[],rfl,tq⟩
 ·subst ht;refine gW.c ?_;refine⟨0,Unit,(fun _=>⟨[(6,.p (.k 0) 0),(7,i64 0)],[.mx [i64 3,.f (.func 81) [.q xs 0] []]]⟩),fun _=>True,fun _=>0,?_,fun _ h=> ?_⟩
  ·refine⟨[],_,_,_,_,eJ (by simp[A1]),rfl,rfl,?_⟩;refine⟨[],_,_,_,_,fE (by simp[A1]),rfl,rfl,?_⟩;refine⟨[],_,_,_,_,fD (x:=n) (Y3 rfl) rfl (by omega),rfl,rfl,?_⟩;refine E5 (by rw[decide_eq_true hv];rfl) ?_;refine⟨[],_,_,_,_,hs,rfl,rfl,?_⟩;refine⟨Zg _,?_⟩;exact⟨[],(),tq,[.d 20 0],⟨rfl,rfl,tq⟩,⟨_,rfl,rfl⟩,tq⟩
  ·exact⟨_,rfl,[],rfl,tq⟩
 ·subst ht;refine gW.c ?_;refine⟨0,Unit,(fun _=>⟨[(6,.p (.k 0) 0),(7,i64 0)],[.mx [i64 6,.f (.func 83) [.q xs 0] []]]⟩),fun _=>True,fun _=>0,?_,fun _ h=> ?_⟩
  ·refine⟨[],_,_,_,_,eJ (by simp[A1]),rfl,rfl,?_⟩;refine⟨[],_,_,_,_,fE (by simp[A1]),rfl,rfl,?_⟩;refine⟨[],_,_,_,_,fD (x:=n) (Y3 rfl) rfl (by omega),rfl,rfl,?_⟩;refine E5 (by rw[decide_eq_true hv];rfl) ?_;refine⟨[],_,_,_,_,hs,rfl,rfl,?_⟩;refine⟨Zg _,?_⟩;exact⟨[],(),tq,[.d 20 0],⟨rfl,rfl,tq⟩,⟨_,rfl,rfl⟩,tq⟩
  ·exact⟨_,rfl,[],rfl,tq⟩
 ·subst ht;refine gW.c ?_;refine⟨0,Unit,(fun _=>⟨[(6,.p (.k 0) 0),(7,i64 0)],[.mx [i64 7,.f (.func 85) [.q xs 0] []]]⟩),fun _=>True,fun _=>0,?_,fun _ h=> ?_⟩
  ·refine⟨[],_,_,_,_,eJ (by simp[A1]),rfl,rfl,?_⟩;refine⟨[],_,_,_,_,fE (by simp[A1]),rfl,rfl,?_⟩;refine⟨[],_,_,_,_,fD (x:=n) (Y3 rfl) rfl (by omega),rfl,rfl,?_⟩;refine E5 (by rw[decide_eq_true hv];rfl) ?_;refine⟨[],_,_,_,_,hs,rfl,rfl,?_⟩;refine⟨Zg _,?_⟩;exact⟨[],(),tq,[.d 20 0],⟨rfl,rfl,tq⟩,⟨_,rfl,rfl⟩,tq⟩
  ·exact⟨_,rfl,[],rfl,tq⟩
 ·exact Me ht hv hm hs
def tp (t:Int) (n:Nat) (va:List Value) (rs:List V):Prop:=
 ((t=1\/t=2)/\∃x,rs=[i64 t,.q x 0,j8,j8,j8,j8]/\b9 C 54 [.z n va] [] (.ret (.t [.q x 0,i64 0])) [])\/
 ((t=3)/\∃x,rs=[i64 t,j8,.q x 0,j8,j8,j8]/\b9 C 55 [.z n va] [] (.ret (.t [.q x 0,i64 0])) [])\/
 ((t=6)/\∃x,rs=[i64 t,j8,j8,j8,.q x 0,j8]/\b9 C 56 [.z n va] [] (.ret (.t [.q x 0,i64 0])) [])\/
 ((t=7)/\∃x,rs=[i64 t,j8,j8,j8,j8,.q x 0]/\b9 C 57 [.z n va] [] (.ret (.t [.q x 0,i64 0])) [])\/
 (t=4\/t=5\/t=8)/\∃x,rs=[i64 t,j8,j8,.q x 0,j8,j8]/\b9 C 58 [i64 t,.z n va] [] (.ret (.t [.q x 0,i64 0])) []
theorem Dd {l:List Int} {i:Nat} {x:Int} (h:i<l.length):decide (x∈l.take (i+1))=(decide (x∈l.take i)||(l.getD i 0==x)):=by
 have e:l.getD i 0=l[i]:=by simp[Zc,h]
 rw[e,List.take_succ_eq_append_getElem h];rw[Bool.eq_iff_iff];simp only[decide_eq_true_eq,List.mem_append,List.mem_singleton,Bool.or_eq_true,beq_iff_eq];exact⟨fun h=>h.elim .inl fun h=> .inr h.symm,fun h=>h.elim .inl fun h=> .inr h.symm⟩
theorem tp.ok {t n va rs} (h:tp t n va rs):A1 t:=by
 unfold A1;rcases h with ⟨h,_⟩|⟨h,_⟩|⟨h,_⟩|⟨h,_⟩|⟨h,_⟩<;>omega
theorem pH {t} (h:A1 t):0<(r9 t).length:=by
 rcases h with rfl|rfl|rfl|rfl|rfl|rfl|rfl|rfl<;>decide
theorem jq {t:Int} {n:Nat} {va:List Value} {rs:List V} (hv:(n:Int)∈r9 t) (hs:tp t n va rs):b9 C 14 [i64 t,.z n va] [] (.ret (.t [.q rs 0,i64 0])) []:=by
 have hok:=hs.ok;have hl:=kF t;have hp:=pH hok;refine vD.c ?_;refine⟨[],_,_,_,_,uA hok,rfl,rfl,?_⟩;refine E5 (beq_false_of_ne (by omega)) ?_;refine m9 (fun i=>⟨[(0,i64 t),(1,.z n va),(6,iz (r9 t)),(7,bool (decide ((n:Int)∈(r9 t).take i))),(8,i64 i)],[]⟩) (r9 t).length ⟨[],⟨rfl,rfl,?_,?_,rfl,tq⟩,tq⟩ fun i hi=> ?_
 ·show V.z _ (sub (iv _) 0 _)=_;rw[Y3 rfl]
 ·exact congrArg bool (decide_eq_false (by simp)).symm
 refine d9 (fun h=> ?_) (fun h=> ?_)
 ·have d8:i<(r9 t).length:=(by omega);have hstep:=Dd (x:=(n:Int)) d8;refine iP (fun h1=> ?_) (fun h1=> ?_)
  ·rw[h1,Bool.true_or]at hstep;exact⟨i+1,by omega,by omega,[],⟨rfl,rfl,rfl,congrArg bool hstep.symm,f8 (by simp(disch:=omega)only[Za];omega),tq⟩,tq⟩
  ·rw[h1,Bool.false_or]at hstep;refine⟨by omega,by omega,_,by rw[Zd];exact wc d8,?_⟩;exact⟨i+1,by omega,by omega,[],⟨rfl,rfl,rfl,congrArg bool hstep.symm,f8 (by simp(disch:=omega)only[Za];omega),tq⟩,tq⟩
 obtain rfl:i=(r9 t).length:=(by omega);refine E5 (by rw[List.take_length,decide_eq_true hv];rfl) ?_;rcases hs with ⟨rfl|rfl,x,rfl,hs⟩|⟨rfl,x,rfl,hs⟩|⟨rfl,x,rfl,hs⟩|⟨rfl,x,rfl,hs⟩|⟨rfl|rfl|rfl,x,rfl,hs⟩;all_goals
  refine⟨[],_,_,_,_,hs,rfl,rfl,?_⟩;refine⟨Zj rfl,?_⟩;exact⟨_,rfl,[],rfl,tq⟩
theorem MG {t:Int} {n:Nat} {va:List Value} (ht:¬A1 t):b9 C 14 [i64 t,.z n va] [] (.ret (.t [j8,i64 2])) []:=by
 refine vD.c ?_;refine⟨[],_,_,_,_,Mz ht,rfl,rfl,?_⟩;exact⟨_,rfl,[],rfl,tq⟩
theorem ME {t:Int} {n:Nat} {va:List Value} (hok:A1 t) (hv:(n:Int)∉r9 t):b9 C 14 [i64 t,.z n va] [] (.ret (.t [j8,i64 4])) []:=by
 have hl:=kF t;have hp:=pH hok;refine vD.c ?_;refine⟨[],_,_,_,_,uA hok,rfl,rfl,?_⟩;refine E5 (beq_false_of_ne (by omega)) ?_;refine m9 (fun i=>⟨[(0,i64 t),(1,.z n va),(6,iz (r9 t)),(7,bool (decide ((n:Int)∈(r9 t).take i))),(8,i64 i)],[]⟩) (r9 t).length ⟨[],⟨rfl,rfl,?_,?_,rfl,tq⟩,tq⟩ fun i hi=> ?_
 ·show V.z _ (sub (iv _) 0 _)=_;rw[Y3 rfl]
 ·exact congrArg bool (decide_eq_false (by simp)).symm
 refine d9 (fun h=> ?_) (fun h=> ?_)
 ·have d8:i<(r9 t).length:=(by omega);have hstep:=Dd (x:=(n:Int)) d8;refine iP (fun h1=> ?_) (fun h1=> ?_)
  ·rw[h1,Bool.true_or]at hstep;exact⟨i+1,by omega,by omega,[],⟨rfl,rfl,rfl,congrArg bool hstep.symm,f8 (by simp(disch:=omega)only[Za];omega),tq⟩,tq⟩
  ·rw[h1,Bool.false_or]at hstep;refine⟨by omega,by omega,_,by rw[Zd];exact wc d8,?_⟩;exact⟨i+1,by omega,by omega,[],⟨rfl,rfl,rfl,congrArg bool hstep.symm,f8 (by simp(disch:=omega)only[Za];omega),tq⟩,tq⟩
 obtain rfl:i=(r9 t).length:=(by omega);refine fp (by rw[List.take_length,decide_eq_false hv];rfl) ?_;exact⟨_,rfl,[],rfl,tq⟩
def Hj (t:Int) (n:Nat) (va:List Value) (back:Bool) (rs:List V) (l:List Value):Prop:=
 ((t=1\/t=2)/\∃x,rs=[i64 t,.q x 0,j8,j8,j8,j8]/\b9 C 153 [.q x 0,.z n va,bool back] [] (C6 n) [.sc l])\/
 ((t=3)/\∃x,rs=[i64 t,j8,.q x 0,j8,j8,j8]/\b9 C 154 [.q x 0,.z n va,bool back] [] (C6 n) [.sc l])\/
 ((t=6)/\∃x,rs=[i64 t,j8,j8,j8,.q x 0,j8]/\b9 C 155 [.q x 0,.z n va,bool back] [] (C6 n) [.sc l])\/
 ((t=7)/\∃x,rs=[i64 t,j8,j8,j8,j8,.q x 0]/\b9 C 156 [.q x 0,.z n va,bool back] [] (C6 n) [.sc l])\/
 (t=4\/t=5\/t=8)/\∃x,rs=[i64 t,j8,j8,.q x 0,j8,j8]/\b9 C 157 [.q x 0,.z n va,bool back] [] (C6 n) [.sc l]
theorem jo {t:Int} {n:Nat} {va:List Value} {back:Bool} {rs:List V} {l:List Value} (hs:Hj t n va back rs l):b9 C 88 [.q rs 0,.z n va,bool back] [] (C6 n) [.sc l]:=by
 rcases hs with ⟨ht,x,rfl,hs⟩|⟨ht,x,rfl,hs⟩|⟨ht,x,rfl,hs⟩|⟨ht,x,rfl,hs⟩|⟨ht,x,rfl,hs⟩
 ·rcases ht with rfl|rfl;all_goals
   refine eV.c ?_;refine⟨_,rfl,_,rfl,?_⟩;refine⟨[],_,_,_,_,hs,rfl,rfl,?_⟩;exact⟨_,rfl,[.d 21 0],rfl,⟨_,rfl,rfl⟩,tq⟩
 ·rcases ht with rfl;all_goals
   refine eV.c ?_;refine⟨_,rfl,_,rfl,?_⟩;refine⟨[],_,_,_,_,hs,rfl,rfl,?_⟩;exact⟨_,rfl,[.d 32 0],rfl,⟨_,rfl,rfl⟩,tq⟩
 ·rcases ht with rfl;all_goals
   refine eV.c ?_;refine⟨_,rfl,_,rfl,?_⟩;refine⟨[],_,_,_,_,hs,rfl,rfl,?_⟩;exact⟨_,rfl,[.d 43 0],rfl,⟨_,rfl,rfl⟩,tq⟩
 ·rcases ht with rfl;all_goals
   refine eV.c ?_;refine⟨_,rfl,_,rfl,?_⟩;refine⟨[],_,_,_,_,hs,rfl,rfl,?_⟩;exact⟨_,rfl,[.d 54 0],rfl,⟨_,rfl,rfl⟩,tq⟩
 ·rcases ht with rfl|rfl|rfl;all_goals
   refine eV.c ?_;refine⟨_,rfl,_,rfl,?_⟩;refine⟨[],_,_,_,_,hs,rfl,rfl,?_⟩;exact⟨_,rfl,[.d 63 0],rfl,⟨_,rfl,rfl⟩,tq⟩
def Hk (t:Int) (n:Nat) (va:List Value) (back:Bool) (rs:List V):Prop:=
 ((t=1\/t=2)/\∃x,rs=[i64 t,.q x 0,j8,j8,j8,j8]/\b9 C 153 [.q x 0,.z n va,bool back] [] V5 [])\/
 ((t=3)/\∃x,rs=[i64 t,j8,.q x 0,j8,j8,j8]/\b9 C 154 [.q x 0,.z n va,bool back] [] V5 [])\/
 ((t=6)/\∃x,rs=[i64 t,j8,j8,j8,.q x 0,j8]/\b9 C 155 [.q x 0,.z n va,bool back] [] V5 [])\/
 ((t=7)/\∃x,rs=[i64 t,j8,j8,j8,j8,.q x 0]/\b9 C 156 [.q x 0,.z n va,bool back] [] V5 [])\/
 (t=4\/t=5\/t=8)/\∃x,rs=[i64 t,j8,j8,.q x 0,j8,j8]/\b9 C 157 [.q x 0,.z n va,bool back] [] V5 []
theorem jp {t:Int} {n:Nat} {va:List Value} {back:Bool} {rs:List V} (hs:Hk t n va back rs):b9 C 88 [.q rs 0,.z n va,bool back] [] V5 []:=by
 rcases hs with ⟨ht,x,rfl,hs⟩|⟨ht,x,rfl,hs⟩|⟨ht,x,rfl,hs⟩|⟨ht,x,rfl,hs⟩|⟨ht,x,rfl,hs⟩
 ·rcases ht with rfl|rfl;all_goals
   refine eV.c ?_;refine⟨_,rfl,_,rfl,?_⟩;refine⟨[],_,_,_,_,hs,rfl,rfl,?_⟩;exact⟨_,rfl,[],rfl,tq⟩
 ·rcases ht with rfl;all_goals
   refine eV.c ?_;refine⟨_,rfl,_,rfl,?_⟩;refine⟨[],_,_,_,_,hs,rfl,rfl,?_⟩;exact⟨_,rfl,[],rfl,tq⟩
 ·rcases ht with rfl;all_goals
   refine eV.c ?_;refine⟨_,rfl,_,rfl,?_⟩;refine⟨[],_,_,_,_,hs,rfl,rfl,?_⟩;exact⟨_,rfl,[],rfl,tq⟩
 ·rcases ht with rfl;all_goals
   refine eV.c ?_;refine⟨_,rfl,_,rfl,?_⟩;refine⟨[],_,_,_,_,hs,rfl,rfl,?_⟩;exact⟨_,rfl,[],rfl,tq⟩
 ·rcases ht with rfl|rfl|rfl;all_goals
   refine eV.c ?_;refine⟨_,rfl,_,rfl,?_⟩;refine⟨[],_,_,_,_,hs,rfl,rfl,?_⟩;exact⟨_,rfl,[],rfl,tq⟩
theorem My {t:Int} {rs:List V} (ht:A1 t) (hr:rs.head? =some (i64 t)):b9 C 15 [.q rs 0] [] (.ret (i64 (q9 t))) []:=by
 obtain⟨r,rfl⟩:∃r,rs=i64 t::r:=by
  cases rs with
  |nil=>cases hr
  |cons a r=>exact⟨r,by cases hr;rfl⟩
 refine Ta.c ?_;refine⟨_,rfl,?_⟩;refine⟨[],_,_,_,_,pT ht,rfl,rfl,?_⟩;exact⟨_,rfl,[],rfl,tq⟩
def aI (r:W2):Bs:=P8 r.1++P8 r.2
def bj (r:W2):Bs:=s6 r.1++s6 r.2
def xF (key:Bs) (back:Bool) (b:Bs):W2:=if back then ((it (S9 (D6 t8 key 4)) 32 (t8 (sub b 0 4),t8 (sub b 4 4),3337565984)).1,(it (S9 (D6 t8 key 4)) 32 (t8 (sub b 0 4),t8 (sub b 4 4),3337565984)).2.1)else ((it (T2 (D6 t8 key 4)) 32 (t8 (sub b 0 4),t8 (sub b 4 4),0)).1,(it (T2 (D6 t8 key 4)) 32 (t8 (sub b 0 4),t8 (sub b 4 4),0)).2.1)
def mF (key:Bs) (back:Bool) (b:Bs):W2:=bS (if back then (F4 (D6 t8 key 8)).reverse else F4 (D6 t8 key 8)) (t8 (sub b 0 4)) (t8 (sub b 4 4))
def rG (K:List UInt32):Bool->Bs->W2
 |true,b=>((G2 K (t5 (sub b 0 4),t5 (sub b 4 4)) 12).1-K.getD 0 0,(G2 K (t5 (sub b 0 4),t5 (sub b 4 4)) 12).2-K.getD 1 0)
 |false,b=>E4 K (t5 (sub b 0 4),t5 (sub b 4 4)) 12
def gS (key:Bs) (back:Bool) (b:Bs):Bs:=N9 (I8 key (key.length/8)) back b (I8 key (key.length/8)).length
def aQ (key:Bs):Nat:=(key.length-16)/8
def aN (key:Bs):Nat:=13+2*aQ key
def cF (t:Int) (key:Bs) (back:Bool) (b:Bs):Bs:=
 if t=1\/t=2 then gS key back b
 else if t=3 then av (L3 (if back then B4 (W5 key)else W5 key) (O1 b))
 else if t=4 then aI (xF key back b)
 else if t=5 then aI (mF key back b)
 else if t=6 then O3 (if back then dj (tK key) (tS key) (C8 b)else dk (tK key) (tS key) (C8 b)) 4
 else if t=7 then (if back then gI (aQ key) key (aN key) b else dZ (aQ key) key (aN key) b)
 else bj (rG (A4 (D6 t5 key 4) 78).1 back b)
structure k5 (t:Int) (key:Bs) (s k:Nat) (xs rs:List V):Prop where
 ht:A1 t
 hs:q9 t=s
 hd:rs.head? =some (i64 t)
 kl:(key.length:Int)∈r9 t
 new:b9 C 25 [i64 t,.z key.length (bv key)] [] (.ret (.t [f9 t k xs,i64 0])) []
 cn:yd t key.length (bv key) k xs
 rnew:b9 C 14 [i64 t,.z key.length (bv key)] [] (.ret (.t [.q rs 0,i64 0])) []
 blk:∀{b:Bs} {back:Bool},b.length=s->b9 C k [.q xs 0,.z s (bv b),bool back] [] (C6 s) [.sc (bv (cF t key back b))]
 rblk:∀{b:Bs} {back:Bool},b.length=s->b9 C 88 [.q rs 0,.z s (bv b),bool back] [] (C6 s) [.sc (bv (cF t key back b))]
 bad:∀{n:Nat} {va:List Value} {back:Bool},n≠s->b9 C k [.q xs 0,.z n va,bool back] [] V5 []
 rbad:∀{n:Nat} {va:List Value} {back:Bool},n≠s->b9 C 88 [.q rs 0,.z n va,bool back] [] V5 []
 len:∀{b:Bs} {back:Bool},b.length=s->(cF t key back b).length=s
theorem DX (r):(aI r).length=8:=by rw[aI,Zb,iG,iG]
theorem Yh (r):(bj r).length=8:=by rw[bj,Zb,H3,H3]
theorem Yk (x):(O3 x 4).length=16:=fi x 4
theorem HR {q key n b} (h:bC q key n):(dZ q key n b).length=16:=by
 rw[dZ];exact B5 (R4 _ _ _) (fB h _)
theorem HQ {q key n b} (h:bC q key n):(gI q key n b).length=16:=pu h _
theorem AG {t:Int} {key:Bs} (ht:t=1\/t=2) (hv:(key.length:Int)∈r9 t):∃k xs rs,k5 t key 8 k xs rs:=by
 obtain⟨n,hn,h3⟩:∃n,key.length=8*n/\(1<=n/\n<=3):=by
  refine⟨key.length/8,?_⟩;rcases ht with rfl|rfl<;>simp[r9]at hv<;>omega
 have hd:key.length/8=n:=by omega
 obtain⟨ok,pos⟩:=PO (key:=key) h3;have hF:∀b back,cF t key back b=N9 (I8 key n) back b (I8 key n).length:=fun b back=>by rw[cF,if_pos ht,gS,hd]
 refine⟨_,_,[i64 t,dB (I8 key n),j8,j8,j8,j8],⟨?_,?_,rfl,hv,jn hv (by omega) (.inl ⟨ht,rfl,zE rfl rfl hn h3⟩),.inl ⟨ht,rfl,zE rfl rfl hn h3⟩,jq hv (.inl ⟨ht,_,rfl,Nf rfl rfl hn h3⟩),fun hb=> ?_,fun hb=> ?_,fun hn=>Lx hn,fun hn=>jp (.inl ⟨ht,_,rfl,MZ hn⟩),fun hb=> ?_⟩⟩
 ·unfold A1;omega
 ·unfold q9;rw[if_pos (by omega)];rfl
 ·rw[hF];exact Ly rfl hb ok pos
 ·rw[hF];exact jo (.inl ⟨ht,_,rfl,Na rfl hb ok pos⟩)
 ·rw[hF];exact uU hb _
theorem Pg {key:Bs} (hk:key.length=16):∃k xs rs,k5 3 key 8 k xs rs:=by
 have hv:(key.length:Int)∈r9 3:=by rw[hk];decide
 refine⟨_,_,[i64 3,j8,oV (W5 key),j8,j8,j8],⟨by simp[A1],rfl,rfl,hv,jn hv (by omega) (.inr (.inl ⟨rfl,rfl,by rw[hk];exact zK rfl hk⟩)),.inr (.inl ⟨rfl,rfl,by rw[hk];exact zK rfl hk⟩),jq hv (.inr (.inl ⟨rfl,_,rfl,by rw[hk];exact Nl rfl hk⟩)),fun hb=>LN rfl hb (fY _) (oB _),fun hb=>jo (.inr (.inl ⟨rfl,_,rfl,Nj rfl hb (fY _) (oB _)⟩)),fun hn=>LM hn,fun hn=>jp (.inr (.inl ⟨rfl,_,rfl,Ni hn⟩)),fun hb=>Yj _⟩⟩
theorem Pl {key:Bs} (hk:key.length=16):∃k xs rs,k5 4 key 8 k xs rs:=by
 have hv:(key.length:Int)∈r9 4:=by rw[hk];decide
 have hl:=U1 t8 key 4;refine⟨_,_,[i64 4,j8,j8,L1 (D6 t8 key 4) 4,j8,j8],⟨by simp[A1],rfl,rfl,hv,jn hv (by omega) (.inr (.inr (.inr (.inr ⟨.inl rfl,rfl,by rw[hk];exact Ap rfl hk⟩)))),.inr (.inr (.inr (.inr ⟨.inl rfl,rfl,by rw[hk];exact Ap rfl hk⟩))),jq hv (.inr (.inr (.inr (.inr ⟨.inl rfl,_,rfl,by rw[hk];exact Nt rfl hk⟩)))),fun{b back} hb=> ?_,fun{b back} hb=> ?_,fun hn=>uk hn,fun hn=>jp (.inr (.inr (.inr (.inr ⟨.inl rfl,_,rfl,uB hn⟩)))),fun hb=>DX _⟩⟩
 ·refine JD (r:=xF key back b) rfl hb ?_;cases back
  ·exact OV hl rfl rfl
  ·exact OU hl rfl rfl
 ·refine jo (.inr (.inr (.inr (.inr ⟨.inl rfl,_,rfl,No (r:=xF key back b) rfl hb ?_⟩))));cases back
  ·exact NK hl rfl rfl
  ·exact Nz hl rfl rfl
theorem Pi {key:Bs} (hk:key.length=32):∃k xs rs,k5 5 key 8 k xs rs:=by
 have hv:(key.length:Int)∈r9 5:=by rw[hk];decide
 have hl:=U1 t8 key 8;refine⟨_,_,[i64 5,j8,j8,L1 (D6 t8 key 8) 5,j8,j8],⟨by simp[A1],rfl,rfl,hv,jn hv (by omega) (.inr (.inr (.inr (.inr ⟨.inr (.inl rfl),rfl,by rw[hk];exact Ao rfl hk⟩)))),.inr (.inr (.inr (.inr ⟨.inr (.inl rfl),rfl,by rw[hk];exact Ao rfl hk⟩))),jq hv (.inr (.inr (.inr (.inr ⟨.inr (.inl rfl),_,rfl,by rw[hk];exact Nr rfl hk⟩)))),fun{b back} hb=> ?_,fun{b back} hb=> ?_,fun hn=>uk hn,fun hn=>jp (.inr (.inr (.inr (.inr ⟨.inr (.inl rfl),_,rfl,uB hn⟩)))),fun hb=>DX _⟩⟩
 ·refine JB (r:=mF key back b) rfl hb ?_;cases back
  ·exact LY hl rfl rfl
  ·exact LZ hl rfl rfl
 ·refine jo (.inr (.inr (.inr (.inr ⟨.inr (.inl rfl),_,rfl,Nm (r:=mF key back b) rfl hb ?_⟩))));cases back
  ·exact Np hl rfl rfl
  ·exact Nq hl rfl rfl
theorem Ih {K:List UInt32} (hl:K.length=26) {b:Bs} {back:Bool} (hb:b.length=8):b9 C 87 [V2 K 8,.z 8 (bv b),bool back] [] (C6 8) [.sc (bv (bj (rG K back b)))]:=by
 refine JC (r:=rG K back b) rfl hb ?_;cases back
 ·simp only[rG];exact NT hl rfl rfl
 ·simp only[rG];exact NS hl rfl rfl
theorem Yv {K:List UInt32} (hl:K.length=26) {b:Bs} {back:Bool} (hb:b.length=8):b9 C 157 [L1 K 8,.z 8 (bv b),bool back] [] (C6 8) [.sc (bv (bj (rG K back b)))]:=by
 refine Nn (r:=rG K back b) rfl hb ?_;cases back
 ·simp only[rG];exact Nv hl rfl rfl
 ·simp only[rG];exact Nu hl rfl rfl
theorem Pj {key:Bs} (hk:key.length=16):∃k xs rs,k5 8 key 8 k xs rs:=by
 have hv:(key.length:Int)∈r9 8:=by rw[hk];decide
 have hl:=(ot (D6 t5 key 4) 78).1;have n1:=Oy rfl hk;have n2:=Ns rfl hk;have hF:∀back b,cF 8 key back b=bj (rG (A4 (D6 t5 key 4) 78).1 back b):=fun _ _=>rfl;generalize (A4 (D6 t5 key 4) 78).1=K at hl n1 n2 hF;rw[<-hk]at n1 n2;exact⟨_,_,[i64 8,j8,j8,L1 K 8,j8,j8],⟨by simp[A1],rfl,rfl,hv,jn hv (by omega) (.inr (.inr (.inr (.inr ⟨.inr (.inr rfl),rfl,n1⟩)))),.inr (.inr (.inr (.inr ⟨.inr (.inr rfl),rfl,n1⟩))),jq hv (.inr (.inr (.inr (.inr ⟨.inr (.inr rfl),_,rfl,n2⟩)))),fun{b back} hb=>by rw[hF];exact Ih hl hb,fun{b back} hb=>by rw[hF];exact jo (.inr (.inr (.inr (.inr ⟨.inr (.inr rfl),_,rfl,Yv hl hb⟩)))),fun hn=>uk hn,fun hn=>jp (.inr (.inr (.inr (.inr ⟨.inr (.inr rfl),_,rfl,uB hn⟩)))),fun hb=>by rw[hF];exact Yh _⟩⟩
theorem Pk {key:Bs} (hk:key.length=16\/key.length=24\/key.length=32):∃k xs rs,k5 6 key 16 k xs rs:=by
 have hv:(key.length:Int)∈r9 6:=by rcases hk with h|h|h<;>rw[h]<;>decide
 obtain⟨n,hn,h3⟩:∃n,key.length=8*n/\(2<=n/\n<=4):=⟨key.length/8,by omega⟩;have hS:=sG hn;refine⟨_,_,[i64 6,j8,j8,j8,S6 (tK key) (tS key),j8],⟨by simp[A1],rfl,rfl,hv,jn hv (by omega) (.inr (.inr (.inl ⟨rfl,rfl,Ay rfl rfl hn h3⟩))),.inr (.inr (.inl ⟨rfl,rfl,Ay rfl rfl hn h3⟩)),jq hv (.inr (.inr (.inl ⟨rfl,_,rfl,NQ rfl rfl hn h3⟩))),fun{b back} hb=> ?_,fun{b back} hb=>jo (.inr (.inr (.inl ⟨rfl,_,rfl,?_⟩))),fun hn=>OP hn,fun hn=>jp (.inr (.inr (.inl ⟨rfl,_,rfl,NM hn⟩))),fun hb=>Yk _⟩⟩
 ·cases back
  ·exact OR rfl hb (iT _) (by omega)
  ·exact OQ rfl hb (iT _) (by omega)
 ·cases back
  ·exact NO rfl hb (iT _) (by omega)
  ·exact NN rfl hb (iT _) (by omega)
theorem Pf {key:Bs} (hk:key.length=16\/key.length=24\/key.length=32):∃k xs rs,k5 7 key 16 k xs rs:=by
 have hv:(key.length:Int)∈r9 7:=by rcases hk with h|h|h<;>rw[h]<;>decide
 have ok:bC (aQ key) key (aN key):=by
  refine⟨?_,?_,?_,?_⟩<;>first|omega|(simp only[aN,aQ];omega)
 have new:b9 C 84 [.z key.length (bv key)] [] (.ret (.t [ek (aQ key) key (aN key),i64 0])) []/\b9 C 57 [.z key.length (bv key)] [] (.ret (.t [ej (aQ key) key (aN key),i64 0])) []:=by
  rcases hk with h|h|h
  ·rw[aN,aQ,h];exact⟨IJ rfl h,Mr rfl h⟩
  ·rw[aN,aQ,h];exact⟨IK rfl h,Ms rfl h⟩
  ·rw[aN,aQ,h];exact⟨IL rfl h,Mu rfl h⟩
 refine⟨_,_,[i64 7,j8,j8,j8,j8,ej (aQ key) key (aN key)],⟨by simp[A1],rfl,rfl,hv,jn hv (by omega) (.inr (.inr (.inr (.inl ⟨rfl,rfl,new.1⟩)))),.inr (.inr (.inr (.inl ⟨rfl,rfl,new.1⟩))),jq hv (.inr (.inr (.inr (.inl ⟨rfl,_,rfl,new.2⟩)))),fun{b back} hb=> ?_,fun{b back} hb=>jo (.inr (.inr (.inr (.inl ⟨rfl,_,rfl,?_⟩)))),fun hn=>IM hn,fun hn=>jp (.inr (.inr (.inr (.inl ⟨rfl,_,rfl,Ml hn⟩)))),fun{b back} hb=> ?_⟩⟩
 ·cases back
  ·exact IQ ok rfl hb
  ·exact IP ok rfl hb
 ·cases back
  ·exact Mn ok rfl hb
  ·exact Mm ok rfl hb
 ·cases back
  ·exact HR ok
  ·exact HQ ok
theorem AH {t:Int} {key:Bs} (ht:A1 t) (hv:(key.length:Int)∈r9 t):∃s k xs rs,k5 t key s k xs rs:=by
 have h8:∀{t},(∃k xs rs,k5 t key 8 k xs rs)->∃s k xs rs,k5 t key s k xs rs:=fun h=>⟨8,h⟩;have h16:∀{t},(∃k xs rs,k5 t key 16 k xs rs)->∃s k xs rs,k5 t key s k xs rs:=fun h=>⟨16,h⟩;rcases ht with rfl|rfl|rfl|rfl|rfl|rfl|rfl|rfl
 ·exact h8 (AG (.inl rfl) hv)
 ·exact h8 (AG (.inr rfl) hv)
 ·exact h8 (Pg (by simp[r9]at hv;omega))
 ·exact h8 (Pl (by simp[r9]at hv;omega))
 ·exact h8 (Pi (by simp[r9]at hv;omega))
 ·exact h16 (Pk (by simp[r9]at hv;omega))
 ·exact h16 (Pf (by simp[r9]at hv;omega))
 ·exact h8 (Pj (by simp[r9]at hv;omega))
theorem k5.new' {t key s k xs rs} (h:k5 t key s k xs rs) {n:Nat} {va:List Value} (hn:key.length=n) (ha:va=bv key):b9 C 25 [i64 t,.z n va] [] (.ret (.t [f9 t k xs,i64 0])) []:=by subst ha;subst hn;exact h.new
theorem k5.enc {t key s k xs rs} (h:k5 t key s k xs rs) {b:Bs} {va:List Value} (hb:b.length=s) (ha:va=bv b):b9 C 26 [f9 t k xs,.z s va] [] (C6 s) [.sc (bv (cF t key false b))]:=by subst ha;exact LC (h.blk hb)
theorem k5.dec {t key s k xs rs} (h:k5 t key s k xs rs) {b:Bs} {va:List Value} (hb:b.length=s) (ha:va=bv b):b9 C 177 [f9 t k xs,.z s va] [] (C6 s) [.sc (bv (cF t key true b))]:=by subst ha;exact Lw (h.blk hb)
theorem k5.rS {t key s k xs rs} (h:k5 t key s k xs rs):b9 C 23 [i64 t] [] (.ret (i64 s)) []:=by rw[<-h.hs];exact pT h.ht
theorem k5.size {t key s k xs rs} (h:k5 t key s k xs rs):b9 C 63 [f9 t k xs] [] (.ret (i64 s)) []:=by rw[<-h.hs];exact JM h.ht
theorem k5.rsize {t key s k xs rs} (h:k5 t key s k xs rs):b9 C 15 [.q rs 0] [] (.ret (i64 s)) []:=by rw[<-h.hs];exact My h.ht h.hd
theorem Wz {t n:Int} (ht:A1 t):((cH t n:Nat):Int)∈r9 t:=by
 have hp:=pH ht;have h1:=Int.emod_nonneg n (b:=((r9 t).length:Int)) (by omega);have h2:=Int.emod_lt_of_pos n (b:=((r9 t).length:Int)) (by omega);have hi:(n%((r9 t).length:Int)).toNat<(r9 t).length:=by omega
 have hx:(r9 t).getD (n%((r9 t).length:Int)).toNat 0∈r9 t:=by
  rw[Zc,Zp hi];exact List.getElem_mem hi
 have h0:0<=(r9 t).getD (n%((r9 t).length:Int)).toNat 0:=by
  have:∀x∈r9 t,0<=x:=by
   rcases ht with rfl|rfl|rfl|rfl|rfl|rfl|rfl|rfl<;>decide
  exact this _ hx
 rw[cH,Int.toNat_of_nonneg h0];exact hx
theorem Ph (tag n:Int) (k:Bs):∃s q xs rs,k5 (D1 tag) (ba (D1 tag) n k) s q xs rs:=AH (jS _) (by rw[we];exact Wz (jS _))
theorem k5.s_le {t key s k xs rs} (h:k5 t key s k xs rs):8<=s/\s<=16:=by
 have:=h.hs;rcases h.ht with e|e|e|e|e|e|e|e<;>(subst e;simp[q9]at this;omega)
theorem LU {t n:Int} {m:Nat} {va:List Value} {k:Bs} (ht:A1 t) (hn: -9223372036854775808<=n/\n<=9223372036854775807) (ha:va=bv k) (hk:k.length=m):b9 C 21 [i64 t,i64 n,.z m va] [] (.ret (.z (cH t n) (bv (ba t n k)))) []:=by
 obtain⟨h1,h2,h3,h4,h5⟩:=wd ht n;have hl:=kF t;have hp:=pH ht;refine Sb.c ?_;refine⟨[],_,_,_,_,uA ht,rfl,rfl,?_⟩;refine⟨[],_,_,_,_,AD (n:=(r9 t).length) (by omega) (by omega) hn,rfl,rfl,?_⟩;refine⟨h4,h5,?_⟩;refine⟨.int .i64 (cH t n),?_,?_⟩
 ·rw[Ze,Zi];simp[iv,h3]
 refine⟨[],_,_,_,_,zu (n:=cH t n) ha hk (by omega),rfl,rfl,?_⟩;exact⟨_,rfl,[],congrArg (V.z _) (g8 (pG _ _)),tq⟩
theorem rk {α:Type} (f:α->α):∀(n:Nat) (x:α),it f n (f x)=f (it f n x)
 |0,_=>rfl
 |n+1,x=>congrArg f (rk f n x)
theorem vY {α:Type} {f g:α->α} (h:∀x,g (f x)=x):∀(n:Nat) (x:α),it g n (it f n x)=x
 |0,_=>rfl
 |n+1,x=>by
  show g (it g n (f (it f n x)))=x;rw[<-rk g,h,vY h n x]
theorem qW {α:Type} {st bk:α->Nat->α} (h:∀x r,bk (st x r) r=x):∀(n:Nat) (x:α),(List.range n).foldl (fun x r=>bk x (n-1-r)) ((List.range n).foldl st x)=x
 |0,_=>rfl
 |n+1,x=>by
  have e1:(List.range (n+1)).foldl st x=st ((List.range n).foldl st x) n:=by rw[Zo,Zx];rfl
  rw[e1,Jk,Zv,List.foldl_map];rw[show n+1-1-0=n by omega,h];have e:∀(l:List Nat) (y:α),l.foldl (fun x r=>bk x (n+1-1-Nat.succ r)) y=l.foldl (fun x r=>bk x (n-1-r)) y:=by
   intro l y;congr 1;funext x r;congr 1;omega
  rw[e];exact qW h n x
theorem oj {α:Type} {f g:α->Nat->α} {n:Nat} (h:∀x r,r<n->f x r=g x r):∀(x:α),(List.range n).foldl f x=(List.range n).foldl g x:=by
 have:∀(l:List Nat),(∀r∈l,r<n)->∀x,l.foldl f x=l.foldl g x:=by
  intro l;induction l with
  |nil=>intros;rfl
  |cons a r ih=>
   intro hl x;rw[Zv,Zv,h x a (hl a (by simp))];exact ih (fun r hr=>hl r (by simp[hr])) _
 exact this _ (fun r hr=>List.mem_range.1 hr)
theorem Ch {α:Type} {st bk:α->Nat->α} (h:∀x r,st (bk x r) r=x) (n:Nat) (x:α):(List.range n).foldl st ((List.range n).foldl (fun x r=>bk x (n-1-r)) x)=x:=by
 have:=qW (st:=fun x r=>bk x (n-1-r)) (bk:=fun x r=>st x (n-1-r)) (fun x r=>h x _) n x;rw[<-this];rw[this];refine Eq.trans (oj (fun y r hr=> ?_) _) this;show st y r=st y (n-1-(n-1-r));rw[show n-1-(n-1-r)=r by omega]
theorem EX (v:UInt32) {k:Nat} (h:k<32) (i:Nat) (hi:i<32):(F5 v k).toNat.testBit i=v.toNat.testBit ((i+32-k)%32):=by
 unfold F5;have hv:v.toNat<2^32:=v.toNat_lt;have e1:(UInt32.ofNat k).toNat%32=k:=by rw[Jq,Zr (show k<2^32 by omega)];exact Zr h
 have e2:(UInt32.ofNat (32-k)).toNat%32=(32-k)%32:=by rw[Jq,Zr (show 32-k<2^32 by omega)]
 rw[UInt32.toNat_or,UInt32.toNat_shiftLeft,UInt32.toNat_shiftRight,e1,e2,Nat.testBit_or,Nat.testBit_mod_two_pow,Nat.testBit_shiftLeft,Nat.testBit_shiftRight];by_cases hk:k=0
 ·subst hk;simp[hi,Zr hi]
 ·rw[Zr (show 32-k<32 by omega)];by_cases hki:k<=i
  ·have:v.toNat.testBit (32-k+i)=false:=Jj (Nat.lt_of_lt_of_le hv (Z3 (by decide) (by omega)));rw[this,show(i+32-k)%32=i-k by omega];simp[hi,hki]
  ·rw[show (i+32-k)%32=32-k+i by omega];simp[hki]
theorem iN (v:UInt32) {k j:Nat} (h:k<32) (hj:j<32) (e:(k+j)%32=0):F5 (F5 v k) j=v:=by
 apply UInt32.toNat_inj.1;apply Nat.eq_of_testBit_eq;intro i;by_cases hi:i<32
 ·rw[EX _ hj i hi,EX _ h _ (Zw _ (by decide))];congr 1;omega
 ·have hp:∀w:UInt32,w.toNat.testBit i=false:=fun w=>Jj (Nat.lt_of_lt_of_le w.toNat_lt (Z3 (by decide) (by omega)));rw[hp,hp]
theorem fy (a b:UInt32):a^^^b^^^b=a:=by rw[UInt32.xor_assoc,UInt32.xor_self,UInt32.xor_zero]
theorem rV (n:UInt64) (x:UInt8) (h:n.toNat<2^56):(n<<<8|||x.toUInt64).toNat=n.toNat*256+x.toNat:=by
 have hx:=x.toNat_lt;rw[UInt64.toNat_or,UInt64.toNat_shiftLeft,UInt8.toNat_toUInt64,show(8:UInt64).toNat%64=8 from rfl,Nat.shiftLeft_eq,Zr (by omega)];rw[show (2:Nat)^8=2^8 from rfl,rU _ (i:=8) (by omega)]
theorem WX (a b c d:UInt8):(P7 [a,b,c,d]).toNat=((a.toNat*256+b.toNat)*256+c.toNat)*256+d.toNat:=by
 have ha:=a.toNat_lt;have hb:=b.toNat_lt;have hc:=c.toNat_lt;have hd:=d.toNat_lt;show(((((((0:UInt64)<<<8|||a.toUInt64)<<<8|||b.toUInt64))<<<8|||c.toUInt64))<<<8|||d.toUInt64).toNat=_;have e1:((0:UInt64)<<<8|||a.toUInt64).toNat=a.toNat:=by rw[rV _ _ (by decide)];show 0*256+_=_;omega
 have e2:(((0:UInt64)<<<8|||a.toUInt64)<<<8|||b.toUInt64).toNat=a.toNat*256+b.toNat:=by rw[rV _ _ (by omega),e1]
 have e3:((((0:UInt64)<<<8|||a.toUInt64)<<<8|||b.toUInt64)<<<8|||c.toUInt64).toNat=(a.toNat*256+b.toNat)*256+c.toNat:=by rw[rV _ _ (by omega),e2]
 rw[rV _ _ (by omega),e3]
theorem DY (v:UInt32):P8 v=[Zt (v.toNat/16777216),Zt (v.toNat/65536),Zt (v.toNat/256),Zt v.toNat]:=by
 have hv:=v.toNat_lt;have s1:∀n:UInt64,(n>>>8).toNat=n.toNat/256:=fun n=>by rw[UInt64.toNat_shiftRight,show(8:UInt64).toNat%64=8 from rfl,Nat.shiftRight_eq_div_pow]
 have s2:∀n:UInt64,n.toUInt8=Zt n.toNat:=fun n=>by
  apply Z8.1;rw[UInt64.toNat_toUInt8,Zz]
 show[(v.toUInt64>>>8>>>8>>>8).toUInt8,(v.toUInt64>>>8>>>8).toUInt8,(v.toUInt64>>>8).toUInt8,v.toUInt64.toUInt8]=_;rw[s2,s2,s2,s2,s1,s1,s1,UInt32.toNat_toUInt64];simp only[Nat.div_div_eq_div_mul]
theorem WW {b:Bs} (h:b.length=4):∃p q r s,b=[p,q,r,s]:=by
 match b,h with
 |[p,q,r,s],_=>exact⟨p,q,r,s,rfl⟩
theorem yX (a b c d:UInt8):(t8 [a,b,c,d]).toNat=((a.toNat*256+b.toNat)*256+c.toNat)*256+d.toNat:=by
 have ha:=a.toNat_lt;have hb:=b.toNat_lt;have hc:=c.toNat_lt;have hd:=d.toNat_lt;rw[t8,UInt64.toNat_toUInt32,WX];omega
theorem tW (v:UInt32):t8 (P8 v)=v:=by
 have hv:=v.toNat_lt;apply UInt32.toNat_inj.1;rw[DY,yX];simp only[Zz];omega
theorem wN {b:Bs} (h:b.length=4):P8 (t8 b)=b:=by
 obtain⟨p,q,r,s,rfl⟩:=WW h;have hp:=p.toNat_lt;have hq:=q.toNat_lt;have hr:=r.toNat_lt;have hs:=s.toNat_lt;rw[DY,yX];have e:∀(x:UInt8) (n:Nat),n%256=x.toNat->Zt n=x:=fun x n h=>by
  apply Z8.1;rw[Zz,<-h]
 rw[e p _ (by omega),e q _ (by omega),e r _ (by omega),e s _ (by omega)]
theorem mc (v:UInt32):t5 (s6 v)=v:=by
 rw[t5,s6,Z4];exact tW v
theorem mA {b:Bs} (h:b.length=4):s6 (t5 b)=b:=by
 have:=wN (b:=b.reverse) (by rw[Zm,h]);show(P8 (t8 b.reverse)).reverse=b;rw[this,Z4]
theorem xB {a b:Bs} {n:Nat} (ha:a.length=n) (hb:b.length=n):sub (a++b) 0 n=a/\sub (a++b) n n=b:=by
 subst ha;refine⟨by simp[sub],?_⟩;simp only[sub,List.drop_left];exact Jc (by omega)
theorem xA {b:Bs} {n m:Nat} (h:b.length=n+m):sub b 0 n++sub b n m=b:=by
 rw[M9 b n m (by omega)];exact Z2 n b
theorem CN (r:W2):(t8 (sub (aI r) 0 4),t8 (sub (aI r) 4 4))=r:=by
 obtain⟨h1,h2⟩:=xB (iG r.1) (iG r.2);rw[aI,h1,h2,tW,tW]
theorem sa {b:Bs} (h:b.length=8):aI (t8 (sub b 0 4),t8 (sub b 4 4))=b:=by
 rw[aI,wN (by rw[m5];omega),wN (by rw[m5];omega)];exact xA h
theorem WP (r:W2):(t5 (sub (bj r) 0 4),t5 (sub (bj r) 4 4))=r:=by
 obtain⟨h1,h2⟩:=xB (H3 r.1) (H3 r.2);rw[bj,h1,h2,mc,mc]
theorem DZ {b:Bs} (h:b.length=8):bj (t5 (sub b 0 4),t5 (sub b 4 4))=b:=by
 rw[bj,mA (by rw[m5];omega),mA (by rw[m5];omega)];exact xA h
theorem a3O (k:List UInt32) (x):S9 k (T2 k x)=x:=by
 obtain⟨v,w,s⟩:=x;simp only[S9,T2,Z1]
theorem a3Q (k:List UInt32) (x):T2 k (S9 k x)=x:=by
 obtain⟨v,w,s⟩:=x;simp only[S9,T2,Z0]
theorem a3R (k:List UInt32) (n:Nat) (x):(it (T2 k) n x).2.2=it (· +I1) n x.2.2:=by
 induction n with
 |zero=>rfl
 |succ n ih=>show(T2 k _).2.2=_+I1;rw[<-ih];rfl
theorem a3P (k:List UInt32) (n:Nat) (x):(it (S9 k) n x).2.2=it (· -I1) n x.2.2:=by
 induction n with
 |zero=>rfl
 |succ n ih=>show(S9 k _).2.2=_-I1;rw[<-ih];rfl
theorem Wl:it (· +I1) 32 0=3337565984:=by decide
theorem Wj:it (· -I1) 32 3337565984=0:=by decide
def ng (k:List UInt32) (p:W2):W2:=((it (T2 k) 32 (p.1,p.2,0)).1,(it (T2 k) 32 (p.1,p.2,0)).2.1)
def nf (k:List UInt32) (p:W2):W2:=((it (S9 k) 32 (p.1,p.2,3337565984)).1,(it (S9 k) 32 (p.1,p.2,3337565984)).2.1)
theorem a3X (k p):nf k (ng k p)=p:=by
 have h:=vY (a3O k) 32 (p.1,p.2,0);have hs:=(a3R k 32 (p.1,p.2,0)).trans Wl;have e:((it (T2 k) 32 (p.1,p.2,0)).1,(it (T2 k) 32 (p.1,p.2,0)).2.1,(3337565984:UInt32))=it (T2 k) 32 (p.1,p.2,0):=by rw[<-hs]
 simp only[nf,ng,e,h]
theorem a3Y (k p):ng k (nf k p)=p:=by
 have h:=vY (a3Q k) 32 (p.1,p.2,3337565984);have hs:=(a3P k 32 (p.1,p.2,3337565984)).trans Wj;have e:((it (S9 k) 32 (p.1,p.2,3337565984)).1,(it (S9 k) 32 (p.1,p.2,3337565984)).2.1,(0:UInt32))=it (S9 k) 32 (p.1,p.2,3337565984):=by rw[<-hs]
 simp only[nf,ng,e,h]
theorem GT (key:Bs) (back:Bool) (b:Bs):xF key back b=if back then nf (D6 t8 key 4) (t8 (sub b 0 4),t8 (sub b 4 4))else ng (D6 t8 key 4) (t8 (sub b 0 4),t8 (sub b 4 4)):=by
 cases back
 ·unfold xF ng;rw[if_neg (by decide),if_neg (by decide)]
 ·unfold xF nf;rw[if_pos rfl,if_pos rfl]
theorem a3Z {key:Bs} {b:Bs} (hb:b.length=8) (back:Bool):aI (xF key (!back) (aI (xF key back b)))=b:=by
 rw[GT,CN,GT];cases back
 ·simp only[Bool.not_false,if_true];rw[if_neg (by decide),a3X,sa hb]
 ·simp only[Bool.not_true,if_true];rw[if_neg (by decide),a3Y,sa hb]
def X3 {α:Type} (x:α×α):α×α:=(x.2,x.1)
theorem BZ:∀(ks:List UInt32) (x:W2),X3 (ks.reverse.foldl V1 (X3 (ks.foldl V1 x)))=x
 |[],_=>rfl
 |k::r,x=>by
  rw[List.reverse_cons,Zx,Zv,Zv,List.foldl_nil];have:=BZ r (V1 x k);have e:r.reverse.foldl V1 (X3 (r.foldl V1 (V1 x k)))=X3 (V1 x k):=(congrArg X3 this :);rw[e];simp only[X3,V1,fy]
theorem Da (ks:List UInt32) (x:W2):bS ks.reverse (bS ks x.1 x.2).1 (bS ks x.1 x.2).2=x:=by
 obtain⟨v,w⟩:=x;have h:=BZ ks (v,w);unfold bS;generalize ks.foldl V1 (v,w)=z at h ⊢;exact h
theorem Xb {key:Bs} {b:Bs} (hb:b.length=8) (back:Bool):aI (mF key (!back) (aI (mF key back b)))=b:=by
 have h:=CN (mF key back b);have h1:t8 (sub (aI (mF key back b)) 0 4)=(mF key back b).1:=congrArg Prod.fst h;have h2:t8 (sub (aI (mF key back b)) 4 4)=(mF key back b).2:=congrArg Prod.snd h;rw[mF,h1,h2];cases back
 ·rw[if_pos (by rfl)];simp only[mF];rw[if_neg (by decide)];rw[Da (F4 (D6 t8 key 8)) (t8 (sub b 0 4),t8 (sub b 4 4)),sa hb]
 ·rw[if_neg (by decide)];simp only[mF,if_true];have:=Da (F4 (D6 t8 key 8)).reverse (t8 (sub b 0 4),t8 (sub b 4 4));rw[Z4]at this;rw[this,sa hb]
theorem ZF (s:List UInt32) (x:W2) (r:Nat):iJ s (iK s x r) r=x:=by
 obtain⟨a,c⟩:=x;have h32:∀v:UInt32,(v%32).toNat<32:=fun v=>by rw[UInt32.toNat_mod];exact Zw _ (by decide)
 have e1:rB s r (iK s (a,c) r)=c:=by
  simp only[rB,iK,Z1];rw[iN _ (h32 _) (Zw _ (by decide)) (by have:=h32 (rA s r (a,c));omega),fy]
 simp only[iJ,e1];simp only[iK,rA,Z1];rw[iN _ (h32 _) (Zw _ (by decide)) (by have:=h32 c;omega),fy]
theorem ZJ (s:List UInt32) (x:W2) (r:Nat):iK s (iJ s x r) r=x:=by
 obtain⟨a,c⟩:=x;have h32:∀v:UInt32,(v%32).toNat<32:=fun v=>by rw[UInt32.toNat_mod];exact Zw _ (by decide)
 have e1:rA s r (iJ s (a,c) r)=a:=by
  simp only[rA,iJ];rw[fy,iN _ (Zw _ (by decide)) (h32 _) (by have:=h32 (rB s r (a,c));omega),Z0]
 simp only[iK,e1];simp only[iJ,rB];rw[fy,iN _ (Zw _ (by decide)) (h32 _) (by have:=h32 a;omega),Z0]
theorem ZI {K:List UInt32} {b:Bs} (hb:b.length=8) (back:Bool):bj (rG K (!back) (bj (rG K back b)))=b:=by
 have h:=WP (rG K back b);cases back
 ·simp only[rG,Bool.not_false]at h ⊢;rw[h];have e:G2 K (E4 K (t5 (sub b 0 4),t5 (sub b 4 4)) 12) 12=(t5 (sub b 0 4)+K.getD 0 0,t5 (sub b 4 4)+K.getD 1 0):=qW (ZF K) 12 _;rw[e];simp only[Z1];exact DZ hb
 ·simp only[rG,Bool.not_true]at h ⊢;rw[h,E4];simp only[Z0];have e:=Ch (ZJ K) 12 (t5 (sub b 0 4),t5 (sub b 4 4));exact(congrArg bj e).trans (DZ hb)
def B9 (x:Nat):Nat:=x*x%65537
theorem a1B (x y:Nat):B9 (x*y%65537)=B9 x*B9 y%65537:=by
 unfold B9;rw[<-Ja,<-Ja,Nat.mul_mul_mul_comm]
theorem xx (x y:Nat):∀n,it B9 (n+1) (x*y)=it B9 (n+1) x*it B9 (n+1) y%65537
 |0=>by show(x*y)*(x*y)%65537=(x*x%65537)*(y*y%65537)%65537;rw[<-Ja,Nat.mul_mul_mul_comm]
 |n+1=>by
  show B9 (it B9 (n+1) (x*y))=B9 (it B9 (n+1) x)*B9 (it B9 (n+1) y)%65537;rw[xx x y n,a1B]
theorem a1C {r:Nat} (h:r<=65537):B9 (65537-r)=B9 r:=by
 unfold B9;obtain⟨m,hm⟩:∃m,m+r=65537:=⟨65537-r,by omega⟩;rw[show 65537-r=m by omega];have e1:m*m+m*r=65537*m:=by rw[<-Nat.mul_add,hm,Js]
 have e2:m*r+r*r=65537*r:=by rw[<-Nat.add_mul,hm]
 generalize m*m=a at e1 ⊢;generalize m*r=b at e1 e2;generalize r*r=c at e2 ⊢;omega
theorem VT:∀x,x<257->1<=x->it B9 16 x=1:=by decide +kernel
theorem XQ:∀q,q<257->2<=q->65537%q≠0:=by decide +kernel
theorem vK:∀x,1<=x->x<65537->it B9 16 x=1:=by
 intro x;induction x using Nat.strongRecOn with
 |_ x ih=>
  intro h1 h2;by_cases hs:x<257
  ·exact VT x hs h1
  ·have hdm:=Z9 65537 x;have hr:=Zw 65537 (show x>0 by omega);have hq:65537/x<257:=by
    rw[Nat.div_lt_iff_lt_mul (by omega)];omega
   have hq1:1<=65537/x:=by
    rw[Nat.le_div_iff_mul_le (by omega)];omega
   generalize 65537/x=q at hdm hq hq1;generalize 65537%x=r at hdm hr;have hr0:1<=r:=by
    rcases Nat.eq_zero_or_pos r with h0|h0
    ·exfalso;subst h0;rw[Nat.add_zero]at hdm;rcases Nat.lt_or_ge q 2 with h|h
     ·obtain rfl:q=1:=by omega
      omega
     ·exact XQ q hq h (by rw[<-hdm];exact Nat.mul_mod_left _ _)
    ·exact h0
   have f1:=ih q (by omega) hq1 (by omega);have f2:=ih r hr hr0 (by omega);have e:=xx x q 15;rw[f1,Ze]at e;have e2:it B9 16 (x*q)=it B9 16 r:=by
    rw[show x*q=65537-r by omega];show it B9 16 (65537-r)=_;have:∀y,it B9 16 y=it B9 15 (B9 y):=fun y=>(rk B9 15 y).symm;rw[this,this,a1C (by omega)]
   have d8:it B9 16 x<65537:=Zw _ (by decide);rw[e2,f2,Zr d8]at e;exact e.symm
theorem jO {a:Nat} (h:a<65536):1<=D0 a/\D0 a<65537:=by unfold D0;split<;>omega
theorem Xp {x y:Nat} (hx:1<=x/\x<65537) (hy:1<=y/\y<65537):x*y%65537≠0:=by
 intro h;have e:=xx x y 15;rw[vK x hx.1 hx.2,vK y hy.1 hy.2]at e;have e2:it B9 16 (x*y)=0:=by
  have h0:B9 (x*y)=0:=by unfold B9;rw[Ja,h]
  have:it B9 16 (x*y)=it B9 15 (B9 (x*y)):=(rk B9 15 _).symm;rw[this,h0];decide
 rw[e2]at e;exact absurd e (by decide)
theorem a1E {r:Nat} (h1:1<=r) (h2:r<65537):D0 (r%65536)=r:=by unfold D0;split<;>omega
theorem mP {a b:Nat} (ha:a<65536) (hb:b<65536):D0 (K8 a b)=D0 a*D0 b%65537:=by
 have h:=Xp (jO ha) (jO hb);exact a1E (by omega) (Zw _ (by decide))
theorem EL {a b:Nat} (ha:a<65536) (hb:b<65536) (h:D0 a=D0 b):a=b:=by
 unfold D0 at h;split at h<;>split at h<;>omega
theorem Cv {a:Nat} (ha:a<65536):∀k,k<=16->D0 (it T8 k (1,a,65535)).1*D0 a%65537=it B9 k (D0 a)%65537/\D0 (it T8 k (1,a,65535)).2.1=it B9 k (D0 a)%65537
 |0,_=>⟨by show D0 1*D0 a%65537=D0 a%65537;rw[show D0 1=1 from rfl,Nat.one_mul],(Zr (jO ha).2).symm⟩
 |k+1,hk=>by
  obtain⟨h1,h2⟩:=Cv ha k (by omega);obtain⟨b1,b2,b3⟩:=re ha k;have hodd:(it T8 k (1,a,65535)).2.2%2=1:=by
   rw[b3];have:∀k,k<16->65535/2^k%2=1:=by decide
   exact this k (by omega)
  show D0 (T8 (it T8 k (1,a,65535))).1*D0 a%65537=B9 (it B9 k (D0 a))%65537/\D0 (T8 (it T8 k (1,a,65535))).2.1=B9 (it B9 k (D0 a))%65537;generalize it T8 k (1,a,65535)=z at*
  simp only[T8,if_pos hodd];have hs:B9 (it B9 k (D0 a))%65537=(it B9 k (D0 a)%65537)*(it B9 k (D0 a)%65537)%65537:=by
   unfold B9;rw[Nat.mod_mod,<-Ja]
  rw[mP b1 b2,mP b2 b2,hs,<-h2];refine⟨?_,rfl⟩;rw[Jf,Nat.mul_right_comm,<-Jf,h1,<-h2]
theorem Ct {a:Nat} (ha:a<65536):D0 a*D0 (H5 a)%65537=1:=by
 have h:=(Cv ha 16 (by decide)).1;rw[vK _ (jO ha).1 (jO ha).2]at h;rw[Js];exact h
theorem rK {a k:Nat} (ha:a<65536) (hk:k<65536):K8 (K8 a k) (H5 k)=a:=by
 refine EL (K9 _ _) ha ?_;rw[mP (K9 _ _) (ri hk),mP ha hk,Jf,Nat.mul_assoc,Ja,Ct hk,Ze,Nat.mod_mod,Zr (jO ha).2]
theorem rj {a k:Nat} (ha:a<65536) (hk:k<65536):K8 (K8 a (H5 k)) k=a:=by
 refine EL (K9 _ _) ha ?_;rw[mP (K9 _ _) hk,mP ha (ri hk),Jf,Nat.mul_assoc,Js (D0 (H5 k)),Ja,Ct hk,Ze,Nat.mod_mod,Zr (jO ha).2]
theorem rE {a k:Nat} (ha:a<65536) (hk:k<65536):cM (az a k) k=a:=by unfold cM az;omega
theorem pw {a k:Nat} (ha:a<65536) (hk:k<65536):az (cM a k) k=a:=by unfold cM az;omega
theorem gF (a b:Nat):a^^^b^^^b=a:=by rw[Nat.xor_assoc,Nat.xor_self,Nat.xor_zero]
theorem sU (a d g:Nat):(a^^^g)^^^(d^^^g)=a^^^d:=by
 rw[Nat.xor_assoc,Nat.xor_comm g,gF]
theorem Ib (k o) (z:Q4):aV k o (bc k o z)=I4 z:=by
 obtain⟨a,c,d,e⟩:=z;simp only[aV,bc,I4];have f:∀g h,eZ k o (a^^^g) (c^^^h) (d^^^g) (e^^^h)=eZ k o a c d e:=fun g h=>by unfold eZ;rw[sU]
 have g':∀g h,ap k o (a^^^g) (c^^^h) (d^^^g) (e^^^h)=ap k o a c d e:=fun g h=>by unfold ap;rw[sU,f]
 have h':∀g h,aF k o (a^^^g) (c^^^h) (d^^^g) (e^^^h)=aF k o a c d e:=fun g h=>by unfold aF;rw[f,g']
 rw[g',h',gF,gF,gF,gF]
theorem Xj (k o) (z:Q4):bc k o (I4 (aV k o z))=z:=by
 obtain⟨a,d,c,e⟩:=z;simp only[aV,bc,I4];have f:∀g h,eZ k o (a^^^g) (c^^^h) (d^^^g) (e^^^h)=eZ k o a c d e:=fun g h=>by unfold eZ;rw[sU]
 have g':∀g h,ap k o (a^^^g) (c^^^h) (d^^^g) (e^^^h)=ap k o a c d e:=fun g h=>by unfold ap;rw[sU,f]
 have h':∀g h,aF k o (a^^^g) (c^^^h) (d^^^g) (e^^^h)=aF k o a c d e:=fun g h=>by unfold aF;rw[f,g']
 rw[g',h',gF,gF,gF,gF]
theorem Ia {k:List Nat} (hk:W9 k) (o) {z:Q4} (hz:L0 z):cA k o (I4 (z7 k o z))=z:=by
 obtain⟨a,c,d,e⟩:=z;obtain⟨h1,h2,h3,h4⟩:=hz;simp only[cA,z7,I4];rw[rK h1 (hk _),rE h2 (hk _),rE h3 (hk _),rK h4 (hk _)]
theorem WJ {k:List Nat} (hk:W9 k) (o) {z:Q4} (hz:L0 z):z7 k o (cA k o z)=I4 z:=by
 obtain⟨a,d,c,e⟩:=z;obtain⟨h1,h2,h3,h4⟩:=hz;simp only[cA,z7,I4];rw[rj h1 (hk _),pw h3 (hk _),pw h2 (hk _),rj h4 (hk _)]
theorem HZ {k:List Nat} (hk:W9 k) (o) {z:Q4} (hz:L0 z):en k o (z7 k o (I4 z))=z:=by
 obtain⟨a,c,d,e⟩:=z;obtain⟨h1,h2,h3,h4⟩:=hz;simp only[en,z7,I4];rw[rK h1 (hk _),rE h3 (hk _),rE h2 (hk _),rK h4 (hk _)]
theorem WI {k:List Nat} (hk:W9 k) (o) {z:Q4} (hz:L0 z):z7 k o (I4 (en k o z))=z:=by
 obtain⟨a,d,c,e⟩:=z;obtain⟨h1,h2,h3,h4⟩:=hz;simp only[en,z7,I4];rw[rj h1 (hk _),pw h2 (hk _),pw h3 (hk _),rj h4 (hk _)]
theorem qX {α:Type} {P:α->Prop} {st bk:α->Nat->α} (h:∀x r,P x->bk (st x r) r=x) (hP:∀x r,P x->P (st x r)):∀(n:Nat) (x:α),P x->(List.range n).foldl (fun x r=>bk x (n-1-r)) ((List.range n).foldl st x)=x
 |0,_,_=>rfl
 |n+1,x,hx=>by
  have e1:(List.range (n+1)).foldl st x=st ((List.range n).foldl st x) n:=by rw[Zo,Zx];rfl
  have hp:∀m,P ((List.range m).foldl st x):=by
   intro m;induction m with
   |zero=>exact hx
   |succ m ih=>rw[Zo,Zx];exact hP _ _ ih
  rw[e1,Jk,Zv,List.foldl_map];rw[show n+1-1-0=n by omega,h _ _ (hp n)];have e:∀(l:List Nat) (y:α),l.foldl (fun x r=>bk x (n+1-1-Nat.succ r)) y=l.foldl (fun x r=>bk x (n-1-r)) y:=by
   intro l y;congr 1;funext x r;congr 1;omega
  rw[e];exact qX h hP n x hx
theorem VW {α:Type} {P:α->Prop} {st bk:α->Nat->α} (h:∀x r,P x->st (bk x r) r=x) (hP:∀x r,P x->P (bk x r)) (n:Nat) (x:α) (hx:P x):(List.range n).foldl st ((List.range n).foldl (fun x r=>bk x (n-1-r)) x)=x:=by
 have:=qX (P:=P) (st:=fun x r=>bk x (n-1-r)) (bk:=fun x r=>st x (n-1-r)) (fun x r=>h x _) (fun x r=>hP x _) n x hx;refine Eq.trans (oj (fun y r hr=> ?_) _) this;show st y r=st y (n-1-(n-1-r));rw[show n-1-(n-1-r)=r by omega]
theorem Wq {k:List Nat} (hk:W9 k) {x:Q4} (hx:L0 x):L3 (B4 k) (L3 k x)=x:=by
 rw[<-tZ k hk];unfold ae L3;rw[HZ hk 48 (sn k hx 8)];exact qX (P:=L0) (st:=mK k) (bk:=fun x r=>cA k (6*r) (aV k (6*r) x)) (fun x r h=>by
  show cA k (6*r) (aV k (6*r) (bc k (6*r) (z7 k (6*r) x)))=x;rw[Ib,Ia hk _ h]) (fun x r h=>De _ _ (fZ _ _ _)) 8 x hx
theorem Wr {k:List Nat} (hk:W9 k) {x:Q4} (hx:L0 x):L3 k (L3 (B4 k) x)=x:=by
 rw[<-tZ k hk];unfold ae L3;have e:=VW (P:=L0) (st:=mK k) (bk:=fun x r=>cA k (6*r) (aV k (6*r) x)) (fun x r h=>by
  show bc k (6*r) (z7 k (6*r) (cA k (6*r) (aV k (6*r) x)))=x;rw[WJ hk _ ⟨ax h.1 (K9 _ _),ax h.2.1 (K9 _ _),ax h.2.2.1 (dt _ _),ax h.2.2.2 (dt _ _)⟩,Xj]) (fun x r h=>⟨K9 _ _,iq _ _,iq _ _,K9 _ _⟩) 8 (en k 48 x) ⟨K9 _ _,iq _ _,iq _ _,K9 _ _⟩
 have e':L9 k ((List.range 8).foldl (kB k) (en k 48 x)) 8=en k 48 x:=e;rw[e',WI hk 48 hx]
theorem WN {x:Q4} (h:L0 x):O1 (av x)=x:=by
 obtain⟨a,c,d,e⟩:=x;obtain⟨h1,h2,h3,h4⟩:=h;have hn:∀n,n<65536->(Zt (n/256)).toNat*256+(Zt n).toNat=n:=fun n hn=>by
  simp only[Zz];omega
 show(_,_,_,_)=(a,c,d,e);have e1:bw (av (a,c,d,e)) 0=a:=hn a h1;have e2:bw (av (a,c,d,e)) 1=c:=hn c h2;have e3:bw (av (a,c,d,e)) 2=d:=hn d h3;have e4:bw (av (a,c,d,e)) 3=e:=hn e h4;rw[e1,e2,e3,e4]
theorem Ea {b:Bs} (h:b.length=8):av (O1 b)=b:=by
 match b,h with
 |[b0,b1,b2,b3,b4,b5,b6,b7],_=>
  have hp:∀x y:UInt8,bY (x.toNat*256+y.toNat)=[x,y]:=fun x y=>by
   have hx:=x.toNat_lt;have hy:=y.toNat_lt;have e:∀(x:UInt8) (n:Nat),n%256=x.toNat->Zt n=x:=fun x n h=>by
    apply Z8.1;rw[Zz,<-h]
   rw[bY,e x _ (by omega),e y _ (by omega)]
  show bY (b0.toNat*256+b1.toNat)++bY (b2.toNat*256+b3.toNat)++bY (b4.toNat*256+b5.toNat)++bY (b6.toNat*256+b7.toNat)=_;rw[hp,hp,hp,hp];rfl
theorem CM (b):L0 (O1 b):=⟨cr _ _,cr _ _,cr _ _,cr _ _⟩
theorem a3i (k x):L0 (L3 k x):=fZ _ _ _
theorem Ws {key:Bs} {b:Bs} (hb:b.length=8) (back:Bool):av (L3 (if !back then B4 (W5 key)else W5 key) (O1 (av (L3 (if back then B4 (W5 key)else W5 key) (O1 b)))))=b:=by
 rw[WN (a3i _ _)];cases back
 ·rw[if_pos (by rfl),if_neg (by decide),Wq (oB key) (CM b),Ea hb]
 ·rw[if_neg (by decide),if_pos (by rfl),Wr (oB key) (CM b),Ea hb]
theorem sR (k o) (x:W4):wh k o (wh k o x)=x:=by
 obtain⟨a,b,c,d⟩:=x;simp only[wh,fy]
theorem xC (x:W4):H4 (H4 x)=x:=rfl
theorem a1Q (k s) (x:W4) (r):H4 (fu k s (H4 (iR k s x r)) r)=x:=by
 obtain⟨a,b,c,d⟩:=x;simp only[H4,fu,iR];rw[iN _ (by decide) (by decide) (by decide),fy,fy,iN _ (by decide) (by decide) (by decide)]
theorem a1R (k s) (x:W4) (r):iR k s (H4 (fu k s (H4 x) r)) r=x:=by
 obtain⟨a,b,c,d⟩:=x;simp only[H4,fu,iR];rw[fy,iN _ (by decide) (by decide) (by decide),iN _ (by decide) (by decide) (by decide),fy]
theorem vL {α:Type} {f:α->Nat->α} {g:α->α} (hg:∀x,g (g x)=x):∀(l:List Nat) (y:α),l.foldl (fun x r=>g (f (g x) r)) y=g (l.foldl f (g y))
 |[],y=>(hg y).symm
 |a::l,y=>by
  rw[Zv,Zv,vL hg l,hg]
theorem EU (k s) (y:W4):(List.range 16).foldl (fun x r=>H4 (fu k s (H4 x) (16-1-r))) y=H4 (cf k s (H4 y) 16):=
 vL (f:=fun x r=>fu k s x (15-r)) xC (List.range 16) y
theorem a3j (k s) (x:W4):dj k s (dk k s x)=x:=by
 unfold dj dk;rw[sR];have e:=qW (st:=iR k s) (bk:=fun x r=>H4 (fu k s (H4 x) r)) (a1Q k s) 16 (wh k 0 x);rw[<-EU];exact(congrArg (wh k 0) e).trans (sR _ _ _)
theorem a3k (k s) (x:W4):dk k s (dj k s x)=x:=by
 unfold dj dk;rw[sR];have e:=Ch (st:=iR k s) (bk:=fun x r=>H4 (fu k s (H4 x) r)) (a1R k s) 16 (H4 (wh k 4 x));rw[EU,xC]at e;have e':di k s (H4 (cf k s (wh k 4 x) 16)) 16=H4 (wh k 4 x):=e;rw[e',xC,sR]
theorem Eb (x:W4):O3 x 4=s6 x.1++(s6 x.2.1++(s6 x.2.2.1++(s6 x.2.2.2++[]))):=rfl
theorem jQ {a b:Bs} {n i m:Nat} (ha:a.length=n):sub (a++b) (n+i) m=sub b i m:=by
 subst ha;simp only[sub,Je,List.drop_append];rw[List.drop_eq_nil_of_le (by omega),Zl,show a.length+i-a.length=i by omega]
theorem sD {a b:Bs} {n:Nat} (ha:a.length=n):sub (a++b) 0 n=a:=by subst ha;simp[sub]
theorem WO (x:W4):C8 (O3 x 4)=x:=by
 obtain⟨a,b,c,d⟩:=x;rw[Eb];unfold C8;have e1:∀t,sub (s6 a++t) 0 4=s6 a:=fun t=>sD (H3 a);have e2:∀t,sub (s6 a++(s6 b++t)) 4 4=s6 b:=fun t=>(jQ (i:=0) (H3 a)).trans (sD (H3 b));have e3:∀t,sub (s6 a++(s6 b++(s6 c++t))) 8 4=s6 c:=fun t=>(jQ (i:=4) (H3 a)).trans ((jQ (i:=0) (H3 b)).trans (sD (H3 c)));have e4:∀t,sub (s6 a++(s6 b++(s6 c++(s6 d++t)))) 12 4=s6 d:=fun t=>(jQ (i:=8) (H3 a)).trans ((jQ (i:=4) (H3 b)).trans ((jQ (i:=0) (H3 c)).trans (sD (H3 d))));rw[e1,e2,e3,e4,mc,mc,mc,mc]
theorem Ec {b:Bs} (h:b.length=16):O3 (C8 b) 4=b:=by
 rw[Eb];unfold C8;simp only
 rw[mA (by rw[m5];omega),mA (by rw[m5];omega),mA (by rw[m5];omega),mA (by rw[m5];omega),Jg];have e:∀(i:Nat),sub b i 4++b.drop (i+4)=b.drop i:=fun i=>by
  rw[<-List.drop_drop];exact Z2 4 _
 have e3:sub b 12 4=b.drop 12:=M9 _ _ _ (by omega);rw[e3,e 8,e 4];exact Z2 4 b
theorem a3l {k s:List UInt32} {b:Bs} (hb:b.length=16) (back:Bool):O3 (if !back then dj k s (C8 (O3 (if back then dj k s (C8 b)else dk k s (C8 b)) 4))else dk k s (C8 (O3 (if back then dj k s (C8 b)else dk k s (C8 b)) 4))) 4=b:=by
 rw[WO];cases back
 ·rw[if_pos (by rfl),if_neg (by decide),a3j,Ec hb]
 ·rw[if_neg (by decide),if_pos (by rfl),a3k,Ec hb]
theorem a3U (a b:UInt8):a^^^b^^^b=a:=by rw[Z7,UInt8.xor_self,Jp]
theorem iY:∀{a k:Bs},a.length<=k.length->j9 (j9 a k) k=a
 |[],_,_=>by simp[j9]
 |a::r,[],h=>by simp at h
 |a::r,b::k,h=>by
  have ih:=iY (a:=r) (k:=k) (by simpa using h);unfold j9 at ih ⊢;rw[Jb,Jb,ih,a3U]
theorem jy {a b:Bs} (hl:a.length=b.length) (h:∀i,i<a.length->a.getD i 0=b.getD i 0):a=b:=by
 apply List.ext_getElem hl;intro i h1 h2;have:=h i h1
 rwa [Zc,Zp h1,Zc,Zp h2]at this
theorem ze:∀j,j<4->∀x,x<256->((gH ((j+2)%4)).getD ((gH j).getD x 0).toNat 0).toNat=x:=by decide +kernel
theorem yq {k b n i} (h:i<n):(G7 k b n).getD i 0=(gH ((i+2*(k-1))%4)).getD (b.getD i 0).toNat 0:=by simp[G7,Zc,h]
theorem pv {b:Bs} {k j:Nat} (hb:b.length=16) (h:k=1/\j=2\/k=2/\j=1):G7 k (G7 j b 16) 16=b:=by
 refine jy (by rw[R4,hb]) fun i h1=> ?_;have hi:i<16:=by rw[R4]at h1;exact h1
 rw[yq hi,yq hi];apply Z8.1;have hx:=(b.getD i 0).toNat_lt;rcases h with ⟨rfl,rfl⟩|⟨rfl,rfl⟩
 ·have:=ze ((i+2*(2-1))%4) (Zw _ (by decide)) _ hx;rw[show ((i+2*(2-1))%4+2)%4=(i+2*(1-1))%4 by omega]at this;exact this
 ·have:=ze ((i+2*(1-1))%4) (Zw _ (by decide)) _ hx;rw[show ((i+2*(1-1))%4+2)%4=(i+2*(2-1))%4 by omega]at this;exact this
def xS (f:Nat->UInt8) (n:Nat):UInt8:=(List.range n).foldl (fun s i=>s^^^f i) 0
theorem pk (f n):xS f (n+1)=xS f n^^^f n:=by simp[xS,Zo]
theorem GV (f g:Nat->UInt8):∀n,xS (fun i=>f i^^^g i) n=xS f n^^^xS g n
 |0=>by show(0:UInt8)=0^^^0;decide
 |n+1=>by
  rw[pk,pk,pk,GV f g n];generalize xS f n=a;generalize xS g n=b;generalize f n=c;generalize g n=d;rw[Z7,Z7,<-Z7 b,UInt8.xor_comm b,Z7 c]
theorem GX:∀n,xS (fun _=>0) n=0
 |0=>rfl
 |n+1=>by rw[pk,GX n];decide
def xM (b:Bs) (m:Nat):UInt8:=xS (fun i=>if m.testBit i then b.getD i 0 else 0) 16
theorem a3S (b m n):xM b (m^^^n)=xM b m^^^xM b n:=by
 unfold xM;rw[<-GV];congr 1;funext i;rw[Nat.testBit_xor];cases m.testBit i<;>cases n.testBit i<;>simp
theorem GW (v:UInt8) (j:Nat):∀n,xS (fun i=>if j=i then v else 0) n=if j<n then v else 0
 |0=>by rw[if_neg (by omega)];rfl
 |n+1=>by
  rw[pk,GW v j n];by_cases h:j<n
  ·rw[if_pos h,if_neg (by omega),if_pos (by omega),Jp]
  ·by_cases h2:j=n
   ·rw[if_neg h,if_pos h2,if_pos (by omega),UInt8.zero_xor]
   ·rw[if_neg h,if_neg h2,if_neg (by omega),Jp]
theorem GU {b:Bs} {j:Nat} (h:j<16):xM b (2^j)=b.getD j 0:=by
 unfold xM;have e:(fun i=>if (2^j).testBit i then b.getD i 0 else 0)=fun i=>if j=i then b.getD j 0 else 0:=by
  funext i;rw[Nat.testBit_two_pow];by_cases hi:j=i
  ·subst hi;simp
  ·simp[hi]
 rw[e,GW,if_pos h]
theorem a3T (b):xM b 0=0:=by
 unfold xM;have e:(fun i=>if (0:Nat).testBit i then b.getD i 0 else 0)=fun _=>(0:UInt8):=by funext i;simp
 rw[e,GX]
theorem ya (b:Bs) (f:Nat->Nat):∀n,(List.range n).foldl (fun s t=>s^^^xM b (f t)) 0=xM b ((List.range n).foldl (fun m t=>m^^^f t) 0)
 |0=>(a3T b).symm
 |n+1=>by
  rw[Zo,Zx,Zx];show _^^^xM b (f n)=xM b (_^^^f n);rw[a3S,ya b f n]
def kj (p:Nat):Nat:=(List.range 7).foldl (fun m t=>m^^^2^((y6 p).getD t 0)) 0
theorem yx:∀p,p<16->∀t,t<7->(y6 p).getD t 0<16:=by decide +kernel
theorem Hq:∀p,p<16->(List.range 7).foldl (fun m t=>m^^^kj ((y6 p).getD t 0)) 0=2^p:=by decide +kernel
theorem yz {b:Bs} {p:Nat} (hp:p<16):aX b p 7=xM b (kj p):=by
 unfold kj;rw[<-ya];exact oj (fun x t ht=>by rw[GU (yx p hp t ht)]) 0
theorem yt {b:Bs} {p:Nat} (hp:p<16):(H9 b).getD p 0=xM b (kj p):=by
 rw[<-yz hp];simp[H9,Zc,hp]
theorem yu {b:Bs} (hb:b.length=16):H9 (H9 b)=b:=by
 refine jy (by simp[H9,hb]) fun p h1=> ?_;have hp:p<16:=by simpa [H9]using h1
 have e:(H9 (H9 b)).getD p 0=aX (H9 b) p 7:=by rw[yt hp,<-yz hp]
 have e3:aX (H9 b) p 7=(List.range 7).foldl (fun s t=>s^^^xM b (kj ((y6 p).getD t 0))) 0:=oj (fun x t ht=>by rw[yt (yx p hp t ht)]) 0;rw[e,e3,ya b (fun t=>kj ((y6 p).getD t 0)),Hq p hp,GU hp]
theorem Ho (b):(H9 b).length=16:=by simp[H9]
theorem HS {q:Nat} {key b:Bs} {n:Nat} (h:bC q key n) (hb:b.length=16):gI q key n (dZ q key n b)=b:=by
 have hK:=fB h;have hE:=nm h hb;have h3:=h.h3;have st:∀i,i<=n-2->R3 q key n (dZ q key n b) i=T4 q key b (n-2-i):=by
  intro i;induction i with
  |zero=>
   intro _;show j9 (G7 1 (j9 (j9 (G7 2 (j9 (T4 q key b (n-2)) (t7 q key (n-2))) 16) (t7 q key (n-1))) (t7 q key (n-1))) 16) (t7 q key (n-2))=_;rw[iY (by rw[R4,hK];exact Zg _),pv (B5 (hE _) (hK _)) (.inl ⟨rfl,rfl⟩),iY (by rw[hE,hK];exact Zg _)];rfl
  |succ i ih=>
   intro hi;have e:n-2-i=n-3-i+1:=by omega
   have e2:n-2-(i+1)=n-3-i:=by omega
   show j9 (G7 (2-(n-3-i)%2) (H9 (R3 q key n (dZ q key n b) i)) 16) (t7 q key (n-3-i))=_;rw[ih (by omega),e,e2];generalize n-3-i=r;show j9 (G7 (2-r%2) (H9 (H9 (G7 (1+r%2) (j9 (T4 q key b r) (t7 q key r)) 16))) 16) (t7 q key r)=_;rw[yu (R4 _ _ _),pv (B5 (hE _) (hK _)) (by omega),iY (by rw[hE,hK];exact Zg _)]
 have:=st (n-2) (Zg _);rw[Nat.sub_self]at this;exact this
theorem HT {q:Nat} {key b:Bs} {n:Nat} (h:bC q key n) (hb:b.length=16):dZ q key n (gI q key n b)=b:=by
 have hK:=fB h;have hD:=pu (b:=b) h;have h3:=h.h3;have st:∀r,r<=n-2->T4 q key (gI q key n b) r=R3 q key n b (n-2-r):=by
  intro r;induction r with
  |zero=>intro _;rfl
  |succ r ih=>
   intro hr;have e:n-2-r=n-3-r+1:=by omega
   have e2:n-2-(r+1)=n-3-r:=by omega
   have e3:n-3-(n-3-r)=r:=by omega
   show H9 (G7 (1+r%2) (j9 (T4 q key (gI q key n b) r) (t7 q key r)) 16)=_;rw[ih (by omega),e,e2];show H9 (G7 (1+r%2) (j9 (j9 (G7 (2-(n-3-(n-3-r))%2) (H9 (R3 q key n b (n-3-r))) 16) (t7 q key (n-3-(n-3-r)))) (t7 q key r)) 16)=_;rw[e3,iY (by rw[R4,hK];exact Zg _),pv (Ho _) (by omega),yu (hD _)]
 have e:=st (n-2) (Zg _);rw[Nat.sub_self]at e;unfold dZ;rw[e];show j9 (G7 2 (j9 (j9 (G7 1 (j9 b (t7 q key (n-1))) 16) (t7 q key (n-2))) (t7 q key (n-2))) 16) (t7 q key (n-1))=b;rw[iY (by rw[R4,hK];exact Zg _),pv (B5 hb (hK _)) (.inr ⟨rfl,rfl⟩),iY (by rw[hb,hK];exact Zg _)]
def lR:List Nat:=(List.range 64).map (· +1)
theorem DU {b:Bs} (hb:b.length=8):E7 lR b=b:=by
 apply pb (by rw[ff,hb];rfl);intro j hj;rw[ff]at hj;have hj:j<64:=hj;have h8:lR.length/8=8:=rfl;unfold E7;rw[h8,gE (by omega)];have:lR.getD j 0=j+1:=by simp[lR,Zc,hj]
 rw[this];rfl
theorem Ce:(A5.map fun k=>cg.getD (k-1) 0)=lR/\(cg.map fun k=>A5.getD (k-1) 0)=lR:=by decide +kernel
theorem Yc {b:Bs} (hb:b.length=8):E7 A5 (E7 cg b)=b:=by
 rw[wM (by rw[iS]) (by rw[P3,iS];exact xI),Ce.1,DU hb]
theorem Yd {b:Bs} (hb:b.length=8):E7 cg (E7 A5 b)=b:=by
 rw[wM (by rw[P3]) (by rw[P3,iS];exact xH),Ce.2,DU hb]
theorem PY {x:L2} {k:Bs} (h:x.1.length=4):X3 (fL (X3 (fL x k)) k)=x:=by
 obtain⟨a,c⟩:=x;simp only[X3,fL];rw[iY (by rw[fK,h];exact Zg _)]
theorem PV {ks:List (Bs)} {x:L2} (h1:x.1.length=4) (h2:x.2.length=4):dN ks.reverse (X3 (dN ks x ks.length)) ks.length=X3 x:=by
 have e:=qX (P:=fun x:L2=>x.1.length=4/\x.2.length=4) (st:=fun x i=>fL x (ks.getD i [])) (bk:=fun x i=>X3 (fL (X3 x) (ks.getD i []))) (fun x r h=>PY h.1) (fun x r h=>⟨h.2,B5 h.1 (fK _ _)⟩) ks.length x ⟨h1,h2⟩;have c:=vL (f:=fun x r=>fL x (ks.getD (ks.length-1-r) [])) (g:=X3) (fun _=>rfl) (List.range ks.length) (dN ks x ks.length);have d:dN ks.reverse (X3 (dN ks x ks.length)) ks.length=(List.range ks.length).foldl (fun x r=>fL x (ks.getD (ks.length-1-r) [])) (X3 (dN ks x ks.length)):=by
  unfold dN;exact oj (fun y r hr=>by rw[Ew hr]) _
 rw[d];have:=congrArg X3 (c.symm.trans e);exact this
theorem nT {ks:List (Bs)} {b:Bs} (hb:b.length=8):G8 ks.reverse (G8 ks b)=b:=by
 obtain⟨i1,i2⟩:=nR b;obtain⟨y1,y2⟩:=qm (ks:=ks) i1 i2 ks.length;have e:B2 (G8 ks b)=X3 (dN ks (B2 b) ks.length):=by
  obtain⟨s1,s2⟩:=xB y2 y1;unfold G8 B2;rw[Yc (by rw[Zb];unfold B2 at y1 y2;omega)];unfold B2 at s1 s2;rw[s1,s2];rfl
 have hr:ks.reverse.length=ks.length:=Zm;rw[G8,e,hr,PV i1 i2];show E7 cg ((B2 b).1++(B2 b).2)=b;have hp:(E7 A5 b).length=8:=by rw[ff,P3]
 have:(B2 b).1++(B2 b).2=E7 A5 b:=xA (n:=4) (m:=4) hp;rw[this,Yd hb]
theorem qo {ks:List (Bs)} {b:Bs} (hb:b.length=8):G8 ks (G8 ks.reverse b)=b:=by
 have:=nT (ks:=ks.reverse) hb
 rwa [Z4]at this
theorem uV:∀{K:List (List (Bs))} {b:Bs},(K.length=1\/K.length=3)->b.length=8->∀back,N9 K (!back) (N9 K back b K.length) K.length=b
 |[k],b,_,hb,false=>by show G8 k.reverse (G8 k b)=b;exact nT hb
 |[k],b,_,hb,true=>by show G8 k (G8 k.reverse b)=b;exact qo hb
 |[k,l,m],b,_,hb,false=>by
  show G8 k.reverse (G8 l (G8 m.reverse (G8 m (G8 l.reverse (G8 k b)))))=b;rw[nT (nU _ _),qo (nU _ _),nT hb]
 |[k,l,m],b,_,hb,true=>by
  show G8 m (G8 l.reverse (G8 k (G8 k.reverse (G8 l (G8 m.reverse b)))))=b;rw[qo (nU _ _),nT (nU _ _),qo hb]
 |[],_,h,_,_=>by simp at h
 |[_,_],_,h,_,_=>by simp at h
 |_::_::_::_::_,_,h,_,_=>by simp at h
theorem Iw {t:Int} {key b:Bs} {s:Nat} (ht:A1 t) (hs:q9 t=s) (hv:(key.length:Int)∈r9 t) (hb:b.length=s) (back:Bool):cF t key (!back) (cF t key back b)=b:=by
 rcases ht with rfl|rfl|rfl|rfl|rfl|rfl|rfl|rfl
 ·have h8:b.length=8:=by simp[q9]at hs;omega
  have hn:key.length/8=1:=by simp[r9]at hv;omega
  have hl:=gQ (key:=key) (n:=1) (by decide);show gS key (!back) (gS key back b)=b;unfold gS;rw[hn];exact uV (by rw[hl];decide) h8 back
 ·have h8:b.length=8:=by simp[q9]at hs;omega
  have hn:key.length/8=2\/key.length/8=3:=by simp[r9]at hv;omega
  show gS key (!back) (gS key back b)=b;unfold gS;rcases hn with hn|hn
  ·have hl:=gQ (key:=key) (n:=2) (by decide);rw[hn];exact uV (by rw[hl];decide) h8 back
  ·have hl:=gQ (key:=key) (n:=3) (by decide);rw[hn];exact uV (by rw[hl];decide) h8 back
 ·have h8:b.length=8:=by simp[q9]at hs;omega
  exact Ws h8 back
 ·have h8:b.length=8:=by simp[q9]at hs;omega
  exact a3Z h8 back
 ·have h8:b.length=8:=by simp[q9]at hs;omega
  exact Xb h8 back
 ·have h8:b.length=16:=by simp[q9]at hs;omega
  exact a3l h8 back
 ·have h8:b.length=16:=by simp[q9]at hs;omega
  have ok:bC (aQ key) key (aN key):=by
   have hk:key.length=16\/key.length=24\/key.length=32:=by simp[r9]at hv;omega
   refine⟨?_,?_,?_,?_⟩<;>first|omega|(simp only[aN,aQ];omega)
  cases back
  ·exact HS ok h8
  ·exact HT ok h8
 ·have h8:b.length=8:=by simp[q9]at hs;omega
  exact ZI h8 back
theorem k5.inv {t key s k xs rs} (h:k5 t key s k xs rs) {b:Bs} (hb:b.length=s) (back:Bool):cF t key (!back) (cF t key back b)=b:=Iw h.ht h.hs h.kl hb back
def fV:Bs->Nat->Bs
 |b,0=>b
 |b,i+1=>if b.getD i 0+1=0 then fV (b.set i (b.getD i 0+1)) i else b.set i (b.getD i 0+1)
def X9 (b:Bs):Bs:=fV b b.length
theorem Cr:∀(i:Nat) (b:Bs),(fV b i).length=b.length
 |0,_=>rfl
 |i+1,b=>by
  unfold fV;split
  ·rw[Cr i,Zs]
  ·rw[Zs]
theorem ov (b):(X9 b).length=b.length:=Cr _ _
structure MS where
 ch:Bs
 row:Bs
 gone:Bs
def cO (E:Bs->Bs) (mode:Int) (s:MS):MS:=
 ⟨if mode=5 then E s.ch else if mode=6 then X9 s.ch else s.ch,E s.ch,[]⟩
def n8 (back:Bool) (p o:UInt8):UInt8:=if back then p else o
def L5 (mode:Int) (back:Bool) (s:MS) (p:UInt8):UInt8×MS:=
 let o:=p^^^s.row.getD 0 0
 let g:=s.gone++[n8 back p o]
 (o,if mode=3 then ⟨s.ch.drop 1++[n8 back p o],[],g⟩else if mode=4 then (if s.row.length=1 then ⟨g,[],g⟩else ⟨s.ch,s.row.drop 1,g⟩)else ⟨s.ch,s.row.drop 1,g⟩)
def x8 (E:Bs->Bs) (mode:Int) (back:Bool) (s:MS) (p:UInt8):UInt8×MS:=
 L5 mode back (if s.row.length=0 then cO E mode s else s) p
def y8 (E:Bs->Bs) (mode:Int) (back:Bool):MS->Bs->Bs×MS
 |s,[]=>([],s)
 |s,p::r=>let x:=x8 E mode back s p;let y:=y8 E mode back x.2 r;(x.1::y.1,y.2)
def T9 (E D:Bs->Bs) (mode:Int) (back:Bool) (c p:Bs):Bs×Bs:=
 if mode=1 then (if back then D p else E p,c)
 else if back then (j9 (D p) c,p)else (E (j9 p c),E (j9 p c))
def A7 (E D:Bs->Bs) (mode:Int) (back:Bool) (n:Nat) (b c:Bs):Nat->Bs×Bs
 |0=>([],c)
 |i+1=>let x:=A7 E D mode back n b c i;let y:=T9 E D mode back x.2 (sub b (n*i) n);(x.1++y.1,y.2)
def k9 (E D:Bs->Bs) (n:Nat) (mode:Int) (back:Bool) (s:MS) (b:Bs):Bs×MS:=
 if mode=1\/mode=2 then ((A7 E D mode back n b s.ch (b.length/n)).1,⟨(A7 E D mode back n b s.ch (b.length/n)).2,s.row,s.gone⟩)
 else y8 E mode back s b
def r8 (n:Nat) (mode:Int):Nat:=if mode=1\/mode=2 then n else 1
theorem ml (E mode back):∀(l:Bs) (s:MS) (p:UInt8),y8 E mode back s (l++[p])=((y8 E mode back s l).1++[(x8 E mode back (y8 E mode back s l).2 p).1],(x8 E mode back (y8 E mode back s l).2 p).2)
 |[],s,p=>rfl
 |a::l,s,p=>by
  show((x8 E mode back s a).1::(y8 E mode back (x8 E mode back s a).2 (l++[p])).1,(y8 E mode back (x8 E mode back s a).2 (l++[p])).2)=_;rw[ml E mode back l];rfl
theorem Dm (E mode back):∀(l m:Bs) (s:MS),y8 E mode back s (l++m)=((y8 E mode back s l).1++(y8 E mode back (y8 E mode back s l).2 m).1,(y8 E mode back (y8 E mode back s l).2 m).2)
 |[],m,s=>rfl
 |a::l,m,s=>by
  show((x8 E mode back s a).1::(y8 E mode back (x8 E mode back s a).2 (l++m)).1,(y8 E mode back (x8 E mode back s a).2 (l++m)).2)=_;rw[Dm E mode back l];rfl
theorem rH (E mode back):∀(l:Bs) (s:MS),(y8 E mode back s l).1.length=l.length
 |[],_=>rfl
 |a::l,s=>by
  show(_::(y8 E mode back _ l).1).length=_;rw[Z5,rH E mode back l,Z5]
structure CI (E D:Bs->Bs) (n:Nat):Prop where
 le:∀{b:Bs},b.length=n->(E b).length=n
 ld:∀{b:Bs},b.length=n->(D b).length=n
 de:∀{b:Bs},b.length=n->D (E b)=b
 ed:∀{b:Bs},b.length=n->E (D b)=b
theorem k5.ci {t key s k xs rs} (h:k5 t key s k xs rs):CI (cF t key false) (cF t key true) s:=
 ⟨fun hb=>h.len hb,fun hb=>h.len hb,fun hb=>h.inv hb false,fun hb=>h.inv hb true⟩
def P0 (a t:Bs):Bs:=j9 a t++a.drop t.length
theorem rY {a t:Bs} (h:t.length<=a.length):(P0 a t).length=a.length:=by
 rw[P0,Zb,Zf,j9,Z6];omega
theorem jM {a t:Bs} (h:t.length=a.length):P0 a t=j9 a t:=by
 rw[P0,h,List.drop_length,Jg]
theorem a3W (a t:Bs) (h:t.length<=a.length):j9 (a.take t.length) t=j9 a t:=by
 unfold j9;apply List.ext_getElem (by simp;omega);intro i h1 h2;simp
theorem GZ (a b:Bs):j9 a b=j9 b a:=by
 unfold j9;exact List.zipWith_comm_of_comm (fun x y=>UInt8.xor_comm x y)
theorem nd (a b:Bs):(j9 a b).length=min a.length b.length:=by simp[j9]
def gD (E:Bs->Bs) (n:Nat) (swap:Bool) (a9 b:Bs):Bs:=
 let x:=E (j9 (b.take n) a9)
 let y:=E (P0 x (b.drop n))
 if swap then y++x.take (b.length-n)else x.take (b.length-n)++y
def cY (D:Bs->Bs) (a9 x y:Bs):Bs:=
 j9 (D (x++(D y).drop x.length)) a9++j9 ((D y).take x.length) x
def ce (D:Bs->Bs) (n:Nat) (swap:Bool) (a9 b:Bs):Bs:=
 if swap then cY D a9 (b.drop n) (b.take n)else cY D a9 (b.take (b.length-n)) (b.drop (b.length-n))
def dU (n:Nat) (mode:Int) (b:Bs):Bool:=decide (mode=9)||(decide (mode=8)&& !decide (b.length=2*n))
def P2 (E D:Bs->Bs) (n:Nat) (mode:Int) (back:Bool) (a9 b:Bs):Bs:=
 if b.length=n then (if back then j9 (D b) a9 else E (j9 b a9))
 else if back then ce D n (dU n mode b) a9 b else gD E n (dU n mode b) a9 b
def fq (n:Nat) (mode:Int) (a9 b:Bs):Int:=
 if mode<7\/9<mode then 3 else if a9.length≠n then 5 else if b.length<n\/2*n<b.length then 7 else 0
theorem a1G {E D:Bs->Bs} {n:Nat} (h:CI E D n) {swap:Bool} {a9 b:Bs} (hl:a9.length=n) (h1:n<=b.length) (h2:b.length<=2*n):(gD E n swap a9 b).length=b.length:=by
 have lx:(E (j9 (b.take n) a9)).length=n:=h.le (by rw[nd,Zh];omega);have ly:(E (P0 (E (j9 (b.take n) a9)) (b.drop n))).length=n:=h.le (by rw[rY (by rw[Zf];omega),lx]);unfold gD;simp only
 split<;>(rw [Zb,Zh,lx,ly];omega)
theorem EN {E D:Bs->Bs} {n:Nat} (h:CI E D n) {a9 x y:Bs} (hl:a9.length=n) (hx:x.length<=n) (hy:y.length=n):(cY D a9 x y).length=n+x.length:=by
 have lz:=h.ld hy;have lp:(D (x++(D y).drop x.length)).length=n:=h.ld (by rw[Zb,Zf,lz];omega);rw[cY,Zb,nd,nd,lp,Zh,lz];omega
theorem a1F {E D:Bs->Bs} {n:Nat} (h:CI E D n) {swap:Bool} {a9 b:Bs} (hl:a9.length=n) (h1:n<=b.length) (h2:b.length<=2*n):(ce D n swap a9 b).length=b.length:=by
 unfold ce;split
 ·rw[EN h hl (by rw[Zf];omega) (by rw[Zh];omega),Zf];omega
 ·rw[EN h hl (by rw[Zh];omega) (by rw[Zf];omega),Zh];omega
theorem stT_len {E D:Bs->Bs} {n:Nat} (h:CI E D n) {mode:Int} {back:Bool} {a9 b:Bs} (hl:a9.length=n) (h1:n<=b.length) (h2:b.length<=2*n):(P2 E D n mode back a9 b).length=b.length:=by
 unfold P2;split
 ·rename_i hb;cases back
  ·rw[if_neg (by decide),h.le (by rw[nd];omega),hb]
  ·rw[if_pos rfl,nd,h.ld hb];omega
 ·cases back
  ·rw[if_neg (by decide)];exact a1G h hl h1 h2
  ·rw[if_pos rfl];exact a1F h hl h1 h2
theorem a1N {a b:Bs} {i n:Nat} (h:i+n<=a.length):sub (a++b) i n=sub a i n:=by
 simp only[sub];rw[Je (by omega),List.take_append_of_le_length (by rw[Zf];omega)]
theorem a1O {a b:Bs} {i n:Nat} (h:a.length<=i):sub (a++b) i n=sub b (i-a.length) n:=by
 have:=jQ (a:=a) (b:=b) (n:=a.length) (i:=i-a.length) (m:=n) rfl
 rwa [show a.length+(i-a.length)=i by omega]at this
theorem Dj (E D mode back n) {a b c:Bs} {k:Nat} (h:a.length=n*k):∀i,i<=k->A7 E D mode back n (a++b) c i=A7 E D mode back n a c i
 |0,_=>rfl
 |i+1,hi=>by
  unfold A7;rw[Dj E D mode back n h i (by omega),a1N (by
   rw[h,<-Jr];exact Nat.mul_le_mul_left n (by omega))]
theorem mj (E D mode back n) (b c:Bs) (i):A7 E D mode back n b c (i+1)=((A7 E D mode back n b c i).1++(T9 E D mode back (A7 E D mode back n b c i).2 (sub b (n*i) n)).1,(T9 E D mode back (A7 E D mode back n b c i).2 (sub b (n*i) n)).2):=rfl
theorem Dh (E D mode back n) {a b c:Bs} {k:Nat} (h:a.length=n*k):∀j,A7 E D mode back n (a++b) c (k+j)=
  ((A7 E D mode back n a c k).1++(A7 E D mode back n b (A7 E D mode back n a c k).2 j).1,(A7 E D mode back n b (A7 E D mode back n a c k).2 j).2)
 |0=>by
  show A7 E D mode back n (a++b) c k=((A7 E D mode back n a c k).1++[],(A7 E D mode back n a c k).2);rw[Dj E D mode back n h k (Zg _),Jg]
 |j+1=>by
  show A7 E D mode back n (a++b) c (k+j+1)=_;rw[mj,Dh E D mode back n h j,a1O (by rw[h];exact Nat.mul_le_mul_left n (by omega)),h,show n*(k+j)-n*k=n*j by rw[Nat.mul_add];omega,mj E D mode back n b _ j];simp only[List.append_assoc]
theorem wx {E D:Bs->Bs} {n:Nat} {mode:Int} {back:Bool} {s:MS} {a b:Bs} (hn:0<n) (ha:a.length%r8 n mode=0) (hb:b.length%r8 n mode=0):
  k9 E D n mode back s (a++b)=((k9 E D n mode back s a).1++(k9 E D n mode back (k9 E D n mode back s a).2 b).1,(k9 E D n mode back (k9 E D n mode back s a).2 b).2):=by
 unfold r8 at ha hb;unfold k9;by_cases hm:mode=1\/mode=2
 ·rw[if_pos hm]at ha hb;simp only[if_pos hm];have e1:a.length=n*(a.length/n):=by have:=Z9 a.length n;omega
  have e2:(a++b).length/n=a.length/n+b.length/n:=by
   have:=Z9 b.length n;rw[Zb,show a.length+b.length=n*(a.length/n+b.length/n) by rw[Nat.mul_add];omega,Nat.mul_div_cancel_left _ hn]
  rw[e2,Dh E D mode back n e1]
 ·simp only[if_neg hm];exact Dm E mode back a b s
structure aa (n:Nat) (mode:Int) (s:MS):Prop where
 m:1<=mode/\mode<=6
 ch:mode=1\/s.ch.length=n
 row:s.row.length<=n
 blk:mode=1\/mode=2->s.row=[]
 g:mode=4->s.row.length=0\/s.gone.length+s.row.length=n
theorem Dg {E D:Bs->Bs} {n:Nat} {mode:Int} {s:MS} (h:CI E D n) (hm:3<=mode) (ok:aa n mode s):(cO E mode s).ch.length=n/\(cO E mode s).row.length=n/\(cO E mode s).gone=[]:=by
 have hc:s.ch.length=n:=ok.ch.resolve_left (by omega);refine⟨?_,h.le hc,rfl⟩;show(if mode=5 then E s.ch else if mode=6 then X9 s.ch else s.ch).length=n;split
 ·exact h.le hc
 ·split
  ·rw[ov,hc]
  ·exact hc
theorem rI {E D:Bs->Bs} {n:Nat} {mode:Int} {back:Bool} {s:MS} (h:CI E D n) (hn:0<n) (hm:3<=mode) (ok:aa n mode s) (p:UInt8):aa n mode (x8 E mode back s p).2:=by
 have hc:s.ch.length=n:=ok.ch.resolve_left (by omega);obtain⟨t,ht,h1,h2,h3,h4⟩:∃t,t=(if s.row.length=0 then cO E mode s else s)/\t.ch.length=n/\0<t.row.length/\t.row.length<=n/\(mode=4->t.gone.length+t.row.length=n):=by
  refine⟨_,rfl,?_⟩;split
  ·obtain⟨b1,b2,b3⟩:=Dg h hm ok;refine⟨b1,by omega,by omega,fun _=>by rw[b3,b2];simp⟩
  ·rename_i hr;exact⟨hc,by omega,ok.row,fun h4=>(ok.g h4).resolve_left hr⟩
 have e:(x8 E mode back s p).2=(L5 mode back t p).2:=by rw[ht];rfl
 rw[e];unfold L5;simp only
 split
 ·rename_i h3';exact⟨ok.m,.inr (by simp[h1];omega),by simp,fun hb=>by omega,fun hb=>by omega⟩
 ·split
  ·rename_i h4';split
   ·rename_i h5;refine⟨ok.m,.inr ?_,by simp,fun hb=>by omega,fun _=> .inl rfl⟩;have:=h4 h4';rw[Zb,Jn];omega
   ·refine⟨ok.m,.inr h1,by simp;omega,fun hb=>by omega,fun _=> .inr ?_⟩;have:=h4 h4';rw[Zb,Jn,Zf];omega
  ·rename_i h4';exact⟨ok.m,.inr h1,by simp;omega,fun hb=>by omega,fun hb=>absurd hb h4'⟩
theorem ww {E D:Bs->Bs} {n:Nat} {mode:Int} {back:Bool} (h:CI E D n) (hn:0<n) (hm:3<=mode):∀(l:Bs) {s:MS},aa n mode s->aa n mode (y8 E mode back s l).2
 |[],_,ok=>ok
 |p::l,_,ok=>ww h hn hm l (rI h hn hm ok p)
theorem wr {E D:Bs->Bs} {n:Nat} {mode:Int} {back:Bool} {c p:Bs} (h:CI E D n) (hm:mode=1\/mode=2) (hc:mode=1\/c.length=n) (hp:p.length=n):
  (T9 E D mode back c p).1.length=n/\(mode=1\/(T9 E D mode back c p).2.length=n):=by
 unfold T9;by_cases h1:mode=1
 ·rw[if_pos h1];refine⟨?_,.inl h1⟩;show(if back then D p else E p).length=n;cases back
  ·exact h.le hp
  ·exact h.ld hp
 ·rw[if_neg h1];have hc:=hc.resolve_left h1;cases back
  ·have:(E (j9 p c)).length=n:=h.le (B5 hp hc);exact⟨this,.inr this⟩
  ·exact⟨B5 (h.ld hp) hc,.inr hp⟩
theorem mi {E D:Bs->Bs} {n:Nat} {mode:Int} {back:Bool} {b c:Bs} (h:CI E D n) (hm:mode=1\/mode=2) (hc:mode=1\/c.length=n):∀i,n*i<=b.length->
  (A7 E D mode back n b c i).1.length=n*i/\(mode=1\/(A7 E D mode back n b c i).2.length=n)
 |0,_=>⟨rfl,hc⟩
 |i+1,hi=>by
  rw[Jr]at hi;obtain⟨a1,a2⟩:=mi (back:=back) (b:=b) h hm hc i (by omega);obtain⟨b1,b2⟩:=wr (back:=back) h hm a2 (p:=sub b (n*i) n) (by rw[m5];omega);exact⟨by rw[mj];simp only[Zb,a1,b1,Jr],b2⟩
theorem bU {E D:Bs->Bs} {n:Nat} {mode:Int} {back:Bool} {s:MS} {b:Bs} (h:CI E D n) (ok:aa n mode s) (hb:b.length%r8 n mode=0):(k9 E D n mode back s b).1.length=b.length:=by
 unfold r8 at hb;unfold k9;by_cases hm:mode=1\/mode=2
 ·rw[if_pos hm]at hb;simp only[if_pos hm];have:=Z9 b.length n;rw[(mi h hm ok.ch _ (by omega)).1];omega
 ·simp only[if_neg hm];exact rH E mode back b s
theorem Do {E D:Bs->Bs} {n:Nat} {mode:Int} {back:Bool} {s:MS} {b:Bs} (h:CI E D n) (hn:0<n) (ok:aa n mode s):aa n mode (k9 E D n mode back s b).2:=by
 unfold k9;by_cases hm:mode=1\/mode=2
 ·simp only[if_pos hm];have:=Z9 b.length n;exact⟨ok.m,(mi h hm ok.ch _ (by omega)).2,ok.row,ok.blk,fun h4=>by omega⟩
 ·simp only[if_neg hm];exact ww h hn (by have:=ok.m;omega) b ok
def cQ (E:Bs->Bs) (mode:Int) (c:Bs):Bs:=if mode=5 then E c else if mode=6 then X9 c else c
def M8 (kind:Int) (n:Nat):Bs:=
 if kind=1 then Zk n (Zt n)else if kind=2 then 128::Zk (n-1) 0 else Zk (n-1) 0++[Zt n]
theorem oS {kind n} (h:0<n):(M8 kind n).length=n:=by
 unfold M8;split
 ·simp
 ·split
  ·simp;omega
  ·simp;omega
def G9 (kind:Int) (size:Nat) (tail:Bs):Bs:=tail++M8 kind (size-tail.length)
theorem oR {kind size} {tail:Bs} (h:tail.length<size):(G9 kind size tail).length=size:=by
 rw[G9,Zb,oS (by omega)];omega
def U9 (b:Bs):Nat->Nat
 |0=>0
 |k+1=>if b.getD k 0=128 then k+1 else U9 b k
def au (kind:Int) (b:Bs):Nat:=if kind=2 then b.length+1-U9 b b.length else (b.getD (b.length-1) 0).toNat
def D4 (kind:Int) (b:Bs):Nat:=
 if au kind b<1\/b.length<au kind b\/(kind≠3/\b.drop (b.length-au kind b)≠M8 kind (au kind b))then 0 else au kind b
def bW (kind:Int) (b:Bs):Bs:=b.take (b.length-D4 kind b)
theorem CG (b:Bs):∀k,U9 b k<=k
 |0=>Zg _
 |k+1=>by
  unfold U9;split
  ·exact Zg _
  ·have:=CG b k;omega
theorem CE (b:Bs) {j:Nat} (hj:b.getD j 0=128):∀k,j<k->(∀i,j<i->i<k->b.getD i 0≠128)->U9 b k=j+1
 |0,h,_=>by omega
 |k+1,h,hn=>by
  unfold U9;by_cases hk:k=j
  ·subst hk;rw[if_pos hj]
  ·rw[if_neg (hn k (by omega) (by omega))];exact CE b hj k (by omega) (fun i h1 h2=>hn i h1 (by omega))
theorem Wi {a b:Bs} {i:Nat} (h:a.length<=i):(a++b).getD i 0=b.getD (i-a.length) 0:=by
 rw[Zc,List.getElem?_append_right h,Zc]
theorem DP (kind b):D4 kind b<=b.length:=by
 unfold D4;split<;>omega
def D5 (n:Nat) (mode pad:Int) (iv:Bs):Prop:=(1<=mode/\mode<=9)/\(1<=pad/\pad<=4)/\(pad=4\/mode<=2)/\iv.length=if mode=1 then 0 else n
noncomputable def C2 (tag mode pad:Int) (n lk li:Nat):Int:=by
 classical exact if ¬A1 tag then 2 else if (lk:Int)∉r9 tag then 4 else if ¬((1<=mode/\mode<=9)/\(1<=pad/\pad<=4)/\(pad=4\/mode<=2))then 3 else if li≠(if mode=1 then 0 else n)then 5 else 0
theorem wy {n:Nat} {mode:Int} {iv:Bs} (hm:1<=mode/\mode<=6) (h:iv.length=if mode=1 then 0 else n):aa n mode ⟨iv,[],[]⟩:=by
 refine⟨hm,?_,Nat.zero_le _,fun _=>rfl,fun _=> .inl rfl⟩;by_cases h1:mode=1
 ·exact .inl h1
 ·rw[if_neg h1]at h;exact .inr h
theorem eA {n:Nat} {va:List Value} {l:Bs} (ha:va=bv l) (hn:l.length=n) (h0:0<n) (hm:n<=1073741824):b9 C 90 [.z n va] [] (.ret (.o 1 (.k 0) 0 n)) [.sc (bv l)]:=by
 subst ha;refine qQ.c ?_;refine .inl ⟨h0,(by simp only[A2,j6,M5,y5,Zb,Jd,Zs,Zh,Zf,Z5,List.length_nil,m5,Zm,Jm,Z6];omega),by omega,by omega,?_⟩;refine⟨_,rfl,[.d 7 0],?_,⟨_,rfl,rfl⟩,tq⟩;show V.o 1 (.k 0) 0 (0+n)=_;rw[Zi]
theorem X7 {n:Nat} {va:List Value} {l:Bs} (ha:va=bv l) (hn:l.length=n) (hm:n<=1073741824):b9 C 90 [.z n va] [] (.ret (.z n (bv l))) []:=by
 subst ha;by_cases h0:0<n
 ·refine qQ.c ?_;refine .inl ⟨h0,(by simp only[A2,j6,M5,y5,Zb,Jd,Zs,Zh,Zf,Z5,List.length_nil,m5,Zm,Jm,Z6];omega),by omega,by omega,?_⟩;refine⟨_,rfl,[],?_,tq⟩;show V.z (0+n) (sub ([]++bv l) 0 (0+n))=_;rw[Zi,Zl,g8 hn]
 ·obtain rfl:n=0:=(by omega);obtain rfl:=List.eq_nil_of_length_eq_zero hn;refine qQ.w ?_;refine .inr ⟨?_,?_⟩
  ·exact⟨.ret g9,[],⟨_,rfl,[],rfl,tq⟩,.ret .nl,.nil⟩
  ·refine⟨rfl,by decide,by decide,?_⟩;exact⟨.ret (.z 0 []),[],⟨_,rfl,[],rfl,tq⟩,.ret (.refl _),.nil⟩
def px (a t:Bs) (i:Nat):Bs:=(List.range a.length).map fun p=>if p<i then a.getD p 0^^^t.getD p 0 else a.getD p 0
theorem cR (a t i):(px a t i).length=a.length:=by simp[px]
theorem Eg (a t):px a t 0=a:=by
 refine jy (cR _ _ _) fun i hi=> ?_;rw[cR]at hi;simp[px,Zc,hi]
theorem Ee {a t:Bs} {i:Nat} (h:i<a.length):(px a t i).getD i 0=a.getD i 0:=by simp[px,Zc,h]
theorem Ef {a t:Bs} {i:Nat} (h:i<a.length):(px a t i).set i (a.getD i 0^^^t.getD i 0)=px a t (i+1):=by
 refine jy (by rw[Zs,cR,cR]) fun j hj=> ?_;rw[Zs,cR]at hj;rw[Zc,Jh];by_cases e:i=j
 ·subst e;rw[if_pos rfl,if_pos (by rw[cR];exact h)];simp[px,Zc,h]
 ·rw[if_neg e];simp only[px,Zc,List.getElem?_map,List.getElem?_range hj,Option.map_some,Option.getD_some];by_cases e2:j<i
  ·rw[if_pos e2,if_pos (by omega)]
  ·rw[if_neg e2,if_neg (by omega)]
theorem Ed {a t:Bs} (h:t.length<=a.length):px a t t.length=P0 a t:=by
 refine jy (by rw[cR,rY h]) fun i hi=> ?_;rw[cR]at hi;have e:(px a t t.length).getD i 0=if i<t.length then a.getD i 0^^^t.getD i 0 else a.getD i 0:=by
  simp[px,Zc,hi]
 rw[e];have lx:(j9 a t).length=t.length:=by rw[nd];omega
 unfold P0;by_cases h1:i<t.length
 ·have e2:(j9 a t++a.drop t.length).getD i 0=(j9 a t).getD i 0:=by
   rw[Zc,List.getElem?_append_left (by omega),<-Zc]
  rw[if_pos h1,e2];have h2:i<(List.zipWith (fun x1 x2=>x1^^^x2) a t).length:=by rw[Z6];omega
  unfold j9;rw[Zc (l:=List.zipWith _ a t),Zp h2];simp[Zc,h1,hi]
 ·have e2:(a.drop t.length).getD (i-t.length) 0=a.getD i 0:=by
   rw[Zc,List.getElem?_drop,show t.length+(i-t.length)=i by omega,<-Zc]
  rw[if_neg h1,Wi (by omega),lx,e2]
theorem kK {n m:Nat} {va vt:List Value} {a t:Bs} (ha:va=bv a) (ht:vt=bv t) (hn:a.length=n) (hm:t.length=m) (h0:0<n) (hmn:m<=n) (hb:n<=1000):b9 C 229 [.z n va,.z m vt] [] (.ret (.o 1 (.k 0) 0 n)) [.sc (bv (P0 a t))]:=by
 subst ha;subst ht;refine BW.c ?_;refine d9 (fun h=>absurd h (by omega)) (fun _=> ?_);refine⟨[],_,_,_,_,eA rfl hn h0 (by omega),rfl,rfl,?_⟩;refine m9 (fun i=>⟨[(5,.o 1 (.k 0) 0 n),(17,.z m (bv t)),(18,i64 m),(19,i64 i)],[.sc (bv (px a t i))]⟩) m ⟨[.d 16 0],⟨rfl,rfl,rfl,rfl,tq⟩,⟨_,rfl,i6 (by rw[Eg])⟩,tq⟩ fun i hi=> ?_;refine d9 (fun h=> ?_) (fun h=> ?_)
 ·have d8:i<m:=(by omega);refine⟨by omega,by omega,_,by rw[Zd];exact p9 (by omega),?_⟩;refine⟨by omega,by omega,_,by rw[Zd,Ze,Zi];exact p9 (by rw[cR];omega),?_⟩;refine⟨by omega,by omega,by rw[Zd,j6,cR];omega,?_⟩;refine⟨i+1,by omega,by omega,[.k 0],⟨rfl,rfl,rfl,f8 (by simp(disch:=omega)only[Za];omega),tq⟩,⟨_,rfl,i6 ?_⟩,tq⟩;rw[o5,Ee (by omega),Zd,Ze,Zi,L4,Ef (by omega)]
 ·obtain rfl:i=m:=(by omega);refine⟨_,rfl,[.k 0],rfl,⟨_,rfl,i6 ?_⟩,tq⟩;rw[<-hm,Ed (by omega)]
theorem Mk {n m:Nat} {va vt:List Value} {a t:Bs} (ha:va=bv a) (ht:vt=bv t) (hn:a.length=n) (hm:t.length=m) (h0:0<n) (hmn:m<=n) (hb:n<=1000):b9 C 229 [.z m vt,.z n va] [] (.ret (.o 1 (.k 0) 0 n)) [.sc (bv (P0 a t))]:=by
 by_cases he:m=n
 ·subst he;have e:P0 a t=P0 t a:=by rw[jM (by omega),jM (by omega),GZ]
  rw[e];exact kK ht ha hm hn h0 (Zg _) hb
 subst ha;subst ht;refine BW.c ?_;refine d9 (fun _=> ?_) (fun h=>absurd h (by omega));refine⟨[],_,_,_,_,eA rfl hn h0 (by omega),rfl,rfl,?_⟩;refine m9 (fun i=>⟨[(5,.o 1 (.k 0) 0 n),(17,.z m (bv t)),(18,i64 m),(19,i64 i)],[.sc (bv (px a t i))]⟩) m ⟨[.d 16 0],⟨rfl,rfl,rfl,rfl,tq⟩,⟨_,rfl,i6 (by rw[Eg])⟩,tq⟩ fun i hi=> ?_;refine d9 (fun h=> ?_) (fun h=> ?_)
 ·have d8:i<m:=(by omega);refine⟨by omega,by omega,_,by rw[Zd];exact p9 (by omega),?_⟩;refine⟨by omega,by omega,_,by rw[Zd,Ze,Zi];exact p9 (by rw[cR];omega),?_⟩;refine⟨by omega,by omega,by rw[Zd,j6,cR];omega,?_⟩;refine⟨i+1,by omega,by omega,[.k 0],⟨rfl,rfl,rfl,f8 (by simp(disch:=omega)only[Za];omega),tq⟩,⟨_,rfl,i6 ?_⟩,tq⟩;rw[o5,Ee (by omega),Zd,Ze,Zi,L4,Ef (by omega)]
 ·obtain rfl:i=m:=(by omega);refine⟨_,rfl,[.k 0],rfl,⟨_,rfl,i6 ?_⟩,tq⟩;rw[<-hm,Ed (by omega)]
theorem A3 {b:Bs} {m s:Nat} (hb:b.length=m) (hs:s<=m):sub (bv b) s (m-s)=bv (b.drop s):=by rw[o6,M9 _ _ _ (by omega)]
theorem LD {t key s k xs rs} (h:k5 t key s k xs rs) {m:Nat} {vl vb:List Value} {a9 b:Bs} {swap:Bool} (hvl:vl=bv a9) (hvb:vb=bv b) (hl:a9.length=s) (hb:b.length=m) (h1:s<m) (h2:m<=2*s):
  b9 C 179 [f9 t k xs,bool swap,.z s vl,.z m vb] [] (.ret (.o 1 (.k 0) 0 m)) [.sc (bv (gD (cF t key false) s swap a9 b))]:=by
 subst hvl;subst hvb;have hs:=h.s_le;have l1:(b.take s).length=s:=by rw[Zh];omega
 have l2:(b.drop s).length=m-s:=by rw[Zf,hb]
 have p1:P0 (b.take s) a9=j9 (b.take s) a9:=jM (by omega);have lx1:(j9 (b.take s) a9).length=s:=B5 l1 hl;have lX:=h.len (back:=false) lx1;have lp2:(P0 (cF t key false (j9 (b.take s) a9)) (b.drop s)).length=s:=by rw[rY (by omega),lX]
 have lY:=h.len (back:=false) lp2;have hres:gD (cF t key false) s swap a9 b=if swap then cF t key false (P0 (cF t key false (j9 (b.take s) a9)) (b.drop s))++(cF t key false (j9 (b.take s) a9)).take (m-s)else (cF t key false (j9 (b.take s) a9)).take (m-s)++cF t key false (P0 (cF t key false (j9 (b.take s) a9)) (b.drop s)):=by
  unfold gD;rw[hb]
 have e1:I6.wrap ((m:Int)-(s:Int))=((m-s:Nat):Int):=by rw[Za _ (by omega)];omega
 rw[hres];refine Vs.c ?_;refine⟨[],_,_,_,_,h.size,rfl,rfl,?_⟩;refine⟨by omega,by omega,by omega,by omega,?_⟩;have c1:=kK (va:=sub (bv b) 0 s) (a:=b.take s) (t:=a9) (o6 b 0 s) rfl l1 hl (by omega) (Zg _) (by omega);rw[p1]at c1;refine⟨[],_,_,_,_,c1,rfl,rfl,?_⟩;refine⟨[],_,_,_,_,h.enc lx1 (g8 lx1),rfl,rfl,?_⟩;generalize cF t key false (j9 (b.take s) a9)=x at*
 refine⟨by omega,by omega,by omega,by omega,?_⟩;refine⟨[],_,_,_,_,Mk (a:=x) (t:=b.drop s) (g8 lX) (A3 hb (by omega)) lX l2 (by omega) (by omega) (by omega),rfl,rfl,?_⟩;refine⟨[],_,_,_,_,h.enc lp2 (g8 lp2),rfl,rfl,?_⟩;generalize cF t key false (P0 x (b.drop s))=y at*
 refine⟨by rw[e1];omega,by rw[e1];omega,by rw[e1];omega,by rw[e1];omega,?_⟩;have lt:(x.take (m-s)).length=m-s:=by rw[Zh];omega
 cases swap
 ·refine⟨[],_,_,_,_,eB (n:=2) (ls:=[x.take (m-s),y]) (t:=x.take (m-s)++y) (by simp) ?_ rfl (by rw[Zb];omega) (by rw[Zb];omega),rfl,rfl,?_⟩
  ·rw[e1];show[V.z (m-s) (sub (bv x) 0 (m-s)),V.z s (sub (bv y) 0 s)]=[V.z _ _,V.z _ _];rw[g8 lY,lt,lY,o6];rfl
  have lc:(x.take (m-s)++y).length=m:=by rw[Zb];omega
  rw[lc];exact⟨_,rfl,[.d 48 0],rfl,⟨_,rfl,rfl⟩,tq⟩
 ·refine⟨[],_,_,_,_,eB (n:=2) (ls:=[y,x.take (m-s)]) (t:=y++x.take (m-s)) (by simp) ?_ rfl (by rw[Zb];omega) (by rw[Zb];omega),rfl,rfl,?_⟩
  ·rw[e1];show[V.z s (sub (bv y) 0 s),V.z (m-s) (sub (bv x) 0 (m-s))]=[V.z _ _,V.z _ _];rw[g8 lY,lt,lY,o6];rfl
  have lc:(y++x.take (m-s)).length=m:=by rw[Zb];omega
  rw[lc];exact⟨_,rfl,[.d 48 0],rfl,⟨_,rfl,rfl⟩,tq⟩
theorem b9.args {C:m6} {f:Nat} {ys ys0:List V} {bs bs':List B} {r:Oc} (h:b9 C f ys bs r bs') (hw:aU ys0 ys):b9 C f ys0 bs r bs':=
 ⟨h.1,fun w F ι vs st gl dm hl=>h.2 w F ι vs st gl dm (hw.r hl)⟩
theorem IY {t key s k xs rs} (h:k5 t key s k xs rs) {m:Nat} {vl vb:List Value} {a9 b:Bs} {swap:Bool} (hvl:vl=bv a9) (hvb:vb=bv b) (hl:a9.length=s) (hb:b.length=m) (h1:s<m) (h2:m<=2*s):
  b9 C 178 [f9 t k xs,bool swap,.z s vl,.z m vb] [] (.ret (.o 1 (.k 0) 0 m)) [.sc (bv (ce (cF t key true) s swap a9 b))]:=by
 subst hvl;subst hvb;have hs:=h.s_le;have e1:I6.wrap ((m:Int)-(s:Int))=((m-s:Nat):Int):=by rw[Za _ (by omega)];omega
 cases swap
 ·have lx:(b.take (m-s)).length=m-s:=by simp only[Zh,Zf];omega
  have ly:(b.drop (m-s)).length=s:=by simp only[Zh,Zf];omega
  have hx:sub (bv b) 0 (m-s)=bv (b.take (m-s)):=o6 b 0 (m-s);have hy:sub (bv b) (m-s) s=bv (b.drop (m-s)):=by
   rw[o6,M9 _ _ _ (by omega)]
  have hres:ce (cF t key true) s false a9 b=cY (cF t key true) a9 (b.take (m-s)) (b.drop (m-s)):=by
   unfold ce;rw[if_neg (by decide),hb]
  have lz:=h.len (back:=true) ly;rw[hres,cY];rw[lx];refine BV.c ?_;refine⟨[],_,_,_,_,h.size,rfl,rfl,?_⟩;refine⟨by rw[e1];omega,by rw[e1];omega,by rw[e1];omega,by rw[e1];omega,?_⟩;refine⟨by rw[e1];omega,by rw[e1];omega,by omega,by omega,?_⟩;refine⟨[],_,_,_,_,h.dec ly rfl,?_,rfl,?_⟩
  ·rw[e1,<-hy];show[f9 t k xs,V.z (m-(m-s)) (sub (bv b) (m-s) (m-(m-s)))]=_;rw[show m-(m-s)=s by omega]
  generalize cF t key true (b.drop (m-s))=z at*
  have lt:(z.take (m-s)).length=m-s:=by rw[Zh];omega
  refine⟨by rw[e1];omega,by rw[e1];omega,by rw[e1];omega,by rw[e1];omega,?_⟩;refine⟨[],_,_,_,_,kK (a:=z.take (m-s)) (t:=b.take (m-s)) rfl rfl lt lx (by omega) (Zg _) (by omega),?_,rfl,?_⟩
  ·rw[e1,<-hx];show[V.z (m-s) (sub (bv z) 0 (m-s)),V.z (m-s) (sub (bv b) 0 (m-s))]=_;rw[o6];rfl
  rw[jM (by omega)];have lq:(j9 (z.take (m-s)) (b.take (m-s))).length=m-s:=B5 lt lx;refine⟨by rw[e1];omega,by rw[e1];omega,by omega,by omega,?_⟩;have lw:(b.take (m-s)++z.drop (m-s)).length=s:=by rw[Zb,lx,Zf];omega
  refine⟨[],_,_,_,_,eB (n:=2) (ls:=[b.take (m-s),z.drop (m-s)]) (t:=b.take (m-s)++z.drop (m-s)) (by simp) ?_ rfl (by omega) (by omega),rfl,rfl,?_⟩
  ·rw[e1];show[V.z (m-s) (sub (bv b) 0 (m-s)),V.z (s-(m-s)) (sub (bv z) (0+(m-s)*1) (s-(m-s)))]=[V.z _ _,V.z _ _];rw[hx,lx,Zi,Ze,o6,M9 _ _ _ (by omega),Zf,lz]
  rw[lw];refine⟨[],_,_,_,_,h.dec lw (g8 lw),rfl,rfl,?_⟩;have lp:=h.len (back:=true) lw;generalize cF t key true (b.take (m-s)++z.drop (m-s))=p at*
  refine⟨[],_,_,_,_,kK (a:=p) (t:=a9) (g8 lp) rfl lp hl (by omega) (Zg _) (by omega),rfl,rfl,?_⟩;rw[jM (by omega)];have lp2:(j9 p a9).length=s:=B5 lp hl;have lr:(j9 p a9++j9 (z.take (m-s)) (b.take (m-s))).length=m:=by rw[Zb];omega
  refine⟨[],_,_,_,_,eB (n:=2) (ls:=[j9 p a9,j9 (z.take (m-s)) (b.take (m-s))]) (t:=j9 p a9++j9 (z.take (m-s)) (b.take (m-s))) (by simp) ?_ rfl (by omega) (by omega),rfl,rfl,?_⟩
  ·show[V.z s (sub (bv (j9 p a9)) 0 s),V.z (m-s) (sub (bv _) 0 (m-s))]=[V.z _ _,V.z _ _];rw[g8 lp2,g8 lq,lp2,lq]
  rw[lr];exact⟨_,rfl,[.d 64 0],rfl,⟨_,rfl,rfl⟩,tq⟩
 ·have lx:(b.drop s).length=m-s:=by simp only[Zh,Zf];omega
  have ly:(b.take s).length=s:=by simp only[Zh,Zf];omega
  have hx:sub (bv b) s (m-s)=bv (b.drop s):=A3 hb (by omega);have hy:sub (bv b) 0 s=bv (b.take s):=by
   exact o6 b 0 s
  have hres:ce (cF t key true) s true a9 b=cY (cF t key true) a9 (b.drop s) (b.take s):=by
   unfold ce;rw[if_pos rfl]
  have lz:=h.len (back:=true) ly;rw[hres,cY];rw[lx];refine BV.c ?_;refine⟨[],_,_,_,_,h.size,rfl,rfl,?_⟩;refine⟨by rw[e1];omega,by rw[e1];omega,by rw[e1];omega,by rw[e1];omega,?_⟩;refine⟨by rw[e1];omega,by rw[e1];omega,by omega,by omega,?_⟩;refine⟨by omega,by omega,by omega,by omega,?_⟩;refine⟨by omega,by omega,by omega,by omega,?_⟩;refine⟨[],_,_,_,_,h.dec ly rfl,?_,rfl,?_⟩
  ·rw[<-hy];rfl
  generalize cF t key true (b.take s)=z at*
  have lt:(z.take (m-s)).length=m-s:=by rw[Zh];omega
  refine⟨by rw[e1];omega,by rw[e1];omega,by rw[e1];omega,by rw[e1];omega,?_⟩;refine⟨[],_,_,_,_,kK (a:=z.take (m-s)) (t:=b.drop s) rfl rfl lt lx (by omega) (Zg _) (by omega),?_,rfl,?_⟩
  ·rw[e1,<-hx];show[V.z (m-s) (sub (bv z) 0 (m-s)),V.z (m-s) (sub (bv b) s (m-s))]=_;rw[o6];rfl
  rw[jM (by omega)];have lq:(j9 (z.take (m-s)) (b.drop s)).length=m-s:=B5 lt lx;refine⟨by rw[e1];omega,by rw[e1];omega,by omega,by omega,?_⟩;have lw:(b.drop s++z.drop (m-s)).length=s:=by rw[Zb,lx,Zf];omega
  refine⟨[],_,_,_,_,eB (n:=2) (ls:=[b.drop s,z.drop (m-s)]) (t:=b.drop s++z.drop (m-s)) (by simp) ?_ rfl (by omega) (by omega),rfl,rfl,?_⟩
  ·rw[e1];show[V.z (m-s) (sub (bv b) s (m-s)),V.z (s-(m-s)) (sub (bv z) (0+(m-s)*1) (s-(m-s)))]=[V.z _ _,V.z _ _];rw[hx,lx,Zi,Ze,o6,M9 _ _ _ (by omega),Zf,lz]
  rw[lw];refine⟨[],_,_,_,_,h.dec lw (g8 lw),rfl,rfl,?_⟩;have lp:=h.len (back:=true) lw;generalize cF t key true (b.drop s++z.drop (m-s))=p at*
  refine⟨[],_,_,_,_,kK (a:=p) (t:=a9) (g8 lp) rfl lp hl (by omega) (Zg _) (by omega),rfl,rfl,?_⟩;rw[jM (by omega)];have lp2:(j9 p a9).length=s:=B5 lp hl;have lr:(j9 p a9++j9 (z.take (m-s)) (b.drop s)).length=m:=by rw[Zb];omega
  refine⟨[],_,_,_,_,eB (n:=2) (ls:=[j9 p a9,j9 (z.take (m-s)) (b.drop s)]) (t:=j9 p a9++j9 (z.take (m-s)) (b.drop s)) (by simp) ?_ rfl (by omega) (by omega),rfl,rfl,?_⟩
  ·show[V.z s (sub (bv (j9 p a9)) 0 s),V.z (m-s) (sub (bv _) 0 (m-s))]=[V.z _ _,V.z _ _];rw[g8 lp2,g8 lq,lp2,lq]
  rw[lr];exact⟨_,rfl,[.d 64 0],rfl,⟨_,rfl,rfl⟩,tq⟩
theorem Aw {mode:Int} {w:Bool}:b9 C 176 [i64 mode,bool w] [] (.ret (.t [bool (decide (mode=9)||(decide (mode=8)&& !w)),bool (decide (7<=mode/\mode<=9))])) []:=by
 refine Vt.c ?_;refine i7 (fun h=> ?_) (fun h=>i7 (fun h7=> ?_) (fun h7=>i7 (fun h8=> ?_) (fun h8=> ?_)))
 ·subst h;exact⟨_,rfl,[],rfl,tq⟩
 ·subst h7;exact⟨_,rfl,[],rfl,tq⟩
 ·subst h8;exact⟨_,rfl,[],rfl,tq⟩
 ·refine⟨_,rfl,[],?_,tq⟩;rw[decide_eq_false h,decide_eq_false h8,decide_eq_false (by omega)];rfl
theorem MJ {mode:Int} {w:Bool}:b9 C 75 [i64 mode,bool w] [] (.ret (bool (decide (mode=9)||(decide (mode=8)&& !w)))) []:=by
 refine Tf.c ?_;refine i7 (fun h=> ?_) (fun h=>i7 (fun h8=> ?_) (fun h8=> ?_))
 ·subst h;exact⟨_,rfl,[],rfl,tq⟩
 ·subst h8;exact⟨_,rfl,[],rfl,tq⟩
 ·refine⟨_,rfl,[],?_,tq⟩;rw[decide_eq_false h,decide_eq_false h8];rfl
theorem Mw {n:Nat} {va:List Value} {rs:List V} {l:List Value} (h:b9 C 88 [.q rs 0,.z n va,bool false] [] (C6 n) [.sc l]):b9 C 74 [.q rs 0,.z n va] [] (.ret (.o 1 (.k 0) 0 n)) [.sc l]:=by
 refine SS.c ?_;refine⟨[],_,_,_,_,h,rfl,rfl,?_⟩;exact⟨_,rfl,[.d 10 0],rfl,⟨_,rfl,rfl⟩,tq⟩
theorem Mx {n:Nat} {va:List Value} {rs:List V} {l:List Value} (h:b9 C 88 [.q rs 0,.z n va,bool true] [] (C6 n) [.sc l]):b9 C 73 [.q rs 0,.z n va] [] (.ret (.o 1 (.k 0) 0 n)) [.sc l]:=by
 refine Tb.c ?_;refine⟨[],_,_,_,_,h,rfl,rfl,?_⟩;exact⟨_,rfl,[.d 10 0],rfl,⟨_,rfl,rfl⟩,tq⟩
theorem k5.E {t key s k xs rs} (h:k5 t key s k xs rs) {b:Bs} {va:List Value} (hb:b.length=s) (ha:va=bv b):b9 C 74 [.q rs 0,.z s va] [] (.ret (.o 1 (.k 0) 0 s)) [.sc (bv (cF t key false b))]:=by subst ha;exact Mw (h.rblk hb)
theorem k5.Un {t key s k xs rs} (h:k5 t key s k xs rs) {b:Bs} {va:List Value} (hb:b.length=s) (ha:va=bv b):b9 C 73 [.q rs 0,.z s va] [] (.ret (.o 1 (.k 0) 0 s)) [.sc (bv (cF t key true b))]:=by subst ha;exact Mx (h.rblk hb)
theorem a1H (n:Nat) (mode:Int) (b:Bs) {m:Nat} (hb:b.length=m):(decide (mode=9)||(decide (mode=8)&& !((m:Int)==((2*n:Nat):Int))))=dU n mode b:=by
 unfold dU;rw[hb];congr 3;by_cases h:m=2*n
 ·rw[h];simp
 ·rw[decide_eq_false h];exact beq_false_of_ne (by omega)
theorem OG {t key s k xs rs} (h:k5 t key s k xs rs) {m:Nat} {vl vb:List Value} {a9 b:Bs} {mode:Int} {back:Bool} (hvl:vl=bv a9) (hvb:vb=bv b) (hl:a9.length=s) (hb:b.length=m) (hm:7<=mode/\mode<=9) (h1:s<=m) (h2:m<=2*s):
  b9 C 116 [f9 t k xs,i64 mode,bool back,.z s vl,.z m vb] [] (C6 m) [.sc (bv (P2 (cF t key false) (cF t key true) s mode back a9 b))]:=by
 subst hvl;subst hvb;have hs:=h.s_le;have w2:I6.wrap (2*(s:Int))=((2*s:Nat):Int):=by rw[Za _ (by omega)];omega
 have hsw:=a1H s mode b hb;refine BU.c ?_;refine bn 0 rfl 1 (fun _=>⟨[(0,f9 t k xs),(2,bool back),(3,.z s (bv a9)),(4,.z m (bv b)),(12,i64 s),(13,bool (dU s mode b))],[]⟩) ?_ fun i hi=> ?_
 ·refine⟨[],_,_,_,_,h.size,rfl,rfl,?_⟩;refine⟨[],_,_,_,_,Aw,rfl,rfl,?_⟩;rw[w2,hsw,decide_eq_true hm];refine p6 (fun h=>absurd rfl h) (fun _=> ?_);refine d9 (fun h=>absurd h (by omega)) (fun _=> ?_);refine d9 (fun h=>absurd h (by rw[w2];omega)) (fun _=> ?_);exact⟨[],0,by decide,[],⟨rfl,rfl,rfl,rfl,rfl,rfl,tq⟩,tq⟩
 refine m9 (fun _=>⟨[(0,f9 t k xs),(2,bool back),(3,.z s (bv a9)),(4,.z m (bv b)),(12,i64 s),(13,bool (dU s mode b))],[]⟩) 0 ⟨[],⟨rfl,rfl,rfl,rfl,rfl,rfl,tq⟩,tq⟩ fun j hj=> ?_;refine i7 (fun he=> ?_) (fun he=> ?_)
 ·obtain rfl:m=s:=(by omega);have lD:=h.len (back:=true) hb;have lX:=B5 hb hl;have lE:=h.len (back:=false) lX;cases back
  ·refine⟨[],_,_,_,_,N4 (a:=b) (b:=a9) rfl rfl hb hl (by omega),rfl,rfl,?_⟩;refine⟨[],_,_,_,_,h.enc lX (g8 lX),rfl,rfl,?_⟩;refine i7 (fun _=> ?_) (fun h=>absurd rfl h);refine⟨_,rfl,[.d 74 0],rfl,⟨_,rfl,i6 ?_⟩,tq⟩;rw[P2,if_pos hb,if_neg (by decide)]
  ·refine⟨[],_,_,_,_,h.dec hb rfl,rfl,rfl,?_⟩;refine⟨[],_,_,_,_,N4 (a:=cF t key true b) (b:=a9) (g8 lD) rfl lD hl (by omega),rfl,rfl,?_⟩;refine⟨_,rfl,[.d 61 0],rfl,⟨_,rfl,i6 ?_⟩,tq⟩;rw[P2,if_pos hb,if_pos rfl]
 ·have hne:¬b.length=s:=by omega
  refine i7 (fun h=>absurd h he) (fun _=> ?_);cases back
  ·refine⟨[],_,_,_,_,LD h rfl rfl hl hb (by omega) h2,rfl,rfl,?_⟩;refine⟨_,rfl,[.d 94 0],rfl,⟨_,rfl,i6 ?_⟩,tq⟩;rw[P2,if_neg hne,if_neg (by decide)]
  ·refine⟨[],_,_,_,_,IY h rfl rfl hl hb (by omega) h2,rfl,rfl,?_⟩;refine⟨_,rfl,[.d 89 0],rfl,⟨_,rfl,i6 ?_⟩,tq⟩;rw[P2,if_neg hne,if_pos rfl]
abbrev Bk (e:Int):Oc:= .ret (.t [g9,i64 e])
theorem OH {t key s k xs rs} (h:k5 t key s k xs rs) {l m:Nat} {vl vb:List Value} {a9 b:Bs} {mode:Int} {back:Bool} (hl:a9.length=l) (hb:b.length=m) (hm:m<=1000000) (he:fq s mode a9 b≠0):
  b9 C 116 [f9 t k xs,i64 mode,bool back,.z l vl,.z m vb] [] (Bk (fq s mode a9 b)) []:=by
 have hs:=h.s_le;have w2:I6.wrap (2*(s:Int))=((2*s:Nat):Int):=by rw[Za _ (by omega)];omega
 unfold fq at he ⊢;rw[hl,hb]at he ⊢;refine BU.c ?_;refine⟨0,Unit,fun _=>⟨[],[]⟩,fun _=>False,fun _=>0,?_,fun _ h=>h.elim⟩
 ·refine⟨[],_,_,_,_,h.size,rfl,rfl,?_⟩;refine⟨[],_,_,_,_,Aw,rfl,rfl,?_⟩;by_cases h3:mode<7\/9<mode
  ·rw[if_pos h3,decide_eq_false (show ¬(7<=mode/\mode<=9) by omega)];exact⟨_,rfl,[],rfl,tq⟩
  ·rw[if_neg h3]at he ⊢;rw[decide_eq_true (show 7<=mode/\mode<=9 by omega)];refine p6 (fun h5=> ?_) (fun h5=> ?_)
   ·rw[if_pos (by omega)];exact⟨_,rfl,[],rfl,tq⟩
   ·rw[if_neg (by omega)]at he ⊢;refine d9 (fun h7=> ?_) (fun h7=> ?_)
    ·rw[if_pos (by omega)];refine d9 (fun _=> ?_) (fun h=>absurd h7 h);exact⟨_,rfl,[],rfl,tq⟩
    ·refine d9 (fun h7'=> ?_) (fun h7'=> ?_)
     ·rw[w2]at h7';rw[if_pos (by omega)];exact⟨_,rfl,[],rfl,tq⟩
     ·rw[w2]at h7';rw[if_neg (by omega)]at he;exact absurd rfl he
theorem Hb:∀(x:Bs),j9 (Zk x.length 0) x=x
 |[]=>rfl
 |a::x=>by
  have ih:=Hb x;unfold j9 at ih ⊢;rw[Z5,List.replicate_succ,Jb,ih,UInt8.zero_xor]
theorem a3V {b x:Bs} {n d:Nat} (hb:b.length=d) (hx:x.length=n) (hd:d<=n):j9 (b++Zk (n-d) 0) x=P0 x b:=by
 have e:x=x.take d++x.drop d:=(Z2 d x).symm;have l1:(x.take d).length=d:=by rw[Zh];omega
 have l2:(x.drop d).length=n-d:=by rw[Zf];omega
 have h:j9 (b++Zk (n-d) 0) (x.take d++x.drop d)=j9 b (x.take d)++j9 (Zk (n-d) 0) (x.drop d):=by
  unfold j9;exact List.zipWith_append (by rw[hb,l1])
 rw[<-e]at h;have hz:=Hb (x.drop d);rw[l2]at hz;have ht:=a3W x b (by omega);rw[hb]at ht;rw[h,hz,GZ b,ht,P0,hb]
theorem MM {t key s k xs rs} (h:k5 t key s k xs rs) {l m:Nat} {vl vb:List Value} {a9 b:Bs} {mode:Int} {back:Bool} (hl:a9.length=l) (hb:b.length=m) (hm:m<=1000000) (he:fq s mode a9 b≠0):
  b9 C 19 [.q rs 0,i64 mode,bool back,.z l vl,.z m vb] [] (Bk (fq s mode a9 b)) []:=by
 have hs:=h.s_le;have w2:I6.wrap (2*(s:Int))=((2*s:Nat):Int):=by rw[Za _ (by omega)];omega
 unfold fq at he ⊢;rw[hl,hb]at he ⊢;refine BC.c ?_;refine⟨[],_,_,_,_,h.rsize,rfl,rfl,?_⟩;refine d9 (fun h3=> ?_) (fun h3=> ?_)
 ·rw[if_pos (by omega)];exact⟨_,rfl,[],rfl,tq⟩
 refine d9 (fun h3'=> ?_) (fun h3'=> ?_)
 ·rw[if_pos (by omega)];exact⟨_,rfl,[],rfl,tq⟩
 rw[if_neg (by omega)]at he ⊢;refine p6 (fun h5=> ?_) (fun h5=> ?_)
 ·rw[if_pos (by omega)];exact⟨_,rfl,[],rfl,tq⟩
 rw[if_neg (by omega)]at he ⊢;refine d9 (fun h7=> ?_) (fun h7=> ?_)
 ·rw[if_pos (by omega)];exact⟨_,rfl,[],rfl,tq⟩
 refine d9 (fun h7'=> ?_) (fun h7'=> ?_)
 ·rw[w2]at h7';rw[if_pos (by omega)];exact⟨_,rfl,[],rfl,tq⟩
 ·rw[w2]at h7';rw[if_neg (by omega)]at he;exact absurd rfl he
set_option maxHeartbeats 2000000 in
theorem ML {t key s k xs rs} (h:k5 t key s k xs rs) {m:Nat} {vl vb:List Value} {a9 b:Bs} {mode:Int} {back:Bool} (hvl:vl=bv a9) (hvb:vb=bv b) (hl:a9.length=s) (hb:b.length=m) (hm:7<=mode/\mode<=9) (h1:s<=m) (h2:m<=2*s):
  b9 C 19 [.q rs 0,i64 mode,bool back,.z s vl,.z m vb] [] (C6 m) [.sc (bv (P2 (cF t key false) (cF t key true) s mode back a9 b))]:=by
 subst hvl;subst hvb;have hs:=h.s_le;have w2:I6.wrap (2*(s:Int))=((2*s:Nat):Int):=by rw[Za _ (by omega)];omega
 have e1:I6.wrap ((m:Int)-(s:Int))=((m-s:Nat):Int):=by rw[Za _ (by omega)];omega
 refine BC.c ?_;refine⟨[],_,_,_,_,h.rsize,rfl,rfl,?_⟩;refine d9 (fun h=>absurd h (by omega)) (fun _=> ?_);refine d9 (fun h=>absurd h (by omega)) (fun _=> ?_);refine p6 (fun h=>absurd rfl h) (fun _=> ?_);refine d9 (fun h=>absurd h (by omega)) (fun _=> ?_);refine d9 (fun h=>absurd h (by rw[w2];omega)) (fun _=> ?_);refine i7 (fun he=> ?_) (fun he=> ?_)
 ·obtain rfl:m=s:=(by omega);have lD:=h.len (back:=true) hb;have lX:=B5 hb hl;cases back
  ·refine⟨[],_,_,_,_,I0 (a:=b) (b:=a9) rfl rfl hb hl (by omega),rfl,rfl,?_⟩;refine⟨[],_,_,_,_,h.E lX (g8 lX),rfl,rfl,?_⟩;refine⟨_,rfl,[.d 64 0],rfl,⟨_,rfl,i6 ?_⟩,tq⟩;rw[P2,if_pos hb,if_neg (by decide)]
  ·refine⟨[],_,_,_,_,h.Un hb rfl,rfl,rfl,?_⟩;refine⟨[],_,_,_,_,I0 (a:=cF t key true b) (b:=a9) (g8 lD) rfl lD hl (by omega),rfl,rfl,?_⟩;refine⟨_,rfl,[.d 59 0],rfl,⟨_,rfl,i6 ?_⟩,tq⟩;rw[P2,if_pos hb,if_pos rfl]
 have hne:¬b.length=s:=by omega
 have hsw:(decide (mode=9)||(decide (mode=8)&& !(I6.wrap ((m:Int)-(s:Int))==(s:Int))))=dU s mode b:=by
  unfold dU;rw[e1,hb];congr 3;by_cases h:m=2*s
  ·rw[decide_eq_true h];exact beq_iff_eq.2 (by omega)
  ·rw[decide_eq_false h];exact beq_false_of_ne (by omega)
 refine⟨[],_,_,_,_,MJ,rfl,rfl,?_⟩;rw[hsw];have hT:P2 (cF t key false) (cF t key true) s mode back a9 b=if back then ce (cF t key true) s (dU s mode b) a9 b else gD (cF t key false) s (dU s mode b) a9 b:=by rw[P2,if_neg hne]
 rw[hT];generalize dU s mode b=swap;cases back
 ·have l1:(b.take s).length=s:=by rw[Zh];omega
  have l2:(b.drop s).length=m-s:=by rw[Zf,hb]
  have lx1:(j9 (b.take s) a9).length=s:=B5 l1 hl;have lX:=h.len (back:=false) lx1;have hres:gD (cF t key false) s swap a9 b=if swap then cF t key false (P0 (cF t key false (j9 (b.take s) a9)) (b.drop s))++(cF t key false (j9 (b.take s) a9)).take (m-s)else (cF t key false (j9 (b.take s) a9)).take (m-s)++cF t key false (P0 (cF t key false (j9 (b.take s) a9)) (b.drop s)):=by
   unfold gD;rw[hb]
  rw[if_neg (by decide),hres];refine⟨by omega,by omega,by omega,by omega,?_⟩;refine⟨[],_,_,_,_,I0 (va:=sub (bv b) 0 s) (a:=b.take s) (b:=a9) (o6 b 0 s) rfl l1 hl (by omega),rfl,rfl,?_⟩;refine⟨[],_,_,_,_,h.E lx1 (g8 lx1),rfl,rfl,?_⟩;have lp2:(P0 (cF t key false (j9 (b.take s) a9)) (b.drop s)).length=s:=by rw[rY (by omega),lX]
  have hfill:=a3V (x:=cF t key false (j9 (b.take s) a9)) l2 lX (by omega);generalize cF t key false (j9 (b.take s) a9)=x at*
  have e3:I6.wrap ((s:Int)-I6.wrap ((m:Int)-(s:Int)))=((s-(m-s):Nat):Int):=by rw[e1,Za _ (by omega)];omega
  refine⟨by omega,by omega,by omega,by omega,?_⟩;refine⟨by rw[Zd,A3 hb (by omega),j6,l2],by omega,by decide,?_⟩;refine⟨by rw[e3];omega,by rw[e3];omega,by rw[e3];omega,?_,_,rfl,?_⟩
  ·show 0+(0+(m-s))*1<=([]++sub (bv b) s (m-s):List Value).length;rw[Zl,A3 hb (by omega),j6,l2];omega
  have lq:(b.drop s++Zk (s-(m-s)) 0).length=s:=by rw[Zb,Jd,l2];omega
  refine⟨[],_,_,_,_,I0 (a:=b.drop s++Zk (s-(m-s)) 0) (b:=x) rfl rfl lq lX (by omega),?_,rfl,?_⟩
  ·rw[e3];show[V.z (0+(m-s)+(s-(m-s))) (sub (sub ([]++sub (bv b) s (m-s)) 0 ((0+(m-s))*1)++Zk (s-(m-s)) (Value.int .u8 0)) 0 (0+(m-s)+(s-(m-s)))),V.z s (sub (bv x) 0 s)]=_;rw[show 0+(m-s)+(s-(m-s))=s by omega,Zi,Ze,Zl,A3 hb (by omega),g8 l2,U4,B7,g8 lq,g8 lX]
  rw[hfill];refine⟨[],_,_,_,_,h.E lp2 (g8 lp2),rfl,rfl,?_⟩;have lY:=h.len (back:=false) lp2;generalize cF t key false (P0 x (b.drop s))=y at*
  have lt:(x.take (m-s)).length=m-s:=by rw[Zh];omega
  have ht:sub (bv x) 0 (m-s)=bv (x.take (m-s)):=o6 x 0 (m-s);cases swap
  ·rw[if_neg (by decide)];refine⟨by rw[e1];omega,by rw[e1];omega,by rw[e1];omega,by rw[e1];omega,?_⟩;refine⟨by rw[e1,j6,lX];show 0+0*1+(m-s)*1<=s;omega,by rw[e1];show 0+(m-s)<=_;omega,by decide,?_⟩;refine⟨by rw[j6,lY];omega,by rw[e1];show 0+(m-s)+s<=_;omega,?_,?_⟩
   ·rw[e1];show 0+(0+(m-s))*1<=([]++sub (bv x) (0+0*1) ((m-s)*1):List Value).length;rw[Zl,m5,j6,lX];omega
   rw[e1];refine⟨_,rfl,[.d 111 0],?_,⟨_,rfl,i6 ?_⟩,tq⟩
   ·show V.t [V.o 1 (.k 0) 0 (0+(m-s)+s),_]=_;rw[show 0+(m-s)+s=m by omega];rfl
   ·show sub ([]++sub (bv x) (0+0*1) ((m-s)*1)) 0 ((0+(m-s))*1)++sub (bv y) 0 (s*1)=_;simp only[Zl,Zi,Ze,Nat.zero_mul];rw[ht,g8 lt,g8 lY,B7]
  ·rw[if_pos rfl];refine⟨by rw[j6,lY];omega,by omega,by decide,?_⟩;refine⟨by rw[e1];omega,by rw[e1];omega,by rw[e1];omega,by rw[e1];omega,?_⟩;refine⟨by rw[e1,j6,lX];show 0+0*1+(m-s)*1<=s;omega,by rw[e1];show 0+s+(m-s)<=_;omega,?_,?_⟩
   ·show 0+(0+s)*1<=([]++sub (bv y) 0 (s*1):List Value).length;simp only[Zl,Ze,Zi];rw[g8 lY,j6,lY];exact Zg _
   rw[e1];refine⟨_,rfl,[.d 104 0],?_,⟨_,rfl,i6 ?_⟩,tq⟩
   ·show V.t [V.o 1 (.k 0) 0 (0+s+(m-s)),_]=_;rw[show 0+s+(m-s)=m by omega];rfl
   ·show sub ([]++sub (bv y) 0 (s*1)) 0 ((0+s)*1)++sub (bv x) (0+0*1) ((m-s)*1)=_;simp only[Zl,Zi,Ze,Nat.zero_mul];rw[g8 lY,g8 lY,ht,B7]
 ·rw[if_pos rfl];cases swap
  ·have lx:(b.take (m-s)).length=m-s:=by simp only[Zh,Zf];omega
   have ly:(b.drop (m-s)).length=s:=by simp only[Zh,Zf];omega
   have hx:sub (bv b) 0 (m-s)=bv (b.take (m-s)):=o6 b 0 (m-s);have hy:sub (bv b) (m-s) s=bv (b.drop (m-s)):=by
    rw[o6,M9 _ _ _ (by omega)]
   have hres:ce (cF t key true) s false a9 b=cY (cF t key true) a9 (b.take (m-s)) (b.drop (m-s)):=by
    unfold ce;rw[if_neg (by decide),hb]
   have lz:=h.len (back:=true) ly;rw[hres,cY];rw[lx];refine⟨by rw[e1];omega,by rw[e1];omega,by rw[e1];omega,by rw[e1];omega,?_⟩;refine⟨by rw[e1];omega,by rw[e1];omega,by omega,by omega,?_⟩;refine⟨[],_,_,_,_,h.Un ly rfl,?_,rfl,?_⟩
   ·rw[e1,<-hy];show[V.q rs 0,V.z (m-(m-s)) (sub (bv b) (m-s) (m-(m-s)))]=_;rw[show m-(m-s)=s by omega]
   generalize cF t key true (b.drop (m-s))=z at*
   have lt:(z.take (m-s)).length=m-s:=by rw[Zh];omega
   refine⟨by rw[e1];omega,by rw[e1];omega,by rw[e1];omega,by rw[e1];omega,?_⟩;refine⟨[],_,_,_,_,I0 (a:=z.take (m-s)) (b:=b.take (m-s)) rfl rfl lt lx (by omega),?_,rfl,?_⟩
   ·rw[e1,<-hx];show[V.z (m-s) (sub (bv z) 0 (m-s)),V.z (m-s) (sub (bv b) 0 (m-s))]=_;rw[o6];rfl
   have lq:(j9 (z.take (m-s)) (b.take (m-s))).length=m-s:=B5 lt lx;refine⟨?_,by rw[e1];omega,by decide,?_⟩
   ·rw[e1];show(sub (bv b) 0 (m-s)).length=m-s;rw[hx,j6,lx]
   refine⟨by rw[e1];omega,by rw[e1];omega,by omega,by omega,?_⟩;refine⟨?_,?_,?_,?_⟩
   ·rw[e1,j6,lz];show 0+(m-s)*1+(s-(m-s))*1<=s;omega
   ·rw[e1];show 0+(m-s)+(s-(m-s))<=_;omega
   ·rw[e1];show 0+(0+(m-s))*1<=([]++sub (bv b) 0 (m-s):List Value).length;rw[Zl,hx,j6,lx];omega
   have lw:(b.take (m-s)++z.drop (m-s)).length=s:=by rw[Zb,lx,Zf];omega
   refine⟨[],_,_,_,_,h.Un lw rfl,?_,rfl,?_⟩
   ·rw[e1];show[V.q rs 0,V.z (0+(m-s)+(s-(m-s))) (sub (sub ([]++sub (bv b) 0 (m-s)) 0 ((0+(m-s))*1)++sub (bv z) (0+(m-s)*1) ((s-(m-s))*1)) 0 (0+(m-s)+(s-(m-s))))]=_;rw[show 0+(m-s)+(s-(m-s))=s by omega,Zl,hx,Zi,Ze,Ze,Zi,g8 lx,o6,M9 z _ _ (by omega),B7,g8 lw]
   have lp:=h.len (back:=true) lw;generalize cF t key true (b.take (m-s)++z.drop (m-s))=p at*
   refine⟨[],_,_,_,_,I0 (a:=p) (b:=a9) (g8 lp) rfl lp hl (by omega),rfl,rfl,?_⟩;have lp2:(j9 p a9).length=s:=B5 lp hl;refine⟨?_,?_,?_,?_⟩
   ·rw[j6,lq];show 0+(m-s)*1<=m-s;omega
   ·show s+(m-s)<=_;omega
   ·rw[j6,lp2];omega
   rw[e1];refine⟨_,rfl,[.d 147 0],?_,⟨_,rfl,i6 ?_⟩,tq⟩
   ·show V.t [V.o 1 (.k 0) 0 (s+(m-s)),_]=_;rw[show s+(m-s)=m by omega];rfl
   ·show sub (bv (j9 p a9)) 0 (s*1)++sub (bv (j9 (z.take (m-s)) (b.take (m-s)))) 0 ((m-s)*1)=_;rw[Ze,Ze,g8 lp2,g8 lq,B7]
  ·have lx:(b.drop s).length=m-s:=by simp only[Zh,Zf];omega
   have ly:(b.take s).length=s:=by simp only[Zh,Zf];omega
   have hx:sub (bv b) s (m-s)=bv (b.drop s):=A3 hb (by omega);have hy:sub (bv b) 0 s=bv (b.take s):=by
    exact o6 b 0 s
   have hres:ce (cF t key true) s true a9 b=cY (cF t key true) a9 (b.drop s) (b.take s):=by
    unfold ce;rw[if_pos rfl]
   have lz:=h.len (back:=true) ly;rw[hres,cY];rw[lx];refine⟨by rw[e1];omega,by rw[e1];omega,by rw[e1];omega,by rw[e1];omega,?_⟩;refine⟨by rw[e1];omega,by rw[e1];omega,by omega,by omega,?_⟩;refine⟨by omega,by omega,by omega,by omega,?_⟩;refine⟨by omega,by omega,by omega,by omega,?_⟩;refine⟨[],_,_,_,_,h.Un ly rfl,?_,rfl,?_⟩
   ·rw[<-hy];rfl
   generalize cF t key true (b.take s)=z at*
   have lt:(z.take (m-s)).length=m-s:=by rw[Zh];omega
   refine⟨by rw[e1];omega,by rw[e1];omega,by rw[e1];omega,by rw[e1];omega,?_⟩;refine⟨[],_,_,_,_,I0 (a:=z.take (m-s)) (b:=b.drop s) rfl rfl lt lx (by omega),?_,rfl,?_⟩
   ·rw[e1,<-hx];show[V.z (m-s) (sub (bv z) 0 (m-s)),V.z (m-s) (sub (bv b) s (m-s))]=_;rw[o6];rfl
   have lq:(j9 (z.take (m-s)) (b.drop s)).length=m-s:=B5 lt lx;refine⟨?_,by omega,by decide,?_⟩
   ·
    show(sub (bv b) s (m-s)).length=m-s;rw[hx,j6,lx]
   refine⟨by rw[e1];omega,by rw[e1];omega,by omega,by omega,?_⟩;refine⟨?_,?_,?_,?_⟩
   ·rw[e1,j6,lz];show 0+(m-s)*1+(s-(m-s))*1<=s;omega
   ·rw[e1];show 0+(m-s)+(s-(m-s))<=_;omega
   ·
    show 0+(0+(m-s))*1<=([]++sub (bv b) s (m-s):List Value).length;rw[Zl,hx,j6,lx];omega
   have lw:(b.drop s++z.drop (m-s)).length=s:=by rw[Zb,lx,Zf];omega
   refine⟨[],_,_,_,_,h.Un lw rfl,?_,rfl,?_⟩
   ·rw[e1];show[V.q rs 0,V.z (0+(m-s)+(s-(m-s))) (sub (sub ([]++sub (bv b) s (m-s)) 0 ((0+(m-s))*1)++sub (bv z) (0+(m-s)*1) ((s-(m-s))*1)) 0 (0+(m-s)+(s-(m-s))))]=_;rw[show 0+(m-s)+(s-(m-s))=s by omega,Zl,hx,Zi,Ze,Ze,Zi,g8 lx,o6,M9 z _ _ (by omega),B7,g8 lw]
   have lp:=h.len (back:=true) lw;generalize cF t key true (b.drop s++z.drop (m-s))=p at*
   refine⟨[],_,_,_,_,I0 (a:=p) (b:=a9) (g8 lp) rfl lp hl (by omega),rfl,rfl,?_⟩;have lp2:(j9 p a9).length=s:=B5 lp hl;refine⟨?_,?_,?_,?_⟩
   ·rw[j6,lq];show 0+(m-s)*1<=m-s;omega
   ·show s+(m-s)<=_;omega
   ·rw[j6,lp2];omega
   rw[e1];refine⟨_,rfl,[.d 147 0],?_,⟨_,rfl,i6 ?_⟩,tq⟩
   ·show V.t [V.o 1 (.k 0) 0 (s+(m-s)),_]=_;rw[show s+(m-s)=m by omega];rfl
   ·show sub (bv (j9 p a9)) 0 (s*1)++sub (bv (j9 (z.take (m-s)) (b.drop s))) 0 ((m-s)*1)=_;rw[Ze,Ze,g8 lp2,g8 lq,B7]
theorem k5.stT_len {t key s k xs rs} (h:k5 t key s k xs rs) {m:Nat} {mode:Int} {back:Bool} {a9 b:Bs} (hl:a9.length=s) (hb:b.length=m) (h1:s<=m) (h2:m<=2*s):(P2 (cF t key false) (cF t key true) s mode back a9 b).length=m:=by
 subst hb;exact Go.Scr.stT_len h.ci hl h1 h2
theorem GL (a:UInt8):U8.wrap ((a.toNat:Int)+1)=((a+1).toNat:Int):=a3s a 1
theorem na (a:UInt8):((a.toNat:Int)=0)↔a=0:=by
 constructor
 ·intro h;refine Z8.1 ?_;have:(0:UInt8).toNat=0:=rfl;omega
 ·intro h;subst h;rfl
theorem Cs {c:Bs} {i:Nat}:fV c (i+1)=if c.getD i 0+1=0 then fV (c.set i (c.getD i 0+1)) i else c.set i (c.getD i 0+1):=by
 rw[fV]
theorem LP {n:Nat} {va:List Value} {b:Bs} (ha:va=bv b) (hn:b.length=n) (hm:n<=1000):b9 C 230 [.z n va] [] (.ret (.o 1 (.k 0) 0 n)) [.sc (bv (X9 b))]:=by
 subst ha;refine VH.c ?_;refine⟨0,Nat×Bs,fun x=>⟨[(3,.o 1 (.k 0) 0 n),(4,i64 x.1)],[.sc (bv x.2)]⟩,fun x=>x.1<=n/\x.2.length=n/\fV x.2 x.1=X9 b,fun x=>x.1,?_,fun x hx=> ?_⟩
 ·refine⟨by omega,by omega,by omega,?_⟩;refine⟨by rw[j6];omega,by omega,by decide,?_⟩;refine⟨[],(n,b),⟨Zg _,hn,by rw[<-hn];rfl⟩,[.d 9 0],⟨?_,?_,tq⟩,⟨_,rfl,i6 ?_⟩,tq⟩
  ·exact congrArg (V.o 1 (.k 0) 0) (by omega)
  ·exact f8 (by omega)
  ·rfl
 ·obtain⟨i,c⟩:=x;obtain⟨h1,h2,h3⟩:=hx;dsimp only at h1 h2 h3;refine d9 (fun h=> ?_) (fun h=> ?_)
  ·obtain⟨i,rfl⟩:∃j,i=j+1:=⟨i-1,by omega⟩;have e1:I6.wrap (((i+1:Nat):Int)-1)=(i:Int):=by rw[Za _ (by omega)];omega
   rw[Cs]at h3;refine⟨by rw[e1];omega,by rw[e1];omega,.int .u8 ((c.getD i 0).toNat:Int),by rw[e1,Zd,Ze,Zi];exact p9 (show i<c.length by omega),?_⟩;refine⟨by rw[e1];omega,by rw[e1];omega,by rw[e1,Zd,j6];show 0+i*1<c.length;omega,?_⟩;have e2:(bv c).set (0+(I6.wrap (((i+1:Nat):Int)-1)).toNat*1) (.int .u8 (U8.wrap (((c.getD i 0).toNat:Int)+1)))=bv (c.set i (c.getD i 0+1)):=by
    rw[e1,Zd,Ze,Zi,GL,L4]
   have l2:(c.set i (c.getD i 0+1)).length=n:=by rw[Zs,h2]
   have g2:(c.set i (c.getD i 0+1)).getD i 0=c.getD i 0+1:=by
    rw[Zc,Jh,if_pos rfl,if_pos (by omega)];rfl
   refine⟨by rw[e1];omega,by rw[e1];omega,.int .u8 ((c.getD i 0+1).toNat:Int),?_,?_⟩
   ·show((bv c).set (0+(I6.wrap (((i+1:Nat):Int)-1)).toNat*1) (.int .u8 (U8.wrap (((c.getD i 0).toNat:Int)+1))))[0+(I6.wrap (((i+1:Nat):Int)-1)).toNat*1]? =_;rw[e2,e1,Zd,Ze,Zi,p9 (by omega),g2]
   refine i7 (fun hz=> ?_) (fun hz=> ?_)
   ·rw[if_pos ((na _).1 hz)]at h3;exact⟨rfl,(i,c.set i (c.getD i 0+1)),⟨by show i<=n;omega,l2,h3⟩,(by show i<i+1;omega),[.k 0],⟨rfl,f8 e1,tq⟩,⟨_,rfl,i6 e2⟩,tq⟩
   ·rw[if_neg (fun e=>hz ((na _).2 e))]at h3;refine⟨_,rfl,[.k 0],rfl,⟨_,rfl,i6 ?_⟩,tq⟩;rw[<-h3];exact e2
  ·obtain rfl:i=0:=(by omega);refine⟨_,rfl,[.k 0],rfl,⟨_,rfl,i6 ?_⟩,tq⟩;rw[<-h3];rfl
theorem pU {n:Nat} {va:List Value} {b:Bs} (ha:va=bv b) (hn:b.length=n) (hm:n<=1000):b9 C 124 [.z n va] [] (.ret (.o 1 (.k 0) 0 n)) [.sc (bv (X9 b))]:=by
 subst ha;refine Tn.c ?_;refine⟨by rw[j6];omega,by omega,by decide,?_⟩;refine⟨Nat×Bs,fun x=>⟨[(3,.o 1 (.k 0) 0 n),(4,i64 x.1)],[.sc (bv x.2)]⟩,fun x=>x.1<=n/\x.2.length=n/\fV x.2 x.1=X9 b,fun x=>x.1,?_,fun x hx=> ?_⟩
 ·refine⟨[],(n,b),⟨Zg _,hn,by rw[<-hn];rfl⟩,[.d 7 0],⟨?_,?_,tq⟩,⟨_,rfl,i6 ?_⟩,tq⟩
  ·exact congrArg (V.o 1 (.k 0) 0) (by omega)
  ·exact f8 (by omega)
  ·rfl
 ·obtain⟨i,c⟩:=x;obtain⟨h1,h2,h3⟩:=hx;dsimp only at h1 h2 h3;refine d9 (fun h=> ?_) (fun h=> ?_)
  ·obtain⟨i,rfl⟩:∃j,i=j+1:=⟨i-1,by omega⟩;have e1:I6.wrap (((i+1:Nat):Int)-1)=(i:Int):=by rw[Za _ (by omega)];omega
   rw[Cs]at h3;refine⟨by rw[e1];omega,by rw[e1];omega,.int .u8 ((c.getD i 0).toNat:Int),by rw[e1,Zd,Ze,Zi];exact p9 (show i<c.length by omega),?_⟩;refine⟨by rw[e1];omega,by rw[e1];omega,by rw[e1,Zd,j6];show 0+i*1<c.length;omega,?_⟩;have e2:(bv c).set (0+(I6.wrap (((i+1:Nat):Int)-1)).toNat*1) (.int .u8 (U8.wrap (((c.getD i 0).toNat:Int)+1)))=bv (c.set i (c.getD i 0+1)):=by
    rw[e1,Zd,Ze,Zi,GL,L4]
   have l2:(c.set i (c.getD i 0+1)).length=n:=by rw[Zs,h2]
   have g2:(c.set i (c.getD i 0+1)).getD i 0=c.getD i 0+1:=by
    rw[Zc,Jh,if_pos rfl,if_pos (by omega)];rfl
   refine⟨by rw[e1];omega,by rw[e1];omega,.int .u8 ((c.getD i 0+1).toNat:Int),?_,?_⟩
   ·show((bv c).set (0+(I6.wrap (((i+1:Nat):Int)-1)).toNat*1) (.int .u8 (U8.wrap (((c.getD i 0).toNat:Int)+1))))[0+(I6.wrap (((i+1:Nat):Int)-1)).toNat*1]? =_;rw[e2,e1,Zd,Ze,Zi,p9 (by omega),g2]
   refine p6 (fun hz=> ?_) (fun hz=> ?_)
   ·rw[if_neg (fun e=>hz ((na _).2 e))]at h3;refine⟨_,rfl,[.k 0],rfl,⟨_,rfl,i6 ?_⟩,tq⟩;rw[<-h3];exact e2
   ·rw[if_pos ((na _).1 hz)]at h3;exact⟨(i,c.set i (c.getD i 0+1)),⟨by show i<=n;omega,l2,h3⟩,(by show i<i+1;omega),[.k 0],⟨rfl,f8 e1,tq⟩,⟨_,rfl,i6 e2⟩,tq⟩
  ·obtain rfl:i=0:=(by omega);refine⟨_,rfl,[.k 0],rfl,⟨_,rfl,i6 ?_⟩,tq⟩;rw[<-h3];rfl
theorem IX {t key s k xs rs} (h:k5 t key s k xs rs) {mode:Int} {back:Bool} {ch:Bs} {vc':List Value} {rv gv:V} (hv:vc'=bv ch) (hc:ch.length=s):
  b9 C 180 [.p (.k 0) 0] [.mx [f9 t k xs,i64 mode,bool back,.z s vc',rv,gv]] (.ret (.t [])) [.mx [f9 t k xs,i64 mode,bool back,.z s (bv (cO (cF t key false) mode ⟨ch,[],[]⟩).ch),.z s (bv (cF t key false ch)),g9]]:=by
 subst hv;have hs:=h.s_le;have lE:=h.len (back:=false) hc;refine Sn.c ?_;refine⟨_,rfl,?_⟩;refine⟨_,rfl,?_⟩;refine⟨[],_,_,_,_,h.enc hc rfl,rfl,rfl,?_⟩;refine⟨Zj rfl,?_⟩;refine⟨Zj rfl,?_⟩;refine⟨_,rfl,?_⟩;refine i7 (fun h5=> ?_) (fun h5=> ?_)
 ·subst h5;refine⟨_,rfl,?_⟩;refine⟨[],_,_,_,_,eA (l:=cF t key false ch) rfl lE (by omega) (by omega),?_,rfl,?_⟩
  ·show[V.z s (sub (bv (cF t key false ch)) 0 s)]=_;rw[g8 lE]
  refine⟨Zj rfl,?_⟩;refine⟨_,rfl,[.k 0],rfl,⟨_,rfl,?_⟩,tq⟩;show B.mx [f9 t k xs,i64 5,bool back,.z s (sub (bv (cF t key false ch)) 0 s),.z s (sub (bv (cF t key false ch)) 0 s),g9]=_;rw[g8 lE];rfl
 refine i7 (fun h6=> ?_) (fun h6=> ?_)
 ·subst h6;have lI:(X9 ch).length=s:=by rw[ov,hc]
  refine⟨_,rfl,?_⟩;refine⟨[],_,_,_,_,LP rfl hc (by omega),rfl,rfl,?_⟩;refine⟨Zj rfl,?_⟩;refine⟨_,rfl,[.k 0],rfl,⟨_,rfl,?_⟩,tq⟩;show B.mx [f9 t k xs,i64 6,bool back,.z s (sub (bv (X9 ch)) 0 s),.z s (sub (bv (cF t key false ch)) 0 s),g9]=_;rw[g8 lE,g8 lI];rfl
 ·refine⟨_,rfl,[.k 0],rfl,⟨_,rfl,?_⟩,tq⟩;show B.mx [f9 t k xs,i64 mode,bool back,.z s (bv ch),.z s (sub (bv (cF t key false ch)) 0 s),g9]=_;rw[g8 lE];unfold cO;rw[if_neg h5,if_neg h6]
abbrev y7 (p:UInt8):V:= .s (.int .u8 p.toNat)
def dH:Bs->Bs->Nat->V
 |[],_,_=> .u
 |_::_,g,i=> .o 1 (.k i) 0 g.length
def j5:Bs->Bs->B
 |[],_=> .dead
 |_::_,g=> .sc (bv g)
def j7 (cv:V) (mode:Int) (back:Bool) (m:MS) (i:Nat):B:= .mx [cv,i64 mode,bool back,.z m.ch.length (bv m.ch),.z m.row.length (bv m.row),dH m.row m.gone i]
theorem eX {row g:Bs} {i:Nat} (h:0<row.length):dH row g i= .o 1 (.k i) 0 g.length:=by
 cases row with
 |nil=>simp at h
 |cons a b=>rfl
theorem cG {row g:Bs} (h:0<row.length):j5 row g= .sc (bv g):=by
 cases row with
 |nil=>simp at h
 |cons a b=>rfl
theorem br {l:Bs} {m:Nat} {x:Int} {y:UInt8} (hl:l.length=m) (hx:x=(y.toNat:Int)):sub (bv l) 0 (m*1)++sub [Value.int .u8 x] 0 (1*1)=bv (l++[y]):=by
 subst hx;rw[Ze,g8 hl];show bv l++bv [y]=_;rw[B7]
theorem U0 {l:Bs} {m:Nat} {x:Int} {y:UInt8} (hl:l.length=m) (hx:x=(y.toNat:Int)):sub (sub (bv l) 0 (m*1)++sub [Value.int .u8 x] 0 (1*1)) 0 (m+1)=bv (l++[y]):=by
 rw[br hl hx];exact g8 (by rw[Zb,hl];rfl)
theorem X0 {x:Int} {y:UInt8} (hx:x=(y.toNat:Int)):sub ([]:List Value) 0 (0*1)++sub [Value.int .u8 x] 0 (1*1)=bv ([]++[y]):=by
 subst hx;rfl
theorem iC {x:Int} {y:UInt8} (hx:x=(y.toNat:Int)):sub (sub ([]:List Value) 0 (0*1)++sub [Value.int .u8 x] 0 (1*1)) 0 (0+1)=bv ([]++[y]):=by
 subst hx;rfl
theorem oF {back:Bool} {ch row g:Bs} {p:UInt8}:L5 3 back ⟨ch,row,g⟩ p=(p^^^row.getD 0 0,⟨ch.drop 1++[n8 back p (p^^^row.getD 0 0)],[],g++[n8 back p (p^^^row.getD 0 0)]⟩):=by
 unfold L5;dsimp only;rw[if_pos rfl]
theorem oG {back:Bool} {ch row g:Bs} {p:UInt8} (h:row.length=1):L5 4 back ⟨ch,row,g⟩ p=(p^^^row.getD 0 0,⟨g++[n8 back p (p^^^row.getD 0 0)],[],g++[n8 back p (p^^^row.getD 0 0)]⟩):=by
 unfold L5;dsimp only;rw[if_neg (by decide),if_pos rfl,if_pos h]
theorem dO {mode:Int} {back:Bool} {ch row g:Bs} {p:UInt8} (h3:mode≠3) (h4:¬(mode=4/\row.length=1)):L5 mode back ⟨ch,row,g⟩ p=(p^^^row.getD 0 0,⟨ch,row.drop 1,g++[n8 back p (p^^^row.getD 0 0)]⟩):=by
 unfold L5;dsimp only;rw[if_neg h3];by_cases h:mode=4
 ·rw[if_pos h,if_neg (fun e=>h4 ⟨h,e⟩)]
 ·rw[if_neg h]
theorem JI {ct:Int} {cq:Nat} {cx:List V} {mode:Int} {back:Bool} {ch g row:Bs} {p:UInt8} (hc0:2<=ch.length) (hc:ch.length<=1000) (h0:0<row.length) (hr:row.length<=1000) (hg:g.length<=1000):
  b9 C 121 [.p (.k 0) 0,y7 p] [j7 (f9 ct cq cx) mode back ⟨ch,row,g⟩ 1,j5 row g] (.ret (y7 (L5 mode back ⟨ch,row,g⟩ p).1)) [j7 (f9 ct cq cx) mode back (L5 mode back ⟨ch,row,g⟩ p).2 2,.dead,j5 (L5 mode back ⟨ch,row,g⟩ p).2.row (L5 mode back ⟨ch,row,g⟩ p).2.gone]:=by
 obtain⟨c,hcl⟩:∃c,ch.length=c:=⟨_,rfl⟩;obtain⟨r,hrl⟩:∃r,row.length=r:=⟨_,rfl⟩;obtain⟨j,hgl⟩:∃j,g.length=j:=⟨_,rfl⟩;have hX:j7 (f9 ct cq cx) mode back ⟨ch,row,g⟩ 1= .mx [f9 ct cq cx,i64 mode,bool back,.z c (bv ch),.z r (bv row),.o 1 (.k 1) 0 j]:=by
  unfold j7;rw[eX h0,<-hcl,<-hrl,<-hgl]
 rw[hX,cG h0];refine Bz.w ?_;refine⟨_,rfl,?_⟩;refine i7 (fun h=>absurd h (by omega)) (fun _=> ?_);refine⟨_,rfl,?_⟩;refine⟨by omega,by omega,_,p9 (k:=row) (i:=0) (by omega),?_⟩;refine⟨_,rfl,?_⟩;refine⟨by omega,by omega,by omega,by omega,?_⟩;refine⟨Zj rfl,?_⟩;refine⟨_,rfl,?_⟩;cases back
 ·refine⟨_,rfl,?_⟩;refine⟨Zg _,by omega,by rw[j6,hgl];omega,?_⟩;refine⟨Zj rfl,?_⟩;refine⟨_,rfl,?_⟩;refine i7 (fun h3=> ?_) (fun h3=> ?_)
  ·subst h3;rw[oF];have ld:(ch.drop 1).length=c-1:=by rw[Zf,hcl]
   have lc:(ch.drop 1++[n8 false p (p^^^row.getD 0 0)]).length=c:=by rw[Zb,ld];show c-1+1=c;omega
   refine⟨_,rfl,?_⟩;refine⟨by omega,by omega,by omega,by omega,?_⟩;refine⟨[],_,_,_,_,eA (n:=c-1) (va:=sub (bv ch) 1 (c-1)) (l:=ch.drop 1) (A3 hcl (by omega)) ld (by omega) (by omega),rfl,rfl,?_⟩;refine⟨Zg _,by omega,by rw[j6,ld];omega,?_⟩;refine⟨Zj rfl,?_⟩;refine⟨Zj rfl,?_⟩;refine⟨.ret (y7 (p^^^row.getD 0 0)),[.mx [f9 ct cq cx,i64 3,bool false,.z c (bv (ch.drop 1++[n8 false p (p^^^row.getD 0 0)])),g9,.z (j+1) (bv (g++[n8 false p (p^^^row.getD 0 0)]))],.dead],⟨_,rfl,[.k 0,.k 1],?_,⟨_,rfl,?_⟩,?_⟩,?_⟩
   ·show V.s (.int .u8 (U8.wrap _))=_;rw[o5]
   ·show B.mx [f9 ct cq cx,i64 3,bool false,.z (c-1+1) (sub (sub (bv (ch.drop 1)) 0 ((c-1)*1)++sub [Value.int .u8 _] 0 (1*1)) 0 (c-1+1)),g9,.z (j+1) (sub (sub (bv g) 0 (j*1)++sub [Value.int .u8 _] 0 (1*1)) 0 (j+1))]=_;rw[U0 ld (o5 _ _),U0 hgl (o5 _ _),show c-1+1=c by omega];rfl
   ·exact⟨⟨_,rfl,rfl⟩,tq⟩
   ·refine⟨.ret (.refl _),.cons (.mx (.cons (.refl _) (.cons (.refl _) (.cons (.refl _) (.cons ?_ (.cons .nl (.cons .u .nil))))))) (.cons (.refl _) (.dd .nil))⟩;show Wk _ (.z (ch.drop 1++[n8 false p (p^^^row.getD 0 0)]).length _);rw[lc];exact .refl _
  refine i7 (fun h4=> ?_) (fun h4=> ?_)
  ·subst h4;refine⟨_,rfl,?_⟩;refine i7 (fun hr1=> ?_) (fun hr1=> ?_)
   ·have hr1:r=1:=by have:=(rfl:Int.toNat 1=1);omega
    have lG:(g++[n8 false p (p^^^row.getD 0 0)]).length=j+1:=by rw[Zb,hgl];rfl
    rw[oG (by omega)];refine⟨_,rfl,?_⟩;refine⟨Zj rfl,?_⟩;refine⟨.ret (y7 (p^^^row.getD 0 0)),[.mx [f9 ct cq cx,i64 4,bool false,.z (j+1) (bv (g++[n8 false p (p^^^row.getD 0 0)])),.z (r-1) (bv (row.drop 1)),.z (j+1) (bv (g++[n8 false p (p^^^row.getD 0 0)]))],.dead],⟨_,rfl,[.k 0,.k 1],?_,⟨_,rfl,?_⟩,?_⟩,?_⟩
    ·show V.s (.int .u8 (U8.wrap _))=_;rw[o5]
    ·show B.mx [f9 ct cq cx,i64 4,bool false,.z (j+1) (sub (sub (bv g) 0 (j*1)++sub [Value.int .u8 _] 0 (1*1)) 0 (j+1)),.z (r-1) (sub (bv row) 1 (r-1)),.z (j+1) (sub (sub (bv g) 0 (j*1)++sub [Value.int .u8 _] 0 (1*1)) 0 (j+1))]=_;rw[U0 hgl (o5 _ _),A3 hrl (by omega)];rfl
    ·exact⟨⟨_,rfl,rfl⟩,tq⟩
    ·refine⟨.ret (.refl _),.cons (.mx (.cons (.refl _) (.cons (.refl _) (.cons (.refl _) (.cons ?_ (.cons ?_ (.cons .u .nil))))))) (.cons (.refl _) (.dd .nil))⟩
     ·show Wk _ (.z (g++[n8 false p (p^^^row.getD 0 0)]).length _);rw[lG];exact .refl _
     ·rw[show r-1=0 by omega];exact .z0
   ·have hr2:r≠1:=by have:=(rfl:Int.toNat 1=1);omega
    have lr:(row.drop 1).length=r-1:=by rw[Zf,hrl]
    rw[dO (by decide) (fun e=>hr2 (by omega))];by_cases hr1:r=1
    ·have e0:row.drop 1=[]:=Zy.1 (by omega);rw[e0];refine⟨.ret (y7 (p^^^row.getD 0 0)),[.mx [f9 ct cq cx,i64 4,bool false,.z c (bv ch),.z (r-1) (bv (row.drop 1)),.z (j+1) (bv (g++[n8 false p (p^^^row.getD 0 0)]))],.dead],⟨_,rfl,[.k 0,.k 1],?_,⟨_,rfl,?_⟩,?_⟩,?_⟩
     ·show V.s (.int .u8 (U8.wrap _))=_;rw[o5]
     ·show B.mx [f9 ct cq cx,i64 4,bool false,.z c (bv ch),.z (r-1) (sub (bv row) 1 (r-1)),.z (j+1) (sub (sub (bv g) 0 (j*1)++sub [Value.int .u8 _] 0 (1*1)) 0 (j+1))]=_;rw[U0 hgl (o5 _ _),A3 hrl (by omega)];rfl
     ·exact⟨⟨_,rfl,rfl⟩,tq⟩
     ·refine⟨.ret (.refl _),.cons (.mx (.cons (.refl _) (.cons (.refl _) (.cons (.refl _) (.cons ?_ (.cons ?_ (.cons .u .nil))))))) (.cons (.refl _) (.dd .nil))⟩
      ·show Wk _ (.z ch.length _);rw[hcl];exact .refl _
      ·rw[show r-1=0 by omega];exact .z0
    ·rw[cG (row:=row.drop 1) (by omega)];refine⟨.ret (y7 (p^^^row.getD 0 0)),[.mx [f9 ct cq cx,i64 4,bool false,.z c (bv ch),.z (r-1) (bv (row.drop 1)),.o 1 (.k 2) 0 (j+1)],.dead,.sc (bv (g++[n8 false p (p^^^row.getD 0 0)]))],⟨_,rfl,[.k 0,.k 1,.d 44 0],?_,⟨_,rfl,?_⟩,⟨_,rfl,rfl⟩,⟨_,rfl,i6 ?_⟩,tq⟩,?_⟩
     ·show V.s (.int .u8 (U8.wrap _))=_;rw[o5]
     ·show B.mx [f9 ct cq cx,i64 4,bool false,.z c (bv ch),.z (r-1) (sub (bv row) 1 (r-1)),.o 1 (.k 2) 0 (j+1)]=_;rw[A3 hrl (by omega)]
     ·exact br hgl (o5 _ _)
     ·refine⟨.ret (.refl _),.cons (.mx (.cons (.refl _) (.cons (.refl _) (.cons (.refl _) (.cons ?_ (.cons ?_ (.cons ?_ .nil))))))) (.cons (.refl _) (.cons (.refl _) .nil))⟩
      ·show Wk _ (.z ch.length _);rw[hcl];exact .refl _
      ·show Wk _ (.z (row.drop 1).length _);rw[lr];exact .refl _
      ·show Wk _ (dH (row.drop 1) (g++[n8 false p (p^^^row.getD 0 0)]) 2);rw[eX (row:=row.drop 1) (by omega),Zb,hgl];exact .refl _
  ·have lr:(row.drop 1).length=r-1:=by rw[Zf,hrl]
   rw[dO h3 (fun e=>h4 e.1)];by_cases hr1:r=1
   ·have e0:row.drop 1=[]:=Zy.1 (by omega);rw[e0];refine⟨.ret (y7 (p^^^row.getD 0 0)),[.mx [f9 ct cq cx,i64 mode,bool false,.z c (bv ch),.z (r-1) (bv (row.drop 1)),.z (j+1) (bv (g++[n8 false p (p^^^row.getD 0 0)]))],.dead],⟨_,rfl,[.k 0,.k 1],?_,⟨_,rfl,?_⟩,?_⟩,?_⟩
    ·show V.s (.int .u8 (U8.wrap _))=_;rw[o5]
    ·show B.mx [f9 ct cq cx,i64 mode,bool false,.z c (bv ch),.z (r-1) (sub (bv row) 1 (r-1)),.z (j+1) (sub (sub (bv g) 0 (j*1)++sub [Value.int .u8 _] 0 (1*1)) 0 (j+1))]=_;rw[U0 hgl (o5 _ _),A3 hrl (by omega)];rfl
    ·exact⟨⟨_,rfl,rfl⟩,tq⟩
    ·refine⟨.ret (.refl _),.cons (.mx (.cons (.refl _) (.cons (.refl _) (.cons (.refl _) (.cons ?_ (.cons ?_ (.cons .u .nil))))))) (.cons (.refl _) (.dd .nil))⟩
     ·show Wk _ (.z ch.length _);rw[hcl];exact .refl _
     ·rw[show r-1=0 by omega];exact .z0
   ·rw[cG (row:=row.drop 1) (by omega)];refine⟨.ret (y7 (p^^^row.getD 0 0)),[.mx [f9 ct cq cx,i64 mode,bool false,.z c (bv ch),.z (r-1) (bv (row.drop 1)),.o 1 (.k 2) 0 (j+1)],.dead,.sc (bv (g++[n8 false p (p^^^row.getD 0 0)]))],⟨_,rfl,[.k 0,.k 1,.d 44 0],?_,⟨_,rfl,?_⟩,⟨_,rfl,rfl⟩,⟨_,rfl,i6 ?_⟩,tq⟩,?_⟩
    ·show V.s (.int .u8 (U8.wrap _))=_;rw[o5]
    ·show B.mx [f9 ct cq cx,i64 mode,bool false,.z c (bv ch),.z (r-1) (sub (bv row) 1 (r-1)),.o 1 (.k 2) 0 (j+1)]=_;rw[A3 hrl (by omega)]
    ·exact br hgl (o5 _ _)
    ·refine⟨.ret (.refl _),.cons (.mx (.cons (.refl _) (.cons (.refl _) (.cons (.refl _) (.cons ?_ (.cons ?_ (.cons ?_ .nil))))))) (.cons (.refl _) (.cons (.refl _) .nil))⟩
     ·show Wk _ (.z ch.length _);rw[hcl];exact .refl _
     ·show Wk _ (.z (row.drop 1).length _);rw[lr];exact .refl _
     ·show Wk _ (dH (row.drop 1) (g++[n8 false p (p^^^row.getD 0 0)]) 2);rw[eX (row:=row.drop 1) (by omega),Zb,hgl];exact .refl _
 ·refine⟨_,rfl,?_⟩;refine⟨Zg _,by omega,by rw[j6,hgl];omega,?_⟩;refine⟨Zj rfl,?_⟩;refine⟨_,rfl,?_⟩;refine i7 (fun h3=> ?_) (fun h3=> ?_)
  ·subst h3;rw[oF];have ld:(ch.drop 1).length=c-1:=by rw[Zf,hcl]
   have lc:(ch.drop 1++[n8 true p (p^^^row.getD 0 0)]).length=c:=by rw[Zb,ld];show c-1+1=c;omega
   refine⟨_,rfl,?_⟩;refine⟨by omega,by omega,by omega,by omega,?_⟩;refine⟨[],_,_,_,_,eA (n:=c-1) (va:=sub (bv ch) 1 (c-1)) (l:=ch.drop 1) (A3 hcl (by omega)) ld (by omega) (by omega),rfl,rfl,?_⟩;refine⟨Zg _,by omega,by rw[j6,ld];omega,?_⟩;refine⟨Zj rfl,?_⟩;refine⟨Zj rfl,?_⟩;refine⟨.ret (y7 (p^^^row.getD 0 0)),[.mx [f9 ct cq cx,i64 3,bool true,.z c (bv (ch.drop 1++[n8 true p (p^^^row.getD 0 0)])),g9,.z (j+1) (bv (g++[n8 true p (p^^^row.getD 0 0)]))],.dead],⟨_,rfl,[.k 0,.k 1],?_,⟨_,rfl,?_⟩,?_⟩,?_⟩
   ·show V.s (.int .u8 (U8.wrap _))=_;rw[o5]
   ·show B.mx [f9 ct cq cx,i64 3,bool true,.z (c-1+1) (sub (sub (bv (ch.drop 1)) 0 ((c-1)*1)++sub [Value.int .u8 _] 0 (1*1)) 0 (c-1+1)),g9,.z (j+1) (sub (sub (bv g) 0 (j*1)++sub [Value.int .u8 _] 0 (1*1)) 0 (j+1))]=_;rw[U0 ld rfl,U0 hgl rfl,show c-1+1=c by omega];rfl
   ·exact⟨⟨_,rfl,rfl⟩,tq⟩
   ·refine⟨.ret (.refl _),.cons (.mx (.cons (.refl _) (.cons (.refl _) (.cons (.refl _) (.cons ?_ (.cons .nl (.cons .u .nil))))))) (.cons (.refl _) (.dd .nil))⟩;show Wk _ (.z (ch.drop 1++[n8 true p (p^^^row.getD 0 0)]).length _);rw[lc];exact .refl _
  refine i7 (fun h4=> ?_) (fun h4=> ?_)
  ·subst h4;refine⟨_,rfl,?_⟩;refine i7 (fun hr1=> ?_) (fun hr1=> ?_)
   ·have hr1:r=1:=by have:=(rfl:Int.toNat 1=1);omega
    have lG:(g++[n8 true p (p^^^row.getD 0 0)]).length=j+1:=by rw[Zb,hgl];rfl
    rw[oG (by omega)];refine⟨_,rfl,?_⟩;refine⟨Zj rfl,?_⟩;refine⟨.ret (y7 (p^^^row.getD 0 0)),[.mx [f9 ct cq cx,i64 4,bool true,.z (j+1) (bv (g++[n8 true p (p^^^row.getD 0 0)])),.z (r-1) (bv (row.drop 1)),.z (j+1) (bv (g++[n8 true p (p^^^row.getD 0 0)]))],.dead],⟨_,rfl,[.k 0,.k 1],?_,⟨_,rfl,?_⟩,?_⟩,?_⟩
    ·show V.s (.int .u8 (U8.wrap _))=_;rw[o5]
    ·show B.mx [f9 ct cq cx,i64 4,bool true,.z (j+1) (sub (sub (bv g) 0 (j*1)++sub [Value.int .u8 _] 0 (1*1)) 0 (j+1)),.z (r-1) (sub (bv row) 1 (r-1)),.z (j+1) (sub (sub (bv g) 0 (j*1)++sub [Value.int .u8 _] 0 (1*1)) 0 (j+1))]=_;rw[U0 hgl rfl,A3 hrl (by omega)];rfl
    ·exact⟨⟨_,rfl,rfl⟩,tq⟩
    ·refine⟨.ret (.refl _),.cons (.mx (.cons (.refl _) (.cons (.refl _) (.cons (.refl _) (.cons ?_ (.cons ?_ (.cons .u .nil))))))) (.cons (.refl _) (.dd .nil))⟩
     ·show Wk _ (.z (g++[n8 true p (p^^^row.getD 0 0)]).length _);rw[lG];exact .refl _
     ·rw[show r-1=0 by omega];exact .z0
   ·have hr2:r≠1:=by have:=(rfl:Int.toNat 1=1);omega
    have lr:(row.drop 1).length=r-1:=by rw[Zf,hrl]
    rw[dO (by decide) (fun e=>hr2 (by omega))];by_cases hr1:r=1
    ·have e0:row.drop 1=[]:=Zy.1 (by omega);rw[e0];refine⟨.ret (y7 (p^^^row.getD 0 0)),[.mx [f9 ct cq cx,i64 4,bool true,.z c (bv ch),.z (r-1) (bv (row.drop 1)),.z (j+1) (bv (g++[n8 true p (p^^^row.getD 0 0)]))],.dead],⟨_,rfl,[.k 0,.k 1],?_,⟨_,rfl,?_⟩,?_⟩,?_⟩
     ·show V.s (.int .u8 (U8.wrap _))=_;rw[o5]
     ·show B.mx [f9 ct cq cx,i64 4,bool true,.z c (bv ch),.z (r-1) (sub (bv row) 1 (r-1)),.z (j+1) (sub (sub (bv g) 0 (j*1)++sub [Value.int .u8 _] 0 (1*1)) 0 (j+1))]=_;rw[U0 hgl rfl,A3 hrl (by omega)];rfl
     ·exact⟨⟨_,rfl,rfl⟩,tq⟩
     ·refine⟨.ret (.refl _),.cons (.mx (.cons (.refl _) (.cons (.refl _) (.cons (.refl _) (.cons ?_ (.cons ?_ (.cons .u .nil))))))) (.cons (.refl _) (.dd .nil))⟩
      ·show Wk _ (.z ch.length _);rw[hcl];exact .refl _
      ·rw[show r-1=0 by omega];exact .z0
    ·rw[cG (row:=row.drop 1) (by omega)];refine⟨.ret (y7 (p^^^row.getD 0 0)),[.mx [f9 ct cq cx,i64 4,bool true,.z c (bv ch),.z (r-1) (bv (row.drop 1)),.o 1 (.k 2) 0 (j+1)],.dead,.sc (bv (g++[n8 true p (p^^^row.getD 0 0)]))],⟨_,rfl,[.k 0,.k 1,.d 44 0],?_,⟨_,rfl,?_⟩,⟨_,rfl,rfl⟩,⟨_,rfl,i6 ?_⟩,tq⟩,?_⟩
     ·show V.s (.int .u8 (U8.wrap _))=_;rw[o5]
     ·show B.mx [f9 ct cq cx,i64 4,bool true,.z c (bv ch),.z (r-1) (sub (bv row) 1 (r-1)),.o 1 (.k 2) 0 (j+1)]=_;rw[A3 hrl (by omega)]
     ·exact br hgl rfl
     ·refine⟨.ret (.refl _),.cons (.mx (.cons (.refl _) (.cons (.refl _) (.cons (.refl _) (.cons ?_ (.cons ?_ (.cons ?_ .nil))))))) (.cons (.refl _) (.cons (.refl _) .nil))⟩
      ·show Wk _ (.z ch.length _);rw[hcl];exact .refl _
      ·show Wk _ (.z (row.drop 1).length _);rw[lr];exact .refl _
      ·show Wk _ (dH (row.drop 1) (g++[n8 true p (p^^^row.getD 0 0)]) 2);rw[eX (row:=row.drop 1) (by omega),Zb,hgl];exact .refl _
  ·have lr:(row.drop 1).length=r-1:=by rw[Zf,hrl]
   rw[dO h3 (fun e=>h4 e.1)];by_cases hr1:r=1
   ·have e0:row.drop 1=[]:=Zy.1 (by omega);rw[e0];refine⟨.ret (y7 (p^^^row.getD 0 0)),[.mx [f9 ct cq cx,i64 mode,bool true,.z c (bv ch),.z (r-1) (bv (row.drop 1)),.z (j+1) (bv (g++[n8 true p (p^^^row.getD 0 0)]))],.dead],⟨_,rfl,[.k 0,.k 1],?_,⟨_,rfl,?_⟩,?_⟩,?_⟩
    ·show V.s (.int .u8 (U8.wrap _))=_;rw[o5]
    ·show B.mx [f9 ct cq cx,i64 mode,bool true,.z c (bv ch),.z (r-1) (sub (bv row) 1 (r-1)),.z (j+1) (sub (sub (bv g) 0 (j*1)++sub [Value.int .u8 _] 0 (1*1)) 0 (j+1))]=_;rw[U0 hgl rfl,A3 hrl (by omega)];rfl
    ·exact⟨⟨_,rfl,rfl⟩,tq⟩
    ·refine⟨.ret (.refl _),.cons (.mx (.cons (.refl _) (.cons (.refl _) (.cons (.refl _) (.cons ?_ (.cons ?_ (.cons .u .nil))))))) (.cons (.refl _) (.dd .nil))⟩
     ·show Wk _ (.z ch.length _);rw[hcl];exact .refl _
     ·rw[show r-1=0 by omega];exact .z0
   ·rw[cG (row:=row.drop 1) (by omega)];refine⟨.ret (y7 (p^^^row.getD 0 0)),[.mx [f9 ct cq cx,i64 mode,bool true,.z c (bv ch),.z (r-1) (bv (row.drop 1)),.o 1 (.k 2) 0 (j+1)],.dead,.sc (bv (g++[n8 true p (p^^^row.getD 0 0)]))],⟨_,rfl,[.k 0,.k 1,.d 44 0],?_,⟨_,rfl,?_⟩,⟨_,rfl,rfl⟩,⟨_,rfl,i6 ?_⟩,tq⟩,?_⟩
    ·show V.s (.int .u8 (U8.wrap _))=_;rw[o5]
    ·show B.mx [f9 ct cq cx,i64 mode,bool true,.z c (bv ch),.z (r-1) (sub (bv row) 1 (r-1)),.o 1 (.k 2) 0 (j+1)]=_;rw[A3 hrl (by omega)]
    ·exact br hgl rfl
    ·refine⟨.ret (.refl _),.cons (.mx (.cons (.refl _) (.cons (.refl _) (.cons (.refl _) (.cons ?_ (.cons ?_ (.cons ?_ .nil))))))) (.cons (.refl _) (.cons (.refl _) .nil))⟩
     ·show Wk _ (.z ch.length _);rw[hcl];exact .refl _
     ·show Wk _ (.z (row.drop 1).length _);rw[lr];exact .refl _
     ·show Wk _ (dH (row.drop 1) (g++[n8 true p (p^^^row.getD 0 0)]) 2);rw[eX (row:=row.drop 1) (by omega),Zb,hgl];exact .refl _
end Go.Scr
