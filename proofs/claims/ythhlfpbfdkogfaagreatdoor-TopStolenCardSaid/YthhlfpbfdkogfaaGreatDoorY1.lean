/-
  What the functions of the given program reckon, each by a contract, up to the law. It is no claim by itself; each contract bears its own conditions.
-/
import Derived.Test.YthhlfpbfdkogfaaGreatDoorY
set_option linter.unusedVariables false
set_option linter.unusedSimpArgs false
set_option maxRecDepth 100000
namespace Go.Scr
open Go.Proofs
open IntWalk renaming i64_in → Za
open Int renaming toNat_natCast → Zb, tmod_eq_emod_of_nonneg → Zg, tdiv_eq_ediv_of_nonneg → Zi, fdiv_eq_ediv_of_nonneg → Zs
open Nat renaming le_refl → Zc, mul_one → Zd, zero_add → Ze, le_of_ble_eq_true → Zf, mod_lt → Zr, shiftRight_eq_div_pow → Zx, le_of_eq → Z3, add_comm → Z6
open BitVec renaming ofInt → Zh
open List renaming length_reverse → Zj, map_append → Zl, length_append → Zm, range_succ → Zn, replicate → Zo, length_map → Zq, length_replicate → Zt, map_congr_left → Zu, map → Zv, ext_getElem → Zw, getElem_range → Zy, getElem_map → Zz, reverse_append → Z0, getElem_set → Z2, take_of_length_le → Z4, mem_range → Z5
open UInt32 renaming ofNat → Zk, eq_of_toBitVec_eq → Z1
open UInt8 renaming ofNat → Zp
open Go.IntKind renaming i64 → I6, u8 → U8, u32 → U3
theorem Ii {k:List Nat} {x:Q4} (hl:k.length=52) (hk:T4 k) (hx:H8 x):a7 C 210 [qA x,.z 52 (nv k)] [] (.ret (qA (I1 (y7 k) x))) []:=by
 rw[<-sN k hk x];obtain⟨o1,o2,o3,o4⟩:=hx;have hi:=fun i=>qg (hk i);refine Rr.c ?_;refine⟨by decide,by decide,by decide,by decide,?_⟩;have e48:sub (nv k) 48 4=nv (k.drop 48):=by rw[aG,G5 _ _ _ (by omega)]
 refine⟨by decide,by decide,_,rfl,by decide,by decide,?_⟩;refine⟨_,by show(sub (nv k) 48 4)[0]? =_;rw[e48];exact L1 (by omega),?_⟩;refine⟨[],_,_,_,_,oX rfl (hk _),rfl,rfl,?_⟩;refine⟨[],_,_,_,_,bc rfl rfl o1 (hi _),rfl,rfl,?_⟩;refine⟨by decide,by decide,_,rfl,by decide,by decide,?_⟩;refine⟨_,by show(sub (nv k) 48 4)[2]? =_;rw[e48];exact L1 (by omega),?_⟩;refine⟨[],_,_,_,_,oY rfl rfl o3 (hk _),rfl,rfl,?_⟩;refine⟨by decide,by decide,_,rfl,by decide,by decide,?_⟩;refine⟨_,by show(sub (nv k) 48 4)[1]? =_;rw[e48];exact L1 (by omega),?_⟩;refine⟨[],_,_,_,_,oY rfl rfl o2 (hk _),rfl,rfl,?_⟩;refine⟨by decide,by decide,_,rfl,by decide,by decide,?_⟩;refine⟨_,by show(sub (nv k) 48 4)[3]? =_;rw[e48];exact L1 (by omega),?_⟩;refine⟨[],_,_,_,_,oX rfl (hk _),rfl,rfl,?_⟩;refine⟨[],_,_,_,_,bc rfl rfl o4 (hi _),rfl,rfl,?_⟩;refine⟨Zc _,?_⟩;refine j9 (fun r=>⟨[(1,.z 52 (nv k)),(2,.p (.k 0) 0),(4,.p (.k 1) 0),(6,i64 (7-r))],[.mx [i64 (V6 k x r).1,i64 (V6 k x r).2.1,i64 (V6 k x r).2.2.1,i64 (V6 k x r).2.2.2],.sc [.int .i64 0,.int .i64 0,.int .i64 0,.int .i64 0]]⟩) 8 ⟨[.d 2 0,.d 4 0],⟨rfl,rfl,rfl,rfl,tq⟩,⟨_,rfl,rfl⟩,⟨_,rfl,rfl⟩,tq⟩ fun r hr=> ?_;obtain⟨p1,p2,p3,p4⟩:=Ho k x r;refine c9 (fun h=> ?_) (fun h=> ?_)
 ·obtain⟨i,ei,hi7,hri⟩:∃i:Nat,(7:Int)-r=i/\i<=7/\i=7-r:=⟨7-r,by omega,by omega,by omega⟩;have hbs:V6 k x (r+1)=bQ k (6*i) (au k (6*i) (V6 k x r)):=by rw[oE,jJ,hri]
  rw[ei];generalize hs:V6 k x r=s at p1 p2 p3 p4 hbs ⊢;have e1:(I6.wrap (6*(i:Int))).toNat=6*i:=(by simp(disch:=omega)only[Za];omega);refine⟨(by simp(disch:=omega)only[Za];omega),by rw[e1];show 6*i<=52;omega,Zc _,Zc _,?_⟩;rw[e1];have ed:sub (nv k) (6*i) (52-6*i)=nv (k.drop (6*i)):=by rw[aG,G5 _ _ _ (by omega)]
  refine⟨by decide,by decide,_,rfl,by decide,by decide,_,rfl,by decide,by decide,_,rfl,by decide,by decide,_,rfl,?_⟩;refine⟨[],_,_,_,_,yx (k:=k) (o:=6*i) (n:=52-6*i) rfl rfl rfl rfl p1 p3 p2 p4 (by omega) (by omega) hk,?_,rfl,?_⟩
  ·show[_,_,_,_,V.z (52-6*i) (sub (nv k) (6*i) (52-6*i))]=_;rw[ed];rfl
  have hg:W7 k (6*i) s.1 s.2.2.1 s.2.1 s.2.2.2<65536:=H7 _ _;have hh:Y9 k (6*i) s.1 s.2.2.1 s.2.1 s.2.2.2<65536:=cH _ _;refine⟨by decide,by decide,_,rfl,by decide,by decide,_,rfl,by decide,by decide,_,rfl,by decide,by decide,_,rfl,?_⟩;refine⟨by decide,by show((0:Int))<((52-6*i:Nat):Int);omega,?_⟩;refine⟨_,by show(sub (nv k) (6*i) (52-6*i))[0]? =_;rw[ed];exact L1 (by omega),?_⟩;refine⟨[],_,_,_,_,oX rfl (hk _),rfl,rfl,?_⟩;refine⟨[],_,_,_,_,bc (M6 16 (by decide) p1 hg) rfl (X4 p1 hg) (hi _),rfl,rfl,?_⟩;refine⟨by decide,by show((1:Int))<((52-6*i:Nat):Int);omega,?_⟩;refine⟨_,by show(sub (nv k) (6*i) (52-6*i))[1]? =_;rw[ed];exact L1 (by omega),?_⟩;refine⟨[],_,_,_,_,oY (M6 16 (by decide) p3 hh) rfl (X4 p3 hh) (hk _),rfl,rfl,?_⟩;refine⟨by decide,by show((2:Int))<((52-6*i:Nat):Int);omega,?_⟩;refine⟨_,by show(sub (nv k) (6*i) (52-6*i))[2]? =_;rw[ed];exact L1 (by omega),?_⟩;refine⟨[],_,_,_,_,oY (M6 16 (by decide) p2 hg) rfl (X4 p2 hg) (hk _),rfl,rfl,?_⟩;refine⟨by decide,by show((3:Int))<((52-6*i:Nat):Int);omega,?_⟩;refine⟨_,by show(sub (nv k) (6*i) (52-6*i))[3]? =_;rw[ed];exact L1 (by omega),?_⟩;refine⟨[],_,_,_,_,oX rfl (hk _),rfl,rfl,?_⟩;refine⟨[],_,_,_,_,bc (M6 16 (by decide) p4 hh) rfl (X4 p4 hh) (hi _),rfl,rfl,?_⟩;refine⟨Zc _,?_⟩;refine⟨r+1,by omega,by omega,[.k 0,.k 1],⟨rfl,rfl,rfl,d7 ?_,tq⟩,⟨_,rfl,?_⟩,⟨_,rfl,rfl⟩,tq⟩
  ·rw[Za _ (by omega)];omega
  ·rw[hbs];rfl
 ·obtain rfl:r=8:=(by omega);refine⟨_,rfl,rfl,Zc _,_,rfl,rfl,?_⟩;exact⟨_,rfl,[],rfl,tq⟩
theorem a1o (b:Bs):G8 b 0=b:=by
 apply nV (B3 _ _);intro j hj;rw[B3]at hj;unfold G8;rw[fK hj,Nat.add_zero,Nat.mod_eq_of_lt hj]
def aE (key:Bs) (j:Nat):Bs:=G8 key (25*j%128)
theorem US (key j):(aE key j).length=key.length:=B3 _ _
theorem BO {key:Bs} (hk:key.length=16) (j:Nat):G8 (aE key j) 25=aE key (j+1):=by
 unfold aE;rw[a1n _ _ _ (by omega),hk];congr 1;omega
def qk (key:Bs) (j:Nat):List Nat:=if j=7 then O1 key else db key j
theorem BT {key:Bs} {j i:Nat} (hj:j<7) (hi:i=if j=6 then 4 else 8):db key j++S9 (aE key j) i=qk key (j+1):=by
 unfold qk aE;by_cases h:j=6
 ·subst h;rw[if_pos rfl]at hi ⊢;subst hi;unfold O1;rw[qm key 6,List.take_append,gJ,Z4 (by rw[gJ];decide)];congr 1
 ·rw[if_neg h]at hi;subst hi;rw[if_neg (by omega),qm]
theorem LH {va:List Value} {key:Bs} (ha:va=bv key) (hk:key.length=16):a7 C 110 [.z 16 va] [] (.ret (.t [.o 1 (.k 0) 0 52,i64 0])) [.sc (nv (O1 key))]:=by
 subst ha;refine Rn.c ?_;refine B1 (fun j=>⟨[(0,.z 16 (bv (aE key j))),(4,.o 1 (.k 0) 0 (if j=7 then 52 else 8*j))],[.sc (nv (qk key j))]⟩) 7 [(4,1,.sc [])] ⟨[.d 900000 0],⟨?_,rfl,tq⟩,⟨_,rfl,rfl⟩,tq⟩ fun j hj=> ?_
 ·show V.z 16 (bv key)=V.z 16 (bv (G8 key 0));rw[a1o]
 refine c9 (fun h=> ?_) (fun h=> ?_)
 ·have a9:j<7:=by
   rcases Nat.lt_or_ge j 7 with h7|h7
   ·exact h7
   ·rw[if_pos (show j=7 by omega)]at h;exact absurd h (by decide)
  have hkl:(aE key j).length=16:=by rw[US,hk]
  refine j9 (fun i=>⟨[(0,.z 16 (bv (aE key j))),(4,.o 1 (.k 0) 0 (8*j+i)),(5,i64 (2*i:Nat))],[.sc (nv (db key j++S9 (aE key j) i))]⟩) (if j=6 then 4 else 8) ⟨[.k 0],⟨rfl,?_,rfl,tq⟩,⟨_,rfl,d9 ?_⟩,tq⟩ fun i hi=> ?_
  ·show V.o 1 (.k 0) 0 _=V.o 1 (.k 0) 0 _;rw[if_neg (by omega),Nat.add_zero]
  ·unfold qk;rw[if_neg (by omega)];simp[S9]
  have hi8:i<=8:=by split at hi<;>omega
  refine c9 (fun h16=> ?_) (fun h16=> ?_)
  ·refine c9 (fun h52=> ?_) (fun h52=> ?_)
   ·have hlt2:i<if j=6 then 4 else 8:=by split<;>omega
    have e1:(I6.wrap (((2*i:Nat):Int)+1)).toNat=2*i+1:=(by simp(disch:=omega)only[Za];omega);refine⟨by omega,by omega,?_⟩;refine⟨_,by rw[Zb];exact A1 (i:=2*i) (by omega),?_⟩;refine⟨by decide,by omega,by omega,?_⟩;refine⟨_,by rw[e1];exact A1 (i:=2*i+1) (by omega),?_⟩;refine⟨Zc _,by omega,by rw[G4,Zm,fw,gJ];omega,?_⟩;refine⟨i+1,by omega,by omega,[.d 36 0],⟨rfl,rfl,d7 (by simp(disch:=omega)only[Za];omega),tq⟩,⟨_,rfl,d9 ?_⟩,tq⟩;rw[wj,Cd,<-List.append_assoc];exact gV (by rw[Zm,fw,gJ];omega)
   ·have hi4:i=if j=6 then 4 else 8:=by split at hi<;>split<;>omega
    refine⟨[],_,_,_,_,mP (b:=aE key j) (n:=25) rfl hkl (by decide) (by decide) (by decide),rfl,rfl,?_⟩;refine⟨j+1,by omega,by omega,[.k 0],⟨?_,?_,tq⟩,⟨_,rfl,d9 ?_⟩,tq⟩
    ·show V.z 16 (sub (bv (G8 (aE key j) 25)) 0 16)=_;rw[b8 (by rw[B3,hkl]),BO hk]
    ·show V.o 1 (.k 0) 0 _=V.o 1 (.k 0) 0 _;congr 1;split at hi4<;>split<;>omega
    ·rw[BT a9 hi4]
  ·have hi4:i=if j=6 then 4 else 8:=by split at hi<;>split<;>omega
   refine⟨[],_,_,_,_,mP (b:=aE key j) (n:=25) rfl hkl (by decide) (by decide) (by decide),rfl,rfl,?_⟩;refine⟨j+1,by omega,by omega,[.k 0],⟨?_,?_,tq⟩,⟨_,rfl,d9 ?_⟩,tq⟩
   ·show V.z 16 (sub (bv (G8 (aE key j) 25)) 0 16)=_;rw[b8 (by rw[B3,hkl]),BO hk]
   ·show V.o 1 (.k 0) 0 _=V.o 1 (.k 0) 0 _;congr 1;split at hi4<;>split<;>omega
   ·rw[BT a9 hi4]
 ·have h7:j=7:=by
   rcases Nat.lt_or_ge j 7 with h7|h7
   ·rw[if_neg (by omega)]at h;omega
   ·omega
  subst h7;exact⟨_,rfl,[.k 0],rfl,⟨_,rfl,rfl⟩,tq⟩
abbrev kX (k:List Nat):V:= .q [nz k] 0
theorem yX {va:List Value} {key:Bs} (ha:va=bv key) (hk:key.length=16):a7 C 55 [.z 16 va] [] (.ret (.t [kX (O1 key),i64 0])) []:=by
 refine Rp.c ?_;refine⟨[],_,_,_,_,LH ha hk,rfl,rfl,?_⟩;refine⟨_,rfl,[],?_,tq⟩;show V.t [.q [.z 52 (sub _ 0 52)] 0,i64 0]=V.t [.q [.z _ _] 0,i64 0];rw[B8 (Y8 key),Y8]
def uI (b:Bs) (i:Nat):List Value:=nv ((List.range 4).map fun j=>if j<i then aR b j else 0)
theorem Va (b:Bs) {i:Nat} (hi:i<4):(uI b i).set i (.int .i64 ((aR b i:Nat):Int))=uI b (i+1):=by
 rcases i with _|_|_|_|i;all_goals first|rfl|omega
theorem yW {va:List Value} {b:Bs} {k:List Nat} {back:Bool} (ha:va=bv b) (hb:b.length=8) (hl:k.length=52) (hk:T4 k):a7 C 154 [kX k,.z 8 va,bool back] [] (A8 8) [.sc (bv (W9 (I1 (if back then y7 k else k) (L3 b))))]:=by
 subst ha;refine AV.c ?_;have hq:H8 (L3 b):=⟨bL _ _,bL _ _,bL _ _,bL _ _⟩;have hz0:nz k= .z 52 (nv k):=by rw[<-hl]
 refine j9 (fun i=>⟨[(0,kX k),(1,.z 8 (bv b)),(2,bool back),(8,.p (.k 0) 0),(9,i64 i)],[.sc (uI b i)]⟩) 4 ⟨[.d 8 0],⟨rfl,rfl,rfl,rfl,rfl,tq⟩,⟨_,rfl,rfl⟩,tq⟩ fun i hi=> ?_;refine c9 (fun h=> ?_) (fun h=> ?_)
 ·have a9:i<4:=(by omega);have e1:(I6.wrap (2*(i:Int))).toNat=2*i:=(by simp(disch:=omega)only[Za];omega);have e2:(I6.wrap (I6.wrap (2*(i:Int))+1)).toNat=2*i+1:=(by simp(disch:=omega)only[Za];omega);refine⟨(by simp(disch:=omega)only[Za];omega),by omega,?_⟩;refine⟨_,by rw[e1];exact A1 (i:=2*i) (by omega),?_⟩;refine⟨by decide,by omega,by omega,?_⟩;refine⟨_,by rw[e2];exact A1 (i:=2*i+1) (by omega),?_⟩;refine⟨by omega,by omega,by show 0+((i:Int)).toNat*1<4;omega,?_⟩;refine⟨i+1,by omega,by omega,[.k 0],⟨rfl,rfl,rfl,rfl,d7 (by simp(disch:=omega)only[Za];omega),tq⟩,⟨_,rfl,d9 ?_⟩,tq⟩;rw[wj,Zb,Zd,Ze];exact Va b a9
 obtain rfl:i=4:=(by omega);have fin:∀(y:Q4),H8 y->∀i,i<4->([i64 y.1,i64 y.2.1,i64 y.2.2.1,i64 y.2.2.2]:List V)[i]? =some (i64 (([y.1,y.2.1,y.2.2.1,y.2.2.2].getD i 0:Nat))):=by
  intro y _ i hi;rcases i with _|_|_|_|i;all_goals first|rfl|omega
 cases back
 ·refine⟨_,rfl,rfl,_,rfl,?_⟩;refine⟨[],_,_,_,_,MG (x:=L3 b) hl hk hq,?_,rfl,?_⟩
  ·show[qA (L3 b),nz k]=_;rw[hz0]
  refine⟨Zc _,?_⟩;generalize hy:I1 k (L3 b)=y;have yo:H8 y:=by rw[<-hy];exact fv _ _ _
  refine B1 (fun i=>⟨[(8,.p (.k 0) 0),(10,.o 1 (.k 1) 0 (2*i)),(11,i64 i)],[.mx [i64 y.1,i64 y.2.1,i64 y.2.2.1,i64 y.2.2.2],.sc (bv (ag y i))]⟩) 4 [(10,1,.sc [])] ⟨[.k 0,.d 900000 0],⟨rfl,rfl,rfl,tq⟩,⟨_,rfl,rfl⟩,⟨_,rfl,rfl⟩,tq⟩ fun i hi=> ?_;refine c9 (fun h=> ?_) (fun h=> ?_)
  ·have a9:i<4:=(by omega);have hv:([y.1,y.2.1,y.2.2.1,y.2.2.2]).getD i 0<65536:=by
    obtain⟨a,b',c,d⟩:=yo;rcases i with _|_|_|_|i;all_goals first|assumption|omega
   refine⟨by omega,by omega,?_⟩;refine⟨_,by rw[Zb,Zd,Ze];exact fin y yo i a9,?_⟩;refine⟨by decide,by omega,by omega,?_⟩;refine⟨_,by rw[Zb,Zd,Ze];exact fin y yo i a9,?_⟩;refine⟨Zc _,by omega,by rw[f9,ib y i (by omega)];omega,?_⟩;refine⟨i+1,by omega,by omega,[.k 0,.d 64 0],⟨rfl,rfl,d7 (by simp(disch:=omega)only[Za];omega),tq⟩,⟨_,rfl,rfl⟩,⟨_,rfl,d9 ?_⟩,tq⟩;rw[Zd,b8 (ib y i (by omega)),qV y i a9,<-x5];show bv (ag y i)++[Value.int .u8 _,Value.int .u8 _]=_;rw[qW hv]
  ·obtain rfl:i=4:=(by omega);refine⟨_,rfl,[.k 1],rfl,⟨_,rfl,d9 ?_⟩,tq⟩;show bv (ag y 4)=bv (W9 (I1 k (L3 b)));rw[hy];rfl
 ·refine⟨_,rfl,rfl,_,rfl,?_⟩;refine⟨[],_,_,_,_,Ii (x:=L3 b) hl hk hq,?_,rfl,?_⟩
  ·show[qA (L3 b),nz k]=_;rw[hz0]
  refine⟨Zc _,?_⟩;generalize hy:I1 (y7 k) (L3 b)=y;have yo:H8 y:=by rw[<-hy];exact fv _ _ _
  refine B1 (fun i=>⟨[(8,.p (.k 0) 0),(10,.o 1 (.k 1) 0 (2*i)),(11,i64 i)],[.mx [i64 y.1,i64 y.2.1,i64 y.2.2.1,i64 y.2.2.2],.sc (bv (ag y i))]⟩) 4 [(10,1,.sc [])] ⟨[.k 0,.d 900000 0],⟨rfl,rfl,rfl,tq⟩,⟨_,rfl,rfl⟩,⟨_,rfl,rfl⟩,tq⟩ fun i hi=> ?_;refine c9 (fun h=> ?_) (fun h=> ?_)
  ·have a9:i<4:=(by omega);have hv:([y.1,y.2.1,y.2.2.1,y.2.2.2]).getD i 0<65536:=by
    obtain⟨a,b',c,d⟩:=yo;rcases i with _|_|_|_|i;all_goals first|assumption|omega
   refine⟨by omega,by omega,?_⟩;refine⟨_,by rw[Zb,Zd,Ze];exact fin y yo i a9,?_⟩;refine⟨by decide,by omega,by omega,?_⟩;refine⟨_,by rw[Zb,Zd,Ze];exact fin y yo i a9,?_⟩;refine⟨Zc _,by omega,by rw[f9,ib y i (by omega)];omega,?_⟩;refine⟨i+1,by omega,by omega,[.k 0,.d 64 0],⟨rfl,rfl,d7 (by simp(disch:=omega)only[Za];omega),tq⟩,⟨_,rfl,rfl⟩,⟨_,rfl,d9 ?_⟩,tq⟩;rw[Zd,b8 (ib y i (by omega)),qV y i a9,<-x5];show bv (ag y i)++[Value.int .u8 _,Value.int .u8 _]=_;rw[qW hv]
  ·obtain rfl:i=4:=(by omega);refine⟨_,rfl,[.k 1],rfl,⟨_,rfl,d9 ?_⟩,tq⟩;show bv (ag y 4)=bv (W9 (I1 (y7 k) (L3 b)));rw[hy];rfl
theorem yV {va:List Value} {k:List Nat} {n:Nat} {back:Bool} (hn:n≠8):a7 C 154 [kX k,.z n va,bool back] [] R9 []:=by
 refine AV.c ?_;refine o9 (fun h=> ?_) (fun h=>absurd (by omega) hn);exact⟨_,rfl,[],rfl,tq⟩
def Wl (w:Nat):List (Bs):=if w=0 then
  [[56,49,55,68,54,70,51,50,48,66,53,57,69,67,65,52],[69,67,66,56,49,50,51,53,70,52,65,54,55,48,57,68],[66,65,53,69,54,68,57,48,67,56,70,51,50,52,55,49],[68,55,70,52,49,50,54,69,57,66,51,48,56,53,67,65]]
 else [[50,56,66,68,70,55,54,69,51,49,57,52,48,65,67,53],[49,69,50,66,52,67,51,55,54,68,65,53,70,57,48,56],[52,67,55,53,49,54,57,65,48,69,68,56,50,66,51,70],[66,57,53,49,67,51,68,69,54,52,55,70,50,48,56,65]]
def D2 (w r:Nat):Bs:=(Wl w).getD r []
theorem kU:∀w,w<2->∀r,r<4->(D2 w r).length=16/\∀j,j<16->dV ((D2 w r).getD j 48)=true:=by decide
def qf (a c:Nat):Nat:=a^^^(c/2|||8*c%16)^^^8*a%16
theorem vx:∀a,a<16->∀c,c<16->qf a c<16/\a^^^c<16:=by decide
def qS (w i:Nat) (p:Nat×Nat):Nat×Nat:=(P4 ((D2 w (2*i)).getD (p.1^^^p.2) 48),P4 ((D2 w (2*i+1)).getD (qf p.1 p.2) 48))
def ai (w:Nat) (x:UInt8):Nat->Nat×Nat
 |0=>(x.toNat/16,x.toNat%16)
 |i+1=>qS w i (ai w x i)
def tQ (w:Nat) (x:UInt8):UInt8:=Zp (16*(ai w x 2).2+(ai w x 2).1)
theorem Wm {w i:Nat} (hw:w<2) (hi:i<2) {p:Nat×Nat} (h1:p.1<16) (h2:p.2<16):(qS w i p).1<16/\(qS w i p).2<16:=by
 obtain⟨f,e⟩:=vx p.1 h1 p.2 h2;exact⟨tX ((kU w hw (2*i) (by omega)).2 _ e),tX ((kU w hw (2*i+1) (by omega)).2 _ f)⟩
theorem vw {w:Nat} (hw:w<2) (x:UInt8):∀i,i<=2->(ai w x i).1<16/\(ai w x i).2<16
 |0,_=>by have:=x.toNat_lt;exact⟨by show x.toNat/16<16;omega,by show x.toNat%16<16;omega⟩
 |i+1,h=>by
  obtain⟨a,b⟩:=vw hw x i (by omega);exact Wm hw (by omega) a b
theorem zJ {x:Int} {c:UInt8} (hx:x=c.toNat) (h:dV c=true):a7 C 265 [vi .u8 x] [] (.ret (vi .u8 (P4 c))) []:=by
 subst hx;have h':=of_decide_eq_true h;refine Tl.c ?_;refine c9 (fun h1=> ?_) (fun h1=> ?_)
 ·refine⟨_,rfl,[],congrArg (vi .u8) ?_,tq⟩;simp only[wrap_u8,P4];split<;>omega
 ·refine⟨_,rfl,[],congrArg (vi .u8) ?_,tq⟩;simp only[wrap_u8,P4];split<;>omega
theorem ML {w:Nat} (hw:w<2):a7 C 264 [i64 w] [] (.ret (.a [I5 (D2 w 0),I5 (D2 w 1),I5 (D2 w 2),I5 (D2 w 3)])) []:=by
 rcases w with _|_|w
 ·refine Bn.c ?_;exact⟨Zc _,_,rfl,rfl,_,rfl,[],rfl,tq⟩
 ·refine Bn.c ?_;exact⟨Zc _,_,rfl,rfl,_,rfl,[],rfl,tq⟩
 ·omega
theorem Wn:∀a,a<16->∀c,c<16->U8.wrap ((Zh U8.bits ((a:Nat):Int)^^^Zh U8.bits ((c:Nat):Int)).toNat:Int)=((a^^^c:Nat):Int):=by decide +kernel
theorem Wo:∀a,a<16->∀c,c<16->U8.wrap ((Zh U8.bits (U8.wrap ((Zh U8.bits ((a:Nat):Int)^^^Zh U8.bits (U8.wrap ((Zh U8.bits (((c:Nat):Int).fdiv (2^(min (1:Int).toNat U8.bits)))|||Zh U8.bits (U8.wrap ((Zh U8.bits (U8.wrap (((c:Nat):Int)*2^(min (3:Int).toNat U8.bits)))&&&Zh U8.bits 15).toNat:Int))).toNat:Int))).toNat:Int))^^^Zh U8.bits (U8.wrap ((Zh U8.bits (U8.wrap (((a:Nat):Int)*2^(min (3:Int).toNat U8.bits)))&&&Zh U8.bits 15).toNat:Int))).toNat:Int)=((qf a c:Nat):Int):=by decide +kernel
theorem Wq:∀x:Nat,x<256->((x:Nat):Int).fdiv (2^(min (4:Int).toNat U8.bits))=((x/16:Nat):Int)/\U8.wrap ((Zh U8.bits ((x:Nat):Int)&&&Zh U8.bits 15).toNat:Int)=((x%16:Nat):Int):=by decide +kernel
theorem Wp:∀a,a<16->∀c,c<16->U8.wrap ((Zh U8.bits (U8.wrap (((c:Nat):Int)*2^(min (4:Int).toNat U8.bits)))|||Zh U8.bits ((a:Nat):Int)).toNat:Int)=(((Zp (16*c+a)).toNat:Nat):Int):=by decide +kernel
theorem DA {w i:Nat} (hi:i<4):([I5 (D2 w 0),I5 (D2 w 1),I5 (D2 w 2),I5 (D2 w 3)]:List V)[i]? =some (I5 (D2 w i)):=by
 rcases i with _|_|_|_|i;all_goals first|rfl|omega
theorem Mz {w:Nat} {z:Int} {x:UInt8} (hw:w<2) (hz:z=x.toNat):a7 C 240 [i64 w,vi .u8 z] [] (.ret (u8 (tQ w x))) []:=by
 subst hz;have hx:=x.toNat_lt;refine Tg.c ?_;refine⟨[],_,_,_,_,ML hw,rfl,rfl,?_⟩;refine⟨Zc _,by decide,?_⟩;obtain⟨x1,x2⟩:=Wq x.toNat hx;refine j9 (fun i=>⟨[(5,.p (.k 0) 0),(6,vi .u8 ((ai w x i).1:Nat)),(7,vi .u8 ((ai w x i).2:Nat)),(8,i64 (2*i:Nat))],[.mx [I5 (D2 w 0),I5 (D2 w 1),I5 (D2 w 2),I5 (D2 w 3)]]⟩) 2 ⟨[.d 5 0],⟨rfl,congrArg (vi .u8) x1,congrArg (vi .u8) x2,rfl,tq⟩,⟨_,rfl,rfl⟩,tq⟩ fun i hi=> ?_;obtain⟨s1,s2⟩:=vw hw x i hi;have hsi:ai w x (i+1)=qS w i (ai w x i):=rfl;generalize hp:ai w x i=p at s1 s2 hsi ⊢;refine c9 (fun h=> ?_) (fun h=> ?_)
 ·have a9:i<2:=(by omega);obtain⟨f1,f2⟩:=vx p.1 s1 p.2 s2;obtain⟨r1,r2⟩:=kU w hw (2*i) (by omega);obtain⟨r3,r4⟩:=kU w hw (2*i+1) (by omega);have ee:=Wn p.1 s1 p.2 s2;have ef:=Wo p.1 s1 p.2 s2;have e1:(I6.wrap (((2*i:Nat):Int)+1)).toNat=2*i+1:=(by simp(disch:=omega)only[Za];omega);refine⟨by decide,by decide,by decide,?_⟩;refine⟨by omega,by omega,?_⟩;refine⟨_,by rw[Zb,Zd,Ze];exact DA (by omega),?_⟩;refine⟨by rw[ee];omega,?_,?_⟩
  ·rw[ee];show((p.1^^^p.2:Nat):Int)<(((D2 w (2*i)).toArray.size:Nat):Int);simp only[List.size_toArray,r1];omega
  refine⟨_,by rw[ee,Zb];exact nQ (by omega),?_⟩;refine⟨[],_,_,_,_,zJ rfl (r2 _ f2),rfl,rfl,?_⟩;refine⟨by omega,by omega,?_⟩;refine⟨_,by rw[e1,Zd,Ze];exact DA (by omega),?_⟩;refine⟨by rw[ef];omega,?_,?_⟩
  ·rw[ef];show((qf p.1 p.2:Nat):Int)<(((D2 w (2*i+1)).toArray.size:Nat):Int);simp only[List.size_toArray,r3];omega
  refine⟨_,by rw[ef,Zb];exact nQ (by omega),?_⟩;refine⟨[],_,_,_,_,zJ rfl (r4 _ f1),rfl,rfl,?_⟩;refine⟨i+1,by omega,by omega,[.k 0],⟨rfl,?_,?_,d7 (by simp(disch:=omega)only[Za];omega),tq⟩,⟨_,rfl,rfl⟩,tq⟩
  ·show vi .u8 _=vi .u8 _;rw[hsi];rfl
  ·show vi .u8 _=vi .u8 _;rw[hsi];rfl
 ·obtain rfl:i=2:=(by omega);refine⟨by decide,?_⟩;refine⟨_,rfl,[],congrArg (vi .u8) ?_,tq⟩;rw[tQ,hp];exact Wp p.1 s1 p.2 s2
def G7 (l:Nat):List Nat:=if l=4 then [1,0,0,1]else if l=3 then [1,1,0,0]else if l=2 then [0,1,0,1]else if l=1 then [0,0,1,1]else [1,0,1,0]
theorem MJ {l:Nat} (hl:l<=4):a7 C 239 [i64 l] [] (.ret (.a [i64 ((G7 l).getD 0 0:Nat),i64 ((G7 l).getD 1 0:Nat),i64 ((G7 l).getD 2 0:Nat),i64 ((G7 l).getD 3 0:Nat)])) []:=by
 rcases l with _|_|_|_|_|l
 ·exact nf.c ⟨Zc _,_,rfl,rfl,_,rfl,[],rfl,tq⟩
 ·exact nf.c ⟨Zc _,_,rfl,rfl,_,rfl,[],rfl,tq⟩
 ·exact nf.c ⟨Zc _,_,rfl,rfl,_,rfl,[],rfl,tq⟩
 ·exact nf.c ⟨Zc _,_,rfl,rfl,_,rfl,[],rfl,tq⟩
 ·exact nf.c ⟨Zc _,_,rfl,rfl,_,rfl,[],rfl,tq⟩
 ·omega
def K5 (i:Nat):Bs:=if i=0 then [1,239,91,91]else if i=1 then [91,239,239,1]else if i=2 then [239,91,1,239]else [239,1,239,91]
theorem MH:a7 C 241 [] [] (.ret (.a [u8 1,u8 239,u8 91,u8 91,u8 91,u8 239,u8 239,u8 1,u8 239,u8 91,u8 1,u8 239,u8 239,u8 1,u8 239,u8 91])) []:=
 Tk.c ⟨Zc _,_,rfl,rfl,_,rfl,[],rfl,tq⟩
def co (o:List Nat) (y:Bs) (i:Nat):Bs:=(List.range 4).map fun p=>if p<i then tQ (o.getD p 0) (y.getD p 0)else y.getD p 0
def O3 (o:List Nat) (y:Bs):Bs:=co o y 4
theorem rq (o y i):(co o y i).length=4:=by simp[co]
theorem cr (o y):(O3 o y).length=4:=rq _ _ _
theorem Ub (y:Bs) (h:y.length=4):[y.getD 0 0,y.getD 1 0,y.getD 2 0,y.getD 3 0]=y:=by
 match y,h with
 |[a,b,c,d],_=>rfl
theorem ZK {o y} (h:y.length=4):co o y 0=y:=by
 show[y.getD 0 0,y.getD 1 0,y.getD 2 0,y.getD 3 0]=y;exact Ub y h
theorem Ef {o y i} (h:i<4):(co o y i).set i (tQ (o.getD i 0) (y.getD i 0))=co o y (i+1):=by
 rcases i with _|_|_|_|i;all_goals first|rfl|omega
theorem Ee {o y i} (h:i<4):(co o y i)[i]? =some (y.getD i 0):=by
 rcases i with _|_|_|_|i;all_goals first|rfl|omega
theorem mE {l:Bs} {j:Nat} {x:UInt8} (h:l[j]? =some x):(bv l)[j]? =some (.int .u8 x.toNat):=by simp[bv,h]
theorem ZT (l i:Nat) (hi:i<4):(G7 l).getD i 0<2:=by
 unfold G7;rcases i with _|_|_|_|i
 ·repeat' split
  all_goals decide
 ·repeat' split
  all_goals decide
 ·repeat' split
  all_goals decide
 ·repeat' split
  all_goals decide
 ·omega
theorem G9 {a b c d:V} {f:Nat->V} (h0:a=f 0) (h1:b=f 1) (h2:c=f 2) (h3:d=f 3) {i:Nat} (hi:i<4):([a,b,c,d]:List V)[i]? =some (f i):=by
 subst h0;subst h1;subst h2;subst h3;rcases i with _|_|_|_|i;all_goals first|rfl|omega
def hG (x:UInt32) (l:List UInt32) (n:Nat):Nat->Bs
 |0=>p6 x
 |g+1=>f8 (O3 (G7 (n-g)) (hG x l n g)) (p6 (l.getD (n-g-1) 0))
theorem bq (x l n):∀g,(hG x l n g).length=4
 |0=>E8 x
 |g+1=>w6 (cr _ _) (E8 _)
def P7 (f:Nat->Nat->UInt8) (K i k:Nat):Bs:=(List.range 4).map fun p=>if p<i then f p K else if p=i then f p k else 0
theorem jC (f K i k):(P7 f K i k).length=4:=by simp[P7]
theorem wW {f:Nat->Nat->UInt8} {K i k} (h:i<4):(P7 f K i k)[i]? =some (f i k):=by
 rcases i with _|_|_|_|i;all_goals first|rfl|omega
theorem wY {f:Nat->Nat->UInt8} {K i k} (h:i<4) {x:UInt8} (hx:x=f i (k+1)):(P7 f K i k).set i x=P7 f K i (k+1):=by
 subst hx;rcases i with _|_|_|_|i;all_goals first|rfl|omega
theorem wX {f:Nat->Nat->UInt8} {K i} (h0:∀p,f p 0=0) (h:i<4):P7 f K i K=P7 f K (i+1) 0:=by
 unfold P7;apply Zu;intro p hp;have:=Z5.1 hp;by_cases h1:p<i
 ·rw[if_pos h1,if_pos (by omega)]
 ·by_cases h2:p=i
  ·rw[if_neg h1,if_pos h2,if_pos (by omega)]
  ·rw[if_neg h1,if_neg h2,if_neg (by omega)];by_cases h3:p=i+1
   ·rw[if_pos h3,h0]
   ·rw[if_neg h3]
theorem wZ {f:Nat->Nat->UInt8} {K} (h0:∀p,f p 0=0):P7 f K 0 0=[0,0,0,0]:=by
 show[f 0 0,0,0,0]=_;rw[h0]
def H5 (m:Nat) (r:Nat->Bs) (y:Bs) (p k:Nat):UInt8:=(List.range k).foldl (fun s k=>s^^^iV m ((r p).getD k 0) (y.getD k 0)) 0
theorem kK (m r y p k):H5 m r y p (k+1)=H5 m r y p k^^^iV m ((r p).getD k 0) (y.getD k 0):=by simp[H5,Zn]
def tH (x:UInt32) (l:List UInt32):UInt32:=o5 (P7 (H5 361 K5 (O3 (G7 0) (hG x l l.length l.length))) 4 4 0)
theorem ph {z:Int} {x:UInt32} {n:Nat} {va:List Value} {l:List UInt32} (hz:z=x.toNat) (ha:va=wv l) (hl:l.length=n) (h4:n<=4):a7 C 196 [vi .u32 z,.z n va] [] (.ret (u32 (tH x l))) []:=by
 subst hz;subst ha;refine Te.c ?_;refine U9 0 rfl (n+1) (fun g=>⟨[(1,.z n (wv l)),(5,.o 1 (.k 0) 0 4),(6,i64 (n-g))],[.sc (bv (hG x l n g))]⟩) ?_ fun g hg=> ?_
 ·refine⟨[],_,_,_,_,jX rfl,rfl,rfl,?_⟩;refine⟨[],0,by omega,[.d 17 0],⟨rfl,rfl,?_,tq⟩,⟨_,rfl,rfl⟩,tq⟩;show i64 (if (4:Int)<n then 4 else n)=i64 (n-(0:Nat));rw[if_neg (by omega)];congr 2
 obtain⟨r,er,hr4,hrg⟩:∃r:Nat,(n:Int)-g=r/\r<=4/\r=n-g:=⟨n-g,by omega,by omega,rfl⟩;have hgs:hG x l n (g+1)=f8 (O3 (G7 r) (hG x l n g)) (p6 (l.getD (r-1) 0)):=by rw[hrg];rfl
 have hyl:=bq x l n g;rw[er];generalize hy:hG x l n g=y at hyl hgs ⊢;refine⟨[],_,_,_,_,MJ hr4,rfl,rfl,?_⟩;refine j9 (fun i=>⟨[(1,.z n (wv l)),(5,.o 1 (.k 0) 0 4),(6,i64 r),(22,.a [i64 ((G7 r).getD 0 0:Nat),i64 ((G7 r).getD 1 0:Nat),i64 ((G7 r).getD 2 0:Nat),i64 ((G7 r).getD 3 0:Nat)]),(23,i64 i)],[.sc (bv (co (G7 r) y i))]⟩) 4 ⟨[.k 0],⟨rfl,rfl,rfl,rfl,rfl,tq⟩,⟨_,rfl,d9 (by rw[ZK hyl])⟩,tq⟩ fun i hi=> ?_;refine c9 (fun h=> ?_) (fun h=> ?_)
 ·have a9:i<4:=(by omega);refine⟨by omega,by omega,?_⟩;refine⟨_,by rw[Zb,Zd];exact G9 (f:=fun i=>i64 ((G7 r).getD i 0:Nat)) rfl rfl rfl rfl a9,?_⟩;refine⟨by omega,by omega,?_⟩;refine⟨_,by rw[Zb,Zd,Ze];exact mE (Ee a9),?_⟩;refine⟨[],_,_,_,_,Mz (ZT r i a9) rfl,rfl,rfl,?_⟩;refine⟨by omega,by omega,by rw[f9,rq];omega,?_⟩;refine⟨i+1,by omega,by omega,[.k 0],⟨rfl,rfl,rfl,rfl,d7 (by simp(disch:=omega)only[Za];omega),tq⟩,⟨_,rfl,d9 ?_⟩,tq⟩;rw[Zb,Zd,Ze,L0,Ef a9]
 obtain rfl:i=4:=(by omega);have hsl:(co (G7 r) y 4).length=4:=rq _ _ _;refine c9 (fun h=> ?_) (fun h=> ?_)
 ·have e1:(I6.wrap ((r:Int)-1)).toNat=r-1:=(by simp(disch:=omega)only[Za];omega);refine⟨(by simp(disch:=omega)only[Za];omega),by omega,?_⟩;refine⟨_,by rw[e1];exact p7 (i:=r-1) (by omega),?_⟩;refine⟨[],_,_,_,_,jX rfl,rfl,rfl,?_⟩;refine⟨[],_,_,_,_,B5 (n:=4) (a:=O3 (G7 r) y) (b:=p6 (l.getD (r-1) 0)) (b8 (cr _ _)) (b8 (E8 _)) (cr _ _) (E8 _) (by decide),rfl,rfl,?_⟩;refine⟨rfl,g+1,by omega,by omega,[.d 48 0],⟨rfl,rfl,d7 ?_,tq⟩,⟨_,rfl,d9 (by rw[hgs])⟩,tq⟩;rw[Za _ (by omega)];omega
 ·obtain rfl:r=0:=(by omega);have hgn:g=n:=(by omega);have hm0:∀p,H5 361 K5 (O3 (G7 0) y) p 0=0:=fun _=>rfl;refine⟨by decide,by decide,by decide,?_⟩;refine⟨[],_,_,_,_,MH,rfl,rfl,?_⟩;generalize hst:co (G7 0) y 4=s at hsl ⊢;have hs':O3 (G7 0) y=s:=hst;rw[hs']at hm0;refine j9 (fun i=>⟨[(5,.o 1 (.k 0) 0 4),(9,.o 1 (.k 1) 0 4),(52,.a [u8 1,u8 239,u8 91,u8 91,u8 91,u8 239,u8 239,u8 1,u8 239,u8 91,u8 1,u8 239,u8 239,u8 1,u8 239,u8 91]),(53,i64 i)],[.sc (bv s),.sc (bv (P7 (H5 361 K5 s) 4 i 0))]⟩) 4 ⟨[.k 0,.d 51 0],⟨rfl,rfl,rfl,rfl,tq⟩,⟨_,rfl,rfl⟩,⟨_,rfl,d9 (by rw[wZ hm0];rfl)⟩,tq⟩ fun i hi=> ?_;refine c9 (fun h=> ?_) (fun h=> ?_)
  ·have a9:i<4:=(by omega);refine⟨by omega,by omega,?_⟩;refine⟨[u8 ((K5 i).getD 0 0),u8 ((K5 i).getD 1 0),u8 ((K5 i).getD 2 0),u8 ((K5 i).getD 3 0)],?_,rfl,?_⟩
   ·rw[Zb];rcases i with _|_|_|_|i;all_goals first|rfl|omega
   refine⟨Zc _,?_⟩;refine⟨_,rfl,rfl,?_⟩;refine j9 (fun k=>⟨[(5,.o 1 (.k 0) 0 4),(9,.o 1 (.k 1) 0 4),(10,i64 i),(52,.a [u8 1,u8 239,u8 91,u8 91,u8 91,u8 239,u8 239,u8 1,u8 239,u8 91,u8 1,u8 239,u8 239,u8 1,u8 239,u8 91]),(53,i64 i),(57,.a [u8 ((K5 i).getD 0 0),u8 ((K5 i).getD 1 0),u8 ((K5 i).getD 2 0),u8 ((K5 i).getD 3 0)]),(58,i64 k)],[.sc (bv s),.sc (bv (P7 (H5 361 K5 s) 4 i k))]⟩) 4 ⟨[.k 0,.k 1],⟨rfl,rfl,rfl,rfl,rfl,rfl,rfl,tq⟩,⟨_,rfl,rfl⟩,⟨_,rfl,rfl⟩,tq⟩ fun k hk=> ?_;refine c9 (fun h=> ?_) (fun h=> ?_)
   ·have hkl:k<4:=(by omega);refine⟨by omega,by omega,?_⟩;refine⟨_,by rw[Zb,Zd];exact G9 (f:=fun k=>u8 ((K5 i).getD k 0)) rfl rfl rfl rfl hkl,?_⟩;refine⟨by omega,by omega,?_⟩;refine⟨_,by rw[Zb,Zd,Ze];exact mE (wW a9),?_⟩;refine⟨by omega,by omega,?_⟩;refine⟨_,by rw[Zb,Zd,Ze];exact A1 (i:=k) (by omega),?_⟩;refine⟨[],_,_,_,_,mL (m:=361) rfl rfl (by decide) (by decide),rfl,rfl,?_⟩;refine⟨by omega,by omega,by rw[f9,jC];omega,?_⟩;refine⟨k+1,by omega,by omega,[.k 0,.k 1],⟨rfl,rfl,rfl,rfl,rfl,rfl,d7 (by simp(disch:=omega)only[Za];omega),tq⟩,⟨_,rfl,rfl⟩,⟨_,rfl,d9 ?_⟩,tq⟩;rw[Zb,Zd,Ze,u7,L0,wY a9 (kK _ _ _ _ _).symm]
   ·obtain rfl:k=4:=(by omega);refine⟨i+1,by omega,by omega,[.k 0,.k 1],⟨rfl,rfl,rfl,d7 (by simp(disch:=omega)only[Za];omega),tq⟩,⟨_,rfl,rfl⟩,⟨_,rfl,d9 ?_⟩,tq⟩;rw[wX hm0 a9]
  ·obtain rfl:i=4:=(by omega);refine⟨[],_,_,_,_,cQ (l:=P7 (H5 361 K5 s) 4 4 0) (b8 (jC _ _ _ _)) (jC _ _ _ _) rfl,rfl,rfl,?_⟩;refine⟨_,rfl,[],?_,tq⟩;show u32 (o5 (P7 (H5 361 K5 s) 4 4 0))=u32 (tH x l);have hyn:hG x l n n=y:=by rw[<-hy,hgn]
   rw[tH,hl,hyn,hs']
def fR (i:Nat):Bs:=if i=0 then [1,164,85,135,90,88,219,158]else if i=1 then [164,86,130,243,30,198,104,229]else if i=2 then [2,161,252,193,71,174,61,25]else [164,85,135,90,88,219,158,3]
def gD (m:Bs):UInt32:=o5 (P7 (H5 333 fR m) 8 4 0)
theorem Ow (i:Nat) (h:i<4):(fR i).length=8:=by
 rcases i with _|_|_|_|i;all_goals first|rfl|omega
theorem sY {va:List Value} {m:Bs} (ha:va=bv m) (hm:m.length=8):a7 C 194 [.z 8 va] [] (.ret (u32 (gD m))) []:=by
 subst ha;have hm0:∀p,H5 333 fR m p 0=0:=fun _=>rfl;refine Tj.c ?_;refine⟨by decide,by decide,by decide,?_⟩;refine j9 (fun i=>⟨[(0,.z 8 (bv m)),(3,.o 1 (.k 0) 0 4),(15,.a [.z 8 (bv (fR 0)),.z 8 (bv (fR 1)),.z 8 (bv (fR 2)),.z 8 (bv (fR 3))]),(16,i64 i)],[.sc (bv (P7 (H5 333 fR m) 8 i 0))]⟩) 4 ⟨[.d 10 0],⟨rfl,rfl,rfl,rfl,tq⟩,⟨_,rfl,d9 (by rw[wZ hm0];rfl)⟩,tq⟩ fun i hi=> ?_;refine c9 (fun h=> ?_) (fun h=> ?_)
 ·have a9:i<4:=(by omega);have hfl:=Ow i a9;refine⟨by omega,by omega,?_⟩;refine⟨_,by rw[Zb,Zd];exact G9 (f:=fun i=> .z 8 (bv (fR i))) rfl rfl rfl rfl a9,?_⟩;refine j9 (fun k=>⟨[(0,.z 8 (bv m)),(3,.o 1 (.k 0) 0 4),(4,i64 i),(15,.a [.z 8 (bv (fR 0)),.z 8 (bv (fR 1)),.z 8 (bv (fR 2)),.z 8 (bv (fR 3))]),(16,i64 i),(20,.z 8 (bv (fR i))),(21,i64 8),(22,i64 k)],[.sc (bv (P7 (H5 333 fR m) 8 i k))]⟩) 8 ⟨[.k 0],⟨rfl,rfl,rfl,rfl,rfl,rfl,rfl,rfl,tq⟩,⟨_,rfl,rfl⟩,tq⟩ fun k hk=> ?_;refine c9 (fun h=> ?_) (fun h=> ?_)
  ·have hkl:k<8:=(by omega);refine⟨by omega,by omega,?_⟩;refine⟨_,by rw[Zb];exact A1 (by omega),?_⟩;refine⟨by omega,by omega,?_⟩;refine⟨_,by rw[Zb,Zd,Ze];exact mE (wW a9),?_⟩;refine⟨by omega,by omega,?_⟩;refine⟨_,by rw[Zb];exact A1 (by omega),?_⟩;refine⟨[],_,_,_,_,mL (m:=333) rfl rfl (by decide) (by decide),rfl,rfl,?_⟩;refine⟨by omega,by omega,by rw[f9,jC];omega,?_⟩;refine⟨k+1,by omega,by omega,[.k 0],⟨rfl,rfl,rfl,rfl,rfl,rfl,rfl,d7 (by simp(disch:=omega)only[Za];omega),tq⟩,⟨_,rfl,d9 ?_⟩,tq⟩;rw[Zb,Zd,Ze,u7,L0,wY a9 (kK _ _ _ _ _).symm]
  ·obtain rfl:k=8:=(by omega);refine⟨i+1,by omega,by omega,[.k 0],⟨rfl,rfl,rfl,d7 (by simp(disch:=omega)only[Za];omega),tq⟩,⟨_,rfl,d9 ?_⟩,tq⟩;rw[wX hm0 a9]
 ·obtain rfl:i=4:=(by omega);refine⟨[],_,_,_,_,cQ (l:=P7 (H5 333 fR m) 8 4 0) (b8 (jC _ _ _ _)) (jC _ _ _ _) rfl,rfl,rfl,?_⟩;exact⟨_,rfl,[],rfl,tq⟩
def r9 (key:Bs) (n:Nat):List UInt32:=(List.range n).map fun i=>o5 (sub key (8*i) 4)
def s3 (key:Bs) (n:Nat):List UInt32:=(List.range n).map fun i=>o5 (sub key (8*i+4) 4)
def K9 (key:Bs) (n:Nat):List UInt32:=(List.range n).map fun i=>gD (sub key (8*i) 8)
theorem lW (key n):r9 key (n+1)=r9 key n++[o5 (sub key (8*n) 4)]:=by simp[r9,Zn]
theorem ma (key n):s3 key (n+1)=s3 key n++[o5 (sub key (8*n+4) 4)]:=by simp[s3,Zn]
theorem lZ (key n):K9 key (n+1)=K9 key n++[gD (sub key (8*n) 8)]:=by simp[K9,Zn]
theorem N4 (key n):(r9 key n).length=n:=by simp[r9]
theorem N5 (key n):(s3 key n).length=n:=by simp[s3]
theorem M3 (key n):(K9 key n).length=n:=by simp[K9]
def aP:UInt32:=16843009
def W1 (ev:List UInt32) (r:Nat):UInt32:=tH (2*Zk r*aP) ev
def W5 (od:List UInt32) (r:Nat):UInt32:=C3 (tH ((2*Zk r+1)*aP) od) 8
def kW (ev od:List UInt32) (r:Nat):List UInt32:=[W1 ev r+W5 od r,C3 (W1 ev r+2*W5 od r) 9]
def S6 (ev od:List UInt32) (n:Nat):List UInt32:=((List.range n).map (kW ev od)).flatten
theorem nq (ev od n):S6 ev od (n+1)=S6 ev od n++kW ev od n:=by simp[S6,Zn]
theorem gH (ev od):∀n,(S6 ev od n).length=2*n
 |0=>rfl
 |n+1=>by rw[nq,Zm,gH ev od n];show 2*n+2=_;omega
def tK (key:Bs):List UInt32:=S6 (r9 key (key.length/8)) (s3 key (key.length/8)) 20
def tS (key:Bs):List UInt32:=(K9 key (key.length/8)).reverse
theorem aM (key):(tK key).length=40:=gH _ _ _
theorem jo {key:Bs} {n:Nat} (h:key.length=8*n):(tS key).length=n:=by
 rw[tS,Zj,M3,h];omega
theorem CV (r:Nat):Zk r+1=Zk (r+1):=by
 rw[UInt32.ofNat_add];rfl
theorem zI {n m:Nat} {va:List Value} {key:Bs} (ha:va=bv key) (hk:key.length=m) (hm:m=8*n) (hn:2<=n/\n<=4):
  a7 C 134 [.z m va] [] (.ret (.t [.o 1 (.k 0) 0 40,.o 1 (.k 1) 0 n,i64 0])) [.sc (wv (tK key)),.sc (wv (tS key))]:=by
 subst ha;subst hm;have hdiv:key.length/8=n:=by omega
 have hK:tK key=S6 (r9 key n) (s3 key n) 20:=by rw[tK,hdiv]
 have hS:tS key=(K9 key n).reverse:=by rw[tS,hdiv]
 rw[hK,hS];refine Tf.c ?_;refine U9 0 rfl 20 (fun r=>⟨[(2,.o 1 (.k 0) 0 (2*r)),(3,.z n (wv (K9 key n).reverse)),(5,.z n (wv (r9 key n))),(6,.z n (wv (s3 key n))),(12,u32 (Zk r))],[.sc (wv (S6 (r9 key n) (s3 key n) r))]⟩) ?_ fun r hr=> ?_
 ·by_cases h2:n=2
  ·refine w9 (by rw[h2];rfl) ?_;refine B1 (fun i=>⟨[(2,g8),(3,.o 1 (.k 2) 0 i),(5,.o 1 (.k 0) 0 i),(6,.o 1 (.k 1) 0 i),(7,.z (8*(n-i)) (bv (key.drop (8*i))))],[.sc (wv (r9 key i)),.sc (wv (s3 key i)),.sc (wv (K9 key i))]⟩) n [(5,1,.sc []),(6,1,.sc []),(3,1,.sc [])] ⟨[.d 900000 0,.d 900000 1,.d 900000 2],⟨rfl,rfl,rfl,rfl,rfl,tq⟩,⟨_,rfl,rfl⟩,⟨_,rfl,rfl⟩,⟨_,rfl,rfl⟩,tq⟩ fun i hi=> ?_;refine c9 (fun h=> ?_) (fun h=> ?_)
   ·have a9:i<n:=(by omega);have s4:sub (bv (key.drop (8*i))) 0 4=bv (sub key (8*i) 4):=by rw[l4,R5];rfl
    have s5:sub (bv (key.drop (8*i))) 4 4=bv (sub key (8*i+4) 4):=by rw[l4,R5]
    have s8:sub (bv (key.drop (8*i))) 0 8=bv (sub key (8*i) 8):=by rw[l4,R5];rfl
    refine⟨by decide,by decide,Zc _,by show 4<=8*(n-i);omega,?_⟩;refine⟨[],_,_,_,_,cQ (l:=sub key (8*i) 4) s4 (by rw[j4];omega) rfl,rfl,rfl,?_⟩;refine⟨by decide,by decide,by decide,Zc _,by show 8<=8*(n-i);omega,?_⟩;refine⟨[],_,_,_,_,cQ (l:=sub key (8*i+4) 4) s5 (by rw[j4];omega) rfl,rfl,rfl,?_⟩;refine⟨Zc _,by omega,by rw[t3,N4];omega,?_⟩;refine⟨Zc _,by omega,by rw[t3,N5];omega,?_⟩;refine⟨by decide,by decide,Zc _,by show 8<=8*(n-i);omega,?_⟩;refine⟨[],_,_,_,_,sY (m:=sub key (8*i) 8) s8 (by rw[j4];omega),rfl,rfl,?_⟩;refine⟨Zc _,by omega,by rw[t3,M3];omega,?_⟩;refine⟨by decide,by show 8<=8*(n-i);omega,Zc _,Zc _,?_⟩;refine⟨i+1,by omega,by omega,[.d 49 0,.d 53 0,.d 59 0],⟨rfl,rfl,rfl,rfl,?_,tq⟩,⟨_,rfl,d9 ?_⟩,⟨_,rfl,d9 ?_⟩,⟨_,rfl,d9 ?_⟩,tq⟩
    ·show V.z (8*(n-i)-8) (sub _ 8 (8*(n-i)-8))=_;rw[l4,R5,G5 _ _ _ (by omega),show 8*(n-i)-8=8*(n-(i+1)) by omega,show 8*i+8=8*(i+1) by omega]
    ·rw[lW];exact O6 (by rw[N4];omega)
    ·rw[ma];exact O6 (by rw[N5];omega)
    ·rw[lZ];exact O6 (by rw[M3];omega)
   ·obtain rfl:i=n:=(by omega);refine⟨[.k 2],_,_,_,_,kb (l:=K9 key i) (M3 _ _) (by omega) (by omega),rfl,rfl,?_⟩;refine⟨[(2,1,.sc [])],0,by decide,[.d 900000 0],⟨rfl,?_,?_,?_,rfl,tq⟩,⟨_,rfl,rfl⟩,tq⟩
    ·show V.z i (sub _ 0 i)=V.z i _;rw[y8 (by rw[Zj,M3])]
    ·show V.z i (sub _ 0 i)=V.z i _;rw[y8 (N4 _ _)]
    ·show V.z i (sub _ 0 i)=V.z i _;rw[y8 (N5 _ _)]
  refine bG (by rw[bne_iff_ne];omega) ?_;by_cases h3:n=3
  ·refine w9 (by rw[h3];rfl) ?_;refine B1 (fun i=>⟨[(2,g8),(3,.o 1 (.k 2) 0 i),(5,.o 1 (.k 0) 0 i),(6,.o 1 (.k 1) 0 i),(7,.z (8*(n-i)) (bv (key.drop (8*i))))],[.sc (wv (r9 key i)),.sc (wv (s3 key i)),.sc (wv (K9 key i))]⟩) n [(5,1,.sc []),(6,1,.sc []),(3,1,.sc [])] ⟨[.d 900000 0,.d 900000 1,.d 900000 2],⟨rfl,rfl,rfl,rfl,rfl,tq⟩,⟨_,rfl,rfl⟩,⟨_,rfl,rfl⟩,⟨_,rfl,rfl⟩,tq⟩ fun i hi=> ?_;refine c9 (fun h=> ?_) (fun h=> ?_)
   ·have a9:i<n:=(by omega);have s4:sub (bv (key.drop (8*i))) 0 4=bv (sub key (8*i) 4):=by rw[l4,R5];rfl
    have s5:sub (bv (key.drop (8*i))) 4 4=bv (sub key (8*i+4) 4):=by rw[l4,R5]
    have s8:sub (bv (key.drop (8*i))) 0 8=bv (sub key (8*i) 8):=by rw[l4,R5];rfl
    refine⟨by decide,by decide,Zc _,by show 4<=8*(n-i);omega,?_⟩;refine⟨[],_,_,_,_,cQ (l:=sub key (8*i) 4) s4 (by rw[j4];omega) rfl,rfl,rfl,?_⟩;refine⟨by decide,by decide,by decide,Zc _,by show 8<=8*(n-i);omega,?_⟩;refine⟨[],_,_,_,_,cQ (l:=sub key (8*i+4) 4) s5 (by rw[j4];omega) rfl,rfl,rfl,?_⟩;refine⟨Zc _,by omega,by rw[t3,N4];omega,?_⟩;refine⟨Zc _,by omega,by rw[t3,N5];omega,?_⟩;refine⟨by decide,by decide,Zc _,by show 8<=8*(n-i);omega,?_⟩;refine⟨[],_,_,_,_,sY (m:=sub key (8*i) 8) s8 (by rw[j4];omega),rfl,rfl,?_⟩;refine⟨Zc _,by omega,by rw[t3,M3];omega,?_⟩;refine⟨by decide,by show 8<=8*(n-i);omega,Zc _,Zc _,?_⟩;refine⟨i+1,by omega,by omega,[.d 49 0,.d 53 0,.d 59 0],⟨rfl,rfl,rfl,rfl,?_,tq⟩,⟨_,rfl,d9 ?_⟩,⟨_,rfl,d9 ?_⟩,⟨_,rfl,d9 ?_⟩,tq⟩
    ·show V.z (8*(n-i)-8) (sub _ 8 (8*(n-i)-8))=_;rw[l4,R5,G5 _ _ _ (by omega),show 8*(n-i)-8=8*(n-(i+1)) by omega,show 8*i+8=8*(i+1) by omega]
    ·rw[lW];exact O6 (by rw[N4];omega)
    ·rw[ma];exact O6 (by rw[N5];omega)
    ·rw[lZ];exact O6 (by rw[M3];omega)
   ·obtain rfl:i=n:=(by omega);refine⟨[.k 2],_,_,_,_,kb (l:=K9 key i) (M3 _ _) (by omega) (by omega),rfl,rfl,?_⟩;refine⟨[(2,1,.sc [])],0,by decide,[.d 900000 0],⟨rfl,?_,?_,?_,rfl,tq⟩,⟨_,rfl,rfl⟩,tq⟩
    ·show V.z i (sub _ 0 i)=V.z i _;rw[y8 (by rw[Zj,M3])]
    ·show V.z i (sub _ 0 i)=V.z i _;rw[y8 (N4 _ _)]
    ·show V.z i (sub _ 0 i)=V.z i _;rw[y8 (N5 _ _)]
  refine bG (by rw[bne_iff_ne];omega) ?_;refine w9 (by rw[show n=4 by omega];rfl) ?_;refine B1 (fun i=>⟨[(2,g8),(3,.o 1 (.k 2) 0 i),(5,.o 1 (.k 0) 0 i),(6,.o 1 (.k 1) 0 i),(7,.z (8*(n-i)) (bv (key.drop (8*i))))],[.sc (wv (r9 key i)),.sc (wv (s3 key i)),.sc (wv (K9 key i))]⟩) n [(5,1,.sc []),(6,1,.sc []),(3,1,.sc [])] ⟨[.d 900000 0,.d 900000 1,.d 900000 2],⟨rfl,rfl,rfl,rfl,rfl,tq⟩,⟨_,rfl,rfl⟩,⟨_,rfl,rfl⟩,⟨_,rfl,rfl⟩,tq⟩ fun i hi=> ?_;refine c9 (fun h=> ?_) (fun h=> ?_)
  ·have a9:i<n:=(by omega);have s4:sub (bv (key.drop (8*i))) 0 4=bv (sub key (8*i) 4):=by rw[l4,R5];rfl
   have s5:sub (bv (key.drop (8*i))) 4 4=bv (sub key (8*i+4) 4):=by rw[l4,R5]
   have s8:sub (bv (key.drop (8*i))) 0 8=bv (sub key (8*i) 8):=by rw[l4,R5];rfl
   refine⟨by decide,by decide,Zc _,by show 4<=8*(n-i);omega,?_⟩;refine⟨[],_,_,_,_,cQ (l:=sub key (8*i) 4) s4 (by rw[j4];omega) rfl,rfl,rfl,?_⟩;refine⟨by decide,by decide,by decide,Zc _,by show 8<=8*(n-i);omega,?_⟩;refine⟨[],_,_,_,_,cQ (l:=sub key (8*i+4) 4) s5 (by rw[j4];omega) rfl,rfl,rfl,?_⟩;refine⟨Zc _,by omega,by rw[t3,N4];omega,?_⟩;refine⟨Zc _,by omega,by rw[t3,N5];omega,?_⟩;refine⟨by decide,by decide,Zc _,by show 8<=8*(n-i);omega,?_⟩;refine⟨[],_,_,_,_,sY (m:=sub key (8*i) 8) s8 (by rw[j4];omega),rfl,rfl,?_⟩;refine⟨Zc _,by omega,by rw[t3,M3];omega,?_⟩;refine⟨by decide,by show 8<=8*(n-i);omega,Zc _,Zc _,?_⟩;refine⟨i+1,by omega,by omega,[.d 49 0,.d 53 0,.d 59 0],⟨rfl,rfl,rfl,rfl,?_,tq⟩,⟨_,rfl,d9 ?_⟩,⟨_,rfl,d9 ?_⟩,⟨_,rfl,d9 ?_⟩,tq⟩
   ·show V.z (8*(n-i)-8) (sub _ 8 (8*(n-i)-8))=_;rw[l4,R5,G5 _ _ _ (by omega),show 8*(n-i)-8=8*(n-(i+1)) by omega,show 8*i+8=8*(i+1) by omega]
   ·rw[lW];exact O6 (by rw[N4];omega)
   ·rw[ma];exact O6 (by rw[N5];omega)
   ·rw[lZ];exact O6 (by rw[M3];omega)
  ·obtain rfl:i=n:=(by omega);refine⟨[.k 2],_,_,_,_,kb (l:=K9 key i) (M3 _ _) (by omega) (by omega),rfl,rfl,?_⟩;refine⟨[(2,1,.sc [])],0,by decide,[.d 900000 0],⟨rfl,?_,?_,?_,rfl,tq⟩,⟨_,rfl,rfl⟩,tq⟩
   ·show V.z i (sub _ 0 i)=V.z i _;rw[y8 (by rw[Zj,M3])]
   ·show V.z i (sub _ 0 i)=V.z i _;rw[y8 (N4 _ _)]
   ·show V.z i (sub _ 0 i)=V.z i _;rw[y8 (N5 _ _)]
 ·have e2:∀x:UInt32,U3.wrap (2*(x.toNat:Int))=((2*x).toNat:Int):=fun x=>jq 2 x;have e3:∀x:UInt32,U3.wrap ((x.toNat:Int)*16843009)=((x*aP).toNat:Int):=fun x=>jq x aP;have e4:∀x:UInt32,U3.wrap ((x.toNat:Int)+1)=((x+1).toNat:Int):=fun x=>s6 x 1;have hkl:=gH (r9 key n) (s3 key n) r;refine⟨[],_,_,_,_,ph (x:=2*Zk r*aP) (l:=r9 key n) (by rw[e2,e3]) rfl (N4 _ _) (by omega),rfl,rfl,?_⟩;refine⟨[],_,_,_,_,ph (x:=(2*Zk r+1)*aP) (l:=s3 key n) (by rw[e2,e4,e3]) rfl (N5 _ _) (by omega),rfl,rfl,?_⟩;refine⟨[],_,_,_,_,bd (k:=8) rfl (by decide) (by decide),rfl,rfl,?_⟩;refine⟨[],_,_,_,_,bd (v:=W1 (r9 key n) r+2*W5 (s3 key n) r) (k:=9) (by rw[e2];exact s6 _ _) (by decide) (by decide),rfl,rfl,?_⟩;refine⟨Zc _,by omega,by rw[t3,hkl];omega,?_⟩;have hst:sub (wv (S6 (r9 key n) (s3 key n) r)) 0 (2*r*1)++[Value.int .u32 (U3.wrap (((W1 (r9 key n) r).toNat:Int)+((W5 (s3 key n) r).toNat:Int))),Value.int .u32 ((C3 (W1 (r9 key n) r+2*W5 (s3 key n) r) 9).toNat:Int)]=wv (S6 (r9 key n) (s3 key n) (r+1)):=by
   rw[Zd,y8 hkl,s6,nq,<-mg];rfl
  have hu:((Zk r+1).toNat:Int)=((r+1:Nat):Int):=by
   rw[CV,UInt32.toNat_ofNat',Nat.mod_eq_of_lt (by omega)]
  refine c9 (fun h=> ?_) (fun h=> ?_)
  ·rw[e4,hu]at h;refine⟨rfl,r+1,by omega,by omega,[.d 84 0],⟨rfl,rfl,rfl,rfl,?_,tq⟩,⟨_,rfl,d9 hst⟩,tq⟩;show vi .u32 _=vi .u32 _;rw[e4,CV]
  ·rw[e4,hu]at h;obtain rfl:r=19:=(by omega);refine⟨[],_,_,_,_,oM (l:=S6 (r9 key n) (s3 key n) 20) (n:=40) rfl (gH _ _ _) (by decide) (by decide),?_,rfl,?_⟩
   ·show[V.z _ (sub (sub (wv (S6 (r9 key n) (s3 key n) 19)) 0 (2*19*1)++[Value.int .u32 (U3.wrap (((W1 (r9 key n) 19).toNat:Int)+((W5 (s3 key n) 19).toNat:Int))),Value.int .u32 ((C3 (W1 (r9 key n) 19+2*W5 (s3 key n) 19) 9).toNat:Int)]) 0 _)]=_;rw[hst,y8 (gH _ _ _)]
   refine⟨[],_,_,_,_,oM (l:=(K9 key n).reverse) rfl (by rw[Zj,M3]) (by omega) (by omega),rfl,rfl,?_⟩;exact⟨_,rfl,[.d 90 0,.d 92 0],rfl,⟨_,rfl,rfl⟩,⟨_,rfl,rfl⟩,tq⟩
abbrev M4 (k s:List UInt32):V:= .q [wz k,wz s] 0
theorem pj {n m:Nat} {va:List Value} {key:Bs} (ha:va=bv key) (hk:key.length=m) (hm:m=8*n) (hn:2<=n/\n<=4):a7 C 82 [.z m va] [] (.ret (.t [M4 (tK key) (tS key),i64 0])) []:=by
 refine Bm.c ?_;refine⟨[],_,_,_,_,zI ha hk hm hn,rfl,rfl,?_⟩;refine⟨_,rfl,[],?_,tq⟩;show V.t [.q [.z 40 (sub _ 0 40),.z n (sub _ 0 n)] 0,i64 0]=V.t [.q [.z _ _,.z _ _] 0,i64 0];rw[y8 (aM key),y8 (jo (n:=n) (by omega)),aM,jo (n:=n) (by omega)]
abbrev W4:=UInt32×UInt32×UInt32×UInt32
def nS (k s:List UInt32) (a c:UInt32) (r:Nat):UInt32:=tH a s+tH (C3 c 8) s+k.getD (2*r+8) 0
def nT (k s:List UInt32) (a c:UInt32) (r:Nat):UInt32:=tH a s+2*tH (C3 c 8) s+k.getD (2*r+9) 0
theorem zK {k s:List UInt32} {x y:Int} {a c:UInt32} {r:Nat} (hx:x=a.toNat) (hy:y=c.toNat) (hk:k.length=40) (hs:s.length<=4) (hr:r<16):a7 C 137 [M4 k s,vi .u32 x,vi .u32 y,i64 r] [] (.ret (.t [u32 (nS k s a c r),u32 (nT k s a c r)])) []:=by
 subst hx;subst hy;refine Th.c ?_;have e1:(I6.wrap (I6.wrap (2*(r:Int))+8)).toNat=2*r+8:=(by simp(disch:=omega)only[Za];omega);have e2:(I6.wrap (I6.wrap (2*(r:Int))+9)).toNat=2*r+9:=(by simp(disch:=omega)only[Za];omega);have e3:∀x:UInt32,U3.wrap (2*(x.toNat:Int))=((2*x).toNat:Int):=fun x=>jq 2 x;refine⟨_,rfl,?_⟩;refine⟨[],_,_,_,_,ph (l:=s) rfl rfl rfl hs,rfl,rfl,?_⟩;refine⟨[],_,_,_,_,bd (k:=8) rfl (by decide) (by decide),rfl,rfl,?_⟩;refine⟨_,rfl,?_⟩;refine⟨[],_,_,_,_,ph (l:=s) rfl rfl rfl hs,rfl,rfl,?_⟩;refine⟨_,rfl,by omega,by omega,?_⟩;refine⟨_,by rw[e1];exact p7 (by omega),?_⟩;refine⟨_,rfl,by omega,by omega,?_⟩;refine⟨_,by rw[e2];exact p7 (by omega),?_⟩;refine⟨_,rfl,[],?_,tq⟩;show V.t [vi .u32 _,vi .u32 _]=_;rw[s6,s6,e3,s6,s6];rfl
def rP (k:List UInt32) (o:Nat) (x:W4) (i:Nat):List V:=[u32 (if 0<i then x.1^^^k.getD (o+0) 0 else x.1),u32 (if 1<i then x.2.1^^^k.getD (o+1) 0 else x.2.1),u32 (if 2<i then x.2.2.1^^^k.getD (o+2) 0 else x.2.2.1),u32 (if 3<i then x.2.2.2^^^k.getD (o+3) 0 else x.2.2.2)]
def wh (k:List UInt32) (o:Nat) (x:W4):W4:=(x.1^^^k.getD (o+0) 0,x.2.1^^^k.getD (o+1) 0,x.2.2.1^^^k.getD (o+2) 0,x.2.2.2^^^k.getD (o+3) 0)
def aS (x:W4) (i:Nat):UInt32:=if i=0 then x.1 else if i=1 then x.2.1 else if i=2 then x.2.2.1 else x.2.2.2
theorem a1Q {k o x i} (h:i<4):(rP k o x i)[i]? =some (u32 (aS x i)):=by
 rcases i with _|_|_|_|i;all_goals first|rfl|omega
theorem a1R {k o x i} (h:i<4):(rP k o x i).set i (u32 (aS x i^^^k.getD (o+i) 0))=rP k o x (i+1):=by
 rcases i with _|_|_|_|i;all_goals first|rfl|omega
abbrev rL (x:W4):V:= .a [u32 x.1,u32 x.2.1,u32 x.2.2.1,u32 x.2.2.2]
theorem pk {k s:List UInt32} {x:W4} {o:Nat} (hk:k.length=40) (ho:o<=36):a7 C 136 [M4 k s,rL x,i64 o] [] (.ret (rL (wh k o x))) []:=by
 refine Ti.c ?_;refine j9 (fun i=>⟨[(0,M4 k s),(2,i64 o),(4,.p (.k 0) 0),(6,.p (.k 1) 0),(8,i64 i)],[.mx (rP k o x i),.sc [.int .u32 0,.int .u32 0,.int .u32 0,.int .u32 0]]⟩) 4 ⟨[.d 4 0,.d 6 0],⟨rfl,rfl,rfl,rfl,rfl,tq⟩,⟨_,rfl,rfl⟩,⟨_,rfl,rfl⟩,tq⟩ fun i hi=> ?_;refine c9 (fun h=> ?_) (fun h=> ?_)
 ·have a9:i<4:=(by omega);have e1:(I6.wrap ((o:Int)+i)).toNat=o+i:=(by simp(disch:=omega)only[Za];omega);refine⟨by omega,by omega,?_⟩;refine⟨_,by rw[Zb,Zd,Ze];exact a1Q a9,?_⟩;refine⟨_,rfl,(by simp(disch:=omega)only[Za];omega),by omega,?_⟩;refine⟨_,by rw[e1];exact p7 (by omega),?_⟩;refine⟨by omega,by omega,by show 0+((i:Int)).toNat*1+1<=4;omega,?_⟩;refine⟨i+1,by omega,by omega,[.k 0,.k 1],⟨rfl,rfl,rfl,rfl,d7 (by simp(disch:=omega)only[Za];omega),tq⟩,⟨_,rfl,?_⟩,⟨_,rfl,rfl⟩,tq⟩;rw[<-a1R a9,z6];rcases i with _|_|_|_|i;all_goals first|rfl|omega
 ·obtain rfl:i=4:=(by omega);refine⟨_,rfl,rfl,Zc _,_,rfl,rfl,?_⟩;exact⟨_,rfl,[],rfl,tq⟩
def A6 (b:Bs):W4:=(o5 (sub b 0 4),o5 (sub b 4 4),o5 (sub b 8 4),o5 (sub b 12 4))
def dc (b:Bs) (i:Nat):List UInt32:=(List.range 4).map fun p=>if p<i then o5 (sub b (4*p) 4)else 0
theorem qn (b:Bs) {i:Nat} (h:i<4):(dc b i).set i (o5 (sub b (4*i) 4))=dc b (i+1):=by
 rcases i with _|_|_|_|i;all_goals first|rfl|omega
def iq (k s:List UInt32) (x:W4) (r:Nat):W4:=(C3 (x.2.2.1^^^nS k s x.1 x.2.1 r) 31,C3 x.2.2.2 1^^^nT k s x.1 x.2.1 r,x.1,x.2.1)
def ez (k s:List UInt32) (x:W4) (r:Nat):W4:=(C3 x.2.2.1 1^^^nS k s x.1 x.2.1 r,C3 (x.2.2.2^^^nT k s x.1 x.2.1 r) 31,x.1,x.2.1)
def E9 (x:W4):W4:=(x.2.2.1,x.2.2.2,x.1,x.2.1)
def cw (k s:List UInt32) (x:W4) (n:Nat):W4:=(List.range n).foldl (iq k s) x
def bI (k s:List UInt32) (x:W4) (n:Nat):W4:=(List.range n).foldl (fun x r=>ez k s x (15-r)) x
theorem En (k s x n):cw k s x (n+1)=iq k s (cw k s x n) n:=by simp[cw,Zn]
theorem Em (k s x n):bI k s x (n+1)=ez k s (bI k s x n) (15-n):=by simp[bI,Zn]
def cz (k s:List UInt32) (x:W4):W4:=wh k 4 (E9 (cw k s (wh k 0 x) 16))
def cy (k s:List UInt32) (x:W4):W4:=wh k 0 (E9 (bI k s (wh k 4 x) 16))
def L5 (x:W4) (n:Nat):Bs:=((List.range n).map fun i=>p6 (aS x i)).flatten
theorem nL (x n):L5 x (n+1)=L5 x n++p6 (aS x n):=by simp[L5,Zn]
theorem ek (x):∀n,(L5 x n).length=4*n
 |0=>rfl
 |n+1=>by rw[nL,Zm,ek x n,E8];omega
theorem rO {x:W4} {i:Nat} (h:i<4):([u32 x.1,u32 x.2.1,u32 x.2.2.1,u32 x.2.2.2]:List V)[i]? =some (u32 (aS x i)):=by
 rcases i with _|_|_|_|i;all_goals first|rfl|omega
theorem gS {a b c d:Int} {x:W4} (h1:a=x.1.toNat) (h2:b=x.2.1.toNat) (h3:c=x.2.2.1.toNat) (h4:d=x.2.2.2.toNat):B.mx [vi .u32 a,vi .u32 b,vi .u32 c,vi .u32 d]=B.mx [u32 x.1,u32 x.2.1,u32 x.2.2.1,u32 x.2.2.2]:=by
 subst h1;subst h2;subst h3;subst h4;rfl
theorem zQ {va:List Value} {b:Bs} {k s:List UInt32} (ha:va=bv b) (hb:b.length=16) (hk:k.length=40) (hs:s.length<=4):a7 C 83 [M4 k s,.z 16 va,bool false] [] (A8 16) [.sc (bv (L5 (cz k s (A6 b)) 4))]:=by
 subst ha;refine um.c ?_;refine j9 (fun i=>⟨[(0,M4 k s),(1,.z 16 (bv b)),(2,bool false),(8,.p (.k 0) 0),(22,i64 i)],[.sc (wv (dc b i))]⟩) 4 ⟨[.d 8 0],⟨rfl,rfl,rfl,rfl,rfl,tq⟩,⟨_,rfl,rfl⟩,tq⟩ fun i hi=> ?_;refine c9 (fun h=> ?_) (fun h=> ?_)
 ·have a9:i<4:=(by omega);have e1:(I6.wrap (4*(i:Int))).toNat=4*i:=(by simp(disch:=omega)only[Za];omega);have e2:(I6.wrap (4*I6.wrap ((i:Int)+1))).toNat=4*i+4:=(by simp(disch:=omega)only[Za];omega);refine⟨by omega,(by simp(disch:=omega)only[Za];omega),by rw[e1,e2];omega,Zc _,by rw[e2];omega,?_⟩;rw[e1,e2,show 4*i+4-4*i=4 by omega];refine⟨[],_,_,_,_,cQ (l:=sub b (4*i) 4) (l4 _ _ _) (by rw[j4];omega) rfl,rfl,rfl,?_⟩;refine⟨by omega,by omega,by show 0+((i:Int)).toNat*1<4;omega,?_⟩;refine⟨i+1,by omega,by omega,[.k 0],⟨rfl,rfl,rfl,rfl,d7 (by simp(disch:=omega)only[Za];omega),tq⟩,⟨_,rfl,d9 ?_⟩,tq⟩;rw[Zb,Zd,Ze];show(wv (dc b i)).set i (.int .u32 (o5 (sub b (4*i) 4)).toNat)=_;rw[aU,qn b a9]
 obtain rfl:i=4:=(by omega);refine⟨_,rfl,rfl,?_⟩;refine⟨[],_,_,_,_,pk (x:=A6 b) (o:=0) hk (by decide),rfl,rfl,?_⟩;refine⟨Zc _,?_⟩;refine j9 (fun i=>⟨[(0,M4 k s),(8,.p (.k 0) 0),(87,i64 i)],[.mx [u32 (cw k s (wh k 0 (A6 b)) i).1,u32 (cw k s (wh k 0 (A6 b)) i).2.1,u32 (cw k s (wh k 0 (A6 b)) i).2.2.1,u32 (cw k s (wh k 0 (A6 b)) i).2.2.2]]⟩) 16 ⟨[.k 0],⟨rfl,rfl,rfl,tq⟩,⟨_,rfl,rfl⟩,tq⟩ fun i hi=> ?_;have hst:=En k s (wh k 0 (A6 b)) i;generalize hx:cw k s (wh k 0 (A6 b)) i=x at hst ⊢;refine c9 (fun h=> ?_) (fun h=> ?_)
 ·have a9:i<16:=(by omega);refine⟨by decide,by decide,_,rfl,by decide,by decide,_,rfl,?_⟩;refine⟨[],_,_,_,_,zK (r:=i) rfl rfl hk hs a9,rfl,rfl,?_⟩;refine⟨by decide,by decide,_,rfl,?_⟩;refine⟨[],_,_,_,_,bd (v:=x.2.2.1^^^nS k s x.1 x.2.1 i) (k:=31) (z6 _ _) (by decide) (by decide),rfl,rfl,?_⟩;refine⟨by decide,by decide,_,rfl,?_⟩;refine⟨[],_,_,_,_,bd (k:=1) rfl (by decide) (by decide),rfl,rfl,?_⟩;refine⟨by decide,by decide,_,rfl,by decide,by decide,_,rfl,Zc _,?_⟩;refine⟨i+1,by omega,by omega,[.k 0],⟨rfl,rfl,d7 (by simp(disch:=omega)only[Za];omega),tq⟩,⟨_,rfl,?_⟩,tq⟩;rw[hst];exact gS rfl (z6 _ _) rfl rfl
 obtain rfl:i=16:=(by omega);refine⟨by decide,by decide,_,rfl,by decide,by decide,_,rfl,by decide,by decide,_,rfl,by decide,by decide,_,rfl,?_⟩;refine⟨[],_,_,_,_,pk (x:=E9 x) (o:=4) hk (by decide),rfl,rfl,?_⟩;refine⟨Zc _,by decide,by decide,by decide,?_⟩;refine⟨_,rfl,rfl,?_⟩;have hfx:wh k 4 (E9 x)=cz k s (A6 b):=by rw[<-hx];rfl
 rw[<-hfx];generalize hy:wh k 4 (E9 x)=y;refine j9 (fun i=>⟨[(16,.o 1 (.k 0) 0 (4*i)),(128,rL y),(129,i64 i)],[.sc (bv (L5 y i))]⟩) 4 ⟨[.d 127 0],⟨rfl,?_,rfl,tq⟩,⟨_,rfl,rfl⟩,tq⟩ fun i hi=> ?_
 ·rw[<-hy];rfl
 refine c9 (fun h=> ?_) (fun h=> ?_)
 ·have a9:i<4:=(by omega);refine⟨by omega,by omega,?_⟩;refine⟨_,by rw[Zb,Zd];exact rO a9,?_⟩;refine⟨[],_,_,_,_,jX rfl,rfl,rfl,?_⟩;have hpl:(p6 (aS y i)).length=4:=E8 _;refine⟨by rw[f9];exact Z3 hpl.symm,by omega,by rw[f9,ek];omega,?_⟩;refine⟨i+1,by omega,by omega,[.d 135 0],⟨rfl,rfl,d7 (by simp(disch:=omega)only[Za];omega),tq⟩,⟨_,rfl,d9 ?_⟩,tq⟩;show sub (bv (L5 y i)) 0 (4*i*1)++sub (bv (p6 (aS y i))) 0 4=_;rw[Zd,b8 (ek y i),b8 hpl,x5,nL]
 ·obtain rfl:i=4:=(by omega);exact⟨_,rfl,[.k 0],rfl,⟨_,rfl,rfl⟩,tq⟩
theorem zO {va:List Value} {b:Bs} {k s:List UInt32} (ha:va=bv b) (hb:b.length=16) (hk:k.length=40) (hs:s.length<=4):a7 C 83 [M4 k s,.z 16 va,bool true] [] (A8 16) [.sc (bv (L5 (cy k s (A6 b)) 4))]:=by
 subst ha;refine um.c ?_;refine j9 (fun i=>⟨[(0,M4 k s),(1,.z 16 (bv b)),(2,bool true),(8,.p (.k 0) 0),(22,i64 i)],[.sc (wv (dc b i))]⟩) 4 ⟨[.d 8 0],⟨rfl,rfl,rfl,rfl,rfl,tq⟩,⟨_,rfl,rfl⟩,tq⟩ fun i hi=> ?_;refine c9 (fun h=> ?_) (fun h=> ?_)
 ·have a9:i<4:=(by omega);have e1:(I6.wrap (4*(i:Int))).toNat=4*i:=(by simp(disch:=omega)only[Za];omega);have e2:(I6.wrap (4*I6.wrap ((i:Int)+1))).toNat=4*i+4:=(by simp(disch:=omega)only[Za];omega);refine⟨by omega,(by simp(disch:=omega)only[Za];omega),by rw[e1,e2];omega,Zc _,by rw[e2];omega,?_⟩;rw[e1,e2,show 4*i+4-4*i=4 by omega];refine⟨[],_,_,_,_,cQ (l:=sub b (4*i) 4) (l4 _ _ _) (by rw[j4];omega) rfl,rfl,rfl,?_⟩;refine⟨by omega,by omega,by show 0+((i:Int)).toNat*1<4;omega,?_⟩;refine⟨i+1,by omega,by omega,[.k 0],⟨rfl,rfl,rfl,rfl,d7 (by simp(disch:=omega)only[Za];omega),tq⟩,⟨_,rfl,d9 ?_⟩,tq⟩;rw[Zb,Zd,Ze];show(wv (dc b i)).set i (.int .u32 (o5 (sub b (4*i) 4)).toNat)=_;rw[aU,qn b a9]
 obtain rfl:i=4:=(by omega);refine⟨_,rfl,rfl,?_⟩;refine⟨[],_,_,_,_,pk (x:=A6 b) (o:=4) hk (by decide),rfl,rfl,?_⟩;refine⟨Zc _,?_⟩;refine j9 (fun i=>⟨[(0,M4 k s),(8,.p (.k 0) 0),(10,i64 (15-i))],[.mx [u32 (bI k s (wh k 4 (A6 b)) i).1,u32 (bI k s (wh k 4 (A6 b)) i).2.1,u32 (bI k s (wh k 4 (A6 b)) i).2.2.1,u32 (bI k s (wh k 4 (A6 b)) i).2.2.2]]⟩) 16 ⟨[.k 0],⟨rfl,rfl,rfl,tq⟩,⟨_,rfl,rfl⟩,tq⟩ fun i hi=> ?_;have hst:=Em k s (wh k 4 (A6 b)) i;generalize hx:bI k s (wh k 4 (A6 b)) i=x at hst ⊢;refine c9 (fun h=> ?_) (fun h=> ?_)
 ·obtain⟨r,er,hr15,hri⟩:∃r:Nat,(15:Int)-i=r/\r<=15/\r=15-i:=⟨15-i,by omega,by omega,rfl⟩;rw[<-hri]at hst;rw[er];refine⟨by decide,by decide,_,rfl,by decide,by decide,_,rfl,?_⟩;refine⟨[],_,_,_,_,zK (r:=r) rfl rfl hk hs (by omega),rfl,rfl,?_⟩;refine⟨by decide,by decide,_,rfl,?_⟩;refine⟨[],_,_,_,_,bd (k:=1) rfl (by decide) (by decide),rfl,rfl,?_⟩;refine⟨by decide,by decide,_,rfl,?_⟩;refine⟨[],_,_,_,_,bd (v:=x.2.2.2^^^nT k s x.1 x.2.1 r) (k:=31) (z6 _ _) (by decide) (by decide),rfl,rfl,?_⟩;refine⟨by decide,by decide,_,rfl,by decide,by decide,_,rfl,Zc _,?_⟩;refine⟨i+1,by omega,by omega,[.k 0],⟨rfl,rfl,d7 ?_,tq⟩,⟨_,rfl,?_⟩,tq⟩
  ·rw[Za _ (by omega)];omega
  rw[hst];exact gS (z6 _ _) rfl rfl rfl
 obtain rfl:i=16:=(by omega);refine⟨by decide,by decide,_,rfl,by decide,by decide,_,rfl,by decide,by decide,_,rfl,by decide,by decide,_,rfl,Zc _,?_⟩;refine⟨_,rfl,rfl,?_⟩;refine⟨[],_,_,_,_,pk (x:=E9 x) (o:=0) hk (by decide),rfl,rfl,?_⟩;refine⟨Zc _,by decide,by decide,by decide,?_⟩;refine⟨_,rfl,rfl,?_⟩;have hfx:wh k 0 (E9 x)=cy k s (A6 b):=by rw[<-hx];rfl
 rw[<-hfx];generalize hy:wh k 0 (E9 x)=y;refine j9 (fun i=>⟨[(16,.o 1 (.k 0) 0 (4*i)),(128,rL y),(129,i64 i)],[.sc (bv (L5 y i))]⟩) 4 ⟨[.d 127 0],⟨rfl,?_,rfl,tq⟩,⟨_,rfl,rfl⟩,tq⟩ fun i hi=> ?_
 ·rw[<-hy];rfl
 refine c9 (fun h=> ?_) (fun h=> ?_)
 ·have a9:i<4:=(by omega);refine⟨by omega,by omega,?_⟩;refine⟨_,by rw[Zb,Zd];exact rO a9,?_⟩;refine⟨[],_,_,_,_,jX rfl,rfl,rfl,?_⟩;have hpl:(p6 (aS y i)).length=4:=E8 _;refine⟨by rw[f9];exact Z3 hpl.symm,by omega,by rw[f9,ek];omega,?_⟩;refine⟨i+1,by omega,by omega,[.d 135 0],⟨rfl,rfl,d7 (by simp(disch:=omega)only[Za];omega),tq⟩,⟨_,rfl,d9 ?_⟩,tq⟩;show sub (bv (L5 y i)) 0 (4*i*1)++sub (bv (p6 (aS y i))) 0 4=_;rw[Zd,b8 (ek y i),b8 hpl,x5,nL]
 ·obtain rfl:i=4:=(by omega);exact⟨_,rfl,[.k 0],rfl,⟨_,rfl,rfl⟩,tq⟩
theorem zN {va:List Value} {k s:List UInt32} {n:Nat} {back:Bool} (hn:n≠16):a7 C 83 [M4 k s,.z n va,bool back] [] R9 []:=by
 refine um.c ?_;refine o9 (fun h=> ?_) (fun h=>absurd (by omega) hn);exact⟨_,rfl,[],rfl,tq⟩
abbrev N3 (l:Bs):Value:= .string ⟨l.toArray⟩
theorem LQ {w:Nat} (hw:w<2):a7 C 274 [i64 w] [] (.ret (.o 1 (.k 0) 0 4)) [.sc [N3 (D2 w 0),N3 (D2 w 1),N3 (D2 w 2),N3 (D2 w 3)]]:=by
 rcases w with _|_|w
 ·exact AZ.c ⟨_,rfl,[.d 5 0],rfl,⟨_,rfl,rfl⟩,tq⟩
 ·exact AZ.c ⟨_,rfl,[.d 6 0],rfl,⟨_,rfl,rfl⟩,tq⟩
 ·omega
theorem Wv:∀a,a<16->∀c,c<16->I6.wrap ((Zh I6.bits ((a:Nat):Int)^^^Zh I6.bits ((c:Nat):Int)).toNat:Int)=((a^^^c:Nat):Int):=by decide +kernel
theorem Ww:∀a,a<16->∀c,c<16->I6.wrap ((Zh I6.bits (I6.wrap ((Zh I6.bits ((a:Nat):Int)^^^Zh I6.bits (I6.wrap ((Zh I6.bits (((c:Nat):Int).fdiv (2^(min (1:Int).toNat I6.bits)))|||Zh I6.bits (I6.wrap ((Zh I6.bits (I6.wrap (((c:Nat):Int)*2^(min (3:Int).toNat I6.bits)))&&&Zh I6.bits 8).toNat:Int))).toNat:Int))).toNat:Int))^^^Zh I6.bits ((I6.wrap (8*((a:Nat):Int))).tmod 16)).toNat:Int)=((qf a c:Nat):Int):=by decide +kernel
theorem Wx:∀a,a<16->∀c,c<16->U8.wrap (I6.wrap (I6.wrap (16*((c:Nat):Int))+((a:Nat):Int)))=(((Zp (16*c+a)).toNat:Nat):Int):=by decide +kernel
theorem Wy:∀x:Nat,x<256->I6.wrap (((x:Nat):Int).fdiv (2^(min (4:Int).toNat U8.bits)))=((x/16:Nat):Int)/\I6.wrap (U8.wrap ((Zh U8.bits ((x:Nat):Int)&&&Zh U8.bits 15).toNat:Int))=((x%16:Nat):Int):=by decide +kernel
theorem DL {w i:Nat} (hi:i<4):([N3 (D2 w 0),N3 (D2 w 1),N3 (D2 w 2),N3 (D2 w 3)]:List Value)[i]? =some (N3 (D2 w i)):=by
 rcases i with _|_|_|_|i;all_goals first|rfl|omega
theorem LO {w:Nat} {z:Int} {x:UInt8} (hw:w<2) (hz:z=x.toNat):a7 C 263 [i64 w,vi .u8 z] [] (.ret (u8 (tQ w x))) []:=by
 subst hz;have hx:=x.toNat_lt;refine Sc.c ?_;refine⟨[],_,_,_,_,LQ hw,rfl,rfl,?_⟩;refine⟨by decide,?_⟩;obtain⟨x1,x2⟩:=Wy x.toNat hx;refine j9 (fun i=>⟨[(5,.z 4 [N3 (D2 w 0),N3 (D2 w 1),N3 (D2 w 2),N3 (D2 w 3)]),(6,i64 ((ai w x i).1:Nat)),(7,i64 ((ai w x i).2:Nat)),(8,i64 i)],[]⟩) 2 ⟨[],⟨rfl,d7 x1,d7 x2,rfl,tq⟩,tq⟩ fun i hi=> ?_;obtain⟨s1,s2⟩:=vw hw x i hi;have hsi:ai w x (i+1)=qS w i (ai w x i):=rfl;generalize hp:ai w x i=p at s1 s2 hsi ⊢;refine c9 (fun h=> ?_) (fun h=> ?_)
 ·have a9:i<2:=(by omega);obtain⟨f1,f2⟩:=vx p.1 s1 p.2 s2;obtain⟨r1,r2⟩:=kU w hw (2*i) (by omega);obtain⟨r3,r4⟩:=kU w hw (2*i+1) (by omega);have ee:=Wv p.1 s1 p.2 s2;have ef:=Ww p.1 s1 p.2 s2;have e0:(I6.wrap (2*(i:Int))).toNat=2*i:=(by simp(disch:=omega)only[Za];omega);have e1:(I6.wrap (I6.wrap (2*(i:Int))+1)).toNat=2*i+1:=(by simp(disch:=omega)only[Za];omega);refine⟨by decide,by decide,by decide,?_⟩;refine⟨(by simp(disch:=omega)only[Za];omega),by omega,?_⟩;refine⟨_,by rw[e0];exact DL (by omega),?_⟩;refine⟨[],_,_,_,_,oI (l:=D2 w (2*i)) rfl ee (by rw[r1];exact f2) (r2 _ f2),rfl,rfl,?_⟩;refine⟨by omega,by omega,?_⟩;refine⟨_,by rw[e1];exact DL (by omega),?_⟩;refine⟨[],_,_,_,_,oI (l:=D2 w (2*i+1)) rfl ef (by rw[r3];exact f1) (r4 _ f1),rfl,rfl,?_⟩;refine⟨i+1,by omega,by omega,[],⟨rfl,?_,?_,d7 (by simp(disch:=omega)only[Za];omega),tq⟩,tq⟩
  ·rw[hsi];rfl
  ·rw[hsi];rfl
 ·obtain rfl:i=2:=(by omega);refine⟨_,rfl,[],congrArg (vi .u8) ?_,tq⟩;rw[tQ,hp];exact Wx p.1 s1 p.2 s2
abbrev mz (y:Bs):V:= .a [u8 (y.getD 0 0),u8 (y.getD 1 0),u8 (y.getD 2 0),u8 (y.getD 3 0)]
abbrev fQ (y:Bs):B:= .mx [u8 (y.getD 0 0),u8 (y.getD 1 0),u8 (y.getD 2 0),u8 (y.getD 3 0)]
theorem mA {y:Bs} {i:Nat} (h:i<4):([u8 (y.getD 0 0),u8 (y.getD 1 0),u8 (y.getD 2 0),u8 (y.getD 3 0)]:List V)[i]? =some (u8 (y.getD i 0)):=G9 (f:=fun i=>u8 (y.getD i 0)) rfl rfl rfl rfl h
theorem xw {y:Bs} {i:Nat} (hy:y.length=4) (h:i<4) (x:UInt8):([u8 (y.getD 0 0),u8 (y.getD 1 0),u8 (y.getD 2 0),u8 (y.getD 3 0)]:List V).set i (u8 x)=[u8 ((y.set i x).getD 0 0),u8 ((y.set i x).getD 1 0),u8 ((y.set i x).getD 2 0),u8 ((y.set i x).getD 3 0)]:=by
 match y,hy with
 |[a,b,c,d],_=>
  rcases i with _|_|_|_|i;all_goals first|rfl|omega
theorem ZJ {o y i} (h:i<4):(co o y i).getD i 0=y.getD i 0:=by
 rw[List.getD_eq_getElem?_getD,Ee h];rfl
theorem bT {a b c d:Nat} {y:Bs} (hy:y.length=4) (h0:a<2) (h1:b<2) (h2:c<2) (h3:d<2):a7 C 224 [mz y,.a [i64 a,i64 b,i64 c,i64 d]] [] (.ret (mz (O3 [a,b,c,d] y))) []:=by
 have ho:∀i,i<4->([a,b,c,d].getD i 0)<2:=by
  intro i hi;rcases i with _|_|_|_|i
  ·exact h0
  ·exact h1
  ·exact h2
  ·exact h3
  ·omega
 have hg:∀i,i<4->([i64 a,i64 b,i64 c,i64 d]:List V)[i]? =some (i64 ([a,b,c,d].getD i 0:Nat)):=fun i hi=>G9 (f:=fun i=>i64 ([a,b,c,d].getD i 0:Nat)) rfl rfl rfl rfl hi;refine Sf.c ?_;refine j9 (fun i=>⟨[(2,.p (.k 0) 0),(3,.p (.k 1) 0),(4,.p (.k 2) 0),(5,i64 i)],[fQ (co [a,b,c,d] y i),.mx [i64 a,i64 b,i64 c,i64 d],.sc [.int .u8 0,.int .u8 0,.int .u8 0,.int .u8 0]]⟩) 4 ⟨[.d 2 0,.d 3 0,.d 4 0],⟨rfl,rfl,rfl,rfl,tq⟩,⟨_,rfl,rfl⟩,⟨_,rfl,rfl⟩,⟨_,rfl,rfl⟩,tq⟩ fun i hi=> ?_;refine c9 (fun h=> ?_) (fun h=> ?_)
 ·have a9:i<4:=(by omega);refine⟨by omega,by omega,?_⟩;refine⟨_,by rw[Zb,Zd,Ze];exact hg i a9,?_⟩;refine⟨by omega,by omega,?_⟩;refine⟨_,by rw[Zb,Zd,Ze];exact mA a9,?_⟩;refine⟨[],_,_,_,_,LO (ho i a9) rfl,rfl,rfl,?_⟩;refine⟨by omega,by omega,by show 0+((i:Int)).toNat*1+1<=4;omega,?_⟩;refine⟨i+1,by omega,by omega,[.k 0,.k 1,.k 2],⟨rfl,rfl,rfl,d7 (by simp(disch:=omega)only[Za];omega),tq⟩,⟨_,rfl,?_⟩,⟨_,rfl,rfl⟩,⟨_,rfl,rfl⟩,tq⟩;rw[ZJ a9];have:=xw (rq [a,b,c,d] y i) a9 (tQ ([a,b,c,d].getD i 0) (y.getD i 0));rw[Ef a9]at this;refine Eq.trans ?_ (congrArg B.mx this);clear this hg ho;rcases i with _|_|_|_|i;all_goals first|rfl|omega
 ·obtain rfl:i=4:=(by omega);refine⟨_,rfl,rfl,Zc _,_,rfl,rfl,?_⟩;exact⟨_,rfl,[],rfl,tq⟩
def ic (y:Bs) (l:UInt32) (i:Nat):Bs:=(List.range 4).map fun p=>if p<i then y.getD p 0^^^(p6 l).getD p 0 else y.getD p 0
theorem Wt (y l i):(ic y l i).length=4:=by simp[ic]
theorem Ws {y l i} (h:i<4):(ic y l i).getD i 0=y.getD i 0:=by
 rcases i with _|_|_|_|i;all_goals first|rfl|omega
theorem Wu {y l i} (h:i<4):(ic y l i).set i (y.getD i 0^^^(p6 l).getD i 0)=ic y l (i+1):=by
 rcases i with _|_|_|_|i;all_goals first|rfl|omega
theorem Wr {y l} (hy:y.length=4):ic y l 4=f8 y (p6 l):=by
 match y,hy with
 |[a,b,c,d],_=>rfl
theorem qF {a b c d a' b' c' d':V} (h1:a=a') (h2:b=b') (h3:c=c') (h4:d=d'):B.mx [a,b,c,d]=B.mx [a',b',c',d']:=by
 subst h1;subst h2;subst h3;subst h4;rfl
theorem Wf (l:UInt32) {i:Nat} (h:i<4):U8.wrap ((l.toNat:Int).fdiv (2^(min (IntKind.u64.wrap (I6.wrap (8*(i:Int)))).toNat U3.bits)))=(((p6 l).getD i 0).toNat:Int):=by
 have hl:=l.toNat_lt;rcases i with _|_|_|_|i
 ·show U8.wrap ((l.toNat:Int).fdiv (2^0))=((l.toUInt64.toUInt8).toNat:Int);simp[Zs,wrap_u8];try omega
 ·show U8.wrap ((l.toNat:Int).fdiv (2^8))=(((l.toUInt64>>>8).toUInt8).toNat:Int);simp[Zs,wrap_u8,Zx];try omega
 ·show U8.wrap ((l.toNat:Int).fdiv (2^16))=(((l.toUInt64>>>8>>>8).toUInt8).toNat:Int);simp[Zs,wrap_u8,Zx];try omega
 ·show U8.wrap ((l.toNat:Int).fdiv (2^24))=(((l.toUInt64>>>8>>>8>>>8).toUInt8).toNat:Int);simp[Zs,wrap_u8,Zx];try omega
 ·omega
theorem dJ {y:Bs} {z:Int} {l:UInt32} (hy:y.length=4) (hz:z=l.toNat):a7 C 223 [mz y,vi .u32 z] [] (.ret (mz (f8 y (p6 l)))) []:=by
 subst hz;refine Se.c ?_;refine j9 (fun i=>⟨[(1,u32 l),(2,.p (.k 0) 0),(4,.p (.k 1) 0),(5,i64 i)],[fQ (ic y l i),.sc [.int .u8 0,.int .u8 0,.int .u8 0,.int .u8 0]]⟩) 4 ⟨[.d 2 0,.d 4 0],⟨rfl,rfl,rfl,rfl,tq⟩,⟨_,rfl,rfl⟩,⟨_,rfl,rfl⟩,tq⟩ fun i hi=> ?_;refine c9 (fun h=> ?_) (fun h=> ?_)
 ·have a9:i<4:=(by omega);refine⟨by omega,by omega,?_⟩;refine⟨_,by rw[Zb,Zd,Ze];exact mA a9,?_⟩;refine⟨by simp only[IntKind.wrap_i64,D5];omega,by omega,by omega,by show 0+((i:Int)).toNat*1+1<=4;omega,?_⟩;refine⟨i+1,by omega,by omega,[.k 0,.k 1],⟨rfl,rfl,rfl,d7 (by simp(disch:=omega)only[Za];omega),tq⟩,⟨_,rfl,?_⟩,⟨_,rfl,rfl⟩,tq⟩;rw[Ws a9];have:=xw (Wt y l i) a9 (y.getD i 0^^^(p6 l).getD i 0);rw[Wu a9]at this;refine Eq.trans ?_ (congrArg B.mx this);clear this;have hv:vi .u8 (U8.wrap ((Zh U8.bits ((y.getD i 0).toNat:Int)^^^Zh U8.bits (U8.wrap ((l.toNat:Int).fdiv (2^(min (IntKind.u64.wrap (I6.wrap (8*(i:Int)))).toNat U3.bits))))).toNat:Int))=u8 (y.getD i 0^^^(p6 l).getD i 0):=by
   rw[Wf l a9];exact congrArg (vi .u8) (u7 _ _)
  rcases i with _|_|_|_|i
  ·exact qF hv rfl rfl rfl
  ·exact qF rfl hv rfl rfl
  ·exact qF rfl rfl hv rfl
  ·exact qF rfl rfl rfl hv
  ·omega
 ·obtain rfl:i=4:=(by omega);refine⟨_,rfl,rfl,Zc _,_,rfl,rfl,?_⟩;refine⟨_,rfl,[],?_,tq⟩;show mz (ic y l 4)=_;rw[Wr hy]
def zA (f:Nat->Nat->UInt8) (K:Nat):Nat->UInt32
 |0=>0
 |i+1=>zA f K i^^^((f i K).toUInt32<<<Zk (8*i))
def zP (f:Nat->Nat->UInt8) (K i k:Nat):UInt32:=zA f K i^^^((f i k).toUInt32<<<Zk (8*i))
theorem rX {f K i} (h:f i 0=0):zP f K i 0=zA f K i:=by
 unfold zP;rw[h];simp
theorem a1x (a b s:UInt32):(a^^^b)<<<s=(a<<<s)^^^(b<<<s):=by
 apply Z1;simp[BitVec.shiftLeft_xor_distrib]
theorem rW {f K i k x} (h:f i (k+1)=f i k^^^x):zP f K i (k+1)=zP f K i k^^^(x.toUInt32<<<Zk (8*i)):=by
 unfold zP;rw[h,UInt8.toUInt32_xor,a1x,UInt32.xor_assoc]
theorem Ve (a b c d:UInt8):o5 [a,b,c,d]=((a.toUInt32^^^b.toUInt32<<<8)^^^c.toUInt32<<<16)^^^d.toUInt32<<<24:=by
 apply Z1;apply BitVec.eq_of_getLsbD_eq;intro j hj;have z:∀(x:UInt8) (k:Nat),8<=k->x.toBitVec.getLsbD k=false:=fun x k h=>BitVec.getLsbD_of_ge _ _ h;simp[o5,M7,BitVec.getLsbD_setWidth,BitVec.getLsbD_shiftLeft];have hz:∀(x:UInt8) (k:Nat),(decide (k<64)&&x.toBitVec.getLsbD k)=x.toBitVec.getLsbD k:=by
  intro x k;by_cases h:k<64
  ·simp[h]
  ·simp[h,z x k (by omega)]
 by_cases h1:j<8
 ·simp[h1,show j<16 by omega,show j<24 by omega,show j<64 by omega,hj]
 ·by_cases h2:j<16
  ·simp[h1,h2,show j<24 by omega,show j<64 by omega,hj,z a j (by omega),show j-8<8 by omega,show j-8<64 by omega]
  ·by_cases h3:j<24
   ·simp[h1,h2,h3,show j<64 by omega,hj,z a j (by omega),z b (j-8) (by omega),show ¬j-8<8 by omega,show j-8-8<8 by omega,show j-8-8<64 by omega,show j-8<64 by omega,show j-8-8=j-16 by omega,show j-16<8 by omega]
    intros;omega
   ·simp[h1,h2,h3,show j<64 by omega,hj,z a j (by omega),z b (j-8) (by omega),z c (j-16) (by omega),show ¬j-8<8 by omega,show ¬j-16<8 by omega,show j-8<64 by omega,show j-8-8=j-16 by omega,show j-16<64 by omega,show j-16-8=j-24 by omega,show j-24<64 by omega,show j-8<32 by omega,show j-16<32 by omega,show j-24<32 by omega]
theorem rV {f K}:o5 (P7 f K 4 0)=zA f K 4:=by
 show o5 [f 0 K,f 1 K,f 2 K,f 3 K]=_;rw[Ve];simp[zA]
theorem Ov:∀i,i<4->∀k,k<8->([u8 1,u8 164,u8 85,u8 135,u8 90,u8 88,u8 219,u8 158,u8 164,u8 86,u8 130,u8 243,u8 30,u8 198,u8 104,u8 229,u8 2,u8 161,u8 252,u8 193,u8 71,u8 174,u8 61,u8 25,u8 164,u8 85,u8 135,u8 90,u8 88,u8 219,u8 158,u8 3]:List V)[i*8+k]? =some (u8 ((fR i).getD k 0)):=by
 intro i hi k hk;rcases i with _|_|_|_|i;all_goals first|omega|(rcases k with _|_|_|_|_|_|_|_|k<;>first|rfl|omega)
theorem uP:∀i,i<4->∀k,k<4->([u8 1,u8 239,u8 91,u8 91,u8 91,u8 239,u8 239,u8 1,u8 239,u8 91,u8 1,u8 239,u8 239,u8 1,u8 239,u8 91]:List V)[i*4+k]? =some (u8 ((K5 i).getD k 0)):=by
 intro i hi k hk;rcases i with _|_|_|_|i;all_goals first|omega|(rcases k with _|_|_|_|k<;>first|rfl|omega)
theorem rY {z x:UInt32} {b:UInt8} {i:Nat} (hi:i<4):U3.wrap ((Zh U3.bits (z.toNat:Int)^^^Zh U3.bits (U3.wrap (U3.wrap (b.toNat:Int)*2^(min (IntKind.u64.wrap (I6.wrap (8*(i:Int)))).toNat U3.bits)))).toNat:Int)=((z^^^(b.toUInt32<<<Zk (8*i))).toNat:Int):=by
 have e:IntKind.u64.wrap (I6.wrap (8*(i:Int)))=((8*i:Nat):Int):=by simp only[IntKind.wrap_i64,D5];omega
 rw[e,a1D,mc _ _ (by omega) (by omega),Zb,z6]
theorem tl {va:List Value} {m:Bs} (ha:va=bv m) (hm:m.length=8):a7 C 167 [.z 8 va] [] (.ret (u32 (gD m))) []:=by
 subst ha;have hm0:∀p,H5 333 fR m p 0=0:=fun _=>rfl;refine Sg.c ?_;refine⟨Zc _,?_⟩;refine j9 (fun i=>⟨[(0,.z 8 (bv m)),(3,.p (.k 0) 0),(4,u32 (zA (H5 333 fR m) 8 i)),(5,i64 i)],[.mx [u8 1,u8 164,u8 85,u8 135,u8 90,u8 88,u8 219,u8 158,u8 164,u8 86,u8 130,u8 243,u8 30,u8 198,u8 104,u8 229,u8 2,u8 161,u8 252,u8 193,u8 71,u8 174,u8 61,u8 25,u8 164,u8 85,u8 135,u8 90,u8 88,u8 219,u8 158,u8 3]]⟩) 4 ⟨[.d 3 0],⟨rfl,rfl,rfl,rfl,tq⟩,⟨_,rfl,rfl⟩,tq⟩ fun i hi=> ?_;refine c9 (fun h=> ?_) (fun h=> ?_)
 ·have a9:i<4:=(by omega);refine j9 (fun k=>⟨[(0,.z 8 (bv m)),(3,.p (.k 0) 0),(4,u32 (zP (H5 333 fR m) 8 i k)),(5,i64 i),(6,i64 k)],[.mx [u8 1,u8 164,u8 85,u8 135,u8 90,u8 88,u8 219,u8 158,u8 164,u8 86,u8 130,u8 243,u8 30,u8 198,u8 104,u8 229,u8 2,u8 161,u8 252,u8 193,u8 71,u8 174,u8 61,u8 25,u8 164,u8 85,u8 135,u8 90,u8 88,u8 219,u8 158,u8 3]]⟩) 8 ⟨[.k 0],⟨rfl,rfl,congrArg u32 (rX (hm0 i)).symm,rfl,rfl,tq⟩,⟨_,rfl,rfl⟩,tq⟩ fun k hk=> ?_;refine c9 (fun h=> ?_) (fun h=> ?_)
  ·have hkl:k<8:=(by omega);refine⟨by omega,by omega,by omega,by omega,?_⟩;refine⟨_,by simp only[Zb,Zd,Ze];exact Ov i a9 k hkl,?_⟩;refine⟨by omega,by omega,?_⟩;refine⟨_,by rw[Zb];exact A1 (by omega),?_⟩;refine⟨[],_,_,_,_,iP (m:=333) rfl rfl (by decide) (by decide),rfl,rfl,?_⟩;refine⟨by simp only[IntKind.wrap_i64,D5];omega,?_⟩;refine⟨k+1,by omega,by omega,[.k 0],⟨rfl,rfl,?_,rfl,d7 (by simp(disch:=omega)only[Za];omega),tq⟩,⟨_,rfl,rfl⟩,tq⟩;rw[rW (kK _ _ _ _ _)];exact congrArg (vi .u32) (rY (x:=0) a9)
  ·obtain rfl:k=8:=(by omega);exact⟨i+1,by omega,by omega,[.k 0],⟨rfl,rfl,rfl,d7 (by simp(disch:=omega)only[Za];omega),tq⟩,⟨_,rfl,rfl⟩,tq⟩
 ·obtain rfl:i=4:=(by omega);refine⟨_,rfl,[],?_,tq⟩;show u32 (zA (H5 333 fR m) 8 4)=_;rw[gD,rV]
theorem ga {z:Int} {x:UInt32} {n:Nat} {va:List Value} {l:List UInt32} (hz:z=x.toNat) (ha:va=wv l) (hl:l.length=n) (h4:2<=n/\n<=4):a7 C 168 [vi .u32 z,.z n va] [] (.ret (u32 (tH x l))) []:=by
 subst hz;subst ha;generalize hst:O3 (G7 0) (hG x l l.length l.length)=s;have hm0:∀p,H5 361 K5 s p 0=0:=fun _=>rfl;have hz0:f8 [0,0,0,0] (p6 x)=hG x l n 0:=by
  show List.zipWith _ _ _=p6 x
  match hp:p6 x,E8 x with
  |[a,b,c,d],_=>simp
 refine RZ.c ?_;refine⟨[],_,_,_,_,dJ (y:=[0,0,0,0]) (l:=x) rfl rfl,rfl,rfl,?_⟩;rw[hz0];refine⟨Zc _,?_⟩;rcases n with _|_|_|_|_|n
 ·omega
 ·omega
 ·refine⟨_,rfl,rfl,?_⟩;refine⟨[],_,_,_,_,bT (y:=hG x l 2 0) (bq _ _ _ _) (by decide) (by decide) (by decide) (by decide),rfl,rfl,?_⟩;refine⟨by decide,by decide,?_⟩;refine⟨_,p7 (i:=1) (by omega),?_⟩;refine⟨[],_,_,_,_,dJ (y:=O3 (G7 2) (hG x l 2 0)) (cr _ _) rfl,rfl,rfl,?_⟩;refine⟨Zc _,?_⟩;refine⟨_,rfl,rfl,?_⟩;refine⟨[],_,_,_,_,bT (y:=hG x l 2 1) (bq _ _ _ _) (by decide) (by decide) (by decide) (by decide),rfl,rfl,?_⟩;refine⟨by decide,by decide,?_⟩;refine⟨_,p7 (i:=0) (by omega),?_⟩;refine⟨[],_,_,_,_,dJ (y:=O3 (G7 1) (hG x l 2 1)) (cr _ _) rfl,rfl,rfl,?_⟩;refine⟨Zc _,?_⟩;refine⟨_,rfl,rfl,?_⟩;refine⟨[],_,_,_,_,bT (y:=hG x l 2 2) (bq _ _ _ _) (by decide) (by decide) (by decide) (by decide),rfl,rfl,?_⟩;refine⟨Zc _,Zc _,?_⟩;have hss:O3 [1,0,1,0] (hG x l 2 2)=s:=by rw[<-hst,hl];rfl
  rw[hss];refine j9 (fun i=>⟨[(5,.p (.k 0) 0),(6,.p (.k 1) 0),(7,u32 (zA (H5 361 K5 s) 4 i)),(8,i64 i)],[fQ s,.mx [u8 1,u8 239,u8 91,u8 91,u8 91,u8 239,u8 239,u8 1,u8 239,u8 91,u8 1,u8 239,u8 239,u8 1,u8 239,u8 91]]⟩) 4 ⟨[.d 5 0,.d 6 0],⟨rfl,rfl,rfl,rfl,tq⟩,⟨_,rfl,rfl⟩,⟨_,rfl,rfl⟩,tq⟩ fun i hi=> ?_;refine c9 (fun h=> ?_) (fun h=> ?_)
  ·have a9:i<4:=(by omega);refine j9 (fun k=>⟨[(5,.p (.k 0) 0),(6,.p (.k 1) 0),(7,u32 (zP (H5 361 K5 s) 4 i k)),(8,i64 i),(9,i64 k)],[fQ s,.mx [u8 1,u8 239,u8 91,u8 91,u8 91,u8 239,u8 239,u8 1,u8 239,u8 91,u8 1,u8 239,u8 239,u8 1,u8 239,u8 91]]⟩) 4 ⟨[.k 0,.k 1],⟨rfl,rfl,congrArg u32 (rX (hm0 i)).symm,rfl,rfl,tq⟩,⟨_,rfl,rfl⟩,⟨_,rfl,rfl⟩,tq⟩ fun k hk=> ?_;refine c9 (fun h=> ?_) (fun h=> ?_)
   ·have hkl:k<4:=(by omega);refine⟨by omega,by omega,by omega,by omega,?_⟩;refine⟨_,by simp only[Zb,Zd,Ze];exact uP i a9 k hkl,?_⟩;refine⟨by omega,by omega,?_⟩;refine⟨_,by simp only[Zb,Zd,Ze];exact mA hkl,?_⟩;refine⟨[],_,_,_,_,iP (m:=361) rfl rfl (by decide) (by decide),rfl,rfl,?_⟩;refine⟨by simp only[IntKind.wrap_i64,D5];omega,?_⟩;refine⟨k+1,by omega,by omega,[.k 0,.k 1],⟨rfl,rfl,?_,rfl,d7 (by simp(disch:=omega)only[Za];omega),tq⟩,⟨_,rfl,rfl⟩,⟨_,rfl,rfl⟩,tq⟩;rw[rW (kK _ _ _ _ _)];exact congrArg (vi .u32) (rY (x:=0) a9)
   ·obtain rfl:k=4:=(by omega);exact⟨i+1,by omega,by omega,[.k 0,.k 1],⟨rfl,rfl,rfl,d7 (by simp(disch:=omega)only[Za];omega),tq⟩,⟨_,rfl,rfl⟩,⟨_,rfl,rfl⟩,tq⟩
  ·obtain rfl:i=4:=(by omega);refine⟨_,rfl,[],?_,tq⟩;show u32 (zA (H5 361 K5 s) 4 4)=_;rw[tH,hst,rV]
 ·refine⟨_,rfl,rfl,?_⟩;refine⟨[],_,_,_,_,bT (y:=hG x l 3 0) (bq _ _ _ _) (by decide) (by decide) (by decide) (by decide),rfl,rfl,?_⟩;refine⟨by decide,by decide,?_⟩;refine⟨_,p7 (i:=2) (by omega),?_⟩;refine⟨[],_,_,_,_,dJ (y:=O3 (G7 3) (hG x l 3 0)) (cr _ _) rfl,rfl,rfl,?_⟩;refine⟨Zc _,?_⟩;refine⟨_,rfl,rfl,?_⟩;refine⟨[],_,_,_,_,bT (y:=hG x l 3 1) (bq _ _ _ _) (by decide) (by decide) (by decide) (by decide),rfl,rfl,?_⟩;refine⟨by decide,by decide,?_⟩;refine⟨_,p7 (i:=1) (by omega),?_⟩;refine⟨[],_,_,_,_,dJ (y:=O3 (G7 2) (hG x l 3 1)) (cr _ _) rfl,rfl,rfl,?_⟩;refine⟨Zc _,?_⟩;refine⟨_,rfl,rfl,?_⟩;refine⟨[],_,_,_,_,bT (y:=hG x l 3 2) (bq _ _ _ _) (by decide) (by decide) (by decide) (by decide),rfl,rfl,?_⟩;refine⟨by decide,by decide,?_⟩;refine⟨_,p7 (i:=0) (by omega),?_⟩;refine⟨[],_,_,_,_,dJ (y:=O3 (G7 1) (hG x l 3 2)) (cr _ _) rfl,rfl,rfl,?_⟩;refine⟨Zc _,?_⟩;refine⟨_,rfl,rfl,?_⟩;refine⟨[],_,_,_,_,bT (y:=hG x l 3 3) (bq _ _ _ _) (by decide) (by decide) (by decide) (by decide),rfl,rfl,?_⟩;refine⟨Zc _,Zc _,?_⟩;have hss:O3 [1,0,1,0] (hG x l 3 3)=s:=by rw[<-hst,hl];rfl
  rw[hss];refine j9 (fun i=>⟨[(5,.p (.k 0) 0),(6,.p (.k 1) 0),(7,u32 (zA (H5 361 K5 s) 4 i)),(8,i64 i)],[fQ s,.mx [u8 1,u8 239,u8 91,u8 91,u8 91,u8 239,u8 239,u8 1,u8 239,u8 91,u8 1,u8 239,u8 239,u8 1,u8 239,u8 91]]⟩) 4 ⟨[.d 5 0,.d 6 0],⟨rfl,rfl,rfl,rfl,tq⟩,⟨_,rfl,rfl⟩,⟨_,rfl,rfl⟩,tq⟩ fun i hi=> ?_;refine c9 (fun h=> ?_) (fun h=> ?_)
  ·have a9:i<4:=(by omega);refine j9 (fun k=>⟨[(5,.p (.k 0) 0),(6,.p (.k 1) 0),(7,u32 (zP (H5 361 K5 s) 4 i k)),(8,i64 i),(9,i64 k)],[fQ s,.mx [u8 1,u8 239,u8 91,u8 91,u8 91,u8 239,u8 239,u8 1,u8 239,u8 91,u8 1,u8 239,u8 239,u8 1,u8 239,u8 91]]⟩) 4 ⟨[.k 0,.k 1],⟨rfl,rfl,congrArg u32 (rX (hm0 i)).symm,rfl,rfl,tq⟩,⟨_,rfl,rfl⟩,⟨_,rfl,rfl⟩,tq⟩ fun k hk=> ?_;refine c9 (fun h=> ?_) (fun h=> ?_)
   ·have hkl:k<4:=(by omega);refine⟨by omega,by omega,by omega,by omega,?_⟩;refine⟨_,by simp only[Zb,Zd,Ze];exact uP i a9 k hkl,?_⟩;refine⟨by omega,by omega,?_⟩;refine⟨_,by simp only[Zb,Zd,Ze];exact mA hkl,?_⟩;refine⟨[],_,_,_,_,iP (m:=361) rfl rfl (by decide) (by decide),rfl,rfl,?_⟩;refine⟨by simp only[IntKind.wrap_i64,D5];omega,?_⟩;refine⟨k+1,by omega,by omega,[.k 0,.k 1],⟨rfl,rfl,?_,rfl,d7 (by simp(disch:=omega)only[Za];omega),tq⟩,⟨_,rfl,rfl⟩,⟨_,rfl,rfl⟩,tq⟩;rw[rW (kK _ _ _ _ _)];exact congrArg (vi .u32) (rY (x:=0) a9)
   ·obtain rfl:k=4:=(by omega);exact⟨i+1,by omega,by omega,[.k 0,.k 1],⟨rfl,rfl,rfl,d7 (by simp(disch:=omega)only[Za];omega),tq⟩,⟨_,rfl,rfl⟩,⟨_,rfl,rfl⟩,tq⟩
  ·obtain rfl:i=4:=(by omega);refine⟨_,rfl,[],?_,tq⟩;show u32 (zA (H5 361 K5 s) 4 4)=_;rw[tH,hst,rV]
 ·refine⟨_,rfl,rfl,?_⟩;refine⟨[],_,_,_,_,bT (y:=hG x l 4 0) (bq _ _ _ _) (by decide) (by decide) (by decide) (by decide),rfl,rfl,?_⟩;refine⟨by decide,by decide,?_⟩;refine⟨_,p7 (i:=3) (by omega),?_⟩;refine⟨[],_,_,_,_,dJ (y:=O3 (G7 4) (hG x l 4 0)) (cr _ _) rfl,rfl,rfl,?_⟩;refine⟨Zc _,?_⟩;refine⟨_,rfl,rfl,?_⟩;refine⟨[],_,_,_,_,bT (y:=hG x l 4 1) (bq _ _ _ _) (by decide) (by decide) (by decide) (by decide),rfl,rfl,?_⟩;refine⟨by decide,by decide,?_⟩;refine⟨_,p7 (i:=2) (by omega),?_⟩;refine⟨[],_,_,_,_,dJ (y:=O3 (G7 3) (hG x l 4 1)) (cr _ _) rfl,rfl,rfl,?_⟩;refine⟨Zc _,?_⟩;refine⟨_,rfl,rfl,?_⟩;refine⟨[],_,_,_,_,bT (y:=hG x l 4 2) (bq _ _ _ _) (by decide) (by decide) (by decide) (by decide),rfl,rfl,?_⟩;refine⟨by decide,by decide,?_⟩;refine⟨_,p7 (i:=1) (by omega),?_⟩;refine⟨[],_,_,_,_,dJ (y:=O3 (G7 2) (hG x l 4 2)) (cr _ _) rfl,rfl,rfl,?_⟩;refine⟨Zc _,?_⟩;refine⟨_,rfl,rfl,?_⟩;refine⟨[],_,_,_,_,bT (y:=hG x l 4 3) (bq _ _ _ _) (by decide) (by decide) (by decide) (by decide),rfl,rfl,?_⟩;refine⟨by decide,by decide,?_⟩;refine⟨_,p7 (i:=0) (by omega),?_⟩;refine⟨[],_,_,_,_,dJ (y:=O3 (G7 1) (hG x l 4 3)) (cr _ _) rfl,rfl,rfl,?_⟩;refine⟨Zc _,?_⟩;refine⟨_,rfl,rfl,?_⟩;refine⟨[],_,_,_,_,bT (y:=hG x l 4 4) (bq _ _ _ _) (by decide) (by decide) (by decide) (by decide),rfl,rfl,?_⟩;refine⟨Zc _,Zc _,?_⟩;have hss:O3 [1,0,1,0] (hG x l 4 4)=s:=by rw[<-hst,hl];rfl
  rw[hss];refine j9 (fun i=>⟨[(5,.p (.k 0) 0),(6,.p (.k 1) 0),(7,u32 (zA (H5 361 K5 s) 4 i)),(8,i64 i)],[fQ s,.mx [u8 1,u8 239,u8 91,u8 91,u8 91,u8 239,u8 239,u8 1,u8 239,u8 91,u8 1,u8 239,u8 239,u8 1,u8 239,u8 91]]⟩) 4 ⟨[.d 5 0,.d 6 0],⟨rfl,rfl,rfl,rfl,tq⟩,⟨_,rfl,rfl⟩,⟨_,rfl,rfl⟩,tq⟩ fun i hi=> ?_;refine c9 (fun h=> ?_) (fun h=> ?_)
  ·have a9:i<4:=(by omega);refine j9 (fun k=>⟨[(5,.p (.k 0) 0),(6,.p (.k 1) 0),(7,u32 (zP (H5 361 K5 s) 4 i k)),(8,i64 i),(9,i64 k)],[fQ s,.mx [u8 1,u8 239,u8 91,u8 91,u8 91,u8 239,u8 239,u8 1,u8 239,u8 91,u8 1,u8 239,u8 239,u8 1,u8 239,u8 91]]⟩) 4 ⟨[.k 0,.k 1],⟨rfl,rfl,congrArg u32 (rX (hm0 i)).symm,rfl,rfl,tq⟩,⟨_,rfl,rfl⟩,⟨_,rfl,rfl⟩,tq⟩ fun k hk=> ?_;refine c9 (fun h=> ?_) (fun h=> ?_)
   ·have hkl:k<4:=(by omega);refine⟨by omega,by omega,by omega,by omega,?_⟩;refine⟨_,by simp only[Zb,Zd,Ze];exact uP i a9 k hkl,?_⟩;refine⟨by omega,by omega,?_⟩;refine⟨_,by simp only[Zb,Zd,Ze];exact mA hkl,?_⟩;refine⟨[],_,_,_,_,iP (m:=361) rfl rfl (by decide) (by decide),rfl,rfl,?_⟩;refine⟨by simp only[IntKind.wrap_i64,D5];omega,?_⟩;refine⟨k+1,by omega,by omega,[.k 0,.k 1],⟨rfl,rfl,?_,rfl,d7 (by simp(disch:=omega)only[Za];omega),tq⟩,⟨_,rfl,rfl⟩,⟨_,rfl,rfl⟩,tq⟩;rw[rW (kK _ _ _ _ _)];exact congrArg (vi .u32) (rY (x:=0) a9)
   ·obtain rfl:k=4:=(by omega);exact⟨i+1,by omega,by omega,[.k 0,.k 1],⟨rfl,rfl,rfl,d7 (by simp(disch:=omega)only[Za];omega),tq⟩,⟨_,rfl,rfl⟩,⟨_,rfl,rfl⟩,tq⟩
  ·obtain rfl:i=4:=(by omega);refine⟨_,rfl,[],?_,tq⟩;show u32 (zA (H5 361 K5 s) 4 4)=_;rw[tH,hst,rV]
 ·omega
theorem gM (l:Bs):U3.wrap ((M7 l.reverse).toNat:Int)=((o5 l).toNat:Int):=me _
theorem vT:∀r:Nat,r<20->U3.wrap (I6.wrap (2*(r:Int)))=((2*Zk r).toNat:Int):=by decide +kernel
theorem vU:∀r:Nat,r<20->U3.wrap (I6.wrap (I6.wrap (2*(r:Int))+1))=((2*Zk r+1).toNat:Int):=by decide +kernel
theorem LP {n m:Nat} {va:List Value} {key:Bs} (ha:va=bv key) (hk:key.length=m) (hm:m=8*n) (hn:2<=n/\n<=4):
  a7 C 111 [.z m va] [] (.ret (.t [.o 1 (.k 0) 0 40,.z n (wv (tS key)),i64 0])) [.sc (wv (tK key))]:=by
 subst ha;subst hm;have hdiv:key.length/8=n:=by omega
 have hK:tK key=S6 (r9 key n) (s3 key n) 20:=by rw[tK,hdiv]
 have hS:tS key=(K9 key n).reverse:=by rw[tS,hdiv]
 rw[hK,hS];have e2:∀x:UInt32,U3.wrap (2*(x.toNat:Int))=((2*x).toNat:Int):=fun x=>jq 2 x;have e3:∀x:UInt32,U3.wrap ((x.toNat:Int)*16843009)=((x*aP).toNat:Int):=fun x=>jq x aP;refine Sa.c ?_;rcases n with _|_|_|_|_|n
 ·omega
 ·omega
 ·refine B1 (fun i=>⟨[(0,.z 16 (bv key)),(5,.o 1 (.k 0) 0 i),(6,.o 1 (.k 1) 0 i),(7,.o 1 (.k 2) 0 i),(8,g8),(9,i64 (8*i:Nat))],[.sc (wv (r9 key i)),.sc (wv (s3 key i)),.sc (wv (K9 key i).reverse)]⟩) 2 [(5,1,.sc []),(6,1,.sc []),(7,1,.sc [])] ⟨[.d 900000 0,.d 900000 1,.d 900000 2],⟨rfl,rfl,rfl,rfl,rfl,rfl,tq⟩,⟨_,rfl,rfl⟩,⟨_,rfl,rfl⟩,⟨_,rfl,rfl⟩,tq⟩ fun i hi=> ?_;refine c9 (fun h=> ?_) (fun h=> ?_)
  ·have a9:i<2:=(by omega);have f1:(I6.wrap (((8*i:Nat):Int)+4)).toNat=8*i+4:=(by simp(disch:=omega)only[Za];omega);have f2:(I6.wrap (((8*i:Nat):Int)+8)).toNat=8*i+8:=(by simp(disch:=omega)only[Za];omega);refine⟨by omega,by omega,by rw[f1];omega,Zc _,by rw[f1];show _<=16;omega,?_⟩;rw[f1,Zb,show 8*i+4-8*i=4 by omega];refine⟨[],_,_,_,_,eN (l:=sub key (8*i) 4) (l4 _ _ _) (by rw[j4];omega) (by decide),rfl,rfl,?_⟩;refine⟨Zc _,by omega,by rw[t3,N4];omega,?_⟩;refine⟨by omega,by omega,by rw[f1,f2];omega,Zc _,by rw[f2];show _<=16;omega,?_⟩;rw[f1,f2,show 8*i+8-(8*i+4)=4 by omega];refine⟨[],_,_,_,_,eN (l:=sub key (8*i+4) 4) (l4 _ _ _) (by rw[j4];omega) (by decide),rfl,rfl,?_⟩;refine⟨Zc _,by omega,by rw[t3,N5];omega,?_⟩;refine⟨by omega,by omega,by rw[f2];omega,Zc _,by rw[f2];show _<=16;omega,?_⟩;rw[f2,Zb,show 8*i+8-8*i=8 by omega];refine⟨[],_,_,_,_,tl (m:=sub key (8*i) 8) (l4 _ _ _) (by rw[j4];omega),rfl,rfl,?_⟩;refine⟨by rw[t3,Zj,M3];omega,by omega,Zc _,?_⟩;refine⟨i+1,by omega,by omega,[.d 41 0,.d 52 0,.d 61 0],⟨rfl,rfl,rfl,?_,rfl,d7 (by simp(disch:=omega)only[Za];omega),tq⟩,⟨_,rfl,d9 ?_⟩,⟨_,rfl,d9 ?_⟩,⟨_,rfl,d9 ?_⟩,tq⟩
   ·show V.o 1 _ 0 _=V.o 1 _ 0 _;rw[Z6]
   ·rw[lW];show sub (wv (r9 key i)) 0 (i*1)++[Value.int .u32 (U3.wrap ((M7 (sub key (8*i) 4).reverse).toNat:Int))]=_;rw[gM,Zd];exact O6 (by rw[N4])
   ·rw[ma];show sub (wv (s3 key i)) 0 (i*1)++[Value.int .u32 (U3.wrap ((M7 (sub key (8*i+4) 4).reverse).toNat:Int))]=_;rw[gM,Zd];exact O6 (by rw[N5])
   ·rw[lZ,Z0];show[Value.int .u32 ((gD (sub key (8*i) 8)).toNat:Int)]++sub (wv (K9 key i).reverse) 0 (i*1)=_;rw[Zd,y8 (by rw[Zj,M3])];rfl
  ·obtain rfl:i=2:=(by omega);refine B1 (fun r=>⟨[(5,.z 2 (wv (r9 key 2))),(6,.z 2 (wv (s3 key 2))),(7,.z 2 (wv (K9 key 2).reverse)),(8,.o 1 (.k 0) 0 (2*r)),(10,i64 r)],[.sc (wv (S6 (r9 key 2) (s3 key 2) r))]⟩) 20 [(8,1,.sc [])] ⟨[.d 900000 0],⟨?_,?_,?_,rfl,rfl,tq⟩,⟨_,rfl,rfl⟩,tq⟩ fun r hr=> ?_
   ·show V.z 2 (sub _ 0 2)=_;rw[y8 (N4 _ _)]
   ·show V.z 2 (sub _ 0 2)=_;rw[y8 (N5 _ _)]
   ·show V.z 2 (sub _ 0 2)=_;rw[y8 (by rw[Zj,M3])]
   have hkl:=gH (r9 key 2) (s3 key 2) r;refine c9 (fun h=> ?_) (fun h=> ?_)
   ·have a9:r<20:=(by omega);refine⟨[],_,_,_,_,ga (x:=2*Zk r*aP) (l:=r9 key 2) (by rw[vT r a9,e3]) rfl (N4 _ _) (by decide),rfl,rfl,?_⟩;refine⟨[],_,_,_,_,ga (x:=(2*Zk r+1)*aP) (l:=s3 key 2) (by rw[vU r a9,e3]) rfl (N5 _ _) (by decide),rfl,rfl,?_⟩;refine⟨[],_,_,_,_,S3 (k:=8) rfl (by decide) (by decide),rfl,rfl,?_⟩;refine⟨[],_,_,_,_,S3 (v:=W1 (r9 key 2) r+2*W5 (s3 key 2) r) (k:=9) (by rw[e2];exact s6 _ _) (by decide) (by decide),rfl,rfl,?_⟩;refine⟨Zc _,by omega,by rw[t3,hkl];omega,?_⟩;refine⟨r+1,by omega,by omega,[.d 90 0],⟨rfl,rfl,rfl,rfl,d7 (by simp(disch:=omega)only[Za];omega),tq⟩,⟨_,rfl,d9 ?_⟩,tq⟩;show sub (wv (S6 (r9 key 2) (s3 key 2) r)) 0 (2*r*1)++[Value.int .u32 (U3.wrap (((W1 (r9 key 2) r).toNat:Int)+((W5 (s3 key 2) r).toNat:Int))),Value.int .u32 ((C3 (W1 (r9 key 2) r+2*W5 (s3 key 2) r) 9).toNat:Int)]=_;rw[Zd,y8 hkl,s6,nq,<-mg];rfl
   ·obtain rfl:r=20:=(by omega);exact⟨_,rfl,[.k 0],rfl,⟨_,rfl,rfl⟩,tq⟩
 ·refine B1 (fun i=>⟨[(0,.z 24 (bv key)),(5,.o 1 (.k 0) 0 i),(6,.o 1 (.k 1) 0 i),(7,.o 1 (.k 2) 0 i),(8,g8),(9,i64 (8*i:Nat))],[.sc (wv (r9 key i)),.sc (wv (s3 key i)),.sc (wv (K9 key i).reverse)]⟩) 3 [(5,1,.sc []),(6,1,.sc []),(7,1,.sc [])] ⟨[.d 900000 0,.d 900000 1,.d 900000 2],⟨rfl,rfl,rfl,rfl,rfl,rfl,tq⟩,⟨_,rfl,rfl⟩,⟨_,rfl,rfl⟩,⟨_,rfl,rfl⟩,tq⟩ fun i hi=> ?_;refine c9 (fun h=> ?_) (fun h=> ?_)
  ·have a9:i<3:=(by omega);have f1:(I6.wrap (((8*i:Nat):Int)+4)).toNat=8*i+4:=(by simp(disch:=omega)only[Za];omega);have f2:(I6.wrap (((8*i:Nat):Int)+8)).toNat=8*i+8:=(by simp(disch:=omega)only[Za];omega);refine⟨by omega,by omega,by rw[f1];omega,Zc _,by rw[f1];show _<=24;omega,?_⟩;rw[f1,Zb,show 8*i+4-8*i=4 by omega];refine⟨[],_,_,_,_,eN (l:=sub key (8*i) 4) (l4 _ _ _) (by rw[j4];omega) (by decide),rfl,rfl,?_⟩;refine⟨Zc _,by omega,by rw[t3,N4];omega,?_⟩;refine⟨by omega,by omega,by rw[f1,f2];omega,Zc _,by rw[f2];show _<=24;omega,?_⟩;rw[f1,f2,show 8*i+8-(8*i+4)=4 by omega];refine⟨[],_,_,_,_,eN (l:=sub key (8*i+4) 4) (l4 _ _ _) (by rw[j4];omega) (by decide),rfl,rfl,?_⟩;refine⟨Zc _,by omega,by rw[t3,N5];omega,?_⟩;refine⟨by omega,by omega,by rw[f2];omega,Zc _,by rw[f2];show _<=24;omega,?_⟩;rw[f2,Zb,show 8*i+8-8*i=8 by omega];refine⟨[],_,_,_,_,tl (m:=sub key (8*i) 8) (l4 _ _ _) (by rw[j4];omega),rfl,rfl,?_⟩;refine⟨by rw[t3,Zj,M3];omega,by omega,Zc _,?_⟩;refine⟨i+1,by omega,by omega,[.d 41 0,.d 52 0,.d 61 0],⟨rfl,rfl,rfl,?_,rfl,d7 (by simp(disch:=omega)only[Za];omega),tq⟩,⟨_,rfl,d9 ?_⟩,⟨_,rfl,d9 ?_⟩,⟨_,rfl,d9 ?_⟩,tq⟩
   ·show V.o 1 _ 0 _=V.o 1 _ 0 _;rw[Z6]
   ·rw[lW];show sub (wv (r9 key i)) 0 (i*1)++[Value.int .u32 (U3.wrap ((M7 (sub key (8*i) 4).reverse).toNat:Int))]=_;rw[gM,Zd];exact O6 (by rw[N4])
   ·rw[ma];show sub (wv (s3 key i)) 0 (i*1)++[Value.int .u32 (U3.wrap ((M7 (sub key (8*i+4) 4).reverse).toNat:Int))]=_;rw[gM,Zd];exact O6 (by rw[N5])
   ·rw[lZ,Z0];show[Value.int .u32 ((gD (sub key (8*i) 8)).toNat:Int)]++sub (wv (K9 key i).reverse) 0 (i*1)=_;rw[Zd,y8 (by rw[Zj,M3])];rfl
  ·obtain rfl:i=3:=(by omega);refine B1 (fun r=>⟨[(5,.z 3 (wv (r9 key 3))),(6,.z 3 (wv (s3 key 3))),(7,.z 3 (wv (K9 key 3).reverse)),(8,.o 1 (.k 0) 0 (2*r)),(10,i64 r)],[.sc (wv (S6 (r9 key 3) (s3 key 3) r))]⟩) 20 [(8,1,.sc [])] ⟨[.d 900000 0],⟨?_,?_,?_,rfl,rfl,tq⟩,⟨_,rfl,rfl⟩,tq⟩ fun r hr=> ?_
   ·show V.z 3 (sub _ 0 3)=_;rw[y8 (N4 _ _)]
   ·show V.z 3 (sub _ 0 3)=_;rw[y8 (N5 _ _)]
   ·show V.z 3 (sub _ 0 3)=_;rw[y8 (by rw[Zj,M3])]
   have hkl:=gH (r9 key 3) (s3 key 3) r;refine c9 (fun h=> ?_) (fun h=> ?_)
   ·have a9:r<20:=(by omega);refine⟨[],_,_,_,_,ga (x:=2*Zk r*aP) (l:=r9 key 3) (by rw[vT r a9,e3]) rfl (N4 _ _) (by decide),rfl,rfl,?_⟩;refine⟨[],_,_,_,_,ga (x:=(2*Zk r+1)*aP) (l:=s3 key 3) (by rw[vU r a9,e3]) rfl (N5 _ _) (by decide),rfl,rfl,?_⟩;refine⟨[],_,_,_,_,S3 (k:=8) rfl (by decide) (by decide),rfl,rfl,?_⟩;refine⟨[],_,_,_,_,S3 (v:=W1 (r9 key 3) r+2*W5 (s3 key 3) r) (k:=9) (by rw[e2];exact s6 _ _) (by decide) (by decide),rfl,rfl,?_⟩;refine⟨Zc _,by omega,by rw[t3,hkl];omega,?_⟩;refine⟨r+1,by omega,by omega,[.d 90 0],⟨rfl,rfl,rfl,rfl,d7 (by simp(disch:=omega)only[Za];omega),tq⟩,⟨_,rfl,d9 ?_⟩,tq⟩;show sub (wv (S6 (r9 key 3) (s3 key 3) r)) 0 (2*r*1)++[Value.int .u32 (U3.wrap (((W1 (r9 key 3) r).toNat:Int)+((W5 (s3 key 3) r).toNat:Int))),Value.int .u32 ((C3 (W1 (r9 key 3) r+2*W5 (s3 key 3) r) 9).toNat:Int)]=_;rw[Zd,y8 hkl,s6,nq,<-mg];rfl
   ·obtain rfl:r=20:=(by omega);exact⟨_,rfl,[.k 0],rfl,⟨_,rfl,rfl⟩,tq⟩
 ·refine B1 (fun i=>⟨[(0,.z 32 (bv key)),(5,.o 1 (.k 0) 0 i),(6,.o 1 (.k 1) 0 i),(7,.o 1 (.k 2) 0 i),(8,g8),(9,i64 (8*i:Nat))],[.sc (wv (r9 key i)),.sc (wv (s3 key i)),.sc (wv (K9 key i).reverse)]⟩) 4 [(5,1,.sc []),(6,1,.sc []),(7,1,.sc [])] ⟨[.d 900000 0,.d 900000 1,.d 900000 2],⟨rfl,rfl,rfl,rfl,rfl,rfl,tq⟩,⟨_,rfl,rfl⟩,⟨_,rfl,rfl⟩,⟨_,rfl,rfl⟩,tq⟩ fun i hi=> ?_;refine c9 (fun h=> ?_) (fun h=> ?_)
  ·have a9:i<4:=(by omega);have f1:(I6.wrap (((8*i:Nat):Int)+4)).toNat=8*i+4:=(by simp(disch:=omega)only[Za];omega);have f2:(I6.wrap (((8*i:Nat):Int)+8)).toNat=8*i+8:=(by simp(disch:=omega)only[Za];omega);refine⟨by omega,by omega,by rw[f1];omega,Zc _,by rw[f1];show _<=32;omega,?_⟩;rw[f1,Zb,show 8*i+4-8*i=4 by omega];refine⟨[],_,_,_,_,eN (l:=sub key (8*i) 4) (l4 _ _ _) (by rw[j4];omega) (by decide),rfl,rfl,?_⟩;refine⟨Zc _,by omega,by rw[t3,N4];omega,?_⟩;refine⟨by omega,by omega,by rw[f1,f2];omega,Zc _,by rw[f2];show _<=32;omega,?_⟩;rw[f1,f2,show 8*i+8-(8*i+4)=4 by omega];refine⟨[],_,_,_,_,eN (l:=sub key (8*i+4) 4) (l4 _ _ _) (by rw[j4];omega) (by decide),rfl,rfl,?_⟩;refine⟨Zc _,by omega,by rw[t3,N5];omega,?_⟩;refine⟨by omega,by omega,by rw[f2];omega,Zc _,by rw[f2];show _<=32;omega,?_⟩;rw[f2,Zb,show 8*i+8-8*i=8 by omega];refine⟨[],_,_,_,_,tl (m:=sub key (8*i) 8) (l4 _ _ _) (by rw[j4];omega),rfl,rfl,?_⟩;refine⟨by rw[t3,Zj,M3];omega,by omega,Zc _,?_⟩;refine⟨i+1,by omega,by omega,[.d 41 0,.d 52 0,.d 61 0],⟨rfl,rfl,rfl,?_,rfl,d7 (by simp(disch:=omega)only[Za];omega),tq⟩,⟨_,rfl,d9 ?_⟩,⟨_,rfl,d9 ?_⟩,⟨_,rfl,d9 ?_⟩,tq⟩
   ·show V.o 1 _ 0 _=V.o 1 _ 0 _;rw[Z6]
   ·rw[lW];show sub (wv (r9 key i)) 0 (i*1)++[Value.int .u32 (U3.wrap ((M7 (sub key (8*i) 4).reverse).toNat:Int))]=_;rw[gM,Zd];exact O6 (by rw[N4])
   ·rw[ma];show sub (wv (s3 key i)) 0 (i*1)++[Value.int .u32 (U3.wrap ((M7 (sub key (8*i+4) 4).reverse).toNat:Int))]=_;rw[gM,Zd];exact O6 (by rw[N5])
   ·rw[lZ,Z0];show[Value.int .u32 ((gD (sub key (8*i) 8)).toNat:Int)]++sub (wv (K9 key i).reverse) 0 (i*1)=_;rw[Zd,y8 (by rw[Zj,M3])];rfl
  ·obtain rfl:i=4:=(by omega);refine B1 (fun r=>⟨[(5,.z 4 (wv (r9 key 4))),(6,.z 4 (wv (s3 key 4))),(7,.z 4 (wv (K9 key 4).reverse)),(8,.o 1 (.k 0) 0 (2*r)),(10,i64 r)],[.sc (wv (S6 (r9 key 4) (s3 key 4) r))]⟩) 20 [(8,1,.sc [])] ⟨[.d 900000 0],⟨?_,?_,?_,rfl,rfl,tq⟩,⟨_,rfl,rfl⟩,tq⟩ fun r hr=> ?_
   ·show V.z 4 (sub _ 0 4)=_;rw[y8 (N4 _ _)]
   ·show V.z 4 (sub _ 0 4)=_;rw[y8 (N5 _ _)]
   ·show V.z 4 (sub _ 0 4)=_;rw[y8 (by rw[Zj,M3])]
   have hkl:=gH (r9 key 4) (s3 key 4) r;refine c9 (fun h=> ?_) (fun h=> ?_)
   ·have a9:r<20:=(by omega);refine⟨[],_,_,_,_,ga (x:=2*Zk r*aP) (l:=r9 key 4) (by rw[vT r a9,e3]) rfl (N4 _ _) (by decide),rfl,rfl,?_⟩;refine⟨[],_,_,_,_,ga (x:=(2*Zk r+1)*aP) (l:=s3 key 4) (by rw[vU r a9,e3]) rfl (N5 _ _) (by decide),rfl,rfl,?_⟩;refine⟨[],_,_,_,_,S3 (k:=8) rfl (by decide) (by decide),rfl,rfl,?_⟩;refine⟨[],_,_,_,_,S3 (v:=W1 (r9 key 4) r+2*W5 (s3 key 4) r) (k:=9) (by rw[e2];exact s6 _ _) (by decide) (by decide),rfl,rfl,?_⟩;refine⟨Zc _,by omega,by rw[t3,hkl];omega,?_⟩;refine⟨r+1,by omega,by omega,[.d 90 0],⟨rfl,rfl,rfl,rfl,d7 (by simp(disch:=omega)only[Za];omega),tq⟩,⟨_,rfl,d9 ?_⟩,tq⟩;show sub (wv (S6 (r9 key 4) (s3 key 4) r)) 0 (2*r*1)++[Value.int .u32 (U3.wrap (((W1 (r9 key 4) r).toNat:Int)+((W5 (s3 key 4) r).toNat:Int))),Value.int .u32 ((C3 (W1 (r9 key 4) r+2*W5 (s3 key 4) r) 9).toNat:Int)]=_;rw[Zd,y8 hkl,s6,nq,<-mg];rfl
   ·obtain rfl:r=20:=(by omega);exact⟨_,rfl,[.k 0],rfl,⟨_,rfl,rfl⟩,tq⟩
 ·omega
theorem zp {n m:Nat} {va:List Value} {key:Bs} (ha:va=bv key) (hk:key.length=m) (hm:m=8*n) (hn:2<=n/\n<=4):a7 C 56 [.z m va] [] (.ret (.t [M4 (tK key) (tS key),i64 0])) []:=by
 refine Sb.c ?_;refine⟨[],_,_,_,_,LP ha hk hm hn,rfl,rfl,?_⟩;refine⟨_,rfl,[],?_,tq⟩;show V.t [.q [.z 40 (sub _ 0 40),.z n _] 0,i64 0]=V.t [.q [.z _ _,.z _ _] 0,i64 0];rw[y8 (aM key),aM,jo (n:=n) (by omega)]
theorem zq {k s:List UInt32} {x y:Int} {a c:UInt32} (hx:x=a.toNat) (hy:y=c.toNat) (hs:2<=s.length/\s.length<=4):a7 C 212 [M4 k s,vi .u32 x,vi .u32 y] [] (.ret (.t [u32 (tH a s+tH (C3 c 8) s),u32 (tH a s+2*tH (C3 c 8) s)])) []:=by
 subst hx;subst hy;refine Sd.c ?_;have e3:∀x:UInt32,U3.wrap (2*(x.toNat:Int))=((2*x).toNat:Int):=fun x=>jq 2 x;refine⟨_,rfl,?_⟩;refine⟨[],_,_,_,_,ga (l:=s) rfl rfl rfl hs,rfl,rfl,?_⟩;refine⟨[],_,_,_,_,S3 (k:=8) rfl (by decide) (by decide),rfl,rfl,?_⟩;refine⟨_,rfl,?_⟩;refine⟨[],_,_,_,_,ga (l:=s) rfl rfl rfl hs,rfl,rfl,?_⟩;refine⟨_,rfl,[],?_,tq⟩;show V.t [vi .u32 _,vi .u32 _]=_;rw[s6,e3,s6]
abbrev rM (x:W4):B:= .mx [u32 x.1,u32 x.2.1,u32 x.2.2.1,u32 x.2.2.2]
theorem gL (b:Bs) {i:Nat} (h:i<4):(wv (dc b 4))[i]? =some (.int .u32 (aS (A6 b) i).toNat):=by
 rcases i with _|_|_|_|i;all_goals first|rfl|omega
theorem zo {va:List Value} {b:Bs} {k s:List UInt32} (ha:va=bv b) (hb:b.length=16) (hk:k.length=40) (hs:2<=s.length/\s.length<=4):a7 C 155 [M4 k s,.z 16 va,bool false] [] (A8 16) [.sc (bv (L5 (cz k s (A6 b)) 4))]:=by
 subst ha;refine ul.c ?_;refine j9 (fun i=>⟨[(0,M4 k s),(1,.z 16 (bv b)),(2,bool false),(8,.p (.k 0) 0),(9,i64 i)],[.sc (wv (dc b i))]⟩) 4 ⟨[.d 8 0],⟨rfl,rfl,rfl,rfl,rfl,tq⟩,⟨_,rfl,rfl⟩,tq⟩ fun i hi=> ?_;refine c9 (fun h=> ?_) (fun h=> ?_)
 ·have a9:i<4:=(by omega);have e1:(I6.wrap (4*(i:Int))).toNat=4*i:=(by simp(disch:=omega)only[Za];omega);have e2:(I6.wrap (I6.wrap (4*(i:Int))+4)).toNat=4*i+4:=(by simp(disch:=omega)only[Za];omega);refine⟨by omega,(by simp(disch:=omega)only[Za];omega),by rw[e1,e2];omega,Zc _,by rw[e2];omega,?_⟩;rw[e1,e2,show 4*i+4-4*i=4 by omega];refine⟨[],_,_,_,_,eN (l:=sub b (4*i) 4) (l4 _ _ _) (by rw[j4];omega) (by decide),rfl,rfl,?_⟩;refine⟨by omega,by omega,by show 0+((i:Int)).toNat*1<4;omega,?_⟩;refine⟨i+1,by omega,by omega,[.k 0],⟨rfl,rfl,rfl,rfl,d7 (by simp(disch:=omega)only[Za];omega),tq⟩,⟨_,rfl,d9 ?_⟩,tq⟩;rw[Zb,Zd,Ze,gM];show(wv (dc b i)).set i (.int .u32 (o5 (sub b (4*i) 4)).toNat)=_;rw[aU,qn b a9]
 obtain rfl:i=4:=(by omega);refine⟨_,rfl,?_⟩;refine⟨by decide,by decide,_,gL b (i:=0) (by decide),?_⟩;refine⟨by decide,by omega,?_⟩;refine⟨_,p7 (i:=0) (by omega),?_⟩;refine⟨by decide,by decide,_,gL b (i:=1) (by decide),?_⟩;refine⟨by decide,by omega,?_⟩;refine⟨_,p7 (i:=1) (by omega),?_⟩;refine⟨by decide,by decide,_,gL b (i:=2) (by decide),?_⟩;refine⟨by decide,by omega,?_⟩;refine⟨_,p7 (i:=2) (by omega),?_⟩;refine⟨by decide,by decide,_,gL b (i:=3) (by decide),?_⟩;refine⟨by decide,by omega,?_⟩;refine⟨_,p7 (i:=3) (by omega),?_⟩;refine⟨Zc _,?_⟩;refine j9 (fun i=>⟨[(0,M4 k s),(8,.p (.k 0) 0),(10,wz k),(14,i64 i)],[rM (cw k s (wh k 0 (A6 b)) i)]⟩) 16 ⟨[.k 0],⟨rfl,rfl,rfl,rfl,tq⟩,⟨_,rfl,gS (z6 _ _) (z6 _ _) (z6 _ _) (z6 _ _)⟩,tq⟩ fun i hi=> ?_;have hst:=En k s (wh k 0 (A6 b)) i;generalize hx:cw k s (wh k 0 (A6 b)) i=x at hst ⊢;refine c9 (fun h=> ?_) (fun h=> ?_)
 ·have a9:i<16:=(by omega);have e1:(I6.wrap (I6.wrap (2*(i:Int))+8)).toNat=2*i+8:=(by simp(disch:=omega)only[Za];omega);have e2:(I6.wrap (I6.wrap (2*(i:Int))+9)).toNat=2*i+9:=(by simp(disch:=omega)only[Za];omega);refine⟨by decide,by decide,_,rfl,by decide,by decide,_,rfl,?_⟩;refine⟨[],_,_,_,_,zq rfl rfl hs,rfl,rfl,?_⟩;refine⟨by decide,by decide,_,rfl,by omega,by omega,?_⟩;refine⟨_,by rw[e1];exact p7 (by omega),?_⟩;refine⟨[],_,_,_,_,S3 (v:=x.2.2.1^^^nS k s x.1 x.2.1 i) (k:=31) (by rw[s6];exact z6 _ _) (by decide) (by decide),rfl,rfl,?_⟩;refine⟨by decide,by decide,by show 3<=4;omega,by decide,by decide,_,rfl,?_⟩;refine⟨[],_,_,_,_,S3 (k:=1) rfl (by decide) (by decide),rfl,rfl,?_⟩;refine⟨by omega,by omega,?_⟩;refine⟨_,by rw[e2];exact p7 (by omega),?_⟩;refine⟨by decide,by decide,by show 4<=4;omega,?_⟩;refine⟨by decide,by decide,_,rfl,by decide,by decide,_,rfl,by decide,by decide,_,rfl,by decide,by decide,_,rfl,Zc _,?_⟩;refine⟨i+1,by omega,by omega,[.k 0],⟨rfl,rfl,rfl,d7 (by simp(disch:=omega)only[Za];omega),tq⟩,⟨_,rfl,?_⟩,tq⟩;rw[hst];exact gS rfl (by rw[s6];exact z6 _ _) rfl rfl
 obtain rfl:i=16:=(by omega);refine⟨by decide,by decide,_,rfl,?_⟩;refine⟨by decide,by omega,?_⟩;refine⟨_,p7 (i:=4) (by omega),?_⟩;refine⟨by decide,by decide,_,rfl,?_⟩;refine⟨by decide,by omega,?_⟩;refine⟨_,p7 (i:=5) (by omega),?_⟩;refine⟨by decide,by decide,_,rfl,?_⟩;refine⟨by decide,by omega,?_⟩;refine⟨_,p7 (i:=6) (by omega),?_⟩;refine⟨by decide,by decide,_,rfl,?_⟩;refine⟨by decide,by omega,?_⟩;refine⟨_,p7 (i:=7) (by omega),?_⟩;refine⟨Zc _,?_⟩;have hfx:wh k 4 (E9 x)=cz k s (A6 b):=by rw[<-hx];rfl
 rw[<-hfx];generalize hy:wh k 4 (E9 x)=y;refine B1 (fun i=>⟨[(8,.p (.k 1) 0),(17,.o 1 (.k 0) 0 (4*i)),(18,i64 i)],[.sc (bv (L5 y i)),rM y]⟩) 4 [(17,1,.sc [])] ⟨[.d 900000 0,.k 0],⟨rfl,rfl,rfl,tq⟩,⟨_,rfl,rfl⟩,⟨_,rfl,?_⟩,tq⟩ fun i hi=> ?_
 ·rw[<-hy,<-hx];exact gS (z6 _ _) (z6 _ _) (z6 _ _) (z6 _ _)
 refine c9 (fun h=> ?_) (fun h=> ?_)
 ·have a9:i<4:=(by omega);refine⟨by omega,by omega,?_⟩;refine⟨_,by rw[Zb,Zd,Ze];exact rO a9,?_⟩;refine⟨[],_,_,_,_,oV rfl,rfl,rfl,?_⟩;have hpl:(p6 (aS y i)).length=4:=E8 _;refine⟨by rw[f9];exact Z3 hpl.symm,by omega,by rw[f9,ek];omega,?_⟩;refine⟨i+1,by omega,by omega,[.d 247 0,.k 1],⟨rfl,rfl,d7 (by simp(disch:=omega)only[Za];omega),tq⟩,⟨_,rfl,d9 ?_⟩,⟨_,rfl,rfl⟩,tq⟩;show sub (bv (L5 y i)) 0 (4*i*1)++sub (bv (p6 (aS y i))) 0 4=_;rw[Zd,b8 (ek y i),b8 hpl,x5,nL]
 ·obtain rfl:i=4:=(by omega);exact⟨_,rfl,[.k 0],rfl,⟨_,rfl,rfl⟩,tq⟩
theorem zn {va:List Value} {b:Bs} {k s:List UInt32} (ha:va=bv b) (hb:b.length=16) (hk:k.length=40) (hs:2<=s.length/\s.length<=4):a7 C 155 [M4 k s,.z 16 va,bool true] [] (A8 16) [.sc (bv (L5 (cy k s (A6 b)) 4))]:=by
 subst ha;refine ul.c ?_;refine j9 (fun i=>⟨[(0,M4 k s),(1,.z 16 (bv b)),(2,bool true),(8,.p (.k 0) 0),(9,i64 i)],[.sc (wv (dc b i))]⟩) 4 ⟨[.d 8 0],⟨rfl,rfl,rfl,rfl,rfl,tq⟩,⟨_,rfl,rfl⟩,tq⟩ fun i hi=> ?_;refine c9 (fun h=> ?_) (fun h=> ?_)
 ·have a9:i<4:=(by omega);have e1:(I6.wrap (4*(i:Int))).toNat=4*i:=(by simp(disch:=omega)only[Za];omega);have e2:(I6.wrap (I6.wrap (4*(i:Int))+4)).toNat=4*i+4:=(by simp(disch:=omega)only[Za];omega);refine⟨by omega,(by simp(disch:=omega)only[Za];omega),by rw[e1,e2];omega,Zc _,by rw[e2];omega,?_⟩;rw[e1,e2,show 4*i+4-4*i=4 by omega];refine⟨[],_,_,_,_,eN (l:=sub b (4*i) 4) (l4 _ _ _) (by rw[j4];omega) (by decide),rfl,rfl,?_⟩;refine⟨by omega,by omega,by show 0+((i:Int)).toNat*1<4;omega,?_⟩;refine⟨i+1,by omega,by omega,[.k 0],⟨rfl,rfl,rfl,rfl,d7 (by simp(disch:=omega)only[Za];omega),tq⟩,⟨_,rfl,d9 ?_⟩,tq⟩;rw[Zb,Zd,Ze,gM];show(wv (dc b i)).set i (.int .u32 (o5 (sub b (4*i) 4)).toNat)=_;rw[aU,qn b a9]
 obtain rfl:i=4:=(by omega);refine⟨_,rfl,?_⟩;refine⟨by decide,by decide,_,gL b (i:=2) (by decide),?_⟩;refine⟨by decide,by omega,?_⟩;refine⟨_,p7 (i:=6) (by omega),?_⟩;refine⟨by decide,by decide,_,gL b (i:=3) (by decide),?_⟩;refine⟨by decide,by omega,?_⟩;refine⟨_,p7 (i:=7) (by omega),?_⟩;refine⟨by decide,by decide,_,gL b (i:=0) (by decide),?_⟩;refine⟨by decide,by omega,?_⟩;refine⟨_,p7 (i:=4) (by omega),?_⟩;refine⟨by decide,by decide,_,gL b (i:=1) (by decide),?_⟩;refine⟨by decide,by omega,?_⟩;refine⟨_,p7 (i:=5) (by omega),?_⟩;refine⟨Zc _,?_⟩;refine j9 (fun i=>⟨[(0,M4 k s),(8,.p (.k 0) 0),(10,wz k),(11,i64 (15-i))],[rM (E9 (bI k s (wh k 4 (A6 b)) i))]⟩) 16 ⟨[.k 0],⟨rfl,rfl,rfl,rfl,tq⟩,⟨_,rfl,gS (z6 _ _) (z6 _ _) (z6 _ _) (z6 _ _)⟩,tq⟩ fun i hi=> ?_;have hst:=Em k s (wh k 4 (A6 b)) i;generalize hx:bI k s (wh k 4 (A6 b)) i=x at hst ⊢;refine c9 (fun h=> ?_) (fun h=> ?_)
 ·obtain⟨r,er,hr15,hri⟩:∃r:Nat,(15:Int)-i=r/\r<=15/\r=15-i:=⟨15-i,by omega,by omega,rfl⟩;rw[<-hri]at hst;rw[er];have e1:(I6.wrap (I6.wrap (2*(r:Int))+8)).toNat=2*r+8:=(by simp(disch:=omega)only[Za];omega);have e2:(I6.wrap (I6.wrap (2*(r:Int))+9)).toNat=2*r+9:=(by simp(disch:=omega)only[Za];omega);refine⟨by decide,by decide,_,rfl,by decide,by decide,_,rfl,by decide,by decide,_,rfl,by decide,by decide,_,rfl,Zc _,?_⟩;refine⟨by decide,by decide,_,rfl,by decide,by decide,_,rfl,?_⟩;refine⟨[],_,_,_,_,zq (a:=x.1) (c:=x.2.1) rfl rfl hs,rfl,rfl,?_⟩;refine⟨by decide,by decide,_,rfl,?_⟩;refine⟨[],_,_,_,_,S3 (v:=x.2.2.1) (k:=1) rfl (by decide) (by decide),rfl,rfl,?_⟩;refine⟨by omega,by omega,?_⟩;refine⟨_,by rw[e1];exact p7 (by omega),?_⟩;refine⟨by decide,by decide,by show 3<=4;omega,by decide,by decide,_,rfl,by omega,by omega,?_⟩;refine⟨_,by rw[e2];exact p7 (by omega),?_⟩;refine⟨[],_,_,_,_,S3 (v:=x.2.2.2^^^nT k s x.1 x.2.1 r) (k:=31) (by rw[s6];exact z6 _ _) (by decide) (by decide),rfl,rfl,?_⟩;refine⟨by decide,by decide,by show 4<=4;omega,?_⟩;refine⟨i+1,by omega,by omega,[.k 0],⟨rfl,rfl,rfl,d7 ?_,tq⟩,⟨_,rfl,?_⟩,tq⟩
  ·rw[Za _ (by omega)];omega
  rw[hst];exact gS rfl rfl (by rw[s6];exact z6 _ _) rfl
 obtain rfl:i=16:=(by omega);refine⟨by decide,by decide,_,rfl,?_⟩;refine⟨by decide,by omega,?_⟩;refine⟨_,p7 (i:=0) (by omega),?_⟩;refine⟨by decide,by decide,_,rfl,?_⟩;refine⟨by decide,by omega,?_⟩;refine⟨_,p7 (i:=1) (by omega),?_⟩;refine⟨by decide,by decide,_,rfl,?_⟩;refine⟨by decide,by omega,?_⟩;refine⟨_,p7 (i:=2) (by omega),?_⟩;refine⟨by decide,by decide,_,rfl,?_⟩;refine⟨by decide,by omega,?_⟩;refine⟨_,p7 (i:=3) (by omega),?_⟩;refine⟨Zc _,?_⟩;have hfx:wh k 0 (E9 x)=cy k s (A6 b):=by rw[<-hx];rfl
 rw[<-hfx];generalize hy:wh k 0 (E9 x)=y;refine B1 (fun i=>⟨[(8,.p (.k 1) 0),(17,.o 1 (.k 0) 0 (4*i)),(18,i64 i)],[.sc (bv (L5 y i)),rM y]⟩) 4 [(17,1,.sc [])] ⟨[.d 900000 0,.k 0],⟨rfl,rfl,rfl,tq⟩,⟨_,rfl,rfl⟩,⟨_,rfl,?_⟩,tq⟩ fun i hi=> ?_
 ·rw[<-hy,<-hx];exact gS (z6 _ _) (z6 _ _) (z6 _ _) (z6 _ _)
 refine c9 (fun h=> ?_) (fun h=> ?_)
 ·have a9:i<4:=(by omega);refine⟨by omega,by omega,?_⟩;refine⟨_,by rw[Zb,Zd,Ze];exact rO a9,?_⟩;refine⟨[],_,_,_,_,oV rfl,rfl,rfl,?_⟩;have hpl:(p6 (aS y i)).length=4:=E8 _;refine⟨by rw[f9];exact Z3 hpl.symm,by omega,by rw[f9,ek];omega,?_⟩;refine⟨i+1,by omega,by omega,[.d 247 0,.k 1],⟨rfl,rfl,d7 (by simp(disch:=omega)only[Za];omega),tq⟩,⟨_,rfl,d9 ?_⟩,⟨_,rfl,rfl⟩,tq⟩;show sub (bv (L5 y i)) 0 (4*i*1)++sub (bv (p6 (aS y i))) 0 4=_;rw[Zd,b8 (ek y i),b8 hpl,x5,nL]
 ·obtain rfl:i=4:=(by omega);exact⟨_,rfl,[.k 0],rfl,⟨_,rfl,rfl⟩,tq⟩
theorem zk {va:List Value} {k s:List UInt32} {n:Nat} {back:Bool} (hn:n≠16):a7 C 155 [M4 k s,.z n va,bool back] [] R9 []:=by
 refine ul.c ?_;refine o9 (fun h=> ?_) (fun h=>absurd (by omega) hn);exact⟨_,rfl,[],rfl,tq⟩
def cE:Bs:=[99,124,119,123,242,107,111,197,48,1,103,43,254,215,171,118,202,130,201,125,250,89,71,240,173,212,162,175,156,164,114,192,183,253,147,38,54,63,247,204,52,165,229,241,113,216,49,21,4,199,35,195,24,150,5,154,7,18,128,226,235,39,178,117,9,131,44,26,27,110,90,160,82,59,214,179,41,227,47,132,83,209,0,237,32,252,177,91,106,203,190,57,74,76,88,207,208,239,170,251,67,77,51,133,69,249,2,127,80,60,159,168,81,163,64,143,146,157,56,245,188,182,218,33,16,255,243,210,205,12,19,236,95,151,68,23,196,167,126,61,100,93,25,115,96,129,79,220,34,42,144,136,70,238,184,20,222,94,11,219,224,50,58,10,73,6,36,92,194,211,172,98,145,149,228,121,231,200,55,109,141,213,78,169,108,86,244,234,101,122,174,8,186,120,37,46,28,166,180,198,232,221,116,31,75,189,139,138,112,62,181,102,72,3,246,14,97,53,87,185,134,193,29,158,225,248,152,17,105,217,142,148,155,30,135,233,206,85,40,223,140,161,137,13,191,230,66,104,65,153,45,15,176,84,187,22]
def cG:Bs:=[226,78,84,252,148,194,74,204,98,13,106,70,60,77,139,209,94,250,100,203,180,151,190,43,188,119,46,3,211,25,89,193,29,6,65,107,85,240,153,105,234,156,24,174,99,223,231,187,0,115,102,251,150,76,133,228,58,9,69,170,15,238,16,235,45,127,244,41,172,207,173,145,141,120,200,149,249,47,206,205,8,122,136,56,92,131,42,40,71,219,184,199,147,164,18,83,255,135,14,49,54,33,88,72,1,142,55,116,50,202,233,177,183,171,12,215,196,86,66,38,7,152,96,217,182,185,17,64,236,32,140,189,160,201,132,4,73,35,241,79,80,31,19,220,216,192,158,87,227,195,123,101,59,2,143,62,232,37,146,229,21,221,253,23,169,191,212,154,126,197,57,103,254,118,157,67,167,225,208,245,104,242,27,52,112,5,163,138,213,121,134,168,48,198,81,75,30,166,39,246,53,210,110,36,22,130,95,218,230,117,162,239,44,178,28,159,93,111,128,10,114,68,155,108,144,11,91,51,125,90,82,243,97,161,247,176,214,63,124,109,237,20,224,165,61,34,179,248,137,222,113,26,175,186,181,129]
def jy:Bs:=[82,9,106,213,48,54,165,56,191,64,163,158,129,243,215,251,124,227,57,130,155,47,255,135,52,142,67,68,196,222,233,203,84,123,148,50,166,194,35,61,238,76,149,11,66,250,195,78,8,46,161,102,40,217,36,178,118,91,162,73,109,139,209,37,114,248,246,100,134,104,152,22,212,164,92,204,93,101,182,146,108,112,72,80,253,237,185,218,94,21,70,87,167,141,157,132,144,216,171,0,140,188,211,10,247,228,88,5,184,179,69,6,208,44,30,143,202,63,15,2,193,175,189,3,1,19,138,107,58,145,17,65,79,103,220,234,151,242,207,206,240,180,230,115,150,172,116,34,231,173,53,133,226,249,55,232,28,117,223,110,71,241,26,113,29,41,197,137,111,183,98,14,170,24,190,27,252,86,62,75,198,210,121,32,154,219,192,254,120,205,90,244,31,221,168,51,136,7,199,49,177,18,16,89,39,128,236,95,96,81,127,169,25,181,74,13,45,229,122,159,147,201,156,239,160,224,59,77,174,42,245,176,200,235,187,60,131,83,153,97,23,43,4,126,186,119,214,38,225,105,20,99,85,33,12,125]
def jz:Bs:=[48,104,153,27,135,185,33,120,80,57,219,225,114,9,98,60,62,126,94,142,241,160,204,163,42,29,251,182,214,32,196,141,129,101,245,137,203,157,119,198,87,67,86,23,212,64,26,77,192,99,108,227,183,200,100,106,83,170,56,152,12,244,155,237,127,34,118,175,221,58,11,88,103,136,6,195,53,13,1,139,140,194,230,95,2,36,117,147,102,30,229,226,84,216,16,206,122,232,8,44,18,151,50,171,180,39,10,35,223,239,202,217,184,250,220,49,107,209,173,25,73,189,81,150,238,228,168,65,218,255,205,85,134,54,190,97,82,248,187,14,130,72,105,154,224,71,158,92,4,75,52,21,121,38,167,222,41,174,146,215,132,233,210,186,93,243,197,176,191,164,59,113,68,70,43,252,235,111,213,246,20,254,124,112,90,125,253,47,24,131,22,165,145,31,5,149,116,169,193,91,74,133,109,19,7,79,78,69,178,15,201,28,166,188,236,115,144,123,207,89,143,161,249,45,242,177,0,148,55,159,208,46,156,110,40,63,128,240,61,211,37,138,181,231,66,179,199,234,247,76,17,51,3,162,172,96]
theorem wK:bx 254 283 [241,227,199,143,31,62,124,248] 99 256=cE:=by decide +kernel
theorem wL:bx 247 283 [122,188,235,185,52,129,186,203] 226 256=cG:=by decide +kernel
theorem wE:cJ cE 256=jy:=by decide +kernel
theorem wF:cJ cG 256=jz:=by decide +kernel
theorem iI:cE.length=256:=by decide +kernel
theorem iJ:cG.length=256:=by decide +kernel
theorem sw:jy.length=256:=by decide +kernel
theorem sx:jz.length=256:=by decide +kernel
theorem GK:∀j,j<256->Zp j∈cE:=by decide +kernel
theorem GM:∀j,j<256->Zp j∈cG:=by decide +kernel
theorem GL:cE.Nodup:=by decide +kernel
theorem GN:cG.Nodup:=by decide +kernel
theorem jN:a7 C 141 [] [] (.ret (.a [.z 256 (bv cE),.z 256 (bv cG),.z 256 (bv jy),.z 256 (bv jz)])) []:=by
 have m1:=yC (e:=254) (m:=283) (z:=99) (c:=99) (r0:=241) (r1:=227) (r2:=199) (r3:=143) (r4:=31) (r5:=62) (r6:=124) (r7:=248) rfl (by decide) (by decide) (by decide) (by decide);have m2:=yC (e:=247) (m:=283) (z:=226) (c:=226) (r0:=122) (r1:=188) (r2:=235) (r3:=185) (r4:=52) (r5:=129) (r6:=186) (r7:=203) rfl (by decide) (by decide) (by decide) (by decide);rw[wK]at m1;rw[wL]at m2;have b1:=yc (va:=sub (bv cE) 0 256) (b8 iI) iI GK;have b2:=yc (va:=sub (bv cG) 0 256) (b8 iJ) iJ GM;rw[wE]at b1;rw[wF]at b2;refine OH.c ?_;refine⟨[],_,_,_,_,m1,rfl,rfl,?_⟩;refine⟨by decide,by decide,by decide,?_⟩;refine⟨[],_,_,_,_,m2,rfl,rfl,?_⟩;refine⟨by decide,by decide,by decide,?_⟩;refine⟨by decide,by decide,_,rfl,?_⟩;refine⟨[],_,_,_,_,b1,rfl,rfl,?_⟩;refine⟨by decide,by decide,by decide,?_⟩;refine⟨by decide,by decide,_,rfl,?_⟩;refine⟨[],_,_,_,_,b2,rfl,rfl,?_⟩;refine⟨by decide,by decide,by decide,?_⟩;refine⟨_,rfl,rfl,Zc _,_,rfl,rfl,?_⟩;refine⟨_,rfl,[],?_,tq⟩;show V.a [V.z 256 (sub (bv cE) 0 256),V.z 256 (sub (bv cG) 0 256),V.z 256 (sub (bv jy) 0 256),V.z 256 (sub (bv jz) 0 256)]=_;rw[b8 iI,b8 iJ,b8 sw,b8 sx]
def GP:List (List Nat):=[[3,4,6,8,9,13,14],[2,5,7,8,9,12,15],[1,4,6,10,11,12,15],[0,5,7,10,11,13,14],[0,2,5,8,11,14,15],[1,3,4,9,10,14,15],[0,2,7,9,10,12,13],[1,3,6,8,11,12,13],[0,1,4,7,10,13,15],[0,1,5,6,11,12,14],[2,3,5,6,8,13,15],[2,3,4,7,9,12,14],[1,2,6,7,9,11,12],[0,3,6,7,8,10,13],[0,3,4,5,9,11,14],[1,2,4,5,8,10,15]]
def t5 (i:Nat):List Nat:=GP.getD i []
theorem wN:∀i,i<16->∀t,t<7->(t5 i).getD t 0<16:=by decide
theorem Ic {i:Nat} (hi:i<16):a7 C 205 [i64 i] [] (.ret (.a [i64 ((t5 i).getD 0 0:Nat),i64 ((t5 i).getD 1 0:Nat),i64 ((t5 i).getD 2 0:Nat),i64 ((t5 i).getD 3 0:Nat),i64 ((t5 i).getD 4 0:Nat),i64 ((t5 i).getD 5 0:Nat),i64 ((t5 i).getD 6 0:Nat)])) []:=by
 rcases i with _|_|_|_|_|_|_|_|_|_|_|_|_|_|_|_|i
 ·exact V9.c ⟨Zc _,_,rfl,rfl,_,rfl,[],rfl,tq⟩
 ·exact V9.c ⟨Zc _,_,rfl,rfl,_,rfl,[],rfl,tq⟩
 ·exact V9.c ⟨Zc _,_,rfl,rfl,_,rfl,[],rfl,tq⟩
 ·exact V9.c ⟨Zc _,_,rfl,rfl,_,rfl,[],rfl,tq⟩
 ·exact V9.c ⟨Zc _,_,rfl,rfl,_,rfl,[],rfl,tq⟩
 ·exact V9.c ⟨Zc _,_,rfl,rfl,_,rfl,[],rfl,tq⟩
 ·exact V9.c ⟨Zc _,_,rfl,rfl,_,rfl,[],rfl,tq⟩
 ·exact V9.c ⟨Zc _,_,rfl,rfl,_,rfl,[],rfl,tq⟩
 ·exact V9.c ⟨Zc _,_,rfl,rfl,_,rfl,[],rfl,tq⟩
 ·exact V9.c ⟨Zc _,_,rfl,rfl,_,rfl,[],rfl,tq⟩
 ·exact V9.c ⟨Zc _,_,rfl,rfl,_,rfl,[],rfl,tq⟩
 ·exact V9.c ⟨Zc _,_,rfl,rfl,_,rfl,[],rfl,tq⟩
 ·exact V9.c ⟨Zc _,_,rfl,rfl,_,rfl,[],rfl,tq⟩
 ·exact V9.c ⟨Zc _,_,rfl,rfl,_,rfl,[],rfl,tq⟩
 ·exact V9.c ⟨Zc _,_,rfl,rfl,_,rfl,[],rfl,tq⟩
 ·exact V9.c ⟨Zc _,_,rfl,rfl,_,rfl,[],rfl,tq⟩
 ·omega
theorem GO {i t:Nat} (ht:t<7):([i64 ((t5 i).getD 0 0:Nat),i64 ((t5 i).getD 1 0:Nat),i64 ((t5 i).getD 2 0:Nat),i64 ((t5 i).getD 3 0:Nat),i64 ((t5 i).getD 4 0:Nat),i64 ((t5 i).getD 5 0:Nat),i64 ((t5 i).getD 6 0:Nat)]:List V)[t]? =some (i64 ((t5 i).getD t 0:Nat)):=by
 rcases t with _|_|_|_|_|_|_|t;all_goals first|rfl|omega
def P0 (n:Nat) (f:Nat->Nat->UInt8) (K i k:Nat):Bs:=(List.range n).map fun p=>if p<i then f p K else if p=i then f p k else 0
theorem wS (n f K i k):(P0 n f K i k).length=n:=by simp[P0]
theorem wR {n} {f:Nat->Nat->UInt8} {K i k} (h:i<n):(P0 n f K i k)[i]? =some (f i k):=by simp[P0,h]
theorem wU {n} {f:Nat->Nat->UInt8} {K i k} (h:i<n) {x:UInt8} (hx:x=f i (k+1)):(P0 n f K i k).set i x=P0 n f K i (k+1):=by
 subst hx;apply Zw (by simp[P0]);intro p h1 h2;simp only[P0,Z2,Zz,Zy];by_cases h:i=p
 ·subst h;simp
 ·simp[h,show ¬p=i from fun e=>h e.symm]
theorem wT {n} {f:Nat->Nat->UInt8} {K i} (h0:∀p,f p 0=0):P0 n f K i K=P0 n f K (i+1) 0:=by
 unfold P0;apply Zu;intro p hp;by_cases h1:p<i
 ·rw[if_pos h1,if_pos (by omega)]
 ·by_cases h2:p=i
  ·rw[if_neg h1,if_pos h2,if_pos (by omega)]
  ·rw[if_neg h1,if_neg h2,if_neg (by omega)];by_cases h3:p=i+1
   ·rw[if_pos h3,h0]
   ·rw[if_neg h3]
theorem wV {n} {f:Nat->Nat->UInt8} {K} (h0:∀p,f p 0=0):P0 n f K 0 0=Zo n 0:=by
 apply Zw (by simp[P0]);intro p h1 h2;simp only[P0,Zz,Zy,List.getElem_replicate];rw[if_neg (by omega)];split
 ·exact h0 _
 ·rfl
theorem wQ {n} {f:Nat->Nat->UInt8} {K}:P0 n f K n 0=(List.range n).map fun p=>f p K:=by
 unfold P0;apply Zu;intro p hp;rw[if_pos (Z5.1 hp)]
def aX (b:Bs) (p k:Nat):UInt8:=(List.range k).foldl (fun s t=>s^^^b.getD ((t5 p).getD t 0) 0) 0
theorem wP (b p k):aX b p (k+1)=aX b p k^^^b.getD ((t5 p).getD k 0) 0:=by simp[aX,Zn]
def G0 (b:Bs):Bs:=(List.range 16).map fun p=>aX b p 7
theorem sy (b):(G0 b).length=16:=by simp[G0]
theorem xV {va:List Value} {b:Bs} (ha:va=bv b) (hb:b.length=16):a7 C 146 [.z 16 va] [] (.ret (.t [.o 1 (.k 0) 0 16,bool true])) [.sc (bv (G0 b))]:=by
 subst ha;have h0:∀p,aX b p 0=0:=fun _=>rfl;refine Ox.c ?_;refine⟨by decide,by decide,by decide,?_⟩;refine j9 (fun i=>⟨[(0,.z 16 (bv b)),(4,.o 1 (.k 0) 0 16),(13,i64 16),(14,i64 i)],[.sc (bv (P0 16 (aX b) 7 i 0))]⟩) 16 ⟨[.d 11 0],⟨rfl,rfl,rfl,rfl,tq⟩,⟨_,rfl,d9 (by rw[wV h0];exact S2 16)⟩,tq⟩ fun i hi=> ?_;refine c9 (fun h=> ?_) (fun h=> ?_)
 ·have a9:i<16:=(by omega);refine⟨[],_,_,_,_,Ic a9,rfl,rfl,?_⟩;refine j9 (fun k=>⟨[(0,.z 16 (bv b)),(4,.o 1 (.k 0) 0 16),(5,i64 i),(13,i64 16),(14,i64 i),(18,.a [i64 ((t5 i).getD 0 0:Nat),i64 ((t5 i).getD 1 0:Nat),i64 ((t5 i).getD 2 0:Nat),i64 ((t5 i).getD 3 0:Nat),i64 ((t5 i).getD 4 0:Nat),i64 ((t5 i).getD 5 0:Nat),i64 ((t5 i).getD 6 0:Nat)]),(19,i64 k)],[.sc (bv (P0 16 (aX b) 7 i k))]⟩) 7 ⟨[.k 0],⟨rfl,rfl,rfl,rfl,rfl,rfl,rfl,tq⟩,⟨_,rfl,rfl⟩,tq⟩ fun k hk=> ?_;refine c9 (fun h=> ?_) (fun h=> ?_)
  ·have hkl:k<7:=(by omega);have hs:=wN i a9 k hkl;refine⟨by omega,by omega,?_⟩;refine⟨_,by rw[Zb,Zd];exact GO hkl,?_⟩;refine⟨by omega,by omega,?_⟩;refine⟨_,by rw[Zb,Zd,Ze];exact mE (wR a9),?_⟩;refine⟨by omega,by omega,?_⟩;refine⟨_,by rw[Zb];exact A1 (by omega),?_⟩;refine⟨by omega,by omega,by rw[f9,wS];omega,?_⟩;refine⟨k+1,by omega,by omega,[.k 0],⟨rfl,rfl,rfl,rfl,rfl,rfl,d7 (by simp(disch:=omega)only[Za];omega),tq⟩,⟨_,rfl,d9 ?_⟩,tq⟩;rw[Zb,Zd,Ze,u7,L0,wU a9 (wP _ _ _).symm]
  ·obtain rfl:k=7:=(by omega);refine⟨i+1,by omega,by omega,[.k 0],⟨rfl,rfl,rfl,d7 (by simp(disch:=omega)only[Za];omega),tq⟩,⟨_,rfl,d9 ?_⟩,tq⟩;rw[wT h0]
 ·obtain rfl:i=16:=(by omega);refine⟨_,rfl,[.k 0],rfl,⟨_,rfl,d9 ?_⟩,tq⟩;rw[wQ];rfl
def fO (k:Nat):Bs:=if k=0 then cE else if k=1 then cG else if k=2 then jy else jz
theorem wD (k:Nat):(fO k).length=256:=by
 unfold fO
 repeat' split
 ·exact iI
 ·exact iJ
 ·exact sw
 ·exact sx
abbrev t4 (k:Nat):V:= .z 256 (bv (fO k))
abbrev dv:V:= .a [t4 0,t4 1,t4 2,t4 3]
theorem wC {k:Nat} (h:k<4):([t4 0,t4 1,t4 2,t4 3]:List V)[k]? =some (t4 k):=G9 (f:=t4) rfl rfl rfl rfl h
def E5 (k:Nat) (b:Bs) (n:Nat):Bs:=(List.range n).map fun i=>(fO ((i+2*(k-1))%4)).getD (b.getD i 0).toNat 0
theorem N8 (k b n):(E5 k b n).length=n:=by simp[E5]
theorem wH (k b n):E5 k b (n+1)=E5 k b n++[(fO ((n+2*(k-1))%4)).getD (b.getD n 0).toNat 0]:=by simp[E5,Zn]
theorem oJ {va:List Value} {b:Bs} {k:Nat} (ha:va=bv b) (hb:b.length=16) (h1:1<=k) (h2:k<=2):a7 C 145 [dv,i64 k,.z 16 va] [] (.ret (.o 1 (.k 0) 0 16)) [.sc (bv (E5 k b 16))]:=by
 subst ha;refine Oy.c ?_;refine⟨by decide,by decide,by decide,?_⟩;refine j9 (fun i=>⟨[(1,i64 k),(3,.p (.k 1) 0),(7,.o 1 (.k 0) 0 16),(13,.z 16 (bv b)),(14,i64 16),(15,i64 i)],[.sc (bv (E5 k b i++Zo (16-i) 0)),.mx [t4 0,t4 1,t4 2,t4 3]]⟩) 16 ⟨[.d 12 0,.d 3 0],⟨rfl,rfl,rfl,rfl,rfl,rfl,tq⟩,⟨_,rfl,d9 (by show Zo 16 _=_;exact S2 16)⟩,⟨_,rfl,rfl⟩,tq⟩ fun i hi=> ?_;refine c9 (fun h=> ?_) (fun h=> ?_)
 ·have a9:i<16:=(by omega);have e1:(I6.wrap ((i:Int)+I6.wrap (2*I6.wrap ((k:Int)-1)))).tmod 4=(((i+2*(k-1))%4:Nat):Int):=by
   rw[Za ((k:Int)-1) (by omega),Za (2*((k:Int)-1)) (by omega),Za _ (by omega),Zg (by omega)];omega
  have e2:=Zr (i+2*(k-1)) (show 4>0 by decide);refine⟨by omega,by omega,?_⟩;refine⟨_,by rw[Zb];exact A1 (by omega),?_⟩;have hx:=(b.getD i 0).toNat_lt;refine⟨by decide,by rw[e1];omega,by rw[e1];omega,?_⟩;refine⟨_,by rw[e1,Zb,Zd,Ze];exact wC e2,?_⟩;refine⟨by omega,by show _<((256:Nat):Int);omega,?_⟩;refine⟨_,by rw[Zb];exact A1 (by rw[wD];omega),?_⟩;refine⟨by omega,by omega,by rw[f9,Zm,N8,Zt];omega,?_⟩;refine⟨i+1,by omega,by omega,[.k 0,.k 1],⟨rfl,rfl,rfl,rfl,rfl,d7 (by simp(disch:=omega)only[Za];omega),tq⟩,⟨_,rfl,d9 ?_⟩,⟨_,rfl,rfl⟩,tq⟩;rw[Zb,Zd,Ze,nh (N8 _ _ _) a9,wH]
 ·obtain rfl:i=16:=(by omega);refine⟨_,rfl,[.k 0],rfl,⟨_,rfl,d9 ?_⟩,tq⟩;simp
def D6 (k:Nat) (b key:Bs):Bs:=G0 (E5 k (f8 b key) 16)
theorem r8 (k b key):(D6 k b key).length=16:=sy _
theorem P9 {va vk:List Value} {b key:Bs} {k:Nat} (ha:va=bv b) (hk:vk=bv key) (hb:b.length=16) (hkl:key.length=16) (h1:1<=k) (h2:k<=2):a7 C 143 [dv,i64 k,.z 16 va,.z 16 vk] [] (.ret (.o 1 (.k 0) 0 16)) [.sc (bv (D6 k b key))]:=by
 refine Oz.c ?_;refine⟨[],_,_,_,_,B5 ha hk hb hkl (by decide),rfl,rfl,?_⟩;refine⟨_,rfl,rfl,?_⟩;have hx:(f8 b key).length=16:=w6 hb hkl;refine⟨[],_,_,_,_,oJ (b:=f8 b key) (k:=k) (b8 hx) hx h1 h2,rfl,rfl,?_⟩;have hl:=N8 k (f8 b key) 16;refine⟨[],_,_,_,_,xV (b:=E5 k (f8 b key) 16) (b8 hl) hl,rfl,rfl,?_⟩;exact⟨_,rfl,[.d 20 0],rfl,⟨_,rfl,rfl⟩,tq⟩
def GH:List (Bs):=[[81,124,193,183,39,34,10,148,254,19,171,232,250,154,110,224],[109,177,74,204,158,33,200,32,255,40,177,213,239,93,226,176],[219,146,55,29,33,38,233,112,3,36,151,117,4,232,201,14]]
def aC (i:Nat):Bs:=GH.getD i []
theorem B2:∀i,i<3->(aC i).length=16:=by decide
abbrev F9 (i:Nat):V:= .z 16 (bv (aC i))
def a3 (i:Nat):B:=match i with
 |0=> .sc [.slice none 0 0,.slice none 0 0,.slice none 0 0]
 |1=> .mx [F9 0,g8,g8]
 |2=> .mx [F9 0,F9 1,g8]
 |_=> .mx [F9 0,F9 1,F9 2]
theorem jO:a7 C 204 [] [] (.ret (.a [F9 0,F9 1,F9 2])) []:=by
 refine OI.c ?_;refine j9 (fun i=>⟨[(0,.p (.k 0) 0),(6,.a [u64 5871781006564002452,u64 18308165927316385504,u64 7904181063698728992,u64 18386141011142107824,u64 15821769039155751280,u64 226472410124699918]),(7,i64 i)],[a3 i]⟩) 3 ⟨[.d 0 0],⟨rfl,rfl,rfl,tq⟩,⟨_,rfl,rfl⟩,tq⟩ fun i hi=> ?_;rcases i with _|_|_|_|i
 ·refine⟨by decide,by decide,_,rfl,rfl,Zc _,?_⟩;refine⟨by decide,by decide,_,rfl,?_⟩;refine⟨[],_,_,_,_,jW (v:=5871781006564002452) rfl,rfl,rfl,?_⟩;refine⟨by decide,by decide,_,rfl,?_⟩;refine⟨[],_,_,_,_,jW (v:=18308165927316385504) rfl,rfl,rfl,?_⟩;refine⟨by decide,by decide,by decide,?_⟩;refine⟨by decide,by decide,by decide,?_⟩;refine⟨1,by decide,by decide,[.k 0],⟨rfl,rfl,rfl,tq⟩,⟨_,rfl,?_⟩,tq⟩;have he:sub (sub (bv (n8 5871781006564002452 8)) 0 8++sub (bv (n8 18308165927316385504 8)) 0 8) 0 16=bv (aC 0):=by
   rw[b8 (u6 _ _),b8 (u6 _ _),x5,show n8 5871781006564002452 8++n8 18308165927316385504 8=aC 0 by decide +kernel,b8 (B2 0 (by decide))]
  show B.mx [V.z 16 (sub (sub (bv (n8 5871781006564002452 8)) 0 8++sub (bv (n8 18308165927316385504 8)) 0 8) 0 16),g8,g8]=_;rw[he];rfl
 ·refine⟨by decide,by decide,_,rfl,rfl,Zc _,?_⟩;refine⟨by decide,by decide,_,rfl,?_⟩;refine⟨[],_,_,_,_,jW (v:=7904181063698728992) rfl,rfl,rfl,?_⟩;refine⟨by decide,by decide,_,rfl,?_⟩;refine⟨[],_,_,_,_,jW (v:=18386141011142107824) rfl,rfl,rfl,?_⟩;refine⟨by decide,by decide,by decide,?_⟩;refine⟨by decide,by decide,by decide,?_⟩;refine⟨2,by decide,by decide,[.k 0],⟨rfl,rfl,rfl,tq⟩,⟨_,rfl,?_⟩,tq⟩;have he:sub (sub (bv (n8 7904181063698728992 8)) 0 8++sub (bv (n8 18386141011142107824 8)) 0 8) 0 16=bv (aC 1):=by
   rw[b8 (u6 _ _),b8 (u6 _ _),x5,show n8 7904181063698728992 8++n8 18386141011142107824 8=aC 1 by decide +kernel,b8 (B2 1 (by decide))]
  show B.mx [F9 0,V.z 16 (sub (sub (bv (n8 7904181063698728992 8)) 0 8++sub (bv (n8 18386141011142107824 8)) 0 8) 0 16),g8]=_;rw[he];rfl
 ·refine⟨by decide,by decide,_,rfl,rfl,Zc _,?_⟩;refine⟨by decide,by decide,_,rfl,?_⟩;refine⟨[],_,_,_,_,jW (v:=15821769039155751280) rfl,rfl,rfl,?_⟩;refine⟨by decide,by decide,_,rfl,?_⟩;refine⟨[],_,_,_,_,jW (v:=226472410124699918) rfl,rfl,rfl,?_⟩;refine⟨by decide,by decide,by decide,?_⟩;refine⟨by decide,by decide,by decide,?_⟩;refine⟨3,by decide,by decide,[.k 0],⟨rfl,rfl,rfl,tq⟩,⟨_,rfl,?_⟩,tq⟩;have he:sub (sub (bv (n8 15821769039155751280 8)) 0 8++sub (bv (n8 226472410124699918 8)) 0 8) 0 16=bv (aC 2):=by
   rw[b8 (u6 _ _),b8 (u6 _ _),x5,show n8 15821769039155751280 8++n8 226472410124699918 8=aC 2 by decide +kernel,b8 (B2 2 (by decide))]
  show B.mx [F9 0,F9 1,V.z 16 (sub (sub (bv (n8 15821769039155751280 8)) 0 8++sub (bv (n8 226472410124699918 8)) 0 8) 0 16)]=_;rw[he];rfl
 ·refine⟨_,rfl,rfl,Zc _,_,rfl,rfl,?_⟩;exact⟨_,rfl,[],rfl,tq⟩
 ·omega
def T9 (key:Bs):Bs:=key.drop 16++Zo (32-key.length) 0
def d8 (q:Nat) (key:Bs):Nat->Bs×Bs
 |0=>(key.take 16,T9 key)
 |i+1=>(f8 (D6 (1+i%2) (d8 q key i).1 (aC ((i+q)%3))) (d8 q key i).2,(d8 q key i).1)
theorem n7 (q:Nat) {key:Bs} (h:16<=key.length) (h2:key.length<=32):∀i,(d8 q key i).1.length=16/\(d8 q key i).2.length=16
 |0=>by
  constructor
  ·show(key.take 16).length=16;rw[List.length_take];omega
  ·show(T9 key).length=16;rw[T9,Zm,List.length_drop,Zt];omega
 |i+1=>⟨w6 (r8 _ _ _) (n7 q h h2 i).2,(n7 q h h2 i).1⟩
def L6 (j:Nat):Int:=[-19, -31,61,31,19].getD j 0
def o6 (q:Nat) (key:Bs) (i:Nat):Bs:=f8 (d8 q key (i%4)).1 (G8 (d8 q key ((i+1)%4)).1 (L6 (i/4)%128).toNat)
def iH (q:Nat) (key:Bs) (n:Nat):List (Bs):=(List.range n).map (o6 q key)
theorem eJ (q key n):iH q key (n+1)=iH q key n++[o6 q key n]:=by simp[iH,Zn]
theorem R8 (q key n):(iH q key n).length=n:=by simp[iH]
abbrev j5 (l:Bs):V:= .z 16 (bv l)
def j8 (q:Nat) (key:Bs) (n:Nat):List V:=(iH q key n).map j5
theorem R7 (H a6) (q key n):(j8 q key n).map (m5 H a6 6)=j8 q key n:=by
 unfold j8;rw[List.map_map];exact Zu fun _ _=>rfl
theorem jx {j:Nat} (h:j<5):([i64 (-19),i64 (-31),i64 61,i64 31,i64 19]:List V)[j]? =some (i64 (L6 j)):=by
 rcases j with _|_|_|_|_|j;all_goals first|rfl|omega
theorem eG {j:Nat} (h:j<5): -9223372036854775808<=L6 j/\L6 j<=9223372036854775807:=by
 rcases j with _|_|_|_|_|j;all_goals first|decide|omega
theorem kf {n:Nat} {va:List Value} {v:Bs} (ha:va=bv v) (hv:v.length=n) (h:n<=16):sub ((Zo 16 (Value.int .u8 0)).take 0++va.take (min n 16)++(Zo 16 (Value.int .u8 0)).drop (0+min n 16)) 0 16=bv (v++Zo (16-n) 0):=by
 subst ha;rw[Nat.min_eq_left h,List.take_zero,List.nil_append,Ze,List.drop_replicate,Z4 (by rw[f9];omega),S2,x5,b8 (by rw[Zm,Zt];omega)]
theorem pn {n:Nat} {v:Bs} (hv:v.length=n) (h:16<=n):sub ((Zo 16 (Value.int .u8 0)).take 0++(bv v).take (min n 16)++(Zo 16 (Value.int .u8 0)).drop (0+min n 16)) 0 16=bv (v.take 16):=by
 have e:(bv v).take 16=bv (v.take 16):=by simp[bv,List.map_take]
 rw[Nat.min_eq_right h,List.take_zero,List.nil_append,Ze,List.drop_replicate,Nat.sub_self,List.replicate_zero,List.append_nil,e,b8 (by rw[List.length_take];omega)]
def jB (q:Nat) (key:Bs) (i:Nat):B:=match i with
 |0=> .mx [j5 (d8 q key 0).1,g8,g8,g8]
 |1=> .mx [j5 (d8 q key 0).1,j5 (d8 q key 1).1,g8,g8]
 |2=> .mx [j5 (d8 q key 0).1,j5 (d8 q key 1).1,j5 (d8 q key 2).1,g8]
 |_=> .mx [j5 (d8 q key 0).1,j5 (d8 q key 1).1,j5 (d8 q key 2).1,j5 (d8 q key 3).1]
theorem HQ {va:List Value} {key:Bs} (ha:va=bv key) (hk:key.length=16):a7 C 142 [dv,.z 16 va] [] (.ret (.o 1 (.k 0) 0 13)) [.mx (j8 0 key 13)]:=by
 subst ha;refine kv.c ?_;refine U9 0 rfl 13 (fun r=>⟨[(5,i64 0),(7,.p (.k 1) 0),(10,.o 1 (.k 0) 0 r),(11,.p (.k 2) 0),(12,i64 r)],[.mx (j8 0 key r),.mx [j5 (d8 0 key 0).1,j5 (d8 0 key 1).1,j5 (d8 0 key 2).1,j5 (d8 0 key 3).1],.mx [i64 (-19),i64 (-31),i64 61,i64 31,i64 19]]⟩) ?_ fun r hr=> ?_
 ·refine⟨by decide,?_⟩;refine⟨[],_,_,_,_,jO,rfl,rfl,?_⟩;refine⟨Zc _,by decide,by decide,by decide,?_⟩;refine⟨Zc _,?_⟩;refine⟨by decide,by decide,_,rfl,?_⟩;refine⟨by rw[f9,hk],by decide,?_⟩;refine⟨by decide,by decide,by decide,?_⟩;refine⟨by decide,by omega,Zc _,Zc _,?_⟩;refine⟨by rw[l4,f9,j4,hk];rfl,by decide,?_⟩;refine j9 (fun i=>⟨[(2,.p (.k 0) 0),(5,i64 0),(6,.p (.k 1) 0),(7,.p (.k 2) 0),(8,j5 (d8 0 key i).2),(33,i64 i)],[.mx [t4 0,t4 1,t4 2,t4 3],.mx [F9 0,F9 1,F9 2],jB 0 key i]⟩) 3 ⟨[.d 2 0,.d 6 0,.d 7 0],⟨rfl,rfl,rfl,rfl,?_,rfl,tq⟩,⟨_,rfl,rfl⟩,⟨_,rfl,rfl⟩,⟨_,rfl,?_⟩,tq⟩ fun i hi=> ?_
  ·show V.z 16 _=V.z 16 _;refine congrArg (V.z 16) (Eq.trans (kf (n:=0) (v:=sub key 16 0) (l4 _ _ _) (by rw[j4];omega) (by decide)) (congrArg bv ?_));show sub key 16 0++_=T9 key;rw[T9,hk,G5 _ _ _ (by omega)]
  ·exact congrArg (fun z=>B.mx [V.z 16 z,g8,g8,g8]) (pn hk (by decide))
  rcases i with _|_|_|_|i
  ·refine⟨_,rfl,rfl,by decide,by decide,by decide,_,rfl,by decide,by decide,by decide,_,rfl,?_⟩;refine⟨[],_,_,_,_,P9 (k:=1) (b:=(d8 0 key 0).1) (key:=aC 0) rfl rfl (n7 0 (by omega) (by omega) 0).1 (B2 0 (by decide)) (by decide) (by decide),rfl,rfl,?_⟩;refine⟨by decide,by decide,Zf rfl,?_⟩;refine⟨by decide,by decide,_,rfl,?_⟩;refine⟨[],_,_,_,_,B5 (a:=D6 1 (d8 0 key 0).1 (aC 0)) (b:=(d8 0 key 0).2) (b8 (r8 _ _ _)) rfl (r8 _ _ _) (n7 0 (by omega) (by omega) 0).2 (by decide),rfl,rfl,?_⟩;refine⟨by decide,by decide,Zf rfl,?_⟩;refine⟨by decide,by decide,_,rfl,?_⟩;refine⟨1,by decide,by decide,[.k 0,.k 1,.k 2],⟨rfl,rfl,rfl,rfl,rfl,rfl,tq⟩,⟨_,rfl,rfl⟩,⟨_,rfl,rfl⟩,⟨_,rfl,?_⟩,tq⟩;show B.mx [j5 (d8 0 key 0).1,V.z 16 (sub (bv (d8 0 key 1).1) 0 16),g8,g8]=_;rw[b8 (n7 0 (by omega) (by omega) 1).1];rfl
  ·refine⟨_,rfl,rfl,by decide,by decide,by decide,_,rfl,by decide,by decide,by decide,_,rfl,?_⟩;refine⟨[],_,_,_,_,P9 (k:=2) (b:=(d8 0 key 1).1) (key:=aC 1) rfl rfl (n7 0 (by omega) (by omega) 1).1 (B2 1 (by decide)) (by decide) (by decide),rfl,rfl,?_⟩;refine⟨by decide,by decide,Zf rfl,?_⟩;refine⟨by decide,by decide,_,rfl,?_⟩;refine⟨[],_,_,_,_,B5 (a:=D6 2 (d8 0 key 1).1 (aC 1)) (b:=(d8 0 key 1).2) (b8 (r8 _ _ _)) rfl (r8 _ _ _) (n7 0 (by omega) (by omega) 1).2 (by decide),rfl,rfl,?_⟩;refine⟨by decide,by decide,Zf rfl,?_⟩;refine⟨by decide,by decide,_,rfl,?_⟩;refine⟨2,by decide,by decide,[.k 0,.k 1,.k 2],⟨rfl,rfl,rfl,rfl,rfl,rfl,tq⟩,⟨_,rfl,rfl⟩,⟨_,rfl,rfl⟩,⟨_,rfl,?_⟩,tq⟩;show B.mx [j5 (d8 0 key 0).1,j5 (d8 0 key 1).1,V.z 16 (sub (bv (d8 0 key 2).1) 0 16),g8]=_;rw[b8 (n7 0 (by omega) (by omega) 2).1];rfl
  ·refine⟨_,rfl,rfl,by decide,by decide,by decide,_,rfl,by decide,by decide,by decide,_,rfl,?_⟩;refine⟨[],_,_,_,_,P9 (k:=1) (b:=(d8 0 key 2).1) (key:=aC 2) rfl rfl (n7 0 (by omega) (by omega) 2).1 (B2 2 (by decide)) (by decide) (by decide),rfl,rfl,?_⟩;refine⟨by decide,by decide,Zf rfl,?_⟩;refine⟨by decide,by decide,_,rfl,?_⟩;refine⟨[],_,_,_,_,B5 (a:=D6 1 (d8 0 key 2).1 (aC 2)) (b:=(d8 0 key 2).2) (b8 (r8 _ _ _)) rfl (r8 _ _ _) (n7 0 (by omega) (by omega) 2).2 (by decide),rfl,rfl,?_⟩;refine⟨by decide,by decide,Zf rfl,?_⟩;refine⟨by decide,by decide,_,rfl,?_⟩;refine⟨3,by decide,by decide,[.k 0,.k 1,.k 2],⟨rfl,rfl,rfl,rfl,rfl,rfl,tq⟩,⟨_,rfl,rfl⟩,⟨_,rfl,rfl⟩,⟨_,rfl,?_⟩,tq⟩;show B.mx [j5 (d8 0 key 0).1,j5 (d8 0 key 1).1,j5 (d8 0 key 2).1,V.z 16 (sub (bv (d8 0 key 3).1) 0 16)]=_;rw[b8 (n7 0 (by omega) (by omega) 3).1];rfl
  ·refine⟨Zc _,[(10,1,.mx [])],0,by decide,[.d 900000 0,.k 2,.d 11 0],⟨rfl,rfl,rfl,rfl,rfl,tq⟩,⟨_,rfl,rfl⟩,⟨_,rfl,rfl⟩,⟨_,rfl,rfl⟩,tq⟩
  ·omega
 ·have e1:((r:Int)).tmod 4=((r%4:Nat):Int):=by rw[Zg (by omega)];omega
  have e2:(I6.wrap ((r:Int)+1)).tmod 4=(((r+1)%4:Nat):Int):=by
   rw[Za _ (by omega),Zg (by omega)];omega
  have e3:I6.wrap (((r:Int)).tdiv 4)=((r/4:Nat):Int):=by
   rw[Zi (by omega),Za _ (by omega)];omega
  have m1:=Zr r (show 4>0 by decide);have m2:=Zr (r+1) (show 4>0 by decide);have hW:∀k,(d8 0 key k).1.length=16:=fun k=>(n7 0 (by omega) (by omega) k).1;refine⟨by decide,by decide,by rw[e1];omega,by rw[e1];omega,?_⟩;refine⟨_,by rw[e1,Zb,Zd,Ze];exact G9 (f:=fun k=>j5 (d8 0 key k).1) rfl rfl rfl rfl m1,?_⟩;refine⟨by rw[e2];omega,by rw[e2];omega,?_⟩;refine⟨_,by rw[e2,Zb,Zd,Ze];exact G9 (f:=fun k=>j5 (d8 0 key k).1) rfl rfl rfl rfl m2,?_⟩;refine⟨by decide,by rw[e3];omega,by rw[e3];omega,?_⟩;refine⟨_,by rw[e3,Zb,Zd,Ze];exact jx (by omega),?_⟩;refine⟨[],_,_,_,_,iR (b:=(d8 0 key ((r+1)%4)).1) (n:=L6 (r/4)) rfl (hW _) (by decide) (by decide) (eG (by omega)),rfl,rfl,?_⟩;refine⟨[],_,_,_,_,B5 (a:=(d8 0 key (r%4)).1) (b:=G8 (d8 0 key ((r+1)%4)).1 (L6 (r/4)%128).toNat) rfl (b8 (by rw[B3,hW])) (hW _) (by rw[B3,hW]) (by decide),rfl,rfl,?_⟩;refine⟨Zc _,by omega,by rw[j8,Zq,R8];omega,?_⟩;have hs0:sub (j8 0 key r) 0 (r*1)=j8 0 key r:=by rw[Zd,z5 (by rw[j8,Zq,R8])]
  have hst:j8 0 key r++[V.z 16 (sub (bv (o6 0 key r)) 0 16)]=j8 0 key (r+1):=by
   rw[b8 (by rw[o6];exact w6 (hW _) (by rw[B3,hW])),j8,j8,eJ,Zl];rfl
  have he:I6.wrap (13+I6.wrap (2*0))=13:=by decide
  refine c9 (fun h=> ?_) (fun h=> ?_)
  ·rw[he,Za _ (by omega)]at h;refine⟨rfl,r+1,by omega,by omega,[.d 93 0,.k 1,.k 2],⟨rfl,rfl,rfl,rfl,d7 (by simp(disch:=omega)only[Za];omega),tq⟩,⟨_,rfl,?_⟩,⟨_,rfl,rfl⟩,⟨_,rfl,rfl⟩,tq⟩;show B.mx (Zv (m5 _ _ 6) (sub (j8 0 key r) 0 (r*1)++[V.o _ _ _ _]))=_;rw[Zl,hs0,R7];exact congrArg B.mx hst
  ·rw[he,Za _ (by omega)]at h;obtain rfl:r=12:=(by omega);refine⟨_,rfl,[.d 93 0],rfl,⟨_,rfl,?_⟩,tq⟩;show B.mx (Zv (m5 _ _ 6) (sub (j8 0 key 12) 0 (12*1)++[V.o _ _ _ _]))=_;rw[Zl,hs0,R7];exact congrArg B.mx hst
theorem HS {va:List Value} {key:Bs} (ha:va=bv key) (hk:key.length=24):a7 C 142 [dv,.z 24 va] [] (.ret (.o 1 (.k 0) 0 15)) [.mx (j8 1 key 15)]:=by
 subst ha;refine kv.c ?_;refine U9 0 rfl 15 (fun r=>⟨[(5,i64 1),(7,.p (.k 1) 0),(10,.o 1 (.k 0) 0 r),(11,.p (.k 2) 0),(12,i64 r)],[.mx (j8 1 key r),.mx [j5 (d8 1 key 0).1,j5 (d8 1 key 1).1,j5 (d8 1 key 2).1,j5 (d8 1 key 3).1],.mx [i64 (-19),i64 (-31),i64 61,i64 31,i64 19]]⟩) ?_ fun r hr=> ?_
 ·refine⟨by decide,?_⟩;refine⟨[],_,_,_,_,jO,rfl,rfl,?_⟩;refine⟨Zc _,by decide,by decide,by decide,?_⟩;refine⟨Zc _,?_⟩;refine⟨by decide,by decide,_,rfl,?_⟩;refine⟨by rw[f9,hk],by decide,?_⟩;refine⟨by decide,by decide,by decide,?_⟩;refine⟨by decide,by omega,Zc _,Zc _,?_⟩;refine⟨by rw[l4,f9,j4,hk];rfl,by decide,?_⟩;refine j9 (fun i=>⟨[(2,.p (.k 0) 0),(5,i64 1),(6,.p (.k 1) 0),(7,.p (.k 2) 0),(8,j5 (d8 1 key i).2),(33,i64 i)],[.mx [t4 0,t4 1,t4 2,t4 3],.mx [F9 0,F9 1,F9 2],jB 1 key i]⟩) 3 ⟨[.d 2 0,.d 6 0,.d 7 0],⟨rfl,rfl,rfl,rfl,?_,rfl,tq⟩,⟨_,rfl,rfl⟩,⟨_,rfl,rfl⟩,⟨_,rfl,?_⟩,tq⟩ fun i hi=> ?_
  ·show V.z 16 _=V.z 16 _;refine congrArg (V.z 16) (Eq.trans (kf (n:=8) (v:=sub key 16 8) (l4 _ _ _) (by rw[j4];omega) (by decide)) (congrArg bv ?_));show sub key 16 8++_=T9 key;rw[T9,hk,G5 _ _ _ (by omega)]
  ·exact congrArg (fun z=>B.mx [V.z 16 z,g8,g8,g8]) (pn hk (by decide))
  rcases i with _|_|_|_|i
  ·refine⟨_,rfl,rfl,by decide,by decide,by decide,_,rfl,by decide,by decide,by decide,_,rfl,?_⟩;refine⟨[],_,_,_,_,P9 (k:=1) (b:=(d8 1 key 0).1) (key:=aC 1) rfl rfl (n7 1 (by omega) (by omega) 0).1 (B2 1 (by decide)) (by decide) (by decide),rfl,rfl,?_⟩;refine⟨by decide,by decide,Zf rfl,?_⟩;refine⟨by decide,by decide,_,rfl,?_⟩;refine⟨[],_,_,_,_,B5 (a:=D6 1 (d8 1 key 0).1 (aC 1)) (b:=(d8 1 key 0).2) (b8 (r8 _ _ _)) rfl (r8 _ _ _) (n7 1 (by omega) (by omega) 0).2 (by decide),rfl,rfl,?_⟩;refine⟨by decide,by decide,Zf rfl,?_⟩;refine⟨by decide,by decide,_,rfl,?_⟩;refine⟨1,by decide,by decide,[.k 0,.k 1,.k 2],⟨rfl,rfl,rfl,rfl,rfl,rfl,tq⟩,⟨_,rfl,rfl⟩,⟨_,rfl,rfl⟩,⟨_,rfl,?_⟩,tq⟩;show B.mx [j5 (d8 1 key 0).1,V.z 16 (sub (bv (d8 1 key 1).1) 0 16),g8,g8]=_;rw[b8 (n7 1 (by omega) (by omega) 1).1];rfl
  ·refine⟨_,rfl,rfl,by decide,by decide,by decide,_,rfl,by decide,by decide,by decide,_,rfl,?_⟩;refine⟨[],_,_,_,_,P9 (k:=2) (b:=(d8 1 key 1).1) (key:=aC 2) rfl rfl (n7 1 (by omega) (by omega) 1).1 (B2 2 (by decide)) (by decide) (by decide),rfl,rfl,?_⟩;refine⟨by decide,by decide,Zf rfl,?_⟩;refine⟨by decide,by decide,_,rfl,?_⟩;refine⟨[],_,_,_,_,B5 (a:=D6 2 (d8 1 key 1).1 (aC 2)) (b:=(d8 1 key 1).2) (b8 (r8 _ _ _)) rfl (r8 _ _ _) (n7 1 (by omega) (by omega) 1).2 (by decide),rfl,rfl,?_⟩;refine⟨by decide,by decide,Zf rfl,?_⟩;refine⟨by decide,by decide,_,rfl,?_⟩;refine⟨2,by decide,by decide,[.k 0,.k 1,.k 2],⟨rfl,rfl,rfl,rfl,rfl,rfl,tq⟩,⟨_,rfl,rfl⟩,⟨_,rfl,rfl⟩,⟨_,rfl,?_⟩,tq⟩;show B.mx [j5 (d8 1 key 0).1,j5 (d8 1 key 1).1,V.z 16 (sub (bv (d8 1 key 2).1) 0 16),g8]=_;rw[b8 (n7 1 (by omega) (by omega) 2).1];rfl
  ·refine⟨_,rfl,rfl,by decide,by decide,by decide,_,rfl,by decide,by decide,by decide,_,rfl,?_⟩;refine⟨[],_,_,_,_,P9 (k:=1) (b:=(d8 1 key 2).1) (key:=aC 0) rfl rfl (n7 1 (by omega) (by omega) 2).1 (B2 0 (by decide)) (by decide) (by decide),rfl,rfl,?_⟩;refine⟨by decide,by decide,Zf rfl,?_⟩;refine⟨by decide,by decide,_,rfl,?_⟩;refine⟨[],_,_,_,_,B5 (a:=D6 1 (d8 1 key 2).1 (aC 0)) (b:=(d8 1 key 2).2) (b8 (r8 _ _ _)) rfl (r8 _ _ _) (n7 1 (by omega) (by omega) 2).2 (by decide),rfl,rfl,?_⟩;refine⟨by decide,by decide,Zf rfl,?_⟩;refine⟨by decide,by decide,_,rfl,?_⟩;refine⟨3,by decide,by decide,[.k 0,.k 1,.k 2],⟨rfl,rfl,rfl,rfl,rfl,rfl,tq⟩,⟨_,rfl,rfl⟩,⟨_,rfl,rfl⟩,⟨_,rfl,?_⟩,tq⟩;show B.mx [j5 (d8 1 key 0).1,j5 (d8 1 key 1).1,j5 (d8 1 key 2).1,V.z 16 (sub (bv (d8 1 key 3).1) 0 16)]=_;rw[b8 (n7 1 (by omega) (by omega) 3).1];rfl
  ·refine⟨Zc _,[(10,1,.mx [])],0,by decide,[.d 900000 0,.k 2,.d 11 0],⟨rfl,rfl,rfl,rfl,rfl,tq⟩,⟨_,rfl,rfl⟩,⟨_,rfl,rfl⟩,⟨_,rfl,rfl⟩,tq⟩
  ·omega
 ·have e1:((r:Int)).tmod 4=((r%4:Nat):Int):=by rw[Zg (by omega)];omega
  have e2:(I6.wrap ((r:Int)+1)).tmod 4=(((r+1)%4:Nat):Int):=by
   rw[Za _ (by omega),Zg (by omega)];omega
  have e3:I6.wrap (((r:Int)).tdiv 4)=((r/4:Nat):Int):=by
   rw[Zi (by omega),Za _ (by omega)];omega
  have m1:=Zr r (show 4>0 by decide);have m2:=Zr (r+1) (show 4>0 by decide);have hW:∀k,(d8 1 key k).1.length=16:=fun k=>(n7 1 (by omega) (by omega) k).1;refine⟨by decide,by decide,by rw[e1];omega,by rw[e1];omega,?_⟩;refine⟨_,by rw[e1,Zb,Zd,Ze];exact G9 (f:=fun k=>j5 (d8 1 key k).1) rfl rfl rfl rfl m1,?_⟩;refine⟨by rw[e2];omega,by rw[e2];omega,?_⟩;refine⟨_,by rw[e2,Zb,Zd,Ze];exact G9 (f:=fun k=>j5 (d8 1 key k).1) rfl rfl rfl rfl m2,?_⟩;refine⟨by decide,by rw[e3];omega,by rw[e3];omega,?_⟩;refine⟨_,by rw[e3,Zb,Zd,Ze];exact jx (by omega),?_⟩;refine⟨[],_,_,_,_,iR (b:=(d8 1 key ((r+1)%4)).1) (n:=L6 (r/4)) rfl (hW _) (by decide) (by decide) (eG (by omega)),rfl,rfl,?_⟩;refine⟨[],_,_,_,_,B5 (a:=(d8 1 key (r%4)).1) (b:=G8 (d8 1 key ((r+1)%4)).1 (L6 (r/4)%128).toNat) rfl (b8 (by rw[B3,hW])) (hW _) (by rw[B3,hW]) (by decide),rfl,rfl,?_⟩;refine⟨Zc _,by omega,by rw[j8,Zq,R8];omega,?_⟩;have hs0:sub (j8 1 key r) 0 (r*1)=j8 1 key r:=by rw[Zd,z5 (by rw[j8,Zq,R8])]
  have hst:j8 1 key r++[V.z 16 (sub (bv (o6 1 key r)) 0 16)]=j8 1 key (r+1):=by
   rw[b8 (by rw[o6];exact w6 (hW _) (by rw[B3,hW])),j8,j8,eJ,Zl];rfl
  have he:I6.wrap (13+I6.wrap (2*1))=15:=by decide
  refine c9 (fun h=> ?_) (fun h=> ?_)
  ·rw[he,Za _ (by omega)]at h;refine⟨rfl,r+1,by omega,by omega,[.d 93 0,.k 1,.k 2],⟨rfl,rfl,rfl,rfl,d7 (by simp(disch:=omega)only[Za];omega),tq⟩,⟨_,rfl,?_⟩,⟨_,rfl,rfl⟩,⟨_,rfl,rfl⟩,tq⟩;show B.mx (Zv (m5 _ _ 6) (sub (j8 1 key r) 0 (r*1)++[V.o _ _ _ _]))=_;rw[Zl,hs0,R7];exact congrArg B.mx hst
  ·rw[he,Za _ (by omega)]at h;obtain rfl:r=14:=(by omega);refine⟨_,rfl,[.d 93 0],rfl,⟨_,rfl,?_⟩,tq⟩;show B.mx (Zv (m5 _ _ 6) (sub (j8 1 key 14) 0 (14*1)++[V.o _ _ _ _]))=_;rw[Zl,hs0,R7];exact congrArg B.mx hst
theorem HU {va:List Value} {key:Bs} (ha:va=bv key) (hk:key.length=32):a7 C 142 [dv,.z 32 va] [] (.ret (.o 1 (.k 0) 0 17)) [.mx (j8 2 key 17)]:=by
 subst ha;refine kv.c ?_;refine U9 0 rfl 17 (fun r=>⟨[(5,i64 2),(7,.p (.k 1) 0),(10,.o 1 (.k 0) 0 r),(11,.p (.k 2) 0),(12,i64 r)],[.mx (j8 2 key r),.mx [j5 (d8 2 key 0).1,j5 (d8 2 key 1).1,j5 (d8 2 key 2).1,j5 (d8 2 key 3).1],.mx [i64 (-19),i64 (-31),i64 61,i64 31,i64 19]]⟩) ?_ fun r hr=> ?_
 ·refine⟨by decide,?_⟩;refine⟨[],_,_,_,_,jO,rfl,rfl,?_⟩;refine⟨Zc _,by decide,by decide,by decide,?_⟩;refine⟨Zc _,?_⟩;refine⟨by decide,by decide,_,rfl,?_⟩;refine⟨by rw[f9,hk],by decide,?_⟩;refine⟨by decide,by decide,by decide,?_⟩;refine⟨by decide,by omega,Zc _,Zc _,?_⟩;refine⟨by rw[l4,f9,j4,hk];rfl,by decide,?_⟩;refine j9 (fun i=>⟨[(2,.p (.k 0) 0),(5,i64 2),(6,.p (.k 1) 0),(7,.p (.k 2) 0),(8,j5 (d8 2 key i).2),(33,i64 i)],[.mx [t4 0,t4 1,t4 2,t4 3],.mx [F9 0,F9 1,F9 2],jB 2 key i]⟩) 3 ⟨[.d 2 0,.d 6 0,.d 7 0],⟨rfl,rfl,rfl,rfl,?_,rfl,tq⟩,⟨_,rfl,rfl⟩,⟨_,rfl,rfl⟩,⟨_,rfl,?_⟩,tq⟩ fun i hi=> ?_
  ·show V.z 16 _=V.z 16 _;refine congrArg (V.z 16) (Eq.trans (kf (n:=16) (v:=sub key 16 16) (l4 _ _ _) (by rw[j4];omega) (by decide)) (congrArg bv ?_));show sub key 16 16++_=T9 key;rw[T9,hk,G5 _ _ _ (by omega)]
  ·exact congrArg (fun z=>B.mx [V.z 16 z,g8,g8,g8]) (pn hk (by decide))
  rcases i with _|_|_|_|i
  ·refine⟨_,rfl,rfl,by decide,by decide,by decide,_,rfl,by decide,by decide,by decide,_,rfl,?_⟩;refine⟨[],_,_,_,_,P9 (k:=1) (b:=(d8 2 key 0).1) (key:=aC 2) rfl rfl (n7 2 (by omega) (by omega) 0).1 (B2 2 (by decide)) (by decide) (by decide),rfl,rfl,?_⟩;refine⟨by decide,by decide,Zf rfl,?_⟩;refine⟨by decide,by decide,_,rfl,?_⟩;refine⟨[],_,_,_,_,B5 (a:=D6 1 (d8 2 key 0).1 (aC 2)) (b:=(d8 2 key 0).2) (b8 (r8 _ _ _)) rfl (r8 _ _ _) (n7 2 (by omega) (by omega) 0).2 (by decide),rfl,rfl,?_⟩;refine⟨by decide,by decide,Zf rfl,?_⟩;refine⟨by decide,by decide,_,rfl,?_⟩;refine⟨1,by decide,by decide,[.k 0,.k 1,.k 2],⟨rfl,rfl,rfl,rfl,rfl,rfl,tq⟩,⟨_,rfl,rfl⟩,⟨_,rfl,rfl⟩,⟨_,rfl,?_⟩,tq⟩;show B.mx [j5 (d8 2 key 0).1,V.z 16 (sub (bv (d8 2 key 1).1) 0 16),g8,g8]=_;rw[b8 (n7 2 (by omega) (by omega) 1).1];rfl
  ·refine⟨_,rfl,rfl,by decide,by decide,by decide,_,rfl,by decide,by decide,by decide,_,rfl,?_⟩;refine⟨[],_,_,_,_,P9 (k:=2) (b:=(d8 2 key 1).1) (key:=aC 0) rfl rfl (n7 2 (by omega) (by omega) 1).1 (B2 0 (by decide)) (by decide) (by decide),rfl,rfl,?_⟩;refine⟨by decide,by decide,Zf rfl,?_⟩;refine⟨by decide,by decide,_,rfl,?_⟩;refine⟨[],_,_,_,_,B5 (a:=D6 2 (d8 2 key 1).1 (aC 0)) (b:=(d8 2 key 1).2) (b8 (r8 _ _ _)) rfl (r8 _ _ _) (n7 2 (by omega) (by omega) 1).2 (by decide),rfl,rfl,?_⟩;refine⟨by decide,by decide,Zf rfl,?_⟩;refine⟨by decide,by decide,_,rfl,?_⟩;refine⟨2,by decide,by decide,[.k 0,.k 1,.k 2],⟨rfl,rfl,rfl,rfl,rfl,rfl,tq⟩,⟨_,rfl,rfl⟩,⟨_,rfl,rfl⟩,⟨_,rfl,?_⟩,tq⟩;show B.mx [j5 (d8 2 key 0).1,j5 (d8 2 key 1).1,V.z 16 (sub (bv (d8 2 key 2).1) 0 16),g8]=_;rw[b8 (n7 2 (by omega) (by omega) 2).1];rfl
  ·refine⟨_,rfl,rfl,by decide,by decide,by decide,_,rfl,by decide,by decide,by decide,_,rfl,?_⟩;refine⟨[],_,_,_,_,P9 (k:=1) (b:=(d8 2 key 2).1) (key:=aC 1) rfl rfl (n7 2 (by omega) (by omega) 2).1 (B2 1 (by decide)) (by decide) (by decide),rfl,rfl,?_⟩;refine⟨by decide,by decide,Zf rfl,?_⟩;refine⟨by decide,by decide,_,rfl,?_⟩;refine⟨[],_,_,_,_,B5 (a:=D6 1 (d8 2 key 2).1 (aC 1)) (b:=(d8 2 key 2).2) (b8 (r8 _ _ _)) rfl (r8 _ _ _) (n7 2 (by omega) (by omega) 2).2 (by decide),rfl,rfl,?_⟩;refine⟨by decide,by decide,Zf rfl,?_⟩;refine⟨by decide,by decide,_,rfl,?_⟩;refine⟨3,by decide,by decide,[.k 0,.k 1,.k 2],⟨rfl,rfl,rfl,rfl,rfl,rfl,tq⟩,⟨_,rfl,rfl⟩,⟨_,rfl,rfl⟩,⟨_,rfl,?_⟩,tq⟩;show B.mx [j5 (d8 2 key 0).1,j5 (d8 2 key 1).1,j5 (d8 2 key 2).1,V.z 16 (sub (bv (d8 2 key 3).1) 0 16)]=_;rw[b8 (n7 2 (by omega) (by omega) 3).1];rfl
  ·refine⟨Zc _,[(10,1,.mx [])],0,by decide,[.d 900000 0,.k 2,.d 11 0],⟨rfl,rfl,rfl,rfl,rfl,tq⟩,⟨_,rfl,rfl⟩,⟨_,rfl,rfl⟩,⟨_,rfl,rfl⟩,tq⟩
  ·omega
 ·have e1:((r:Int)).tmod 4=((r%4:Nat):Int):=by rw[Zg (by omega)];omega
  have e2:(I6.wrap ((r:Int)+1)).tmod 4=(((r+1)%4:Nat):Int):=by
   rw[Za _ (by omega),Zg (by omega)];omega
  have e3:I6.wrap (((r:Int)).tdiv 4)=((r/4:Nat):Int):=by
   rw[Zi (by omega),Za _ (by omega)];omega
  have m1:=Zr r (show 4>0 by decide);have m2:=Zr (r+1) (show 4>0 by decide);have hW:∀k,(d8 2 key k).1.length=16:=fun k=>(n7 2 (by omega) (by omega) k).1;refine⟨by decide,by decide,by rw[e1];omega,by rw[e1];omega,?_⟩;refine⟨_,by rw[e1,Zb,Zd,Ze];exact G9 (f:=fun k=>j5 (d8 2 key k).1) rfl rfl rfl rfl m1,?_⟩;refine⟨by rw[e2];omega,by rw[e2];omega,?_⟩;refine⟨_,by rw[e2,Zb,Zd,Ze];exact G9 (f:=fun k=>j5 (d8 2 key k).1) rfl rfl rfl rfl m2,?_⟩;refine⟨by decide,by rw[e3];omega,by rw[e3];omega,?_⟩;refine⟨_,by rw[e3,Zb,Zd,Ze];exact jx (by omega),?_⟩;refine⟨[],_,_,_,_,iR (b:=(d8 2 key ((r+1)%4)).1) (n:=L6 (r/4)) rfl (hW _) (by decide) (by decide) (eG (by omega)),rfl,rfl,?_⟩;refine⟨[],_,_,_,_,B5 (a:=(d8 2 key (r%4)).1) (b:=G8 (d8 2 key ((r+1)%4)).1 (L6 (r/4)%128).toNat) rfl (b8 (by rw[B3,hW])) (hW _) (by rw[B3,hW]) (by decide),rfl,rfl,?_⟩;refine⟨Zc _,by omega,by rw[j8,Zq,R8];omega,?_⟩;have hs0:sub (j8 2 key r) 0 (r*1)=j8 2 key r:=by rw[Zd,z5 (by rw[j8,Zq,R8])]
  have hst:j8 2 key r++[V.z 16 (sub (bv (o6 2 key r)) 0 16)]=j8 2 key (r+1):=by
   rw[b8 (by rw[o6];exact w6 (hW _) (by rw[B3,hW])),j8,j8,eJ,Zl];rfl
  have he:I6.wrap (13+I6.wrap (2*2))=17:=by decide
  refine c9 (fun h=> ?_) (fun h=> ?_)
  ·rw[he,Za _ (by omega)]at h;refine⟨rfl,r+1,by omega,by omega,[.d 93 0,.k 1,.k 2],⟨rfl,rfl,rfl,rfl,d7 (by simp(disch:=omega)only[Za];omega),tq⟩,⟨_,rfl,?_⟩,⟨_,rfl,rfl⟩,⟨_,rfl,rfl⟩,tq⟩;show B.mx (Zv (m5 _ _ 6) (sub (j8 2 key r) 0 (r*1)++[V.o _ _ _ _]))=_;rw[Zl,hs0,R7];exact congrArg B.mx hst
  ·rw[he,Za _ (by omega)]at h;obtain rfl:r=16:=(by omega);refine⟨_,rfl,[.d 93 0],rfl,⟨_,rfl,?_⟩,tq⟩;show B.mx (Zv (m5 _ _ 6) (sub (j8 2 key 16) 0 (16*1)++[V.o _ _ _ _]))=_;rw[Zl,hs0,R7];exact congrArg B.mx hst
abbrev Y3 (q:Nat) (key:Bs) (n:Nat):V:= .q [t4 0,t4 1,t4 2,t4 3,.zz 1 n (j8 q key n)] 0
theorem xR {va:List Value}:a7 C 140 [.z 16 va] [] (.ret (bool true)) []:=ue.c ⟨by decide,_,rfl,[],rfl,tq⟩
theorem xT {va:List Value}:a7 C 140 [.z 24 va] [] (.ret (bool true)) []:=ue.c ⟨by decide,_,rfl,[],rfl,tq⟩
theorem xU {va:List Value}:a7 C 140 [.z 32 va] [] (.ret (bool true)) []:=ue.c ⟨by decide,_,rfl,[],rfl,tq⟩
theorem xW {va:List Value} {key:Bs} (ha:va=bv key) (hk:key.length=16):a7 C 84 [.z 16 va] [] (.ret (.t [Y3 0 key 13,i64 0])) []:=by
 refine kt.c ?_;refine⟨[],_,_,_,_,xR,rfl,rfl,?_⟩;refine⟨[],_,_,_,_,jN,rfl,rfl,?_⟩;refine⟨Zc _,?_⟩;refine⟨_,rfl,rfl,?_⟩;refine⟨_,rfl,rfl,?_⟩;refine⟨[],_,_,_,_,HQ (va:=va) ha hk,rfl,rfl,?_⟩;exact⟨_,rfl,[],rfl,tq⟩
theorem xX {va:List Value} {key:Bs} (ha:va=bv key) (hk:key.length=24):a7 C 84 [.z 24 va] [] (.ret (.t [Y3 1 key 15,i64 0])) []:=by
 refine kt.c ?_;refine⟨[],_,_,_,_,xT,rfl,rfl,?_⟩;refine⟨[],_,_,_,_,jN,rfl,rfl,?_⟩;refine⟨Zc _,?_⟩;refine⟨_,rfl,rfl,?_⟩;refine⟨_,rfl,rfl,?_⟩;refine⟨[],_,_,_,_,HS (va:=va) ha hk,rfl,rfl,?_⟩;exact⟨_,rfl,[],rfl,tq⟩
theorem xY {va:List Value} {key:Bs} (ha:va=bv key) (hk:key.length=32):a7 C 84 [.z 32 va] [] (.ret (.t [Y3 2 key 17,i64 0])) []:=by
 refine kt.c ?_;refine⟨[],_,_,_,_,xU,rfl,rfl,?_⟩;refine⟨[],_,_,_,_,jN,rfl,rfl,?_⟩;refine⟨Zc _,?_⟩;refine⟨_,rfl,rfl,?_⟩;refine⟨_,rfl,rfl,?_⟩;refine⟨[],_,_,_,_,HU (va:=va) ha hk,rfl,rfl,?_⟩;exact⟨_,rfl,[],rfl,tq⟩
def O9 (q:Nat) (key b:Bs):Nat->Bs
 |0=>b
 |r+1=>D6 (1+r%2) (O9 q key b r) (o6 q key r)
def dz (q:Nat) (key:Bs) (n:Nat) (b:Bs):Bs:=f8 (E5 2 (f8 (O9 q key b (n-2)) (o6 q key (n-2))) 16) (o6 q key (n-1))
def N7 (q:Nat) (key:Bs) (n:Nat) (b:Bs):Nat->Bs
 |0=>f8 (E5 1 (f8 b (o6 q key (n-1))) 16) (o6 q key (n-2))
 |i+1=>f8 (E5 (2-(n-3-i)%2) (G0 (N7 q key n b i)) 16) (o6 q key (n-3-i))
def fP (q:Nat) (key:Bs) (n:Nat) (b:Bs):Bs:=N7 q key n b (n-2)
structure aq (q:Nat) (key:Bs) (n:Nat):Prop where
 h1:16<=key.length
 h2:key.length<=32
 h3:13<=n
 h4:n<=17
theorem eI {q key n} (h:aq q key n) (i):(o6 q key i).length=16:=by
 have hW:∀k,(d8 q key k).1.length=16:=fun k=>(n7 q h.h1 h.h2 k).1;rw[o6];exact w6 (hW _) (by rw[B3,hW])
theorem mt {q key n b} (h:aq q key n) (hb:b.length=16):∀i,(O9 q key b i).length=16
 |0=>hb
 |i+1=>r8 _ _ _
theorem ou {q key n b} (h:aq q key n):∀i,(N7 q key n b i).length=16
 |0=>w6 (N8 _ _ _) (eI h _)
 |i+1=>w6 (N8 _ _ _) (eI h _)
theorem bO {q key n r} (h:r<n):(j8 q key n)[r]? =some (j5 (o6 q key r)):=by
 simp[j8,iH,h]
theorem Ie {va vk:List Value} {b key:Bs} {k:Nat} {x:Int} (hx:x=(k:Nat)) (ha:va=bv b) (hk:vk=bv key) (hb:b.length=16) (hkl:key.length=16) (h1:1<=k) (h2:k<=2):a7 C 143 [dv,i64 x,.z 16 va,.z 16 vk] [] (.ret (.o 1 (.k 0) 0 16)) [.sc (bv (D6 k b key))]:=by
 subst hx;exact P9 ha hk hb hkl h1 h2
theorem HW {va:List Value} {b:Bs} {k:Nat} {x:Int} (hx:x=(k:Nat)) (ha:va=bv b) (hb:b.length=16) (h1:1<=k) (h2:k<=2):a7 C 145 [dv,i64 x,.z 16 va] [] (.ret (.o 1 (.k 0) 0 16)) [.sc (bv (E5 k b 16))]:=by
 subst hx;exact oJ ha hb h1 h2
theorem yb {va:List Value} {b key:Bs} {q n:Nat} (h:aq q key n) (ha:va=bv b) (hb:b.length=16):a7 C 85 [Y3 q key n,.z 16 va,bool false] [] (A8 16) [.sc (bv (dz q key n b))]:=by
 subst ha;have h3:=h.h3;have h4:=h.h4;have kl:=eI h;have h':=h;refine ud.c ?_;refine U9 0 rfl 0 (fun _=>⟨[],[]⟩) ?_ fun r hr=>absurd hr (Nat.not_lt_zero _);refine⟨_,rfl,?_⟩;refine j9 (fun i=>⟨[(0,Y3 q key n),(1,j5 (O9 q key b i)),(8,i64 (n-1:Nat)),(9,i64 i)],[]⟩) (n-2) ⟨[],⟨rfl,rfl,?_,rfl,tq⟩,tq⟩ fun i hi=> ?_
 ·show i64 _=i64 _;rw[Za _ (by omega)];congr 2;omega
 have hel:=mt h hb i;have e0:I6.wrap (((n-1:Nat):Int)-1)=((n-2:Nat):Int):=by rw[Za _ (by omega)];omega
 refine c9 (fun h=> ?_) (fun h=> ?_)
 ·rw[e0]at h;have a9:i<n-2:=(by omega);have e1:I6.wrap (1+(i:Int).tmod 2)=((1+i%2:Nat):Int):=by
   rw[Zg (by omega),Za _ (by omega)];omega
  refine⟨_,rfl,rfl,by decide,_,rfl,by omega,by omega,?_⟩;refine⟨_,by rw[Zb,Zd];exact bO (by omega),?_⟩;refine⟨[],_,_,_,_,Ie (b:=O9 q key b i) (key:=o6 q key i) (k:=1+i%2) e1 rfl rfl hel (kl i) (by omega) (by omega),rfl,rfl,?_⟩;refine⟨i+1,by omega,by omega,[],⟨rfl,?_,rfl,d7 (by simp(disch:=omega)only[Za];omega),tq⟩,tq⟩;show V.z 16 (sub (bv (O9 q key b (i+1))) 0 16)=_;rw[b8 (mt h' hb _)]
 ·rw[e0]at h;obtain rfl:i=n-2:=(by omega);refine⟨_,rfl,by omega,by omega,?_⟩;refine⟨_,by rw[Zb,Zd];exact bO (by omega),?_⟩;refine⟨[],_,_,_,_,B5 (a:=O9 q key b (n-2)) (b:=o6 q key (n-2)) rfl rfl hel (kl _) (by decide),rfl,rfl,?_⟩;have hx:=w6 hel (kl (n-2));refine⟨_,rfl,rfl,?_⟩;refine⟨[],_,_,_,_,oJ (k:=2) (b:=f8 (O9 q key b (n-2)) (o6 q key (n-2))) (b8 hx) hx (by decide) (by decide),rfl,rfl,?_⟩;refine⟨_,rfl,by omega,by omega,?_⟩;refine⟨_,by rw[Zb,Zd];exact bO (by omega),?_⟩;have hl:=N8 2 (f8 (O9 q key b (n-2)) (o6 q key (n-2))) 16;refine⟨[],_,_,_,_,B5 (b:=o6 q key (n-1)) (b8 hl) rfl hl (kl _) (by decide),rfl,rfl,?_⟩;exact⟨_,rfl,[.d 68 0],rfl,⟨_,rfl,rfl⟩,tq⟩
theorem ya {va:List Value} {b key:Bs} {q n:Nat} (h:aq q key n) (ha:va=bv b) (hb:b.length=16):a7 C 85 [Y3 q key n,.z 16 va,bool true] [] (A8 16) [.sc (bv (fP q key n b))]:=by
 subst ha;have h3:=h.h3;have h4:=h.h4;have kl:=eI h;have h':=h;have e0:I6.wrap (((n-1:Nat):Int)-1)=((n-2:Nat):Int):=by rw[Za _ (by omega)];omega
 refine ud.c ?_;refine U9 0 rfl 1 (fun _=>⟨[(0,Y3 q key n),(1,j5 b),(8,i64 (n-1:Nat))],[]⟩) ?_ fun r hr=> ?_
 ·refine⟨_,rfl,?_⟩;refine⟨rfl,0,by decide,[],⟨rfl,rfl,?_,tq⟩,tq⟩;show i64 _=i64 _;rw[Za _ (by omega)];congr 2;omega
 refine⟨_,rfl,by omega,by omega,?_⟩;refine⟨_,by rw[Zb,Zd];exact bO (by omega),?_⟩;refine⟨[],_,_,_,_,B5 (a:=b) (b:=o6 q key (n-1)) rfl rfl hb (kl _) (by decide),rfl,rfl,?_⟩;have hx:=w6 hb (kl (n-1));refine⟨_,rfl,rfl,?_⟩;refine⟨[],_,_,_,_,oJ (k:=1) (b:=f8 b (o6 q key (n-1))) (b8 hx) hx (by decide) (by decide),rfl,rfl,?_⟩;refine⟨_,rfl,by rw[e0];omega,by rw[e0];omega,?_⟩;refine⟨_,by rw[e0,Zb,Zd];exact bO (by omega),?_⟩;have hl:=N8 1 (f8 b (o6 q key (n-1))) 16;refine⟨[],_,_,_,_,B5 (b:=o6 q key (n-2)) (b8 hl) rfl hl (kl _) (by decide),rfl,rfl,?_⟩;refine j9 (fun i=>⟨[(0,Y3 q key n),(1,.o 1 (.k 0) 0 16),(9,i64 ((n:Int)-3-i))],[.sc (bv (N7 q key n b i))]⟩) (n-2) ⟨[.d 99 0],⟨rfl,rfl,d7 ?_,tq⟩,⟨_,rfl,rfl⟩,tq⟩ fun i hi=> ?_
 ·rw[Za _ (by omega)];omega
 have hdl:=ou (b:=b) h i;refine c9 (fun h=> ?_) (fun h=> ?_)
 ·obtain⟨r,er,hrn,hri⟩:∃r:Nat,(n:Int)-3-i=r/\r<=n-3/\r=n-3-i:=⟨n-3-i,by omega,by omega,rfl⟩;have hst:N7 q key n b (i+1)=f8 (E5 (2-r%2) (G0 (N7 q key n b i)) 16) (o6 q key r):=by rw[hri];rfl
  rw[er];have e1:I6.wrap (2-(r:Int).tmod 2)=((2-r%2:Nat):Int):=by
   rw[Zg (by omega),Za _ (by omega)];omega
  refine⟨[],_,_,_,_,xV (b:=N7 q key n b i) (b8 hdl) hdl,rfl,rfl,?_⟩;refine⟨_,rfl,rfl,by decide,?_⟩;have hm:=sy (N7 q key n b i);refine⟨[],_,_,_,_,HW (k:=2-r%2) (b:=G0 (N7 q key n b i)) e1 (b8 hm) hm (by omega) (by omega),rfl,rfl,?_⟩;refine⟨_,rfl,by omega,by omega,?_⟩;refine⟨_,by rw[Zb,Zd];exact bO (by omega),?_⟩;have hl:=N8 (2-r%2) (G0 (N7 q key n b i)) 16;refine⟨[],_,_,_,_,B5 (b:=o6 q key r) (b8 hl) rfl hl (kl _) (by decide),rfl,rfl,?_⟩;refine⟨i+1,by omega,by omega,[.d 130 0],⟨rfl,rfl,d7 ?_,tq⟩,⟨_,rfl,d9 (by rw[hst])⟩,tq⟩
  ·rw[Za _ (by omega)];omega
 ·obtain rfl:i=n-2:=(by omega);exact⟨_,rfl,[.k 0],rfl,⟨_,rfl,rfl⟩,tq⟩
theorem xZ {va:List Value} {key:Bs} {q n m:Nat} {back:Bool} (hn:m≠16):a7 C 85 [Y3 q key n,.z m va,bool back] [] R9 []:=by
 refine ud.c ?_;refine U9 0 rfl 0 (fun _=>⟨[],[]⟩) ?_ fun r hr=>absurd hr (Nat.not_lt_zero _);refine o9 (fun h=> ?_) (fun h=>absurd (by omega) hn);exact⟨_,rfl,[],rfl,tq⟩
abbrev fU:V:= .q [t4 0,t4 1,t4 2,t4 3] 0
theorem tj:a7 C 112 [] [] (.ret fU) []:=by
 have m1:=yP (e:=254) (m:=283) (z:=99) (c:=99) (r0:=241) (r1:=227) (r2:=199) (r3:=143) (r4:=31) (r5:=62) (r6:=124) (r7:=248) rfl (by decide) (by decide) (by decide) (by decide);have m2:=yP (e:=247) (m:=283) (z:=226) (c:=226) (r0:=122) (r1:=188) (r2:=235) (r3:=185) (r4:=52) (r5:=129) (r6:=186) (r7:=203) rfl (by decide) (by decide) (by decide) (by decide);rw[wK]at m1;rw[wL]at m2;have b1:=yO (va:=sub (bv cE) 0 256) (b8 iI) iI GL;have b2:=yO (va:=sub (bv cG) 0 256) (b8 iJ) iJ GN;rw[wE]at b1;rw[wF]at b2;refine PY.c ?_;refine⟨[],_,_,_,_,m1,rfl,rfl,?_⟩;refine⟨[],_,_,_,_,m2,rfl,rfl,?_⟩;refine⟨[],_,_,_,_,b1,rfl,rfl,?_⟩;refine⟨[],_,_,_,_,b2,rfl,rfl,?_⟩;refine⟨_,rfl,[],?_,tq⟩;show V.q [V.z 256 (sub (bv cE) 0 256),V.z 256 (sub (bv cG) 0 256),V.z 256 (sub (bv jy) 0 256),V.z 256 (sub (bv jz) 0 256)] 0=_;rw[b8 iI,b8 iJ,b8 sw,b8 sx];rfl
theorem Ll {i:Nat} (hi:i<16):a7 C 259 [i64 i] [] (.ret (.o 1 (.k 0) 0 7)) [.sc ([.int .i64 ((t5 i).getD 0 0:Nat),.int .i64 ((t5 i).getD 1 0:Nat),.int .i64 ((t5 i).getD 2 0:Nat),.int .i64 ((t5 i).getD 3 0:Nat),.int .i64 ((t5 i).getD 4 0:Nat),.int .i64 ((t5 i).getD 5 0:Nat),.int .i64 ((t5 i).getD 6 0:Nat)])]:=by
 rcases i with _|_|_|_|_|_|_|_|_|_|_|_|_|_|_|_|i
 ·exact W0.c ⟨_,rfl,[.d 6 0],rfl,⟨_,rfl,rfl⟩,tq⟩
 ·exact W0.c ⟨_,rfl,[.d 9 0],rfl,⟨_,rfl,rfl⟩,tq⟩
 ·exact W0.c ⟨_,rfl,[.d 12 0],rfl,⟨_,rfl,rfl⟩,tq⟩
 ·exact W0.c ⟨_,rfl,[.d 15 0],rfl,⟨_,rfl,rfl⟩,tq⟩
 ·exact W0.c ⟨_,rfl,[.d 18 0],rfl,⟨_,rfl,rfl⟩,tq⟩
 ·exact W0.c ⟨_,rfl,[.d 21 0],rfl,⟨_,rfl,rfl⟩,tq⟩
 ·exact W0.c ⟨_,rfl,[.d 24 0],rfl,⟨_,rfl,rfl⟩,tq⟩
 ·exact W0.c ⟨_,rfl,[.d 27 0],rfl,⟨_,rfl,rfl⟩,tq⟩
 ·exact W0.c ⟨_,rfl,[.d 30 0],rfl,⟨_,rfl,rfl⟩,tq⟩
 ·exact W0.c ⟨_,rfl,[.d 33 0],rfl,⟨_,rfl,rfl⟩,tq⟩
 ·exact W0.c ⟨_,rfl,[.d 36 0],rfl,⟨_,rfl,rfl⟩,tq⟩
 ·exact W0.c ⟨_,rfl,[.d 39 0],rfl,⟨_,rfl,rfl⟩,tq⟩
 ·exact W0.c ⟨_,rfl,[.d 42 0],rfl,⟨_,rfl,rfl⟩,tq⟩
 ·exact W0.c ⟨_,rfl,[.d 45 0],rfl,⟨_,rfl,rfl⟩,tq⟩
 ·exact W0.c ⟨_,rfl,[.d 48 0],rfl,⟨_,rfl,rfl⟩,tq⟩
 ·exact W0.c ⟨_,rfl,[.d 49 0],rfl,⟨_,rfl,rfl⟩,tq⟩
 ·omega
theorem VL {i t:Nat} (ht:t<7):([.int .i64 ((t5 i).getD 0 0:Nat),.int .i64 ((t5 i).getD 1 0:Nat),.int .i64 ((t5 i).getD 2 0:Nat),.int .i64 ((t5 i).getD 3 0:Nat),.int .i64 ((t5 i).getD 4 0:Nat),.int .i64 ((t5 i).getD 5 0:Nat),.int .i64 ((t5 i).getD 6 0:Nat)]:List Value)[t]? =some (.int .i64 ((t5 i).getD t 0:Nat)):=by
 rcases t with _|_|_|_|_|_|_|t;all_goals first|rfl|omega
theorem yI {va:List Value} {b:Bs} (ha:va=bv b) (hb:b.length=16):a7 C 215 [.z 16 va] [] (.ret (.o 1 (.k 0) 0 16)) [.sc (bv (G0 b))]:=by
 subst ha;have h0:∀p,aX b p 0=0:=fun _=>rfl;refine PZ.c ?_;refine⟨by decide,by decide,by decide,?_⟩;refine j9 (fun i=>⟨[(0,.z 16 (bv b)),(3,.o 1 (.k 0) 0 16),(4,i64 i)],[.sc (bv (P0 16 (aX b) 7 i 0))]⟩) 16 ⟨[.d 7 0],⟨rfl,rfl,rfl,tq⟩,⟨_,rfl,d9 (by rw[wV h0];exact S2 16)⟩,tq⟩ fun i hi=> ?_;refine c9 (fun h=> ?_) (fun h=> ?_)
 ·have a9:i<16:=(by omega);refine⟨[],_,_,_,_,Ll a9,rfl,rfl,?_⟩;refine j9 (fun k=>⟨[(0,.z 16 (bv b)),(3,.o 1 (.k 0) 0 16),(4,i64 i),(5,.z 7 ([.int .i64 ((t5 i).getD 0 0:Nat),.int .i64 ((t5 i).getD 1 0:Nat),.int .i64 ((t5 i).getD 2 0:Nat),.int .i64 ((t5 i).getD 3 0:Nat),.int .i64 ((t5 i).getD 4 0:Nat),.int .i64 ((t5 i).getD 5 0:Nat),.int .i64 ((t5 i).getD 6 0:Nat)])),(6,i64 k)],[.sc (bv (P0 16 (aX b) 7 i k))]⟩) 7 ⟨[.k 0],⟨rfl,rfl,rfl,rfl,rfl,tq⟩,⟨_,rfl,rfl⟩,tq⟩ fun k hk=> ?_;refine c9 (fun h=> ?_) (fun h=> ?_)
  ·have hkl:k<7:=(by omega);have hs:=wN i a9 k hkl;refine⟨by omega,by omega,?_⟩;refine⟨_,by rw[Zb,Zd,Ze];exact mE (wR a9),?_⟩;refine⟨by omega,by omega,?_⟩;refine⟨_,by rw[Zb];exact VL hkl,?_⟩;refine⟨by omega,by omega,?_⟩;refine⟨_,by rw[Zb];exact A1 (by omega),?_⟩;refine⟨by omega,by omega,by rw[f9,wS];omega,?_⟩;refine⟨k+1,by omega,by omega,[.k 0],⟨rfl,rfl,rfl,rfl,d7 (by simp(disch:=omega)only[Za];omega),tq⟩,⟨_,rfl,d9 ?_⟩,tq⟩;rw[Zb,Zd,Ze,u7,L0,wU a9 (wP _ _ _).symm]
  ·obtain rfl:k=7:=(by omega);refine⟨i+1,by omega,by omega,[.k 0],⟨rfl,rfl,d7 (by simp(disch:=omega)only[Za];omega),tq⟩,⟨_,rfl,d9 ?_⟩,tq⟩;rw[wT h0]
 ·obtain rfl:i=16:=(by omega);refine⟨_,rfl,[.k 0],rfl,⟨_,rfl,d9 ?_⟩,tq⟩;rw[wQ];rfl
theorem GG {k:Nat} (h:k<4):([t4 0,t4 1,t4 2,t4 3]:List V)[0+0+k]? =some (t4 k):=by
 rw[show 0+0+k=k by omega];exact wC h
theorem oT {va:List Value} {b:Bs} {k:Nat} {x:Int} (hx:x=(k:Nat)) (ha:va=bv b) (hb:b.length=16) (h1:1<=k) (h2:k<=2):a7 C 214 [fU,i64 x,.z 16 va] [] (.ret (.o 1 (.k 0) 0 16)) [.sc (bv (E5 k b 16))]:=by
 subst ha;subst hx;refine PW.c ?_;refine⟨by decide,by decide,by decide,?_⟩;refine j9 (fun i=>⟨[(0,fU),(1,i64 k),(2,.z 16 (bv b)),(7,.o 1 (.k 0) 0 16),(8,i64 i)],[.sc (bv (E5 k b i++Zo (16-i) 0))]⟩) 16 ⟨[.d 11 0],⟨rfl,rfl,rfl,rfl,rfl,tq⟩,⟨_,rfl,d9 (by show Zo 16 _=_;exact S2 16)⟩,tq⟩ fun i hi=> ?_;refine c9 (fun h=> ?_) (fun h=> ?_)
 ·have a9:i<16:=(by omega);have e1:(I6.wrap ((i:Int)+I6.wrap (2*I6.wrap ((k:Int)-1)))).tmod 4=(((i+2*(k-1))%4:Nat):Int):=by
   rw[Za ((k:Int)-1) (by omega),Za (2*((k:Int)-1)) (by omega),Za _ (by omega),Zg (by omega)];omega
  have e2:=Zr (i+2*(k-1)) (show 4>0 by decide);have hx:=(b.getD i 0).toNat_lt;refine⟨by decide,by rw[e1];omega,by rw[e1];omega,?_⟩;refine⟨t4 ((i+2*(k-1))%4),by rw[e1,Zb,Zd];exact GG e2,?_⟩;refine⟨by omega,by omega,?_⟩;refine⟨_,by rw[Zb];exact A1 (by omega),?_⟩;refine⟨by omega,by show _<((256:Nat):Int);omega,?_⟩;refine⟨_,by rw[Zb];exact A1 (by rw[wD];omega),?_⟩;refine⟨by omega,by omega,by rw[f9,Zm,N8,Zt];omega,?_⟩;refine⟨i+1,by omega,by omega,[.k 0],⟨rfl,rfl,rfl,rfl,d7 (by simp(disch:=omega)only[Za];omega),tq⟩,⟨_,rfl,d9 ?_⟩,tq⟩;rw[Zb,Zd,Ze,nh (N8 _ _ _) a9,wH]
 ·obtain rfl:i=16:=(by omega);refine⟨_,rfl,[.k 0],rfl,⟨_,rfl,d9 ?_⟩,tq⟩;simp
theorem dH {va vk:List Value} {b key:Bs} {k:Nat} {x:Int} (hx:x=(k:Nat)) (ha:va=bv b) (hk:vk=bv key) (hb:b.length=16) (hkl:key.length=16) (h1:1<=k) (h2:k<=2):a7 C 172 [fU,i64 x,.z 16 va,.z 16 vk] [] (.ret (.o 1 (.k 0) 0 16)) [.sc (bv (D6 k b key))]:=by
 refine PX.c ?_;refine⟨[],_,_,_,_,G1 ha hk hb hkl (by decide),rfl,rfl,?_⟩;have hx2:(f8 b key).length=16:=w6 hb hkl;refine⟨[],_,_,_,_,oT (b:=f8 b key) (k:=k) hx (b8 hx2) hx2 h1 h2,rfl,rfl,?_⟩;have hl:=N8 k (f8 b key) 16;refine⟨[],_,_,_,_,yI (b:=E5 k (f8 b key) 16) (b8 hl) hl,rfl,rfl,?_⟩;exact⟨_,rfl,[.d 15 0],rfl,⟨_,rfl,rfl⟩,tq⟩
theorem eO {i:Nat} {x:Int} (hx:x=(i:Nat)) (hi:i<5):a7 C 173 [i64 x] [] (.ret (.o 1 (.k 0) 0 16)) [.sc (bv (aC (i%3)))]:=by
 subst hx;have h0:bv (n8 5871781006564002452 8)++bv (n8 18308165927316385504 8)=bv (aC 0):=by
  rw[x5,show n8 5871781006564002452 8++n8 18308165927316385504 8=aC 0 by decide +kernel]
 have h1:bv (n8 7904181063698728992 8)++bv (n8 18386141011142107824 8)=bv (aC 1):=by
  rw[x5,show n8 7904181063698728992 8++n8 18386141011142107824 8=aC 1 by decide +kernel]
 have h2:bv (n8 15821769039155751280 8)++bv (n8 226472410124699918 8)=bv (aC 2):=by
  rw[x5,show n8 15821769039155751280 8++n8 226472410124699918 8=aC 2 by decide +kernel]
 rcases i with _|_|_|_|_|i
 ·refine nd.c ?_;refine⟨by decide,by decide,by decide,_,rfl,?_⟩;refine⟨[],_,_,_,_,dI (v:=5871781006564002452) rfl,rfl,rfl,?_⟩;refine⟨by decide,by decide,by decide,_,rfl,?_⟩;refine⟨[],_,_,_,_,dI (v:=18308165927316385504) rfl,rfl,rfl,?_⟩;refine⟨by decide,by decide,by decide,?_⟩;refine⟨_,rfl,[.d 19 0],rfl,⟨_,rfl,d9 ?_⟩,tq⟩;show sub (bv (n8 5871781006564002452 8)) 0 8++sub (bv (n8 18308165927316385504 8)) 0 8=_;rw[b8 (u6 _ _),b8 (u6 _ _)];exact h0
 ·refine nd.c ?_;refine⟨by decide,by decide,by decide,_,rfl,?_⟩;refine⟨[],_,_,_,_,dI (v:=7904181063698728992) rfl,rfl,rfl,?_⟩;refine⟨by decide,by decide,by decide,_,rfl,?_⟩;refine⟨[],_,_,_,_,dI (v:=18386141011142107824) rfl,rfl,rfl,?_⟩;refine⟨by decide,by decide,by decide,?_⟩;refine⟨_,rfl,[.d 19 0],rfl,⟨_,rfl,d9 ?_⟩,tq⟩;show sub (bv (n8 7904181063698728992 8)) 0 8++sub (bv (n8 18386141011142107824 8)) 0 8=_;rw[b8 (u6 _ _),b8 (u6 _ _)];exact h1
 ·refine nd.c ?_;refine⟨by decide,by decide,by decide,_,rfl,?_⟩;refine⟨[],_,_,_,_,dI (v:=15821769039155751280) rfl,rfl,rfl,?_⟩;refine⟨by decide,by decide,by decide,_,rfl,?_⟩;refine⟨[],_,_,_,_,dI (v:=226472410124699918) rfl,rfl,rfl,?_⟩;refine⟨by decide,by decide,by decide,?_⟩;refine⟨_,rfl,[.d 19 0],rfl,⟨_,rfl,d9 ?_⟩,tq⟩;show sub (bv (n8 15821769039155751280 8)) 0 8++sub (bv (n8 226472410124699918 8)) 0 8=_;rw[b8 (u6 _ _),b8 (u6 _ _)];exact h2
 ·refine nd.c ?_;refine⟨by decide,by decide,by decide,_,rfl,?_⟩;refine⟨[],_,_,_,_,dI (v:=5871781006564002452) rfl,rfl,rfl,?_⟩;refine⟨by decide,by decide,by decide,_,rfl,?_⟩;refine⟨[],_,_,_,_,dI (v:=18308165927316385504) rfl,rfl,rfl,?_⟩;refine⟨by decide,by decide,by decide,?_⟩;refine⟨_,rfl,[.d 19 0],rfl,⟨_,rfl,d9 ?_⟩,tq⟩;show sub (bv (n8 5871781006564002452 8)) 0 8++sub (bv (n8 18308165927316385504 8)) 0 8=_;rw[b8 (u6 _ _),b8 (u6 _ _)];exact h0
 ·refine nd.c ?_;refine⟨by decide,by decide,by decide,_,rfl,?_⟩;refine⟨[],_,_,_,_,dI (v:=7904181063698728992) rfl,rfl,rfl,?_⟩;refine⟨by decide,by decide,by decide,_,rfl,?_⟩;refine⟨[],_,_,_,_,dI (v:=18386141011142107824) rfl,rfl,rfl,?_⟩;refine⟨by decide,by decide,by decide,?_⟩;refine⟨_,rfl,[.d 19 0],rfl,⟨_,rfl,d9 ?_⟩,tq⟩;show sub (bv (n8 7904181063698728992 8)) 0 8++sub (bv (n8 18386141011142107824 8)) 0 8=_;rw[b8 (u6 _ _),b8 (u6 _ _)];exact h1
 ·omega
theorem sF {j:Nat} (h:j<5):([.int .i64 (-19),.int .i64 (-31),.int .i64 61,.int .i64 31,.int .i64 19]:List Value)[j]? =some (.int .i64 (L6 j)):=by
 rcases j with _|_|_|_|_|j;all_goals first|rfl|omega
theorem vO {key:Bs} (h:16<=key.length):sub (sub ([]:List Value) 0 (0*1)++sub (bv key) 0 16) 0 16=bv (key.take 16):=by
 rw[l4];show sub (bv (sub key 0 16)) 0 16=_;rw[b8 (by rw[j4];omega)];simp[sub]
theorem vP {key:Bs} {m k:Nat} (hk:key.length=16+m) (hm:k=16-m) (h:m<=16):sub (sub (sub ([]:List Value) 0 (0*1)++sub (bv key) 16 m) 0 (m*1)++Zo k (Value.int .u8 0)) 0 16=bv (T9 key):=by
 subst hm;rw[l4];show sub (sub (bv (sub key 16 m)) 0 (m*1)++Zo (16-m) (Value.int .u8 0)) 0 16=_;have hl:(sub key 16 m).length=m:=by rw[j4];omega
 rw[Zd,b8 hl,S2,x5,b8 (by rw[Zm,Zt,hl];omega),T9,hk,G5 _ _ _ (by omega)];congr 3;omega
abbrev bP (q:Nat) (key:Bs) (n:Nat):V:= .q [fU,.zz 1 n (j8 q key n)] 0
theorem Li {va:List Value} {key:Bs} (ha:va=bv key) (hk:key.length=16):a7 C 113 [fU,.z 16 va] [] (.ret (.o 1 (.k 0) 0 13)) [.mx (j8 0 key 13)]:=by
 subst ha;have hW:∀k,(d8 0 key k).1.length=16:=fun k=>(n7 0 (by omega) (by omega) k).1;have hP:∀k,(d8 0 key k).2.length=16:=fun k=>(n7 0 (by omega) (by omega) k).2;have h6:=vO (key:=key) (by omega);have h7:=vP (key:=key) (m:=0) (k:=16) (by omega) rfl (by decide);refine uh.c ?_;refine⟨by decide,?_⟩;refine⟨by decide,by decide,by decide,by decide,?_⟩;refine⟨by rw[l4,f9,j4,hk];rfl,by decide,Zc _,?_⟩;refine⟨by decide,by omega,Zc _,Zc _,?_⟩;refine⟨by rw[l4,f9,j4,hk];rfl,by decide,Zc _,?_⟩;refine⟨by decide,by decide,by decide,?_,_,rfl,?_⟩
 ·show 0+0*1<=(sub (bv key) 16 0).length;rw[l4,f9,j4];omega
 refine⟨Zc _,?_⟩;refine⟨[],_,_,_,_,eO (i:=0) rfl (by decide),rfl,rfl,?_⟩;refine⟨[],_,_,_,_,dH (k:=1) (b:=(d8 0 key 0).1) (key:=aC 0) rfl h6 (b8 (B2 _ (by decide))) (hW 0) (B2 _ (by decide)) (by decide) (by decide),rfl,rfl,?_⟩;refine⟨[],_,_,_,_,G1 (a:=D6 1 (d8 0 key 0).1 (aC 0)) (b:=(d8 0 key 0).2) (b8 (r8 _ _ _)) h7 (r8 _ _ _) (hP 0) (by decide),rfl,rfl,?_⟩;refine⟨by decide,by decide,Zf rfl,?_⟩;refine⟨by decide,by decide,_,rfl,?_⟩;refine⟨[],_,_,_,_,eO (i:=1) rfl (by decide),rfl,rfl,?_⟩;refine⟨[],_,_,_,_,dH (k:=2) (b:=(d8 0 key 1).1) (key:=aC 1) rfl (b8 (hW 1)) (b8 (B2 _ (by decide))) (hW 1) (B2 _ (by decide)) (by decide) (by decide),rfl,rfl,?_⟩;refine⟨[],_,_,_,_,G1 (a:=D6 2 (d8 0 key 1).1 (aC 1)) (b:=(d8 0 key 1).2) (b8 (r8 _ _ _)) h6 (r8 _ _ _) (hP 1) (by decide),rfl,rfl,?_⟩;refine⟨by decide,by decide,Zf rfl,?_⟩;refine⟨by decide,by decide,_,rfl,?_⟩;refine⟨[],_,_,_,_,eO (i:=2) rfl (by decide),rfl,rfl,?_⟩;refine⟨[],_,_,_,_,dH (k:=1) (b:=(d8 0 key 2).1) (key:=aC 2) rfl (b8 (hW 2)) (b8 (B2 _ (by decide))) (hW 2) (B2 _ (by decide)) (by decide) (by decide),rfl,rfl,?_⟩;refine⟨by decide,by decide,_,rfl,?_⟩;refine⟨[],_,_,_,_,G1 (a:=D6 1 (d8 0 key 2).1 (aC 2)) (b:=(d8 0 key 2).2) (b8 (r8 _ _ _)) (b8 (hW 1)) (r8 _ _ _) (hP 2) (by decide),rfl,rfl,?_⟩;refine⟨by decide,by decide,Zf rfl,?_⟩;refine B1 (fun r=>⟨[(5,i64 0),(8,.p (.k 1) 0),(9,.o 1 (.k 0) 0 r),(10,.z 5 [.int .i64 (-19),.int .i64 (-31),.int .i64 61,.int .i64 31,.int .i64 19]),(11,i64 r)],[.mx (j8 0 key r),.mx [j5 (d8 0 key 0).1,j5 (d8 0 key 1).1,j5 (d8 0 key 2).1,j5 (d8 0 key 3).1]]⟩) 13 [(9,1,.mx [])] ⟨[.d 900000 0,.d 8 0],⟨rfl,rfl,rfl,rfl,rfl,tq⟩,⟨_,rfl,rfl⟩,⟨_,rfl,?_⟩,tq⟩ fun r hr=> ?_
 ·show B.mx [V.z 16 (sub _ 0 16),V.z 16 (sub (bv (d8 0 key 1).1) 0 16),V.z 16 (sub (bv (d8 0 key 2).1) 0 16),V.z 16 (sub (bv (d8 0 key 3).1) 0 16)]=_;rw[b8 (hW 1),b8 (hW 2),b8 (hW 3)];exact congrArg (fun z=>B.mx [V.z 16 z,j5 (d8 0 key 1).1,j5 (d8 0 key 2).1,j5 (d8 0 key 3).1]) h6
 have he:I6.wrap (I6.wrap (2*0)+13)=13:=by decide
 refine c9 (fun h=> ?_) (fun h=> ?_)
 ·rw[he]at h;have a9:r<13:=(by omega);have e1:((r:Int)).tmod 4=((r%4:Nat):Int):=by rw[Zg (by omega)];omega
  have e2:(I6.wrap ((r:Int)+1)).tmod 4=(((r+1)%4:Nat):Int):=by
   rw[Za _ (by omega),Zg (by omega)];omega
  have e3:I6.wrap (((r:Int)).tdiv 4)=((r/4:Nat):Int):=by
   rw[Zi (by omega),Za _ (by omega)];omega
  have m1:=Zr r (show 4>0 by decide);have m2:=Zr (r+1) (show 4>0 by decide);refine⟨by decide,by rw[e1];omega,by rw[e1];omega,?_⟩;refine⟨_,by rw[e1,Zb,Zd,Ze];exact G9 (f:=fun k=>j5 (d8 0 key k).1) rfl rfl rfl rfl m1,?_⟩;refine⟨by decide,by rw[e2];omega,by rw[e2];omega,?_⟩;refine⟨_,by rw[e2,Zb,Zd,Ze];exact G9 (f:=fun k=>j5 (d8 0 key k).1) rfl rfl rfl rfl m2,?_⟩;refine⟨by decide,by rw[e3];omega,by rw[e3];omega,?_⟩;refine⟨_,by rw[e3,Zb];exact sF (by omega),?_⟩;refine⟨[],_,_,_,_,mP (b:=(d8 0 key ((r+1)%4)).1) (n:=L6 (r/4)) rfl (hW _) (by decide) (by decide) (eG (by omega)),rfl,rfl,?_⟩;refine⟨[],_,_,_,_,G1 (a:=(d8 0 key (r%4)).1) (b:=G8 (d8 0 key ((r+1)%4)).1 (L6 (r/4)%128).toNat) rfl (b8 (by rw[B3,hW])) (hW _) (by rw[B3,hW]) (by decide),rfl,rfl,?_⟩;refine⟨Zc _,by omega,by rw[j8,Zq,R8];omega,?_⟩;have hs0:sub (j8 0 key r) 0 (r*1)=j8 0 key r:=by rw[Zd,z5 (by rw[j8,Zq,R8])]
  have hst:j8 0 key r++[V.z 16 (sub (bv (o6 0 key r)) 0 16)]=j8 0 key (r+1):=by
   rw[b8 (by rw[o6];exact w6 (hW _) (by rw[B3,hW])),j8,j8,eJ,Zl];rfl
  refine⟨r+1,by omega,by omega,[.d 85 0,.k 1],⟨rfl,rfl,rfl,rfl,d7 (by simp(disch:=omega)only[Za];omega),tq⟩,⟨_,rfl,?_⟩,⟨_,rfl,rfl⟩,tq⟩;show B.mx (Zv (m5 _ _ 6) (sub (j8 0 key r) 0 (r*1)++[V.o _ _ _ _]))=_;rw[Zl,hs0,R7];exact congrArg B.mx hst
 ·rw[he]at h;obtain rfl:r=13:=(by omega);refine⟨_,rfl,[.k 0],rfl,⟨_,rfl,?_⟩,tq⟩;show B.mx (Zv (m5 _ _ 6) (j8 0 key 13))=_;rw[R7]
theorem yJ {va:List Value} {key:Bs} (ha:va=bv key) (hk:key.length=16):a7 C 57 [.z 16 va] [] (.ret (.t [bP 0 key 13,i64 0])) []:=by
 refine ui.c ?_;refine⟨[],_,_,_,_,tj,rfl,rfl,?_⟩;refine⟨[],_,_,_,_,Li (va:=va) ha hk,rfl,rfl,?_⟩;exact⟨_,rfl,[],rfl,tq⟩
theorem Lj {va:List Value} {key:Bs} (ha:va=bv key) (hk:key.length=24):a7 C 113 [fU,.z 24 va] [] (.ret (.o 1 (.k 0) 0 15)) [.mx (j8 1 key 15)]:=by
 subst ha;have hW:∀k,(d8 1 key k).1.length=16:=fun k=>(n7 1 (by omega) (by omega) k).1;have hP:∀k,(d8 1 key k).2.length=16:=fun k=>(n7 1 (by omega) (by omega) k).2;have h6:=vO (key:=key) (by omega);have h7:=vP (key:=key) (m:=8) (k:=8) (by omega) rfl (by decide);refine uh.c ?_;refine⟨by decide,?_⟩;refine⟨by decide,by decide,by decide,by decide,?_⟩;refine⟨by rw[l4,f9,j4,hk];rfl,by decide,Zc _,?_⟩;refine⟨by decide,by omega,Zc _,Zc _,?_⟩;refine⟨by rw[l4,f9,j4,hk];rfl,by decide,Zc _,?_⟩;refine⟨by decide,by decide,by decide,?_,_,rfl,?_⟩
 ·show 0+8*1<=(sub (bv key) 16 8).length;rw[l4,f9,j4];omega
 refine⟨Zc _,?_⟩;refine⟨[],_,_,_,_,eO (i:=1) rfl (by decide),rfl,rfl,?_⟩;refine⟨[],_,_,_,_,dH (k:=1) (b:=(d8 1 key 0).1) (key:=aC 1) rfl h6 (b8 (B2 _ (by decide))) (hW 0) (B2 _ (by decide)) (by decide) (by decide),rfl,rfl,?_⟩;refine⟨[],_,_,_,_,G1 (a:=D6 1 (d8 1 key 0).1 (aC 1)) (b:=(d8 1 key 0).2) (b8 (r8 _ _ _)) h7 (r8 _ _ _) (hP 0) (by decide),rfl,rfl,?_⟩;refine⟨by decide,by decide,Zf rfl,?_⟩;refine⟨by decide,by decide,_,rfl,?_⟩;refine⟨[],_,_,_,_,eO (i:=2) rfl (by decide),rfl,rfl,?_⟩;refine⟨[],_,_,_,_,dH (k:=2) (b:=(d8 1 key 1).1) (key:=aC 2) rfl (b8 (hW 1)) (b8 (B2 _ (by decide))) (hW 1) (B2 _ (by decide)) (by decide) (by decide),rfl,rfl,?_⟩;refine⟨[],_,_,_,_,G1 (a:=D6 2 (d8 1 key 1).1 (aC 2)) (b:=(d8 1 key 1).2) (b8 (r8 _ _ _)) h6 (r8 _ _ _) (hP 1) (by decide),rfl,rfl,?_⟩;refine⟨by decide,by decide,Zf rfl,?_⟩;refine⟨by decide,by decide,_,rfl,?_⟩;refine⟨[],_,_,_,_,eO (i:=3) rfl (by decide),rfl,rfl,?_⟩;refine⟨[],_,_,_,_,dH (k:=1) (b:=(d8 1 key 2).1) (key:=aC 0) rfl (b8 (hW 2)) (b8 (B2 _ (by decide))) (hW 2) (B2 _ (by decide)) (by decide) (by decide),rfl,rfl,?_⟩;refine⟨by decide,by decide,_,rfl,?_⟩;refine⟨[],_,_,_,_,G1 (a:=D6 1 (d8 1 key 2).1 (aC 0)) (b:=(d8 1 key 2).2) (b8 (r8 _ _ _)) (b8 (hW 1)) (r8 _ _ _) (hP 2) (by decide),rfl,rfl,?_⟩;refine⟨by decide,by decide,Zf rfl,?_⟩;refine B1 (fun r=>⟨[(5,i64 1),(8,.p (.k 1) 0),(9,.o 1 (.k 0) 0 r),(10,.z 5 [.int .i64 (-19),.int .i64 (-31),.int .i64 61,.int .i64 31,.int .i64 19]),(11,i64 r)],[.mx (j8 1 key r),.mx [j5 (d8 1 key 0).1,j5 (d8 1 key 1).1,j5 (d8 1 key 2).1,j5 (d8 1 key 3).1]]⟩) 15 [(9,1,.mx [])] ⟨[.d 900000 0,.d 8 0],⟨rfl,rfl,rfl,rfl,rfl,tq⟩,⟨_,rfl,rfl⟩,⟨_,rfl,?_⟩,tq⟩ fun r hr=> ?_
 ·show B.mx [V.z 16 (sub _ 0 16),V.z 16 (sub (bv (d8 1 key 1).1) 0 16),V.z 16 (sub (bv (d8 1 key 2).1) 0 16),V.z 16 (sub (bv (d8 1 key 3).1) 0 16)]=_;rw[b8 (hW 1),b8 (hW 2),b8 (hW 3)];exact congrArg (fun z=>B.mx [V.z 16 z,j5 (d8 1 key 1).1,j5 (d8 1 key 2).1,j5 (d8 1 key 3).1]) h6
 have he:I6.wrap (I6.wrap (2*1)+13)=15:=by decide
 refine c9 (fun h=> ?_) (fun h=> ?_)
 ·rw[he]at h;have a9:r<15:=(by omega);have e1:((r:Int)).tmod 4=((r%4:Nat):Int):=by rw[Zg (by omega)];omega
  have e2:(I6.wrap ((r:Int)+1)).tmod 4=(((r+1)%4:Nat):Int):=by
   rw[Za _ (by omega),Zg (by omega)];omega
  have e3:I6.wrap (((r:Int)).tdiv 4)=((r/4:Nat):Int):=by
   rw[Zi (by omega),Za _ (by omega)];omega
  have m1:=Zr r (show 4>0 by decide);have m2:=Zr (r+1) (show 4>0 by decide);refine⟨by decide,by rw[e1];omega,by rw[e1];omega,?_⟩;refine⟨_,by rw[e1,Zb,Zd,Ze];exact G9 (f:=fun k=>j5 (d8 1 key k).1) rfl rfl rfl rfl m1,?_⟩;refine⟨by decide,by rw[e2];omega,by rw[e2];omega,?_⟩;refine⟨_,by rw[e2,Zb,Zd,Ze];exact G9 (f:=fun k=>j5 (d8 1 key k).1) rfl rfl rfl rfl m2,?_⟩;refine⟨by decide,by rw[e3];omega,by rw[e3];omega,?_⟩;refine⟨_,by rw[e3,Zb];exact sF (by omega),?_⟩;refine⟨[],_,_,_,_,mP (b:=(d8 1 key ((r+1)%4)).1) (n:=L6 (r/4)) rfl (hW _) (by decide) (by decide) (eG (by omega)),rfl,rfl,?_⟩;refine⟨[],_,_,_,_,G1 (a:=(d8 1 key (r%4)).1) (b:=G8 (d8 1 key ((r+1)%4)).1 (L6 (r/4)%128).toNat) rfl (b8 (by rw[B3,hW])) (hW _) (by rw[B3,hW]) (by decide),rfl,rfl,?_⟩;refine⟨Zc _,by omega,by rw[j8,Zq,R8];omega,?_⟩;have hs0:sub (j8 1 key r) 0 (r*1)=j8 1 key r:=by rw[Zd,z5 (by rw[j8,Zq,R8])]
  have hst:j8 1 key r++[V.z 16 (sub (bv (o6 1 key r)) 0 16)]=j8 1 key (r+1):=by
   rw[b8 (by rw[o6];exact w6 (hW _) (by rw[B3,hW])),j8,j8,eJ,Zl];rfl
  refine⟨r+1,by omega,by omega,[.d 85 0,.k 1],⟨rfl,rfl,rfl,rfl,d7 (by simp(disch:=omega)only[Za];omega),tq⟩,⟨_,rfl,?_⟩,⟨_,rfl,rfl⟩,tq⟩;show B.mx (Zv (m5 _ _ 6) (sub (j8 1 key r) 0 (r*1)++[V.o _ _ _ _]))=_;rw[Zl,hs0,R7];exact congrArg B.mx hst
 ·rw[he]at h;obtain rfl:r=15:=(by omega);refine⟨_,rfl,[.k 0],rfl,⟨_,rfl,?_⟩,tq⟩;show B.mx (Zv (m5 _ _ 6) (j8 1 key 15))=_;rw[R7]
theorem yK {va:List Value} {key:Bs} (ha:va=bv key) (hk:key.length=24):a7 C 57 [.z 24 va] [] (.ret (.t [bP 1 key 15,i64 0])) []:=by
 refine ui.c ?_;refine⟨[],_,_,_,_,tj,rfl,rfl,?_⟩;refine⟨[],_,_,_,_,Lj (va:=va) ha hk,rfl,rfl,?_⟩;exact⟨_,rfl,[],rfl,tq⟩
theorem Lk {va:List Value} {key:Bs} (ha:va=bv key) (hk:key.length=32):a7 C 113 [fU,.z 32 va] [] (.ret (.o 1 (.k 0) 0 17)) [.mx (j8 2 key 17)]:=by
 subst ha;have hW:∀k,(d8 2 key k).1.length=16:=fun k=>(n7 2 (by omega) (by omega) k).1;have hP:∀k,(d8 2 key k).2.length=16:=fun k=>(n7 2 (by omega) (by omega) k).2;have h6:=vO (key:=key) (by omega);have h7:=vP (key:=key) (m:=16) (k:=0) (by omega) rfl (by decide);refine uh.c ?_;refine⟨by decide,?_⟩;refine⟨by decide,by decide,by decide,by decide,?_⟩;refine⟨by rw[l4,f9,j4,hk];rfl,by decide,Zc _,?_⟩;refine⟨by decide,by omega,Zc _,Zc _,?_⟩;refine⟨by rw[l4,f9,j4,hk];rfl,by decide,Zc _,?_⟩;refine⟨by decide,by decide,by decide,?_,_,rfl,?_⟩
 ·show 0+16*1<=(sub (bv key) 16 16).length;rw[l4,f9,j4];omega
 refine⟨Zc _,?_⟩;refine⟨[],_,_,_,_,eO (i:=2) rfl (by decide),rfl,rfl,?_⟩;refine⟨[],_,_,_,_,dH (k:=1) (b:=(d8 2 key 0).1) (key:=aC 2) rfl h6 (b8 (B2 _ (by decide))) (hW 0) (B2 _ (by decide)) (by decide) (by decide),rfl,rfl,?_⟩;refine⟨[],_,_,_,_,G1 (a:=D6 1 (d8 2 key 0).1 (aC 2)) (b:=(d8 2 key 0).2) (b8 (r8 _ _ _)) h7 (r8 _ _ _) (hP 0) (by decide),rfl,rfl,?_⟩;refine⟨by decide,by decide,Zf rfl,?_⟩;refine⟨by decide,by decide,_,rfl,?_⟩;refine⟨[],_,_,_,_,eO (i:=3) rfl (by decide),rfl,rfl,?_⟩;refine⟨[],_,_,_,_,dH (k:=2) (b:=(d8 2 key 1).1) (key:=aC 0) rfl (b8 (hW 1)) (b8 (B2 _ (by decide))) (hW 1) (B2 _ (by decide)) (by decide) (by decide),rfl,rfl,?_⟩;refine⟨[],_,_,_,_,G1 (a:=D6 2 (d8 2 key 1).1 (aC 0)) (b:=(d8 2 key 1).2) (b8 (r8 _ _ _)) h6 (r8 _ _ _) (hP 1) (by decide),rfl,rfl,?_⟩;refine⟨by decide,by decide,Zf rfl,?_⟩;refine⟨by decide,by decide,_,rfl,?_⟩;refine⟨[],_,_,_,_,eO (i:=4) rfl (by decide),rfl,rfl,?_⟩;refine⟨[],_,_,_,_,dH (k:=1) (b:=(d8 2 key 2).1) (key:=aC 1) rfl (b8 (hW 2)) (b8 (B2 _ (by decide))) (hW 2) (B2 _ (by decide)) (by decide) (by decide),rfl,rfl,?_⟩;refine⟨by decide,by decide,_,rfl,?_⟩;refine⟨[],_,_,_,_,G1 (a:=D6 1 (d8 2 key 2).1 (aC 1)) (b:=(d8 2 key 2).2) (b8 (r8 _ _ _)) (b8 (hW 1)) (r8 _ _ _) (hP 2) (by decide),rfl,rfl,?_⟩;refine⟨by decide,by decide,Zf rfl,?_⟩;refine B1 (fun r=>⟨[(5,i64 2),(8,.p (.k 1) 0),(9,.o 1 (.k 0) 0 r),(10,.z 5 [.int .i64 (-19),.int .i64 (-31),.int .i64 61,.int .i64 31,.int .i64 19]),(11,i64 r)],[.mx (j8 2 key r),.mx [j5 (d8 2 key 0).1,j5 (d8 2 key 1).1,j5 (d8 2 key 2).1,j5 (d8 2 key 3).1]]⟩) 17 [(9,1,.mx [])] ⟨[.d 900000 0,.d 8 0],⟨rfl,rfl,rfl,rfl,rfl,tq⟩,⟨_,rfl,rfl⟩,⟨_,rfl,?_⟩,tq⟩ fun r hr=> ?_
 ·show B.mx [V.z 16 (sub _ 0 16),V.z 16 (sub (bv (d8 2 key 1).1) 0 16),V.z 16 (sub (bv (d8 2 key 2).1) 0 16),V.z 16 (sub (bv (d8 2 key 3).1) 0 16)]=_;rw[b8 (hW 1),b8 (hW 2),b8 (hW 3)];exact congrArg (fun z=>B.mx [V.z 16 z,j5 (d8 2 key 1).1,j5 (d8 2 key 2).1,j5 (d8 2 key 3).1]) h6
 have he:I6.wrap (I6.wrap (2*2)+13)=17:=by decide
 refine c9 (fun h=> ?_) (fun h=> ?_)
 ·rw[he]at h;have a9:r<17:=(by omega);have e1:((r:Int)).tmod 4=((r%4:Nat):Int):=by rw[Zg (by omega)];omega
  have e2:(I6.wrap ((r:Int)+1)).tmod 4=(((r+1)%4:Nat):Int):=by
   rw[Za _ (by omega),Zg (by omega)];omega
  have e3:I6.wrap (((r:Int)).tdiv 4)=((r/4:Nat):Int):=by
   rw[Zi (by omega),Za _ (by omega)];omega
  have m1:=Zr r (show 4>0 by decide);have m2:=Zr (r+1) (show 4>0 by decide);refine⟨by decide,by rw[e1];omega,by rw[e1];omega,?_⟩;refine⟨_,by rw[e1,Zb,Zd,Ze];exact G9 (f:=fun k=>j5 (d8 2 key k).1) rfl rfl rfl rfl m1,?_⟩;refine⟨by decide,by rw[e2];omega,by rw[e2];omega,?_⟩;refine⟨_,by rw[e2,Zb,Zd,Ze];exact G9 (f:=fun k=>j5 (d8 2 key k).1) rfl rfl rfl rfl m2,?_⟩;refine⟨by decide,by rw[e3];omega,by rw[e3];omega,?_⟩;refine⟨_,by rw[e3,Zb];exact sF (by omega),?_⟩;refine⟨[],_,_,_,_,mP (b:=(d8 2 key ((r+1)%4)).1) (n:=L6 (r/4)) rfl (hW _) (by decide) (by decide) (eG (by omega)),rfl,rfl,?_⟩;refine⟨[],_,_,_,_,G1 (a:=(d8 2 key (r%4)).1) (b:=G8 (d8 2 key ((r+1)%4)).1 (L6 (r/4)%128).toNat) rfl (b8 (by rw[B3,hW])) (hW _) (by rw[B3,hW]) (by decide),rfl,rfl,?_⟩;refine⟨Zc _,by omega,by rw[j8,Zq,R8];omega,?_⟩;have hs0:sub (j8 2 key r) 0 (r*1)=j8 2 key r:=by rw[Zd,z5 (by rw[j8,Zq,R8])]
  have hst:j8 2 key r++[V.z 16 (sub (bv (o6 2 key r)) 0 16)]=j8 2 key (r+1):=by
   rw[b8 (by rw[o6];exact w6 (hW _) (by rw[B3,hW])),j8,j8,eJ,Zl];rfl
  refine⟨r+1,by omega,by omega,[.d 85 0,.k 1],⟨rfl,rfl,rfl,rfl,d7 (by simp(disch:=omega)only[Za];omega),tq⟩,⟨_,rfl,?_⟩,⟨_,rfl,rfl⟩,tq⟩;show B.mx (Zv (m5 _ _ 6) (sub (j8 2 key r) 0 (r*1)++[V.o _ _ _ _]))=_;rw[Zl,hs0,R7];exact congrArg B.mx hst
 ·rw[he]at h;obtain rfl:r=17:=(by omega);refine⟨_,rfl,[.k 0],rfl,⟨_,rfl,?_⟩,tq⟩;show B.mx (Zv (m5 _ _ 6) (j8 2 key 17))=_;rw[R7]
theorem yL {va:List Value} {key:Bs} (ha:va=bv key) (hk:key.length=32):a7 C 57 [.z 32 va] [] (.ret (.t [bP 2 key 17,i64 0])) []:=by
 refine ui.c ?_;refine⟨[],_,_,_,_,tj,rfl,rfl,?_⟩;refine⟨[],_,_,_,_,Lk (va:=va) ha hk,rfl,rfl,?_⟩;exact⟨_,rfl,[],rfl,tq⟩
theorem yH {va:List Value} {b key:Bs} {q n:Nat} (h:aq q key n) (ha:va=bv b) (hb:b.length=16):a7 C 156 [bP q key n,.z 16 va,bool false] [] (A8 16) [.sc (bv (dz q key n b))]:=by
 subst ha;have h3:=h.h3;have h4:=h.h4;have kl:=eI h;have h':=h;refine ug.c ?_;refine⟨_,rfl,?_⟩;refine j9 (fun i=>⟨[(0,bP q key n),(1,j5 (O9 q key b i)),(8,i64 (n-2:Nat)),(10,i64 i)],[]⟩) (n-2) ⟨[],⟨rfl,rfl,d7 ?_,rfl,tq⟩,tq⟩ fun i hi=> ?_
 ·rw[Za _ (by omega)];omega
 have hel:=mt h hb i;refine c9 (fun h=> ?_) (fun h=> ?_)
 ·have a9:i<n-2:=(by omega);have e1:I6.wrap (1+(i:Int).tmod 2)=((1+i%2:Nat):Int):=by
   rw[Zg (by omega),Za _ (by omega)];omega
  refine⟨_,rfl,by decide,_,rfl,by omega,by omega,?_⟩;refine⟨_,by rw[Zb,Zd];exact bO (by omega),?_⟩;refine⟨[],_,_,_,_,dH (b:=O9 q key b i) (key:=o6 q key i) (k:=1+i%2) e1 rfl rfl hel (kl i) (by omega) (by omega),rfl,rfl,?_⟩;refine⟨i+1,by omega,by omega,[],⟨rfl,?_,rfl,d7 (by simp(disch:=omega)only[Za];omega),tq⟩,tq⟩;show V.z 16 (sub (bv (O9 q key b (i+1))) 0 16)=_;rw[b8 (mt h' hb _)]
 ·obtain rfl:i=n-2:=(by omega);have e0:I6.wrap (((n-2:Nat):Int)+1)=((n-1:Nat):Int):=by rw[Za _ (by omega)];omega
  refine⟨_,rfl,_,rfl,by omega,by omega,?_⟩;refine⟨_,by rw[Zb,Zd];exact bO (by omega),?_⟩;refine⟨[],_,_,_,_,G1 (a:=O9 q key b (n-2)) (b:=o6 q key (n-2)) rfl rfl hel (kl _) (by decide),rfl,rfl,?_⟩;have hx:=w6 hel (kl (n-2));refine⟨[],_,_,_,_,oT (k:=2) (b:=f8 (O9 q key b (n-2)) (o6 q key (n-2))) rfl (b8 hx) hx (by decide) (by decide),rfl,rfl,?_⟩;refine⟨_,rfl,by rw[e0];omega,by rw[e0];omega,?_⟩;refine⟨_,by rw[e0,Zb,Zd];exact bO (by omega),?_⟩;have hl:=N8 2 (f8 (O9 q key b (n-2)) (o6 q key (n-2))) 16;refine⟨[],_,_,_,_,G1 (b:=o6 q key (n-1)) (b8 hl) rfl hl (kl _) (by decide),rfl,rfl,?_⟩;exact⟨_,rfl,[.d 113 0],rfl,⟨_,rfl,rfl⟩,tq⟩
theorem yG {va:List Value} {b key:Bs} {q n:Nat} (h:aq q key n) (ha:va=bv b) (hb:b.length=16):a7 C 156 [bP q key n,.z 16 va,bool true] [] (A8 16) [.sc (bv (fP q key n b))]:=by
 subst ha;have h3:=h.h3;have h4:=h.h4;have kl:=eI h;have h':=h;have ea:I6.wrap ((n:Int)-2)=((n-2:Nat):Int):=by rw[Za _ (by omega)];omega
 have e0:I6.wrap (((n-2:Nat):Int)+1)=((n-1:Nat):Int):=by rw[Za _ (by omega)];omega
 refine ug.c ?_;refine⟨_,rfl,?_⟩;refine⟨_,rfl,by rw[ea,e0];omega,by rw[ea,e0];omega,?_⟩;refine⟨_,by rw[ea,e0,Zb,Zd];exact bO (by omega),?_⟩;refine⟨[],_,_,_,_,G1 (a:=b) (b:=o6 q key (n-1)) rfl rfl hb (kl _) (by decide),rfl,rfl,?_⟩;have hx:=w6 hb (kl (n-1));refine⟨_,rfl,?_⟩;refine⟨[],_,_,_,_,oT (k:=1) (b:=f8 b (o6 q key (n-1))) rfl (b8 hx) hx (by decide) (by decide),rfl,rfl,?_⟩;refine⟨_,rfl,by rw[ea];omega,by rw[ea];omega,?_⟩;refine⟨_,by rw[ea,Zb,Zd];exact bO (by omega),?_⟩;have hl:=N8 1 (f8 b (o6 q key (n-1))) 16;refine⟨[],_,_,_,_,G1 (b:=o6 q key (n-2)) (b8 hl) rfl hl (kl _) (by decide),rfl,rfl,?_⟩;refine j9 (fun i=>⟨[(0,bP q key n),(1,.o 1 (.k 0) 0 16),(9,i64 ((n:Int)-3-i))],[.sc (bv (N7 q key n b i))]⟩) (n-2) ⟨[.d 44 0],⟨rfl,rfl,d7 ?_,tq⟩,⟨_,rfl,rfl⟩,tq⟩ fun i hi=> ?_
 ·rw[ea,Za _ (by omega)];omega
 have hdl:=ou (b:=b) h i;refine c9 (fun h=> ?_) (fun h=> ?_)
 ·obtain⟨r,er,hrn,hri⟩:∃r:Nat,(n:Int)-3-i=r/\r<=n-3/\r=n-3-i:=⟨n-3-i,by omega,by omega,rfl⟩;have hst:N7 q key n b (i+1)=f8 (E5 (2-r%2) (G0 (N7 q key n b i)) 16) (o6 q key r):=by rw[hri];rfl
  rw[er];have e1:I6.wrap (2-(r:Int).tmod 2)=((2-r%2:Nat):Int):=by
   rw[Zg (by omega),Za _ (by omega)];omega
  refine⟨_,rfl,by decide,?_⟩;refine⟨[],_,_,_,_,yI (b:=N7 q key n b i) (b8 hdl) hdl,rfl,rfl,?_⟩;have hm:=sy (N7 q key n b i);refine⟨[],_,_,_,_,oT (k:=2-r%2) (b:=G0 (N7 q key n b i)) e1 (b8 hm) hm (by omega) (by omega),rfl,rfl,?_⟩;refine⟨_,rfl,by omega,by omega,?_⟩;refine⟨_,by rw[Zb,Zd];exact bO (by omega),?_⟩;have hl:=N8 (2-r%2) (G0 (N7 q key n b i)) 16;refine⟨[],_,_,_,_,G1 (b:=o6 q key r) (b8 hl) rfl hl (kl _) (by decide),rfl,rfl,?_⟩;refine⟨i+1,by omega,by omega,[.d 68 0],⟨rfl,rfl,d7 ?_,tq⟩,⟨_,rfl,d9 (by rw[hst])⟩,tq⟩
  ·rw[Za _ (by omega)];omega
 ·obtain rfl:i=n-2:=(by omega);exact⟨_,rfl,[.k 0],rfl,⟨_,rfl,rfl⟩,tq⟩
theorem yF {va:List Value} {key:Bs} {q n m:Nat} {back:Bool} (hn:m≠16):a7 C 156 [bP q key n,.z m va,bool back] [] R9 []:=by
 refine ug.c ?_;refine o9 (fun h=> ?_) (fun h=>absurd (by omega) hn);exact⟨_,rfl,[],rfl,tq⟩
theorem xD:∀x:Nat,x<256->∀k:Nat,k<8->I6.wrap ((Zh I6.bits (I6.wrap (((x:Nat):Int).fdiv (2^(min ((k:Nat):Int).toNat U8.bits))))&&&Zh I6.bits 1).toNat:Int)=(((x.testBit k).toNat:Nat):Int):=by decide +kernel
theorem oK {va:List Value} {b:Bs} {l n:Nat} {x:Int} (hx:x=n) (ha:va=bv b) (hl:b.length=l) (hm:l<=1000000) (h1:1<=n) (h2:(n-1)/8<l):a7 C 233 [.z l va,i64 x] [] (.ret (i64 ((tb b (n-1)).toNat:Nat))) []:=by
 subst ha;subst hx;have e0:I6.wrap ((n:Int)-1)=((n-1:Nat):Int):=by rw[Za _ (by omega)];omega
 have e1:I6.wrap ((I6.wrap ((n:Int)-1)).tdiv 8)=(((n-1)/8:Nat):Int):=by
  rw[e0,Zi (by omega),Za _ (by omega)];omega
 have e2:I6.wrap (7-(I6.wrap ((n:Int)-1)).tmod 8)=((7-(n-1)%8:Nat):Int):=by
  rw[e0,Zg (by omega),Za _ (by omega)];omega
 refine OJ.c ?_;refine c9 (fun h=> ?_) (fun h=> ?_)
 ·omega
 refine⟨by decide,?_⟩;refine c9 (fun h=> ?_) (fun h=> ?_)
 ·rw[e1]at h;omega
 refine⟨by decide,by rw[e1];omega,by rw[e1];omega,?_⟩;refine⟨_,by rw[e1,Zb];exact A1 (by omega),?_⟩;refine⟨by decide,by rw[e2];omega,?_⟩;refine⟨_,rfl,[],d7 ?_,tq⟩;rw[e2];exact xD _ (UInt8.toNat_lt _) _ (by omega)
def B9 (t:List Nat) (b:Bs):Bs:=ae (t.length/8) fun j=>tb b (t.getD j 0-1)
theorem dZ (t b):(B9 t b).length=t.length/8:=fD _ _
def ej (t:List Nat) (b:Bs) (i:Nat) (j:Nat):Bool:=decide (j<i)&&tb b (t.getD j 0-1)
def O2 (t:List Nat) (b:Bs) (i:Nat):Bs:=ae (t.length/8) (ej t b i)
theorem ji (t b i):(O2 t b i).length=t.length/8:=fD _ _
theorem Dk (t b):O2 t b 0=Zo (t.length/8) 0:=by
 apply Zw (by simp[O2,ae]);intro j h1 h2;simp[O2,ae,ej,cK]
theorem Di (t b):O2 t b t.length=B9 t b:=by
 apply Zu;intro q hq;have hq:=Z5.1 hq;show cK _=cK _;simp only[cK,ej];rw[decide_eq_true (by omega),decide_eq_true (by omega),decide_eq_true (by omega),decide_eq_true (by omega),decide_eq_true (by omega),decide_eq_true (by omega),decide_eq_true (by omega),decide_eq_true (by omega)];simp only[Bool.true_and]
theorem Wg:∀v:Bool,∀k,k<8->U8.wrap (I6.wrap (((v.toNat:Nat):Int)*2^(min ((k:Nat):Int).toNat I6.bits)))=(((Zp (v.toNat*2^k)).toNat:Nat):Int):=by decide +kernel
theorem Hk:∀v:Bool,∀k,k<8->∀r,r<8->(Zp (v.toNat*2^k)).toNat.testBit r=(v&&decide (r=k)):=by decide +kernel
theorem Dj {t:List Nat} {b:Bs} {i:Nat} (h:i<t.length) (ht:t.length%8=0):
  (O2 t b i).set (i/8) ((O2 t b i).getD (i/8) 0|||Zp ((tb b (t.getD i 0-1)).toNat*2^(7-i%8)))=O2 t b (i+1):=by
 have hq:i/8<t.length/8:=by omega
 apply Zw (by simp[ji]);intro q h1 h2;rw[Z2];have o8:q<t.length/8:=by rw[ji]at h2;exact h2
 split
 ·rename_i he;subst he;have hg:(O2 t b i).getD (i/8) 0=cK fun r=>ej t b i (8*(i/8)+r):=by
   simp[O2,ae,hq]
  have hg2:(O2 t b (i+1))[i/8]=cK fun r=>ej t b (i+1) (8*(i/8)+r):=by
   simp[O2,ae]
  rw[hg,hg2];apply wa;intro r hr;rw[UInt8.toNat_or,Nat.testBit_or,mH _ hr,mH _ hr,Hk _ _ (by omega) _ (by omega)];simp only[ej];by_cases h3:8*(i/8)+r=i
  ·rw[h3,decide_eq_false (by omega),decide_eq_true (by omega),decide_eq_true (by omega)];simp
  ·rw[decide_eq_false (show ¬(7-r=7-i%8) by omega)];by_cases h4:8*(i/8)+r<i
   ·rw[decide_eq_true h4,decide_eq_true (by omega)];simp
   ·rw[decide_eq_false h4,decide_eq_false (by omega)];simp
 ·rename_i he;have hg:(O2 t b i)[q]'(by rw[ji];exact o8)=cK fun r=>ej t b i (8*q+r):=by
   simp[O2,ae]
  have hg2:(O2 t b (i+1))[q]=cK fun r=>ej t b (i+1) (8*q+r):=by
   simp[O2,ae]
  rw[hg,hg2];apply wa;intro r hr;rw[mH _ hr,mH _ hr];simp only[ej];congr 1;exact decide_eq_decide.2 (by omega)
theorem jU {va vt:List Value} {b:Bs} {t:List Nat} {l n:Nat} (ha:va=bv b) (hvt:vt=nv t) (hl:b.length=l) (ht:t.length=n) (hm:l<=1000000) (hn:n<=1000000) (h8:n%8=0) (hall:∀i,i<n->1<=t.getD i 0/\t.getD i 0<=8*l):a7 C 185 [.z l va,.z n vt] [] (.ret (.t [.o 1 (.k 0) 0 (n/8),bool true])) [.sc (bv (B9 t b))]:=by
 subst ha;subst hvt;subst ht;have e0:I6.wrap ((I6.wrap (I6.wrap ((t.length:Int)+8)-1)).tdiv 8)=((t.length/8:Nat):Int):=by
  rw[Za ((t.length:Int)+8) (by omega),Za ((t.length:Int)+8-1) (by omega),Zi (by omega),Za _ (by omega)];omega
 refine ON.c ?_;refine⟨by decide,?_⟩;rw[e0];refine⟨by omega,by omega,by omega,?_⟩;refine j9 (fun i=>⟨[(0,.z l (bv b)),(1,.z t.length (nv t)),(6,.o 1 (.k 0) 0 (t.length/8)),(15,i64 t.length),(16,i64 i)],[.sc (bv (O2 t b i))]⟩) t.length ⟨[.d 13 0],⟨rfl,rfl,rfl,rfl,rfl,tq⟩,⟨_,rfl,d9 ?_⟩,tq⟩ fun i hi=> ?_
 ·show Zo ((t.length/8:Nat):Int).toNat (Value.int .u8 0)=_;rw[Zb,Dk,S2]
 refine c9 (fun h=> ?_) (fun h=> ?_)
 ·have a9:i<t.length:=(by omega);obtain⟨g1,g2⟩:=hall i a9;refine⟨by omega,by omega,?_⟩;refine⟨_,by rw[Zb];exact R3 a9,?_⟩;refine c9 (fun h=> ?_) (fun h=> ?_)
  ·omega
  have e1:I6.wrap ((I6.wrap (((t.getD i 0:Nat):Int)-1)).tdiv 8)=(((t.getD i 0-1)/8:Nat):Int):=by
   rw[Za (((t.getD i 0:Nat):Int)-1) (by omega),Zi (by omega),Za _ (by omega)];omega
  have e2:I6.wrap ((i:Int).tdiv 8)=((i/8:Nat):Int):=by
   rw[Zi (by omega),Za _ (by omega)];omega
  have e3:I6.wrap (7-(i:Int).tmod 8)=((7-i%8:Nat):Int):=by
   rw[Zg (by omega),Za _ (by omega)];omega
  refine⟨by omega,by omega,?_⟩;refine⟨_,by rw[Zb];exact R3 a9,?_⟩;refine⟨by decide,?_⟩;refine c9 (fun h=> ?_) (fun h=> ?_)
  ·rw[e1]at h;omega
  refine⟨by decide,by rw[e2];omega,by rw[e2];omega,?_⟩;refine⟨_,by rw[e2,Zb,Zd,Ze];exact A1 (by rw[ji];omega),?_⟩;refine⟨by omega,by omega,?_⟩;refine⟨_,by rw[Zb];exact R3 a9,?_⟩;refine⟨[],_,_,_,_,oK (b:=b) rfl rfl hl hm g1 (by omega),rfl,rfl,?_⟩;refine⟨by decide,by rw[e3];omega,by rw[e2];omega,by rw[e2];omega,by rw[e2,f9,ji];omega,?_⟩;refine⟨i+1,by omega,by omega,[.k 0],⟨rfl,rfl,rfl,rfl,d7 (by simp(disch:=omega)only[Za];omega),tq⟩,⟨_,rfl,d9 ?_⟩,tq⟩;rw[e2,e3,Zb,Zd,Ze,Wg _ _ (by omega),rJ,L0,Dj a9 (by omega)]
 ·obtain rfl:i=t.length:=(by omega);refine⟨_,rfl,[.k 0],rfl,⟨_,rfl,d9 ?_⟩,tq⟩;rw[Di]
def y6 (s st bk:Int):Nat->Int
 |0=>s
 |k+1=>if y6 s st bk k-st<1 then y6 s st bk k-st+(st+bk)else y6 s st bk k-st
def B7 (s st bk:Int) (n:Nat):List Int:=(List.range n).map (y6 s st bk)
theorem pF (s st bk n):B7 s st bk (n+1)=B7 s st bk n++[y6 s st bk n]:=by simp[B7,Zn]
theorem dP (s st bk n):(B7 s st bk n).length=n:=by simp[B7]
def Oj (l:List Int) (n A3:Nat) (s st bk:Int) (i:Nat):D:=match i with
 |0=>⟨[(0,.o 1 (.k 0) 0 n),(2,i64 st),(3,i64 bk),(11,i64 s),(13,i64 A3),(14,i64 (0:Nat))],[.sc (iv l)]⟩
 |k+1=>⟨[(0,.o 1 (.k 1) 0 (n+(k+1))),(2,i64 st),(3,i64 bk),(11,i64 (y6 s st bk (k+1))),(13,i64 A3),(14,i64 (k+1:Nat))],[.dead,.sc (iv (l++B7 s st bk (k+1)))]⟩
theorem yp {l:List Int} {n A3:Nat} {s st bk:Int} (hl:l.length=n) (hn:n<=1000) (hc0:0<A3) (hc:A3<=1000) (hst:0<=st/\st<=1000) (hbk:0<=bk/\bk<=1000) (hx:∀k,k<=A3-> -10000<=y6 s st bk k/\y6 s st bk k<=10000):
  a7 C 232 [.o 1 (.k 0) 0 n,i64 s,i64 st,i64 bk,i64 A3] [.sc (iv l)] (.ret (.o 1 (.k 1) 0 (n+A3))) [.dead,.sc (iv (l++B7 s st bk A3))]:=by
 refine AN.c ?_;refine j9 (Oj l n A3 s st bk) A3 ⟨[.k 0],⟨rfl,rfl,rfl,rfl,rfl,rfl,tq⟩,⟨_,rfl,rfl⟩,tq⟩ fun i hi=> ?_;have w2:I6.wrap (st+bk)=st+bk:=Za _ (by omega);rcases i with _|i
 ·refine c9 (fun h=> ?_) (fun h=> ?_)
  ·have x0:=hx 0 (by omega);have y0:=hx 1 (by omega);change -10000<=s/\s<=10000 at x0;have w1:I6.wrap (s-st)=s-st:=Za _ (by omega);have hsub:sub (iv l) 0 (n*1)++[Value.int .i64 s]=iv (l++B7 s st bk (0+1)):=by
    rw[Zd,K8 hl,<-np];rfl
   refine⟨Zc _,by omega,by rw[I9,hl];omega,?_⟩;refine c9 (fun h=> ?_) (fun h=> ?_)
   ·rw[w1]at h;refine⟨0+1,by omega,by omega,[.k 0,.d 19 0],⟨rfl,rfl,rfl,d7 ?_,rfl,rfl,tq⟩,⟨_,rfl,rfl⟩,⟨_,rfl,d9 hsub⟩,tq⟩;rw[w1,w2,Za _ (by omega)];show _=if s-st<1 then s-st+(st+bk)else s-st;rw[if_pos h]
   ·rw[w1]at h;refine⟨0+1,by omega,by omega,[.k 0,.d 19 0],⟨rfl,rfl,rfl,d7 ?_,rfl,rfl,tq⟩,⟨_,rfl,rfl⟩,⟨_,rfl,d9 hsub⟩,tq⟩;rw[w1];show _=if s-st<1 then s-st+(st+bk)else s-st;rw[if_neg h]
  ·omega
 ·have hll:(l++B7 s st bk (i+1)).length=n+(i+1):=by rw[Zm,dP,hl]
  refine c9 (fun h=> ?_) (fun h=> ?_)
  ·have a9:i+1<A3:=(by omega);have x0:=hx (i+1) (by omega);have hsub:sub (iv (l++B7 s st bk (i+1))) 0 ((n+(i+1))*1)++[Value.int .i64 (y6 s st bk (i+1))]=iv (l++B7 s st bk (i+1+1)):=by
    rw[Zd,K8 hll,pF s st bk (i+1)];show iv (l++B7 s st bk (i+1))++iv [y6 s st bk (i+1)]=_;rw[np,List.append_assoc]
   have hd:y6 s st bk (i+1+1)=if y6 s st bk (i+1)-st<1 then y6 s st bk (i+1)-st+(st+bk)else y6 s st bk (i+1)-st:=rfl;have w1:I6.wrap (y6 s st bk (i+1)-st)=y6 s st bk (i+1)-st:=Za _ (by omega);refine⟨Zc _,by omega,by rw[I9,hll];omega,?_⟩;refine c9 (fun h=> ?_) (fun h=> ?_)
   ·rw[w1]at h;refine⟨i+1+1,by omega,by omega,[.k 0,.d 19 0],⟨rfl,rfl,rfl,d7 ?_,rfl,d7 (by simp(disch:=omega)only[Za];omega),tq⟩,⟨_,rfl,rfl⟩,⟨_,rfl,d9 hsub⟩,tq⟩;rw[w1,w2,Za _ (by omega),hd,if_pos h]
   ·rw[w1]at h;refine⟨i+1+1,by omega,by omega,[.k 0,.d 19 0],⟨rfl,rfl,rfl,d7 ?_,rfl,d7 (by simp(disch:=omega)only[Za];omega),tq⟩,⟨_,rfl,rfl⟩,⟨_,rfl,d9 hsub⟩,tq⟩;rw[w1,hd,if_neg h]
  ·obtain rfl:i+1=A3:=(by omega);exact⟨_,rfl,[.k 0,.k 1],rfl,⟨_,rfl,rfl⟩,⟨_,rfl,rfl⟩,tq⟩
theorem JI {A3:Nat} {s st bk:Int} (hc0:0<A3) (hc:A3<=1000) (hst:0<=st/\st<=1000) (hbk:0<=bk/\bk<=1000) (hx:∀k,k<=A3-> -10000<=y6 s st bk k/\y6 s st bk k<=10000):
  a7 C 232 [g8,i64 s,i64 st,i64 bk,i64 A3] [] (.ret (.o 1 (.k 0) 0 A3)) [.sc (iv (B7 s st bk A3))]:=by
 refine AN.c ?_;refine B1 (fun i=>⟨[(0,.o 1 (.k 0) 0 i),(2,i64 st),(3,i64 bk),(11,i64 (y6 s st bk i)),(13,i64 A3),(14,i64 i)],[.sc (iv (B7 s st bk i))]⟩) A3 [(0,1,.sc [])] ⟨[.d 900000 0],⟨rfl,rfl,rfl,rfl,rfl,rfl,tq⟩,⟨_,rfl,rfl⟩,tq⟩ fun i hi=> ?_;have w2:I6.wrap (st+bk)=st+bk:=Za _ (by omega);have hll:=dP s st bk i;refine c9 (fun h=> ?_) (fun h=> ?_)
 ·have a9:i<A3:=(by omega);have x0:=hx i (by omega);have hsub:sub (iv (B7 s st bk i)) 0 (i*1)++[Value.int .i64 (y6 s st bk i)]=iv (B7 s st bk (i+1)):=by
   rw[Zd,K8 hll,pF s st bk i];show iv (B7 s st bk i)++iv [y6 s st bk i]=_;rw[np]
  have hd:y6 s st bk (i+1)=if y6 s st bk i-st<1 then y6 s st bk i-st+(st+bk)else y6 s st bk i-st:=rfl;have w1:I6.wrap (y6 s st bk i-st)=y6 s st bk i-st:=Za _ (by omega);refine⟨Zc _,by omega,by rw[I9,hll];omega,?_⟩;refine c9 (fun h=> ?_) (fun h=> ?_)
  ·rw[w1]at h;refine⟨i+1,by omega,by omega,[.d 19 0],⟨rfl,rfl,rfl,d7 ?_,rfl,d7 (by simp(disch:=omega)only[Za];omega),tq⟩,⟨_,rfl,d9 hsub⟩,tq⟩;rw[w1,w2,Za _ (by omega),hd,if_pos h]
  ·rw[w1]at h;refine⟨i+1,by omega,by omega,[.d 19 0],⟨rfl,rfl,rfl,d7 ?_,rfl,d7 (by simp(disch:=omega)only[Za];omega),tq⟩,⟨_,rfl,d9 hsub⟩,tq⟩;rw[w1,hd,if_neg h]
 ·obtain rfl:i=A3:=(by omega);exact⟨_,rfl,[.k 0],rfl,⟨_,rfl,rfl⟩,tq⟩
def nk:List Int:=[58,60,62,64,57,59,61,63]
def fi (i:Nat):List Int:=(List.range i).foldl (fun l j=>l++B7 (nk.getD j 0) 8 0 8) []
theorem Bt (i):fi (i+1)=fi i++B7 (nk.getD i 0) 8 0 8:=by simp[fi,Zn]
theorem Br:∀i,(fi i).length=8*i
 |0=>rfl
 |i+1=>by rw[Bt,Zm,Br i,dP];omega
theorem Uk:∀i,i<8->∀k,k<=8-> -10000<=y6 (nk.getD i 0) 8 0 k/\y6 (nk.getD i 0) 8 0 k<=10000:=by decide +kernel
def u9:List Nat:=(fi 8).map Int.toNat
theorem BN (t:List Nat):iv (t.map fun(x:Nat)=>(x:Int))=nv t:=by simp[iv,nv]
theorem ZS:iv (fi 8)=nv u9:=by
 rw[<-BN,show fi 8=u9.map fun(x:Nat)=>(x:Int) by decide +kernel]
theorem JO:a7 C 186 [] [] (.ret (.o 1 (.k 0) 0 64)) [.sc (nv u9)]:=by
 rw[<-ZS];refine Pg.c ?_;refine B1 (fun i=>⟨[(1,.o 1 (.k 0) 0 (8*i)),(4,.z 8 (iv nk)),(5,i64 8),(6,i64 i)],[.sc (iv (fi i))]⟩) 8 [(1,1,.sc [])] ⟨[.d 900000 0],⟨rfl,rfl,rfl,rfl,tq⟩,⟨_,rfl,rfl⟩,tq⟩ fun i hi=> ?_;refine c9 (fun h=> ?_) (fun h=> ?_)
 ·have a9:i<8:=(by omega);refine⟨by omega,by omega,?_⟩;refine⟨_,by rw[Zb];exact uF a9,?_⟩;refine⟨[.k 0],_,_,_,_,yp (l:=fi i) (n:=8*i) (A3:=8) (Br i) (by omega) (by decide) (by decide) (by decide) (by decide) (Uk i a9),rfl,rfl,?_⟩;refine⟨i+1,by omega,by omega,[.d 12 1],⟨rfl,rfl,rfl,d7 (by simp(disch:=omega)only[Za];omega),tq⟩,⟨_,rfl,d9 ?_⟩,tq⟩;rw[Bt]
 ·obtain rfl:i=8:=(by omega);exact⟨_,rfl,[.k 0],rfl,⟨_,rfl,rfl⟩,tq⟩
def jn:List Nat:=[16,7,20,21,29,12,28,17,1,15,23,26,5,18,31,10,2,8,24,14,32,27,3,9,19,13,30,6,22,11,4,25]
theorem KX:a7 C 237 [] [] (.ret (.o 1 (.k 0) 0 32)) [.sc (nv jn)]:=
 Ph.c ⟨_,rfl,[.d 1 0],rfl,⟨_,rfl,rfl⟩,tq⟩
def N6 (n:Nat):List Nat:=(List.range n).map fun i=>(4*(i/6)+i%6+31)%32+1
theorem Gk (n):N6 (n+1)=N6 n++[(4*(n/6)+n%6+31)%32+1]:=by simp[N6,Zn]
theorem eB (n):(N6 n).length=n:=by simp[N6]
theorem Gl:∀i:Nat,i<48->I6.wrap ((I6.wrap (I6.wrap (I6.wrap (4*I6.wrap (((i:Nat):Int).tdiv 6))+((i:Nat):Int).tmod 6)+31)).tmod 32+1)=(((4*(i/6)+i%6+31)%32+1:Nat):Int):=by decide +kernel
theorem MM:a7 C 234 [] [] (.ret (.o 1 (.k 0) 0 48)) [.sc (nv (N6 48))]:=by
 refine Pk.c ?_;refine B1 (fun i=>⟨[(1,.o 1 (.k 0) 0 i),(3,i64 i)],[.sc (nv (N6 i))]⟩) 48 [(1,1,.sc [])] ⟨[.d 900000 0],⟨rfl,rfl,tq⟩,⟨_,rfl,rfl⟩,tq⟩ fun i hi=> ?_;refine c9 (fun h=> ?_) (fun h=> ?_)
 ·have a9:i<48:=(by omega);refine⟨by decide,by decide,by decide,?_⟩;refine⟨Zc _,by omega,by rw[G4,eB];omega,?_⟩;refine⟨i+1,by omega,by omega,[.d 17 0],⟨rfl,d7 (by simp(disch:=omega)only[Za];omega),tq⟩,⟨_,rfl,d9 ?_⟩,tq⟩;rw[Gl i a9,Zd];show sub (nv (N6 i)) 0 i++[Value.int .i64 (((4*(i/6)+i%6+31)%32+1:Nat):Int)]=_;rw[gV (eB _),Gk]
 ·obtain rfl:i=48:=(by omega);exact⟨_,rfl,[.k 0],rfl,⟨_,rfl,rfl⟩,tq⟩
def H3:List Int:=B7 57 8 57 28++B7 63 8 55 24++[28,20,12,4]
def bH:List Nat:=H3.map Int.toNat
def O4:List Nat:=[14,17,11,24,1,5,3,28,15,6,21,10,23,19,12,4,26,8,16,7,27,20,13,2,41,52,31,37,47,55,30,40,51,45,33,48,44,49,39,56,34,53,46,42,50,36,29,32]
theorem Ek:iv H3=nv bH:=by
 rw[<-BN,show H3=bH.map fun(x:Nat)=>(x:Int) by decide +kernel]
theorem yh:a7 C 183 [] [] (.ret (.t [.o 1 (.k 0) 0 56,.o 1 (.k 1) 0 48])) [.sc (nv bH),.sc (nv O4)]:=by
 rw[<-Ek];have d1:=JI (A3:=28) (s:=57) (st:=8) (bk:=57) (by decide) (by decide) (by decide) (by decide) (by decide +kernel);have d2:=yp (l:=B7 57 8 57 28) (n:=28) (A3:=24) (s:=63) (st:=8) (bk:=55) (dP _ _ _ _) (by decide) (by decide) (by decide) (by decide) (by decide) (by decide +kernel);refine Pf.c ?_;refine⟨[],_,_,_,_,d1,rfl,rfl,?_⟩;refine⟨[.d 2 0],_,_,_,_,d2,rfl,rfl,?_⟩;refine⟨Zc _,by decide,by decide,?_⟩;refine⟨Zc _,by decide,Zc _,?_⟩;refine⟨_,rfl,[.d 6 0,.d 11 0],rfl,⟨_,rfl,d9 ?_⟩,⟨_,rfl,d9 ?_⟩,tq⟩
 ·show sub (iv (B7 57 8 57 28++B7 63 8 55 24)) 0 52++iv [28,20,12,4]=iv H3;rw[K8 (by rw[Zm,dP,dP]),np];rfl
 ·rfl
def NT:List (List (Bs)):=[[[69,52,68,49,50,70,66,56,51,65,54,67,53,57,48,55],[48,70,55,52,69,50,68,49,65,54,67,66,57,53,51,56],[52,49,69,56,68,54,50,66,70,67,57,55,51,65,53,48],[70,67,56,50,52,57,49,55,53,66,51,69,65,48,54,68]],[[70,49,56,69,54,66,51,52,57,55,50,68,67,48,53,65],[51,68,52,55,70,50,56,69,67,48,49,65,54,57,66,53],[48,69,55,66,65,52,68,49,53,56,67,54,57,51,50,70],[68,56,65,49,51,70,52,50,66,54,55,67,48,53,69,57]],[[65,48,57,69,54,51,70,53,49,68,67,55,66,52,50,56],[68,55,48,57,51,52,54,65,50,56,53,69,67,66,70,49],[68,54,52,57,56,70,51,48,66,49,50,67,53,65,69,55],[49,65,68,48,54,57,56,55,52,70,69,51,66,53,50,67]],[[55,68,69,51,48,54,57,65,49,50,56,53,66,67,52,70],[68,56,66,53,54,70,48,51,52,55,50,67,49,65,69,57],[65,54,57,48,67,66,55,68,70,49,51,69,53,50,56,52],[51,70,48,54,65,49,68,56,57,52,53,66,67,55,50,69]],[[50,67,52,49,55,65,66,54,56,53,51,70,68,48,69,57],[69,66,50,67,52,55,68,49,53,48,70,65,51,57,56,54],[52,50,49,66,65,68,55,56,70,57,67,53,54,51,48,69],[66,56,67,55,49,69,50,68,54,70,48,57,65,52,53,51]],[[67,49,65,70,57,50,54,56,48,68,51,52,69,55,53,66],[65,70,52,50,55,67,57,53,54,49,68,69,48,66,51,56],[57,69,70,53,50,56,67,51,55,48,52,65,49,68,66,54],[52,51,50,67,57,53,70,65,66,69,49,55,54,48,56,68]],[[52,66,50,69,70,48,56,68,51,67,57,55,53,65,54,49],[68,48,66,55,52,57,49,65,69,51,53,67,50,70,56,54],[49,52,66,68,67,51,55,69,65,70,54,56,48,53,57,50],[54,66,68,56,49,52,65,55,57,53,48,70,69,50,51,67]],[[68,50,56,52,54,70,66,49,65,57,51,69,53,48,67,55],[49,70,68,56,65,51,55,52,67,53,54,66,48,69,57,50],[55,66,52,49,57,67,69,50,48,54,65,68,70,51,53,56],[50,49,69,55,52,65,56,68,70,67,57,48,51,53,54,66]]]
def O0 (s r:Nat):Bs:=(NT.getD s []).getD r []
theorem tV:∀s,s<8->∀r,r<4->(O0 s r).length=16/\∀j,j<16->dV ((O0 s r).getD j 48)=true:=by decide +kernel
theorem JJ {x:Int} {c:UInt8} (hx:x=c.toNat) (h:dV c=true):a7 C 235 [vi .u8 x] [] (.ret (vi .u8 (P4 c))) []:=by
 subst hx;have h':=of_decide_eq_true h;refine Pj.c ?_;refine c9 (fun h1=> ?_) (fun h1=> ?_)
 ·refine⟨_,rfl,[],congrArg (vi .u8) ?_,tq⟩;simp only[wrap_u8,P4];split<;>omega
 ·refine⟨_,rfl,[],congrArg (vi .u8) ?_,tq⟩;simp only[wrap_u8,P4];split<;>omega
theorem gh {s r:Nat} (hr:r<4):([I5 (O0 s 0),I5 (O0 s 1),I5 (O0 s 2),I5 (O0 s 3)]:List V)[r]? =some (I5 (O0 s r)):=G9 (f:=fun r=>I5 (O0 s r)) rfl rfl rfl rfl hr
theorem JE {s r:Nat} (hs:s<8) (hr:r<4):a7 C 236 [i64 s,i64 r] [] (.ret (I5 (O0 s r))) []:=by
 rcases s with _|_|_|_|_|_|_|_|s
 ·refine gz.c ?_;refine⟨by omega,by omega,?_⟩;refine⟨_,by rw[Zb,Zd];exact gh (s:=0) hr,?_⟩;exact⟨_,rfl,[],rfl,tq⟩
 ·refine gz.c ?_;refine⟨by omega,by omega,?_⟩;refine⟨_,by rw[Zb,Zd];exact gh (s:=1) hr,?_⟩;exact⟨_,rfl,[],rfl,tq⟩
 ·refine gz.c ?_;refine⟨by omega,by omega,?_⟩;refine⟨_,by rw[Zb,Zd];exact gh (s:=2) hr,?_⟩;exact⟨_,rfl,[],rfl,tq⟩
 ·refine gz.c ?_;refine⟨by omega,by omega,?_⟩;refine⟨_,by rw[Zb,Zd];exact gh (s:=3) hr,?_⟩;exact⟨_,rfl,[],rfl,tq⟩
 ·refine gz.c ?_;refine⟨by omega,by omega,?_⟩;refine⟨_,by rw[Zb,Zd];exact gh (s:=4) hr,?_⟩;exact⟨_,rfl,[],rfl,tq⟩
 ·refine gz.c ?_;refine⟨by omega,by omega,?_⟩;refine⟨_,by rw[Zb,Zd];exact gh (s:=5) hr,?_⟩;exact⟨_,rfl,[],rfl,tq⟩
 ·refine gz.c ?_;refine⟨by omega,by omega,?_⟩;refine⟨_,by rw[Zb,Zd];exact gh (s:=6) hr,?_⟩;exact⟨_,rfl,[],rfl,tq⟩
 ·refine gz.c ?_;refine⟨by omega,by omega,?_⟩;refine⟨_,by rw[Zb,Zd];exact gh (s:=7) hr,?_⟩;exact⟨_,rfl,[],rfl,tq⟩
 ·omega
def fa (x:Bs) (s:Nat):Nat:=2*(tb x (6*s)).toNat+(tb x (6*s+5)).toNat
def cU (x:Bs) (s:Nat):Nat->Nat
 |0=>0
 |k+1=>2*cU x s k+(tb x (6*s+1+k)).toNat
theorem aO (v:Bool):v.toNat<2:=by cases v<;>decide
theorem kn (x s):fa x s<4:=by
 have:=aO (tb x (6*s));have:=aO (tb x (6*s+5));unfold fa;omega
theorem mU (x s):∀k,cU x s k<2^k
 |0=>by show 0<1;omega
 |k+1=>by
  have:=aO (tb x (6*s+1+k));have:=mU x s k;unfold cU;rw[Nat.pow_succ];omega
def dS (x:Bs) (s:Nat):Nat:=P4 ((O0 s (fa x s)).getD (cU x s 4) 48)
theorem pz {x s} (hs:s<8):dS x s<16:=tX ((tV s hs _ (kn x s)).2 _ (mU x s 4))
def K7 (x:Bs) (i:Nat):Bs:=(List.range 4).map fun q=>Zp ((if 2*q<i then 16*dS x (2*q)else 0)+(if 2*q+1<i then dS x (2*q+1)else 0))
theorem kj (x i):(K7 x i).length=4:=by simp[K7]
def dF (r k:Bs):Bs:=B9 jn (K7 (f8 (B9 (N6 48) r) k) 8)
theorem Wh:∀d,d<16->∀j,j<=1->U8.wrap (((d:Nat):Int)*2^(min ((4*j:Nat):Int).toNat U8.bits))=(((Zp (d*16^j)).toNat:Nat):Int):=by decide +kernel
theorem Db:∀a,a<16->∀d,d<16->(Zp 0|||Zp (d*16^1)=Zp (16*d))/\(Zp (16*a)|||Zp (d*16^0)=Zp (16*a+d)):=by decide +kernel
theorem Ar {x:Bs} {i:Nat} (hi:i<8):(K7 x i).set (i/2) ((K7 x i).getD (i/2) 0|||Zp (dS x i*16^(1-i%2)))=K7 x (i+1):=by
 have hd:=pz (x:=x) hi;apply Zw (by simp[K7]);intro q h1 h2;have hq:q<4:=by simpa [K7]using h2
 rw[Z2];split
 ·rename_i he;subst he;have g1:(K7 x i).getD (i/2) 0=Zp ((if 2*(i/2)<i then 16*dS x (2*(i/2))else 0)+(if 2*(i/2)+1<i then dS x (2*(i/2)+1)else 0)):=by simp[K7,hq]
  rw[g1];simp only[K7,Zz,Zy];by_cases h2:i%2=0
  ·rw[h2,if_neg (by omega),if_neg (by omega),if_pos (by omega),if_neg (by omega),show 2*(i/2)=i by omega];exact(Db 0 (by decide) _ hd).1
  ·rw[show i%2=1 by omega,if_pos (by omega),if_neg (by omega),if_pos (by omega),if_pos (by omega),show 2*(i/2)+1=i by omega];exact(Db _ (pz (by omega)) _ hd).2
 ·rename_i he;simp only[K7,Zz,Zy];have a1:(2*q<i)=(2*q<i+1):=by apply propext;omega
  have a2:(2*q+1<i)=(2*q+1<i+1):=by apply propext;omega
  simp only[a1,a2]
end Go.Scr
