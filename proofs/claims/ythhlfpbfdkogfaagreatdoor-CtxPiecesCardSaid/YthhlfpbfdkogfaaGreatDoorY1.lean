/-
  What the functions of the given program reckon, each by a contract, up to the law. It is no claim by itself; each contract bears its own conditions.
-/
import Derived.Test.YthhlfpbfdkogfaaGreatDoorY
set_option linter.unusedVariables false
set_option linter.unusedSimpArgs false
set_option maxRecDepth 100000
namespace Go.Scr
open Go.Proofs
open IntWalk renaming i64_in → Za
open Int renaming toNat_natCast → Zb, tmod_eq_emod_of_nonneg → Zg, tdiv_eq_ediv_of_nonneg → Zi, fdiv_eq_ediv_of_nonneg → Zs
open Nat renaming le_refl → Zc, mul_one → Zd, zero_add → Ze, le_of_ble_eq_true → Zf, mod_lt → Zr, shiftRight_eq_div_pow → Zx, le_of_eq → Z3, add_comm → Z6
open BitVec renaming ofInt → Zh
open List renaming length_reverse → Zj, map_append → Zl, length_append → Zm, range_succ → Zn, replicate → Zo, length_map → Zq, length_replicate → Zt, map_congr_left → Zu, map → Zv, ext_getElem → Zw, getElem_range → Zy, getElem_map → Zz, reverse_append → Z0, getElem_set → Z2, take_of_length_le → Z4, mem_range → Z5
open UInt32 renaming ofNat → Zk, eq_of_toBitVec_eq → Z1
open UInt8 renaming ofNat → Zp
open Go.IntKind renaming i64 → I6, u8 → U8, u32 → U3
theorem JA {k:List Nat} {x:Q4} (hl:k.length=52) (hk:W9 k) (hx:L0 x):b9 C 210 [qA x,.z 52 (nv k)] [] (.ret (qA (L3 (B4 k) x))) []:=by
 rw[<-tZ k hk x];obtain⟨o1,o2,o3,o4⟩:=hx;have hi:=fun i=>ri (hk i);refine Us.c ?_;refine⟨by decide,by decide,by decide,by decide,?_⟩;have e48:sub (nv k) 48 4=nv (k.drop 48):=by rw[bd,M9 _ _ _ (by omega)]
 refine⟨by decide,by decide,_,rfl,by decide,by decide,?_⟩;refine⟨_,by show(sub (nv k) 48 4)[0]? =_;rw[e48];exact O0 (by omega),?_⟩;refine⟨[],_,_,_,_,pX rfl (hk _),rfl,rfl,?_⟩;refine⟨[],_,_,_,_,bJ rfl rfl o1 (hi _),rfl,rfl,?_⟩;refine⟨by decide,by decide,_,rfl,by decide,by decide,?_⟩;refine⟨_,by show(sub (nv k) 48 4)[2]? =_;rw[e48];exact O0 (by omega),?_⟩;refine⟨[],_,_,_,_,pY rfl rfl o3 (hk _),rfl,rfl,?_⟩;refine⟨by decide,by decide,_,rfl,by decide,by decide,?_⟩;refine⟨_,by show(sub (nv k) 48 4)[1]? =_;rw[e48];exact O0 (by omega),?_⟩;refine⟨[],_,_,_,_,pY rfl rfl o2 (hk _),rfl,rfl,?_⟩;refine⟨by decide,by decide,_,rfl,by decide,by decide,?_⟩;refine⟨_,by show(sub (nv k) 48 4)[3]? =_;rw[e48];exact O0 (by omega),?_⟩;refine⟨[],_,_,_,_,pX rfl (hk _),rfl,rfl,?_⟩;refine⟨[],_,_,_,_,bJ rfl rfl o4 (hi _),rfl,rfl,?_⟩;refine⟨Zc _,?_⟩;refine m9 (fun r=>⟨[(1,.z 52 (nv k)),(2,.p (.k 0) 0),(4,.p (.k 1) 0),(6,i64 (7-r))],[.mx [i64 (ae k x r).1,i64 (ae k x r).2.1,i64 (ae k x r).2.2.1,i64 (ae k x r).2.2.2],.sc [.int .i64 0,.int .i64 0,.int .i64 0,.int .i64 0]]⟩) 8 ⟨[.d 2 0,.d 4 0],⟨rfl,rfl,rfl,rfl,tq⟩,⟨_,rfl,rfl⟩,⟨_,rfl,rfl⟩,tq⟩ fun r hr=> ?_;obtain⟨p1,p2,p3,p4⟩:=Ic k x r;refine d9 (fun h=> ?_) (fun h=> ?_)
 ·obtain⟨i,ei,hi7,hri⟩:∃i:Nat,(7:Int)-r=i/\i<=7/\i=7-r:=⟨7-r,by omega,by omega,by omega⟩;have hbs:ae k x (r+1)=cA k (6*i) (aV k (6*i) (ae k x r)):=by rw[pE,kB,hri]
  rw[ei];generalize hs:ae k x r=s at p1 p2 p3 p4 hbs ⊢;have e1:(I6.wrap (6*(i:Int))).toNat=6*i:=(by simp(disch:=omega)only[Za];omega);refine⟨(by simp(disch:=omega)only[Za];omega),by rw[e1];show 6*i<=52;omega,Zc _,Zc _,?_⟩;rw[e1];have ed:sub (nv k) (6*i) (52-6*i)=nv (k.drop (6*i)):=by rw[bd,M9 _ _ _ (by omega)]
  refine⟨by decide,by decide,_,rfl,by decide,by decide,_,rfl,by decide,by decide,_,rfl,by decide,by decide,_,rfl,?_⟩;refine⟨[],_,_,_,_,zN (k:=k) (o:=6*i) (n:=52-6*i) rfl rfl rfl rfl p1 p3 p2 p4 (by omega) (by omega) hk,?_,rfl,?_⟩
  ·show[_,_,_,_,V.z (52-6*i) (sub (nv k) (6*i) (52-6*i))]=_;rw[ed];rfl
  have hg:ap k (6*i) s.1 s.2.2.1 s.2.1 s.2.2.2<65536:=K9 _ _;have hh:aF k (6*i) s.1 s.2.2.1 s.2.1 s.2.2.2<65536:=dt _ _;refine⟨by decide,by decide,_,rfl,by decide,by decide,_,rfl,by decide,by decide,_,rfl,by decide,by decide,_,rfl,?_⟩;refine⟨by decide,by show((0:Int))<((52-6*i:Nat):Int);omega,?_⟩;refine⟨_,by show(sub (nv k) (6*i) (52-6*i))[0]? =_;rw[ed];exact O0 (by omega),?_⟩;refine⟨[],_,_,_,_,pX rfl (hk _),rfl,rfl,?_⟩;refine⟨[],_,_,_,_,bJ (P6 16 (by decide) p1 hg) rfl (ax p1 hg) (hi _),rfl,rfl,?_⟩;refine⟨by decide,by show((1:Int))<((52-6*i:Nat):Int);omega,?_⟩;refine⟨_,by show(sub (nv k) (6*i) (52-6*i))[1]? =_;rw[ed];exact O0 (by omega),?_⟩;refine⟨[],_,_,_,_,pY (P6 16 (by decide) p3 hh) rfl (ax p3 hh) (hk _),rfl,rfl,?_⟩;refine⟨by decide,by show((2:Int))<((52-6*i:Nat):Int);omega,?_⟩;refine⟨_,by show(sub (nv k) (6*i) (52-6*i))[2]? =_;rw[ed];exact O0 (by omega),?_⟩;refine⟨[],_,_,_,_,pY (P6 16 (by decide) p2 hg) rfl (ax p2 hg) (hk _),rfl,rfl,?_⟩;refine⟨by decide,by show((3:Int))<((52-6*i:Nat):Int);omega,?_⟩;refine⟨_,by show(sub (nv k) (6*i) (52-6*i))[3]? =_;rw[ed];exact O0 (by omega),?_⟩;refine⟨[],_,_,_,_,pX rfl (hk _),rfl,rfl,?_⟩;refine⟨[],_,_,_,_,bJ (P6 16 (by decide) p4 hh) rfl (ax p4 hh) (hi _),rfl,rfl,?_⟩;refine⟨Zc _,?_⟩;refine⟨r+1,by omega,by omega,[.k 0,.k 1],⟨rfl,rfl,rfl,f8 ?_,tq⟩,⟨_,rfl,?_⟩,⟨_,rfl,rfl⟩,tq⟩
  ·rw[Za _ (by omega)];omega
  ·rw[hbs];rfl
 ·obtain rfl:r=8:=(by omega);refine⟨_,rfl,rfl,Zc _,_,rfl,rfl,?_⟩;exact⟨_,rfl,[],rfl,tq⟩
theorem a3h (b:Bs):M2 b 0=b:=by
 apply pb (I7 _ _);intro j hj;rw[I7]at hj;unfold M2;rw[gE hj,Nat.add_zero,Nat.mod_eq_of_lt hj]
def aZ (key:Bs) (j:Nat):Bs:=M2 key (25*j%128)
theorem Wy (key j):(aZ key j).length=key.length:=I7 _ _
theorem Cy {key:Bs} (hk:key.length=16) (j:Nat):M2 (aZ key j) 25=aZ key (j+1):=by
 unfold aZ;rw[a3g _ _ _ (by omega),hk];congr 1;omega
def rn (key:Bs) (j:Nat):List Nat:=if j=7 then W5 key else dJ key j
theorem CA {key:Bs} {j i:Nat} (hj:j<7) (hi:i=if j=6 then 4 else 8):dJ key j++W7 (aZ key j) i=rn key (j+1):=by
 unfold rn aZ;by_cases h:j=6
 ·subst h;rw[if_pos rfl]at hi ⊢;subst hi;unfold W5;rw[rq key 6,List.take_append,ig,Z4 (by rw[ig];decide)];congr 1
 ·rw[if_neg h]at hi;subst hi;rw[if_neg (by omega),rq]
theorem Nk {va:List Value} {key:Bs} (ha:va=bv key) (hk:key.length=16):b9 C 110 [.z 16 va] [] (.ret (.t [.o 1 (.k 0) 0 52,i64 0])) [.sc (nv (W5 key))]:=by
 subst ha;refine Uo.c ?_;refine E9 (fun j=>⟨[(0,.z 16 (bv (aZ key j))),(4,.o 1 (.k 0) 0 (if j=7 then 52 else 8*j))],[.sc (nv (rn key j))]⟩) 7 [(4,1,.sc [])] ⟨[.d 900000 0],⟨?_,rfl,tq⟩,⟨_,rfl,rfl⟩,tq⟩ fun j hj=> ?_
 ·show V.z 16 (bv key)=V.z 16 (bv (M2 key 0));rw[a3h]
 refine d9 (fun h=> ?_) (fun h=> ?_)
 ·have d8:j<7:=by
   rcases Nat.lt_or_ge j 7 with h7|h7
   ·exact h7
   ·rw[if_pos (show j=7 by omega)]at h;exact absurd h (by decide)
  have hkl:(aZ key j).length=16:=by rw[Wy,hk]
  refine m9 (fun i=>⟨[(0,.z 16 (bv (aZ key j))),(4,.o 1 (.k 0) 0 (8*j+i)),(5,i64 (2*i:Nat))],[.sc (nv (dJ key j++W7 (aZ key j) i))]⟩) (if j=6 then 4 else 8) ⟨[.k 0],⟨rfl,?_,rfl,tq⟩,⟨_,rfl,i6 ?_⟩,tq⟩ fun i hi=> ?_
  ·show V.o 1 (.k 0) 0 _=V.o 1 (.k 0) 0 _;rw[if_neg (by omega),Nat.add_zero]
  ·unfold rn;rw[if_neg (by omega)];simp[W7]
  have hi8:i<=8:=by split at hi<;>omega
  refine d9 (fun h16=> ?_) (fun h16=> ?_)
  ·refine d9 (fun h52=> ?_) (fun h52=> ?_)
   ·have hlt2:i<if j=6 then 4 else 8:=by split<;>omega
    have e1:(I6.wrap (((2*i:Nat):Int)+1)).toNat=2*i+1:=(by simp(disch:=omega)only[Za];omega);refine⟨by omega,by omega,?_⟩;refine⟨_,by rw[Zb];exact p9 (i:=2*i) (by omega),?_⟩;refine⟨by decide,by omega,by omega,?_⟩;refine⟨_,by rw[e1];exact p9 (i:=2*i+1) (by omega),?_⟩;refine⟨Zc _,by omega,by rw[L6,Zm,ga,ig];omega,?_⟩;refine⟨i+1,by omega,by omega,[.d 36 0],⟨rfl,rfl,f8 (by simp(disch:=omega)only[Za];omega),tq⟩,⟨_,rfl,i6 ?_⟩,tq⟩;rw[xY,CQ,<-List.append_assoc];exact jI (by rw[Zm,ga,ig];omega)
   ·have hi4:i=if j=6 then 4 else 8:=by split at hi<;>split<;>omega
    refine⟨[],_,_,_,_,nH (b:=aZ key j) (n:=25) rfl hkl (by decide) (by decide) (by decide),rfl,rfl,?_⟩;refine⟨j+1,by omega,by omega,[.k 0],⟨?_,?_,tq⟩,⟨_,rfl,i6 ?_⟩,tq⟩
    ·show V.z 16 (sub (bv (M2 (aZ key j) 25)) 0 16)=_;rw[g8 (by rw[I7,hkl]),Cy hk]
    ·show V.o 1 (.k 0) 0 _=V.o 1 (.k 0) 0 _;congr 1;split at hi4<;>split<;>omega
    ·rw[CA d8 hi4]
  ·have hi4:i=if j=6 then 4 else 8:=by split at hi<;>split<;>omega
   refine⟨[],_,_,_,_,nH (b:=aZ key j) (n:=25) rfl hkl (by decide) (by decide) (by decide),rfl,rfl,?_⟩;refine⟨j+1,by omega,by omega,[.k 0],⟨?_,?_,tq⟩,⟨_,rfl,i6 ?_⟩,tq⟩
   ·show V.z 16 (sub (bv (M2 (aZ key j) 25)) 0 16)=_;rw[g8 (by rw[I7,hkl]),Cy hk]
   ·show V.o 1 (.k 0) 0 _=V.o 1 (.k 0) 0 _;congr 1;split at hi4<;>split<;>omega
   ·rw[CA d8 hi4]
 ·have h7:j=7:=by
   rcases Nat.lt_or_ge j 7 with h7|h7
   ·rw[if_neg (by omega)]at h;omega
   ·omega
  subst h7;exact⟨_,rfl,[.k 0],rfl,⟨_,rfl,rfl⟩,tq⟩
abbrev oV (k:List Nat):V:= .q [nz k] 0
theorem Nl {va:List Value} {key:Bs} (ha:va=bv key) (hk:key.length=16):b9 C 55 [.z 16 va] [] (.ret (.t [oV (W5 key),i64 0])) []:=by
 refine Uq.c ?_;refine⟨[],_,_,_,_,Nk ha hk,rfl,rfl,?_⟩;refine⟨_,rfl,[],?_,tq⟩;show V.t [.q [.z 52 (sub _ 0 52)] 0,i64 0]=V.t [.q [.z _ _] 0,i64 0];rw[H7 (fY key),fY]
def wg (b:Bs) (i:Nat):List Value:=nv ((List.range 4).map fun j=>if j<i then bw b j else 0)
theorem WM (b:Bs) {i:Nat} (hi:i<4):(wg b i).set i (.int .i64 ((bw b i:Nat):Int))=wg b (i+1):=by
 rcases i with _|_|_|_|i;all_goals first|rfl|omega
theorem Nj {va:List Value} {b:Bs} {k:List Nat} {back:Bool} (ha:va=bv b) (hb:b.length=8) (hl:k.length=52) (hk:W9 k):b9 C 154 [oV k,.z 8 va,bool back] [] (C6 8) [.sc (bv (av (L3 (if back then B4 k else k) (O1 b))))]:=by
 subst ha;refine BI.c ?_;have hq:L0 (O1 b):=⟨cr _ _,cr _ _,cr _ _,cr _ _⟩;have hz0:nz k= .z 52 (nv k):=by rw[<-hl]
 refine m9 (fun i=>⟨[(0,oV k),(1,.z 8 (bv b)),(2,bool back),(8,.p (.k 0) 0),(9,i64 i)],[.sc (wg b i)]⟩) 4 ⟨[.d 8 0],⟨rfl,rfl,rfl,rfl,rfl,tq⟩,⟨_,rfl,rfl⟩,tq⟩ fun i hi=> ?_;refine d9 (fun h=> ?_) (fun h=> ?_)
 ·have d8:i<4:=(by omega);have e1:(I6.wrap (2*(i:Int))).toNat=2*i:=(by simp(disch:=omega)only[Za];omega);have e2:(I6.wrap (I6.wrap (2*(i:Int))+1)).toNat=2*i+1:=(by simp(disch:=omega)only[Za];omega);refine⟨(by simp(disch:=omega)only[Za];omega),by omega,?_⟩;refine⟨_,by rw[e1];exact p9 (i:=2*i) (by omega),?_⟩;refine⟨by decide,by omega,by omega,?_⟩;refine⟨_,by rw[e2];exact p9 (i:=2*i+1) (by omega),?_⟩;refine⟨by omega,by omega,by show 0+((i:Int)).toNat*1<4;omega,?_⟩;refine⟨i+1,by omega,by omega,[.k 0],⟨rfl,rfl,rfl,rfl,f8 (by simp(disch:=omega)only[Za];omega),tq⟩,⟨_,rfl,i6 ?_⟩,tq⟩;rw[xY,Zb,Zd,Ze];exact WM b d8
 obtain rfl:i=4:=(by omega);have fin:∀(y:Q4),L0 y->∀i,i<4->([i64 y.1,i64 y.2.1,i64 y.2.2.1,i64 y.2.2.2]:List V)[i]? =some (i64 (([y.1,y.2.1,y.2.2.1,y.2.2.2].getD i 0:Nat))):=by
  intro y _ i hi;rcases i with _|_|_|_|i;all_goals first|rfl|omega
 cases back
 ·refine⟨_,rfl,rfl,_,rfl,?_⟩;refine⟨[],_,_,_,_,OI (x:=O1 b) hl hk hq,?_,rfl,?_⟩
  ·show[qA (O1 b),nz k]=_;rw[hz0]
  refine⟨Zc _,?_⟩;generalize hy:L3 k (O1 b)=y;have yo:L0 y:=by rw[<-hy];exact fZ _ _ _
  refine E9 (fun i=>⟨[(8,.p (.k 0) 0),(10,.o 1 (.k 1) 0 (2*i)),(11,i64 i)],[.mx [i64 y.1,i64 y.2.1,i64 y.2.2.1,i64 y.2.2.2],.sc (bv (aJ y i))]⟩) 4 [(10,1,.sc [])] ⟨[.k 0,.d 900000 0],⟨rfl,rfl,rfl,tq⟩,⟨_,rfl,rfl⟩,⟨_,rfl,rfl⟩,tq⟩ fun i hi=> ?_;refine d9 (fun h=> ?_) (fun h=> ?_)
  ·have d8:i<4:=(by omega);have hv:([y.1,y.2.1,y.2.2.1,y.2.2.2]).getD i 0<65536:=by
    obtain⟨a,b',c,d⟩:=yo;rcases i with _|_|_|_|i;all_goals first|assumption|omega
   refine⟨by omega,by omega,?_⟩;refine⟨_,by rw[Zb,Zd,Ze];exact fin y yo i d8,?_⟩;refine⟨by decide,by omega,by omega,?_⟩;refine⟨_,by rw[Zb,Zd,Ze];exact fin y yo i d8,?_⟩;refine⟨Zc _,by omega,by rw[j6,iH y i (by omega)];omega,?_⟩;refine⟨i+1,by omega,by omega,[.k 0,.d 64 0],⟨rfl,rfl,f8 (by simp(disch:=omega)only[Za];omega),tq⟩,⟨_,rfl,rfl⟩,⟨_,rfl,i6 ?_⟩,tq⟩;rw[Zd,g8 (iH y i (by omega)),sb y i d8,<-B7];show bv (aJ y i)++[Value.int .u8 _,Value.int .u8 _]=_;rw[sd hv]
  ·obtain rfl:i=4:=(by omega);refine⟨_,rfl,[.k 1],rfl,⟨_,rfl,i6 ?_⟩,tq⟩;show bv (aJ y 4)=bv (av (L3 k (O1 b)));rw[hy];rfl
 ·refine⟨_,rfl,rfl,_,rfl,?_⟩;refine⟨[],_,_,_,_,JA (x:=O1 b) hl hk hq,?_,rfl,?_⟩
  ·show[qA (O1 b),nz k]=_;rw[hz0]
  refine⟨Zc _,?_⟩;generalize hy:L3 (B4 k) (O1 b)=y;have yo:L0 y:=by rw[<-hy];exact fZ _ _ _
  refine E9 (fun i=>⟨[(8,.p (.k 0) 0),(10,.o 1 (.k 1) 0 (2*i)),(11,i64 i)],[.mx [i64 y.1,i64 y.2.1,i64 y.2.2.1,i64 y.2.2.2],.sc (bv (aJ y i))]⟩) 4 [(10,1,.sc [])] ⟨[.k 0,.d 900000 0],⟨rfl,rfl,rfl,tq⟩,⟨_,rfl,rfl⟩,⟨_,rfl,rfl⟩,tq⟩ fun i hi=> ?_;refine d9 (fun h=> ?_) (fun h=> ?_)
  ·have d8:i<4:=(by omega);have hv:([y.1,y.2.1,y.2.2.1,y.2.2.2]).getD i 0<65536:=by
    obtain⟨a,b',c,d⟩:=yo;rcases i with _|_|_|_|i;all_goals first|assumption|omega
   refine⟨by omega,by omega,?_⟩;refine⟨_,by rw[Zb,Zd,Ze];exact fin y yo i d8,?_⟩;refine⟨by decide,by omega,by omega,?_⟩;refine⟨_,by rw[Zb,Zd,Ze];exact fin y yo i d8,?_⟩;refine⟨Zc _,by omega,by rw[j6,iH y i (by omega)];omega,?_⟩;refine⟨i+1,by omega,by omega,[.k 0,.d 64 0],⟨rfl,rfl,f8 (by simp(disch:=omega)only[Za];omega),tq⟩,⟨_,rfl,rfl⟩,⟨_,rfl,i6 ?_⟩,tq⟩;rw[Zd,g8 (iH y i (by omega)),sb y i d8,<-B7];show bv (aJ y i)++[Value.int .u8 _,Value.int .u8 _]=_;rw[sd hv]
  ·obtain rfl:i=4:=(by omega);refine⟨_,rfl,[.k 1],rfl,⟨_,rfl,i6 ?_⟩,tq⟩;show bv (aJ y 4)=bv (av (L3 (B4 k) (O1 b)));rw[hy];rfl
theorem Ni {va:List Value} {k:List Nat} {n:Nat} {back:Bool} (hn:n≠8):b9 C 154 [oV k,.z n va,bool back] [] V5 []:=by
 refine BI.c ?_;refine p6 (fun h=> ?_) (fun h=>absurd (by omega) hn);exact⟨_,rfl,[],rfl,tq⟩
def Yp (w:Nat):List (Bs):=if w=0 then
  [[56,49,55,68,54,70,51,50,48,66,53,57,69,67,65,52],[69,67,66,56,49,50,51,53,70,52,65,54,55,48,57,68],[66,65,53,69,54,68,57,48,67,56,70,51,50,52,55,49],[68,55,70,52,49,50,54,69,57,66,51,48,56,53,67,65]]
 else [[50,56,66,68,70,55,54,69,51,49,57,52,48,65,67,53],[49,69,50,66,52,67,51,55,54,68,65,53,70,57,48,56],[52,67,55,53,49,54,57,65,48,69,68,56,50,66,51,70],[66,57,53,49,67,51,68,69,54,52,55,70,50,48,56,65]]
def G1 (w r:Nat):Bs:=(Yp w).getD r []
theorem mC:∀w,w<2->∀r,r<4->(G1 w r).length=16/\∀j,j<16->eY ((G1 w r).getD j 48)=true:=by decide
def qf (a c:Nat):Nat:=a^^^(c/2|||8*c%16)^^^8*a%16
theorem wQ:∀a,a<16->∀c,c<16->qf a c<16/\a^^^c<16:=by decide
def qS (w i:Nat) (p:Nat×Nat):Nat×Nat:=(T7 ((G1 w (2*i)).getD (p.1^^^p.2) 48),T7 ((G1 w (2*i+1)).getD (qf p.1 p.2) 48))
def aK (w:Nat) (x:UInt8):Nat->Nat×Nat
 |0=>(x.toNat/16,x.toNat%16)
 |i+1=>qS w i (aK w x i)
def tQ (w:Nat) (x:UInt8):UInt8:=Zp (16*(aK w x 2).2+(aK w x 2).1)
theorem Yq {w i:Nat} (hw:w<2) (hi:i<2) {p:Nat×Nat} (h1:p.1<16) (h2:p.2<16):(qS w i p).1<16/\(qS w i p).2<16:=by
 obtain⟨f,e⟩:=wQ p.1 h1 p.2 h2;exact⟨vd ((mC w hw (2*i) (by omega)).2 _ e),vd ((mC w hw (2*i+1) (by omega)).2 _ f)⟩
theorem wP {w:Nat} (hw:w<2) (x:UInt8):∀i,i<=2->(aK w x i).1<16/\(aK w x i).2<16
 |0,_=>by have:=x.toNat_lt;exact⟨by show x.toNat/16<16;omega,by show x.toNat%16<16;omega⟩
 |i+1,h=>by
  obtain⟨a,b⟩:=wP hw x i (by omega);exact Yq hw (by omega) a b
theorem Az {x:Int} {c:UInt8} (hx:x=c.toNat) (h:eY c=true):b9 C 265 [vi .u8 x] [] (.ret (vi .u8 (T7 c))) []:=by
 subst hx;have h':=of_decide_eq_true h;refine VF.c ?_;refine d9 (fun h1=> ?_) (fun h1=> ?_)
 ·refine⟨_,rfl,[],congrArg (vi .u8) ?_,tq⟩;simp only[wrap_u8,T7];split<;>omega
 ·refine⟨_,rfl,[],congrArg (vi .u8) ?_,tq⟩;simp only[wrap_u8,T7];split<;>omega
theorem ON {w:Nat} (hw:w<2):b9 C 264 [i64 w] [] (.ret (.a [M0 (G1 w 0),M0 (G1 w 1),M0 (G1 w 2),M0 (G1 w 3)])) []:=by
 rcases w with _|_|w
 ·refine BX.c ?_;exact⟨Zc _,_,rfl,rfl,_,rfl,[],rfl,tq⟩
 ·refine BX.c ?_;exact⟨Zc _,_,rfl,rfl,_,rfl,[],rfl,tq⟩
 ·omega
theorem Yr:∀a,a<16->∀c,c<16->U8.wrap ((Zh U8.bits ((a:Nat):Int)^^^Zh U8.bits ((c:Nat):Int)).toNat:Int)=((a^^^c:Nat):Int):=by decide +kernel
theorem Ys:∀a,a<16->∀c,c<16->U8.wrap ((Zh U8.bits (U8.wrap ((Zh U8.bits ((a:Nat):Int)^^^Zh U8.bits (U8.wrap ((Zh U8.bits (((c:Nat):Int).fdiv (2^(min (1:Int).toNat U8.bits)))|||Zh U8.bits (U8.wrap ((Zh U8.bits (U8.wrap (((c:Nat):Int)*2^(min (3:Int).toNat U8.bits)))&&&Zh U8.bits 15).toNat:Int))).toNat:Int))).toNat:Int))^^^Zh U8.bits (U8.wrap ((Zh U8.bits (U8.wrap (((a:Nat):Int)*2^(min (3:Int).toNat U8.bits)))&&&Zh U8.bits 15).toNat:Int))).toNat:Int)=((qf a c:Nat):Int):=by decide +kernel
theorem Yu:∀x:Nat,x<256->((x:Nat):Int).fdiv (2^(min (4:Int).toNat U8.bits))=((x/16:Nat):Int)/\U8.wrap ((Zh U8.bits ((x:Nat):Int)&&&Zh U8.bits 15).toNat:Int)=((x%16:Nat):Int):=by decide +kernel
theorem Yt:∀a,a<16->∀c,c<16->U8.wrap ((Zh U8.bits (U8.wrap (((c:Nat):Int)*2^(min (4:Int).toNat U8.bits)))|||Zh U8.bits ((a:Nat):Int)).toNat:Int)=(((Zp (16*c+a)).toNat:Nat):Int):=by decide +kernel
theorem Eh {w i:Nat} (hi:i<4):([M0 (G1 w 0),M0 (G1 w 1),M0 (G1 w 2),M0 (G1 w 3)]:List V)[i]? =some (M0 (G1 w i)):=by
 rcases i with _|_|_|_|i;all_goals first|rfl|omega
theorem OF {w:Nat} {z:Int} {x:UInt8} (hw:w<2) (hz:z=x.toNat):b9 C 240 [i64 w,vi .u8 z] [] (.ret (u8 (tQ w x))) []:=by
 subst hz;have hx:=x.toNat_lt;refine Vx.c ?_;refine⟨[],_,_,_,_,ON hw,rfl,rfl,?_⟩;refine⟨Zc _,by decide,?_⟩;obtain⟨x1,x2⟩:=Yu x.toNat hx;refine m9 (fun i=>⟨[(5,.p (.k 0) 0),(6,vi .u8 ((aK w x i).1:Nat)),(7,vi .u8 ((aK w x i).2:Nat)),(8,i64 (2*i:Nat))],[.mx [M0 (G1 w 0),M0 (G1 w 1),M0 (G1 w 2),M0 (G1 w 3)]]⟩) 2 ⟨[.d 5 0],⟨rfl,congrArg (vi .u8) x1,congrArg (vi .u8) x2,rfl,tq⟩,⟨_,rfl,rfl⟩,tq⟩ fun i hi=> ?_;obtain⟨s1,s2⟩:=wP hw x i hi;have hsi:aK w x (i+1)=qS w i (aK w x i):=rfl;generalize hp:aK w x i=p at s1 s2 hsi ⊢;refine d9 (fun h=> ?_) (fun h=> ?_)
 ·have d8:i<2:=(by omega);obtain⟨f1,f2⟩:=wQ p.1 s1 p.2 s2;obtain⟨r1,r2⟩:=mC w hw (2*i) (by omega);obtain⟨r3,r4⟩:=mC w hw (2*i+1) (by omega);have ee:=Yr p.1 s1 p.2 s2;have ef:=Ys p.1 s1 p.2 s2;have e1:(I6.wrap (((2*i:Nat):Int)+1)).toNat=2*i+1:=(by simp(disch:=omega)only[Za];omega);refine⟨by decide,by decide,by decide,?_⟩;refine⟨by omega,by omega,?_⟩;refine⟨_,by rw[Zb,Zd,Ze];exact Eh (by omega),?_⟩;refine⟨by rw[ee];omega,?_,?_⟩
  ·rw[ee];show((p.1^^^p.2:Nat):Int)<(((G1 w (2*i)).toArray.size:Nat):Int);simp only[List.size_toArray,r1];omega
  refine⟨_,by rw[ee,Zb];exact oY (by omega),?_⟩;refine⟨[],_,_,_,_,Az rfl (r2 _ f2),rfl,rfl,?_⟩;refine⟨by omega,by omega,?_⟩;refine⟨_,by rw[e1,Zd,Ze];exact Eh (by omega),?_⟩;refine⟨by rw[ef];omega,?_,?_⟩
  ·rw[ef];show((qf p.1 p.2:Nat):Int)<(((G1 w (2*i+1)).toArray.size:Nat):Int);simp only[List.size_toArray,r3];omega
  refine⟨_,by rw[ef,Zb];exact oY (by omega),?_⟩;refine⟨[],_,_,_,_,Az rfl (r4 _ f1),rfl,rfl,?_⟩;refine⟨i+1,by omega,by omega,[.k 0],⟨rfl,?_,?_,f8 (by simp(disch:=omega)only[Za];omega),tq⟩,⟨_,rfl,rfl⟩,tq⟩
  ·show vi .u8 _=vi .u8 _;rw[hsi];rfl
  ·show vi .u8 _=vi .u8 _;rw[hsi];rfl
 ·obtain rfl:i=2:=(by omega);refine⟨by decide,?_⟩;refine⟨_,rfl,[],congrArg (vi .u8) ?_,tq⟩;rw[tQ,hp];exact Yt p.1 s1 p.2 s2
def I5 (l:Nat):List Nat:=if l=4 then [1,0,0,1]else if l=3 then [1,1,0,0]else if l=2 then [0,1,0,1]else if l=1 then [0,0,1,1]else [1,0,1,0]
theorem OM {l:Nat} (hl:l<=4):b9 C 239 [i64 l] [] (.ret (.a [i64 ((I5 l).getD 0 0:Nat),i64 ((I5 l).getD 1 0:Nat),i64 ((I5 l).getD 2 0:Nat),i64 ((I5 l).getD 3 0:Nat)])) []:=by
 rcases l with _|_|_|_|_|l
 ·exact oa.c ⟨Zc _,_,rfl,rfl,_,rfl,[],rfl,tq⟩
 ·exact oa.c ⟨Zc _,_,rfl,rfl,_,rfl,[],rfl,tq⟩
 ·exact oa.c ⟨Zc _,_,rfl,rfl,_,rfl,[],rfl,tq⟩
 ·exact oa.c ⟨Zc _,_,rfl,rfl,_,rfl,[],rfl,tq⟩
 ·exact oa.c ⟨Zc _,_,rfl,rfl,_,rfl,[],rfl,tq⟩
 ·omega
def N3 (i:Nat):Bs:=if i=0 then [1,239,91,91]else if i=1 then [91,239,239,1]else if i=2 then [239,91,1,239]else [239,1,239,91]
theorem OL:b9 C 241 [] [] (.ret (.a [u8 1,u8 239,u8 91,u8 91,u8 91,u8 239,u8 239,u8 1,u8 239,u8 91,u8 1,u8 239,u8 239,u8 1,u8 239,u8 91])) []:=
 VE.c ⟨Zc _,_,rfl,rfl,_,rfl,[],rfl,tq⟩
def cZ (o:List Nat) (y:Bs) (i:Nat):Bs:=(List.range 4).map fun p=>if p<i then tQ (o.getD p 0) (y.getD p 0)else y.getD p 0
def S4 (o:List Nat) (y:Bs):Bs:=cZ o y 4
theorem sA (o y i):(cZ o y i).length=4:=by simp[cZ]
theorem da (o y):(S4 o y).length=4:=sA _ _ _
theorem VZ (y:Bs) (h:y.length=4):[y.getD 0 0,y.getD 1 0,y.getD 2 0,y.getD 3 0]=y:=by
 match y,h with
 |[a,b,c,d],_=>rfl
theorem a1J {o y} (h:y.length=4):cZ o y 0=y:=by
 show[y.getD 0 0,y.getD 1 0,y.getD 2 0,y.getD 3 0]=y;exact VZ y h
theorem EP {o y i} (h:i<4):(cZ o y i).set i (tQ (o.getD i 0) (y.getD i 0))=cZ o y (i+1):=by
 rcases i with _|_|_|_|i;all_goals first|rfl|omega
theorem EO {o y i} (h:i<4):(cZ o y i)[i]? =some (y.getD i 0):=by
 rcases i with _|_|_|_|i;all_goals first|rfl|omega
theorem nC {l:Bs} {j:Nat} {x:UInt8} (h:l[j]? =some x):(bv l)[j]? =some (.int .u8 x.toNat):=by simp[bv,h]
theorem a1T (l i:Nat) (hi:i<4):(I5 l).getD i 0<2:=by
 unfold I5;rcases i with _|_|_|_|i
 ·repeat' split
  all_goals decide
 ·repeat' split
  all_goals decide
 ·repeat' split
  all_goals decide
 ·repeat' split
  all_goals decide
 ·omega
theorem O5 {a b c d:V} {f:Nat->V} (h0:a=f 0) (h1:b=f 1) (h2:c=f 2) (h3:d=f 3) {i:Nat} (hi:i<4):([a,b,c,d]:List V)[i]? =some (f i):=by
 subst h0;subst h1;subst h2;subst h3;rcases i with _|_|_|_|i;all_goals first|rfl|omega
def hG (x:UInt32) (l:List UInt32) (n:Nat):Nat->Bs
 |0=>s6 x
 |g+1=>j9 (S4 (I5 (n-g)) (hG x l n g)) (s6 (l.getD (n-g-1) 0))
theorem bO (x l n):∀g,(hG x l n g).length=4
 |0=>H3 x
 |g+1=>B5 (da _ _) (H3 _)
def U2 (f:Nat->Nat->UInt8) (K i k:Nat):Bs:=(List.range 4).map fun p=>if p<i then f p K else if p=i then f p k else 0
theorem kn (f K i k):(U2 f K i k).length=4:=by simp[U2]
theorem yH {f:Nat->Nat->UInt8} {K i k} (h:i<4):(U2 f K i k)[i]? =some (f i k):=by
 rcases i with _|_|_|_|i;all_goals first|rfl|omega
theorem yJ {f:Nat->Nat->UInt8} {K i k} (h:i<4) {x:UInt8} (hx:x=f i (k+1)):(U2 f K i k).set i x=U2 f K i (k+1):=by
 subst hx;rcases i with _|_|_|_|i;all_goals first|rfl|omega
theorem yI {f:Nat->Nat->UInt8} {K i} (h0:∀p,f p 0=0) (h:i<4):U2 f K i K=U2 f K (i+1) 0:=by
 unfold U2;apply Zu;intro p hp;have:=Z5.1 hp;by_cases h1:p<i
 ·rw[if_pos h1,if_pos (by omega)]
 ·by_cases h2:p=i
  ·rw[if_neg h1,if_pos h2,if_pos (by omega)]
  ·rw[if_neg h1,if_neg h2,if_neg (by omega)];by_cases h3:p=i+1
   ·rw[if_pos h3,h0]
   ·rw[if_neg h3]
theorem yK {f:Nat->Nat->UInt8} {K} (h0:∀p,f p 0=0):U2 f K 0 0=[0,0,0,0]:=by
 show[f 0 0,0,0,0]=_;rw[h0]
def K7 (m:Nat) (r:Nat->Bs) (y:Bs) (p k:Nat):UInt8:=(List.range k).foldl (fun s k=>s^^^jz m ((r p).getD k 0) (y.getD k 0)) 0
theorem mg (m r y p k):K7 m r y p (k+1)=K7 m r y p k^^^jz m ((r p).getD k 0) (y.getD k 0):=by simp[K7,Zn]
def tH (x:UInt32) (l:List UInt32):UInt32:=t5 (U2 (K7 361 N3 (S4 (I5 0) (hG x l l.length l.length))) 4 4 0)
theorem qe {z:Int} {x:UInt32} {n:Nat} {va:List Value} {l:List UInt32} (hz:z=x.toNat) (ha:va=wv l) (hl:l.length=n) (h4:n<=4):b9 C 196 [vi .u32 z,.z n va] [] (.ret (u32 (tH x l))) []:=by
 subst hz;subst ha;refine Vu.c ?_;refine bn 0 rfl (n+1) (fun g=>⟨[(1,.z n (wv l)),(5,.o 1 (.k 0) 0 4),(6,i64 (n-g))],[.sc (bv (hG x l n g))]⟩) ?_ fun g hg=> ?_
 ·refine⟨[],_,_,_,_,kM rfl,rfl,rfl,?_⟩;refine⟨[],0,by omega,[.d 17 0],⟨rfl,rfl,?_,tq⟩,⟨_,rfl,rfl⟩,tq⟩;show i64 (if (4:Int)<n then 4 else n)=i64 (n-(0:Nat));rw[if_neg (by omega)];congr 2
 obtain⟨r,er,hr4,hrg⟩:∃r:Nat,(n:Int)-g=r/\r<=4/\r=n-g:=⟨n-g,by omega,by omega,rfl⟩;have hgs:hG x l n (g+1)=j9 (S4 (I5 r) (hG x l n g)) (s6 (l.getD (r-1) 0)):=by rw[hrg];rfl
 have hyl:=bO x l n g;rw[er];generalize hy:hG x l n g=y at hyl hgs ⊢;refine⟨[],_,_,_,_,OM hr4,rfl,rfl,?_⟩;refine m9 (fun i=>⟨[(1,.z n (wv l)),(5,.o 1 (.k 0) 0 4),(6,i64 r),(22,.a [i64 ((I5 r).getD 0 0:Nat),i64 ((I5 r).getD 1 0:Nat),i64 ((I5 r).getD 2 0:Nat),i64 ((I5 r).getD 3 0:Nat)]),(23,i64 i)],[.sc (bv (cZ (I5 r) y i))]⟩) 4 ⟨[.k 0],⟨rfl,rfl,rfl,rfl,rfl,tq⟩,⟨_,rfl,i6 (by rw[a1J hyl])⟩,tq⟩ fun i hi=> ?_;refine d9 (fun h=> ?_) (fun h=> ?_)
 ·have d8:i<4:=(by omega);refine⟨by omega,by omega,?_⟩;refine⟨_,by rw[Zb,Zd];exact O5 (f:=fun i=>i64 ((I5 r).getD i 0:Nat)) rfl rfl rfl rfl d8,?_⟩;refine⟨by omega,by omega,?_⟩;refine⟨_,by rw[Zb,Zd,Ze];exact nC (EO d8),?_⟩;refine⟨[],_,_,_,_,OF (a1T r i d8) rfl,rfl,rfl,?_⟩;refine⟨by omega,by omega,by rw[j6,sA];omega,?_⟩;refine⟨i+1,by omega,by omega,[.k 0],⟨rfl,rfl,rfl,rfl,f8 (by simp(disch:=omega)only[Za];omega),tq⟩,⟨_,rfl,i6 ?_⟩,tq⟩;rw[Zb,Zd,Ze,L4,EP d8]
 obtain rfl:i=4:=(by omega);have hsl:(cZ (I5 r) y 4).length=4:=sA _ _ _;refine d9 (fun h=> ?_) (fun h=> ?_)
 ·have e1:(I6.wrap ((r:Int)-1)).toNat=r-1:=(by simp(disch:=omega)only[Za];omega);refine⟨(by simp(disch:=omega)only[Za];omega),by omega,?_⟩;refine⟨_,by rw[e1];exact t4 (i:=r-1) (by omega),?_⟩;refine⟨[],_,_,_,_,kM rfl,rfl,rfl,?_⟩;refine⟨[],_,_,_,_,N4 (n:=4) (a:=S4 (I5 r) y) (b:=s6 (l.getD (r-1) 0)) (g8 (da _ _)) (g8 (H3 _)) (da _ _) (H3 _) (by decide),rfl,rfl,?_⟩;refine⟨rfl,g+1,by omega,by omega,[.d 48 0],⟨rfl,rfl,f8 ?_,tq⟩,⟨_,rfl,i6 (by rw[hgs])⟩,tq⟩;rw[Za _ (by omega)];omega
 ·obtain rfl:r=0:=(by omega);have hgn:g=n:=(by omega);have hm0:∀p,K7 361 N3 (S4 (I5 0) y) p 0=0:=fun _=>rfl;refine⟨by decide,by decide,by decide,?_⟩;refine⟨[],_,_,_,_,OL,rfl,rfl,?_⟩;generalize hst:cZ (I5 0) y 4=s at hsl ⊢;have hs':S4 (I5 0) y=s:=hst;rw[hs']at hm0;refine m9 (fun i=>⟨[(5,.o 1 (.k 0) 0 4),(9,.o 1 (.k 1) 0 4),(52,.a [u8 1,u8 239,u8 91,u8 91,u8 91,u8 239,u8 239,u8 1,u8 239,u8 91,u8 1,u8 239,u8 239,u8 1,u8 239,u8 91]),(53,i64 i)],[.sc (bv s),.sc (bv (U2 (K7 361 N3 s) 4 i 0))]⟩) 4 ⟨[.k 0,.d 51 0],⟨rfl,rfl,rfl,rfl,tq⟩,⟨_,rfl,rfl⟩,⟨_,rfl,i6 (by rw[yK hm0];rfl)⟩,tq⟩ fun i hi=> ?_;refine d9 (fun h=> ?_) (fun h=> ?_)
  ·have d8:i<4:=(by omega);refine⟨by omega,by omega,?_⟩;refine⟨[u8 ((N3 i).getD 0 0),u8 ((N3 i).getD 1 0),u8 ((N3 i).getD 2 0),u8 ((N3 i).getD 3 0)],?_,rfl,?_⟩
   ·rw[Zb];rcases i with _|_|_|_|i;all_goals first|rfl|omega
   refine⟨Zc _,?_⟩;refine⟨_,rfl,rfl,?_⟩;refine m9 (fun k=>⟨[(5,.o 1 (.k 0) 0 4),(9,.o 1 (.k 1) 0 4),(10,i64 i),(52,.a [u8 1,u8 239,u8 91,u8 91,u8 91,u8 239,u8 239,u8 1,u8 239,u8 91,u8 1,u8 239,u8 239,u8 1,u8 239,u8 91]),(53,i64 i),(57,.a [u8 ((N3 i).getD 0 0),u8 ((N3 i).getD 1 0),u8 ((N3 i).getD 2 0),u8 ((N3 i).getD 3 0)]),(58,i64 k)],[.sc (bv s),.sc (bv (U2 (K7 361 N3 s) 4 i k))]⟩) 4 ⟨[.k 0,.k 1],⟨rfl,rfl,rfl,rfl,rfl,rfl,rfl,tq⟩,⟨_,rfl,rfl⟩,⟨_,rfl,rfl⟩,tq⟩ fun k hk=> ?_;refine d9 (fun h=> ?_) (fun h=> ?_)
   ·have hkl:k<4:=(by omega);refine⟨by omega,by omega,?_⟩;refine⟨_,by rw[Zb,Zd];exact O5 (f:=fun k=>u8 ((N3 i).getD k 0)) rfl rfl rfl rfl hkl,?_⟩;refine⟨by omega,by omega,?_⟩;refine⟨_,by rw[Zb,Zd,Ze];exact nC (yH d8),?_⟩;refine⟨by omega,by omega,?_⟩;refine⟨_,by rw[Zb,Zd,Ze];exact p9 (i:=k) (by omega),?_⟩;refine⟨[],_,_,_,_,nF (m:=361) rfl rfl (by decide) (by decide),rfl,rfl,?_⟩;refine⟨by omega,by omega,by rw[j6,kn];omega,?_⟩;refine⟨k+1,by omega,by omega,[.k 0,.k 1],⟨rfl,rfl,rfl,rfl,rfl,rfl,f8 (by simp(disch:=omega)only[Za];omega),tq⟩,⟨_,rfl,rfl⟩,⟨_,rfl,i6 ?_⟩,tq⟩;rw[Zb,Zd,Ze,o5,L4,yJ d8 (mg _ _ _ _ _).symm]
   ·obtain rfl:k=4:=(by omega);refine⟨i+1,by omega,by omega,[.k 0,.k 1],⟨rfl,rfl,rfl,f8 (by simp(disch:=omega)only[Za];omega),tq⟩,⟨_,rfl,rfl⟩,⟨_,rfl,i6 ?_⟩,tq⟩;rw[yI hm0 d8]
  ·obtain rfl:i=4:=(by omega);refine⟨[],_,_,_,_,dz (l:=U2 (K7 361 N3 s) 4 4 0) (g8 (kn _ _ _ _)) (kn _ _ _ _) rfl,rfl,rfl,?_⟩;refine⟨_,rfl,[],?_,tq⟩;show u32 (t5 (U2 (K7 361 N3 s) 4 4 0))=u32 (tH x l);have hyn:hG x l n n=y:=by rw[<-hy,hgn]
   rw[tH,hl,hyn,hs']
def fR (i:Nat):Bs:=if i=0 then [1,164,85,135,90,88,219,158]else if i=1 then [164,86,130,243,30,198,104,229]else if i=2 then [2,161,252,193,71,174,61,25]else [164,85,135,90,88,219,158,3]
def gZ (m:Bs):UInt32:=t5 (U2 (K7 333 fR m) 8 4 0)
theorem Qn (i:Nat) (h:i<4):(fR i).length=8:=by
 rcases i with _|_|_|_|i;all_goals first|rfl|omega
theorem uq {va:List Value} {m:Bs} (ha:va=bv m) (hm:m.length=8):b9 C 194 [.z 8 va] [] (.ret (u32 (gZ m))) []:=by
 subst ha;have hm0:∀p,K7 333 fR m p 0=0:=fun _=>rfl;refine VD.c ?_;refine⟨by decide,by decide,by decide,?_⟩;refine m9 (fun i=>⟨[(0,.z 8 (bv m)),(3,.o 1 (.k 0) 0 4),(15,.a [.z 8 (bv (fR 0)),.z 8 (bv (fR 1)),.z 8 (bv (fR 2)),.z 8 (bv (fR 3))]),(16,i64 i)],[.sc (bv (U2 (K7 333 fR m) 8 i 0))]⟩) 4 ⟨[.d 10 0],⟨rfl,rfl,rfl,rfl,tq⟩,⟨_,rfl,i6 (by rw[yK hm0];rfl)⟩,tq⟩ fun i hi=> ?_;refine d9 (fun h=> ?_) (fun h=> ?_)
 ·have d8:i<4:=(by omega);have hfl:=Qn i d8;refine⟨by omega,by omega,?_⟩;refine⟨_,by rw[Zb,Zd];exact O5 (f:=fun i=> .z 8 (bv (fR i))) rfl rfl rfl rfl d8,?_⟩;refine m9 (fun k=>⟨[(0,.z 8 (bv m)),(3,.o 1 (.k 0) 0 4),(4,i64 i),(15,.a [.z 8 (bv (fR 0)),.z 8 (bv (fR 1)),.z 8 (bv (fR 2)),.z 8 (bv (fR 3))]),(16,i64 i),(20,.z 8 (bv (fR i))),(21,i64 8),(22,i64 k)],[.sc (bv (U2 (K7 333 fR m) 8 i k))]⟩) 8 ⟨[.k 0],⟨rfl,rfl,rfl,rfl,rfl,rfl,rfl,rfl,tq⟩,⟨_,rfl,rfl⟩,tq⟩ fun k hk=> ?_;refine d9 (fun h=> ?_) (fun h=> ?_)
  ·have hkl:k<8:=(by omega);refine⟨by omega,by omega,?_⟩;refine⟨_,by rw[Zb];exact p9 (by omega),?_⟩;refine⟨by omega,by omega,?_⟩;refine⟨_,by rw[Zb,Zd,Ze];exact nC (yH d8),?_⟩;refine⟨by omega,by omega,?_⟩;refine⟨_,by rw[Zb];exact p9 (by omega),?_⟩;refine⟨[],_,_,_,_,nF (m:=333) rfl rfl (by decide) (by decide),rfl,rfl,?_⟩;refine⟨by omega,by omega,by rw[j6,kn];omega,?_⟩;refine⟨k+1,by omega,by omega,[.k 0],⟨rfl,rfl,rfl,rfl,rfl,rfl,rfl,f8 (by simp(disch:=omega)only[Za];omega),tq⟩,⟨_,rfl,i6 ?_⟩,tq⟩;rw[Zb,Zd,Ze,o5,L4,yJ d8 (mg _ _ _ _ _).symm]
  ·obtain rfl:k=8:=(by omega);refine⟨i+1,by omega,by omega,[.k 0],⟨rfl,rfl,rfl,f8 (by simp(disch:=omega)only[Za];omega),tq⟩,⟨_,rfl,i6 ?_⟩,tq⟩;rw[yI hm0 d8]
 ·obtain rfl:i=4:=(by omega);refine⟨[],_,_,_,_,dz (l:=U2 (K7 333 fR m) 8 4 0) (g8 (kn _ _ _ _)) (kn _ _ _ _) rfl,rfl,rfl,?_⟩;exact⟨_,rfl,[],rfl,tq⟩
def x9 (key:Bs) (n:Nat):List UInt32:=(List.range n).map fun i=>t5 (sub key (8*i) 4)
def y3 (key:Bs) (n:Nat):List UInt32:=(List.range n).map fun i=>t5 (sub key (8*i+4) 4)
def N7 (key:Bs) (n:Nat):List UInt32:=(List.range n).map fun i=>gZ (sub key (8*i) 8)
theorem mS (key n):x9 key (n+1)=x9 key n++[t5 (sub key (8*n) 4)]:=by simp[x9,Zn]
theorem mU (key n):y3 key (n+1)=y3 key n++[t5 (sub key (8*n+4) 4)]:=by simp[y3,Zn]
theorem mT (key n):N7 key (n+1)=N7 key n++[gZ (sub key (8*n) 8)]:=by simp[N7,Zn]
theorem Q6 (key n):(x9 key n).length=n:=by simp[x9]
theorem Q7 (key n):(y3 key n).length=n:=by simp[y3]
theorem P4 (key n):(N7 key n).length=n:=by simp[N7]
def bu:UInt32:=16843009
def ak (ev:List UInt32) (r:Nat):UInt32:=tH (2*Zk r*bu) ev
def am (od:List UInt32) (r:Nat):UInt32:=F5 (tH ((2*Zk r+1)*bu) od) 8
def kW (ev od:List UInt32) (r:Nat):List UInt32:=[ak ev r+am od r,F5 (ak ev r+2*am od r) 9]
def W1 (ev od:List UInt32) (n:Nat):List UInt32:=((List.range n).map (kW ev od)).flatten
theorem oA (ev od n):W1 ev od (n+1)=W1 ev od n++kW ev od n:=by simp[W1,Zn]
theorem ie (ev od):∀n,(W1 ev od n).length=2*n
 |0=>rfl
 |n+1=>by rw[oA,Zm,ie ev od n];show 2*n+2=_;omega
def tK (key:Bs):List UInt32:=W1 (x9 key (key.length/8)) (y3 key (key.length/8)) 20
def tS (key:Bs):List UInt32:=(N7 key (key.length/8)).reverse
theorem iT (key):(tK key).length=40:=ie _ _ _
theorem sG {key:Bs} {n:Nat} (h:key.length=8*n):(tS key).length=n:=by
 rw[tS,Zj,P4,h];omega
theorem Dy (r:Nat):Zk r+1=Zk (r+1):=by
 rw[UInt32.ofNat_add];rfl
theorem OJ {n m:Nat} {va:List Value} {key:Bs} (ha:va=bv key) (hk:key.length=m) (hm:m=8*n) (hn:2<=n/\n<=4):
  b9 C 134 [.z m va] [] (.ret (.t [.o 1 (.k 0) 0 40,.o 1 (.k 1) 0 n,i64 0])) [.sc (wv (tK key)),.sc (wv (tS key))]:=by
 subst ha;subst hm;have hdiv:key.length/8=n:=by omega
 have hK:tK key=W1 (x9 key n) (y3 key n) 20:=by rw[tK,hdiv]
 have hS:tS key=(N7 key n).reverse:=by rw[tS,hdiv]
 rw[hK,hS];refine Vv.c ?_;refine bn 0 rfl 20 (fun r=>⟨[(2,.o 1 (.k 0) 0 (2*r)),(3,.z n (wv (N7 key n).reverse)),(5,.z n (wv (x9 key n))),(6,.z n (wv (y3 key n))),(12,u32 (Zk r))],[.sc (wv (W1 (x9 key n) (y3 key n) r))]⟩) ?_ fun r hr=> ?_
 ·by_cases h2:n=2
  ·refine E5 (by rw[h2];rfl) ?_;refine E9 (fun i=>⟨[(2,g9),(3,.o 1 (.k 2) 0 i),(5,.o 1 (.k 0) 0 i),(6,.o 1 (.k 1) 0 i),(7,.z (8*(n-i)) (bv (key.drop (8*i))))],[.sc (wv (x9 key i)),.sc (wv (y3 key i)),.sc (wv (N7 key i))]⟩) n [(5,1,.sc []),(6,1,.sc []),(3,1,.sc [])] ⟨[.d 900000 0,.d 900000 1,.d 900000 2],⟨rfl,rfl,rfl,rfl,rfl,tq⟩,⟨_,rfl,rfl⟩,⟨_,rfl,rfl⟩,⟨_,rfl,rfl⟩,tq⟩ fun i hi=> ?_;refine d9 (fun h=> ?_) (fun h=> ?_)
   ·have d8:i<n:=(by omega);have s4:sub (bv (key.drop (8*i))) 0 4=bv (sub key (8*i) 4):=by rw[o6,V3];rfl
    have s5:sub (bv (key.drop (8*i))) 4 4=bv (sub key (8*i+4) 4):=by rw[o6,V3]
    have s8:sub (bv (key.drop (8*i))) 0 8=bv (sub key (8*i) 8):=by rw[o6,V3];rfl
    refine⟨by decide,by decide,Zc _,by show 4<=8*(n-i);omega,?_⟩;refine⟨[],_,_,_,_,dz (l:=sub key (8*i) 4) s4 (by rw[m5];omega) rfl,rfl,rfl,?_⟩;refine⟨by decide,by decide,by decide,Zc _,by show 8<=8*(n-i);omega,?_⟩;refine⟨[],_,_,_,_,dz (l:=sub key (8*i+4) 4) s5 (by rw[m5];omega) rfl,rfl,rfl,?_⟩;refine⟨Zc _,by omega,by rw[y5,Q6];omega,?_⟩;refine⟨Zc _,by omega,by rw[y5,Q7];omega,?_⟩;refine⟨by decide,by decide,Zc _,by show 8<=8*(n-i);omega,?_⟩;refine⟨[],_,_,_,_,uq (m:=sub key (8*i) 8) s8 (by rw[m5];omega),rfl,rfl,?_⟩;refine⟨Zc _,by omega,by rw[y5,P4];omega,?_⟩;refine⟨by decide,by show 8<=8*(n-i);omega,Zc _,Zc _,?_⟩;refine⟨i+1,by omega,by omega,[.d 49 0,.d 53 0,.d 59 0],⟨rfl,rfl,rfl,rfl,?_,tq⟩,⟨_,rfl,i6 ?_⟩,⟨_,rfl,i6 ?_⟩,⟨_,rfl,i6 ?_⟩,tq⟩
    ·show V.z (8*(n-i)-8) (sub _ 8 (8*(n-i)-8))=_;rw[o6,V3,M9 _ _ _ (by omega),show 8*(n-i)-8=8*(n-(i+1)) by omega,show 8*i+8=8*(i+1) by omega]
    ·rw[mS];exact S8 (by rw[Q6];omega)
    ·rw[mU];exact S8 (by rw[Q7];omega)
    ·rw[mT];exact S8 (by rw[P4];omega)
   ·obtain rfl:i=n:=(by omega);refine⟨[.k 2],_,_,_,_,kR (l:=N7 key i) (P4 _ _) (by omega) (by omega),rfl,rfl,?_⟩;refine⟨[(2,1,.sc [])],0,by decide,[.d 900000 0],⟨rfl,?_,?_,?_,rfl,tq⟩,⟨_,rfl,rfl⟩,tq⟩
    ·show V.z i (sub _ 0 i)=V.z i _;rw[D7 (by rw[Zj,P4])]
    ·show V.z i (sub _ 0 i)=V.z i _;rw[D7 (Q6 _ _)]
    ·show V.z i (sub _ 0 i)=V.z i _;rw[D7 (Q7 _ _)]
  refine fp (by rw[bne_iff_ne];omega) ?_;by_cases h3:n=3
  ·refine E5 (by rw[h3];rfl) ?_;refine E9 (fun i=>⟨[(2,g9),(3,.o 1 (.k 2) 0 i),(5,.o 1 (.k 0) 0 i),(6,.o 1 (.k 1) 0 i),(7,.z (8*(n-i)) (bv (key.drop (8*i))))],[.sc (wv (x9 key i)),.sc (wv (y3 key i)),.sc (wv (N7 key i))]⟩) n [(5,1,.sc []),(6,1,.sc []),(3,1,.sc [])] ⟨[.d 900000 0,.d 900000 1,.d 900000 2],⟨rfl,rfl,rfl,rfl,rfl,tq⟩,⟨_,rfl,rfl⟩,⟨_,rfl,rfl⟩,⟨_,rfl,rfl⟩,tq⟩ fun i hi=> ?_;refine d9 (fun h=> ?_) (fun h=> ?_)
   ·have d8:i<n:=(by omega);have s4:sub (bv (key.drop (8*i))) 0 4=bv (sub key (8*i) 4):=by rw[o6,V3];rfl
    have s5:sub (bv (key.drop (8*i))) 4 4=bv (sub key (8*i+4) 4):=by rw[o6,V3]
    have s8:sub (bv (key.drop (8*i))) 0 8=bv (sub key (8*i) 8):=by rw[o6,V3];rfl
    refine⟨by decide,by decide,Zc _,by show 4<=8*(n-i);omega,?_⟩;refine⟨[],_,_,_,_,dz (l:=sub key (8*i) 4) s4 (by rw[m5];omega) rfl,rfl,rfl,?_⟩;refine⟨by decide,by decide,by decide,Zc _,by show 8<=8*(n-i);omega,?_⟩;refine⟨[],_,_,_,_,dz (l:=sub key (8*i+4) 4) s5 (by rw[m5];omega) rfl,rfl,rfl,?_⟩;refine⟨Zc _,by omega,by rw[y5,Q6];omega,?_⟩;refine⟨Zc _,by omega,by rw[y5,Q7];omega,?_⟩;refine⟨by decide,by decide,Zc _,by show 8<=8*(n-i);omega,?_⟩;refine⟨[],_,_,_,_,uq (m:=sub key (8*i) 8) s8 (by rw[m5];omega),rfl,rfl,?_⟩;refine⟨Zc _,by omega,by rw[y5,P4];omega,?_⟩;refine⟨by decide,by show 8<=8*(n-i);omega,Zc _,Zc _,?_⟩;refine⟨i+1,by omega,by omega,[.d 49 0,.d 53 0,.d 59 0],⟨rfl,rfl,rfl,rfl,?_,tq⟩,⟨_,rfl,i6 ?_⟩,⟨_,rfl,i6 ?_⟩,⟨_,rfl,i6 ?_⟩,tq⟩
    ·show V.z (8*(n-i)-8) (sub _ 8 (8*(n-i)-8))=_;rw[o6,V3,M9 _ _ _ (by omega),show 8*(n-i)-8=8*(n-(i+1)) by omega,show 8*i+8=8*(i+1) by omega]
    ·rw[mS];exact S8 (by rw[Q6];omega)
    ·rw[mU];exact S8 (by rw[Q7];omega)
    ·rw[mT];exact S8 (by rw[P4];omega)
   ·obtain rfl:i=n:=(by omega);refine⟨[.k 2],_,_,_,_,kR (l:=N7 key i) (P4 _ _) (by omega) (by omega),rfl,rfl,?_⟩;refine⟨[(2,1,.sc [])],0,by decide,[.d 900000 0],⟨rfl,?_,?_,?_,rfl,tq⟩,⟨_,rfl,rfl⟩,tq⟩
    ·show V.z i (sub _ 0 i)=V.z i _;rw[D7 (by rw[Zj,P4])]
    ·show V.z i (sub _ 0 i)=V.z i _;rw[D7 (Q6 _ _)]
    ·show V.z i (sub _ 0 i)=V.z i _;rw[D7 (Q7 _ _)]
  refine fp (by rw[bne_iff_ne];omega) ?_;refine E5 (by rw[show n=4 by omega];rfl) ?_;refine E9 (fun i=>⟨[(2,g9),(3,.o 1 (.k 2) 0 i),(5,.o 1 (.k 0) 0 i),(6,.o 1 (.k 1) 0 i),(7,.z (8*(n-i)) (bv (key.drop (8*i))))],[.sc (wv (x9 key i)),.sc (wv (y3 key i)),.sc (wv (N7 key i))]⟩) n [(5,1,.sc []),(6,1,.sc []),(3,1,.sc [])] ⟨[.d 900000 0,.d 900000 1,.d 900000 2],⟨rfl,rfl,rfl,rfl,rfl,tq⟩,⟨_,rfl,rfl⟩,⟨_,rfl,rfl⟩,⟨_,rfl,rfl⟩,tq⟩ fun i hi=> ?_;refine d9 (fun h=> ?_) (fun h=> ?_)
  ·have d8:i<n:=(by omega);have s4:sub (bv (key.drop (8*i))) 0 4=bv (sub key (8*i) 4):=by rw[o6,V3];rfl
   have s5:sub (bv (key.drop (8*i))) 4 4=bv (sub key (8*i+4) 4):=by rw[o6,V3]
   have s8:sub (bv (key.drop (8*i))) 0 8=bv (sub key (8*i) 8):=by rw[o6,V3];rfl
   refine⟨by decide,by decide,Zc _,by show 4<=8*(n-i);omega,?_⟩;refine⟨[],_,_,_,_,dz (l:=sub key (8*i) 4) s4 (by rw[m5];omega) rfl,rfl,rfl,?_⟩;refine⟨by decide,by decide,by decide,Zc _,by show 8<=8*(n-i);omega,?_⟩;refine⟨[],_,_,_,_,dz (l:=sub key (8*i+4) 4) s5 (by rw[m5];omega) rfl,rfl,rfl,?_⟩;refine⟨Zc _,by omega,by rw[y5,Q6];omega,?_⟩;refine⟨Zc _,by omega,by rw[y5,Q7];omega,?_⟩;refine⟨by decide,by decide,Zc _,by show 8<=8*(n-i);omega,?_⟩;refine⟨[],_,_,_,_,uq (m:=sub key (8*i) 8) s8 (by rw[m5];omega),rfl,rfl,?_⟩;refine⟨Zc _,by omega,by rw[y5,P4];omega,?_⟩;refine⟨by decide,by show 8<=8*(n-i);omega,Zc _,Zc _,?_⟩;refine⟨i+1,by omega,by omega,[.d 49 0,.d 53 0,.d 59 0],⟨rfl,rfl,rfl,rfl,?_,tq⟩,⟨_,rfl,i6 ?_⟩,⟨_,rfl,i6 ?_⟩,⟨_,rfl,i6 ?_⟩,tq⟩
   ·show V.z (8*(n-i)-8) (sub _ 8 (8*(n-i)-8))=_;rw[o6,V3,M9 _ _ _ (by omega),show 8*(n-i)-8=8*(n-(i+1)) by omega,show 8*i+8=8*(i+1) by omega]
   ·rw[mS];exact S8 (by rw[Q6];omega)
   ·rw[mU];exact S8 (by rw[Q7];omega)
   ·rw[mT];exact S8 (by rw[P4];omega)
  ·obtain rfl:i=n:=(by omega);refine⟨[.k 2],_,_,_,_,kR (l:=N7 key i) (P4 _ _) (by omega) (by omega),rfl,rfl,?_⟩;refine⟨[(2,1,.sc [])],0,by decide,[.d 900000 0],⟨rfl,?_,?_,?_,rfl,tq⟩,⟨_,rfl,rfl⟩,tq⟩
   ·show V.z i (sub _ 0 i)=V.z i _;rw[D7 (by rw[Zj,P4])]
   ·show V.z i (sub _ 0 i)=V.z i _;rw[D7 (Q6 _ _)]
   ·show V.z i (sub _ 0 i)=V.z i _;rw[D7 (Q7 _ _)]
 ·have e2:∀x:UInt32,U3.wrap (2*(x.toNat:Int))=((2*x).toNat:Int):=fun x=>jV 2 x;have e3:∀x:UInt32,U3.wrap ((x.toNat:Int)*16843009)=((x*bu).toNat:Int):=fun x=>jV x bu;have e4:∀x:UInt32,U3.wrap ((x.toNat:Int)+1)=((x+1).toNat:Int):=fun x=>y4 x 1;have hkl:=ie (x9 key n) (y3 key n) r;refine⟨[],_,_,_,_,qe (x:=2*Zk r*bu) (l:=x9 key n) (by rw[e2,e3]) rfl (Q6 _ _) (by omega),rfl,rfl,?_⟩;refine⟨[],_,_,_,_,qe (x:=(2*Zk r+1)*bu) (l:=y3 key n) (by rw[e2,e4,e3]) rfl (Q7 _ _) (by omega),rfl,rfl,?_⟩;refine⟨[],_,_,_,_,bK (k:=8) rfl (by decide) (by decide),rfl,rfl,?_⟩;refine⟨[],_,_,_,_,bK (v:=ak (x9 key n) r+2*am (y3 key n) r) (k:=9) (by rw[e2];exact y4 _ _) (by decide) (by decide),rfl,rfl,?_⟩;refine⟨Zc _,by omega,by rw[y5,hkl];omega,?_⟩;have hst:sub (wv (W1 (x9 key n) (y3 key n) r)) 0 (2*r*1)++[Value.int .u32 (U3.wrap (((ak (x9 key n) r).toNat:Int)+((am (y3 key n) r).toNat:Int))),Value.int .u32 ((F5 (ak (x9 key n) r+2*am (y3 key n) r) 9).toNat:Int)]=wv (W1 (x9 key n) (y3 key n) (r+1)):=by
   rw[Zd,D7 hkl,y4,oA,<-nb];rfl
  have hu:((Zk r+1).toNat:Int)=((r+1:Nat):Int):=by
   rw[Dy,UInt32.toNat_ofNat',Nat.mod_eq_of_lt (by omega)]
  refine d9 (fun h=> ?_) (fun h=> ?_)
  ·rw[e4,hu]at h;refine⟨rfl,r+1,by omega,by omega,[.d 84 0],⟨rfl,rfl,rfl,rfl,?_,tq⟩,⟨_,rfl,i6 hst⟩,tq⟩;show vi .u32 _=vi .u32 _;rw[e4,Dy]
  ·rw[e4,hu]at h;obtain rfl:r=19:=(by omega);refine⟨[],_,_,_,_,pN (l:=W1 (x9 key n) (y3 key n) 20) (n:=40) rfl (ie _ _ _) (by decide) (by decide),?_,rfl,?_⟩
   ·show[V.z _ (sub (sub (wv (W1 (x9 key n) (y3 key n) 19)) 0 (2*19*1)++[Value.int .u32 (U3.wrap (((ak (x9 key n) 19).toNat:Int)+((am (y3 key n) 19).toNat:Int))),Value.int .u32 ((F5 (ak (x9 key n) 19+2*am (y3 key n) 19) 9).toNat:Int)]) 0 _)]=_;rw[hst,D7 (ie _ _ _)]
   refine⟨[],_,_,_,_,pN (l:=(N7 key n).reverse) rfl (by rw[Zj,P4]) (by omega) (by omega),rfl,rfl,?_⟩;exact⟨_,rfl,[.d 90 0,.d 92 0],rfl,⟨_,rfl,rfl⟩,⟨_,rfl,rfl⟩,tq⟩
abbrev S6 (k s:List UInt32):V:= .q [wz k,wz s] 0
theorem Ay {n m:Nat} {va:List Value} {key:Bs} (ha:va=bv key) (hk:key.length=m) (hm:m=8*n) (hn:2<=n/\n<=4):b9 C 82 [.z m va] [] (.ret (.t [S6 (tK key) (tS key),i64 0])) []:=by
 refine Vw.c ?_;refine⟨[],_,_,_,_,OJ ha hk hm hn,rfl,rfl,?_⟩;refine⟨_,rfl,[],?_,tq⟩;show V.t [.q [.z 40 (sub _ 0 40),.z n (sub _ 0 n)] 0,i64 0]=V.t [.q [.z _ _,.z _ _] 0,i64 0];rw[D7 (iT key),D7 (sG (n:=n) (by omega)),iT,sG (n:=n) (by omega)]
abbrev W4:=UInt32×UInt32×UInt32×UInt32
def oZ (k s:List UInt32) (a c:UInt32) (r:Nat):UInt32:=tH a s+tH (F5 c 8) s+k.getD (2*r+8) 0
def pa (k s:List UInt32) (a c:UInt32) (r:Nat):UInt32:=tH a s+2*tH (F5 c 8) s+k.getD (2*r+9) 0
theorem AA {k s:List UInt32} {x y:Int} {a c:UInt32} {r:Nat} (hx:x=a.toNat) (hy:y=c.toNat) (hk:k.length=40) (hs:s.length<=4) (hr:r<16):b9 C 137 [S6 k s,vi .u32 x,vi .u32 y,i64 r] [] (.ret (.t [u32 (oZ k s a c r),u32 (pa k s a c r)])) []:=by
 subst hx;subst hy;refine Vy.c ?_;have e1:(I6.wrap (I6.wrap (2*(r:Int))+8)).toNat=2*r+8:=(by simp(disch:=omega)only[Za];omega);have e2:(I6.wrap (I6.wrap (2*(r:Int))+9)).toNat=2*r+9:=(by simp(disch:=omega)only[Za];omega);have e3:∀x:UInt32,U3.wrap (2*(x.toNat:Int))=((2*x).toNat:Int):=fun x=>jV 2 x;refine⟨_,rfl,?_⟩;refine⟨[],_,_,_,_,qe (l:=s) rfl rfl rfl hs,rfl,rfl,?_⟩;refine⟨[],_,_,_,_,bK (k:=8) rfl (by decide) (by decide),rfl,rfl,?_⟩;refine⟨_,rfl,?_⟩;refine⟨[],_,_,_,_,qe (l:=s) rfl rfl rfl hs,rfl,rfl,?_⟩;refine⟨_,rfl,by omega,by omega,?_⟩;refine⟨_,by rw[e1];exact t4 (by omega),?_⟩;refine⟨_,rfl,by omega,by omega,?_⟩;refine⟨_,by rw[e2];exact t4 (by omega),?_⟩;refine⟨_,rfl,[],?_,tq⟩;show V.t [vi .u32 _,vi .u32 _]=_;rw[y4,y4,e3,y4,y4];rfl
def sQ (k:List UInt32) (o:Nat) (x:W4) (i:Nat):List V:=[u32 (if 0<i then x.1^^^k.getD (o+0) 0 else x.1),u32 (if 1<i then x.2.1^^^k.getD (o+1) 0 else x.2.1),u32 (if 2<i then x.2.2.1^^^k.getD (o+2) 0 else x.2.2.1),u32 (if 3<i then x.2.2.2^^^k.getD (o+3) 0 else x.2.2.2)]
def wh (k:List UInt32) (o:Nat) (x:W4):W4:=(x.1^^^k.getD (o+0) 0,x.2.1^^^k.getD (o+1) 0,x.2.2.1^^^k.getD (o+2) 0,x.2.2.2^^^k.getD (o+3) 0)
def bx (x:W4) (i:Nat):UInt32:=if i=0 then x.1 else if i=1 then x.2.1 else if i=2 then x.2.2.1 else x.2.2.2
theorem a3J {k o x i} (h:i<4):(sQ k o x i)[i]? =some (u32 (bx x i)):=by
 rcases i with _|_|_|_|i;all_goals first|rfl|omega
theorem a3K {k o x i} (h:i<4):(sQ k o x i).set i (u32 (bx x i^^^k.getD (o+i) 0))=sQ k o x (i+1):=by
 rcases i with _|_|_|_|i;all_goals first|rfl|omega
abbrev sN (x:W4):V:= .a [u32 x.1,u32 x.2.1,u32 x.2.2.1,u32 x.2.2.2]
theorem qh {k s:List UInt32} {x:W4} {o:Nat} (hk:k.length=40) (ho:o<=36):b9 C 136 [S6 k s,sN x,i64 o] [] (.ret (sN (wh k o x))) []:=by
 refine Vz.c ?_;refine m9 (fun i=>⟨[(0,S6 k s),(2,i64 o),(4,.p (.k 0) 0),(6,.p (.k 1) 0),(8,i64 i)],[.mx (sQ k o x i),.sc [.int .u32 0,.int .u32 0,.int .u32 0,.int .u32 0]]⟩) 4 ⟨[.d 4 0,.d 6 0],⟨rfl,rfl,rfl,rfl,rfl,tq⟩,⟨_,rfl,rfl⟩,⟨_,rfl,rfl⟩,tq⟩ fun i hi=> ?_;refine d9 (fun h=> ?_) (fun h=> ?_)
 ·have d8:i<4:=(by omega);have e1:(I6.wrap ((o:Int)+i)).toNat=o+i:=(by simp(disch:=omega)only[Za];omega);refine⟨by omega,by omega,?_⟩;refine⟨_,by rw[Zb,Zd,Ze];exact a3J d8,?_⟩;refine⟨_,rfl,(by simp(disch:=omega)only[Za];omega),by omega,?_⟩;refine⟨_,by rw[e1];exact t4 (by omega),?_⟩;refine⟨by omega,by omega,by show 0+((i:Int)).toNat*1+1<=4;omega,?_⟩;refine⟨i+1,by omega,by omega,[.k 0,.k 1],⟨rfl,rfl,rfl,rfl,f8 (by simp(disch:=omega)only[Za];omega),tq⟩,⟨_,rfl,?_⟩,⟨_,rfl,rfl⟩,tq⟩;rw[<-a3K d8,C0];rcases i with _|_|_|_|i;all_goals first|rfl|omega
 ·obtain rfl:i=4:=(by omega);refine⟨_,rfl,rfl,Zc _,_,rfl,rfl,?_⟩;exact⟨_,rfl,[],rfl,tq⟩
def C8 (b:Bs):W4:=(t5 (sub b 0 4),t5 (sub b 4 4),t5 (sub b 8 4),t5 (sub b 12 4))
def dK (b:Bs) (i:Nat):List UInt32:=(List.range 4).map fun p=>if p<i then t5 (sub b (4*p) 4)else 0
theorem ru (b:Bs) {i:Nat} (h:i<4):(dK b i).set i (t5 (sub b (4*i) 4))=dK b (i+1):=by
 rcases i with _|_|_|_|i;all_goals first|rfl|omega
def iR (k s:List UInt32) (x:W4) (r:Nat):W4:=(F5 (x.2.2.1^^^oZ k s x.1 x.2.1 r) 31,F5 x.2.2.2 1^^^pa k s x.1 x.2.1 r,x.1,x.2.1)
def fu (k s:List UInt32) (x:W4) (r:Nat):W4:=(F5 x.2.2.1 1^^^oZ k s x.1 x.2.1 r,F5 (x.2.2.2^^^pa k s x.1 x.2.1 r) 31,x.1,x.2.1)
def H4 (x:W4):W4:=(x.2.2.1,x.2.2.2,x.1,x.2.1)
def di (k s:List UInt32) (x:W4) (n:Nat):W4:=(List.range n).foldl (iR k s) x
def cf (k s:List UInt32) (x:W4) (n:Nat):W4:=(List.range n).foldl (fun x r=>fu k s x (15-r)) x
theorem EW (k s x n):di k s x (n+1)=iR k s (di k s x n) n:=by simp[di,Zn]
theorem EV (k s x n):cf k s x (n+1)=fu k s (cf k s x n) (15-n):=by simp[cf,Zn]
def dk (k s:List UInt32) (x:W4):W4:=wh k 4 (H4 (di k s (wh k 0 x) 16))
def dj (k s:List UInt32) (x:W4):W4:=wh k 0 (H4 (cf k s (wh k 4 x) 16))
def O3 (x:W4) (n:Nat):Bs:=((List.range n).map fun i=>s6 (bx x i)).flatten
theorem oT (x n):O3 x (n+1)=O3 x n++s6 (bx x n):=by simp[O3,Zn]
theorem fi (x):∀n,(O3 x n).length=4*n
 |0=>rfl
 |n+1=>by rw[oT,Zm,fi x n,H3];omega
theorem sP {x:W4} {i:Nat} (h:i<4):([u32 x.1,u32 x.2.1,u32 x.2.2.1,u32 x.2.2.2]:List V)[i]? =some (u32 (bx x i)):=by
 rcases i with _|_|_|_|i;all_goals first|rfl|omega
theorem ix {a b c d:Int} {x:W4} (h1:a=x.1.toNat) (h2:b=x.2.1.toNat) (h3:c=x.2.2.1.toNat) (h4:d=x.2.2.2.toNat):B.mx [vi .u32 a,vi .u32 b,vi .u32 c,vi .u32 d]=B.mx [u32 x.1,u32 x.2.1,u32 x.2.2.1,u32 x.2.2.2]:=by
 subst h1;subst h2;subst h3;subst h4;rfl
theorem OR {va:List Value} {b:Bs} {k s:List UInt32} (ha:va=bv b) (hb:b.length=16) (hk:k.length=40) (hs:s.length<=4):b9 C 83 [S6 k s,.z 16 va,bool false] [] (C6 16) [.sc (bv (O3 (dk k s (C8 b)) 4))]:=by
 subst ha;refine vJ.c ?_;refine m9 (fun i=>⟨[(0,S6 k s),(1,.z 16 (bv b)),(2,bool false),(8,.p (.k 0) 0),(22,i64 i)],[.sc (wv (dK b i))]⟩) 4 ⟨[.d 8 0],⟨rfl,rfl,rfl,rfl,rfl,tq⟩,⟨_,rfl,rfl⟩,tq⟩ fun i hi=> ?_;refine d9 (fun h=> ?_) (fun h=> ?_)
 ·have d8:i<4:=(by omega);have e1:(I6.wrap (4*(i:Int))).toNat=4*i:=(by simp(disch:=omega)only[Za];omega);have e2:(I6.wrap (4*I6.wrap ((i:Int)+1))).toNat=4*i+4:=(by simp(disch:=omega)only[Za];omega);refine⟨by omega,(by simp(disch:=omega)only[Za];omega),by rw[e1,e2];omega,Zc _,by rw[e2];omega,?_⟩;rw[e1,e2,show 4*i+4-4*i=4 by omega];refine⟨[],_,_,_,_,dz (l:=sub b (4*i) 4) (o6 _ _ _) (by rw[m5];omega) rfl,rfl,rfl,?_⟩;refine⟨by omega,by omega,by show 0+((i:Int)).toNat*1<4;omega,?_⟩;refine⟨i+1,by omega,by omega,[.k 0],⟨rfl,rfl,rfl,rfl,f8 (by simp(disch:=omega)only[Za];omega),tq⟩,⟨_,rfl,i6 ?_⟩,tq⟩;rw[Zb,Zd,Ze];show(wv (dK b i)).set i (.int .u32 (t5 (sub b (4*i) 4)).toNat)=_;rw[bB,ru b d8]
 obtain rfl:i=4:=(by omega);refine⟨_,rfl,rfl,?_⟩;refine⟨[],_,_,_,_,qh (x:=C8 b) (o:=0) hk (by decide),rfl,rfl,?_⟩;refine⟨Zc _,?_⟩;refine m9 (fun i=>⟨[(0,S6 k s),(8,.p (.k 0) 0),(87,i64 i)],[.mx [u32 (di k s (wh k 0 (C8 b)) i).1,u32 (di k s (wh k 0 (C8 b)) i).2.1,u32 (di k s (wh k 0 (C8 b)) i).2.2.1,u32 (di k s (wh k 0 (C8 b)) i).2.2.2]]⟩) 16 ⟨[.k 0],⟨rfl,rfl,rfl,tq⟩,⟨_,rfl,rfl⟩,tq⟩ fun i hi=> ?_;have hst:=EW k s (wh k 0 (C8 b)) i;generalize hx:di k s (wh k 0 (C8 b)) i=x at hst ⊢;refine d9 (fun h=> ?_) (fun h=> ?_)
 ·have d8:i<16:=(by omega);refine⟨by decide,by decide,_,rfl,by decide,by decide,_,rfl,?_⟩;refine⟨[],_,_,_,_,AA (r:=i) rfl rfl hk hs d8,rfl,rfl,?_⟩;refine⟨by decide,by decide,_,rfl,?_⟩;refine⟨[],_,_,_,_,bK (v:=x.2.2.1^^^oZ k s x.1 x.2.1 i) (k:=31) (C0 _ _) (by decide) (by decide),rfl,rfl,?_⟩;refine⟨by decide,by decide,_,rfl,?_⟩;refine⟨[],_,_,_,_,bK (k:=1) rfl (by decide) (by decide),rfl,rfl,?_⟩;refine⟨by decide,by decide,_,rfl,by decide,by decide,_,rfl,Zc _,?_⟩;refine⟨i+1,by omega,by omega,[.k 0],⟨rfl,rfl,f8 (by simp(disch:=omega)only[Za];omega),tq⟩,⟨_,rfl,?_⟩,tq⟩;rw[hst];exact ix rfl (C0 _ _) rfl rfl
 obtain rfl:i=16:=(by omega);refine⟨by decide,by decide,_,rfl,by decide,by decide,_,rfl,by decide,by decide,_,rfl,by decide,by decide,_,rfl,?_⟩;refine⟨[],_,_,_,_,qh (x:=H4 x) (o:=4) hk (by decide),rfl,rfl,?_⟩;refine⟨Zc _,by decide,by decide,by decide,?_⟩;refine⟨_,rfl,rfl,?_⟩;have hfx:wh k 4 (H4 x)=dk k s (C8 b):=by rw[<-hx];rfl
 rw[<-hfx];generalize hy:wh k 4 (H4 x)=y;refine m9 (fun i=>⟨[(16,.o 1 (.k 0) 0 (4*i)),(128,sN y),(129,i64 i)],[.sc (bv (O3 y i))]⟩) 4 ⟨[.d 127 0],⟨rfl,?_,rfl,tq⟩,⟨_,rfl,rfl⟩,tq⟩ fun i hi=> ?_
 ·rw[<-hy];rfl
 refine d9 (fun h=> ?_) (fun h=> ?_)
 ·have d8:i<4:=(by omega);refine⟨by omega,by omega,?_⟩;refine⟨_,by rw[Zb,Zd];exact sP d8,?_⟩;refine⟨[],_,_,_,_,kM rfl,rfl,rfl,?_⟩;have hpl:(s6 (bx y i)).length=4:=H3 _;refine⟨by rw[j6];exact Z3 hpl.symm,by omega,by rw[j6,fi];omega,?_⟩;refine⟨i+1,by omega,by omega,[.d 135 0],⟨rfl,rfl,f8 (by simp(disch:=omega)only[Za];omega),tq⟩,⟨_,rfl,i6 ?_⟩,tq⟩;show sub (bv (O3 y i)) 0 (4*i*1)++sub (bv (s6 (bx y i))) 0 4=_;rw[Zd,g8 (fi y i),g8 hpl,B7,oT]
 ·obtain rfl:i=4:=(by omega);exact⟨_,rfl,[.k 0],rfl,⟨_,rfl,rfl⟩,tq⟩
theorem OQ {va:List Value} {b:Bs} {k s:List UInt32} (ha:va=bv b) (hb:b.length=16) (hk:k.length=40) (hs:s.length<=4):b9 C 83 [S6 k s,.z 16 va,bool true] [] (C6 16) [.sc (bv (O3 (dj k s (C8 b)) 4))]:=by
 subst ha;refine vJ.c ?_;refine m9 (fun i=>⟨[(0,S6 k s),(1,.z 16 (bv b)),(2,bool true),(8,.p (.k 0) 0),(22,i64 i)],[.sc (wv (dK b i))]⟩) 4 ⟨[.d 8 0],⟨rfl,rfl,rfl,rfl,rfl,tq⟩,⟨_,rfl,rfl⟩,tq⟩ fun i hi=> ?_;refine d9 (fun h=> ?_) (fun h=> ?_)
 ·have d8:i<4:=(by omega);have e1:(I6.wrap (4*(i:Int))).toNat=4*i:=(by simp(disch:=omega)only[Za];omega);have e2:(I6.wrap (4*I6.wrap ((i:Int)+1))).toNat=4*i+4:=(by simp(disch:=omega)only[Za];omega);refine⟨by omega,(by simp(disch:=omega)only[Za];omega),by rw[e1,e2];omega,Zc _,by rw[e2];omega,?_⟩;rw[e1,e2,show 4*i+4-4*i=4 by omega];refine⟨[],_,_,_,_,dz (l:=sub b (4*i) 4) (o6 _ _ _) (by rw[m5];omega) rfl,rfl,rfl,?_⟩;refine⟨by omega,by omega,by show 0+((i:Int)).toNat*1<4;omega,?_⟩;refine⟨i+1,by omega,by omega,[.k 0],⟨rfl,rfl,rfl,rfl,f8 (by simp(disch:=omega)only[Za];omega),tq⟩,⟨_,rfl,i6 ?_⟩,tq⟩;rw[Zb,Zd,Ze];show(wv (dK b i)).set i (.int .u32 (t5 (sub b (4*i) 4)).toNat)=_;rw[bB,ru b d8]
 obtain rfl:i=4:=(by omega);refine⟨_,rfl,rfl,?_⟩;refine⟨[],_,_,_,_,qh (x:=C8 b) (o:=4) hk (by decide),rfl,rfl,?_⟩;refine⟨Zc _,?_⟩;refine m9 (fun i=>⟨[(0,S6 k s),(8,.p (.k 0) 0),(10,i64 (15-i))],[.mx [u32 (cf k s (wh k 4 (C8 b)) i).1,u32 (cf k s (wh k 4 (C8 b)) i).2.1,u32 (cf k s (wh k 4 (C8 b)) i).2.2.1,u32 (cf k s (wh k 4 (C8 b)) i).2.2.2]]⟩) 16 ⟨[.k 0],⟨rfl,rfl,rfl,tq⟩,⟨_,rfl,rfl⟩,tq⟩ fun i hi=> ?_;have hst:=EV k s (wh k 4 (C8 b)) i;generalize hx:cf k s (wh k 4 (C8 b)) i=x at hst ⊢;refine d9 (fun h=> ?_) (fun h=> ?_)
 ·obtain⟨r,er,hr15,hri⟩:∃r:Nat,(15:Int)-i=r/\r<=15/\r=15-i:=⟨15-i,by omega,by omega,rfl⟩;rw[<-hri]at hst;rw[er];refine⟨by decide,by decide,_,rfl,by decide,by decide,_,rfl,?_⟩;refine⟨[],_,_,_,_,AA (r:=r) rfl rfl hk hs (by omega),rfl,rfl,?_⟩;refine⟨by decide,by decide,_,rfl,?_⟩;refine⟨[],_,_,_,_,bK (k:=1) rfl (by decide) (by decide),rfl,rfl,?_⟩;refine⟨by decide,by decide,_,rfl,?_⟩;refine⟨[],_,_,_,_,bK (v:=x.2.2.2^^^pa k s x.1 x.2.1 r) (k:=31) (C0 _ _) (by decide) (by decide),rfl,rfl,?_⟩;refine⟨by decide,by decide,_,rfl,by decide,by decide,_,rfl,Zc _,?_⟩;refine⟨i+1,by omega,by omega,[.k 0],⟨rfl,rfl,f8 ?_,tq⟩,⟨_,rfl,?_⟩,tq⟩
  ·rw[Za _ (by omega)];omega
  rw[hst];exact ix (C0 _ _) rfl rfl rfl
 obtain rfl:i=16:=(by omega);refine⟨by decide,by decide,_,rfl,by decide,by decide,_,rfl,by decide,by decide,_,rfl,by decide,by decide,_,rfl,Zc _,?_⟩;refine⟨_,rfl,rfl,?_⟩;refine⟨[],_,_,_,_,qh (x:=H4 x) (o:=0) hk (by decide),rfl,rfl,?_⟩;refine⟨Zc _,by decide,by decide,by decide,?_⟩;refine⟨_,rfl,rfl,?_⟩;have hfx:wh k 0 (H4 x)=dj k s (C8 b):=by rw[<-hx];rfl
 rw[<-hfx];generalize hy:wh k 0 (H4 x)=y;refine m9 (fun i=>⟨[(16,.o 1 (.k 0) 0 (4*i)),(128,sN y),(129,i64 i)],[.sc (bv (O3 y i))]⟩) 4 ⟨[.d 127 0],⟨rfl,?_,rfl,tq⟩,⟨_,rfl,rfl⟩,tq⟩ fun i hi=> ?_
 ·rw[<-hy];rfl
 refine d9 (fun h=> ?_) (fun h=> ?_)
 ·have d8:i<4:=(by omega);refine⟨by omega,by omega,?_⟩;refine⟨_,by rw[Zb,Zd];exact sP d8,?_⟩;refine⟨[],_,_,_,_,kM rfl,rfl,rfl,?_⟩;have hpl:(s6 (bx y i)).length=4:=H3 _;refine⟨by rw[j6];exact Z3 hpl.symm,by omega,by rw[j6,fi];omega,?_⟩;refine⟨i+1,by omega,by omega,[.d 135 0],⟨rfl,rfl,f8 (by simp(disch:=omega)only[Za];omega),tq⟩,⟨_,rfl,i6 ?_⟩,tq⟩;show sub (bv (O3 y i)) 0 (4*i*1)++sub (bv (s6 (bx y i))) 0 4=_;rw[Zd,g8 (fi y i),g8 hpl,B7,oT]
 ·obtain rfl:i=4:=(by omega);exact⟨_,rfl,[.k 0],rfl,⟨_,rfl,rfl⟩,tq⟩
theorem OP {va:List Value} {k s:List UInt32} {n:Nat} {back:Bool} (hn:n≠16):b9 C 83 [S6 k s,.z n va,bool back] [] V5 []:=by
 refine vJ.c ?_;refine p6 (fun h=> ?_) (fun h=>absurd (by omega) hn);exact⟨_,rfl,[],rfl,tq⟩
abbrev Q5 (l:Bs):Value:= .string ⟨l.toArray⟩
theorem NR {w:Nat} (hw:w<2):b9 C 274 [i64 w] [] (.ret (.o 1 (.k 0) 0 4)) [.sc [Q5 (G1 w 0),Q5 (G1 w 1),Q5 (G1 w 2),Q5 (G1 w 3)]]:=by
 rcases w with _|_|w
 ·exact BM.c ⟨_,rfl,[.d 5 0],rfl,⟨_,rfl,rfl⟩,tq⟩
 ·exact BM.c ⟨_,rfl,[.d 6 0],rfl,⟨_,rfl,rfl⟩,tq⟩
 ·omega
theorem ZB:∀a,a<16->∀c,c<16->I6.wrap ((Zh I6.bits ((a:Nat):Int)^^^Zh I6.bits ((c:Nat):Int)).toNat:Int)=((a^^^c:Nat):Int):=by decide +kernel
theorem ZC:∀a,a<16->∀c,c<16->I6.wrap ((Zh I6.bits (I6.wrap ((Zh I6.bits ((a:Nat):Int)^^^Zh I6.bits (I6.wrap ((Zh I6.bits (((c:Nat):Int).fdiv (2^(min (1:Int).toNat I6.bits)))|||Zh I6.bits (I6.wrap ((Zh I6.bits (I6.wrap (((c:Nat):Int)*2^(min (3:Int).toNat I6.bits)))&&&Zh I6.bits 8).toNat:Int))).toNat:Int))).toNat:Int))^^^Zh I6.bits ((I6.wrap (8*((a:Nat):Int))).tmod 16)).toNat:Int)=((qf a c:Nat):Int):=by decide +kernel
theorem ZD:∀a,a<16->∀c,c<16->U8.wrap (I6.wrap (I6.wrap (16*((c:Nat):Int))+((a:Nat):Int)))=(((Zp (16*c+a)).toNat:Nat):Int):=by decide +kernel
theorem ZE:∀x:Nat,x<256->I6.wrap (((x:Nat):Int).fdiv (2^(min (4:Int).toNat U8.bits)))=((x/16:Nat):Int)/\I6.wrap (U8.wrap ((Zh U8.bits ((x:Nat):Int)&&&Zh U8.bits 15).toNat:Int))=((x%16:Nat):Int):=by decide +kernel
theorem EC {w i:Nat} (hi:i<4):([Q5 (G1 w 0),Q5 (G1 w 1),Q5 (G1 w 2),Q5 (G1 w 3)]:List Value)[i]? =some (Q5 (G1 w i)):=by
 rcases i with _|_|_|_|i;all_goals first|rfl|omega
theorem NL {w:Nat} {z:Int} {x:UInt8} (hw:w<2) (hz:z=x.toNat):b9 C 263 [i64 w,vi .u8 z] [] (.ret (u8 (tQ w x))) []:=by
 subst hz;have hx:=x.toNat_lt;refine UV.c ?_;refine⟨[],_,_,_,_,NR hw,rfl,rfl,?_⟩;refine⟨by decide,?_⟩;obtain⟨x1,x2⟩:=ZE x.toNat hx;refine m9 (fun i=>⟨[(5,.z 4 [Q5 (G1 w 0),Q5 (G1 w 1),Q5 (G1 w 2),Q5 (G1 w 3)]),(6,i64 ((aK w x i).1:Nat)),(7,i64 ((aK w x i).2:Nat)),(8,i64 i)],[]⟩) 2 ⟨[],⟨rfl,f8 x1,f8 x2,rfl,tq⟩,tq⟩ fun i hi=> ?_;obtain⟨s1,s2⟩:=wP hw x i hi;have hsi:aK w x (i+1)=qS w i (aK w x i):=rfl;generalize hp:aK w x i=p at s1 s2 hsi ⊢;refine d9 (fun h=> ?_) (fun h=> ?_)
 ·have d8:i<2:=(by omega);obtain⟨f1,f2⟩:=wQ p.1 s1 p.2 s2;obtain⟨r1,r2⟩:=mC w hw (2*i) (by omega);obtain⟨r3,r4⟩:=mC w hw (2*i+1) (by omega);have ee:=ZB p.1 s1 p.2 s2;have ef:=ZC p.1 s1 p.2 s2;have e0:(I6.wrap (2*(i:Int))).toNat=2*i:=(by simp(disch:=omega)only[Za];omega);have e1:(I6.wrap (I6.wrap (2*(i:Int))+1)).toNat=2*i+1:=(by simp(disch:=omega)only[Za];omega);refine⟨by decide,by decide,by decide,?_⟩;refine⟨(by simp(disch:=omega)only[Za];omega),by omega,?_⟩;refine⟨_,by rw[e0];exact EC (by omega),?_⟩;refine⟨[],_,_,_,_,pJ (l:=G1 w (2*i)) rfl ee (by rw[r1];exact f2) (r2 _ f2),rfl,rfl,?_⟩;refine⟨by omega,by omega,?_⟩;refine⟨_,by rw[e1];exact EC (by omega),?_⟩;refine⟨[],_,_,_,_,pJ (l:=G1 w (2*i+1)) rfl ef (by rw[r3];exact f1) (r4 _ f1),rfl,rfl,?_⟩;refine⟨i+1,by omega,by omega,[],⟨rfl,?_,?_,f8 (by simp(disch:=omega)only[Za];omega),tq⟩,tq⟩
  ·rw[hsi];rfl
  ·rw[hsi];rfl
 ·obtain rfl:i=2:=(by omega);refine⟨_,rfl,[],congrArg (vi .u8) ?_,tq⟩;rw[tQ,hp];exact ZD p.1 s1 p.2 s2
abbrev nr (y:Bs):V:= .a [u8 (y.getD 0 0),u8 (y.getD 1 0),u8 (y.getD 2 0),u8 (y.getD 3 0)]
abbrev gJ (y:Bs):B:= .mx [u8 (y.getD 0 0),u8 (y.getD 1 0),u8 (y.getD 2 0),u8 (y.getD 3 0)]
theorem nu {y:Bs} {i:Nat} (h:i<4):([u8 (y.getD 0 0),u8 (y.getD 1 0),u8 (y.getD 2 0),u8 (y.getD 3 0)]:List V)[i]? =some (u8 (y.getD i 0)):=O5 (f:=fun i=>u8 (y.getD i 0)) rfl rfl rfl rfl h
theorem yT {y:Bs} {i:Nat} (hy:y.length=4) (h:i<4) (x:UInt8):([u8 (y.getD 0 0),u8 (y.getD 1 0),u8 (y.getD 2 0),u8 (y.getD 3 0)]:List V).set i (u8 x)=[u8 ((y.set i x).getD 0 0),u8 ((y.set i x).getD 1 0),u8 ((y.set i x).getD 2 0),u8 ((y.set i x).getD 3 0)]:=by
 match y,hy with
 |[a,b,c,d],_=>
  rcases i with _|_|_|_|i;all_goals first|rfl|omega
theorem a1I {o y i} (h:i<4):(cZ o y i).getD i 0=y.getD i 0:=by
 rw[List.getD_eq_getElem?_getD,EO h];rfl
theorem cC {a b c d:Nat} {y:Bs} (hy:y.length=4) (h0:a<2) (h1:b<2) (h2:c<2) (h3:d<2):b9 C 224 [nr y,.a [i64 a,i64 b,i64 c,i64 d]] [] (.ret (nr (S4 [a,b,c,d] y))) []:=by
 have ho:∀i,i<4->([a,b,c,d].getD i 0)<2:=by
  intro i hi;rcases i with _|_|_|_|i
  ·exact h0
  ·exact h1
  ·exact h2
  ·exact h3
  ·omega
 have hg:∀i,i<4->([i64 a,i64 b,i64 c,i64 d]:List V)[i]? =some (i64 ([a,b,c,d].getD i 0:Nat)):=fun i hi=>O5 (f:=fun i=>i64 ([a,b,c,d].getD i 0:Nat)) rfl rfl rfl rfl hi;refine UY.c ?_;refine m9 (fun i=>⟨[(2,.p (.k 0) 0),(3,.p (.k 1) 0),(4,.p (.k 2) 0),(5,i64 i)],[gJ (cZ [a,b,c,d] y i),.mx [i64 a,i64 b,i64 c,i64 d],.sc [.int .u8 0,.int .u8 0,.int .u8 0,.int .u8 0]]⟩) 4 ⟨[.d 2 0,.d 3 0,.d 4 0],⟨rfl,rfl,rfl,rfl,tq⟩,⟨_,rfl,rfl⟩,⟨_,rfl,rfl⟩,⟨_,rfl,rfl⟩,tq⟩ fun i hi=> ?_;refine d9 (fun h=> ?_) (fun h=> ?_)
 ·have d8:i<4:=(by omega);refine⟨by omega,by omega,?_⟩;refine⟨_,by rw[Zb,Zd,Ze];exact hg i d8,?_⟩;refine⟨by omega,by omega,?_⟩;refine⟨_,by rw[Zb,Zd,Ze];exact nu d8,?_⟩;refine⟨[],_,_,_,_,NL (ho i d8) rfl,rfl,rfl,?_⟩;refine⟨by omega,by omega,by show 0+((i:Int)).toNat*1+1<=4;omega,?_⟩;refine⟨i+1,by omega,by omega,[.k 0,.k 1,.k 2],⟨rfl,rfl,rfl,f8 (by simp(disch:=omega)only[Za];omega),tq⟩,⟨_,rfl,?_⟩,⟨_,rfl,rfl⟩,⟨_,rfl,rfl⟩,tq⟩;rw[a1I d8];have:=yT (sA [a,b,c,d] y i) d8 (tQ ([a,b,c,d].getD i 0) (y.getD i 0));rw[EP d8]at this;refine Eq.trans ?_ (congrArg B.mx this);clear this hg ho;rcases i with _|_|_|_|i;all_goals first|rfl|omega
 ·obtain rfl:i=4:=(by omega);refine⟨_,rfl,rfl,Zc _,_,rfl,rfl,?_⟩;exact⟨_,rfl,[],rfl,tq⟩
def iI (y:Bs) (l:UInt32) (i:Nat):Bs:=(List.range 4).map fun p=>if p<i then y.getD p 0^^^(s6 l).getD p 0 else y.getD p 0
theorem Yy (y l i):(iI y l i).length=4:=by simp[iI]
theorem Yx {y l i} (h:i<4):(iI y l i).getD i 0=y.getD i 0:=by
 rcases i with _|_|_|_|i;all_goals first|rfl|omega
theorem Yz {y l i} (h:i<4):(iI y l i).set i (y.getD i 0^^^(s6 l).getD i 0)=iI y l (i+1):=by
 rcases i with _|_|_|_|i;all_goals first|rfl|omega
theorem Yw {y l} (hy:y.length=4):iI y l 4=j9 y (s6 l):=by
 match y,hy with
 |[a,b,c,d],_=>rfl
theorem rL {a b c d a' b' c' d':V} (h1:a=a') (h2:b=b') (h3:c=c') (h4:d=d'):B.mx [a,b,c,d]=B.mx [a',b',c',d']:=by
 subst h1;subst h2;subst h3;subst h4;rfl
theorem Yi (l:UInt32) {i:Nat} (h:i<4):U8.wrap ((l.toNat:Int).fdiv (2^(min (IntKind.u64.wrap (I6.wrap (8*(i:Int)))).toNat U3.bits)))=(((s6 l).getD i 0).toNat:Int):=by
 have hl:=l.toNat_lt;rcases i with _|_|_|_|i
 ·show U8.wrap ((l.toNat:Int).fdiv (2^0))=((l.toUInt64.toUInt8).toNat:Int);simp[Zs,wrap_u8];try omega
 ·show U8.wrap ((l.toNat:Int).fdiv (2^8))=(((l.toUInt64>>>8).toUInt8).toNat:Int);simp[Zs,wrap_u8,Zx];try omega
 ·show U8.wrap ((l.toNat:Int).fdiv (2^16))=(((l.toUInt64>>>8>>>8).toUInt8).toNat:Int);simp[Zs,wrap_u8,Zx];try omega
 ·show U8.wrap ((l.toNat:Int).fdiv (2^24))=(((l.toUInt64>>>8>>>8>>>8).toUInt8).toNat:Int);simp[Zs,wrap_u8,Zx];try omega
 ·omega
theorem eG {y:Bs} {z:Int} {l:UInt32} (hy:y.length=4) (hz:z=l.toNat):b9 C 223 [nr y,vi .u32 z] [] (.ret (nr (j9 y (s6 l)))) []:=by
 subst hz;refine UX.c ?_;refine m9 (fun i=>⟨[(1,u32 l),(2,.p (.k 0) 0),(4,.p (.k 1) 0),(5,i64 i)],[gJ (iI y l i),.sc [.int .u8 0,.int .u8 0,.int .u8 0,.int .u8 0]]⟩) 4 ⟨[.d 2 0,.d 4 0],⟨rfl,rfl,rfl,rfl,tq⟩,⟨_,rfl,rfl⟩,⟨_,rfl,rfl⟩,tq⟩ fun i hi=> ?_;refine d9 (fun h=> ?_) (fun h=> ?_)
 ·have d8:i<4:=(by omega);refine⟨by omega,by omega,?_⟩;refine⟨_,by rw[Zb,Zd,Ze];exact nu d8,?_⟩;refine⟨by simp only[IntKind.wrap_i64,G3];omega,by omega,by omega,by show 0+((i:Int)).toNat*1+1<=4;omega,?_⟩;refine⟨i+1,by omega,by omega,[.k 0,.k 1],⟨rfl,rfl,rfl,f8 (by simp(disch:=omega)only[Za];omega),tq⟩,⟨_,rfl,?_⟩,⟨_,rfl,rfl⟩,tq⟩;rw[Yx d8];have:=yT (Yy y l i) d8 (y.getD i 0^^^(s6 l).getD i 0);rw[Yz d8]at this;refine Eq.trans ?_ (congrArg B.mx this);clear this;have hv:vi .u8 (U8.wrap ((Zh U8.bits ((y.getD i 0).toNat:Int)^^^Zh U8.bits (U8.wrap ((l.toNat:Int).fdiv (2^(min (IntKind.u64.wrap (I6.wrap (8*(i:Int)))).toNat U3.bits))))).toNat:Int))=u8 (y.getD i 0^^^(s6 l).getD i 0):=by
   rw[Yi l d8];exact congrArg (vi .u8) (o5 _ _)
  rcases i with _|_|_|_|i
  ·exact rL hv rfl rfl rfl
  ·exact rL rfl hv rfl rfl
  ·exact rL rfl rfl hv rfl
  ·exact rL rfl rfl rfl hv
  ·omega
 ·obtain rfl:i=4:=(by omega);refine⟨_,rfl,rfl,Zc _,_,rfl,rfl,?_⟩;refine⟨_,rfl,[],?_,tq⟩;show nr (iI y l 4)=_;rw[Yw hy]
def zA (f:Nat->Nat->UInt8) (K:Nat):Nat->UInt32
 |0=>0
 |i+1=>zA f K i^^^((f i K).toUInt32<<<Zk (8*i))
def zP (f:Nat->Nat->UInt8) (K i k:Nat):UInt32:=zA f K i^^^((f i k).toUInt32<<<Zk (8*i))
theorem sX {f K i} (h:f i 0=0):zP f K i 0=zA f K i:=by
 unfold zP;rw[h];simp
theorem a3q (a b s:UInt32):(a^^^b)<<<s=(a<<<s)^^^(b<<<s):=by
 apply Z1;simp[BitVec.shiftLeft_xor_distrib]
theorem sW {f K i k x} (h:f i (k+1)=f i k^^^x):zP f K i (k+1)=zP f K i k^^^(x.toUInt32<<<Zk (8*i)):=by
 unfold zP;rw[h,UInt8.toUInt32_xor,a3q,UInt32.xor_assoc]
theorem WQ (a b c d:UInt8):t5 [a,b,c,d]=((a.toUInt32^^^b.toUInt32<<<8)^^^c.toUInt32<<<16)^^^d.toUInt32<<<24:=by
 apply Z1;apply BitVec.eq_of_getLsbD_eq;intro j hj;have z:∀(x:UInt8) (k:Nat),8<=k->x.toBitVec.getLsbD k=false:=fun x k h=>BitVec.getLsbD_of_ge _ _ h;simp[t5,P7,BitVec.getLsbD_setWidth,BitVec.getLsbD_shiftLeft];have hz:∀(x:UInt8) (k:Nat),(decide (k<64)&&x.toBitVec.getLsbD k)=x.toBitVec.getLsbD k:=by
  intro x k;by_cases h:k<64
  ·simp[h]
  ·simp[h,z x k (by omega)]
 by_cases h1:j<8
 ·simp[h1,show j<16 by omega,show j<24 by omega,show j<64 by omega,hj]
 ·by_cases h2:j<16
  ·simp[h1,h2,show j<24 by omega,show j<64 by omega,hj,z a j (by omega),show j-8<8 by omega,show j-8<64 by omega]
  ·by_cases h3:j<24
   ·simp[h1,h2,h3,show j<64 by omega,hj,z a j (by omega),z b (j-8) (by omega),show ¬j-8<8 by omega,show j-8-8<8 by omega,show j-8-8<64 by omega,show j-8<64 by omega,show j-8-8=j-16 by omega,show j-16<8 by omega]
    intros;omega
   ·simp[h1,h2,h3,show j<64 by omega,hj,z a j (by omega),z b (j-8) (by omega),z c (j-16) (by omega),show ¬j-8<8 by omega,show ¬j-16<8 by omega,show j-8<64 by omega,show j-8-8=j-16 by omega,show j-16<64 by omega,show j-16-8=j-24 by omega,show j-24<64 by omega,show j-8<32 by omega,show j-16<32 by omega,show j-24<32 by omega]
theorem sV {f K}:t5 (U2 f K 4 0)=zA f K 4:=by
 show t5 [f 0 K,f 1 K,f 2 K,f 3 K]=_;rw[WQ];simp[zA]
theorem Qm:∀i,i<4->∀k,k<8->([u8 1,u8 164,u8 85,u8 135,u8 90,u8 88,u8 219,u8 158,u8 164,u8 86,u8 130,u8 243,u8 30,u8 198,u8 104,u8 229,u8 2,u8 161,u8 252,u8 193,u8 71,u8 174,u8 61,u8 25,u8 164,u8 85,u8 135,u8 90,u8 88,u8 219,u8 158,u8 3]:List V)[i*8+k]? =some (u8 ((fR i).getD k 0)):=by
 intro i hi k hk;rcases i with _|_|_|_|i;all_goals first|omega|(rcases k with _|_|_|_|_|_|_|_|k<;>first|rfl|omega)
theorem wq:∀i,i<4->∀k,k<4->([u8 1,u8 239,u8 91,u8 91,u8 91,u8 239,u8 239,u8 1,u8 239,u8 91,u8 1,u8 239,u8 239,u8 1,u8 239,u8 91]:List V)[i*4+k]? =some (u8 ((N3 i).getD k 0)):=by
 intro i hi k hk;rcases i with _|_|_|_|i;all_goals first|omega|(rcases k with _|_|_|_|k<;>first|rfl|omega)
theorem sY {z x:UInt32} {b:UInt8} {i:Nat} (hi:i<4):U3.wrap ((Zh U3.bits (z.toNat:Int)^^^Zh U3.bits (U3.wrap (U3.wrap (b.toNat:Int)*2^(min (IntKind.u64.wrap (I6.wrap (8*(i:Int)))).toNat U3.bits)))).toNat:Int)=((z^^^(b.toUInt32<<<Zk (8*i))).toNat:Int):=by
 have e:IntKind.u64.wrap (I6.wrap (8*(i:Int)))=((8*i:Nat):Int):=by simp only[IntKind.wrap_i64,G3];omega
 rw[e,a3w,mY _ _ (by omega) (by omega),Zb,C0]
theorem uC {va:List Value} {m:Bs} (ha:va=bv m) (hm:m.length=8):b9 C 167 [.z 8 va] [] (.ret (u32 (gZ m))) []:=by
 subst ha;have hm0:∀p,K7 333 fR m p 0=0:=fun _=>rfl;refine UZ.c ?_;refine⟨Zc _,?_⟩;refine m9 (fun i=>⟨[(0,.z 8 (bv m)),(3,.p (.k 0) 0),(4,u32 (zA (K7 333 fR m) 8 i)),(5,i64 i)],[.mx [u8 1,u8 164,u8 85,u8 135,u8 90,u8 88,u8 219,u8 158,u8 164,u8 86,u8 130,u8 243,u8 30,u8 198,u8 104,u8 229,u8 2,u8 161,u8 252,u8 193,u8 71,u8 174,u8 61,u8 25,u8 164,u8 85,u8 135,u8 90,u8 88,u8 219,u8 158,u8 3]]⟩) 4 ⟨[.d 3 0],⟨rfl,rfl,rfl,rfl,tq⟩,⟨_,rfl,rfl⟩,tq⟩ fun i hi=> ?_;refine d9 (fun h=> ?_) (fun h=> ?_)
 ·have d8:i<4:=(by omega);refine m9 (fun k=>⟨[(0,.z 8 (bv m)),(3,.p (.k 0) 0),(4,u32 (zP (K7 333 fR m) 8 i k)),(5,i64 i),(6,i64 k)],[.mx [u8 1,u8 164,u8 85,u8 135,u8 90,u8 88,u8 219,u8 158,u8 164,u8 86,u8 130,u8 243,u8 30,u8 198,u8 104,u8 229,u8 2,u8 161,u8 252,u8 193,u8 71,u8 174,u8 61,u8 25,u8 164,u8 85,u8 135,u8 90,u8 88,u8 219,u8 158,u8 3]]⟩) 8 ⟨[.k 0],⟨rfl,rfl,congrArg u32 (sX (hm0 i)).symm,rfl,rfl,tq⟩,⟨_,rfl,rfl⟩,tq⟩ fun k hk=> ?_;refine d9 (fun h=> ?_) (fun h=> ?_)
  ·have hkl:k<8:=(by omega);refine⟨by omega,by omega,by omega,by omega,?_⟩;refine⟨_,by simp only[Zb,Zd,Ze];exact Qm i d8 k hkl,?_⟩;refine⟨by omega,by omega,?_⟩;refine⟨_,by rw[Zb];exact p9 (by omega),?_⟩;refine⟨[],_,_,_,_,jr (m:=333) rfl rfl (by decide) (by decide),rfl,rfl,?_⟩;refine⟨by simp only[IntKind.wrap_i64,G3];omega,?_⟩;refine⟨k+1,by omega,by omega,[.k 0],⟨rfl,rfl,?_,rfl,f8 (by simp(disch:=omega)only[Za];omega),tq⟩,⟨_,rfl,rfl⟩,tq⟩;rw[sW (mg _ _ _ _ _)];exact congrArg (vi .u32) (sY (x:=0) d8)
  ·obtain rfl:k=8:=(by omega);exact⟨i+1,by omega,by omega,[.k 0],⟨rfl,rfl,rfl,f8 (by simp(disch:=omega)only[Za];omega),tq⟩,⟨_,rfl,rfl⟩,tq⟩
 ·obtain rfl:i=4:=(by omega);refine⟨_,rfl,[],?_,tq⟩;show u32 (zA (K7 333 fR m) 8 4)=_;rw[gZ,sV]
theorem gL {z:Int} {x:UInt32} {n:Nat} {va:List Value} {l:List UInt32} (hz:z=x.toNat) (ha:va=wv l) (hl:l.length=n) (h4:2<=n/\n<=4):b9 C 168 [vi .u32 z,.z n va] [] (.ret (u32 (tH x l))) []:=by
 subst hz;subst ha;generalize hst:S4 (I5 0) (hG x l l.length l.length)=s;have hm0:∀p,K7 361 N3 s p 0=0:=fun _=>rfl;have hz0:j9 [0,0,0,0] (s6 x)=hG x l n 0:=by
  show List.zipWith _ _ _=s6 x
  match hp:s6 x,H3 x with
  |[a,b,c,d],_=>simp
 refine US.c ?_;refine⟨[],_,_,_,_,eG (y:=[0,0,0,0]) (l:=x) rfl rfl,rfl,rfl,?_⟩;rw[hz0];refine⟨Zc _,?_⟩;rcases n with _|_|_|_|_|n
 ·omega
 ·omega
 ·refine⟨_,rfl,rfl,?_⟩;refine⟨[],_,_,_,_,cC (y:=hG x l 2 0) (bO _ _ _ _) (by decide) (by decide) (by decide) (by decide),rfl,rfl,?_⟩;refine⟨by decide,by decide,?_⟩;refine⟨_,t4 (i:=1) (by omega),?_⟩;refine⟨[],_,_,_,_,eG (y:=S4 (I5 2) (hG x l 2 0)) (da _ _) rfl,rfl,rfl,?_⟩;refine⟨Zc _,?_⟩;refine⟨_,rfl,rfl,?_⟩;refine⟨[],_,_,_,_,cC (y:=hG x l 2 1) (bO _ _ _ _) (by decide) (by decide) (by decide) (by decide),rfl,rfl,?_⟩;refine⟨by decide,by decide,?_⟩;refine⟨_,t4 (i:=0) (by omega),?_⟩;refine⟨[],_,_,_,_,eG (y:=S4 (I5 1) (hG x l 2 1)) (da _ _) rfl,rfl,rfl,?_⟩;refine⟨Zc _,?_⟩;refine⟨_,rfl,rfl,?_⟩;refine⟨[],_,_,_,_,cC (y:=hG x l 2 2) (bO _ _ _ _) (by decide) (by decide) (by decide) (by decide),rfl,rfl,?_⟩;refine⟨Zc _,Zc _,?_⟩;have hss:S4 [1,0,1,0] (hG x l 2 2)=s:=by rw[<-hst,hl];rfl
  rw[hss];refine m9 (fun i=>⟨[(5,.p (.k 0) 0),(6,.p (.k 1) 0),(7,u32 (zA (K7 361 N3 s) 4 i)),(8,i64 i)],[gJ s,.mx [u8 1,u8 239,u8 91,u8 91,u8 91,u8 239,u8 239,u8 1,u8 239,u8 91,u8 1,u8 239,u8 239,u8 1,u8 239,u8 91]]⟩) 4 ⟨[.d 5 0,.d 6 0],⟨rfl,rfl,rfl,rfl,tq⟩,⟨_,rfl,rfl⟩,⟨_,rfl,rfl⟩,tq⟩ fun i hi=> ?_;refine d9 (fun h=> ?_) (fun h=> ?_)
  ·have d8:i<4:=(by omega);refine m9 (fun k=>⟨[(5,.p (.k 0) 0),(6,.p (.k 1) 0),(7,u32 (zP (K7 361 N3 s) 4 i k)),(8,i64 i),(9,i64 k)],[gJ s,.mx [u8 1,u8 239,u8 91,u8 91,u8 91,u8 239,u8 239,u8 1,u8 239,u8 91,u8 1,u8 239,u8 239,u8 1,u8 239,u8 91]]⟩) 4 ⟨[.k 0,.k 1],⟨rfl,rfl,congrArg u32 (sX (hm0 i)).symm,rfl,rfl,tq⟩,⟨_,rfl,rfl⟩,⟨_,rfl,rfl⟩,tq⟩ fun k hk=> ?_;refine d9 (fun h=> ?_) (fun h=> ?_)
   ·have hkl:k<4:=(by omega);refine⟨by omega,by omega,by omega,by omega,?_⟩;refine⟨_,by simp only[Zb,Zd,Ze];exact wq i d8 k hkl,?_⟩;refine⟨by omega,by omega,?_⟩;refine⟨_,by simp only[Zb,Zd,Ze];exact nu hkl,?_⟩;refine⟨[],_,_,_,_,jr (m:=361) rfl rfl (by decide) (by decide),rfl,rfl,?_⟩;refine⟨by simp only[IntKind.wrap_i64,G3];omega,?_⟩;refine⟨k+1,by omega,by omega,[.k 0,.k 1],⟨rfl,rfl,?_,rfl,f8 (by simp(disch:=omega)only[Za];omega),tq⟩,⟨_,rfl,rfl⟩,⟨_,rfl,rfl⟩,tq⟩;rw[sW (mg _ _ _ _ _)];exact congrArg (vi .u32) (sY (x:=0) d8)
   ·obtain rfl:k=4:=(by omega);exact⟨i+1,by omega,by omega,[.k 0,.k 1],⟨rfl,rfl,rfl,f8 (by simp(disch:=omega)only[Za];omega),tq⟩,⟨_,rfl,rfl⟩,⟨_,rfl,rfl⟩,tq⟩
  ·obtain rfl:i=4:=(by omega);refine⟨_,rfl,[],?_,tq⟩;show u32 (zA (K7 361 N3 s) 4 4)=_;rw[tH,hst,sV]
 ·refine⟨_,rfl,rfl,?_⟩;refine⟨[],_,_,_,_,cC (y:=hG x l 3 0) (bO _ _ _ _) (by decide) (by decide) (by decide) (by decide),rfl,rfl,?_⟩;refine⟨by decide,by decide,?_⟩;refine⟨_,t4 (i:=2) (by omega),?_⟩;refine⟨[],_,_,_,_,eG (y:=S4 (I5 3) (hG x l 3 0)) (da _ _) rfl,rfl,rfl,?_⟩;refine⟨Zc _,?_⟩;refine⟨_,rfl,rfl,?_⟩;refine⟨[],_,_,_,_,cC (y:=hG x l 3 1) (bO _ _ _ _) (by decide) (by decide) (by decide) (by decide),rfl,rfl,?_⟩;refine⟨by decide,by decide,?_⟩;refine⟨_,t4 (i:=1) (by omega),?_⟩;refine⟨[],_,_,_,_,eG (y:=S4 (I5 2) (hG x l 3 1)) (da _ _) rfl,rfl,rfl,?_⟩;refine⟨Zc _,?_⟩;refine⟨_,rfl,rfl,?_⟩;refine⟨[],_,_,_,_,cC (y:=hG x l 3 2) (bO _ _ _ _) (by decide) (by decide) (by decide) (by decide),rfl,rfl,?_⟩;refine⟨by decide,by decide,?_⟩;refine⟨_,t4 (i:=0) (by omega),?_⟩;refine⟨[],_,_,_,_,eG (y:=S4 (I5 1) (hG x l 3 2)) (da _ _) rfl,rfl,rfl,?_⟩;refine⟨Zc _,?_⟩;refine⟨_,rfl,rfl,?_⟩;refine⟨[],_,_,_,_,cC (y:=hG x l 3 3) (bO _ _ _ _) (by decide) (by decide) (by decide) (by decide),rfl,rfl,?_⟩;refine⟨Zc _,Zc _,?_⟩;have hss:S4 [1,0,1,0] (hG x l 3 3)=s:=by rw[<-hst,hl];rfl
  rw[hss];refine m9 (fun i=>⟨[(5,.p (.k 0) 0),(6,.p (.k 1) 0),(7,u32 (zA (K7 361 N3 s) 4 i)),(8,i64 i)],[gJ s,.mx [u8 1,u8 239,u8 91,u8 91,u8 91,u8 239,u8 239,u8 1,u8 239,u8 91,u8 1,u8 239,u8 239,u8 1,u8 239,u8 91]]⟩) 4 ⟨[.d 5 0,.d 6 0],⟨rfl,rfl,rfl,rfl,tq⟩,⟨_,rfl,rfl⟩,⟨_,rfl,rfl⟩,tq⟩ fun i hi=> ?_;refine d9 (fun h=> ?_) (fun h=> ?_)
  ·have d8:i<4:=(by omega);refine m9 (fun k=>⟨[(5,.p (.k 0) 0),(6,.p (.k 1) 0),(7,u32 (zP (K7 361 N3 s) 4 i k)),(8,i64 i),(9,i64 k)],[gJ s,.mx [u8 1,u8 239,u8 91,u8 91,u8 91,u8 239,u8 239,u8 1,u8 239,u8 91,u8 1,u8 239,u8 239,u8 1,u8 239,u8 91]]⟩) 4 ⟨[.k 0,.k 1],⟨rfl,rfl,congrArg u32 (sX (hm0 i)).symm,rfl,rfl,tq⟩,⟨_,rfl,rfl⟩,⟨_,rfl,rfl⟩,tq⟩ fun k hk=> ?_;refine d9 (fun h=> ?_) (fun h=> ?_)
   ·have hkl:k<4:=(by omega);refine⟨by omega,by omega,by omega,by omega,?_⟩;refine⟨_,by simp only[Zb,Zd,Ze];exact wq i d8 k hkl,?_⟩;refine⟨by omega,by omega,?_⟩;refine⟨_,by simp only[Zb,Zd,Ze];exact nu hkl,?_⟩;refine⟨[],_,_,_,_,jr (m:=361) rfl rfl (by decide) (by decide),rfl,rfl,?_⟩;refine⟨by simp only[IntKind.wrap_i64,G3];omega,?_⟩;refine⟨k+1,by omega,by omega,[.k 0,.k 1],⟨rfl,rfl,?_,rfl,f8 (by simp(disch:=omega)only[Za];omega),tq⟩,⟨_,rfl,rfl⟩,⟨_,rfl,rfl⟩,tq⟩;rw[sW (mg _ _ _ _ _)];exact congrArg (vi .u32) (sY (x:=0) d8)
   ·obtain rfl:k=4:=(by omega);exact⟨i+1,by omega,by omega,[.k 0,.k 1],⟨rfl,rfl,rfl,f8 (by simp(disch:=omega)only[Za];omega),tq⟩,⟨_,rfl,rfl⟩,⟨_,rfl,rfl⟩,tq⟩
  ·obtain rfl:i=4:=(by omega);refine⟨_,rfl,[],?_,tq⟩;show u32 (zA (K7 361 N3 s) 4 4)=_;rw[tH,hst,sV]
 ·refine⟨_,rfl,rfl,?_⟩;refine⟨[],_,_,_,_,cC (y:=hG x l 4 0) (bO _ _ _ _) (by decide) (by decide) (by decide) (by decide),rfl,rfl,?_⟩;refine⟨by decide,by decide,?_⟩;refine⟨_,t4 (i:=3) (by omega),?_⟩;refine⟨[],_,_,_,_,eG (y:=S4 (I5 4) (hG x l 4 0)) (da _ _) rfl,rfl,rfl,?_⟩;refine⟨Zc _,?_⟩;refine⟨_,rfl,rfl,?_⟩;refine⟨[],_,_,_,_,cC (y:=hG x l 4 1) (bO _ _ _ _) (by decide) (by decide) (by decide) (by decide),rfl,rfl,?_⟩;refine⟨by decide,by decide,?_⟩;refine⟨_,t4 (i:=2) (by omega),?_⟩;refine⟨[],_,_,_,_,eG (y:=S4 (I5 3) (hG x l 4 1)) (da _ _) rfl,rfl,rfl,?_⟩;refine⟨Zc _,?_⟩;refine⟨_,rfl,rfl,?_⟩;refine⟨[],_,_,_,_,cC (y:=hG x l 4 2) (bO _ _ _ _) (by decide) (by decide) (by decide) (by decide),rfl,rfl,?_⟩;refine⟨by decide,by decide,?_⟩;refine⟨_,t4 (i:=1) (by omega),?_⟩;refine⟨[],_,_,_,_,eG (y:=S4 (I5 2) (hG x l 4 2)) (da _ _) rfl,rfl,rfl,?_⟩;refine⟨Zc _,?_⟩;refine⟨_,rfl,rfl,?_⟩;refine⟨[],_,_,_,_,cC (y:=hG x l 4 3) (bO _ _ _ _) (by decide) (by decide) (by decide) (by decide),rfl,rfl,?_⟩;refine⟨by decide,by decide,?_⟩;refine⟨_,t4 (i:=0) (by omega),?_⟩;refine⟨[],_,_,_,_,eG (y:=S4 (I5 1) (hG x l 4 3)) (da _ _) rfl,rfl,rfl,?_⟩;refine⟨Zc _,?_⟩;refine⟨_,rfl,rfl,?_⟩;refine⟨[],_,_,_,_,cC (y:=hG x l 4 4) (bO _ _ _ _) (by decide) (by decide) (by decide) (by decide),rfl,rfl,?_⟩;refine⟨Zc _,Zc _,?_⟩;have hss:S4 [1,0,1,0] (hG x l 4 4)=s:=by rw[<-hst,hl];rfl
  rw[hss];refine m9 (fun i=>⟨[(5,.p (.k 0) 0),(6,.p (.k 1) 0),(7,u32 (zA (K7 361 N3 s) 4 i)),(8,i64 i)],[gJ s,.mx [u8 1,u8 239,u8 91,u8 91,u8 91,u8 239,u8 239,u8 1,u8 239,u8 91,u8 1,u8 239,u8 239,u8 1,u8 239,u8 91]]⟩) 4 ⟨[.d 5 0,.d 6 0],⟨rfl,rfl,rfl,rfl,tq⟩,⟨_,rfl,rfl⟩,⟨_,rfl,rfl⟩,tq⟩ fun i hi=> ?_;refine d9 (fun h=> ?_) (fun h=> ?_)
  ·have d8:i<4:=(by omega);refine m9 (fun k=>⟨[(5,.p (.k 0) 0),(6,.p (.k 1) 0),(7,u32 (zP (K7 361 N3 s) 4 i k)),(8,i64 i),(9,i64 k)],[gJ s,.mx [u8 1,u8 239,u8 91,u8 91,u8 91,u8 239,u8 239,u8 1,u8 239,u8 91,u8 1,u8 239,u8 239,u8 1,u8 239,u8 91]]⟩) 4 ⟨[.k 0,.k 1],⟨rfl,rfl,congrArg u32 (sX (hm0 i)).symm,rfl,rfl,tq⟩,⟨_,rfl,rfl⟩,⟨_,rfl,rfl⟩,tq⟩ fun k hk=> ?_;refine d9 (fun h=> ?_) (fun h=> ?_)
   ·have hkl:k<4:=(by omega);refine⟨by omega,by omega,by omega,by omega,?_⟩;refine⟨_,by simp only[Zb,Zd,Ze];exact wq i d8 k hkl,?_⟩;refine⟨by omega,by omega,?_⟩;refine⟨_,by simp only[Zb,Zd,Ze];exact nu hkl,?_⟩;refine⟨[],_,_,_,_,jr (m:=361) rfl rfl (by decide) (by decide),rfl,rfl,?_⟩;refine⟨by simp only[IntKind.wrap_i64,G3];omega,?_⟩;refine⟨k+1,by omega,by omega,[.k 0,.k 1],⟨rfl,rfl,?_,rfl,f8 (by simp(disch:=omega)only[Za];omega),tq⟩,⟨_,rfl,rfl⟩,⟨_,rfl,rfl⟩,tq⟩;rw[sW (mg _ _ _ _ _)];exact congrArg (vi .u32) (sY (x:=0) d8)
   ·obtain rfl:k=4:=(by omega);exact⟨i+1,by omega,by omega,[.k 0,.k 1],⟨rfl,rfl,rfl,f8 (by simp(disch:=omega)only[Za];omega),tq⟩,⟨_,rfl,rfl⟩,⟨_,rfl,rfl⟩,tq⟩
  ·obtain rfl:i=4:=(by omega);refine⟨_,rfl,[],?_,tq⟩;show u32 (zA (K7 361 N3 s) 4 4)=_;rw[tH,hst,sV]
 ·omega
theorem ik (l:Bs):U3.wrap ((P7 l.reverse).toNat:Int)=((t5 l).toNat:Int):=mZ _
theorem xJ:∀r:Nat,r<20->U3.wrap (I6.wrap (2*(r:Int)))=((2*Zk r).toNat:Int):=by decide +kernel
theorem xK:∀r:Nat,r<20->U3.wrap (I6.wrap (I6.wrap (2*(r:Int))+1))=((2*Zk r+1).toNat:Int):=by decide +kernel
theorem NP {n m:Nat} {va:List Value} {key:Bs} (ha:va=bv key) (hk:key.length=m) (hm:m=8*n) (hn:2<=n/\n<=4):
  b9 C 111 [.z m va] [] (.ret (.t [.o 1 (.k 0) 0 40,.z n (wv (tS key)),i64 0])) [.sc (wv (tK key))]:=by
 subst ha;subst hm;have hdiv:key.length/8=n:=by omega
 have hK:tK key=W1 (x9 key n) (y3 key n) 20:=by rw[tK,hdiv]
 have hS:tS key=(N7 key n).reverse:=by rw[tS,hdiv]
 rw[hK,hS];have e2:∀x:UInt32,U3.wrap (2*(x.toNat:Int))=((2*x).toNat:Int):=fun x=>jV 2 x;have e3:∀x:UInt32,U3.wrap ((x.toNat:Int)*16843009)=((x*bu).toNat:Int):=fun x=>jV x bu;refine UT.c ?_;rcases n with _|_|_|_|_|n
 ·omega
 ·omega
 ·refine E9 (fun i=>⟨[(0,.z 16 (bv key)),(5,.o 1 (.k 0) 0 i),(6,.o 1 (.k 1) 0 i),(7,.o 1 (.k 2) 0 i),(8,g9),(9,i64 (8*i:Nat))],[.sc (wv (x9 key i)),.sc (wv (y3 key i)),.sc (wv (N7 key i).reverse)]⟩) 2 [(5,1,.sc []),(6,1,.sc []),(7,1,.sc [])] ⟨[.d 900000 0,.d 900000 1,.d 900000 2],⟨rfl,rfl,rfl,rfl,rfl,rfl,tq⟩,⟨_,rfl,rfl⟩,⟨_,rfl,rfl⟩,⟨_,rfl,rfl⟩,tq⟩ fun i hi=> ?_;refine d9 (fun h=> ?_) (fun h=> ?_)
  ·have d8:i<2:=(by omega);have f1:(I6.wrap (((8*i:Nat):Int)+4)).toNat=8*i+4:=(by simp(disch:=omega)only[Za];omega);have f2:(I6.wrap (((8*i:Nat):Int)+8)).toNat=8*i+8:=(by simp(disch:=omega)only[Za];omega);refine⟨by omega,by omega,by rw[f1];omega,Zc _,by rw[f1];show _<=16;omega,?_⟩;rw[f1,Zb,show 8*i+4-8*i=4 by omega];refine⟨[],_,_,_,_,fF (l:=sub key (8*i) 4) (o6 _ _ _) (by rw[m5];omega) (by decide),rfl,rfl,?_⟩;refine⟨Zc _,by omega,by rw[y5,Q6];omega,?_⟩;refine⟨by omega,by omega,by rw[f1,f2];omega,Zc _,by rw[f2];show _<=16;omega,?_⟩;rw[f1,f2,show 8*i+8-(8*i+4)=4 by omega];refine⟨[],_,_,_,_,fF (l:=sub key (8*i+4) 4) (o6 _ _ _) (by rw[m5];omega) (by decide),rfl,rfl,?_⟩;refine⟨Zc _,by omega,by rw[y5,Q7];omega,?_⟩;refine⟨by omega,by omega,by rw[f2];omega,Zc _,by rw[f2];show _<=16;omega,?_⟩;rw[f2,Zb,show 8*i+8-8*i=8 by omega];refine⟨[],_,_,_,_,uC (m:=sub key (8*i) 8) (o6 _ _ _) (by rw[m5];omega),rfl,rfl,?_⟩;refine⟨by rw[y5,Zj,P4];omega,by omega,Zc _,?_⟩;refine⟨i+1,by omega,by omega,[.d 41 0,.d 52 0,.d 61 0],⟨rfl,rfl,rfl,?_,rfl,f8 (by simp(disch:=omega)only[Za];omega),tq⟩,⟨_,rfl,i6 ?_⟩,⟨_,rfl,i6 ?_⟩,⟨_,rfl,i6 ?_⟩,tq⟩
   ·show V.o 1 _ 0 _=V.o 1 _ 0 _;rw[Z6]
   ·rw[mS];show sub (wv (x9 key i)) 0 (i*1)++[Value.int .u32 (U3.wrap ((P7 (sub key (8*i) 4).reverse).toNat:Int))]=_;rw[ik,Zd];exact S8 (by rw[Q6])
   ·rw[mU];show sub (wv (y3 key i)) 0 (i*1)++[Value.int .u32 (U3.wrap ((P7 (sub key (8*i+4) 4).reverse).toNat:Int))]=_;rw[ik,Zd];exact S8 (by rw[Q7])
   ·rw[mT,Z0];show[Value.int .u32 ((gZ (sub key (8*i) 8)).toNat:Int)]++sub (wv (N7 key i).reverse) 0 (i*1)=_;rw[Zd,D7 (by rw[Zj,P4])];rfl
  ·obtain rfl:i=2:=(by omega);refine E9 (fun r=>⟨[(5,.z 2 (wv (x9 key 2))),(6,.z 2 (wv (y3 key 2))),(7,.z 2 (wv (N7 key 2).reverse)),(8,.o 1 (.k 0) 0 (2*r)),(10,i64 r)],[.sc (wv (W1 (x9 key 2) (y3 key 2) r))]⟩) 20 [(8,1,.sc [])] ⟨[.d 900000 0],⟨?_,?_,?_,rfl,rfl,tq⟩,⟨_,rfl,rfl⟩,tq⟩ fun r hr=> ?_
   ·show V.z 2 (sub _ 0 2)=_;rw[D7 (Q6 _ _)]
   ·show V.z 2 (sub _ 0 2)=_;rw[D7 (Q7 _ _)]
   ·show V.z 2 (sub _ 0 2)=_;rw[D7 (by rw[Zj,P4])]
   have hkl:=ie (x9 key 2) (y3 key 2) r;refine d9 (fun h=> ?_) (fun h=> ?_)
   ·have d8:r<20:=(by omega);refine⟨[],_,_,_,_,gL (x:=2*Zk r*bu) (l:=x9 key 2) (by rw[xJ r d8,e3]) rfl (Q6 _ _) (by decide),rfl,rfl,?_⟩;refine⟨[],_,_,_,_,gL (x:=(2*Zk r+1)*bu) (l:=y3 key 2) (by rw[xK r d8,e3]) rfl (Q7 _ _) (by decide),rfl,rfl,?_⟩;refine⟨[],_,_,_,_,V6 (k:=8) rfl (by decide) (by decide),rfl,rfl,?_⟩;refine⟨[],_,_,_,_,V6 (v:=ak (x9 key 2) r+2*am (y3 key 2) r) (k:=9) (by rw[e2];exact y4 _ _) (by decide) (by decide),rfl,rfl,?_⟩;refine⟨Zc _,by omega,by rw[y5,hkl];omega,?_⟩;refine⟨r+1,by omega,by omega,[.d 90 0],⟨rfl,rfl,rfl,rfl,f8 (by simp(disch:=omega)only[Za];omega),tq⟩,⟨_,rfl,i6 ?_⟩,tq⟩;show sub (wv (W1 (x9 key 2) (y3 key 2) r)) 0 (2*r*1)++[Value.int .u32 (U3.wrap (((ak (x9 key 2) r).toNat:Int)+((am (y3 key 2) r).toNat:Int))),Value.int .u32 ((F5 (ak (x9 key 2) r+2*am (y3 key 2) r) 9).toNat:Int)]=_;rw[Zd,D7 hkl,y4,oA,<-nb];rfl
   ·obtain rfl:r=20:=(by omega);exact⟨_,rfl,[.k 0],rfl,⟨_,rfl,rfl⟩,tq⟩
 ·refine E9 (fun i=>⟨[(0,.z 24 (bv key)),(5,.o 1 (.k 0) 0 i),(6,.o 1 (.k 1) 0 i),(7,.o 1 (.k 2) 0 i),(8,g9),(9,i64 (8*i:Nat))],[.sc (wv (x9 key i)),.sc (wv (y3 key i)),.sc (wv (N7 key i).reverse)]⟩) 3 [(5,1,.sc []),(6,1,.sc []),(7,1,.sc [])] ⟨[.d 900000 0,.d 900000 1,.d 900000 2],⟨rfl,rfl,rfl,rfl,rfl,rfl,tq⟩,⟨_,rfl,rfl⟩,⟨_,rfl,rfl⟩,⟨_,rfl,rfl⟩,tq⟩ fun i hi=> ?_;refine d9 (fun h=> ?_) (fun h=> ?_)
  ·have d8:i<3:=(by omega);have f1:(I6.wrap (((8*i:Nat):Int)+4)).toNat=8*i+4:=(by simp(disch:=omega)only[Za];omega);have f2:(I6.wrap (((8*i:Nat):Int)+8)).toNat=8*i+8:=(by simp(disch:=omega)only[Za];omega);refine⟨by omega,by omega,by rw[f1];omega,Zc _,by rw[f1];show _<=24;omega,?_⟩;rw[f1,Zb,show 8*i+4-8*i=4 by omega];refine⟨[],_,_,_,_,fF (l:=sub key (8*i) 4) (o6 _ _ _) (by rw[m5];omega) (by decide),rfl,rfl,?_⟩;refine⟨Zc _,by omega,by rw[y5,Q6];omega,?_⟩;refine⟨by omega,by omega,by rw[f1,f2];omega,Zc _,by rw[f2];show _<=24;omega,?_⟩;rw[f1,f2,show 8*i+8-(8*i+4)=4 by omega];refine⟨[],_,_,_,_,fF (l:=sub key (8*i+4) 4) (o6 _ _ _) (by rw[m5];omega) (by decide),rfl,rfl,?_⟩;refine⟨Zc _,by omega,by rw[y5,Q7];omega,?_⟩;refine⟨by omega,by omega,by rw[f2];omega,Zc _,by rw[f2];show _<=24;omega,?_⟩;rw[f2,Zb,show 8*i+8-8*i=8 by omega];refine⟨[],_,_,_,_,uC (m:=sub key (8*i) 8) (o6 _ _ _) (by rw[m5];omega),rfl,rfl,?_⟩;refine⟨by rw[y5,Zj,P4];omega,by omega,Zc _,?_⟩;refine⟨i+1,by omega,by omega,[.d 41 0,.d 52 0,.d 61 0],⟨rfl,rfl,rfl,?_,rfl,f8 (by simp(disch:=omega)only[Za];omega),tq⟩,⟨_,rfl,i6 ?_⟩,⟨_,rfl,i6 ?_⟩,⟨_,rfl,i6 ?_⟩,tq⟩
   ·show V.o 1 _ 0 _=V.o 1 _ 0 _;rw[Z6]
   ·rw[mS];show sub (wv (x9 key i)) 0 (i*1)++[Value.int .u32 (U3.wrap ((P7 (sub key (8*i) 4).reverse).toNat:Int))]=_;rw[ik,Zd];exact S8 (by rw[Q6])
   ·rw[mU];show sub (wv (y3 key i)) 0 (i*1)++[Value.int .u32 (U3.wrap ((P7 (sub key (8*i+4) 4).reverse).toNat:Int))]=_;rw[ik,Zd];exact S8 (by rw[Q7])
   ·rw[mT,Z0];show[Value.int .u32 ((gZ (sub key (8*i) 8)).toNat:Int)]++sub (wv (N7 key i).reverse) 0 (i*1)=_;rw[Zd,D7 (by rw[Zj,P4])];rfl
  ·obtain rfl:i=3:=(by omega);refine E9 (fun r=>⟨[(5,.z 3 (wv (x9 key 3))),(6,.z 3 (wv (y3 key 3))),(7,.z 3 (wv (N7 key 3).reverse)),(8,.o 1 (.k 0) 0 (2*r)),(10,i64 r)],[.sc (wv (W1 (x9 key 3) (y3 key 3) r))]⟩) 20 [(8,1,.sc [])] ⟨[.d 900000 0],⟨?_,?_,?_,rfl,rfl,tq⟩,⟨_,rfl,rfl⟩,tq⟩ fun r hr=> ?_
   ·show V.z 3 (sub _ 0 3)=_;rw[D7 (Q6 _ _)]
   ·show V.z 3 (sub _ 0 3)=_;rw[D7 (Q7 _ _)]
   ·show V.z 3 (sub _ 0 3)=_;rw[D7 (by rw[Zj,P4])]
   have hkl:=ie (x9 key 3) (y3 key 3) r;refine d9 (fun h=> ?_) (fun h=> ?_)
   ·have d8:r<20:=(by omega);refine⟨[],_,_,_,_,gL (x:=2*Zk r*bu) (l:=x9 key 3) (by rw[xJ r d8,e3]) rfl (Q6 _ _) (by decide),rfl,rfl,?_⟩;refine⟨[],_,_,_,_,gL (x:=(2*Zk r+1)*bu) (l:=y3 key 3) (by rw[xK r d8,e3]) rfl (Q7 _ _) (by decide),rfl,rfl,?_⟩;refine⟨[],_,_,_,_,V6 (k:=8) rfl (by decide) (by decide),rfl,rfl,?_⟩;refine⟨[],_,_,_,_,V6 (v:=ak (x9 key 3) r+2*am (y3 key 3) r) (k:=9) (by rw[e2];exact y4 _ _) (by decide) (by decide),rfl,rfl,?_⟩;refine⟨Zc _,by omega,by rw[y5,hkl];omega,?_⟩;refine⟨r+1,by omega,by omega,[.d 90 0],⟨rfl,rfl,rfl,rfl,f8 (by simp(disch:=omega)only[Za];omega),tq⟩,⟨_,rfl,i6 ?_⟩,tq⟩;show sub (wv (W1 (x9 key 3) (y3 key 3) r)) 0 (2*r*1)++[Value.int .u32 (U3.wrap (((ak (x9 key 3) r).toNat:Int)+((am (y3 key 3) r).toNat:Int))),Value.int .u32 ((F5 (ak (x9 key 3) r+2*am (y3 key 3) r) 9).toNat:Int)]=_;rw[Zd,D7 hkl,y4,oA,<-nb];rfl
   ·obtain rfl:r=20:=(by omega);exact⟨_,rfl,[.k 0],rfl,⟨_,rfl,rfl⟩,tq⟩
 ·refine E9 (fun i=>⟨[(0,.z 32 (bv key)),(5,.o 1 (.k 0) 0 i),(6,.o 1 (.k 1) 0 i),(7,.o 1 (.k 2) 0 i),(8,g9),(9,i64 (8*i:Nat))],[.sc (wv (x9 key i)),.sc (wv (y3 key i)),.sc (wv (N7 key i).reverse)]⟩) 4 [(5,1,.sc []),(6,1,.sc []),(7,1,.sc [])] ⟨[.d 900000 0,.d 900000 1,.d 900000 2],⟨rfl,rfl,rfl,rfl,rfl,rfl,tq⟩,⟨_,rfl,rfl⟩,⟨_,rfl,rfl⟩,⟨_,rfl,rfl⟩,tq⟩ fun i hi=> ?_;refine d9 (fun h=> ?_) (fun h=> ?_)
  ·have d8:i<4:=(by omega);have f1:(I6.wrap (((8*i:Nat):Int)+4)).toNat=8*i+4:=(by simp(disch:=omega)only[Za];omega);have f2:(I6.wrap (((8*i:Nat):Int)+8)).toNat=8*i+8:=(by simp(disch:=omega)only[Za];omega);refine⟨by omega,by omega,by rw[f1];omega,Zc _,by rw[f1];show _<=32;omega,?_⟩;rw[f1,Zb,show 8*i+4-8*i=4 by omega];refine⟨[],_,_,_,_,fF (l:=sub key (8*i) 4) (o6 _ _ _) (by rw[m5];omega) (by decide),rfl,rfl,?_⟩;refine⟨Zc _,by omega,by rw[y5,Q6];omega,?_⟩;refine⟨by omega,by omega,by rw[f1,f2];omega,Zc _,by rw[f2];show _<=32;omega,?_⟩;rw[f1,f2,show 8*i+8-(8*i+4)=4 by omega];refine⟨[],_,_,_,_,fF (l:=sub key (8*i+4) 4) (o6 _ _ _) (by rw[m5];omega) (by decide),rfl,rfl,?_⟩;refine⟨Zc _,by omega,by rw[y5,Q7];omega,?_⟩;refine⟨by omega,by omega,by rw[f2];omega,Zc _,by rw[f2];show _<=32;omega,?_⟩;rw[f2,Zb,show 8*i+8-8*i=8 by omega];refine⟨[],_,_,_,_,uC (m:=sub key (8*i) 8) (o6 _ _ _) (by rw[m5];omega),rfl,rfl,?_⟩;refine⟨by rw[y5,Zj,P4];omega,by omega,Zc _,?_⟩;refine⟨i+1,by omega,by omega,[.d 41 0,.d 52 0,.d 61 0],⟨rfl,rfl,rfl,?_,rfl,f8 (by simp(disch:=omega)only[Za];omega),tq⟩,⟨_,rfl,i6 ?_⟩,⟨_,rfl,i6 ?_⟩,⟨_,rfl,i6 ?_⟩,tq⟩
   ·show V.o 1 _ 0 _=V.o 1 _ 0 _;rw[Z6]
   ·rw[mS];show sub (wv (x9 key i)) 0 (i*1)++[Value.int .u32 (U3.wrap ((P7 (sub key (8*i) 4).reverse).toNat:Int))]=_;rw[ik,Zd];exact S8 (by rw[Q6])
   ·rw[mU];show sub (wv (y3 key i)) 0 (i*1)++[Value.int .u32 (U3.wrap ((P7 (sub key (8*i+4) 4).reverse).toNat:Int))]=_;rw[ik,Zd];exact S8 (by rw[Q7])
   ·rw[mT,Z0];show[Value.int .u32 ((gZ (sub key (8*i) 8)).toNat:Int)]++sub (wv (N7 key i).reverse) 0 (i*1)=_;rw[Zd,D7 (by rw[Zj,P4])];rfl
  ·obtain rfl:i=4:=(by omega);refine E9 (fun r=>⟨[(5,.z 4 (wv (x9 key 4))),(6,.z 4 (wv (y3 key 4))),(7,.z 4 (wv (N7 key 4).reverse)),(8,.o 1 (.k 0) 0 (2*r)),(10,i64 r)],[.sc (wv (W1 (x9 key 4) (y3 key 4) r))]⟩) 20 [(8,1,.sc [])] ⟨[.d 900000 0],⟨?_,?_,?_,rfl,rfl,tq⟩,⟨_,rfl,rfl⟩,tq⟩ fun r hr=> ?_
   ·show V.z 4 (sub _ 0 4)=_;rw[D7 (Q6 _ _)]
   ·show V.z 4 (sub _ 0 4)=_;rw[D7 (Q7 _ _)]
   ·show V.z 4 (sub _ 0 4)=_;rw[D7 (by rw[Zj,P4])]
   have hkl:=ie (x9 key 4) (y3 key 4) r;refine d9 (fun h=> ?_) (fun h=> ?_)
   ·have d8:r<20:=(by omega);refine⟨[],_,_,_,_,gL (x:=2*Zk r*bu) (l:=x9 key 4) (by rw[xJ r d8,e3]) rfl (Q6 _ _) (by decide),rfl,rfl,?_⟩;refine⟨[],_,_,_,_,gL (x:=(2*Zk r+1)*bu) (l:=y3 key 4) (by rw[xK r d8,e3]) rfl (Q7 _ _) (by decide),rfl,rfl,?_⟩;refine⟨[],_,_,_,_,V6 (k:=8) rfl (by decide) (by decide),rfl,rfl,?_⟩;refine⟨[],_,_,_,_,V6 (v:=ak (x9 key 4) r+2*am (y3 key 4) r) (k:=9) (by rw[e2];exact y4 _ _) (by decide) (by decide),rfl,rfl,?_⟩;refine⟨Zc _,by omega,by rw[y5,hkl];omega,?_⟩;refine⟨r+1,by omega,by omega,[.d 90 0],⟨rfl,rfl,rfl,rfl,f8 (by simp(disch:=omega)only[Za];omega),tq⟩,⟨_,rfl,i6 ?_⟩,tq⟩;show sub (wv (W1 (x9 key 4) (y3 key 4) r)) 0 (2*r*1)++[Value.int .u32 (U3.wrap (((ak (x9 key 4) r).toNat:Int)+((am (y3 key 4) r).toNat:Int))),Value.int .u32 ((F5 (ak (x9 key 4) r+2*am (y3 key 4) r) 9).toNat:Int)]=_;rw[Zd,D7 hkl,y4,oA,<-nb];rfl
   ·obtain rfl:r=20:=(by omega);exact⟨_,rfl,[.k 0],rfl,⟨_,rfl,rfl⟩,tq⟩
 ·omega
theorem NQ {n m:Nat} {va:List Value} {key:Bs} (ha:va=bv key) (hk:key.length=m) (hm:m=8*n) (hn:2<=n/\n<=4):b9 C 56 [.z m va] [] (.ret (.t [S6 (tK key) (tS key),i64 0])) []:=by
 refine UU.c ?_;refine⟨[],_,_,_,_,NP ha hk hm hn,rfl,rfl,?_⟩;refine⟨_,rfl,[],?_,tq⟩;show V.t [.q [.z 40 (sub _ 0 40),.z n _] 0,i64 0]=V.t [.q [.z _ _,.z _ _] 0,i64 0];rw[D7 (iT key),iT,sG (n:=n) (by omega)]
theorem Ac {k s:List UInt32} {x y:Int} {a c:UInt32} (hx:x=a.toNat) (hy:y=c.toNat) (hs:2<=s.length/\s.length<=4):b9 C 212 [S6 k s,vi .u32 x,vi .u32 y] [] (.ret (.t [u32 (tH a s+tH (F5 c 8) s),u32 (tH a s+2*tH (F5 c 8) s)])) []:=by
 subst hx;subst hy;refine UW.c ?_;have e3:∀x:UInt32,U3.wrap (2*(x.toNat:Int))=((2*x).toNat:Int):=fun x=>jV 2 x;refine⟨_,rfl,?_⟩;refine⟨[],_,_,_,_,gL (l:=s) rfl rfl rfl hs,rfl,rfl,?_⟩;refine⟨[],_,_,_,_,V6 (k:=8) rfl (by decide) (by decide),rfl,rfl,?_⟩;refine⟨_,rfl,?_⟩;refine⟨[],_,_,_,_,gL (l:=s) rfl rfl rfl hs,rfl,rfl,?_⟩;refine⟨_,rfl,[],?_,tq⟩;show V.t [vi .u32 _,vi .u32 _]=_;rw[y4,e3,y4]
abbrev sO (x:W4):B:= .mx [u32 x.1,u32 x.2.1,u32 x.2.2.1,u32 x.2.2.2]
theorem ij (b:Bs) {i:Nat} (h:i<4):(wv (dK b 4))[i]? =some (.int .u32 (bx (C8 b) i).toNat):=by
 rcases i with _|_|_|_|i;all_goals first|rfl|omega
theorem NO {va:List Value} {b:Bs} {k s:List UInt32} (ha:va=bv b) (hb:b.length=16) (hk:k.length=40) (hs:2<=s.length/\s.length<=4):b9 C 155 [S6 k s,.z 16 va,bool false] [] (C6 16) [.sc (bv (O3 (dk k s (C8 b)) 4))]:=by
 subst ha;refine vG.c ?_;refine m9 (fun i=>⟨[(0,S6 k s),(1,.z 16 (bv b)),(2,bool false),(8,.p (.k 0) 0),(9,i64 i)],[.sc (wv (dK b i))]⟩) 4 ⟨[.d 8 0],⟨rfl,rfl,rfl,rfl,rfl,tq⟩,⟨_,rfl,rfl⟩,tq⟩ fun i hi=> ?_;refine d9 (fun h=> ?_) (fun h=> ?_)
 ·have d8:i<4:=(by omega);have e1:(I6.wrap (4*(i:Int))).toNat=4*i:=(by simp(disch:=omega)only[Za];omega);have e2:(I6.wrap (I6.wrap (4*(i:Int))+4)).toNat=4*i+4:=(by simp(disch:=omega)only[Za];omega);refine⟨by omega,(by simp(disch:=omega)only[Za];omega),by rw[e1,e2];omega,Zc _,by rw[e2];omega,?_⟩;rw[e1,e2,show 4*i+4-4*i=4 by omega];refine⟨[],_,_,_,_,fF (l:=sub b (4*i) 4) (o6 _ _ _) (by rw[m5];omega) (by decide),rfl,rfl,?_⟩;refine⟨by omega,by omega,by show 0+((i:Int)).toNat*1<4;omega,?_⟩;refine⟨i+1,by omega,by omega,[.k 0],⟨rfl,rfl,rfl,rfl,f8 (by simp(disch:=omega)only[Za];omega),tq⟩,⟨_,rfl,i6 ?_⟩,tq⟩;rw[Zb,Zd,Ze,ik];show(wv (dK b i)).set i (.int .u32 (t5 (sub b (4*i) 4)).toNat)=_;rw[bB,ru b d8]
 obtain rfl:i=4:=(by omega);refine⟨_,rfl,?_⟩;refine⟨by decide,by decide,_,ij b (i:=0) (by decide),?_⟩;refine⟨by decide,by omega,?_⟩;refine⟨_,t4 (i:=0) (by omega),?_⟩;refine⟨by decide,by decide,_,ij b (i:=1) (by decide),?_⟩;refine⟨by decide,by omega,?_⟩;refine⟨_,t4 (i:=1) (by omega),?_⟩;refine⟨by decide,by decide,_,ij b (i:=2) (by decide),?_⟩;refine⟨by decide,by omega,?_⟩;refine⟨_,t4 (i:=2) (by omega),?_⟩;refine⟨by decide,by decide,_,ij b (i:=3) (by decide),?_⟩;refine⟨by decide,by omega,?_⟩;refine⟨_,t4 (i:=3) (by omega),?_⟩;refine⟨Zc _,?_⟩;refine m9 (fun i=>⟨[(0,S6 k s),(8,.p (.k 0) 0),(10,wz k),(14,i64 i)],[sO (di k s (wh k 0 (C8 b)) i)]⟩) 16 ⟨[.k 0],⟨rfl,rfl,rfl,rfl,tq⟩,⟨_,rfl,ix (C0 _ _) (C0 _ _) (C0 _ _) (C0 _ _)⟩,tq⟩ fun i hi=> ?_;have hst:=EW k s (wh k 0 (C8 b)) i;generalize hx:di k s (wh k 0 (C8 b)) i=x at hst ⊢;refine d9 (fun h=> ?_) (fun h=> ?_)
 ·have d8:i<16:=(by omega);have e1:(I6.wrap (I6.wrap (2*(i:Int))+8)).toNat=2*i+8:=(by simp(disch:=omega)only[Za];omega);have e2:(I6.wrap (I6.wrap (2*(i:Int))+9)).toNat=2*i+9:=(by simp(disch:=omega)only[Za];omega);refine⟨by decide,by decide,_,rfl,by decide,by decide,_,rfl,?_⟩;refine⟨[],_,_,_,_,Ac rfl rfl hs,rfl,rfl,?_⟩;refine⟨by decide,by decide,_,rfl,by omega,by omega,?_⟩;refine⟨_,by rw[e1];exact t4 (by omega),?_⟩;refine⟨[],_,_,_,_,V6 (v:=x.2.2.1^^^oZ k s x.1 x.2.1 i) (k:=31) (by rw[y4];exact C0 _ _) (by decide) (by decide),rfl,rfl,?_⟩;refine⟨by decide,by decide,by show 3<=4;omega,by decide,by decide,_,rfl,?_⟩;refine⟨[],_,_,_,_,V6 (k:=1) rfl (by decide) (by decide),rfl,rfl,?_⟩;refine⟨by omega,by omega,?_⟩;refine⟨_,by rw[e2];exact t4 (by omega),?_⟩;refine⟨by decide,by decide,by show 4<=4;omega,?_⟩;refine⟨by decide,by decide,_,rfl,by decide,by decide,_,rfl,by decide,by decide,_,rfl,by decide,by decide,_,rfl,Zc _,?_⟩;refine⟨i+1,by omega,by omega,[.k 0],⟨rfl,rfl,rfl,f8 (by simp(disch:=omega)only[Za];omega),tq⟩,⟨_,rfl,?_⟩,tq⟩;rw[hst];exact ix rfl (by rw[y4];exact C0 _ _) rfl rfl
 obtain rfl:i=16:=(by omega);refine⟨by decide,by decide,_,rfl,?_⟩;refine⟨by decide,by omega,?_⟩;refine⟨_,t4 (i:=4) (by omega),?_⟩;refine⟨by decide,by decide,_,rfl,?_⟩;refine⟨by decide,by omega,?_⟩;refine⟨_,t4 (i:=5) (by omega),?_⟩;refine⟨by decide,by decide,_,rfl,?_⟩;refine⟨by decide,by omega,?_⟩;refine⟨_,t4 (i:=6) (by omega),?_⟩;refine⟨by decide,by decide,_,rfl,?_⟩;refine⟨by decide,by omega,?_⟩;refine⟨_,t4 (i:=7) (by omega),?_⟩;refine⟨Zc _,?_⟩;have hfx:wh k 4 (H4 x)=dk k s (C8 b):=by rw[<-hx];rfl
 rw[<-hfx];generalize hy:wh k 4 (H4 x)=y;refine E9 (fun i=>⟨[(8,.p (.k 1) 0),(17,.o 1 (.k 0) 0 (4*i)),(18,i64 i)],[.sc (bv (O3 y i)),sO y]⟩) 4 [(17,1,.sc [])] ⟨[.d 900000 0,.k 0],⟨rfl,rfl,rfl,tq⟩,⟨_,rfl,rfl⟩,⟨_,rfl,?_⟩,tq⟩ fun i hi=> ?_
 ·rw[<-hy,<-hx];exact ix (C0 _ _) (C0 _ _) (C0 _ _) (C0 _ _)
 refine d9 (fun h=> ?_) (fun h=> ?_)
 ·have d8:i<4:=(by omega);refine⟨by omega,by omega,?_⟩;refine⟨_,by rw[Zb,Zd,Ze];exact sP d8,?_⟩;refine⟨[],_,_,_,_,pV rfl,rfl,rfl,?_⟩;have hpl:(s6 (bx y i)).length=4:=H3 _;refine⟨by rw[j6];exact Z3 hpl.symm,by omega,by rw[j6,fi];omega,?_⟩;refine⟨i+1,by omega,by omega,[.d 247 0,.k 1],⟨rfl,rfl,f8 (by simp(disch:=omega)only[Za];omega),tq⟩,⟨_,rfl,i6 ?_⟩,⟨_,rfl,rfl⟩,tq⟩;show sub (bv (O3 y i)) 0 (4*i*1)++sub (bv (s6 (bx y i))) 0 4=_;rw[Zd,g8 (fi y i),g8 hpl,B7,oT]
 ·obtain rfl:i=4:=(by omega);exact⟨_,rfl,[.k 0],rfl,⟨_,rfl,rfl⟩,tq⟩
theorem NN {va:List Value} {b:Bs} {k s:List UInt32} (ha:va=bv b) (hb:b.length=16) (hk:k.length=40) (hs:2<=s.length/\s.length<=4):b9 C 155 [S6 k s,.z 16 va,bool true] [] (C6 16) [.sc (bv (O3 (dj k s (C8 b)) 4))]:=by
 subst ha;refine vG.c ?_;refine m9 (fun i=>⟨[(0,S6 k s),(1,.z 16 (bv b)),(2,bool true),(8,.p (.k 0) 0),(9,i64 i)],[.sc (wv (dK b i))]⟩) 4 ⟨[.d 8 0],⟨rfl,rfl,rfl,rfl,rfl,tq⟩,⟨_,rfl,rfl⟩,tq⟩ fun i hi=> ?_;refine d9 (fun h=> ?_) (fun h=> ?_)
 ·have d8:i<4:=(by omega);have e1:(I6.wrap (4*(i:Int))).toNat=4*i:=(by simp(disch:=omega)only[Za];omega);have e2:(I6.wrap (I6.wrap (4*(i:Int))+4)).toNat=4*i+4:=(by simp(disch:=omega)only[Za];omega);refine⟨by omega,(by simp(disch:=omega)only[Za];omega),by rw[e1,e2];omega,Zc _,by rw[e2];omega,?_⟩;rw[e1,e2,show 4*i+4-4*i=4 by omega];refine⟨[],_,_,_,_,fF (l:=sub b (4*i) 4) (o6 _ _ _) (by rw[m5];omega) (by decide),rfl,rfl,?_⟩;refine⟨by omega,by omega,by show 0+((i:Int)).toNat*1<4;omega,?_⟩;refine⟨i+1,by omega,by omega,[.k 0],⟨rfl,rfl,rfl,rfl,f8 (by simp(disch:=omega)only[Za];omega),tq⟩,⟨_,rfl,i6 ?_⟩,tq⟩;rw[Zb,Zd,Ze,ik];show(wv (dK b i)).set i (.int .u32 (t5 (sub b (4*i) 4)).toNat)=_;rw[bB,ru b d8]
 obtain rfl:i=4:=(by omega);refine⟨_,rfl,?_⟩;refine⟨by decide,by decide,_,ij b (i:=2) (by decide),?_⟩;refine⟨by decide,by omega,?_⟩;refine⟨_,t4 (i:=6) (by omega),?_⟩;refine⟨by decide,by decide,_,ij b (i:=3) (by decide),?_⟩;refine⟨by decide,by omega,?_⟩;refine⟨_,t4 (i:=7) (by omega),?_⟩;refine⟨by decide,by decide,_,ij b (i:=0) (by decide),?_⟩;refine⟨by decide,by omega,?_⟩;refine⟨_,t4 (i:=4) (by omega),?_⟩;refine⟨by decide,by decide,_,ij b (i:=1) (by decide),?_⟩;refine⟨by decide,by omega,?_⟩;refine⟨_,t4 (i:=5) (by omega),?_⟩;refine⟨Zc _,?_⟩;refine m9 (fun i=>⟨[(0,S6 k s),(8,.p (.k 0) 0),(10,wz k),(11,i64 (15-i))],[sO (H4 (cf k s (wh k 4 (C8 b)) i))]⟩) 16 ⟨[.k 0],⟨rfl,rfl,rfl,rfl,tq⟩,⟨_,rfl,ix (C0 _ _) (C0 _ _) (C0 _ _) (C0 _ _)⟩,tq⟩ fun i hi=> ?_;have hst:=EV k s (wh k 4 (C8 b)) i;generalize hx:cf k s (wh k 4 (C8 b)) i=x at hst ⊢;refine d9 (fun h=> ?_) (fun h=> ?_)
 ·obtain⟨r,er,hr15,hri⟩:∃r:Nat,(15:Int)-i=r/\r<=15/\r=15-i:=⟨15-i,by omega,by omega,rfl⟩;rw[<-hri]at hst;rw[er];have e1:(I6.wrap (I6.wrap (2*(r:Int))+8)).toNat=2*r+8:=(by simp(disch:=omega)only[Za];omega);have e2:(I6.wrap (I6.wrap (2*(r:Int))+9)).toNat=2*r+9:=(by simp(disch:=omega)only[Za];omega);refine⟨by decide,by decide,_,rfl,by decide,by decide,_,rfl,by decide,by decide,_,rfl,by decide,by decide,_,rfl,Zc _,?_⟩;refine⟨by decide,by decide,_,rfl,by decide,by decide,_,rfl,?_⟩;refine⟨[],_,_,_,_,Ac (a:=x.1) (c:=x.2.1) rfl rfl hs,rfl,rfl,?_⟩;refine⟨by decide,by decide,_,rfl,?_⟩;refine⟨[],_,_,_,_,V6 (v:=x.2.2.1) (k:=1) rfl (by decide) (by decide),rfl,rfl,?_⟩;refine⟨by omega,by omega,?_⟩;refine⟨_,by rw[e1];exact t4 (by omega),?_⟩;refine⟨by decide,by decide,by show 3<=4;omega,by decide,by decide,_,rfl,by omega,by omega,?_⟩;refine⟨_,by rw[e2];exact t4 (by omega),?_⟩;refine⟨[],_,_,_,_,V6 (v:=x.2.2.2^^^pa k s x.1 x.2.1 r) (k:=31) (by rw[y4];exact C0 _ _) (by decide) (by decide),rfl,rfl,?_⟩;refine⟨by decide,by decide,by show 4<=4;omega,?_⟩;refine⟨i+1,by omega,by omega,[.k 0],⟨rfl,rfl,rfl,f8 ?_,tq⟩,⟨_,rfl,?_⟩,tq⟩
  ·rw[Za _ (by omega)];omega
  rw[hst];exact ix rfl rfl (by rw[y4];exact C0 _ _) rfl
 obtain rfl:i=16:=(by omega);refine⟨by decide,by decide,_,rfl,?_⟩;refine⟨by decide,by omega,?_⟩;refine⟨_,t4 (i:=0) (by omega),?_⟩;refine⟨by decide,by decide,_,rfl,?_⟩;refine⟨by decide,by omega,?_⟩;refine⟨_,t4 (i:=1) (by omega),?_⟩;refine⟨by decide,by decide,_,rfl,?_⟩;refine⟨by decide,by omega,?_⟩;refine⟨_,t4 (i:=2) (by omega),?_⟩;refine⟨by decide,by decide,_,rfl,?_⟩;refine⟨by decide,by omega,?_⟩;refine⟨_,t4 (i:=3) (by omega),?_⟩;refine⟨Zc _,?_⟩;have hfx:wh k 0 (H4 x)=dj k s (C8 b):=by rw[<-hx];rfl
 rw[<-hfx];generalize hy:wh k 0 (H4 x)=y;refine E9 (fun i=>⟨[(8,.p (.k 1) 0),(17,.o 1 (.k 0) 0 (4*i)),(18,i64 i)],[.sc (bv (O3 y i)),sO y]⟩) 4 [(17,1,.sc [])] ⟨[.d 900000 0,.k 0],⟨rfl,rfl,rfl,tq⟩,⟨_,rfl,rfl⟩,⟨_,rfl,?_⟩,tq⟩ fun i hi=> ?_
 ·rw[<-hy,<-hx];exact ix (C0 _ _) (C0 _ _) (C0 _ _) (C0 _ _)
 refine d9 (fun h=> ?_) (fun h=> ?_)
 ·have d8:i<4:=(by omega);refine⟨by omega,by omega,?_⟩;refine⟨_,by rw[Zb,Zd,Ze];exact sP d8,?_⟩;refine⟨[],_,_,_,_,pV rfl,rfl,rfl,?_⟩;have hpl:(s6 (bx y i)).length=4:=H3 _;refine⟨by rw[j6];exact Z3 hpl.symm,by omega,by rw[j6,fi];omega,?_⟩;refine⟨i+1,by omega,by omega,[.d 247 0,.k 1],⟨rfl,rfl,f8 (by simp(disch:=omega)only[Za];omega),tq⟩,⟨_,rfl,i6 ?_⟩,⟨_,rfl,rfl⟩,tq⟩;show sub (bv (O3 y i)) 0 (4*i*1)++sub (bv (s6 (bx y i))) 0 4=_;rw[Zd,g8 (fi y i),g8 hpl,B7,oT]
 ·obtain rfl:i=4:=(by omega);exact⟨_,rfl,[.k 0],rfl,⟨_,rfl,rfl⟩,tq⟩
theorem NM {va:List Value} {k s:List UInt32} {n:Nat} {back:Bool} (hn:n≠16):b9 C 155 [S6 k s,.z n va,bool back] [] V5 []:=by
 refine vG.c ?_;refine p6 (fun h=> ?_) (fun h=>absurd (by omega) hn);exact⟨_,rfl,[],rfl,tq⟩
def dq:Bs:=[99,124,119,123,242,107,111,197,48,1,103,43,254,215,171,118,202,130,201,125,250,89,71,240,173,212,162,175,156,164,114,192,183,253,147,38,54,63,247,204,52,165,229,241,113,216,49,21,4,199,35,195,24,150,5,154,7,18,128,226,235,39,178,117,9,131,44,26,27,110,90,160,82,59,214,179,41,227,47,132,83,209,0,237,32,252,177,91,106,203,190,57,74,76,88,207,208,239,170,251,67,77,51,133,69,249,2,127,80,60,159,168,81,163,64,143,146,157,56,245,188,182,218,33,16,255,243,210,205,12,19,236,95,151,68,23,196,167,126,61,100,93,25,115,96,129,79,220,34,42,144,136,70,238,184,20,222,94,11,219,224,50,58,10,73,6,36,92,194,211,172,98,145,149,228,121,231,200,55,109,141,213,78,169,108,86,244,234,101,122,174,8,186,120,37,46,28,166,180,198,232,221,116,31,75,189,139,138,112,62,181,102,72,3,246,14,97,53,87,185,134,193,29,158,225,248,152,17,105,217,142,148,155,30,135,233,206,85,40,223,140,161,137,13,191,230,66,104,65,153,45,15,176,84,187,22]
def dr:Bs:=[226,78,84,252,148,194,74,204,98,13,106,70,60,77,139,209,94,250,100,203,180,151,190,43,188,119,46,3,211,25,89,193,29,6,65,107,85,240,153,105,234,156,24,174,99,223,231,187,0,115,102,251,150,76,133,228,58,9,69,170,15,238,16,235,45,127,244,41,172,207,173,145,141,120,200,149,249,47,206,205,8,122,136,56,92,131,42,40,71,219,184,199,147,164,18,83,255,135,14,49,54,33,88,72,1,142,55,116,50,202,233,177,183,171,12,215,196,86,66,38,7,152,96,217,182,185,17,64,236,32,140,189,160,201,132,4,73,35,241,79,80,31,19,220,216,192,158,87,227,195,123,101,59,2,143,62,232,37,146,229,21,221,253,23,169,191,212,154,126,197,57,103,254,118,157,67,167,225,208,245,104,242,27,52,112,5,163,138,213,121,134,168,48,198,81,75,30,166,39,246,53,210,110,36,22,130,95,218,230,117,162,239,44,178,28,159,93,111,128,10,114,68,155,108,144,11,91,51,125,90,82,243,97,161,247,176,214,63,124,109,237,20,224,165,61,34,179,248,137,222,113,26,175,186,181,129]
def kf:Bs:=[82,9,106,213,48,54,165,56,191,64,163,158,129,243,215,251,124,227,57,130,155,47,255,135,52,142,67,68,196,222,233,203,84,123,148,50,166,194,35,61,238,76,149,11,66,250,195,78,8,46,161,102,40,217,36,178,118,91,162,73,109,139,209,37,114,248,246,100,134,104,152,22,212,164,92,204,93,101,182,146,108,112,72,80,253,237,185,218,94,21,70,87,167,141,157,132,144,216,171,0,140,188,211,10,247,228,88,5,184,179,69,6,208,44,30,143,202,63,15,2,193,175,189,3,1,19,138,107,58,145,17,65,79,103,220,234,151,242,207,206,240,180,230,115,150,172,116,34,231,173,53,133,226,249,55,232,28,117,223,110,71,241,26,113,29,41,197,137,111,183,98,14,170,24,190,27,252,86,62,75,198,210,121,32,154,219,192,254,120,205,90,244,31,221,168,51,136,7,199,49,177,18,16,89,39,128,236,95,96,81,127,169,25,181,74,13,45,229,122,159,147,201,156,239,160,224,59,77,174,42,245,176,200,235,187,60,131,83,153,97,23,43,4,126,186,119,214,38,225,105,20,99,85,33,12,125]
def kg:Bs:=[48,104,153,27,135,185,33,120,80,57,219,225,114,9,98,60,62,126,94,142,241,160,204,163,42,29,251,182,214,32,196,141,129,101,245,137,203,157,119,198,87,67,86,23,212,64,26,77,192,99,108,227,183,200,100,106,83,170,56,152,12,244,155,237,127,34,118,175,221,58,11,88,103,136,6,195,53,13,1,139,140,194,230,95,2,36,117,147,102,30,229,226,84,216,16,206,122,232,8,44,18,151,50,171,180,39,10,35,223,239,202,217,184,250,220,49,107,209,173,25,73,189,81,150,238,228,168,65,218,255,205,85,134,54,190,97,82,248,187,14,130,72,105,154,224,71,158,92,4,75,52,21,121,38,167,222,41,174,146,215,132,233,210,186,93,243,197,176,191,164,59,113,68,70,43,252,235,111,213,246,20,254,124,112,90,125,253,47,24,131,22,165,145,31,5,149,116,169,193,91,74,133,109,19,7,79,78,69,178,15,201,28,166,188,236,115,144,123,207,89,143,161,249,45,242,177,0,148,55,159,208,46,156,110,40,63,128,240,61,211,37,138,181,231,66,179,199,234,247,76,17,51,3,162,172,96]
theorem yv:bT 254 283 [241,227,199,143,31,62,124,248] 99 256=dq:=by decide +kernel
theorem yw:bT 247 283 [122,188,235,185,52,129,186,203] 226 256=dr:=by decide +kernel
theorem yn:dw dq 256=kf:=by decide +kernel
theorem yp:dw dr 256=kg:=by decide +kernel
theorem jg:dq.length=256:=by decide +kernel
theorem jh:dr.length=256:=by decide +kernel
theorem tE:kf.length=256:=by decide +kernel
theorem tF:kg.length=256:=by decide +kernel
theorem Ht:∀j,j<256->Zp j∈dq:=by decide +kernel
theorem Hv:∀j,j<256->Zp j∈dr:=by decide +kernel
theorem Hu:dq.Nodup:=by decide +kernel
theorem Hw:dr.Nodup:=by decide +kernel
theorem uh:b9 C 141 [] [] (.ret (.a [.z 256 (bv dq),.z 256 (bv dr),.z 256 (bv kf),.z 256 (bv kg)])) []:=by
 have m1:=zS (e:=254) (m:=283) (z:=99) (c:=99) (r0:=241) (r1:=227) (r2:=199) (r3:=143) (r4:=31) (r5:=62) (r6:=124) (r7:=248) rfl (by decide) (by decide) (by decide) (by decide);have m2:=zS (e:=247) (m:=283) (z:=226) (c:=226) (r0:=122) (r1:=188) (r2:=235) (r3:=185) (r4:=52) (r5:=129) (r6:=186) (r7:=203) rfl (by decide) (by decide) (by decide) (by decide);rw[yv]at m1;rw[yw]at m2;have b1:=zr (va:=sub (bv dq) 0 256) (g8 jg) jg Ht;have b2:=zr (va:=sub (bv dr) 0 256) (g8 jh) jh Hv;rw[yn]at b1;rw[yp]at b2;refine Qr.c ?_;refine⟨[],_,_,_,_,m1,rfl,rfl,?_⟩;refine⟨by decide,by decide,by decide,?_⟩;refine⟨[],_,_,_,_,m2,rfl,rfl,?_⟩;refine⟨by decide,by decide,by decide,?_⟩;refine⟨by decide,by decide,_,rfl,?_⟩;refine⟨[],_,_,_,_,b1,rfl,rfl,?_⟩;refine⟨by decide,by decide,by decide,?_⟩;refine⟨by decide,by decide,_,rfl,?_⟩;refine⟨[],_,_,_,_,b2,rfl,rfl,?_⟩;refine⟨by decide,by decide,by decide,?_⟩;refine⟨_,rfl,rfl,Zc _,_,rfl,rfl,?_⟩;refine⟨_,rfl,[],?_,tq⟩;show V.a [V.z 256 (sub (bv dq) 0 256),V.z 256 (sub (bv dr) 0 256),V.z 256 (sub (bv kf) 0 256),V.z 256 (sub (bv kg) 0 256)]=_;rw[g8 jg,g8 jh,g8 tE,g8 tF]
def Hy:List (List Nat):=[[3,4,6,8,9,13,14],[2,5,7,8,9,12,15],[1,4,6,10,11,12,15],[0,5,7,10,11,13,14],[0,2,5,8,11,14,15],[1,3,4,9,10,14,15],[0,2,7,9,10,12,13],[1,3,6,8,11,12,13],[0,1,4,7,10,13,15],[0,1,5,6,11,12,14],[2,3,5,6,8,13,15],[2,3,4,7,9,12,14],[1,2,6,7,9,11,12],[0,3,6,7,8,10,13],[0,3,4,5,9,11,14],[1,2,4,5,8,10,15]]
def y6 (i:Nat):List Nat:=Hy.getD i []
theorem yy:∀i,i<16->∀t,t<7->(y6 i).getD t 0<16:=by decide
theorem IU {i:Nat} (hi:i<16):b9 C 205 [i64 i] [] (.ret (.a [i64 ((y6 i).getD 0 0:Nat),i64 ((y6 i).getD 1 0:Nat),i64 ((y6 i).getD 2 0:Nat),i64 ((y6 i).getD 3 0:Nat),i64 ((y6 i).getD 4 0:Nat),i64 ((y6 i).getD 5 0:Nat),i64 ((y6 i).getD 6 0:Nat)])) []:=by
 rcases i with _|_|_|_|_|_|_|_|_|_|_|_|_|_|_|_|i
 ·exact ai.c ⟨Zc _,_,rfl,rfl,_,rfl,[],rfl,tq⟩
 ·exact ai.c ⟨Zc _,_,rfl,rfl,_,rfl,[],rfl,tq⟩
 ·exact ai.c ⟨Zc _,_,rfl,rfl,_,rfl,[],rfl,tq⟩
 ·exact ai.c ⟨Zc _,_,rfl,rfl,_,rfl,[],rfl,tq⟩
 ·exact ai.c ⟨Zc _,_,rfl,rfl,_,rfl,[],rfl,tq⟩
 ·exact ai.c ⟨Zc _,_,rfl,rfl,_,rfl,[],rfl,tq⟩
 ·exact ai.c ⟨Zc _,_,rfl,rfl,_,rfl,[],rfl,tq⟩
 ·exact ai.c ⟨Zc _,_,rfl,rfl,_,rfl,[],rfl,tq⟩
 ·exact ai.c ⟨Zc _,_,rfl,rfl,_,rfl,[],rfl,tq⟩
 ·exact ai.c ⟨Zc _,_,rfl,rfl,_,rfl,[],rfl,tq⟩
 ·exact ai.c ⟨Zc _,_,rfl,rfl,_,rfl,[],rfl,tq⟩
 ·exact ai.c ⟨Zc _,_,rfl,rfl,_,rfl,[],rfl,tq⟩
 ·exact ai.c ⟨Zc _,_,rfl,rfl,_,rfl,[],rfl,tq⟩
 ·exact ai.c ⟨Zc _,_,rfl,rfl,_,rfl,[],rfl,tq⟩
 ·exact ai.c ⟨Zc _,_,rfl,rfl,_,rfl,[],rfl,tq⟩
 ·exact ai.c ⟨Zc _,_,rfl,rfl,_,rfl,[],rfl,tq⟩
 ·omega
theorem Hx {i t:Nat} (ht:t<7):([i64 ((y6 i).getD 0 0:Nat),i64 ((y6 i).getD 1 0:Nat),i64 ((y6 i).getD 2 0:Nat),i64 ((y6 i).getD 3 0:Nat),i64 ((y6 i).getD 4 0:Nat),i64 ((y6 i).getD 5 0:Nat),i64 ((y6 i).getD 6 0:Nat)]:List V)[t]? =some (i64 ((y6 i).getD t 0:Nat)):=by
 rcases t with _|_|_|_|_|_|_|t;all_goals first|rfl|omega
def T5 (n:Nat) (f:Nat->Nat->UInt8) (K i k:Nat):Bs:=(List.range n).map fun p=>if p<i then f p K else if p=i then f p k else 0
theorem yD (n f K i k):(T5 n f K i k).length=n:=by simp[T5]
theorem yC {n} {f:Nat->Nat->UInt8} {K i k} (h:i<n):(T5 n f K i k)[i]? =some (f i k):=by simp[T5,h]
theorem yF {n} {f:Nat->Nat->UInt8} {K i k} (h:i<n) {x:UInt8} (hx:x=f i (k+1)):(T5 n f K i k).set i x=T5 n f K i (k+1):=by
 subst hx;apply Zw (by simp[T5]);intro p h1 h2;simp only[T5,Z2,Zz,Zy];by_cases h:i=p
 ·subst h;simp
 ·simp[h,show ¬p=i from fun e=>h e.symm]
theorem yE {n} {f:Nat->Nat->UInt8} {K i} (h0:∀p,f p 0=0):T5 n f K i K=T5 n f K (i+1) 0:=by
 unfold T5;apply Zu;intro p hp;by_cases h1:p<i
 ·rw[if_pos h1,if_pos (by omega)]
 ·by_cases h2:p=i
  ·rw[if_neg h1,if_pos h2,if_pos (by omega)]
  ·rw[if_neg h1,if_neg h2,if_neg (by omega)];by_cases h3:p=i+1
   ·rw[if_pos h3,h0]
   ·rw[if_neg h3]
theorem yG {n} {f:Nat->Nat->UInt8} {K} (h0:∀p,f p 0=0):T5 n f K 0 0=Zo n 0:=by
 apply Zw (by simp[T5]);intro p h1 h2;simp only[T5,Zz,Zy,List.getElem_replicate];rw[if_neg (by omega)];split
 ·exact h0 _
 ·rfl
theorem yB {n} {f:Nat->Nat->UInt8} {K}:T5 n f K n 0=(List.range n).map fun p=>f p K:=by
 unfold T5;apply Zu;intro p hp;rw[if_pos (Z5.1 hp)]
def aX (b:Bs) (p k:Nat):UInt8:=(List.range k).foldl (fun s t=>s^^^b.getD ((y6 p).getD t 0) 0) 0
theorem yA (b p k):aX b p (k+1)=aX b p k^^^b.getD ((y6 p).getD k 0) 0:=by simp[aX,Zn]
def H9 (b:Bs):Bs:=(List.range 16).map fun p=>aX b p 7
theorem tG (b):(H9 b).length=16:=by simp[H9]
theorem zq {va:List Value} {b:Bs} (ha:va=bv b) (hb:b.length=16):b9 C 146 [.z 16 va] [] (.ret (.t [.o 1 (.k 0) 0 16,bool true])) [.sc (bv (H9 b))]:=by
 subst ha;have h0:∀p,aX b p 0=0:=fun _=>rfl;refine Qo.c ?_;refine⟨by decide,by decide,by decide,?_⟩;refine m9 (fun i=>⟨[(0,.z 16 (bv b)),(4,.o 1 (.k 0) 0 16),(13,i64 16),(14,i64 i)],[.sc (bv (T5 16 (aX b) 7 i 0))]⟩) 16 ⟨[.d 11 0],⟨rfl,rfl,rfl,rfl,tq⟩,⟨_,rfl,i6 (by rw[yG h0];exact U4 16)⟩,tq⟩ fun i hi=> ?_;refine d9 (fun h=> ?_) (fun h=> ?_)
 ·have d8:i<16:=(by omega);refine⟨[],_,_,_,_,IU d8,rfl,rfl,?_⟩;refine m9 (fun k=>⟨[(0,.z 16 (bv b)),(4,.o 1 (.k 0) 0 16),(5,i64 i),(13,i64 16),(14,i64 i),(18,.a [i64 ((y6 i).getD 0 0:Nat),i64 ((y6 i).getD 1 0:Nat),i64 ((y6 i).getD 2 0:Nat),i64 ((y6 i).getD 3 0:Nat),i64 ((y6 i).getD 4 0:Nat),i64 ((y6 i).getD 5 0:Nat),i64 ((y6 i).getD 6 0:Nat)]),(19,i64 k)],[.sc (bv (T5 16 (aX b) 7 i k))]⟩) 7 ⟨[.k 0],⟨rfl,rfl,rfl,rfl,rfl,rfl,rfl,tq⟩,⟨_,rfl,rfl⟩,tq⟩ fun k hk=> ?_;refine d9 (fun h=> ?_) (fun h=> ?_)
  ·have hkl:k<7:=(by omega);have hs:=yy i d8 k hkl;refine⟨by omega,by omega,?_⟩;refine⟨_,by rw[Zb,Zd];exact Hx hkl,?_⟩;refine⟨by omega,by omega,?_⟩;refine⟨_,by rw[Zb,Zd,Ze];exact nC (yC d8),?_⟩;refine⟨by omega,by omega,?_⟩;refine⟨_,by rw[Zb];exact p9 (by omega),?_⟩;refine⟨by omega,by omega,by rw[j6,yD];omega,?_⟩;refine⟨k+1,by omega,by omega,[.k 0],⟨rfl,rfl,rfl,rfl,rfl,rfl,f8 (by simp(disch:=omega)only[Za];omega),tq⟩,⟨_,rfl,i6 ?_⟩,tq⟩;rw[Zb,Zd,Ze,o5,L4,yF d8 (yA _ _ _).symm]
  ·obtain rfl:k=7:=(by omega);refine⟨i+1,by omega,by omega,[.k 0],⟨rfl,rfl,rfl,f8 (by simp(disch:=omega)only[Za];omega),tq⟩,⟨_,rfl,i6 ?_⟩,tq⟩;rw[yE h0]
 ·obtain rfl:i=16:=(by omega);refine⟨_,rfl,[.k 0],rfl,⟨_,rfl,i6 ?_⟩,tq⟩;rw[yB];rfl
def gH (k:Nat):Bs:=if k=0 then dq else if k=1 then dr else if k=2 then kf else kg
theorem ym (k:Nat):(gH k).length=256:=by
 unfold gH
 repeat' split
 ·exact jg
 ·exact jh
 ·exact tE
 ·exact tF
abbrev D2 (k:Nat):V:= .z 256 (bv (gH k))
abbrev je:V:= .a [D2 0,D2 1,D2 2,D2 3]
theorem yl {k:Nat} (h:k<4):([D2 0,D2 1,D2 2,D2 3]:List V)[k]? =some (D2 k):=O5 (f:=D2) rfl rfl rfl rfl h
def G7 (k:Nat) (b:Bs) (n:Nat):Bs:=(List.range n).map fun i=>(gH ((i+2*(k-1))%4)).getD (b.getD i 0).toNat 0
theorem R4 (k b n):(G7 k b n).length=n:=by simp[G7]
theorem yr (k b n):G7 k b (n+1)=G7 k b n++[(gH ((n+2*(k-1))%4)).getD (b.getD n 0).toNat 0]:=by simp[G7,Zn]
theorem pK {va:List Value} {b:Bs} {k:Nat} (ha:va=bv b) (hb:b.length=16) (h1:1<=k) (h2:k<=2):b9 C 145 [je,i64 k,.z 16 va] [] (.ret (.o 1 (.k 0) 0 16)) [.sc (bv (G7 k b 16))]:=by
 subst ha;refine Qp.c ?_;refine⟨by decide,by decide,by decide,?_⟩;refine m9 (fun i=>⟨[(1,i64 k),(3,.p (.k 1) 0),(7,.o 1 (.k 0) 0 16),(13,.z 16 (bv b)),(14,i64 16),(15,i64 i)],[.sc (bv (G7 k b i++Zo (16-i) 0)),.mx [D2 0,D2 1,D2 2,D2 3]]⟩) 16 ⟨[.d 12 0,.d 3 0],⟨rfl,rfl,rfl,rfl,rfl,rfl,tq⟩,⟨_,rfl,i6 (by show Zo 16 _=_;exact U4 16)⟩,⟨_,rfl,rfl⟩,tq⟩ fun i hi=> ?_;refine d9 (fun h=> ?_) (fun h=> ?_)
 ·have d8:i<16:=(by omega);have e1:(I6.wrap ((i:Int)+I6.wrap (2*I6.wrap ((k:Int)-1)))).tmod 4=(((i+2*(k-1))%4:Nat):Int):=by
   rw[Za ((k:Int)-1) (by omega),Za (2*((k:Int)-1)) (by omega),Za _ (by omega),Zg (by omega)];omega
  have e2:=Zr (i+2*(k-1)) (show 4>0 by decide);refine⟨by omega,by omega,?_⟩;refine⟨_,by rw[Zb];exact p9 (by omega),?_⟩;have hx:=(b.getD i 0).toNat_lt;refine⟨by decide,by rw[e1];omega,by rw[e1];omega,?_⟩;refine⟨_,by rw[e1,Zb,Zd,Ze];exact yl e2,?_⟩;refine⟨by omega,by show _<((256:Nat):Int);omega,?_⟩;refine⟨_,by rw[Zb];exact p9 (by rw[ym];omega),?_⟩;refine⟨by omega,by omega,by rw[j6,Zm,R4,Zt];omega,?_⟩;refine⟨i+1,by omega,by omega,[.k 0,.k 1],⟨rfl,rfl,rfl,rfl,rfl,f8 (by simp(disch:=omega)only[Za];omega),tq⟩,⟨_,rfl,i6 ?_⟩,⟨_,rfl,rfl⟩,tq⟩;rw[Zb,Zd,Ze,og (R4 _ _ _) d8,yr]
 ·obtain rfl:i=16:=(by omega);refine⟨_,rfl,[.k 0],rfl,⟨_,rfl,i6 ?_⟩,tq⟩;simp
def N8 (k:Nat) (b key:Bs):Bs:=H9 (G7 k (j9 b key) 16)
theorem D9 (k b key):(N8 k b key).length=16:=tG _
theorem ez {va vk:List Value} {b key:Bs} {k:Nat} (ha:va=bv b) (hk:vk=bv key) (hb:b.length=16) (hkl:key.length=16) (h1:1<=k) (h2:k<=2):b9 C 143 [je,i64 k,.z 16 va,.z 16 vk] [] (.ret (.o 1 (.k 0) 0 16)) [.sc (bv (N8 k b key))]:=by
 refine Qq.c ?_;refine⟨[],_,_,_,_,N4 ha hk hb hkl (by decide),rfl,rfl,?_⟩;refine⟨_,rfl,rfl,?_⟩;have hx:(j9 b key).length=16:=B5 hb hkl;refine⟨[],_,_,_,_,pK (b:=j9 b key) (k:=k) (g8 hx) hx h1 h2,rfl,rfl,?_⟩;have hl:=R4 k (j9 b key) 16;refine⟨[],_,_,_,_,zq (b:=G7 k (j9 b key) 16) (g8 hl) hl,rfl,rfl,?_⟩;exact⟨_,rfl,[.d 20 0],rfl,⟨_,rfl,rfl⟩,tq⟩
def Hn:List (Bs):=[[81,124,193,183,39,34,10,148,254,19,171,232,250,154,110,224],[109,177,74,204,158,33,200,32,255,40,177,213,239,93,226,176],[219,146,55,29,33,38,233,112,3,36,151,117,4,232,201,14]]
def aC (i:Nat):Bs:=Hn.getD i []
theorem H8:∀i,i<3->(aC i).length=16:=by decide
abbrev Q9 (i:Nat):V:= .z 16 (bv (aC i))
def a3 (i:Nat):B:=match i with
 |0=> .sc [.slice none 0 0,.slice none 0 0,.slice none 0 0]
 |1=> .mx [Q9 0,g9,g9]
 |2=> .mx [Q9 0,Q9 1,g9]
 |_=> .mx [Q9 0,Q9 1,Q9 2]
theorem ui:b9 C 204 [] [] (.ret (.a [Q9 0,Q9 1,Q9 2])) []:=by
 refine Qs.c ?_;refine m9 (fun i=>⟨[(0,.p (.k 0) 0),(6,.a [u64 5871781006564002452,u64 18308165927316385504,u64 7904181063698728992,u64 18386141011142107824,u64 15821769039155751280,u64 226472410124699918]),(7,i64 i)],[a3 i]⟩) 3 ⟨[.d 0 0],⟨rfl,rfl,rfl,tq⟩,⟨_,rfl,rfl⟩,tq⟩ fun i hi=> ?_;rcases i with _|_|_|_|i
 ·refine⟨by decide,by decide,_,rfl,rfl,Zc _,?_⟩;refine⟨by decide,by decide,_,rfl,?_⟩;refine⟨[],_,_,_,_,kL (v:=5871781006564002452) rfl,rfl,rfl,?_⟩;refine⟨by decide,by decide,_,rfl,?_⟩;refine⟨[],_,_,_,_,kL (v:=18308165927316385504) rfl,rfl,rfl,?_⟩;refine⟨by decide,by decide,by decide,?_⟩;refine⟨by decide,by decide,by decide,?_⟩;refine⟨1,by decide,by decide,[.k 0],⟨rfl,rfl,rfl,tq⟩,⟨_,rfl,?_⟩,tq⟩;have he:sub (sub (bv (q7 5871781006564002452 8)) 0 8++sub (bv (q7 18308165927316385504 8)) 0 8) 0 16=bv (aC 0):=by
   rw[g8 (A2 _ _),g8 (A2 _ _),B7,show q7 5871781006564002452 8++q7 18308165927316385504 8=aC 0 by decide +kernel,g8 (H8 0 (by decide))]
  show B.mx [V.z 16 (sub (sub (bv (q7 5871781006564002452 8)) 0 8++sub (bv (q7 18308165927316385504 8)) 0 8) 0 16),g9,g9]=_;rw[he];rfl
 ·refine⟨by decide,by decide,_,rfl,rfl,Zc _,?_⟩;refine⟨by decide,by decide,_,rfl,?_⟩;refine⟨[],_,_,_,_,kL (v:=7904181063698728992) rfl,rfl,rfl,?_⟩;refine⟨by decide,by decide,_,rfl,?_⟩;refine⟨[],_,_,_,_,kL (v:=18386141011142107824) rfl,rfl,rfl,?_⟩;refine⟨by decide,by decide,by decide,?_⟩;refine⟨by decide,by decide,by decide,?_⟩;refine⟨2,by decide,by decide,[.k 0],⟨rfl,rfl,rfl,tq⟩,⟨_,rfl,?_⟩,tq⟩;have he:sub (sub (bv (q7 7904181063698728992 8)) 0 8++sub (bv (q7 18386141011142107824 8)) 0 8) 0 16=bv (aC 1):=by
   rw[g8 (A2 _ _),g8 (A2 _ _),B7,show q7 7904181063698728992 8++q7 18386141011142107824 8=aC 1 by decide +kernel,g8 (H8 1 (by decide))]
  show B.mx [Q9 0,V.z 16 (sub (sub (bv (q7 7904181063698728992 8)) 0 8++sub (bv (q7 18386141011142107824 8)) 0 8) 0 16),g9]=_;rw[he];rfl
 ·refine⟨by decide,by decide,_,rfl,rfl,Zc _,?_⟩;refine⟨by decide,by decide,_,rfl,?_⟩;refine⟨[],_,_,_,_,kL (v:=15821769039155751280) rfl,rfl,rfl,?_⟩;refine⟨by decide,by decide,_,rfl,?_⟩;refine⟨[],_,_,_,_,kL (v:=226472410124699918) rfl,rfl,rfl,?_⟩;refine⟨by decide,by decide,by decide,?_⟩;refine⟨by decide,by decide,by decide,?_⟩;refine⟨3,by decide,by decide,[.k 0],⟨rfl,rfl,rfl,tq⟩,⟨_,rfl,?_⟩,tq⟩;have he:sub (sub (bv (q7 15821769039155751280 8)) 0 8++sub (bv (q7 226472410124699918 8)) 0 8) 0 16=bv (aC 2):=by
   rw[g8 (A2 _ _),g8 (A2 _ _),B7,show q7 15821769039155751280 8++q7 226472410124699918 8=aC 2 by decide +kernel,g8 (H8 2 (by decide))]
  show B.mx [Q9 0,Q9 1,V.z 16 (sub (sub (bv (q7 15821769039155751280 8)) 0 8++sub (bv (q7 226472410124699918 8)) 0 8) 0 16)]=_;rw[he];rfl
 ·refine⟨_,rfl,rfl,Zc _,_,rfl,rfl,?_⟩;exact⟨_,rfl,[],rfl,tq⟩
 ·omega
def dp (key:Bs):Bs:=key.drop 16++Zo (32-key.length) 0
def i9 (q:Nat) (key:Bs):Nat->Bs×Bs
 |0=>(key.take 16,dp key)
 |i+1=>(j9 (N8 (1+i%2) (i9 q key i).1 (aC ((i+q)%3))) (i9 q key i).2,(i9 q key i).1)
theorem D8 (q:Nat) {key:Bs} (h:16<=key.length) (h2:key.length<=32):∀i,(i9 q key i).1.length=16/\(i9 q key i).2.length=16
 |0=>by
  constructor
  ·show(key.take 16).length=16;rw[List.length_take];omega
  ·show(dp key).length=16;rw[dp,Zm,List.length_drop,Zt];omega
 |i+1=>⟨B5 (D9 _ _ _) (D8 q h h2 i).2,(D8 q h h2 i).1⟩
def X6 (j:Nat):Int:=[-19, -31,61,31,19].getD j 0
def t7 (q:Nat) (key:Bs) (i:Nat):Bs:=j9 (i9 q key (i%4)).1 (M2 (i9 q key ((i+1)%4)).1 (X6 (i/4)%128).toNat)
def jf (q:Nat) (key:Bs) (n:Nat):List (Bs):=(List.range n).map (t7 q key)
theorem ki (q key n):jf q key (n+1)=jf q key n++[t7 q key n]:=by simp[jf,Zn]
theorem cz (q key n):(jf q key n).length=n:=by simp[jf]
abbrev o9 (l:Bs):V:= .z 16 (bv l)
def p7 (q:Nat) (key:Bs) (n:Nat):List V:=(jf q key n).map o9
theorem cy (H d7) (q key n):(p7 q key n).map (p5 H d7 6)=p7 q key n:=by
 unfold p7;rw[List.map_map];exact Zu fun _ _=>rfl
theorem tD {j:Nat} (h:j<5):([i64 (-19),i64 (-31),i64 61,i64 31,i64 19]:List V)[j]? =some (i64 (X6 j)):=by
 rcases j with _|_|_|_|_|j;all_goals first|rfl|omega
theorem ke {j:Nat} (h:j<5): -9223372036854775808<=X6 j/\X6 j<=9223372036854775807:=by
 rcases j with _|_|_|_|_|j;all_goals first|decide|omega
theorem uR {n:Nat} {va:List Value} {v:Bs} (ha:va=bv v) (hv:v.length=n) (h:n<=16):sub ((Zo 16 (Value.int .u8 0)).take 0++va.take (min n 16)++(Zo 16 (Value.int .u8 0)).drop (0+min n 16)) 0 16=bv (v++Zo (16-n) 0):=by
 subst ha;rw[Nat.min_eq_left h,List.take_zero,List.nil_append,Ze,List.drop_replicate,Z4 (by rw[j6];omega),U4,B7,g8 (by rw[Zm,Zt];omega)]
theorem uS {n:Nat} {v:Bs} (hv:v.length=n) (h:16<=n):sub ((Zo 16 (Value.int .u8 0)).take 0++(bv v).take (min n 16)++(Zo 16 (Value.int .u8 0)).drop (0+min n 16)) 0 16=bv (v.take 16):=by
 have e:(bv v).take 16=bv (v.take 16):=by simp[bv,List.map_take]
 rw[Nat.min_eq_right h,List.take_zero,List.nil_append,Ze,List.drop_replicate,Nat.sub_self,List.replicate_zero,List.append_nil,e,g8 (by rw[List.length_take];omega)]
def tI (q:Nat) (key:Bs) (i:Nat):B:=match i with
 |0=> .mx [o9 (i9 q key 0).1,g9,g9,g9]
 |1=> .mx [o9 (i9 q key 0).1,o9 (i9 q key 1).1,g9,g9]
 |2=> .mx [o9 (i9 q key 0).1,o9 (i9 q key 1).1,o9 (i9 q key 2).1,g9]
 |_=> .mx [o9 (i9 q key 0).1,o9 (i9 q key 1).1,o9 (i9 q key 2).1,o9 (i9 q key 3).1]
theorem IF {va:List Value} {key:Bs} (ha:va=bv key) (hk:key.length=16):b9 C 142 [je,.z 16 va] [] (.ret (.o 1 (.k 0) 0 13)) [.mx (p7 0 key 13)]:=by
 subst ha;refine vq.c ?_;refine bn 0 rfl 13 (fun r=>⟨[(5,i64 0),(7,.p (.k 1) 0),(10,.o 1 (.k 0) 0 r),(11,.p (.k 2) 0),(12,i64 r)],[.mx (p7 0 key r),.mx [o9 (i9 0 key 0).1,o9 (i9 0 key 1).1,o9 (i9 0 key 2).1,o9 (i9 0 key 3).1],.mx [i64 (-19),i64 (-31),i64 61,i64 31,i64 19]]⟩) ?_ fun r hr=> ?_
 ·refine⟨by decide,?_⟩;refine⟨[],_,_,_,_,ui,rfl,rfl,?_⟩;refine⟨Zc _,by decide,by decide,by decide,?_⟩;refine⟨Zc _,?_⟩;refine⟨by decide,by decide,_,rfl,?_⟩;refine⟨by rw[j6,hk],by decide,?_⟩;refine⟨by decide,by decide,by decide,?_⟩;refine⟨by decide,by omega,Zc _,Zc _,?_⟩;refine⟨by rw[o6,j6,m5,hk];rfl,by decide,?_⟩;refine m9 (fun i=>⟨[(2,.p (.k 0) 0),(5,i64 0),(6,.p (.k 1) 0),(7,.p (.k 2) 0),(8,o9 (i9 0 key i).2),(33,i64 i)],[.mx [D2 0,D2 1,D2 2,D2 3],.mx [Q9 0,Q9 1,Q9 2],tI 0 key i]⟩) 3 ⟨[.d 2 0,.d 6 0,.d 7 0],⟨rfl,rfl,rfl,rfl,?_,rfl,tq⟩,⟨_,rfl,rfl⟩,⟨_,rfl,rfl⟩,⟨_,rfl,?_⟩,tq⟩ fun i hi=> ?_
  ·show V.z 16 _=V.z 16 _;refine congrArg (V.z 16) (Eq.trans (uR (n:=0) (v:=sub key 16 0) (o6 _ _ _) (by rw[m5];omega) (by decide)) (congrArg bv ?_));show sub key 16 0++_=dp key;rw[dp,hk,M9 _ _ _ (by omega)]
  ·exact congrArg (fun z=>B.mx [V.z 16 z,g9,g9,g9]) (uS hk (by decide))
  rcases i with _|_|_|_|i
  ·refine⟨_,rfl,rfl,by decide,by decide,by decide,_,rfl,by decide,by decide,by decide,_,rfl,?_⟩;refine⟨[],_,_,_,_,ez (k:=1) (b:=(i9 0 key 0).1) (key:=aC 0) rfl rfl (D8 0 (by omega) (by omega) 0).1 (H8 0 (by decide)) (by decide) (by decide),rfl,rfl,?_⟩;refine⟨by decide,by decide,Zf rfl,?_⟩;refine⟨by decide,by decide,_,rfl,?_⟩;refine⟨[],_,_,_,_,N4 (a:=N8 1 (i9 0 key 0).1 (aC 0)) (b:=(i9 0 key 0).2) (g8 (D9 _ _ _)) rfl (D9 _ _ _) (D8 0 (by omega) (by omega) 0).2 (by decide),rfl,rfl,?_⟩;refine⟨by decide,by decide,Zf rfl,?_⟩;refine⟨by decide,by decide,_,rfl,?_⟩;refine⟨1,by decide,by decide,[.k 0,.k 1,.k 2],⟨rfl,rfl,rfl,rfl,rfl,rfl,tq⟩,⟨_,rfl,rfl⟩,⟨_,rfl,rfl⟩,⟨_,rfl,?_⟩,tq⟩;show B.mx [o9 (i9 0 key 0).1,V.z 16 (sub (bv (i9 0 key 1).1) 0 16),g9,g9]=_;rw[g8 (D8 0 (by omega) (by omega) 1).1];rfl
  ·refine⟨_,rfl,rfl,by decide,by decide,by decide,_,rfl,by decide,by decide,by decide,_,rfl,?_⟩;refine⟨[],_,_,_,_,ez (k:=2) (b:=(i9 0 key 1).1) (key:=aC 1) rfl rfl (D8 0 (by omega) (by omega) 1).1 (H8 1 (by decide)) (by decide) (by decide),rfl,rfl,?_⟩;refine⟨by decide,by decide,Zf rfl,?_⟩;refine⟨by decide,by decide,_,rfl,?_⟩;refine⟨[],_,_,_,_,N4 (a:=N8 2 (i9 0 key 1).1 (aC 1)) (b:=(i9 0 key 1).2) (g8 (D9 _ _ _)) rfl (D9 _ _ _) (D8 0 (by omega) (by omega) 1).2 (by decide),rfl,rfl,?_⟩;refine⟨by decide,by decide,Zf rfl,?_⟩;refine⟨by decide,by decide,_,rfl,?_⟩;refine⟨2,by decide,by decide,[.k 0,.k 1,.k 2],⟨rfl,rfl,rfl,rfl,rfl,rfl,tq⟩,⟨_,rfl,rfl⟩,⟨_,rfl,rfl⟩,⟨_,rfl,?_⟩,tq⟩;show B.mx [o9 (i9 0 key 0).1,o9 (i9 0 key 1).1,V.z 16 (sub (bv (i9 0 key 2).1) 0 16),g9]=_;rw[g8 (D8 0 (by omega) (by omega) 2).1];rfl
  ·refine⟨_,rfl,rfl,by decide,by decide,by decide,_,rfl,by decide,by decide,by decide,_,rfl,?_⟩;refine⟨[],_,_,_,_,ez (k:=1) (b:=(i9 0 key 2).1) (key:=aC 2) rfl rfl (D8 0 (by omega) (by omega) 2).1 (H8 2 (by decide)) (by decide) (by decide),rfl,rfl,?_⟩;refine⟨by decide,by decide,Zf rfl,?_⟩;refine⟨by decide,by decide,_,rfl,?_⟩;refine⟨[],_,_,_,_,N4 (a:=N8 1 (i9 0 key 2).1 (aC 2)) (b:=(i9 0 key 2).2) (g8 (D9 _ _ _)) rfl (D9 _ _ _) (D8 0 (by omega) (by omega) 2).2 (by decide),rfl,rfl,?_⟩;refine⟨by decide,by decide,Zf rfl,?_⟩;refine⟨by decide,by decide,_,rfl,?_⟩;refine⟨3,by decide,by decide,[.k 0,.k 1,.k 2],⟨rfl,rfl,rfl,rfl,rfl,rfl,tq⟩,⟨_,rfl,rfl⟩,⟨_,rfl,rfl⟩,⟨_,rfl,?_⟩,tq⟩;show B.mx [o9 (i9 0 key 0).1,o9 (i9 0 key 1).1,o9 (i9 0 key 2).1,V.z 16 (sub (bv (i9 0 key 3).1) 0 16)]=_;rw[g8 (D8 0 (by omega) (by omega) 3).1];rfl
  ·refine⟨Zc _,[(10,1,.mx [])],0,by decide,[.d 900000 0,.k 2,.d 11 0],⟨rfl,rfl,rfl,rfl,rfl,tq⟩,⟨_,rfl,rfl⟩,⟨_,rfl,rfl⟩,⟨_,rfl,rfl⟩,tq⟩
  ·omega
 ·have e1:((r:Int)).tmod 4=((r%4:Nat):Int):=by rw[Zg (by omega)];omega
  have e2:(I6.wrap ((r:Int)+1)).tmod 4=(((r+1)%4:Nat):Int):=by
   rw[Za _ (by omega),Zg (by omega)];omega
  have e3:I6.wrap (((r:Int)).tdiv 4)=((r/4:Nat):Int):=by
   rw[Zi (by omega),Za _ (by omega)];omega
  have m1:=Zr r (show 4>0 by decide);have m2:=Zr (r+1) (show 4>0 by decide);have hW:∀k,(i9 0 key k).1.length=16:=fun k=>(D8 0 (by omega) (by omega) k).1;refine⟨by decide,by decide,by rw[e1];omega,by rw[e1];omega,?_⟩;refine⟨_,by rw[e1,Zb,Zd,Ze];exact O5 (f:=fun k=>o9 (i9 0 key k).1) rfl rfl rfl rfl m1,?_⟩;refine⟨by rw[e2];omega,by rw[e2];omega,?_⟩;refine⟨_,by rw[e2,Zb,Zd,Ze];exact O5 (f:=fun k=>o9 (i9 0 key k).1) rfl rfl rfl rfl m2,?_⟩;refine⟨by decide,by rw[e3];omega,by rw[e3];omega,?_⟩;refine⟨_,by rw[e3,Zb,Zd,Ze];exact tD (by omega),?_⟩;refine⟨[],_,_,_,_,qg (b:=(i9 0 key ((r+1)%4)).1) (n:=X6 (r/4)) rfl (hW _) (by decide) (by decide) (ke (by omega)),rfl,rfl,?_⟩;refine⟨[],_,_,_,_,N4 (a:=(i9 0 key (r%4)).1) (b:=M2 (i9 0 key ((r+1)%4)).1 (X6 (r/4)%128).toNat) rfl (g8 (by rw[I7,hW])) (hW _) (by rw[I7,hW]) (by decide),rfl,rfl,?_⟩;refine⟨Zc _,by omega,by rw[p7,Zq,cz];omega,?_⟩;have hs0:sub (p7 0 key r) 0 (r*1)=p7 0 key r:=by rw[Zd,C3 (by rw[p7,Zq,cz])]
  have hst:p7 0 key r++[V.z 16 (sub (bv (t7 0 key r)) 0 16)]=p7 0 key (r+1):=by
   rw[g8 (by rw[t7];exact B5 (hW _) (by rw[I7,hW])),p7,p7,ki,Zl];rfl
  have he:I6.wrap (13+I6.wrap (2*0))=13:=by decide
  refine d9 (fun h=> ?_) (fun h=> ?_)
  ·rw[he,Za _ (by omega)]at h;refine⟨rfl,r+1,by omega,by omega,[.d 93 0,.k 1,.k 2],⟨rfl,rfl,rfl,rfl,f8 (by simp(disch:=omega)only[Za];omega),tq⟩,⟨_,rfl,?_⟩,⟨_,rfl,rfl⟩,⟨_,rfl,rfl⟩,tq⟩;show B.mx (Zv (p5 _ _ 6) (sub (p7 0 key r) 0 (r*1)++[V.o _ _ _ _]))=_;rw[Zl,hs0,cy];exact congrArg B.mx hst
  ·rw[he,Za _ (by omega)]at h;obtain rfl:r=12:=(by omega);refine⟨_,rfl,[.d 93 0],rfl,⟨_,rfl,?_⟩,tq⟩;show B.mx (Zv (p5 _ _ 6) (sub (p7 0 key 12) 0 (12*1)++[V.o _ _ _ _]))=_;rw[Zl,hs0,cy];exact congrArg B.mx hst
theorem IG {va:List Value} {key:Bs} (ha:va=bv key) (hk:key.length=24):b9 C 142 [je,.z 24 va] [] (.ret (.o 1 (.k 0) 0 15)) [.mx (p7 1 key 15)]:=by
 subst ha;refine vq.c ?_;refine bn 0 rfl 15 (fun r=>⟨[(5,i64 1),(7,.p (.k 1) 0),(10,.o 1 (.k 0) 0 r),(11,.p (.k 2) 0),(12,i64 r)],[.mx (p7 1 key r),.mx [o9 (i9 1 key 0).1,o9 (i9 1 key 1).1,o9 (i9 1 key 2).1,o9 (i9 1 key 3).1],.mx [i64 (-19),i64 (-31),i64 61,i64 31,i64 19]]⟩) ?_ fun r hr=> ?_
 ·refine⟨by decide,?_⟩;refine⟨[],_,_,_,_,ui,rfl,rfl,?_⟩;refine⟨Zc _,by decide,by decide,by decide,?_⟩;refine⟨Zc _,?_⟩;refine⟨by decide,by decide,_,rfl,?_⟩;refine⟨by rw[j6,hk],by decide,?_⟩;refine⟨by decide,by decide,by decide,?_⟩;refine⟨by decide,by omega,Zc _,Zc _,?_⟩;refine⟨by rw[o6,j6,m5,hk];rfl,by decide,?_⟩;refine m9 (fun i=>⟨[(2,.p (.k 0) 0),(5,i64 1),(6,.p (.k 1) 0),(7,.p (.k 2) 0),(8,o9 (i9 1 key i).2),(33,i64 i)],[.mx [D2 0,D2 1,D2 2,D2 3],.mx [Q9 0,Q9 1,Q9 2],tI 1 key i]⟩) 3 ⟨[.d 2 0,.d 6 0,.d 7 0],⟨rfl,rfl,rfl,rfl,?_,rfl,tq⟩,⟨_,rfl,rfl⟩,⟨_,rfl,rfl⟩,⟨_,rfl,?_⟩,tq⟩ fun i hi=> ?_
  ·show V.z 16 _=V.z 16 _;refine congrArg (V.z 16) (Eq.trans (uR (n:=8) (v:=sub key 16 8) (o6 _ _ _) (by rw[m5];omega) (by decide)) (congrArg bv ?_));show sub key 16 8++_=dp key;rw[dp,hk,M9 _ _ _ (by omega)]
  ·exact congrArg (fun z=>B.mx [V.z 16 z,g9,g9,g9]) (uS hk (by decide))
  rcases i with _|_|_|_|i
  ·refine⟨_,rfl,rfl,by decide,by decide,by decide,_,rfl,by decide,by decide,by decide,_,rfl,?_⟩;refine⟨[],_,_,_,_,ez (k:=1) (b:=(i9 1 key 0).1) (key:=aC 1) rfl rfl (D8 1 (by omega) (by omega) 0).1 (H8 1 (by decide)) (by decide) (by decide),rfl,rfl,?_⟩;refine⟨by decide,by decide,Zf rfl,?_⟩;refine⟨by decide,by decide,_,rfl,?_⟩;refine⟨[],_,_,_,_,N4 (a:=N8 1 (i9 1 key 0).1 (aC 1)) (b:=(i9 1 key 0).2) (g8 (D9 _ _ _)) rfl (D9 _ _ _) (D8 1 (by omega) (by omega) 0).2 (by decide),rfl,rfl,?_⟩;refine⟨by decide,by decide,Zf rfl,?_⟩;refine⟨by decide,by decide,_,rfl,?_⟩;refine⟨1,by decide,by decide,[.k 0,.k 1,.k 2],⟨rfl,rfl,rfl,rfl,rfl,rfl,tq⟩,⟨_,rfl,rfl⟩,⟨_,rfl,rfl⟩,⟨_,rfl,?_⟩,tq⟩;show B.mx [o9 (i9 1 key 0).1,V.z 16 (sub (bv (i9 1 key 1).1) 0 16),g9,g9]=_;rw[g8 (D8 1 (by omega) (by omega) 1).1];rfl
  ·refine⟨_,rfl,rfl,by decide,by decide,by decide,_,rfl,by decide,by decide,by decide,_,rfl,?_⟩;refine⟨[],_,_,_,_,ez (k:=2) (b:=(i9 1 key 1).1) (key:=aC 2) rfl rfl (D8 1 (by omega) (by omega) 1).1 (H8 2 (by decide)) (by decide) (by decide),rfl,rfl,?_⟩;refine⟨by decide,by decide,Zf rfl,?_⟩;refine⟨by decide,by decide,_,rfl,?_⟩;refine⟨[],_,_,_,_,N4 (a:=N8 2 (i9 1 key 1).1 (aC 2)) (b:=(i9 1 key 1).2) (g8 (D9 _ _ _)) rfl (D9 _ _ _) (D8 1 (by omega) (by omega) 1).2 (by decide),rfl,rfl,?_⟩;refine⟨by decide,by decide,Zf rfl,?_⟩;refine⟨by decide,by decide,_,rfl,?_⟩;refine⟨2,by decide,by decide,[.k 0,.k 1,.k 2],⟨rfl,rfl,rfl,rfl,rfl,rfl,tq⟩,⟨_,rfl,rfl⟩,⟨_,rfl,rfl⟩,⟨_,rfl,?_⟩,tq⟩;show B.mx [o9 (i9 1 key 0).1,o9 (i9 1 key 1).1,V.z 16 (sub (bv (i9 1 key 2).1) 0 16),g9]=_;rw[g8 (D8 1 (by omega) (by omega) 2).1];rfl
  ·refine⟨_,rfl,rfl,by decide,by decide,by decide,_,rfl,by decide,by decide,by decide,_,rfl,?_⟩;refine⟨[],_,_,_,_,ez (k:=1) (b:=(i9 1 key 2).1) (key:=aC 0) rfl rfl (D8 1 (by omega) (by omega) 2).1 (H8 0 (by decide)) (by decide) (by decide),rfl,rfl,?_⟩;refine⟨by decide,by decide,Zf rfl,?_⟩;refine⟨by decide,by decide,_,rfl,?_⟩;refine⟨[],_,_,_,_,N4 (a:=N8 1 (i9 1 key 2).1 (aC 0)) (b:=(i9 1 key 2).2) (g8 (D9 _ _ _)) rfl (D9 _ _ _) (D8 1 (by omega) (by omega) 2).2 (by decide),rfl,rfl,?_⟩;refine⟨by decide,by decide,Zf rfl,?_⟩;refine⟨by decide,by decide,_,rfl,?_⟩;refine⟨3,by decide,by decide,[.k 0,.k 1,.k 2],⟨rfl,rfl,rfl,rfl,rfl,rfl,tq⟩,⟨_,rfl,rfl⟩,⟨_,rfl,rfl⟩,⟨_,rfl,?_⟩,tq⟩;show B.mx [o9 (i9 1 key 0).1,o9 (i9 1 key 1).1,o9 (i9 1 key 2).1,V.z 16 (sub (bv (i9 1 key 3).1) 0 16)]=_;rw[g8 (D8 1 (by omega) (by omega) 3).1];rfl
  ·refine⟨Zc _,[(10,1,.mx [])],0,by decide,[.d 900000 0,.k 2,.d 11 0],⟨rfl,rfl,rfl,rfl,rfl,tq⟩,⟨_,rfl,rfl⟩,⟨_,rfl,rfl⟩,⟨_,rfl,rfl⟩,tq⟩
  ·omega
 ·have e1:((r:Int)).tmod 4=((r%4:Nat):Int):=by rw[Zg (by omega)];omega
  have e2:(I6.wrap ((r:Int)+1)).tmod 4=(((r+1)%4:Nat):Int):=by
   rw[Za _ (by omega),Zg (by omega)];omega
  have e3:I6.wrap (((r:Int)).tdiv 4)=((r/4:Nat):Int):=by
   rw[Zi (by omega),Za _ (by omega)];omega
  have m1:=Zr r (show 4>0 by decide);have m2:=Zr (r+1) (show 4>0 by decide);have hW:∀k,(i9 1 key k).1.length=16:=fun k=>(D8 1 (by omega) (by omega) k).1;refine⟨by decide,by decide,by rw[e1];omega,by rw[e1];omega,?_⟩;refine⟨_,by rw[e1,Zb,Zd,Ze];exact O5 (f:=fun k=>o9 (i9 1 key k).1) rfl rfl rfl rfl m1,?_⟩;refine⟨by rw[e2];omega,by rw[e2];omega,?_⟩;refine⟨_,by rw[e2,Zb,Zd,Ze];exact O5 (f:=fun k=>o9 (i9 1 key k).1) rfl rfl rfl rfl m2,?_⟩;refine⟨by decide,by rw[e3];omega,by rw[e3];omega,?_⟩;refine⟨_,by rw[e3,Zb,Zd,Ze];exact tD (by omega),?_⟩;refine⟨[],_,_,_,_,qg (b:=(i9 1 key ((r+1)%4)).1) (n:=X6 (r/4)) rfl (hW _) (by decide) (by decide) (ke (by omega)),rfl,rfl,?_⟩;refine⟨[],_,_,_,_,N4 (a:=(i9 1 key (r%4)).1) (b:=M2 (i9 1 key ((r+1)%4)).1 (X6 (r/4)%128).toNat) rfl (g8 (by rw[I7,hW])) (hW _) (by rw[I7,hW]) (by decide),rfl,rfl,?_⟩;refine⟨Zc _,by omega,by rw[p7,Zq,cz];omega,?_⟩;have hs0:sub (p7 1 key r) 0 (r*1)=p7 1 key r:=by rw[Zd,C3 (by rw[p7,Zq,cz])]
  have hst:p7 1 key r++[V.z 16 (sub (bv (t7 1 key r)) 0 16)]=p7 1 key (r+1):=by
   rw[g8 (by rw[t7];exact B5 (hW _) (by rw[I7,hW])),p7,p7,ki,Zl];rfl
  have he:I6.wrap (13+I6.wrap (2*1))=15:=by decide
  refine d9 (fun h=> ?_) (fun h=> ?_)
  ·rw[he,Za _ (by omega)]at h;refine⟨rfl,r+1,by omega,by omega,[.d 93 0,.k 1,.k 2],⟨rfl,rfl,rfl,rfl,f8 (by simp(disch:=omega)only[Za];omega),tq⟩,⟨_,rfl,?_⟩,⟨_,rfl,rfl⟩,⟨_,rfl,rfl⟩,tq⟩;show B.mx (Zv (p5 _ _ 6) (sub (p7 1 key r) 0 (r*1)++[V.o _ _ _ _]))=_;rw[Zl,hs0,cy];exact congrArg B.mx hst
  ·rw[he,Za _ (by omega)]at h;obtain rfl:r=14:=(by omega);refine⟨_,rfl,[.d 93 0],rfl,⟨_,rfl,?_⟩,tq⟩;show B.mx (Zv (p5 _ _ 6) (sub (p7 1 key 14) 0 (14*1)++[V.o _ _ _ _]))=_;rw[Zl,hs0,cy];exact congrArg B.mx hst
theorem IH {va:List Value} {key:Bs} (ha:va=bv key) (hk:key.length=32):b9 C 142 [je,.z 32 va] [] (.ret (.o 1 (.k 0) 0 17)) [.mx (p7 2 key 17)]:=by
 subst ha;refine vq.c ?_;refine bn 0 rfl 17 (fun r=>⟨[(5,i64 2),(7,.p (.k 1) 0),(10,.o 1 (.k 0) 0 r),(11,.p (.k 2) 0),(12,i64 r)],[.mx (p7 2 key r),.mx [o9 (i9 2 key 0).1,o9 (i9 2 key 1).1,o9 (i9 2 key 2).1,o9 (i9 2 key 3).1],.mx [i64 (-19),i64 (-31),i64 61,i64 31,i64 19]]⟩) ?_ fun r hr=> ?_
 ·refine⟨by decide,?_⟩;refine⟨[],_,_,_,_,ui,rfl,rfl,?_⟩;refine⟨Zc _,by decide,by decide,by decide,?_⟩;refine⟨Zc _,?_⟩;refine⟨by decide,by decide,_,rfl,?_⟩;refine⟨by rw[j6,hk],by decide,?_⟩;refine⟨by decide,by decide,by decide,?_⟩;refine⟨by decide,by omega,Zc _,Zc _,?_⟩;refine⟨by rw[o6,j6,m5,hk];rfl,by decide,?_⟩;refine m9 (fun i=>⟨[(2,.p (.k 0) 0),(5,i64 2),(6,.p (.k 1) 0),(7,.p (.k 2) 0),(8,o9 (i9 2 key i).2),(33,i64 i)],[.mx [D2 0,D2 1,D2 2,D2 3],.mx [Q9 0,Q9 1,Q9 2],tI 2 key i]⟩) 3 ⟨[.d 2 0,.d 6 0,.d 7 0],⟨rfl,rfl,rfl,rfl,?_,rfl,tq⟩,⟨_,rfl,rfl⟩,⟨_,rfl,rfl⟩,⟨_,rfl,?_⟩,tq⟩ fun i hi=> ?_
  ·show V.z 16 _=V.z 16 _;refine congrArg (V.z 16) (Eq.trans (uR (n:=16) (v:=sub key 16 16) (o6 _ _ _) (by rw[m5];omega) (by decide)) (congrArg bv ?_));show sub key 16 16++_=dp key;rw[dp,hk,M9 _ _ _ (by omega)]
  ·exact congrArg (fun z=>B.mx [V.z 16 z,g9,g9,g9]) (uS hk (by decide))
  rcases i with _|_|_|_|i
  ·refine⟨_,rfl,rfl,by decide,by decide,by decide,_,rfl,by decide,by decide,by decide,_,rfl,?_⟩;refine⟨[],_,_,_,_,ez (k:=1) (b:=(i9 2 key 0).1) (key:=aC 2) rfl rfl (D8 2 (by omega) (by omega) 0).1 (H8 2 (by decide)) (by decide) (by decide),rfl,rfl,?_⟩;refine⟨by decide,by decide,Zf rfl,?_⟩;refine⟨by decide,by decide,_,rfl,?_⟩;refine⟨[],_,_,_,_,N4 (a:=N8 1 (i9 2 key 0).1 (aC 2)) (b:=(i9 2 key 0).2) (g8 (D9 _ _ _)) rfl (D9 _ _ _) (D8 2 (by omega) (by omega) 0).2 (by decide),rfl,rfl,?_⟩;refine⟨by decide,by decide,Zf rfl,?_⟩;refine⟨by decide,by decide,_,rfl,?_⟩;refine⟨1,by decide,by decide,[.k 0,.k 1,.k 2],⟨rfl,rfl,rfl,rfl,rfl,rfl,tq⟩,⟨_,rfl,rfl⟩,⟨_,rfl,rfl⟩,⟨_,rfl,?_⟩,tq⟩;show B.mx [o9 (i9 2 key 0).1,V.z 16 (sub (bv (i9 2 key 1).1) 0 16),g9,g9]=_;rw[g8 (D8 2 (by omega) (by omega) 1).1];rfl
  ·refine⟨_,rfl,rfl,by decide,by decide,by decide,_,rfl,by decide,by decide,by decide,_,rfl,?_⟩;refine⟨[],_,_,_,_,ez (k:=2) (b:=(i9 2 key 1).1) (key:=aC 0) rfl rfl (D8 2 (by omega) (by omega) 1).1 (H8 0 (by decide)) (by decide) (by decide),rfl,rfl,?_⟩;refine⟨by decide,by decide,Zf rfl,?_⟩;refine⟨by decide,by decide,_,rfl,?_⟩;refine⟨[],_,_,_,_,N4 (a:=N8 2 (i9 2 key 1).1 (aC 0)) (b:=(i9 2 key 1).2) (g8 (D9 _ _ _)) rfl (D9 _ _ _) (D8 2 (by omega) (by omega) 1).2 (by decide),rfl,rfl,?_⟩;refine⟨by decide,by decide,Zf rfl,?_⟩;refine⟨by decide,by decide,_,rfl,?_⟩;refine⟨2,by decide,by decide,[.k 0,.k 1,.k 2],⟨rfl,rfl,rfl,rfl,rfl,rfl,tq⟩,⟨_,rfl,rfl⟩,⟨_,rfl,rfl⟩,⟨_,rfl,?_⟩,tq⟩;show B.mx [o9 (i9 2 key 0).1,o9 (i9 2 key 1).1,V.z 16 (sub (bv (i9 2 key 2).1) 0 16),g9]=_;rw[g8 (D8 2 (by omega) (by omega) 2).1];rfl
  ·refine⟨_,rfl,rfl,by decide,by decide,by decide,_,rfl,by decide,by decide,by decide,_,rfl,?_⟩;refine⟨[],_,_,_,_,ez (k:=1) (b:=(i9 2 key 2).1) (key:=aC 1) rfl rfl (D8 2 (by omega) (by omega) 2).1 (H8 1 (by decide)) (by decide) (by decide),rfl,rfl,?_⟩;refine⟨by decide,by decide,Zf rfl,?_⟩;refine⟨by decide,by decide,_,rfl,?_⟩;refine⟨[],_,_,_,_,N4 (a:=N8 1 (i9 2 key 2).1 (aC 1)) (b:=(i9 2 key 2).2) (g8 (D9 _ _ _)) rfl (D9 _ _ _) (D8 2 (by omega) (by omega) 2).2 (by decide),rfl,rfl,?_⟩;refine⟨by decide,by decide,Zf rfl,?_⟩;refine⟨by decide,by decide,_,rfl,?_⟩;refine⟨3,by decide,by decide,[.k 0,.k 1,.k 2],⟨rfl,rfl,rfl,rfl,rfl,rfl,tq⟩,⟨_,rfl,rfl⟩,⟨_,rfl,rfl⟩,⟨_,rfl,?_⟩,tq⟩;show B.mx [o9 (i9 2 key 0).1,o9 (i9 2 key 1).1,o9 (i9 2 key 2).1,V.z 16 (sub (bv (i9 2 key 3).1) 0 16)]=_;rw[g8 (D8 2 (by omega) (by omega) 3).1];rfl
  ·refine⟨Zc _,[(10,1,.mx [])],0,by decide,[.d 900000 0,.k 2,.d 11 0],⟨rfl,rfl,rfl,rfl,rfl,tq⟩,⟨_,rfl,rfl⟩,⟨_,rfl,rfl⟩,⟨_,rfl,rfl⟩,tq⟩
  ·omega
 ·have e1:((r:Int)).tmod 4=((r%4:Nat):Int):=by rw[Zg (by omega)];omega
  have e2:(I6.wrap ((r:Int)+1)).tmod 4=(((r+1)%4:Nat):Int):=by
   rw[Za _ (by omega),Zg (by omega)];omega
  have e3:I6.wrap (((r:Int)).tdiv 4)=((r/4:Nat):Int):=by
   rw[Zi (by omega),Za _ (by omega)];omega
  have m1:=Zr r (show 4>0 by decide);have m2:=Zr (r+1) (show 4>0 by decide);have hW:∀k,(i9 2 key k).1.length=16:=fun k=>(D8 2 (by omega) (by omega) k).1;refine⟨by decide,by decide,by rw[e1];omega,by rw[e1];omega,?_⟩;refine⟨_,by rw[e1,Zb,Zd,Ze];exact O5 (f:=fun k=>o9 (i9 2 key k).1) rfl rfl rfl rfl m1,?_⟩;refine⟨by rw[e2];omega,by rw[e2];omega,?_⟩;refine⟨_,by rw[e2,Zb,Zd,Ze];exact O5 (f:=fun k=>o9 (i9 2 key k).1) rfl rfl rfl rfl m2,?_⟩;refine⟨by decide,by rw[e3];omega,by rw[e3];omega,?_⟩;refine⟨_,by rw[e3,Zb,Zd,Ze];exact tD (by omega),?_⟩;refine⟨[],_,_,_,_,qg (b:=(i9 2 key ((r+1)%4)).1) (n:=X6 (r/4)) rfl (hW _) (by decide) (by decide) (ke (by omega)),rfl,rfl,?_⟩;refine⟨[],_,_,_,_,N4 (a:=(i9 2 key (r%4)).1) (b:=M2 (i9 2 key ((r+1)%4)).1 (X6 (r/4)%128).toNat) rfl (g8 (by rw[I7,hW])) (hW _) (by rw[I7,hW]) (by decide),rfl,rfl,?_⟩;refine⟨Zc _,by omega,by rw[p7,Zq,cz];omega,?_⟩;have hs0:sub (p7 2 key r) 0 (r*1)=p7 2 key r:=by rw[Zd,C3 (by rw[p7,Zq,cz])]
  have hst:p7 2 key r++[V.z 16 (sub (bv (t7 2 key r)) 0 16)]=p7 2 key (r+1):=by
   rw[g8 (by rw[t7];exact B5 (hW _) (by rw[I7,hW])),p7,p7,ki,Zl];rfl
  have he:I6.wrap (13+I6.wrap (2*2))=17:=by decide
  refine d9 (fun h=> ?_) (fun h=> ?_)
  ·rw[he,Za _ (by omega)]at h;refine⟨rfl,r+1,by omega,by omega,[.d 93 0,.k 1,.k 2],⟨rfl,rfl,rfl,rfl,f8 (by simp(disch:=omega)only[Za];omega),tq⟩,⟨_,rfl,?_⟩,⟨_,rfl,rfl⟩,⟨_,rfl,rfl⟩,tq⟩;show B.mx (Zv (p5 _ _ 6) (sub (p7 2 key r) 0 (r*1)++[V.o _ _ _ _]))=_;rw[Zl,hs0,cy];exact congrArg B.mx hst
  ·rw[he,Za _ (by omega)]at h;obtain rfl:r=16:=(by omega);refine⟨_,rfl,[.d 93 0],rfl,⟨_,rfl,?_⟩,tq⟩;show B.mx (Zv (p5 _ _ 6) (sub (p7 2 key 16) 0 (16*1)++[V.o _ _ _ _]))=_;rw[Zl,hs0,cy];exact congrArg B.mx hst
abbrev ek (q:Nat) (key:Bs) (n:Nat):V:= .q [D2 0,D2 1,D2 2,D2 3,.zz 1 n (p7 q key n)] 0
theorem IC {va:List Value}:b9 C 140 [.z 16 va] [] (.ret (bool true)) []:=vu.c ⟨by decide,_,rfl,[],rfl,tq⟩
theorem ID {va:List Value}:b9 C 140 [.z 24 va] [] (.ret (bool true)) []:=vu.c ⟨by decide,_,rfl,[],rfl,tq⟩
theorem IE {va:List Value}:b9 C 140 [.z 32 va] [] (.ret (bool true)) []:=vu.c ⟨by decide,_,rfl,[],rfl,tq⟩
theorem IJ {va:List Value} {key:Bs} (ha:va=bv key) (hk:key.length=16):b9 C 84 [.z 16 va] [] (.ret (.t [ek 0 key 13,i64 0])) []:=by
 refine vo.c ?_;refine⟨[],_,_,_,_,IC,rfl,rfl,?_⟩;refine⟨[],_,_,_,_,uh,rfl,rfl,?_⟩;refine⟨Zc _,?_⟩;refine⟨_,rfl,rfl,?_⟩;refine⟨_,rfl,rfl,?_⟩;refine⟨[],_,_,_,_,IF (va:=va) ha hk,rfl,rfl,?_⟩;exact⟨_,rfl,[],rfl,tq⟩
theorem IK {va:List Value} {key:Bs} (ha:va=bv key) (hk:key.length=24):b9 C 84 [.z 24 va] [] (.ret (.t [ek 1 key 15,i64 0])) []:=by
 refine vo.c ?_;refine⟨[],_,_,_,_,ID,rfl,rfl,?_⟩;refine⟨[],_,_,_,_,uh,rfl,rfl,?_⟩;refine⟨Zc _,?_⟩;refine⟨_,rfl,rfl,?_⟩;refine⟨_,rfl,rfl,?_⟩;refine⟨[],_,_,_,_,IG (va:=va) ha hk,rfl,rfl,?_⟩;exact⟨_,rfl,[],rfl,tq⟩
theorem IL {va:List Value} {key:Bs} (ha:va=bv key) (hk:key.length=32):b9 C 84 [.z 32 va] [] (.ret (.t [ek 2 key 17,i64 0])) []:=by
 refine vo.c ?_;refine⟨[],_,_,_,_,IE,rfl,rfl,?_⟩;refine⟨[],_,_,_,_,uh,rfl,rfl,?_⟩;refine⟨Zc _,?_⟩;refine⟨_,rfl,rfl,?_⟩;refine⟨_,rfl,rfl,?_⟩;refine⟨[],_,_,_,_,IH (va:=va) ha hk,rfl,rfl,?_⟩;exact⟨_,rfl,[],rfl,tq⟩
def T4 (q:Nat) (key b:Bs):Nat->Bs
 |0=>b
 |r+1=>N8 (1+r%2) (T4 q key b r) (t7 q key r)
def dZ (q:Nat) (key:Bs) (n:Nat) (b:Bs):Bs:=j9 (G7 2 (j9 (T4 q key b (n-2)) (t7 q key (n-2))) 16) (t7 q key (n-1))
def R3 (q:Nat) (key:Bs) (n:Nat) (b:Bs):Nat->Bs
 |0=>j9 (G7 1 (j9 b (t7 q key (n-1))) 16) (t7 q key (n-2))
 |i+1=>j9 (G7 (2-(n-3-i)%2) (H9 (R3 q key n b i)) 16) (t7 q key (n-3-i))
def gI (q:Nat) (key:Bs) (n:Nat) (b:Bs):Bs:=R3 q key n b (n-2)
structure bC (q:Nat) (key:Bs) (n:Nat):Prop where
 h1:16<=key.length
 h2:key.length<=32
 h3:13<=n
 h4:n<=17
theorem fB {q key n} (h:bC q key n) (i):(t7 q key i).length=16:=by
 have hW:∀k,(i9 q key k).1.length=16:=fun k=>(D8 q h.h1 h.h2 k).1;rw[t7];exact B5 (hW _) (by rw[I7,hW])
theorem nm {q key n b} (h:bC q key n) (hb:b.length=16):∀i,(T4 q key b i).length=16
 |0=>hb
 |i+1=>D9 _ _ _
theorem pu {q key n b} (h:bC q key n):∀i,(R3 q key n b i).length=16
 |0=>B5 (R4 _ _ _) (fB h _)
 |i+1=>B5 (R4 _ _ _) (fB h _)
theorem cw {q key n r} (h:r<n):(p7 q key n)[r]? =some (o9 (t7 q key r)):=by
 simp[p7,jf,h]
theorem IW {va vk:List Value} {b key:Bs} {k:Nat} {x:Int} (hx:x=(k:Nat)) (ha:va=bv b) (hk:vk=bv key) (hb:b.length=16) (hkl:key.length=16) (h1:1<=k) (h2:k<=2):b9 C 143 [je,i64 x,.z 16 va,.z 16 vk] [] (.ret (.o 1 (.k 0) 0 16)) [.sc (bv (N8 k b key))]:=by
 subst hx;exact ez ha hk hb hkl h1 h2
theorem II {va:List Value} {b:Bs} {k:Nat} {x:Int} (hx:x=(k:Nat)) (ha:va=bv b) (hb:b.length=16) (h1:1<=k) (h2:k<=2):b9 C 145 [je,i64 x,.z 16 va] [] (.ret (.o 1 (.k 0) 0 16)) [.sc (bv (G7 k b 16))]:=by
 subst hx;exact pK ha hb h1 h2
theorem IQ {va:List Value} {b key:Bs} {q n:Nat} (h:bC q key n) (ha:va=bv b) (hb:b.length=16):b9 C 85 [ek q key n,.z 16 va,bool false] [] (C6 16) [.sc (bv (dZ q key n b))]:=by
 subst ha;have h3:=h.h3;have h4:=h.h4;have kl:=fB h;have h':=h;refine vj.c ?_;refine bn 0 rfl 0 (fun _=>⟨[],[]⟩) ?_ fun r hr=>absurd hr (Nat.not_lt_zero _);refine⟨_,rfl,?_⟩;refine m9 (fun i=>⟨[(0,ek q key n),(1,o9 (T4 q key b i)),(8,i64 (n-1:Nat)),(9,i64 i)],[]⟩) (n-2) ⟨[],⟨rfl,rfl,?_,rfl,tq⟩,tq⟩ fun i hi=> ?_
 ·show i64 _=i64 _;rw[Za _ (by omega)];congr 2;omega
 have hel:=nm h hb i;have e0:I6.wrap (((n-1:Nat):Int)-1)=((n-2:Nat):Int):=by rw[Za _ (by omega)];omega
 refine d9 (fun h=> ?_) (fun h=> ?_)
 ·rw[e0]at h;have d8:i<n-2:=(by omega);have e1:I6.wrap (1+(i:Int).tmod 2)=((1+i%2:Nat):Int):=by
   rw[Zg (by omega),Za _ (by omega)];omega
  refine⟨_,rfl,rfl,by decide,_,rfl,by omega,by omega,?_⟩;refine⟨_,by rw[Zb,Zd];exact cw (by omega),?_⟩;refine⟨[],_,_,_,_,IW (b:=T4 q key b i) (key:=t7 q key i) (k:=1+i%2) e1 rfl rfl hel (kl i) (by omega) (by omega),rfl,rfl,?_⟩;refine⟨i+1,by omega,by omega,[],⟨rfl,?_,rfl,f8 (by simp(disch:=omega)only[Za];omega),tq⟩,tq⟩;show V.z 16 (sub (bv (T4 q key b (i+1))) 0 16)=_;rw[g8 (nm h' hb _)]
 ·rw[e0]at h;obtain rfl:i=n-2:=(by omega);refine⟨_,rfl,by omega,by omega,?_⟩;refine⟨_,by rw[Zb,Zd];exact cw (by omega),?_⟩;refine⟨[],_,_,_,_,N4 (a:=T4 q key b (n-2)) (b:=t7 q key (n-2)) rfl rfl hel (kl _) (by decide),rfl,rfl,?_⟩;have hx:=B5 hel (kl (n-2));refine⟨_,rfl,rfl,?_⟩;refine⟨[],_,_,_,_,pK (k:=2) (b:=j9 (T4 q key b (n-2)) (t7 q key (n-2))) (g8 hx) hx (by decide) (by decide),rfl,rfl,?_⟩;refine⟨_,rfl,by omega,by omega,?_⟩;refine⟨_,by rw[Zb,Zd];exact cw (by omega),?_⟩;have hl:=R4 2 (j9 (T4 q key b (n-2)) (t7 q key (n-2))) 16;refine⟨[],_,_,_,_,N4 (b:=t7 q key (n-1)) (g8 hl) rfl hl (kl _) (by decide),rfl,rfl,?_⟩;exact⟨_,rfl,[.d 68 0],rfl,⟨_,rfl,rfl⟩,tq⟩
theorem IP {va:List Value} {b key:Bs} {q n:Nat} (h:bC q key n) (ha:va=bv b) (hb:b.length=16):b9 C 85 [ek q key n,.z 16 va,bool true] [] (C6 16) [.sc (bv (gI q key n b))]:=by
 subst ha;have h3:=h.h3;have h4:=h.h4;have kl:=fB h;have h':=h;have e0:I6.wrap (((n-1:Nat):Int)-1)=((n-2:Nat):Int):=by rw[Za _ (by omega)];omega
 refine vj.c ?_;refine bn 0 rfl 1 (fun _=>⟨[(0,ek q key n),(1,o9 b),(8,i64 (n-1:Nat))],[]⟩) ?_ fun r hr=> ?_
 ·refine⟨_,rfl,?_⟩;refine⟨rfl,0,by decide,[],⟨rfl,rfl,?_,tq⟩,tq⟩;show i64 _=i64 _;rw[Za _ (by omega)];congr 2;omega
 refine⟨_,rfl,by omega,by omega,?_⟩;refine⟨_,by rw[Zb,Zd];exact cw (by omega),?_⟩;refine⟨[],_,_,_,_,N4 (a:=b) (b:=t7 q key (n-1)) rfl rfl hb (kl _) (by decide),rfl,rfl,?_⟩;have hx:=B5 hb (kl (n-1));refine⟨_,rfl,rfl,?_⟩;refine⟨[],_,_,_,_,pK (k:=1) (b:=j9 b (t7 q key (n-1))) (g8 hx) hx (by decide) (by decide),rfl,rfl,?_⟩;refine⟨_,rfl,by rw[e0];omega,by rw[e0];omega,?_⟩;refine⟨_,by rw[e0,Zb,Zd];exact cw (by omega),?_⟩;have hl:=R4 1 (j9 b (t7 q key (n-1))) 16;refine⟨[],_,_,_,_,N4 (b:=t7 q key (n-2)) (g8 hl) rfl hl (kl _) (by decide),rfl,rfl,?_⟩;refine m9 (fun i=>⟨[(0,ek q key n),(1,.o 1 (.k 0) 0 16),(9,i64 ((n:Int)-3-i))],[.sc (bv (R3 q key n b i))]⟩) (n-2) ⟨[.d 99 0],⟨rfl,rfl,f8 ?_,tq⟩,⟨_,rfl,rfl⟩,tq⟩ fun i hi=> ?_
 ·rw[Za _ (by omega)];omega
 have hdl:=pu (b:=b) h i;refine d9 (fun h=> ?_) (fun h=> ?_)
 ·obtain⟨r,er,hrn,hri⟩:∃r:Nat,(n:Int)-3-i=r/\r<=n-3/\r=n-3-i:=⟨n-3-i,by omega,by omega,rfl⟩;have hst:R3 q key n b (i+1)=j9 (G7 (2-r%2) (H9 (R3 q key n b i)) 16) (t7 q key r):=by rw[hri];rfl
  rw[er];have e1:I6.wrap (2-(r:Int).tmod 2)=((2-r%2:Nat):Int):=by
   rw[Zg (by omega),Za _ (by omega)];omega
  refine⟨[],_,_,_,_,zq (b:=R3 q key n b i) (g8 hdl) hdl,rfl,rfl,?_⟩;refine⟨_,rfl,rfl,by decide,?_⟩;have hm:=tG (R3 q key n b i);refine⟨[],_,_,_,_,II (k:=2-r%2) (b:=H9 (R3 q key n b i)) e1 (g8 hm) hm (by omega) (by omega),rfl,rfl,?_⟩;refine⟨_,rfl,by omega,by omega,?_⟩;refine⟨_,by rw[Zb,Zd];exact cw (by omega),?_⟩;have hl:=R4 (2-r%2) (H9 (R3 q key n b i)) 16;refine⟨[],_,_,_,_,N4 (b:=t7 q key r) (g8 hl) rfl hl (kl _) (by decide),rfl,rfl,?_⟩;refine⟨i+1,by omega,by omega,[.d 130 0],⟨rfl,rfl,f8 ?_,tq⟩,⟨_,rfl,i6 (by rw[hst])⟩,tq⟩
  ·rw[Za _ (by omega)];omega
 ·obtain rfl:i=n-2:=(by omega);exact⟨_,rfl,[.k 0],rfl,⟨_,rfl,rfl⟩,tq⟩
theorem IM {va:List Value} {key:Bs} {q n m:Nat} {back:Bool} (hn:m≠16):b9 C 85 [ek q key n,.z m va,bool back] [] V5 []:=by
 refine vj.c ?_;refine bn 0 rfl 0 (fun _=>⟨[],[]⟩) ?_ fun r hr=>absurd hr (Nat.not_lt_zero _);refine p6 (fun h=> ?_) (fun h=>absurd (by omega) hn);exact⟨_,rfl,[],rfl,tq⟩
abbrev gK:V:= .q [D2 0,D2 1,D2 2,D2 3] 0
theorem uz:b9 C 112 [] [] (.ret gK) []:=by
 have m1:=zY (e:=254) (m:=283) (z:=99) (c:=99) (r0:=241) (r1:=227) (r2:=199) (r3:=143) (r4:=31) (r5:=62) (r6:=124) (r7:=248) rfl (by decide) (by decide) (by decide) (by decide);have m2:=zY (e:=247) (m:=283) (z:=226) (c:=226) (r0:=122) (r1:=188) (r2:=235) (r3:=185) (r4:=52) (r5:=129) (r6:=186) (r7:=203) rfl (by decide) (by decide) (by decide) (by decide);rw[yv]at m1;rw[yw]at m2;have b1:=zX (va:=sub (bv dq) 0 256) (g8 jg) jg Hu;have b2:=zX (va:=sub (bv dr) 0 256) (g8 jh) jh Hw;rw[yn]at b1;rw[yp]at b2;refine Sy.c ?_;refine⟨[],_,_,_,_,m1,rfl,rfl,?_⟩;refine⟨[],_,_,_,_,m2,rfl,rfl,?_⟩;refine⟨[],_,_,_,_,b1,rfl,rfl,?_⟩;refine⟨[],_,_,_,_,b2,rfl,rfl,?_⟩;refine⟨_,rfl,[],?_,tq⟩;show V.q [V.z 256 (sub (bv dq) 0 256),V.z 256 (sub (bv dr) 0 256),V.z 256 (sub (bv kf) 0 256),V.z 256 (sub (bv kg) 0 256)] 0=_;rw[g8 jg,g8 jh,g8 tE,g8 tF];rfl
theorem Mv {i:Nat} (hi:i<16):b9 C 259 [i64 i] [] (.ret (.o 1 (.k 0) 0 7)) [.sc ([.int .i64 ((y6 i).getD 0 0:Nat),.int .i64 ((y6 i).getD 1 0:Nat),.int .i64 ((y6 i).getD 2 0:Nat),.int .i64 ((y6 i).getD 3 0:Nat),.int .i64 ((y6 i).getD 4 0:Nat),.int .i64 ((y6 i).getD 5 0:Nat),.int .i64 ((y6 i).getD 6 0:Nat)])]:=by
 rcases i with _|_|_|_|_|_|_|_|_|_|_|_|_|_|_|_|i
 ·exact aj.c ⟨_,rfl,[.d 6 0],rfl,⟨_,rfl,rfl⟩,tq⟩
 ·exact aj.c ⟨_,rfl,[.d 9 0],rfl,⟨_,rfl,rfl⟩,tq⟩
 ·exact aj.c ⟨_,rfl,[.d 12 0],rfl,⟨_,rfl,rfl⟩,tq⟩
 ·exact aj.c ⟨_,rfl,[.d 15 0],rfl,⟨_,rfl,rfl⟩,tq⟩
 ·exact aj.c ⟨_,rfl,[.d 18 0],rfl,⟨_,rfl,rfl⟩,tq⟩
 ·exact aj.c ⟨_,rfl,[.d 21 0],rfl,⟨_,rfl,rfl⟩,tq⟩
 ·exact aj.c ⟨_,rfl,[.d 24 0],rfl,⟨_,rfl,rfl⟩,tq⟩
 ·exact aj.c ⟨_,rfl,[.d 27 0],rfl,⟨_,rfl,rfl⟩,tq⟩
 ·exact aj.c ⟨_,rfl,[.d 30 0],rfl,⟨_,rfl,rfl⟩,tq⟩
 ·exact aj.c ⟨_,rfl,[.d 33 0],rfl,⟨_,rfl,rfl⟩,tq⟩
 ·exact aj.c ⟨_,rfl,[.d 36 0],rfl,⟨_,rfl,rfl⟩,tq⟩
 ·exact aj.c ⟨_,rfl,[.d 39 0],rfl,⟨_,rfl,rfl⟩,tq⟩
 ·exact aj.c ⟨_,rfl,[.d 42 0],rfl,⟨_,rfl,rfl⟩,tq⟩
 ·exact aj.c ⟨_,rfl,[.d 45 0],rfl,⟨_,rfl,rfl⟩,tq⟩
 ·exact aj.c ⟨_,rfl,[.d 48 0],rfl,⟨_,rfl,rfl⟩,tq⟩
 ·exact aj.c ⟨_,rfl,[.d 49 0],rfl,⟨_,rfl,rfl⟩,tq⟩
 ·omega
theorem Xx {i t:Nat} (ht:t<7):([.int .i64 ((y6 i).getD 0 0:Nat),.int .i64 ((y6 i).getD 1 0:Nat),.int .i64 ((y6 i).getD 2 0:Nat),.int .i64 ((y6 i).getD 3 0:Nat),.int .i64 ((y6 i).getD 4 0:Nat),.int .i64 ((y6 i).getD 5 0:Nat),.int .i64 ((y6 i).getD 6 0:Nat)]:List Value)[t]? =some (.int .i64 ((y6 i).getD t 0:Nat)):=by
 rcases t with _|_|_|_|_|_|_|t;all_goals first|rfl|omega
theorem zU {va:List Value} {b:Bs} (ha:va=bv b) (hb:b.length=16):b9 C 215 [.z 16 va] [] (.ret (.o 1 (.k 0) 0 16)) [.sc (bv (H9 b))]:=by
 subst ha;have h0:∀p,aX b p 0=0:=fun _=>rfl;refine Sz.c ?_;refine⟨by decide,by decide,by decide,?_⟩;refine m9 (fun i=>⟨[(0,.z 16 (bv b)),(3,.o 1 (.k 0) 0 16),(4,i64 i)],[.sc (bv (T5 16 (aX b) 7 i 0))]⟩) 16 ⟨[.d 7 0],⟨rfl,rfl,rfl,tq⟩,⟨_,rfl,i6 (by rw[yG h0];exact U4 16)⟩,tq⟩ fun i hi=> ?_;refine d9 (fun h=> ?_) (fun h=> ?_)
 ·have d8:i<16:=(by omega);refine⟨[],_,_,_,_,Mv d8,rfl,rfl,?_⟩;refine m9 (fun k=>⟨[(0,.z 16 (bv b)),(3,.o 1 (.k 0) 0 16),(4,i64 i),(5,.z 7 ([.int .i64 ((y6 i).getD 0 0:Nat),.int .i64 ((y6 i).getD 1 0:Nat),.int .i64 ((y6 i).getD 2 0:Nat),.int .i64 ((y6 i).getD 3 0:Nat),.int .i64 ((y6 i).getD 4 0:Nat),.int .i64 ((y6 i).getD 5 0:Nat),.int .i64 ((y6 i).getD 6 0:Nat)])),(6,i64 k)],[.sc (bv (T5 16 (aX b) 7 i k))]⟩) 7 ⟨[.k 0],⟨rfl,rfl,rfl,rfl,rfl,tq⟩,⟨_,rfl,rfl⟩,tq⟩ fun k hk=> ?_;refine d9 (fun h=> ?_) (fun h=> ?_)
  ·have hkl:k<7:=(by omega);have hs:=yy i d8 k hkl;refine⟨by omega,by omega,?_⟩;refine⟨_,by rw[Zb,Zd,Ze];exact nC (yC d8),?_⟩;refine⟨by omega,by omega,?_⟩;refine⟨_,by rw[Zb];exact Xx hkl,?_⟩;refine⟨by omega,by omega,?_⟩;refine⟨_,by rw[Zb];exact p9 (by omega),?_⟩;refine⟨by omega,by omega,by rw[j6,yD];omega,?_⟩;refine⟨k+1,by omega,by omega,[.k 0],⟨rfl,rfl,rfl,rfl,f8 (by simp(disch:=omega)only[Za];omega),tq⟩,⟨_,rfl,i6 ?_⟩,tq⟩;rw[Zb,Zd,Ze,o5,L4,yF d8 (yA _ _ _).symm]
  ·obtain rfl:k=7:=(by omega);refine⟨i+1,by omega,by omega,[.k 0],⟨rfl,rfl,f8 (by simp(disch:=omega)only[Za];omega),tq⟩,⟨_,rfl,i6 ?_⟩,tq⟩;rw[yE h0]
 ·obtain rfl:i=16:=(by omega);refine⟨_,rfl,[.k 0],rfl,⟨_,rfl,i6 ?_⟩,tq⟩;rw[yB];rfl
theorem Hm {k:Nat} (h:k<4):([D2 0,D2 1,D2 2,D2 3]:List V)[0+0+k]? =some (D2 k):=by
 rw[show 0+0+k=k by omega];exact yl h
theorem pS {va:List Value} {b:Bs} {k:Nat} {x:Int} (hx:x=(k:Nat)) (ha:va=bv b) (hb:b.length=16) (h1:1<=k) (h2:k<=2):b9 C 214 [gK,i64 x,.z 16 va] [] (.ret (.o 1 (.k 0) 0 16)) [.sc (bv (G7 k b 16))]:=by
 subst ha;subst hx;refine Sw.c ?_;refine⟨by decide,by decide,by decide,?_⟩;refine m9 (fun i=>⟨[(0,gK),(1,i64 k),(2,.z 16 (bv b)),(7,.o 1 (.k 0) 0 16),(8,i64 i)],[.sc (bv (G7 k b i++Zo (16-i) 0))]⟩) 16 ⟨[.d 11 0],⟨rfl,rfl,rfl,rfl,rfl,tq⟩,⟨_,rfl,i6 (by show Zo 16 _=_;exact U4 16)⟩,tq⟩ fun i hi=> ?_;refine d9 (fun h=> ?_) (fun h=> ?_)
 ·have d8:i<16:=(by omega);have e1:(I6.wrap ((i:Int)+I6.wrap (2*I6.wrap ((k:Int)-1)))).tmod 4=(((i+2*(k-1))%4:Nat):Int):=by
   rw[Za ((k:Int)-1) (by omega),Za (2*((k:Int)-1)) (by omega),Za _ (by omega),Zg (by omega)];omega
  have e2:=Zr (i+2*(k-1)) (show 4>0 by decide);have hx:=(b.getD i 0).toNat_lt;refine⟨by decide,by rw[e1];omega,by rw[e1];omega,?_⟩;refine⟨D2 ((i+2*(k-1))%4),by rw[e1,Zb,Zd];exact Hm e2,?_⟩;refine⟨by omega,by omega,?_⟩;refine⟨_,by rw[Zb];exact p9 (by omega),?_⟩;refine⟨by omega,by show _<((256:Nat):Int);omega,?_⟩;refine⟨_,by rw[Zb];exact p9 (by rw[ym];omega),?_⟩;refine⟨by omega,by omega,by rw[j6,Zm,R4,Zt];omega,?_⟩;refine⟨i+1,by omega,by omega,[.k 0],⟨rfl,rfl,rfl,rfl,f8 (by simp(disch:=omega)only[Za];omega),tq⟩,⟨_,rfl,i6 ?_⟩,tq⟩;rw[Zb,Zd,Ze,og (R4 _ _ _) d8,yr]
 ·obtain rfl:i=16:=(by omega);refine⟨_,rfl,[.k 0],rfl,⟨_,rfl,i6 ?_⟩,tq⟩;simp
theorem eC {va vk:List Value} {b key:Bs} {k:Nat} {x:Int} (hx:x=(k:Nat)) (ha:va=bv b) (hk:vk=bv key) (hb:b.length=16) (hkl:key.length=16) (h1:1<=k) (h2:k<=2):b9 C 172 [gK,i64 x,.z 16 va,.z 16 vk] [] (.ret (.o 1 (.k 0) 0 16)) [.sc (bv (N8 k b key))]:=by
 refine Sx.c ?_;refine⟨[],_,_,_,_,I0 ha hk hb hkl (by decide),rfl,rfl,?_⟩;have hx2:(j9 b key).length=16:=B5 hb hkl;refine⟨[],_,_,_,_,pS (b:=j9 b key) (k:=k) hx (g8 hx2) hx2 h1 h2,rfl,rfl,?_⟩;have hl:=R4 k (j9 b key) 16;refine⟨[],_,_,_,_,zU (b:=G7 k (j9 b key) 16) (g8 hl) hl,rfl,rfl,?_⟩;exact⟨_,rfl,[.d 15 0],rfl,⟨_,rfl,rfl⟩,tq⟩
theorem fG {i:Nat} {x:Int} (hx:x=(i:Nat)) (hi:i<5):b9 C 173 [i64 x] [] (.ret (.o 1 (.k 0) 0 16)) [.sc (bv (aC (i%3)))]:=by
 subst hx;have h0:bv (q7 5871781006564002452 8)++bv (q7 18308165927316385504 8)=bv (aC 0):=by
  rw[B7,show q7 5871781006564002452 8++q7 18308165927316385504 8=aC 0 by decide +kernel]
 have h1:bv (q7 7904181063698728992 8)++bv (q7 18386141011142107824 8)=bv (aC 1):=by
  rw[B7,show q7 7904181063698728992 8++q7 18386141011142107824 8=aC 1 by decide +kernel]
 have h2:bv (q7 15821769039155751280 8)++bv (q7 226472410124699918 8)=bv (aC 2):=by
  rw[B7,show q7 15821769039155751280 8++q7 226472410124699918 8=aC 2 by decide +kernel]
 rcases i with _|_|_|_|_|i
 ·refine nZ.c ?_;refine⟨by decide,by decide,by decide,_,rfl,?_⟩;refine⟨[],_,_,_,_,eE (v:=5871781006564002452) rfl,rfl,rfl,?_⟩;refine⟨by decide,by decide,by decide,_,rfl,?_⟩;refine⟨[],_,_,_,_,eE (v:=18308165927316385504) rfl,rfl,rfl,?_⟩;refine⟨by decide,by decide,by decide,?_⟩;refine⟨_,rfl,[.d 19 0],rfl,⟨_,rfl,i6 ?_⟩,tq⟩;show sub (bv (q7 5871781006564002452 8)) 0 8++sub (bv (q7 18308165927316385504 8)) 0 8=_;rw[g8 (A2 _ _),g8 (A2 _ _)];exact h0
 ·refine nZ.c ?_;refine⟨by decide,by decide,by decide,_,rfl,?_⟩;refine⟨[],_,_,_,_,eE (v:=7904181063698728992) rfl,rfl,rfl,?_⟩;refine⟨by decide,by decide,by decide,_,rfl,?_⟩;refine⟨[],_,_,_,_,eE (v:=18386141011142107824) rfl,rfl,rfl,?_⟩;refine⟨by decide,by decide,by decide,?_⟩;refine⟨_,rfl,[.d 19 0],rfl,⟨_,rfl,i6 ?_⟩,tq⟩;show sub (bv (q7 7904181063698728992 8)) 0 8++sub (bv (q7 18386141011142107824 8)) 0 8=_;rw[g8 (A2 _ _),g8 (A2 _ _)];exact h1
 ·refine nZ.c ?_;refine⟨by decide,by decide,by decide,_,rfl,?_⟩;refine⟨[],_,_,_,_,eE (v:=15821769039155751280) rfl,rfl,rfl,?_⟩;refine⟨by decide,by decide,by decide,_,rfl,?_⟩;refine⟨[],_,_,_,_,eE (v:=226472410124699918) rfl,rfl,rfl,?_⟩;refine⟨by decide,by decide,by decide,?_⟩;refine⟨_,rfl,[.d 19 0],rfl,⟨_,rfl,i6 ?_⟩,tq⟩;show sub (bv (q7 15821769039155751280 8)) 0 8++sub (bv (q7 226472410124699918 8)) 0 8=_;rw[g8 (A2 _ _),g8 (A2 _ _)];exact h2
 ·refine nZ.c ?_;refine⟨by decide,by decide,by decide,_,rfl,?_⟩;refine⟨[],_,_,_,_,eE (v:=5871781006564002452) rfl,rfl,rfl,?_⟩;refine⟨by decide,by decide,by decide,_,rfl,?_⟩;refine⟨[],_,_,_,_,eE (v:=18308165927316385504) rfl,rfl,rfl,?_⟩;refine⟨by decide,by decide,by decide,?_⟩;refine⟨_,rfl,[.d 19 0],rfl,⟨_,rfl,i6 ?_⟩,tq⟩;show sub (bv (q7 5871781006564002452 8)) 0 8++sub (bv (q7 18308165927316385504 8)) 0 8=_;rw[g8 (A2 _ _),g8 (A2 _ _)];exact h0
 ·refine nZ.c ?_;refine⟨by decide,by decide,by decide,_,rfl,?_⟩;refine⟨[],_,_,_,_,eE (v:=7904181063698728992) rfl,rfl,rfl,?_⟩;refine⟨by decide,by decide,by decide,_,rfl,?_⟩;refine⟨[],_,_,_,_,eE (v:=18386141011142107824) rfl,rfl,rfl,?_⟩;refine⟨by decide,by decide,by decide,?_⟩;refine⟨_,rfl,[.d 19 0],rfl,⟨_,rfl,i6 ?_⟩,tq⟩;show sub (bv (q7 7904181063698728992 8)) 0 8++sub (bv (q7 18386141011142107824 8)) 0 8=_;rw[g8 (A2 _ _),g8 (A2 _ _)];exact h1
 ·omega
theorem tO {j:Nat} (h:j<5):([.int .i64 (-19),.int .i64 (-31),.int .i64 61,.int .i64 31,.int .i64 19]:List Value)[j]? =some (.int .i64 (X6 j)):=by
 rcases j with _|_|_|_|_|j;all_goals first|rfl|omega
theorem xD {key:Bs} (h:16<=key.length):sub (sub ([]:List Value) 0 (0*1)++sub (bv key) 0 16) 0 16=bv (key.take 16):=by
 rw[o6];show sub (bv (sub key 0 16)) 0 16=_;rw[g8 (by rw[m5];omega)];simp[sub]
theorem xE {key:Bs} {m k:Nat} (hk:key.length=16+m) (hm:k=16-m) (h:m<=16):sub (sub (sub ([]:List Value) 0 (0*1)++sub (bv key) 16 m) 0 (m*1)++Zo k (Value.int .u8 0)) 0 16=bv (dp key):=by
 subst hm;rw[o6];show sub (sub (bv (sub key 16 m)) 0 (m*1)++Zo (16-m) (Value.int .u8 0)) 0 16=_;have hl:(sub key 16 m).length=m:=by rw[m5];omega
 rw[Zd,g8 hl,U4,B7,g8 (by rw[Zm,Zt,hl];omega),dp,hk,M9 _ _ _ (by omega)];congr 3;omega
abbrev ej (q:Nat) (key:Bs) (n:Nat):V:= .q [gK,.zz 1 n (p7 q key n)] 0
theorem Mo {va:List Value} {key:Bs} (ha:va=bv key) (hk:key.length=16):b9 C 113 [gK,.z 16 va] [] (.ret (.o 1 (.k 0) 0 13)) [.mx (p7 0 key 13)]:=by
 subst ha;have hW:∀k,(i9 0 key k).1.length=16:=fun k=>(D8 0 (by omega) (by omega) k).1;have hP:∀k,(i9 0 key k).2.length=16:=fun k=>(D8 0 (by omega) (by omega) k).2;have h6:=xD (key:=key) (by omega);have h7:=xE (key:=key) (m:=0) (k:=16) (by omega) rfl (by decide);refine vB.c ?_;refine⟨by decide,?_⟩;refine⟨by decide,by decide,by decide,by decide,?_⟩;refine⟨by rw[o6,j6,m5,hk];rfl,by decide,Zc _,?_⟩;refine⟨by decide,by omega,Zc _,Zc _,?_⟩;refine⟨by rw[o6,j6,m5,hk];rfl,by decide,Zc _,?_⟩;refine⟨by decide,by decide,by decide,?_,_,rfl,?_⟩
 ·show 0+0*1<=(sub (bv key) 16 0).length;rw[o6,j6,m5];omega
 refine⟨Zc _,?_⟩;refine⟨[],_,_,_,_,fG (i:=0) rfl (by decide),rfl,rfl,?_⟩;refine⟨[],_,_,_,_,eC (k:=1) (b:=(i9 0 key 0).1) (key:=aC 0) rfl h6 (g8 (H8 _ (by decide))) (hW 0) (H8 _ (by decide)) (by decide) (by decide),rfl,rfl,?_⟩;refine⟨[],_,_,_,_,I0 (a:=N8 1 (i9 0 key 0).1 (aC 0)) (b:=(i9 0 key 0).2) (g8 (D9 _ _ _)) h7 (D9 _ _ _) (hP 0) (by decide),rfl,rfl,?_⟩;refine⟨by decide,by decide,Zf rfl,?_⟩;refine⟨by decide,by decide,_,rfl,?_⟩;refine⟨[],_,_,_,_,fG (i:=1) rfl (by decide),rfl,rfl,?_⟩;refine⟨[],_,_,_,_,eC (k:=2) (b:=(i9 0 key 1).1) (key:=aC 1) rfl (g8 (hW 1)) (g8 (H8 _ (by decide))) (hW 1) (H8 _ (by decide)) (by decide) (by decide),rfl,rfl,?_⟩;refine⟨[],_,_,_,_,I0 (a:=N8 2 (i9 0 key 1).1 (aC 1)) (b:=(i9 0 key 1).2) (g8 (D9 _ _ _)) h6 (D9 _ _ _) (hP 1) (by decide),rfl,rfl,?_⟩;refine⟨by decide,by decide,Zf rfl,?_⟩;refine⟨by decide,by decide,_,rfl,?_⟩;refine⟨[],_,_,_,_,fG (i:=2) rfl (by decide),rfl,rfl,?_⟩;refine⟨[],_,_,_,_,eC (k:=1) (b:=(i9 0 key 2).1) (key:=aC 2) rfl (g8 (hW 2)) (g8 (H8 _ (by decide))) (hW 2) (H8 _ (by decide)) (by decide) (by decide),rfl,rfl,?_⟩;refine⟨by decide,by decide,_,rfl,?_⟩;refine⟨[],_,_,_,_,I0 (a:=N8 1 (i9 0 key 2).1 (aC 2)) (b:=(i9 0 key 2).2) (g8 (D9 _ _ _)) (g8 (hW 1)) (D9 _ _ _) (hP 2) (by decide),rfl,rfl,?_⟩;refine⟨by decide,by decide,Zf rfl,?_⟩;refine E9 (fun r=>⟨[(5,i64 0),(8,.p (.k 1) 0),(9,.o 1 (.k 0) 0 r),(10,.z 5 [.int .i64 (-19),.int .i64 (-31),.int .i64 61,.int .i64 31,.int .i64 19]),(11,i64 r)],[.mx (p7 0 key r),.mx [o9 (i9 0 key 0).1,o9 (i9 0 key 1).1,o9 (i9 0 key 2).1,o9 (i9 0 key 3).1]]⟩) 13 [(9,1,.mx [])] ⟨[.d 900000 0,.d 8 0],⟨rfl,rfl,rfl,rfl,rfl,tq⟩,⟨_,rfl,rfl⟩,⟨_,rfl,?_⟩,tq⟩ fun r hr=> ?_
 ·show B.mx [V.z 16 (sub _ 0 16),V.z 16 (sub (bv (i9 0 key 1).1) 0 16),V.z 16 (sub (bv (i9 0 key 2).1) 0 16),V.z 16 (sub (bv (i9 0 key 3).1) 0 16)]=_;rw[g8 (hW 1),g8 (hW 2),g8 (hW 3)];exact congrArg (fun z=>B.mx [V.z 16 z,o9 (i9 0 key 1).1,o9 (i9 0 key 2).1,o9 (i9 0 key 3).1]) h6
 have he:I6.wrap (I6.wrap (2*0)+13)=13:=by decide
 refine d9 (fun h=> ?_) (fun h=> ?_)
 ·rw[he]at h;have d8:r<13:=(by omega);have e1:((r:Int)).tmod 4=((r%4:Nat):Int):=by rw[Zg (by omega)];omega
  have e2:(I6.wrap ((r:Int)+1)).tmod 4=(((r+1)%4:Nat):Int):=by
   rw[Za _ (by omega),Zg (by omega)];omega
  have e3:I6.wrap (((r:Int)).tdiv 4)=((r/4:Nat):Int):=by
   rw[Zi (by omega),Za _ (by omega)];omega
  have m1:=Zr r (show 4>0 by decide);have m2:=Zr (r+1) (show 4>0 by decide);refine⟨by decide,by rw[e1];omega,by rw[e1];omega,?_⟩;refine⟨_,by rw[e1,Zb,Zd,Ze];exact O5 (f:=fun k=>o9 (i9 0 key k).1) rfl rfl rfl rfl m1,?_⟩;refine⟨by decide,by rw[e2];omega,by rw[e2];omega,?_⟩;refine⟨_,by rw[e2,Zb,Zd,Ze];exact O5 (f:=fun k=>o9 (i9 0 key k).1) rfl rfl rfl rfl m2,?_⟩;refine⟨by decide,by rw[e3];omega,by rw[e3];omega,?_⟩;refine⟨_,by rw[e3,Zb];exact tO (by omega),?_⟩;refine⟨[],_,_,_,_,nH (b:=(i9 0 key ((r+1)%4)).1) (n:=X6 (r/4)) rfl (hW _) (by decide) (by decide) (ke (by omega)),rfl,rfl,?_⟩;refine⟨[],_,_,_,_,I0 (a:=(i9 0 key (r%4)).1) (b:=M2 (i9 0 key ((r+1)%4)).1 (X6 (r/4)%128).toNat) rfl (g8 (by rw[I7,hW])) (hW _) (by rw[I7,hW]) (by decide),rfl,rfl,?_⟩;refine⟨Zc _,by omega,by rw[p7,Zq,cz];omega,?_⟩;have hs0:sub (p7 0 key r) 0 (r*1)=p7 0 key r:=by rw[Zd,C3 (by rw[p7,Zq,cz])]
  have hst:p7 0 key r++[V.z 16 (sub (bv (t7 0 key r)) 0 16)]=p7 0 key (r+1):=by
   rw[g8 (by rw[t7];exact B5 (hW _) (by rw[I7,hW])),p7,p7,ki,Zl];rfl
  refine⟨r+1,by omega,by omega,[.d 85 0,.k 1],⟨rfl,rfl,rfl,rfl,f8 (by simp(disch:=omega)only[Za];omega),tq⟩,⟨_,rfl,?_⟩,⟨_,rfl,rfl⟩,tq⟩;show B.mx (Zv (p5 _ _ 6) (sub (p7 0 key r) 0 (r*1)++[V.o _ _ _ _]))=_;rw[Zl,hs0,cy];exact congrArg B.mx hst
 ·rw[he]at h;obtain rfl:r=13:=(by omega);refine⟨_,rfl,[.k 0],rfl,⟨_,rfl,?_⟩,tq⟩;show B.mx (Zv (p5 _ _ 6) (p7 0 key 13))=_;rw[cy]
theorem Mr {va:List Value} {key:Bs} (ha:va=bv key) (hk:key.length=16):b9 C 57 [.z 16 va] [] (.ret (.t [ej 0 key 13,i64 0])) []:=by
 refine vC.c ?_;refine⟨[],_,_,_,_,uz,rfl,rfl,?_⟩;refine⟨[],_,_,_,_,Mo (va:=va) ha hk,rfl,rfl,?_⟩;exact⟨_,rfl,[],rfl,tq⟩
theorem Mp {va:List Value} {key:Bs} (ha:va=bv key) (hk:key.length=24):b9 C 113 [gK,.z 24 va] [] (.ret (.o 1 (.k 0) 0 15)) [.mx (p7 1 key 15)]:=by
 subst ha;have hW:∀k,(i9 1 key k).1.length=16:=fun k=>(D8 1 (by omega) (by omega) k).1;have hP:∀k,(i9 1 key k).2.length=16:=fun k=>(D8 1 (by omega) (by omega) k).2;have h6:=xD (key:=key) (by omega);have h7:=xE (key:=key) (m:=8) (k:=8) (by omega) rfl (by decide);refine vB.c ?_;refine⟨by decide,?_⟩;refine⟨by decide,by decide,by decide,by decide,?_⟩;refine⟨by rw[o6,j6,m5,hk];rfl,by decide,Zc _,?_⟩;refine⟨by decide,by omega,Zc _,Zc _,?_⟩;refine⟨by rw[o6,j6,m5,hk];rfl,by decide,Zc _,?_⟩;refine⟨by decide,by decide,by decide,?_,_,rfl,?_⟩
 ·show 0+8*1<=(sub (bv key) 16 8).length;rw[o6,j6,m5];omega
 refine⟨Zc _,?_⟩;refine⟨[],_,_,_,_,fG (i:=1) rfl (by decide),rfl,rfl,?_⟩;refine⟨[],_,_,_,_,eC (k:=1) (b:=(i9 1 key 0).1) (key:=aC 1) rfl h6 (g8 (H8 _ (by decide))) (hW 0) (H8 _ (by decide)) (by decide) (by decide),rfl,rfl,?_⟩;refine⟨[],_,_,_,_,I0 (a:=N8 1 (i9 1 key 0).1 (aC 1)) (b:=(i9 1 key 0).2) (g8 (D9 _ _ _)) h7 (D9 _ _ _) (hP 0) (by decide),rfl,rfl,?_⟩;refine⟨by decide,by decide,Zf rfl,?_⟩;refine⟨by decide,by decide,_,rfl,?_⟩;refine⟨[],_,_,_,_,fG (i:=2) rfl (by decide),rfl,rfl,?_⟩;refine⟨[],_,_,_,_,eC (k:=2) (b:=(i9 1 key 1).1) (key:=aC 2) rfl (g8 (hW 1)) (g8 (H8 _ (by decide))) (hW 1) (H8 _ (by decide)) (by decide) (by decide),rfl,rfl,?_⟩;refine⟨[],_,_,_,_,I0 (a:=N8 2 (i9 1 key 1).1 (aC 2)) (b:=(i9 1 key 1).2) (g8 (D9 _ _ _)) h6 (D9 _ _ _) (hP 1) (by decide),rfl,rfl,?_⟩;refine⟨by decide,by decide,Zf rfl,?_⟩;refine⟨by decide,by decide,_,rfl,?_⟩;refine⟨[],_,_,_,_,fG (i:=3) rfl (by decide),rfl,rfl,?_⟩;refine⟨[],_,_,_,_,eC (k:=1) (b:=(i9 1 key 2).1) (key:=aC 0) rfl (g8 (hW 2)) (g8 (H8 _ (by decide))) (hW 2) (H8 _ (by decide)) (by decide) (by decide),rfl,rfl,?_⟩;refine⟨by decide,by decide,_,rfl,?_⟩;refine⟨[],_,_,_,_,I0 (a:=N8 1 (i9 1 key 2).1 (aC 0)) (b:=(i9 1 key 2).2) (g8 (D9 _ _ _)) (g8 (hW 1)) (D9 _ _ _) (hP 2) (by decide),rfl,rfl,?_⟩;refine⟨by decide,by decide,Zf rfl,?_⟩;refine E9 (fun r=>⟨[(5,i64 1),(8,.p (.k 1) 0),(9,.o 1 (.k 0) 0 r),(10,.z 5 [.int .i64 (-19),.int .i64 (-31),.int .i64 61,.int .i64 31,.int .i64 19]),(11,i64 r)],[.mx (p7 1 key r),.mx [o9 (i9 1 key 0).1,o9 (i9 1 key 1).1,o9 (i9 1 key 2).1,o9 (i9 1 key 3).1]]⟩) 15 [(9,1,.mx [])] ⟨[.d 900000 0,.d 8 0],⟨rfl,rfl,rfl,rfl,rfl,tq⟩,⟨_,rfl,rfl⟩,⟨_,rfl,?_⟩,tq⟩ fun r hr=> ?_
 ·show B.mx [V.z 16 (sub _ 0 16),V.z 16 (sub (bv (i9 1 key 1).1) 0 16),V.z 16 (sub (bv (i9 1 key 2).1) 0 16),V.z 16 (sub (bv (i9 1 key 3).1) 0 16)]=_;rw[g8 (hW 1),g8 (hW 2),g8 (hW 3)];exact congrArg (fun z=>B.mx [V.z 16 z,o9 (i9 1 key 1).1,o9 (i9 1 key 2).1,o9 (i9 1 key 3).1]) h6
 have he:I6.wrap (I6.wrap (2*1)+13)=15:=by decide
 refine d9 (fun h=> ?_) (fun h=> ?_)
 ·rw[he]at h;have d8:r<15:=(by omega);have e1:((r:Int)).tmod 4=((r%4:Nat):Int):=by rw[Zg (by omega)];omega
  have e2:(I6.wrap ((r:Int)+1)).tmod 4=(((r+1)%4:Nat):Int):=by
   rw[Za _ (by omega),Zg (by omega)];omega
  have e3:I6.wrap (((r:Int)).tdiv 4)=((r/4:Nat):Int):=by
   rw[Zi (by omega),Za _ (by omega)];omega
  have m1:=Zr r (show 4>0 by decide);have m2:=Zr (r+1) (show 4>0 by decide);refine⟨by decide,by rw[e1];omega,by rw[e1];omega,?_⟩;refine⟨_,by rw[e1,Zb,Zd,Ze];exact O5 (f:=fun k=>o9 (i9 1 key k).1) rfl rfl rfl rfl m1,?_⟩;refine⟨by decide,by rw[e2];omega,by rw[e2];omega,?_⟩;refine⟨_,by rw[e2,Zb,Zd,Ze];exact O5 (f:=fun k=>o9 (i9 1 key k).1) rfl rfl rfl rfl m2,?_⟩;refine⟨by decide,by rw[e3];omega,by rw[e3];omega,?_⟩;refine⟨_,by rw[e3,Zb];exact tO (by omega),?_⟩;refine⟨[],_,_,_,_,nH (b:=(i9 1 key ((r+1)%4)).1) (n:=X6 (r/4)) rfl (hW _) (by decide) (by decide) (ke (by omega)),rfl,rfl,?_⟩;refine⟨[],_,_,_,_,I0 (a:=(i9 1 key (r%4)).1) (b:=M2 (i9 1 key ((r+1)%4)).1 (X6 (r/4)%128).toNat) rfl (g8 (by rw[I7,hW])) (hW _) (by rw[I7,hW]) (by decide),rfl,rfl,?_⟩;refine⟨Zc _,by omega,by rw[p7,Zq,cz];omega,?_⟩;have hs0:sub (p7 1 key r) 0 (r*1)=p7 1 key r:=by rw[Zd,C3 (by rw[p7,Zq,cz])]
  have hst:p7 1 key r++[V.z 16 (sub (bv (t7 1 key r)) 0 16)]=p7 1 key (r+1):=by
   rw[g8 (by rw[t7];exact B5 (hW _) (by rw[I7,hW])),p7,p7,ki,Zl];rfl
  refine⟨r+1,by omega,by omega,[.d 85 0,.k 1],⟨rfl,rfl,rfl,rfl,f8 (by simp(disch:=omega)only[Za];omega),tq⟩,⟨_,rfl,?_⟩,⟨_,rfl,rfl⟩,tq⟩;show B.mx (Zv (p5 _ _ 6) (sub (p7 1 key r) 0 (r*1)++[V.o _ _ _ _]))=_;rw[Zl,hs0,cy];exact congrArg B.mx hst
 ·rw[he]at h;obtain rfl:r=15:=(by omega);refine⟨_,rfl,[.k 0],rfl,⟨_,rfl,?_⟩,tq⟩;show B.mx (Zv (p5 _ _ 6) (p7 1 key 15))=_;rw[cy]
theorem Ms {va:List Value} {key:Bs} (ha:va=bv key) (hk:key.length=24):b9 C 57 [.z 24 va] [] (.ret (.t [ej 1 key 15,i64 0])) []:=by
 refine vC.c ?_;refine⟨[],_,_,_,_,uz,rfl,rfl,?_⟩;refine⟨[],_,_,_,_,Mp (va:=va) ha hk,rfl,rfl,?_⟩;exact⟨_,rfl,[],rfl,tq⟩
theorem Mq {va:List Value} {key:Bs} (ha:va=bv key) (hk:key.length=32):b9 C 113 [gK,.z 32 va] [] (.ret (.o 1 (.k 0) 0 17)) [.mx (p7 2 key 17)]:=by
 subst ha;have hW:∀k,(i9 2 key k).1.length=16:=fun k=>(D8 2 (by omega) (by omega) k).1;have hP:∀k,(i9 2 key k).2.length=16:=fun k=>(D8 2 (by omega) (by omega) k).2;have h6:=xD (key:=key) (by omega);have h7:=xE (key:=key) (m:=16) (k:=0) (by omega) rfl (by decide);refine vB.c ?_;refine⟨by decide,?_⟩;refine⟨by decide,by decide,by decide,by decide,?_⟩;refine⟨by rw[o6,j6,m5,hk];rfl,by decide,Zc _,?_⟩;refine⟨by decide,by omega,Zc _,Zc _,?_⟩;refine⟨by rw[o6,j6,m5,hk];rfl,by decide,Zc _,?_⟩;refine⟨by decide,by decide,by decide,?_,_,rfl,?_⟩
 ·show 0+16*1<=(sub (bv key) 16 16).length;rw[o6,j6,m5];omega
 refine⟨Zc _,?_⟩;refine⟨[],_,_,_,_,fG (i:=2) rfl (by decide),rfl,rfl,?_⟩;refine⟨[],_,_,_,_,eC (k:=1) (b:=(i9 2 key 0).1) (key:=aC 2) rfl h6 (g8 (H8 _ (by decide))) (hW 0) (H8 _ (by decide)) (by decide) (by decide),rfl,rfl,?_⟩;refine⟨[],_,_,_,_,I0 (a:=N8 1 (i9 2 key 0).1 (aC 2)) (b:=(i9 2 key 0).2) (g8 (D9 _ _ _)) h7 (D9 _ _ _) (hP 0) (by decide),rfl,rfl,?_⟩;refine⟨by decide,by decide,Zf rfl,?_⟩;refine⟨by decide,by decide,_,rfl,?_⟩;refine⟨[],_,_,_,_,fG (i:=3) rfl (by decide),rfl,rfl,?_⟩;refine⟨[],_,_,_,_,eC (k:=2) (b:=(i9 2 key 1).1) (key:=aC 0) rfl (g8 (hW 1)) (g8 (H8 _ (by decide))) (hW 1) (H8 _ (by decide)) (by decide) (by decide),rfl,rfl,?_⟩;refine⟨[],_,_,_,_,I0 (a:=N8 2 (i9 2 key 1).1 (aC 0)) (b:=(i9 2 key 1).2) (g8 (D9 _ _ _)) h6 (D9 _ _ _) (hP 1) (by decide),rfl,rfl,?_⟩;refine⟨by decide,by decide,Zf rfl,?_⟩;refine⟨by decide,by decide,_,rfl,?_⟩;refine⟨[],_,_,_,_,fG (i:=4) rfl (by decide),rfl,rfl,?_⟩;refine⟨[],_,_,_,_,eC (k:=1) (b:=(i9 2 key 2).1) (key:=aC 1) rfl (g8 (hW 2)) (g8 (H8 _ (by decide))) (hW 2) (H8 _ (by decide)) (by decide) (by decide),rfl,rfl,?_⟩;refine⟨by decide,by decide,_,rfl,?_⟩;refine⟨[],_,_,_,_,I0 (a:=N8 1 (i9 2 key 2).1 (aC 1)) (b:=(i9 2 key 2).2) (g8 (D9 _ _ _)) (g8 (hW 1)) (D9 _ _ _) (hP 2) (by decide),rfl,rfl,?_⟩;refine⟨by decide,by decide,Zf rfl,?_⟩;refine E9 (fun r=>⟨[(5,i64 2),(8,.p (.k 1) 0),(9,.o 1 (.k 0) 0 r),(10,.z 5 [.int .i64 (-19),.int .i64 (-31),.int .i64 61,.int .i64 31,.int .i64 19]),(11,i64 r)],[.mx (p7 2 key r),.mx [o9 (i9 2 key 0).1,o9 (i9 2 key 1).1,o9 (i9 2 key 2).1,o9 (i9 2 key 3).1]]⟩) 17 [(9,1,.mx [])] ⟨[.d 900000 0,.d 8 0],⟨rfl,rfl,rfl,rfl,rfl,tq⟩,⟨_,rfl,rfl⟩,⟨_,rfl,?_⟩,tq⟩ fun r hr=> ?_
 ·show B.mx [V.z 16 (sub _ 0 16),V.z 16 (sub (bv (i9 2 key 1).1) 0 16),V.z 16 (sub (bv (i9 2 key 2).1) 0 16),V.z 16 (sub (bv (i9 2 key 3).1) 0 16)]=_;rw[g8 (hW 1),g8 (hW 2),g8 (hW 3)];exact congrArg (fun z=>B.mx [V.z 16 z,o9 (i9 2 key 1).1,o9 (i9 2 key 2).1,o9 (i9 2 key 3).1]) h6
 have he:I6.wrap (I6.wrap (2*2)+13)=17:=by decide
 refine d9 (fun h=> ?_) (fun h=> ?_)
 ·rw[he]at h;have d8:r<17:=(by omega);have e1:((r:Int)).tmod 4=((r%4:Nat):Int):=by rw[Zg (by omega)];omega
  have e2:(I6.wrap ((r:Int)+1)).tmod 4=(((r+1)%4:Nat):Int):=by
   rw[Za _ (by omega),Zg (by omega)];omega
  have e3:I6.wrap (((r:Int)).tdiv 4)=((r/4:Nat):Int):=by
   rw[Zi (by omega),Za _ (by omega)];omega
  have m1:=Zr r (show 4>0 by decide);have m2:=Zr (r+1) (show 4>0 by decide);refine⟨by decide,by rw[e1];omega,by rw[e1];omega,?_⟩;refine⟨_,by rw[e1,Zb,Zd,Ze];exact O5 (f:=fun k=>o9 (i9 2 key k).1) rfl rfl rfl rfl m1,?_⟩;refine⟨by decide,by rw[e2];omega,by rw[e2];omega,?_⟩;refine⟨_,by rw[e2,Zb,Zd,Ze];exact O5 (f:=fun k=>o9 (i9 2 key k).1) rfl rfl rfl rfl m2,?_⟩;refine⟨by decide,by rw[e3];omega,by rw[e3];omega,?_⟩;refine⟨_,by rw[e3,Zb];exact tO (by omega),?_⟩;refine⟨[],_,_,_,_,nH (b:=(i9 2 key ((r+1)%4)).1) (n:=X6 (r/4)) rfl (hW _) (by decide) (by decide) (ke (by omega)),rfl,rfl,?_⟩;refine⟨[],_,_,_,_,I0 (a:=(i9 2 key (r%4)).1) (b:=M2 (i9 2 key ((r+1)%4)).1 (X6 (r/4)%128).toNat) rfl (g8 (by rw[I7,hW])) (hW _) (by rw[I7,hW]) (by decide),rfl,rfl,?_⟩;refine⟨Zc _,by omega,by rw[p7,Zq,cz];omega,?_⟩;have hs0:sub (p7 2 key r) 0 (r*1)=p7 2 key r:=by rw[Zd,C3 (by rw[p7,Zq,cz])]
  have hst:p7 2 key r++[V.z 16 (sub (bv (t7 2 key r)) 0 16)]=p7 2 key (r+1):=by
   rw[g8 (by rw[t7];exact B5 (hW _) (by rw[I7,hW])),p7,p7,ki,Zl];rfl
  refine⟨r+1,by omega,by omega,[.d 85 0,.k 1],⟨rfl,rfl,rfl,rfl,f8 (by simp(disch:=omega)only[Za];omega),tq⟩,⟨_,rfl,?_⟩,⟨_,rfl,rfl⟩,tq⟩;show B.mx (Zv (p5 _ _ 6) (sub (p7 2 key r) 0 (r*1)++[V.o _ _ _ _]))=_;rw[Zl,hs0,cy];exact congrArg B.mx hst
 ·rw[he]at h;obtain rfl:r=17:=(by omega);refine⟨_,rfl,[.k 0],rfl,⟨_,rfl,?_⟩,tq⟩;show B.mx (Zv (p5 _ _ 6) (p7 2 key 17))=_;rw[cy]
theorem Mu {va:List Value} {key:Bs} (ha:va=bv key) (hk:key.length=32):b9 C 57 [.z 32 va] [] (.ret (.t [ej 2 key 17,i64 0])) []:=by
 refine vC.c ?_;refine⟨[],_,_,_,_,uz,rfl,rfl,?_⟩;refine⟨[],_,_,_,_,Mq (va:=va) ha hk,rfl,rfl,?_⟩;exact⟨_,rfl,[],rfl,tq⟩
theorem Mn {va:List Value} {b key:Bs} {q n:Nat} (h:bC q key n) (ha:va=bv b) (hb:b.length=16):b9 C 156 [ej q key n,.z 16 va,bool false] [] (C6 16) [.sc (bv (dZ q key n b))]:=by
 subst ha;have h3:=h.h3;have h4:=h.h4;have kl:=fB h;have h':=h;refine vA.c ?_;refine⟨_,rfl,?_⟩;refine m9 (fun i=>⟨[(0,ej q key n),(1,o9 (T4 q key b i)),(8,i64 (n-2:Nat)),(10,i64 i)],[]⟩) (n-2) ⟨[],⟨rfl,rfl,f8 ?_,rfl,tq⟩,tq⟩ fun i hi=> ?_
 ·rw[Za _ (by omega)];omega
 have hel:=nm h hb i;refine d9 (fun h=> ?_) (fun h=> ?_)
 ·have d8:i<n-2:=(by omega);have e1:I6.wrap (1+(i:Int).tmod 2)=((1+i%2:Nat):Int):=by
   rw[Zg (by omega),Za _ (by omega)];omega
  refine⟨_,rfl,by decide,_,rfl,by omega,by omega,?_⟩;refine⟨_,by rw[Zb,Zd];exact cw (by omega),?_⟩;refine⟨[],_,_,_,_,eC (b:=T4 q key b i) (key:=t7 q key i) (k:=1+i%2) e1 rfl rfl hel (kl i) (by omega) (by omega),rfl,rfl,?_⟩;refine⟨i+1,by omega,by omega,[],⟨rfl,?_,rfl,f8 (by simp(disch:=omega)only[Za];omega),tq⟩,tq⟩;show V.z 16 (sub (bv (T4 q key b (i+1))) 0 16)=_;rw[g8 (nm h' hb _)]
 ·obtain rfl:i=n-2:=(by omega);have e0:I6.wrap (((n-2:Nat):Int)+1)=((n-1:Nat):Int):=by rw[Za _ (by omega)];omega
  refine⟨_,rfl,_,rfl,by omega,by omega,?_⟩;refine⟨_,by rw[Zb,Zd];exact cw (by omega),?_⟩;refine⟨[],_,_,_,_,I0 (a:=T4 q key b (n-2)) (b:=t7 q key (n-2)) rfl rfl hel (kl _) (by decide),rfl,rfl,?_⟩;have hx:=B5 hel (kl (n-2));refine⟨[],_,_,_,_,pS (k:=2) (b:=j9 (T4 q key b (n-2)) (t7 q key (n-2))) rfl (g8 hx) hx (by decide) (by decide),rfl,rfl,?_⟩;refine⟨_,rfl,by rw[e0];omega,by rw[e0];omega,?_⟩;refine⟨_,by rw[e0,Zb,Zd];exact cw (by omega),?_⟩;have hl:=R4 2 (j9 (T4 q key b (n-2)) (t7 q key (n-2))) 16;refine⟨[],_,_,_,_,I0 (b:=t7 q key (n-1)) (g8 hl) rfl hl (kl _) (by decide),rfl,rfl,?_⟩;exact⟨_,rfl,[.d 113 0],rfl,⟨_,rfl,rfl⟩,tq⟩
theorem Mm {va:List Value} {b key:Bs} {q n:Nat} (h:bC q key n) (ha:va=bv b) (hb:b.length=16):b9 C 156 [ej q key n,.z 16 va,bool true] [] (C6 16) [.sc (bv (gI q key n b))]:=by
 subst ha;have h3:=h.h3;have h4:=h.h4;have kl:=fB h;have h':=h;have ea:I6.wrap ((n:Int)-2)=((n-2:Nat):Int):=by rw[Za _ (by omega)];omega
 have e0:I6.wrap (((n-2:Nat):Int)+1)=((n-1:Nat):Int):=by rw[Za _ (by omega)];omega
 refine vA.c ?_;refine⟨_,rfl,?_⟩;refine⟨_,rfl,by rw[ea,e0];omega,by rw[ea,e0];omega,?_⟩;refine⟨_,by rw[ea,e0,Zb,Zd];exact cw (by omega),?_⟩;refine⟨[],_,_,_,_,I0 (a:=b) (b:=t7 q key (n-1)) rfl rfl hb (kl _) (by decide),rfl,rfl,?_⟩;have hx:=B5 hb (kl (n-1));refine⟨_,rfl,?_⟩;refine⟨[],_,_,_,_,pS (k:=1) (b:=j9 b (t7 q key (n-1))) rfl (g8 hx) hx (by decide) (by decide),rfl,rfl,?_⟩;refine⟨_,rfl,by rw[ea];omega,by rw[ea];omega,?_⟩;refine⟨_,by rw[ea,Zb,Zd];exact cw (by omega),?_⟩;have hl:=R4 1 (j9 b (t7 q key (n-1))) 16;refine⟨[],_,_,_,_,I0 (b:=t7 q key (n-2)) (g8 hl) rfl hl (kl _) (by decide),rfl,rfl,?_⟩;refine m9 (fun i=>⟨[(0,ej q key n),(1,.o 1 (.k 0) 0 16),(9,i64 ((n:Int)-3-i))],[.sc (bv (R3 q key n b i))]⟩) (n-2) ⟨[.d 44 0],⟨rfl,rfl,f8 ?_,tq⟩,⟨_,rfl,rfl⟩,tq⟩ fun i hi=> ?_
 ·rw[ea,Za _ (by omega)];omega
 have hdl:=pu (b:=b) h i;refine d9 (fun h=> ?_) (fun h=> ?_)
 ·obtain⟨r,er,hrn,hri⟩:∃r:Nat,(n:Int)-3-i=r/\r<=n-3/\r=n-3-i:=⟨n-3-i,by omega,by omega,rfl⟩;have hst:R3 q key n b (i+1)=j9 (G7 (2-r%2) (H9 (R3 q key n b i)) 16) (t7 q key r):=by rw[hri];rfl
  rw[er];have e1:I6.wrap (2-(r:Int).tmod 2)=((2-r%2:Nat):Int):=by
   rw[Zg (by omega),Za _ (by omega)];omega
  refine⟨_,rfl,by decide,?_⟩;refine⟨[],_,_,_,_,zU (b:=R3 q key n b i) (g8 hdl) hdl,rfl,rfl,?_⟩;have hm:=tG (R3 q key n b i);refine⟨[],_,_,_,_,pS (k:=2-r%2) (b:=H9 (R3 q key n b i)) e1 (g8 hm) hm (by omega) (by omega),rfl,rfl,?_⟩;refine⟨_,rfl,by omega,by omega,?_⟩;refine⟨_,by rw[Zb,Zd];exact cw (by omega),?_⟩;have hl:=R4 (2-r%2) (H9 (R3 q key n b i)) 16;refine⟨[],_,_,_,_,I0 (b:=t7 q key r) (g8 hl) rfl hl (kl _) (by decide),rfl,rfl,?_⟩;refine⟨i+1,by omega,by omega,[.d 68 0],⟨rfl,rfl,f8 ?_,tq⟩,⟨_,rfl,i6 (by rw[hst])⟩,tq⟩
  ·rw[Za _ (by omega)];omega
 ·obtain rfl:i=n-2:=(by omega);exact⟨_,rfl,[.k 0],rfl,⟨_,rfl,rfl⟩,tq⟩
theorem Ml {va:List Value} {key:Bs} {q n m:Nat} {back:Bool} (hn:m≠16):b9 C 156 [ej q key n,.z m va,bool back] [] V5 []:=by
 refine vA.c ?_;refine p6 (fun h=> ?_) (fun h=>absurd (by omega) hn);exact⟨_,rfl,[],rfl,tq⟩
theorem za:∀x:Nat,x<256->∀k:Nat,k<8->I6.wrap ((Zh I6.bits (I6.wrap (((x:Nat):Int).fdiv (2^(min ((k:Nat):Int).toNat U8.bits))))&&&Zh I6.bits 1).toNat:Int)=(((x.testBit k).toNat:Nat):Int):=by decide +kernel
theorem pL {va:List Value} {b:Bs} {l n:Nat} {x:Int} (hx:x=n) (ha:va=bv b) (hl:b.length=l) (hm:l<=1000000) (h1:1<=n) (h2:(n-1)/8<l):b9 C 233 [.z l va,i64 x] [] (.ret (i64 ((tb b (n-1)).toNat:Nat))) []:=by
 subst ha;subst hx;have e0:I6.wrap ((n:Int)-1)=((n-1:Nat):Int):=by rw[Za _ (by omega)];omega
 have e1:I6.wrap ((I6.wrap ((n:Int)-1)).tdiv 8)=(((n-1)/8:Nat):Int):=by
  rw[e0,Zi (by omega),Za _ (by omega)];omega
 have e2:I6.wrap (7-(I6.wrap ((n:Int)-1)).tmod 8)=((7-(n-1)%8:Nat):Int):=by
  rw[e0,Zg (by omega),Za _ (by omega)];omega
 refine Qt.c ?_;refine d9 (fun h=> ?_) (fun h=> ?_)
 ·omega
 refine⟨by decide,?_⟩;refine d9 (fun h=> ?_) (fun h=> ?_)
 ·rw[e1]at h;omega
 refine⟨by decide,by rw[e1];omega,by rw[e1];omega,?_⟩;refine⟨_,by rw[e1,Zb];exact p9 (by omega),?_⟩;refine⟨by decide,by rw[e2];omega,?_⟩;refine⟨_,rfl,[],f8 ?_,tq⟩;rw[e2];exact za _ (UInt8.toNat_lt _) _ (by omega)
def E7 (t:List Nat) (b:Bs):Bs:=aH (t.length/8) fun j=>tb b (t.getD j 0-1)
theorem ff (t b):(E7 t b).length=t.length/8:=gm _ _
def fh (t:List Nat) (b:Bs) (i:Nat) (j:Nat):Bool:=decide (j<i)&&tb b (t.getD j 0-1)
def S3 (t:List Nat) (b:Bs) (i:Nat):Bs:=aH (t.length/8) (fh t b i)
theorem jL (t b i):(S3 t b i).length=t.length/8:=gm _ _
theorem DT (t b):S3 t b 0=Zo (t.length/8) 0:=by
 apply Zw (by simp[S3,aH]);intro j h1 h2;simp[S3,aH,fh,dx]
theorem DR (t b):S3 t b t.length=E7 t b:=by
 apply Zu;intro q hq;have hq:=Z5.1 hq;show dx _=dx _;simp only[dx,fh];rw[decide_eq_true (by omega),decide_eq_true (by omega),decide_eq_true (by omega),decide_eq_true (by omega),decide_eq_true (by omega),decide_eq_true (by omega),decide_eq_true (by omega),decide_eq_true (by omega)];simp only[Bool.true_and]
theorem Yl:∀v:Bool,∀k,k<8->U8.wrap (I6.wrap (((v.toNat:Nat):Int)*2^(min ((k:Nat):Int).toNat I6.bits)))=(((Zp (v.toNat*2^k)).toNat:Nat):Int):=by decide +kernel
theorem HY:∀v:Bool,∀k,k<8->∀r,r<8->(Zp (v.toNat*2^k)).toNat.testBit r=(v&&decide (r=k)):=by decide +kernel
theorem DS {t:List Nat} {b:Bs} {i:Nat} (h:i<t.length) (ht:t.length%8=0):
  (S3 t b i).set (i/8) ((S3 t b i).getD (i/8) 0|||Zp ((tb b (t.getD i 0-1)).toNat*2^(7-i%8)))=S3 t b (i+1):=by
 have hq:i/8<t.length/8:=by omega
 apply Zw (by simp[jL]);intro q h1 h2;rw[Z2];have s3:q<t.length/8:=by rw[jL]at h2;exact h2
 split
 ·rename_i he;subst he;have hg:(S3 t b i).getD (i/8) 0=dx fun r=>fh t b i (8*(i/8)+r):=by
   simp[S3,aH,hq]
  have hg2:(S3 t b (i+1))[i/8]=dx fun r=>fh t b (i+1) (8*(i/8)+r):=by
   simp[S3,aH]
  rw[hg,hg2];apply xR;intro r hr;rw[UInt8.toNat_or,Nat.testBit_or,nD _ hr,nD _ hr,HY _ _ (by omega) _ (by omega)];simp only[fh];by_cases h3:8*(i/8)+r=i
  ·rw[h3,decide_eq_false (by omega),decide_eq_true (by omega),decide_eq_true (by omega)];simp
  ·rw[decide_eq_false (show ¬(7-r=7-i%8) by omega)];by_cases h4:8*(i/8)+r<i
   ·rw[decide_eq_true h4,decide_eq_true (by omega)];simp
   ·rw[decide_eq_false h4,decide_eq_false (by omega)];simp
 ·rename_i he;have hg:(S3 t b i)[q]'(by rw[jL];exact s3)=dx fun r=>fh t b i (8*q+r):=by
   simp[S3,aH]
  have hg2:(S3 t b (i+1))[q]=dx fun r=>fh t b (i+1) (8*q+r):=by
   simp[S3,aH]
  rw[hg,hg2];apply xR;intro r hr;rw[nD _ hr,nD _ hr];simp only[fh];congr 1;exact decide_eq_decide.2 (by omega)
theorem nG {va vt:List Value} {b:Bs} {t:List Nat} {l n:Nat} (ha:va=bv b) (hvt:vt=nv t) (hl:b.length=l) (ht:t.length=n) (hm:l<=1000000) (hn:n<=1000000) (h8:n%8=0) (hall:∀i,i<n->1<=t.getD i 0/\t.getD i 0<=8*l):b9 C 185 [.z l va,.z n vt] [] (.ret (.t [.o 1 (.k 0) 0 (n/8),bool true])) [.sc (bv (E7 t b))]:=by
 subst ha;subst hvt;subst ht;have e0:I6.wrap ((I6.wrap (I6.wrap ((t.length:Int)+8)-1)).tdiv 8)=((t.length/8:Nat):Int):=by
  rw[Za ((t.length:Int)+8) (by omega),Za ((t.length:Int)+8-1) (by omega),Zi (by omega),Za _ (by omega)];omega
 refine Qw.c ?_;refine⟨by decide,?_⟩;rw[e0];refine⟨by omega,by omega,by omega,?_⟩;refine m9 (fun i=>⟨[(0,.z l (bv b)),(1,.z t.length (nv t)),(6,.o 1 (.k 0) 0 (t.length/8)),(15,i64 t.length),(16,i64 i)],[.sc (bv (S3 t b i))]⟩) t.length ⟨[.d 13 0],⟨rfl,rfl,rfl,rfl,rfl,tq⟩,⟨_,rfl,i6 ?_⟩,tq⟩ fun i hi=> ?_
 ·show Zo ((t.length/8:Nat):Int).toNat (Value.int .u8 0)=_;rw[Zb,DT,U4]
 refine d9 (fun h=> ?_) (fun h=> ?_)
 ·have d8:i<t.length:=(by omega);obtain⟨g1,g2⟩:=hall i d8;refine⟨by omega,by omega,?_⟩;refine⟨_,by rw[Zb];exact Y6 d8,?_⟩;refine d9 (fun h=> ?_) (fun h=> ?_)
  ·omega
  have e1:I6.wrap ((I6.wrap (((t.getD i 0:Nat):Int)-1)).tdiv 8)=(((t.getD i 0-1)/8:Nat):Int):=by
   rw[Za (((t.getD i 0:Nat):Int)-1) (by omega),Zi (by omega),Za _ (by omega)];omega
  have e2:I6.wrap ((i:Int).tdiv 8)=((i/8:Nat):Int):=by
   rw[Zi (by omega),Za _ (by omega)];omega
  have e3:I6.wrap (7-(i:Int).tmod 8)=((7-i%8:Nat):Int):=by
   rw[Zg (by omega),Za _ (by omega)];omega
  refine⟨by omega,by omega,?_⟩;refine⟨_,by rw[Zb];exact Y6 d8,?_⟩;refine⟨by decide,?_⟩;refine d9 (fun h=> ?_) (fun h=> ?_)
  ·rw[e1]at h;omega
  refine⟨by decide,by rw[e2];omega,by rw[e2];omega,?_⟩;refine⟨_,by rw[e2,Zb,Zd,Ze];exact p9 (by rw[jL];omega),?_⟩;refine⟨by omega,by omega,?_⟩;refine⟨_,by rw[Zb];exact Y6 d8,?_⟩;refine⟨[],_,_,_,_,pL (b:=b) rfl rfl hl hm g1 (by omega),rfl,rfl,?_⟩;refine⟨by decide,by rw[e3];omega,by rw[e2];omega,by rw[e2];omega,by rw[e2,j6,jL];omega,?_⟩;refine⟨i+1,by omega,by omega,[.k 0],⟨rfl,rfl,rfl,rfl,f8 (by simp(disch:=omega)only[Za];omega),tq⟩,⟨_,rfl,i6 ?_⟩,tq⟩;rw[e2,e3,Zb,Zd,Ze,Yl _ _ (by omega),sK,L4,DS d8 (by omega)]
 ·obtain rfl:i=t.length:=(by omega);refine⟨_,rfl,[.k 0],rfl,⟨_,rfl,i6 ?_⟩,tq⟩;rw[DR]
def B3 (s st bk:Int):Nat->Int
 |0=>s
 |k+1=>if B3 s st bk k-st<1 then B3 s st bk k-st+(st+bk)else B3 s st bk k-st
def E6 (s st bk:Int) (n:Nat):List Int:=(List.range n).map (B3 s st bk)
theorem qx (s st bk n):E6 s st bk (n+1)=E6 s st bk n++[B3 s st bk n]:=by simp[E6,Zn]
theorem eQ (s st bk n):(E6 s st bk n).length=n:=by simp[E6]
def Qe (l:List Int) (n C7:Nat) (s st bk:Int) (i:Nat):D:=match i with
 |0=>⟨[(0,.o 1 (.k 0) 0 n),(2,i64 st),(3,i64 bk),(11,i64 s),(13,i64 C7),(14,i64 (0:Nat))],[.sc (iv l)]⟩
 |k+1=>⟨[(0,.o 1 (.k 1) 0 (n+(k+1))),(2,i64 st),(3,i64 bk),(11,i64 (B3 s st bk (k+1))),(13,i64 C7),(14,i64 (k+1:Nat))],[.dead,.sc (iv (l++E6 s st bk (k+1)))]⟩
theorem zG {l:List Int} {n C7:Nat} {s st bk:Int} (hl:l.length=n) (hn:n<=1000) (hc0:0<C7) (hc:C7<=1000) (hst:0<=st/\st<=1000) (hbk:0<=bk/\bk<=1000) (hx:∀k,k<=C7-> -10000<=B3 s st bk k/\B3 s st bk k<=10000):
  b9 C 232 [.o 1 (.k 0) 0 n,i64 s,i64 st,i64 bk,i64 C7] [.sc (iv l)] (.ret (.o 1 (.k 1) 0 (n+C7))) [.dead,.sc (iv (l++E6 s st bk C7))]:=by
 refine Bt.c ?_;refine m9 (Qe l n C7 s st bk) C7 ⟨[.k 0],⟨rfl,rfl,rfl,rfl,rfl,rfl,tq⟩,⟨_,rfl,rfl⟩,tq⟩ fun i hi=> ?_;have w2:I6.wrap (st+bk)=st+bk:=Za _ (by omega);rcases i with _|i
 ·refine d9 (fun h=> ?_) (fun h=> ?_)
  ·have x0:=hx 0 (by omega);have y0:=hx 1 (by omega);change -10000<=s/\s<=10000 at x0;have w1:I6.wrap (s-st)=s-st:=Za _ (by omega);have hsub:sub (iv l) 0 (n*1)++[Value.int .i64 s]=iv (l++E6 s st bk (0+1)):=by
    rw[Zd,Y3 hl,<-oz];rfl
   refine⟨Zc _,by omega,by rw[M5,hl];omega,?_⟩;refine d9 (fun h=> ?_) (fun h=> ?_)
   ·rw[w1]at h;refine⟨0+1,by omega,by omega,[.k 0,.d 19 0],⟨rfl,rfl,rfl,f8 ?_,rfl,rfl,tq⟩,⟨_,rfl,rfl⟩,⟨_,rfl,i6 hsub⟩,tq⟩;rw[w1,w2,Za _ (by omega)];show _=if s-st<1 then s-st+(st+bk)else s-st;rw[if_pos h]
   ·rw[w1]at h;refine⟨0+1,by omega,by omega,[.k 0,.d 19 0],⟨rfl,rfl,rfl,f8 ?_,rfl,rfl,tq⟩,⟨_,rfl,rfl⟩,⟨_,rfl,i6 hsub⟩,tq⟩;rw[w1];show _=if s-st<1 then s-st+(st+bk)else s-st;rw[if_neg h]
  ·omega
 ·have hll:(l++E6 s st bk (i+1)).length=n+(i+1):=by rw[Zm,eQ,hl]
  refine d9 (fun h=> ?_) (fun h=> ?_)
  ·have d8:i+1<C7:=(by omega);have x0:=hx (i+1) (by omega);have hsub:sub (iv (l++E6 s st bk (i+1))) 0 ((n+(i+1))*1)++[Value.int .i64 (B3 s st bk (i+1))]=iv (l++E6 s st bk (i+1+1)):=by
    rw[Zd,Y3 hll,qx s st bk (i+1)];show iv (l++E6 s st bk (i+1))++iv [B3 s st bk (i+1)]=_;rw[oz,List.append_assoc]
   have hd:B3 s st bk (i+1+1)=if B3 s st bk (i+1)-st<1 then B3 s st bk (i+1)-st+(st+bk)else B3 s st bk (i+1)-st:=rfl;have w1:I6.wrap (B3 s st bk (i+1)-st)=B3 s st bk (i+1)-st:=Za _ (by omega);refine⟨Zc _,by omega,by rw[M5,hll];omega,?_⟩;refine d9 (fun h=> ?_) (fun h=> ?_)
   ·rw[w1]at h;refine⟨i+1+1,by omega,by omega,[.k 0,.d 19 0],⟨rfl,rfl,rfl,f8 ?_,rfl,f8 (by simp(disch:=omega)only[Za];omega),tq⟩,⟨_,rfl,rfl⟩,⟨_,rfl,i6 hsub⟩,tq⟩;rw[w1,w2,Za _ (by omega),hd,if_pos h]
   ·rw[w1]at h;refine⟨i+1+1,by omega,by omega,[.k 0,.d 19 0],⟨rfl,rfl,rfl,f8 ?_,rfl,f8 (by simp(disch:=omega)only[Za];omega),tq⟩,⟨_,rfl,rfl⟩,⟨_,rfl,i6 hsub⟩,tq⟩;rw[w1,hd,if_neg h]
  ·obtain rfl:i+1=C7:=(by omega);exact⟨_,rfl,[.k 0,.k 1],rfl,⟨_,rfl,rfl⟩,⟨_,rfl,rfl⟩,tq⟩
theorem LA {C7:Nat} {s st bk:Int} (hc0:0<C7) (hc:C7<=1000) (hst:0<=st/\st<=1000) (hbk:0<=bk/\bk<=1000) (hx:∀k,k<=C7-> -10000<=B3 s st bk k/\B3 s st bk k<=10000):
  b9 C 232 [g9,i64 s,i64 st,i64 bk,i64 C7] [] (.ret (.o 1 (.k 0) 0 C7)) [.sc (iv (E6 s st bk C7))]:=by
 refine Bt.c ?_;refine E9 (fun i=>⟨[(0,.o 1 (.k 0) 0 i),(2,i64 st),(3,i64 bk),(11,i64 (B3 s st bk i)),(13,i64 C7),(14,i64 i)],[.sc (iv (E6 s st bk i))]⟩) C7 [(0,1,.sc [])] ⟨[.d 900000 0],⟨rfl,rfl,rfl,rfl,rfl,rfl,tq⟩,⟨_,rfl,rfl⟩,tq⟩ fun i hi=> ?_;have w2:I6.wrap (st+bk)=st+bk:=Za _ (by omega);have hll:=eQ s st bk i;refine d9 (fun h=> ?_) (fun h=> ?_)
 ·have d8:i<C7:=(by omega);have x0:=hx i (by omega);have hsub:sub (iv (E6 s st bk i)) 0 (i*1)++[Value.int .i64 (B3 s st bk i)]=iv (E6 s st bk (i+1)):=by
   rw[Zd,Y3 hll,qx s st bk i];show iv (E6 s st bk i)++iv [B3 s st bk i]=_;rw[oz]
  have hd:B3 s st bk (i+1)=if B3 s st bk i-st<1 then B3 s st bk i-st+(st+bk)else B3 s st bk i-st:=rfl;have w1:I6.wrap (B3 s st bk i-st)=B3 s st bk i-st:=Za _ (by omega);refine⟨Zc _,by omega,by rw[M5,hll];omega,?_⟩;refine d9 (fun h=> ?_) (fun h=> ?_)
  ·rw[w1]at h;refine⟨i+1,by omega,by omega,[.d 19 0],⟨rfl,rfl,rfl,f8 ?_,rfl,f8 (by simp(disch:=omega)only[Za];omega),tq⟩,⟨_,rfl,i6 hsub⟩,tq⟩;rw[w1,w2,Za _ (by omega),hd,if_pos h]
  ·rw[w1]at h;refine⟨i+1,by omega,by omega,[.d 19 0],⟨rfl,rfl,rfl,f8 ?_,rfl,f8 (by simp(disch:=omega)only[Za];omega),tq⟩,⟨_,rfl,i6 hsub⟩,tq⟩;rw[w1,hd,if_neg h]
 ·obtain rfl:i=C7:=(by omega);exact⟨_,rfl,[.k 0],rfl,⟨_,rfl,rfl⟩,tq⟩
def oq:List Int:=[58,60,62,64,57,59,61,63]
def fU (i:Nat):List Int:=(List.range i).foldl (fun l j=>l++E6 (oq.getD j 0) 8 0 8) []
theorem Cd (i):fU (i+1)=fU i++E6 (oq.getD i 0) 8 0 8:=by simp[fU,Zn]
theorem Cc:∀i,(fU i).length=8*i
 |0=>rfl
 |i+1=>by rw[Cd,Zm,Cc i,eQ];omega
theorem Wg:∀i,i<8->∀k,k<=8-> -10000<=B3 (oq.getD i 0) 8 0 k/\B3 (oq.getD i 0) 8 0 k<=10000:=by decide +kernel
def A5:List Nat:=(fU 8).map Int.toNat
theorem Cx (t:List Nat):iv (t.map fun(x:Nat)=>(x:Int))=nv t:=by simp[iv,nv]
theorem a1S:iv (fU 8)=nv A5:=by
 rw[<-Cx,show fU 8=A5.map fun(x:Nat)=>(x:Int) by decide +kernel]
theorem LG:b9 C 186 [] [] (.ret (.o 1 (.k 0) 0 64)) [.sc (nv A5)]:=by
 rw[<-a1S];refine Rn.c ?_;refine E9 (fun i=>⟨[(1,.o 1 (.k 0) 0 (8*i)),(4,.z 8 (iv oq)),(5,i64 8),(6,i64 i)],[.sc (iv (fU i))]⟩) 8 [(1,1,.sc [])] ⟨[.d 900000 0],⟨rfl,rfl,rfl,rfl,tq⟩,⟨_,rfl,rfl⟩,tq⟩ fun i hi=> ?_;refine d9 (fun h=> ?_) (fun h=> ?_)
 ·have d8:i<8:=(by omega);refine⟨by omega,by omega,?_⟩;refine⟨_,by rw[Zb];exact wc d8,?_⟩;refine⟨[.k 0],_,_,_,_,zG (l:=fU i) (n:=8*i) (C7:=8) (Cc i) (by omega) (by decide) (by decide) (by decide) (by decide) (Wg i d8),rfl,rfl,?_⟩;refine⟨i+1,by omega,by omega,[.d 12 1],⟨rfl,rfl,rfl,f8 (by simp(disch:=omega)only[Za];omega),tq⟩,⟨_,rfl,i6 ?_⟩,tq⟩;rw[Cd]
 ·obtain rfl:i=8:=(by omega);exact⟨_,rfl,[.k 0],rfl,⟨_,rfl,rfl⟩,tq⟩
def jR:List Nat:=[16,7,20,21,29,12,28,17,1,15,23,26,5,18,31,10,2,8,24,14,32,27,3,9,19,13,30,6,22,11,4,25]
theorem Ma:b9 C 237 [] [] (.ret (.o 1 (.k 0) 0 32)) [.sc (nv jR)]:=
 Ro.c ⟨_,rfl,[.d 1 0],rfl,⟨_,rfl,rfl⟩,tq⟩
def Q8 (n:Nat):List Nat:=(List.range n).map fun i=>(4*(i/6)+i%6+31)%32+1
theorem GP (n):Q8 (n+1)=Q8 n++[(4*(n/6)+n%6+31)%32+1]:=by simp[Q8,Zn]
theorem fx (n):(Q8 n).length=n:=by simp[Q8]
theorem GQ:∀i:Nat,i<48->I6.wrap ((I6.wrap (I6.wrap (I6.wrap (4*I6.wrap (((i:Nat):Int).tdiv 6))+((i:Nat):Int).tmod 6)+31)).tmod 32+1)=(((4*(i/6)+i%6+31)%32+1:Nat):Int):=by decide +kernel
theorem OT:b9 C 234 [] [] (.ret (.o 1 (.k 0) 0 48)) [.sc (nv (Q8 48))]:=by
 refine Rr.c ?_;refine E9 (fun i=>⟨[(1,.o 1 (.k 0) 0 i),(3,i64 i)],[.sc (nv (Q8 i))]⟩) 48 [(1,1,.sc [])] ⟨[.d 900000 0],⟨rfl,rfl,tq⟩,⟨_,rfl,rfl⟩,tq⟩ fun i hi=> ?_;refine d9 (fun h=> ?_) (fun h=> ?_)
 ·have d8:i<48:=(by omega);refine⟨by decide,by decide,by decide,?_⟩;refine⟨Zc _,by omega,by rw[L6,fx];omega,?_⟩;refine⟨i+1,by omega,by omega,[.d 17 0],⟨rfl,f8 (by simp(disch:=omega)only[Za];omega),tq⟩,⟨_,rfl,i6 ?_⟩,tq⟩;rw[GQ i d8,Zd];show sub (nv (Q8 i)) 0 i++[Value.int .i64 (((4*(i/6)+i%6+31)%32+1:Nat):Int)]=_;rw[jI (fx _),GP]
 ·obtain rfl:i=48:=(by omega);exact⟨_,rfl,[.k 0],rfl,⟨_,rfl,rfl⟩,tq⟩
def A8:List Int:=E6 57 8 57 28++E6 63 8 55 24++[28,20,12,4]
def dc:List Nat:=A8.map Int.toNat
def aM:List Nat:=[14,17,11,24,1,5,3,28,15,6,21,10,23,19,12,4,26,8,16,7,27,20,13,2,41,52,31,37,47,55,30,40,51,45,33,48,44,49,39,56,34,53,46,42,50,36,29,32]
theorem ET:iv A8=nv dc:=by
 rw[<-Cx,show A8=dc.map fun(x:Nat)=>(x:Int) by decide +kernel]
theorem JJ:b9 C 183 [] [] (.ret (.t [.o 1 (.k 0) 0 56,.o 1 (.k 1) 0 48])) [.sc (nv dc),.sc (nv aM)]:=by
 rw[<-ET];have d1:=LA (C7:=28) (s:=57) (st:=8) (bk:=57) (by decide) (by decide) (by decide) (by decide) (by decide +kernel);have d2:=zG (l:=E6 57 8 57 28) (n:=28) (C7:=24) (s:=63) (st:=8) (bk:=55) (eQ _ _ _ _) (by decide) (by decide) (by decide) (by decide) (by decide) (by decide +kernel);refine Rm.c ?_;refine⟨[],_,_,_,_,d1,rfl,rfl,?_⟩;refine⟨[.d 2 0],_,_,_,_,d2,rfl,rfl,?_⟩;refine⟨Zc _,by decide,by decide,?_⟩;refine⟨Zc _,by decide,Zc _,?_⟩;refine⟨_,rfl,[.d 6 0,.d 11 0],rfl,⟨_,rfl,i6 ?_⟩,⟨_,rfl,i6 ?_⟩,tq⟩
 ·show sub (iv (E6 57 8 57 28++E6 63 8 55 24)) 0 52++iv [28,20,12,4]=iv A8;rw[Y3 (by rw[Zm,eQ,eQ]),oz];rfl
 ·rfl
def PQ:List (List (Bs)):=[[[69,52,68,49,50,70,66,56,51,65,54,67,53,57,48,55],[48,70,55,52,69,50,68,49,65,54,67,66,57,53,51,56],[52,49,69,56,68,54,50,66,70,67,57,55,51,65,53,48],[70,67,56,50,52,57,49,55,53,66,51,69,65,48,54,68]],[[70,49,56,69,54,66,51,52,57,55,50,68,67,48,53,65],[51,68,52,55,70,50,56,69,67,48,49,65,54,57,66,53],[48,69,55,66,65,52,68,49,53,56,67,54,57,51,50,70],[68,56,65,49,51,70,52,50,66,54,55,67,48,53,69,57]],[[65,48,57,69,54,51,70,53,49,68,67,55,66,52,50,56],[68,55,48,57,51,52,54,65,50,56,53,69,67,66,70,49],[68,54,52,57,56,70,51,48,66,49,50,67,53,65,69,55],[49,65,68,48,54,57,56,55,52,70,69,51,66,53,50,67]],[[55,68,69,51,48,54,57,65,49,50,56,53,66,67,52,70],[68,56,66,53,54,70,48,51,52,55,50,67,49,65,69,57],[65,54,57,48,67,66,55,68,70,49,51,69,53,50,56,52],[51,70,48,54,65,49,68,56,57,52,53,66,67,55,50,69]],[[50,67,52,49,55,65,66,54,56,53,51,70,68,48,69,57],[69,66,50,67,52,55,68,49,53,48,70,65,51,57,56,54],[52,50,49,66,65,68,55,56,70,57,67,53,54,51,48,69],[66,56,67,55,49,69,50,68,54,70,48,57,65,52,53,51]],[[67,49,65,70,57,50,54,56,48,68,51,52,69,55,53,66],[65,70,52,50,55,67,57,53,54,49,68,69,48,66,51,56],[57,69,70,53,50,56,67,51,55,48,52,65,49,68,66,54],[52,51,50,67,57,53,70,65,66,69,49,55,54,48,56,68]],[[52,66,50,69,70,48,56,68,51,67,57,55,53,65,54,49],[68,48,66,55,52,57,49,65,69,51,53,67,50,70,56,54],[49,52,66,68,67,51,55,69,65,70,54,56,48,53,57,50],[54,66,68,56,49,52,65,55,57,53,48,70,69,50,51,67]],[[68,50,56,52,54,70,66,49,65,57,51,69,53,48,67,55],[49,70,68,56,65,51,55,52,67,53,54,66,48,69,57,50],[55,66,52,49,57,67,69,50,48,54,65,68,70,51,53,56],[50,49,69,55,52,65,56,68,70,67,57,48,51,53,54,66]]]
def S2 (s r:Nat):Bs:=(PQ.getD s []).getD r []
theorem uY:∀s,s<8->∀r,r<4->(S2 s r).length=16/\∀j,j<16->eY ((S2 s r).getD j 48)=true:=by decide +kernel
theorem LB {x:Int} {c:UInt8} (hx:x=c.toNat) (h:eY c=true):b9 C 235 [vi .u8 x] [] (.ret (vi .u8 (T7 c))) []:=by
 subst hx;have h':=of_decide_eq_true h;refine Rq.c ?_;refine d9 (fun h1=> ?_) (fun h1=> ?_)
 ·refine⟨_,rfl,[],congrArg (vi .u8) ?_,tq⟩;simp only[wrap_u8,T7];split<;>omega
 ·refine⟨_,rfl,[],congrArg (vi .u8) ?_,tq⟩;simp only[wrap_u8,T7];split<;>omega
theorem gR {s r:Nat} (hr:r<4):([M0 (S2 s 0),M0 (S2 s 1),M0 (S2 s 2),M0 (S2 s 3)]:List V)[r]? =some (M0 (S2 s r)):=O5 (f:=fun r=>M0 (S2 s r)) rfl rfl rfl rfl hr
theorem Lv {s r:Nat} (hs:s<8) (hr:r<4):b9 C 236 [i64 s,i64 r] [] (.ret (M0 (S2 s r))) []:=by
 rcases s with _|_|_|_|_|_|_|_|s
 ·refine gX.c ?_;refine⟨by omega,by omega,?_⟩;refine⟨_,by rw[Zb,Zd];exact gR (s:=0) hr,?_⟩;exact⟨_,rfl,[],rfl,tq⟩
 ·refine gX.c ?_;refine⟨by omega,by omega,?_⟩;refine⟨_,by rw[Zb,Zd];exact gR (s:=1) hr,?_⟩;exact⟨_,rfl,[],rfl,tq⟩
 ·refine gX.c ?_;refine⟨by omega,by omega,?_⟩;refine⟨_,by rw[Zb,Zd];exact gR (s:=2) hr,?_⟩;exact⟨_,rfl,[],rfl,tq⟩
 ·refine gX.c ?_;refine⟨by omega,by omega,?_⟩;refine⟨_,by rw[Zb,Zd];exact gR (s:=3) hr,?_⟩;exact⟨_,rfl,[],rfl,tq⟩
 ·refine gX.c ?_;refine⟨by omega,by omega,?_⟩;refine⟨_,by rw[Zb,Zd];exact gR (s:=4) hr,?_⟩;exact⟨_,rfl,[],rfl,tq⟩
 ·refine gX.c ?_;refine⟨by omega,by omega,?_⟩;refine⟨_,by rw[Zb,Zd];exact gR (s:=5) hr,?_⟩;exact⟨_,rfl,[],rfl,tq⟩
 ·refine gX.c ?_;refine⟨by omega,by omega,?_⟩;refine⟨_,by rw[Zb,Zd];exact gR (s:=6) hr,?_⟩;exact⟨_,rfl,[],rfl,tq⟩
 ·refine gX.c ?_;refine⟨by omega,by omega,?_⟩;refine⟨_,by rw[Zb,Zd];exact gR (s:=7) hr,?_⟩;exact⟨_,rfl,[],rfl,tq⟩
 ·omega
def fM (x:Bs) (s:Nat):Nat:=2*(tb x (6*s)).toNat+(tb x (6*s+5)).toNat
def dA (x:Bs) (s:Nat):Nat->Nat
 |0=>0
 |k+1=>2*dA x s k+(tb x (6*s+1+k)).toNat
theorem bt (v:Bool):v.toNat<2:=by cases v<;>decide
theorem kU (x s):fM x s<4:=by
 have:=bt (tb x (6*s));have:=bt (tb x (6*s+5));unfold fM;omega
theorem nQ (x s):∀k,dA x s k<2^k
 |0=>by show 0<1;omega
 |k+1=>by
  have:=bt (tb x (6*s+1+k));have:=nQ x s k;unfold dA;rw[Nat.pow_succ];omega
def dS (x:Bs) (s:Nat):Nat:=T7 ((S2 s (fM x s)).getD (dA x s 4) 48)
theorem qp {x s} (hs:s<8):dS x s<16:=vd ((uY s hs _ (kU x s)).2 _ (nQ x s 4))
def N5 (x:Bs) (i:Nat):Bs:=(List.range 4).map fun q=>Zp ((if 2*q<i then 16*dS x (2*q)else 0)+(if 2*q+1<i then dS x (2*q+1)else 0))
theorem kT (x i):(N5 x i).length=4:=by simp[N5]
def dF (r k:Bs):Bs:=E7 jR (N5 (j9 (E7 (Q8 48) r) k) 8)
theorem Ym:∀d,d<16->∀j,j<=1->U8.wrap (((d:Nat):Int)*2^(min ((4*j:Nat):Int).toNat U8.bits))=(((Zp (d*16^j)).toNat:Nat):Int):=by decide +kernel
theorem DK:∀a,a<16->∀d,d<16->(Zp 0|||Zp (d*16^1)=Zp (16*d))/\(Zp (16*a)|||Zp (d*16^0)=Zp (16*a+d)):=by decide +kernel
theorem Bc {x:Bs} {i:Nat} (hi:i<8):(N5 x i).set (i/2) ((N5 x i).getD (i/2) 0|||Zp (dS x i*16^(1-i%2)))=N5 x (i+1):=by
 have hd:=qp (x:=x) hi;apply Zw (by simp[N5]);intro q h1 h2;have hq:q<4:=by simpa [N5]using h2
 rw[Z2];split
 ·rename_i he;subst he;have g1:(N5 x i).getD (i/2) 0=Zp ((if 2*(i/2)<i then 16*dS x (2*(i/2))else 0)+(if 2*(i/2)+1<i then dS x (2*(i/2)+1)else 0)):=by simp[N5,hq]
  rw[g1];simp only[N5,Zz,Zy];by_cases h2:i%2=0
  ·rw[h2,if_neg (by omega),if_neg (by omega),if_pos (by omega),if_neg (by omega),show 2*(i/2)=i by omega];exact(DK 0 (by decide) _ hd).1
  ·rw[show i%2=1 by omega,if_pos (by omega),if_neg (by omega),if_pos (by omega),if_pos (by omega),show 2*(i/2)+1=i by omega];exact(DK _ (qp (by omega)) _ hd).2
 ·rename_i he;simp only[N5,Zz,Zy];have a1:(2*q<i)=(2*q<i+1):=by apply propext;omega
  have a2:(2*q+1<i)=(2*q+1<i+1):=by apply propext;omega
  simp only[a1,a2]
end Go.Scr
