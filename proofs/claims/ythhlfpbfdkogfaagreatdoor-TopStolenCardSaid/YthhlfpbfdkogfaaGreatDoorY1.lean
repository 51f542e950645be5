/-
  What the functions of the given program reckon, each by a contract, up to the law. It is no claim by itself; each contract bears its own conditions.
-/
import Derived.Test.YthhlfpbfdkogfaaGreatDoorY
set_option linter.unusedVariables false
set_option linter.unusedSimpArgs false
set_option maxRecDepth 100000
namespace Go.Scr
open Go.Proofs
open IntWalk renaming i64_in → Za
open Int renaming toNat_natCast → Zb, tmod_eq_emod_of_nonneg → Zg, tdiv_eq_ediv_of_nonneg → Zi, fdiv_eq_ediv_of_nonneg → Zs
open Nat renaming le_refl → Zc, mul_one → Zd, zero_add → Ze, le_of_ble_eq_true → Zf, mod_lt → Zr, shiftRight_eq_div_pow → Zx, le_of_eq → Z3, add_comm → Z6
open BitVec renaming ofInt → Zh
open List renaming length_reverse → Zj, map_append → Zl, length_append → Zm, range_succ → Zn, replicate → Zo, length_map → Zq, length_replicate → Zt, map_congr_left → Zu, map → Zv, ext_getElem → Zw, getElem_range → Zy, getElem_map → Zz, reverse_append → Z0, getElem_set → Z2, take_of_length_le → Z4, mem_range → Z5
open UInt32 renaming ofNat → Zk, eq_of_toBitVec_eq → Z1
open UInt8 renaming ofNat → Zp
open Go.IntKind renaming i64 → I6, u8 → U8, u32 → U3
theorem Fu {k:List Nat} {x:Q4} (hl:k.length=52) (hk:Q8 k) (hx:F7 x):a7 C 210 [qA x,.z 52 (nv k)] [] (.ret (qA (G1 (u9 k) x))) []:=by
 rw[<-rj k hk x];obtain⟨o1,o2,o3,o4⟩:=hx;have hi:=fun i=>oS (hk i);refine Ot.c ?_;refine⟨by decide,by decide,by decide,by decide,?_⟩;have e48:sub (nv k) 48 4=nv (k.drop 48):=by rw[Y4,G6 _ _ _ (by omega)]
 refine⟨by decide,by decide,_,rfl,by decide,by decide,?_⟩;refine⟨_,by show(sub (nv k) 48 4)[0]? =_;rw[e48];exact I4 (by omega),?_⟩;refine⟨[],_,_,_,_,nI rfl (hk _),rfl,rfl,?_⟩;refine⟨[],_,_,_,_,aw rfl rfl o1 (hi _),rfl,rfl,?_⟩;refine⟨by decide,by decide,_,rfl,by decide,by decide,?_⟩;refine⟨_,by show(sub (nv k) 48 4)[2]? =_;rw[e48];exact I4 (by omega),?_⟩;refine⟨[],_,_,_,_,nJ rfl rfl o3 (hk _),rfl,rfl,?_⟩;refine⟨by decide,by decide,_,rfl,by decide,by decide,?_⟩;refine⟨_,by show(sub (nv k) 48 4)[1]? =_;rw[e48];exact I4 (by omega),?_⟩;refine⟨[],_,_,_,_,nJ rfl rfl o2 (hk _),rfl,rfl,?_⟩;refine⟨by decide,by decide,_,rfl,by decide,by decide,?_⟩;refine⟨_,by show(sub (nv k) 48 4)[3]? =_;rw[e48];exact I4 (by omega),?_⟩;refine⟨[],_,_,_,_,nI rfl (hk _),rfl,rfl,?_⟩;refine⟨[],_,_,_,_,aw rfl rfl o4 (hi _),rfl,rfl,?_⟩;refine⟨Zc _,?_⟩;refine j4 (fun r=>⟨[(1,.z 52 (nv k)),(2,.p (.k 0) 0),(4,.p (.k 1) 0),(6,i64 (7-r))],[.mx [i64 (T4 k x r).1,i64 (T4 k x r).2.1,i64 (T4 k x r).2.2.1,i64 (T4 k x r).2.2.2],.sc [.int .i64 0,.int .i64 0,.int .i64 0,.int .i64 0]]⟩) 8 ⟨[.d 2 0,.d 4 0],⟨rfl,rfl,rfl,rfl,tq⟩,⟨_,rfl,rfl⟩,⟨_,rfl,rfl⟩,tq⟩ fun r hr=> ?_;obtain⟨p1,p2,p3,p4⟩:=EI k x r;refine b8 (fun h=> ?_) (fun h=> ?_)
 ·obtain⟨i,ei,hi7,hri⟩:∃i:Nat,(7:Int)-r=i/\i<=7/\i=7-r:=⟨7-r,by omega,by omega,by omega⟩;have hbs:T4 k x (r+1)=aY k (6*i) (X7 k (6*i) (T4 k x r)):=by rw[nk,iU,hri]
  rw[ei];generalize hs:T4 k x r=s at p1 p2 p3 p4 hbs ⊢;have e1:(I6.wrap (6*(i:Int))).toNat=6*i:=(by simp(disch:=omega)only[Za];omega);refine⟨(by simp(disch:=omega)only[Za];omega),by rw[e1];show 6*i<=52;omega,Zc _,Zc _,?_⟩;rw[e1];have ed:sub (nv k) (6*i) (52-6*i)=nv (k.drop (6*i)):=by rw[Y4,G6 _ _ _ (by omega)]
  refine⟨by decide,by decide,_,rfl,by decide,by decide,_,rfl,by decide,by decide,_,rfl,by decide,by decide,_,rfl,?_⟩;refine⟨[],_,_,_,_,wO (k:=k) (o:=6*i) (n:=52-6*i) rfl rfl rfl rfl p1 p3 p2 p4 (by omega) (by omega) hk,?_,rfl,?_⟩
  ·show[_,_,_,_,V.z (52-6*i) (sub (nv k) (6*i) (52-6*i))]=_;rw[ed];rfl
  have hg:U1 k (6*i) s.1 s.2.2.1 s.2.1 s.2.2.2<65536:=F6 _ _;have hh:V8 k (6*i) s.1 s.2.2.1 s.2.1 s.2.2.2<65536:=bO _ _;refine⟨by decide,by decide,_,rfl,by decide,by decide,_,rfl,by decide,by decide,_,rfl,by decide,by decide,_,rfl,?_⟩;refine⟨by decide,by show((0:Int))<((52-6*i:Nat):Int);omega,?_⟩;refine⟨_,by show(sub (nv k) (6*i) (52-6*i))[0]? =_;rw[ed];exact I4 (by omega),?_⟩;refine⟨[],_,_,_,_,nI rfl (hk _),rfl,rfl,?_⟩;refine⟨[],_,_,_,_,aw (L5 16 (by decide) p1 hg) rfl (U9 p1 hg) (hi _),rfl,rfl,?_⟩;refine⟨by decide,by show((1:Int))<((52-6*i:Nat):Int);omega,?_⟩;refine⟨_,by show(sub (nv k) (6*i) (52-6*i))[1]? =_;rw[ed];exact I4 (by omega),?_⟩;refine⟨[],_,_,_,_,nJ (L5 16 (by decide) p3 hh) rfl (U9 p3 hh) (hk _),rfl,rfl,?_⟩;refine⟨by decide,by show((2:Int))<((52-6*i:Nat):Int);omega,?_⟩;refine⟨_,by show(sub (nv k) (6*i) (52-6*i))[2]? =_;rw[ed];exact I4 (by omega),?_⟩;refine⟨[],_,_,_,_,nJ (L5 16 (by decide) p2 hg) rfl (U9 p2 hg) (hk _),rfl,rfl,?_⟩;refine⟨by decide,by show((3:Int))<((52-6*i:Nat):Int);omega,?_⟩;refine⟨_,by show(sub (nv k) (6*i) (52-6*i))[3]? =_;rw[ed];exact I4 (by omega),?_⟩;refine⟨[],_,_,_,_,nI rfl (hk _),rfl,rfl,?_⟩;refine⟨[],_,_,_,_,aw (L5 16 (by decide) p4 hh) rfl (U9 p4 hh) (hi _),rfl,rfl,?_⟩;refine⟨Zc _,?_⟩;refine⟨r+1,by omega,by omega,[.k 0,.k 1],⟨rfl,rfl,rfl,c9 ?_,tq⟩,⟨_,rfl,?_⟩,⟨_,rfl,rfl⟩,tq⟩
  ·rw[Za _ (by omega)];omega
  ·rw[hbs];rfl
 ·obtain rfl:r=8:=(by omega);refine⟨_,rfl,rfl,Zc _,_,rfl,rfl,?_⟩;exact⟨_,rfl,[],rfl,tq⟩
theorem Yw (b:Bs):G7 b 0=b:=by
 apply mN (E5 _ _);intro j hj;rw[E5]at hj;unfold G7;rw[eO hj,Nat.add_zero,Nat.mod_eq_of_lt hj]
def X9 (key:Bs) (j:Nat):Bs:=G7 key (25*j%128)
theorem Qv (key j):(X9 key j).length=key.length:=E5 _ _
theorem zu {key:Bs} (hk:key.length=16) (j:Nat):G7 (X9 key j) 25=X9 key (j+1):=by
 unfold X9;rw[Yv _ _ _ (by omega),hk];congr 1;omega
def oV (key:Bs) (j:Nat):List Nat:=if j=7 then P9 key else ce key j
theorem zv {key:Bs} {j i:Nat} (hj:j<7) (hi:i=if j=6 then 4 else 8):ce key j++Q5 (X9 key j) i=oV key (j+1):=by
 unfold oV X9;by_cases h:j=6
 ·subst h;rw[if_pos rfl]at hi ⊢;subst hi;unfold P9;rw[oX key 6,List.take_append,fD,Z4 (by rw[fD];decide)];congr 1
 ·rw[if_neg h]at hi;subst hi;rw[if_neg (by omega),oX]
theorem HH {va:List Value} {key:Bs} (ha:va=bv key) (hk:key.length=16):a7 C 110 [.z 16 va] [] (.ret (.t [.o 1 (.k 0) 0 52,i64 0])) [.sc (nv (P9 key))]:=by
 subst ha;refine Om.c ?_;refine A5 (fun j=>⟨[(0,.z 16 (bv (X9 key j))),(4,.o 1 (.k 0) 0 (if j=7 then 52 else 8*j))],[.sc (nv (oV key j))]⟩) 7 [(4,1,.sc [])] ⟨[.d 900000 0],⟨?_,rfl,tq⟩,⟨_,rfl,rfl⟩,tq⟩ fun j hj=> ?_
 ·show V.z 16 (bv key)=V.z 16 (bv (G7 key 0));rw[Yw]
 refine b8 (fun h=> ?_) (fun h=> ?_)
 ·have a8:j<7:=by
   rcases Nat.lt_or_ge j 7 with h7|h7
   ·exact h7
   ·rw[if_pos (show j=7 by omega)]at h;exact absurd h (by decide)
  have hkl:(X9 key j).length=16:=by rw[Qv,hk]
  refine j4 (fun i=>⟨[(0,.z 16 (bv (X9 key j))),(4,.o 1 (.k 0) 0 (8*j+i)),(5,i64 (2*i:Nat))],[.sc (nv (ce key j++Q5 (X9 key j) i))]⟩) (if j=6 then 4 else 8) ⟨[.k 0],⟨rfl,?_,rfl,tq⟩,⟨_,rfl,d8 ?_⟩,tq⟩ fun i hi=> ?_
  ·show V.o 1 (.k 0) 0 _=V.o 1 (.k 0) 0 _;rw[if_neg (by omega),Nat.add_zero]
  ·unfold oV;rw[if_neg (by omega)];simp[Q5]
  have hi8:i<=8:=by split at hi<;>omega
  refine b8 (fun h16=> ?_) (fun h16=> ?_)
  ·refine b8 (fun h52=> ?_) (fun h52=> ?_)
   ·have hlt2:i<if j=6 then 4 else 8:=by split<;>omega
    have e1:(I6.wrap (((2*i:Nat):Int)+1)).toNat=2*i+1:=(by simp(disch:=omega)only[Za];omega);refine⟨by omega,by omega,?_⟩;refine⟨_,by rw[Zb];exact y7 (i:=2*i) (by omega),?_⟩;refine⟨by decide,by omega,by omega,?_⟩;refine⟨_,by rw[e1];exact y7 (i:=2*i+1) (by omega),?_⟩;refine⟨Zc _,by omega,by rw[G3,Zm,ej,fD];omega,?_⟩;refine⟨i+1,by omega,by omega,[.d 36 0],⟨rfl,rfl,c9 (by simp(disch:=omega)only[Za];omega),tq⟩,⟨_,rfl,d8 ?_⟩,tq⟩;rw[uU,zI,<-List.append_assoc];exact iq (by rw[Zm,ej,fD];omega)
   ·have hi4:i=if j=6 then 4 else 8:=by split at hi<;>split<;>omega
    refine⟨[],_,_,_,_,kQ (b:=X9 key j) (n:=25) rfl hkl (by decide) (by decide) (by decide),rfl,rfl,?_⟩;refine⟨j+1,by omega,by omega,[.k 0],⟨?_,?_,tq⟩,⟨_,rfl,d8 ?_⟩,tq⟩
    ·show V.z 16 (sub (bv (G7 (X9 key j) 25)) 0 16)=_;rw[b9 (by rw[E5,hkl]),zu hk]
    ·show V.o 1 (.k 0) 0 _=V.o 1 (.k 0) 0 _;congr 1;split at hi4<;>split<;>omega
    ·rw[zv a8 hi4]
  ·have hi4:i=if j=6 then 4 else 8:=by split at hi<;>split<;>omega
   refine⟨[],_,_,_,_,kQ (b:=X9 key j) (n:=25) rfl hkl (by decide) (by decide) (by decide),rfl,rfl,?_⟩;refine⟨j+1,by omega,by omega,[.k 0],⟨?_,?_,tq⟩,⟨_,rfl,d8 ?_⟩,tq⟩
   ·show V.z 16 (sub (bv (G7 (X9 key j) 25)) 0 16)=_;rw[b9 (by rw[E5,hkl]),zu hk]
   ·show V.o 1 (.k 0) 0 _=V.o 1 (.k 0) 0 _;congr 1;split at hi4<;>split<;>omega
   ·rw[zv a8 hi4]
 ·have h7:j=7:=by
   rcases Nat.lt_or_ge j 7 with h7|h7
   ·rw[if_neg (by omega)]at h;omega
   ·omega
  subst h7;exact⟨_,rfl,[.k 0],rfl,⟨_,rfl,rfl⟩,tq⟩
abbrev mC (k:List Nat):V:= .q [nz k] 0
theorem HI {va:List Value} {key:Bs} (ha:va=bv key) (hk:key.length=16):a7 C 55 [.z 16 va] [] (.ret (.t [mC (P9 key),i64 0])) []:=by
 refine Oo.c ?_;refine⟨[],_,_,_,_,HH ha hk,rfl,rfl,?_⟩;refine⟨_,rfl,[],?_,tq⟩;show V.t [.q [.z 52 (sub _ 0 52)] 0,i64 0]=V.t [.q [.z _ _] 0,i64 0];rw[C9 (dY key),dY]
def tn (b:Bs) (i:Nat):List Value:=nv ((List.range 4).map fun j=>if j<i then ag b j else 0)
theorem Rd (b:Bs) {i:Nat} (hi:i<4):(tn b i).set i (.int .i64 ((ag b i:Nat):Int))=tn b (i+1):=by
 rcases i with _|_|_|_|i;all_goals first|rfl|omega
theorem HG {va:List Value} {b:Bs} {k:List Nat} {back:Bool} (ha:va=bv b) (hb:b.length=8) (hl:k.length=52) (hk:Q8 k):a7 C 154 [mC k,.z 8 va,bool back] [] (y4 8) [.sc (bv (U4 (G1 (if back then u9 k else k) (I5 b))))]:=by
 subst ha;refine yB.c ?_;have hq:F7 (I5 b):=⟨aR _ _,aR _ _,aR _ _,aR _ _⟩;have hz0:nz k= .z 52 (nv k):=by rw[<-hl]
 refine j4 (fun i=>⟨[(0,mC k),(1,.z 8 (bv b)),(2,bool back),(8,.p (.k 0) 0),(9,i64 i)],[.sc (tn b i)]⟩) 4 ⟨[.d 8 0],⟨rfl,rfl,rfl,rfl,rfl,tq⟩,⟨_,rfl,rfl⟩,tq⟩ fun i hi=> ?_;refine b8 (fun h=> ?_) (fun h=> ?_)
 ·have a8:i<4:=(by omega);have e1:(I6.wrap (2*(i:Int))).toNat=2*i:=(by simp(disch:=omega)only[Za];omega);have e2:(I6.wrap (I6.wrap (2*(i:Int))+1)).toNat=2*i+1:=(by simp(disch:=omega)only[Za];omega);refine⟨(by simp(disch:=omega)only[Za];omega),by omega,?_⟩;refine⟨_,by rw[e1];exact y7 (i:=2*i) (by omega),?_⟩;refine⟨by decide,by omega,by omega,?_⟩;refine⟨_,by rw[e2];exact y7 (i:=2*i+1) (by omega),?_⟩;refine⟨by omega,by omega,by show 0+((i:Int)).toNat*1<4;omega,?_⟩;refine⟨i+1,by omega,by omega,[.k 0],⟨rfl,rfl,rfl,rfl,c9 (by simp(disch:=omega)only[Za];omega),tq⟩,⟨_,rfl,d8 ?_⟩,tq⟩;rw[uU,Zb,Zd,Ze];exact Rd b a8
 obtain rfl:i=4:=(by omega);have fin:∀(y:Q4),F7 y->∀i,i<4->([i64 y.1,i64 y.2.1,i64 y.2.2.1,i64 y.2.2.2]:List V)[i]? =some (i64 (([y.1,y.2.1,y.2.2.1,y.2.2.2].getD i 0:Nat))):=by
  intro y _ i hi;rcases i with _|_|_|_|i;all_goals first|rfl|omega
 cases back
 ·refine⟨_,rfl,rfl,_,rfl,?_⟩;refine⟨[],_,_,_,_,IU (x:=I5 b) hl hk hq,?_,rfl,?_⟩
  ·show[qA (I5 b),nz k]=_;rw[hz0]
  refine⟨Zc _,?_⟩;generalize hy:G1 k (I5 b)=y;have yo:F7 y:=by rw[<-hy];exact dZ _ _ _
  refine A5 (fun i=>⟨[(8,.p (.k 0) 0),(10,.o 1 (.k 1) 0 (2*i)),(11,i64 i)],[.mx [i64 y.1,i64 y.2.1,i64 y.2.2.1,i64 y.2.2.2],.sc (bv (W6 y i))]⟩) 4 [(10,1,.sc [])] ⟨[.k 0,.d 900000 0],⟨rfl,rfl,rfl,tq⟩,⟨_,rfl,rfl⟩,⟨_,rfl,rfl⟩,tq⟩ fun i hi=> ?_;refine b8 (fun h=> ?_) (fun h=> ?_)
  ·have a8:i<4:=(by omega);have hv:([y.1,y.2.1,y.2.2.1,y.2.2.2]).getD i 0<65536:=by
    obtain⟨a,b',c,d⟩:=yo;rcases i with _|_|_|_|i;all_goals first|assumption|omega
   refine⟨by omega,by omega,?_⟩;refine⟨_,by rw[Zb,Zd,Ze];exact fin y yo i a8,?_⟩;refine⟨by decide,by omega,by omega,?_⟩;refine⟨_,by rw[Zb,Zd,Ze];exact fin y yo i a8,?_⟩;refine⟨Zc _,by omega,by rw[f9,fY y i (by omega)];omega,?_⟩;refine⟨i+1,by omega,by omega,[.k 0,.d 64 0],⟨rfl,rfl,c9 (by simp(disch:=omega)only[Za];omega),tq⟩,⟨_,rfl,rfl⟩,⟨_,rfl,d8 ?_⟩,tq⟩;rw[Zd,b9 (fY y i (by omega)),pF y i a8,<-z5];show bv (W6 y i)++[Value.int .u8 _,Value.int .u8 _]=_;rw[pG hv]
  ·obtain rfl:i=4:=(by omega);refine⟨_,rfl,[.k 1],rfl,⟨_,rfl,d8 ?_⟩,tq⟩;show bv (W6 y 4)=bv (U4 (G1 k (I5 b)));rw[hy];rfl
 ·refine⟨_,rfl,rfl,_,rfl,?_⟩;refine⟨[],_,_,_,_,Fu (x:=I5 b) hl hk hq,?_,rfl,?_⟩
  ·show[qA (I5 b),nz k]=_;rw[hz0]
  refine⟨Zc _,?_⟩;generalize hy:G1 (u9 k) (I5 b)=y;have yo:F7 y:=by rw[<-hy];exact dZ _ _ _
  refine A5 (fun i=>⟨[(8,.p (.k 0) 0),(10,.o 1 (.k 1) 0 (2*i)),(11,i64 i)],[.mx [i64 y.1,i64 y.2.1,i64 y.2.2.1,i64 y.2.2.2],.sc (bv (W6 y i))]⟩) 4 [(10,1,.sc [])] ⟨[.k 0,.d 900000 0],⟨rfl,rfl,rfl,tq⟩,⟨_,rfl,rfl⟩,⟨_,rfl,rfl⟩,tq⟩ fun i hi=> ?_;refine b8 (fun h=> ?_) (fun h=> ?_)
  ·have a8:i<4:=(by omega);have hv:([y.1,y.2.1,y.2.2.1,y.2.2.2]).getD i 0<65536:=by
    obtain⟨a,b',c,d⟩:=yo;rcases i with _|_|_|_|i;all_goals first|assumption|omega
   refine⟨by omega,by omega,?_⟩;refine⟨_,by rw[Zb,Zd,Ze];exact fin y yo i a8,?_⟩;refine⟨by decide,by omega,by omega,?_⟩;refine⟨_,by rw[Zb,Zd,Ze];exact fin y yo i a8,?_⟩;refine⟨Zc _,by omega,by rw[f9,fY y i (by omega)];omega,?_⟩;refine⟨i+1,by omega,by omega,[.k 0,.d 64 0],⟨rfl,rfl,c9 (by simp(disch:=omega)only[Za];omega),tq⟩,⟨_,rfl,rfl⟩,⟨_,rfl,d8 ?_⟩,tq⟩;rw[Zd,b9 (fY y i (by omega)),pF y i a8,<-z5];show bv (W6 y i)++[Value.int .u8 _,Value.int .u8 _]=_;rw[pG hv]
  ·obtain rfl:i=4:=(by omega);refine⟨_,rfl,[.k 1],rfl,⟨_,rfl,d8 ?_⟩,tq⟩;show bv (W6 y 4)=bv (U4 (G1 (u9 k) (I5 b)));rw[hy];rfl
theorem HF {va:List Value} {k:List Nat} {n:Nat} {back:Bool} (hn:n≠8):a7 C 154 [mC k,.z n va,bool back] [] P3 []:=by
 refine yB.c ?_;refine n7 (fun h=> ?_) (fun h=>absurd (by omega) hn);exact⟨_,rfl,[],rfl,tq⟩
def Tq (w:Nat):List (Bs):=if w=0 then
  [[56,49,55,68,54,70,51,50,48,66,53,57,69,67,65,52],[69,67,66,56,49,50,51,53,70,52,65,54,55,48,57,68],[66,65,53,69,54,68,57,48,67,56,70,51,50,52,55,49],[68,55,70,52,49,50,54,69,57,66,51,48,56,53,67,65]]
 else [[50,56,66,68,70,55,54,69,51,49,57,52,48,65,67,53],[49,69,50,66,52,67,51,55,54,68,65,53,70,57,48,56],[52,67,55,53,49,54,57,65,48,69,68,56,50,66,51,70],[66,57,53,49,67,51,68,69,54,52,55,70,50,48,56,65]]
def B3 (w r:Nat):Bs:=(Tq w).getD r []
theorem jN:∀w,w<2->∀r,r<4->(B3 w r).length=16/\∀j,j<16->dc ((B3 w r).getD j 48)=true:=by decide
def qf (a c:Nat):Nat:=a^^^(c/2|||8*c%16)^^^8*a%16
theorem uj:∀a,a<16->∀c,c<16->qf a c<16/\a^^^c<16:=by decide
def qS (w i:Nat) (p:Nat×Nat):Nat×Nat:=(O1 ((B3 w (2*i)).getD (p.1^^^p.2) 48),O1 ((B3 w (2*i+1)).getD (qf p.1 p.2) 48))
def W7 (w:Nat) (x:UInt8):Nat->Nat×Nat
 |0=>(x.toNat/16,x.toNat%16)
 |i+1=>qS w i (W7 w x i)
def tQ (w:Nat) (x:UInt8):UInt8:=Zp (16*(W7 w x 2).2+(W7 w x 2).1)
theorem Tr {w i:Nat} (hw:w<2) (hi:i<2) {p:Nat×Nat} (h1:p.1<16) (h2:p.2<16):(qS w i p).1<16/\(qS w i p).2<16:=by
 obtain⟨f,e⟩:=uj p.1 h1 p.2 h2;exact⟨sy ((jN w hw (2*i) (by omega)).2 _ e),sy ((jN w hw (2*i+1) (by omega)).2 _ f)⟩
theorem ui {w:Nat} (hw:w<2) (x:UInt8):∀i,i<=2->(W7 w x i).1<16/\(W7 w x i).2<16
 |0,_=>by have:=x.toNat_lt;exact⟨by show x.toNat/16<16;omega,by show x.toNat%16<16;omega⟩
 |i+1,h=>by
  obtain⟨a,b⟩:=ui hw x i (by omega);exact Tr hw (by omega) a b
theorem xC {x:Int} {c:UInt8} (hx:x=c.toNat) (h:dc c=true):a7 C 265 [vi .u8 x] [] (.ret (vi .u8 (O1 c))) []:=by
 subst hx;have h':=of_decide_eq_true h;refine Pp.c ?_;refine b8 (fun h1=> ?_) (fun h1=> ?_)
 ·refine⟨_,rfl,[],congrArg (vi .u8) ?_,tq⟩;simp only[wrap_u8,O1];split<;>omega
 ·refine⟨_,rfl,[],congrArg (vi .u8) ?_,tq⟩;simp only[wrap_u8,O1];split<;>omega
theorem IZ {w:Nat} (hw:w<2):a7 C 264 [i64 w] [] (.ret (.a [G5 (B3 w 0),G5 (B3 w 1),G5 (B3 w 2),G5 (B3 w 3)])) []:=by
 rcases w with _|_|w
 ·refine yS.c ?_;exact⟨Zc _,_,rfl,rfl,_,rfl,[],rfl,tq⟩
 ·refine yS.c ?_;exact⟨Zc _,_,rfl,rfl,_,rfl,[],rfl,tq⟩
 ·omega
theorem Tt:∀a,a<16->∀c,c<16->U8.wrap ((Zh U8.bits ((a:Nat):Int)^^^Zh U8.bits ((c:Nat):Int)).toNat:Int)=((a^^^c:Nat):Int):=by decide +kernel
theorem Tu:∀a,a<16->∀c,c<16->U8.wrap ((Zh U8.bits (U8.wrap ((Zh U8.bits ((a:Nat):Int)^^^Zh U8.bits (U8.wrap ((Zh U8.bits (((c:Nat):Int).fdiv (2^(min (1:Int).toNat U8.bits)))|||Zh U8.bits (U8.wrap ((Zh U8.bits (U8.wrap (((c:Nat):Int)*2^(min (3:Int).toNat U8.bits)))&&&Zh U8.bits 15).toNat:Int))).toNat:Int))).toNat:Int))^^^Zh U8.bits (U8.wrap ((Zh U8.bits (U8.wrap (((a:Nat):Int)*2^(min (3:Int).toNat U8.bits)))&&&Zh U8.bits 15).toNat:Int))).toNat:Int)=((qf a c:Nat):Int):=by decide +kernel
theorem Tw:∀x:Nat,x<256->((x:Nat):Int).fdiv (2^(min (4:Int).toNat U8.bits))=((x/16:Nat):Int)/\U8.wrap ((Zh U8.bits ((x:Nat):Int)&&&Zh U8.bits 15).toNat:Int)=((x%16:Nat):Int):=by decide +kernel
theorem Tv:∀a,a<16->∀c,c<16->U8.wrap ((Zh U8.bits (U8.wrap (((c:Nat):Int)*2^(min (4:Int).toNat U8.bits)))|||Zh U8.bits ((a:Nat):Int)).toNat:Int)=(((Zp (16*c+a)).toNat:Nat):Int):=by decide +kernel
theorem AT {w i:Nat} (hi:i<4):([G5 (B3 w 0),G5 (B3 w 1),G5 (B3 w 2),G5 (B3 w 3)]:List V)[i]? =some (G5 (B3 w i)):=by
 rcases i with _|_|_|_|i;all_goals first|rfl|omega
theorem IQ {w:Nat} {z:Int} {x:UInt8} (hw:w<2) (hz:z=x.toNat):a7 C 240 [i64 w,vi .u8 z] [] (.ret (u8 (tQ w x))) []:=by
 subst hz;have hx:=x.toNat_lt;refine Pk.c ?_;refine⟨[],_,_,_,_,IZ hw,rfl,rfl,?_⟩;refine⟨Zc _,by decide,?_⟩;obtain⟨x1,x2⟩:=Tw x.toNat hx;refine j4 (fun i=>⟨[(5,.p (.k 0) 0),(6,vi .u8 ((W7 w x i).1:Nat)),(7,vi .u8 ((W7 w x i).2:Nat)),(8,i64 (2*i:Nat))],[.mx [G5 (B3 w 0),G5 (B3 w 1),G5 (B3 w 2),G5 (B3 w 3)]]⟩) 2 ⟨[.d 5 0],⟨rfl,congrArg (vi .u8) x1,congrArg (vi .u8) x2,rfl,tq⟩,⟨_,rfl,rfl⟩,tq⟩ fun i hi=> ?_;obtain⟨s1,s2⟩:=ui hw x i hi;have hsi:W7 w x (i+1)=qS w i (W7 w x i):=rfl;generalize hp:W7 w x i=p at s1 s2 hsi ⊢;refine b8 (fun h=> ?_) (fun h=> ?_)
 ·have a8:i<2:=(by omega);obtain⟨f1,f2⟩:=uj p.1 s1 p.2 s2;obtain⟨r1,r2⟩:=jN w hw (2*i) (by omega);obtain⟨r3,r4⟩:=jN w hw (2*i+1) (by omega);have ee:=Tt p.1 s1 p.2 s2;have ef:=Tu p.1 s1 p.2 s2;have e1:(I6.wrap (((2*i:Nat):Int)+1)).toNat=2*i+1:=(by simp(disch:=omega)only[Za];omega);refine⟨by decide,by decide,by decide,?_⟩;refine⟨by omega,by omega,?_⟩;refine⟨_,by rw[Zb,Zd,Ze];exact AT (by omega),?_⟩;refine⟨by rw[ee];omega,?_,?_⟩
  ·rw[ee];show((p.1^^^p.2:Nat):Int)<(((B3 w (2*i)).toArray.size:Nat):Int);simp only[List.size_toArray,r1];omega
  refine⟨_,by rw[ee,Zb];exact mI (by omega),?_⟩;refine⟨[],_,_,_,_,xC rfl (r2 _ f2),rfl,rfl,?_⟩;refine⟨by omega,by omega,?_⟩;refine⟨_,by rw[e1,Zd,Ze];exact AT (by omega),?_⟩;refine⟨by rw[ef];omega,?_,?_⟩
  ·rw[ef];show((qf p.1 p.2:Nat):Int)<(((B3 w (2*i+1)).toArray.size:Nat):Int);simp only[List.size_toArray,r3];omega
  refine⟨_,by rw[ef,Zb];exact mI (by omega),?_⟩;refine⟨[],_,_,_,_,xC rfl (r4 _ f1),rfl,rfl,?_⟩;refine⟨i+1,by omega,by omega,[.k 0],⟨rfl,?_,?_,c9 (by simp(disch:=omega)only[Za];omega),tq⟩,⟨_,rfl,rfl⟩,tq⟩
  ·show vi .u8 _=vi .u8 _;rw[hsi];rfl
  ·show vi .u8 _=vi .u8 _;rw[hsi];rfl
 ·obtain rfl:i=2:=(by omega);refine⟨by decide,?_⟩;refine⟨_,rfl,[],congrArg (vi .u8) ?_,tq⟩;rw[tQ,hp];exact Tv p.1 s1 p.2 s2
def E4 (l:Nat):List Nat:=if l=4 then [1,0,0,1]else if l=3 then [1,1,0,0]else if l=2 then [0,1,0,1]else if l=1 then [0,0,1,1]else [1,0,1,0]
theorem IY {l:Nat} (hl:l<=4):a7 C 239 [i64 l] [] (.ret (.a [i64 ((E4 l).getD 0 0:Nat),i64 ((E4 l).getD 1 0:Nat),i64 ((E4 l).getD 2 0:Nat),i64 ((E4 l).getD 3 0:Nat)])) []:=by
 rcases l with _|_|_|_|_|l
 ·exact lQ.c ⟨Zc _,_,rfl,rfl,_,rfl,[],rfl,tq⟩
 ·exact lQ.c ⟨Zc _,_,rfl,rfl,_,rfl,[],rfl,tq⟩
 ·exact lQ.c ⟨Zc _,_,rfl,rfl,_,rfl,[],rfl,tq⟩
 ·exact lQ.c ⟨Zc _,_,rfl,rfl,_,rfl,[],rfl,tq⟩
 ·exact lQ.c ⟨Zc _,_,rfl,rfl,_,rfl,[],rfl,tq⟩
 ·omega
def H4 (i:Nat):Bs:=if i=0 then [1,239,91,91]else if i=1 then [91,239,239,1]else if i=2 then [239,91,1,239]else [239,1,239,91]
theorem IX:a7 C 241 [] [] (.ret (.a [u8 1,u8 239,u8 91,u8 91,u8 91,u8 239,u8 239,u8 1,u8 239,u8 91,u8 1,u8 239,u8 239,u8 1,u8 239,u8 91])) []:=
 Po.c ⟨Zc _,_,rfl,rfl,_,rfl,[],rfl,tq⟩
def bD (o:List Nat) (y:Bs) (i:Nat):Bs:=(List.range 4).map fun p=>if p<i then tQ (o.getD p 0) (y.getD p 0)else y.getD p 0
def M9 (o:List Nat) (y:Bs):Bs:=bD o y 4
theorem pT (o y i):(bD o y i).length=4:=by simp[bD]
theorem bE (o y):(M9 o y).length=4:=pT _ _ _
theorem PT (y:Bs) (h:y.length=4):[y.getD 0 0,y.getD 1 0,y.getD 2 0,y.getD 3 0]=y:=by
 match y,h with
 |[a,b,c,d],_=>rfl
theorem Ww {o y} (h:y.length=4):bD o y 0=y:=by
 show[y.getD 0 0,y.getD 1 0,y.getD 2 0,y.getD 3 0]=y;exact PT y h
theorem Bw {o y i} (h:i<4):(bD o y i).set i (tQ (o.getD i 0) (y.getD i 0))=bD o y (i+1):=by
 rcases i with _|_|_|_|i;all_goals first|rfl|omega
theorem Bv {o y i} (h:i<4):(bD o y i)[i]? =some (y.getD i 0):=by
 rcases i with _|_|_|_|i;all_goals first|rfl|omega
theorem kL {l:Bs} {j:Nat} {x:UInt8} (h:l[j]? =some x):(bv l)[j]? =some (.int .u8 x.toNat):=by simp[bv,h]
theorem WK (l i:Nat) (hi:i<4):(E4 l).getD i 0<2:=by
 unfold E4;rcases i with _|_|_|_|i
 ·repeat' split
  all_goals decide
 ·repeat' split
  all_goals decide
 ·repeat' split
  all_goals decide
 ·repeat' split
  all_goals decide
 ·omega
theorem I9 {a b c d:V} {f:Nat->V} (h0:a=f 0) (h1:b=f 1) (h2:c=f 2) (h3:d=f 3) {i:Nat} (hi:i<4):([a,b,c,d]:List V)[i]? =some (f i):=by
 subst h0;subst h1;subst h2;subst h3;rcases i with _|_|_|_|i;all_goals first|rfl|omega
def hG (x:UInt32) (l:List UInt32) (n:Nat):Nat->Bs
 |0=>m9 x
 |g+1=>f6 (M9 (E4 (n-g)) (hG x l n g)) (m9 (l.getD (n-g-1) 0))
theorem az (x l n):∀g,(hG x l n g).length=4
 |0=>C4 x
 |g+1=>t9 (bE _ _) (C4 _)
def O6 (f:Nat->Nat->UInt8) (K i k:Nat):Bs:=(List.range 4).map fun p=>if p<i then f p K else if p=i then f p k else 0
theorem iN (f K i k):(O6 f K i k).length=4:=by simp[O6]
theorem vN {f:Nat->Nat->UInt8} {K i k} (h:i<4):(O6 f K i k)[i]? =some (f i k):=by
 rcases i with _|_|_|_|i;all_goals first|rfl|omega
theorem vP {f:Nat->Nat->UInt8} {K i k} (h:i<4) {x:UInt8} (hx:x=f i (k+1)):(O6 f K i k).set i x=O6 f K i (k+1):=by
 subst hx;rcases i with _|_|_|_|i;all_goals first|rfl|omega
theorem vO {f:Nat->Nat->UInt8} {K i} (h0:∀p,f p 0=0) (h:i<4):O6 f K i K=O6 f K (i+1) 0:=by
 unfold O6;apply Zu;intro p hp;have:=Z5.1 hp;by_cases h1:p<i
 ·rw[if_pos h1,if_pos (by omega)]
 ·by_cases h2:p=i
  ·rw[if_neg h1,if_pos h2,if_pos (by omega)]
  ·rw[if_neg h1,if_neg h2,if_neg (by omega)];by_cases h3:p=i+1
   ·rw[if_pos h3,h0]
   ·rw[if_neg h3]
theorem vQ {f:Nat->Nat->UInt8} {K} (h0:∀p,f p 0=0):O6 f K 0 0=[0,0,0,0]:=by
 show[f 0 0,0,0,0]=_;rw[h0]
def F4 (m:Nat) (r:Nat->Bs) (y:Bs) (p k:Nat):UInt8:=(List.range k).foldl (fun s k=>s^^^gZ m ((r p).getD k 0) (y.getD k 0)) 0
theorem jF (m r y p k):F4 m r y p (k+1)=F4 m r y p k^^^gZ m ((r p).getD k 0) (y.getD k 0):=by simp[F4,Zn]
def tH (x:UInt32) (l:List UInt32):UInt32:=o5 (O6 (F4 361 H4 (M9 (E4 0) (hG x l l.length l.length))) 4 4 0)
theorem nO {z:Int} {x:UInt32} {n:Nat} {va:List Value} {l:List UInt32} (hz:z=x.toNat) (ha:va=wv l) (hl:l.length=n) (h4:n<=4):a7 C 196 [vi .u32 z,.z n va] [] (.ret (u32 (tH x l))) []:=by
 subst hz;subst ha;refine Ph.c ?_;refine Y7 0 rfl (n+1) (fun g=>⟨[(1,.z n (wv l)),(5,.o 1 (.k 0) 0 4),(6,i64 (n-g))],[.sc (bv (hG x l n g))]⟩) ?_ fun g hg=> ?_
 ·refine⟨[],_,_,_,_,jf rfl,rfl,rfl,?_⟩;refine⟨[],0,by omega,[.d 17 0],⟨rfl,rfl,?_,tq⟩,⟨_,rfl,rfl⟩,tq⟩;show i64 (if (4:Int)<n then 4 else n)=i64 (n-(0:Nat));rw[if_neg (by omega)];congr 2
 obtain⟨r,er,hr4,hrg⟩:∃r:Nat,(n:Int)-g=r/\r<=4/\r=n-g:=⟨n-g,by omega,by omega,rfl⟩;have hgs:hG x l n (g+1)=f6 (M9 (E4 r) (hG x l n g)) (m9 (l.getD (r-1) 0)):=by rw[hrg];rfl
 have hyl:=az x l n g;rw[er];generalize hy:hG x l n g=y at hyl hgs ⊢;refine⟨[],_,_,_,_,IY hr4,rfl,rfl,?_⟩;refine j4 (fun i=>⟨[(1,.z n (wv l)),(5,.o 1 (.k 0) 0 4),(6,i64 r),(22,.a [i64 ((E4 r).getD 0 0:Nat),i64 ((E4 r).getD 1 0:Nat),i64 ((E4 r).getD 2 0:Nat),i64 ((E4 r).getD 3 0:Nat)]),(23,i64 i)],[.sc (bv (bD (E4 r) y i))]⟩) 4 ⟨[.k 0],⟨rfl,rfl,rfl,rfl,rfl,tq⟩,⟨_,rfl,d8 (by rw[Ww hyl])⟩,tq⟩ fun i hi=> ?_;refine b8 (fun h=> ?_) (fun h=> ?_)
 ·have a8:i<4:=(by omega);refine⟨by omega,by omega,?_⟩;refine⟨_,by rw[Zb,Zd];exact I9 (f:=fun i=>i64 ((E4 r).getD i 0:Nat)) rfl rfl rfl rfl a8,?_⟩;refine⟨by omega,by omega,?_⟩;refine⟨_,by rw[Zb,Zd,Ze];exact kL (Bv a8),?_⟩;refine⟨[],_,_,_,_,IQ (WK r i a8) rfl,rfl,rfl,?_⟩;refine⟨by omega,by omega,by rw[f9,pT];omega,?_⟩;refine⟨i+1,by omega,by omega,[.k 0],⟨rfl,rfl,rfl,rfl,c9 (by simp(disch:=omega)only[Za];omega),tq⟩,⟨_,rfl,d8 ?_⟩,tq⟩;rw[Zb,Zd,Ze,K3,Bw a8]
 obtain rfl:i=4:=(by omega);have hsl:(bD (E4 r) y 4).length=4:=pT _ _ _;refine b8 (fun h=> ?_) (fun h=> ?_)
 ·have e1:(I6.wrap ((r:Int)-1)).toNat=r-1:=(by simp(disch:=omega)only[Za];omega);refine⟨(by simp(disch:=omega)only[Za];omega),by omega,?_⟩;refine⟨_,by rw[e1];exact n8 (i:=r-1) (by omega),?_⟩;refine⟨[],_,_,_,_,jf rfl,rfl,rfl,?_⟩;refine⟨[],_,_,_,_,H6 (n:=4) (a:=M9 (E4 r) y) (b:=m9 (l.getD (r-1) 0)) (b9 (bE _ _)) (b9 (C4 _)) (bE _ _) (C4 _) (by decide),rfl,rfl,?_⟩;refine⟨rfl,g+1,by omega,by omega,[.d 48 0],⟨rfl,rfl,c9 ?_,tq⟩,⟨_,rfl,d8 (by rw[hgs])⟩,tq⟩;rw[Za _ (by omega)];omega
 ·obtain rfl:r=0:=(by omega);have hgn:g=n:=(by omega);have hm0:∀p,F4 361 H4 (M9 (E4 0) y) p 0=0:=fun _=>rfl;refine⟨by decide,by decide,by decide,?_⟩;refine⟨[],_,_,_,_,IX,rfl,rfl,?_⟩;generalize hst:bD (E4 0) y 4=s at hsl ⊢;have hs':M9 (E4 0) y=s:=hst;rw[hs']at hm0;refine j4 (fun i=>⟨[(5,.o 1 (.k 0) 0 4),(9,.o 1 (.k 1) 0 4),(52,.a [u8 1,u8 239,u8 91,u8 91,u8 91,u8 239,u8 239,u8 1,u8 239,u8 91,u8 1,u8 239,u8 239,u8 1,u8 239,u8 91]),(53,i64 i)],[.sc (bv s),.sc (bv (O6 (F4 361 H4 s) 4 i 0))]⟩) 4 ⟨[.k 0,.d 51 0],⟨rfl,rfl,rfl,rfl,tq⟩,⟨_,rfl,rfl⟩,⟨_,rfl,d8 (by rw[vQ hm0];rfl)⟩,tq⟩ fun i hi=> ?_;refine b8 (fun h=> ?_) (fun h=> ?_)
  ·have a8:i<4:=(by omega);refine⟨by omega,by omega,?_⟩;refine⟨[u8 ((H4 i).getD 0 0),u8 ((H4 i).getD 1 0),u8 ((H4 i).getD 2 0),u8 ((H4 i).getD 3 0)],?_,rfl,?_⟩
   ·rw[Zb];rcases i with _|_|_|_|i;all_goals first|rfl|omega
   refine⟨Zc _,?_⟩;refine⟨_,rfl,rfl,?_⟩;refine j4 (fun k=>⟨[(5,.o 1 (.k 0) 0 4),(9,.o 1 (.k 1) 0 4),(10,i64 i),(52,.a [u8 1,u8 239,u8 91,u8 91,u8 91,u8 239,u8 239,u8 1,u8 239,u8 91,u8 1,u8 239,u8 239,u8 1,u8 239,u8 91]),(53,i64 i),(57,.a [u8 ((H4 i).getD 0 0),u8 ((H4 i).getD 1 0),u8 ((H4 i).getD 2 0),u8 ((H4 i).getD 3 0)]),(58,i64 k)],[.sc (bv s),.sc (bv (O6 (F4 361 H4 s) 4 i k))]⟩) 4 ⟨[.k 0,.k 1],⟨rfl,rfl,rfl,rfl,rfl,rfl,rfl,tq⟩,⟨_,rfl,rfl⟩,⟨_,rfl,rfl⟩,tq⟩ fun k hk=> ?_;refine b8 (fun h=> ?_) (fun h=> ?_)
   ·have hkl:k<4:=(by omega);refine⟨by omega,by omega,?_⟩;refine⟨_,by rw[Zb,Zd];exact I9 (f:=fun k=>u8 ((H4 i).getD k 0)) rfl rfl rfl rfl hkl,?_⟩;refine⟨by omega,by omega,?_⟩;refine⟨_,by rw[Zb,Zd,Ze];exact kL (vN a8),?_⟩;refine⟨by omega,by omega,?_⟩;refine⟨_,by rw[Zb,Zd,Ze];exact y7 (i:=k) (by omega),?_⟩;refine⟨[],_,_,_,_,kO (m:=361) rfl rfl (by decide) (by decide),rfl,rfl,?_⟩;refine⟨by omega,by omega,by rw[f9,iN];omega,?_⟩;refine⟨k+1,by omega,by omega,[.k 0,.k 1],⟨rfl,rfl,rfl,rfl,rfl,rfl,c9 (by simp(disch:=omega)only[Za];omega),tq⟩,⟨_,rfl,rfl⟩,⟨_,rfl,d8 ?_⟩,tq⟩;rw[Zb,Zd,Ze,s6,K3,vP a8 (jF _ _ _ _ _).symm]
   ·obtain rfl:k=4:=(by omega);refine⟨i+1,by omega,by omega,[.k 0,.k 1],⟨rfl,rfl,rfl,c9 (by simp(disch:=omega)only[Za];omega),tq⟩,⟨_,rfl,rfl⟩,⟨_,rfl,d8 ?_⟩,tq⟩;rw[vO hm0 a8]
  ·obtain rfl:i=4:=(by omega);refine⟨[],_,_,_,_,bT (l:=O6 (F4 361 H4 s) 4 4 0) (b9 (iN _ _ _ _)) (iN _ _ _ _) rfl,rfl,rfl,?_⟩;refine⟨_,rfl,[],?_,tq⟩;show u32 (o5 (O6 (F4 361 H4 s) 4 4 0))=u32 (tH x l);have hyn:hG x l n n=y:=by rw[<-hy,hgn]
   rw[tH,hl,hyn,hs']
def fR (i:Nat):Bs:=if i=0 then [1,164,85,135,90,88,219,158]else if i=1 then [164,86,130,243,30,198,104,229]else if i=2 then [2,161,252,193,71,174,61,25]else [164,85,135,90,88,219,158,3]
def fx (m:Bs):UInt32:=o5 (O6 (F4 333 fR m) 8 4 0)
theorem LO (i:Nat) (h:i<4):(fR i).length=8:=by
 rcases i with _|_|_|_|i;all_goals first|rfl|omega
theorem rL {va:List Value} {m:Bs} (ha:va=bv m) (hm:m.length=8):a7 C 194 [.z 8 va] [] (.ret (u32 (fx m))) []:=by
 subst ha;have hm0:∀p,F4 333 fR m p 0=0:=fun _=>rfl;refine Pn.c ?_;refine⟨by decide,by decide,by decide,?_⟩;refine j4 (fun i=>⟨[(0,.z 8 (bv m)),(3,.o 1 (.k 0) 0 4),(15,.a [.z 8 (bv (fR 0)),.z 8 (bv (fR 1)),.z 8 (bv (fR 2)),.z 8 (bv (fR 3))]),(16,i64 i)],[.sc (bv (O6 (F4 333 fR m) 8 i 0))]⟩) 4 ⟨[.d 10 0],⟨rfl,rfl,rfl,rfl,tq⟩,⟨_,rfl,d8 (by rw[vQ hm0];rfl)⟩,tq⟩ fun i hi=> ?_;refine b8 (fun h=> ?_) (fun h=> ?_)
 ·have a8:i<4:=(by omega);have hfl:=LO i a8;refine⟨by omega,by omega,?_⟩;refine⟨_,by rw[Zb,Zd];exact I9 (f:=fun i=> .z 8 (bv (fR i))) rfl rfl rfl rfl a8,?_⟩;refine j4 (fun k=>⟨[(0,.z 8 (bv m)),(3,.o 1 (.k 0) 0 4),(4,i64 i),(15,.a [.z 8 (bv (fR 0)),.z 8 (bv (fR 1)),.z 8 (bv (fR 2)),.z 8 (bv (fR 3))]),(16,i64 i),(20,.z 8 (bv (fR i))),(21,i64 8),(22,i64 k)],[.sc (bv (O6 (F4 333 fR m) 8 i k))]⟩) 8 ⟨[.k 0],⟨rfl,rfl,rfl,rfl,rfl,rfl,rfl,rfl,tq⟩,⟨_,rfl,rfl⟩,tq⟩ fun k hk=> ?_;refine b8 (fun h=> ?_) (fun h=> ?_)
  ·have hkl:k<8:=(by omega);refine⟨by omega,by omega,?_⟩;refine⟨_,by rw[Zb];exact y7 (by omega),?_⟩;refine⟨by omega,by omega,?_⟩;refine⟨_,by rw[Zb,Zd,Ze];exact kL (vN a8),?_⟩;refine⟨by omega,by omega,?_⟩;refine⟨_,by rw[Zb];exact y7 (by omega),?_⟩;refine⟨[],_,_,_,_,kO (m:=333) rfl rfl (by decide) (by decide),rfl,rfl,?_⟩;refine⟨by omega,by omega,by rw[f9,iN];omega,?_⟩;refine⟨k+1,by omega,by omega,[.k 0],⟨rfl,rfl,rfl,rfl,rfl,rfl,rfl,c9 (by simp(disch:=omega)only[Za];omega),tq⟩,⟨_,rfl,d8 ?_⟩,tq⟩;rw[Zb,Zd,Ze,s6,K3,vP a8 (jF _ _ _ _ _).symm]
  ·obtain rfl:k=8:=(by omega);refine⟨i+1,by omega,by omega,[.k 0],⟨rfl,rfl,rfl,c9 (by simp(disch:=omega)only[Za];omega),tq⟩,⟨_,rfl,d8 ?_⟩,tq⟩;rw[vO hm0 a8]
 ·obtain rfl:i=4:=(by omega);refine⟨[],_,_,_,_,bT (l:=O6 (F4 333 fR m) 8 4 0) (b9 (iN _ _ _ _)) (iN _ _ _ _) rfl,rfl,rfl,?_⟩;exact⟨_,rfl,[],rfl,tq⟩
def p5 (key:Bs) (n:Nat):List UInt32:=(List.range n).map fun i=>o5 (sub key (8*i) 4)
def p6 (key:Bs) (n:Nat):List UInt32:=(List.range n).map fun i=>o5 (sub key (8*i+4) 4)
def I0 (key:Bs) (n:Nat):List UInt32:=(List.range n).map fun i=>fx (sub key (8*i) 8)
theorem kb (key n):p5 key (n+1)=p5 key n++[o5 (sub key (8*n) 4)]:=by simp[p5,Zn]
theorem ke (key n):p6 key (n+1)=p6 key n++[o5 (sub key (8*n+4) 4)]:=by simp[p6,Zn]
theorem kd (key n):I0 key (n+1)=I0 key n++[fx (sub key (8*n) 8)]:=by simp[I0,Zn]
theorem L9 (key n):(p5 key n).length=n:=by simp[p5]
theorem M0 (key n):(p6 key n).length=n:=by simp[p6]
theorem L3 (key n):(I0 key n).length=n:=by simp[I0]
def af:UInt32:=16843009
def T8 (ev:List UInt32) (r:Nat):UInt32:=tH (2*Zk r*af) ev
def T9 (od:List UInt32) (r:Nat):UInt32:=A7 (tH ((2*Zk r+1)*af) od) 8
def kW (ev od:List UInt32) (r:Nat):List UInt32:=[T8 ev r+T9 od r,A7 (T8 ev r+2*T9 od r) 9]
def P8 (ev od:List UInt32) (n:Nat):List UInt32:=((List.range n).map (kW ev od)).flatten
theorem mi (ev od n):P8 ev od (n+1)=P8 ev od n++kW ev od n:=by simp[P8,Zn]
theorem fC (ev od):∀n,(P8 ev od n).length=2*n
 |0=>rfl
 |n+1=>by rw[mi,Zm,fC ev od n];show 2*n+2=_;omega
def tK (key:Bs):List UInt32:=P8 (p5 key (key.length/8)) (p6 key (key.length/8)) 20
def tS (key:Bs):List UInt32:=(I0 key (key.length/8)).reverse
theorem gq (key):(tK key).length=40:=fC _ _ _
theorem pY {key:Bs} {n:Nat} (h:key.length=8*n):(tS key).length=n:=by
 rw[tS,Zj,L3,h];omega
theorem Ar (r:Nat):Zk r+1=Zk (r+1):=by
 rw[UInt32.ofNat_add];rfl
theorem IW {n m:Nat} {va:List Value} {key:Bs} (ha:va=bv key) (hk:key.length=m) (hm:m=8*n) (hn:2<=n/\n<=4):
  a7 C 134 [.z m va] [] (.ret (.t [.o 1 (.k 0) 0 40,.o 1 (.k 1) 0 n,i64 0])) [.sc (wv (tK key)),.sc (wv (tS key))]:=by
 subst ha;subst hm;have hdiv:key.length/8=n:=by omega
 have hK:tK key=P8 (p5 key n) (p6 key n) 20:=by rw[tK,hdiv]
 have hS:tS key=(I0 key n).reverse:=by rw[tS,hdiv]
 rw[hK,hS];refine Pi.c ?_;refine Y7 0 rfl 20 (fun r=>⟨[(2,.o 1 (.k 0) 0 (2*r)),(3,.z n (wv (I0 key n).reverse)),(5,.z n (wv (p5 key n))),(6,.z n (wv (p6 key n))),(12,u32 (Zk r))],[.sc (wv (P8 (p5 key n) (p6 key n) r))]⟩) ?_ fun r hr=> ?_
 ·by_cases h2:n=2
  ·refine A1 (by rw[h2];rfl) ?_;refine A5 (fun i=>⟨[(2,g8),(3,.o 1 (.k 2) 0 i),(5,.o 1 (.k 0) 0 i),(6,.o 1 (.k 1) 0 i),(7,.z (8*(n-i)) (bv (key.drop (8*i))))],[.sc (wv (p5 key i)),.sc (wv (p6 key i)),.sc (wv (I0 key i))]⟩) n [(5,1,.sc []),(6,1,.sc []),(3,1,.sc [])] ⟨[.d 900000 0,.d 900000 1,.d 900000 2],⟨rfl,rfl,rfl,rfl,rfl,tq⟩,⟨_,rfl,rfl⟩,⟨_,rfl,rfl⟩,⟨_,rfl,rfl⟩,tq⟩ fun i hi=> ?_;refine b8 (fun h=> ?_) (fun h=> ?_)
   ·have a8:i<n:=(by omega);have s4:sub (bv (key.drop (8*i))) 0 4=bv (sub key (8*i) 4):=by rw[k5,P2];rfl
    have s5:sub (bv (key.drop (8*i))) 4 4=bv (sub key (8*i+4) 4):=by rw[k5,P2]
    have s8:sub (bv (key.drop (8*i))) 0 8=bv (sub key (8*i) 8):=by rw[k5,P2];rfl
    refine⟨by decide,by decide,Zc _,by show 4<=8*(n-i);omega,?_⟩;refine⟨[],_,_,_,_,bT (l:=sub key (8*i) 4) s4 (by rw[j5];omega) rfl,rfl,rfl,?_⟩;refine⟨by decide,by decide,by decide,Zc _,by show 8<=8*(n-i);omega,?_⟩;refine⟨[],_,_,_,_,bT (l:=sub key (8*i+4) 4) s5 (by rw[j5];omega) rfl,rfl,rfl,?_⟩;refine⟨Zc _,by omega,by rw[p8,L9];omega,?_⟩;refine⟨Zc _,by omega,by rw[p8,M0];omega,?_⟩;refine⟨by decide,by decide,Zc _,by show 8<=8*(n-i);omega,?_⟩;refine⟨[],_,_,_,_,rL (m:=sub key (8*i) 8) s8 (by rw[j5];omega),rfl,rfl,?_⟩;refine⟨Zc _,by omega,by rw[p8,L3];omega,?_⟩;refine⟨by decide,by show 8<=8*(n-i);omega,Zc _,Zc _,?_⟩;refine⟨i+1,by omega,by omega,[.d 49 0,.d 53 0,.d 59 0],⟨rfl,rfl,rfl,rfl,?_,tq⟩,⟨_,rfl,d8 ?_⟩,⟨_,rfl,d8 ?_⟩,⟨_,rfl,d8 ?_⟩,tq⟩
    ·show V.z (8*(n-i)-8) (sub _ 8 (8*(n-i)-8))=_;rw[k5,P2,G6 _ _ _ (by omega),show 8*(n-i)-8=8*(n-(i+1)) by omega,show 8*i+8=8*(i+1) by omega]
    ·rw[kb];exact N5 (by rw[L9];omega)
    ·rw[ke];exact N5 (by rw[M0];omega)
    ·rw[kd];exact N5 (by rw[L3];omega)
   ·obtain rfl:i=n:=(by omega);refine⟨[.k 2],_,_,_,_,ji (l:=I0 key i) (L3 _ _) (by omega) (by omega),rfl,rfl,?_⟩;refine⟨[(2,1,.sc [])],0,by decide,[.d 900000 0],⟨rfl,?_,?_,?_,rfl,tq⟩,⟨_,rfl,rfl⟩,tq⟩
    ·show V.z i (sub _ 0 i)=V.z i _;rw[y9 (by rw[Zj,L3])]
    ·show V.z i (sub _ 0 i)=V.z i _;rw[y9 (L9 _ _)]
    ·show V.z i (sub _ 0 i)=V.z i _;rw[y9 (M0 _ _)]
  refine bC (by rw[bne_iff_ne];omega) ?_;by_cases h3:n=3
  ·refine A1 (by rw[h3];rfl) ?_;refine A5 (fun i=>⟨[(2,g8),(3,.o 1 (.k 2) 0 i),(5,.o 1 (.k 0) 0 i),(6,.o 1 (.k 1) 0 i),(7,.z (8*(n-i)) (bv (key.drop (8*i))))],[.sc (wv (p5 key i)),.sc (wv (p6 key i)),.sc (wv (I0 key i))]⟩) n [(5,1,.sc []),(6,1,.sc []),(3,1,.sc [])] ⟨[.d 900000 0,.d 900000 1,.d 900000 2],⟨rfl,rfl,rfl,rfl,rfl,tq⟩,⟨_,rfl,rfl⟩,⟨_,rfl,rfl⟩,⟨_,rfl,rfl⟩,tq⟩ fun i hi=> ?_;refine b8 (fun h=> ?_) (fun h=> ?_)
   ·have a8:i<n:=(by omega);have s4:sub (bv (key.drop (8*i))) 0 4=bv (sub key (8*i) 4):=by rw[k5,P2];rfl
    have s5:sub (bv (key.drop (8*i))) 4 4=bv (sub key (8*i+4) 4):=by rw[k5,P2]
    have s8:sub (bv (key.drop (8*i))) 0 8=bv (sub key (8*i) 8):=by rw[k5,P2];rfl
    refine⟨by decide,by decide,Zc _,by show 4<=8*(n-i);omega,?_⟩;refine⟨[],_,_,_,_,bT (l:=sub key (8*i) 4) s4 (by rw[j5];omega) rfl,rfl,rfl,?_⟩;refine⟨by decide,by decide,by decide,Zc _,by show 8<=8*(n-i);omega,?_⟩;refine⟨[],_,_,_,_,bT (l:=sub key (8*i+4) 4) s5 (by rw[j5];omega) rfl,rfl,rfl,?_⟩;refine⟨Zc _,by omega,by rw[p8,L9];omega,?_⟩;refine⟨Zc _,by omega,by rw[p8,M0];omega,?_⟩;refine⟨by decide,by decide,Zc _,by show 8<=8*(n-i);omega,?_⟩;refine⟨[],_,_,_,_,rL (m:=sub key (8*i) 8) s8 (by rw[j5];omega),rfl,rfl,?_⟩;refine⟨Zc _,by omega,by rw[p8,L3];omega,?_⟩;refine⟨by decide,by show 8<=8*(n-i);omega,Zc _,Zc _,?_⟩;refine⟨i+1,by omega,by omega,[.d 49 0,.d 53 0,.d 59 0],⟨rfl,rfl,rfl,rfl,?_,tq⟩,⟨_,rfl,d8 ?_⟩,⟨_,rfl,d8 ?_⟩,⟨_,rfl,d8 ?_⟩,tq⟩
    ·show V.z (8*(n-i)-8) (sub _ 8 (8*(n-i)-8))=_;rw[k5,P2,G6 _ _ _ (by omega),show 8*(n-i)-8=8*(n-(i+1)) by omega,show 8*i+8=8*(i+1) by omega]
    ·rw[kb];exact N5 (by rw[L9];omega)
    ·rw[ke];exact N5 (by rw[M0];omega)
    ·rw[kd];exact N5 (by rw[L3];omega)
   ·obtain rfl:i=n:=(by omega);refine⟨[.k 2],_,_,_,_,ji (l:=I0 key i) (L3 _ _) (by omega) (by omega),rfl,rfl,?_⟩;refine⟨[(2,1,.sc [])],0,by decide,[.d 900000 0],⟨rfl,?_,?_,?_,rfl,tq⟩,⟨_,rfl,rfl⟩,tq⟩
    ·show V.z i (sub _ 0 i)=V.z i _;rw[y9 (by rw[Zj,L3])]
    ·show V.z i (sub _ 0 i)=V.z i _;rw[y9 (L9 _ _)]
    ·show V.z i (sub _ 0 i)=V.z i _;rw[y9 (M0 _ _)]
  refine bC (by rw[bne_iff_ne];omega) ?_;refine A1 (by rw[show n=4 by omega];rfl) ?_;refine A5 (fun i=>⟨[(2,g8),(3,.o 1 (.k 2) 0 i),(5,.o 1 (.k 0) 0 i),(6,.o 1 (.k 1) 0 i),(7,.z (8*(n-i)) (bv (key.drop (8*i))))],[.sc (wv (p5 key i)),.sc (wv (p6 key i)),.sc (wv (I0 key i))]⟩) n [(5,1,.sc []),(6,1,.sc []),(3,1,.sc [])] ⟨[.d 900000 0,.d 900000 1,.d 900000 2],⟨rfl,rfl,rfl,rfl,rfl,tq⟩,⟨_,rfl,rfl⟩,⟨_,rfl,rfl⟩,⟨_,rfl,rfl⟩,tq⟩ fun i hi=> ?_;refine b8 (fun h=> ?_) (fun h=> ?_)
  ·have a8:i<n:=(by omega);have s4:sub (bv (key.drop (8*i))) 0 4=bv (sub key (8*i) 4):=by rw[k5,P2];rfl
   have s5:sub (bv (key.drop (8*i))) 4 4=bv (sub key (8*i+4) 4):=by rw[k5,P2]
   have s8:sub (bv (key.drop (8*i))) 0 8=bv (sub key (8*i) 8):=by rw[k5,P2];rfl
   refine⟨by decide,by decide,Zc _,by show 4<=8*(n-i);omega,?_⟩;refine⟨[],_,_,_,_,bT (l:=sub key (8*i) 4) s4 (by rw[j5];omega) rfl,rfl,rfl,?_⟩;refine⟨by decide,by decide,by decide,Zc _,by show 8<=8*(n-i);omega,?_⟩;refine⟨[],_,_,_,_,bT (l:=sub key (8*i+4) 4) s5 (by rw[j5];omega) rfl,rfl,rfl,?_⟩;refine⟨Zc _,by omega,by rw[p8,L9];omega,?_⟩;refine⟨Zc _,by omega,by rw[p8,M0];omega,?_⟩;refine⟨by decide,by decide,Zc _,by show 8<=8*(n-i);omega,?_⟩;refine⟨[],_,_,_,_,rL (m:=sub key (8*i) 8) s8 (by rw[j5];omega),rfl,rfl,?_⟩;refine⟨Zc _,by omega,by rw[p8,L3];omega,?_⟩;refine⟨by decide,by show 8<=8*(n-i);omega,Zc _,Zc _,?_⟩;refine⟨i+1,by omega,by omega,[.d 49 0,.d 53 0,.d 59 0],⟨rfl,rfl,rfl,rfl,?_,tq⟩,⟨_,rfl,d8 ?_⟩,⟨_,rfl,d8 ?_⟩,⟨_,rfl,d8 ?_⟩,tq⟩
   ·show V.z (8*(n-i)-8) (sub _ 8 (8*(n-i)-8))=_;rw[k5,P2,G6 _ _ _ (by omega),show 8*(n-i)-8=8*(n-(i+1)) by omega,show 8*i+8=8*(i+1) by omega]
   ·rw[kb];exact N5 (by rw[L9];omega)
   ·rw[ke];exact N5 (by rw[M0];omega)
   ·rw[kd];exact N5 (by rw[L3];omega)
  ·obtain rfl:i=n:=(by omega);refine⟨[.k 2],_,_,_,_,ji (l:=I0 key i) (L3 _ _) (by omega) (by omega),rfl,rfl,?_⟩;refine⟨[(2,1,.sc [])],0,by decide,[.d 900000 0],⟨rfl,?_,?_,?_,rfl,tq⟩,⟨_,rfl,rfl⟩,tq⟩
   ·show V.z i (sub _ 0 i)=V.z i _;rw[y9 (by rw[Zj,L3])]
   ·show V.z i (sub _ 0 i)=V.z i _;rw[y9 (L9 _ _)]
   ·show V.z i (sub _ 0 i)=V.z i _;rw[y9 (M0 _ _)]
 ·have e2:∀x:UInt32,U3.wrap (2*(x.toNat:Int))=((2*x).toNat:Int):=fun x=>iC 2 x;have e3:∀x:UInt32,U3.wrap ((x.toNat:Int)*16843009)=((x*af).toNat:Int):=fun x=>iC x af;have e4:∀x:UInt32,U3.wrap ((x.toNat:Int)+1)=((x+1).toNat:Int):=fun x=>p7 x 1;have hkl:=fC (p5 key n) (p6 key n) r;refine⟨[],_,_,_,_,nO (x:=2*Zk r*af) (l:=p5 key n) (by rw[e2,e3]) rfl (L9 _ _) (by omega),rfl,rfl,?_⟩;refine⟨[],_,_,_,_,nO (x:=(2*Zk r+1)*af) (l:=p6 key n) (by rw[e2,e4,e3]) rfl (M0 _ _) (by omega),rfl,rfl,?_⟩;refine⟨[],_,_,_,_,ax (k:=8) rfl (by decide) (by decide),rfl,rfl,?_⟩;refine⟨[],_,_,_,_,ax (v:=T8 (p5 key n) r+2*T9 (p6 key n) r) (k:=9) (by rw[e2];exact p7 _ _) (by decide) (by decide),rfl,rfl,?_⟩;refine⟨Zc _,by omega,by rw[p8,hkl];omega,?_⟩;have hst:sub (wv (P8 (p5 key n) (p6 key n) r)) 0 (2*r*1)++[Value.int .u32 (U3.wrap (((T8 (p5 key n) r).toNat:Int)+((T9 (p6 key n) r).toNat:Int))),Value.int .u32 ((A7 (T8 (p5 key n) r+2*T9 (p6 key n) r) 9).toNat:Int)]=wv (P8 (p5 key n) (p6 key n) (r+1)):=by
   rw[Zd,y9 hkl,p7,mi,<-kn];rfl
  have hu:((Zk r+1).toNat:Int)=((r+1:Nat):Int):=by
   rw[Ar,UInt32.toNat_ofNat',Nat.mod_eq_of_lt (by omega)]
  refine b8 (fun h=> ?_) (fun h=> ?_)
  ·rw[e4,hu]at h;refine⟨rfl,r+1,by omega,by omega,[.d 84 0],⟨rfl,rfl,rfl,rfl,?_,tq⟩,⟨_,rfl,d8 hst⟩,tq⟩;show vi .u32 _=vi .u32 _;rw[e4,Ar]
  ·rw[e4,hu]at h;obtain rfl:r=19:=(by omega);refine⟨[],_,_,_,_,nA (l:=P8 (p5 key n) (p6 key n) 20) (n:=40) rfl (fC _ _ _) (by decide) (by decide),?_,rfl,?_⟩
   ·show[V.z _ (sub (sub (wv (P8 (p5 key n) (p6 key n) 19)) 0 (2*19*1)++[Value.int .u32 (U3.wrap (((T8 (p5 key n) 19).toNat:Int)+((T9 (p6 key n) 19).toNat:Int))),Value.int .u32 ((A7 (T8 (p5 key n) 19+2*T9 (p6 key n) 19) 9).toNat:Int)]) 0 _)]=_;rw[hst,y9 (fC _ _ _)]
   refine⟨[],_,_,_,_,nA (l:=(I0 key n).reverse) rfl (by rw[Zj,L3]) (by omega) (by omega),rfl,rfl,?_⟩;exact⟨_,rfl,[.d 90 0,.d 92 0],rfl,⟨_,rfl,rfl⟩,⟨_,rfl,rfl⟩,tq⟩
abbrev N3 (k s:List UInt32):V:= .q [wz k,wz s] 0
theorem xB {n m:Nat} {va:List Value} {key:Bs} (ha:va=bv key) (hk:key.length=m) (hm:m=8*n) (hn:2<=n/\n<=4):a7 C 82 [.z m va] [] (.ret (.t [N3 (tK key) (tS key),i64 0])) []:=by
 refine Pj.c ?_;refine⟨[],_,_,_,_,IW ha hk hm hn,rfl,rfl,?_⟩;refine⟨_,rfl,[],?_,tq⟩;show V.t [.q [.z 40 (sub _ 0 40),.z n (sub _ 0 n)] 0,i64 0]=V.t [.q [.z _ _,.z _ _] 0,i64 0];rw[y9 (gq key),y9 (pY (n:=n) (by omega)),gq,pY (n:=n) (by omega)]
abbrev W4:=UInt32×UInt32×UInt32×UInt32
def mK (k s:List UInt32) (a c:UInt32) (r:Nat):UInt32:=tH a s+tH (A7 c 8) s+k.getD (2*r+8) 0
def mL (k s:List UInt32) (a c:UInt32) (r:Nat):UInt32:=tH a s+2*tH (A7 c 8) s+k.getD (2*r+9) 0
theorem xD {k s:List UInt32} {x y:Int} {a c:UInt32} {r:Nat} (hx:x=a.toNat) (hy:y=c.toNat) (hk:k.length=40) (hs:s.length<=4) (hr:r<16):a7 C 137 [N3 k s,vi .u32 x,vi .u32 y,i64 r] [] (.ret (.t [u32 (mK k s a c r),u32 (mL k s a c r)])) []:=by
 subst hx;subst hy;refine Pl.c ?_;have e1:(I6.wrap (I6.wrap (2*(r:Int))+8)).toNat=2*r+8:=(by simp(disch:=omega)only[Za];omega);have e2:(I6.wrap (I6.wrap (2*(r:Int))+9)).toNat=2*r+9:=(by simp(disch:=omega)only[Za];omega);have e3:∀x:UInt32,U3.wrap (2*(x.toNat:Int))=((2*x).toNat:Int):=fun x=>iC 2 x;refine⟨_,rfl,?_⟩;refine⟨[],_,_,_,_,nO (l:=s) rfl rfl rfl hs,rfl,rfl,?_⟩;refine⟨[],_,_,_,_,ax (k:=8) rfl (by decide) (by decide),rfl,rfl,?_⟩;refine⟨_,rfl,?_⟩;refine⟨[],_,_,_,_,nO (l:=s) rfl rfl rfl hs,rfl,rfl,?_⟩;refine⟨_,rfl,by omega,by omega,?_⟩;refine⟨_,by rw[e1];exact n8 (by omega),?_⟩;refine⟨_,rfl,by omega,by omega,?_⟩;refine⟨_,by rw[e2];exact n8 (by omega),?_⟩;refine⟨_,rfl,[],?_,tq⟩;show V.t [vi .u32 _,vi .u32 _]=_;rw[p7,p7,e3,p7,p7];rfl
def ql (k:List UInt32) (o:Nat) (x:W4) (i:Nat):List V:=[u32 (if 0<i then x.1^^^k.getD (o+0) 0 else x.1),u32 (if 1<i then x.2.1^^^k.getD (o+1) 0 else x.2.1),u32 (if 2<i then x.2.2.1^^^k.getD (o+2) 0 else x.2.2.1),u32 (if 3<i then x.2.2.2^^^k.getD (o+3) 0 else x.2.2.2)]
def wh (k:List UInt32) (o:Nat) (x:W4):W4:=(x.1^^^k.getD (o+0) 0,x.2.1^^^k.getD (o+1) 0,x.2.2.1^^^k.getD (o+2) 0,x.2.2.2^^^k.getD (o+3) 0)
def ah (x:W4) (i:Nat):UInt32:=if i=0 then x.1 else if i=1 then x.2.1 else if i=2 then x.2.2.1 else x.2.2.2
theorem a0a {k o x i} (h:i<4):(ql k o x i)[i]? =some (u32 (ah x i)):=by
 rcases i with _|_|_|_|i;all_goals first|rfl|omega
theorem a0b {k o x i} (h:i<4):(ql k o x i).set i (u32 (ah x i^^^k.getD (o+i) 0))=ql k o x (i+1):=by
 rcases i with _|_|_|_|i;all_goals first|rfl|omega
abbrev qh (x:W4):V:= .a [u32 x.1,u32 x.2.1,u32 x.2.2.1,u32 x.2.2.2]
theorem nR {k s:List UInt32} {x:W4} {o:Nat} (hk:k.length=40) (ho:o<=36):a7 C 136 [N3 k s,qh x,i64 o] [] (.ret (qh (wh k o x))) []:=by
 refine Pm.c ?_;refine j4 (fun i=>⟨[(0,N3 k s),(2,i64 o),(4,.p (.k 0) 0),(6,.p (.k 1) 0),(8,i64 i)],[.mx (ql k o x i),.sc [.int .u32 0,.int .u32 0,.int .u32 0,.int .u32 0]]⟩) 4 ⟨[.d 4 0,.d 6 0],⟨rfl,rfl,rfl,rfl,rfl,tq⟩,⟨_,rfl,rfl⟩,⟨_,rfl,rfl⟩,tq⟩ fun i hi=> ?_;refine b8 (fun h=> ?_) (fun h=> ?_)
 ·have a8:i<4:=(by omega);have e1:(I6.wrap ((o:Int)+i)).toNat=o+i:=(by simp(disch:=omega)only[Za];omega);refine⟨by omega,by omega,?_⟩;refine⟨_,by rw[Zb,Zd,Ze];exact a0a a8,?_⟩;refine⟨_,rfl,(by simp(disch:=omega)only[Za];omega),by omega,?_⟩;refine⟨_,by rw[e1];exact n8 (by omega),?_⟩;refine⟨by omega,by omega,by show 0+((i:Int)).toNat*1+1<=4;omega,?_⟩;refine⟨i+1,by omega,by omega,[.k 0,.k 1],⟨rfl,rfl,rfl,rfl,c9 (by simp(disch:=omega)only[Za];omega),tq⟩,⟨_,rfl,?_⟩,⟨_,rfl,rfl⟩,tq⟩;rw[<-a0b a8,x5];rcases i with _|_|_|_|i;all_goals first|rfl|omega
 ·obtain rfl:i=4:=(by omega);refine⟨_,rfl,rfl,Zc _,_,rfl,rfl,?_⟩;exact⟨_,rfl,[],rfl,tq⟩
def x9 (b:Bs):W4:=(o5 (sub b 0 4),o5 (sub b 4 4),o5 (sub b 8 4),o5 (sub b 12 4))
def cf (b:Bs) (i:Nat):List UInt32:=(List.range 4).map fun p=>if p<i then o5 (sub b (4*p) 4)else 0
theorem oY (b:Bs) {i:Nat} (h:i<4):(cf b i).set i (o5 (sub b (4*i) 4))=cf b (i+1):=by
 rcases i with _|_|_|_|i;all_goals first|rfl|omega
def gm (k s:List UInt32) (x:W4) (r:Nat):W4:=(A7 (x.2.2.1^^^mK k s x.1 x.2.1 r) 31,A7 x.2.2.2 1^^^mL k s x.1 x.2.1 r,x.1,x.2.1)
def dq (k s:List UInt32) (x:W4) (r:Nat):W4:=(A7 x.2.2.1 1^^^mK k s x.1 x.2.1 r,A7 (x.2.2.2^^^mL k s x.1 x.2.1 r) 31,x.1,x.2.1)
def C5 (x:W4):W4:=(x.2.2.1,x.2.2.2,x.1,x.2.1)
def bH (k s:List UInt32) (x:W4) (n:Nat):W4:=(List.range n).foldl (gm k s) x
def aM (k s:List UInt32) (x:W4) (n:Nat):W4:=(List.range n).foldl (fun x r=>dq k s x (15-r)) x
theorem BI (k s x n):bH k s x (n+1)=gm k s (bH k s x n) n:=by simp[bH,Zn]
theorem BH (k s x n):aM k s x (n+1)=dq k s (aM k s x n) (15-n):=by simp[aM,Zn]
def bJ (k s:List UInt32) (x:W4):W4:=wh k 4 (C5 (bH k s (wh k 0 x) 16))
def bI (k s:List UInt32) (x:W4):W4:=wh k 0 (C5 (aM k s (wh k 4 x) 16))
def I8 (x:W4) (n:Nat):Bs:=((List.range n).map fun i=>m9 (ah x i)).flatten
theorem mB (x n):I8 x (n+1)=I8 x n++m9 (ah x n):=by simp[I8,Zn]
theorem dp (x):∀n,(I8 x n).length=4*n
 |0=>rfl
 |n+1=>by rw[mB,Zm,dp x n,C4];omega
theorem qk {x:W4} {i:Nat} (h:i<4):([u32 x.1,u32 x.2.1,u32 x.2.2.1,u32 x.2.2.2]:List V)[i]? =some (u32 (ah x i)):=by
 rcases i with _|_|_|_|i;all_goals first|rfl|omega
theorem fL {a b c d:Int} {x:W4} (h1:a=x.1.toNat) (h2:b=x.2.1.toNat) (h3:c=x.2.2.1.toNat) (h4:d=x.2.2.2.toNat):B.mx [vi .u32 a,vi .u32 b,vi .u32 c,vi .u32 d]=B.mx [u32 x.1,u32 x.2.1,u32 x.2.2.1,u32 x.2.2.2]:=by
 subst h1;subst h2;subst h3;subst h4;rfl
theorem JC {va:List Value} {b:Bs} {k s:List UInt32} (ha:va=bv b) (hb:b.length=16) (hk:k.length=40) (hs:s.length<=4):a7 C 83 [N3 k s,.z 16 va,bool false] [] (y4 16) [.sc (bv (I8 (bJ k s (x9 b)) 4))]:=by
 subst ha;refine sR.c ?_;refine j4 (fun i=>⟨[(0,N3 k s),(1,.z 16 (bv b)),(2,bool false),(8,.p (.k 0) 0),(22,i64 i)],[.sc (wv (cf b i))]⟩) 4 ⟨[.d 8 0],⟨rfl,rfl,rfl,rfl,rfl,tq⟩,⟨_,rfl,rfl⟩,tq⟩ fun i hi=> ?_;refine b8 (fun h=> ?_) (fun h=> ?_)
 ·have a8:i<4:=(by omega);have e1:(I6.wrap (4*(i:Int))).toNat=4*i:=(by simp(disch:=omega)only[Za];omega);have e2:(I6.wrap (4*I6.wrap ((i:Int)+1))).toNat=4*i+4:=(by simp(disch:=omega)only[Za];omega);refine⟨by omega,(by simp(disch:=omega)only[Za];omega),by rw[e1,e2];omega,Zc _,by rw[e2];omega,?_⟩;rw[e1,e2,show 4*i+4-4*i=4 by omega];refine⟨[],_,_,_,_,bT (l:=sub b (4*i) 4) (k5 _ _ _) (by rw[j5];omega) rfl,rfl,rfl,?_⟩;refine⟨by omega,by omega,by show 0+((i:Int)).toNat*1<4;omega,?_⟩;refine⟨i+1,by omega,by omega,[.k 0],⟨rfl,rfl,rfl,rfl,c9 (by simp(disch:=omega)only[Za];omega),tq⟩,⟨_,rfl,d8 ?_⟩,tq⟩;rw[Zb,Zd,Ze];show(wv (cf b i)).set i (.int .u32 (o5 (sub b (4*i) 4)).toNat)=_;rw[aj,oY b a8]
 obtain rfl:i=4:=(by omega);refine⟨_,rfl,rfl,?_⟩;refine⟨[],_,_,_,_,nR (x:=x9 b) (o:=0) hk (by decide),rfl,rfl,?_⟩;refine⟨Zc _,?_⟩;refine j4 (fun i=>⟨[(0,N3 k s),(8,.p (.k 0) 0),(87,i64 i)],[.mx [u32 (bH k s (wh k 0 (x9 b)) i).1,u32 (bH k s (wh k 0 (x9 b)) i).2.1,u32 (bH k s (wh k 0 (x9 b)) i).2.2.1,u32 (bH k s (wh k 0 (x9 b)) i).2.2.2]]⟩) 16 ⟨[.k 0],⟨rfl,rfl,rfl,tq⟩,⟨_,rfl,rfl⟩,tq⟩ fun i hi=> ?_;have hst:=BI k s (wh k 0 (x9 b)) i;generalize hx:bH k s (wh k 0 (x9 b)) i=x at hst ⊢;refine b8 (fun h=> ?_) (fun h=> ?_)
 ·have a8:i<16:=(by omega);refine⟨by decide,by decide,_,rfl,by decide,by decide,_,rfl,?_⟩;refine⟨[],_,_,_,_,xD (r:=i) rfl rfl hk hs a8,rfl,rfl,?_⟩;refine⟨by decide,by decide,_,rfl,?_⟩;refine⟨[],_,_,_,_,ax (v:=x.2.2.1^^^mK k s x.1 x.2.1 i) (k:=31) (x5 _ _) (by decide) (by decide),rfl,rfl,?_⟩;refine⟨by decide,by decide,_,rfl,?_⟩;refine⟨[],_,_,_,_,ax (k:=1) rfl (by decide) (by decide),rfl,rfl,?_⟩;refine⟨by decide,by decide,_,rfl,by decide,by decide,_,rfl,Zc _,?_⟩;refine⟨i+1,by omega,by omega,[.k 0],⟨rfl,rfl,c9 (by simp(disch:=omega)only[Za];omega),tq⟩,⟨_,rfl,?_⟩,tq⟩;rw[hst];exact fL rfl (x5 _ _) rfl rfl
 obtain rfl:i=16:=(by omega);refine⟨by decide,by decide,_,rfl,by decide,by decide,_,rfl,by decide,by decide,_,rfl,by decide,by decide,_,rfl,?_⟩;refine⟨[],_,_,_,_,nR (x:=C5 x) (o:=4) hk (by decide),rfl,rfl,?_⟩;refine⟨Zc _,by decide,by decide,by decide,?_⟩;refine⟨_,rfl,rfl,?_⟩;have hfx:wh k 4 (C5 x)=bJ k s (x9 b):=by rw[<-hx];rfl
 rw[<-hfx];generalize hy:wh k 4 (C5 x)=y;refine j4 (fun i=>⟨[(16,.o 1 (.k 0) 0 (4*i)),(128,qh y),(129,i64 i)],[.sc (bv (I8 y i))]⟩) 4 ⟨[.d 127 0],⟨rfl,?_,rfl,tq⟩,⟨_,rfl,rfl⟩,tq⟩ fun i hi=> ?_
 ·rw[<-hy];rfl
 refine b8 (fun h=> ?_) (fun h=> ?_)
 ·have a8:i<4:=(by omega);refine⟨by omega,by omega,?_⟩;refine⟨_,by rw[Zb,Zd];exact qk a8,?_⟩;refine⟨[],_,_,_,_,jf rfl,rfl,rfl,?_⟩;have hpl:(m9 (ah y i)).length=4:=C4 _;refine⟨by rw[f9];exact Z3 hpl.symm,by omega,by rw[f9,dp];omega,?_⟩;refine⟨i+1,by omega,by omega,[.d 135 0],⟨rfl,rfl,c9 (by simp(disch:=omega)only[Za];omega),tq⟩,⟨_,rfl,d8 ?_⟩,tq⟩;show sub (bv (I8 y i)) 0 (4*i*1)++sub (bv (m9 (ah y i))) 0 4=_;rw[Zd,b9 (dp y i),b9 hpl,z5,mB]
 ·obtain rfl:i=4:=(by omega);exact⟨_,rfl,[.k 0],rfl,⟨_,rfl,rfl⟩,tq⟩
theorem JB {va:List Value} {b:Bs} {k s:List UInt32} (ha:va=bv b) (hb:b.length=16) (hk:k.length=40) (hs:s.length<=4):a7 C 83 [N3 k s,.z 16 va,bool true] [] (y4 16) [.sc (bv (I8 (bI k s (x9 b)) 4))]:=by
 subst ha;refine sR.c ?_;refine j4 (fun i=>⟨[(0,N3 k s),(1,.z 16 (bv b)),(2,bool true),(8,.p (.k 0) 0),(22,i64 i)],[.sc (wv (cf b i))]⟩) 4 ⟨[.d 8 0],⟨rfl,rfl,rfl,rfl,rfl,tq⟩,⟨_,rfl,rfl⟩,tq⟩ fun i hi=> ?_;refine b8 (fun h=> ?_) (fun h=> ?_)
 ·have a8:i<4:=(by omega);have e1:(I6.wrap (4*(i:Int))).toNat=4*i:=(by simp(disch:=omega)only[Za];omega);have e2:(I6.wrap (4*I6.wrap ((i:Int)+1))).toNat=4*i+4:=(by simp(disch:=omega)only[Za];omega);refine⟨by omega,(by simp(disch:=omega)only[Za];omega),by rw[e1,e2];omega,Zc _,by rw[e2];omega,?_⟩;rw[e1,e2,show 4*i+4-4*i=4 by omega];refine⟨[],_,_,_,_,bT (l:=sub b (4*i) 4) (k5 _ _ _) (by rw[j5];omega) rfl,rfl,rfl,?_⟩;refine⟨by omega,by omega,by show 0+((i:Int)).toNat*1<4;omega,?_⟩;refine⟨i+1,by omega,by omega,[.k 0],⟨rfl,rfl,rfl,rfl,c9 (by simp(disch:=omega)only[Za];omega),tq⟩,⟨_,rfl,d8 ?_⟩,tq⟩;rw[Zb,Zd,Ze];show(wv (cf b i)).set i (.int .u32 (o5 (sub b (4*i) 4)).toNat)=_;rw[aj,oY b a8]
 obtain rfl:i=4:=(by omega);refine⟨_,rfl,rfl,?_⟩;refine⟨[],_,_,_,_,nR (x:=x9 b) (o:=4) hk (by decide),rfl,rfl,?_⟩;refine⟨Zc _,?_⟩;refine j4 (fun i=>⟨[(0,N3 k s),(8,.p (.k 0) 0),(10,i64 (15-i))],[.mx [u32 (aM k s (wh k 4 (x9 b)) i).1,u32 (aM k s (wh k 4 (x9 b)) i).2.1,u32 (aM k s (wh k 4 (x9 b)) i).2.2.1,u32 (aM k s (wh k 4 (x9 b)) i).2.2.2]]⟩) 16 ⟨[.k 0],⟨rfl,rfl,rfl,tq⟩,⟨_,rfl,rfl⟩,tq⟩ fun i hi=> ?_;have hst:=BH k s (wh k 4 (x9 b)) i;generalize hx:aM k s (wh k 4 (x9 b)) i=x at hst ⊢;refine b8 (fun h=> ?_) (fun h=> ?_)
 ·obtain⟨r,er,hr15,hri⟩:∃r:Nat,(15:Int)-i=r/\r<=15/\r=15-i:=⟨15-i,by omega,by omega,rfl⟩;rw[<-hri]at hst;rw[er];refine⟨by decide,by decide,_,rfl,by decide,by decide,_,rfl,?_⟩;refine⟨[],_,_,_,_,xD (r:=r) rfl rfl hk hs (by omega),rfl,rfl,?_⟩;refine⟨by decide,by decide,_,rfl,?_⟩;refine⟨[],_,_,_,_,ax (k:=1) rfl (by decide) (by decide),rfl,rfl,?_⟩;refine⟨by decide,by decide,_,rfl,?_⟩;refine⟨[],_,_,_,_,ax (v:=x.2.2.2^^^mL k s x.1 x.2.1 r) (k:=31) (x5 _ _) (by decide) (by decide),rfl,rfl,?_⟩;refine⟨by decide,by decide,_,rfl,by decide,by decide,_,rfl,Zc _,?_⟩;refine⟨i+1,by omega,by omega,[.k 0],⟨rfl,rfl,c9 ?_,tq⟩,⟨_,rfl,?_⟩,tq⟩
  ·rw[Za _ (by omega)];omega
  rw[hst];exact fL (x5 _ _) rfl rfl rfl
 obtain rfl:i=16:=(by omega);refine⟨by decide,by decide,_,rfl,by decide,by decide,_,rfl,by decide,by decide,_,rfl,by decide,by decide,_,rfl,Zc _,?_⟩;refine⟨_,rfl,rfl,?_⟩;refine⟨[],_,_,_,_,nR (x:=C5 x) (o:=0) hk (by decide),rfl,rfl,?_⟩;refine⟨Zc _,by decide,by decide,by decide,?_⟩;refine⟨_,rfl,rfl,?_⟩;have hfx:wh k 0 (C5 x)=bI k s (x9 b):=by rw[<-hx];rfl
 rw[<-hfx];generalize hy:wh k 0 (C5 x)=y;refine j4 (fun i=>⟨[(16,.o 1 (.k 0) 0 (4*i)),(128,qh y),(129,i64 i)],[.sc (bv (I8 y i))]⟩) 4 ⟨[.d 127 0],⟨rfl,?_,rfl,tq⟩,⟨_,rfl,rfl⟩,tq⟩ fun i hi=> ?_
 ·rw[<-hy];rfl
 refine b8 (fun h=> ?_) (fun h=> ?_)
 ·have a8:i<4:=(by omega);refine⟨by omega,by omega,?_⟩;refine⟨_,by rw[Zb,Zd];exact qk a8,?_⟩;refine⟨[],_,_,_,_,jf rfl,rfl,rfl,?_⟩;have hpl:(m9 (ah y i)).length=4:=C4 _;refine⟨by rw[f9];exact Z3 hpl.symm,by omega,by rw[f9,dp];omega,?_⟩;refine⟨i+1,by omega,by omega,[.d 135 0],⟨rfl,rfl,c9 (by simp(disch:=omega)only[Za];omega),tq⟩,⟨_,rfl,d8 ?_⟩,tq⟩;show sub (bv (I8 y i)) 0 (4*i*1)++sub (bv (m9 (ah y i))) 0 4=_;rw[Zd,b9 (dp y i),b9 hpl,z5,mB]
 ·obtain rfl:i=4:=(by omega);exact⟨_,rfl,[.k 0],rfl,⟨_,rfl,rfl⟩,tq⟩
theorem JA {va:List Value} {k s:List UInt32} {n:Nat} {back:Bool} (hn:n≠16):a7 C 83 [N3 k s,.z n va,bool back] [] P3 []:=by
 refine sR.c ?_;refine n7 (fun h=> ?_) (fun h=>absurd (by omega) hn);exact⟨_,rfl,[],rfl,tq⟩
abbrev L8 (l:Bs):Value:= .string ⟨l.toArray⟩
theorem Ii {w:Nat} (hw:w<2):a7 C 274 [i64 w] [] (.ret (.o 1 (.k 0) 0 4)) [.sc [L8 (B3 w 0),L8 (B3 w 1),L8 (B3 w 2),L8 (B3 w 3)]]:=by
 rcases w with _|_|w
 ·exact yF.c ⟨_,rfl,[.d 5 0],rfl,⟨_,rfl,rfl⟩,tq⟩
 ·exact yF.c ⟨_,rfl,[.d 6 0],rfl,⟨_,rfl,rfl⟩,tq⟩
 ·omega
theorem TW:∀a,a<16->∀c,c<16->I6.wrap ((Zh I6.bits ((a:Nat):Int)^^^Zh I6.bits ((c:Nat):Int)).toNat:Int)=((a^^^c:Nat):Int):=by decide +kernel
theorem TX:∀a,a<16->∀c,c<16->I6.wrap ((Zh I6.bits (I6.wrap ((Zh I6.bits ((a:Nat):Int)^^^Zh I6.bits (I6.wrap ((Zh I6.bits (((c:Nat):Int).fdiv (2^(min (1:Int).toNat I6.bits)))|||Zh I6.bits (I6.wrap ((Zh I6.bits (I6.wrap (((c:Nat):Int)*2^(min (3:Int).toNat I6.bits)))&&&Zh I6.bits 8).toNat:Int))).toNat:Int))).toNat:Int))^^^Zh I6.bits ((I6.wrap (8*((a:Nat):Int))).tmod 16)).toNat:Int)=((qf a c:Nat):Int):=by decide +kernel
theorem TY:∀a,a<16->∀c,c<16->U8.wrap (I6.wrap (I6.wrap (16*((c:Nat):Int))+((a:Nat):Int)))=(((Zp (16*c+a)).toNat:Nat):Int):=by decide +kernel
theorem TZ:∀x:Nat,x<256->I6.wrap (((x:Nat):Int).fdiv (2^(min (4:Int).toNat U8.bits)))=((x/16:Nat):Int)/\I6.wrap (U8.wrap ((Zh U8.bits ((x:Nat):Int)&&&Zh U8.bits 15).toNat:Int))=((x%16:Nat):Int):=by decide +kernel
theorem Bc {w i:Nat} (hi:i<4):([L8 (B3 w 0),L8 (B3 w 1),L8 (B3 w 2),L8 (B3 w 3)]:List Value)[i]? =some (L8 (B3 w i)):=by
 rcases i with _|_|_|_|i;all_goals first|rfl|omega
theorem Ib {w:Nat} {z:Int} {x:UInt8} (hw:w<2) (hz:z=x.toNat):a7 C 263 [i64 w,vi .u8 z] [] (.ret (u8 (tQ w x))) []:=by
 subst hz;have hx:=x.toNat_lt;refine OH.c ?_;refine⟨[],_,_,_,_,Ii hw,rfl,rfl,?_⟩;refine⟨by decide,?_⟩;obtain⟨x1,x2⟩:=TZ x.toNat hx;refine j4 (fun i=>⟨[(5,.z 4 [L8 (B3 w 0),L8 (B3 w 1),L8 (B3 w 2),L8 (B3 w 3)]),(6,i64 ((W7 w x i).1:Nat)),(7,i64 ((W7 w x i).2:Nat)),(8,i64 i)],[]⟩) 2 ⟨[],⟨rfl,c9 x1,c9 x2,rfl,tq⟩,tq⟩ fun i hi=> ?_;obtain⟨s1,s2⟩:=ui hw x i hi;have hsi:W7 w x (i+1)=qS w i (W7 w x i):=rfl;generalize hp:W7 w x i=p at s1 s2 hsi ⊢;refine b8 (fun h=> ?_) (fun h=> ?_)
 ·have a8:i<2:=(by omega);obtain⟨f1,f2⟩:=uj p.1 s1 p.2 s2;obtain⟨r1,r2⟩:=jN w hw (2*i) (by omega);obtain⟨r3,r4⟩:=jN w hw (2*i+1) (by omega);have ee:=TW p.1 s1 p.2 s2;have ef:=TX p.1 s1 p.2 s2;have e0:(I6.wrap (2*(i:Int))).toNat=2*i:=(by simp(disch:=omega)only[Za];omega);have e1:(I6.wrap (I6.wrap (2*(i:Int))+1)).toNat=2*i+1:=(by simp(disch:=omega)only[Za];omega);refine⟨by decide,by decide,by decide,?_⟩;refine⟨(by simp(disch:=omega)only[Za];omega),by omega,?_⟩;refine⟨_,by rw[e0];exact Bc (by omega),?_⟩;refine⟨[],_,_,_,_,nq (l:=B3 w (2*i)) rfl ee (by rw[r1];exact f2) (r2 _ f2),rfl,rfl,?_⟩;refine⟨by omega,by omega,?_⟩;refine⟨_,by rw[e1];exact Bc (by omega),?_⟩;refine⟨[],_,_,_,_,nq (l:=B3 w (2*i+1)) rfl ef (by rw[r3];exact f1) (r4 _ f1),rfl,rfl,?_⟩;refine⟨i+1,by omega,by omega,[],⟨rfl,?_,?_,c9 (by simp(disch:=omega)only[Za];omega),tq⟩,tq⟩
  ·rw[hsi];rfl
  ·rw[hsi];rfl
 ·obtain rfl:i=2:=(by omega);refine⟨_,rfl,[],congrArg (vi .u8) ?_,tq⟩;rw[tQ,hp];exact TY p.1 s1 p.2 s2
abbrev kG (y:Bs):V:= .a [u8 (y.getD 0 0),u8 (y.getD 1 0),u8 (y.getD 2 0),u8 (y.getD 3 0)]
abbrev eX (y:Bs):B:= .mx [u8 (y.getD 0 0),u8 (y.getD 1 0),u8 (y.getD 2 0),u8 (y.getD 3 0)]
theorem kH {y:Bs} {i:Nat} (h:i<4):([u8 (y.getD 0 0),u8 (y.getD 1 0),u8 (y.getD 2 0),u8 (y.getD 3 0)]:List V)[i]? =some (u8 (y.getD i 0)):=I9 (f:=fun i=>u8 (y.getD i 0)) rfl rfl rfl rfl h
theorem vZ {y:Bs} {i:Nat} (hy:y.length=4) (h:i<4) (x:UInt8):([u8 (y.getD 0 0),u8 (y.getD 1 0),u8 (y.getD 2 0),u8 (y.getD 3 0)]:List V).set i (u8 x)=[u8 ((y.set i x).getD 0 0),u8 ((y.set i x).getD 1 0),u8 ((y.set i x).getD 2 0),u8 ((y.set i x).getD 3 0)]:=by
 match y,hy with
 |[a,b,c,d],_=>
  rcases i with _|_|_|_|i;all_goals first|rfl|omega
theorem Wv {o y i} (h:i<4):(bD o y i).getD i 0=y.getD i 0:=by
 rw[List.getD_eq_getElem?_getD,Bv h];rfl
theorem bc {a b c d:Nat} {y:Bs} (hy:y.length=4) (h0:a<2) (h1:b<2) (h2:c<2) (h3:d<2):a7 C 224 [kG y,.a [i64 a,i64 b,i64 c,i64 d]] [] (.ret (kG (M9 [a,b,c,d] y))) []:=by
 have ho:∀i,i<4->([a,b,c,d].getD i 0)<2:=by
  intro i hi;rcases i with _|_|_|_|i
  ·exact h0
  ·exact h1
  ·exact h2
  ·exact h3
  ·omega
 have hg:∀i,i<4->([i64 a,i64 b,i64 c,i64 d]:List V)[i]? =some (i64 ([a,b,c,d].getD i 0:Nat)):=fun i hi=>I9 (f:=fun i=>i64 ([a,b,c,d].getD i 0:Nat)) rfl rfl rfl rfl hi;refine OL.c ?_;refine j4 (fun i=>⟨[(2,.p (.k 0) 0),(3,.p (.k 1) 0),(4,.p (.k 2) 0),(5,i64 i)],[eX (bD [a,b,c,d] y i),.mx [i64 a,i64 b,i64 c,i64 d],.sc [.int .u8 0,.int .u8 0,.int .u8 0,.int .u8 0]]⟩) 4 ⟨[.d 2 0,.d 3 0,.d 4 0],⟨rfl,rfl,rfl,rfl,tq⟩,⟨_,rfl,rfl⟩,⟨_,rfl,rfl⟩,⟨_,rfl,rfl⟩,tq⟩ fun i hi=> ?_;refine b8 (fun h=> ?_) (fun h=> ?_)
 ·have a8:i<4:=(by omega);refine⟨by omega,by omega,?_⟩;refine⟨_,by rw[Zb,Zd,Ze];exact hg i a8,?_⟩;refine⟨by omega,by omega,?_⟩;refine⟨_,by rw[Zb,Zd,Ze];exact kH a8,?_⟩;refine⟨[],_,_,_,_,Ib (ho i a8) rfl,rfl,rfl,?_⟩;refine⟨by omega,by omega,by show 0+((i:Int)).toNat*1+1<=4;omega,?_⟩;refine⟨i+1,by omega,by omega,[.k 0,.k 1,.k 2],⟨rfl,rfl,rfl,c9 (by simp(disch:=omega)only[Za];omega),tq⟩,⟨_,rfl,?_⟩,⟨_,rfl,rfl⟩,⟨_,rfl,rfl⟩,tq⟩;rw[Wv a8];have:=vZ (pT [a,b,c,d] y i) a8 (tQ ([a,b,c,d].getD i 0) (y.getD i 0));rw[Bw a8]at this;refine Eq.trans ?_ (congrArg B.mx this);clear this hg ho;rcases i with _|_|_|_|i;all_goals first|rfl|omega
 ·obtain rfl:i=4:=(by omega);refine⟨_,rfl,rfl,Zc _,_,rfl,rfl,?_⟩;exact⟨_,rfl,[],rfl,tq⟩
def fZ (y:Bs) (l:UInt32) (i:Nat):Bs:=(List.range 4).map fun p=>if p<i then y.getD p 0^^^(m9 l).getD p 0 else y.getD p 0
theorem TS (y l i):(fZ y l i).length=4:=by simp[fZ]
theorem Tz {y l i} (h:i<4):(fZ y l i).getD i 0=y.getD i 0:=by
 rcases i with _|_|_|_|i;all_goals first|rfl|omega
theorem TV {y l i} (h:i<4):(fZ y l i).set i (y.getD i 0^^^(m9 l).getD i 0)=fZ y l (i+1):=by
 rcases i with _|_|_|_|i;all_goals first|rfl|omega
theorem Ty {y l} (hy:y.length=4):fZ y l 4=f6 y (m9 l):=by
 match y,hy with
 |[a,b,c,d],_=>rfl
theorem po {a b c d a' b' c' d':V} (h1:a=a') (h2:b=b') (h3:c=c') (h4:d=d'):B.mx [a,b,c,d]=B.mx [a',b',c',d']:=by
 subst h1;subst h2;subst h3;subst h4;rfl
theorem Ti (l:UInt32) {i:Nat} (h:i<4):U8.wrap ((l.toNat:Int).fdiv (2^(min (IntKind.u64.wrap (I6.wrap (8*(i:Int)))).toNat U3.bits)))=(((m9 l).getD i 0).toNat:Int):=by
 have hl:=l.toNat_lt;rcases i with _|_|_|_|i
 ·show U8.wrap ((l.toNat:Int).fdiv (2^0))=((l.toUInt64.toUInt8).toNat:Int);simp[Zs,wrap_u8];try omega
 ·show U8.wrap ((l.toNat:Int).fdiv (2^8))=(((l.toUInt64>>>8).toUInt8).toNat:Int);simp[Zs,wrap_u8,Zx];try omega
 ·show U8.wrap ((l.toNat:Int).fdiv (2^16))=(((l.toUInt64>>>8>>>8).toUInt8).toNat:Int);simp[Zs,wrap_u8,Zx];try omega
 ·show U8.wrap ((l.toNat:Int).fdiv (2^24))=(((l.toUInt64>>>8>>>8>>>8).toUInt8).toNat:Int);simp[Zs,wrap_u8,Zx];try omega
 ·omega
theorem cQ {y:Bs} {z:Int} {l:UInt32} (hy:y.length=4) (hz:z=l.toNat):a7 C 223 [kG y,vi .u32 z] [] (.ret (kG (f6 y (m9 l)))) []:=by
 subst hz;refine OJ.c ?_;refine j4 (fun i=>⟨[(1,u32 l),(2,.p (.k 0) 0),(4,.p (.k 1) 0),(5,i64 i)],[eX (fZ y l i),.sc [.int .u8 0,.int .u8 0,.int .u8 0,.int .u8 0]]⟩) 4 ⟨[.d 2 0,.d 4 0],⟨rfl,rfl,rfl,rfl,tq⟩,⟨_,rfl,rfl⟩,⟨_,rfl,rfl⟩,tq⟩ fun i hi=> ?_;refine b8 (fun h=> ?_) (fun h=> ?_)
 ·have a8:i<4:=(by omega);refine⟨by omega,by omega,?_⟩;refine⟨_,by rw[Zb,Zd,Ze];exact kH a8,?_⟩;refine⟨by simp only[IntKind.wrap_i64,B5];omega,by omega,by omega,by show 0+((i:Int)).toNat*1+1<=4;omega,?_⟩;refine⟨i+1,by omega,by omega,[.k 0,.k 1],⟨rfl,rfl,rfl,c9 (by simp(disch:=omega)only[Za];omega),tq⟩,⟨_,rfl,?_⟩,⟨_,rfl,rfl⟩,tq⟩;rw[Tz a8];have:=vZ (TS y l i) a8 (y.getD i 0^^^(m9 l).getD i 0);rw[TV a8]at this;refine Eq.trans ?_ (congrArg B.mx this);clear this;have hv:vi .u8 (U8.wrap ((Zh U8.bits ((y.getD i 0).toNat:Int)^^^Zh U8.bits (U8.wrap ((l.toNat:Int).fdiv (2^(min (IntKind.u64.wrap (I6.wrap (8*(i:Int)))).toNat U3.bits))))).toNat:Int))=u8 (y.getD i 0^^^(m9 l).getD i 0):=by
   rw[Ti l a8];exact congrArg (vi .u8) (s6 _ _)
  rcases i with _|_|_|_|i
  ·exact po hv rfl rfl rfl
  ·exact po rfl hv rfl rfl
  ·exact po rfl rfl hv rfl
  ·exact po rfl rfl rfl hv
  ·omega
 ·obtain rfl:i=4:=(by omega);refine⟨_,rfl,rfl,Zc _,_,rfl,rfl,?_⟩;refine⟨_,rfl,[],?_,tq⟩;show kG (fZ y l 4)=_;rw[Ty hy]
def zA (f:Nat->Nat->UInt8) (K:Nat):Nat->UInt32
 |0=>0
 |i+1=>zA f K i^^^((f i K).toUInt32<<<Zk (8*i))
def zP (f:Nat->Nat->UInt8) (K i k:Nat):UInt32:=zA f K i^^^((f i k).toUInt32<<<Zk (8*i))
theorem qu {f K i} (h:f i 0=0):zP f K i 0=zA f K i:=by
 unfold zP;rw[h];simp
theorem ZG (a b s:UInt32):(a^^^b)<<<s=(a<<<s)^^^(b<<<s):=by
 apply Z1;simp[BitVec.shiftLeft_xor_distrib]
theorem qt {f K i k x} (h:f i (k+1)=f i k^^^x):zP f K i (k+1)=zP f K i k^^^(x.toUInt32<<<Zk (8*i)):=by
 unfold zP;rw[h,UInt8.toUInt32_xor,ZG,UInt32.xor_assoc]
theorem Rh (a b c d:UInt8):o5 [a,b,c,d]=((a.toUInt32^^^b.toUInt32<<<8)^^^c.toUInt32<<<16)^^^d.toUInt32<<<24:=by
 apply Z1;apply BitVec.eq_of_getLsbD_eq;intro j hj;have z:∀(x:UInt8) (k:Nat),8<=k->x.toBitVec.getLsbD k=false:=fun x k h=>BitVec.getLsbD_of_ge _ _ h;simp[o5,L6,BitVec.getLsbD_setWidth,BitVec.getLsbD_shiftLeft];have hz:∀(x:UInt8) (k:Nat),(decide (k<64)&&x.toBitVec.getLsbD k)=x.toBitVec.getLsbD k:=by
  intro x k;by_cases h:k<64
  ·simp[h]
  ·simp[h,z x k (by omega)]
 by_cases h1:j<8
 ·simp[h1,show j<16 by omega,show j<24 by omega,show j<64 by omega,hj]
 ·by_cases h2:j<16
  ·simp[h1,h2,show j<24 by omega,show j<64 by omega,hj,z a j (by omega),show j-8<8 by omega,show j-8<64 by omega]
  ·by_cases h3:j<24
   ·simp[h1,h2,h3,show j<64 by omega,hj,z a j (by omega),z b (j-8) (by omega),show ¬j-8<8 by omega,show j-8-8<8 by omega,show j-8-8<64 by omega,show j-8<64 by omega,show j-8-8=j-16 by omega,show j-16<8 by omega]
    intros;omega
   ·simp[h1,h2,h3,show j<64 by omega,hj,z a j (by omega),z b (j-8) (by omega),z c (j-16) (by omega),show ¬j-8<8 by omega,show ¬j-16<8 by omega,show j-8<64 by omega,show j-8-8=j-16 by omega,show j-16<64 by omega,show j-16-8=j-24 by omega,show j-24<64 by omega,show j-8<32 by omega,show j-16<32 by omega,show j-24<32 by omega]
theorem qr {f K}:o5 (O6 f K 4 0)=zA f K 4:=by
 show o5 [f 0 K,f 1 K,f 2 K,f 3 K]=_;rw[Rh];simp[zA]
theorem LN:∀i,i<4->∀k,k<8->([u8 1,u8 164,u8 85,u8 135,u8 90,u8 88,u8 219,u8 158,u8 164,u8 86,u8 130,u8 243,u8 30,u8 198,u8 104,u8 229,u8 2,u8 161,u8 252,u8 193,u8 71,u8 174,u8 61,u8 25,u8 164,u8 85,u8 135,u8 90,u8 88,u8 219,u8 158,u8 3]:List V)[i*8+k]? =some (u8 ((fR i).getD k 0)):=by
 intro i hi k hk;rcases i with _|_|_|_|i;all_goals first|omega|(rcases k with _|_|_|_|_|_|_|_|k<;>first|rfl|omega)
theorem tE:∀i,i<4->∀k,k<4->([u8 1,u8 239,u8 91,u8 91,u8 91,u8 239,u8 239,u8 1,u8 239,u8 91,u8 1,u8 239,u8 239,u8 1,u8 239,u8 91]:List V)[i*4+k]? =some (u8 ((H4 i).getD k 0)):=by
 intro i hi k hk;rcases i with _|_|_|_|i;all_goals first|omega|(rcases k with _|_|_|_|k<;>first|rfl|omega)
theorem qw {z x:UInt32} {b:UInt8} {i:Nat} (hi:i<4):U3.wrap ((Zh U3.bits (z.toNat:Int)^^^Zh U3.bits (U3.wrap (U3.wrap (b.toNat:Int)*2^(min (IntKind.u64.wrap (I6.wrap (8*(i:Int)))).toNat U3.bits)))).toNat:Int)=((z^^^(b.toUInt32<<<Zk (8*i))).toNat:Int):=by
 have e:IntKind.u64.wrap (I6.wrap (8*(i:Int)))=((8*i:Nat):Int):=by simp only[IntKind.wrap_i64,B5];omega
 rw[e,ZN,ki _ _ (by omega) (by omega),Zb,x5]
theorem rX {va:List Value} {m:Bs} (ha:va=bv m) (hm:m.length=8):a7 C 167 [.z 8 va] [] (.ret (u32 (fx m))) []:=by
 subst ha;have hm0:∀p,F4 333 fR m p 0=0:=fun _=>rfl;refine OM.c ?_;refine⟨Zc _,?_⟩;refine j4 (fun i=>⟨[(0,.z 8 (bv m)),(3,.p (.k 0) 0),(4,u32 (zA (F4 333 fR m) 8 i)),(5,i64 i)],[.mx [u8 1,u8 164,u8 85,u8 135,u8 90,u8 88,u8 219,u8 158,u8 164,u8 86,u8 130,u8 243,u8 30,u8 198,u8 104,u8 229,u8 2,u8 161,u8 252,u8 193,u8 71,u8 174,u8 61,u8 25,u8 164,u8 85,u8 135,u8 90,u8 88,u8 219,u8 158,u8 3]]⟩) 4 ⟨[.d 3 0],⟨rfl,rfl,rfl,rfl,tq⟩,⟨_,rfl,rfl⟩,tq⟩ fun i hi=> ?_;refine b8 (fun h=> ?_) (fun h=> ?_)
 ·have a8:i<4:=(by omega);refine j4 (fun k=>⟨[(0,.z 8 (bv m)),(3,.p (.k 0) 0),(4,u32 (zP (F4 333 fR m) 8 i k)),(5,i64 i),(6,i64 k)],[.mx [u8 1,u8 164,u8 85,u8 135,u8 90,u8 88,u8 219,u8 158,u8 164,u8 86,u8 130,u8 243,u8 30,u8 198,u8 104,u8 229,u8 2,u8 161,u8 252,u8 193,u8 71,u8 174,u8 61,u8 25,u8 164,u8 85,u8 135,u8 90,u8 88,u8 219,u8 158,u8 3]]⟩) 8 ⟨[.k 0],⟨rfl,rfl,congrArg u32 (qu (hm0 i)).symm,rfl,rfl,tq⟩,⟨_,rfl,rfl⟩,tq⟩ fun k hk=> ?_;refine b8 (fun h=> ?_) (fun h=> ?_)
  ·have hkl:k<8:=(by omega);refine⟨by omega,by omega,by omega,by omega,?_⟩;refine⟨_,by simp only[Zb,Zd,Ze];exact LN i a8 k hkl,?_⟩;refine⟨by omega,by omega,?_⟩;refine⟨_,by rw[Zb];exact y7 (by omega),?_⟩;refine⟨[],_,_,_,_,gT (m:=333) rfl rfl (by decide) (by decide),rfl,rfl,?_⟩;refine⟨by simp only[IntKind.wrap_i64,B5];omega,?_⟩;refine⟨k+1,by omega,by omega,[.k 0],⟨rfl,rfl,?_,rfl,c9 (by simp(disch:=omega)only[Za];omega),tq⟩,⟨_,rfl,rfl⟩,tq⟩;rw[qt (jF _ _ _ _ _)];exact congrArg (vi .u32) (qw (x:=0) a8)
  ·obtain rfl:k=8:=(by omega);exact⟨i+1,by omega,by omega,[.k 0],⟨rfl,rfl,rfl,c9 (by simp(disch:=omega)only[Za];omega),tq⟩,⟨_,rfl,rfl⟩,tq⟩
 ·obtain rfl:i=4:=(by omega);refine⟨_,rfl,[],?_,tq⟩;show u32 (zA (F4 333 fR m) 8 4)=_;rw[fx,qr]
theorem eZ {z:Int} {x:UInt32} {n:Nat} {va:List Value} {l:List UInt32} (hz:z=x.toNat) (ha:va=wv l) (hl:l.length=n) (h4:2<=n/\n<=4):a7 C 168 [vi .u32 z,.z n va] [] (.ret (u32 (tH x l))) []:=by
 subst hz;subst ha;generalize hst:M9 (E4 0) (hG x l l.length l.length)=s;have hm0:∀p,F4 361 H4 s p 0=0:=fun _=>rfl;have hz0:f6 [0,0,0,0] (m9 x)=hG x l n 0:=by
  show List.zipWith _ _ _=m9 x
  match hp:m9 x,C4 x with
  |[a,b,c,d],_=>simp
 refine OE.c ?_;refine⟨[],_,_,_,_,cQ (y:=[0,0,0,0]) (l:=x) rfl rfl,rfl,rfl,?_⟩;rw[hz0];refine⟨Zc _,?_⟩;rcases n with _|_|_|_|_|n
 ·omega
 ·omega
 ·refine⟨_,rfl,rfl,?_⟩;refine⟨[],_,_,_,_,bc (y:=hG x l 2 0) (az _ _ _ _) (by decide) (by decide) (by decide) (by decide),rfl,rfl,?_⟩;refine⟨by decide,by decide,?_⟩;refine⟨_,n8 (i:=1) (by omega),?_⟩;refine⟨[],_,_,_,_,cQ (y:=M9 (E4 2) (hG x l 2 0)) (bE _ _) rfl,rfl,rfl,?_⟩;refine⟨Zc _,?_⟩;refine⟨_,rfl,rfl,?_⟩;refine⟨[],_,_,_,_,bc (y:=hG x l 2 1) (az _ _ _ _) (by decide) (by decide) (by decide) (by decide),rfl,rfl,?_⟩;refine⟨by decide,by decide,?_⟩;refine⟨_,n8 (i:=0) (by omega),?_⟩;refine⟨[],_,_,_,_,cQ (y:=M9 (E4 1) (hG x l 2 1)) (bE _ _) rfl,rfl,rfl,?_⟩;refine⟨Zc _,?_⟩;refine⟨_,rfl,rfl,?_⟩;refine⟨[],_,_,_,_,bc (y:=hG x l 2 2) (az _ _ _ _) (by decide) (by decide) (by decide) (by decide),rfl,rfl,?_⟩;refine⟨Zc _,Zc _,?_⟩;have hss:M9 [1,0,1,0] (hG x l 2 2)=s:=by rw[<-hst,hl];rfl
  rw[hss];refine j4 (fun i=>⟨[(5,.p (.k 0) 0),(6,.p (.k 1) 0),(7,u32 (zA (F4 361 H4 s) 4 i)),(8,i64 i)],[eX s,.mx [u8 1,u8 239,u8 91,u8 91,u8 91,u8 239,u8 239,u8 1,u8 239,u8 91,u8 1,u8 239,u8 239,u8 1,u8 239,u8 91]]⟩) 4 ⟨[.d 5 0,.d 6 0],⟨rfl,rfl,rfl,rfl,tq⟩,⟨_,rfl,rfl⟩,⟨_,rfl,rfl⟩,tq⟩ fun i hi=> ?_;refine b8 (fun h=> ?_) (fun h=> ?_)
  ·have a8:i<4:=(by omega);refine j4 (fun k=>⟨[(5,.p (.k 0) 0),(6,.p (.k 1) 0),(7,u32 (zP (F4 361 H4 s) 4 i k)),(8,i64 i),(9,i64 k)],[eX s,.mx [u8 1,u8 239,u8 91,u8 91,u8 91,u8 239,u8 239,u8 1,u8 239,u8 91,u8 1,u8 239,u8 239,u8 1,u8 239,u8 91]]⟩) 4 ⟨[.k 0,.k 1],⟨rfl,rfl,congrArg u32 (qu (hm0 i)).symm,rfl,rfl,tq⟩,⟨_,rfl,rfl⟩,⟨_,rfl,rfl⟩,tq⟩ fun k hk=> ?_;refine b8 (fun h=> ?_) (fun h=> ?_)
   ·have hkl:k<4:=(by omega);refine⟨by omega,by omega,by omega,by omega,?_⟩;refine⟨_,by simp only[Zb,Zd,Ze];exact tE i a8 k hkl,?_⟩;refine⟨by omega,by omega,?_⟩;refine⟨_,by simp only[Zb,Zd,Ze];exact kH hkl,?_⟩;refine⟨[],_,_,_,_,gT (m:=361) rfl rfl (by decide) (by decide),rfl,rfl,?_⟩;refine⟨by simp only[IntKind.wrap_i64,B5];omega,?_⟩;refine⟨k+1,by omega,by omega,[.k 0,.k 1],⟨rfl,rfl,?_,rfl,c9 (by simp(disch:=omega)only[Za];omega),tq⟩,⟨_,rfl,rfl⟩,⟨_,rfl,rfl⟩,tq⟩;rw[qt (jF _ _ _ _ _)];exact congrArg (vi .u32) (qw (x:=0) a8)
   ·obtain rfl:k=4:=(by omega);exact⟨i+1,by omega,by omega,[.k 0,.k 1],⟨rfl,rfl,rfl,c9 (by simp(disch:=omega)only[Za];omega),tq⟩,⟨_,rfl,rfl⟩,⟨_,rfl,rfl⟩,tq⟩
  ·obtain rfl:i=4:=(by omega);refine⟨_,rfl,[],?_,tq⟩;show u32 (zA (F4 361 H4 s) 4 4)=_;rw[tH,hst,qr]
 ·refine⟨_,rfl,rfl,?_⟩;refine⟨[],_,_,_,_,bc (y:=hG x l 3 0) (az _ _ _ _) (by decide) (by decide) (by decide) (by decide),rfl,rfl,?_⟩;refine⟨by decide,by decide,?_⟩;refine⟨_,n8 (i:=2) (by omega),?_⟩;refine⟨[],_,_,_,_,cQ (y:=M9 (E4 3) (hG x l 3 0)) (bE _ _) rfl,rfl,rfl,?_⟩;refine⟨Zc _,?_⟩;refine⟨_,rfl,rfl,?_⟩;refine⟨[],_,_,_,_,bc (y:=hG x l 3 1) (az _ _ _ _) (by decide) (by decide) (by decide) (by decide),rfl,rfl,?_⟩;refine⟨by decide,by decide,?_⟩;refine⟨_,n8 (i:=1) (by omega),?_⟩;refine⟨[],_,_,_,_,cQ (y:=M9 (E4 2) (hG x l 3 1)) (bE _ _) rfl,rfl,rfl,?_⟩;refine⟨Zc _,?_⟩;refine⟨_,rfl,rfl,?_⟩;refine⟨[],_,_,_,_,bc (y:=hG x l 3 2) (az _ _ _ _) (by decide) (by decide) (by decide) (by decide),rfl,rfl,?_⟩;refine⟨by decide,by decide,?_⟩;refine⟨_,n8 (i:=0) (by omega),?_⟩;refine⟨[],_,_,_,_,cQ (y:=M9 (E4 1) (hG x l 3 2)) (bE _ _) rfl,rfl,rfl,?_⟩;refine⟨Zc _,?_⟩;refine⟨_,rfl,rfl,?_⟩;refine⟨[],_,_,_,_,bc (y:=hG x l 3 3) (az _ _ _ _) (by decide) (by decide) (by decide) (by decide),rfl,rfl,?_⟩;refine⟨Zc _,Zc _,?_⟩;have hss:M9 [1,0,1,0] (hG x l 3 3)=s:=by rw[<-hst,hl];rfl
  rw[hss];refine j4 (fun i=>⟨[(5,.p (.k 0) 0),(6,.p (.k 1) 0),(7,u32 (zA (F4 361 H4 s) 4 i)),(8,i64 i)],[eX s,.mx [u8 1,u8 239,u8 91,u8 91,u8 91,u8 239,u8 239,u8 1,u8 239,u8 91,u8 1,u8 239,u8 239,u8 1,u8 239,u8 91]]⟩) 4 ⟨[.d 5 0,.d 6 0],⟨rfl,rfl,rfl,rfl,tq⟩,⟨_,rfl,rfl⟩,⟨_,rfl,rfl⟩,tq⟩ fun i hi=> ?_;refine b8 (fun h=> ?_) (fun h=> ?_)
  ·have a8:i<4:=(by omega);refine j4 (fun k=>⟨[(5,.p (.k 0) 0),(6,.p (.k 1) 0),(7,u32 (zP (F4 361 H4 s) 4 i k)),(8,i64 i),(9,i64 k)],[eX s,.mx [u8 1,u8 239,u8 91,u8 91,u8 91,u8 239,u8 239,u8 1,u8 239,u8 91,u8 1,u8 239,u8 239,u8 1,u8 239,u8 91]]⟩) 4 ⟨[.k 0,.k 1],⟨rfl,rfl,congrArg u32 (qu (hm0 i)).symm,rfl,rfl,tq⟩,⟨_,rfl,rfl⟩,⟨_,rfl,rfl⟩,tq⟩ fun k hk=> ?_;refine b8 (fun h=> ?_) (fun h=> ?_)
   ·have hkl:k<4:=(by omega);refine⟨by omega,by omega,by omega,by omega,?_⟩;refine⟨_,by simp only[Zb,Zd,Ze];exact tE i a8 k hkl,?_⟩;refine⟨by omega,by omega,?_⟩;refine⟨_,by simp only[Zb,Zd,Ze];exact kH hkl,?_⟩;refine⟨[],_,_,_,_,gT (m:=361) rfl rfl (by decide) (by decide),rfl,rfl,?_⟩;refine⟨by simp only[IntKind.wrap_i64,B5];omega,?_⟩;refine⟨k+1,by omega,by omega,[.k 0,.k 1],⟨rfl,rfl,?_,rfl,c9 (by simp(disch:=omega)only[Za];omega),tq⟩,⟨_,rfl,rfl⟩,⟨_,rfl,rfl⟩,tq⟩;rw[qt (jF _ _ _ _ _)];exact congrArg (vi .u32) (qw (x:=0) a8)
   ·obtain rfl:k=4:=(by omega);exact⟨i+1,by omega,by omega,[.k 0,.k 1],⟨rfl,rfl,rfl,c9 (by simp(disch:=omega)only[Za];omega),tq⟩,⟨_,rfl,rfl⟩,⟨_,rfl,rfl⟩,tq⟩
  ·obtain rfl:i=4:=(by omega);refine⟨_,rfl,[],?_,tq⟩;show u32 (zA (F4 361 H4 s) 4 4)=_;rw[tH,hst,qr]
 ·refine⟨_,rfl,rfl,?_⟩;refine⟨[],_,_,_,_,bc (y:=hG x l 4 0) (az _ _ _ _) (by decide) (by decide) (by decide) (by decide),rfl,rfl,?_⟩;refine⟨by decide,by decide,?_⟩;refine⟨_,n8 (i:=3) (by omega),?_⟩;refine⟨[],_,_,_,_,cQ (y:=M9 (E4 4) (hG x l 4 0)) (bE _ _) rfl,rfl,rfl,?_⟩;refine⟨Zc _,?_⟩;refine⟨_,rfl,rfl,?_⟩;refine⟨[],_,_,_,_,bc (y:=hG x l 4 1) (az _ _ _ _) (by decide) (by decide) (by decide) (by decide),rfl,rfl,?_⟩;refine⟨by decide,by decide,?_⟩;refine⟨_,n8 (i:=2) (by omega),?_⟩;refine⟨[],_,_,_,_,cQ (y:=M9 (E4 3) (hG x l 4 1)) (bE _ _) rfl,rfl,rfl,?_⟩;refine⟨Zc _,?_⟩;refine⟨_,rfl,rfl,?_⟩;refine⟨[],_,_,_,_,bc (y:=hG x l 4 2) (az _ _ _ _) (by decide) (by decide) (by decide) (by decide),rfl,rfl,?_⟩;refine⟨by decide,by decide,?_⟩;refine⟨_,n8 (i:=1) (by omega),?_⟩;refine⟨[],_,_,_,_,cQ (y:=M9 (E4 2) (hG x l 4 2)) (bE _ _) rfl,rfl,rfl,?_⟩;refine⟨Zc _,?_⟩;refine⟨_,rfl,rfl,?_⟩;refine⟨[],_,_,_,_,bc (y:=hG x l 4 3) (az _ _ _ _) (by decide) (by decide) (by decide) (by decide),rfl,rfl,?_⟩;refine⟨by decide,by decide,?_⟩;refine⟨_,n8 (i:=0) (by omega),?_⟩;refine⟨[],_,_,_,_,cQ (y:=M9 (E4 1) (hG x l 4 3)) (bE _ _) rfl,rfl,rfl,?_⟩;refine⟨Zc _,?_⟩;refine⟨_,rfl,rfl,?_⟩;refine⟨[],_,_,_,_,bc (y:=hG x l 4 4) (az _ _ _ _) (by decide) (by decide) (by decide) (by decide),rfl,rfl,?_⟩;refine⟨Zc _,Zc _,?_⟩;have hss:M9 [1,0,1,0] (hG x l 4 4)=s:=by rw[<-hst,hl];rfl
  rw[hss];refine j4 (fun i=>⟨[(5,.p (.k 0) 0),(6,.p (.k 1) 0),(7,u32 (zA (F4 361 H4 s) 4 i)),(8,i64 i)],[eX s,.mx [u8 1,u8 239,u8 91,u8 91,u8 91,u8 239,u8 239,u8 1,u8 239,u8 91,u8 1,u8 239,u8 239,u8 1,u8 239,u8 91]]⟩) 4 ⟨[.d 5 0,.d 6 0],⟨rfl,rfl,rfl,rfl,tq⟩,⟨_,rfl,rfl⟩,⟨_,rfl,rfl⟩,tq⟩ fun i hi=> ?_;refine b8 (fun h=> ?_) (fun h=> ?_)
  ·have a8:i<4:=(by omega);refine j4 (fun k=>⟨[(5,.p (.k 0) 0),(6,.p (.k 1) 0),(7,u32 (zP (F4 361 H4 s) 4 i k)),(8,i64 i),(9,i64 k)],[eX s,.mx [u8 1,u8 239,u8 91,u8 91,u8 91,u8 239,u8 239,u8 1,u8 239,u8 91,u8 1,u8 239,u8 239,u8 1,u8 239,u8 91]]⟩) 4 ⟨[.k 0,.k 1],⟨rfl,rfl,congrArg u32 (qu (hm0 i)).symm,rfl,rfl,tq⟩,⟨_,rfl,rfl⟩,⟨_,rfl,rfl⟩,tq⟩ fun k hk=> ?_;refine b8 (fun h=> ?_) (fun h=> ?_)
   ·have hkl:k<4:=(by omega);refine⟨by omega,by omega,by omega,by omega,?_⟩;refine⟨_,by simp only[Zb,Zd,Ze];exact tE i a8 k hkl,?_⟩;refine⟨by omega,by omega,?_⟩;refine⟨_,by simp only[Zb,Zd,Ze];exact kH hkl,?_⟩;refine⟨[],_,_,_,_,gT (m:=361) rfl rfl (by decide) (by decide),rfl,rfl,?_⟩;refine⟨by simp only[IntKind.wrap_i64,B5];omega,?_⟩;refine⟨k+1,by omega,by omega,[.k 0,.k 1],⟨rfl,rfl,?_,rfl,c9 (by simp(disch:=omega)only[Za];omega),tq⟩,⟨_,rfl,rfl⟩,⟨_,rfl,rfl⟩,tq⟩;rw[qt (jF _ _ _ _ _)];exact congrArg (vi .u32) (qw (x:=0) a8)
   ·obtain rfl:k=4:=(by omega);exact⟨i+1,by omega,by omega,[.k 0,.k 1],⟨rfl,rfl,rfl,c9 (by simp(disch:=omega)only[Za];omega),tq⟩,⟨_,rfl,rfl⟩,⟨_,rfl,rfl⟩,tq⟩
  ·obtain rfl:i=4:=(by omega);refine⟨_,rfl,[],?_,tq⟩;show u32 (zA (F4 361 H4 s) 4 4)=_;rw[tH,hst,qr]
 ·omega
theorem fG (l:Bs):U3.wrap ((L6 l.reverse).toNat:Int)=((o5 l).toNat:Int):=kj _
theorem uH:∀r:Nat,r<20->U3.wrap (I6.wrap (2*(r:Int)))=((2*Zk r).toNat:Int):=by decide +kernel
theorem uI:∀r:Nat,r<20->U3.wrap (I6.wrap (I6.wrap (2*(r:Int))+1))=((2*Zk r+1).toNat:Int):=by decide +kernel
theorem Ig {n m:Nat} {va:List Value} {key:Bs} (ha:va=bv key) (hk:key.length=m) (hm:m=8*n) (hn:2<=n/\n<=4):
  a7 C 111 [.z m va] [] (.ret (.t [.o 1 (.k 0) 0 40,.z n (wv (tS key)),i64 0])) [.sc (wv (tK key))]:=by
 subst ha;subst hm;have hdiv:key.length/8=n:=by omega
 have hK:tK key=P8 (p5 key n) (p6 key n) 20:=by rw[tK,hdiv]
 have hS:tS key=(I0 key n).reverse:=by rw[tS,hdiv]
 rw[hK,hS];have e2:∀x:UInt32,U3.wrap (2*(x.toNat:Int))=((2*x).toNat:Int):=fun x=>iC 2 x;have e3:∀x:UInt32,U3.wrap ((x.toNat:Int)*16843009)=((x*af).toNat:Int):=fun x=>iC x af;refine OF.c ?_;rcases n with _|_|_|_|_|n
 ·omega
 ·omega
 ·refine A5 (fun i=>⟨[(0,.z 16 (bv key)),(5,.o 1 (.k 0) 0 i),(6,.o 1 (.k 1) 0 i),(7,.o 1 (.k 2) 0 i),(8,g8),(9,i64 (8*i:Nat))],[.sc (wv (p5 key i)),.sc (wv (p6 key i)),.sc (wv (I0 key i).reverse)]⟩) 2 [(5,1,.sc []),(6,1,.sc []),(7,1,.sc [])] ⟨[.d 900000 0,.d 900000 1,.d 900000 2],⟨rfl,rfl,rfl,rfl,rfl,rfl,tq⟩,⟨_,rfl,rfl⟩,⟨_,rfl,rfl⟩,⟨_,rfl,rfl⟩,tq⟩ fun i hi=> ?_;refine b8 (fun h=> ?_) (fun h=> ?_)
  ·have a8:i<2:=(by omega);have f1:(I6.wrap (((8*i:Nat):Int)+4)).toNat=8*i+4:=(by simp(disch:=omega)only[Za];omega);have f2:(I6.wrap (((8*i:Nat):Int)+8)).toNat=8*i+8:=(by simp(disch:=omega)only[Za];omega);refine⟨by omega,by omega,by rw[f1];omega,Zc _,by rw[f1];show _<=16;omega,?_⟩;rw[f1,Zb,show 8*i+4-8*i=4 by omega];refine⟨[],_,_,_,_,dC (l:=sub key (8*i) 4) (k5 _ _ _) (by rw[j5];omega) (by decide),rfl,rfl,?_⟩;refine⟨Zc _,by omega,by rw[p8,L9];omega,?_⟩;refine⟨by omega,by omega,by rw[f1,f2];omega,Zc _,by rw[f2];show _<=16;omega,?_⟩;rw[f1,f2,show 8*i+8-(8*i+4)=4 by omega];refine⟨[],_,_,_,_,dC (l:=sub key (8*i+4) 4) (k5 _ _ _) (by rw[j5];omega) (by decide),rfl,rfl,?_⟩;refine⟨Zc _,by omega,by rw[p8,M0];omega,?_⟩;refine⟨by omega,by omega,by rw[f2];omega,Zc _,by rw[f2];show _<=16;omega,?_⟩;rw[f2,Zb,show 8*i+8-8*i=8 by omega];refine⟨[],_,_,_,_,rX (m:=sub key (8*i) 8) (k5 _ _ _) (by rw[j5];omega),rfl,rfl,?_⟩;refine⟨by rw[p8,Zj,L3];omega,by omega,Zc _,?_⟩;refine⟨i+1,by omega,by omega,[.d 41 0,.d 52 0,.d 61 0],⟨rfl,rfl,rfl,?_,rfl,c9 (by simp(disch:=omega)only[Za];omega),tq⟩,⟨_,rfl,d8 ?_⟩,⟨_,rfl,d8 ?_⟩,⟨_,rfl,d8 ?_⟩,tq⟩
   ·show V.o 1 _ 0 _=V.o 1 _ 0 _;rw[Z6]
   ·rw[kb];show sub (wv (p5 key i)) 0 (i*1)++[Value.int .u32 (U3.wrap ((L6 (sub key (8*i) 4).reverse).toNat:Int))]=_;rw[fG,Zd];exact N5 (by rw[L9])
   ·rw[ke];show sub (wv (p6 key i)) 0 (i*1)++[Value.int .u32 (U3.wrap ((L6 (sub key (8*i+4) 4).reverse).toNat:Int))]=_;rw[fG,Zd];exact N5 (by rw[M0])
   ·rw[kd,Z0];show[Value.int .u32 ((fx (sub key (8*i) 8)).toNat:Int)]++sub (wv (I0 key i).reverse) 0 (i*1)=_;rw[Zd,y9 (by rw[Zj,L3])];rfl
  ·obtain rfl:i=2:=(by omega);refine A5 (fun r=>⟨[(5,.z 2 (wv (p5 key 2))),(6,.z 2 (wv (p6 key 2))),(7,.z 2 (wv (I0 key 2).reverse)),(8,.o 1 (.k 0) 0 (2*r)),(10,i64 r)],[.sc (wv (P8 (p5 key 2) (p6 key 2) r))]⟩) 20 [(8,1,.sc [])] ⟨[.d 900000 0],⟨?_,?_,?_,rfl,rfl,tq⟩,⟨_,rfl,rfl⟩,tq⟩ fun r hr=> ?_
   ·show V.z 2 (sub _ 0 2)=_;rw[y9 (L9 _ _)]
   ·show V.z 2 (sub _ 0 2)=_;rw[y9 (M0 _ _)]
   ·show V.z 2 (sub _ 0 2)=_;rw[y9 (by rw[Zj,L3])]
   have hkl:=fC (p5 key 2) (p6 key 2) r;refine b8 (fun h=> ?_) (fun h=> ?_)
   ·have a8:r<20:=(by omega);refine⟨[],_,_,_,_,eZ (x:=2*Zk r*af) (l:=p5 key 2) (by rw[uH r a8,e3]) rfl (L9 _ _) (by decide),rfl,rfl,?_⟩;refine⟨[],_,_,_,_,eZ (x:=(2*Zk r+1)*af) (l:=p6 key 2) (by rw[uI r a8,e3]) rfl (M0 _ _) (by decide),rfl,rfl,?_⟩;refine⟨[],_,_,_,_,P5 (k:=8) rfl (by decide) (by decide),rfl,rfl,?_⟩;refine⟨[],_,_,_,_,P5 (v:=T8 (p5 key 2) r+2*T9 (p6 key 2) r) (k:=9) (by rw[e2];exact p7 _ _) (by decide) (by decide),rfl,rfl,?_⟩;refine⟨Zc _,by omega,by rw[p8,hkl];omega,?_⟩;refine⟨r+1,by omega,by omega,[.d 90 0],⟨rfl,rfl,rfl,rfl,c9 (by simp(disch:=omega)only[Za];omega),tq⟩,⟨_,rfl,d8 ?_⟩,tq⟩;show sub (wv (P8 (p5 key 2) (p6 key 2) r)) 0 (2*r*1)++[Value.int .u32 (U3.wrap (((T8 (p5 key 2) r).toNat:Int)+((T9 (p6 key 2) r).toNat:Int))),Value.int .u32 ((A7 (T8 (p5 key 2) r+2*T9 (p6 key 2) r) 9).toNat:Int)]=_;rw[Zd,y9 hkl,p7,mi,<-kn];rfl
   ·obtain rfl:r=20:=(by omega);exact⟨_,rfl,[.k 0],rfl,⟨_,rfl,rfl⟩,tq⟩
 ·refine A5 (fun i=>⟨[(0,.z 24 (bv key)),(5,.o 1 (.k 0) 0 i),(6,.o 1 (.k 1) 0 i),(7,.o 1 (.k 2) 0 i),(8,g8),(9,i64 (8*i:Nat))],[.sc (wv (p5 key i)),.sc (wv (p6 key i)),.sc (wv (I0 key i).reverse)]⟩) 3 [(5,1,.sc []),(6,1,.sc []),(7,1,.sc [])] ⟨[.d 900000 0,.d 900000 1,.d 900000 2],⟨rfl,rfl,rfl,rfl,rfl,rfl,tq⟩,⟨_,rfl,rfl⟩,⟨_,rfl,rfl⟩,⟨_,rfl,rfl⟩,tq⟩ fun i hi=> ?_;refine b8 (fun h=> ?_) (fun h=> ?_)
  ·have a8:i<3:=(by omega);have f1:(I6.wrap (((8*i:Nat):Int)+4)).toNat=8*i+4:=(by simp(disch:=omega)only[Za];omega);have f2:(I6.wrap (((8*i:Nat):Int)+8)).toNat=8*i+8:=(by simp(disch:=omega)only[Za];omega);refine⟨by omega,by omega,by rw[f1];omega,Zc _,by rw[f1];show _<=24;omega,?_⟩;rw[f1,Zb,show 8*i+4-8*i=4 by omega];refine⟨[],_,_,_,_,dC (l:=sub key (8*i) 4) (k5 _ _ _) (by rw[j5];omega) (by decide),rfl,rfl,?_⟩;refine⟨Zc _,by omega,by rw[p8,L9];omega,?_⟩;refine⟨by omega,by omega,by rw[f1,f2];omega,Zc _,by rw[f2];show _<=24;omega,?_⟩;rw[f1,f2,show 8*i+8-(8*i+4)=4 by omega];refine⟨[],_,_,_,_,dC (l:=sub key (8*i+4) 4) (k5 _ _ _) (by rw[j5];omega) (by decide),rfl,rfl,?_⟩;refine⟨Zc _,by omega,by rw[p8,M0];omega,?_⟩;refine⟨by omega,by omega,by rw[f2];omega,Zc _,by rw[f2];show _<=24;omega,?_⟩;rw[f2,Zb,show 8*i+8-8*i=8 by omega];refine⟨[],_,_,_,_,rX (m:=sub key (8*i) 8) (k5 _ _ _) (by rw[j5];omega),rfl,rfl,?_⟩;refine⟨by rw[p8,Zj,L3];omega,by omega,Zc _,?_⟩;refine⟨i+1,by omega,by omega,[.d 41 0,.d 52 0,.d 61 0],⟨rfl,rfl,rfl,?_,rfl,c9 (by simp(disch:=omega)only[Za];omega),tq⟩,⟨_,rfl,d8 ?_⟩,⟨_,rfl,d8 ?_⟩,⟨_,rfl,d8 ?_⟩,tq⟩
   ·show V.o 1 _ 0 _=V.o 1 _ 0 _;rw[Z6]
   ·rw[kb];show sub (wv (p5 key i)) 0 (i*1)++[Value.int .u32 (U3.wrap ((L6 (sub key (8*i) 4).reverse).toNat:Int))]=_;rw[fG,Zd];exact N5 (by rw[L9])
   ·rw[ke];show sub (wv (p6 key i)) 0 (i*1)++[Value.int .u32 (U3.wrap ((L6 (sub key (8*i+4) 4).reverse).toNat:Int))]=_;rw[fG,Zd];exact N5 (by rw[M0])
   ·rw[kd,Z0];show[Value.int .u32 ((fx (sub key (8*i) 8)).toNat:Int)]++sub (wv (I0 key i).reverse) 0 (i*1)=_;rw[Zd,y9 (by rw[Zj,L3])];rfl
  ·obtain rfl:i=3:=(by omega);refine A5 (fun r=>⟨[(5,.z 3 (wv (p5 key 3))),(6,.z 3 (wv (p6 key 3))),(7,.z 3 (wv (I0 key 3).reverse)),(8,.o 1 (.k 0) 0 (2*r)),(10,i64 r)],[.sc (wv (P8 (p5 key 3) (p6 key 3) r))]⟩) 20 [(8,1,.sc [])] ⟨[.d 900000 0],⟨?_,?_,?_,rfl,rfl,tq⟩,⟨_,rfl,rfl⟩,tq⟩ fun r hr=> ?_
   ·show V.z 3 (sub _ 0 3)=_;rw[y9 (L9 _ _)]
   ·show V.z 3 (sub _ 0 3)=_;rw[y9 (M0 _ _)]
   ·show V.z 3 (sub _ 0 3)=_;rw[y9 (by rw[Zj,L3])]
   have hkl:=fC (p5 key 3) (p6 key 3) r;refine b8 (fun h=> ?_) (fun h=> ?_)
   ·have a8:r<20:=(by omega);refine⟨[],_,_,_,_,eZ (x:=2*Zk r*af) (l:=p5 key 3) (by rw[uH r a8,e3]) rfl (L9 _ _) (by decide),rfl,rfl,?_⟩;refine⟨[],_,_,_,_,eZ (x:=(2*Zk r+1)*af) (l:=p6 key 3) (by rw[uI r a8,e3]) rfl (M0 _ _) (by decide),rfl,rfl,?_⟩;refine⟨[],_,_,_,_,P5 (k:=8) rfl (by decide) (by decide),rfl,rfl,?_⟩;refine⟨[],_,_,_,_,P5 (v:=T8 (p5 key 3) r+2*T9 (p6 key 3) r) (k:=9) (by rw[e2];exact p7 _ _) (by decide) (by decide),rfl,rfl,?_⟩;refine⟨Zc _,by omega,by rw[p8,hkl];omega,?_⟩;refine⟨r+1,by omega,by omega,[.d 90 0],⟨rfl,rfl,rfl,rfl,c9 (by simp(disch:=omega)only[Za];omega),tq⟩,⟨_,rfl,d8 ?_⟩,tq⟩;show sub (wv (P8 (p5 key 3) (p6 key 3) r)) 0 (2*r*1)++[Value.int .u32 (U3.wrap (((T8 (p5 key 3) r).toNat:Int)+((T9 (p6 key 3) r).toNat:Int))),Value.int .u32 ((A7 (T8 (p5 key 3) r+2*T9 (p6 key 3) r) 9).toNat:Int)]=_;rw[Zd,y9 hkl,p7,mi,<-kn];rfl
   ·obtain rfl:r=20:=(by omega);exact⟨_,rfl,[.k 0],rfl,⟨_,rfl,rfl⟩,tq⟩
 ·refine A5 (fun i=>⟨[(0,.z 32 (bv key)),(5,.o 1 (.k 0) 0 i),(6,.o 1 (.k 1) 0 i),(7,.o 1 (.k 2) 0 i),(8,g8),(9,i64 (8*i:Nat))],[.sc (wv (p5 key i)),.sc (wv (p6 key i)),.sc (wv (I0 key i).reverse)]⟩) 4 [(5,1,.sc []),(6,1,.sc []),(7,1,.sc [])] ⟨[.d 900000 0,.d 900000 1,.d 900000 2],⟨rfl,rfl,rfl,rfl,rfl,rfl,tq⟩,⟨_,rfl,rfl⟩,⟨_,rfl,rfl⟩,⟨_,rfl,rfl⟩,tq⟩ fun i hi=> ?_;refine b8 (fun h=> ?_) (fun h=> ?_)
  ·have a8:i<4:=(by omega);have f1:(I6.wrap (((8*i:Nat):Int)+4)).toNat=8*i+4:=(by simp(disch:=omega)only[Za];omega);have f2:(I6.wrap (((8*i:Nat):Int)+8)).toNat=8*i+8:=(by simp(disch:=omega)only[Za];omega);refine⟨by omega,by omega,by rw[f1];omega,Zc _,by rw[f1];show _<=32;omega,?_⟩;rw[f1,Zb,show 8*i+4-8*i=4 by omega];refine⟨[],_,_,_,_,dC (l:=sub key (8*i) 4) (k5 _ _ _) (by rw[j5];omega) (by decide),rfl,rfl,?_⟩;refine⟨Zc _,by omega,by rw[p8,L9];omega,?_⟩;refine⟨by omega,by omega,by rw[f1,f2];omega,Zc _,by rw[f2];show _<=32;omega,?_⟩;rw[f1,f2,show 8*i+8-(8*i+4)=4 by omega];refine⟨[],_,_,_,_,dC (l:=sub key (8*i+4) 4) (k5 _ _ _) (by rw[j5];omega) (by decide),rfl,rfl,?_⟩;refine⟨Zc _,by omega,by rw[p8,M0];omega,?_⟩;refine⟨by omega,by omega,by rw[f2];omega,Zc _,by rw[f2];show _<=32;omega,?_⟩;rw[f2,Zb,show 8*i+8-8*i=8 by omega];refine⟨[],_,_,_,_,rX (m:=sub key (8*i) 8) (k5 _ _ _) (by rw[j5];omega),rfl,rfl,?_⟩;refine⟨by rw[p8,Zj,L3];omega,by omega,Zc _,?_⟩;refine⟨i+1,by omega,by omega,[.d 41 0,.d 52 0,.d 61 0],⟨rfl,rfl,rfl,?_,rfl,c9 (by simp(disch:=omega)only[Za];omega),tq⟩,⟨_,rfl,d8 ?_⟩,⟨_,rfl,d8 ?_⟩,⟨_,rfl,d8 ?_⟩,tq⟩
   ·show V.o 1 _ 0 _=V.o 1 _ 0 _;rw[Z6]
   ·rw[kb];show sub (wv (p5 key i)) 0 (i*1)++[Value.int .u32 (U3.wrap ((L6 (sub key (8*i) 4).reverse).toNat:Int))]=_;rw[fG,Zd];exact N5 (by rw[L9])
   ·rw[ke];show sub (wv (p6 key i)) 0 (i*1)++[Value.int .u32 (U3.wrap ((L6 (sub key (8*i+4) 4).reverse).toNat:Int))]=_;rw[fG,Zd];exact N5 (by rw[M0])
   ·rw[kd,Z0];show[Value.int .u32 ((fx (sub key (8*i) 8)).toNat:Int)]++sub (wv (I0 key i).reverse) 0 (i*1)=_;rw[Zd,y9 (by rw[Zj,L3])];rfl
  ·obtain rfl:i=4:=(by omega);refine A5 (fun r=>⟨[(5,.z 4 (wv (p5 key 4))),(6,.z 4 (wv (p6 key 4))),(7,.z 4 (wv (I0 key 4).reverse)),(8,.o 1 (.k 0) 0 (2*r)),(10,i64 r)],[.sc (wv (P8 (p5 key 4) (p6 key 4) r))]⟩) 20 [(8,1,.sc [])] ⟨[.d 900000 0],⟨?_,?_,?_,rfl,rfl,tq⟩,⟨_,rfl,rfl⟩,tq⟩ fun r hr=> ?_
   ·show V.z 4 (sub _ 0 4)=_;rw[y9 (L9 _ _)]
   ·show V.z 4 (sub _ 0 4)=_;rw[y9 (M0 _ _)]
   ·show V.z 4 (sub _ 0 4)=_;rw[y9 (by rw[Zj,L3])]
   have hkl:=fC (p5 key 4) (p6 key 4) r;refine b8 (fun h=> ?_) (fun h=> ?_)
   ·have a8:r<20:=(by omega);refine⟨[],_,_,_,_,eZ (x:=2*Zk r*af) (l:=p5 key 4) (by rw[uH r a8,e3]) rfl (L9 _ _) (by decide),rfl,rfl,?_⟩;refine⟨[],_,_,_,_,eZ (x:=(2*Zk r+1)*af) (l:=p6 key 4) (by rw[uI r a8,e3]) rfl (M0 _ _) (by decide),rfl,rfl,?_⟩;refine⟨[],_,_,_,_,P5 (k:=8) rfl (by decide) (by decide),rfl,rfl,?_⟩;refine⟨[],_,_,_,_,P5 (v:=T8 (p5 key 4) r+2*T9 (p6 key 4) r) (k:=9) (by rw[e2];exact p7 _ _) (by decide) (by decide),rfl,rfl,?_⟩;refine⟨Zc _,by omega,by rw[p8,hkl];omega,?_⟩;refine⟨r+1,by omega,by omega,[.d 90 0],⟨rfl,rfl,rfl,rfl,c9 (by simp(disch:=omega)only[Za];omega),tq⟩,⟨_,rfl,d8 ?_⟩,tq⟩;show sub (wv (P8 (p5 key 4) (p6 key 4) r)) 0 (2*r*1)++[Value.int .u32 (U3.wrap (((T8 (p5 key 4) r).toNat:Int)+((T9 (p6 key 4) r).toNat:Int))),Value.int .u32 ((A7 (T8 (p5 key 4) r+2*T9 (p6 key 4) r) 9).toNat:Int)]=_;rw[Zd,y9 hkl,p7,mi,<-kn];rfl
   ·obtain rfl:r=20:=(by omega);exact⟨_,rfl,[.k 0],rfl,⟨_,rfl,rfl⟩,tq⟩
 ·omega
theorem Ih {n m:Nat} {va:List Value} {key:Bs} (ha:va=bv key) (hk:key.length=m) (hm:m=8*n) (hn:2<=n/\n<=4):a7 C 56 [.z m va] [] (.ret (.t [N3 (tK key) (tS key),i64 0])) []:=by
 refine OG.c ?_;refine⟨[],_,_,_,_,Ig ha hk hm hn,rfl,rfl,?_⟩;refine⟨_,rfl,[],?_,tq⟩;show V.t [.q [.z 40 (sub _ 0 40),.z n _] 0,i64 0]=V.t [.q [.z _ _,.z _ _] 0,i64 0];rw[y9 (gq key),gq,pY (n:=n) (by omega)]
theorem xf {k s:List UInt32} {x y:Int} {a c:UInt32} (hx:x=a.toNat) (hy:y=c.toNat) (hs:2<=s.length/\s.length<=4):a7 C 212 [N3 k s,vi .u32 x,vi .u32 y] [] (.ret (.t [u32 (tH a s+tH (A7 c 8) s),u32 (tH a s+2*tH (A7 c 8) s)])) []:=by
 subst hx;subst hy;refine OI.c ?_;have e3:∀x:UInt32,U3.wrap (2*(x.toNat:Int))=((2*x).toNat:Int):=fun x=>iC 2 x;refine⟨_,rfl,?_⟩;refine⟨[],_,_,_,_,eZ (l:=s) rfl rfl rfl hs,rfl,rfl,?_⟩;refine⟨[],_,_,_,_,P5 (k:=8) rfl (by decide) (by decide),rfl,rfl,?_⟩;refine⟨_,rfl,?_⟩;refine⟨[],_,_,_,_,eZ (l:=s) rfl rfl rfl hs,rfl,rfl,?_⟩;refine⟨_,rfl,[],?_,tq⟩;show V.t [vi .u32 _,vi .u32 _]=_;rw[p7,e3,p7]
abbrev qj (x:W4):B:= .mx [u32 x.1,u32 x.2.1,u32 x.2.2.1,u32 x.2.2.2]
theorem fF (b:Bs) {i:Nat} (h:i<4):(wv (cf b 4))[i]? =some (.int .u32 (ah (x9 b) i).toNat):=by
 rcases i with _|_|_|_|i;all_goals first|rfl|omega
theorem If {va:List Value} {b:Bs} {k s:List UInt32} (ha:va=bv b) (hb:b.length=16) (hk:k.length=40) (hs:2<=s.length/\s.length<=4):a7 C 155 [N3 k s,.z 16 va,bool false] [] (y4 16) [.sc (bv (I8 (bJ k s (x9 b)) 4))]:=by
 subst ha;refine sP.c ?_;refine j4 (fun i=>⟨[(0,N3 k s),(1,.z 16 (bv b)),(2,bool false),(8,.p (.k 0) 0),(9,i64 i)],[.sc (wv (cf b i))]⟩) 4 ⟨[.d 8 0],⟨rfl,rfl,rfl,rfl,rfl,tq⟩,⟨_,rfl,rfl⟩,tq⟩ fun i hi=> ?_;refine b8 (fun h=> ?_) (fun h=> ?_)
 ·have a8:i<4:=(by omega);have e1:(I6.wrap (4*(i:Int))).toNat=4*i:=(by simp(disch:=omega)only[Za];omega);have e2:(I6.wrap (I6.wrap (4*(i:Int))+4)).toNat=4*i+4:=(by simp(disch:=omega)only[Za];omega);refine⟨by omega,(by simp(disch:=omega)only[Za];omega),by rw[e1,e2];omega,Zc _,by rw[e2];omega,?_⟩;rw[e1,e2,show 4*i+4-4*i=4 by omega];refine⟨[],_,_,_,_,dC (l:=sub b (4*i) 4) (k5 _ _ _) (by rw[j5];omega) (by decide),rfl,rfl,?_⟩;refine⟨by omega,by omega,by show 0+((i:Int)).toNat*1<4;omega,?_⟩;refine⟨i+1,by omega,by omega,[.k 0],⟨rfl,rfl,rfl,rfl,c9 (by simp(disch:=omega)only[Za];omega),tq⟩,⟨_,rfl,d8 ?_⟩,tq⟩;rw[Zb,Zd,Ze,fG];show(wv (cf b i)).set i (.int .u32 (o5 (sub b (4*i) 4)).toNat)=_;rw[aj,oY b a8]
 obtain rfl:i=4:=(by omega);refine⟨_,rfl,?_⟩;refine⟨by decide,by decide,_,fF b (i:=0) (by decide),?_⟩;refine⟨by decide,by omega,?_⟩;refine⟨_,n8 (i:=0) (by omega),?_⟩;refine⟨by decide,by decide,_,fF b (i:=1) (by decide),?_⟩;refine⟨by decide,by omega,?_⟩;refine⟨_,n8 (i:=1) (by omega),?_⟩;refine⟨by decide,by decide,_,fF b (i:=2) (by decide),?_⟩;refine⟨by decide,by omega,?_⟩;refine⟨_,n8 (i:=2) (by omega),?_⟩;refine⟨by decide,by decide,_,fF b (i:=3) (by decide),?_⟩;refine⟨by decide,by omega,?_⟩;refine⟨_,n8 (i:=3) (by omega),?_⟩;refine⟨Zc _,?_⟩;refine j4 (fun i=>⟨[(0,N3 k s),(8,.p (.k 0) 0),(10,wz k),(14,i64 i)],[qj (bH k s (wh k 0 (x9 b)) i)]⟩) 16 ⟨[.k 0],⟨rfl,rfl,rfl,rfl,tq⟩,⟨_,rfl,fL (x5 _ _) (x5 _ _) (x5 _ _) (x5 _ _)⟩,tq⟩ fun i hi=> ?_;have hst:=BI k s (wh k 0 (x9 b)) i;generalize hx:bH k s (wh k 0 (x9 b)) i=x at hst ⊢;refine b8 (fun h=> ?_) (fun h=> ?_)
 ·have a8:i<16:=(by omega);have e1:(I6.wrap (I6.wrap (2*(i:Int))+8)).toNat=2*i+8:=(by simp(disch:=omega)only[Za];omega);have e2:(I6.wrap (I6.wrap (2*(i:Int))+9)).toNat=2*i+9:=(by simp(disch:=omega)only[Za];omega);refine⟨by decide,by decide,_,rfl,by decide,by decide,_,rfl,?_⟩;refine⟨[],_,_,_,_,xf rfl rfl hs,rfl,rfl,?_⟩;refine⟨by decide,by decide,_,rfl,by omega,by omega,?_⟩;refine⟨_,by rw[e1];exact n8 (by omega),?_⟩;refine⟨[],_,_,_,_,P5 (v:=x.2.2.1^^^mK k s x.1 x.2.1 i) (k:=31) (by rw[p7];exact x5 _ _) (by decide) (by decide),rfl,rfl,?_⟩;refine⟨by decide,by decide,by show 3<=4;omega,by decide,by decide,_,rfl,?_⟩;refine⟨[],_,_,_,_,P5 (k:=1) rfl (by decide) (by decide),rfl,rfl,?_⟩;refine⟨by omega,by omega,?_⟩;refine⟨_,by rw[e2];exact n8 (by omega),?_⟩;refine⟨by decide,by decide,by show 4<=4;omega,?_⟩;refine⟨by decide,by decide,_,rfl,by decide,by decide,_,rfl,by decide,by decide,_,rfl,by decide,by decide,_,rfl,Zc _,?_⟩;refine⟨i+1,by omega,by omega,[.k 0],⟨rfl,rfl,rfl,c9 (by simp(disch:=omega)only[Za];omega),tq⟩,⟨_,rfl,?_⟩,tq⟩;rw[hst];exact fL rfl (by rw[p7];exact x5 _ _) rfl rfl
 obtain rfl:i=16:=(by omega);refine⟨by decide,by decide,_,rfl,?_⟩;refine⟨by decide,by omega,?_⟩;refine⟨_,n8 (i:=4) (by omega),?_⟩;refine⟨by decide,by decide,_,rfl,?_⟩;refine⟨by decide,by omega,?_⟩;refine⟨_,n8 (i:=5) (by omega),?_⟩;refine⟨by decide,by decide,_,rfl,?_⟩;refine⟨by decide,by omega,?_⟩;refine⟨_,n8 (i:=6) (by omega),?_⟩;refine⟨by decide,by decide,_,rfl,?_⟩;refine⟨by decide,by omega,?_⟩;refine⟨_,n8 (i:=7) (by omega),?_⟩;refine⟨Zc _,?_⟩;have hfx:wh k 4 (C5 x)=bJ k s (x9 b):=by rw[<-hx];rfl
 rw[<-hfx];generalize hy:wh k 4 (C5 x)=y;refine A5 (fun i=>⟨[(8,.p (.k 1) 0),(17,.o 1 (.k 0) 0 (4*i)),(18,i64 i)],[.sc (bv (I8 y i)),qj y]⟩) 4 [(17,1,.sc [])] ⟨[.d 900000 0,.k 0],⟨rfl,rfl,rfl,tq⟩,⟨_,rfl,rfl⟩,⟨_,rfl,?_⟩,tq⟩ fun i hi=> ?_
 ·rw[<-hy,<-hx];exact fL (x5 _ _) (x5 _ _) (x5 _ _) (x5 _ _)
 refine b8 (fun h=> ?_) (fun h=> ?_)
 ·have a8:i<4:=(by omega);refine⟨by omega,by omega,?_⟩;refine⟨_,by rw[Zb,Zd,Ze];exact qk a8,?_⟩;refine⟨[],_,_,_,_,nG rfl,rfl,rfl,?_⟩;have hpl:(m9 (ah y i)).length=4:=C4 _;refine⟨by rw[f9];exact Z3 hpl.symm,by omega,by rw[f9,dp];omega,?_⟩;refine⟨i+1,by omega,by omega,[.d 247 0,.k 1],⟨rfl,rfl,c9 (by simp(disch:=omega)only[Za];omega),tq⟩,⟨_,rfl,d8 ?_⟩,⟨_,rfl,rfl⟩,tq⟩;show sub (bv (I8 y i)) 0 (4*i*1)++sub (bv (m9 (ah y i))) 0 4=_;rw[Zd,b9 (dp y i),b9 hpl,z5,mB]
 ·obtain rfl:i=4:=(by omega);exact⟨_,rfl,[.k 0],rfl,⟨_,rfl,rfl⟩,tq⟩
theorem Ie {va:List Value} {b:Bs} {k s:List UInt32} (ha:va=bv b) (hb:b.length=16) (hk:k.length=40) (hs:2<=s.length/\s.length<=4):a7 C 155 [N3 k s,.z 16 va,bool true] [] (y4 16) [.sc (bv (I8 (bI k s (x9 b)) 4))]:=by
 subst ha;refine sP.c ?_;refine j4 (fun i=>⟨[(0,N3 k s),(1,.z 16 (bv b)),(2,bool true),(8,.p (.k 0) 0),(9,i64 i)],[.sc (wv (cf b i))]⟩) 4 ⟨[.d 8 0],⟨rfl,rfl,rfl,rfl,rfl,tq⟩,⟨_,rfl,rfl⟩,tq⟩ fun i hi=> ?_;refine b8 (fun h=> ?_) (fun h=> ?_)
 ·have a8:i<4:=(by omega);have e1:(I6.wrap (4*(i:Int))).toNat=4*i:=(by simp(disch:=omega)only[Za];omega);have e2:(I6.wrap (I6.wrap (4*(i:Int))+4)).toNat=4*i+4:=(by simp(disch:=omega)only[Za];omega);refine⟨by omega,(by simp(disch:=omega)only[Za];omega),by rw[e1,e2];omega,Zc _,by rw[e2];omega,?_⟩;rw[e1,e2,show 4*i+4-4*i=4 by omega];refine⟨[],_,_,_,_,dC (l:=sub b (4*i) 4) (k5 _ _ _) (by rw[j5];omega) (by decide),rfl,rfl,?_⟩;refine⟨by omega,by omega,by show 0+((i:Int)).toNat*1<4;omega,?_⟩;refine⟨i+1,by omega,by omega,[.k 0],⟨rfl,rfl,rfl,rfl,c9 (by simp(disch:=omega)only[Za];omega),tq⟩,⟨_,rfl,d8 ?_⟩,tq⟩;rw[Zb,Zd,Ze,fG];show(wv (cf b i)).set i (.int .u32 (o5 (sub b (4*i) 4)).toNat)=_;rw[aj,oY b a8]
 obtain rfl:i=4:=(by omega);refine⟨_,rfl,?_⟩;refine⟨by decide,by decide,_,fF b (i:=2) (by decide),?_⟩;refine⟨by decide,by omega,?_⟩;refine⟨_,n8 (i:=6) (by omega),?_⟩;refine⟨by decide,by decide,_,fF b (i:=3) (by decide),?_⟩;refine⟨by decide,by omega,?_⟩;refine⟨_,n8 (i:=7) (by omega),?_⟩;refine⟨by decide,by decide,_,fF b (i:=0) (by decide),?_⟩;refine⟨by decide,by omega,?_⟩;refine⟨_,n8 (i:=4) (by omega),?_⟩;refine⟨by decide,by decide,_,fF b (i:=1) (by decide),?_⟩;refine⟨by decide,by omega,?_⟩;refine⟨_,n8 (i:=5) (by omega),?_⟩;refine⟨Zc _,?_⟩;refine j4 (fun i=>⟨[(0,N3 k s),(8,.p (.k 0) 0),(10,wz k),(11,i64 (15-i))],[qj (C5 (aM k s (wh k 4 (x9 b)) i))]⟩) 16 ⟨[.k 0],⟨rfl,rfl,rfl,rfl,tq⟩,⟨_,rfl,fL (x5 _ _) (x5 _ _) (x5 _ _) (x5 _ _)⟩,tq⟩ fun i hi=> ?_;have hst:=BH k s (wh k 4 (x9 b)) i;generalize hx:aM k s (wh k 4 (x9 b)) i=x at hst ⊢;refine b8 (fun h=> ?_) (fun h=> ?_)
 ·obtain⟨r,er,hr15,hri⟩:∃r:Nat,(15:Int)-i=r/\r<=15/\r=15-i:=⟨15-i,by omega,by omega,rfl⟩;rw[<-hri]at hst;rw[er];have e1:(I6.wrap (I6.wrap (2*(r:Int))+8)).toNat=2*r+8:=(by simp(disch:=omega)only[Za];omega);have e2:(I6.wrap (I6.wrap (2*(r:Int))+9)).toNat=2*r+9:=(by simp(disch:=omega)only[Za];omega);refine⟨by decide,by decide,_,rfl,by decide,by decide,_,rfl,by decide,by decide,_,rfl,by decide,by decide,_,rfl,Zc _,?_⟩;refine⟨by decide,by decide,_,rfl,by decide,by decide,_,rfl,?_⟩;refine⟨[],_,_,_,_,xf (a:=x.1) (c:=x.2.1) rfl rfl hs,rfl,rfl,?_⟩;refine⟨by decide,by decide,_,rfl,?_⟩;refine⟨[],_,_,_,_,P5 (v:=x.2.2.1) (k:=1) rfl (by decide) (by decide),rfl,rfl,?_⟩;refine⟨by omega,by omega,?_⟩;refine⟨_,by rw[e1];exact n8 (by omega),?_⟩;refine⟨by decide,by decide,by show 3<=4;omega,by decide,by decide,_,rfl,by omega,by omega,?_⟩;refine⟨_,by rw[e2];exact n8 (by omega),?_⟩;refine⟨[],_,_,_,_,P5 (v:=x.2.2.2^^^mL k s x.1 x.2.1 r) (k:=31) (by rw[p7];exact x5 _ _) (by decide) (by decide),rfl,rfl,?_⟩;refine⟨by decide,by decide,by show 4<=4;omega,?_⟩;refine⟨i+1,by omega,by omega,[.k 0],⟨rfl,rfl,rfl,c9 ?_,tq⟩,⟨_,rfl,?_⟩,tq⟩
  ·rw[Za _ (by omega)];omega
  rw[hst];exact fL rfl rfl (by rw[p7];exact x5 _ _) rfl
 obtain rfl:i=16:=(by omega);refine⟨by decide,by decide,_,rfl,?_⟩;refine⟨by decide,by omega,?_⟩;refine⟨_,n8 (i:=0) (by omega),?_⟩;refine⟨by decide,by decide,_,rfl,?_⟩;refine⟨by decide,by omega,?_⟩;refine⟨_,n8 (i:=1) (by omega),?_⟩;refine⟨by decide,by decide,_,rfl,?_⟩;refine⟨by decide,by omega,?_⟩;refine⟨_,n8 (i:=2) (by omega),?_⟩;refine⟨by decide,by decide,_,rfl,?_⟩;refine⟨by decide,by omega,?_⟩;refine⟨_,n8 (i:=3) (by omega),?_⟩;refine⟨Zc _,?_⟩;have hfx:wh k 0 (C5 x)=bI k s (x9 b):=by rw[<-hx];rfl
 rw[<-hfx];generalize hy:wh k 0 (C5 x)=y;refine A5 (fun i=>⟨[(8,.p (.k 1) 0),(17,.o 1 (.k 0) 0 (4*i)),(18,i64 i)],[.sc (bv (I8 y i)),qj y]⟩) 4 [(17,1,.sc [])] ⟨[.d 900000 0,.k 0],⟨rfl,rfl,rfl,tq⟩,⟨_,rfl,rfl⟩,⟨_,rfl,?_⟩,tq⟩ fun i hi=> ?_
 ·rw[<-hy,<-hx];exact fL (x5 _ _) (x5 _ _) (x5 _ _) (x5 _ _)
 refine b8 (fun h=> ?_) (fun h=> ?_)
 ·have a8:i<4:=(by omega);refine⟨by omega,by omega,?_⟩;refine⟨_,by rw[Zb,Zd,Ze];exact qk a8,?_⟩;refine⟨[],_,_,_,_,nG rfl,rfl,rfl,?_⟩;have hpl:(m9 (ah y i)).length=4:=C4 _;refine⟨by rw[f9];exact Z3 hpl.symm,by omega,by rw[f9,dp];omega,?_⟩;refine⟨i+1,by omega,by omega,[.d 247 0,.k 1],⟨rfl,rfl,c9 (by simp(disch:=omega)only[Za];omega),tq⟩,⟨_,rfl,d8 ?_⟩,⟨_,rfl,rfl⟩,tq⟩;show sub (bv (I8 y i)) 0 (4*i*1)++sub (bv (m9 (ah y i))) 0 4=_;rw[Zd,b9 (dp y i),b9 hpl,z5,mB]
 ·obtain rfl:i=4:=(by omega);exact⟨_,rfl,[.k 0],rfl,⟨_,rfl,rfl⟩,tq⟩
theorem Ic {va:List Value} {k s:List UInt32} {n:Nat} {back:Bool} (hn:n≠16):a7 C 155 [N3 k s,.z n va,bool back] [] P3 []:=by
 refine sP.c ?_;refine n7 (fun h=> ?_) (fun h=>absurd (by omega) hn);exact⟨_,rfl,[],rfl,tq⟩
def bM:Bs:=[99,124,119,123,242,107,111,197,48,1,103,43,254,215,171,118,202,130,201,125,250,89,71,240,173,212,162,175,156,164,114,192,183,253,147,38,54,63,247,204,52,165,229,241,113,216,49,21,4,199,35,195,24,150,5,154,7,18,128,226,235,39,178,117,9,131,44,26,27,110,90,160,82,59,214,179,41,227,47,132,83,209,0,237,32,252,177,91,106,203,190,57,74,76,88,207,208,239,170,251,67,77,51,133,69,249,2,127,80,60,159,168,81,163,64,143,146,157,56,245,188,182,218,33,16,255,243,210,205,12,19,236,95,151,68,23,196,167,126,61,100,93,25,115,96,129,79,220,34,42,144,136,70,238,184,20,222,94,11,219,224,50,58,10,73,6,36,92,194,211,172,98,145,149,228,121,231,200,55,109,141,213,78,169,108,86,244,234,101,122,174,8,186,120,37,46,28,166,180,198,232,221,116,31,75,189,139,138,112,62,181,102,72,3,246,14,97,53,87,185,134,193,29,158,225,248,152,17,105,217,142,148,155,30,135,233,206,85,40,223,140,161,137,13,191,230,66,104,65,153,45,15,176,84,187,22]
def bN:Bs:=[226,78,84,252,148,194,74,204,98,13,106,70,60,77,139,209,94,250,100,203,180,151,190,43,188,119,46,3,211,25,89,193,29,6,65,107,85,240,153,105,234,156,24,174,99,223,231,187,0,115,102,251,150,76,133,228,58,9,69,170,15,238,16,235,45,127,244,41,172,207,173,145,141,120,200,149,249,47,206,205,8,122,136,56,92,131,42,40,71,219,184,199,147,164,18,83,255,135,14,49,54,33,88,72,1,142,55,116,50,202,233,177,183,171,12,215,196,86,66,38,7,152,96,217,182,185,17,64,236,32,140,189,160,201,132,4,73,35,241,79,80,31,19,220,216,192,158,87,227,195,123,101,59,2,143,62,232,37,146,229,21,221,253,23,169,191,212,154,126,197,57,103,254,118,157,67,167,225,208,245,104,242,27,52,112,5,163,138,213,121,134,168,48,198,81,75,30,166,39,246,53,210,110,36,22,130,95,218,230,117,162,239,44,178,28,159,93,111,128,10,114,68,155,108,144,11,91,51,125,90,82,243,97,161,247,176,214,63,124,109,237,20,224,165,61,34,179,248,137,222,113,26,175,186,181,129]
def iJ:Bs:=[82,9,106,213,48,54,165,56,191,64,163,158,129,243,215,251,124,227,57,130,155,47,255,135,52,142,67,68,196,222,233,203,84,123,148,50,166,194,35,61,238,76,149,11,66,250,195,78,8,46,161,102,40,217,36,178,118,91,162,73,109,139,209,37,114,248,246,100,134,104,152,22,212,164,92,204,93,101,182,146,108,112,72,80,253,237,185,218,94,21,70,87,167,141,157,132,144,216,171,0,140,188,211,10,247,228,88,5,184,179,69,6,208,44,30,143,202,63,15,2,193,175,189,3,1,19,138,107,58,145,17,65,79,103,220,234,151,242,207,206,240,180,230,115,150,172,116,34,231,173,53,133,226,249,55,232,28,117,223,110,71,241,26,113,29,41,197,137,111,183,98,14,170,24,190,27,252,86,62,75,198,210,121,32,154,219,192,254,120,205,90,244,31,221,168,51,136,7,199,49,177,18,16,89,39,128,236,95,96,81,127,169,25,181,74,13,45,229,122,159,147,201,156,239,160,224,59,77,174,42,245,176,200,235,187,60,131,83,153,97,23,43,4,126,186,119,214,38,225,105,20,99,85,33,12,125]
def iK:Bs:=[48,104,153,27,135,185,33,120,80,57,219,225,114,9,98,60,62,126,94,142,241,160,204,163,42,29,251,182,214,32,196,141,129,101,245,137,203,157,119,198,87,67,86,23,212,64,26,77,192,99,108,227,183,200,100,106,83,170,56,152,12,244,155,237,127,34,118,175,221,58,11,88,103,136,6,195,53,13,1,139,140,194,230,95,2,36,117,147,102,30,229,226,84,216,16,206,122,232,8,44,18,151,50,171,180,39,10,35,223,239,202,217,184,250,220,49,107,209,173,25,73,189,81,150,238,228,168,65,218,255,205,85,134,54,190,97,82,248,187,14,130,72,105,154,224,71,158,92,4,75,52,21,121,38,167,222,41,174,146,215,132,233,210,186,93,243,197,176,191,164,59,113,68,70,43,252,235,111,213,246,20,254,124,112,90,125,253,47,24,131,22,165,145,31,5,149,116,169,193,91,74,133,109,19,7,79,78,69,178,15,201,28,166,188,236,115,144,123,207,89,143,161,249,45,242,177,0,148,55,159,208,46,156,110,40,63,128,240,61,211,37,138,181,231,66,179,199,234,247,76,17,51,3,162,172,96]
theorem vB:aF 254 283 [241,227,199,143,31,62,124,248] 99 256=bM:=by decide +kernel
theorem vC:aF 247 283 [122,188,235,185,52,129,186,203] 226 256=bN:=by decide +kernel
theorem vv:bQ bM 256=iJ:=by decide +kernel
theorem vw:bQ bN 256=iK:=by decide +kernel
theorem gJ:bM.length=256:=by decide +kernel
theorem gK:bN.length=256:=by decide +kernel
theorem qO:iJ.length=256:=by decide +kernel
theorem qP:iK.length=256:=by decide +kernel
theorem Ef:∀j,j<256->Zp j∈bM:=by decide +kernel
theorem Eh:∀j,j<256->Zp j∈bN:=by decide +kernel
theorem Eg:bM.Nodup:=by decide +kernel
theorem Ei:bN.Nodup:=by decide +kernel
theorem rz:a7 C 141 [] [] (.ret (.a [.z 256 (bv bM),.z 256 (bv bN),.z 256 (bv iJ),.z 256 (bv iK)])) []:=by
 have m1:=wS (e:=254) (m:=283) (z:=99) (c:=99) (r0:=241) (r1:=227) (r2:=199) (r3:=143) (r4:=31) (r5:=62) (r6:=124) (r7:=248) rfl (by decide) (by decide) (by decide) (by decide);have m2:=wS (e:=247) (m:=283) (z:=226) (c:=226) (r0:=122) (r1:=188) (r2:=235) (r3:=185) (r4:=52) (r5:=129) (r6:=186) (r7:=203) rfl (by decide) (by decide) (by decide) (by decide);rw[vB]at m1;rw[vC]at m2;have b1:=wB (va:=sub (bv bM) 0 256) (b9 gJ) gJ Ef;have b2:=wB (va:=sub (bv bN) 0 256) (b9 gK) gK Eh;rw[vv]at b1;rw[vw]at b2;refine LS.c ?_;refine⟨[],_,_,_,_,m1,rfl,rfl,?_⟩;refine⟨by decide,by decide,by decide,?_⟩;refine⟨[],_,_,_,_,m2,rfl,rfl,?_⟩;refine⟨by decide,by decide,by decide,?_⟩;refine⟨by decide,by decide,_,rfl,?_⟩;refine⟨[],_,_,_,_,b1,rfl,rfl,?_⟩;refine⟨by decide,by decide,by decide,?_⟩;refine⟨by decide,by decide,_,rfl,?_⟩;refine⟨[],_,_,_,_,b2,rfl,rfl,?_⟩;refine⟨by decide,by decide,by decide,?_⟩;refine⟨_,rfl,rfl,Zc _,_,rfl,rfl,?_⟩;refine⟨_,rfl,[],?_,tq⟩;show V.a [V.z 256 (sub (bv bM) 0 256),V.z 256 (sub (bv bN) 0 256),V.z 256 (sub (bv iJ) 0 256),V.z 256 (sub (bv iK) 0 256)]=_;rw[b9 gJ,b9 gK,b9 qO,b9 qP]
def Ek:List (List Nat):=[[3,4,6,8,9,13,14],[2,5,7,8,9,12,15],[1,4,6,10,11,12,15],[0,5,7,10,11,13,14],[0,2,5,8,11,14,15],[1,3,4,9,10,14,15],[0,2,7,9,10,12,13],[1,3,6,8,11,12,13],[0,1,4,7,10,13,15],[0,1,5,6,11,12,14],[2,3,5,6,8,13,15],[2,3,4,7,9,12,14],[1,2,6,7,9,11,12],[0,3,6,7,8,10,13],[0,3,4,5,9,11,14],[1,2,4,5,8,10,15]]
def p9 (i:Nat):List Nat:=Ek.getD i []
theorem vE:∀i,i<16->∀t,t<7->(p9 i).getD t 0<16:=by decide
theorem Fp {i:Nat} (hi:i<16):a7 C 205 [i64 i] [] (.ret (.a [i64 ((p9 i).getD 0 0:Nat),i64 ((p9 i).getD 1 0:Nat),i64 ((p9 i).getD 2 0:Nat),i64 ((p9 i).getD 3 0:Nat),i64 ((p9 i).getD 4 0:Nat),i64 ((p9 i).getD 5 0:Nat),i64 ((p9 i).getD 6 0:Nat)])) []:=by
 rcases i with _|_|_|_|_|_|_|_|_|_|_|_|_|_|_|_|i
 ·exact T6.c ⟨Zc _,_,rfl,rfl,_,rfl,[],rfl,tq⟩
 ·exact T6.c ⟨Zc _,_,rfl,rfl,_,rfl,[],rfl,tq⟩
 ·exact T6.c ⟨Zc _,_,rfl,rfl,_,rfl,[],rfl,tq⟩
 ·exact T6.c ⟨Zc _,_,rfl,rfl,_,rfl,[],rfl,tq⟩
 ·exact T6.c ⟨Zc _,_,rfl,rfl,_,rfl,[],rfl,tq⟩
 ·exact T6.c ⟨Zc _,_,rfl,rfl,_,rfl,[],rfl,tq⟩
 ·exact T6.c ⟨Zc _,_,rfl,rfl,_,rfl,[],rfl,tq⟩
 ·exact T6.c ⟨Zc _,_,rfl,rfl,_,rfl,[],rfl,tq⟩
 ·exact T6.c ⟨Zc _,_,rfl,rfl,_,rfl,[],rfl,tq⟩
 ·exact T6.c ⟨Zc _,_,rfl,rfl,_,rfl,[],rfl,tq⟩
 ·exact T6.c ⟨Zc _,_,rfl,rfl,_,rfl,[],rfl,tq⟩
 ·exact T6.c ⟨Zc _,_,rfl,rfl,_,rfl,[],rfl,tq⟩
 ·exact T6.c ⟨Zc _,_,rfl,rfl,_,rfl,[],rfl,tq⟩
 ·exact T6.c ⟨Zc _,_,rfl,rfl,_,rfl,[],rfl,tq⟩
 ·exact T6.c ⟨Zc _,_,rfl,rfl,_,rfl,[],rfl,tq⟩
 ·exact T6.c ⟨Zc _,_,rfl,rfl,_,rfl,[],rfl,tq⟩
 ·omega
theorem Ej {i t:Nat} (ht:t<7):([i64 ((p9 i).getD 0 0:Nat),i64 ((p9 i).getD 1 0:Nat),i64 ((p9 i).getD 2 0:Nat),i64 ((p9 i).getD 3 0:Nat),i64 ((p9 i).getD 4 0:Nat),i64 ((p9 i).getD 5 0:Nat),i64 ((p9 i).getD 6 0:Nat)]:List V)[t]? =some (i64 ((p9 i).getD t 0:Nat)):=by
 rcases t with _|_|_|_|_|_|_|t;all_goals first|rfl|omega
def N9 (n:Nat) (f:Nat->Nat->UInt8) (K i k:Nat):Bs:=(List.range n).map fun p=>if p<i then f p K else if p=i then f p k else 0
theorem vJ (n f K i k):(N9 n f K i k).length=n:=by simp[N9]
theorem vI {n} {f:Nat->Nat->UInt8} {K i k} (h:i<n):(N9 n f K i k)[i]? =some (f i k):=by simp[N9,h]
theorem vL {n} {f:Nat->Nat->UInt8} {K i k} (h:i<n) {x:UInt8} (hx:x=f i (k+1)):(N9 n f K i k).set i x=N9 n f K i (k+1):=by
 subst hx;apply Zw (by simp[N9]);intro p h1 h2;simp only[N9,Z2,Zz,Zy];by_cases h:i=p
 ·subst h;simp
 ·simp[h,show ¬p=i from fun e=>h e.symm]
theorem vK {n} {f:Nat->Nat->UInt8} {K i} (h0:∀p,f p 0=0):N9 n f K i K=N9 n f K (i+1) 0:=by
 unfold N9;apply Zu;intro p hp;by_cases h1:p<i
 ·rw[if_pos h1,if_pos (by omega)]
 ·by_cases h2:p=i
  ·rw[if_neg h1,if_pos h2,if_pos (by omega)]
  ·rw[if_neg h1,if_neg h2,if_neg (by omega)];by_cases h3:p=i+1
   ·rw[if_pos h3,h0]
   ·rw[if_neg h3]
theorem vM {n} {f:Nat->Nat->UInt8} {K} (h0:∀p,f p 0=0):N9 n f K 0 0=Zo n 0:=by
 apply Zw (by simp[N9]);intro p h1 h2;simp only[N9,Zz,Zy,List.getElem_replicate];rw[if_neg (by omega)];split
 ·exact h0 _
 ·rfl
theorem vH {n} {f:Nat->Nat->UInt8} {K}:N9 n f K n 0=(List.range n).map fun p=>f p K:=by
 unfold N9;apply Zu;intro p hp;rw[if_pos (Z5.1 hp)]
def aX (b:Bs) (p k:Nat):UInt8:=(List.range k).foldl (fun s t=>s^^^b.getD ((p9 p).getD t 0) 0) 0
theorem vG (b p k):aX b p (k+1)=aX b p k^^^b.getD ((p9 p).getD k 0) 0:=by simp[aX,Zn]
def D4 (b:Bs):Bs:=(List.range 16).map fun p=>aX b p 7
theorem qQ (b):(D4 b).length=16:=by simp[D4]
theorem wA {va:List Value} {b:Bs} (ha:va=bv b) (hb:b.length=16):a7 C 146 [.z 16 va] [] (.ret (.t [.o 1 (.k 0) 0 16,bool true])) [.sc (bv (D4 b))]:=by
 subst ha;have h0:∀p,aX b p 0=0:=fun _=>rfl;refine LP.c ?_;refine⟨by decide,by decide,by decide,?_⟩;refine j4 (fun i=>⟨[(0,.z 16 (bv b)),(4,.o 1 (.k 0) 0 16),(13,i64 16),(14,i64 i)],[.sc (bv (N9 16 (aX b) 7 i 0))]⟩) 16 ⟨[.d 11 0],⟨rfl,rfl,rfl,rfl,tq⟩,⟨_,rfl,d8 (by rw[vM h0];exact P4 16)⟩,tq⟩ fun i hi=> ?_;refine b8 (fun h=> ?_) (fun h=> ?_)
 ·have a8:i<16:=(by omega);refine⟨[],_,_,_,_,Fp a8,rfl,rfl,?_⟩;refine j4 (fun k=>⟨[(0,.z 16 (bv b)),(4,.o 1 (.k 0) 0 16),(5,i64 i),(13,i64 16),(14,i64 i),(18,.a [i64 ((p9 i).getD 0 0:Nat),i64 ((p9 i).getD 1 0:Nat),i64 ((p9 i).getD 2 0:Nat),i64 ((p9 i).getD 3 0:Nat),i64 ((p9 i).getD 4 0:Nat),i64 ((p9 i).getD 5 0:Nat),i64 ((p9 i).getD 6 0:Nat)]),(19,i64 k)],[.sc (bv (N9 16 (aX b) 7 i k))]⟩) 7 ⟨[.k 0],⟨rfl,rfl,rfl,rfl,rfl,rfl,rfl,tq⟩,⟨_,rfl,rfl⟩,tq⟩ fun k hk=> ?_;refine b8 (fun h=> ?_) (fun h=> ?_)
  ·have hkl:k<7:=(by omega);have hs:=vE i a8 k hkl;refine⟨by omega,by omega,?_⟩;refine⟨_,by rw[Zb,Zd];exact Ej hkl,?_⟩;refine⟨by omega,by omega,?_⟩;refine⟨_,by rw[Zb,Zd,Ze];exact kL (vI a8),?_⟩;refine⟨by omega,by omega,?_⟩;refine⟨_,by rw[Zb];exact y7 (by omega),?_⟩;refine⟨by omega,by omega,by rw[f9,vJ];omega,?_⟩;refine⟨k+1,by omega,by omega,[.k 0],⟨rfl,rfl,rfl,rfl,rfl,rfl,c9 (by simp(disch:=omega)only[Za];omega),tq⟩,⟨_,rfl,d8 ?_⟩,tq⟩;rw[Zb,Zd,Ze,s6,K3,vL a8 (vG _ _ _).symm]
  ·obtain rfl:k=7:=(by omega);refine⟨i+1,by omega,by omega,[.k 0],⟨rfl,rfl,rfl,c9 (by simp(disch:=omega)only[Za];omega),tq⟩,⟨_,rfl,d8 ?_⟩,tq⟩;rw[vK h0]
 ·obtain rfl:i=16:=(by omega);refine⟨_,rfl,[.k 0],rfl,⟨_,rfl,d8 ?_⟩,tq⟩;rw[vH];rfl
def eU (k:Nat):Bs:=if k=0 then bM else if k=1 then bN else if k=2 then iJ else iK
theorem vu (k:Nat):(eU k).length=256:=by
 unfold eU
 repeat' split
 ·exact gJ
 ·exact gK
 ·exact qO
 ·exact qP
abbrev y6 (k:Nat):V:= .z 256 (bv (eU k))
abbrev gH:V:= .a [y6 0,y6 1,y6 2,y6 3]
theorem vq {k:Nat} (h:k<4):([y6 0,y6 1,y6 2,y6 3]:List V)[k]? =some (y6 k):=I9 (f:=y6) rfl rfl rfl rfl h
def C0 (k:Nat) (b:Bs) (n:Nat):Bs:=(List.range n).map fun i=>(eU ((i+2*(k-1))%4)).getD (b.getD i 0).toNat 0
theorem M5 (k b n):(C0 k b n).length=n:=by simp[C0]
theorem vy (k b n):C0 k b (n+1)=C0 k b n++[(eU ((n+2*(k-1))%4)).getD (b.getD n 0).toNat 0]:=by simp[C0,Zn]
theorem nr {va:List Value} {b:Bs} {k:Nat} (ha:va=bv b) (hb:b.length=16) (h1:1<=k) (h2:k<=2):a7 C 145 [gH,i64 k,.z 16 va] [] (.ret (.o 1 (.k 0) 0 16)) [.sc (bv (C0 k b 16))]:=by
 subst ha;refine LQ.c ?_;refine⟨by decide,by decide,by decide,?_⟩;refine j4 (fun i=>⟨[(1,i64 k),(3,.p (.k 1) 0),(7,.o 1 (.k 0) 0 16),(13,.z 16 (bv b)),(14,i64 16),(15,i64 i)],[.sc (bv (C0 k b i++Zo (16-i) 0)),.mx [y6 0,y6 1,y6 2,y6 3]]⟩) 16 ⟨[.d 12 0,.d 3 0],⟨rfl,rfl,rfl,rfl,rfl,rfl,tq⟩,⟨_,rfl,d8 (by show Zo 16 _=_;exact P4 16)⟩,⟨_,rfl,rfl⟩,tq⟩ fun i hi=> ?_;refine b8 (fun h=> ?_) (fun h=> ?_)
 ·have a8:i<16:=(by omega);have e1:(I6.wrap ((i:Int)+I6.wrap (2*I6.wrap ((k:Int)-1)))).tmod 4=(((i+2*(k-1))%4:Nat):Int):=by
   rw[Za ((k:Int)-1) (by omega),Za (2*((k:Int)-1)) (by omega),Za _ (by omega),Zg (by omega)];omega
  have e2:=Zr (i+2*(k-1)) (show 4>0 by decide);refine⟨by omega,by omega,?_⟩;refine⟨_,by rw[Zb];exact y7 (by omega),?_⟩;have hx:=(b.getD i 0).toNat_lt;refine⟨by decide,by rw[e1];omega,by rw[e1];omega,?_⟩;refine⟨_,by rw[e1,Zb,Zd,Ze];exact vq e2,?_⟩;refine⟨by omega,by show _<((256:Nat):Int);omega,?_⟩;refine⟨_,by rw[Zb];exact y7 (by rw[vu];omega),?_⟩;refine⟨by omega,by omega,by rw[f9,Zm,M5,Zt];omega,?_⟩;refine⟨i+1,by omega,by omega,[.k 0,.k 1],⟨rfl,rfl,rfl,rfl,rfl,c9 (by simp(disch:=omega)only[Za];omega),tq⟩,⟨_,rfl,d8 ?_⟩,⟨_,rfl,rfl⟩,tq⟩;rw[Zb,Zd,Ze,lW (M5 _ _ _) a8,vy]
 ·obtain rfl:i=16:=(by omega);refine⟨_,rfl,[.k 0],rfl,⟨_,rfl,d8 ?_⟩,tq⟩;simp
def I1 (k:Nat) (b key:Bs):Bs:=D4 (C0 k (f6 b key) 16)
theorem z6 (k b key):(I1 k b key).length=16:=qQ _
theorem cI {va vk:List Value} {b key:Bs} {k:Nat} (ha:va=bv b) (hk:vk=bv key) (hb:b.length=16) (hkl:key.length=16) (h1:1<=k) (h2:k<=2):a7 C 143 [gH,i64 k,.z 16 va,.z 16 vk] [] (.ret (.o 1 (.k 0) 0 16)) [.sc (bv (I1 k b key))]:=by
 refine LR.c ?_;refine⟨[],_,_,_,_,H6 ha hk hb hkl (by decide),rfl,rfl,?_⟩;refine⟨_,rfl,rfl,?_⟩;have hx:(f6 b key).length=16:=t9 hb hkl;refine⟨[],_,_,_,_,nr (b:=f6 b key) (k:=k) (b9 hx) hx h1 h2,rfl,rfl,?_⟩;have hl:=M5 k (f6 b key) 16;refine⟨[],_,_,_,_,wA (b:=C0 k (f6 b key) 16) (b9 hl) hl,rfl,rfl,?_⟩;exact⟨_,rfl,[.d 20 0],rfl,⟨_,rfl,rfl⟩,tq⟩
def Ec:List (Bs):=[[81,124,193,183,39,34,10,148,254,19,171,232,250,154,110,224],[109,177,74,204,158,33,200,32,255,40,177,213,239,93,226,176],[219,146,55,29,33,38,233,112,3,36,151,117,4,232,201,14]]
def aC (i:Nat):Bs:=Ec.getD i []
theorem D3:∀i,i<3->(aC i).length=16:=by decide
abbrev M3 (i:Nat):V:= .z 16 (bv (aC i))
def a3 (i:Nat):B:=match i with
 |0=> .sc [.slice none 0 0,.slice none 0 0,.slice none 0 0]
 |1=> .mx [M3 0,g8,g8]
 |2=> .mx [M3 0,M3 1,g8]
 |_=> .mx [M3 0,M3 1,M3 2]
theorem rC:a7 C 204 [] [] (.ret (.a [M3 0,M3 1,M3 2])) []:=by
 refine LT.c ?_;refine j4 (fun i=>⟨[(0,.p (.k 0) 0),(6,.a [u64 5871781006564002452,u64 18308165927316385504,u64 7904181063698728992,u64 18386141011142107824,u64 15821769039155751280,u64 226472410124699918]),(7,i64 i)],[a3 i]⟩) 3 ⟨[.d 0 0],⟨rfl,rfl,rfl,tq⟩,⟨_,rfl,rfl⟩,tq⟩ fun i hi=> ?_;rcases i with _|_|_|_|i
 ·refine⟨by decide,by decide,_,rfl,rfl,Zc _,?_⟩;refine⟨by decide,by decide,_,rfl,?_⟩;refine⟨[],_,_,_,_,je (v:=5871781006564002452) rfl,rfl,rfl,?_⟩;refine⟨by decide,by decide,_,rfl,?_⟩;refine⟨[],_,_,_,_,je (v:=18308165927316385504) rfl,rfl,rfl,?_⟩;refine⟨by decide,by decide,by decide,?_⟩;refine⟨by decide,by decide,by decide,?_⟩;refine⟨1,by decide,by decide,[.k 0],⟨rfl,rfl,rfl,tq⟩,⟨_,rfl,?_⟩,tq⟩;have he:sub (sub (bv (m5 5871781006564002452 8)) 0 8++sub (bv (m5 18308165927316385504 8)) 0 8) 0 16=bv (aC 0):=by
   rw[b9 (s3 _ _),b9 (s3 _ _),z5,show m5 5871781006564002452 8++m5 18308165927316385504 8=aC 0 by decide +kernel,b9 (D3 0 (by decide))]
  show B.mx [V.z 16 (sub (sub (bv (m5 5871781006564002452 8)) 0 8++sub (bv (m5 18308165927316385504 8)) 0 8) 0 16),g8,g8]=_;rw[he];rfl
 ·refine⟨by decide,by decide,_,rfl,rfl,Zc _,?_⟩;refine⟨by decide,by decide,_,rfl,?_⟩;refine⟨[],_,_,_,_,je (v:=7904181063698728992) rfl,rfl,rfl,?_⟩;refine⟨by decide,by decide,_,rfl,?_⟩;refine⟨[],_,_,_,_,je (v:=18386141011142107824) rfl,rfl,rfl,?_⟩;refine⟨by decide,by decide,by decide,?_⟩;refine⟨by decide,by decide,by decide,?_⟩;refine⟨2,by decide,by decide,[.k 0],⟨rfl,rfl,rfl,tq⟩,⟨_,rfl,?_⟩,tq⟩;have he:sub (sub (bv (m5 7904181063698728992 8)) 0 8++sub (bv (m5 18386141011142107824 8)) 0 8) 0 16=bv (aC 1):=by
   rw[b9 (s3 _ _),b9 (s3 _ _),z5,show m5 7904181063698728992 8++m5 18386141011142107824 8=aC 1 by decide +kernel,b9 (D3 1 (by decide))]
  show B.mx [M3 0,V.z 16 (sub (sub (bv (m5 7904181063698728992 8)) 0 8++sub (bv (m5 18386141011142107824 8)) 0 8) 0 16),g8]=_;rw[he];rfl
 ·refine⟨by decide,by decide,_,rfl,rfl,Zc _,?_⟩;refine⟨by decide,by decide,_,rfl,?_⟩;refine⟨[],_,_,_,_,je (v:=15821769039155751280) rfl,rfl,rfl,?_⟩;refine⟨by decide,by decide,_,rfl,?_⟩;refine⟨[],_,_,_,_,je (v:=226472410124699918) rfl,rfl,rfl,?_⟩;refine⟨by decide,by decide,by decide,?_⟩;refine⟨by decide,by decide,by decide,?_⟩;refine⟨3,by decide,by decide,[.k 0],⟨rfl,rfl,rfl,tq⟩,⟨_,rfl,?_⟩,tq⟩;have he:sub (sub (bv (m5 15821769039155751280 8)) 0 8++sub (bv (m5 226472410124699918 8)) 0 8) 0 16=bv (aC 2):=by
   rw[b9 (s3 _ _),b9 (s3 _ _),z5,show m5 15821769039155751280 8++m5 226472410124699918 8=aC 2 by decide +kernel,b9 (D3 2 (by decide))]
  show B.mx [M3 0,M3 1,V.z 16 (sub (sub (bv (m5 15821769039155751280 8)) 0 8++sub (bv (m5 226472410124699918 8)) 0 8) 0 16)]=_;rw[he];rfl
 ·refine⟨_,rfl,rfl,Zc _,_,rfl,rfl,?_⟩;exact⟨_,rfl,[],rfl,tq⟩
 ·omega
def bL (key:Bs):Bs:=key.drop 16++Zo (32-key.length) 0
def d9 (q:Nat) (key:Bs):Nat->Bs×Bs
 |0=>(key.take 16,bL key)
 |i+1=>(f6 (I1 (1+i%2) (d9 q key i).1 (aC ((i+q)%3))) (d9 q key i).2,(d9 q key i).1)
theorem z4 (q:Nat) {key:Bs} (h:16<=key.length) (h2:key.length<=32):∀i,(d9 q key i).1.length=16/\(d9 q key i).2.length=16
 |0=>by
  constructor
  ·show(key.take 16).length=16;rw[List.length_take];omega
  ·show(bL key).length=16;rw[bL,Zm,List.length_drop,Zt];omega
 |i+1=>⟨t9 (z6 _ _ _) (z4 q h h2 i).2,(z4 q h h2 i).1⟩
def R6 (j:Nat):Int:=[-19, -31,61,31,19].getD j 0
def o6 (q:Nat) (key:Bs) (i:Nat):Bs:=f6 (d9 q key (i%4)).1 (G7 (d9 q key ((i+1)%4)).1 (R6 (i/4)%128).toNat)
def gI (q:Nat) (key:Bs) (n:Nat):List (Bs):=(List.range n).map (o6 q key)
theorem iL (q key n):gI q key (n+1)=gI q key n++[o6 q key n]:=by simp[gI,Zn]
theorem aW (q key n):(gI q key n).length=n:=by simp[gI]
abbrev k8 (l:Bs):V:= .z 16 (bv l)
def k9 (q:Nat) (key:Bs) (n:Nat):List V:=(gI q key n).map k8
theorem aV (H a6) (q key n):(k9 q key n).map (l7 H a6 6)=k9 q key n:=by
 unfold k9;rw[List.map_map];exact Zu fun _ _=>rfl
theorem qN {j:Nat} (h:j<5):([i64 (-19),i64 (-31),i64 61,i64 31,i64 19]:List V)[j]? =some (i64 (R6 j)):=by
 rcases j with _|_|_|_|_|j;all_goals first|rfl|omega
theorem iI {j:Nat} (h:j<5): -9223372036854775808<=R6 j/\R6 j<=9223372036854775807:=by
 rcases j with _|_|_|_|_|j;all_goals first|decide|omega
theorem sn {n:Nat} {va:List Value} {v:Bs} (ha:va=bv v) (hv:v.length=n) (h:n<=16):sub ((Zo 16 (Value.int .u8 0)).take 0++va.take (min n 16)++(Zo 16 (Value.int .u8 0)).drop (0+min n 16)) 0 16=bv (v++Zo (16-n) 0):=by
 subst ha;rw[Nat.min_eq_left h,List.take_zero,List.nil_append,Ze,List.drop_replicate,Z4 (by rw[f9];omega),P4,z5,b9 (by rw[Zm,Zt];omega)]
theorem sq {n:Nat} {v:Bs} (hv:v.length=n) (h:16<=n):sub ((Zo 16 (Value.int .u8 0)).take 0++(bv v).take (min n 16)++(Zo 16 (Value.int .u8 0)).drop (0+min n 16)) 0 16=bv (v.take 16):=by
 have e:(bv v).take 16=bv (v.take 16):=by simp[bv,List.map_take]
 rw[Nat.min_eq_right h,List.take_zero,List.nil_append,Ze,List.drop_replicate,Nat.sub_self,List.replicate_zero,List.append_nil,e,b9 (by rw[List.length_take];omega)]
def qR (q:Nat) (key:Bs) (i:Nat):B:=match i with
 |0=> .mx [k8 (d9 q key 0).1,g8,g8,g8]
 |1=> .mx [k8 (d9 q key 0).1,k8 (d9 q key 1).1,g8,g8]
 |2=> .mx [k8 (d9 q key 0).1,k8 (d9 q key 1).1,k8 (d9 q key 2).1,g8]
 |_=> .mx [k8 (d9 q key 0).1,k8 (d9 q key 1).1,k8 (d9 q key 2).1,k8 (d9 q key 3).1]
theorem Fd {va:List Value} {key:Bs} (ha:va=bv key) (hk:key.length=16):a7 C 142 [gH,.z 16 va] [] (.ret (.o 1 (.k 0) 0 13)) [.mx (k9 0 key 13)]:=by
 subst ha;refine sG.c ?_;refine Y7 0 rfl 13 (fun r=>⟨[(5,i64 0),(7,.p (.k 1) 0),(10,.o 1 (.k 0) 0 r),(11,.p (.k 2) 0),(12,i64 r)],[.mx (k9 0 key r),.mx [k8 (d9 0 key 0).1,k8 (d9 0 key 1).1,k8 (d9 0 key 2).1,k8 (d9 0 key 3).1],.mx [i64 (-19),i64 (-31),i64 61,i64 31,i64 19]]⟩) ?_ fun r hr=> ?_
 ·refine⟨by decide,?_⟩;refine⟨[],_,_,_,_,rC,rfl,rfl,?_⟩;refine⟨Zc _,by decide,by decide,by decide,?_⟩;refine⟨Zc _,?_⟩;refine⟨by decide,by decide,_,rfl,?_⟩;refine⟨by rw[f9,hk],by decide,?_⟩;refine⟨by decide,by decide,by decide,?_⟩;refine⟨by decide,by omega,Zc _,Zc _,?_⟩;refine⟨by rw[k5,f9,j5,hk];rfl,by decide,?_⟩;refine j4 (fun i=>⟨[(2,.p (.k 0) 0),(5,i64 0),(6,.p (.k 1) 0),(7,.p (.k 2) 0),(8,k8 (d9 0 key i).2),(33,i64 i)],[.mx [y6 0,y6 1,y6 2,y6 3],.mx [M3 0,M3 1,M3 2],qR 0 key i]⟩) 3 ⟨[.d 2 0,.d 6 0,.d 7 0],⟨rfl,rfl,rfl,rfl,?_,rfl,tq⟩,⟨_,rfl,rfl⟩,⟨_,rfl,rfl⟩,⟨_,rfl,?_⟩,tq⟩ fun i hi=> ?_
  ·show V.z 16 _=V.z 16 _;refine congrArg (V.z 16) (Eq.trans (sn (n:=0) (v:=sub key 16 0) (k5 _ _ _) (by rw[j5];omega) (by decide)) (congrArg bv ?_));show sub key 16 0++_=bL key;rw[bL,hk,G6 _ _ _ (by omega)]
  ·exact congrArg (fun z=>B.mx [V.z 16 z,g8,g8,g8]) (sq hk (by decide))
  rcases i with _|_|_|_|i
  ·refine⟨_,rfl,rfl,by decide,by decide,by decide,_,rfl,by decide,by decide,by decide,_,rfl,?_⟩;refine⟨[],_,_,_,_,cI (k:=1) (b:=(d9 0 key 0).1) (key:=aC 0) rfl rfl (z4 0 (by omega) (by omega) 0).1 (D3 0 (by decide)) (by decide) (by decide),rfl,rfl,?_⟩;refine⟨by decide,by decide,Zf rfl,?_⟩;refine⟨by decide,by decide,_,rfl,?_⟩;refine⟨[],_,_,_,_,H6 (a:=I1 1 (d9 0 key 0).1 (aC 0)) (b:=(d9 0 key 0).2) (b9 (z6 _ _ _)) rfl (z6 _ _ _) (z4 0 (by omega) (by omega) 0).2 (by decide),rfl,rfl,?_⟩;refine⟨by decide,by decide,Zf rfl,?_⟩;refine⟨by decide,by decide,_,rfl,?_⟩;refine⟨1,by decide,by decide,[.k 0,.k 1,.k 2],⟨rfl,rfl,rfl,rfl,rfl,rfl,tq⟩,⟨_,rfl,rfl⟩,⟨_,rfl,rfl⟩,⟨_,rfl,?_⟩,tq⟩;show B.mx [k8 (d9 0 key 0).1,V.z 16 (sub (bv (d9 0 key 1).1) 0 16),g8,g8]=_;rw[b9 (z4 0 (by omega) (by omega) 1).1];rfl
  ·refine⟨_,rfl,rfl,by decide,by decide,by decide,_,rfl,by decide,by decide,by decide,_,rfl,?_⟩;refine⟨[],_,_,_,_,cI (k:=2) (b:=(d9 0 key 1).1) (key:=aC 1) rfl rfl (z4 0 (by omega) (by omega) 1).1 (D3 1 (by decide)) (by decide) (by decide),rfl,rfl,?_⟩;refine⟨by decide,by decide,Zf rfl,?_⟩;refine⟨by decide,by decide,_,rfl,?_⟩;refine⟨[],_,_,_,_,H6 (a:=I1 2 (d9 0 key 1).1 (aC 1)) (b:=(d9 0 key 1).2) (b9 (z6 _ _ _)) rfl (z6 _ _ _) (z4 0 (by omega) (by omega) 1).2 (by decide),rfl,rfl,?_⟩;refine⟨by decide,by decide,Zf rfl,?_⟩;refine⟨by decide,by decide,_,rfl,?_⟩;refine⟨2,by decide,by decide,[.k 0,.k 1,.k 2],⟨rfl,rfl,rfl,rfl,rfl,rfl,tq⟩,⟨_,rfl,rfl⟩,⟨_,rfl,rfl⟩,⟨_,rfl,?_⟩,tq⟩;show B.mx [k8 (d9 0 key 0).1,k8 (d9 0 key 1).1,V.z 16 (sub (bv (d9 0 key 2).1) 0 16),g8]=_;rw[b9 (z4 0 (by omega) (by omega) 2).1];rfl
  ·refine⟨_,rfl,rfl,by decide,by decide,by decide,_,rfl,by decide,by decide,by decide,_,rfl,?_⟩;refine⟨[],_,_,_,_,cI (k:=1) (b:=(d9 0 key 2).1) (key:=aC 2) rfl rfl (z4 0 (by omega) (by omega) 2).1 (D3 2 (by decide)) (by decide) (by decide),rfl,rfl,?_⟩;refine⟨by decide,by decide,Zf rfl,?_⟩;refine⟨by decide,by decide,_,rfl,?_⟩;refine⟨[],_,_,_,_,H6 (a:=I1 1 (d9 0 key 2).1 (aC 2)) (b:=(d9 0 key 2).2) (b9 (z6 _ _ _)) rfl (z6 _ _ _) (z4 0 (by omega) (by omega) 2).2 (by decide),rfl,rfl,?_⟩;refine⟨by decide,by decide,Zf rfl,?_⟩;refine⟨by decide,by decide,_,rfl,?_⟩;refine⟨3,by decide,by decide,[.k 0,.k 1,.k 2],⟨rfl,rfl,rfl,rfl,rfl,rfl,tq⟩,⟨_,rfl,rfl⟩,⟨_,rfl,rfl⟩,⟨_,rfl,?_⟩,tq⟩;show B.mx [k8 (d9 0 key 0).1,k8 (d9 0 key 1).1,k8 (d9 0 key 2).1,V.z 16 (sub (bv (d9 0 key 3).1) 0 16)]=_;rw[b9 (z4 0 (by omega) (by omega) 3).1];rfl
  ·refine⟨Zc _,[(10,1,.mx [])],0,by decide,[.d 900000 0,.k 2,.d 11 0],⟨rfl,rfl,rfl,rfl,rfl,tq⟩,⟨_,rfl,rfl⟩,⟨_,rfl,rfl⟩,⟨_,rfl,rfl⟩,tq⟩
  ·omega
 ·have e1:((r:Int)).tmod 4=((r%4:Nat):Int):=by rw[Zg (by omega)];omega
  have e2:(I6.wrap ((r:Int)+1)).tmod 4=(((r+1)%4:Nat):Int):=by
   rw[Za _ (by omega),Zg (by omega)];omega
  have e3:I6.wrap (((r:Int)).tdiv 4)=((r/4:Nat):Int):=by
   rw[Zi (by omega),Za _ (by omega)];omega
  have m1:=Zr r (show 4>0 by decide);have m2:=Zr (r+1) (show 4>0 by decide);have hW:∀k,(d9 0 key k).1.length=16:=fun k=>(z4 0 (by omega) (by omega) k).1;refine⟨by decide,by decide,by rw[e1];omega,by rw[e1];omega,?_⟩;refine⟨_,by rw[e1,Zb,Zd,Ze];exact I9 (f:=fun k=>k8 (d9 0 key k).1) rfl rfl rfl rfl m1,?_⟩;refine⟨by rw[e2];omega,by rw[e2];omega,?_⟩;refine⟨_,by rw[e2,Zb,Zd,Ze];exact I9 (f:=fun k=>k8 (d9 0 key k).1) rfl rfl rfl rfl m2,?_⟩;refine⟨by decide,by rw[e3];omega,by rw[e3];omega,?_⟩;refine⟨_,by rw[e3,Zb,Zd,Ze];exact qN (by omega),?_⟩;refine⟨[],_,_,_,_,nQ (b:=(d9 0 key ((r+1)%4)).1) (n:=R6 (r/4)) rfl (hW _) (by decide) (by decide) (iI (by omega)),rfl,rfl,?_⟩;refine⟨[],_,_,_,_,H6 (a:=(d9 0 key (r%4)).1) (b:=G7 (d9 0 key ((r+1)%4)).1 (R6 (r/4)%128).toNat) rfl (b9 (by rw[E5,hW])) (hW _) (by rw[E5,hW]) (by decide),rfl,rfl,?_⟩;refine⟨Zc _,by omega,by rw[k9,Zq,aW];omega,?_⟩;have hs0:sub (k9 0 key r) 0 (r*1)=k9 0 key r:=by rw[Zd,E0 (by rw[k9,Zq,aW])]
  have hst:k9 0 key r++[V.z 16 (sub (bv (o6 0 key r)) 0 16)]=k9 0 key (r+1):=by
   rw[b9 (by rw[o6];exact t9 (hW _) (by rw[E5,hW])),k9,k9,iL,Zl];rfl
  have he:I6.wrap (13+I6.wrap (2*0))=13:=by decide
  refine b8 (fun h=> ?_) (fun h=> ?_)
  ·rw[he,Za _ (by omega)]at h;refine⟨rfl,r+1,by omega,by omega,[.d 93 0,.k 1,.k 2],⟨rfl,rfl,rfl,rfl,c9 (by simp(disch:=omega)only[Za];omega),tq⟩,⟨_,rfl,?_⟩,⟨_,rfl,rfl⟩,⟨_,rfl,rfl⟩,tq⟩;show B.mx (Zv (l7 _ _ 6) (sub (k9 0 key r) 0 (r*1)++[V.o _ _ _ _]))=_;rw[Zl,hs0,aV];exact congrArg B.mx hst
  ·rw[he,Za _ (by omega)]at h;obtain rfl:r=12:=(by omega);refine⟨_,rfl,[.d 93 0],rfl,⟨_,rfl,?_⟩,tq⟩;show B.mx (Zv (l7 _ _ 6) (sub (k9 0 key 12) 0 (12*1)++[V.o _ _ _ _]))=_;rw[Zl,hs0,aV];exact congrArg B.mx hst
theorem Fe {va:List Value} {key:Bs} (ha:va=bv key) (hk:key.length=24):a7 C 142 [gH,.z 24 va] [] (.ret (.o 1 (.k 0) 0 15)) [.mx (k9 1 key 15)]:=by
 subst ha;refine sG.c ?_;refine Y7 0 rfl 15 (fun r=>⟨[(5,i64 1),(7,.p (.k 1) 0),(10,.o 1 (.k 0) 0 r),(11,.p (.k 2) 0),(12,i64 r)],[.mx (k9 1 key r),.mx [k8 (d9 1 key 0).1,k8 (d9 1 key 1).1,k8 (d9 1 key 2).1,k8 (d9 1 key 3).1],.mx [i64 (-19),i64 (-31),i64 61,i64 31,i64 19]]⟩) ?_ fun r hr=> ?_
 ·refine⟨by decide,?_⟩;refine⟨[],_,_,_,_,rC,rfl,rfl,?_⟩;refine⟨Zc _,by decide,by decide,by decide,?_⟩;refine⟨Zc _,?_⟩;refine⟨by decide,by decide,_,rfl,?_⟩;refine⟨by rw[f9,hk],by decide,?_⟩;refine⟨by decide,by decide,by decide,?_⟩;refine⟨by decide,by omega,Zc _,Zc _,?_⟩;refine⟨by rw[k5,f9,j5,hk];rfl,by decide,?_⟩;refine j4 (fun i=>⟨[(2,.p (.k 0) 0),(5,i64 1),(6,.p (.k 1) 0),(7,.p (.k 2) 0),(8,k8 (d9 1 key i).2),(33,i64 i)],[.mx [y6 0,y6 1,y6 2,y6 3],.mx [M3 0,M3 1,M3 2],qR 1 key i]⟩) 3 ⟨[.d 2 0,.d 6 0,.d 7 0],⟨rfl,rfl,rfl,rfl,?_,rfl,tq⟩,⟨_,rfl,rfl⟩,⟨_,rfl,rfl⟩,⟨_,rfl,?_⟩,tq⟩ fun i hi=> ?_
  ·show V.z 16 _=V.z 16 _;refine congrArg (V.z 16) (Eq.trans (sn (n:=8) (v:=sub key 16 8) (k5 _ _ _) (by rw[j5];omega) (by decide)) (congrArg bv ?_));show sub key 16 8++_=bL key;rw[bL,hk,G6 _ _ _ (by omega)]
  ·exact congrArg (fun z=>B.mx [V.z 16 z,g8,g8,g8]) (sq hk (by decide))
  rcases i with _|_|_|_|i
  ·refine⟨_,rfl,rfl,by decide,by decide,by decide,_,rfl,by decide,by decide,by decide,_,rfl,?_⟩;refine⟨[],_,_,_,_,cI (k:=1) (b:=(d9 1 key 0).1) (key:=aC 1) rfl rfl (z4 1 (by omega) (by omega) 0).1 (D3 1 (by decide)) (by decide) (by decide),rfl,rfl,?_⟩;refine⟨by decide,by decide,Zf rfl,?_⟩;refine⟨by decide,by decide,_,rfl,?_⟩;refine⟨[],_,_,_,_,H6 (a:=I1 1 (d9 1 key 0).1 (aC 1)) (b:=(d9 1 key 0).2) (b9 (z6 _ _ _)) rfl (z6 _ _ _) (z4 1 (by omega) (by omega) 0).2 (by decide),rfl,rfl,?_⟩;refine⟨by decide,by decide,Zf rfl,?_⟩;refine⟨by decide,by decide,_,rfl,?_⟩;refine⟨1,by decide,by decide,[.k 0,.k 1,.k 2],⟨rfl,rfl,rfl,rfl,rfl,rfl,tq⟩,⟨_,rfl,rfl⟩,⟨_,rfl,rfl⟩,⟨_,rfl,?_⟩,tq⟩;show B.mx [k8 (d9 1 key 0).1,V.z 16 (sub (bv (d9 1 key 1).1) 0 16),g8,g8]=_;rw[b9 (z4 1 (by omega) (by omega) 1).1];rfl
  ·refine⟨_,rfl,rfl,by decide,by decide,by decide,_,rfl,by decide,by decide,by decide,_,rfl,?_⟩;refine⟨[],_,_,_,_,cI (k:=2) (b:=(d9 1 key 1).1) (key:=aC 2) rfl rfl (z4 1 (by omega) (by omega) 1).1 (D3 2 (by decide)) (by decide) (by decide),rfl,rfl,?_⟩;refine⟨by decide,by decide,Zf rfl,?_⟩;refine⟨by decide,by decide,_,rfl,?_⟩;refine⟨[],_,_,_,_,H6 (a:=I1 2 (d9 1 key 1).1 (aC 2)) (b:=(d9 1 key 1).2) (b9 (z6 _ _ _)) rfl (z6 _ _ _) (z4 1 (by omega) (by omega) 1).2 (by decide),rfl,rfl,?_⟩;refine⟨by decide,by decide,Zf rfl,?_⟩;refine⟨by decide,by decide,_,rfl,?_⟩;refine⟨2,by decide,by decide,[.k 0,.k 1,.k 2],⟨rfl,rfl,rfl,rfl,rfl,rfl,tq⟩,⟨_,rfl,rfl⟩,⟨_,rfl,rfl⟩,⟨_,rfl,?_⟩,tq⟩;show B.mx [k8 (d9 1 key 0).1,k8 (d9 1 key 1).1,V.z 16 (sub (bv (d9 1 key 2).1) 0 16),g8]=_;rw[b9 (z4 1 (by omega) (by omega) 2).1];rfl
  ·refine⟨_,rfl,rfl,by decide,by decide,by decide,_,rfl,by decide,by decide,by decide,_,rfl,?_⟩;refine⟨[],_,_,_,_,cI (k:=1) (b:=(d9 1 key 2).1) (key:=aC 0) rfl rfl (z4 1 (by omega) (by omega) 2).1 (D3 0 (by decide)) (by decide) (by decide),rfl,rfl,?_⟩;refine⟨by decide,by decide,Zf rfl,?_⟩;refine⟨by decide,by decide,_,rfl,?_⟩;refine⟨[],_,_,_,_,H6 (a:=I1 1 (d9 1 key 2).1 (aC 0)) (b:=(d9 1 key 2).2) (b9 (z6 _ _ _)) rfl (z6 _ _ _) (z4 1 (by omega) (by omega) 2).2 (by decide),rfl,rfl,?_⟩;refine⟨by decide,by decide,Zf rfl,?_⟩;refine⟨by decide,by decide,_,rfl,?_⟩;refine⟨3,by decide,by decide,[.k 0,.k 1,.k 2],⟨rfl,rfl,rfl,rfl,rfl,rfl,tq⟩,⟨_,rfl,rfl⟩,⟨_,rfl,rfl⟩,⟨_,rfl,?_⟩,tq⟩;show B.mx [k8 (d9 1 key 0).1,k8 (d9 1 key 1).1,k8 (d9 1 key 2).1,V.z 16 (sub (bv (d9 1 key 3).1) 0 16)]=_;rw[b9 (z4 1 (by omega) (by omega) 3).1];rfl
  ·refine⟨Zc _,[(10,1,.mx [])],0,by decide,[.d 900000 0,.k 2,.d 11 0],⟨rfl,rfl,rfl,rfl,rfl,tq⟩,⟨_,rfl,rfl⟩,⟨_,rfl,rfl⟩,⟨_,rfl,rfl⟩,tq⟩
  ·omega
 ·have e1:((r:Int)).tmod 4=((r%4:Nat):Int):=by rw[Zg (by omega)];omega
  have e2:(I6.wrap ((r:Int)+1)).tmod 4=(((r+1)%4:Nat):Int):=by
   rw[Za _ (by omega),Zg (by omega)];omega
  have e3:I6.wrap (((r:Int)).tdiv 4)=((r/4:Nat):Int):=by
   rw[Zi (by omega),Za _ (by omega)];omega
  have m1:=Zr r (show 4>0 by decide);have m2:=Zr (r+1) (show 4>0 by decide);have hW:∀k,(d9 1 key k).1.length=16:=fun k=>(z4 1 (by omega) (by omega) k).1;refine⟨by decide,by decide,by rw[e1];omega,by rw[e1];omega,?_⟩;refine⟨_,by rw[e1,Zb,Zd,Ze];exact I9 (f:=fun k=>k8 (d9 1 key k).1) rfl rfl rfl rfl m1,?_⟩;refine⟨by rw[e2];omega,by rw[e2];omega,?_⟩;refine⟨_,by rw[e2,Zb,Zd,Ze];exact I9 (f:=fun k=>k8 (d9 1 key k).1) rfl rfl rfl rfl m2,?_⟩;refine⟨by decide,by rw[e3];omega,by rw[e3];omega,?_⟩;refine⟨_,by rw[e3,Zb,Zd,Ze];exact qN (by omega),?_⟩;refine⟨[],_,_,_,_,nQ (b:=(d9 1 key ((r+1)%4)).1) (n:=R6 (r/4)) rfl (hW _) (by decide) (by decide) (iI (by omega)),rfl,rfl,?_⟩;refine⟨[],_,_,_,_,H6 (a:=(d9 1 key (r%4)).1) (b:=G7 (d9 1 key ((r+1)%4)).1 (R6 (r/4)%128).toNat) rfl (b9 (by rw[E5,hW])) (hW _) (by rw[E5,hW]) (by decide),rfl,rfl,?_⟩;refine⟨Zc _,by omega,by rw[k9,Zq,aW];omega,?_⟩;have hs0:sub (k9 1 key r) 0 (r*1)=k9 1 key r:=by rw[Zd,E0 (by rw[k9,Zq,aW])]
  have hst:k9 1 key r++[V.z 16 (sub (bv (o6 1 key r)) 0 16)]=k9 1 key (r+1):=by
   rw[b9 (by rw[o6];exact t9 (hW _) (by rw[E5,hW])),k9,k9,iL,Zl];rfl
  have he:I6.wrap (13+I6.wrap (2*1))=15:=by decide
  refine b8 (fun h=> ?_) (fun h=> ?_)
  ·rw[he,Za _ (by omega)]at h;refine⟨rfl,r+1,by omega,by omega,[.d 93 0,.k 1,.k 2],⟨rfl,rfl,rfl,rfl,c9 (by simp(disch:=omega)only[Za];omega),tq⟩,⟨_,rfl,?_⟩,⟨_,rfl,rfl⟩,⟨_,rfl,rfl⟩,tq⟩;show B.mx (Zv (l7 _ _ 6) (sub (k9 1 key r) 0 (r*1)++[V.o _ _ _ _]))=_;rw[Zl,hs0,aV];exact congrArg B.mx hst
  ·rw[he,Za _ (by omega)]at h;obtain rfl:r=14:=(by omega);refine⟨_,rfl,[.d 93 0],rfl,⟨_,rfl,?_⟩,tq⟩;show B.mx (Zv (l7 _ _ 6) (sub (k9 1 key 14) 0 (14*1)++[V.o _ _ _ _]))=_;rw[Zl,hs0,aV];exact congrArg B.mx hst
theorem Ff {va:List Value} {key:Bs} (ha:va=bv key) (hk:key.length=32):a7 C 142 [gH,.z 32 va] [] (.ret (.o 1 (.k 0) 0 17)) [.mx (k9 2 key 17)]:=by
 subst ha;refine sG.c ?_;refine Y7 0 rfl 17 (fun r=>⟨[(5,i64 2),(7,.p (.k 1) 0),(10,.o 1 (.k 0) 0 r),(11,.p (.k 2) 0),(12,i64 r)],[.mx (k9 2 key r),.mx [k8 (d9 2 key 0).1,k8 (d9 2 key 1).1,k8 (d9 2 key 2).1,k8 (d9 2 key 3).1],.mx [i64 (-19),i64 (-31),i64 61,i64 31,i64 19]]⟩) ?_ fun r hr=> ?_
 ·refine⟨by decide,?_⟩;refine⟨[],_,_,_,_,rC,rfl,rfl,?_⟩;refine⟨Zc _,by decide,by decide,by decide,?_⟩;refine⟨Zc _,?_⟩;refine⟨by decide,by decide,_,rfl,?_⟩;refine⟨by rw[f9,hk],by decide,?_⟩;refine⟨by decide,by decide,by decide,?_⟩;refine⟨by decide,by omega,Zc _,Zc _,?_⟩;refine⟨by rw[k5,f9,j5,hk];rfl,by decide,?_⟩;refine j4 (fun i=>⟨[(2,.p (.k 0) 0),(5,i64 2),(6,.p (.k 1) 0),(7,.p (.k 2) 0),(8,k8 (d9 2 key i).2),(33,i64 i)],[.mx [y6 0,y6 1,y6 2,y6 3],.mx [M3 0,M3 1,M3 2],qR 2 key i]⟩) 3 ⟨[.d 2 0,.d 6 0,.d 7 0],⟨rfl,rfl,rfl,rfl,?_,rfl,tq⟩,⟨_,rfl,rfl⟩,⟨_,rfl,rfl⟩,⟨_,rfl,?_⟩,tq⟩ fun i hi=> ?_
  ·show V.z 16 _=V.z 16 _;refine congrArg (V.z 16) (Eq.trans (sn (n:=16) (v:=sub key 16 16) (k5 _ _ _) (by rw[j5];omega) (by decide)) (congrArg bv ?_));show sub key 16 16++_=bL key;rw[bL,hk,G6 _ _ _ (by omega)]
  ·exact congrArg (fun z=>B.mx [V.z 16 z,g8,g8,g8]) (sq hk (by decide))
  rcases i with _|_|_|_|i
  ·refine⟨_,rfl,rfl,by decide,by decide,by decide,_,rfl,by decide,by decide,by decide,_,rfl,?_⟩;refine⟨[],_,_,_,_,cI (k:=1) (b:=(d9 2 key 0).1) (key:=aC 2) rfl rfl (z4 2 (by omega) (by omega) 0).1 (D3 2 (by decide)) (by decide) (by decide),rfl,rfl,?_⟩;refine⟨by decide,by decide,Zf rfl,?_⟩;refine⟨by decide,by decide,_,rfl,?_⟩;refine⟨[],_,_,_,_,H6 (a:=I1 1 (d9 2 key 0).1 (aC 2)) (b:=(d9 2 key 0).2) (b9 (z6 _ _ _)) rfl (z6 _ _ _) (z4 2 (by omega) (by omega) 0).2 (by decide),rfl,rfl,?_⟩;refine⟨by decide,by decide,Zf rfl,?_⟩;refine⟨by decide,by decide,_,rfl,?_⟩;refine⟨1,by decide,by decide,[.k 0,.k 1,.k 2],⟨rfl,rfl,rfl,rfl,rfl,rfl,tq⟩,⟨_,rfl,rfl⟩,⟨_,rfl,rfl⟩,⟨_,rfl,?_⟩,tq⟩;show B.mx [k8 (d9 2 key 0).1,V.z 16 (sub (bv (d9 2 key 1).1) 0 16),g8,g8]=_;rw[b9 (z4 2 (by omega) (by omega) 1).1];rfl
  ·refine⟨_,rfl,rfl,by decide,by decide,by decide,_,rfl,by decide,by decide,by decide,_,rfl,?_⟩;refine⟨[],_,_,_,_,cI (k:=2) (b:=(d9 2 key 1).1) (key:=aC 0) rfl rfl (z4 2 (by omega) (by omega) 1).1 (D3 0 (by decide)) (by decide) (by decide),rfl,rfl,?_⟩;refine⟨by decide,by decide,Zf rfl,?_⟩;refine⟨by decide,by decide,_,rfl,?_⟩;refine⟨[],_,_,_,_,H6 (a:=I1 2 (d9 2 key 1).1 (aC 0)) (b:=(d9 2 key 1).2) (b9 (z6 _ _ _)) rfl (z6 _ _ _) (z4 2 (by omega) (by omega) 1).2 (by decide),rfl,rfl,?_⟩;refine⟨by decide,by decide,Zf rfl,?_⟩;refine⟨by decide,by decide,_,rfl,?_⟩;refine⟨2,by decide,by decide,[.k 0,.k 1,.k 2],⟨rfl,rfl,rfl,rfl,rfl,rfl,tq⟩,⟨_,rfl,rfl⟩,⟨_,rfl,rfl⟩,⟨_,rfl,?_⟩,tq⟩;show B.mx [k8 (d9 2 key 0).1,k8 (d9 2 key 1).1,V.z 16 (sub (bv (d9 2 key 2).1) 0 16),g8]=_;rw[b9 (z4 2 (by omega) (by omega) 2).1];rfl
  ·refine⟨_,rfl,rfl,by decide,by decide,by decide,_,rfl,by decide,by decide,by decide,_,rfl,?_⟩;refine⟨[],_,_,_,_,cI (k:=1) (b:=(d9 2 key 2).1) (key:=aC 1) rfl rfl (z4 2 (by omega) (by omega) 2).1 (D3 1 (by decide)) (by decide) (by decide),rfl,rfl,?_⟩;refine⟨by decide,by decide,Zf rfl,?_⟩;refine⟨by decide,by decide,_,rfl,?_⟩;refine⟨[],_,_,_,_,H6 (a:=I1 1 (d9 2 key 2).1 (aC 1)) (b:=(d9 2 key 2).2) (b9 (z6 _ _ _)) rfl (z6 _ _ _) (z4 2 (by omega) (by omega) 2).2 (by decide),rfl,rfl,?_⟩;refine⟨by decide,by decide,Zf rfl,?_⟩;refine⟨by decide,by decide,_,rfl,?_⟩;refine⟨3,by decide,by decide,[.k 0,.k 1,.k 2],⟨rfl,rfl,rfl,rfl,rfl,rfl,tq⟩,⟨_,rfl,rfl⟩,⟨_,rfl,rfl⟩,⟨_,rfl,?_⟩,tq⟩;show B.mx [k8 (d9 2 key 0).1,k8 (d9 2 key 1).1,k8 (d9 2 key 2).1,V.z 16 (sub (bv (d9 2 key 3).1) 0 16)]=_;rw[b9 (z4 2 (by omega) (by omega) 3).1];rfl
  ·refine⟨Zc _,[(10,1,.mx [])],0,by decide,[.d 900000 0,.k 2,.d 11 0],⟨rfl,rfl,rfl,rfl,rfl,tq⟩,⟨_,rfl,rfl⟩,⟨_,rfl,rfl⟩,⟨_,rfl,rfl⟩,tq⟩
  ·omega
 ·have e1:((r:Int)).tmod 4=((r%4:Nat):Int):=by rw[Zg (by omega)];omega
  have e2:(I6.wrap ((r:Int)+1)).tmod 4=(((r+1)%4:Nat):Int):=by
   rw[Za _ (by omega),Zg (by omega)];omega
  have e3:I6.wrap (((r:Int)).tdiv 4)=((r/4:Nat):Int):=by
   rw[Zi (by omega),Za _ (by omega)];omega
  have m1:=Zr r (show 4>0 by decide);have m2:=Zr (r+1) (show 4>0 by decide);have hW:∀k,(d9 2 key k).1.length=16:=fun k=>(z4 2 (by omega) (by omega) k).1;refine⟨by decide,by decide,by rw[e1];omega,by rw[e1];omega,?_⟩;refine⟨_,by rw[e1,Zb,Zd,Ze];exact I9 (f:=fun k=>k8 (d9 2 key k).1) rfl rfl rfl rfl m1,?_⟩;refine⟨by rw[e2];omega,by rw[e2];omega,?_⟩;refine⟨_,by rw[e2,Zb,Zd,Ze];exact I9 (f:=fun k=>k8 (d9 2 key k).1) rfl rfl rfl rfl m2,?_⟩;refine⟨by decide,by rw[e3];omega,by rw[e3];omega,?_⟩;refine⟨_,by rw[e3,Zb,Zd,Ze];exact qN (by omega),?_⟩;refine⟨[],_,_,_,_,nQ (b:=(d9 2 key ((r+1)%4)).1) (n:=R6 (r/4)) rfl (hW _) (by decide) (by decide) (iI (by omega)),rfl,rfl,?_⟩;refine⟨[],_,_,_,_,H6 (a:=(d9 2 key (r%4)).1) (b:=G7 (d9 2 key ((r+1)%4)).1 (R6 (r/4)%128).toNat) rfl (b9 (by rw[E5,hW])) (hW _) (by rw[E5,hW]) (by decide),rfl,rfl,?_⟩;refine⟨Zc _,by omega,by rw[k9,Zq,aW];omega,?_⟩;have hs0:sub (k9 2 key r) 0 (r*1)=k9 2 key r:=by rw[Zd,E0 (by rw[k9,Zq,aW])]
  have hst:k9 2 key r++[V.z 16 (sub (bv (o6 2 key r)) 0 16)]=k9 2 key (r+1):=by
   rw[b9 (by rw[o6];exact t9 (hW _) (by rw[E5,hW])),k9,k9,iL,Zl];rfl
  have he:I6.wrap (13+I6.wrap (2*2))=17:=by decide
  refine b8 (fun h=> ?_) (fun h=> ?_)
  ·rw[he,Za _ (by omega)]at h;refine⟨rfl,r+1,by omega,by omega,[.d 93 0,.k 1,.k 2],⟨rfl,rfl,rfl,rfl,c9 (by simp(disch:=omega)only[Za];omega),tq⟩,⟨_,rfl,?_⟩,⟨_,rfl,rfl⟩,⟨_,rfl,rfl⟩,tq⟩;show B.mx (Zv (l7 _ _ 6) (sub (k9 2 key r) 0 (r*1)++[V.o _ _ _ _]))=_;rw[Zl,hs0,aV];exact congrArg B.mx hst
  ·rw[he,Za _ (by omega)]at h;obtain rfl:r=16:=(by omega);refine⟨_,rfl,[.d 93 0],rfl,⟨_,rfl,?_⟩,tq⟩;show B.mx (Zv (l7 _ _ 6) (sub (k9 2 key 16) 0 (16*1)++[V.o _ _ _ _]))=_;rw[Zl,hs0,aV];exact congrArg B.mx hst
abbrev cG (q:Nat) (key:Bs) (n:Nat):V:= .q [y6 0,y6 1,y6 2,y6 3,.zz 1 n (k9 q key n)] 0
theorem EZ {va:List Value}:a7 C 140 [.z 16 va] [] (.ret (bool true)) []:=sH.c ⟨by decide,_,rfl,[],rfl,tq⟩
theorem Fa {va:List Value}:a7 C 140 [.z 24 va] [] (.ret (bool true)) []:=sH.c ⟨by decide,_,rfl,[],rfl,tq⟩
theorem Fb {va:List Value}:a7 C 140 [.z 32 va] [] (.ret (bool true)) []:=sH.c ⟨by decide,_,rfl,[],rfl,tq⟩
theorem Fi {va:List Value} {key:Bs} (ha:va=bv key) (hk:key.length=16):a7 C 84 [.z 16 va] [] (.ret (.t [cG 0 key 13,i64 0])) []:=by
 refine sF.c ?_;refine⟨[],_,_,_,_,EZ,rfl,rfl,?_⟩;refine⟨[],_,_,_,_,rz,rfl,rfl,?_⟩;refine⟨Zc _,?_⟩;refine⟨_,rfl,rfl,?_⟩;refine⟨_,rfl,rfl,?_⟩;refine⟨[],_,_,_,_,Fd (va:=va) ha hk,rfl,rfl,?_⟩;exact⟨_,rfl,[],rfl,tq⟩
theorem Fj {va:List Value} {key:Bs} (ha:va=bv key) (hk:key.length=24):a7 C 84 [.z 24 va] [] (.ret (.t [cG 1 key 15,i64 0])) []:=by
 refine sF.c ?_;refine⟨[],_,_,_,_,Fa,rfl,rfl,?_⟩;refine⟨[],_,_,_,_,rz,rfl,rfl,?_⟩;refine⟨Zc _,?_⟩;refine⟨_,rfl,rfl,?_⟩;refine⟨_,rfl,rfl,?_⟩;refine⟨[],_,_,_,_,Fe (va:=va) ha hk,rfl,rfl,?_⟩;exact⟨_,rfl,[],rfl,tq⟩
theorem Fk {va:List Value} {key:Bs} (ha:va=bv key) (hk:key.length=32):a7 C 84 [.z 32 va] [] (.ret (.t [cG 2 key 17,i64 0])) []:=by
 refine sF.c ?_;refine⟨[],_,_,_,_,Fb,rfl,rfl,?_⟩;refine⟨[],_,_,_,_,rz,rfl,rfl,?_⟩;refine⟨Zc _,?_⟩;refine⟨_,rfl,rfl,?_⟩;refine⟨_,rfl,rfl,?_⟩;refine⟨[],_,_,_,_,Ff (va:=va) ha hk,rfl,rfl,?_⟩;exact⟨_,rfl,[],rfl,tq⟩
def N8 (q:Nat) (key b:Bs):Nat->Bs
 |0=>b
 |r+1=>I1 (1+r%2) (N8 q key b r) (o6 q key r)
def cD (q:Nat) (key:Bs) (n:Nat) (b:Bs):Bs:=f6 (C0 2 (f6 (N8 q key b (n-2)) (o6 q key (n-2))) 16) (o6 q key (n-1))
def M4 (q:Nat) (key:Bs) (n:Nat) (b:Bs):Nat->Bs
 |0=>f6 (C0 1 (f6 b (o6 q key (n-1))) 16) (o6 q key (n-2))
 |i+1=>f6 (C0 (2-(n-3-i)%2) (D4 (M4 q key n b i)) 16) (o6 q key (n-3-i))
def eW (q:Nat) (key:Bs) (n:Nat) (b:Bs):Bs:=M4 q key n b (n-2)
structure ak (q:Nat) (key:Bs) (n:Nat):Prop where
 h1:16<=key.length
 h2:key.length<=32
 h3:13<=n
 h4:n<=17
theorem dy {q key n} (h:ak q key n) (i):(o6 q key i).length=16:=by
 have hW:∀k,(d9 q key k).1.length=16:=fun k=>(z4 q h.h1 h.h2 k).1;rw[o6];exact t9 (hW _) (by rw[E5,hW])
theorem kC {q key n b} (h:ak q key n) (hb:b.length=16):∀i,(N8 q key b i).length=16
 |0=>hb
 |i+1=>z6 _ _ _
theorem nb {q key n b} (h:ak q key n):∀i,(M4 q key n b i).length=16
 |0=>t9 (M5 _ _ _) (dy h _)
 |i+1=>t9 (M5 _ _ _) (dy h _)
theorem aU {q key n r} (h:r<n):(k9 q key n)[r]? =some (k8 (o6 q key r)):=by
 simp[k9,gI,h]
theorem Fq {va vk:List Value} {b key:Bs} {k:Nat} {x:Int} (hx:x=(k:Nat)) (ha:va=bv b) (hk:vk=bv key) (hb:b.length=16) (hkl:key.length=16) (h1:1<=k) (h2:k<=2):a7 C 143 [gH,i64 x,.z 16 va,.z 16 vk] [] (.ret (.o 1 (.k 0) 0 16)) [.sc (bv (I1 k b key))]:=by
 subst hx;exact cI ha hk hb hkl h1 h2
theorem Fh {va:List Value} {b:Bs} {k:Nat} {x:Int} (hx:x=(k:Nat)) (ha:va=bv b) (hb:b.length=16) (h1:1<=k) (h2:k<=2):a7 C 145 [gH,i64 x,.z 16 va] [] (.ret (.o 1 (.k 0) 0 16)) [.sc (bv (C0 k b 16))]:=by
 subst hx;exact nr ha hb h1 h2
theorem Fo {va:List Value} {b key:Bs} {q n:Nat} (h:ak q key n) (ha:va=bv b) (hb:b.length=16):a7 C 85 [cG q key n,.z 16 va,bool false] [] (y4 16) [.sc (bv (cD q key n b))]:=by
 subst ha;have h3:=h.h3;have h4:=h.h4;have kl:=dy h;have h':=h;refine sE.c ?_;refine Y7 0 rfl 0 (fun _=>⟨[],[]⟩) ?_ fun r hr=>absurd hr (Nat.not_lt_zero _);refine⟨_,rfl,?_⟩;refine j4 (fun i=>⟨[(0,cG q key n),(1,k8 (N8 q key b i)),(8,i64 (n-1:Nat)),(9,i64 i)],[]⟩) (n-2) ⟨[],⟨rfl,rfl,?_,rfl,tq⟩,tq⟩ fun i hi=> ?_
 ·show i64 _=i64 _;rw[Za _ (by omega)];congr 2;omega
 have hel:=kC h hb i;have e0:I6.wrap (((n-1:Nat):Int)-1)=((n-2:Nat):Int):=by rw[Za _ (by omega)];omega
 refine b8 (fun h=> ?_) (fun h=> ?_)
 ·rw[e0]at h;have a8:i<n-2:=(by omega);have e1:I6.wrap (1+(i:Int).tmod 2)=((1+i%2:Nat):Int):=by
   rw[Zg (by omega),Za _ (by omega)];omega
  refine⟨_,rfl,rfl,by decide,_,rfl,by omega,by omega,?_⟩;refine⟨_,by rw[Zb,Zd];exact aU (by omega),?_⟩;refine⟨[],_,_,_,_,Fq (b:=N8 q key b i) (key:=o6 q key i) (k:=1+i%2) e1 rfl rfl hel (kl i) (by omega) (by omega),rfl,rfl,?_⟩;refine⟨i+1,by omega,by omega,[],⟨rfl,?_,rfl,c9 (by simp(disch:=omega)only[Za];omega),tq⟩,tq⟩;show V.z 16 (sub (bv (N8 q key b (i+1))) 0 16)=_;rw[b9 (kC h' hb _)]
 ·rw[e0]at h;obtain rfl:i=n-2:=(by omega);refine⟨_,rfl,by omega,by omega,?_⟩;refine⟨_,by rw[Zb,Zd];exact aU (by omega),?_⟩;refine⟨[],_,_,_,_,H6 (a:=N8 q key b (n-2)) (b:=o6 q key (n-2)) rfl rfl hel (kl _) (by decide),rfl,rfl,?_⟩;have hx:=t9 hel (kl (n-2));refine⟨_,rfl,rfl,?_⟩;refine⟨[],_,_,_,_,nr (k:=2) (b:=f6 (N8 q key b (n-2)) (o6 q key (n-2))) (b9 hx) hx (by decide) (by decide),rfl,rfl,?_⟩;refine⟨_,rfl,by omega,by omega,?_⟩;refine⟨_,by rw[Zb,Zd];exact aU (by omega),?_⟩;have hl:=M5 2 (f6 (N8 q key b (n-2)) (o6 q key (n-2))) 16;refine⟨[],_,_,_,_,H6 (b:=o6 q key (n-1)) (b9 hl) rfl hl (kl _) (by decide),rfl,rfl,?_⟩;exact⟨_,rfl,[.d 68 0],rfl,⟨_,rfl,rfl⟩,tq⟩
theorem Fm {va:List Value} {b key:Bs} {q n:Nat} (h:ak q key n) (ha:va=bv b) (hb:b.length=16):a7 C 85 [cG q key n,.z 16 va,bool true] [] (y4 16) [.sc (bv (eW q key n b))]:=by
 subst ha;have h3:=h.h3;have h4:=h.h4;have kl:=dy h;have h':=h;have e0:I6.wrap (((n-1:Nat):Int)-1)=((n-2:Nat):Int):=by rw[Za _ (by omega)];omega
 refine sE.c ?_;refine Y7 0 rfl 1 (fun _=>⟨[(0,cG q key n),(1,k8 b),(8,i64 (n-1:Nat))],[]⟩) ?_ fun r hr=> ?_
 ·refine⟨_,rfl,?_⟩;refine⟨rfl,0,by decide,[],⟨rfl,rfl,?_,tq⟩,tq⟩;show i64 _=i64 _;rw[Za _ (by omega)];congr 2;omega
 refine⟨_,rfl,by omega,by omega,?_⟩;refine⟨_,by rw[Zb,Zd];exact aU (by omega),?_⟩;refine⟨[],_,_,_,_,H6 (a:=b) (b:=o6 q key (n-1)) rfl rfl hb (kl _) (by decide),rfl,rfl,?_⟩;have hx:=t9 hb (kl (n-1));refine⟨_,rfl,rfl,?_⟩;refine⟨[],_,_,_,_,nr (k:=1) (b:=f6 b (o6 q key (n-1))) (b9 hx) hx (by decide) (by decide),rfl,rfl,?_⟩;refine⟨_,rfl,by rw[e0];omega,by rw[e0];omega,?_⟩;refine⟨_,by rw[e0,Zb,Zd];exact aU (by omega),?_⟩;have hl:=M5 1 (f6 b (o6 q key (n-1))) 16;refine⟨[],_,_,_,_,H6 (b:=o6 q key (n-2)) (b9 hl) rfl hl (kl _) (by decide),rfl,rfl,?_⟩;refine j4 (fun i=>⟨[(0,cG q key n),(1,.o 1 (.k 0) 0 16),(9,i64 ((n:Int)-3-i))],[.sc (bv (M4 q key n b i))]⟩) (n-2) ⟨[.d 99 0],⟨rfl,rfl,c9 ?_,tq⟩,⟨_,rfl,rfl⟩,tq⟩ fun i hi=> ?_
 ·rw[Za _ (by omega)];omega
 have hdl:=nb (b:=b) h i;refine b8 (fun h=> ?_) (fun h=> ?_)
 ·obtain⟨r,er,hrn,hri⟩:∃r:Nat,(n:Int)-3-i=r/\r<=n-3/\r=n-3-i:=⟨n-3-i,by omega,by omega,rfl⟩;have hst:M4 q key n b (i+1)=f6 (C0 (2-r%2) (D4 (M4 q key n b i)) 16) (o6 q key r):=by rw[hri];rfl
  rw[er];have e1:I6.wrap (2-(r:Int).tmod 2)=((2-r%2:Nat):Int):=by
   rw[Zg (by omega),Za _ (by omega)];omega
  refine⟨[],_,_,_,_,wA (b:=M4 q key n b i) (b9 hdl) hdl,rfl,rfl,?_⟩;refine⟨_,rfl,rfl,by decide,?_⟩;have hm:=qQ (M4 q key n b i);refine⟨[],_,_,_,_,Fh (k:=2-r%2) (b:=D4 (M4 q key n b i)) e1 (b9 hm) hm (by omega) (by omega),rfl,rfl,?_⟩;refine⟨_,rfl,by omega,by omega,?_⟩;refine⟨_,by rw[Zb,Zd];exact aU (by omega),?_⟩;have hl:=M5 (2-r%2) (D4 (M4 q key n b i)) 16;refine⟨[],_,_,_,_,H6 (b:=o6 q key r) (b9 hl) rfl hl (kl _) (by decide),rfl,rfl,?_⟩;refine⟨i+1,by omega,by omega,[.d 130 0],⟨rfl,rfl,c9 ?_,tq⟩,⟨_,rfl,d8 (by rw[hst])⟩,tq⟩
  ·rw[Za _ (by omega)];omega
 ·obtain rfl:i=n-2:=(by omega);exact⟨_,rfl,[.k 0],rfl,⟨_,rfl,rfl⟩,tq⟩
theorem Fl {va:List Value} {key:Bs} {q n m:Nat} {back:Bool} (hn:m≠16):a7 C 85 [cG q key n,.z m va,bool back] [] P3 []:=by
 refine sE.c ?_;refine Y7 0 rfl 0 (fun _=>⟨[],[]⟩) ?_ fun r hr=>absurd hr (Nat.not_lt_zero _);refine n7 (fun h=> ?_) (fun h=>absurd (by omega) hn);exact⟨_,rfl,[],rfl,tq⟩
abbrev eY:V:= .q [y6 0,y6 1,y6 2,y6 3] 0
theorem rT:a7 C 112 [] [] (.ret eY) []:=by
 have m1:=wZ (e:=254) (m:=283) (z:=99) (c:=99) (r0:=241) (r1:=227) (r2:=199) (r3:=143) (r4:=31) (r5:=62) (r6:=124) (r7:=248) rfl (by decide) (by decide) (by decide) (by decide);have m2:=wZ (e:=247) (m:=283) (z:=226) (c:=226) (r0:=122) (r1:=188) (r2:=235) (r3:=185) (r4:=52) (r5:=129) (r6:=186) (r7:=203) rfl (by decide) (by decide) (by decide) (by decide);rw[vB]at m1;rw[vC]at m2;have b1:=wY (va:=sub (bv bM) 0 256) (b9 gJ) gJ Eg;have b2:=wY (va:=sub (bv bN) 0 256) (b9 gK) gK Ei;rw[vv]at b1;rw[vw]at b2;refine Nh.c ?_;refine⟨[],_,_,_,_,m1,rfl,rfl,?_⟩;refine⟨[],_,_,_,_,m2,rfl,rfl,?_⟩;refine⟨[],_,_,_,_,b1,rfl,rfl,?_⟩;refine⟨[],_,_,_,_,b2,rfl,rfl,?_⟩;refine⟨_,rfl,[],?_,tq⟩;show V.q [V.z 256 (sub (bv bM) 0 256),V.z 256 (sub (bv bN) 0 256),V.z 256 (sub (bv iJ) 0 256),V.z 256 (sub (bv iK) 0 256)] 0=_;rw[b9 gJ,b9 gK,b9 qO,b9 qP];rfl
theorem Ha {i:Nat} (hi:i<16):a7 C 259 [i64 i] [] (.ret (.o 1 (.k 0) 0 7)) [.sc ([.int .i64 ((p9 i).getD 0 0:Nat),.int .i64 ((p9 i).getD 1 0:Nat),.int .i64 ((p9 i).getD 2 0:Nat),.int .i64 ((p9 i).getD 3 0:Nat),.int .i64 ((p9 i).getD 4 0:Nat),.int .i64 ((p9 i).getD 5 0:Nat),.int .i64 ((p9 i).getD 6 0:Nat)])]:=by
 rcases i with _|_|_|_|_|_|_|_|_|_|_|_|_|_|_|_|i
 ·exact T7.c ⟨_,rfl,[.d 6 0],rfl,⟨_,rfl,rfl⟩,tq⟩
 ·exact T7.c ⟨_,rfl,[.d 9 0],rfl,⟨_,rfl,rfl⟩,tq⟩
 ·exact T7.c ⟨_,rfl,[.d 12 0],rfl,⟨_,rfl,rfl⟩,tq⟩
 ·exact T7.c ⟨_,rfl,[.d 15 0],rfl,⟨_,rfl,rfl⟩,tq⟩
 ·exact T7.c ⟨_,rfl,[.d 18 0],rfl,⟨_,rfl,rfl⟩,tq⟩
 ·exact T7.c ⟨_,rfl,[.d 21 0],rfl,⟨_,rfl,rfl⟩,tq⟩
 ·exact T7.c ⟨_,rfl,[.d 24 0],rfl,⟨_,rfl,rfl⟩,tq⟩
 ·exact T7.c ⟨_,rfl,[.d 27 0],rfl,⟨_,rfl,rfl⟩,tq⟩
 ·exact T7.c ⟨_,rfl,[.d 30 0],rfl,⟨_,rfl,rfl⟩,tq⟩
 ·exact T7.c ⟨_,rfl,[.d 33 0],rfl,⟨_,rfl,rfl⟩,tq⟩
 ·exact T7.c ⟨_,rfl,[.d 36 0],rfl,⟨_,rfl,rfl⟩,tq⟩
 ·exact T7.c ⟨_,rfl,[.d 39 0],rfl,⟨_,rfl,rfl⟩,tq⟩
 ·exact T7.c ⟨_,rfl,[.d 42 0],rfl,⟨_,rfl,rfl⟩,tq⟩
 ·exact T7.c ⟨_,rfl,[.d 45 0],rfl,⟨_,rfl,rfl⟩,tq⟩
 ·exact T7.c ⟨_,rfl,[.d 48 0],rfl,⟨_,rfl,rfl⟩,tq⟩
 ·exact T7.c ⟨_,rfl,[.d 49 0],rfl,⟨_,rfl,rfl⟩,tq⟩
 ·omega
theorem Sl {i t:Nat} (ht:t<7):([.int .i64 ((p9 i).getD 0 0:Nat),.int .i64 ((p9 i).getD 1 0:Nat),.int .i64 ((p9 i).getD 2 0:Nat),.int .i64 ((p9 i).getD 3 0:Nat),.int .i64 ((p9 i).getD 4 0:Nat),.int .i64 ((p9 i).getD 5 0:Nat),.int .i64 ((p9 i).getD 6 0:Nat)]:List Value)[t]? =some (.int .i64 ((p9 i).getD t 0:Nat)):=by
 rcases t with _|_|_|_|_|_|_|t;all_goals first|rfl|omega
theorem wV {va:List Value} {b:Bs} (ha:va=bv b) (hb:b.length=16):a7 C 215 [.z 16 va] [] (.ret (.o 1 (.k 0) 0 16)) [.sc (bv (D4 b))]:=by
 subst ha;have h0:∀p,aX b p 0=0:=fun _=>rfl;refine Ni.c ?_;refine⟨by decide,by decide,by decide,?_⟩;refine j4 (fun i=>⟨[(0,.z 16 (bv b)),(3,.o 1 (.k 0) 0 16),(4,i64 i)],[.sc (bv (N9 16 (aX b) 7 i 0))]⟩) 16 ⟨[.d 7 0],⟨rfl,rfl,rfl,tq⟩,⟨_,rfl,d8 (by rw[vM h0];exact P4 16)⟩,tq⟩ fun i hi=> ?_;refine b8 (fun h=> ?_) (fun h=> ?_)
 ·have a8:i<16:=(by omega);refine⟨[],_,_,_,_,Ha a8,rfl,rfl,?_⟩;refine j4 (fun k=>⟨[(0,.z 16 (bv b)),(3,.o 1 (.k 0) 0 16),(4,i64 i),(5,.z 7 ([.int .i64 ((p9 i).getD 0 0:Nat),.int .i64 ((p9 i).getD 1 0:Nat),.int .i64 ((p9 i).getD 2 0:Nat),.int .i64 ((p9 i).getD 3 0:Nat),.int .i64 ((p9 i).getD 4 0:Nat),.int .i64 ((p9 i).getD 5 0:Nat),.int .i64 ((p9 i).getD 6 0:Nat)])),(6,i64 k)],[.sc (bv (N9 16 (aX b) 7 i k))]⟩) 7 ⟨[.k 0],⟨rfl,rfl,rfl,rfl,rfl,tq⟩,⟨_,rfl,rfl⟩,tq⟩ fun k hk=> ?_;refine b8 (fun h=> ?_) (fun h=> ?_)
  ·have hkl:k<7:=(by omega);have hs:=vE i a8 k hkl;refine⟨by omega,by omega,?_⟩;refine⟨_,by rw[Zb,Zd,Ze];exact kL (vI a8),?_⟩;refine⟨by omega,by omega,?_⟩;refine⟨_,by rw[Zb];exact Sl hkl,?_⟩;refine⟨by omega,by omega,?_⟩;refine⟨_,by rw[Zb];exact y7 (by omega),?_⟩;refine⟨by omega,by omega,by rw[f9,vJ];omega,?_⟩;refine⟨k+1,by omega,by omega,[.k 0],⟨rfl,rfl,rfl,rfl,c9 (by simp(disch:=omega)only[Za];omega),tq⟩,⟨_,rfl,d8 ?_⟩,tq⟩;rw[Zb,Zd,Ze,s6,K3,vL a8 (vG _ _ _).symm]
  ·obtain rfl:k=7:=(by omega);refine⟨i+1,by omega,by omega,[.k 0],⟨rfl,rfl,c9 (by simp(disch:=omega)only[Za];omega),tq⟩,⟨_,rfl,d8 ?_⟩,tq⟩;rw[vK h0]
 ·obtain rfl:i=16:=(by omega);refine⟨_,rfl,[.k 0],rfl,⟨_,rfl,d8 ?_⟩,tq⟩;rw[vH];rfl
theorem Eb {k:Nat} (h:k<4):([y6 0,y6 1,y6 2,y6 3]:List V)[0+0+k]? =some (y6 k):=by
 rw[show 0+0+k=k by omega];exact vq h
theorem nF {va:List Value} {b:Bs} {k:Nat} {x:Int} (hx:x=(k:Nat)) (ha:va=bv b) (hb:b.length=16) (h1:1<=k) (h2:k<=2):a7 C 214 [eY,i64 x,.z 16 va] [] (.ret (.o 1 (.k 0) 0 16)) [.sc (bv (C0 k b 16))]:=by
 subst ha;subst hx;refine Nf.c ?_;refine⟨by decide,by decide,by decide,?_⟩;refine j4 (fun i=>⟨[(0,eY),(1,i64 k),(2,.z 16 (bv b)),(7,.o 1 (.k 0) 0 16),(8,i64 i)],[.sc (bv (C0 k b i++Zo (16-i) 0))]⟩) 16 ⟨[.d 11 0],⟨rfl,rfl,rfl,rfl,rfl,tq⟩,⟨_,rfl,d8 (by show Zo 16 _=_;exact P4 16)⟩,tq⟩ fun i hi=> ?_;refine b8 (fun h=> ?_) (fun h=> ?_)
 ·have a8:i<16:=(by omega);have e1:(I6.wrap ((i:Int)+I6.wrap (2*I6.wrap ((k:Int)-1)))).tmod 4=(((i+2*(k-1))%4:Nat):Int):=by
   rw[Za ((k:Int)-1) (by omega),Za (2*((k:Int)-1)) (by omega),Za _ (by omega),Zg (by omega)];omega
  have e2:=Zr (i+2*(k-1)) (show 4>0 by decide);have hx:=(b.getD i 0).toNat_lt;refine⟨by decide,by rw[e1];omega,by rw[e1];omega,?_⟩;refine⟨y6 ((i+2*(k-1))%4),by rw[e1,Zb,Zd];exact Eb e2,?_⟩;refine⟨by omega,by omega,?_⟩;refine⟨_,by rw[Zb];exact y7 (by omega),?_⟩;refine⟨by omega,by show _<((256:Nat):Int);omega,?_⟩;refine⟨_,by rw[Zb];exact y7 (by rw[vu];omega),?_⟩;refine⟨by omega,by omega,by rw[f9,Zm,M5,Zt];omega,?_⟩;refine⟨i+1,by omega,by omega,[.k 0],⟨rfl,rfl,rfl,rfl,c9 (by simp(disch:=omega)only[Za];omega),tq⟩,⟨_,rfl,d8 ?_⟩,tq⟩;rw[Zb,Zd,Ze,lW (M5 _ _ _) a8,vy]
 ·obtain rfl:i=16:=(by omega);refine⟨_,rfl,[.k 0],rfl,⟨_,rfl,d8 ?_⟩,tq⟩;simp
theorem cM {va vk:List Value} {b key:Bs} {k:Nat} {x:Int} (hx:x=(k:Nat)) (ha:va=bv b) (hk:vk=bv key) (hb:b.length=16) (hkl:key.length=16) (h1:1<=k) (h2:k<=2):a7 C 172 [eY,i64 x,.z 16 va,.z 16 vk] [] (.ret (.o 1 (.k 0) 0 16)) [.sc (bv (I1 k b key))]:=by
 refine Ng.c ?_;refine⟨[],_,_,_,_,D5 ha hk hb hkl (by decide),rfl,rfl,?_⟩;have hx2:(f6 b key).length=16:=t9 hb hkl;refine⟨[],_,_,_,_,nF (b:=f6 b key) (k:=k) hx (b9 hx2) hx2 h1 h2,rfl,rfl,?_⟩;have hl:=M5 k (f6 b key) 16;refine⟨[],_,_,_,_,wV (b:=C0 k (f6 b key) 16) (b9 hl) hl,rfl,rfl,?_⟩;exact⟨_,rfl,[.d 15 0],rfl,⟨_,rfl,rfl⟩,tq⟩
theorem dH {i:Nat} {x:Int} (hx:x=(i:Nat)) (hi:i<5):a7 C 173 [i64 x] [] (.ret (.o 1 (.k 0) 0 16)) [.sc (bv (aC (i%3)))]:=by
 subst hx;have h0:bv (m5 5871781006564002452 8)++bv (m5 18308165927316385504 8)=bv (aC 0):=by
  rw[z5,show m5 5871781006564002452 8++m5 18308165927316385504 8=aC 0 by decide +kernel]
 have h1:bv (m5 7904181063698728992 8)++bv (m5 18386141011142107824 8)=bv (aC 1):=by
  rw[z5,show m5 7904181063698728992 8++m5 18386141011142107824 8=aC 1 by decide +kernel]
 have h2:bv (m5 15821769039155751280 8)++bv (m5 226472410124699918 8)=bv (aC 2):=by
  rw[z5,show m5 15821769039155751280 8++m5 226472410124699918 8=aC 2 by decide +kernel]
 rcases i with _|_|_|_|_|i
 ·refine lJ.c ?_;refine⟨by decide,by decide,by decide,_,rfl,?_⟩;refine⟨[],_,_,_,_,cO (v:=5871781006564002452) rfl,rfl,rfl,?_⟩;refine⟨by decide,by decide,by decide,_,rfl,?_⟩;refine⟨[],_,_,_,_,cO (v:=18308165927316385504) rfl,rfl,rfl,?_⟩;refine⟨by decide,by decide,by decide,?_⟩;refine⟨_,rfl,[.d 19 0],rfl,⟨_,rfl,d8 ?_⟩,tq⟩;show sub (bv (m5 5871781006564002452 8)) 0 8++sub (bv (m5 18308165927316385504 8)) 0 8=_;rw[b9 (s3 _ _),b9 (s3 _ _)];exact h0
 ·refine lJ.c ?_;refine⟨by decide,by decide,by decide,_,rfl,?_⟩;refine⟨[],_,_,_,_,cO (v:=7904181063698728992) rfl,rfl,rfl,?_⟩;refine⟨by decide,by decide,by decide,_,rfl,?_⟩;refine⟨[],_,_,_,_,cO (v:=18386141011142107824) rfl,rfl,rfl,?_⟩;refine⟨by decide,by decide,by decide,?_⟩;refine⟨_,rfl,[.d 19 0],rfl,⟨_,rfl,d8 ?_⟩,tq⟩;show sub (bv (m5 7904181063698728992 8)) 0 8++sub (bv (m5 18386141011142107824 8)) 0 8=_;rw[b9 (s3 _ _),b9 (s3 _ _)];exact h1
 ·refine lJ.c ?_;refine⟨by decide,by decide,by decide,_,rfl,?_⟩;refine⟨[],_,_,_,_,cO (v:=15821769039155751280) rfl,rfl,rfl,?_⟩;refine⟨by decide,by decide,by decide,_,rfl,?_⟩;refine⟨[],_,_,_,_,cO (v:=226472410124699918) rfl,rfl,rfl,?_⟩;refine⟨by decide,by decide,by decide,?_⟩;refine⟨_,rfl,[.d 19 0],rfl,⟨_,rfl,d8 ?_⟩,tq⟩;show sub (bv (m5 15821769039155751280 8)) 0 8++sub (bv (m5 226472410124699918 8)) 0 8=_;rw[b9 (s3 _ _),b9 (s3 _ _)];exact h2
 ·refine lJ.c ?_;refine⟨by decide,by decide,by decide,_,rfl,?_⟩;refine⟨[],_,_,_,_,cO (v:=5871781006564002452) rfl,rfl,rfl,?_⟩;refine⟨by decide,by decide,by decide,_,rfl,?_⟩;refine⟨[],_,_,_,_,cO (v:=18308165927316385504) rfl,rfl,rfl,?_⟩;refine⟨by decide,by decide,by decide,?_⟩;refine⟨_,rfl,[.d 19 0],rfl,⟨_,rfl,d8 ?_⟩,tq⟩;show sub (bv (m5 5871781006564002452 8)) 0 8++sub (bv (m5 18308165927316385504 8)) 0 8=_;rw[b9 (s3 _ _),b9 (s3 _ _)];exact h0
 ·refine lJ.c ?_;refine⟨by decide,by decide,by decide,_,rfl,?_⟩;refine⟨[],_,_,_,_,cO (v:=7904181063698728992) rfl,rfl,rfl,?_⟩;refine⟨by decide,by decide,by decide,_,rfl,?_⟩;refine⟨[],_,_,_,_,cO (v:=18386141011142107824) rfl,rfl,rfl,?_⟩;refine⟨by decide,by decide,by decide,?_⟩;refine⟨_,rfl,[.d 19 0],rfl,⟨_,rfl,d8 ?_⟩,tq⟩;show sub (bv (m5 7904181063698728992 8)) 0 8++sub (bv (m5 18386141011142107824 8)) 0 8=_;rw[b9 (s3 _ _),b9 (s3 _ _)];exact h1
 ·omega
theorem qW {j:Nat} (h:j<5):([.int .i64 (-19),.int .i64 (-31),.int .i64 61,.int .i64 31,.int .i64 19]:List Value)[j]? =some (.int .i64 (R6 j)):=by
 rcases j with _|_|_|_|_|j;all_goals first|rfl|omega
theorem uC {key:Bs} (h:16<=key.length):sub (sub ([]:List Value) 0 (0*1)++sub (bv key) 0 16) 0 16=bv (key.take 16):=by
 rw[k5];show sub (bv (sub key 0 16)) 0 16=_;rw[b9 (by rw[j5];omega)];simp[sub]
theorem uD {key:Bs} {m k:Nat} (hk:key.length=16+m) (hm:k=16-m) (h:m<=16):sub (sub (sub ([]:List Value) 0 (0*1)++sub (bv key) 16 m) 0 (m*1)++Zo k (Value.int .u8 0)) 0 16=bv (bL key):=by
 subst hm;rw[k5];show sub (sub (bv (sub key 16 m)) 0 (m*1)++Zo (16-m) (Value.int .u8 0)) 0 16=_;have hl:(sub key 16 m).length=m:=by rw[j5];omega
 rw[Zd,b9 hl,P4,z5,b9 (by rw[Zm,Zt,hl];omega),bL,hk,G6 _ _ _ (by omega)];congr 3;omega
abbrev cE (q:Nat) (key:Bs) (n:Nat):V:= .q [eY,.zz 1 n (k9 q key n)] 0
theorem GU {va:List Value} {key:Bs} (ha:va=bv key) (hk:key.length=16):a7 C 113 [eY,.z 16 va] [] (.ret (.o 1 (.k 0) 0 13)) [.mx (k9 0 key 13)]:=by
 subst ha;have hW:∀k,(d9 0 key k).1.length=16:=fun k=>(z4 0 (by omega) (by omega) k).1;have hP:∀k,(d9 0 key k).2.length=16:=fun k=>(z4 0 (by omega) (by omega) k).2;have h6:=uC (key:=key) (by omega);have h7:=uD (key:=key) (m:=0) (k:=16) (by omega) rfl (by decide);refine sL.c ?_;refine⟨by decide,?_⟩;refine⟨by decide,by decide,by decide,by decide,?_⟩;refine⟨by rw[k5,f9,j5,hk];rfl,by decide,Zc _,?_⟩;refine⟨by decide,by omega,Zc _,Zc _,?_⟩;refine⟨by rw[k5,f9,j5,hk];rfl,by decide,Zc _,?_⟩;refine⟨by decide,by decide,by decide,?_,_,rfl,?_⟩
 ·show 0+0*1<=(sub (bv key) 16 0).length;rw[k5,f9,j5];omega
 refine⟨Zc _,?_⟩;refine⟨[],_,_,_,_,dH (i:=0) rfl (by decide),rfl,rfl,?_⟩;refine⟨[],_,_,_,_,cM (k:=1) (b:=(d9 0 key 0).1) (key:=aC 0) rfl h6 (b9 (D3 _ (by decide))) (hW 0) (D3 _ (by decide)) (by decide) (by decide),rfl,rfl,?_⟩;refine⟨[],_,_,_,_,D5 (a:=I1 1 (d9 0 key 0).1 (aC 0)) (b:=(d9 0 key 0).2) (b9 (z6 _ _ _)) h7 (z6 _ _ _) (hP 0) (by decide),rfl,rfl,?_⟩;refine⟨by decide,by decide,Zf rfl,?_⟩;refine⟨by decide,by decide,_,rfl,?_⟩;refine⟨[],_,_,_,_,dH (i:=1) rfl (by decide),rfl,rfl,?_⟩;refine⟨[],_,_,_,_,cM (k:=2) (b:=(d9 0 key 1).1) (key:=aC 1) rfl (b9 (hW 1)) (b9 (D3 _ (by decide))) (hW 1) (D3 _ (by decide)) (by decide) (by decide),rfl,rfl,?_⟩;refine⟨[],_,_,_,_,D5 (a:=I1 2 (d9 0 key 1).1 (aC 1)) (b:=(d9 0 key 1).2) (b9 (z6 _ _ _)) h6 (z6 _ _ _) (hP 1) (by decide),rfl,rfl,?_⟩;refine⟨by decide,by decide,Zf rfl,?_⟩;refine⟨by decide,by decide,_,rfl,?_⟩;refine⟨[],_,_,_,_,dH (i:=2) rfl (by decide),rfl,rfl,?_⟩;refine⟨[],_,_,_,_,cM (k:=1) (b:=(d9 0 key 2).1) (key:=aC 2) rfl (b9 (hW 2)) (b9 (D3 _ (by decide))) (hW 2) (D3 _ (by decide)) (by decide) (by decide),rfl,rfl,?_⟩;refine⟨by decide,by decide,_,rfl,?_⟩;refine⟨[],_,_,_,_,D5 (a:=I1 1 (d9 0 key 2).1 (aC 2)) (b:=(d9 0 key 2).2) (b9 (z6 _ _ _)) (b9 (hW 1)) (z6 _ _ _) (hP 2) (by decide),rfl,rfl,?_⟩;refine⟨by decide,by decide,Zf rfl,?_⟩;refine A5 (fun r=>⟨[(5,i64 0),(8,.p (.k 1) 0),(9,.o 1 (.k 0) 0 r),(10,.z 5 [.int .i64 (-19),.int .i64 (-31),.int .i64 61,.int .i64 31,.int .i64 19]),(11,i64 r)],[.mx (k9 0 key r),.mx [k8 (d9 0 key 0).1,k8 (d9 0 key 1).1,k8 (d9 0 key 2).1,k8 (d9 0 key 3).1]]⟩) 13 [(9,1,.mx [])] ⟨[.d 900000 0,.d 8 0],⟨rfl,rfl,rfl,rfl,rfl,tq⟩,⟨_,rfl,rfl⟩,⟨_,rfl,?_⟩,tq⟩ fun r hr=> ?_
 ·show B.mx [V.z 16 (sub _ 0 16),V.z 16 (sub (bv (d9 0 key 1).1) 0 16),V.z 16 (sub (bv (d9 0 key 2).1) 0 16),V.z 16 (sub (bv (d9 0 key 3).1) 0 16)]=_;rw[b9 (hW 1),b9 (hW 2),b9 (hW 3)];exact congrArg (fun z=>B.mx [V.z 16 z,k8 (d9 0 key 1).1,k8 (d9 0 key 2).1,k8 (d9 0 key 3).1]) h6
 have he:I6.wrap (I6.wrap (2*0)+13)=13:=by decide
 refine b8 (fun h=> ?_) (fun h=> ?_)
 ·rw[he]at h;have a8:r<13:=(by omega);have e1:((r:Int)).tmod 4=((r%4:Nat):Int):=by rw[Zg (by omega)];omega
  have e2:(I6.wrap ((r:Int)+1)).tmod 4=(((r+1)%4:Nat):Int):=by
   rw[Za _ (by omega),Zg (by omega)];omega
  have e3:I6.wrap (((r:Int)).tdiv 4)=((r/4:Nat):Int):=by
   rw[Zi (by omega),Za _ (by omega)];omega
  have m1:=Zr r (show 4>0 by decide);have m2:=Zr (r+1) (show 4>0 by decide);refine⟨by decide,by rw[e1];omega,by rw[e1];omega,?_⟩;refine⟨_,by rw[e1,Zb,Zd,Ze];exact I9 (f:=fun k=>k8 (d9 0 key k).1) rfl rfl rfl rfl m1,?_⟩;refine⟨by decide,by rw[e2];omega,by rw[e2];omega,?_⟩;refine⟨_,by rw[e2,Zb,Zd,Ze];exact I9 (f:=fun k=>k8 (d9 0 key k).1) rfl rfl rfl rfl m2,?_⟩;refine⟨by decide,by rw[e3];omega,by rw[e3];omega,?_⟩;refine⟨_,by rw[e3,Zb];exact qW (by omega),?_⟩;refine⟨[],_,_,_,_,kQ (b:=(d9 0 key ((r+1)%4)).1) (n:=R6 (r/4)) rfl (hW _) (by decide) (by decide) (iI (by omega)),rfl,rfl,?_⟩;refine⟨[],_,_,_,_,D5 (a:=(d9 0 key (r%4)).1) (b:=G7 (d9 0 key ((r+1)%4)).1 (R6 (r/4)%128).toNat) rfl (b9 (by rw[E5,hW])) (hW _) (by rw[E5,hW]) (by decide),rfl,rfl,?_⟩;refine⟨Zc _,by omega,by rw[k9,Zq,aW];omega,?_⟩;have hs0:sub (k9 0 key r) 0 (r*1)=k9 0 key r:=by rw[Zd,E0 (by rw[k9,Zq,aW])]
  have hst:k9 0 key r++[V.z 16 (sub (bv (o6 0 key r)) 0 16)]=k9 0 key (r+1):=by
   rw[b9 (by rw[o6];exact t9 (hW _) (by rw[E5,hW])),k9,k9,iL,Zl];rfl
  refine⟨r+1,by omega,by omega,[.d 85 0,.k 1],⟨rfl,rfl,rfl,rfl,c9 (by simp(disch:=omega)only[Za];omega),tq⟩,⟨_,rfl,?_⟩,⟨_,rfl,rfl⟩,tq⟩;show B.mx (Zv (l7 _ _ 6) (sub (k9 0 key r) 0 (r*1)++[V.o _ _ _ _]))=_;rw[Zl,hs0,aV];exact congrArg B.mx hst
 ·rw[he]at h;obtain rfl:r=13:=(by omega);refine⟨_,rfl,[.k 0],rfl,⟨_,rfl,?_⟩,tq⟩;show B.mx (Zv (l7 _ _ 6) (k9 0 key 13))=_;rw[aV]
theorem GX {va:List Value} {key:Bs} (ha:va=bv key) (hk:key.length=16):a7 C 57 [.z 16 va] [] (.ret (.t [cE 0 key 13,i64 0])) []:=by
 refine sM.c ?_;refine⟨[],_,_,_,_,rT,rfl,rfl,?_⟩;refine⟨[],_,_,_,_,GU (va:=va) ha hk,rfl,rfl,?_⟩;exact⟨_,rfl,[],rfl,tq⟩
theorem GV {va:List Value} {key:Bs} (ha:va=bv key) (hk:key.length=24):a7 C 113 [eY,.z 24 va] [] (.ret (.o 1 (.k 0) 0 15)) [.mx (k9 1 key 15)]:=by
 subst ha;have hW:∀k,(d9 1 key k).1.length=16:=fun k=>(z4 1 (by omega) (by omega) k).1;have hP:∀k,(d9 1 key k).2.length=16:=fun k=>(z4 1 (by omega) (by omega) k).2;have h6:=uC (key:=key) (by omega);have h7:=uD (key:=key) (m:=8) (k:=8) (by omega) rfl (by decide);refine sL.c ?_;refine⟨by decide,?_⟩;refine⟨by decide,by decide,by decide,by decide,?_⟩;refine⟨by rw[k5,f9,j5,hk];rfl,by decide,Zc _,?_⟩;refine⟨by decide,by omega,Zc _,Zc _,?_⟩;refine⟨by rw[k5,f9,j5,hk];rfl,by decide,Zc _,?_⟩;refine⟨by decide,by decide,by decide,?_,_,rfl,?_⟩
 ·show 0+8*1<=(sub (bv key) 16 8).length;rw[k5,f9,j5];omega
 refine⟨Zc _,?_⟩;refine⟨[],_,_,_,_,dH (i:=1) rfl (by decide),rfl,rfl,?_⟩;refine⟨[],_,_,_,_,cM (k:=1) (b:=(d9 1 key 0).1) (key:=aC 1) rfl h6 (b9 (D3 _ (by decide))) (hW 0) (D3 _ (by decide)) (by decide) (by decide),rfl,rfl,?_⟩;refine⟨[],_,_,_,_,D5 (a:=I1 1 (d9 1 key 0).1 (aC 1)) (b:=(d9 1 key 0).2) (b9 (z6 _ _ _)) h7 (z6 _ _ _) (hP 0) (by decide),rfl,rfl,?_⟩;refine⟨by decide,by decide,Zf rfl,?_⟩;refine⟨by decide,by decide,_,rfl,?_⟩;refine⟨[],_,_,_,_,dH (i:=2) rfl (by decide),rfl,rfl,?_⟩;refine⟨[],_,_,_,_,cM (k:=2) (b:=(d9 1 key 1).1) (key:=aC 2) rfl (b9 (hW 1)) (b9 (D3 _ (by decide))) (hW 1) (D3 _ (by decide)) (by decide) (by decide),rfl,rfl,?_⟩;refine⟨[],_,_,_,_,D5 (a:=I1 2 (d9 1 key 1).1 (aC 2)) (b:=(d9 1 key 1).2) (b9 (z6 _ _ _)) h6 (z6 _ _ _) (hP 1) (by decide),rfl,rfl,?_⟩;refine⟨by decide,by decide,Zf rfl,?_⟩;refine⟨by decide,by decide,_,rfl,?_⟩;refine⟨[],_,_,_,_,dH (i:=3) rfl (by decide),rfl,rfl,?_⟩;refine⟨[],_,_,_,_,cM (k:=1) (b:=(d9 1 key 2).1) (key:=aC 0) rfl (b9 (hW 2)) (b9 (D3 _ (by decide))) (hW 2) (D3 _ (by decide)) (by decide) (by decide),rfl,rfl,?_⟩;refine⟨by decide,by decide,_,rfl,?_⟩;refine⟨[],_,_,_,_,D5 (a:=I1 1 (d9 1 key 2).1 (aC 0)) (b:=(d9 1 key 2).2) (b9 (z6 _ _ _)) (b9 (hW 1)) (z6 _ _ _) (hP 2) (by decide),rfl,rfl,?_⟩;refine⟨by decide,by decide,Zf rfl,?_⟩;refine A5 (fun r=>⟨[(5,i64 1),(8,.p (.k 1) 0),(9,.o 1 (.k 0) 0 r),(10,.z 5 [.int .i64 (-19),.int .i64 (-31),.int .i64 61,.int .i64 31,.int .i64 19]),(11,i64 r)],[.mx (k9 1 key r),.mx [k8 (d9 1 key 0).1,k8 (d9 1 key 1).1,k8 (d9 1 key 2).1,k8 (d9 1 key 3).1]]⟩) 15 [(9,1,.mx [])] ⟨[.d 900000 0,.d 8 0],⟨rfl,rfl,rfl,rfl,rfl,tq⟩,⟨_,rfl,rfl⟩,⟨_,rfl,?_⟩,tq⟩ fun r hr=> ?_
 ·show B.mx [V.z 16 (sub _ 0 16),V.z 16 (sub (bv (d9 1 key 1).1) 0 16),V.z 16 (sub (bv (d9 1 key 2).1) 0 16),V.z 16 (sub (bv (d9 1 key 3).1) 0 16)]=_;rw[b9 (hW 1),b9 (hW 2),b9 (hW 3)];exact congrArg (fun z=>B.mx [V.z 16 z,k8 (d9 1 key 1).1,k8 (d9 1 key 2).1,k8 (d9 1 key 3).1]) h6
 have he:I6.wrap (I6.wrap (2*1)+13)=15:=by decide
 refine b8 (fun h=> ?_) (fun h=> ?_)
 ·rw[he]at h;have a8:r<15:=(by omega);have e1:((r:Int)).tmod 4=((r%4:Nat):Int):=by rw[Zg (by omega)];omega
  have e2:(I6.wrap ((r:Int)+1)).tmod 4=(((r+1)%4:Nat):Int):=by
   rw[Za _ (by omega),Zg (by omega)];omega
  have e3:I6.wrap (((r:Int)).tdiv 4)=((r/4:Nat):Int):=by
   rw[Zi (by omega),Za _ (by omega)];omega
  have m1:=Zr r (show 4>0 by decide);have m2:=Zr (r+1) (show 4>0 by decide);refine⟨by decide,by rw[e1];omega,by rw[e1];omega,?_⟩;refine⟨_,by rw[e1,Zb,Zd,Ze];exact I9 (f:=fun k=>k8 (d9 1 key k).1) rfl rfl rfl rfl m1,?_⟩;refine⟨by decide,by rw[e2];omega,by rw[e2];omega,?_⟩;refine⟨_,by rw[e2,Zb,Zd,Ze];exact I9 (f:=fun k=>k8 (d9 1 key k).1) rfl rfl rfl rfl m2,?_⟩;refine⟨by decide,by rw[e3];omega,by rw[e3];omega,?_⟩;refine⟨_,by rw[e3,Zb];exact qW (by omega),?_⟩;refine⟨[],_,_,_,_,kQ (b:=(d9 1 key ((r+1)%4)).1) (n:=R6 (r/4)) rfl (hW _) (by decide) (by decide) (iI (by omega)),rfl,rfl,?_⟩;refine⟨[],_,_,_,_,D5 (a:=(d9 1 key (r%4)).1) (b:=G7 (d9 1 key ((r+1)%4)).1 (R6 (r/4)%128).toNat) rfl (b9 (by rw[E5,hW])) (hW _) (by rw[E5,hW]) (by decide),rfl,rfl,?_⟩;refine⟨Zc _,by omega,by rw[k9,Zq,aW];omega,?_⟩;have hs0:sub (k9 1 key r) 0 (r*1)=k9 1 key r:=by rw[Zd,E0 (by rw[k9,Zq,aW])]
  have hst:k9 1 key r++[V.z 16 (sub (bv (o6 1 key r)) 0 16)]=k9 1 key (r+1):=by
   rw[b9 (by rw[o6];exact t9 (hW _) (by rw[E5,hW])),k9,k9,iL,Zl];rfl
  refine⟨r+1,by omega,by omega,[.d 85 0,.k 1],⟨rfl,rfl,rfl,rfl,c9 (by simp(disch:=omega)only[Za];omega),tq⟩,⟨_,rfl,?_⟩,⟨_,rfl,rfl⟩,tq⟩;show B.mx (Zv (l7 _ _ 6) (sub (k9 1 key r) 0 (r*1)++[V.o _ _ _ _]))=_;rw[Zl,hs0,aV];exact congrArg B.mx hst
 ·rw[he]at h;obtain rfl:r=15:=(by omega);refine⟨_,rfl,[.k 0],rfl,⟨_,rfl,?_⟩,tq⟩;show B.mx (Zv (l7 _ _ 6) (k9 1 key 15))=_;rw[aV]
theorem GY {va:List Value} {key:Bs} (ha:va=bv key) (hk:key.length=24):a7 C 57 [.z 24 va] [] (.ret (.t [cE 1 key 15,i64 0])) []:=by
 refine sM.c ?_;refine⟨[],_,_,_,_,rT,rfl,rfl,?_⟩;refine⟨[],_,_,_,_,GV (va:=va) ha hk,rfl,rfl,?_⟩;exact⟨_,rfl,[],rfl,tq⟩
theorem GW {va:List Value} {key:Bs} (ha:va=bv key) (hk:key.length=32):a7 C 113 [eY,.z 32 va] [] (.ret (.o 1 (.k 0) 0 17)) [.mx (k9 2 key 17)]:=by
 subst ha;have hW:∀k,(d9 2 key k).1.length=16:=fun k=>(z4 2 (by omega) (by omega) k).1;have hP:∀k,(d9 2 key k).2.length=16:=fun k=>(z4 2 (by omega) (by omega) k).2;have h6:=uC (key:=key) (by omega);have h7:=uD (key:=key) (m:=16) (k:=0) (by omega) rfl (by decide);refine sL.c ?_;refine⟨by decide,?_⟩;refine⟨by decide,by decide,by decide,by decide,?_⟩;refine⟨by rw[k5,f9,j5,hk];rfl,by decide,Zc _,?_⟩;refine⟨by decide,by omega,Zc _,Zc _,?_⟩;refine⟨by rw[k5,f9,j5,hk];rfl,by decide,Zc _,?_⟩;refine⟨by decide,by decide,by decide,?_,_,rfl,?_⟩
 ·show 0+16*1<=(sub (bv key) 16 16).length;rw[k5,f9,j5];omega
 refine⟨Zc _,?_⟩;refine⟨[],_,_,_,_,dH (i:=2) rfl (by decide),rfl,rfl,?_⟩;refine⟨[],_,_,_,_,cM (k:=1) (b:=(d9 2 key 0).1) (key:=aC 2) rfl h6 (b9 (D3 _ (by decide))) (hW 0) (D3 _ (by decide)) (by decide) (by decide),rfl,rfl,?_⟩;refine⟨[],_,_,_,_,D5 (a:=I1 1 (d9 2 key 0).1 (aC 2)) (b:=(d9 2 key 0).2) (b9 (z6 _ _ _)) h7 (z6 _ _ _) (hP 0) (by decide),rfl,rfl,?_⟩;refine⟨by decide,by decide,Zf rfl,?_⟩;refine⟨by decide,by decide,_,rfl,?_⟩;refine⟨[],_,_,_,_,dH (i:=3) rfl (by decide),rfl,rfl,?_⟩;refine⟨[],_,_,_,_,cM (k:=2) (b:=(d9 2 key 1).1) (key:=aC 0) rfl (b9 (hW 1)) (b9 (D3 _ (by decide))) (hW 1) (D3 _ (by decide)) (by decide) (by decide),rfl,rfl,?_⟩;refine⟨[],_,_,_,_,D5 (a:=I1 2 (d9 2 key 1).1 (aC 0)) (b:=(d9 2 key 1).2) (b9 (z6 _ _ _)) h6 (z6 _ _ _) (hP 1) (by decide),rfl,rfl,?_⟩;refine⟨by decide,by decide,Zf rfl,?_⟩;refine⟨by decide,by decide,_,rfl,?_⟩;refine⟨[],_,_,_,_,dH (i:=4) rfl (by decide),rfl,rfl,?_⟩;refine⟨[],_,_,_,_,cM (k:=1) (b:=(d9 2 key 2).1) (key:=aC 1) rfl (b9 (hW 2)) (b9 (D3 _ (by decide))) (hW 2) (D3 _ (by decide)) (by decide) (by decide),rfl,rfl,?_⟩;refine⟨by decide,by decide,_,rfl,?_⟩;refine⟨[],_,_,_,_,D5 (a:=I1 1 (d9 2 key 2).1 (aC 1)) (b:=(d9 2 key 2).2) (b9 (z6 _ _ _)) (b9 (hW 1)) (z6 _ _ _) (hP 2) (by decide),rfl,rfl,?_⟩;refine⟨by decide,by decide,Zf rfl,?_⟩;refine A5 (fun r=>⟨[(5,i64 2),(8,.p (.k 1) 0),(9,.o 1 (.k 0) 0 r),(10,.z 5 [.int .i64 (-19),.int .i64 (-31),.int .i64 61,.int .i64 31,.int .i64 19]),(11,i64 r)],[.mx (k9 2 key r),.mx [k8 (d9 2 key 0).1,k8 (d9 2 key 1).1,k8 (d9 2 key 2).1,k8 (d9 2 key 3).1]]⟩) 17 [(9,1,.mx [])] ⟨[.d 900000 0,.d 8 0],⟨rfl,rfl,rfl,rfl,rfl,tq⟩,⟨_,rfl,rfl⟩,⟨_,rfl,?_⟩,tq⟩ fun r hr=> ?_
 ·show B.mx [V.z 16 (sub _ 0 16),V.z 16 (sub (bv (d9 2 key 1).1) 0 16),V.z 16 (sub (bv (d9 2 key 2).1) 0 16),V.z 16 (sub (bv (d9 2 key 3).1) 0 16)]=_;rw[b9 (hW 1),b9 (hW 2),b9 (hW 3)];exact congrArg (fun z=>B.mx [V.z 16 z,k8 (d9 2 key 1).1,k8 (d9 2 key 2).1,k8 (d9 2 key 3).1]) h6
 have he:I6.wrap (I6.wrap (2*2)+13)=17:=by decide
 refine b8 (fun h=> ?_) (fun h=> ?_)
 ·rw[he]at h;have a8:r<17:=(by omega);have e1:((r:Int)).tmod 4=((r%4:Nat):Int):=by rw[Zg (by omega)];omega
  have e2:(I6.wrap ((r:Int)+1)).tmod 4=(((r+1)%4:Nat):Int):=by
   rw[Za _ (by omega),Zg (by omega)];omega
  have e3:I6.wrap (((r:Int)).tdiv 4)=((r/4:Nat):Int):=by
   rw[Zi (by omega),Za _ (by omega)];omega
  have m1:=Zr r (show 4>0 by decide);have m2:=Zr (r+1) (show 4>0 by decide);refine⟨by decide,by rw[e1];omega,by rw[e1];omega,?_⟩;refine⟨_,by rw[e1,Zb,Zd,Ze];exact I9 (f:=fun k=>k8 (d9 2 key k).1) rfl rfl rfl rfl m1,?_⟩;refine⟨by decide,by rw[e2];omega,by rw[e2];omega,?_⟩;refine⟨_,by rw[e2,Zb,Zd,Ze];exact I9 (f:=fun k=>k8 (d9 2 key k).1) rfl rfl rfl rfl m2,?_⟩;refine⟨by decide,by rw[e3];omega,by rw[e3];omega,?_⟩;refine⟨_,by rw[e3,Zb];exact qW (by omega),?_⟩;refine⟨[],_,_,_,_,kQ (b:=(d9 2 key ((r+1)%4)).1) (n:=R6 (r/4)) rfl (hW _) (by decide) (by decide) (iI (by omega)),rfl,rfl,?_⟩;refine⟨[],_,_,_,_,D5 (a:=(d9 2 key (r%4)).1) (b:=G7 (d9 2 key ((r+1)%4)).1 (R6 (r/4)%128).toNat) rfl (b9 (by rw[E5,hW])) (hW _) (by rw[E5,hW]) (by decide),rfl,rfl,?_⟩;refine⟨Zc _,by omega,by rw[k9,Zq,aW];omega,?_⟩;have hs0:sub (k9 2 key r) 0 (r*1)=k9 2 key r:=by rw[Zd,E0 (by rw[k9,Zq,aW])]
  have hst:k9 2 key r++[V.z 16 (sub (bv (o6 2 key r)) 0 16)]=k9 2 key (r+1):=by
   rw[b9 (by rw[o6];exact t9 (hW _) (by rw[E5,hW])),k9,k9,iL,Zl];rfl
  refine⟨r+1,by omega,by omega,[.d 85 0,.k 1],⟨rfl,rfl,rfl,rfl,c9 (by simp(disch:=omega)only[Za];omega),tq⟩,⟨_,rfl,?_⟩,⟨_,rfl,rfl⟩,tq⟩;show B.mx (Zv (l7 _ _ 6) (sub (k9 2 key r) 0 (r*1)++[V.o _ _ _ _]))=_;rw[Zl,hs0,aV];exact congrArg B.mx hst
 ·rw[he]at h;obtain rfl:r=17:=(by omega);refine⟨_,rfl,[.k 0],rfl,⟨_,rfl,?_⟩,tq⟩;show B.mx (Zv (l7 _ _ 6) (k9 2 key 17))=_;rw[aV]
theorem GZ {va:List Value} {key:Bs} (ha:va=bv key) (hk:key.length=32):a7 C 57 [.z 32 va] [] (.ret (.t [cE 2 key 17,i64 0])) []:=by
 refine sM.c ?_;refine⟨[],_,_,_,_,rT,rfl,rfl,?_⟩;refine⟨[],_,_,_,_,GW (va:=va) ha hk,rfl,rfl,?_⟩;exact⟨_,rfl,[],rfl,tq⟩
theorem GT {va:List Value} {b key:Bs} {q n:Nat} (h:ak q key n) (ha:va=bv b) (hb:b.length=16):a7 C 156 [cE q key n,.z 16 va,bool false] [] (y4 16) [.sc (bv (cD q key n b))]:=by
 subst ha;have h3:=h.h3;have h4:=h.h4;have kl:=dy h;have h':=h;refine sK.c ?_;refine⟨_,rfl,?_⟩;refine j4 (fun i=>⟨[(0,cE q key n),(1,k8 (N8 q key b i)),(8,i64 (n-2:Nat)),(10,i64 i)],[]⟩) (n-2) ⟨[],⟨rfl,rfl,c9 ?_,rfl,tq⟩,tq⟩ fun i hi=> ?_
 ·rw[Za _ (by omega)];omega
 have hel:=kC h hb i;refine b8 (fun h=> ?_) (fun h=> ?_)
 ·have a8:i<n-2:=(by omega);have e1:I6.wrap (1+(i:Int).tmod 2)=((1+i%2:Nat):Int):=by
   rw[Zg (by omega),Za _ (by omega)];omega
  refine⟨_,rfl,by decide,_,rfl,by omega,by omega,?_⟩;refine⟨_,by rw[Zb,Zd];exact aU (by omega),?_⟩;refine⟨[],_,_,_,_,cM (b:=N8 q key b i) (key:=o6 q key i) (k:=1+i%2) e1 rfl rfl hel (kl i) (by omega) (by omega),rfl,rfl,?_⟩;refine⟨i+1,by omega,by omega,[],⟨rfl,?_,rfl,c9 (by simp(disch:=omega)only[Za];omega),tq⟩,tq⟩;show V.z 16 (sub (bv (N8 q key b (i+1))) 0 16)=_;rw[b9 (kC h' hb _)]
 ·obtain rfl:i=n-2:=(by omega);have e0:I6.wrap (((n-2:Nat):Int)+1)=((n-1:Nat):Int):=by rw[Za _ (by omega)];omega
  refine⟨_,rfl,_,rfl,by omega,by omega,?_⟩;refine⟨_,by rw[Zb,Zd];exact aU (by omega),?_⟩;refine⟨[],_,_,_,_,D5 (a:=N8 q key b (n-2)) (b:=o6 q key (n-2)) rfl rfl hel (kl _) (by decide),rfl,rfl,?_⟩;have hx:=t9 hel (kl (n-2));refine⟨[],_,_,_,_,nF (k:=2) (b:=f6 (N8 q key b (n-2)) (o6 q key (n-2))) rfl (b9 hx) hx (by decide) (by decide),rfl,rfl,?_⟩;refine⟨_,rfl,by rw[e0];omega,by rw[e0];omega,?_⟩;refine⟨_,by rw[e0,Zb,Zd];exact aU (by omega),?_⟩;have hl:=M5 2 (f6 (N8 q key b (n-2)) (o6 q key (n-2))) 16;refine⟨[],_,_,_,_,D5 (b:=o6 q key (n-1)) (b9 hl) rfl hl (kl _) (by decide),rfl,rfl,?_⟩;exact⟨_,rfl,[.d 113 0],rfl,⟨_,rfl,rfl⟩,tq⟩
theorem GR {va:List Value} {b key:Bs} {q n:Nat} (h:ak q key n) (ha:va=bv b) (hb:b.length=16):a7 C 156 [cE q key n,.z 16 va,bool true] [] (y4 16) [.sc (bv (eW q key n b))]:=by
 subst ha;have h3:=h.h3;have h4:=h.h4;have kl:=dy h;have h':=h;have ea:I6.wrap ((n:Int)-2)=((n-2:Nat):Int):=by rw[Za _ (by omega)];omega
 have e0:I6.wrap (((n-2:Nat):Int)+1)=((n-1:Nat):Int):=by rw[Za _ (by omega)];omega
 refine sK.c ?_;refine⟨_,rfl,?_⟩;refine⟨_,rfl,by rw[ea,e0];omega,by rw[ea,e0];omega,?_⟩;refine⟨_,by rw[ea,e0,Zb,Zd];exact aU (by omega),?_⟩;refine⟨[],_,_,_,_,D5 (a:=b) (b:=o6 q key (n-1)) rfl rfl hb (kl _) (by decide),rfl,rfl,?_⟩;have hx:=t9 hb (kl (n-1));refine⟨_,rfl,?_⟩;refine⟨[],_,_,_,_,nF (k:=1) (b:=f6 b (o6 q key (n-1))) rfl (b9 hx) hx (by decide) (by decide),rfl,rfl,?_⟩;refine⟨_,rfl,by rw[ea];omega,by rw[ea];omega,?_⟩;refine⟨_,by rw[ea,Zb,Zd];exact aU (by omega),?_⟩;have hl:=M5 1 (f6 b (o6 q key (n-1))) 16;refine⟨[],_,_,_,_,D5 (b:=o6 q key (n-2)) (b9 hl) rfl hl (kl _) (by decide),rfl,rfl,?_⟩;refine j4 (fun i=>⟨[(0,cE q key n),(1,.o 1 (.k 0) 0 16),(9,i64 ((n:Int)-3-i))],[.sc (bv (M4 q key n b i))]⟩) (n-2) ⟨[.d 44 0],⟨rfl,rfl,c9 ?_,tq⟩,⟨_,rfl,rfl⟩,tq⟩ fun i hi=> ?_
 ·rw[ea,Za _ (by omega)];omega
 have hdl:=nb (b:=b) h i;refine b8 (fun h=> ?_) (fun h=> ?_)
 ·obtain⟨r,er,hrn,hri⟩:∃r:Nat,(n:Int)-3-i=r/\r<=n-3/\r=n-3-i:=⟨n-3-i,by omega,by omega,rfl⟩;have hst:M4 q key n b (i+1)=f6 (C0 (2-r%2) (D4 (M4 q key n b i)) 16) (o6 q key r):=by rw[hri];rfl
  rw[er];have e1:I6.wrap (2-(r:Int).tmod 2)=((2-r%2:Nat):Int):=by
   rw[Zg (by omega),Za _ (by omega)];omega
  refine⟨_,rfl,by decide,?_⟩;refine⟨[],_,_,_,_,wV (b:=M4 q key n b i) (b9 hdl) hdl,rfl,rfl,?_⟩;have hm:=qQ (M4 q key n b i);refine⟨[],_,_,_,_,nF (k:=2-r%2) (b:=D4 (M4 q key n b i)) e1 (b9 hm) hm (by omega) (by omega),rfl,rfl,?_⟩;refine⟨_,rfl,by omega,by omega,?_⟩;refine⟨_,by rw[Zb,Zd];exact aU (by omega),?_⟩;have hl:=M5 (2-r%2) (D4 (M4 q key n b i)) 16;refine⟨[],_,_,_,_,D5 (b:=o6 q key r) (b9 hl) rfl hl (kl _) (by decide),rfl,rfl,?_⟩;refine⟨i+1,by omega,by omega,[.d 68 0],⟨rfl,rfl,c9 ?_,tq⟩,⟨_,rfl,d8 (by rw[hst])⟩,tq⟩
  ·rw[Za _ (by omega)];omega
 ·obtain rfl:i=n-2:=(by omega);exact⟨_,rfl,[.k 0],rfl,⟨_,rfl,rfl⟩,tq⟩
theorem GQ {va:List Value} {key:Bs} {q n m:Nat} {back:Bool} (hn:m≠16):a7 C 156 [cE q key n,.z m va,bool back] [] P3 []:=by
 refine sK.c ?_;refine n7 (fun h=> ?_) (fun h=>absurd (by omega) hn);exact⟨_,rfl,[],rfl,tq⟩
theorem wj:∀x:Nat,x<256->∀k:Nat,k<8->I6.wrap ((Zh I6.bits (I6.wrap (((x:Nat):Int).fdiv (2^(min ((k:Nat):Int).toNat U8.bits))))&&&Zh I6.bits 1).toNat:Int)=(((x.testBit k).toNat:Nat):Int):=by decide +kernel
theorem nu {va:List Value} {b:Bs} {l n:Nat} {x:Int} (hx:x=n) (ha:va=bv b) (hl:b.length=l) (hm:l<=1000000) (h1:1<=n) (h2:(n-1)/8<l):a7 C 233 [.z l va,i64 x] [] (.ret (i64 ((tb b (n-1)).toNat:Nat))) []:=by
 subst ha;subst hx;have e0:I6.wrap ((n:Int)-1)=((n-1:Nat):Int):=by rw[Za _ (by omega)];omega
 have e1:I6.wrap ((I6.wrap ((n:Int)-1)).tdiv 8)=(((n-1)/8:Nat):Int):=by
  rw[e0,Zi (by omega),Za _ (by omega)];omega
 have e2:I6.wrap (7-(I6.wrap ((n:Int)-1)).tmod 8)=((7-(n-1)%8:Nat):Int):=by
  rw[e0,Zg (by omega),Za _ (by omega)];omega
 refine LU.c ?_;refine b8 (fun h=> ?_) (fun h=> ?_)
 ·omega
 refine⟨by decide,?_⟩;refine b8 (fun h=> ?_) (fun h=> ?_)
 ·rw[e1]at h;omega
 refine⟨by decide,by rw[e1];omega,by rw[e1];omega,?_⟩;refine⟨_,by rw[e1,Zb];exact y7 (by omega),?_⟩;refine⟨by decide,by rw[e2];omega,?_⟩;refine⟨_,rfl,[],c9 ?_,tq⟩;rw[e2];exact wj _ (UInt8.toNat_lt _) _ (by omega)
def A3 (t:List Nat) (b:Bs):Bs:=W1 (t.length/8) fun j=>tb b (t.getD j 0-1)
theorem dl (t b):(A3 t b).length=t.length/8:=eC _ _
def dn (t:List Nat) (b:Bs) (i:Nat) (j:Nat):Bool:=decide (j<i)&&tb b (t.getD j 0-1)
def M8 (t:List Nat) (b:Bs) (i:Nat):Bs:=W1 (t.length/8) (dn t b i)
theorem iu (t b i):(M8 t b i).length=t.length/8:=eC _ _
theorem AF (t b):M8 t b 0=Zo (t.length/8) 0:=by
 apply Zw (by simp[M8,W1]);intro j h1 h2;simp[M8,W1,dn,bR]
theorem AD (t b):M8 t b t.length=A3 t b:=by
 apply Zu;intro q hq;have hq:=Z5.1 hq;show bR _=bR _;simp only[bR,dn];rw[decide_eq_true (by omega),decide_eq_true (by omega),decide_eq_true (by omega),decide_eq_true (by omega),decide_eq_true (by omega),decide_eq_true (by omega),decide_eq_true (by omega),decide_eq_true (by omega)];simp only[Bool.true_and]
theorem Tl:∀v:Bool,∀k,k<8->U8.wrap (I6.wrap (((v.toNat:Nat):Int)*2^(min ((k:Nat):Int).toNat I6.bits)))=(((Zp (v.toNat*2^k)).toNat:Nat):Int):=by decide +kernel
theorem ED:∀v:Bool,∀k,k<8->∀r,r<8->(Zp (v.toNat*2^k)).toNat.testBit r=(v&&decide (r=k)):=by decide +kernel
theorem AE {t:List Nat} {b:Bs} {i:Nat} (h:i<t.length) (ht:t.length%8=0):
  (M8 t b i).set (i/8) ((M8 t b i).getD (i/8) 0|||Zp ((tb b (t.getD i 0-1)).toNat*2^(7-i%8)))=M8 t b (i+1):=by
 have hq:i/8<t.length/8:=by omega
 apply Zw (by simp[iu]);intro q h1 h2;rw[Z2];have m6:q<t.length/8:=by rw[iu]at h2;exact h2
 split
 ·rename_i he;subst he;have hg:(M8 t b i).getD (i/8) 0=bR fun r=>dn t b i (8*(i/8)+r):=by
   simp[M8,W1,hq]
  have hg2:(M8 t b (i+1))[i/8]=bR fun r=>dn t b (i+1) (8*(i/8)+r):=by
   simp[M8,W1]
  rw[hg,hg2];apply uO;intro r hr;rw[UInt8.toNat_or,Nat.testBit_or,kM _ hr,kM _ hr,ED _ _ (by omega) _ (by omega)];simp only[dn];by_cases h3:8*(i/8)+r=i
  ·rw[h3,decide_eq_false (by omega),decide_eq_true (by omega),decide_eq_true (by omega)];simp
  ·rw[decide_eq_false (show ¬(7-r=7-i%8) by omega)];by_cases h4:8*(i/8)+r<i
   ·rw[decide_eq_true h4,decide_eq_true (by omega)];simp
   ·rw[decide_eq_false h4,decide_eq_false (by omega)];simp
 ·rename_i he;have hg:(M8 t b i)[q]'(by rw[iu];exact m6)=bR fun r=>dn t b i (8*q+r):=by
   simp[M8,W1]
  have hg2:(M8 t b (i+1))[q]=bR fun r=>dn t b (i+1) (8*q+r):=by
   simp[M8,W1]
  rw[hg,hg2];apply uO;intro r hr;rw[kM _ hr,kM _ hr];simp only[dn];congr 1;exact decide_eq_decide.2 (by omega)
theorem kP {va vt:List Value} {b:Bs} {t:List Nat} {l n:Nat} (ha:va=bv b) (hvt:vt=nv t) (hl:b.length=l) (ht:t.length=n) (hm:l<=1000000) (hn:n<=1000000) (h8:n%8=0) (hall:∀i,i<n->1<=t.getD i 0/\t.getD i 0<=8*l):a7 C 185 [.z l va,.z n vt] [] (.ret (.t [.o 1 (.k 0) 0 (n/8),bool true])) [.sc (bv (A3 t b))]:=by
 subst ha;subst hvt;subst ht;have e0:I6.wrap ((I6.wrap (I6.wrap ((t.length:Int)+8)-1)).tdiv 8)=((t.length/8:Nat):Int):=by
  rw[Za ((t.length:Int)+8) (by omega),Za ((t.length:Int)+8-1) (by omega),Zi (by omega),Za _ (by omega)];omega
 refine LX.c ?_;refine⟨by decide,?_⟩;rw[e0];refine⟨by omega,by omega,by omega,?_⟩;refine j4 (fun i=>⟨[(0,.z l (bv b)),(1,.z t.length (nv t)),(6,.o 1 (.k 0) 0 (t.length/8)),(15,i64 t.length),(16,i64 i)],[.sc (bv (M8 t b i))]⟩) t.length ⟨[.d 13 0],⟨rfl,rfl,rfl,rfl,rfl,tq⟩,⟨_,rfl,d8 ?_⟩,tq⟩ fun i hi=> ?_
 ·show Zo ((t.length/8:Nat):Int).toNat (Value.int .u8 0)=_;rw[Zb,AF,P4]
 refine b8 (fun h=> ?_) (fun h=> ?_)
 ·have a8:i<t.length:=(by omega);obtain⟨g1,g2⟩:=hall i a8;refine⟨by omega,by omega,?_⟩;refine⟨_,by rw[Zb];exact S3 a8,?_⟩;refine b8 (fun h=> ?_) (fun h=> ?_)
  ·omega
  have e1:I6.wrap ((I6.wrap (((t.getD i 0:Nat):Int)-1)).tdiv 8)=(((t.getD i 0-1)/8:Nat):Int):=by
   rw[Za (((t.getD i 0:Nat):Int)-1) (by omega),Zi (by omega),Za _ (by omega)];omega
  have e2:I6.wrap ((i:Int).tdiv 8)=((i/8:Nat):Int):=by
   rw[Zi (by omega),Za _ (by omega)];omega
  have e3:I6.wrap (7-(i:Int).tmod 8)=((7-i%8:Nat):Int):=by
   rw[Zg (by omega),Za _ (by omega)];omega
  refine⟨by omega,by omega,?_⟩;refine⟨_,by rw[Zb];exact S3 a8,?_⟩;refine⟨by decide,?_⟩;refine b8 (fun h=> ?_) (fun h=> ?_)
  ·rw[e1]at h;omega
  refine⟨by decide,by rw[e2];omega,by rw[e2];omega,?_⟩;refine⟨_,by rw[e2,Zb,Zd,Ze];exact y7 (by rw[iu];omega),?_⟩;refine⟨by omega,by omega,?_⟩;refine⟨_,by rw[Zb];exact S3 a8,?_⟩;refine⟨[],_,_,_,_,nu (b:=b) rfl rfl hl hm g1 (by omega),rfl,rfl,?_⟩;refine⟨by decide,by rw[e3];omega,by rw[e2];omega,by rw[e2];omega,by rw[e2,f9,iu];omega,?_⟩;refine⟨i+1,by omega,by omega,[.k 0],⟨rfl,rfl,rfl,rfl,c9 (by simp(disch:=omega)only[Za];omega),tq⟩,⟨_,rfl,d8 ?_⟩,tq⟩;rw[e2,e3,Zb,Zd,Ze,Tl _ _ (by omega),qd,K3,AE a8 (by omega)]
 ·obtain rfl:i=t.length:=(by omega);refine⟨_,rfl,[.k 0],rfl,⟨_,rfl,d8 ?_⟩,tq⟩;rw[AD]
def u7 (s st bk:Int):Nat->Int
 |0=>s
 |k+1=>if u7 s st bk k-st<1 then u7 s st bk k-st+(st+bk)else u7 s st bk k-st
def A2 (s st bk:Int) (n:Nat):List Int:=(List.range n).map (u7 s st bk)
theorem oj (s st bk n):A2 s st bk (n+1)=A2 s st bk n++[u7 s st bk n]:=by simp[A2,Zn]
theorem cY (s st bk n):(A2 s st bk n).length=n:=by simp[A2]
def LC (l:List Int) (n x8:Nat) (s st bk:Int) (i:Nat):D:=match i with
 |0=>⟨[(0,.o 1 (.k 0) 0 n),(2,i64 st),(3,i64 bk),(11,i64 s),(13,i64 x8),(14,i64 (0:Nat))],[.sc (iv l)]⟩
 |k+1=>⟨[(0,.o 1 (.k 1) 0 (n+(k+1))),(2,i64 st),(3,i64 bk),(11,i64 (u7 s st bk (k+1))),(13,i64 x8),(14,i64 (k+1:Nat))],[.dead,.sc (iv (l++A2 s st bk (k+1)))]⟩
theorem wJ {l:List Int} {n x8:Nat} {s st bk:Int} (hl:l.length=n) (hn:n<=1000) (hc0:0<x8) (hc:x8<=1000) (hst:0<=st/\st<=1000) (hbk:0<=bk/\bk<=1000) (hx:∀k,k<=x8-> -10000<=u7 s st bk k/\u7 s st bk k<=10000):
  a7 C 232 [.o 1 (.k 0) 0 n,i64 s,i64 st,i64 bk,i64 x8] [.sc (iv l)] (.ret (.o 1 (.k 1) 0 (n+x8))) [.dead,.sc (iv (l++A2 s st bk x8))]:=by
 refine yu.c ?_;refine j4 (LC l n x8 s st bk) x8 ⟨[.k 0],⟨rfl,rfl,rfl,rfl,rfl,rfl,tq⟩,⟨_,rfl,rfl⟩,tq⟩ fun i hi=> ?_;have w2:I6.wrap (st+bk)=st+bk:=Za _ (by omega);rcases i with _|i
 ·refine b8 (fun h=> ?_) (fun h=> ?_)
  ·have x0:=hx 0 (by omega);have y0:=hx 1 (by omega);change -10000<=s/\s<=10000 at x0;have w1:I6.wrap (s-st)=s-st:=Za _ (by omega);have hsub:sub (iv l) 0 (n*1)++[Value.int .i64 s]=iv (l++A2 s st bk (0+1)):=by
    rw[Zd,S2 hl,<-mh];rfl
   refine⟨Zc _,by omega,by rw[G9,hl];omega,?_⟩;refine b8 (fun h=> ?_) (fun h=> ?_)
   ·rw[w1]at h;refine⟨0+1,by omega,by omega,[.k 0,.d 19 0],⟨rfl,rfl,rfl,c9 ?_,rfl,rfl,tq⟩,⟨_,rfl,rfl⟩,⟨_,rfl,d8 hsub⟩,tq⟩;rw[w1,w2,Za _ (by omega)];show _=if s-st<1 then s-st+(st+bk)else s-st;rw[if_pos h]
   ·rw[w1]at h;refine⟨0+1,by omega,by omega,[.k 0,.d 19 0],⟨rfl,rfl,rfl,c9 ?_,rfl,rfl,tq⟩,⟨_,rfl,rfl⟩,⟨_,rfl,d8 hsub⟩,tq⟩;rw[w1];show _=if s-st<1 then s-st+(st+bk)else s-st;rw[if_neg h]
  ·omega
 ·have hll:(l++A2 s st bk (i+1)).length=n+(i+1):=by rw[Zm,cY,hl]
  refine b8 (fun h=> ?_) (fun h=> ?_)
  ·have a8:i+1<x8:=(by omega);have x0:=hx (i+1) (by omega);have hsub:sub (iv (l++A2 s st bk (i+1))) 0 ((n+(i+1))*1)++[Value.int .i64 (u7 s st bk (i+1))]=iv (l++A2 s st bk (i+1+1)):=by
    rw[Zd,S2 hll,oj s st bk (i+1)];show iv (l++A2 s st bk (i+1))++iv [u7 s st bk (i+1)]=_;rw[mh,List.append_assoc]
   have hd:u7 s st bk (i+1+1)=if u7 s st bk (i+1)-st<1 then u7 s st bk (i+1)-st+(st+bk)else u7 s st bk (i+1)-st:=rfl;have w1:I6.wrap (u7 s st bk (i+1)-st)=u7 s st bk (i+1)-st:=Za _ (by omega);refine⟨Zc _,by omega,by rw[G9,hll];omega,?_⟩;refine b8 (fun h=> ?_) (fun h=> ?_)
   ·rw[w1]at h;refine⟨i+1+1,by omega,by omega,[.k 0,.d 19 0],⟨rfl,rfl,rfl,c9 ?_,rfl,c9 (by simp(disch:=omega)only[Za];omega),tq⟩,⟨_,rfl,rfl⟩,⟨_,rfl,d8 hsub⟩,tq⟩;rw[w1,w2,Za _ (by omega),hd,if_pos h]
   ·rw[w1]at h;refine⟨i+1+1,by omega,by omega,[.k 0,.d 19 0],⟨rfl,rfl,rfl,c9 ?_,rfl,c9 (by simp(disch:=omega)only[Za];omega),tq⟩,⟨_,rfl,rfl⟩,⟨_,rfl,d8 hsub⟩,tq⟩;rw[w1,hd,if_neg h]
  ·obtain rfl:i+1=x8:=(by omega);exact⟨_,rfl,[.k 0,.k 1],rfl,⟨_,rfl,rfl⟩,⟨_,rfl,rfl⟩,tq⟩
theorem Gi {x8:Nat} {s st bk:Int} (hc0:0<x8) (hc:x8<=1000) (hst:0<=st/\st<=1000) (hbk:0<=bk/\bk<=1000) (hx:∀k,k<=x8-> -10000<=u7 s st bk k/\u7 s st bk k<=10000):
  a7 C 232 [g8,i64 s,i64 st,i64 bk,i64 x8] [] (.ret (.o 1 (.k 0) 0 x8)) [.sc (iv (A2 s st bk x8))]:=by
 refine yu.c ?_;refine A5 (fun i=>⟨[(0,.o 1 (.k 0) 0 i),(2,i64 st),(3,i64 bk),(11,i64 (u7 s st bk i)),(13,i64 x8),(14,i64 i)],[.sc (iv (A2 s st bk i))]⟩) x8 [(0,1,.sc [])] ⟨[.d 900000 0],⟨rfl,rfl,rfl,rfl,rfl,rfl,tq⟩,⟨_,rfl,rfl⟩,tq⟩ fun i hi=> ?_;have w2:I6.wrap (st+bk)=st+bk:=Za _ (by omega);have hll:=cY s st bk i;refine b8 (fun h=> ?_) (fun h=> ?_)
 ·have a8:i<x8:=(by omega);have x0:=hx i (by omega);have hsub:sub (iv (A2 s st bk i)) 0 (i*1)++[Value.int .i64 (u7 s st bk i)]=iv (A2 s st bk (i+1)):=by
   rw[Zd,S2 hll,oj s st bk i];show iv (A2 s st bk i)++iv [u7 s st bk i]=_;rw[mh]
  have hd:u7 s st bk (i+1)=if u7 s st bk i-st<1 then u7 s st bk i-st+(st+bk)else u7 s st bk i-st:=rfl;have w1:I6.wrap (u7 s st bk i-st)=u7 s st bk i-st:=Za _ (by omega);refine⟨Zc _,by omega,by rw[G9,hll];omega,?_⟩;refine b8 (fun h=> ?_) (fun h=> ?_)
  ·rw[w1]at h;refine⟨i+1,by omega,by omega,[.d 19 0],⟨rfl,rfl,rfl,c9 ?_,rfl,c9 (by simp(disch:=omega)only[Za];omega),tq⟩,⟨_,rfl,d8 hsub⟩,tq⟩;rw[w1,w2,Za _ (by omega),hd,if_pos h]
  ·rw[w1]at h;refine⟨i+1,by omega,by omega,[.d 19 0],⟨rfl,rfl,rfl,c9 ?_,rfl,c9 (by simp(disch:=omega)only[Za];omega),tq⟩,⟨_,rfl,d8 hsub⟩,tq⟩;rw[w1,hd,if_neg h]
 ·obtain rfl:i=x8:=(by omega);exact⟨_,rfl,[.k 0],rfl,⟨_,rfl,rfl⟩,tq⟩
def mb:List Int:=[58,60,62,64,57,59,61,63]
def dU (i:Nat):List Int:=(List.range i).foldl (fun l j=>l++A2 (mb.getD j 0) 8 0 8) []
theorem yX (i):dU (i+1)=dU i++A2 (mb.getD i 0) 8 0 8:=by simp[dU,Zn]
theorem yW:∀i,(dU i).length=8*i
 |0=>rfl
 |i+1=>by rw[yX,Zm,yW i,cY];omega
theorem Qc:∀i,i<8->∀k,k<=8-> -10000<=u7 (mb.getD i 0) 8 0 k/\u7 (mb.getD i 0) 8 0 k<=10000:=by decide +kernel
def t5:List Nat:=(dU 8).map Int.toNat
theorem zt (t:List Nat):iv (t.map fun(x:Nat)=>(x:Int))=nv t:=by simp[iv,nv]
theorem WJ:iv (dU 8)=nv t5:=by
 rw[<-zt,show dU 8=t5.map fun(x:Nat)=>(x:Int) by decide +kernel]
theorem Gm:a7 C 186 [] [] (.ret (.o 1 (.k 0) 0 64)) [.sc (nv t5)]:=by
 rw[<-WJ];refine Ms.c ?_;refine A5 (fun i=>⟨[(1,.o 1 (.k 0) 0 (8*i)),(4,.z 8 (iv mb)),(5,i64 8),(6,i64 i)],[.sc (iv (dU i))]⟩) 8 [(1,1,.sc [])] ⟨[.d 900000 0],⟨rfl,rfl,rfl,rfl,tq⟩,⟨_,rfl,rfl⟩,tq⟩ fun i hi=> ?_;refine b8 (fun h=> ?_) (fun h=> ?_)
 ·have a8:i<8:=(by omega);refine⟨by omega,by omega,?_⟩;refine⟨_,by rw[Zb];exact tm a8,?_⟩;refine⟨[.k 0],_,_,_,_,wJ (l:=dU i) (n:=8*i) (x8:=8) (yW i) (by omega) (by decide) (by decide) (by decide) (by decide) (Qc i a8),rfl,rfl,?_⟩;refine⟨i+1,by omega,by omega,[.d 12 1],⟨rfl,rfl,rfl,c9 (by simp(disch:=omega)only[Za];omega),tq⟩,⟨_,rfl,d8 ?_⟩,tq⟩;rw[yX]
 ·obtain rfl:i=8:=(by omega);exact⟨_,rfl,[.k 0],rfl,⟨_,rfl,rfl⟩,tq⟩
def iA:List Nat:=[16,7,20,21,29,12,28,17,1,15,23,26,5,18,31,10,2,8,24,14,32,27,3,9,19,13,30,6,22,11,4,25]
theorem GH:a7 C 237 [] [] (.ret (.o 1 (.k 0) 0 32)) [.sc (nv iA)]:=
 Mu.c ⟨_,rfl,[.d 1 0],rfl,⟨_,rfl,rfl⟩,tq⟩
def M2 (n:Nat):List Nat:=(List.range n).map fun i=>(4*(i/6)+i%6+31)%32+1
theorem DI (n):M2 (n+1)=M2 n++[(4*(n/6)+n%6+31)%32+1]:=by simp[M2,Zn]
theorem dt (n):(M2 n).length=n:=by simp[M2]
theorem DJ:∀i:Nat,i<48->I6.wrap ((I6.wrap (I6.wrap (I6.wrap (4*I6.wrap (((i:Nat):Int).tdiv 6))+((i:Nat):Int).tmod 6)+31)).tmod 32+1)=(((4*(i/6)+i%6+31)%32+1:Nat):Int):=by decide +kernel
theorem JE:a7 C 234 [] [] (.ret (.o 1 (.k 0) 0 48)) [.sc (nv (M2 48))]:=by
 refine Mx.c ?_;refine A5 (fun i=>⟨[(1,.o 1 (.k 0) 0 i),(3,i64 i)],[.sc (nv (M2 i))]⟩) 48 [(1,1,.sc [])] ⟨[.d 900000 0],⟨rfl,rfl,tq⟩,⟨_,rfl,rfl⟩,tq⟩ fun i hi=> ?_;refine b8 (fun h=> ?_) (fun h=> ?_)
 ·have a8:i<48:=(by omega);refine⟨by decide,by decide,by decide,?_⟩;refine⟨Zc _,by omega,by rw[G3,dt];omega,?_⟩;refine⟨i+1,by omega,by omega,[.d 17 0],⟨rfl,c9 (by simp(disch:=omega)only[Za];omega),tq⟩,⟨_,rfl,d8 ?_⟩,tq⟩;rw[DJ i a8,Zd];show sub (nv (M2 i)) 0 i++[Value.int .i64 (((4*(i/6)+i%6+31)%32+1:Nat):Int)]=_;rw[iq (dt _),DI]
 ·obtain rfl:i=48:=(by omega);exact⟨_,rfl,[.k 0],rfl,⟨_,rfl,rfl⟩,tq⟩
def H7:List Int:=A2 57 8 57 28++A2 63 8 55 24++[28,20,12,4]
def bG:List Nat:=H7.map Int.toNat
def W9:List Nat:=[14,17,11,24,1,5,3,28,15,6,21,10,23,19,12,4,26,8,16,7,27,20,13,2,41,52,31,37,47,55,30,40,51,45,33,48,44,49,39,56,34,53,46,42,50,36,29,32]
theorem BE:iv H7=nv bG:=by
 rw[<-zt,show H7=bG.map fun(x:Nat)=>(x:Int) by decide +kernel]
theorem FC:a7 C 183 [] [] (.ret (.t [.o 1 (.k 0) 0 56,.o 1 (.k 1) 0 48])) [.sc (nv bG),.sc (nv W9)]:=by
 rw[<-BE];have d1:=Gi (x8:=28) (s:=57) (st:=8) (bk:=57) (by decide) (by decide) (by decide) (by decide) (by decide +kernel);have d2:=wJ (l:=A2 57 8 57 28) (n:=28) (x8:=24) (s:=63) (st:=8) (bk:=55) (cY _ _ _ _) (by decide) (by decide) (by decide) (by decide) (by decide) (by decide +kernel);refine Mr.c ?_;refine⟨[],_,_,_,_,d1,rfl,rfl,?_⟩;refine⟨[.d 2 0],_,_,_,_,d2,rfl,rfl,?_⟩;refine⟨Zc _,by decide,by decide,?_⟩;refine⟨Zc _,by decide,Zc _,?_⟩;refine⟨_,rfl,[.d 6 0,.d 11 0],rfl,⟨_,rfl,d8 ?_⟩,⟨_,rfl,d8 ?_⟩,tq⟩
 ·show sub (iv (A2 57 8 57 28++A2 63 8 55 24)) 0 52++iv [28,20,12,4]=iv H7;rw[S2 (by rw[Zm,cY,cY]),mh];rfl
 ·rfl
def Lq:List (List (Bs)):=[[[69,52,68,49,50,70,66,56,51,65,54,67,53,57,48,55],[48,70,55,52,69,50,68,49,65,54,67,66,57,53,51,56],[52,49,69,56,68,54,50,66,70,67,57,55,51,65,53,48],[70,67,56,50,52,57,49,55,53,66,51,69,65,48,54,68]],[[70,49,56,69,54,66,51,52,57,55,50,68,67,48,53,65],[51,68,52,55,70,50,56,69,67,48,49,65,54,57,66,53],[48,69,55,66,65,52,68,49,53,56,67,54,57,51,50,70],[68,56,65,49,51,70,52,50,66,54,55,67,48,53,69,57]],[[65,48,57,69,54,51,70,53,49,68,67,55,66,52,50,56],[68,55,48,57,51,52,54,65,50,56,53,69,67,66,70,49],[68,54,52,57,56,70,51,48,66,49,50,67,53,65,69,55],[49,65,68,48,54,57,56,55,52,70,69,51,66,53,50,67]],[[55,68,69,51,48,54,57,65,49,50,56,53,66,67,52,70],[68,56,66,53,54,70,48,51,52,55,50,67,49,65,69,57],[65,54,57,48,67,66,55,68,70,49,51,69,53,50,56,52],[51,70,48,54,65,49,68,56,57,52,53,66,67,55,50,69]],[[50,67,52,49,55,65,66,54,56,53,51,70,68,48,69,57],[69,66,50,67,52,55,68,49,53,48,70,65,51,57,56,54],[52,50,49,66,65,68,55,56,70,57,67,53,54,51,48,69],[66,56,67,55,49,69,50,68,54,70,48,57,65,52,53,51]],[[67,49,65,70,57,50,54,56,48,68,51,52,69,55,53,66],[65,70,52,50,55,67,57,53,54,49,68,69,48,66,51,56],[57,69,70,53,50,56,67,51,55,48,52,65,49,68,66,54],[52,51,50,67,57,53,70,65,66,69,49,55,54,48,56,68]],[[52,66,50,69,70,48,56,68,51,67,57,55,53,65,54,49],[68,48,66,55,52,57,49,65,69,51,53,67,50,70,56,54],[49,52,66,68,67,51,55,69,65,70,54,56,48,53,57,50],[54,66,68,56,49,52,65,55,57,53,48,70,69,50,51,67]],[[68,50,56,52,54,70,66,49,65,57,51,69,53,48,67,55],[49,70,68,56,65,51,55,52,67,53,54,66,48,69,57,50],[55,66,52,49,57,67,69,50,48,54,65,68,70,51,53,56],[50,49,69,55,52,65,56,68,70,67,57,48,51,53,54,66]]]
def M7 (s r:Nat):Bs:=(Lq.getD s []).getD r []
theorem sw:∀s,s<8->∀r,r<4->(M7 s r).length=16/\∀j,j<16->dc ((M7 s r).getD j 48)=true:=by decide +kernel
theorem Gj {x:Int} {c:UInt8} (hx:x=c.toNat) (h:dc c=true):a7 C 235 [vi .u8 x] [] (.ret (vi .u8 (O1 c))) []:=by
 subst hx;have h':=of_decide_eq_true h;refine Mw.c ?_;refine b8 (fun h1=> ?_) (fun h1=> ?_)
 ·refine⟨_,rfl,[],congrArg (vi .u8) ?_,tq⟩;simp only[wrap_u8,O1];split<;>omega
 ·refine⟨_,rfl,[],congrArg (vi .u8) ?_,tq⟩;simp only[wrap_u8,O1];split<;>omega
theorem ff {s r:Nat} (hr:r<4):([G5 (M7 s 0),G5 (M7 s 1),G5 (M7 s 2),G5 (M7 s 3)]:List V)[r]? =some (G5 (M7 s r)):=I9 (f:=fun r=>G5 (M7 s r)) rfl rfl rfl rfl hr
theorem Gd {s r:Nat} (hs:s<8) (hr:r<4):a7 C 236 [i64 s,i64 r] [] (.ret (G5 (M7 s r))) []:=by
 rcases s with _|_|_|_|_|_|_|_|s
 ·refine fv.c ?_;refine⟨by omega,by omega,?_⟩;refine⟨_,by rw[Zb,Zd];exact ff (s:=0) hr,?_⟩;exact⟨_,rfl,[],rfl,tq⟩
 ·refine fv.c ?_;refine⟨by omega,by omega,?_⟩;refine⟨_,by rw[Zb,Zd];exact ff (s:=1) hr,?_⟩;exact⟨_,rfl,[],rfl,tq⟩
 ·refine fv.c ?_;refine⟨by omega,by omega,?_⟩;refine⟨_,by rw[Zb,Zd];exact ff (s:=2) hr,?_⟩;exact⟨_,rfl,[],rfl,tq⟩
 ·refine fv.c ?_;refine⟨by omega,by omega,?_⟩;refine⟨_,by rw[Zb,Zd];exact ff (s:=3) hr,?_⟩;exact⟨_,rfl,[],rfl,tq⟩
 ·refine fv.c ?_;refine⟨by omega,by omega,?_⟩;refine⟨_,by rw[Zb,Zd];exact ff (s:=4) hr,?_⟩;exact⟨_,rfl,[],rfl,tq⟩
 ·refine fv.c ?_;refine⟨by omega,by omega,?_⟩;refine⟨_,by rw[Zb,Zd];exact ff (s:=5) hr,?_⟩;exact⟨_,rfl,[],rfl,tq⟩
 ·refine fv.c ?_;refine⟨by omega,by omega,?_⟩;refine⟨_,by rw[Zb,Zd];exact ff (s:=6) hr,?_⟩;exact⟨_,rfl,[],rfl,tq⟩
 ·refine fv.c ?_;refine⟨by omega,by omega,?_⟩;refine⟨_,by rw[Zb,Zd];exact ff (s:=7) hr,?_⟩;exact⟨_,rfl,[],rfl,tq⟩
 ·omega
def dO (x:Bs) (s:Nat):Nat:=2*(tb x (6*s)).toNat+(tb x (6*s+5)).toNat
def bW (x:Bs) (s:Nat):Nat->Nat
 |0=>0
 |k+1=>2*bW x s k+(tb x (6*s+1+k)).toNat
theorem ae (v:Bool):v.toNat<2:=by cases v<;>decide
theorem jm (x s):dO x s<4:=by
 have:=ae (tb x (6*s));have:=ae (tb x (6*s+5));unfold dO;omega
theorem kX (x s):∀k,bW x s k<2^k
 |0=>by show 0<1;omega
 |k+1=>by
  have:=ae (tb x (6*s+1+k));have:=kX x s k;unfold bW;rw[Nat.pow_succ];omega
def dS (x:Bs) (s:Nat):Nat:=O1 ((M7 s (dO x s)).getD (bW x s 4) 48)
theorem nZ {x s} (hs:s<8):dS x s<16:=sy ((sw s hs _ (jm x s)).2 _ (kX x s 4))
def H8 (x:Bs) (i:Nat):Bs:=(List.range 4).map fun q=>Zp ((if 2*q<i then 16*dS x (2*q)else 0)+(if 2*q+1<i then dS x (2*q+1)else 0))
theorem jl (x i):(H8 x i).length=4:=by simp[H8]
def dF (r k:Bs):Bs:=A3 iA (H8 (f6 (A3 (M2 48) r) k) 8)
theorem Tm:∀d,d<16->∀j,j<=1->U8.wrap (((d:Nat):Int)*2^(min ((4*j:Nat):Int).toNat U8.bits))=(((Zp (d*16^j)).toNat:Nat):Int):=by decide +kernel
theorem Ax:∀a,a<16->∀d,d<16->(Zp 0|||Zp (d*16^1)=Zp (16*d))/\(Zp (16*a)|||Zp (d*16^0)=Zp (16*a+d)):=by decide +kernel
theorem yd {x:Bs} {i:Nat} (hi:i<8):(H8 x i).set (i/2) ((H8 x i).getD (i/2) 0|||Zp (dS x i*16^(1-i%2)))=H8 x (i+1):=by
 have hd:=nZ (x:=x) hi;apply Zw (by simp[H8]);intro q h1 h2;have hq:q<4:=by simpa [H8]using h2
 rw[Z2];split
 ·rename_i he;subst he;have g1:(H8 x i).getD (i/2) 0=Zp ((if 2*(i/2)<i then 16*dS x (2*(i/2))else 0)+(if 2*(i/2)+1<i then dS x (2*(i/2)+1)else 0)):=by simp[H8,hq]
  rw[g1];simp only[H8,Zz,Zy];by_cases h2:i%2=0
  ·rw[h2,if_neg (by omega),if_neg (by omega),if_pos (by omega),if_neg (by omega),show 2*(i/2)=i by omega];exact(Ax 0 (by decide) _ hd).1
  ·rw[show i%2=1 by omega,if_pos (by omega),if_neg (by omega),if_pos (by omega),if_pos (by omega),show 2*(i/2)+1=i by omega];exact(Ax _ (nZ (by omega)) _ hd).2
 ·rename_i he;simp only[H8,Zz,Zy];have a1:(2*q<i)=(2*q<i+1):=by apply propext;omega
  have a2:(2*q+1<i)=(2*q+1<i+1):=by apply propext;omega
  simp only[a1,a2]
end Go.Scr
