/-
  What the functions of the given program reckon, each by a contract, up to the law. It is no claim by itself; each contract bears its own conditions.
-/
import Derived.Test.YthhlfpbfdkogfaaGreatDoorY
set_option linter.unusedVariables false
set_option linter.unusedSimpArgs false
set_option maxRecDepth 100000
namespace Go.Scr
open Go.Proofs
open IntWalk renaming i64_in → Za
open Int renaming toNat_natCast → Zb, tmod_eq_emod_of_nonneg → Zg, tdiv_eq_ediv_of_nonneg → Zi, fdiv_eq_ediv_of_nonneg → Zs
open Nat renaming le_refl → Zc, mul_one → Zd, zero_add → Ze, le_of_ble_eq_true → Zf, mod_lt → Zr, shiftRight_eq_div_pow → Zx, le_of_eq → Z3, add_comm → Z6
open BitVec renaming ofInt → Zh
open List renaming length_reverse → Zj, map_append → Zl, length_append → Zm, range_succ → Zn, replicate → Zo, length_map → Zq, length_replicate → Zt, map_congr_left → Zu, map → Zv, ext_getElem → Zw, getElem_range → Zy, getElem_map → Zz, reverse_append → Z0, getElem_set → Z2, take_of_length_le → Z4, mem_range → Z5
open UInt32 renaming ofNat → Zk, eq_of_toBitVec_eq → Z1
open UInt8 renaming ofNat → Zp
open Go.IntKind renaming i64 → I6, u8 → U8, u32 → U3
theorem HS {k:List Nat} {x:Q4} (hl:k.length=52) (hk:V5 k) (hx:I9 x):a9 C 210 [qA x,.z 52 (nv k)] [] (.ret (qA (K5 (A9 k) x))) []:=by
 rw[<-tl k hk x];obtain⟨o1,o2,o3,o4⟩:=hx;have hi:=fun i=>qC (hk i);refine Sq.c ?_;refine⟨by decide,by decide,by decide,by decide,?_⟩;have e48:sub (nv k) 48 4=nv (k.drop 48):=by rw[aZ,M0 _ _ _ (by omega)]
 refine⟨by decide,by decide,_,rfl,by decide,by decide,?_⟩;refine⟨_,by show(sub (nv k) 48 4)[0]? =_;rw[e48];exact N3 (by omega),?_⟩;refine⟨[],_,_,_,_,pD rfl (hk _),rfl,rfl,?_⟩;refine⟨[],_,_,_,_,bF rfl rfl o1 (hi _),rfl,rfl,?_⟩;refine⟨by decide,by decide,_,rfl,by decide,by decide,?_⟩;refine⟨_,by show(sub (nv k) 48 4)[2]? =_;rw[e48];exact N3 (by omega),?_⟩;refine⟨[],_,_,_,_,pE rfl rfl o3 (hk _),rfl,rfl,?_⟩;refine⟨by decide,by decide,_,rfl,by decide,by decide,?_⟩;refine⟨_,by show(sub (nv k) 48 4)[1]? =_;rw[e48];exact N3 (by omega),?_⟩;refine⟨[],_,_,_,_,pE rfl rfl o2 (hk _),rfl,rfl,?_⟩;refine⟨by decide,by decide,_,rfl,by decide,by decide,?_⟩;refine⟨_,by show(sub (nv k) 48 4)[3]? =_;rw[e48];exact N3 (by omega),?_⟩;refine⟨[],_,_,_,_,pD rfl (hk _),rfl,rfl,?_⟩;refine⟨[],_,_,_,_,bF rfl rfl o4 (hi _),rfl,rfl,?_⟩;refine⟨Zc _,?_⟩;refine m5 (fun r=>⟨[(1,.z 52 (nv k)),(2,.p (.k 0) 0),(4,.p (.k 1) 0),(6,i64 (7-r))],[.mx [i64 (Y8 k x r).1,i64 (Y8 k x r).2.1,i64 (Y8 k x r).2.2.1,i64 (Y8 k x r).2.2.2],.sc [.int .i64 0,.int .i64 0,.int .i64 0,.int .i64 0]]⟩) 8 ⟨[.d 2 0,.d 4 0],⟨rfl,rfl,rfl,rfl,tq⟩,⟨_,rfl,rfl⟩,⟨_,rfl,rfl⟩,tq⟩ fun r hr=> ?_;obtain⟨p1,p2,p3,p4⟩:=GX k x r;refine d9 (fun h=> ?_) (fun h=> ?_)
 ·obtain⟨i,ei,hi7,hri⟩:∃i:Nat,(7:Int)-r=i/\i<=7/\i=7-r:=⟨7-r,by omega,by omega,by omega⟩;have hbs:Y8 k x (r+1)=cr k (6*i) (aT k (6*i) (Y8 k x r)):=by rw[pf,ke,hri]
  rw[ei];generalize hs:Y8 k x r=s at p1 p2 p3 p4 hbs ⊢;have e1:(I6.wrap (6*(i:Int))).toNat=6*i:=(by simp(disch:=omega)only[Za];omega);refine⟨(by simp(disch:=omega)only[Za];omega),by rw[e1];show 6*i<=52;omega,Zc _,Zc _,?_⟩;rw[e1];have ed:sub (nv k) (6*i) (52-6*i)=nv (k.drop (6*i)):=by rw[aZ,M0 _ _ _ (by omega)]
  refine⟨by decide,by decide,_,rfl,by decide,by decide,_,rfl,by decide,by decide,_,rfl,by decide,by decide,_,rfl,?_⟩;refine⟨[],_,_,_,_,zb (k:=k) (o:=6*i) (n:=52-6*i) rfl rfl rfl rfl p1 p3 p2 p4 (by omega) (by omega) hk,?_,rfl,?_⟩
  ·show[_,_,_,_,V.z (52-6*i) (sub (nv k) (6*i) (52-6*i))]=_;rw[ed];rfl
  have hg:ai k (6*i) s.1 s.2.2.1 s.2.1 s.2.2.2<65536:=I8 _ _;have hh:aA k (6*i) s.1 s.2.2.1 s.2.1 s.2.2.2<65536:=dj _ _;refine⟨by decide,by decide,_,rfl,by decide,by decide,_,rfl,by decide,by decide,_,rfl,by decide,by decide,_,rfl,?_⟩;refine⟨by decide,by show((0:Int))<((52-6*i:Nat):Int);omega,?_⟩;refine⟨_,by show(sub (nv k) (6*i) (52-6*i))[0]? =_;rw[ed];exact N3 (by omega),?_⟩;refine⟨[],_,_,_,_,pD rfl (hk _),rfl,rfl,?_⟩;refine⟨[],_,_,_,_,bF (O8 16 (by decide) p1 hg) rfl (ar p1 hg) (hi _),rfl,rfl,?_⟩;refine⟨by decide,by show((1:Int))<((52-6*i:Nat):Int);omega,?_⟩;refine⟨_,by show(sub (nv k) (6*i) (52-6*i))[1]? =_;rw[ed];exact N3 (by omega),?_⟩;refine⟨[],_,_,_,_,pE (O8 16 (by decide) p3 hh) rfl (ar p3 hh) (hk _),rfl,rfl,?_⟩;refine⟨by decide,by show((2:Int))<((52-6*i:Nat):Int);omega,?_⟩;refine⟨_,by show(sub (nv k) (6*i) (52-6*i))[2]? =_;rw[ed];exact N3 (by omega),?_⟩;refine⟨[],_,_,_,_,pE (O8 16 (by decide) p2 hg) rfl (ar p2 hg) (hk _),rfl,rfl,?_⟩;refine⟨by decide,by show((3:Int))<((52-6*i:Nat):Int);omega,?_⟩;refine⟨_,by show(sub (nv k) (6*i) (52-6*i))[3]? =_;rw[ed];exact N3 (by omega),?_⟩;refine⟨[],_,_,_,_,pD rfl (hk _),rfl,rfl,?_⟩;refine⟨[],_,_,_,_,bF (O8 16 (by decide) p4 hh) rfl (ar p4 hh) (hi _),rfl,rfl,?_⟩;refine⟨Zc _,?_⟩;refine⟨r+1,by omega,by omega,[.k 0,.k 1],⟨rfl,rfl,rfl,f6 ?_,tq⟩,⟨_,rfl,?_⟩,⟨_,rfl,rfl⟩,tq⟩
  ·rw[Za _ (by omega)];omega
  ·rw[hbs];rfl
 ·obtain rfl:r=8:=(by omega);refine⟨_,rfl,rfl,Zc _,_,rfl,rfl,?_⟩;exact⟨_,rfl,[],rfl,tq⟩
theorem a2r (b:Bs):L1 b 0=b:=by
 apply oH (H9 _ _);intro j hj;rw[H9]at hj;unfold L1;rw[gk hj,Nat.add_zero,Nat.mod_eq_of_lt hj]
def aV (key:Bs) (j:Nat):Bs:=L1 key (25*j%128)
theorem Vs (key j):(aV key j).length=key.length:=H9 _ _
theorem BK {key:Bs} (hk:key.length=16) (j:Nat):L1 (aV key j) 25=aV key (j+1):=by
 unfold aV;rw[a2q _ _ _ (by omega),hk];congr 1;omega
def qF (key:Bs) (j:Nat):List Nat:=if j=7 then V2 key else dy key j
theorem BM {key:Bs} {j i:Nat} (hj:j<7) (hi:i=if j=6 then 4 else 8):dy key j++V4 (aV key j) i=qF key (j+1):=by
 unfold qF aV;by_cases h:j=6
 ·subst h;rw[if_pos rfl]at hi ⊢;subst hi;unfold V2;rw[qH key 6,List.take_append,gU,Z4 (by rw[gU];decide)];congr 1
 ·rw[if_neg h]at hi;subst hi;rw[if_neg (by omega),qH]
theorem LU {va:List Value} {key:Bs} (ha:va=bv key) (hk:key.length=16):a9 C 110 [.z 16 va] [] (.ret (.t [.o 1 (.k 0) 0 52,i64 0])) [.sc (nv (V2 key))]:=by
 subst ha;refine Sk.c ?_;refine D6 (fun j=>⟨[(0,.z 16 (bv (aV key j))),(4,.o 1 (.k 0) 0 (if j=7 then 52 else 8*j))],[.sc (nv (qF key j))]⟩) 7 [(4,1,.sc [])] ⟨[.d 900000 0],⟨?_,rfl,tq⟩,⟨_,rfl,rfl⟩,tq⟩ fun j hj=> ?_
 ·show V.z 16 (bv key)=V.z 16 (bv (L1 key 0));rw[a2r]
 refine d9 (fun h=> ?_) (fun h=> ?_)
 ·have d8:j<7:=by
   rcases Nat.lt_or_ge j 7 with h7|h7
   ·exact h7
   ·rw[if_pos (show j=7 by omega)]at h;exact absurd h (by decide)
  have hkl:(aV key j).length=16:=by rw[Vs,hk]
  refine m5 (fun i=>⟨[(0,.z 16 (bv (aV key j))),(4,.o 1 (.k 0) 0 (8*j+i)),(5,i64 (2*i:Nat))],[.sc (nv (dy key j++V4 (aV key j) i))]⟩) (if j=6 then 4 else 8) ⟨[.k 0],⟨rfl,?_,rfl,tq⟩,⟨_,rfl,g9 ?_⟩,tq⟩ fun i hi=> ?_
  ·show V.o 1 (.k 0) 0 _=V.o 1 (.k 0) 0 _;rw[if_neg (by omega),Nat.add_zero]
  ·unfold qF;rw[if_neg (by omega)];simp[V4]
  have hi8:i<=8:=by split at hi<;>omega
  refine d9 (fun h16=> ?_) (fun h16=> ?_)
  ·refine d9 (fun h52=> ?_) (fun h52=> ?_)
   ·have hlt2:i<if j=6 then 4 else 8:=by split<;>omega
    have e1:(I6.wrap (((2*i:Nat):Int)+1)).toNat=2*i+1:=(by simp(disch:=omega)only[Za];omega);refine⟨by omega,by omega,?_⟩;refine⟨_,by rw[Zb];exact p5 (i:=2*i) (by omega),?_⟩;refine⟨by decide,by omega,by omega,?_⟩;refine⟨_,by rw[e1];exact p5 (i:=2*i+1) (by omega),?_⟩;refine⟨Zc _,by omega,by rw[K8,Zm,fK,gU];omega,?_⟩;refine⟨i+1,by omega,by omega,[.d 36 0],⟨rfl,rfl,f6 (by simp(disch:=omega)only[Za];omega),tq⟩,⟨_,rfl,g9 ?_⟩,tq⟩;rw[xk,BZ,<-List.append_assoc];exact jv (by rw[Zm,fK,gU];omega)
   ·have hi4:i=if j=6 then 4 else 8:=by split at hi<;>split<;>omega
    refine⟨[],_,_,_,_,nj (b:=aV key j) (n:=25) rfl hkl (by decide) (by decide) (by decide),rfl,rfl,?_⟩;refine⟨j+1,by omega,by omega,[.k 0],⟨?_,?_,tq⟩,⟨_,rfl,g9 ?_⟩,tq⟩
    ·show V.z 16 (sub (bv (L1 (aV key j) 25)) 0 16)=_;rw[g8 (by rw[H9,hkl]),BK hk]
    ·show V.o 1 (.k 0) 0 _=V.o 1 (.k 0) 0 _;congr 1;split at hi4<;>split<;>omega
    ·rw[BM d8 hi4]
  ·have hi4:i=if j=6 then 4 else 8:=by split at hi<;>split<;>omega
   refine⟨[],_,_,_,_,nj (b:=aV key j) (n:=25) rfl hkl (by decide) (by decide) (by decide),rfl,rfl,?_⟩;refine⟨j+1,by omega,by omega,[.k 0],⟨?_,?_,tq⟩,⟨_,rfl,g9 ?_⟩,tq⟩
   ·show V.z 16 (sub (bv (L1 (aV key j) 25)) 0 16)=_;rw[g8 (by rw[H9,hkl]),BK hk]
   ·show V.o 1 (.k 0) 0 _=V.o 1 (.k 0) 0 _;congr 1;split at hi4<;>split<;>omega
   ·rw[BM d8 hi4]
 ·have h7:j=7:=by
   rcases Nat.lt_or_ge j 7 with h7|h7
   ·rw[if_neg (by omega)]at h;omega
   ·omega
  subst h7;exact⟨_,rfl,[.k 0],rfl,⟨_,rfl,rfl⟩,tq⟩
abbrev oA (k:List Nat):V:= .q [nz k] 0
theorem LV {va:List Value} {key:Bs} (ha:va=bv key) (hk:key.length=16):a9 C 55 [.z 16 va] [] (.ret (.t [oA (V2 key),i64 0])) []:=by
 refine Sn.c ?_;refine⟨[],_,_,_,_,LU ha hk,rfl,rfl,?_⟩;refine⟨_,rfl,[],?_,tq⟩;show V.t [.q [.z 52 (sub _ 0 52)] 0,i64 0]=V.t [.q [.z _ _] 0,i64 0];rw[G8 (fI key),fI]
def vH (b:Bs) (i:Nat):List Value:=nv ((List.range 4).map fun j=>if j<i then br b j else 0)
theorem VE (b:Bs) {i:Nat} (hi:i<4):(vH b i).set i (.int .i64 ((br b i:Nat):Int))=vH b (i+1):=by
 rcases i with _|_|_|_|i;all_goals first|rfl|omega
theorem LT {va:List Value} {b:Bs} {k:List Nat} {back:Bool} (ha:va=bv b) (hb:b.length=8) (hl:k.length=52) (hk:V5 k):a9 C 154 [oA k,.z 8 va,bool back] [] (C0 8) [.sc (bv (ap (K5 (if back then A9 k else k) (N4 b))))]:=by
 subst ha;refine AQ.c ?_;have hq:I9 (N4 b):=⟨cd _ _,cd _ _,cd _ _,cd _ _⟩;have hz0:nz k= .z 52 (nv k):=by rw[<-hl]
 refine m5 (fun i=>⟨[(0,oA k),(1,.z 8 (bv b)),(2,bool back),(8,.p (.k 0) 0),(9,i64 i)],[.sc (vH b i)]⟩) 4 ⟨[.d 8 0],⟨rfl,rfl,rfl,rfl,rfl,tq⟩,⟨_,rfl,rfl⟩,tq⟩ fun i hi=> ?_;refine d9 (fun h=> ?_) (fun h=> ?_)
 ·have d8:i<4:=(by omega);have e1:(I6.wrap (2*(i:Int))).toNat=2*i:=(by simp(disch:=omega)only[Za];omega);have e2:(I6.wrap (I6.wrap (2*(i:Int))+1)).toNat=2*i+1:=(by simp(disch:=omega)only[Za];omega);refine⟨(by simp(disch:=omega)only[Za];omega),by omega,?_⟩;refine⟨_,by rw[e1];exact p5 (i:=2*i) (by omega),?_⟩;refine⟨by decide,by omega,by omega,?_⟩;refine⟨_,by rw[e2];exact p5 (i:=2*i+1) (by omega),?_⟩;refine⟨by omega,by omega,by show 0+((i:Int)).toNat*1<4;omega,?_⟩;refine⟨i+1,by omega,by omega,[.k 0],⟨rfl,rfl,rfl,rfl,f6 (by simp(disch:=omega)only[Za];omega),tq⟩,⟨_,rfl,g9 ?_⟩,tq⟩;rw[xk,Zb,Zd,Ze];exact VE b d8
 obtain rfl:i=4:=(by omega);have fin:∀(y:Q4),I9 y->∀i,i<4->([i64 y.1,i64 y.2.1,i64 y.2.2.1,i64 y.2.2.2]:List V)[i]? =some (i64 (([y.1,y.2.1,y.2.2.1,y.2.2.2].getD i 0:Nat))):=by
  intro y _ i hi;rcases i with _|_|_|_|i;all_goals first|rfl|omega
 cases back
 ·refine⟨_,rfl,rfl,_,rfl,?_⟩;refine⟨[],_,_,_,_,Ni (x:=N4 b) hl hk hq,?_,rfl,?_⟩
  ·show[qA (N4 b),nz k]=_;rw[hz0]
  refine⟨Zc _,?_⟩;generalize hy:K5 k (N4 b)=y;have yo:I9 y:=by rw[<-hy];exact fJ _ _ _
  refine D6 (fun i=>⟨[(8,.p (.k 0) 0),(10,.o 1 (.k 1) 0 (2*i)),(11,i64 i)],[.mx [i64 y.1,i64 y.2.1,i64 y.2.2.1,i64 y.2.2.2],.sc (bv (aG y i))]⟩) 4 [(10,1,.sc [])] ⟨[.k 0,.d 900000 0],⟨rfl,rfl,rfl,tq⟩,⟨_,rfl,rfl⟩,⟨_,rfl,rfl⟩,tq⟩ fun i hi=> ?_;refine d9 (fun h=> ?_) (fun h=> ?_)
  ·have d8:i<4:=(by omega);have hv:([y.1,y.2.1,y.2.2.1,y.2.2.2]).getD i 0<65536:=by
    obtain⟨a,b',c,d⟩:=yo;rcases i with _|_|_|_|i;all_goals first|assumption|omega
   refine⟨by omega,by omega,?_⟩;refine⟨_,by rw[Zb,Zd,Ze];exact fin y yo i d8,?_⟩;refine⟨by decide,by omega,by omega,?_⟩;refine⟨_,by rw[Zb,Zd,Ze];exact fin y yo i d8,?_⟩;refine⟨Zc _,by omega,by rw[i9,iu y i (by omega)];omega,?_⟩;refine⟨i+1,by omega,by omega,[.k 0,.d 64 0],⟨rfl,rfl,f6 (by simp(disch:=omega)only[Za];omega),tq⟩,⟨_,rfl,rfl⟩,⟨_,rfl,g9 ?_⟩,tq⟩;rw[Zd,g8 (iu y i (by omega)),ry y i d8,<-A5];show bv (aG y i)++[Value.int .u8 _,Value.int .u8 _]=_;rw[rz hv]
  ·obtain rfl:i=4:=(by omega);refine⟨_,rfl,[.k 1],rfl,⟨_,rfl,g9 ?_⟩,tq⟩;show bv (aG y 4)=bv (ap (K5 k (N4 b)));rw[hy];rfl
 ·refine⟨_,rfl,rfl,_,rfl,?_⟩;refine⟨[],_,_,_,_,HS (x:=N4 b) hl hk hq,?_,rfl,?_⟩
  ·show[qA (N4 b),nz k]=_;rw[hz0]
  refine⟨Zc _,?_⟩;generalize hy:K5 (A9 k) (N4 b)=y;have yo:I9 y:=by rw[<-hy];exact fJ _ _ _
  refine D6 (fun i=>⟨[(8,.p (.k 0) 0),(10,.o 1 (.k 1) 0 (2*i)),(11,i64 i)],[.mx [i64 y.1,i64 y.2.1,i64 y.2.2.1,i64 y.2.2.2],.sc (bv (aG y i))]⟩) 4 [(10,1,.sc [])] ⟨[.k 0,.d 900000 0],⟨rfl,rfl,rfl,tq⟩,⟨_,rfl,rfl⟩,⟨_,rfl,rfl⟩,tq⟩ fun i hi=> ?_;refine d9 (fun h=> ?_) (fun h=> ?_)
  ·have d8:i<4:=(by omega);have hv:([y.1,y.2.1,y.2.2.1,y.2.2.2]).getD i 0<65536:=by
    obtain⟨a,b',c,d⟩:=yo;rcases i with _|_|_|_|i;all_goals first|assumption|omega
   refine⟨by omega,by omega,?_⟩;refine⟨_,by rw[Zb,Zd,Ze];exact fin y yo i d8,?_⟩;refine⟨by decide,by omega,by omega,?_⟩;refine⟨_,by rw[Zb,Zd,Ze];exact fin y yo i d8,?_⟩;refine⟨Zc _,by omega,by rw[i9,iu y i (by omega)];omega,?_⟩;refine⟨i+1,by omega,by omega,[.k 0,.d 64 0],⟨rfl,rfl,f6 (by simp(disch:=omega)only[Za];omega),tq⟩,⟨_,rfl,rfl⟩,⟨_,rfl,g9 ?_⟩,tq⟩;rw[Zd,g8 (iu y i (by omega)),ry y i d8,<-A5];show bv (aG y i)++[Value.int .u8 _,Value.int .u8 _]=_;rw[rz hv]
  ·obtain rfl:i=4:=(by omega);refine⟨_,rfl,[.k 1],rfl,⟨_,rfl,g9 ?_⟩,tq⟩;show bv (aG y 4)=bv (ap (K5 (A9 k) (N4 b)));rw[hy];rfl
theorem LS {va:List Value} {k:List Nat} {n:Nat} {back:Bool} (hn:n≠8):a9 C 154 [oA k,.z n va,bool back] [] U2 []:=by
 refine AQ.c ?_;refine n7 (fun h=> ?_) (fun h=>absurd (by omega) hn);exact⟨_,rfl,[],rfl,tq⟩
def Xo (w:Nat):List (Bs):=if w=0 then
  [[56,49,55,68,54,70,51,50,48,66,53,57,69,67,65,52],[69,67,66,56,49,50,51,53,70,52,65,54,55,48,57,68],[66,65,53,69,54,68,57,48,67,56,70,51,50,52,55,49],[68,55,70,52,49,50,54,69,57,66,51,48,56,53,67,65]]
 else [[50,56,66,68,70,55,54,69,51,49,57,52,48,65,67,53],[49,69,50,66,52,67,51,55,54,68,65,53,70,57,48,56],[52,67,55,53,49,54,57,65,48,69,68,56,50,66,51,70],[66,57,53,49,67,51,68,69,54,52,55,70,50,48,56,65]]
def F6 (w r:Nat):Bs:=(Xo w).getD r []
theorem ml:∀w,w<2->∀r,r<4->(F6 w r).length=16/\∀j,j<16->eJ ((F6 w r).getD j 48)=true:=by decide
def qf (a c:Nat):Nat:=a^^^(c/2|||8*c%16)^^^8*a%16
theorem wn:∀a,a<16->∀c,c<16->qf a c<16/\a^^^c<16:=by decide
def qS (w i:Nat) (p:Nat×Nat):Nat×Nat:=(S8 ((F6 w (2*i)).getD (p.1^^^p.2) 48),S8 ((F6 w (2*i+1)).getD (qf p.1 p.2) 48))
def aH (w:Nat) (x:UInt8):Nat->Nat×Nat
 |0=>(x.toNat/16,x.toNat%16)
 |i+1=>qS w i (aH w x i)
def tQ (w:Nat) (x:UInt8):UInt8:=Zp (16*(aH w x 2).2+(aH w x 2).1)
theorem Xp {w i:Nat} (hw:w<2) (hi:i<2) {p:Nat×Nat} (h1:p.1<16) (h2:p.2<16):(qS w i p).1<16/\(qS w i p).2<16:=by
 obtain⟨f,e⟩:=wn p.1 h1 p.2 h2;exact⟨uE ((ml w hw (2*i) (by omega)).2 _ e),uE ((ml w hw (2*i+1) (by omega)).2 _ f)⟩
theorem wm {w:Nat} (hw:w<2) (x:UInt8):∀i,i<=2->(aH w x i).1<16/\(aH w x i).2<16
 |0,_=>by have:=x.toNat_lt;exact⟨by show x.toNat/16<16;omega,by show x.toNat%16<16;omega⟩
 |i+1,h=>by
  obtain⟨a,b⟩:=wm hw x i (by omega);exact Xp hw (by omega) a b
theorem zR {x:Int} {c:UInt8} (hx:x=c.toNat) (h:eJ c=true):a9 C 265 [vi .u8 x] [] (.ret (vi .u8 (S8 c))) []:=by
 subst hx;have h':=of_decide_eq_true h;refine Uf.c ?_;refine d9 (fun h1=> ?_) (fun h1=> ?_)
 ·refine⟨_,rfl,[],congrArg (vi .u8) ?_,tq⟩;simp only[wrap_u8,S8];split<;>omega
 ·refine⟨_,rfl,[],congrArg (vi .u8) ?_,tq⟩;simp only[wrap_u8,S8];split<;>omega
theorem Nm {w:Nat} (hw:w<2):a9 C 264 [i64 w] [] (.ret (.a [L0 (F6 w 0),L0 (F6 w 1),L0 (F6 w 2),L0 (F6 w 3)])) []:=by
 rcases w with _|_|w
 ·refine Bh.c ?_;exact⟨Zc _,_,rfl,rfl,_,rfl,[],rfl,tq⟩
 ·refine Bh.c ?_;exact⟨Zc _,_,rfl,rfl,_,rfl,[],rfl,tq⟩
 ·omega
theorem Xq:∀a,a<16->∀c,c<16->U8.wrap ((Zh U8.bits ((a:Nat):Int)^^^Zh U8.bits ((c:Nat):Int)).toNat:Int)=((a^^^c:Nat):Int):=by decide +kernel
theorem Xr:∀a,a<16->∀c,c<16->U8.wrap ((Zh U8.bits (U8.wrap ((Zh U8.bits ((a:Nat):Int)^^^Zh U8.bits (U8.wrap ((Zh U8.bits (((c:Nat):Int).fdiv (2^(min (1:Int).toNat U8.bits)))|||Zh U8.bits (U8.wrap ((Zh U8.bits (U8.wrap (((c:Nat):Int)*2^(min (3:Int).toNat U8.bits)))&&&Zh U8.bits 15).toNat:Int))).toNat:Int))).toNat:Int))^^^Zh U8.bits (U8.wrap ((Zh U8.bits (U8.wrap (((a:Nat):Int)*2^(min (3:Int).toNat U8.bits)))&&&Zh U8.bits 15).toNat:Int))).toNat:Int)=((qf a c:Nat):Int):=by decide +kernel
theorem Xt:∀x:Nat,x<256->((x:Nat):Int).fdiv (2^(min (4:Int).toNat U8.bits))=((x/16:Nat):Int)/\U8.wrap ((Zh U8.bits ((x:Nat):Int)&&&Zh U8.bits 15).toNat:Int)=((x%16:Nat):Int):=by decide +kernel
theorem Xs:∀a,a<16->∀c,c<16->U8.wrap ((Zh U8.bits (U8.wrap (((c:Nat):Int)*2^(min (4:Int).toNat U8.bits)))|||Zh U8.bits ((a:Nat):Int)).toNat:Int)=(((Zp (16*c+a)).toNat:Nat):Int):=by decide +kernel
theorem Ds {w i:Nat} (hi:i<4):([L0 (F6 w 0),L0 (F6 w 1),L0 (F6 w 2),L0 (F6 w 3)]:List V)[i]? =some (L0 (F6 w i)):=by
 rcases i with _|_|_|_|i;all_goals first|rfl|omega
theorem Nf {w:Nat} {z:Int} {x:UInt8} (hw:w<2) (hz:z=x.toNat):a9 C 240 [i64 w,vi .u8 z] [] (.ret (u8 (tQ w x))) []:=by
 subst hz;have hx:=x.toNat_lt;refine Ua.c ?_;refine⟨[],_,_,_,_,Nm hw,rfl,rfl,?_⟩;refine⟨Zc _,by decide,?_⟩;obtain⟨x1,x2⟩:=Xt x.toNat hx;refine m5 (fun i=>⟨[(5,.p (.k 0) 0),(6,vi .u8 ((aH w x i).1:Nat)),(7,vi .u8 ((aH w x i).2:Nat)),(8,i64 (2*i:Nat))],[.mx [L0 (F6 w 0),L0 (F6 w 1),L0 (F6 w 2),L0 (F6 w 3)]]⟩) 2 ⟨[.d 5 0],⟨rfl,congrArg (vi .u8) x1,congrArg (vi .u8) x2,rfl,tq⟩,⟨_,rfl,rfl⟩,tq⟩ fun i hi=> ?_;obtain⟨s1,s2⟩:=wm hw x i hi;have hsi:aH w x (i+1)=qS w i (aH w x i):=rfl;generalize hp:aH w x i=p at s1 s2 hsi ⊢;refine d9 (fun h=> ?_) (fun h=> ?_)
 ·have d8:i<2:=(by omega);obtain⟨f1,f2⟩:=wn p.1 s1 p.2 s2;obtain⟨r1,r2⟩:=ml w hw (2*i) (by omega);obtain⟨r3,r4⟩:=ml w hw (2*i+1) (by omega);have ee:=Xq p.1 s1 p.2 s2;have ef:=Xr p.1 s1 p.2 s2;have e1:(I6.wrap (((2*i:Nat):Int)+1)).toNat=2*i+1:=(by simp(disch:=omega)only[Za];omega);refine⟨by decide,by decide,by decide,?_⟩;refine⟨by omega,by omega,?_⟩;refine⟨_,by rw[Zb,Zd,Ze];exact Ds (by omega),?_⟩;refine⟨by rw[ee];omega,?_,?_⟩
  ·rw[ee];show((p.1^^^p.2:Nat):Int)<(((F6 w (2*i)).toArray.size:Nat):Int);simp only[List.size_toArray,r1];omega
  refine⟨_,by rw[ee,Zb];exact oE (by omega),?_⟩;refine⟨[],_,_,_,_,zR rfl (r2 _ f2),rfl,rfl,?_⟩;refine⟨by omega,by omega,?_⟩;refine⟨_,by rw[e1,Zd,Ze];exact Ds (by omega),?_⟩;refine⟨by rw[ef];omega,?_,?_⟩
  ·rw[ef];show((qf p.1 p.2:Nat):Int)<(((F6 w (2*i+1)).toArray.size:Nat):Int);simp only[List.size_toArray,r3];omega
  refine⟨_,by rw[ef,Zb];exact oE (by omega),?_⟩;refine⟨[],_,_,_,_,zR rfl (r4 _ f1),rfl,rfl,?_⟩;refine⟨i+1,by omega,by omega,[.k 0],⟨rfl,?_,?_,f6 (by simp(disch:=omega)only[Za];omega),tq⟩,⟨_,rfl,rfl⟩,tq⟩
  ·show vi .u8 _=vi .u8 _;rw[hsi];rfl
  ·show vi .u8 _=vi .u8 _;rw[hsi];rfl
 ·obtain rfl:i=2:=(by omega);refine⟨by decide,?_⟩;refine⟨_,rfl,[],congrArg (vi .u8) ?_,tq⟩;rw[tQ,hp];exact Xs p.1 s1 p.2 s2
def H8 (l:Nat):List Nat:=if l=4 then [1,0,0,1]else if l=3 then [1,1,0,0]else if l=2 then [0,1,0,1]else if l=1 then [0,0,1,1]else [1,0,1,0]
theorem Nl {l:Nat} (hl:l<=4):a9 C 239 [i64 l] [] (.ret (.a [i64 ((H8 l).getD 0 0:Nat),i64 ((H8 l).getD 1 0:Nat),i64 ((H8 l).getD 2 0:Nat),i64 ((H8 l).getD 3 0:Nat)])) []:=by
 rcases l with _|_|_|_|_|l
 ·exact nI.c ⟨Zc _,_,rfl,rfl,_,rfl,[],rfl,tq⟩
 ·exact nI.c ⟨Zc _,_,rfl,rfl,_,rfl,[],rfl,tq⟩
 ·exact nI.c ⟨Zc _,_,rfl,rfl,_,rfl,[],rfl,tq⟩
 ·exact nI.c ⟨Zc _,_,rfl,rfl,_,rfl,[],rfl,tq⟩
 ·exact nI.c ⟨Zc _,_,rfl,rfl,_,rfl,[],rfl,tq⟩
 ·omega
def M2 (i:Nat):Bs:=if i=0 then [1,239,91,91]else if i=1 then [91,239,239,1]else if i=2 then [239,91,1,239]else [239,1,239,91]
theorem Nk:a9 C 241 [] [] (.ret (.a [u8 1,u8 239,u8 91,u8 91,u8 91,u8 239,u8 239,u8 1,u8 239,u8 91,u8 1,u8 239,u8 239,u8 1,u8 239,u8 91])) []:=
 Ue.c ⟨Zc _,_,rfl,rfl,_,rfl,[],rfl,tq⟩
def cV (o:List Nat) (y:Bs) (i:Nat):Bs:=(List.range 4).map fun p=>if p<i then tQ (o.getD p 0) (y.getD p 0)else y.getD p 0
def R3 (o:List Nat) (y:Bs):Bs:=cV o y 4
theorem rT (o y i):(cV o y i).length=4:=by simp[cV]
theorem cW (o y):(R3 o y).length=4:=rT _ _ _
theorem UP (y:Bs) (h:y.length=4):[y.getD 0 0,y.getD 1 0,y.getD 2 0,y.getD 3 0]=y:=by
 match y,h with
 |[a,b,c,d],_=>rfl
theorem a0T {o y} (h:y.length=4):cV o y 0=y:=by
 show[y.getD 0 0,y.getD 1 0,y.getD 2 0,y.getD 3 0]=y;exact UP y h
theorem DW {o y i} (h:i<4):(cV o y i).set i (tQ (o.getD i 0) (y.getD i 0))=cV o y (i+1):=by
 rcases i with _|_|_|_|i;all_goals first|rfl|omega
theorem DV {o y i} (h:i<4):(cV o y i)[i]? =some (y.getD i 0):=by
 rcases i with _|_|_|_|i;all_goals first|rfl|omega
theorem nf {l:Bs} {j:Nat} {x:UInt8} (h:l[j]? =some x):(bv l)[j]? =some (.int .u8 x.toNat):=by simp[bv,h]
theorem a03 (l i:Nat) (hi:i<4):(H8 l).getD i 0<2:=by
 unfold H8;rcases i with _|_|_|_|i
 ·repeat' split
  all_goals decide
 ·repeat' split
  all_goals decide
 ·repeat' split
  all_goals decide
 ·repeat' split
  all_goals decide
 ·omega
theorem N8 {a b c d:V} {f:Nat->V} (h0:a=f 0) (h1:b=f 1) (h2:c=f 2) (h3:d=f 3) {i:Nat} (hi:i<4):([a,b,c,d]:List V)[i]? =some (f i):=by
 subst h0;subst h1;subst h2;subst h3;rcases i with _|_|_|_|i;all_goals first|rfl|omega
def hG (x:UInt32) (l:List UInt32) (n:Nat):Nat->Bs
 |0=>q7 x
 |g+1=>j8 (R3 (H8 (n-g)) (hG x l n g)) (q7 (l.getD (n-g-1) 0))
theorem bK (x l n):∀g,(hG x l n g).length=4
 |0=>G3 x
 |g+1=>B0 (cW _ _) (G3 _)
def T4 (f:Nat->Nat->UInt8) (K i k:Nat):Bs:=(List.range 4).map fun p=>if p<i then f p K else if p=i then f p k else 0
theorem jV (f K i k):(T4 f K i k).length=4:=by simp[T4]
theorem ya {f:Nat->Nat->UInt8} {K i k} (h:i<4):(T4 f K i k)[i]? =some (f i k):=by
 rcases i with _|_|_|_|i;all_goals first|rfl|omega
theorem yc {f:Nat->Nat->UInt8} {K i k} (h:i<4) {x:UInt8} (hx:x=f i (k+1)):(T4 f K i k).set i x=T4 f K i (k+1):=by
 subst hx;rcases i with _|_|_|_|i;all_goals first|rfl|omega
theorem yb {f:Nat->Nat->UInt8} {K i} (h0:∀p,f p 0=0) (h:i<4):T4 f K i K=T4 f K (i+1) 0:=by
 unfold T4;apply Zu;intro p hp;have:=Z5.1 hp;by_cases h1:p<i
 ·rw[if_pos h1,if_pos (by omega)]
 ·by_cases h2:p=i
  ·rw[if_neg h1,if_pos h2,if_pos (by omega)]
  ·rw[if_neg h1,if_neg h2,if_neg (by omega)];by_cases h3:p=i+1
   ·rw[if_pos h3,h0]
   ·rw[if_neg h3]
theorem yd {f:Nat->Nat->UInt8} {K} (h0:∀p,f p 0=0):T4 f K 0 0=[0,0,0,0]:=by
 show[f 0 0,0,0,0]=_;rw[h0]
def I5 (m:Nat) (r:Nat->Bs) (y:Bs) (p k:Nat):UInt8:=(List.range k).foldl (fun s k=>s^^^jl m ((r p).getD k 0) (y.getD k 0)) 0
theorem lJ (m r y p k):I5 m r y p (k+1)=I5 m r y p k^^^jl m ((r p).getD k 0) (y.getD k 0):=by simp[I5,Zn]
def tH (x:UInt32) (l:List UInt32):UInt32:=r9 (T4 (I5 361 M2 (R3 (H8 0) (hG x l l.length l.length))) 4 4 0)
theorem pI {z:Int} {x:UInt32} {n:Nat} {va:List Value} {l:List UInt32} (hz:z=x.toNat) (ha:va=wv l) (hl:l.length=n) (h4:n<=4):a9 C 196 [vi .u32 z,.z n va] [] (.ret (u32 (tH x l))) []:=by
 subst hz;subst ha;refine TX.c ?_;refine bd 0 rfl (n+1) (fun g=>⟨[(1,.z n (wv l)),(5,.o 1 (.k 0) 0 4),(6,i64 (n-g))],[.sc (bv (hG x l n g))]⟩) ?_ fun g hg=> ?_
 ·refine⟨[],_,_,_,_,kA rfl,rfl,rfl,?_⟩;refine⟨[],0,by omega,[.d 17 0],⟨rfl,rfl,?_,tq⟩,⟨_,rfl,rfl⟩,tq⟩;show i64 (if (4:Int)<n then 4 else n)=i64 (n-(0:Nat));rw[if_neg (by omega)];congr 2
 obtain⟨r,er,hr4,hrg⟩:∃r:Nat,(n:Int)-g=r/\r<=4/\r=n-g:=⟨n-g,by omega,by omega,rfl⟩;have hgs:hG x l n (g+1)=j8 (R3 (H8 r) (hG x l n g)) (q7 (l.getD (r-1) 0)):=by rw[hrg];rfl
 have hyl:=bK x l n g;rw[er];generalize hy:hG x l n g=y at hyl hgs ⊢;refine⟨[],_,_,_,_,Nl hr4,rfl,rfl,?_⟩;refine m5 (fun i=>⟨[(1,.z n (wv l)),(5,.o 1 (.k 0) 0 4),(6,i64 r),(22,.a [i64 ((H8 r).getD 0 0:Nat),i64 ((H8 r).getD 1 0:Nat),i64 ((H8 r).getD 2 0:Nat),i64 ((H8 r).getD 3 0:Nat)]),(23,i64 i)],[.sc (bv (cV (H8 r) y i))]⟩) 4 ⟨[.k 0],⟨rfl,rfl,rfl,rfl,rfl,tq⟩,⟨_,rfl,g9 (by rw[a0T hyl])⟩,tq⟩ fun i hi=> ?_;refine d9 (fun h=> ?_) (fun h=> ?_)
 ·have d8:i<4:=(by omega);refine⟨by omega,by omega,?_⟩;refine⟨_,by rw[Zb,Zd];exact N8 (f:=fun i=>i64 ((H8 r).getD i 0:Nat)) rfl rfl rfl rfl d8,?_⟩;refine⟨by omega,by omega,?_⟩;refine⟨_,by rw[Zb,Zd,Ze];exact nf (DV d8),?_⟩;refine⟨[],_,_,_,_,Nf (a03 r i d8) rfl,rfl,rfl,?_⟩;refine⟨by omega,by omega,by rw[i9,rT];omega,?_⟩;refine⟨i+1,by omega,by omega,[.k 0],⟨rfl,rfl,rfl,rfl,f6 (by simp(disch:=omega)only[Za];omega),tq⟩,⟨_,rfl,g9 ?_⟩,tq⟩;rw[Zb,Zd,Ze,K6,DW d8]
 obtain rfl:i=4:=(by omega);have hsl:(cV (H8 r) y 4).length=4:=rT _ _ _;refine d9 (fun h=> ?_) (fun h=> ?_)
 ·have e1:(I6.wrap ((r:Int)-1)).toNat=r-1:=(by simp(disch:=omega)only[Za];omega);refine⟨(by simp(disch:=omega)only[Za];omega),by omega,?_⟩;refine⟨_,by rw[e1];exact r8 (i:=r-1) (by omega),?_⟩;refine⟨[],_,_,_,_,kA rfl,rfl,rfl,?_⟩;refine⟨[],_,_,_,_,M4 (n:=4) (a:=R3 (H8 r) y) (b:=q7 (l.getD (r-1) 0)) (g8 (cW _ _)) (g8 (G3 _)) (cW _ _) (G3 _) (by decide),rfl,rfl,?_⟩;refine⟨rfl,g+1,by omega,by omega,[.d 48 0],⟨rfl,rfl,f6 ?_,tq⟩,⟨_,rfl,g9 (by rw[hgs])⟩,tq⟩;rw[Za _ (by omega)];omega
 ·obtain rfl:r=0:=(by omega);have hgn:g=n:=(by omega);have hm0:∀p,I5 361 M2 (R3 (H8 0) y) p 0=0:=fun _=>rfl;refine⟨by decide,by decide,by decide,?_⟩;refine⟨[],_,_,_,_,Nk,rfl,rfl,?_⟩;generalize hst:cV (H8 0) y 4=s at hsl ⊢;have hs':R3 (H8 0) y=s:=hst;rw[hs']at hm0;refine m5 (fun i=>⟨[(5,.o 1 (.k 0) 0 4),(9,.o 1 (.k 1) 0 4),(52,.a [u8 1,u8 239,u8 91,u8 91,u8 91,u8 239,u8 239,u8 1,u8 239,u8 91,u8 1,u8 239,u8 239,u8 1,u8 239,u8 91]),(53,i64 i)],[.sc (bv s),.sc (bv (T4 (I5 361 M2 s) 4 i 0))]⟩) 4 ⟨[.k 0,.d 51 0],⟨rfl,rfl,rfl,rfl,tq⟩,⟨_,rfl,rfl⟩,⟨_,rfl,g9 (by rw[yd hm0];rfl)⟩,tq⟩ fun i hi=> ?_;refine d9 (fun h=> ?_) (fun h=> ?_)
  ·have d8:i<4:=(by omega);refine⟨by omega,by omega,?_⟩;refine⟨[u8 ((M2 i).getD 0 0),u8 ((M2 i).getD 1 0),u8 ((M2 i).getD 2 0),u8 ((M2 i).getD 3 0)],?_,rfl,?_⟩
   ·rw[Zb];rcases i with _|_|_|_|i;all_goals first|rfl|omega
   refine⟨Zc _,?_⟩;refine⟨_,rfl,rfl,?_⟩;refine m5 (fun k=>⟨[(5,.o 1 (.k 0) 0 4),(9,.o 1 (.k 1) 0 4),(10,i64 i),(52,.a [u8 1,u8 239,u8 91,u8 91,u8 91,u8 239,u8 239,u8 1,u8 239,u8 91,u8 1,u8 239,u8 239,u8 1,u8 239,u8 91]),(53,i64 i),(57,.a [u8 ((M2 i).getD 0 0),u8 ((M2 i).getD 1 0),u8 ((M2 i).getD 2 0),u8 ((M2 i).getD 3 0)]),(58,i64 k)],[.sc (bv s),.sc (bv (T4 (I5 361 M2 s) 4 i k))]⟩) 4 ⟨[.k 0,.k 1],⟨rfl,rfl,rfl,rfl,rfl,rfl,rfl,tq⟩,⟨_,rfl,rfl⟩,⟨_,rfl,rfl⟩,tq⟩ fun k hk=> ?_;refine d9 (fun h=> ?_) (fun h=> ?_)
   ·have hkl:k<4:=(by omega);refine⟨by omega,by omega,?_⟩;refine⟨_,by rw[Zb,Zd];exact N8 (f:=fun k=>u8 ((M2 i).getD k 0)) rfl rfl rfl rfl hkl,?_⟩;refine⟨by omega,by omega,?_⟩;refine⟨_,by rw[Zb,Zd,Ze];exact nf (ya d8),?_⟩;refine⟨by omega,by omega,?_⟩;refine⟨_,by rw[Zb,Zd,Ze];exact p5 (i:=k) (by omega),?_⟩;refine⟨[],_,_,_,_,nh (m:=361) rfl rfl (by decide) (by decide),rfl,rfl,?_⟩;refine⟨by omega,by omega,by rw[i9,jV];omega,?_⟩;refine⟨k+1,by omega,by omega,[.k 0,.k 1],⟨rfl,rfl,rfl,rfl,rfl,rfl,f6 (by simp(disch:=omega)only[Za];omega),tq⟩,⟨_,rfl,rfl⟩,⟨_,rfl,g9 ?_⟩,tq⟩;rw[Zb,Zd,Ze,n5,K6,yc d8 (lJ _ _ _ _ _).symm]
   ·obtain rfl:k=4:=(by omega);refine⟨i+1,by omega,by omega,[.k 0,.k 1],⟨rfl,rfl,rfl,f6 (by simp(disch:=omega)only[Za];omega),tq⟩,⟨_,rfl,rfl⟩,⟨_,rfl,g9 ?_⟩,tq⟩;rw[yb hm0 d8]
  ·obtain rfl:i=4:=(by omega);refine⟨[],_,_,_,_,dq (l:=T4 (I5 361 M2 s) 4 4 0) (g8 (jV _ _ _ _)) (jV _ _ _ _) rfl,rfl,rfl,?_⟩;refine⟨_,rfl,[],?_,tq⟩;show u32 (r9 (T4 (I5 361 M2 s) 4 4 0))=u32 (tH x l);have hyn:hG x l n n=y:=by rw[<-hy,hgn]
   rw[tH,hl,hyn,hs']
def fR (i:Nat):Bs:=if i=0 then [1,164,85,135,90,88,219,158]else if i=1 then [164,86,130,243,30,198,104,229]else if i=2 then [2,161,252,193,71,174,61,25]else [164,85,135,90,88,219,158,3]
def gQ (m:Bs):UInt32:=r9 (T4 (I5 333 fR m) 8 4 0)
theorem Pa (i:Nat) (h:i<4):(fR i).length=8:=by
 rcases i with _|_|_|_|i;all_goals first|rfl|omega
theorem tM {va:List Value} {m:Bs} (ha:va=bv m) (hm:m.length=8):a9 C 194 [.z 8 va] [] (.ret (u32 (gQ m))) []:=by
 subst ha;have hm0:∀p,I5 333 fR m p 0=0:=fun _=>rfl;refine Ud.c ?_;refine⟨by decide,by decide,by decide,?_⟩;refine m5 (fun i=>⟨[(0,.z 8 (bv m)),(3,.o 1 (.k 0) 0 4),(15,.a [.z 8 (bv (fR 0)),.z 8 (bv (fR 1)),.z 8 (bv (fR 2)),.z 8 (bv (fR 3))]),(16,i64 i)],[.sc (bv (T4 (I5 333 fR m) 8 i 0))]⟩) 4 ⟨[.d 10 0],⟨rfl,rfl,rfl,rfl,tq⟩,⟨_,rfl,g9 (by rw[yd hm0];rfl)⟩,tq⟩ fun i hi=> ?_;refine d9 (fun h=> ?_) (fun h=> ?_)
 ·have d8:i<4:=(by omega);have hfl:=Pa i d8;refine⟨by omega,by omega,?_⟩;refine⟨_,by rw[Zb,Zd];exact N8 (f:=fun i=> .z 8 (bv (fR i))) rfl rfl rfl rfl d8,?_⟩;refine m5 (fun k=>⟨[(0,.z 8 (bv m)),(3,.o 1 (.k 0) 0 4),(4,i64 i),(15,.a [.z 8 (bv (fR 0)),.z 8 (bv (fR 1)),.z 8 (bv (fR 2)),.z 8 (bv (fR 3))]),(16,i64 i),(20,.z 8 (bv (fR i))),(21,i64 8),(22,i64 k)],[.sc (bv (T4 (I5 333 fR m) 8 i k))]⟩) 8 ⟨[.k 0],⟨rfl,rfl,rfl,rfl,rfl,rfl,rfl,rfl,tq⟩,⟨_,rfl,rfl⟩,tq⟩ fun k hk=> ?_;refine d9 (fun h=> ?_) (fun h=> ?_)
  ·have hkl:k<8:=(by omega);refine⟨by omega,by omega,?_⟩;refine⟨_,by rw[Zb];exact p5 (by omega),?_⟩;refine⟨by omega,by omega,?_⟩;refine⟨_,by rw[Zb,Zd,Ze];exact nf (ya d8),?_⟩;refine⟨by omega,by omega,?_⟩;refine⟨_,by rw[Zb];exact p5 (by omega),?_⟩;refine⟨[],_,_,_,_,nh (m:=333) rfl rfl (by decide) (by decide),rfl,rfl,?_⟩;refine⟨by omega,by omega,by rw[i9,jV];omega,?_⟩;refine⟨k+1,by omega,by omega,[.k 0],⟨rfl,rfl,rfl,rfl,rfl,rfl,rfl,f6 (by simp(disch:=omega)only[Za];omega),tq⟩,⟨_,rfl,g9 ?_⟩,tq⟩;rw[Zb,Zd,Ze,n5,K6,yc d8 (lJ _ _ _ _ _).symm]
  ·obtain rfl:k=8:=(by omega);refine⟨i+1,by omega,by omega,[.k 0],⟨rfl,rfl,rfl,f6 (by simp(disch:=omega)only[Za];omega),tq⟩,⟨_,rfl,g9 ?_⟩,tq⟩;rw[yb hm0 d8]
 ·obtain rfl:i=4:=(by omega);refine⟨[],_,_,_,_,dq (l:=T4 (I5 333 fR m) 8 4 0) (g8 (jV _ _ _ _)) (jV _ _ _ _) rfl,rfl,rfl,?_⟩;exact⟨_,rfl,[],rfl,tq⟩
def x5 (key:Bs) (n:Nat):List UInt32:=(List.range n).map fun i=>r9 (sub key (8*i) 4)
def x6 (key:Bs) (n:Nat):List UInt32:=(List.range n).map fun i=>r9 (sub key (8*i+4) 4)
def M7 (key:Bs) (n:Nat):List UInt32:=(List.range n).map fun i=>gQ (sub key (8*i) 8)
theorem mA (key n):x5 key (n+1)=x5 key n++[r9 (sub key (8*n) 4)]:=by simp[x5,Zn]
theorem mC (key n):x6 key (n+1)=x6 key n++[r9 (sub key (8*n+4) 4)]:=by simp[x6,Zn]
theorem mB (key n):M7 key (n+1)=M7 key n++[gQ (sub key (8*n) 8)]:=by simp[M7,Zn]
theorem P4 (key n):(x5 key n).length=n:=by simp[x5]
theorem P5 (key n):(x6 key n).length=n:=by simp[x6]
theorem O5 (key n):(M7 key n).length=n:=by simp[M7]
def bq:UInt32:=16843009
def af (ev:List UInt32) (r:Nat):UInt32:=tH (2*Zk r*bq) ev
def ag (od:List UInt32) (r:Nat):UInt32:=E7 (tH ((2*Zk r+1)*bq) od) 8
def kW (ev od:List UInt32) (r:Nat):List UInt32:=[af ev r+ag od r,E7 (af ev r+2*ag od r) 9]
def V1 (ev od:List UInt32) (n:Nat):List UInt32:=((List.range n).map (kW ev od)).flatten
theorem nV (ev od n):V1 ev od (n+1)=V1 ev od n++kW ev od n:=by simp[V1,Zn]
theorem gT (ev od):∀n,(V1 ev od n).length=2*n
 |0=>rfl
 |n+1=>by rw[nV,Zm,gT ev od n];show 2*n+2=_;omega
def tK (key:Bs):List UInt32:=V1 (x5 key (key.length/8)) (x6 key (key.length/8)) 20
def tS (key:Bs):List UInt32:=(M7 key (key.length/8)).reverse
theorem iF (key):(tK key).length=40:=gT _ _ _
theorem sa {key:Bs} {n:Nat} (h:key.length=8*n):(tS key).length=n:=by
 rw[tS,Zj,O5,h];omega
theorem CG (r:Nat):Zk r+1=Zk (r+1):=by
 rw[UInt32.ofNat_add];rfl
theorem Nj {n m:Nat} {va:List Value} {key:Bs} (ha:va=bv key) (hk:key.length=m) (hm:m=8*n) (hn:2<=n/\n<=4):
  a9 C 134 [.z m va] [] (.ret (.t [.o 1 (.k 0) 0 40,.o 1 (.k 1) 0 n,i64 0])) [.sc (wv (tK key)),.sc (wv (tS key))]:=by
 subst ha;subst hm;have hdiv:key.length/8=n:=by omega
 have hK:tK key=V1 (x5 key n) (x6 key n) 20:=by rw[tK,hdiv]
 have hS:tS key=(M7 key n).reverse:=by rw[tS,hdiv]
 rw[hK,hS];refine TY.c ?_;refine bd 0 rfl 20 (fun r=>⟨[(2,.o 1 (.k 0) 0 (2*r)),(3,.z n (wv (M7 key n).reverse)),(5,.z n (wv (x5 key n))),(6,.z n (wv (x6 key n))),(12,u32 (Zk r))],[.sc (wv (V1 (x5 key n) (x6 key n) r))]⟩) ?_ fun r hr=> ?_
 ·by_cases h2:n=2
  ·refine D8 (by rw[h2];rfl) ?_;refine D6 (fun i=>⟨[(2,i6),(3,.o 1 (.k 2) 0 i),(5,.o 1 (.k 0) 0 i),(6,.o 1 (.k 1) 0 i),(7,.z (8*(n-i)) (bv (key.drop (8*i))))],[.sc (wv (x5 key i)),.sc (wv (x6 key i)),.sc (wv (M7 key i))]⟩) n [(5,1,.sc []),(6,1,.sc []),(3,1,.sc [])] ⟨[.d 900000 0,.d 900000 1,.d 900000 2],⟨rfl,rfl,rfl,rfl,rfl,tq⟩,⟨_,rfl,rfl⟩,⟨_,rfl,rfl⟩,⟨_,rfl,rfl⟩,tq⟩ fun i hi=> ?_;refine d9 (fun h=> ?_) (fun h=> ?_)
   ·have d8:i<n:=(by omega);have s4:sub (bv (key.drop (8*i))) 0 4=bv (sub key (8*i) 4):=by rw[m8,U1];rfl
    have s5:sub (bv (key.drop (8*i))) 4 4=bv (sub key (8*i+4) 4):=by rw[m8,U1]
    have s8:sub (bv (key.drop (8*i))) 0 8=bv (sub key (8*i) 8):=by rw[m8,U1];rfl
    refine⟨by decide,by decide,Zc _,by show 4<=8*(n-i);omega,?_⟩;refine⟨[],_,_,_,_,dq (l:=sub key (8*i) 4) s4 (by rw[l4];omega) rfl,rfl,rfl,?_⟩;refine⟨by decide,by decide,by decide,Zc _,by show 8<=8*(n-i);omega,?_⟩;refine⟨[],_,_,_,_,dq (l:=sub key (8*i+4) 4) s5 (by rw[l4];omega) rfl,rfl,rfl,?_⟩;refine⟨Zc _,by omega,by rw[x8,P4];omega,?_⟩;refine⟨Zc _,by omega,by rw[x8,P5];omega,?_⟩;refine⟨by decide,by decide,Zc _,by show 8<=8*(n-i);omega,?_⟩;refine⟨[],_,_,_,_,tM (m:=sub key (8*i) 8) s8 (by rw[l4];omega),rfl,rfl,?_⟩;refine⟨Zc _,by omega,by rw[x8,O5];omega,?_⟩;refine⟨by decide,by show 8<=8*(n-i);omega,Zc _,Zc _,?_⟩;refine⟨i+1,by omega,by omega,[.d 49 0,.d 53 0,.d 59 0],⟨rfl,rfl,rfl,rfl,?_,tq⟩,⟨_,rfl,g9 ?_⟩,⟨_,rfl,g9 ?_⟩,⟨_,rfl,g9 ?_⟩,tq⟩
    ·show V.z (8*(n-i)-8) (sub _ 8 (8*(n-i)-8))=_;rw[m8,U1,M0 _ _ _ (by omega),show 8*(n-i)-8=8*(n-(i+1)) by omega,show 8*i+8=8*(i+1) by omega]
    ·rw[mA];exact S2 (by rw[P4];omega)
    ·rw[mC];exact S2 (by rw[P5];omega)
    ·rw[mB];exact S2 (by rw[O5];omega)
   ·obtain rfl:i=n:=(by omega);refine⟨[.k 2],_,_,_,_,kE (l:=M7 key i) (O5 _ _) (by omega) (by omega),rfl,rfl,?_⟩;refine⟨[(2,1,.sc [])],0,by decide,[.d 900000 0],⟨rfl,?_,?_,?_,rfl,tq⟩,⟨_,rfl,rfl⟩,tq⟩
    ·show V.z i (sub _ 0 i)=V.z i _;rw[C8 (by rw[Zj,O5])]
    ·show V.z i (sub _ 0 i)=V.z i _;rw[C8 (P4 _ _)]
    ·show V.z i (sub _ 0 i)=V.z i _;rw[C8 (P5 _ _)]
  refine eW (by rw[bne_iff_ne];omega) ?_;by_cases h3:n=3
  ·refine D8 (by rw[h3];rfl) ?_;refine D6 (fun i=>⟨[(2,i6),(3,.o 1 (.k 2) 0 i),(5,.o 1 (.k 0) 0 i),(6,.o 1 (.k 1) 0 i),(7,.z (8*(n-i)) (bv (key.drop (8*i))))],[.sc (wv (x5 key i)),.sc (wv (x6 key i)),.sc (wv (M7 key i))]⟩) n [(5,1,.sc []),(6,1,.sc []),(3,1,.sc [])] ⟨[.d 900000 0,.d 900000 1,.d 900000 2],⟨rfl,rfl,rfl,rfl,rfl,tq⟩,⟨_,rfl,rfl⟩,⟨_,rfl,rfl⟩,⟨_,rfl,rfl⟩,tq⟩ fun i hi=> ?_;refine d9 (fun h=> ?_) (fun h=> ?_)
   ·have d8:i<n:=(by omega);have s4:sub (bv (key.drop (8*i))) 0 4=bv (sub key (8*i) 4):=by rw[m8,U1];rfl
    have s5:sub (bv (key.drop (8*i))) 4 4=bv (sub key (8*i+4) 4):=by rw[m8,U1]
    have s8:sub (bv (key.drop (8*i))) 0 8=bv (sub key (8*i) 8):=by rw[m8,U1];rfl
    refine⟨by decide,by decide,Zc _,by show 4<=8*(n-i);omega,?_⟩;refine⟨[],_,_,_,_,dq (l:=sub key (8*i) 4) s4 (by rw[l4];omega) rfl,rfl,rfl,?_⟩;refine⟨by decide,by decide,by decide,Zc _,by show 8<=8*(n-i);omega,?_⟩;refine⟨[],_,_,_,_,dq (l:=sub key (8*i+4) 4) s5 (by rw[l4];omega) rfl,rfl,rfl,?_⟩;refine⟨Zc _,by omega,by rw[x8,P4];omega,?_⟩;refine⟨Zc _,by omega,by rw[x8,P5];omega,?_⟩;refine⟨by decide,by decide,Zc _,by show 8<=8*(n-i);omega,?_⟩;refine⟨[],_,_,_,_,tM (m:=sub key (8*i) 8) s8 (by rw[l4];omega),rfl,rfl,?_⟩;refine⟨Zc _,by omega,by rw[x8,O5];omega,?_⟩;refine⟨by decide,by show 8<=8*(n-i);omega,Zc _,Zc _,?_⟩;refine⟨i+1,by omega,by omega,[.d 49 0,.d 53 0,.d 59 0],⟨rfl,rfl,rfl,rfl,?_,tq⟩,⟨_,rfl,g9 ?_⟩,⟨_,rfl,g9 ?_⟩,⟨_,rfl,g9 ?_⟩,tq⟩
    ·show V.z (8*(n-i)-8) (sub _ 8 (8*(n-i)-8))=_;rw[m8,U1,M0 _ _ _ (by omega),show 8*(n-i)-8=8*(n-(i+1)) by omega,show 8*i+8=8*(i+1) by omega]
    ·rw[mA];exact S2 (by rw[P4];omega)
    ·rw[mC];exact S2 (by rw[P5];omega)
    ·rw[mB];exact S2 (by rw[O5];omega)
   ·obtain rfl:i=n:=(by omega);refine⟨[.k 2],_,_,_,_,kE (l:=M7 key i) (O5 _ _) (by omega) (by omega),rfl,rfl,?_⟩;refine⟨[(2,1,.sc [])],0,by decide,[.d 900000 0],⟨rfl,?_,?_,?_,rfl,tq⟩,⟨_,rfl,rfl⟩,tq⟩
    ·show V.z i (sub _ 0 i)=V.z i _;rw[C8 (by rw[Zj,O5])]
    ·show V.z i (sub _ 0 i)=V.z i _;rw[C8 (P4 _ _)]
    ·show V.z i (sub _ 0 i)=V.z i _;rw[C8 (P5 _ _)]
  refine eW (by rw[bne_iff_ne];omega) ?_;refine D8 (by rw[show n=4 by omega];rfl) ?_;refine D6 (fun i=>⟨[(2,i6),(3,.o 1 (.k 2) 0 i),(5,.o 1 (.k 0) 0 i),(6,.o 1 (.k 1) 0 i),(7,.z (8*(n-i)) (bv (key.drop (8*i))))],[.sc (wv (x5 key i)),.sc (wv (x6 key i)),.sc (wv (M7 key i))]⟩) n [(5,1,.sc []),(6,1,.sc []),(3,1,.sc [])] ⟨[.d 900000 0,.d 900000 1,.d 900000 2],⟨rfl,rfl,rfl,rfl,rfl,tq⟩,⟨_,rfl,rfl⟩,⟨_,rfl,rfl⟩,⟨_,rfl,rfl⟩,tq⟩ fun i hi=> ?_;refine d9 (fun h=> ?_) (fun h=> ?_)
  ·have d8:i<n:=(by omega);have s4:sub (bv (key.drop (8*i))) 0 4=bv (sub key (8*i) 4):=by rw[m8,U1];rfl
   have s5:sub (bv (key.drop (8*i))) 4 4=bv (sub key (8*i+4) 4):=by rw[m8,U1]
   have s8:sub (bv (key.drop (8*i))) 0 8=bv (sub key (8*i) 8):=by rw[m8,U1];rfl
   refine⟨by decide,by decide,Zc _,by show 4<=8*(n-i);omega,?_⟩;refine⟨[],_,_,_,_,dq (l:=sub key (8*i) 4) s4 (by rw[l4];omega) rfl,rfl,rfl,?_⟩;refine⟨by decide,by decide,by decide,Zc _,by show 8<=8*(n-i);omega,?_⟩;refine⟨[],_,_,_,_,dq (l:=sub key (8*i+4) 4) s5 (by rw[l4];omega) rfl,rfl,rfl,?_⟩;refine⟨Zc _,by omega,by rw[x8,P4];omega,?_⟩;refine⟨Zc _,by omega,by rw[x8,P5];omega,?_⟩;refine⟨by decide,by decide,Zc _,by show 8<=8*(n-i);omega,?_⟩;refine⟨[],_,_,_,_,tM (m:=sub key (8*i) 8) s8 (by rw[l4];omega),rfl,rfl,?_⟩;refine⟨Zc _,by omega,by rw[x8,O5];omega,?_⟩;refine⟨by decide,by show 8<=8*(n-i);omega,Zc _,Zc _,?_⟩;refine⟨i+1,by omega,by omega,[.d 49 0,.d 53 0,.d 59 0],⟨rfl,rfl,rfl,rfl,?_,tq⟩,⟨_,rfl,g9 ?_⟩,⟨_,rfl,g9 ?_⟩,⟨_,rfl,g9 ?_⟩,tq⟩
   ·show V.z (8*(n-i)-8) (sub _ 8 (8*(n-i)-8))=_;rw[m8,U1,M0 _ _ _ (by omega),show 8*(n-i)-8=8*(n-(i+1)) by omega,show 8*i+8=8*(i+1) by omega]
   ·rw[mA];exact S2 (by rw[P4];omega)
   ·rw[mC];exact S2 (by rw[P5];omega)
   ·rw[mB];exact S2 (by rw[O5];omega)
  ·obtain rfl:i=n:=(by omega);refine⟨[.k 2],_,_,_,_,kE (l:=M7 key i) (O5 _ _) (by omega) (by omega),rfl,rfl,?_⟩;refine⟨[(2,1,.sc [])],0,by decide,[.d 900000 0],⟨rfl,?_,?_,?_,rfl,tq⟩,⟨_,rfl,rfl⟩,tq⟩
   ·show V.z i (sub _ 0 i)=V.z i _;rw[C8 (by rw[Zj,O5])]
   ·show V.z i (sub _ 0 i)=V.z i _;rw[C8 (P4 _ _)]
   ·show V.z i (sub _ 0 i)=V.z i _;rw[C8 (P5 _ _)]
 ·have e2:∀x:UInt32,U3.wrap (2*(x.toNat:Int))=((2*x).toNat:Int):=fun x=>jJ 2 x;have e3:∀x:UInt32,U3.wrap ((x.toNat:Int)*16843009)=((x*bq).toNat:Int):=fun x=>jJ x bq;have e4:∀x:UInt32,U3.wrap ((x.toNat:Int)+1)=((x+1).toNat:Int):=fun x=>x7 x 1;have hkl:=gT (x5 key n) (x6 key n) r;refine⟨[],_,_,_,_,pI (x:=2*Zk r*bq) (l:=x5 key n) (by rw[e2,e3]) rfl (P4 _ _) (by omega),rfl,rfl,?_⟩;refine⟨[],_,_,_,_,pI (x:=(2*Zk r+1)*bq) (l:=x6 key n) (by rw[e2,e4,e3]) rfl (P5 _ _) (by omega),rfl,rfl,?_⟩;refine⟨[],_,_,_,_,bG (k:=8) rfl (by decide) (by decide),rfl,rfl,?_⟩;refine⟨[],_,_,_,_,bG (v:=af (x5 key n) r+2*ag (x6 key n) r) (k:=9) (by rw[e2];exact x7 _ _) (by decide) (by decide),rfl,rfl,?_⟩;refine⟨Zc _,by omega,by rw[x8,hkl];omega,?_⟩;have hst:sub (wv (V1 (x5 key n) (x6 key n) r)) 0 (2*r*1)++[Value.int .u32 (U3.wrap (((af (x5 key n) r).toNat:Int)+((ag (x6 key n) r).toNat:Int))),Value.int .u32 ((E7 (af (x5 key n) r+2*ag (x6 key n) r) 9).toNat:Int)]=wv (V1 (x5 key n) (x6 key n) (r+1)):=by
   rw[Zd,C8 hkl,x7,nV,<-mK];rfl
  have hu:((Zk r+1).toNat:Int)=((r+1:Nat):Int):=by
   rw[CG,UInt32.toNat_ofNat',Nat.mod_eq_of_lt (by omega)]
  refine d9 (fun h=> ?_) (fun h=> ?_)
  ·rw[e4,hu]at h;refine⟨rfl,r+1,by omega,by omega,[.d 84 0],⟨rfl,rfl,rfl,rfl,?_,tq⟩,⟨_,rfl,g9 hst⟩,tq⟩;show vi .u32 _=vi .u32 _;rw[e4,CG]
  ·rw[e4,hu]at h;obtain rfl:r=19:=(by omega);refine⟨[],_,_,_,_,pr (l:=V1 (x5 key n) (x6 key n) 20) (n:=40) rfl (gT _ _ _) (by decide) (by decide),?_,rfl,?_⟩
   ·show[V.z _ (sub (sub (wv (V1 (x5 key n) (x6 key n) 19)) 0 (2*19*1)++[Value.int .u32 (U3.wrap (((af (x5 key n) 19).toNat:Int)+((ag (x6 key n) 19).toNat:Int))),Value.int .u32 ((E7 (af (x5 key n) 19+2*ag (x6 key n) 19) 9).toNat:Int)]) 0 _)]=_;rw[hst,C8 (gT _ _ _)]
   refine⟨[],_,_,_,_,pr (l:=(M7 key n).reverse) rfl (by rw[Zj,O5]) (by omega) (by omega),rfl,rfl,?_⟩;exact⟨_,rfl,[.d 90 0,.d 92 0],rfl,⟨_,rfl,rfl⟩,⟨_,rfl,rfl⟩,tq⟩
abbrev R5 (k s:List UInt32):V:= .q [wz k,wz s] 0
theorem zQ {n m:Nat} {va:List Value} {key:Bs} (ha:va=bv key) (hk:key.length=m) (hm:m=8*n) (hn:2<=n/\n<=4):a9 C 82 [.z m va] [] (.ret (.t [R5 (tK key) (tS key),i64 0])) []:=by
 refine TZ.c ?_;refine⟨[],_,_,_,_,Nj ha hk hm hn,rfl,rfl,?_⟩;refine⟨_,rfl,[],?_,tq⟩;show V.t [.q [.z 40 (sub _ 0 40),.z n (sub _ 0 n)] 0,i64 0]=V.t [.q [.z _ _,.z _ _] 0,i64 0];rw[C8 (iF key),C8 (sa (n:=n) (by omega)),iF,sa (n:=n) (by omega)]
abbrev W4:=UInt32×UInt32×UInt32×UInt32
def oF (k s:List UInt32) (a c:UInt32) (r:Nat):UInt32:=tH a s+tH (E7 c 8) s+k.getD (2*r+8) 0
def oG (k s:List UInt32) (a c:UInt32) (r:Nat):UInt32:=tH a s+2*tH (E7 c 8) s+k.getD (2*r+9) 0
theorem zS {k s:List UInt32} {x y:Int} {a c:UInt32} {r:Nat} (hx:x=a.toNat) (hy:y=c.toNat) (hk:k.length=40) (hs:s.length<=4) (hr:r<16):a9 C 137 [R5 k s,vi .u32 x,vi .u32 y,i64 r] [] (.ret (.t [u32 (oF k s a c r),u32 (oG k s a c r)])) []:=by
 subst hx;subst hy;refine Ub.c ?_;have e1:(I6.wrap (I6.wrap (2*(r:Int))+8)).toNat=2*r+8:=(by simp(disch:=omega)only[Za];omega);have e2:(I6.wrap (I6.wrap (2*(r:Int))+9)).toNat=2*r+9:=(by simp(disch:=omega)only[Za];omega);have e3:∀x:UInt32,U3.wrap (2*(x.toNat:Int))=((2*x).toNat:Int):=fun x=>jJ 2 x;refine⟨_,rfl,?_⟩;refine⟨[],_,_,_,_,pI (l:=s) rfl rfl rfl hs,rfl,rfl,?_⟩;refine⟨[],_,_,_,_,bG (k:=8) rfl (by decide) (by decide),rfl,rfl,?_⟩;refine⟨_,rfl,?_⟩;refine⟨[],_,_,_,_,pI (l:=s) rfl rfl rfl hs,rfl,rfl,?_⟩;refine⟨_,rfl,by omega,by omega,?_⟩;refine⟨_,by rw[e1];exact r8 (by omega),?_⟩;refine⟨_,rfl,by omega,by omega,?_⟩;refine⟨_,by rw[e2];exact r8 (by omega),?_⟩;refine⟨_,rfl,[],?_,tq⟩;show V.t [vi .u32 _,vi .u32 _]=_;rw[x7,x7,e3,x7,x7];rfl
def sq (k:List UInt32) (o:Nat) (x:W4) (i:Nat):List V:=[u32 (if 0<i then x.1^^^k.getD (o+0) 0 else x.1),u32 (if 1<i then x.2.1^^^k.getD (o+1) 0 else x.2.1),u32 (if 2<i then x.2.2.1^^^k.getD (o+2) 0 else x.2.2.1),u32 (if 3<i then x.2.2.2^^^k.getD (o+3) 0 else x.2.2.2)]
def wh (k:List UInt32) (o:Nat) (x:W4):W4:=(x.1^^^k.getD (o+0) 0,x.2.1^^^k.getD (o+1) 0,x.2.2.1^^^k.getD (o+2) 0,x.2.2.2^^^k.getD (o+3) 0)
def bt (x:W4) (i:Nat):UInt32:=if i=0 then x.1 else if i=1 then x.2.1 else if i=2 then x.2.2.1 else x.2.2.2
theorem a2T {k o x i} (h:i<4):(sq k o x i)[i]? =some (u32 (bt x i)):=by
 rcases i with _|_|_|_|i;all_goals first|rfl|omega
theorem a2U {k o x i} (h:i<4):(sq k o x i).set i (u32 (bt x i^^^k.getD (o+i) 0))=sq k o x (i+1):=by
 rcases i with _|_|_|_|i;all_goals first|rfl|omega
abbrev sj (x:W4):V:= .a [u32 x.1,u32 x.2.1,u32 x.2.2.1,u32 x.2.2.2]
theorem pK {k s:List UInt32} {x:W4} {o:Nat} (hk:k.length=40) (ho:o<=36):a9 C 136 [R5 k s,sj x,i64 o] [] (.ret (sj (wh k o x))) []:=by
 refine Uc.c ?_;refine m5 (fun i=>⟨[(0,R5 k s),(2,i64 o),(4,.p (.k 0) 0),(6,.p (.k 1) 0),(8,i64 i)],[.mx (sq k o x i),.sc [.int .u32 0,.int .u32 0,.int .u32 0,.int .u32 0]]⟩) 4 ⟨[.d 4 0,.d 6 0],⟨rfl,rfl,rfl,rfl,rfl,tq⟩,⟨_,rfl,rfl⟩,⟨_,rfl,rfl⟩,tq⟩ fun i hi=> ?_;refine d9 (fun h=> ?_) (fun h=> ?_)
 ·have d8:i<4:=(by omega);have e1:(I6.wrap ((o:Int)+i)).toNat=o+i:=(by simp(disch:=omega)only[Za];omega);refine⟨by omega,by omega,?_⟩;refine⟨_,by rw[Zb,Zd,Ze];exact a2T d8,?_⟩;refine⟨_,rfl,(by simp(disch:=omega)only[Za];omega),by omega,?_⟩;refine⟨_,by rw[e1];exact r8 (by omega),?_⟩;refine⟨by omega,by omega,by show 0+((i:Int)).toNat*1+1<=4;omega,?_⟩;refine⟨i+1,by omega,by omega,[.k 0,.k 1],⟨rfl,rfl,rfl,rfl,f6 (by simp(disch:=omega)only[Za];omega),tq⟩,⟨_,rfl,?_⟩,⟨_,rfl,rfl⟩,tq⟩;rw[<-a2U d8,B5];rcases i with _|_|_|_|i;all_goals first|rfl|omega
 ·obtain rfl:i=4:=(by omega);refine⟨_,rfl,rfl,Zc _,_,rfl,rfl,?_⟩;exact⟨_,rfl,[],rfl,tq⟩
def B9 (b:Bs):W4:=(r9 (sub b 0 4),r9 (sub b 4 4),r9 (sub b 8 4),r9 (sub b 12 4))
def dz (b:Bs) (i:Nat):List UInt32:=(List.range 4).map fun p=>if p<i then r9 (sub b (4*p) 4)else 0
theorem qI (b:Bs) {i:Nat} (h:i<4):(dz b i).set i (r9 (sub b (4*i) 4))=dz b (i+1):=by
 rcases i with _|_|_|_|i;all_goals first|rfl|omega
def iD (k s:List UInt32) (x:W4) (r:Nat):W4:=(E7 (x.2.2.1^^^oF k s x.1 x.2.1 r) 31,E7 x.2.2.2 1^^^oG k s x.1 x.2.1 r,x.1,x.2.1)
def eX (k s:List UInt32) (x:W4) (r:Nat):W4:=(E7 x.2.2.1 1^^^oF k s x.1 x.2.1 r,E7 (x.2.2.2^^^oG k s x.1 x.2.1 r) 31,x.1,x.2.1)
def G4 (x:W4):W4:=(x.2.2.1,x.2.2.2,x.1,x.2.1)
def cZ (k s:List UInt32) (x:W4) (n:Nat):W4:=(List.range n).foldl (iD k s) x
def bY (k s:List UInt32) (x:W4) (n:Nat):W4:=(List.range n).foldl (fun x r=>eX k s x (15-r)) x
theorem Ed (k s x n):cZ k s x (n+1)=iD k s (cZ k s x n) n:=by simp[cZ,Zn]
theorem Ec (k s x n):bY k s x (n+1)=eX k s (bY k s x n) (15-n):=by simp[bY,Zn]
def db (k s:List UInt32) (x:W4):W4:=wh k 4 (G4 (cZ k s (wh k 0 x) 16))
def da (k s:List UInt32) (x:W4):W4:=wh k 0 (G4 (bY k s (wh k 4 x) 16))
def N7 (x:W4) (n:Nat):Bs:=((List.range n).map fun i=>q7 (bt x i)).flatten
theorem oz (x n):N7 x (n+1)=N7 x n++q7 (bt x n):=by simp[N7,Zn]
theorem eU (x):∀n,(N7 x n).length=4*n
 |0=>rfl
 |n+1=>by rw[oz,Zm,eU x n,G3];omega
theorem sn {x:W4} {i:Nat} (h:i<4):([u32 x.1,u32 x.2.1,u32 x.2.2.1,u32 x.2.2.2]:List V)[i]? =some (u32 (bt x i)):=by
 rcases i with _|_|_|_|i;all_goals first|rfl|omega
theorem ie {a b c d:Int} {x:W4} (h1:a=x.1.toNat) (h2:b=x.2.1.toNat) (h3:c=x.2.2.1.toNat) (h4:d=x.2.2.2.toNat):B.mx [vi .u32 a,vi .u32 b,vi .u32 c,vi .u32 d]=B.mx [u32 x.1,u32 x.2.1,u32 x.2.2.1,u32 x.2.2.2]:=by
 subst h1;subst h2;subst h3;subst h4;rfl
theorem Np {va:List Value} {b:Bs} {k s:List UInt32} (ha:va=bv b) (hb:b.length=16) (hk:k.length=40) (hs:s.length<=4):a9 C 83 [R5 k s,.z 16 va,bool false] [] (C0 16) [.sc (bv (N7 (db k s (B9 b)) 4))]:=by
 subst ha;refine ve.c ?_;refine m5 (fun i=>⟨[(0,R5 k s),(1,.z 16 (bv b)),(2,bool false),(8,.p (.k 0) 0),(22,i64 i)],[.sc (wv (dz b i))]⟩) 4 ⟨[.d 8 0],⟨rfl,rfl,rfl,rfl,rfl,tq⟩,⟨_,rfl,rfl⟩,tq⟩ fun i hi=> ?_;refine d9 (fun h=> ?_) (fun h=> ?_)
 ·have d8:i<4:=(by omega);have e1:(I6.wrap (4*(i:Int))).toNat=4*i:=(by simp(disch:=omega)only[Za];omega);have e2:(I6.wrap (4*I6.wrap ((i:Int)+1))).toNat=4*i+4:=(by simp(disch:=omega)only[Za];omega);refine⟨by omega,(by simp(disch:=omega)only[Za];omega),by rw[e1,e2];omega,Zc _,by rw[e2];omega,?_⟩;rw[e1,e2,show 4*i+4-4*i=4 by omega];refine⟨[],_,_,_,_,dq (l:=sub b (4*i) 4) (m8 _ _ _) (by rw[l4];omega) rfl,rfl,rfl,?_⟩;refine⟨by omega,by omega,by show 0+((i:Int)).toNat*1<4;omega,?_⟩;refine⟨i+1,by omega,by omega,[.k 0],⟨rfl,rfl,rfl,rfl,f6 (by simp(disch:=omega)only[Za];omega),tq⟩,⟨_,rfl,g9 ?_⟩,tq⟩;rw[Zb,Zd,Ze];show(wv (dz b i)).set i (.int .u32 (r9 (sub b (4*i) 4)).toNat)=_;rw[bw,qI b d8]
 obtain rfl:i=4:=(by omega);refine⟨_,rfl,rfl,?_⟩;refine⟨[],_,_,_,_,pK (x:=B9 b) (o:=0) hk (by decide),rfl,rfl,?_⟩;refine⟨Zc _,?_⟩;refine m5 (fun i=>⟨[(0,R5 k s),(8,.p (.k 0) 0),(87,i64 i)],[.mx [u32 (cZ k s (wh k 0 (B9 b)) i).1,u32 (cZ k s (wh k 0 (B9 b)) i).2.1,u32 (cZ k s (wh k 0 (B9 b)) i).2.2.1,u32 (cZ k s (wh k 0 (B9 b)) i).2.2.2]]⟩) 16 ⟨[.k 0],⟨rfl,rfl,rfl,tq⟩,⟨_,rfl,rfl⟩,tq⟩ fun i hi=> ?_;have hst:=Ed k s (wh k 0 (B9 b)) i;generalize hx:cZ k s (wh k 0 (B9 b)) i=x at hst ⊢;refine d9 (fun h=> ?_) (fun h=> ?_)
 ·have d8:i<16:=(by omega);refine⟨by decide,by decide,_,rfl,by decide,by decide,_,rfl,?_⟩;refine⟨[],_,_,_,_,zS (r:=i) rfl rfl hk hs d8,rfl,rfl,?_⟩;refine⟨by decide,by decide,_,rfl,?_⟩;refine⟨[],_,_,_,_,bG (v:=x.2.2.1^^^oF k s x.1 x.2.1 i) (k:=31) (B5 _ _) (by decide) (by decide),rfl,rfl,?_⟩;refine⟨by decide,by decide,_,rfl,?_⟩;refine⟨[],_,_,_,_,bG (k:=1) rfl (by decide) (by decide),rfl,rfl,?_⟩;refine⟨by decide,by decide,_,rfl,by decide,by decide,_,rfl,Zc _,?_⟩;refine⟨i+1,by omega,by omega,[.k 0],⟨rfl,rfl,f6 (by simp(disch:=omega)only[Za];omega),tq⟩,⟨_,rfl,?_⟩,tq⟩;rw[hst];exact ie rfl (B5 _ _) rfl rfl
 obtain rfl:i=16:=(by omega);refine⟨by decide,by decide,_,rfl,by decide,by decide,_,rfl,by decide,by decide,_,rfl,by decide,by decide,_,rfl,?_⟩;refine⟨[],_,_,_,_,pK (x:=G4 x) (o:=4) hk (by decide),rfl,rfl,?_⟩;refine⟨Zc _,by decide,by decide,by decide,?_⟩;refine⟨_,rfl,rfl,?_⟩;have hfx:wh k 4 (G4 x)=db k s (B9 b):=by rw[<-hx];rfl
 rw[<-hfx];generalize hy:wh k 4 (G4 x)=y;refine m5 (fun i=>⟨[(16,.o 1 (.k 0) 0 (4*i)),(128,sj y),(129,i64 i)],[.sc (bv (N7 y i))]⟩) 4 ⟨[.d 127 0],⟨rfl,?_,rfl,tq⟩,⟨_,rfl,rfl⟩,tq⟩ fun i hi=> ?_
 ·rw[<-hy];rfl
 refine d9 (fun h=> ?_) (fun h=> ?_)
 ·have d8:i<4:=(by omega);refine⟨by omega,by omega,?_⟩;refine⟨_,by rw[Zb,Zd];exact sn d8,?_⟩;refine⟨[],_,_,_,_,kA rfl,rfl,rfl,?_⟩;have hpl:(q7 (bt y i)).length=4:=G3 _;refine⟨by rw[i9];exact Z3 hpl.symm,by omega,by rw[i9,eU];omega,?_⟩;refine⟨i+1,by omega,by omega,[.d 135 0],⟨rfl,rfl,f6 (by simp(disch:=omega)only[Za];omega),tq⟩,⟨_,rfl,g9 ?_⟩,tq⟩;show sub (bv (N7 y i)) 0 (4*i*1)++sub (bv (q7 (bt y i))) 0 4=_;rw[Zd,g8 (eU y i),g8 hpl,A5,oz]
 ·obtain rfl:i=4:=(by omega);exact⟨_,rfl,[.k 0],rfl,⟨_,rfl,rfl⟩,tq⟩
theorem No {va:List Value} {b:Bs} {k s:List UInt32} (ha:va=bv b) (hb:b.length=16) (hk:k.length=40) (hs:s.length<=4):a9 C 83 [R5 k s,.z 16 va,bool true] [] (C0 16) [.sc (bv (N7 (da k s (B9 b)) 4))]:=by
 subst ha;refine ve.c ?_;refine m5 (fun i=>⟨[(0,R5 k s),(1,.z 16 (bv b)),(2,bool true),(8,.p (.k 0) 0),(22,i64 i)],[.sc (wv (dz b i))]⟩) 4 ⟨[.d 8 0],⟨rfl,rfl,rfl,rfl,rfl,tq⟩,⟨_,rfl,rfl⟩,tq⟩ fun i hi=> ?_;refine d9 (fun h=> ?_) (fun h=> ?_)
 ·have d8:i<4:=(by omega);have e1:(I6.wrap (4*(i:Int))).toNat=4*i:=(by simp(disch:=omega)only[Za];omega);have e2:(I6.wrap (4*I6.wrap ((i:Int)+1))).toNat=4*i+4:=(by simp(disch:=omega)only[Za];omega);refine⟨by omega,(by simp(disch:=omega)only[Za];omega),by rw[e1,e2];omega,Zc _,by rw[e2];omega,?_⟩;rw[e1,e2,show 4*i+4-4*i=4 by omega];refine⟨[],_,_,_,_,dq (l:=sub b (4*i) 4) (m8 _ _ _) (by rw[l4];omega) rfl,rfl,rfl,?_⟩;refine⟨by omega,by omega,by show 0+((i:Int)).toNat*1<4;omega,?_⟩;refine⟨i+1,by omega,by omega,[.k 0],⟨rfl,rfl,rfl,rfl,f6 (by simp(disch:=omega)only[Za];omega),tq⟩,⟨_,rfl,g9 ?_⟩,tq⟩;rw[Zb,Zd,Ze];show(wv (dz b i)).set i (.int .u32 (r9 (sub b (4*i) 4)).toNat)=_;rw[bw,qI b d8]
 obtain rfl:i=4:=(by omega);refine⟨_,rfl,rfl,?_⟩;refine⟨[],_,_,_,_,pK (x:=B9 b) (o:=4) hk (by decide),rfl,rfl,?_⟩;refine⟨Zc _,?_⟩;refine m5 (fun i=>⟨[(0,R5 k s),(8,.p (.k 0) 0),(10,i64 (15-i))],[.mx [u32 (bY k s (wh k 4 (B9 b)) i).1,u32 (bY k s (wh k 4 (B9 b)) i).2.1,u32 (bY k s (wh k 4 (B9 b)) i).2.2.1,u32 (bY k s (wh k 4 (B9 b)) i).2.2.2]]⟩) 16 ⟨[.k 0],⟨rfl,rfl,rfl,tq⟩,⟨_,rfl,rfl⟩,tq⟩ fun i hi=> ?_;have hst:=Ec k s (wh k 4 (B9 b)) i;generalize hx:bY k s (wh k 4 (B9 b)) i=x at hst ⊢;refine d9 (fun h=> ?_) (fun h=> ?_)
 ·obtain⟨r,er,hr15,hri⟩:∃r:Nat,(15:Int)-i=r/\r<=15/\r=15-i:=⟨15-i,by omega,by omega,rfl⟩;rw[<-hri]at hst;rw[er];refine⟨by decide,by decide,_,rfl,by decide,by decide,_,rfl,?_⟩;refine⟨[],_,_,_,_,zS (r:=r) rfl rfl hk hs (by omega),rfl,rfl,?_⟩;refine⟨by decide,by decide,_,rfl,?_⟩;refine⟨[],_,_,_,_,bG (k:=1) rfl (by decide) (by decide),rfl,rfl,?_⟩;refine⟨by decide,by decide,_,rfl,?_⟩;refine⟨[],_,_,_,_,bG (v:=x.2.2.2^^^oG k s x.1 x.2.1 r) (k:=31) (B5 _ _) (by decide) (by decide),rfl,rfl,?_⟩;refine⟨by decide,by decide,_,rfl,by decide,by decide,_,rfl,Zc _,?_⟩;refine⟨i+1,by omega,by omega,[.k 0],⟨rfl,rfl,f6 ?_,tq⟩,⟨_,rfl,?_⟩,tq⟩
  ·rw[Za _ (by omega)];omega
  rw[hst];exact ie (B5 _ _) rfl rfl rfl
 obtain rfl:i=16:=(by omega);refine⟨by decide,by decide,_,rfl,by decide,by decide,_,rfl,by decide,by decide,_,rfl,by decide,by decide,_,rfl,Zc _,?_⟩;refine⟨_,rfl,rfl,?_⟩;refine⟨[],_,_,_,_,pK (x:=G4 x) (o:=0) hk (by decide),rfl,rfl,?_⟩;refine⟨Zc _,by decide,by decide,by decide,?_⟩;refine⟨_,rfl,rfl,?_⟩;have hfx:wh k 0 (G4 x)=da k s (B9 b):=by rw[<-hx];rfl
 rw[<-hfx];generalize hy:wh k 0 (G4 x)=y;refine m5 (fun i=>⟨[(16,.o 1 (.k 0) 0 (4*i)),(128,sj y),(129,i64 i)],[.sc (bv (N7 y i))]⟩) 4 ⟨[.d 127 0],⟨rfl,?_,rfl,tq⟩,⟨_,rfl,rfl⟩,tq⟩ fun i hi=> ?_
 ·rw[<-hy];rfl
 refine d9 (fun h=> ?_) (fun h=> ?_)
 ·have d8:i<4:=(by omega);refine⟨by omega,by omega,?_⟩;refine⟨_,by rw[Zb,Zd];exact sn d8,?_⟩;refine⟨[],_,_,_,_,kA rfl,rfl,rfl,?_⟩;have hpl:(q7 (bt y i)).length=4:=G3 _;refine⟨by rw[i9];exact Z3 hpl.symm,by omega,by rw[i9,eU];omega,?_⟩;refine⟨i+1,by omega,by omega,[.d 135 0],⟨rfl,rfl,f6 (by simp(disch:=omega)only[Za];omega),tq⟩,⟨_,rfl,g9 ?_⟩,tq⟩;show sub (bv (N7 y i)) 0 (4*i*1)++sub (bv (q7 (bt y i))) 0 4=_;rw[Zd,g8 (eU y i),g8 hpl,A5,oz]
 ·obtain rfl:i=4:=(by omega);exact⟨_,rfl,[.k 0],rfl,⟨_,rfl,rfl⟩,tq⟩
theorem Nn {va:List Value} {k s:List UInt32} {n:Nat} {back:Bool} (hn:n≠16):a9 C 83 [R5 k s,.z n va,bool back] [] U2 []:=by
 refine ve.c ?_;refine n7 (fun h=> ?_) (fun h=>absurd (by omega) hn);exact⟨_,rfl,[],rfl,tq⟩
abbrev P3 (l:Bs):Value:= .string ⟨l.toArray⟩
theorem Mq {w:Nat} (hw:w<2):a9 C 274 [i64 w] [] (.ret (.o 1 (.k 0) 0 4)) [.sc [P3 (F6 w 0),P3 (F6 w 1),P3 (F6 w 2),P3 (F6 w 3)]]:=by
 rcases w with _|_|w
 ·exact AU.c ⟨_,rfl,[.d 5 0],rfl,⟨_,rfl,rfl⟩,tq⟩
 ·exact AU.c ⟨_,rfl,[.d 6 0],rfl,⟨_,rfl,rfl⟩,tq⟩
 ·omega
theorem Xz:∀a,a<16->∀c,c<16->I6.wrap ((Zh I6.bits ((a:Nat):Int)^^^Zh I6.bits ((c:Nat):Int)).toNat:Int)=((a^^^c:Nat):Int):=by decide +kernel
theorem XA:∀a,a<16->∀c,c<16->I6.wrap ((Zh I6.bits (I6.wrap ((Zh I6.bits ((a:Nat):Int)^^^Zh I6.bits (I6.wrap ((Zh I6.bits (((c:Nat):Int).fdiv (2^(min (1:Int).toNat I6.bits)))|||Zh I6.bits (I6.wrap ((Zh I6.bits (I6.wrap (((c:Nat):Int)*2^(min (3:Int).toNat I6.bits)))&&&Zh I6.bits 8).toNat:Int))).toNat:Int))).toNat:Int))^^^Zh I6.bits ((I6.wrap (8*((a:Nat):Int))).tmod 16)).toNat:Int)=((qf a c:Nat):Int):=by decide +kernel
theorem XB:∀a,a<16->∀c,c<16->U8.wrap (I6.wrap (I6.wrap (16*((c:Nat):Int))+((a:Nat):Int)))=(((Zp (16*c+a)).toNat:Nat):Int):=by decide +kernel
theorem XC:∀x:Nat,x<256->I6.wrap (((x:Nat):Int).fdiv (2^(min (4:Int).toNat U8.bits)))=((x/16:Nat):Int)/\I6.wrap (U8.wrap ((Zh U8.bits ((x:Nat):Int)&&&Zh U8.bits 15).toNat:Int))=((x%16:Nat):Int):=by decide +kernel
theorem DK {w i:Nat} (hi:i<4):([P3 (F6 w 0),P3 (F6 w 1),P3 (F6 w 2),P3 (F6 w 3)]:List Value)[i]? =some (P3 (F6 w i)):=by
 rcases i with _|_|_|_|i;all_goals first|rfl|omega
theorem Mk {w:Nat} {z:Int} {x:UInt8} (hw:w<2) (hz:z=x.toNat):a9 C 263 [i64 w,vi .u8 z] [] (.ret (u8 (tQ w x))) []:=by
 subst hz;have hx:=x.toNat_lt;refine Te.c ?_;refine⟨[],_,_,_,_,Mq hw,rfl,rfl,?_⟩;refine⟨by decide,?_⟩;obtain⟨x1,x2⟩:=XC x.toNat hx;refine m5 (fun i=>⟨[(5,.z 4 [P3 (F6 w 0),P3 (F6 w 1),P3 (F6 w 2),P3 (F6 w 3)]),(6,i64 ((aH w x i).1:Nat)),(7,i64 ((aH w x i).2:Nat)),(8,i64 i)],[]⟩) 2 ⟨[],⟨rfl,f6 x1,f6 x2,rfl,tq⟩,tq⟩ fun i hi=> ?_;obtain⟨s1,s2⟩:=wm hw x i hi;have hsi:aH w x (i+1)=qS w i (aH w x i):=rfl;generalize hp:aH w x i=p at s1 s2 hsi ⊢;refine d9 (fun h=> ?_) (fun h=> ?_)
 ·have d8:i<2:=(by omega);obtain⟨f1,f2⟩:=wn p.1 s1 p.2 s2;obtain⟨r1,r2⟩:=ml w hw (2*i) (by omega);obtain⟨r3,r4⟩:=ml w hw (2*i+1) (by omega);have ee:=Xz p.1 s1 p.2 s2;have ef:=XA p.1 s1 p.2 s2;have e0:(I6.wrap (2*(i:Int))).toNat=2*i:=(by simp(disch:=omega)only[Za];omega);have e1:(I6.wrap (I6.wrap (2*(i:Int))+1)).toNat=2*i+1:=(by simp(disch:=omega)only[Za];omega);refine⟨by decide,by decide,by decide,?_⟩;refine⟨(by simp(disch:=omega)only[Za];omega),by omega,?_⟩;refine⟨_,by rw[e0];exact DK (by omega),?_⟩;refine⟨[],_,_,_,_,pk (l:=F6 w (2*i)) rfl ee (by rw[r1];exact f2) (r2 _ f2),rfl,rfl,?_⟩;refine⟨by omega,by omega,?_⟩;refine⟨_,by rw[e1];exact DK (by omega),?_⟩;refine⟨[],_,_,_,_,pk (l:=F6 w (2*i+1)) rfl ef (by rw[r3];exact f1) (r4 _ f1),rfl,rfl,?_⟩;refine⟨i+1,by omega,by omega,[],⟨rfl,?_,?_,f6 (by simp(disch:=omega)only[Za];omega),tq⟩,tq⟩
  ·rw[hsi];rfl
  ·rw[hsi];rfl
 ·obtain rfl:i=2:=(by omega);refine⟨_,rfl,[],congrArg (vi .u8) ?_,tq⟩;rw[tQ,hp];exact XB p.1 s1 p.2 s2
abbrev mY (y:Bs):V:= .a [u8 (y.getD 0 0),u8 (y.getD 1 0),u8 (y.getD 2 0),u8 (y.getD 3 0)]
abbrev gz (y:Bs):B:= .mx [u8 (y.getD 0 0),u8 (y.getD 1 0),u8 (y.getD 2 0),u8 (y.getD 3 0)]
theorem mZ {y:Bs} {i:Nat} (h:i<4):([u8 (y.getD 0 0),u8 (y.getD 1 0),u8 (y.getD 2 0),u8 (y.getD 3 0)]:List V)[i]? =some (u8 (y.getD i 0)):=N8 (f:=fun i=>u8 (y.getD i 0)) rfl rfl rfl rfl h
theorem ym {y:Bs} {i:Nat} (hy:y.length=4) (h:i<4) (x:UInt8):([u8 (y.getD 0 0),u8 (y.getD 1 0),u8 (y.getD 2 0),u8 (y.getD 3 0)]:List V).set i (u8 x)=[u8 ((y.set i x).getD 0 0),u8 ((y.set i x).getD 1 0),u8 ((y.set i x).getD 2 0),u8 ((y.set i x).getD 3 0)]:=by
 match y,hy with
 |[a,b,c,d],_=>
  rcases i with _|_|_|_|i;all_goals first|rfl|omega
theorem a0S {o y i} (h:i<4):(cV o y i).getD i 0=y.getD i 0:=by
 rw[List.getD_eq_getElem?_getD,DV h];rfl
theorem cy {a b c d:Nat} {y:Bs} (hy:y.length=4) (h0:a<2) (h1:b<2) (h2:c<2) (h3:d<2):a9 C 224 [mY y,.a [i64 a,i64 b,i64 c,i64 d]] [] (.ret (mY (R3 [a,b,c,d] y))) []:=by
 have ho:∀i,i<4->([a,b,c,d].getD i 0)<2:=by
  intro i hi;rcases i with _|_|_|_|i
  ·exact h0
  ·exact h1
  ·exact h2
  ·exact h3
  ·omega
 have hg:∀i,i<4->([i64 a,i64 b,i64 c,i64 d]:List V)[i]? =some (i64 ([a,b,c,d].getD i 0:Nat)):=fun i hi=>N8 (f:=fun i=>i64 ([a,b,c,d].getD i 0:Nat)) rfl rfl rfl rfl hi;refine Th.c ?_;refine m5 (fun i=>⟨[(2,.p (.k 0) 0),(3,.p (.k 1) 0),(4,.p (.k 2) 0),(5,i64 i)],[gz (cV [a,b,c,d] y i),.mx [i64 a,i64 b,i64 c,i64 d],.sc [.int .u8 0,.int .u8 0,.int .u8 0,.int .u8 0]]⟩) 4 ⟨[.d 2 0,.d 3 0,.d 4 0],⟨rfl,rfl,rfl,rfl,tq⟩,⟨_,rfl,rfl⟩,⟨_,rfl,rfl⟩,⟨_,rfl,rfl⟩,tq⟩ fun i hi=> ?_;refine d9 (fun h=> ?_) (fun h=> ?_)
 ·have d8:i<4:=(by omega);refine⟨by omega,by omega,?_⟩;refine⟨_,by rw[Zb,Zd,Ze];exact hg i d8,?_⟩;refine⟨by omega,by omega,?_⟩;refine⟨_,by rw[Zb,Zd,Ze];exact mZ d8,?_⟩;refine⟨[],_,_,_,_,Mk (ho i d8) rfl,rfl,rfl,?_⟩;refine⟨by omega,by omega,by show 0+((i:Int)).toNat*1+1<=4;omega,?_⟩;refine⟨i+1,by omega,by omega,[.k 0,.k 1,.k 2],⟨rfl,rfl,rfl,f6 (by simp(disch:=omega)only[Za];omega),tq⟩,⟨_,rfl,?_⟩,⟨_,rfl,rfl⟩,⟨_,rfl,rfl⟩,tq⟩;rw[a0S d8];have:=ym (rT [a,b,c,d] y i) d8 (tQ ([a,b,c,d].getD i 0) (y.getD i 0));rw[DW d8]at this;refine Eq.trans ?_ (congrArg B.mx this);clear this hg ho;rcases i with _|_|_|_|i;all_goals first|rfl|omega
 ·obtain rfl:i=4:=(by omega);refine⟨_,rfl,rfl,Zc _,_,rfl,rfl,?_⟩;exact⟨_,rfl,[],rfl,tq⟩
def iw (y:Bs) (l:UInt32) (i:Nat):Bs:=(List.range 4).map fun p=>if p<i then y.getD p 0^^^(q7 l).getD p 0 else y.getD p 0
theorem Xx (y l i):(iw y l i).length=4:=by simp[iw]
theorem Xw {y l i} (h:i<4):(iw y l i).getD i 0=y.getD i 0:=by
 rcases i with _|_|_|_|i;all_goals first|rfl|omega
theorem Xy {y l i} (h:i<4):(iw y l i).set i (y.getD i 0^^^(q7 l).getD i 0)=iw y l (i+1):=by
 rcases i with _|_|_|_|i;all_goals first|rfl|omega
theorem Xv {y l} (hy:y.length=4):iw y l 4=j8 y (q7 l):=by
 match y,hy with
 |[a,b,c,d],_=>rfl
theorem qX {a b c d a' b' c' d':V} (h1:a=a') (h2:b=b') (h3:c=c') (h4:d=d'):B.mx [a,b,c,d]=B.mx [a',b',c',d']:=by
 subst h1;subst h2;subst h3;subst h4;rfl
theorem Xh (l:UInt32) {i:Nat} (h:i<4):U8.wrap ((l.toNat:Int).fdiv (2^(min (IntKind.u64.wrap (I6.wrap (8*(i:Int)))).toNat U3.bits)))=(((q7 l).getD i 0).toNat:Int):=by
 have hl:=l.toNat_lt;rcases i with _|_|_|_|i
 ·show U8.wrap ((l.toNat:Int).fdiv (2^0))=((l.toUInt64.toUInt8).toNat:Int);simp[Zs,wrap_u8];try omega
 ·show U8.wrap ((l.toNat:Int).fdiv (2^8))=(((l.toUInt64>>>8).toUInt8).toNat:Int);simp[Zs,wrap_u8,Zx];try omega
 ·show U8.wrap ((l.toNat:Int).fdiv (2^16))=(((l.toUInt64>>>8>>>8).toUInt8).toNat:Int);simp[Zs,wrap_u8,Zx];try omega
 ·show U8.wrap ((l.toNat:Int).fdiv (2^24))=(((l.toUInt64>>>8>>>8>>>8).toUInt8).toNat:Int);simp[Zs,wrap_u8,Zx];try omega
 ·omega
theorem dY {y:Bs} {z:Int} {l:UInt32} (hy:y.length=4) (hz:z=l.toNat):a9 C 223 [mY y,vi .u32 z] [] (.ret (mY (j8 y (q7 l)))) []:=by
 subst hz;refine Tg.c ?_;refine m5 (fun i=>⟨[(1,u32 l),(2,.p (.k 0) 0),(4,.p (.k 1) 0),(5,i64 i)],[gz (iw y l i),.sc [.int .u8 0,.int .u8 0,.int .u8 0,.int .u8 0]]⟩) 4 ⟨[.d 2 0,.d 4 0],⟨rfl,rfl,rfl,rfl,tq⟩,⟨_,rfl,rfl⟩,⟨_,rfl,rfl⟩,tq⟩ fun i hi=> ?_;refine d9 (fun h=> ?_) (fun h=> ?_)
 ·have d8:i<4:=(by omega);refine⟨by omega,by omega,?_⟩;refine⟨_,by rw[Zb,Zd,Ze];exact mZ d8,?_⟩;refine⟨by simp only[IntKind.wrap_i64,F9];omega,by omega,by omega,by show 0+((i:Int)).toNat*1+1<=4;omega,?_⟩;refine⟨i+1,by omega,by omega,[.k 0,.k 1],⟨rfl,rfl,rfl,f6 (by simp(disch:=omega)only[Za];omega),tq⟩,⟨_,rfl,?_⟩,⟨_,rfl,rfl⟩,tq⟩;rw[Xw d8];have:=ym (Xx y l i) d8 (y.getD i 0^^^(q7 l).getD i 0);rw[Xy d8]at this;refine Eq.trans ?_ (congrArg B.mx this);clear this;have hv:vi .u8 (U8.wrap ((Zh U8.bits ((y.getD i 0).toNat:Int)^^^Zh U8.bits (U8.wrap ((l.toNat:Int).fdiv (2^(min (IntKind.u64.wrap (I6.wrap (8*(i:Int)))).toNat U3.bits))))).toNat:Int))=u8 (y.getD i 0^^^(q7 l).getD i 0):=by
   rw[Xh l d8];exact congrArg (vi .u8) (n5 _ _)
  rcases i with _|_|_|_|i
  ·exact qX hv rfl rfl rfl
  ·exact qX rfl hv rfl rfl
  ·exact qX rfl rfl hv rfl
  ·exact qX rfl rfl rfl hv
  ·omega
 ·obtain rfl:i=4:=(by omega);refine⟨_,rfl,rfl,Zc _,_,rfl,rfl,?_⟩;refine⟨_,rfl,[],?_,tq⟩;show mY (iw y l 4)=_;rw[Xv hy]
def zA (f:Nat->Nat->UInt8) (K:Nat):Nat->UInt32
 |0=>0
 |i+1=>zA f K i^^^((f i K).toUInt32<<<Zk (8*i))
def zP (f:Nat->Nat->UInt8) (K i k:Nat):UInt32:=zA f K i^^^((f i k).toUInt32<<<Zk (8*i))
theorem sy {f K i} (h:f i 0=0):zP f K i 0=zA f K i:=by
 unfold zP;rw[h];simp
theorem a2A (a b s:UInt32):(a^^^b)<<<s=(a<<<s)^^^(b<<<s):=by
 apply Z1;simp[BitVec.shiftLeft_xor_distrib]
theorem sx {f K i k x} (h:f i (k+1)=f i k^^^x):zP f K i (k+1)=zP f K i k^^^(x.toUInt32<<<Zk (8*i)):=by
 unfold zP;rw[h,UInt8.toUInt32_xor,a2A,UInt32.xor_assoc]
theorem VI (a b c d:UInt8):r9 [a,b,c,d]=((a.toUInt32^^^b.toUInt32<<<8)^^^c.toUInt32<<<16)^^^d.toUInt32<<<24:=by
 apply Z1;apply BitVec.eq_of_getLsbD_eq;intro j hj;have z:∀(x:UInt8) (k:Nat),8<=k->x.toBitVec.getLsbD k=false:=fun x k h=>BitVec.getLsbD_of_ge _ _ h;simp[r9,P0,BitVec.getLsbD_setWidth,BitVec.getLsbD_shiftLeft];have hz:∀(x:UInt8) (k:Nat),(decide (k<64)&&x.toBitVec.getLsbD k)=x.toBitVec.getLsbD k:=by
  intro x k;by_cases h:k<64
  ·simp[h]
  ·simp[h,z x k (by omega)]
 by_cases h1:j<8
 ·simp[h1,show j<16 by omega,show j<24 by omega,show j<64 by omega,hj]
 ·by_cases h2:j<16
  ·simp[h1,h2,show j<24 by omega,show j<64 by omega,hj,z a j (by omega),show j-8<8 by omega,show j-8<64 by omega]
  ·by_cases h3:j<24
   ·simp[h1,h2,h3,show j<64 by omega,hj,z a j (by omega),z b (j-8) (by omega),show ¬j-8<8 by omega,show j-8-8<8 by omega,show j-8-8<64 by omega,show j-8<64 by omega,show j-8-8=j-16 by omega,show j-16<8 by omega]
    intros;omega
   ·simp[h1,h2,h3,show j<64 by omega,hj,z a j (by omega),z b (j-8) (by omega),z c (j-16) (by omega),show ¬j-8<8 by omega,show ¬j-16<8 by omega,show j-8<64 by omega,show j-8-8=j-16 by omega,show j-16<64 by omega,show j-16-8=j-24 by omega,show j-24<64 by omega,show j-8<32 by omega,show j-16<32 by omega,show j-24<32 by omega]
theorem sw {f K}:r9 (T4 f K 4 0)=zA f K 4:=by
 show r9 [f 0 K,f 1 K,f 2 K,f 3 K]=_;rw[VI];simp[zA]
theorem OZ:∀i,i<4->∀k,k<8->([u8 1,u8 164,u8 85,u8 135,u8 90,u8 88,u8 219,u8 158,u8 164,u8 86,u8 130,u8 243,u8 30,u8 198,u8 104,u8 229,u8 2,u8 161,u8 252,u8 193,u8 71,u8 174,u8 61,u8 25,u8 164,u8 85,u8 135,u8 90,u8 88,u8 219,u8 158,u8 3]:List V)[i*8+k]? =some (u8 ((fR i).getD k 0)):=by
 intro i hi k hk;rcases i with _|_|_|_|i;all_goals first|omega|(rcases k with _|_|_|_|_|_|_|_|k<;>first|rfl|omega)
theorem vO:∀i,i<4->∀k,k<4->([u8 1,u8 239,u8 91,u8 91,u8 91,u8 239,u8 239,u8 1,u8 239,u8 91,u8 1,u8 239,u8 239,u8 1,u8 239,u8 91]:List V)[i*4+k]? =some (u8 ((M2 i).getD k 0)):=by
 intro i hi k hk;rcases i with _|_|_|_|i;all_goals first|omega|(rcases k with _|_|_|_|k<;>first|rfl|omega)
theorem sA {z x:UInt32} {b:UInt8} {i:Nat} (hi:i<4):U3.wrap ((Zh U3.bits (z.toNat:Int)^^^Zh U3.bits (U3.wrap (U3.wrap (b.toNat:Int)*2^(min (IntKind.u64.wrap (I6.wrap (8*(i:Int)))).toNat U3.bits)))).toNat:Int)=((z^^^(b.toUInt32<<<Zk (8*i))).toNat:Int):=by
 have e:IntKind.u64.wrap (I6.wrap (8*(i:Int)))=((8*i:Nat):Int):=by simp only[IntKind.wrap_i64,F9];omega
 rw[e,a2G,mH _ _ (by omega) (by omega),Zb,B5]
theorem ua {va:List Value} {m:Bs} (ha:va=bv m) (hm:m.length=8):a9 C 167 [.z 8 va] [] (.ret (u32 (gQ m))) []:=by
 subst ha;have hm0:∀p,I5 333 fR m p 0=0:=fun _=>rfl;refine Ti.c ?_;refine⟨Zc _,?_⟩;refine m5 (fun i=>⟨[(0,.z 8 (bv m)),(3,.p (.k 0) 0),(4,u32 (zA (I5 333 fR m) 8 i)),(5,i64 i)],[.mx [u8 1,u8 164,u8 85,u8 135,u8 90,u8 88,u8 219,u8 158,u8 164,u8 86,u8 130,u8 243,u8 30,u8 198,u8 104,u8 229,u8 2,u8 161,u8 252,u8 193,u8 71,u8 174,u8 61,u8 25,u8 164,u8 85,u8 135,u8 90,u8 88,u8 219,u8 158,u8 3]]⟩) 4 ⟨[.d 3 0],⟨rfl,rfl,rfl,rfl,tq⟩,⟨_,rfl,rfl⟩,tq⟩ fun i hi=> ?_;refine d9 (fun h=> ?_) (fun h=> ?_)
 ·have d8:i<4:=(by omega);refine m5 (fun k=>⟨[(0,.z 8 (bv m)),(3,.p (.k 0) 0),(4,u32 (zP (I5 333 fR m) 8 i k)),(5,i64 i),(6,i64 k)],[.mx [u8 1,u8 164,u8 85,u8 135,u8 90,u8 88,u8 219,u8 158,u8 164,u8 86,u8 130,u8 243,u8 30,u8 198,u8 104,u8 229,u8 2,u8 161,u8 252,u8 193,u8 71,u8 174,u8 61,u8 25,u8 164,u8 85,u8 135,u8 90,u8 88,u8 219,u8 158,u8 3]]⟩) 8 ⟨[.k 0],⟨rfl,rfl,congrArg u32 (sy (hm0 i)).symm,rfl,rfl,tq⟩,⟨_,rfl,rfl⟩,tq⟩ fun k hk=> ?_;refine d9 (fun h=> ?_) (fun h=> ?_)
  ·have hkl:k<8:=(by omega);refine⟨by omega,by omega,by omega,by omega,?_⟩;refine⟨_,by simp only[Zb,Zd,Ze];exact OZ i d8 k hkl,?_⟩;refine⟨by omega,by omega,?_⟩;refine⟨_,by rw[Zb];exact p5 (by omega),?_⟩;refine⟨[],_,_,_,_,jd (m:=333) rfl rfl (by decide) (by decide),rfl,rfl,?_⟩;refine⟨by simp only[IntKind.wrap_i64,F9];omega,?_⟩;refine⟨k+1,by omega,by omega,[.k 0],⟨rfl,rfl,?_,rfl,f6 (by simp(disch:=omega)only[Za];omega),tq⟩,⟨_,rfl,rfl⟩,tq⟩;rw[sx (lJ _ _ _ _ _)];exact congrArg (vi .u32) (sA (x:=0) d8)
  ·obtain rfl:k=8:=(by omega);exact⟨i+1,by omega,by omega,[.k 0],⟨rfl,rfl,rfl,f6 (by simp(disch:=omega)only[Za];omega),tq⟩,⟨_,rfl,rfl⟩,tq⟩
 ·obtain rfl:i=4:=(by omega);refine⟨_,rfl,[],?_,tq⟩;show u32 (zA (I5 333 fR m) 8 4)=_;rw[gQ,sw]
theorem gD {z:Int} {x:UInt32} {n:Nat} {va:List Value} {l:List UInt32} (hz:z=x.toNat) (ha:va=wv l) (hl:l.length=n) (h4:2<=n/\n<=4):a9 C 168 [vi .u32 z,.z n va] [] (.ret (u32 (tH x l))) []:=by
 subst hz;subst ha;generalize hst:R3 (H8 0) (hG x l l.length l.length)=s;have hm0:∀p,I5 361 M2 s p 0=0:=fun _=>rfl;have hz0:j8 [0,0,0,0] (q7 x)=hG x l n 0:=by
  show List.zipWith _ _ _=q7 x
  match hp:q7 x,G3 x with
  |[a,b,c,d],_=>simp
 refine Tb.c ?_;refine⟨[],_,_,_,_,dY (y:=[0,0,0,0]) (l:=x) rfl rfl,rfl,rfl,?_⟩;rw[hz0];refine⟨Zc _,?_⟩;rcases n with _|_|_|_|_|n
 ·omega
 ·omega
 ·refine⟨_,rfl,rfl,?_⟩;refine⟨[],_,_,_,_,cy (y:=hG x l 2 0) (bK _ _ _ _) (by decide) (by decide) (by decide) (by decide),rfl,rfl,?_⟩;refine⟨by decide,by decide,?_⟩;refine⟨_,r8 (i:=1) (by omega),?_⟩;refine⟨[],_,_,_,_,dY (y:=R3 (H8 2) (hG x l 2 0)) (cW _ _) rfl,rfl,rfl,?_⟩;refine⟨Zc _,?_⟩;refine⟨_,rfl,rfl,?_⟩;refine⟨[],_,_,_,_,cy (y:=hG x l 2 1) (bK _ _ _ _) (by decide) (by decide) (by decide) (by decide),rfl,rfl,?_⟩;refine⟨by decide,by decide,?_⟩;refine⟨_,r8 (i:=0) (by omega),?_⟩;refine⟨[],_,_,_,_,dY (y:=R3 (H8 1) (hG x l 2 1)) (cW _ _) rfl,rfl,rfl,?_⟩;refine⟨Zc _,?_⟩;refine⟨_,rfl,rfl,?_⟩;refine⟨[],_,_,_,_,cy (y:=hG x l 2 2) (bK _ _ _ _) (by decide) (by decide) (by decide) (by decide),rfl,rfl,?_⟩;refine⟨Zc _,Zc _,?_⟩;have hss:R3 [1,0,1,0] (hG x l 2 2)=s:=by rw[<-hst,hl];rfl
  rw[hss];refine m5 (fun i=>⟨[(5,.p (.k 0) 0),(6,.p (.k 1) 0),(7,u32 (zA (I5 361 M2 s) 4 i)),(8,i64 i)],[gz s,.mx [u8 1,u8 239,u8 91,u8 91,u8 91,u8 239,u8 239,u8 1,u8 239,u8 91,u8 1,u8 239,u8 239,u8 1,u8 239,u8 91]]⟩) 4 ⟨[.d 5 0,.d 6 0],⟨rfl,rfl,rfl,rfl,tq⟩,⟨_,rfl,rfl⟩,⟨_,rfl,rfl⟩,tq⟩ fun i hi=> ?_;refine d9 (fun h=> ?_) (fun h=> ?_)
  ·have d8:i<4:=(by omega);refine m5 (fun k=>⟨[(5,.p (.k 0) 0),(6,.p (.k 1) 0),(7,u32 (zP (I5 361 M2 s) 4 i k)),(8,i64 i),(9,i64 k)],[gz s,.mx [u8 1,u8 239,u8 91,u8 91,u8 91,u8 239,u8 239,u8 1,u8 239,u8 91,u8 1,u8 239,u8 239,u8 1,u8 239,u8 91]]⟩) 4 ⟨[.k 0,.k 1],⟨rfl,rfl,congrArg u32 (sy (hm0 i)).symm,rfl,rfl,tq⟩,⟨_,rfl,rfl⟩,⟨_,rfl,rfl⟩,tq⟩ fun k hk=> ?_;refine d9 (fun h=> ?_) (fun h=> ?_)
   ·have hkl:k<4:=(by omega);refine⟨by omega,by omega,by omega,by omega,?_⟩;refine⟨_,by simp only[Zb,Zd,Ze];exact vO i d8 k hkl,?_⟩;refine⟨by omega,by omega,?_⟩;refine⟨_,by simp only[Zb,Zd,Ze];exact mZ hkl,?_⟩;refine⟨[],_,_,_,_,jd (m:=361) rfl rfl (by decide) (by decide),rfl,rfl,?_⟩;refine⟨by simp only[IntKind.wrap_i64,F9];omega,?_⟩;refine⟨k+1,by omega,by omega,[.k 0,.k 1],⟨rfl,rfl,?_,rfl,f6 (by simp(disch:=omega)only[Za];omega),tq⟩,⟨_,rfl,rfl⟩,⟨_,rfl,rfl⟩,tq⟩;rw[sx (lJ _ _ _ _ _)];exact congrArg (vi .u32) (sA (x:=0) d8)
   ·obtain rfl:k=4:=(by omega);exact⟨i+1,by omega,by omega,[.k 0,.k 1],⟨rfl,rfl,rfl,f6 (by simp(disch:=omega)only[Za];omega),tq⟩,⟨_,rfl,rfl⟩,⟨_,rfl,rfl⟩,tq⟩
  ·obtain rfl:i=4:=(by omega);refine⟨_,rfl,[],?_,tq⟩;show u32 (zA (I5 361 M2 s) 4 4)=_;rw[tH,hst,sw]
 ·refine⟨_,rfl,rfl,?_⟩;refine⟨[],_,_,_,_,cy (y:=hG x l 3 0) (bK _ _ _ _) (by decide) (by decide) (by decide) (by decide),rfl,rfl,?_⟩;refine⟨by decide,by decide,?_⟩;refine⟨_,r8 (i:=2) (by omega),?_⟩;refine⟨[],_,_,_,_,dY (y:=R3 (H8 3) (hG x l 3 0)) (cW _ _) rfl,rfl,rfl,?_⟩;refine⟨Zc _,?_⟩;refine⟨_,rfl,rfl,?_⟩;refine⟨[],_,_,_,_,cy (y:=hG x l 3 1) (bK _ _ _ _) (by decide) (by decide) (by decide) (by decide),rfl,rfl,?_⟩;refine⟨by decide,by decide,?_⟩;refine⟨_,r8 (i:=1) (by omega),?_⟩;refine⟨[],_,_,_,_,dY (y:=R3 (H8 2) (hG x l 3 1)) (cW _ _) rfl,rfl,rfl,?_⟩;refine⟨Zc _,?_⟩;refine⟨_,rfl,rfl,?_⟩;refine⟨[],_,_,_,_,cy (y:=hG x l 3 2) (bK _ _ _ _) (by decide) (by decide) (by decide) (by decide),rfl,rfl,?_⟩;refine⟨by decide,by decide,?_⟩;refine⟨_,r8 (i:=0) (by omega),?_⟩;refine⟨[],_,_,_,_,dY (y:=R3 (H8 1) (hG x l 3 2)) (cW _ _) rfl,rfl,rfl,?_⟩;refine⟨Zc _,?_⟩;refine⟨_,rfl,rfl,?_⟩;refine⟨[],_,_,_,_,cy (y:=hG x l 3 3) (bK _ _ _ _) (by decide) (by decide) (by decide) (by decide),rfl,rfl,?_⟩;refine⟨Zc _,Zc _,?_⟩;have hss:R3 [1,0,1,0] (hG x l 3 3)=s:=by rw[<-hst,hl];rfl
  rw[hss];refine m5 (fun i=>⟨[(5,.p (.k 0) 0),(6,.p (.k 1) 0),(7,u32 (zA (I5 361 M2 s) 4 i)),(8,i64 i)],[gz s,.mx [u8 1,u8 239,u8 91,u8 91,u8 91,u8 239,u8 239,u8 1,u8 239,u8 91,u8 1,u8 239,u8 239,u8 1,u8 239,u8 91]]⟩) 4 ⟨[.d 5 0,.d 6 0],⟨rfl,rfl,rfl,rfl,tq⟩,⟨_,rfl,rfl⟩,⟨_,rfl,rfl⟩,tq⟩ fun i hi=> ?_;refine d9 (fun h=> ?_) (fun h=> ?_)
  ·have d8:i<4:=(by omega);refine m5 (fun k=>⟨[(5,.p (.k 0) 0),(6,.p (.k 1) 0),(7,u32 (zP (I5 361 M2 s) 4 i k)),(8,i64 i),(9,i64 k)],[gz s,.mx [u8 1,u8 239,u8 91,u8 91,u8 91,u8 239,u8 239,u8 1,u8 239,u8 91,u8 1,u8 239,u8 239,u8 1,u8 239,u8 91]]⟩) 4 ⟨[.k 0,.k 1],⟨rfl,rfl,congrArg u32 (sy (hm0 i)).symm,rfl,rfl,tq⟩,⟨_,rfl,rfl⟩,⟨_,rfl,rfl⟩,tq⟩ fun k hk=> ?_;refine d9 (fun h=> ?_) (fun h=> ?_)
   ·have hkl:k<4:=(by omega);refine⟨by omega,by omega,by omega,by omega,?_⟩;refine⟨_,by simp only[Zb,Zd,Ze];exact vO i d8 k hkl,?_⟩;refine⟨by omega,by omega,?_⟩;refine⟨_,by simp only[Zb,Zd,Ze];exact mZ hkl,?_⟩;refine⟨[],_,_,_,_,jd (m:=361) rfl rfl (by decide) (by decide),rfl,rfl,?_⟩;refine⟨by simp only[IntKind.wrap_i64,F9];omega,?_⟩;refine⟨k+1,by omega,by omega,[.k 0,.k 1],⟨rfl,rfl,?_,rfl,f6 (by simp(disch:=omega)only[Za];omega),tq⟩,⟨_,rfl,rfl⟩,⟨_,rfl,rfl⟩,tq⟩;rw[sx (lJ _ _ _ _ _)];exact congrArg (vi .u32) (sA (x:=0) d8)
   ·obtain rfl:k=4:=(by omega);exact⟨i+1,by omega,by omega,[.k 0,.k 1],⟨rfl,rfl,rfl,f6 (by simp(disch:=omega)only[Za];omega),tq⟩,⟨_,rfl,rfl⟩,⟨_,rfl,rfl⟩,tq⟩
  ·obtain rfl:i=4:=(by omega);refine⟨_,rfl,[],?_,tq⟩;show u32 (zA (I5 361 M2 s) 4 4)=_;rw[tH,hst,sw]
 ·refine⟨_,rfl,rfl,?_⟩;refine⟨[],_,_,_,_,cy (y:=hG x l 4 0) (bK _ _ _ _) (by decide) (by decide) (by decide) (by decide),rfl,rfl,?_⟩;refine⟨by decide,by decide,?_⟩;refine⟨_,r8 (i:=3) (by omega),?_⟩;refine⟨[],_,_,_,_,dY (y:=R3 (H8 4) (hG x l 4 0)) (cW _ _) rfl,rfl,rfl,?_⟩;refine⟨Zc _,?_⟩;refine⟨_,rfl,rfl,?_⟩;refine⟨[],_,_,_,_,cy (y:=hG x l 4 1) (bK _ _ _ _) (by decide) (by decide) (by decide) (by decide),rfl,rfl,?_⟩;refine⟨by decide,by decide,?_⟩;refine⟨_,r8 (i:=2) (by omega),?_⟩;refine⟨[],_,_,_,_,dY (y:=R3 (H8 3) (hG x l 4 1)) (cW _ _) rfl,rfl,rfl,?_⟩;refine⟨Zc _,?_⟩;refine⟨_,rfl,rfl,?_⟩;refine⟨[],_,_,_,_,cy (y:=hG x l 4 2) (bK _ _ _ _) (by decide) (by decide) (by decide) (by decide),rfl,rfl,?_⟩;refine⟨by decide,by decide,?_⟩;refine⟨_,r8 (i:=1) (by omega),?_⟩;refine⟨[],_,_,_,_,dY (y:=R3 (H8 2) (hG x l 4 2)) (cW _ _) rfl,rfl,rfl,?_⟩;refine⟨Zc _,?_⟩;refine⟨_,rfl,rfl,?_⟩;refine⟨[],_,_,_,_,cy (y:=hG x l 4 3) (bK _ _ _ _) (by decide) (by decide) (by decide) (by decide),rfl,rfl,?_⟩;refine⟨by decide,by decide,?_⟩;refine⟨_,r8 (i:=0) (by omega),?_⟩;refine⟨[],_,_,_,_,dY (y:=R3 (H8 1) (hG x l 4 3)) (cW _ _) rfl,rfl,rfl,?_⟩;refine⟨Zc _,?_⟩;refine⟨_,rfl,rfl,?_⟩;refine⟨[],_,_,_,_,cy (y:=hG x l 4 4) (bK _ _ _ _) (by decide) (by decide) (by decide) (by decide),rfl,rfl,?_⟩;refine⟨Zc _,Zc _,?_⟩;have hss:R3 [1,0,1,0] (hG x l 4 4)=s:=by rw[<-hst,hl];rfl
  rw[hss];refine m5 (fun i=>⟨[(5,.p (.k 0) 0),(6,.p (.k 1) 0),(7,u32 (zA (I5 361 M2 s) 4 i)),(8,i64 i)],[gz s,.mx [u8 1,u8 239,u8 91,u8 91,u8 91,u8 239,u8 239,u8 1,u8 239,u8 91,u8 1,u8 239,u8 239,u8 1,u8 239,u8 91]]⟩) 4 ⟨[.d 5 0,.d 6 0],⟨rfl,rfl,rfl,rfl,tq⟩,⟨_,rfl,rfl⟩,⟨_,rfl,rfl⟩,tq⟩ fun i hi=> ?_;refine d9 (fun h=> ?_) (fun h=> ?_)
  ·have d8:i<4:=(by omega);refine m5 (fun k=>⟨[(5,.p (.k 0) 0),(6,.p (.k 1) 0),(7,u32 (zP (I5 361 M2 s) 4 i k)),(8,i64 i),(9,i64 k)],[gz s,.mx [u8 1,u8 239,u8 91,u8 91,u8 91,u8 239,u8 239,u8 1,u8 239,u8 91,u8 1,u8 239,u8 239,u8 1,u8 239,u8 91]]⟩) 4 ⟨[.k 0,.k 1],⟨rfl,rfl,congrArg u32 (sy (hm0 i)).symm,rfl,rfl,tq⟩,⟨_,rfl,rfl⟩,⟨_,rfl,rfl⟩,tq⟩ fun k hk=> ?_;refine d9 (fun h=> ?_) (fun h=> ?_)
   ·have hkl:k<4:=(by omega);refine⟨by omega,by omega,by omega,by omega,?_⟩;refine⟨_,by simp only[Zb,Zd,Ze];exact vO i d8 k hkl,?_⟩;refine⟨by omega,by omega,?_⟩;refine⟨_,by simp only[Zb,Zd,Ze];exact mZ hkl,?_⟩;refine⟨[],_,_,_,_,jd (m:=361) rfl rfl (by decide) (by decide),rfl,rfl,?_⟩;refine⟨by simp only[IntKind.wrap_i64,F9];omega,?_⟩;refine⟨k+1,by omega,by omega,[.k 0,.k 1],⟨rfl,rfl,?_,rfl,f6 (by simp(disch:=omega)only[Za];omega),tq⟩,⟨_,rfl,rfl⟩,⟨_,rfl,rfl⟩,tq⟩;rw[sx (lJ _ _ _ _ _)];exact congrArg (vi .u32) (sA (x:=0) d8)
   ·obtain rfl:k=4:=(by omega);exact⟨i+1,by omega,by omega,[.k 0,.k 1],⟨rfl,rfl,rfl,f6 (by simp(disch:=omega)only[Za];omega),tq⟩,⟨_,rfl,rfl⟩,⟨_,rfl,rfl⟩,tq⟩
  ·obtain rfl:i=4:=(by omega);refine⟨_,rfl,[],?_,tq⟩;show u32 (zA (I5 361 M2 s) 4 4)=_;rw[tH,hst,sw]
 ·omega
theorem gX (l:Bs):U3.wrap ((P0 l.reverse).toNat:Int)=((r9 l).toNat:Int):=mI _
theorem wT:∀r:Nat,r<20->U3.wrap (I6.wrap (2*(r:Int)))=((2*Zk r).toNat:Int):=by decide +kernel
theorem wU:∀r:Nat,r<20->U3.wrap (I6.wrap (I6.wrap (2*(r:Int))+1))=((2*Zk r+1).toNat:Int):=by decide +kernel
theorem Mo {n m:Nat} {va:List Value} {key:Bs} (ha:va=bv key) (hk:key.length=m) (hm:m=8*n) (hn:2<=n/\n<=4):
  a9 C 111 [.z m va] [] (.ret (.t [.o 1 (.k 0) 0 40,.z n (wv (tS key)),i64 0])) [.sc (wv (tK key))]:=by
 subst ha;subst hm;have hdiv:key.length/8=n:=by omega
 have hK:tK key=V1 (x5 key n) (x6 key n) 20:=by rw[tK,hdiv]
 have hS:tS key=(M7 key n).reverse:=by rw[tS,hdiv]
 rw[hK,hS];have e2:∀x:UInt32,U3.wrap (2*(x.toNat:Int))=((2*x).toNat:Int):=fun x=>jJ 2 x;have e3:∀x:UInt32,U3.wrap ((x.toNat:Int)*16843009)=((x*bq).toNat:Int):=fun x=>jJ x bq;refine Tc.c ?_;rcases n with _|_|_|_|_|n
 ·omega
 ·omega
 ·refine D6 (fun i=>⟨[(0,.z 16 (bv key)),(5,.o 1 (.k 0) 0 i),(6,.o 1 (.k 1) 0 i),(7,.o 1 (.k 2) 0 i),(8,i6),(9,i64 (8*i:Nat))],[.sc (wv (x5 key i)),.sc (wv (x6 key i)),.sc (wv (M7 key i).reverse)]⟩) 2 [(5,1,.sc []),(6,1,.sc []),(7,1,.sc [])] ⟨[.d 900000 0,.d 900000 1,.d 900000 2],⟨rfl,rfl,rfl,rfl,rfl,rfl,tq⟩,⟨_,rfl,rfl⟩,⟨_,rfl,rfl⟩,⟨_,rfl,rfl⟩,tq⟩ fun i hi=> ?_;refine d9 (fun h=> ?_) (fun h=> ?_)
  ·have d8:i<2:=(by omega);have f1:(I6.wrap (((8*i:Nat):Int)+4)).toNat=8*i+4:=(by simp(disch:=omega)only[Za];omega);have f2:(I6.wrap (((8*i:Nat):Int)+8)).toNat=8*i+8:=(by simp(disch:=omega)only[Za];omega);refine⟨by omega,by omega,by rw[f1];omega,Zc _,by rw[f1];show _<=16;omega,?_⟩;rw[f1,Zb,show 8*i+4-8*i=4 by omega];refine⟨[],_,_,_,_,fp (l:=sub key (8*i) 4) (m8 _ _ _) (by rw[l4];omega) (by decide),rfl,rfl,?_⟩;refine⟨Zc _,by omega,by rw[x8,P4];omega,?_⟩;refine⟨by omega,by omega,by rw[f1,f2];omega,Zc _,by rw[f2];show _<=16;omega,?_⟩;rw[f1,f2,show 8*i+8-(8*i+4)=4 by omega];refine⟨[],_,_,_,_,fp (l:=sub key (8*i+4) 4) (m8 _ _ _) (by rw[l4];omega) (by decide),rfl,rfl,?_⟩;refine⟨Zc _,by omega,by rw[x8,P5];omega,?_⟩;refine⟨by omega,by omega,by rw[f2];omega,Zc _,by rw[f2];show _<=16;omega,?_⟩;rw[f2,Zb,show 8*i+8-8*i=8 by omega];refine⟨[],_,_,_,_,ua (m:=sub key (8*i) 8) (m8 _ _ _) (by rw[l4];omega),rfl,rfl,?_⟩;refine⟨by rw[x8,Zj,O5];omega,by omega,Zc _,?_⟩;refine⟨i+1,by omega,by omega,[.d 41 0,.d 52 0,.d 61 0],⟨rfl,rfl,rfl,?_,rfl,f6 (by simp(disch:=omega)only[Za];omega),tq⟩,⟨_,rfl,g9 ?_⟩,⟨_,rfl,g9 ?_⟩,⟨_,rfl,g9 ?_⟩,tq⟩
   ·show V.o 1 _ 0 _=V.o 1 _ 0 _;rw[Z6]
   ·rw[mA];show sub (wv (x5 key i)) 0 (i*1)++[Value.int .u32 (U3.wrap ((P0 (sub key (8*i) 4).reverse).toNat:Int))]=_;rw[gX,Zd];exact S2 (by rw[P4])
   ·rw[mC];show sub (wv (x6 key i)) 0 (i*1)++[Value.int .u32 (U3.wrap ((P0 (sub key (8*i+4) 4).reverse).toNat:Int))]=_;rw[gX,Zd];exact S2 (by rw[P5])
   ·rw[mB,Z0];show[Value.int .u32 ((gQ (sub key (8*i) 8)).toNat:Int)]++sub (wv (M7 key i).reverse) 0 (i*1)=_;rw[Zd,C8 (by rw[Zj,O5])];rfl
  ·obtain rfl:i=2:=(by omega);refine D6 (fun r=>⟨[(5,.z 2 (wv (x5 key 2))),(6,.z 2 (wv (x6 key 2))),(7,.z 2 (wv (M7 key 2).reverse)),(8,.o 1 (.k 0) 0 (2*r)),(10,i64 r)],[.sc (wv (V1 (x5 key 2) (x6 key 2) r))]⟩) 20 [(8,1,.sc [])] ⟨[.d 900000 0],⟨?_,?_,?_,rfl,rfl,tq⟩,⟨_,rfl,rfl⟩,tq⟩ fun r hr=> ?_
   ·show V.z 2 (sub _ 0 2)=_;rw[C8 (P4 _ _)]
   ·show V.z 2 (sub _ 0 2)=_;rw[C8 (P5 _ _)]
   ·show V.z 2 (sub _ 0 2)=_;rw[C8 (by rw[Zj,O5])]
   have hkl:=gT (x5 key 2) (x6 key 2) r;refine d9 (fun h=> ?_) (fun h=> ?_)
   ·have d8:r<20:=(by omega);refine⟨[],_,_,_,_,gD (x:=2*Zk r*bq) (l:=x5 key 2) (by rw[wT r d8,e3]) rfl (P4 _ _) (by decide),rfl,rfl,?_⟩;refine⟨[],_,_,_,_,gD (x:=(2*Zk r+1)*bq) (l:=x6 key 2) (by rw[wU r d8,e3]) rfl (P5 _ _) (by decide),rfl,rfl,?_⟩;refine⟨[],_,_,_,_,U4 (k:=8) rfl (by decide) (by decide),rfl,rfl,?_⟩;refine⟨[],_,_,_,_,U4 (v:=af (x5 key 2) r+2*ag (x6 key 2) r) (k:=9) (by rw[e2];exact x7 _ _) (by decide) (by decide),rfl,rfl,?_⟩;refine⟨Zc _,by omega,by rw[x8,hkl];omega,?_⟩;refine⟨r+1,by omega,by omega,[.d 90 0],⟨rfl,rfl,rfl,rfl,f6 (by simp(disch:=omega)only[Za];omega),tq⟩,⟨_,rfl,g9 ?_⟩,tq⟩;show sub (wv (V1 (x5 key 2) (x6 key 2) r)) 0 (2*r*1)++[Value.int .u32 (U3.wrap (((af (x5 key 2) r).toNat:Int)+((ag (x6 key 2) r).toNat:Int))),Value.int .u32 ((E7 (af (x5 key 2) r+2*ag (x6 key 2) r) 9).toNat:Int)]=_;rw[Zd,C8 hkl,x7,nV,<-mK];rfl
   ·obtain rfl:r=20:=(by omega);exact⟨_,rfl,[.k 0],rfl,⟨_,rfl,rfl⟩,tq⟩
 ·refine D6 (fun i=>⟨[(0,.z 24 (bv key)),(5,.o 1 (.k 0) 0 i),(6,.o 1 (.k 1) 0 i),(7,.o 1 (.k 2) 0 i),(8,i6),(9,i64 (8*i:Nat))],[.sc (wv (x5 key i)),.sc (wv (x6 key i)),.sc (wv (M7 key i).reverse)]⟩) 3 [(5,1,.sc []),(6,1,.sc []),(7,1,.sc [])] ⟨[.d 900000 0,.d 900000 1,.d 900000 2],⟨rfl,rfl,rfl,rfl,rfl,rfl,tq⟩,⟨_,rfl,rfl⟩,⟨_,rfl,rfl⟩,⟨_,rfl,rfl⟩,tq⟩ fun i hi=> ?_;refine d9 (fun h=> ?_) (fun h=> ?_)
  ·have d8:i<3:=(by omega);have f1:(I6.wrap (((8*i:Nat):Int)+4)).toNat=8*i+4:=(by simp(disch:=omega)only[Za];omega);have f2:(I6.wrap (((8*i:Nat):Int)+8)).toNat=8*i+8:=(by simp(disch:=omega)only[Za];omega);refine⟨by omega,by omega,by rw[f1];omega,Zc _,by rw[f1];show _<=24;omega,?_⟩;rw[f1,Zb,show 8*i+4-8*i=4 by omega];refine⟨[],_,_,_,_,fp (l:=sub key (8*i) 4) (m8 _ _ _) (by rw[l4];omega) (by decide),rfl,rfl,?_⟩;refine⟨Zc _,by omega,by rw[x8,P4];omega,?_⟩;refine⟨by omega,by omega,by rw[f1,f2];omega,Zc _,by rw[f2];show _<=24;omega,?_⟩;rw[f1,f2,show 8*i+8-(8*i+4)=4 by omega];refine⟨[],_,_,_,_,fp (l:=sub key (8*i+4) 4) (m8 _ _ _) (by rw[l4];omega) (by decide),rfl,rfl,?_⟩;refine⟨Zc _,by omega,by rw[x8,P5];omega,?_⟩;refine⟨by omega,by omega,by rw[f2];omega,Zc _,by rw[f2];show _<=24;omega,?_⟩;rw[f2,Zb,show 8*i+8-8*i=8 by omega];refine⟨[],_,_,_,_,ua (m:=sub key (8*i) 8) (m8 _ _ _) (by rw[l4];omega),rfl,rfl,?_⟩;refine⟨by rw[x8,Zj,O5];omega,by omega,Zc _,?_⟩;refine⟨i+1,by omega,by omega,[.d 41 0,.d 52 0,.d 61 0],⟨rfl,rfl,rfl,?_,rfl,f6 (by simp(disch:=omega)only[Za];omega),tq⟩,⟨_,rfl,g9 ?_⟩,⟨_,rfl,g9 ?_⟩,⟨_,rfl,g9 ?_⟩,tq⟩
   ·show V.o 1 _ 0 _=V.o 1 _ 0 _;rw[Z6]
   ·rw[mA];show sub (wv (x5 key i)) 0 (i*1)++[Value.int .u32 (U3.wrap ((P0 (sub key (8*i) 4).reverse).toNat:Int))]=_;rw[gX,Zd];exact S2 (by rw[P4])
   ·rw[mC];show sub (wv (x6 key i)) 0 (i*1)++[Value.int .u32 (U3.wrap ((P0 (sub key (8*i+4) 4).reverse).toNat:Int))]=_;rw[gX,Zd];exact S2 (by rw[P5])
   ·rw[mB,Z0];show[Value.int .u32 ((gQ (sub key (8*i) 8)).toNat:Int)]++sub (wv (M7 key i).reverse) 0 (i*1)=_;rw[Zd,C8 (by rw[Zj,O5])];rfl
  ·obtain rfl:i=3:=(by omega);refine D6 (fun r=>⟨[(5,.z 3 (wv (x5 key 3))),(6,.z 3 (wv (x6 key 3))),(7,.z 3 (wv (M7 key 3).reverse)),(8,.o 1 (.k 0) 0 (2*r)),(10,i64 r)],[.sc (wv (V1 (x5 key 3) (x6 key 3) r))]⟩) 20 [(8,1,.sc [])] ⟨[.d 900000 0],⟨?_,?_,?_,rfl,rfl,tq⟩,⟨_,rfl,rfl⟩,tq⟩ fun r hr=> ?_
   ·show V.z 3 (sub _ 0 3)=_;rw[C8 (P4 _ _)]
   ·show V.z 3 (sub _ 0 3)=_;rw[C8 (P5 _ _)]
   ·show V.z 3 (sub _ 0 3)=_;rw[C8 (by rw[Zj,O5])]
   have hkl:=gT (x5 key 3) (x6 key 3) r;refine d9 (fun h=> ?_) (fun h=> ?_)
   ·have d8:r<20:=(by omega);refine⟨[],_,_,_,_,gD (x:=2*Zk r*bq) (l:=x5 key 3) (by rw[wT r d8,e3]) rfl (P4 _ _) (by decide),rfl,rfl,?_⟩;refine⟨[],_,_,_,_,gD (x:=(2*Zk r+1)*bq) (l:=x6 key 3) (by rw[wU r d8,e3]) rfl (P5 _ _) (by decide),rfl,rfl,?_⟩;refine⟨[],_,_,_,_,U4 (k:=8) rfl (by decide) (by decide),rfl,rfl,?_⟩;refine⟨[],_,_,_,_,U4 (v:=af (x5 key 3) r+2*ag (x6 key 3) r) (k:=9) (by rw[e2];exact x7 _ _) (by decide) (by decide),rfl,rfl,?_⟩;refine⟨Zc _,by omega,by rw[x8,hkl];omega,?_⟩;refine⟨r+1,by omega,by omega,[.d 90 0],⟨rfl,rfl,rfl,rfl,f6 (by simp(disch:=omega)only[Za];omega),tq⟩,⟨_,rfl,g9 ?_⟩,tq⟩;show sub (wv (V1 (x5 key 3) (x6 key 3) r)) 0 (2*r*1)++[Value.int .u32 (U3.wrap (((af (x5 key 3) r).toNat:Int)+((ag (x6 key 3) r).toNat:Int))),Value.int .u32 ((E7 (af (x5 key 3) r+2*ag (x6 key 3) r) 9).toNat:Int)]=_;rw[Zd,C8 hkl,x7,nV,<-mK];rfl
   ·obtain rfl:r=20:=(by omega);exact⟨_,rfl,[.k 0],rfl,⟨_,rfl,rfl⟩,tq⟩
 ·refine D6 (fun i=>⟨[(0,.z 32 (bv key)),(5,.o 1 (.k 0) 0 i),(6,.o 1 (.k 1) 0 i),(7,.o 1 (.k 2) 0 i),(8,i6),(9,i64 (8*i:Nat))],[.sc (wv (x5 key i)),.sc (wv (x6 key i)),.sc (wv (M7 key i).reverse)]⟩) 4 [(5,1,.sc []),(6,1,.sc []),(7,1,.sc [])] ⟨[.d 900000 0,.d 900000 1,.d 900000 2],⟨rfl,rfl,rfl,rfl,rfl,rfl,tq⟩,⟨_,rfl,rfl⟩,⟨_,rfl,rfl⟩,⟨_,rfl,rfl⟩,tq⟩ fun i hi=> ?_;refine d9 (fun h=> ?_) (fun h=> ?_)
  ·have d8:i<4:=(by omega);have f1:(I6.wrap (((8*i:Nat):Int)+4)).toNat=8*i+4:=(by simp(disch:=omega)only[Za];omega);have f2:(I6.wrap (((8*i:Nat):Int)+8)).toNat=8*i+8:=(by simp(disch:=omega)only[Za];omega);refine⟨by omega,by omega,by rw[f1];omega,Zc _,by rw[f1];show _<=32;omega,?_⟩;rw[f1,Zb,show 8*i+4-8*i=4 by omega];refine⟨[],_,_,_,_,fp (l:=sub key (8*i) 4) (m8 _ _ _) (by rw[l4];omega) (by decide),rfl,rfl,?_⟩;refine⟨Zc _,by omega,by rw[x8,P4];omega,?_⟩;refine⟨by omega,by omega,by rw[f1,f2];omega,Zc _,by rw[f2];show _<=32;omega,?_⟩;rw[f1,f2,show 8*i+8-(8*i+4)=4 by omega];refine⟨[],_,_,_,_,fp (l:=sub key (8*i+4) 4) (m8 _ _ _) (by rw[l4];omega) (by decide),rfl,rfl,?_⟩;refine⟨Zc _,by omega,by rw[x8,P5];omega,?_⟩;refine⟨by omega,by omega,by rw[f2];omega,Zc _,by rw[f2];show _<=32;omega,?_⟩;rw[f2,Zb,show 8*i+8-8*i=8 by omega];refine⟨[],_,_,_,_,ua (m:=sub key (8*i) 8) (m8 _ _ _) (by rw[l4];omega),rfl,rfl,?_⟩;refine⟨by rw[x8,Zj,O5];omega,by omega,Zc _,?_⟩;refine⟨i+1,by omega,by omega,[.d 41 0,.d 52 0,.d 61 0],⟨rfl,rfl,rfl,?_,rfl,f6 (by simp(disch:=omega)only[Za];omega),tq⟩,⟨_,rfl,g9 ?_⟩,⟨_,rfl,g9 ?_⟩,⟨_,rfl,g9 ?_⟩,tq⟩
   ·show V.o 1 _ 0 _=V.o 1 _ 0 _;rw[Z6]
   ·rw[mA];show sub (wv (x5 key i)) 0 (i*1)++[Value.int .u32 (U3.wrap ((P0 (sub key (8*i) 4).reverse).toNat:Int))]=_;rw[gX,Zd];exact S2 (by rw[P4])
   ·rw[mC];show sub (wv (x6 key i)) 0 (i*1)++[Value.int .u32 (U3.wrap ((P0 (sub key (8*i+4) 4).reverse).toNat:Int))]=_;rw[gX,Zd];exact S2 (by rw[P5])
   ·rw[mB,Z0];show[Value.int .u32 ((gQ (sub key (8*i) 8)).toNat:Int)]++sub (wv (M7 key i).reverse) 0 (i*1)=_;rw[Zd,C8 (by rw[Zj,O5])];rfl
  ·obtain rfl:i=4:=(by omega);refine D6 (fun r=>⟨[(5,.z 4 (wv (x5 key 4))),(6,.z 4 (wv (x6 key 4))),(7,.z 4 (wv (M7 key 4).reverse)),(8,.o 1 (.k 0) 0 (2*r)),(10,i64 r)],[.sc (wv (V1 (x5 key 4) (x6 key 4) r))]⟩) 20 [(8,1,.sc [])] ⟨[.d 900000 0],⟨?_,?_,?_,rfl,rfl,tq⟩,⟨_,rfl,rfl⟩,tq⟩ fun r hr=> ?_
   ·show V.z 4 (sub _ 0 4)=_;rw[C8 (P4 _ _)]
   ·show V.z 4 (sub _ 0 4)=_;rw[C8 (P5 _ _)]
   ·show V.z 4 (sub _ 0 4)=_;rw[C8 (by rw[Zj,O5])]
   have hkl:=gT (x5 key 4) (x6 key 4) r;refine d9 (fun h=> ?_) (fun h=> ?_)
   ·have d8:r<20:=(by omega);refine⟨[],_,_,_,_,gD (x:=2*Zk r*bq) (l:=x5 key 4) (by rw[wT r d8,e3]) rfl (P4 _ _) (by decide),rfl,rfl,?_⟩;refine⟨[],_,_,_,_,gD (x:=(2*Zk r+1)*bq) (l:=x6 key 4) (by rw[wU r d8,e3]) rfl (P5 _ _) (by decide),rfl,rfl,?_⟩;refine⟨[],_,_,_,_,U4 (k:=8) rfl (by decide) (by decide),rfl,rfl,?_⟩;refine⟨[],_,_,_,_,U4 (v:=af (x5 key 4) r+2*ag (x6 key 4) r) (k:=9) (by rw[e2];exact x7 _ _) (by decide) (by decide),rfl,rfl,?_⟩;refine⟨Zc _,by omega,by rw[x8,hkl];omega,?_⟩;refine⟨r+1,by omega,by omega,[.d 90 0],⟨rfl,rfl,rfl,rfl,f6 (by simp(disch:=omega)only[Za];omega),tq⟩,⟨_,rfl,g9 ?_⟩,tq⟩;show sub (wv (V1 (x5 key 4) (x6 key 4) r)) 0 (2*r*1)++[Value.int .u32 (U3.wrap (((af (x5 key 4) r).toNat:Int)+((ag (x6 key 4) r).toNat:Int))),Value.int .u32 ((E7 (af (x5 key 4) r+2*ag (x6 key 4) r) 9).toNat:Int)]=_;rw[Zd,C8 hkl,x7,nV,<-mK];rfl
   ·obtain rfl:r=20:=(by omega);exact⟨_,rfl,[.k 0],rfl,⟨_,rfl,rfl⟩,tq⟩
 ·omega
theorem Mp {n m:Nat} {va:List Value} {key:Bs} (ha:va=bv key) (hk:key.length=m) (hm:m=8*n) (hn:2<=n/\n<=4):a9 C 56 [.z m va] [] (.ret (.t [R5 (tK key) (tS key),i64 0])) []:=by
 refine Td.c ?_;refine⟨[],_,_,_,_,Mo ha hk hm hn,rfl,rfl,?_⟩;refine⟨_,rfl,[],?_,tq⟩;show V.t [.q [.z 40 (sub _ 0 40),.z n _] 0,i64 0]=V.t [.q [.z _ _,.z _ _] 0,i64 0];rw[C8 (iF key),iF,sa (n:=n) (by omega)]
theorem zv {k s:List UInt32} {x y:Int} {a c:UInt32} (hx:x=a.toNat) (hy:y=c.toNat) (hs:2<=s.length/\s.length<=4):a9 C 212 [R5 k s,vi .u32 x,vi .u32 y] [] (.ret (.t [u32 (tH a s+tH (E7 c 8) s),u32 (tH a s+2*tH (E7 c 8) s)])) []:=by
 subst hx;subst hy;refine Tf.c ?_;have e3:∀x:UInt32,U3.wrap (2*(x.toNat:Int))=((2*x).toNat:Int):=fun x=>jJ 2 x;refine⟨_,rfl,?_⟩;refine⟨[],_,_,_,_,gD (l:=s) rfl rfl rfl hs,rfl,rfl,?_⟩;refine⟨[],_,_,_,_,U4 (k:=8) rfl (by decide) (by decide),rfl,rfl,?_⟩;refine⟨_,rfl,?_⟩;refine⟨[],_,_,_,_,gD (l:=s) rfl rfl rfl hs,rfl,rfl,?_⟩;refine⟨_,rfl,[],?_,tq⟩;show V.t [vi .u32 _,vi .u32 _]=_;rw[x7,e3,x7]
abbrev sm (x:W4):B:= .mx [u32 x.1,u32 x.2.1,u32 x.2.2.1,u32 x.2.2.2]
theorem gW (b:Bs) {i:Nat} (h:i<4):(wv (dz b 4))[i]? =some (.int .u32 (bt (B9 b) i).toNat):=by
 rcases i with _|_|_|_|i;all_goals first|rfl|omega
theorem Mn {va:List Value} {b:Bs} {k s:List UInt32} (ha:va=bv b) (hb:b.length=16) (hk:k.length=40) (hs:2<=s.length/\s.length<=4):a9 C 155 [R5 k s,.z 16 va,bool false] [] (C0 16) [.sc (bv (N7 (db k s (B9 b)) 4))]:=by
 subst ha;refine uY.c ?_;refine m5 (fun i=>⟨[(0,R5 k s),(1,.z 16 (bv b)),(2,bool false),(8,.p (.k 0) 0),(9,i64 i)],[.sc (wv (dz b i))]⟩) 4 ⟨[.d 8 0],⟨rfl,rfl,rfl,rfl,rfl,tq⟩,⟨_,rfl,rfl⟩,tq⟩ fun i hi=> ?_;refine d9 (fun h=> ?_) (fun h=> ?_)
 ·have d8:i<4:=(by omega);have e1:(I6.wrap (4*(i:Int))).toNat=4*i:=(by simp(disch:=omega)only[Za];omega);have e2:(I6.wrap (I6.wrap (4*(i:Int))+4)).toNat=4*i+4:=(by simp(disch:=omega)only[Za];omega);refine⟨by omega,(by simp(disch:=omega)only[Za];omega),by rw[e1,e2];omega,Zc _,by rw[e2];omega,?_⟩;rw[e1,e2,show 4*i+4-4*i=4 by omega];refine⟨[],_,_,_,_,fp (l:=sub b (4*i) 4) (m8 _ _ _) (by rw[l4];omega) (by decide),rfl,rfl,?_⟩;refine⟨by omega,by omega,by show 0+((i:Int)).toNat*1<4;omega,?_⟩;refine⟨i+1,by omega,by omega,[.k 0],⟨rfl,rfl,rfl,rfl,f6 (by simp(disch:=omega)only[Za];omega),tq⟩,⟨_,rfl,g9 ?_⟩,tq⟩;rw[Zb,Zd,Ze,gX];show(wv (dz b i)).set i (.int .u32 (r9 (sub b (4*i) 4)).toNat)=_;rw[bw,qI b d8]
 obtain rfl:i=4:=(by omega);refine⟨_,rfl,?_⟩;refine⟨by decide,by decide,_,gW b (i:=0) (by decide),?_⟩;refine⟨by decide,by omega,?_⟩;refine⟨_,r8 (i:=0) (by omega),?_⟩;refine⟨by decide,by decide,_,gW b (i:=1) (by decide),?_⟩;refine⟨by decide,by omega,?_⟩;refine⟨_,r8 (i:=1) (by omega),?_⟩;refine⟨by decide,by decide,_,gW b (i:=2) (by decide),?_⟩;refine⟨by decide,by omega,?_⟩;refine⟨_,r8 (i:=2) (by omega),?_⟩;refine⟨by decide,by decide,_,gW b (i:=3) (by decide),?_⟩;refine⟨by decide,by omega,?_⟩;refine⟨_,r8 (i:=3) (by omega),?_⟩;refine⟨Zc _,?_⟩;refine m5 (fun i=>⟨[(0,R5 k s),(8,.p (.k 0) 0),(10,wz k),(14,i64 i)],[sm (cZ k s (wh k 0 (B9 b)) i)]⟩) 16 ⟨[.k 0],⟨rfl,rfl,rfl,rfl,tq⟩,⟨_,rfl,ie (B5 _ _) (B5 _ _) (B5 _ _) (B5 _ _)⟩,tq⟩ fun i hi=> ?_;have hst:=Ed k s (wh k 0 (B9 b)) i;generalize hx:cZ k s (wh k 0 (B9 b)) i=x at hst ⊢;refine d9 (fun h=> ?_) (fun h=> ?_)
 ·have d8:i<16:=(by omega);have e1:(I6.wrap (I6.wrap (2*(i:Int))+8)).toNat=2*i+8:=(by simp(disch:=omega)only[Za];omega);have e2:(I6.wrap (I6.wrap (2*(i:Int))+9)).toNat=2*i+9:=(by simp(disch:=omega)only[Za];omega);refine⟨by decide,by decide,_,rfl,by decide,by decide,_,rfl,?_⟩;refine⟨[],_,_,_,_,zv rfl rfl hs,rfl,rfl,?_⟩;refine⟨by decide,by decide,_,rfl,by omega,by omega,?_⟩;refine⟨_,by rw[e1];exact r8 (by omega),?_⟩;refine⟨[],_,_,_,_,U4 (v:=x.2.2.1^^^oF k s x.1 x.2.1 i) (k:=31) (by rw[x7];exact B5 _ _) (by decide) (by decide),rfl,rfl,?_⟩;refine⟨by decide,by decide,by show 3<=4;omega,by decide,by decide,_,rfl,?_⟩;refine⟨[],_,_,_,_,U4 (k:=1) rfl (by decide) (by decide),rfl,rfl,?_⟩;refine⟨by omega,by omega,?_⟩;refine⟨_,by rw[e2];exact r8 (by omega),?_⟩;refine⟨by decide,by decide,by show 4<=4;omega,?_⟩;refine⟨by decide,by decide,_,rfl,by decide,by decide,_,rfl,by decide,by decide,_,rfl,by decide,by decide,_,rfl,Zc _,?_⟩;refine⟨i+1,by omega,by omega,[.k 0],⟨rfl,rfl,rfl,f6 (by simp(disch:=omega)only[Za];omega),tq⟩,⟨_,rfl,?_⟩,tq⟩;rw[hst];exact ie rfl (by rw[x7];exact B5 _ _) rfl rfl
 obtain rfl:i=16:=(by omega);refine⟨by decide,by decide,_,rfl,?_⟩;refine⟨by decide,by omega,?_⟩;refine⟨_,r8 (i:=4) (by omega),?_⟩;refine⟨by decide,by decide,_,rfl,?_⟩;refine⟨by decide,by omega,?_⟩;refine⟨_,r8 (i:=5) (by omega),?_⟩;refine⟨by decide,by decide,_,rfl,?_⟩;refine⟨by decide,by omega,?_⟩;refine⟨_,r8 (i:=6) (by omega),?_⟩;refine⟨by decide,by decide,_,rfl,?_⟩;refine⟨by decide,by omega,?_⟩;refine⟨_,r8 (i:=7) (by omega),?_⟩;refine⟨Zc _,?_⟩;have hfx:wh k 4 (G4 x)=db k s (B9 b):=by rw[<-hx];rfl
 rw[<-hfx];generalize hy:wh k 4 (G4 x)=y;refine D6 (fun i=>⟨[(8,.p (.k 1) 0),(17,.o 1 (.k 0) 0 (4*i)),(18,i64 i)],[.sc (bv (N7 y i)),sm y]⟩) 4 [(17,1,.sc [])] ⟨[.d 900000 0,.k 0],⟨rfl,rfl,rfl,tq⟩,⟨_,rfl,rfl⟩,⟨_,rfl,?_⟩,tq⟩ fun i hi=> ?_
 ·rw[<-hy,<-hx];exact ie (B5 _ _) (B5 _ _) (B5 _ _) (B5 _ _)
 refine d9 (fun h=> ?_) (fun h=> ?_)
 ·have d8:i<4:=(by omega);refine⟨by omega,by omega,?_⟩;refine⟨_,by rw[Zb,Zd,Ze];exact sn d8,?_⟩;refine⟨[],_,_,_,_,pB rfl,rfl,rfl,?_⟩;have hpl:(q7 (bt y i)).length=4:=G3 _;refine⟨by rw[i9];exact Z3 hpl.symm,by omega,by rw[i9,eU];omega,?_⟩;refine⟨i+1,by omega,by omega,[.d 247 0,.k 1],⟨rfl,rfl,f6 (by simp(disch:=omega)only[Za];omega),tq⟩,⟨_,rfl,g9 ?_⟩,⟨_,rfl,rfl⟩,tq⟩;show sub (bv (N7 y i)) 0 (4*i*1)++sub (bv (q7 (bt y i))) 0 4=_;rw[Zd,g8 (eU y i),g8 hpl,A5,oz]
 ·obtain rfl:i=4:=(by omega);exact⟨_,rfl,[.k 0],rfl,⟨_,rfl,rfl⟩,tq⟩
theorem Mm {va:List Value} {b:Bs} {k s:List UInt32} (ha:va=bv b) (hb:b.length=16) (hk:k.length=40) (hs:2<=s.length/\s.length<=4):a9 C 155 [R5 k s,.z 16 va,bool true] [] (C0 16) [.sc (bv (N7 (da k s (B9 b)) 4))]:=by
 subst ha;refine uY.c ?_;refine m5 (fun i=>⟨[(0,R5 k s),(1,.z 16 (bv b)),(2,bool true),(8,.p (.k 0) 0),(9,i64 i)],[.sc (wv (dz b i))]⟩) 4 ⟨[.d 8 0],⟨rfl,rfl,rfl,rfl,rfl,tq⟩,⟨_,rfl,rfl⟩,tq⟩ fun i hi=> ?_;refine d9 (fun h=> ?_) (fun h=> ?_)
 ·have d8:i<4:=(by omega);have e1:(I6.wrap (4*(i:Int))).toNat=4*i:=(by simp(disch:=omega)only[Za];omega);have e2:(I6.wrap (I6.wrap (4*(i:Int))+4)).toNat=4*i+4:=(by simp(disch:=omega)only[Za];omega);refine⟨by omega,(by simp(disch:=omega)only[Za];omega),by rw[e1,e2];omega,Zc _,by rw[e2];omega,?_⟩;rw[e1,e2,show 4*i+4-4*i=4 by omega];refine⟨[],_,_,_,_,fp (l:=sub b (4*i) 4) (m8 _ _ _) (by rw[l4];omega) (by decide),rfl,rfl,?_⟩;refine⟨by omega,by omega,by show 0+((i:Int)).toNat*1<4;omega,?_⟩;refine⟨i+1,by omega,by omega,[.k 0],⟨rfl,rfl,rfl,rfl,f6 (by simp(disch:=omega)only[Za];omega),tq⟩,⟨_,rfl,g9 ?_⟩,tq⟩;rw[Zb,Zd,Ze,gX];show(wv (dz b i)).set i (.int .u32 (r9 (sub b (4*i) 4)).toNat)=_;rw[bw,qI b d8]
 obtain rfl:i=4:=(by omega);refine⟨_,rfl,?_⟩;refine⟨by decide,by decide,_,gW b (i:=2) (by decide),?_⟩;refine⟨by decide,by omega,?_⟩;refine⟨_,r8 (i:=6) (by omega),?_⟩;refine⟨by decide,by decide,_,gW b (i:=3) (by decide),?_⟩;refine⟨by decide,by omega,?_⟩;refine⟨_,r8 (i:=7) (by omega),?_⟩;refine⟨by decide,by decide,_,gW b (i:=0) (by decide),?_⟩;refine⟨by decide,by omega,?_⟩;refine⟨_,r8 (i:=4) (by omega),?_⟩;refine⟨by decide,by decide,_,gW b (i:=1) (by decide),?_⟩;refine⟨by decide,by omega,?_⟩;refine⟨_,r8 (i:=5) (by omega),?_⟩;refine⟨Zc _,?_⟩;refine m5 (fun i=>⟨[(0,R5 k s),(8,.p (.k 0) 0),(10,wz k),(11,i64 (15-i))],[sm (G4 (bY k s (wh k 4 (B9 b)) i))]⟩) 16 ⟨[.k 0],⟨rfl,rfl,rfl,rfl,tq⟩,⟨_,rfl,ie (B5 _ _) (B5 _ _) (B5 _ _) (B5 _ _)⟩,tq⟩ fun i hi=> ?_;have hst:=Ec k s (wh k 4 (B9 b)) i;generalize hx:bY k s (wh k 4 (B9 b)) i=x at hst ⊢;refine d9 (fun h=> ?_) (fun h=> ?_)
 ·obtain⟨r,er,hr15,hri⟩:∃r:Nat,(15:Int)-i=r/\r<=15/\r=15-i:=⟨15-i,by omega,by omega,rfl⟩;rw[<-hri]at hst;rw[er];have e1:(I6.wrap (I6.wrap (2*(r:Int))+8)).toNat=2*r+8:=(by simp(disch:=omega)only[Za];omega);have e2:(I6.wrap (I6.wrap (2*(r:Int))+9)).toNat=2*r+9:=(by simp(disch:=omega)only[Za];omega);refine⟨by decide,by decide,_,rfl,by decide,by decide,_,rfl,by decide,by decide,_,rfl,by decide,by decide,_,rfl,Zc _,?_⟩;refine⟨by decide,by decide,_,rfl,by decide,by decide,_,rfl,?_⟩;refine⟨[],_,_,_,_,zv (a:=x.1) (c:=x.2.1) rfl rfl hs,rfl,rfl,?_⟩;refine⟨by decide,by decide,_,rfl,?_⟩;refine⟨[],_,_,_,_,U4 (v:=x.2.2.1) (k:=1) rfl (by decide) (by decide),rfl,rfl,?_⟩;refine⟨by omega,by omega,?_⟩;refine⟨_,by rw[e1];exact r8 (by omega),?_⟩;refine⟨by decide,by decide,by show 3<=4;omega,by decide,by decide,_,rfl,by omega,by omega,?_⟩;refine⟨_,by rw[e2];exact r8 (by omega),?_⟩;refine⟨[],_,_,_,_,U4 (v:=x.2.2.2^^^oG k s x.1 x.2.1 r) (k:=31) (by rw[x7];exact B5 _ _) (by decide) (by decide),rfl,rfl,?_⟩;refine⟨by decide,by decide,by show 4<=4;omega,?_⟩;refine⟨i+1,by omega,by omega,[.k 0],⟨rfl,rfl,rfl,f6 ?_,tq⟩,⟨_,rfl,?_⟩,tq⟩
  ·rw[Za _ (by omega)];omega
  rw[hst];exact ie rfl rfl (by rw[x7];exact B5 _ _) rfl
 obtain rfl:i=16:=(by omega);refine⟨by decide,by decide,_,rfl,?_⟩;refine⟨by decide,by omega,?_⟩;refine⟨_,r8 (i:=0) (by omega),?_⟩;refine⟨by decide,by decide,_,rfl,?_⟩;refine⟨by decide,by omega,?_⟩;refine⟨_,r8 (i:=1) (by omega),?_⟩;refine⟨by decide,by decide,_,rfl,?_⟩;refine⟨by decide,by omega,?_⟩;refine⟨_,r8 (i:=2) (by omega),?_⟩;refine⟨by decide,by decide,_,rfl,?_⟩;refine⟨by decide,by omega,?_⟩;refine⟨_,r8 (i:=3) (by omega),?_⟩;refine⟨Zc _,?_⟩;have hfx:wh k 0 (G4 x)=da k s (B9 b):=by rw[<-hx];rfl
 rw[<-hfx];generalize hy:wh k 0 (G4 x)=y;refine D6 (fun i=>⟨[(8,.p (.k 1) 0),(17,.o 1 (.k 0) 0 (4*i)),(18,i64 i)],[.sc (bv (N7 y i)),sm y]⟩) 4 [(17,1,.sc [])] ⟨[.d 900000 0,.k 0],⟨rfl,rfl,rfl,tq⟩,⟨_,rfl,rfl⟩,⟨_,rfl,?_⟩,tq⟩ fun i hi=> ?_
 ·rw[<-hy,<-hx];exact ie (B5 _ _) (B5 _ _) (B5 _ _) (B5 _ _)
 refine d9 (fun h=> ?_) (fun h=> ?_)
 ·have d8:i<4:=(by omega);refine⟨by omega,by omega,?_⟩;refine⟨_,by rw[Zb,Zd,Ze];exact sn d8,?_⟩;refine⟨[],_,_,_,_,pB rfl,rfl,rfl,?_⟩;have hpl:(q7 (bt y i)).length=4:=G3 _;refine⟨by rw[i9];exact Z3 hpl.symm,by omega,by rw[i9,eU];omega,?_⟩;refine⟨i+1,by omega,by omega,[.d 247 0,.k 1],⟨rfl,rfl,f6 (by simp(disch:=omega)only[Za];omega),tq⟩,⟨_,rfl,g9 ?_⟩,⟨_,rfl,rfl⟩,tq⟩;show sub (bv (N7 y i)) 0 (4*i*1)++sub (bv (q7 (bt y i))) 0 4=_;rw[Zd,g8 (eU y i),g8 hpl,A5,oz]
 ·obtain rfl:i=4:=(by omega);exact⟨_,rfl,[.k 0],rfl,⟨_,rfl,rfl⟩,tq⟩
theorem Ml {va:List Value} {k s:List UInt32} {n:Nat} {back:Bool} (hn:n≠16):a9 C 155 [R5 k s,.z n va,bool back] [] U2 []:=by
 refine uY.c ?_;refine n7 (fun h=> ?_) (fun h=>absurd (by omega) hn);exact⟨_,rfl,[],rfl,tq⟩
def dh:Bs:=[99,124,119,123,242,107,111,197,48,1,103,43,254,215,171,118,202,130,201,125,250,89,71,240,173,212,162,175,156,164,114,192,183,253,147,38,54,63,247,204,52,165,229,241,113,216,49,21,4,199,35,195,24,150,5,154,7,18,128,226,235,39,178,117,9,131,44,26,27,110,90,160,82,59,214,179,41,227,47,132,83,209,0,237,32,252,177,91,106,203,190,57,74,76,88,207,208,239,170,251,67,77,51,133,69,249,2,127,80,60,159,168,81,163,64,143,146,157,56,245,188,182,218,33,16,255,243,210,205,12,19,236,95,151,68,23,196,167,126,61,100,93,25,115,96,129,79,220,34,42,144,136,70,238,184,20,222,94,11,219,224,50,58,10,73,6,36,92,194,211,172,98,145,149,228,121,231,200,55,109,141,213,78,169,108,86,244,234,101,122,174,8,186,120,37,46,28,166,180,198,232,221,116,31,75,189,139,138,112,62,181,102,72,3,246,14,97,53,87,185,134,193,29,158,225,248,152,17,105,217,142,148,155,30,135,233,206,85,40,223,140,161,137,13,191,230,66,104,65,153,45,15,176,84,187,22]
def di:Bs:=[226,78,84,252,148,194,74,204,98,13,106,70,60,77,139,209,94,250,100,203,180,151,190,43,188,119,46,3,211,25,89,193,29,6,65,107,85,240,153,105,234,156,24,174,99,223,231,187,0,115,102,251,150,76,133,228,58,9,69,170,15,238,16,235,45,127,244,41,172,207,173,145,141,120,200,149,249,47,206,205,8,122,136,56,92,131,42,40,71,219,184,199,147,164,18,83,255,135,14,49,54,33,88,72,1,142,55,116,50,202,233,177,183,171,12,215,196,86,66,38,7,152,96,217,182,185,17,64,236,32,140,189,160,201,132,4,73,35,241,79,80,31,19,220,216,192,158,87,227,195,123,101,59,2,143,62,232,37,146,229,21,221,253,23,169,191,212,154,126,197,57,103,254,118,157,67,167,225,208,245,104,242,27,52,112,5,163,138,213,121,134,168,48,198,81,75,30,166,39,246,53,210,110,36,22,130,95,218,230,117,162,239,44,178,28,159,93,111,128,10,114,68,155,108,144,11,91,51,125,90,82,243,97,161,247,176,214,63,124,109,237,20,224,165,61,34,179,248,137,222,113,26,175,186,181,129]
def jR:Bs:=[82,9,106,213,48,54,165,56,191,64,163,158,129,243,215,251,124,227,57,130,155,47,255,135,52,142,67,68,196,222,233,203,84,123,148,50,166,194,35,61,238,76,149,11,66,250,195,78,8,46,161,102,40,217,36,178,118,91,162,73,109,139,209,37,114,248,246,100,134,104,152,22,212,164,92,204,93,101,182,146,108,112,72,80,253,237,185,218,94,21,70,87,167,141,157,132,144,216,171,0,140,188,211,10,247,228,88,5,184,179,69,6,208,44,30,143,202,63,15,2,193,175,189,3,1,19,138,107,58,145,17,65,79,103,220,234,151,242,207,206,240,180,230,115,150,172,116,34,231,173,53,133,226,249,55,232,28,117,223,110,71,241,26,113,29,41,197,137,111,183,98,14,170,24,190,27,252,86,62,75,198,210,121,32,154,219,192,254,120,205,90,244,31,221,168,51,136,7,199,49,177,18,16,89,39,128,236,95,96,81,127,169,25,181,74,13,45,229,122,159,147,201,156,239,160,224,59,77,174,42,245,176,200,235,187,60,131,83,153,97,23,43,4,126,186,119,214,38,225,105,20,99,85,33,12,125]
def jS:Bs:=[48,104,153,27,135,185,33,120,80,57,219,225,114,9,98,60,62,126,94,142,241,160,204,163,42,29,251,182,214,32,196,141,129,101,245,137,203,157,119,198,87,67,86,23,212,64,26,77,192,99,108,227,183,200,100,106,83,170,56,152,12,244,155,237,127,34,118,175,221,58,11,88,103,136,6,195,53,13,1,139,140,194,230,95,2,36,117,147,102,30,229,226,84,216,16,206,122,232,8,44,18,151,50,171,180,39,10,35,223,239,202,217,184,250,220,49,107,209,173,25,73,189,81,150,238,228,168,65,218,255,205,85,134,54,190,97,82,248,187,14,130,72,105,154,224,71,158,92,4,75,52,21,121,38,167,222,41,174,146,215,132,233,210,186,93,243,197,176,191,164,59,113,68,70,43,252,235,111,213,246,20,254,124,112,90,125,253,47,24,131,22,165,145,31,5,149,116,169,193,91,74,133,109,19,7,79,78,69,178,15,201,28,166,188,236,115,144,123,207,89,143,161,249,45,242,177,0,148,55,159,208,46,156,110,40,63,128,240,61,211,37,138,181,231,66,179,199,234,247,76,17,51,3,162,172,96]
theorem xN:bQ 254 283 [241,227,199,143,31,62,124,248] 99 256=dh:=by decide +kernel
theorem xO:bQ 247 283 [122,188,235,185,52,129,186,203] 226 256=di:=by decide +kernel
theorem xG:dl dh 256=jR:=by decide +kernel
theorem xH:dl di 256=jS:=by decide +kernel
theorem iS:dh.length=256:=by decide +kernel
theorem iT:di.length=256:=by decide +kernel
theorem sR:jR.length=256:=by decide +kernel
theorem sS:jS.length=256:=by decide +kernel
theorem Gx:∀j,j<256->Zp j∈dh:=by decide +kernel
theorem Gz:∀j,j<256->Zp j∈di:=by decide +kernel
theorem Gy:dh.Nodup:=by decide +kernel
theorem GA:di.Nodup:=by decide +kernel
theorem tC:a9 C 141 [] [] (.ret (.a [.z 256 (bv dh),.z 256 (bv di),.z 256 (bv jR),.z 256 (bv jS)])) []:=by
 have m1:=zg (e:=254) (m:=283) (z:=99) (c:=99) (r0:=241) (r1:=227) (r2:=199) (r3:=143) (r4:=31) (r5:=62) (r6:=124) (r7:=248) rfl (by decide) (by decide) (by decide) (by decide);have m2:=zg (e:=247) (m:=283) (z:=226) (c:=226) (r0:=122) (r1:=188) (r2:=235) (r3:=185) (r4:=52) (r5:=129) (r6:=186) (r7:=203) rfl (by decide) (by decide) (by decide) (by decide);rw[xN]at m1;rw[xO]at m2;have b1:=yH (va:=sub (bv dh) 0 256) (g8 iS) iS Gx;have b2:=yH (va:=sub (bv di) 0 256) (g8 iT) iT Gz;rw[xG]at b1;rw[xH]at b2;refine Pe.c ?_;refine⟨[],_,_,_,_,m1,rfl,rfl,?_⟩;refine⟨by decide,by decide,by decide,?_⟩;refine⟨[],_,_,_,_,m2,rfl,rfl,?_⟩;refine⟨by decide,by decide,by decide,?_⟩;refine⟨by decide,by decide,_,rfl,?_⟩;refine⟨[],_,_,_,_,b1,rfl,rfl,?_⟩;refine⟨by decide,by decide,by decide,?_⟩;refine⟨by decide,by decide,_,rfl,?_⟩;refine⟨[],_,_,_,_,b2,rfl,rfl,?_⟩;refine⟨by decide,by decide,by decide,?_⟩;refine⟨_,rfl,rfl,Zc _,_,rfl,rfl,?_⟩;refine⟨_,rfl,[],?_,tq⟩;show V.a [V.z 256 (sub (bv dh) 0 256),V.z 256 (sub (bv di) 0 256),V.z 256 (sub (bv jR) 0 256),V.z 256 (sub (bv jS) 0 256)]=_;rw[g8 iS,g8 iT,g8 sR,g8 sS]
def GC:List (List Nat):=[[3,4,6,8,9,13,14],[2,5,7,8,9,12,15],[1,4,6,10,11,12,15],[0,5,7,10,11,13,14],[0,2,5,8,11,14,15],[1,3,4,9,10,14,15],[0,2,7,9,10,12,13],[1,3,6,8,11,12,13],[0,1,4,7,10,13,15],[0,1,5,6,11,12,14],[2,3,5,6,8,13,15],[2,3,4,7,9,12,14],[1,2,6,7,9,11,12],[0,3,6,7,8,10,13],[0,3,4,5,9,11,14],[1,2,4,5,8,10,15]]
def x9 (i:Nat):List Nat:=GC.getD i []
theorem xQ:∀i,i<16->∀t,t<7->(x9 i).getD t 0<16:=by decide
theorem HJ {i:Nat} (hi:i<16):a9 C 205 [i64 i] [] (.ret (.a [i64 ((x9 i).getD 0 0:Nat),i64 ((x9 i).getD 1 0:Nat),i64 ((x9 i).getD 2 0:Nat),i64 ((x9 i).getD 3 0:Nat),i64 ((x9 i).getD 4 0:Nat),i64 ((x9 i).getD 5 0:Nat),i64 ((x9 i).getD 6 0:Nat)])) []:=by
 rcases i with _|_|_|_|_|_|_|_|_|_|_|_|_|_|_|_|i
 ·exact ab.c ⟨Zc _,_,rfl,rfl,_,rfl,[],rfl,tq⟩
 ·exact ab.c ⟨Zc _,_,rfl,rfl,_,rfl,[],rfl,tq⟩
 ·exact ab.c ⟨Zc _,_,rfl,rfl,_,rfl,[],rfl,tq⟩
 ·exact ab.c ⟨Zc _,_,rfl,rfl,_,rfl,[],rfl,tq⟩
 ·exact ab.c ⟨Zc _,_,rfl,rfl,_,rfl,[],rfl,tq⟩
 ·exact ab.c ⟨Zc _,_,rfl,rfl,_,rfl,[],rfl,tq⟩
 ·exact ab.c ⟨Zc _,_,rfl,rfl,_,rfl,[],rfl,tq⟩
 ·exact ab.c ⟨Zc _,_,rfl,rfl,_,rfl,[],rfl,tq⟩
 ·exact ab.c ⟨Zc _,_,rfl,rfl,_,rfl,[],rfl,tq⟩
 ·exact ab.c ⟨Zc _,_,rfl,rfl,_,rfl,[],rfl,tq⟩
 ·exact ab.c ⟨Zc _,_,rfl,rfl,_,rfl,[],rfl,tq⟩
 ·exact ab.c ⟨Zc _,_,rfl,rfl,_,rfl,[],rfl,tq⟩
 ·exact ab.c ⟨Zc _,_,rfl,rfl,_,rfl,[],rfl,tq⟩
 ·exact ab.c ⟨Zc _,_,rfl,rfl,_,rfl,[],rfl,tq⟩
 ·exact ab.c ⟨Zc _,_,rfl,rfl,_,rfl,[],rfl,tq⟩
 ·exact ab.c ⟨Zc _,_,rfl,rfl,_,rfl,[],rfl,tq⟩
 ·omega
theorem GB {i t:Nat} (ht:t<7):([i64 ((x9 i).getD 0 0:Nat),i64 ((x9 i).getD 1 0:Nat),i64 ((x9 i).getD 2 0:Nat),i64 ((x9 i).getD 3 0:Nat),i64 ((x9 i).getD 4 0:Nat),i64 ((x9 i).getD 5 0:Nat),i64 ((x9 i).getD 6 0:Nat)]:List V)[t]? =some (i64 ((x9 i).getD t 0:Nat)):=by
 rcases t with _|_|_|_|_|_|_|t;all_goals first|rfl|omega
def S6 (n:Nat) (f:Nat->Nat->UInt8) (K i k:Nat):Bs:=(List.range n).map fun p=>if p<i then f p K else if p=i then f p k else 0
theorem xW (n f K i k):(S6 n f K i k).length=n:=by simp[S6]
theorem xV {n} {f:Nat->Nat->UInt8} {K i k} (h:i<n):(S6 n f K i k)[i]? =some (f i k):=by simp[S6,h]
theorem xY {n} {f:Nat->Nat->UInt8} {K i k} (h:i<n) {x:UInt8} (hx:x=f i (k+1)):(S6 n f K i k).set i x=S6 n f K i (k+1):=by
 subst hx;apply Zw (by simp[S6]);intro p h1 h2;simp only[S6,Z2,Zz,Zy];by_cases h:i=p
 ·subst h;simp
 ·simp[h,show ¬p=i from fun e=>h e.symm]
theorem xX {n} {f:Nat->Nat->UInt8} {K i} (h0:∀p,f p 0=0):S6 n f K i K=S6 n f K (i+1) 0:=by
 unfold S6;apply Zu;intro p hp;by_cases h1:p<i
 ·rw[if_pos h1,if_pos (by omega)]
 ·by_cases h2:p=i
  ·rw[if_neg h1,if_pos h2,if_pos (by omega)]
  ·rw[if_neg h1,if_neg h2,if_neg (by omega)];by_cases h3:p=i+1
   ·rw[if_pos h3,h0]
   ·rw[if_neg h3]
theorem xZ {n} {f:Nat->Nat->UInt8} {K} (h0:∀p,f p 0=0):S6 n f K 0 0=Zo n 0:=by
 apply Zw (by simp[S6]);intro p h1 h2;simp only[S6,Zz,Zy,List.getElem_replicate];rw[if_neg (by omega)];split
 ·exact h0 _
 ·rfl
theorem xU {n} {f:Nat->Nat->UInt8} {K}:S6 n f K n 0=(List.range n).map fun p=>f p K:=by
 unfold S6;apply Zu;intro p hp;rw[if_pos (Z5.1 hp)]
def aX (b:Bs) (p k:Nat):UInt8:=(List.range k).foldl (fun s t=>s^^^b.getD ((x9 p).getD t 0) 0) 0
theorem xT (b p k):aX b p (k+1)=aX b p k^^^b.getD ((x9 p).getD k 0) 0:=by simp[aX,Zn]
def H3 (b:Bs):Bs:=(List.range 16).map fun p=>aX b p 7
theorem sT (b):(H3 b).length=16:=by simp[H3]
theorem yG {va:List Value} {b:Bs} (ha:va=bv b) (hb:b.length=16):a9 C 146 [.z 16 va] [] (.ret (.t [.o 1 (.k 0) 0 16,bool true])) [.sc (bv (H3 b))]:=by
 subst ha;have h0:∀p,aX b p 0=0:=fun _=>rfl;refine Pb.c ?_;refine⟨by decide,by decide,by decide,?_⟩;refine m5 (fun i=>⟨[(0,.z 16 (bv b)),(4,.o 1 (.k 0) 0 16),(13,i64 16),(14,i64 i)],[.sc (bv (S6 16 (aX b) 7 i 0))]⟩) 16 ⟨[.d 11 0],⟨rfl,rfl,rfl,rfl,tq⟩,⟨_,rfl,g9 (by rw[xZ h0];exact T5 16)⟩,tq⟩ fun i hi=> ?_;refine d9 (fun h=> ?_) (fun h=> ?_)
 ·have d8:i<16:=(by omega);refine⟨[],_,_,_,_,HJ d8,rfl,rfl,?_⟩;refine m5 (fun k=>⟨[(0,.z 16 (bv b)),(4,.o 1 (.k 0) 0 16),(5,i64 i),(13,i64 16),(14,i64 i),(18,.a [i64 ((x9 i).getD 0 0:Nat),i64 ((x9 i).getD 1 0:Nat),i64 ((x9 i).getD 2 0:Nat),i64 ((x9 i).getD 3 0:Nat),i64 ((x9 i).getD 4 0:Nat),i64 ((x9 i).getD 5 0:Nat),i64 ((x9 i).getD 6 0:Nat)]),(19,i64 k)],[.sc (bv (S6 16 (aX b) 7 i k))]⟩) 7 ⟨[.k 0],⟨rfl,rfl,rfl,rfl,rfl,rfl,rfl,tq⟩,⟨_,rfl,rfl⟩,tq⟩ fun k hk=> ?_;refine d9 (fun h=> ?_) (fun h=> ?_)
  ·have hkl:k<7:=(by omega);have hs:=xQ i d8 k hkl;refine⟨by omega,by omega,?_⟩;refine⟨_,by rw[Zb,Zd];exact GB hkl,?_⟩;refine⟨by omega,by omega,?_⟩;refine⟨_,by rw[Zb,Zd,Ze];exact nf (xV d8),?_⟩;refine⟨by omega,by omega,?_⟩;refine⟨_,by rw[Zb];exact p5 (by omega),?_⟩;refine⟨by omega,by omega,by rw[i9,xW];omega,?_⟩;refine⟨k+1,by omega,by omega,[.k 0],⟨rfl,rfl,rfl,rfl,rfl,rfl,f6 (by simp(disch:=omega)only[Za];omega),tq⟩,⟨_,rfl,g9 ?_⟩,tq⟩;rw[Zb,Zd,Ze,n5,K6,xY d8 (xT _ _ _).symm]
  ·obtain rfl:k=7:=(by omega);refine⟨i+1,by omega,by omega,[.k 0],⟨rfl,rfl,rfl,f6 (by simp(disch:=omega)only[Za];omega),tq⟩,⟨_,rfl,g9 ?_⟩,tq⟩;rw[xX h0]
 ·obtain rfl:i=16:=(by omega);refine⟨_,rfl,[.k 0],rfl,⟨_,rfl,g9 ?_⟩,tq⟩;rw[xU];rfl
def gw (k:Nat):Bs:=if k=0 then dh else if k=1 then di else if k=2 then jR else jS
theorem xE (k:Nat):(gw k).length=256:=by
 unfold gw
 repeat' split
 ·exact iS
 ·exact iT
 ·exact sR
 ·exact sS
abbrev C4 (k:Nat):V:= .z 256 (bv (gw k))
abbrev iQ:V:= .a [C4 0,C4 1,C4 2,C4 3]
theorem xD {k:Nat} (h:k<4):([C4 0,C4 1,C4 2,C4 3]:List V)[k]? =some (C4 k):=N8 (f:=C4) rfl rfl rfl rfl h
def G1 (k:Nat) (b:Bs) (n:Nat):Bs:=(List.range n).map fun i=>(gw ((i+2*(k-1))%4)).getD (b.getD i 0).toNat 0
theorem P9 (k b n):(G1 k b n).length=n:=by simp[G1]
theorem xJ (k b n):G1 k b (n+1)=G1 k b n++[(gw ((n+2*(k-1))%4)).getD (b.getD n 0).toNat 0]:=by simp[G1,Zn]
theorem pm {va:List Value} {b:Bs} {k:Nat} (ha:va=bv b) (hb:b.length=16) (h1:1<=k) (h2:k<=2):a9 C 145 [iQ,i64 k,.z 16 va] [] (.ret (.o 1 (.k 0) 0 16)) [.sc (bv (G1 k b 16))]:=by
 subst ha;refine Pc.c ?_;refine⟨by decide,by decide,by decide,?_⟩;refine m5 (fun i=>⟨[(1,i64 k),(3,.p (.k 1) 0),(7,.o 1 (.k 0) 0 16),(13,.z 16 (bv b)),(14,i64 16),(15,i64 i)],[.sc (bv (G1 k b i++Zo (16-i) 0)),.mx [C4 0,C4 1,C4 2,C4 3]]⟩) 16 ⟨[.d 12 0,.d 3 0],⟨rfl,rfl,rfl,rfl,rfl,rfl,tq⟩,⟨_,rfl,g9 (by show Zo 16 _=_;exact T5 16)⟩,⟨_,rfl,rfl⟩,tq⟩ fun i hi=> ?_;refine d9 (fun h=> ?_) (fun h=> ?_)
 ·have d8:i<16:=(by omega);have e1:(I6.wrap ((i:Int)+I6.wrap (2*I6.wrap ((k:Int)-1)))).tmod 4=(((i+2*(k-1))%4:Nat):Int):=by
   rw[Za ((k:Int)-1) (by omega),Za (2*((k:Int)-1)) (by omega),Za _ (by omega),Zg (by omega)];omega
  have e2:=Zr (i+2*(k-1)) (show 4>0 by decide);refine⟨by omega,by omega,?_⟩;refine⟨_,by rw[Zb];exact p5 (by omega),?_⟩;have hx:=(b.getD i 0).toNat_lt;refine⟨by decide,by rw[e1];omega,by rw[e1];omega,?_⟩;refine⟨_,by rw[e1,Zb,Zd,Ze];exact xD e2,?_⟩;refine⟨by omega,by show _<((256:Nat):Int);omega,?_⟩;refine⟨_,by rw[Zb];exact p5 (by rw[xE];omega),?_⟩;refine⟨by omega,by omega,by rw[i9,Zm,P9,Zt];omega,?_⟩;refine⟨i+1,by omega,by omega,[.k 0,.k 1],⟨rfl,rfl,rfl,rfl,rfl,f6 (by simp(disch:=omega)only[Za];omega),tq⟩,⟨_,rfl,g9 ?_⟩,⟨_,rfl,rfl⟩,tq⟩;rw[Zb,Zd,Ze,nK (P9 _ _ _) d8,xJ]
 ·obtain rfl:i=16:=(by omega);refine⟨_,rfl,[.k 0],rfl,⟨_,rfl,g9 ?_⟩,tq⟩;simp
def M8 (k:Nat) (b key:Bs):Bs:=H3 (G1 k (j8 b key) 16)
theorem D1 (k b key):(M8 k b key).length=16:=sT _
theorem dU {va vk:List Value} {b key:Bs} {k:Nat} (ha:va=bv b) (hk:vk=bv key) (hb:b.length=16) (hkl:key.length=16) (h1:1<=k) (h2:k<=2):a9 C 143 [iQ,i64 k,.z 16 va,.z 16 vk] [] (.ret (.o 1 (.k 0) 0 16)) [.sc (bv (M8 k b key))]:=by
 refine Pd.c ?_;refine⟨[],_,_,_,_,M4 ha hk hb hkl (by decide),rfl,rfl,?_⟩;refine⟨_,rfl,rfl,?_⟩;have hx:(j8 b key).length=16:=B0 hb hkl;refine⟨[],_,_,_,_,pm (b:=j8 b key) (k:=k) (g8 hx) hx h1 h2,rfl,rfl,?_⟩;have hl:=P9 k (j8 b key) 16;refine⟨[],_,_,_,_,yG (b:=G1 k (j8 b key) 16) (g8 hl) hl,rfl,rfl,?_⟩;exact⟨_,rfl,[.d 20 0],rfl,⟨_,rfl,rfl⟩,tq⟩
def Gu:List (Bs):=[[81,124,193,183,39,34,10,148,254,19,171,232,250,154,110,224],[109,177,74,204,158,33,200,32,255,40,177,213,239,93,226,176],[219,146,55,29,33,38,233,112,3,36,151,117,4,232,201,14]]
def aC (i:Nat):Bs:=Gu.getD i []
theorem G9:∀i,i<3->(aC i).length=16:=by decide
abbrev P7 (i:Nat):V:= .z 16 (bv (aC i))
def a3 (i:Nat):B:=match i with
 |0=> .sc [.slice none 0 0,.slice none 0 0,.slice none 0 0]
 |1=> .mx [P7 0,i6,i6]
 |2=> .mx [P7 0,P7 1,i6]
 |_=> .mx [P7 0,P7 1,P7 2]
theorem tD:a9 C 204 [] [] (.ret (.a [P7 0,P7 1,P7 2])) []:=by
 refine Pf.c ?_;refine m5 (fun i=>⟨[(0,.p (.k 0) 0),(6,.a [u64 5871781006564002452,u64 18308165927316385504,u64 7904181063698728992,u64 18386141011142107824,u64 15821769039155751280,u64 226472410124699918]),(7,i64 i)],[a3 i]⟩) 3 ⟨[.d 0 0],⟨rfl,rfl,rfl,tq⟩,⟨_,rfl,rfl⟩,tq⟩ fun i hi=> ?_;rcases i with _|_|_|_|i
 ·refine⟨by decide,by decide,_,rfl,rfl,Zc _,?_⟩;refine⟨by decide,by decide,_,rfl,?_⟩;refine⟨[],_,_,_,_,kz (v:=5871781006564002452) rfl,rfl,rfl,?_⟩;refine⟨by decide,by decide,_,rfl,?_⟩;refine⟨[],_,_,_,_,kz (v:=18308165927316385504) rfl,rfl,rfl,?_⟩;refine⟨by decide,by decide,by decide,?_⟩;refine⟨by decide,by decide,by decide,?_⟩;refine⟨1,by decide,by decide,[.k 0],⟨rfl,rfl,rfl,tq⟩,⟨_,rfl,?_⟩,tq⟩;have he:sub (sub (bv (p8 5871781006564002452 8)) 0 8++sub (bv (p8 18308165927316385504 8)) 0 8) 0 16=bv (aC 0):=by
   rw[g8 (y8 _ _),g8 (y8 _ _),A5,show p8 5871781006564002452 8++p8 18308165927316385504 8=aC 0 by decide +kernel,g8 (G9 0 (by decide))]
  show B.mx [V.z 16 (sub (sub (bv (p8 5871781006564002452 8)) 0 8++sub (bv (p8 18308165927316385504 8)) 0 8) 0 16),i6,i6]=_;rw[he];rfl
 ·refine⟨by decide,by decide,_,rfl,rfl,Zc _,?_⟩;refine⟨by decide,by decide,_,rfl,?_⟩;refine⟨[],_,_,_,_,kz (v:=7904181063698728992) rfl,rfl,rfl,?_⟩;refine⟨by decide,by decide,_,rfl,?_⟩;refine⟨[],_,_,_,_,kz (v:=18386141011142107824) rfl,rfl,rfl,?_⟩;refine⟨by decide,by decide,by decide,?_⟩;refine⟨by decide,by decide,by decide,?_⟩;refine⟨2,by decide,by decide,[.k 0],⟨rfl,rfl,rfl,tq⟩,⟨_,rfl,?_⟩,tq⟩;have he:sub (sub (bv (p8 7904181063698728992 8)) 0 8++sub (bv (p8 18386141011142107824 8)) 0 8) 0 16=bv (aC 1):=by
   rw[g8 (y8 _ _),g8 (y8 _ _),A5,show p8 7904181063698728992 8++p8 18386141011142107824 8=aC 1 by decide +kernel,g8 (G9 1 (by decide))]
  show B.mx [P7 0,V.z 16 (sub (sub (bv (p8 7904181063698728992 8)) 0 8++sub (bv (p8 18386141011142107824 8)) 0 8) 0 16),i6]=_;rw[he];rfl
 ·refine⟨by decide,by decide,_,rfl,rfl,Zc _,?_⟩;refine⟨by decide,by decide,_,rfl,?_⟩;refine⟨[],_,_,_,_,kz (v:=15821769039155751280) rfl,rfl,rfl,?_⟩;refine⟨by decide,by decide,_,rfl,?_⟩;refine⟨[],_,_,_,_,kz (v:=226472410124699918) rfl,rfl,rfl,?_⟩;refine⟨by decide,by decide,by decide,?_⟩;refine⟨by decide,by decide,by decide,?_⟩;refine⟨3,by decide,by decide,[.k 0],⟨rfl,rfl,rfl,tq⟩,⟨_,rfl,?_⟩,tq⟩;have he:sub (sub (bv (p8 15821769039155751280 8)) 0 8++sub (bv (p8 226472410124699918 8)) 0 8) 0 16=bv (aC 2):=by
   rw[g8 (y8 _ _),g8 (y8 _ _),A5,show p8 15821769039155751280 8++p8 226472410124699918 8=aC 2 by decide +kernel,g8 (G9 2 (by decide))]
  show B.mx [P7 0,P7 1,V.z 16 (sub (sub (bv (p8 15821769039155751280 8)) 0 8++sub (bv (p8 226472410124699918 8)) 0 8) 0 16)]=_;rw[he];rfl
 ·refine⟨_,rfl,rfl,Zc _,_,rfl,rfl,?_⟩;exact⟨_,rfl,[],rfl,tq⟩
 ·omega
def dc (key:Bs):Bs:=key.drop 16++Zo (32-key.length) 0
def i7 (q:Nat) (key:Bs):Nat->Bs×Bs
 |0=>(key.take 16,dc key)
 |i+1=>(j8 (M8 (1+i%2) (i7 q key i).1 (aC ((i+q)%3))) (i7 q key i).2,(i7 q key i).1)
theorem C9 (q:Nat) {key:Bs} (h:16<=key.length) (h2:key.length<=32):∀i,(i7 q key i).1.length=16/\(i7 q key i).2.length=16
 |0=>by
  constructor
  ·show(key.take 16).length=16;rw[List.length_take];omega
  ·show(dc key).length=16;rw[dc,Zm,List.length_drop,Zt];omega
 |i+1=>⟨B0 (D1 _ _ _) (C9 q h h2 i).2,(C9 q h h2 i).1⟩
def W5 (j:Nat):Int:=[-19, -31,61,31,19].getD j 0
def s6 (q:Nat) (key:Bs) (i:Nat):Bs:=j8 (i7 q key (i%4)).1 (L1 (i7 q key ((i+1)%4)).1 (W5 (i/4)%128).toNat)
def iR (q:Nat) (key:Bs) (n:Nat):List (Bs):=(List.range n).map (s6 q key)
theorem jT (q key n):iR q key (n+1)=iR q key n++[s6 q key n]:=by simp[iR,Zn]
theorem co (q key n):(iR q key n).length=n:=by simp[iR]
abbrev n8 (l:Bs):V:= .z 16 (bv l)
def o7 (q:Nat) (key:Bs) (n:Nat):List V:=(iR q key n).map n8
theorem cg (H b9) (q key n):(o7 q key n).map (o5 H b9 6)=o7 q key n:=by
 unfold o7;rw[List.map_map];exact Zu fun _ _=>rfl
theorem sQ {j:Nat} (h:j<5):([i64 (-19),i64 (-31),i64 61,i64 31,i64 19]:List V)[j]? =some (i64 (W5 j)):=by
 rcases j with _|_|_|_|_|j;all_goals first|rfl|omega
theorem jQ {j:Nat} (h:j<5): -9223372036854775808<=W5 j/\W5 j<=9223372036854775807:=by
 rcases j with _|_|_|_|_|j;all_goals first|decide|omega
theorem uq {n:Nat} {va:List Value} {v:Bs} (ha:va=bv v) (hv:v.length=n) (h:n<=16):sub ((Zo 16 (Value.int .u8 0)).take 0++va.take (min n 16)++(Zo 16 (Value.int .u8 0)).drop (0+min n 16)) 0 16=bv (v++Zo (16-n) 0):=by
 subst ha;rw[Nat.min_eq_left h,List.take_zero,List.nil_append,Ze,List.drop_replicate,Z4 (by rw[i9];omega),T5,A5,g8 (by rw[Zm,Zt];omega)]
theorem ur {n:Nat} {v:Bs} (hv:v.length=n) (h:16<=n):sub ((Zo 16 (Value.int .u8 0)).take 0++(bv v).take (min n 16)++(Zo 16 (Value.int .u8 0)).drop (0+min n 16)) 0 16=bv (v.take 16):=by
 have e:(bv v).take 16=bv (v.take 16):=by simp[bv,List.map_take]
 rw[Nat.min_eq_right h,List.take_zero,List.nil_append,Ze,List.drop_replicate,Nat.sub_self,List.replicate_zero,List.append_nil,e,g8 (by rw[List.length_take];omega)]
def sU (q:Nat) (key:Bs) (i:Nat):B:=match i with
 |0=> .mx [n8 (i7 q key 0).1,i6,i6,i6]
 |1=> .mx [n8 (i7 q key 0).1,n8 (i7 q key 1).1,i6,i6]
 |2=> .mx [n8 (i7 q key 0).1,n8 (i7 q key 1).1,n8 (i7 q key 2).1,i6]
 |_=> .mx [n8 (i7 q key 0).1,n8 (i7 q key 1).1,n8 (i7 q key 2).1,n8 (i7 q key 3).1]
theorem Hv {va:List Value} {key:Bs} (ha:va=bv key) (hk:key.length=16):a9 C 142 [iQ,.z 16 va] [] (.ret (.o 1 (.k 0) 0 13)) [.mx (o7 0 key 13)]:=by
 subst ha;refine uL.c ?_;refine bd 0 rfl 13 (fun r=>⟨[(5,i64 0),(7,.p (.k 1) 0),(10,.o 1 (.k 0) 0 r),(11,.p (.k 2) 0),(12,i64 r)],[.mx (o7 0 key r),.mx [n8 (i7 0 key 0).1,n8 (i7 0 key 1).1,n8 (i7 0 key 2).1,n8 (i7 0 key 3).1],.mx [i64 (-19),i64 (-31),i64 61,i64 31,i64 19]]⟩) ?_ fun r hr=> ?_
 ·refine⟨by decide,?_⟩;refine⟨[],_,_,_,_,tD,rfl,rfl,?_⟩;refine⟨Zc _,by decide,by decide,by decide,?_⟩;refine⟨Zc _,?_⟩;refine⟨by decide,by decide,_,rfl,?_⟩;refine⟨by rw[i9,hk],by decide,?_⟩;refine⟨by decide,by decide,by decide,?_⟩;refine⟨by decide,by omega,Zc _,Zc _,?_⟩;refine⟨by rw[m8,i9,l4,hk];rfl,by decide,?_⟩;refine m5 (fun i=>⟨[(2,.p (.k 0) 0),(5,i64 0),(6,.p (.k 1) 0),(7,.p (.k 2) 0),(8,n8 (i7 0 key i).2),(33,i64 i)],[.mx [C4 0,C4 1,C4 2,C4 3],.mx [P7 0,P7 1,P7 2],sU 0 key i]⟩) 3 ⟨[.d 2 0,.d 6 0,.d 7 0],⟨rfl,rfl,rfl,rfl,?_,rfl,tq⟩,⟨_,rfl,rfl⟩,⟨_,rfl,rfl⟩,⟨_,rfl,?_⟩,tq⟩ fun i hi=> ?_
  ·show V.z 16 _=V.z 16 _;refine congrArg (V.z 16) (Eq.trans (uq (n:=0) (v:=sub key 16 0) (m8 _ _ _) (by rw[l4];omega) (by decide)) (congrArg bv ?_));show sub key 16 0++_=dc key;rw[dc,hk,M0 _ _ _ (by omega)]
  ·exact congrArg (fun z=>B.mx [V.z 16 z,i6,i6,i6]) (ur hk (by decide))
  rcases i with _|_|_|_|i
  ·refine⟨_,rfl,rfl,by decide,by decide,by decide,_,rfl,by decide,by decide,by decide,_,rfl,?_⟩;refine⟨[],_,_,_,_,dU (k:=1) (b:=(i7 0 key 0).1) (key:=aC 0) rfl rfl (C9 0 (by omega) (by omega) 0).1 (G9 0 (by decide)) (by decide) (by decide),rfl,rfl,?_⟩;refine⟨by decide,by decide,Zf rfl,?_⟩;refine⟨by decide,by decide,_,rfl,?_⟩;refine⟨[],_,_,_,_,M4 (a:=M8 1 (i7 0 key 0).1 (aC 0)) (b:=(i7 0 key 0).2) (g8 (D1 _ _ _)) rfl (D1 _ _ _) (C9 0 (by omega) (by omega) 0).2 (by decide),rfl,rfl,?_⟩;refine⟨by decide,by decide,Zf rfl,?_⟩;refine⟨by decide,by decide,_,rfl,?_⟩;refine⟨1,by decide,by decide,[.k 0,.k 1,.k 2],⟨rfl,rfl,rfl,rfl,rfl,rfl,tq⟩,⟨_,rfl,rfl⟩,⟨_,rfl,rfl⟩,⟨_,rfl,?_⟩,tq⟩;show B.mx [n8 (i7 0 key 0).1,V.z 16 (sub (bv (i7 0 key 1).1) 0 16),i6,i6]=_;rw[g8 (C9 0 (by omega) (by omega) 1).1];rfl
  ·refine⟨_,rfl,rfl,by decide,by decide,by decide,_,rfl,by decide,by decide,by decide,_,rfl,?_⟩;refine⟨[],_,_,_,_,dU (k:=2) (b:=(i7 0 key 1).1) (key:=aC 1) rfl rfl (C9 0 (by omega) (by omega) 1).1 (G9 1 (by decide)) (by decide) (by decide),rfl,rfl,?_⟩;refine⟨by decide,by decide,Zf rfl,?_⟩;refine⟨by decide,by decide,_,rfl,?_⟩;refine⟨[],_,_,_,_,M4 (a:=M8 2 (i7 0 key 1).1 (aC 1)) (b:=(i7 0 key 1).2) (g8 (D1 _ _ _)) rfl (D1 _ _ _) (C9 0 (by omega) (by omega) 1).2 (by decide),rfl,rfl,?_⟩;refine⟨by decide,by decide,Zf rfl,?_⟩;refine⟨by decide,by decide,_,rfl,?_⟩;refine⟨2,by decide,by decide,[.k 0,.k 1,.k 2],⟨rfl,rfl,rfl,rfl,rfl,rfl,tq⟩,⟨_,rfl,rfl⟩,⟨_,rfl,rfl⟩,⟨_,rfl,?_⟩,tq⟩;show B.mx [n8 (i7 0 key 0).1,n8 (i7 0 key 1).1,V.z 16 (sub (bv (i7 0 key 2).1) 0 16),i6]=_;rw[g8 (C9 0 (by omega) (by omega) 2).1];rfl
  ·refine⟨_,rfl,rfl,by decide,by decide,by decide,_,rfl,by decide,by decide,by decide,_,rfl,?_⟩;refine⟨[],_,_,_,_,dU (k:=1) (b:=(i7 0 key 2).1) (key:=aC 2) rfl rfl (C9 0 (by omega) (by omega) 2).1 (G9 2 (by decide)) (by decide) (by decide),rfl,rfl,?_⟩;refine⟨by decide,by decide,Zf rfl,?_⟩;refine⟨by decide,by decide,_,rfl,?_⟩;refine⟨[],_,_,_,_,M4 (a:=M8 1 (i7 0 key 2).1 (aC 2)) (b:=(i7 0 key 2).2) (g8 (D1 _ _ _)) rfl (D1 _ _ _) (C9 0 (by omega) (by omega) 2).2 (by decide),rfl,rfl,?_⟩;refine⟨by decide,by decide,Zf rfl,?_⟩;refine⟨by decide,by decide,_,rfl,?_⟩;refine⟨3,by decide,by decide,[.k 0,.k 1,.k 2],⟨rfl,rfl,rfl,rfl,rfl,rfl,tq⟩,⟨_,rfl,rfl⟩,⟨_,rfl,rfl⟩,⟨_,rfl,?_⟩,tq⟩;show B.mx [n8 (i7 0 key 0).1,n8 (i7 0 key 1).1,n8 (i7 0 key 2).1,V.z 16 (sub (bv (i7 0 key 3).1) 0 16)]=_;rw[g8 (C9 0 (by omega) (by omega) 3).1];rfl
  ·refine⟨Zc _,[(10,1,.mx [])],0,by decide,[.d 900000 0,.k 2,.d 11 0],⟨rfl,rfl,rfl,rfl,rfl,tq⟩,⟨_,rfl,rfl⟩,⟨_,rfl,rfl⟩,⟨_,rfl,rfl⟩,tq⟩
  ·omega
 ·have e1:((r:Int)).tmod 4=((r%4:Nat):Int):=by rw[Zg (by omega)];omega
  have e2:(I6.wrap ((r:Int)+1)).tmod 4=(((r+1)%4:Nat):Int):=by
   rw[Za _ (by omega),Zg (by omega)];omega
  have e3:I6.wrap (((r:Int)).tdiv 4)=((r/4:Nat):Int):=by
   rw[Zi (by omega),Za _ (by omega)];omega
  have m1:=Zr r (show 4>0 by decide);have m2:=Zr (r+1) (show 4>0 by decide);have hW:∀k,(i7 0 key k).1.length=16:=fun k=>(C9 0 (by omega) (by omega) k).1;refine⟨by decide,by decide,by rw[e1];omega,by rw[e1];omega,?_⟩;refine⟨_,by rw[e1,Zb,Zd,Ze];exact N8 (f:=fun k=>n8 (i7 0 key k).1) rfl rfl rfl rfl m1,?_⟩;refine⟨by rw[e2];omega,by rw[e2];omega,?_⟩;refine⟨_,by rw[e2,Zb,Zd,Ze];exact N8 (f:=fun k=>n8 (i7 0 key k).1) rfl rfl rfl rfl m2,?_⟩;refine⟨by decide,by rw[e3];omega,by rw[e3];omega,?_⟩;refine⟨_,by rw[e3,Zb,Zd,Ze];exact sQ (by omega),?_⟩;refine⟨[],_,_,_,_,pJ (b:=(i7 0 key ((r+1)%4)).1) (n:=W5 (r/4)) rfl (hW _) (by decide) (by decide) (jQ (by omega)),rfl,rfl,?_⟩;refine⟨[],_,_,_,_,M4 (a:=(i7 0 key (r%4)).1) (b:=L1 (i7 0 key ((r+1)%4)).1 (W5 (r/4)%128).toNat) rfl (g8 (by rw[H9,hW])) (hW _) (by rw[H9,hW]) (by decide),rfl,rfl,?_⟩;refine⟨Zc _,by omega,by rw[o7,Zq,co];omega,?_⟩;have hs0:sub (o7 0 key r) 0 (r*1)=o7 0 key r:=by rw[Zd,C2 (by rw[o7,Zq,co])]
  have hst:o7 0 key r++[V.z 16 (sub (bv (s6 0 key r)) 0 16)]=o7 0 key (r+1):=by
   rw[g8 (by rw[s6];exact B0 (hW _) (by rw[H9,hW])),o7,o7,jT,Zl];rfl
  have he:I6.wrap (13+I6.wrap (2*0))=13:=by decide
  refine d9 (fun h=> ?_) (fun h=> ?_)
  ·rw[he,Za _ (by omega)]at h;refine⟨rfl,r+1,by omega,by omega,[.d 93 0,.k 1,.k 2],⟨rfl,rfl,rfl,rfl,f6 (by simp(disch:=omega)only[Za];omega),tq⟩,⟨_,rfl,?_⟩,⟨_,rfl,rfl⟩,⟨_,rfl,rfl⟩,tq⟩;show B.mx (Zv (o5 _ _ 6) (sub (o7 0 key r) 0 (r*1)++[V.o _ _ _ _]))=_;rw[Zl,hs0,cg];exact congrArg B.mx hst
  ·rw[he,Za _ (by omega)]at h;obtain rfl:r=12:=(by omega);refine⟨_,rfl,[.d 93 0],rfl,⟨_,rfl,?_⟩,tq⟩;show B.mx (Zv (o5 _ _ 6) (sub (o7 0 key 12) 0 (12*1)++[V.o _ _ _ _]))=_;rw[Zl,hs0,cg];exact congrArg B.mx hst
theorem Hw {va:List Value} {key:Bs} (ha:va=bv key) (hk:key.length=24):a9 C 142 [iQ,.z 24 va] [] (.ret (.o 1 (.k 0) 0 15)) [.mx (o7 1 key 15)]:=by
 subst ha;refine uL.c ?_;refine bd 0 rfl 15 (fun r=>⟨[(5,i64 1),(7,.p (.k 1) 0),(10,.o 1 (.k 0) 0 r),(11,.p (.k 2) 0),(12,i64 r)],[.mx (o7 1 key r),.mx [n8 (i7 1 key 0).1,n8 (i7 1 key 1).1,n8 (i7 1 key 2).1,n8 (i7 1 key 3).1],.mx [i64 (-19),i64 (-31),i64 61,i64 31,i64 19]]⟩) ?_ fun r hr=> ?_
 ·refine⟨by decide,?_⟩;refine⟨[],_,_,_,_,tD,rfl,rfl,?_⟩;refine⟨Zc _,by decide,by decide,by decide,?_⟩;refine⟨Zc _,?_⟩;refine⟨by decide,by decide,_,rfl,?_⟩;refine⟨by rw[i9,hk],by decide,?_⟩;refine⟨by decide,by decide,by decide,?_⟩;refine⟨by decide,by omega,Zc _,Zc _,?_⟩;refine⟨by rw[m8,i9,l4,hk];rfl,by decide,?_⟩;refine m5 (fun i=>⟨[(2,.p (.k 0) 0),(5,i64 1),(6,.p (.k 1) 0),(7,.p (.k 2) 0),(8,n8 (i7 1 key i).2),(33,i64 i)],[.mx [C4 0,C4 1,C4 2,C4 3],.mx [P7 0,P7 1,P7 2],sU 1 key i]⟩) 3 ⟨[.d 2 0,.d 6 0,.d 7 0],⟨rfl,rfl,rfl,rfl,?_,rfl,tq⟩,⟨_,rfl,rfl⟩,⟨_,rfl,rfl⟩,⟨_,rfl,?_⟩,tq⟩ fun i hi=> ?_
  ·show V.z 16 _=V.z 16 _;refine congrArg (V.z 16) (Eq.trans (uq (n:=8) (v:=sub key 16 8) (m8 _ _ _) (by rw[l4];omega) (by decide)) (congrArg bv ?_));show sub key 16 8++_=dc key;rw[dc,hk,M0 _ _ _ (by omega)]
  ·exact congrArg (fun z=>B.mx [V.z 16 z,i6,i6,i6]) (ur hk (by decide))
  rcases i with _|_|_|_|i
  ·refine⟨_,rfl,rfl,by decide,by decide,by decide,_,rfl,by decide,by decide,by decide,_,rfl,?_⟩;refine⟨[],_,_,_,_,dU (k:=1) (b:=(i7 1 key 0).1) (key:=aC 1) rfl rfl (C9 1 (by omega) (by omega) 0).1 (G9 1 (by decide)) (by decide) (by decide),rfl,rfl,?_⟩;refine⟨by decide,by decide,Zf rfl,?_⟩;refine⟨by decide,by decide,_,rfl,?_⟩;refine⟨[],_,_,_,_,M4 (a:=M8 1 (i7 1 key 0).1 (aC 1)) (b:=(i7 1 key 0).2) (g8 (D1 _ _ _)) rfl (D1 _ _ _) (C9 1 (by omega) (by omega) 0).2 (by decide),rfl,rfl,?_⟩;refine⟨by decide,by decide,Zf rfl,?_⟩;refine⟨by decide,by decide,_,rfl,?_⟩;refine⟨1,by decide,by decide,[.k 0,.k 1,.k 2],⟨rfl,rfl,rfl,rfl,rfl,rfl,tq⟩,⟨_,rfl,rfl⟩,⟨_,rfl,rfl⟩,⟨_,rfl,?_⟩,tq⟩;show B.mx [n8 (i7 1 key 0).1,V.z 16 (sub (bv (i7 1 key 1).1) 0 16),i6,i6]=_;rw[g8 (C9 1 (by omega) (by omega) 1).1];rfl
  ·refine⟨_,rfl,rfl,by decide,by decide,by decide,_,rfl,by decide,by decide,by decide,_,rfl,?_⟩;refine⟨[],_,_,_,_,dU (k:=2) (b:=(i7 1 key 1).1) (key:=aC 2) rfl rfl (C9 1 (by omega) (by omega) 1).1 (G9 2 (by decide)) (by decide) (by decide),rfl,rfl,?_⟩;refine⟨by decide,by decide,Zf rfl,?_⟩;refine⟨by decide,by decide,_,rfl,?_⟩;refine⟨[],_,_,_,_,M4 (a:=M8 2 (i7 1 key 1).1 (aC 2)) (b:=(i7 1 key 1).2) (g8 (D1 _ _ _)) rfl (D1 _ _ _) (C9 1 (by omega) (by omega) 1).2 (by decide),rfl,rfl,?_⟩;refine⟨by decide,by decide,Zf rfl,?_⟩;refine⟨by decide,by decide,_,rfl,?_⟩;refine⟨2,by decide,by decide,[.k 0,.k 1,.k 2],⟨rfl,rfl,rfl,rfl,rfl,rfl,tq⟩,⟨_,rfl,rfl⟩,⟨_,rfl,rfl⟩,⟨_,rfl,?_⟩,tq⟩;show B.mx [n8 (i7 1 key 0).1,n8 (i7 1 key 1).1,V.z 16 (sub (bv (i7 1 key 2).1) 0 16),i6]=_;rw[g8 (C9 1 (by omega) (by omega) 2).1];rfl
  ·refine⟨_,rfl,rfl,by decide,by decide,by decide,_,rfl,by decide,by decide,by decide,_,rfl,?_⟩;refine⟨[],_,_,_,_,dU (k:=1) (b:=(i7 1 key 2).1) (key:=aC 0) rfl rfl (C9 1 (by omega) (by omega) 2).1 (G9 0 (by decide)) (by decide) (by decide),rfl,rfl,?_⟩;refine⟨by decide,by decide,Zf rfl,?_⟩;refine⟨by decide,by decide,_,rfl,?_⟩;refine⟨[],_,_,_,_,M4 (a:=M8 1 (i7 1 key 2).1 (aC 0)) (b:=(i7 1 key 2).2) (g8 (D1 _ _ _)) rfl (D1 _ _ _) (C9 1 (by omega) (by omega) 2).2 (by decide),rfl,rfl,?_⟩;refine⟨by decide,by decide,Zf rfl,?_⟩;refine⟨by decide,by decide,_,rfl,?_⟩;refine⟨3,by decide,by decide,[.k 0,.k 1,.k 2],⟨rfl,rfl,rfl,rfl,rfl,rfl,tq⟩,⟨_,rfl,rfl⟩,⟨_,rfl,rfl⟩,⟨_,rfl,?_⟩,tq⟩;show B.mx [n8 (i7 1 key 0).1,n8 (i7 1 key 1).1,n8 (i7 1 key 2).1,V.z 16 (sub (bv (i7 1 key 3).1) 0 16)]=_;rw[g8 (C9 1 (by omega) (by omega) 3).1];rfl
  ·refine⟨Zc _,[(10,1,.mx [])],0,by decide,[.d 900000 0,.k 2,.d 11 0],⟨rfl,rfl,rfl,rfl,rfl,tq⟩,⟨_,rfl,rfl⟩,⟨_,rfl,rfl⟩,⟨_,rfl,rfl⟩,tq⟩
  ·omega
 ·have e1:((r:Int)).tmod 4=((r%4:Nat):Int):=by rw[Zg (by omega)];omega
  have e2:(I6.wrap ((r:Int)+1)).tmod 4=(((r+1)%4:Nat):Int):=by
   rw[Za _ (by omega),Zg (by omega)];omega
  have e3:I6.wrap (((r:Int)).tdiv 4)=((r/4:Nat):Int):=by
   rw[Zi (by omega),Za _ (by omega)];omega
  have m1:=Zr r (show 4>0 by decide);have m2:=Zr (r+1) (show 4>0 by decide);have hW:∀k,(i7 1 key k).1.length=16:=fun k=>(C9 1 (by omega) (by omega) k).1;refine⟨by decide,by decide,by rw[e1];omega,by rw[e1];omega,?_⟩;refine⟨_,by rw[e1,Zb,Zd,Ze];exact N8 (f:=fun k=>n8 (i7 1 key k).1) rfl rfl rfl rfl m1,?_⟩;refine⟨by rw[e2];omega,by rw[e2];omega,?_⟩;refine⟨_,by rw[e2,Zb,Zd,Ze];exact N8 (f:=fun k=>n8 (i7 1 key k).1) rfl rfl rfl rfl m2,?_⟩;refine⟨by decide,by rw[e3];omega,by rw[e3];omega,?_⟩;refine⟨_,by rw[e3,Zb,Zd,Ze];exact sQ (by omega),?_⟩;refine⟨[],_,_,_,_,pJ (b:=(i7 1 key ((r+1)%4)).1) (n:=W5 (r/4)) rfl (hW _) (by decide) (by decide) (jQ (by omega)),rfl,rfl,?_⟩;refine⟨[],_,_,_,_,M4 (a:=(i7 1 key (r%4)).1) (b:=L1 (i7 1 key ((r+1)%4)).1 (W5 (r/4)%128).toNat) rfl (g8 (by rw[H9,hW])) (hW _) (by rw[H9,hW]) (by decide),rfl,rfl,?_⟩;refine⟨Zc _,by omega,by rw[o7,Zq,co];omega,?_⟩;have hs0:sub (o7 1 key r) 0 (r*1)=o7 1 key r:=by rw[Zd,C2 (by rw[o7,Zq,co])]
  have hst:o7 1 key r++[V.z 16 (sub (bv (s6 1 key r)) 0 16)]=o7 1 key (r+1):=by
   rw[g8 (by rw[s6];exact B0 (hW _) (by rw[H9,hW])),o7,o7,jT,Zl];rfl
  have he:I6.wrap (13+I6.wrap (2*1))=15:=by decide
  refine d9 (fun h=> ?_) (fun h=> ?_)
  ·rw[he,Za _ (by omega)]at h;refine⟨rfl,r+1,by omega,by omega,[.d 93 0,.k 1,.k 2],⟨rfl,rfl,rfl,rfl,f6 (by simp(disch:=omega)only[Za];omega),tq⟩,⟨_,rfl,?_⟩,⟨_,rfl,rfl⟩,⟨_,rfl,rfl⟩,tq⟩;show B.mx (Zv (o5 _ _ 6) (sub (o7 1 key r) 0 (r*1)++[V.o _ _ _ _]))=_;rw[Zl,hs0,cg];exact congrArg B.mx hst
  ·rw[he,Za _ (by omega)]at h;obtain rfl:r=14:=(by omega);refine⟨_,rfl,[.d 93 0],rfl,⟨_,rfl,?_⟩,tq⟩;show B.mx (Zv (o5 _ _ 6) (sub (o7 1 key 14) 0 (14*1)++[V.o _ _ _ _]))=_;rw[Zl,hs0,cg];exact congrArg B.mx hst
theorem Hx {va:List Value} {key:Bs} (ha:va=bv key) (hk:key.length=32):a9 C 142 [iQ,.z 32 va] [] (.ret (.o 1 (.k 0) 0 17)) [.mx (o7 2 key 17)]:=by
 subst ha;refine uL.c ?_;refine bd 0 rfl 17 (fun r=>⟨[(5,i64 2),(7,.p (.k 1) 0),(10,.o 1 (.k 0) 0 r),(11,.p (.k 2) 0),(12,i64 r)],[.mx (o7 2 key r),.mx [n8 (i7 2 key 0).1,n8 (i7 2 key 1).1,n8 (i7 2 key 2).1,n8 (i7 2 key 3).1],.mx [i64 (-19),i64 (-31),i64 61,i64 31,i64 19]]⟩) ?_ fun r hr=> ?_
 ·refine⟨by decide,?_⟩;refine⟨[],_,_,_,_,tD,rfl,rfl,?_⟩;refine⟨Zc _,by decide,by decide,by decide,?_⟩;refine⟨Zc _,?_⟩;refine⟨by decide,by decide,_,rfl,?_⟩;refine⟨by rw[i9,hk],by decide,?_⟩;refine⟨by decide,by decide,by decide,?_⟩;refine⟨by decide,by omega,Zc _,Zc _,?_⟩;refine⟨by rw[m8,i9,l4,hk];rfl,by decide,?_⟩;refine m5 (fun i=>⟨[(2,.p (.k 0) 0),(5,i64 2),(6,.p (.k 1) 0),(7,.p (.k 2) 0),(8,n8 (i7 2 key i).2),(33,i64 i)],[.mx [C4 0,C4 1,C4 2,C4 3],.mx [P7 0,P7 1,P7 2],sU 2 key i]⟩) 3 ⟨[.d 2 0,.d 6 0,.d 7 0],⟨rfl,rfl,rfl,rfl,?_,rfl,tq⟩,⟨_,rfl,rfl⟩,⟨_,rfl,rfl⟩,⟨_,rfl,?_⟩,tq⟩ fun i hi=> ?_
  ·show V.z 16 _=V.z 16 _;refine congrArg (V.z 16) (Eq.trans (uq (n:=16) (v:=sub key 16 16) (m8 _ _ _) (by rw[l4];omega) (by decide)) (congrArg bv ?_));show sub key 16 16++_=dc key;rw[dc,hk,M0 _ _ _ (by omega)]
  ·exact congrArg (fun z=>B.mx [V.z 16 z,i6,i6,i6]) (ur hk (by decide))
  rcases i with _|_|_|_|i
  ·refine⟨_,rfl,rfl,by decide,by decide,by decide,_,rfl,by decide,by decide,by decide,_,rfl,?_⟩;refine⟨[],_,_,_,_,dU (k:=1) (b:=(i7 2 key 0).1) (key:=aC 2) rfl rfl (C9 2 (by omega) (by omega) 0).1 (G9 2 (by decide)) (by decide) (by decide),rfl,rfl,?_⟩;refine⟨by decide,by decide,Zf rfl,?_⟩;refine⟨by decide,by decide,_,rfl,?_⟩;refine⟨[],_,_,_,_,M4 (a:=M8 1 (i7 2 key 0).1 (aC 2)) (b:=(i7 2 key 0).2) (g8 (D1 _ _ _)) rfl (D1 _ _ _) (C9 2 (by omega) (by omega) 0).2 (by decide),rfl,rfl,?_⟩;refine⟨by decide,by decide,Zf rfl,?_⟩;refine⟨by decide,by decide,_,rfl,?_⟩;refine⟨1,by decide,by decide,[.k 0,.k 1,.k 2],⟨rfl,rfl,rfl,rfl,rfl,rfl,tq⟩,⟨_,rfl,rfl⟩,⟨_,rfl,rfl⟩,⟨_,rfl,?_⟩,tq⟩;show B.mx [n8 (i7 2 key 0).1,V.z 16 (sub (bv (i7 2 key 1).1) 0 16),i6,i6]=_;rw[g8 (C9 2 (by omega) (by omega) 1).1];rfl
  ·refine⟨_,rfl,rfl,by decide,by decide,by decide,_,rfl,by decide,by decide,by decide,_,rfl,?_⟩;refine⟨[],_,_,_,_,dU (k:=2) (b:=(i7 2 key 1).1) (key:=aC 0) rfl rfl (C9 2 (by omega) (by omega) 1).1 (G9 0 (by decide)) (by decide) (by decide),rfl,rfl,?_⟩;refine⟨by decide,by decide,Zf rfl,?_⟩;refine⟨by decide,by decide,_,rfl,?_⟩;refine⟨[],_,_,_,_,M4 (a:=M8 2 (i7 2 key 1).1 (aC 0)) (b:=(i7 2 key 1).2) (g8 (D1 _ _ _)) rfl (D1 _ _ _) (C9 2 (by omega) (by omega) 1).2 (by decide),rfl,rfl,?_⟩;refine⟨by decide,by decide,Zf rfl,?_⟩;refine⟨by decide,by decide,_,rfl,?_⟩;refine⟨2,by decide,by decide,[.k 0,.k 1,.k 2],⟨rfl,rfl,rfl,rfl,rfl,rfl,tq⟩,⟨_,rfl,rfl⟩,⟨_,rfl,rfl⟩,⟨_,rfl,?_⟩,tq⟩;show B.mx [n8 (i7 2 key 0).1,n8 (i7 2 key 1).1,V.z 16 (sub (bv (i7 2 key 2).1) 0 16),i6]=_;rw[g8 (C9 2 (by omega) (by omega) 2).1];rfl
  ·refine⟨_,rfl,rfl,by decide,by decide,by decide,_,rfl,by decide,by decide,by decide,_,rfl,?_⟩;refine⟨[],_,_,_,_,dU (k:=1) (b:=(i7 2 key 2).1) (key:=aC 1) rfl rfl (C9 2 (by omega) (by omega) 2).1 (G9 1 (by decide)) (by decide) (by decide),rfl,rfl,?_⟩;refine⟨by decide,by decide,Zf rfl,?_⟩;refine⟨by decide,by decide,_,rfl,?_⟩;refine⟨[],_,_,_,_,M4 (a:=M8 1 (i7 2 key 2).1 (aC 1)) (b:=(i7 2 key 2).2) (g8 (D1 _ _ _)) rfl (D1 _ _ _) (C9 2 (by omega) (by omega) 2).2 (by decide),rfl,rfl,?_⟩;refine⟨by decide,by decide,Zf rfl,?_⟩;refine⟨by decide,by decide,_,rfl,?_⟩;refine⟨3,by decide,by decide,[.k 0,.k 1,.k 2],⟨rfl,rfl,rfl,rfl,rfl,rfl,tq⟩,⟨_,rfl,rfl⟩,⟨_,rfl,rfl⟩,⟨_,rfl,?_⟩,tq⟩;show B.mx [n8 (i7 2 key 0).1,n8 (i7 2 key 1).1,n8 (i7 2 key 2).1,V.z 16 (sub (bv (i7 2 key 3).1) 0 16)]=_;rw[g8 (C9 2 (by omega) (by omega) 3).1];rfl
  ·refine⟨Zc _,[(10,1,.mx [])],0,by decide,[.d 900000 0,.k 2,.d 11 0],⟨rfl,rfl,rfl,rfl,rfl,tq⟩,⟨_,rfl,rfl⟩,⟨_,rfl,rfl⟩,⟨_,rfl,rfl⟩,tq⟩
  ·omega
 ·have e1:((r:Int)).tmod 4=((r%4:Nat):Int):=by rw[Zg (by omega)];omega
  have e2:(I6.wrap ((r:Int)+1)).tmod 4=(((r+1)%4:Nat):Int):=by
   rw[Za _ (by omega),Zg (by omega)];omega
  have e3:I6.wrap (((r:Int)).tdiv 4)=((r/4:Nat):Int):=by
   rw[Zi (by omega),Za _ (by omega)];omega
  have m1:=Zr r (show 4>0 by decide);have m2:=Zr (r+1) (show 4>0 by decide);have hW:∀k,(i7 2 key k).1.length=16:=fun k=>(C9 2 (by omega) (by omega) k).1;refine⟨by decide,by decide,by rw[e1];omega,by rw[e1];omega,?_⟩;refine⟨_,by rw[e1,Zb,Zd,Ze];exact N8 (f:=fun k=>n8 (i7 2 key k).1) rfl rfl rfl rfl m1,?_⟩;refine⟨by rw[e2];omega,by rw[e2];omega,?_⟩;refine⟨_,by rw[e2,Zb,Zd,Ze];exact N8 (f:=fun k=>n8 (i7 2 key k).1) rfl rfl rfl rfl m2,?_⟩;refine⟨by decide,by rw[e3];omega,by rw[e3];omega,?_⟩;refine⟨_,by rw[e3,Zb,Zd,Ze];exact sQ (by omega),?_⟩;refine⟨[],_,_,_,_,pJ (b:=(i7 2 key ((r+1)%4)).1) (n:=W5 (r/4)) rfl (hW _) (by decide) (by decide) (jQ (by omega)),rfl,rfl,?_⟩;refine⟨[],_,_,_,_,M4 (a:=(i7 2 key (r%4)).1) (b:=L1 (i7 2 key ((r+1)%4)).1 (W5 (r/4)%128).toNat) rfl (g8 (by rw[H9,hW])) (hW _) (by rw[H9,hW]) (by decide),rfl,rfl,?_⟩;refine⟨Zc _,by omega,by rw[o7,Zq,co];omega,?_⟩;have hs0:sub (o7 2 key r) 0 (r*1)=o7 2 key r:=by rw[Zd,C2 (by rw[o7,Zq,co])]
  have hst:o7 2 key r++[V.z 16 (sub (bv (s6 2 key r)) 0 16)]=o7 2 key (r+1):=by
   rw[g8 (by rw[s6];exact B0 (hW _) (by rw[H9,hW])),o7,o7,jT,Zl];rfl
  have he:I6.wrap (13+I6.wrap (2*2))=17:=by decide
  refine d9 (fun h=> ?_) (fun h=> ?_)
  ·rw[he,Za _ (by omega)]at h;refine⟨rfl,r+1,by omega,by omega,[.d 93 0,.k 1,.k 2],⟨rfl,rfl,rfl,rfl,f6 (by simp(disch:=omega)only[Za];omega),tq⟩,⟨_,rfl,?_⟩,⟨_,rfl,rfl⟩,⟨_,rfl,rfl⟩,tq⟩;show B.mx (Zv (o5 _ _ 6) (sub (o7 2 key r) 0 (r*1)++[V.o _ _ _ _]))=_;rw[Zl,hs0,cg];exact congrArg B.mx hst
  ·rw[he,Za _ (by omega)]at h;obtain rfl:r=16:=(by omega);refine⟨_,rfl,[.d 93 0],rfl,⟨_,rfl,?_⟩,tq⟩;show B.mx (Zv (o5 _ _ 6) (sub (o7 2 key 16) 0 (16*1)++[V.o _ _ _ _]))=_;rw[Zl,hs0,cg];exact congrArg B.mx hst
abbrev dR (q:Nat) (key:Bs) (n:Nat):V:= .q [C4 0,C4 1,C4 2,C4 3,.zz 1 n (o7 q key n)] 0
theorem Hq {va:List Value}:a9 C 140 [.z 16 va] [] (.ret (bool true)) []:=uM.c ⟨by decide,_,rfl,[],rfl,tq⟩
theorem Ht {va:List Value}:a9 C 140 [.z 24 va] [] (.ret (bool true)) []:=uM.c ⟨by decide,_,rfl,[],rfl,tq⟩
theorem Hu {va:List Value}:a9 C 140 [.z 32 va] [] (.ret (bool true)) []:=uM.c ⟨by decide,_,rfl,[],rfl,tq⟩
theorem Hz {va:List Value} {key:Bs} (ha:va=bv key) (hk:key.length=16):a9 C 84 [.z 16 va] [] (.ret (.t [dR 0 key 13,i64 0])) []:=by
 refine uK.c ?_;refine⟨[],_,_,_,_,Hq,rfl,rfl,?_⟩;refine⟨[],_,_,_,_,tC,rfl,rfl,?_⟩;refine⟨Zc _,?_⟩;refine⟨_,rfl,rfl,?_⟩;refine⟨_,rfl,rfl,?_⟩;refine⟨[],_,_,_,_,Hv (va:=va) ha hk,rfl,rfl,?_⟩;exact⟨_,rfl,[],rfl,tq⟩
theorem HC {va:List Value} {key:Bs} (ha:va=bv key) (hk:key.length=24):a9 C 84 [.z 24 va] [] (.ret (.t [dR 1 key 15,i64 0])) []:=by
 refine uK.c ?_;refine⟨[],_,_,_,_,Ht,rfl,rfl,?_⟩;refine⟨[],_,_,_,_,tC,rfl,rfl,?_⟩;refine⟨Zc _,?_⟩;refine⟨_,rfl,rfl,?_⟩;refine⟨_,rfl,rfl,?_⟩;refine⟨[],_,_,_,_,Hw (va:=va) ha hk,rfl,rfl,?_⟩;exact⟨_,rfl,[],rfl,tq⟩
theorem HD {va:List Value} {key:Bs} (ha:va=bv key) (hk:key.length=32):a9 C 84 [.z 32 va] [] (.ret (.t [dR 2 key 17,i64 0])) []:=by
 refine uK.c ?_;refine⟨[],_,_,_,_,Hu,rfl,rfl,?_⟩;refine⟨[],_,_,_,_,tC,rfl,rfl,?_⟩;refine⟨Zc _,?_⟩;refine⟨_,rfl,rfl,?_⟩;refine⟨_,rfl,rfl,?_⟩;refine⟨[],_,_,_,_,Hx (va:=va) ha hk,rfl,rfl,?_⟩;exact⟨_,rfl,[],rfl,tq⟩
def S5 (q:Nat) (key b:Bs):Nat->Bs
 |0=>b
 |r+1=>M8 (1+r%2) (S5 q key b r) (s6 q key r)
def dP (q:Nat) (key:Bs) (n:Nat) (b:Bs):Bs:=j8 (G1 2 (j8 (S5 q key b (n-2)) (s6 q key (n-2))) 16) (s6 q key (n-1))
def P8 (q:Nat) (key:Bs) (n:Nat) (b:Bs):Nat->Bs
 |0=>j8 (G1 1 (j8 b (s6 q key (n-1))) 16) (s6 q key (n-2))
 |i+1=>j8 (G1 (2-(n-3-i)%2) (H3 (P8 q key n b i)) 16) (s6 q key (n-3-i))
def gy (q:Nat) (key:Bs) (n:Nat) (b:Bs):Bs:=P8 q key n b (n-2)
structure bx (q:Nat) (key:Bs) (n:Nat):Prop where
 h1:16<=key.length
 h2:key.length<=32
 h3:13<=n
 h4:n<=17
theorem fh {q key n} (h:bx q key n) (i):(s6 q key i).length=16:=by
 have hW:∀k,(i7 q key k).1.length=16:=fun k=>(C9 q h.h1 h.h2 k).1;rw[s6];exact B0 (hW _) (by rw[H9,hW])
theorem mU {q key n b} (h:bx q key n) (hb:b.length=16):∀i,(S5 q key b i).length=16
 |0=>hb
 |i+1=>D1 _ _ _
theorem oU {q key n b} (h:bx q key n):∀i,(P8 q key n b i).length=16
 |0=>B0 (P9 _ _ _) (fh h _)
 |i+1=>B0 (P9 _ _ _) (fh h _)
theorem cf {q key n r} (h:r<n):(o7 q key n)[r]? =some (n8 (s6 q key r)):=by
 simp[o7,iR,h]
theorem HM {va vk:List Value} {b key:Bs} {k:Nat} {x:Int} (hx:x=(k:Nat)) (ha:va=bv b) (hk:vk=bv key) (hb:b.length=16) (hkl:key.length=16) (h1:1<=k) (h2:k<=2):a9 C 143 [iQ,i64 x,.z 16 va,.z 16 vk] [] (.ret (.o 1 (.k 0) 0 16)) [.sc (bv (M8 k b key))]:=by
 subst hx;exact dU ha hk hb hkl h1 h2
theorem Hy {va:List Value} {b:Bs} {k:Nat} {x:Int} (hx:x=(k:Nat)) (ha:va=bv b) (hb:b.length=16) (h1:1<=k) (h2:k<=2):a9 C 145 [iQ,i64 x,.z 16 va] [] (.ret (.o 1 (.k 0) 0 16)) [.sc (bv (G1 k b 16))]:=by
 subst hx;exact pm ha hb h1 h2
theorem HH {va:List Value} {b key:Bs} {q n:Nat} (h:bx q key n) (ha:va=bv b) (hb:b.length=16):a9 C 85 [dR q key n,.z 16 va,bool false] [] (C0 16) [.sc (bv (dP q key n b))]:=by
 subst ha;have h3:=h.h3;have h4:=h.h4;have kl:=fh h;have h':=h;refine uJ.c ?_;refine bd 0 rfl 0 (fun _=>⟨[],[]⟩) ?_ fun r hr=>absurd hr (Nat.not_lt_zero _);refine⟨_,rfl,?_⟩;refine m5 (fun i=>⟨[(0,dR q key n),(1,n8 (S5 q key b i)),(8,i64 (n-1:Nat)),(9,i64 i)],[]⟩) (n-2) ⟨[],⟨rfl,rfl,?_,rfl,tq⟩,tq⟩ fun i hi=> ?_
 ·show i64 _=i64 _;rw[Za _ (by omega)];congr 2;omega
 have hel:=mU h hb i;have e0:I6.wrap (((n-1:Nat):Int)-1)=((n-2:Nat):Int):=by rw[Za _ (by omega)];omega
 refine d9 (fun h=> ?_) (fun h=> ?_)
 ·rw[e0]at h;have d8:i<n-2:=(by omega);have e1:I6.wrap (1+(i:Int).tmod 2)=((1+i%2:Nat):Int):=by
   rw[Zg (by omega),Za _ (by omega)];omega
  refine⟨_,rfl,rfl,by decide,_,rfl,by omega,by omega,?_⟩;refine⟨_,by rw[Zb,Zd];exact cf (by omega),?_⟩;refine⟨[],_,_,_,_,HM (b:=S5 q key b i) (key:=s6 q key i) (k:=1+i%2) e1 rfl rfl hel (kl i) (by omega) (by omega),rfl,rfl,?_⟩;refine⟨i+1,by omega,by omega,[],⟨rfl,?_,rfl,f6 (by simp(disch:=omega)only[Za];omega),tq⟩,tq⟩;show V.z 16 (sub (bv (S5 q key b (i+1))) 0 16)=_;rw[g8 (mU h' hb _)]
 ·rw[e0]at h;obtain rfl:i=n-2:=(by omega);refine⟨_,rfl,by omega,by omega,?_⟩;refine⟨_,by rw[Zb,Zd];exact cf (by omega),?_⟩;refine⟨[],_,_,_,_,M4 (a:=S5 q key b (n-2)) (b:=s6 q key (n-2)) rfl rfl hel (kl _) (by decide),rfl,rfl,?_⟩;have hx:=B0 hel (kl (n-2));refine⟨_,rfl,rfl,?_⟩;refine⟨[],_,_,_,_,pm (k:=2) (b:=j8 (S5 q key b (n-2)) (s6 q key (n-2))) (g8 hx) hx (by decide) (by decide),rfl,rfl,?_⟩;refine⟨_,rfl,by omega,by omega,?_⟩;refine⟨_,by rw[Zb,Zd];exact cf (by omega),?_⟩;have hl:=P9 2 (j8 (S5 q key b (n-2)) (s6 q key (n-2))) 16;refine⟨[],_,_,_,_,M4 (b:=s6 q key (n-1)) (g8 hl) rfl hl (kl _) (by decide),rfl,rfl,?_⟩;exact⟨_,rfl,[.d 68 0],rfl,⟨_,rfl,rfl⟩,tq⟩
theorem HG {va:List Value} {b key:Bs} {q n:Nat} (h:bx q key n) (ha:va=bv b) (hb:b.length=16):a9 C 85 [dR q key n,.z 16 va,bool true] [] (C0 16) [.sc (bv (gy q key n b))]:=by
 subst ha;have h3:=h.h3;have h4:=h.h4;have kl:=fh h;have h':=h;have e0:I6.wrap (((n-1:Nat):Int)-1)=((n-2:Nat):Int):=by rw[Za _ (by omega)];omega
 refine uJ.c ?_;refine bd 0 rfl 1 (fun _=>⟨[(0,dR q key n),(1,n8 b),(8,i64 (n-1:Nat))],[]⟩) ?_ fun r hr=> ?_
 ·refine⟨_,rfl,?_⟩;refine⟨rfl,0,by decide,[],⟨rfl,rfl,?_,tq⟩,tq⟩;show i64 _=i64 _;rw[Za _ (by omega)];congr 2;omega
 refine⟨_,rfl,by omega,by omega,?_⟩;refine⟨_,by rw[Zb,Zd];exact cf (by omega),?_⟩;refine⟨[],_,_,_,_,M4 (a:=b) (b:=s6 q key (n-1)) rfl rfl hb (kl _) (by decide),rfl,rfl,?_⟩;have hx:=B0 hb (kl (n-1));refine⟨_,rfl,rfl,?_⟩;refine⟨[],_,_,_,_,pm (k:=1) (b:=j8 b (s6 q key (n-1))) (g8 hx) hx (by decide) (by decide),rfl,rfl,?_⟩;refine⟨_,rfl,by rw[e0];omega,by rw[e0];omega,?_⟩;refine⟨_,by rw[e0,Zb,Zd];exact cf (by omega),?_⟩;have hl:=P9 1 (j8 b (s6 q key (n-1))) 16;refine⟨[],_,_,_,_,M4 (b:=s6 q key (n-2)) (g8 hl) rfl hl (kl _) (by decide),rfl,rfl,?_⟩;refine m5 (fun i=>⟨[(0,dR q key n),(1,.o 1 (.k 0) 0 16),(9,i64 ((n:Int)-3-i))],[.sc (bv (P8 q key n b i))]⟩) (n-2) ⟨[.d 99 0],⟨rfl,rfl,f6 ?_,tq⟩,⟨_,rfl,rfl⟩,tq⟩ fun i hi=> ?_
 ·rw[Za _ (by omega)];omega
 have hdl:=oU (b:=b) h i;refine d9 (fun h=> ?_) (fun h=> ?_)
 ·obtain⟨r,er,hrn,hri⟩:∃r:Nat,(n:Int)-3-i=r/\r<=n-3/\r=n-3-i:=⟨n-3-i,by omega,by omega,rfl⟩;have hst:P8 q key n b (i+1)=j8 (G1 (2-r%2) (H3 (P8 q key n b i)) 16) (s6 q key r):=by rw[hri];rfl
  rw[er];have e1:I6.wrap (2-(r:Int).tmod 2)=((2-r%2:Nat):Int):=by
   rw[Zg (by omega),Za _ (by omega)];omega
  refine⟨[],_,_,_,_,yG (b:=P8 q key n b i) (g8 hdl) hdl,rfl,rfl,?_⟩;refine⟨_,rfl,rfl,by decide,?_⟩;have hm:=sT (P8 q key n b i);refine⟨[],_,_,_,_,Hy (k:=2-r%2) (b:=H3 (P8 q key n b i)) e1 (g8 hm) hm (by omega) (by omega),rfl,rfl,?_⟩;refine⟨_,rfl,by omega,by omega,?_⟩;refine⟨_,by rw[Zb,Zd];exact cf (by omega),?_⟩;have hl:=P9 (2-r%2) (H3 (P8 q key n b i)) 16;refine⟨[],_,_,_,_,M4 (b:=s6 q key r) (g8 hl) rfl hl (kl _) (by decide),rfl,rfl,?_⟩;refine⟨i+1,by omega,by omega,[.d 130 0],⟨rfl,rfl,f6 ?_,tq⟩,⟨_,rfl,g9 (by rw[hst])⟩,tq⟩
  ·rw[Za _ (by omega)];omega
 ·obtain rfl:i=n-2:=(by omega);exact⟨_,rfl,[.k 0],rfl,⟨_,rfl,rfl⟩,tq⟩
theorem HF {va:List Value} {key:Bs} {q n m:Nat} {back:Bool} (hn:m≠16):a9 C 85 [dR q key n,.z m va,bool back] [] U2 []:=by
 refine uJ.c ?_;refine bd 0 rfl 0 (fun _=>⟨[],[]⟩) ?_ fun r hr=>absurd hr (Nat.not_lt_zero _);refine n7 (fun h=> ?_) (fun h=>absurd (by omega) hn);exact⟨_,rfl,[],rfl,tq⟩
abbrev gC:V:= .q [C4 0,C4 1,C4 2,C4 3] 0
theorem tX:a9 C 112 [] [] (.ret gC) []:=by
 have m1:=zq (e:=254) (m:=283) (z:=99) (c:=99) (r0:=241) (r1:=227) (r2:=199) (r3:=143) (r4:=31) (r5:=62) (r6:=124) (r7:=248) rfl (by decide) (by decide) (by decide) (by decide);have m2:=zq (e:=247) (m:=283) (z:=226) (c:=226) (r0:=122) (r1:=188) (r2:=235) (r3:=185) (r4:=52) (r5:=129) (r6:=186) (r7:=203) rfl (by decide) (by decide) (by decide) (by decide);rw[xN]at m1;rw[xO]at m2;have b1:=zp (va:=sub (bv dh) 0 256) (g8 iS) iS Gy;have b2:=zp (va:=sub (bv di) 0 256) (g8 iT) iT GA;rw[xG]at b1;rw[xH]at b2;refine Qw.c ?_;refine⟨[],_,_,_,_,m1,rfl,rfl,?_⟩;refine⟨[],_,_,_,_,m2,rfl,rfl,?_⟩;refine⟨[],_,_,_,_,b1,rfl,rfl,?_⟩;refine⟨[],_,_,_,_,b2,rfl,rfl,?_⟩;refine⟨_,rfl,[],?_,tq⟩;show V.q [V.z 256 (sub (bv dh) 0 256),V.z 256 (sub (bv di) 0 256),V.z 256 (sub (bv jR) 0 256),V.z 256 (sub (bv jS) 0 256)] 0=_;rw[g8 iS,g8 iT,g8 sR,g8 sS];rfl
theorem Lq {i:Nat} (hi:i<16):a9 C 259 [i64 i] [] (.ret (.o 1 (.k 0) 0 7)) [.sc ([.int .i64 ((x9 i).getD 0 0:Nat),.int .i64 ((x9 i).getD 1 0:Nat),.int .i64 ((x9 i).getD 2 0:Nat),.int .i64 ((x9 i).getD 3 0:Nat),.int .i64 ((x9 i).getD 4 0:Nat),.int .i64 ((x9 i).getD 5 0:Nat),.int .i64 ((x9 i).getD 6 0:Nat)])]:=by
 rcases i with _|_|_|_|_|_|_|_|_|_|_|_|_|_|_|_|i
 ·exact ae.c ⟨_,rfl,[.d 6 0],rfl,⟨_,rfl,rfl⟩,tq⟩
 ·exact ae.c ⟨_,rfl,[.d 9 0],rfl,⟨_,rfl,rfl⟩,tq⟩
 ·exact ae.c ⟨_,rfl,[.d 12 0],rfl,⟨_,rfl,rfl⟩,tq⟩
 ·exact ae.c ⟨_,rfl,[.d 15 0],rfl,⟨_,rfl,rfl⟩,tq⟩
 ·exact ae.c ⟨_,rfl,[.d 18 0],rfl,⟨_,rfl,rfl⟩,tq⟩
 ·exact ae.c ⟨_,rfl,[.d 21 0],rfl,⟨_,rfl,rfl⟩,tq⟩
 ·exact ae.c ⟨_,rfl,[.d 24 0],rfl,⟨_,rfl,rfl⟩,tq⟩
 ·exact ae.c ⟨_,rfl,[.d 27 0],rfl,⟨_,rfl,rfl⟩,tq⟩
 ·exact ae.c ⟨_,rfl,[.d 30 0],rfl,⟨_,rfl,rfl⟩,tq⟩
 ·exact ae.c ⟨_,rfl,[.d 33 0],rfl,⟨_,rfl,rfl⟩,tq⟩
 ·exact ae.c ⟨_,rfl,[.d 36 0],rfl,⟨_,rfl,rfl⟩,tq⟩
 ·exact ae.c ⟨_,rfl,[.d 39 0],rfl,⟨_,rfl,rfl⟩,tq⟩
 ·exact ae.c ⟨_,rfl,[.d 42 0],rfl,⟨_,rfl,rfl⟩,tq⟩
 ·exact ae.c ⟨_,rfl,[.d 45 0],rfl,⟨_,rfl,rfl⟩,tq⟩
 ·exact ae.c ⟨_,rfl,[.d 48 0],rfl,⟨_,rfl,rfl⟩,tq⟩
 ·exact ae.c ⟨_,rfl,[.d 49 0],rfl,⟨_,rfl,rfl⟩,tq⟩
 ·omega
theorem Ws {i t:Nat} (ht:t<7):([.int .i64 ((x9 i).getD 0 0:Nat),.int .i64 ((x9 i).getD 1 0:Nat),.int .i64 ((x9 i).getD 2 0:Nat),.int .i64 ((x9 i).getD 3 0:Nat),.int .i64 ((x9 i).getD 4 0:Nat),.int .i64 ((x9 i).getD 5 0:Nat),.int .i64 ((x9 i).getD 6 0:Nat)]:List Value)[t]? =some (.int .i64 ((x9 i).getD t 0:Nat)):=by
 rcases t with _|_|_|_|_|_|_|t;all_goals first|rfl|omega
theorem zj {va:List Value} {b:Bs} (ha:va=bv b) (hb:b.length=16):a9 C 215 [.z 16 va] [] (.ret (.o 1 (.k 0) 0 16)) [.sc (bv (H3 b))]:=by
 subst ha;have h0:∀p,aX b p 0=0:=fun _=>rfl;refine Qx.c ?_;refine⟨by decide,by decide,by decide,?_⟩;refine m5 (fun i=>⟨[(0,.z 16 (bv b)),(3,.o 1 (.k 0) 0 16),(4,i64 i)],[.sc (bv (S6 16 (aX b) 7 i 0))]⟩) 16 ⟨[.d 7 0],⟨rfl,rfl,rfl,tq⟩,⟨_,rfl,g9 (by rw[xZ h0];exact T5 16)⟩,tq⟩ fun i hi=> ?_;refine d9 (fun h=> ?_) (fun h=> ?_)
 ·have d8:i<16:=(by omega);refine⟨[],_,_,_,_,Lq d8,rfl,rfl,?_⟩;refine m5 (fun k=>⟨[(0,.z 16 (bv b)),(3,.o 1 (.k 0) 0 16),(4,i64 i),(5,.z 7 ([.int .i64 ((x9 i).getD 0 0:Nat),.int .i64 ((x9 i).getD 1 0:Nat),.int .i64 ((x9 i).getD 2 0:Nat),.int .i64 ((x9 i).getD 3 0:Nat),.int .i64 ((x9 i).getD 4 0:Nat),.int .i64 ((x9 i).getD 5 0:Nat),.int .i64 ((x9 i).getD 6 0:Nat)])),(6,i64 k)],[.sc (bv (S6 16 (aX b) 7 i k))]⟩) 7 ⟨[.k 0],⟨rfl,rfl,rfl,rfl,rfl,tq⟩,⟨_,rfl,rfl⟩,tq⟩ fun k hk=> ?_;refine d9 (fun h=> ?_) (fun h=> ?_)
  ·have hkl:k<7:=(by omega);have hs:=xQ i d8 k hkl;refine⟨by omega,by omega,?_⟩;refine⟨_,by rw[Zb,Zd,Ze];exact nf (xV d8),?_⟩;refine⟨by omega,by omega,?_⟩;refine⟨_,by rw[Zb];exact Ws hkl,?_⟩;refine⟨by omega,by omega,?_⟩;refine⟨_,by rw[Zb];exact p5 (by omega),?_⟩;refine⟨by omega,by omega,by rw[i9,xW];omega,?_⟩;refine⟨k+1,by omega,by omega,[.k 0],⟨rfl,rfl,rfl,rfl,f6 (by simp(disch:=omega)only[Za];omega),tq⟩,⟨_,rfl,g9 ?_⟩,tq⟩;rw[Zb,Zd,Ze,n5,K6,xY d8 (xT _ _ _).symm]
  ·obtain rfl:k=7:=(by omega);refine⟨i+1,by omega,by omega,[.k 0],⟨rfl,rfl,f6 (by simp(disch:=omega)only[Za];omega),tq⟩,⟨_,rfl,g9 ?_⟩,tq⟩;rw[xX h0]
 ·obtain rfl:i=16:=(by omega);refine⟨_,rfl,[.k 0],rfl,⟨_,rfl,g9 ?_⟩,tq⟩;rw[xU];rfl
theorem Gt {k:Nat} (h:k<4):([C4 0,C4 1,C4 2,C4 3]:List V)[0+0+k]? =some (C4 k):=by
 rw[show 0+0+k=k by omega];exact xD h
theorem py {va:List Value} {b:Bs} {k:Nat} {x:Int} (hx:x=(k:Nat)) (ha:va=bv b) (hb:b.length=16) (h1:1<=k) (h2:k<=2):a9 C 214 [gC,i64 x,.z 16 va] [] (.ret (.o 1 (.k 0) 0 16)) [.sc (bv (G1 k b 16))]:=by
 subst ha;subst hx;refine Qu.c ?_;refine⟨by decide,by decide,by decide,?_⟩;refine m5 (fun i=>⟨[(0,gC),(1,i64 k),(2,.z 16 (bv b)),(7,.o 1 (.k 0) 0 16),(8,i64 i)],[.sc (bv (G1 k b i++Zo (16-i) 0))]⟩) 16 ⟨[.d 11 0],⟨rfl,rfl,rfl,rfl,rfl,tq⟩,⟨_,rfl,g9 (by show Zo 16 _=_;exact T5 16)⟩,tq⟩ fun i hi=> ?_;refine d9 (fun h=> ?_) (fun h=> ?_)
 ·have d8:i<16:=(by omega);have e1:(I6.wrap ((i:Int)+I6.wrap (2*I6.wrap ((k:Int)-1)))).tmod 4=(((i+2*(k-1))%4:Nat):Int):=by
   rw[Za ((k:Int)-1) (by omega),Za (2*((k:Int)-1)) (by omega),Za _ (by omega),Zg (by omega)];omega
  have e2:=Zr (i+2*(k-1)) (show 4>0 by decide);have hx:=(b.getD i 0).toNat_lt;refine⟨by decide,by rw[e1];omega,by rw[e1];omega,?_⟩;refine⟨C4 ((i+2*(k-1))%4),by rw[e1,Zb,Zd];exact Gt e2,?_⟩;refine⟨by omega,by omega,?_⟩;refine⟨_,by rw[Zb];exact p5 (by omega),?_⟩;refine⟨by omega,by show _<((256:Nat):Int);omega,?_⟩;refine⟨_,by rw[Zb];exact p5 (by rw[xE];omega),?_⟩;refine⟨by omega,by omega,by rw[i9,Zm,P9,Zt];omega,?_⟩;refine⟨i+1,by omega,by omega,[.k 0],⟨rfl,rfl,rfl,rfl,f6 (by simp(disch:=omega)only[Za];omega),tq⟩,⟨_,rfl,g9 ?_⟩,tq⟩;rw[Zb,Zd,Ze,nK (P9 _ _ _) d8,xJ]
 ·obtain rfl:i=16:=(by omega);refine⟨_,rfl,[.k 0],rfl,⟨_,rfl,g9 ?_⟩,tq⟩;simp
theorem dW {va vk:List Value} {b key:Bs} {k:Nat} {x:Int} (hx:x=(k:Nat)) (ha:va=bv b) (hk:vk=bv key) (hb:b.length=16) (hkl:key.length=16) (h1:1<=k) (h2:k<=2):a9 C 172 [gC,i64 x,.z 16 va,.z 16 vk] [] (.ret (.o 1 (.k 0) 0 16)) [.sc (bv (M8 k b key))]:=by
 refine Qv.c ?_;refine⟨[],_,_,_,_,H4 ha hk hb hkl (by decide),rfl,rfl,?_⟩;have hx2:(j8 b key).length=16:=B0 hb hkl;refine⟨[],_,_,_,_,py (b:=j8 b key) (k:=k) hx (g8 hx2) hx2 h1 h2,rfl,rfl,?_⟩;have hl:=P9 k (j8 b key) 16;refine⟨[],_,_,_,_,zj (b:=G1 k (j8 b key) 16) (g8 hl) hl,rfl,rfl,?_⟩;exact⟨_,rfl,[.d 15 0],rfl,⟨_,rfl,rfl⟩,tq⟩
theorem fq {i:Nat} {x:Int} (hx:x=(i:Nat)) (hi:i<5):a9 C 173 [i64 x] [] (.ret (.o 1 (.k 0) 0 16)) [.sc (bv (aC (i%3)))]:=by
 subst hx;have h0:bv (p8 5871781006564002452 8)++bv (p8 18308165927316385504 8)=bv (aC 0):=by
  rw[A5,show p8 5871781006564002452 8++p8 18308165927316385504 8=aC 0 by decide +kernel]
 have h1:bv (p8 7904181063698728992 8)++bv (p8 18386141011142107824 8)=bv (aC 1):=by
  rw[A5,show p8 7904181063698728992 8++p8 18386141011142107824 8=aC 1 by decide +kernel]
 have h2:bv (p8 15821769039155751280 8)++bv (p8 226472410124699918 8)=bv (aC 2):=by
  rw[A5,show p8 15821769039155751280 8++p8 226472410124699918 8=aC 2 by decide +kernel]
 rcases i with _|_|_|_|_|i
 ·refine nG.c ?_;refine⟨by decide,by decide,by decide,_,rfl,?_⟩;refine⟨[],_,_,_,_,dX (v:=5871781006564002452) rfl,rfl,rfl,?_⟩;refine⟨by decide,by decide,by decide,_,rfl,?_⟩;refine⟨[],_,_,_,_,dX (v:=18308165927316385504) rfl,rfl,rfl,?_⟩;refine⟨by decide,by decide,by decide,?_⟩;refine⟨_,rfl,[.d 19 0],rfl,⟨_,rfl,g9 ?_⟩,tq⟩;show sub (bv (p8 5871781006564002452 8)) 0 8++sub (bv (p8 18308165927316385504 8)) 0 8=_;rw[g8 (y8 _ _),g8 (y8 _ _)];exact h0
 ·refine nG.c ?_;refine⟨by decide,by decide,by decide,_,rfl,?_⟩;refine⟨[],_,_,_,_,dX (v:=7904181063698728992) rfl,rfl,rfl,?_⟩;refine⟨by decide,by decide,by decide,_,rfl,?_⟩;refine⟨[],_,_,_,_,dX (v:=18386141011142107824) rfl,rfl,rfl,?_⟩;refine⟨by decide,by decide,by decide,?_⟩;refine⟨_,rfl,[.d 19 0],rfl,⟨_,rfl,g9 ?_⟩,tq⟩;show sub (bv (p8 7904181063698728992 8)) 0 8++sub (bv (p8 18386141011142107824 8)) 0 8=_;rw[g8 (y8 _ _),g8 (y8 _ _)];exact h1
 ·refine nG.c ?_;refine⟨by decide,by decide,by decide,_,rfl,?_⟩;refine⟨[],_,_,_,_,dX (v:=15821769039155751280) rfl,rfl,rfl,?_⟩;refine⟨by decide,by decide,by decide,_,rfl,?_⟩;refine⟨[],_,_,_,_,dX (v:=226472410124699918) rfl,rfl,rfl,?_⟩;refine⟨by decide,by decide,by decide,?_⟩;refine⟨_,rfl,[.d 19 0],rfl,⟨_,rfl,g9 ?_⟩,tq⟩;show sub (bv (p8 15821769039155751280 8)) 0 8++sub (bv (p8 226472410124699918 8)) 0 8=_;rw[g8 (y8 _ _),g8 (y8 _ _)];exact h2
 ·refine nG.c ?_;refine⟨by decide,by decide,by decide,_,rfl,?_⟩;refine⟨[],_,_,_,_,dX (v:=5871781006564002452) rfl,rfl,rfl,?_⟩;refine⟨by decide,by decide,by decide,_,rfl,?_⟩;refine⟨[],_,_,_,_,dX (v:=18308165927316385504) rfl,rfl,rfl,?_⟩;refine⟨by decide,by decide,by decide,?_⟩;refine⟨_,rfl,[.d 19 0],rfl,⟨_,rfl,g9 ?_⟩,tq⟩;show sub (bv (p8 5871781006564002452 8)) 0 8++sub (bv (p8 18308165927316385504 8)) 0 8=_;rw[g8 (y8 _ _),g8 (y8 _ _)];exact h0
 ·refine nG.c ?_;refine⟨by decide,by decide,by decide,_,rfl,?_⟩;refine⟨[],_,_,_,_,dX (v:=7904181063698728992) rfl,rfl,rfl,?_⟩;refine⟨by decide,by decide,by decide,_,rfl,?_⟩;refine⟨[],_,_,_,_,dX (v:=18386141011142107824) rfl,rfl,rfl,?_⟩;refine⟨by decide,by decide,by decide,?_⟩;refine⟨_,rfl,[.d 19 0],rfl,⟨_,rfl,g9 ?_⟩,tq⟩;show sub (bv (p8 7904181063698728992 8)) 0 8++sub (bv (p8 18386141011142107824 8)) 0 8=_;rw[g8 (y8 _ _),g8 (y8 _ _)];exact h1
 ·omega
theorem sZ {j:Nat} (h:j<5):([.int .i64 (-19),.int .i64 (-31),.int .i64 61,.int .i64 31,.int .i64 19]:List Value)[j]? =some (.int .i64 (W5 j)):=by
 rcases j with _|_|_|_|_|j;all_goals first|rfl|omega
theorem wO {key:Bs} (h:16<=key.length):sub (sub ([]:List Value) 0 (0*1)++sub (bv key) 0 16) 0 16=bv (key.take 16):=by
 rw[m8];show sub (bv (sub key 0 16)) 0 16=_;rw[g8 (by rw[l4];omega)];simp[sub]
theorem wP {key:Bs} {m k:Nat} (hk:key.length=16+m) (hm:k=16-m) (h:m<=16):sub (sub (sub ([]:List Value) 0 (0*1)++sub (bv key) 16 m) 0 (m*1)++Zo k (Value.int .u8 0)) 0 16=bv (dc key):=by
 subst hm;rw[m8];show sub (sub (bv (sub key 16 m)) 0 (m*1)++Zo (16-m) (Value.int .u8 0)) 0 16=_;have hl:(sub key 16 m).length=m:=by rw[l4];omega
 rw[Zd,g8 hl,T5,A5,g8 (by rw[Zm,Zt,hl];omega),dc,hk,M0 _ _ _ (by omega)];congr 3;omega
abbrev dQ (q:Nat) (key:Bs) (n:Nat):V:= .q [gC,.zz 1 n (o7 q key n)] 0
theorem Lk {va:List Value} {key:Bs} (ha:va=bv key) (hk:key.length=16):a9 C 113 [gC,.z 16 va] [] (.ret (.o 1 (.k 0) 0 13)) [.mx (o7 0 key 13)]:=by
 subst ha;have hW:∀k,(i7 0 key k).1.length=16:=fun k=>(C9 0 (by omega) (by omega) k).1;have hP:∀k,(i7 0 key k).2.length=16:=fun k=>(C9 0 (by omega) (by omega) k).2;have h6:=wO (key:=key) (by omega);have h7:=wP (key:=key) (m:=0) (k:=16) (by omega) rfl (by decide);refine uT.c ?_;refine⟨by decide,?_⟩;refine⟨by decide,by decide,by decide,by decide,?_⟩;refine⟨by rw[m8,i9,l4,hk];rfl,by decide,Zc _,?_⟩;refine⟨by decide,by omega,Zc _,Zc _,?_⟩;refine⟨by rw[m8,i9,l4,hk];rfl,by decide,Zc _,?_⟩;refine⟨by decide,by decide,by decide,?_,_,rfl,?_⟩
 ·show 0+0*1<=(sub (bv key) 16 0).length;rw[m8,i9,l4];omega
 refine⟨Zc _,?_⟩;refine⟨[],_,_,_,_,fq (i:=0) rfl (by decide),rfl,rfl,?_⟩;refine⟨[],_,_,_,_,dW (k:=1) (b:=(i7 0 key 0).1) (key:=aC 0) rfl h6 (g8 (G9 _ (by decide))) (hW 0) (G9 _ (by decide)) (by decide) (by decide),rfl,rfl,?_⟩;refine⟨[],_,_,_,_,H4 (a:=M8 1 (i7 0 key 0).1 (aC 0)) (b:=(i7 0 key 0).2) (g8 (D1 _ _ _)) h7 (D1 _ _ _) (hP 0) (by decide),rfl,rfl,?_⟩;refine⟨by decide,by decide,Zf rfl,?_⟩;refine⟨by decide,by decide,_,rfl,?_⟩;refine⟨[],_,_,_,_,fq (i:=1) rfl (by decide),rfl,rfl,?_⟩;refine⟨[],_,_,_,_,dW (k:=2) (b:=(i7 0 key 1).1) (key:=aC 1) rfl (g8 (hW 1)) (g8 (G9 _ (by decide))) (hW 1) (G9 _ (by decide)) (by decide) (by decide),rfl,rfl,?_⟩;refine⟨[],_,_,_,_,H4 (a:=M8 2 (i7 0 key 1).1 (aC 1)) (b:=(i7 0 key 1).2) (g8 (D1 _ _ _)) h6 (D1 _ _ _) (hP 1) (by decide),rfl,rfl,?_⟩;refine⟨by decide,by decide,Zf rfl,?_⟩;refine⟨by decide,by decide,_,rfl,?_⟩;refine⟨[],_,_,_,_,fq (i:=2) rfl (by decide),rfl,rfl,?_⟩;refine⟨[],_,_,_,_,dW (k:=1) (b:=(i7 0 key 2).1) (key:=aC 2) rfl (g8 (hW 2)) (g8 (G9 _ (by decide))) (hW 2) (G9 _ (by decide)) (by decide) (by decide),rfl,rfl,?_⟩;refine⟨by decide,by decide,_,rfl,?_⟩;refine⟨[],_,_,_,_,H4 (a:=M8 1 (i7 0 key 2).1 (aC 2)) (b:=(i7 0 key 2).2) (g8 (D1 _ _ _)) (g8 (hW 1)) (D1 _ _ _) (hP 2) (by decide),rfl,rfl,?_⟩;refine⟨by decide,by decide,Zf rfl,?_⟩;refine D6 (fun r=>⟨[(5,i64 0),(8,.p (.k 1) 0),(9,.o 1 (.k 0) 0 r),(10,.z 5 [.int .i64 (-19),.int .i64 (-31),.int .i64 61,.int .i64 31,.int .i64 19]),(11,i64 r)],[.mx (o7 0 key r),.mx [n8 (i7 0 key 0).1,n8 (i7 0 key 1).1,n8 (i7 0 key 2).1,n8 (i7 0 key 3).1]]⟩) 13 [(9,1,.mx [])] ⟨[.d 900000 0,.d 8 0],⟨rfl,rfl,rfl,rfl,rfl,tq⟩,⟨_,rfl,rfl⟩,⟨_,rfl,?_⟩,tq⟩ fun r hr=> ?_
 ·show B.mx [V.z 16 (sub _ 0 16),V.z 16 (sub (bv (i7 0 key 1).1) 0 16),V.z 16 (sub (bv (i7 0 key 2).1) 0 16),V.z 16 (sub (bv (i7 0 key 3).1) 0 16)]=_;rw[g8 (hW 1),g8 (hW 2),g8 (hW 3)];exact congrArg (fun z=>B.mx [V.z 16 z,n8 (i7 0 key 1).1,n8 (i7 0 key 2).1,n8 (i7 0 key 3).1]) h6
 have he:I6.wrap (I6.wrap (2*0)+13)=13:=by decide
 refine d9 (fun h=> ?_) (fun h=> ?_)
 ·rw[he]at h;have d8:r<13:=(by omega);have e1:((r:Int)).tmod 4=((r%4:Nat):Int):=by rw[Zg (by omega)];omega
  have e2:(I6.wrap ((r:Int)+1)).tmod 4=(((r+1)%4:Nat):Int):=by
   rw[Za _ (by omega),Zg (by omega)];omega
  have e3:I6.wrap (((r:Int)).tdiv 4)=((r/4:Nat):Int):=by
   rw[Zi (by omega),Za _ (by omega)];omega
  have m1:=Zr r (show 4>0 by decide);have m2:=Zr (r+1) (show 4>0 by decide);refine⟨by decide,by rw[e1];omega,by rw[e1];omega,?_⟩;refine⟨_,by rw[e1,Zb,Zd,Ze];exact N8 (f:=fun k=>n8 (i7 0 key k).1) rfl rfl rfl rfl m1,?_⟩;refine⟨by decide,by rw[e2];omega,by rw[e2];omega,?_⟩;refine⟨_,by rw[e2,Zb,Zd,Ze];exact N8 (f:=fun k=>n8 (i7 0 key k).1) rfl rfl rfl rfl m2,?_⟩;refine⟨by decide,by rw[e3];omega,by rw[e3];omega,?_⟩;refine⟨_,by rw[e3,Zb];exact sZ (by omega),?_⟩;refine⟨[],_,_,_,_,nj (b:=(i7 0 key ((r+1)%4)).1) (n:=W5 (r/4)) rfl (hW _) (by decide) (by decide) (jQ (by omega)),rfl,rfl,?_⟩;refine⟨[],_,_,_,_,H4 (a:=(i7 0 key (r%4)).1) (b:=L1 (i7 0 key ((r+1)%4)).1 (W5 (r/4)%128).toNat) rfl (g8 (by rw[H9,hW])) (hW _) (by rw[H9,hW]) (by decide),rfl,rfl,?_⟩;refine⟨Zc _,by omega,by rw[o7,Zq,co];omega,?_⟩;have hs0:sub (o7 0 key r) 0 (r*1)=o7 0 key r:=by rw[Zd,C2 (by rw[o7,Zq,co])]
  have hst:o7 0 key r++[V.z 16 (sub (bv (s6 0 key r)) 0 16)]=o7 0 key (r+1):=by
   rw[g8 (by rw[s6];exact B0 (hW _) (by rw[H9,hW])),o7,o7,jT,Zl];rfl
  refine⟨r+1,by omega,by omega,[.d 85 0,.k 1],⟨rfl,rfl,rfl,rfl,f6 (by simp(disch:=omega)only[Za];omega),tq⟩,⟨_,rfl,?_⟩,⟨_,rfl,rfl⟩,tq⟩;show B.mx (Zv (o5 _ _ 6) (sub (o7 0 key r) 0 (r*1)++[V.o _ _ _ _]))=_;rw[Zl,hs0,cg];exact congrArg B.mx hst
 ·rw[he]at h;obtain rfl:r=13:=(by omega);refine⟨_,rfl,[.k 0],rfl,⟨_,rfl,?_⟩,tq⟩;show B.mx (Zv (o5 _ _ 6) (o7 0 key 13))=_;rw[cg]
theorem Ln {va:List Value} {key:Bs} (ha:va=bv key) (hk:key.length=16):a9 C 57 [.z 16 va] [] (.ret (.t [dQ 0 key 13,i64 0])) []:=by
 refine uU.c ?_;refine⟨[],_,_,_,_,tX,rfl,rfl,?_⟩;refine⟨[],_,_,_,_,Lk (va:=va) ha hk,rfl,rfl,?_⟩;exact⟨_,rfl,[],rfl,tq⟩
theorem Ll {va:List Value} {key:Bs} (ha:va=bv key) (hk:key.length=24):a9 C 113 [gC,.z 24 va] [] (.ret (.o 1 (.k 0) 0 15)) [.mx (o7 1 key 15)]:=by
 subst ha;have hW:∀k,(i7 1 key k).1.length=16:=fun k=>(C9 1 (by omega) (by omega) k).1;have hP:∀k,(i7 1 key k).2.length=16:=fun k=>(C9 1 (by omega) (by omega) k).2;have h6:=wO (key:=key) (by omega);have h7:=wP (key:=key) (m:=8) (k:=8) (by omega) rfl (by decide);refine uT.c ?_;refine⟨by decide,?_⟩;refine⟨by decide,by decide,by decide,by decide,?_⟩;refine⟨by rw[m8,i9,l4,hk];rfl,by decide,Zc _,?_⟩;refine⟨by decide,by omega,Zc _,Zc _,?_⟩;refine⟨by rw[m8,i9,l4,hk];rfl,by decide,Zc _,?_⟩;refine⟨by decide,by decide,by decide,?_,_,rfl,?_⟩
 ·show 0+8*1<=(sub (bv key) 16 8).length;rw[m8,i9,l4];omega
 refine⟨Zc _,?_⟩;refine⟨[],_,_,_,_,fq (i:=1) rfl (by decide),rfl,rfl,?_⟩;refine⟨[],_,_,_,_,dW (k:=1) (b:=(i7 1 key 0).1) (key:=aC 1) rfl h6 (g8 (G9 _ (by decide))) (hW 0) (G9 _ (by decide)) (by decide) (by decide),rfl,rfl,?_⟩;refine⟨[],_,_,_,_,H4 (a:=M8 1 (i7 1 key 0).1 (aC 1)) (b:=(i7 1 key 0).2) (g8 (D1 _ _ _)) h7 (D1 _ _ _) (hP 0) (by decide),rfl,rfl,?_⟩;refine⟨by decide,by decide,Zf rfl,?_⟩;refine⟨by decide,by decide,_,rfl,?_⟩;refine⟨[],_,_,_,_,fq (i:=2) rfl (by decide),rfl,rfl,?_⟩;refine⟨[],_,_,_,_,dW (k:=2) (b:=(i7 1 key 1).1) (key:=aC 2) rfl (g8 (hW 1)) (g8 (G9 _ (by decide))) (hW 1) (G9 _ (by decide)) (by decide) (by decide),rfl,rfl,?_⟩;refine⟨[],_,_,_,_,H4 (a:=M8 2 (i7 1 key 1).1 (aC 2)) (b:=(i7 1 key 1).2) (g8 (D1 _ _ _)) h6 (D1 _ _ _) (hP 1) (by decide),rfl,rfl,?_⟩;refine⟨by decide,by decide,Zf rfl,?_⟩;refine⟨by decide,by decide,_,rfl,?_⟩;refine⟨[],_,_,_,_,fq (i:=3) rfl (by decide),rfl,rfl,?_⟩;refine⟨[],_,_,_,_,dW (k:=1) (b:=(i7 1 key 2).1) (key:=aC 0) rfl (g8 (hW 2)) (g8 (G9 _ (by decide))) (hW 2) (G9 _ (by decide)) (by decide) (by decide),rfl,rfl,?_⟩;refine⟨by decide,by decide,_,rfl,?_⟩;refine⟨[],_,_,_,_,H4 (a:=M8 1 (i7 1 key 2).1 (aC 0)) (b:=(i7 1 key 2).2) (g8 (D1 _ _ _)) (g8 (hW 1)) (D1 _ _ _) (hP 2) (by decide),rfl,rfl,?_⟩;refine⟨by decide,by decide,Zf rfl,?_⟩;refine D6 (fun r=>⟨[(5,i64 1),(8,.p (.k 1) 0),(9,.o 1 (.k 0) 0 r),(10,.z 5 [.int .i64 (-19),.int .i64 (-31),.int .i64 61,.int .i64 31,.int .i64 19]),(11,i64 r)],[.mx (o7 1 key r),.mx [n8 (i7 1 key 0).1,n8 (i7 1 key 1).1,n8 (i7 1 key 2).1,n8 (i7 1 key 3).1]]⟩) 15 [(9,1,.mx [])] ⟨[.d 900000 0,.d 8 0],⟨rfl,rfl,rfl,rfl,rfl,tq⟩,⟨_,rfl,rfl⟩,⟨_,rfl,?_⟩,tq⟩ fun r hr=> ?_
 ·show B.mx [V.z 16 (sub _ 0 16),V.z 16 (sub (bv (i7 1 key 1).1) 0 16),V.z 16 (sub (bv (i7 1 key 2).1) 0 16),V.z 16 (sub (bv (i7 1 key 3).1) 0 16)]=_;rw[g8 (hW 1),g8 (hW 2),g8 (hW 3)];exact congrArg (fun z=>B.mx [V.z 16 z,n8 (i7 1 key 1).1,n8 (i7 1 key 2).1,n8 (i7 1 key 3).1]) h6
 have he:I6.wrap (I6.wrap (2*1)+13)=15:=by decide
 refine d9 (fun h=> ?_) (fun h=> ?_)
 ·rw[he]at h;have d8:r<15:=(by omega);have e1:((r:Int)).tmod 4=((r%4:Nat):Int):=by rw[Zg (by omega)];omega
  have e2:(I6.wrap ((r:Int)+1)).tmod 4=(((r+1)%4:Nat):Int):=by
   rw[Za _ (by omega),Zg (by omega)];omega
  have e3:I6.wrap (((r:Int)).tdiv 4)=((r/4:Nat):Int):=by
   rw[Zi (by omega),Za _ (by omega)];omega
  have m1:=Zr r (show 4>0 by decide);have m2:=Zr (r+1) (show 4>0 by decide);refine⟨by decide,by rw[e1];omega,by rw[e1];omega,?_⟩;refine⟨_,by rw[e1,Zb,Zd,Ze];exact N8 (f:=fun k=>n8 (i7 1 key k).1) rfl rfl rfl rfl m1,?_⟩;refine⟨by decide,by rw[e2];omega,by rw[e2];omega,?_⟩;refine⟨_,by rw[e2,Zb,Zd,Ze];exact N8 (f:=fun k=>n8 (i7 1 key k).1) rfl rfl rfl rfl m2,?_⟩;refine⟨by decide,by rw[e3];omega,by rw[e3];omega,?_⟩;refine⟨_,by rw[e3,Zb];exact sZ (by omega),?_⟩;refine⟨[],_,_,_,_,nj (b:=(i7 1 key ((r+1)%4)).1) (n:=W5 (r/4)) rfl (hW _) (by decide) (by decide) (jQ (by omega)),rfl,rfl,?_⟩;refine⟨[],_,_,_,_,H4 (a:=(i7 1 key (r%4)).1) (b:=L1 (i7 1 key ((r+1)%4)).1 (W5 (r/4)%128).toNat) rfl (g8 (by rw[H9,hW])) (hW _) (by rw[H9,hW]) (by decide),rfl,rfl,?_⟩;refine⟨Zc _,by omega,by rw[o7,Zq,co];omega,?_⟩;have hs0:sub (o7 1 key r) 0 (r*1)=o7 1 key r:=by rw[Zd,C2 (by rw[o7,Zq,co])]
  have hst:o7 1 key r++[V.z 16 (sub (bv (s6 1 key r)) 0 16)]=o7 1 key (r+1):=by
   rw[g8 (by rw[s6];exact B0 (hW _) (by rw[H9,hW])),o7,o7,jT,Zl];rfl
  refine⟨r+1,by omega,by omega,[.d 85 0,.k 1],⟨rfl,rfl,rfl,rfl,f6 (by simp(disch:=omega)only[Za];omega),tq⟩,⟨_,rfl,?_⟩,⟨_,rfl,rfl⟩,tq⟩;show B.mx (Zv (o5 _ _ 6) (sub (o7 1 key r) 0 (r*1)++[V.o _ _ _ _]))=_;rw[Zl,hs0,cg];exact congrArg B.mx hst
 ·rw[he]at h;obtain rfl:r=15:=(by omega);refine⟨_,rfl,[.k 0],rfl,⟨_,rfl,?_⟩,tq⟩;show B.mx (Zv (o5 _ _ 6) (o7 1 key 15))=_;rw[cg]
theorem Lo {va:List Value} {key:Bs} (ha:va=bv key) (hk:key.length=24):a9 C 57 [.z 24 va] [] (.ret (.t [dQ 1 key 15,i64 0])) []:=by
 refine uU.c ?_;refine⟨[],_,_,_,_,tX,rfl,rfl,?_⟩;refine⟨[],_,_,_,_,Ll (va:=va) ha hk,rfl,rfl,?_⟩;exact⟨_,rfl,[],rfl,tq⟩
theorem Lm {va:List Value} {key:Bs} (ha:va=bv key) (hk:key.length=32):a9 C 113 [gC,.z 32 va] [] (.ret (.o 1 (.k 0) 0 17)) [.mx (o7 2 key 17)]:=by
 subst ha;have hW:∀k,(i7 2 key k).1.length=16:=fun k=>(C9 2 (by omega) (by omega) k).1;have hP:∀k,(i7 2 key k).2.length=16:=fun k=>(C9 2 (by omega) (by omega) k).2;have h6:=wO (key:=key) (by omega);have h7:=wP (key:=key) (m:=16) (k:=0) (by omega) rfl (by decide);refine uT.c ?_;refine⟨by decide,?_⟩;refine⟨by decide,by decide,by decide,by decide,?_⟩;refine⟨by rw[m8,i9,l4,hk];rfl,by decide,Zc _,?_⟩;refine⟨by decide,by omega,Zc _,Zc _,?_⟩;refine⟨by rw[m8,i9,l4,hk];rfl,by decide,Zc _,?_⟩;refine⟨by decide,by decide,by decide,?_,_,rfl,?_⟩
 ·show 0+16*1<=(sub (bv key) 16 16).length;rw[m8,i9,l4];omega
 refine⟨Zc _,?_⟩;refine⟨[],_,_,_,_,fq (i:=2) rfl (by decide),rfl,rfl,?_⟩;refine⟨[],_,_,_,_,dW (k:=1) (b:=(i7 2 key 0).1) (key:=aC 2) rfl h6 (g8 (G9 _ (by decide))) (hW 0) (G9 _ (by decide)) (by decide) (by decide),rfl,rfl,?_⟩;refine⟨[],_,_,_,_,H4 (a:=M8 1 (i7 2 key 0).1 (aC 2)) (b:=(i7 2 key 0).2) (g8 (D1 _ _ _)) h7 (D1 _ _ _) (hP 0) (by decide),rfl,rfl,?_⟩;refine⟨by decide,by decide,Zf rfl,?_⟩;refine⟨by decide,by decide,_,rfl,?_⟩;refine⟨[],_,_,_,_,fq (i:=3) rfl (by decide),rfl,rfl,?_⟩;refine⟨[],_,_,_,_,dW (k:=2) (b:=(i7 2 key 1).1) (key:=aC 0) rfl (g8 (hW 1)) (g8 (G9 _ (by decide))) (hW 1) (G9 _ (by decide)) (by decide) (by decide),rfl,rfl,?_⟩;refine⟨[],_,_,_,_,H4 (a:=M8 2 (i7 2 key 1).1 (aC 0)) (b:=(i7 2 key 1).2) (g8 (D1 _ _ _)) h6 (D1 _ _ _) (hP 1) (by decide),rfl,rfl,?_⟩;refine⟨by decide,by decide,Zf rfl,?_⟩;refine⟨by decide,by decide,_,rfl,?_⟩;refine⟨[],_,_,_,_,fq (i:=4) rfl (by decide),rfl,rfl,?_⟩;refine⟨[],_,_,_,_,dW (k:=1) (b:=(i7 2 key 2).1) (key:=aC 1) rfl (g8 (hW 2)) (g8 (G9 _ (by decide))) (hW 2) (G9 _ (by decide)) (by decide) (by decide),rfl,rfl,?_⟩;refine⟨by decide,by decide,_,rfl,?_⟩;refine⟨[],_,_,_,_,H4 (a:=M8 1 (i7 2 key 2).1 (aC 1)) (b:=(i7 2 key 2).2) (g8 (D1 _ _ _)) (g8 (hW 1)) (D1 _ _ _) (hP 2) (by decide),rfl,rfl,?_⟩;refine⟨by decide,by decide,Zf rfl,?_⟩;refine D6 (fun r=>⟨[(5,i64 2),(8,.p (.k 1) 0),(9,.o 1 (.k 0) 0 r),(10,.z 5 [.int .i64 (-19),.int .i64 (-31),.int .i64 61,.int .i64 31,.int .i64 19]),(11,i64 r)],[.mx (o7 2 key r),.mx [n8 (i7 2 key 0).1,n8 (i7 2 key 1).1,n8 (i7 2 key 2).1,n8 (i7 2 key 3).1]]⟩) 17 [(9,1,.mx [])] ⟨[.d 900000 0,.d 8 0],⟨rfl,rfl,rfl,rfl,rfl,tq⟩,⟨_,rfl,rfl⟩,⟨_,rfl,?_⟩,tq⟩ fun r hr=> ?_
 ·show B.mx [V.z 16 (sub _ 0 16),V.z 16 (sub (bv (i7 2 key 1).1) 0 16),V.z 16 (sub (bv (i7 2 key 2).1) 0 16),V.z 16 (sub (bv (i7 2 key 3).1) 0 16)]=_;rw[g8 (hW 1),g8 (hW 2),g8 (hW 3)];exact congrArg (fun z=>B.mx [V.z 16 z,n8 (i7 2 key 1).1,n8 (i7 2 key 2).1,n8 (i7 2 key 3).1]) h6
 have he:I6.wrap (I6.wrap (2*2)+13)=17:=by decide
 refine d9 (fun h=> ?_) (fun h=> ?_)
 ·rw[he]at h;have d8:r<17:=(by omega);have e1:((r:Int)).tmod 4=((r%4:Nat):Int):=by rw[Zg (by omega)];omega
  have e2:(I6.wrap ((r:Int)+1)).tmod 4=(((r+1)%4:Nat):Int):=by
   rw[Za _ (by omega),Zg (by omega)];omega
  have e3:I6.wrap (((r:Int)).tdiv 4)=((r/4:Nat):Int):=by
   rw[Zi (by omega),Za _ (by omega)];omega
  have m1:=Zr r (show 4>0 by decide);have m2:=Zr (r+1) (show 4>0 by decide);refine⟨by decide,by rw[e1];omega,by rw[e1];omega,?_⟩;refine⟨_,by rw[e1,Zb,Zd,Ze];exact N8 (f:=fun k=>n8 (i7 2 key k).1) rfl rfl rfl rfl m1,?_⟩;refine⟨by decide,by rw[e2];omega,by rw[e2];omega,?_⟩;refine⟨_,by rw[e2,Zb,Zd,Ze];exact N8 (f:=fun k=>n8 (i7 2 key k).1) rfl rfl rfl rfl m2,?_⟩;refine⟨by decide,by rw[e3];omega,by rw[e3];omega,?_⟩;refine⟨_,by rw[e3,Zb];exact sZ (by omega),?_⟩;refine⟨[],_,_,_,_,nj (b:=(i7 2 key ((r+1)%4)).1) (n:=W5 (r/4)) rfl (hW _) (by decide) (by decide) (jQ (by omega)),rfl,rfl,?_⟩;refine⟨[],_,_,_,_,H4 (a:=(i7 2 key (r%4)).1) (b:=L1 (i7 2 key ((r+1)%4)).1 (W5 (r/4)%128).toNat) rfl (g8 (by rw[H9,hW])) (hW _) (by rw[H9,hW]) (by decide),rfl,rfl,?_⟩;refine⟨Zc _,by omega,by rw[o7,Zq,co];omega,?_⟩;have hs0:sub (o7 2 key r) 0 (r*1)=o7 2 key r:=by rw[Zd,C2 (by rw[o7,Zq,co])]
  have hst:o7 2 key r++[V.z 16 (sub (bv (s6 2 key r)) 0 16)]=o7 2 key (r+1):=by
   rw[g8 (by rw[s6];exact B0 (hW _) (by rw[H9,hW])),o7,o7,jT,Zl];rfl
  refine⟨r+1,by omega,by omega,[.d 85 0,.k 1],⟨rfl,rfl,rfl,rfl,f6 (by simp(disch:=omega)only[Za];omega),tq⟩,⟨_,rfl,?_⟩,⟨_,rfl,rfl⟩,tq⟩;show B.mx (Zv (o5 _ _ 6) (sub (o7 2 key r) 0 (r*1)++[V.o _ _ _ _]))=_;rw[Zl,hs0,cg];exact congrArg B.mx hst
 ·rw[he]at h;obtain rfl:r=17:=(by omega);refine⟨_,rfl,[.k 0],rfl,⟨_,rfl,?_⟩,tq⟩;show B.mx (Zv (o5 _ _ 6) (o7 2 key 17))=_;rw[cg]
theorem Lp {va:List Value} {key:Bs} (ha:va=bv key) (hk:key.length=32):a9 C 57 [.z 32 va] [] (.ret (.t [dQ 2 key 17,i64 0])) []:=by
 refine uU.c ?_;refine⟨[],_,_,_,_,tX,rfl,rfl,?_⟩;refine⟨[],_,_,_,_,Lm (va:=va) ha hk,rfl,rfl,?_⟩;exact⟨_,rfl,[],rfl,tq⟩
theorem Lj {va:List Value} {b key:Bs} {q n:Nat} (h:bx q key n) (ha:va=bv b) (hb:b.length=16):a9 C 156 [dQ q key n,.z 16 va,bool false] [] (C0 16) [.sc (bv (dP q key n b))]:=by
 subst ha;have h3:=h.h3;have h4:=h.h4;have kl:=fh h;have h':=h;refine uS.c ?_;refine⟨_,rfl,?_⟩;refine m5 (fun i=>⟨[(0,dQ q key n),(1,n8 (S5 q key b i)),(8,i64 (n-2:Nat)),(10,i64 i)],[]⟩) (n-2) ⟨[],⟨rfl,rfl,f6 ?_,rfl,tq⟩,tq⟩ fun i hi=> ?_
 ·rw[Za _ (by omega)];omega
 have hel:=mU h hb i;refine d9 (fun h=> ?_) (fun h=> ?_)
 ·have d8:i<n-2:=(by omega);have e1:I6.wrap (1+(i:Int).tmod 2)=((1+i%2:Nat):Int):=by
   rw[Zg (by omega),Za _ (by omega)];omega
  refine⟨_,rfl,by decide,_,rfl,by omega,by omega,?_⟩;refine⟨_,by rw[Zb,Zd];exact cf (by omega),?_⟩;refine⟨[],_,_,_,_,dW (b:=S5 q key b i) (key:=s6 q key i) (k:=1+i%2) e1 rfl rfl hel (kl i) (by omega) (by omega),rfl,rfl,?_⟩;refine⟨i+1,by omega,by omega,[],⟨rfl,?_,rfl,f6 (by simp(disch:=omega)only[Za];omega),tq⟩,tq⟩;show V.z 16 (sub (bv (S5 q key b (i+1))) 0 16)=_;rw[g8 (mU h' hb _)]
 ·obtain rfl:i=n-2:=(by omega);have e0:I6.wrap (((n-2:Nat):Int)+1)=((n-1:Nat):Int):=by rw[Za _ (by omega)];omega
  refine⟨_,rfl,_,rfl,by omega,by omega,?_⟩;refine⟨_,by rw[Zb,Zd];exact cf (by omega),?_⟩;refine⟨[],_,_,_,_,H4 (a:=S5 q key b (n-2)) (b:=s6 q key (n-2)) rfl rfl hel (kl _) (by decide),rfl,rfl,?_⟩;have hx:=B0 hel (kl (n-2));refine⟨[],_,_,_,_,py (k:=2) (b:=j8 (S5 q key b (n-2)) (s6 q key (n-2))) rfl (g8 hx) hx (by decide) (by decide),rfl,rfl,?_⟩;refine⟨_,rfl,by rw[e0];omega,by rw[e0];omega,?_⟩;refine⟨_,by rw[e0,Zb,Zd];exact cf (by omega),?_⟩;have hl:=P9 2 (j8 (S5 q key b (n-2)) (s6 q key (n-2))) 16;refine⟨[],_,_,_,_,H4 (b:=s6 q key (n-1)) (g8 hl) rfl hl (kl _) (by decide),rfl,rfl,?_⟩;exact⟨_,rfl,[.d 113 0],rfl,⟨_,rfl,rfl⟩,tq⟩
theorem Li {va:List Value} {b key:Bs} {q n:Nat} (h:bx q key n) (ha:va=bv b) (hb:b.length=16):a9 C 156 [dQ q key n,.z 16 va,bool true] [] (C0 16) [.sc (bv (gy q key n b))]:=by
 subst ha;have h3:=h.h3;have h4:=h.h4;have kl:=fh h;have h':=h;have ea:I6.wrap ((n:Int)-2)=((n-2:Nat):Int):=by rw[Za _ (by omega)];omega
 have e0:I6.wrap (((n-2:Nat):Int)+1)=((n-1:Nat):Int):=by rw[Za _ (by omega)];omega
 refine uS.c ?_;refine⟨_,rfl,?_⟩;refine⟨_,rfl,by rw[ea,e0];omega,by rw[ea,e0];omega,?_⟩;refine⟨_,by rw[ea,e0,Zb,Zd];exact cf (by omega),?_⟩;refine⟨[],_,_,_,_,H4 (a:=b) (b:=s6 q key (n-1)) rfl rfl hb (kl _) (by decide),rfl,rfl,?_⟩;have hx:=B0 hb (kl (n-1));refine⟨_,rfl,?_⟩;refine⟨[],_,_,_,_,py (k:=1) (b:=j8 b (s6 q key (n-1))) rfl (g8 hx) hx (by decide) (by decide),rfl,rfl,?_⟩;refine⟨_,rfl,by rw[ea];omega,by rw[ea];omega,?_⟩;refine⟨_,by rw[ea,Zb,Zd];exact cf (by omega),?_⟩;have hl:=P9 1 (j8 b (s6 q key (n-1))) 16;refine⟨[],_,_,_,_,H4 (b:=s6 q key (n-2)) (g8 hl) rfl hl (kl _) (by decide),rfl,rfl,?_⟩;refine m5 (fun i=>⟨[(0,dQ q key n),(1,.o 1 (.k 0) 0 16),(9,i64 ((n:Int)-3-i))],[.sc (bv (P8 q key n b i))]⟩) (n-2) ⟨[.d 44 0],⟨rfl,rfl,f6 ?_,tq⟩,⟨_,rfl,rfl⟩,tq⟩ fun i hi=> ?_
 ·rw[ea,Za _ (by omega)];omega
 have hdl:=oU (b:=b) h i;refine d9 (fun h=> ?_) (fun h=> ?_)
 ·obtain⟨r,er,hrn,hri⟩:∃r:Nat,(n:Int)-3-i=r/\r<=n-3/\r=n-3-i:=⟨n-3-i,by omega,by omega,rfl⟩;have hst:P8 q key n b (i+1)=j8 (G1 (2-r%2) (H3 (P8 q key n b i)) 16) (s6 q key r):=by rw[hri];rfl
  rw[er];have e1:I6.wrap (2-(r:Int).tmod 2)=((2-r%2:Nat):Int):=by
   rw[Zg (by omega),Za _ (by omega)];omega
  refine⟨_,rfl,by decide,?_⟩;refine⟨[],_,_,_,_,zj (b:=P8 q key n b i) (g8 hdl) hdl,rfl,rfl,?_⟩;have hm:=sT (P8 q key n b i);refine⟨[],_,_,_,_,py (k:=2-r%2) (b:=H3 (P8 q key n b i)) e1 (g8 hm) hm (by omega) (by omega),rfl,rfl,?_⟩;refine⟨_,rfl,by omega,by omega,?_⟩;refine⟨_,by rw[Zb,Zd];exact cf (by omega),?_⟩;have hl:=P9 (2-r%2) (H3 (P8 q key n b i)) 16;refine⟨[],_,_,_,_,H4 (b:=s6 q key r) (g8 hl) rfl hl (kl _) (by decide),rfl,rfl,?_⟩;refine⟨i+1,by omega,by omega,[.d 68 0],⟨rfl,rfl,f6 ?_,tq⟩,⟨_,rfl,g9 (by rw[hst])⟩,tq⟩
  ·rw[Za _ (by omega)];omega
 ·obtain rfl:i=n-2:=(by omega);exact⟨_,rfl,[.k 0],rfl,⟨_,rfl,rfl⟩,tq⟩
theorem Lh {va:List Value} {key:Bs} {q n m:Nat} {back:Bool} (hn:m≠16):a9 C 156 [dQ q key n,.z m va,bool back] [] U2 []:=by
 refine uS.c ?_;refine n7 (fun h=> ?_) (fun h=>absurd (by omega) hn);exact⟨_,rfl,[],rfl,tq⟩
theorem yv:∀x:Nat,x<256->∀k:Nat,k<8->I6.wrap ((Zh I6.bits (I6.wrap (((x:Nat):Int).fdiv (2^(min ((k:Nat):Int).toNat U8.bits))))&&&Zh I6.bits 1).toNat:Int)=(((x.testBit k).toNat:Nat):Int):=by decide +kernel
theorem pn {va:List Value} {b:Bs} {l n:Nat} {x:Int} (hx:x=n) (ha:va=bv b) (hl:b.length=l) (hm:l<=1000000) (h1:1<=n) (h2:(n-1)/8<l):a9 C 233 [.z l va,i64 x] [] (.ret (i64 ((tb b (n-1)).toNat:Nat))) []:=by
 subst ha;subst hx;have e0:I6.wrap ((n:Int)-1)=((n-1:Nat):Int):=by rw[Za _ (by omega)];omega
 have e1:I6.wrap ((I6.wrap ((n:Int)-1)).tdiv 8)=(((n-1)/8:Nat):Int):=by
  rw[e0,Zi (by omega),Za _ (by omega)];omega
 have e2:I6.wrap (7-(I6.wrap ((n:Int)-1)).tmod 8)=((7-(n-1)%8:Nat):Int):=by
  rw[e0,Zg (by omega),Za _ (by omega)];omega
 refine Pg.c ?_;refine d9 (fun h=> ?_) (fun h=> ?_)
 ·omega
 refine⟨by decide,?_⟩;refine d9 (fun h=> ?_) (fun h=> ?_)
 ·rw[e1]at h;omega
 refine⟨by decide,by rw[e1];omega,by rw[e1];omega,?_⟩;refine⟨_,by rw[e1,Zb];exact p5 (by omega),?_⟩;refine⟨by decide,by rw[e2];omega,?_⟩;refine⟨_,rfl,[],f6 ?_,tq⟩;rw[e2];exact yv _ (UInt8.toNat_lt _) _ (by omega)
def E3 (t:List Nat) (b:Bs):Bs:=aE (t.length/8) fun j=>tb b (t.getD j 0-1)
theorem eQ (t b):(E3 t b).length=t.length/8:=fU _ _
def eR (t:List Nat) (b:Bs) (i:Nat) (j:Nat):Bool:=decide (j<i)&&tb b (t.getD j 0-1)
def Q7 (t:List Nat) (b:Bs) (i:Nat):Bs:=aE (t.length/8) (eR t b i)
theorem jz (t b i):(Q7 t b i).length=t.length/8:=fU _ _
theorem De (t b):Q7 t b 0=Zo (t.length/8) 0:=by
 apply Zw (by simp[Q7,aE]);intro j h1 h2;simp[Q7,aE,eR,dn]
theorem Dc (t b):Q7 t b t.length=E3 t b:=by
 apply Zu;intro q hq;have hq:=Z5.1 hq;show dn _=dn _;simp only[dn,eR];rw[decide_eq_true (by omega),decide_eq_true (by omega),decide_eq_true (by omega),decide_eq_true (by omega),decide_eq_true (by omega),decide_eq_true (by omega),decide_eq_true (by omega),decide_eq_true (by omega)];simp only[Bool.true_and]
theorem Xk:∀v:Bool,∀k,k<8->U8.wrap (I6.wrap (((v.toNat:Nat):Int)*2^(min ((k:Nat):Int).toNat I6.bits)))=(((Zp (v.toNat*2^k)).toNat:Nat):Int):=by decide +kernel
theorem GT:∀v:Bool,∀k,k<8->∀r,r<8->(Zp (v.toNat*2^k)).toNat.testBit r=(v&&decide (r=k)):=by decide +kernel
theorem Dd {t:List Nat} {b:Bs} {i:Nat} (h:i<t.length) (ht:t.length%8=0):
  (Q7 t b i).set (i/8) ((Q7 t b i).getD (i/8) 0|||Zp ((tb b (t.getD i 0-1)).toNat*2^(7-i%8)))=Q7 t b (i+1):=by
 have hq:i/8<t.length/8:=by omega
 apply Zw (by simp[jz]);intro q h1 h2;rw[Z2];have q6:q<t.length/8:=by rw[jz]at h2;exact h2
 split
 ·rename_i he;subst he;have hg:(Q7 t b i).getD (i/8) 0=dn fun r=>eR t b i (8*(i/8)+r):=by
   simp[Q7,aE,hq]
  have hg2:(Q7 t b (i+1))[i/8]=dn fun r=>eR t b (i+1) (8*(i/8)+r):=by
   simp[Q7,aE]
  rw[hg,hg2];apply xc;intro r hr;rw[UInt8.toNat_or,Nat.testBit_or,ng _ hr,ng _ hr,GT _ _ (by omega) _ (by omega)];simp only[eR];by_cases h3:8*(i/8)+r=i
  ·rw[h3,decide_eq_false (by omega),decide_eq_true (by omega),decide_eq_true (by omega)];simp
  ·rw[decide_eq_false (show ¬(7-r=7-i%8) by omega)];by_cases h4:8*(i/8)+r<i
   ·rw[decide_eq_true h4,decide_eq_true (by omega)];simp
   ·rw[decide_eq_false h4,decide_eq_false (by omega)];simp
 ·rename_i he;have hg:(Q7 t b i)[q]'(by rw[jz];exact q6)=dn fun r=>eR t b i (8*q+r):=by
   simp[Q7,aE]
  have hg2:(Q7 t b (i+1))[q]=dn fun r=>eR t b (i+1) (8*q+r):=by
   simp[Q7,aE]
  rw[hg,hg2];apply xc;intro r hr;rw[ng _ hr,ng _ hr];simp only[eR];congr 1;exact decide_eq_decide.2 (by omega)
theorem ni {va vt:List Value} {b:Bs} {t:List Nat} {l n:Nat} (ha:va=bv b) (hvt:vt=nv t) (hl:b.length=l) (ht:t.length=n) (hm:l<=1000000) (hn:n<=1000000) (h8:n%8=0) (hall:∀i,i<n->1<=t.getD i 0/\t.getD i 0<=8*l):a9 C 185 [.z l va,.z n vt] [] (.ret (.t [.o 1 (.k 0) 0 (n/8),bool true])) [.sc (bv (E3 t b))]:=by
 subst ha;subst hvt;subst ht;have e0:I6.wrap ((I6.wrap (I6.wrap ((t.length:Int)+8)-1)).tdiv 8)=((t.length/8:Nat):Int):=by
  rw[Za ((t.length:Int)+8) (by omega),Za ((t.length:Int)+8-1) (by omega),Zi (by omega),Za _ (by omega)];omega
 refine Pj.c ?_;refine⟨by decide,?_⟩;rw[e0];refine⟨by omega,by omega,by omega,?_⟩;refine m5 (fun i=>⟨[(0,.z l (bv b)),(1,.z t.length (nv t)),(6,.o 1 (.k 0) 0 (t.length/8)),(15,i64 t.length),(16,i64 i)],[.sc (bv (Q7 t b i))]⟩) t.length ⟨[.d 13 0],⟨rfl,rfl,rfl,rfl,rfl,tq⟩,⟨_,rfl,g9 ?_⟩,tq⟩ fun i hi=> ?_
 ·show Zo ((t.length/8:Nat):Int).toNat (Value.int .u8 0)=_;rw[Zb,De,T5]
 refine d9 (fun h=> ?_) (fun h=> ?_)
 ·have d8:i<t.length:=(by omega);obtain⟨g1,g2⟩:=hall i d8;refine⟨by omega,by omega,?_⟩;refine⟨_,by rw[Zb];exact X6 d8,?_⟩;refine d9 (fun h=> ?_) (fun h=> ?_)
  ·omega
  have e1:I6.wrap ((I6.wrap (((t.getD i 0:Nat):Int)-1)).tdiv 8)=(((t.getD i 0-1)/8:Nat):Int):=by
   rw[Za (((t.getD i 0:Nat):Int)-1) (by omega),Zi (by omega),Za _ (by omega)];omega
  have e2:I6.wrap ((i:Int).tdiv 8)=((i/8:Nat):Int):=by
   rw[Zi (by omega),Za _ (by omega)];omega
  have e3:I6.wrap (7-(i:Int).tmod 8)=((7-i%8:Nat):Int):=by
   rw[Zg (by omega),Za _ (by omega)];omega
  refine⟨by omega,by omega,?_⟩;refine⟨_,by rw[Zb];exact X6 d8,?_⟩;refine⟨by decide,?_⟩;refine d9 (fun h=> ?_) (fun h=> ?_)
  ·rw[e1]at h;omega
  refine⟨by decide,by rw[e2];omega,by rw[e2];omega,?_⟩;refine⟨_,by rw[e2,Zb,Zd,Ze];exact p5 (by rw[jz];omega),?_⟩;refine⟨by omega,by omega,?_⟩;refine⟨_,by rw[Zb];exact X6 d8,?_⟩;refine⟨[],_,_,_,_,pn (b:=b) rfl rfl hl hm g1 (by omega),rfl,rfl,?_⟩;refine⟨by decide,by rw[e3];omega,by rw[e2];omega,by rw[e2];omega,by rw[e2,i9,jz];omega,?_⟩;refine⟨i+1,by omega,by omega,[.k 0],⟨rfl,rfl,rfl,rfl,f6 (by simp(disch:=omega)only[Za];omega),tq⟩,⟨_,rfl,g9 ?_⟩,tq⟩;rw[e2,e3,Zb,Zd,Ze,Xk _ _ (by omega),sg,K6,Dd d8 (by omega)]
 ·obtain rfl:i=t.length:=(by omega);refine⟨_,rfl,[.k 0],rfl,⟨_,rfl,g9 ?_⟩,tq⟩;rw[Dc]
def A8 (s st bk:Int):Nat->Int
 |0=>s
 |k+1=>if A8 s st bk k-st<1 then A8 s st bk k-st+(st+bk)else A8 s st bk k-st
def E0 (s st bk:Int) (n:Nat):List Int:=(List.range n).map (A8 s st bk)
theorem pX (s st bk n):E0 s st bk (n+1)=E0 s st bk n++[A8 s st bk n]:=by simp[E0,Zn]
theorem eB (s st bk n):(E0 s st bk n).length=n:=by simp[E0]
def OQ (l:List Int) (n B8:Nat) (s st bk:Int) (i:Nat):D:=match i with
 |0=>⟨[(0,.o 1 (.k 0) 0 n),(2,i64 st),(3,i64 bk),(11,i64 s),(13,i64 B8),(14,i64 (0:Nat))],[.sc (iv l)]⟩
 |k+1=>⟨[(0,.o 1 (.k 1) 0 (n+(k+1))),(2,i64 st),(3,i64 bk),(11,i64 (A8 s st bk (k+1))),(13,i64 B8),(14,i64 (k+1:Nat))],[.dead,.sc (iv (l++E0 s st bk (k+1)))]⟩
theorem yV {l:List Int} {n B8:Nat} {s st bk:Int} (hl:l.length=n) (hn:n<=1000) (hc0:0<B8) (hc:B8<=1000) (hst:0<=st/\st<=1000) (hbk:0<=bk/\bk<=1000) (hx:∀k,k<=B8-> -10000<=A8 s st bk k/\A8 s st bk k<=10000):
  a9 C 232 [.o 1 (.k 0) 0 n,i64 s,i64 st,i64 bk,i64 B8] [.sc (iv l)] (.ret (.o 1 (.k 1) 0 (n+B8))) [.dead,.sc (iv (l++E0 s st bk B8))]:=by
 refine AG.c ?_;refine m5 (OQ l n B8 s st bk) B8 ⟨[.k 0],⟨rfl,rfl,rfl,rfl,rfl,rfl,tq⟩,⟨_,rfl,rfl⟩,tq⟩ fun i hi=> ?_;have w2:I6.wrap (st+bk)=st+bk:=Za _ (by omega);rcases i with _|i
 ·refine d9 (fun h=> ?_) (fun h=> ?_)
  ·have x0:=hx 0 (by omega);have y0:=hx 1 (by omega);change -10000<=s/\s<=10000 at x0;have w1:I6.wrap (s-st)=s-st:=Za _ (by omega);have hsub:sub (iv l) 0 (n*1)++[Value.int .i64 s]=iv (l++E0 s st bk (0+1)):=by
    rw[Zd,X0 hl,<-nU];rfl
   refine⟨Zc _,by omega,by rw[L6,hl];omega,?_⟩;refine d9 (fun h=> ?_) (fun h=> ?_)
   ·rw[w1]at h;refine⟨0+1,by omega,by omega,[.k 0,.d 19 0],⟨rfl,rfl,rfl,f6 ?_,rfl,rfl,tq⟩,⟨_,rfl,rfl⟩,⟨_,rfl,g9 hsub⟩,tq⟩;rw[w1,w2,Za _ (by omega)];show _=if s-st<1 then s-st+(st+bk)else s-st;rw[if_pos h]
   ·rw[w1]at h;refine⟨0+1,by omega,by omega,[.k 0,.d 19 0],⟨rfl,rfl,rfl,f6 ?_,rfl,rfl,tq⟩,⟨_,rfl,rfl⟩,⟨_,rfl,g9 hsub⟩,tq⟩;rw[w1];show _=if s-st<1 then s-st+(st+bk)else s-st;rw[if_neg h]
  ·omega
 ·have hll:(l++E0 s st bk (i+1)).length=n+(i+1):=by rw[Zm,eB,hl]
  refine d9 (fun h=> ?_) (fun h=> ?_)
  ·have d8:i+1<B8:=(by omega);have x0:=hx (i+1) (by omega);have hsub:sub (iv (l++E0 s st bk (i+1))) 0 ((n+(i+1))*1)++[Value.int .i64 (A8 s st bk (i+1))]=iv (l++E0 s st bk (i+1+1)):=by
    rw[Zd,X0 hll,pX s st bk (i+1)];show iv (l++E0 s st bk (i+1))++iv [A8 s st bk (i+1)]=_;rw[nU,List.append_assoc]
   have hd:A8 s st bk (i+1+1)=if A8 s st bk (i+1)-st<1 then A8 s st bk (i+1)-st+(st+bk)else A8 s st bk (i+1)-st:=rfl;have w1:I6.wrap (A8 s st bk (i+1)-st)=A8 s st bk (i+1)-st:=Za _ (by omega);refine⟨Zc _,by omega,by rw[L6,hll];omega,?_⟩;refine d9 (fun h=> ?_) (fun h=> ?_)
   ·rw[w1]at h;refine⟨i+1+1,by omega,by omega,[.k 0,.d 19 0],⟨rfl,rfl,rfl,f6 ?_,rfl,f6 (by simp(disch:=omega)only[Za];omega),tq⟩,⟨_,rfl,rfl⟩,⟨_,rfl,g9 hsub⟩,tq⟩;rw[w1,w2,Za _ (by omega),hd,if_pos h]
   ·rw[w1]at h;refine⟨i+1+1,by omega,by omega,[.k 0,.d 19 0],⟨rfl,rfl,rfl,f6 ?_,rfl,f6 (by simp(disch:=omega)only[Za];omega),tq⟩,⟨_,rfl,rfl⟩,⟨_,rfl,g9 hsub⟩,tq⟩;rw[w1,hd,if_neg h]
  ·obtain rfl:i+1=B8:=(by omega);exact⟨_,rfl,[.k 0,.k 1],rfl,⟨_,rfl,rfl⟩,⟨_,rfl,rfl⟩,tq⟩
theorem JF {B8:Nat} {s st bk:Int} (hc0:0<B8) (hc:B8<=1000) (hst:0<=st/\st<=1000) (hbk:0<=bk/\bk<=1000) (hx:∀k,k<=B8-> -10000<=A8 s st bk k/\A8 s st bk k<=10000):
  a9 C 232 [i6,i64 s,i64 st,i64 bk,i64 B8] [] (.ret (.o 1 (.k 0) 0 B8)) [.sc (iv (E0 s st bk B8))]:=by
 refine AG.c ?_;refine D6 (fun i=>⟨[(0,.o 1 (.k 0) 0 i),(2,i64 st),(3,i64 bk),(11,i64 (A8 s st bk i)),(13,i64 B8),(14,i64 i)],[.sc (iv (E0 s st bk i))]⟩) B8 [(0,1,.sc [])] ⟨[.d 900000 0],⟨rfl,rfl,rfl,rfl,rfl,rfl,tq⟩,⟨_,rfl,rfl⟩,tq⟩ fun i hi=> ?_;have w2:I6.wrap (st+bk)=st+bk:=Za _ (by omega);have hll:=eB s st bk i;refine d9 (fun h=> ?_) (fun h=> ?_)
 ·have d8:i<B8:=(by omega);have x0:=hx i (by omega);have hsub:sub (iv (E0 s st bk i)) 0 (i*1)++[Value.int .i64 (A8 s st bk i)]=iv (E0 s st bk (i+1)):=by
   rw[Zd,X0 hll,pX s st bk i];show iv (E0 s st bk i)++iv [A8 s st bk i]=_;rw[nU]
  have hd:A8 s st bk (i+1)=if A8 s st bk i-st<1 then A8 s st bk i-st+(st+bk)else A8 s st bk i-st:=rfl;have w1:I6.wrap (A8 s st bk i-st)=A8 s st bk i-st:=Za _ (by omega);refine⟨Zc _,by omega,by rw[L6,hll];omega,?_⟩;refine d9 (fun h=> ?_) (fun h=> ?_)
  ·rw[w1]at h;refine⟨i+1,by omega,by omega,[.d 19 0],⟨rfl,rfl,rfl,f6 ?_,rfl,f6 (by simp(disch:=omega)only[Za];omega),tq⟩,⟨_,rfl,g9 hsub⟩,tq⟩;rw[w1,w2,Za _ (by omega),hd,if_pos h]
  ·rw[w1]at h;refine⟨i+1,by omega,by omega,[.d 19 0],⟨rfl,rfl,rfl,f6 ?_,rfl,f6 (by simp(disch:=omega)only[Za];omega),tq⟩,⟨_,rfl,g9 hsub⟩,tq⟩;rw[w1,hd,if_neg h]
 ·obtain rfl:i=B8:=(by omega);exact⟨_,rfl,[.k 0],rfl,⟨_,rfl,rfl⟩,tq⟩
def nP:List Int:=[58,60,62,64,57,59,61,63]
def fF (i:Nat):List Int:=(List.range i).foldl (fun l j=>l++E0 (nP.getD j 0) 8 0 8) []
theorem Bm (i):fF (i+1)=fF i++E0 (nP.getD i 0) 8 0 8:=by simp[fF,Zn]
theorem Bl:∀i,(fF i).length=8*i
 |0=>rfl
 |i+1=>by rw[Bm,Zm,Bl i,eB];omega
theorem UY:∀i,i<8->∀k,k<=8-> -10000<=A8 (nP.getD i 0) 8 0 k/\A8 (nP.getD i 0) 8 0 k<=10000:=by decide +kernel
def z7:List Nat:=(fF 8).map Int.toNat
theorem BJ (t:List Nat):iv (t.map fun(x:Nat)=>(x:Int))=nv t:=by simp[iv,nv]
theorem a02:iv (fF 8)=nv z7:=by
 rw[<-BJ,show fF 8=z7.map fun(x:Nat)=>(x:Int) by decide +kernel]
theorem JK:a9 C 186 [] [] (.ret (.o 1 (.k 0) 0 64)) [.sc (nv z7)]:=by
 rw[<-a02];refine PJ.c ?_;refine D6 (fun i=>⟨[(1,.o 1 (.k 0) 0 (8*i)),(4,.z 8 (iv nP)),(5,i64 8),(6,i64 i)],[.sc (iv (fF i))]⟩) 8 [(1,1,.sc [])] ⟨[.d 900000 0],⟨rfl,rfl,rfl,rfl,tq⟩,⟨_,rfl,rfl⟩,tq⟩ fun i hi=> ?_;refine d9 (fun h=> ?_) (fun h=> ?_)
 ·have d8:i<8:=(by omega);refine⟨by omega,by omega,?_⟩;refine⟨_,by rw[Zb];exact vE d8,?_⟩;refine⟨[.k 0],_,_,_,_,yV (l:=fF i) (n:=8*i) (B8:=8) (Bl i) (by omega) (by decide) (by decide) (by decide) (by decide) (UY i d8),rfl,rfl,?_⟩;refine⟨i+1,by omega,by omega,[.d 12 1],⟨rfl,rfl,rfl,f6 (by simp(disch:=omega)only[Za];omega),tq⟩,⟨_,rfl,g9 ?_⟩,tq⟩;rw[Bm]
 ·obtain rfl:i=8:=(by omega);exact⟨_,rfl,[.k 0],rfl,⟨_,rfl,rfl⟩,tq⟩
def jF:List Nat:=[16,7,20,21,29,12,28,17,1,15,23,26,5,18,31,10,2,8,24,14,32,27,3,9,19,13,30,6,22,11,4,25]
theorem KV:a9 C 237 [] [] (.ret (.o 1 (.k 0) 0 32)) [.sc (nv jF)]:=
 PK.c ⟨_,rfl,[.d 1 0],rfl,⟨_,rfl,rfl⟩,tq⟩
def P6 (n:Nat):List Nat:=(List.range n).map fun i=>(4*(i/6)+i%6+31)%32+1
theorem FX (n):P6 (n+1)=P6 n++[(4*(n/6)+n%6+31)%32+1]:=by simp[P6,Zn]
theorem eZ (n):(P6 n).length=n:=by simp[P6]
theorem FY:∀i:Nat,i<48->I6.wrap ((I6.wrap (I6.wrap (I6.wrap (4*I6.wrap (((i:Nat):Int).tdiv 6))+((i:Nat):Int).tmod 6)+31)).tmod 32+1)=(((4*(i/6)+i%6+31)%32+1:Nat):Int):=by decide +kernel
theorem Nr:a9 C 234 [] [] (.ret (.o 1 (.k 0) 0 48)) [.sc (nv (P6 48))]:=by
 refine PN.c ?_;refine D6 (fun i=>⟨[(1,.o 1 (.k 0) 0 i),(3,i64 i)],[.sc (nv (P6 i))]⟩) 48 [(1,1,.sc [])] ⟨[.d 900000 0],⟨rfl,rfl,tq⟩,⟨_,rfl,rfl⟩,tq⟩ fun i hi=> ?_;refine d9 (fun h=> ?_) (fun h=> ?_)
 ·have d8:i<48:=(by omega);refine⟨by decide,by decide,by decide,?_⟩;refine⟨Zc _,by omega,by rw[K8,eZ];omega,?_⟩;refine⟨i+1,by omega,by omega,[.d 17 0],⟨rfl,f6 (by simp(disch:=omega)only[Za];omega),tq⟩,⟨_,rfl,g9 ?_⟩,tq⟩;rw[FY i d8,Zd];show sub (nv (P6 i)) 0 i++[Value.int .i64 (((4*(i/6)+i%6+31)%32+1:Nat):Int)]=_;rw[jv (eZ _),FX]
 ·obtain rfl:i=48:=(by omega);exact⟨_,rfl,[.k 0],rfl,⟨_,rfl,rfl⟩,tq⟩
def L3:List Int:=E0 57 8 57 28++E0 63 8 55 24++[28,20,12,4]
def cY:List Nat:=L3.map Int.toNat
def aK:List Nat:=[14,17,11,24,1,5,3,28,15,6,21,10,23,19,12,4,26,8,16,7,27,20,13,2,41,52,31,37,47,55,30,40,51,45,33,48,44,49,39,56,34,53,46,42,50,36,29,32]
theorem Ea:iv L3=nv cY:=by
 rw[<-BJ,show L3=cY.map fun(x:Nat)=>(x:Int) by decide +kernel]
theorem Ib:a9 C 183 [] [] (.ret (.t [.o 1 (.k 0) 0 56,.o 1 (.k 1) 0 48])) [.sc (nv cY),.sc (nv aK)]:=by
 rw[<-Ea];have d1:=JF (B8:=28) (s:=57) (st:=8) (bk:=57) (by decide) (by decide) (by decide) (by decide) (by decide +kernel);have d2:=yV (l:=E0 57 8 57 28) (n:=28) (B8:=24) (s:=63) (st:=8) (bk:=55) (eB _ _ _ _) (by decide) (by decide) (by decide) (by decide) (by decide) (by decide +kernel);refine PI.c ?_;refine⟨[],_,_,_,_,d1,rfl,rfl,?_⟩;refine⟨[.d 2 0],_,_,_,_,d2,rfl,rfl,?_⟩;refine⟨Zc _,by decide,by decide,?_⟩;refine⟨Zc _,by decide,Zc _,?_⟩;refine⟨_,rfl,[.d 6 0,.d 11 0],rfl,⟨_,rfl,g9 ?_⟩,⟨_,rfl,g9 ?_⟩,tq⟩
 ·show sub (iv (E0 57 8 57 28++E0 63 8 55 24)) 0 52++iv [28,20,12,4]=iv L3;rw[X0 (by rw[Zm,eB,eB]),nU];rfl
 ·rfl
def OB:List (List (Bs)):=[[[69,52,68,49,50,70,66,56,51,65,54,67,53,57,48,55],[48,70,55,52,69,50,68,49,65,54,67,66,57,53,51,56],[52,49,69,56,68,54,50,66,70,67,57,55,51,65,53,48],[70,67,56,50,52,57,49,55,53,66,51,69,65,48,54,68]],[[70,49,56,69,54,66,51,52,57,55,50,68,67,48,53,65],[51,68,52,55,70,50,56,69,67,48,49,65,54,57,66,53],[48,69,55,66,65,52,68,49,53,56,67,54,57,51,50,70],[68,56,65,49,51,70,52,50,66,54,55,67,48,53,69,57]],[[65,48,57,69,54,51,70,53,49,68,67,55,66,52,50,56],[68,55,48,57,51,52,54,65,50,56,53,69,67,66,70,49],[68,54,52,57,56,70,51,48,66,49,50,67,53,65,69,55],[49,65,68,48,54,57,56,55,52,70,69,51,66,53,50,67]],[[55,68,69,51,48,54,57,65,49,50,56,53,66,67,52,70],[68,56,66,53,54,70,48,51,52,55,50,67,49,65,69,57],[65,54,57,48,67,66,55,68,70,49,51,69,53,50,56,52],[51,70,48,54,65,49,68,56,57,52,53,66,67,55,50,69]],[[50,67,52,49,55,65,66,54,56,53,51,70,68,48,69,57],[69,66,50,67,52,55,68,49,53,48,70,65,51,57,56,54],[52,50,49,66,65,68,55,56,70,57,67,53,54,51,48,69],[66,56,67,55,49,69,50,68,54,70,48,57,65,52,53,51]],[[67,49,65,70,57,50,54,56,48,68,51,52,69,55,53,66],[65,70,52,50,55,67,57,53,54,49,68,69,48,66,51,56],[57,69,70,53,50,56,67,51,55,48,52,65,49,68,66,54],[52,51,50,67,57,53,70,65,66,69,49,55,54,48,56,68]],[[52,66,50,69,70,48,56,68,51,67,57,55,53,65,54,49],[68,48,66,55,52,57,49,65,69,51,53,67,50,70,56,54],[49,52,66,68,67,51,55,69,65,70,54,56,48,53,57,50],[54,66,68,56,49,52,65,55,57,53,48,70,69,50,51,67]],[[68,50,56,52,54,70,66,49,65,57,51,69,53,48,67,55],[49,70,68,56,65,51,55,52,67,53,54,66,48,69,57,50],[55,66,52,49,57,67,69,50,48,54,65,68,70,51,53,56],[50,49,69,55,52,65,56,68,70,67,57,48,51,53,54,66]]]
def Q6 (s r:Nat):Bs:=(OB.getD s []).getD r []
theorem uC:∀s,s<8->∀r,r<4->(Q6 s r).length=16/\∀j,j<16->eJ ((Q6 s r).getD j 48)=true:=by decide +kernel
theorem JG {x:Int} {c:UInt8} (hx:x=c.toNat) (h:eJ c=true):a9 C 235 [vi .u8 x] [] (.ret (vi .u8 (S8 c))) []:=by
 subst hx;have h':=of_decide_eq_true h;refine PM.c ?_;refine d9 (fun h1=> ?_) (fun h1=> ?_)
 ·refine⟨_,rfl,[],congrArg (vi .u8) ?_,tq⟩;simp only[wrap_u8,S8];split<;>omega
 ·refine⟨_,rfl,[],congrArg (vi .u8) ?_,tq⟩;simp only[wrap_u8,S8];split<;>omega
theorem gH {s r:Nat} (hr:r<4):([L0 (Q6 s 0),L0 (Q6 s 1),L0 (Q6 s 2),L0 (Q6 s 3)]:List V)[r]? =some (L0 (Q6 s r)):=N8 (f:=fun r=>L0 (Q6 s r)) rfl rfl rfl rfl hr
theorem JA {s r:Nat} (hs:s<8) (hr:r<4):a9 C 236 [i64 s,i64 r] [] (.ret (L0 (Q6 s r))) []:=by
 rcases s with _|_|_|_|_|_|_|_|s
 ·refine gO.c ?_;refine⟨by omega,by omega,?_⟩;refine⟨_,by rw[Zb,Zd];exact gH (s:=0) hr,?_⟩;exact⟨_,rfl,[],rfl,tq⟩
 ·refine gO.c ?_;refine⟨by omega,by omega,?_⟩;refine⟨_,by rw[Zb,Zd];exact gH (s:=1) hr,?_⟩;exact⟨_,rfl,[],rfl,tq⟩
 ·refine gO.c ?_;refine⟨by omega,by omega,?_⟩;refine⟨_,by rw[Zb,Zd];exact gH (s:=2) hr,?_⟩;exact⟨_,rfl,[],rfl,tq⟩
 ·refine gO.c ?_;refine⟨by omega,by omega,?_⟩;refine⟨_,by rw[Zb,Zd];exact gH (s:=3) hr,?_⟩;exact⟨_,rfl,[],rfl,tq⟩
 ·refine gO.c ?_;refine⟨by omega,by omega,?_⟩;refine⟨_,by rw[Zb,Zd];exact gH (s:=4) hr,?_⟩;exact⟨_,rfl,[],rfl,tq⟩
 ·refine gO.c ?_;refine⟨by omega,by omega,?_⟩;refine⟨_,by rw[Zb,Zd];exact gH (s:=5) hr,?_⟩;exact⟨_,rfl,[],rfl,tq⟩
 ·refine gO.c ?_;refine⟨by omega,by omega,?_⟩;refine⟨_,by rw[Zb,Zd];exact gH (s:=6) hr,?_⟩;exact⟨_,rfl,[],rfl,tq⟩
 ·refine gO.c ?_;refine⟨by omega,by omega,?_⟩;refine⟨_,by rw[Zb,Zd];exact gH (s:=7) hr,?_⟩;exact⟨_,rfl,[],rfl,tq⟩
 ·omega
def fA (x:Bs) (s:Nat):Nat:=2*(tb x (6*s)).toNat+(tb x (6*s+5)).toNat
def dr (x:Bs) (s:Nat):Nat->Nat
 |0=>0
 |k+1=>2*dr x s k+(tb x (6*s+1+k)).toNat
theorem bp (v:Bool):v.toNat<2:=by cases v<;>decide
theorem kJ (x s):fA x s<4:=by
 have:=bp (tb x (6*s));have:=bp (tb x (6*s+5));unfold fA;omega
theorem nr (x s):∀k,dr x s k<2^k
 |0=>by show 0<1;omega
 |k+1=>by
  have:=bp (tb x (6*s+1+k));have:=nr x s k;unfold dr;rw[Nat.pow_succ];omega
def dS (x:Bs) (s:Nat):Nat:=S8 ((Q6 s (fA x s)).getD (dr x s 4) 48)
theorem pS {x s} (hs:s<8):dS x s<16:=uE ((uC s hs _ (kJ x s)).2 _ (nr x s 4))
def M5 (x:Bs) (i:Nat):Bs:=(List.range 4).map fun q=>Zp ((if 2*q<i then 16*dS x (2*q)else 0)+(if 2*q+1<i then dS x (2*q+1)else 0))
theorem kI (x i):(M5 x i).length=4:=by simp[M5]
def dF (r k:Bs):Bs:=E3 jF (M5 (j8 (E3 (P6 48) r) k) 8)
theorem Xl:∀d,d<16->∀j,j<=1->U8.wrap (((d:Nat):Int)*2^(min ((4*j:Nat):Int).toNat U8.bits))=(((Zp (d*16^j)).toNat:Nat):Int):=by decide +kernel
theorem CV:∀a,a<16->∀d,d<16->(Zp 0|||Zp (d*16^1)=Zp (16*d))/\(Zp (16*a)|||Zp (d*16^0)=Zp (16*a+d)):=by decide +kernel
theorem Aq {x:Bs} {i:Nat} (hi:i<8):(M5 x i).set (i/2) ((M5 x i).getD (i/2) 0|||Zp (dS x i*16^(1-i%2)))=M5 x (i+1):=by
 have hd:=pS (x:=x) hi;apply Zw (by simp[M5]);intro q h1 h2;have hq:q<4:=by simpa [M5]using h2
 rw[Z2];split
 ·rename_i he;subst he;have g1:(M5 x i).getD (i/2) 0=Zp ((if 2*(i/2)<i then 16*dS x (2*(i/2))else 0)+(if 2*(i/2)+1<i then dS x (2*(i/2)+1)else 0)):=by simp[M5,hq]
  rw[g1];simp only[M5,Zz,Zy];by_cases h2:i%2=0
  ·rw[h2,if_neg (by omega),if_neg (by omega),if_pos (by omega),if_neg (by omega),show 2*(i/2)=i by omega];exact(CV 0 (by decide) _ hd).1
  ·rw[show i%2=1 by omega,if_pos (by omega),if_neg (by omega),if_pos (by omega),if_pos (by omega),show 2*(i/2)+1=i by omega];exact(CV _ (pS (by omega)) _ hd).2
 ·rename_i he;simp only[M5,Zz,Zy];have a1:(2*q<i)=(2*q<i+1):=by apply propext;omega
  have a2:(2*q+1<i)=(2*q+1<i+1):=by apply propext;omega
  simp only[a1,a2]
end Go.Scr
