/-
  What the functions of the given program reckon, each by a contract, up to the law. It is no claim by itself; each contract bears its own conditions.
-/
import Derived.Test.YtgbbedfpdpnneaaGreatDoorY
set_option linter.unusedVariables false
set_option linter.unusedSimpArgs false
set_option maxRecDepth 100000
namespace Go.Scr
open Go.Proofs
open IntWalk renaming i64_in → Za
open Int renaming toNat_natCast → Zb, tmod_eq_emod_of_nonneg → Zg, tdiv_eq_ediv_of_nonneg → Zi, fdiv_eq_ediv_of_nonneg → Zs
open Nat renaming le_refl → Zc, mul_one → Zd, zero_add → Ze, le_of_ble_eq_true → Zf, mod_lt → Zr, shiftRight_eq_div_pow → Zx, le_of_eq → Z3, add_comm → Z6
open BitVec renaming ofInt → Zh
open List renaming length_reverse → Zj, map_append → Zl, length_append → Zm, range_succ → Zn, replicate → Zo, length_map → Zq, length_replicate → Zt, map_congr_left → Zu, map → Zv, ext_getElem → Zw, getElem_range → Zy, getElem_map → Zz, reverse_append → Z0, getElem_set → Z2, take_of_length_le → Z4, mem_range → Z5
open UInt32 renaming ofNat → Zk, eq_of_toBitVec_eq → Z1
open UInt8 renaming ofNat → Zp
open Go.IntKind renaming i64 → I6, u8 → U8, u32 → U3
theorem c_bk {k:List Nat} {x:Q4} (hl:k.length=52) (hk:okK k) (hx:okQ x):Con C N.r7_back [qA x,.z 52 (nv k)] [] (.ret (qA (turnI (undI k) x))) []:=by
 rw[←bk_turn k hk x]
 obtain⟨o1,o2,o3,o4⟩:=hx
 have hi:=fun i=>invI_lt (hk i)
 refine fd.r7_back.c ?_
 refine⟨by decide,by decide,by decide,by decide,?_⟩
 have e48:sub (nv k) 48 4=nv (k.drop 48):=by rw[nv_sub,sub_end _ _ _ (by omega)]
 refine⟨by decide,by decide,_,rfl,by decide,by decide,?_⟩
 refine⟨_,by show(sub (nv k) 48 4)[0]? =_;rw[e48];exact drop_get (by omega),?_⟩
 refine⟨[],_,_,_,_,c_r7_inv rfl (hk _),rfl,rfl,?_⟩
 refine⟨[],_,_,_,_,c_r7_mul rfl rfl o1 (hi _),rfl,rfl,?_⟩
 refine⟨by decide,by decide,_,rfl,by decide,by decide,?_⟩
 refine⟨_,by show(sub (nv k) 48 4)[2]? =_;rw[e48];exact drop_get (by omega),?_⟩
 refine⟨[],_,_,_,_,c_r7_less rfl rfl o3 (hk _),rfl,rfl,?_⟩
 refine⟨by decide,by decide,_,rfl,by decide,by decide,?_⟩
 refine⟨_,by show(sub (nv k) 48 4)[1]? =_;rw[e48];exact drop_get (by omega),?_⟩
 refine⟨[],_,_,_,_,c_r7_less rfl rfl o2 (hk _),rfl,rfl,?_⟩
 refine⟨by decide,by decide,_,rfl,by decide,by decide,?_⟩
 refine⟨_,by show(sub (nv k) 48 4)[3]? =_;rw[e48];exact drop_get (by omega),?_⟩
 refine⟨[],_,_,_,_,c_r7_inv rfl (hk _),rfl,rfl,?_⟩
 refine⟨[],_,_,_,_,c_r7_mul rfl rfl o4 (hi _),rfl,rfl,?_⟩
 refine⟨Zc _,?_⟩
 refine loopN (fun r=>⟨[(1,.z 52 (nv k)),(2,.p (.k 0) 0),(4,.p (.k 1) 0),(6,i64 (7-r))],[.mx [i64 (bkN k x r).1,i64 (bkN k x r).2.1,i64 (bkN k x r).2.2.1,i64 (bkN k x r).2.2.2],.sc [.int .i64 0,.int .i64 0,.int .i64 0,.int .i64 0]]⟩) 8 ⟨[.d 2 0,.d 4 0],⟨rfl,rfl,rfl,rfl,trivial⟩,⟨_,rfl,rfl⟩,⟨_,rfl,rfl⟩,trivial⟩ fun r hr=> ?_
 obtain⟨p1,p2,p3,p4⟩:=bkN_ok k x r
 refine spl_d (fun h=> ?_) (fun h=> ?_)
 ·obtain⟨i,ei,hi7,hri⟩:∃i:Nat,(7:Int)-r=i∧i≤7∧i=7-r:=⟨7-r,by omega,by omega,by omega⟩
  have hbs:bkN k x (r+1)=bkL k (6*i) (bkM k (6*i) (bkN k x r)):=by rw[bkN_succ,bkR,hri]
  rw[ei]
  generalize hs:bkN k x r=s at p1 p2 p3 p4 hbs ⊢
  have e1:(I6.wrap (6*(i:Int))).toNat=6*i:=(by simp(disch:=omega)only[Za];omega)
  refine⟨(by simp(disch:=omega)only[Za];omega),by rw[e1];show 6*i≤52;omega,Zc _,Zc _,?_⟩
  rw[e1]
  have ed:sub (nv k) (6*i) (52-6*i)=nv (k.drop (6*i)):=by rw[nv_sub,sub_end _ _ _ (by omega)]
  refine⟨by decide,by decide,_,rfl,by decide,by decide,_,rfl,by decide,by decide,_,rfl,by decide,by decide,_,rfl,?_⟩
  refine⟨[],_,_,_,_,c_inner (k:=k) (o:=6*i) (n:=52-6*i) rfl rfl rfl rfl p1 p3 p2 p4 (by omega) (by omega) hk,?_,rfl,?_⟩
  ·show[_,_,_,_,V.z (52-6*i) (sub (nv k) (6*i) (52-6*i))]=_
   rw[ed];rfl
  have hg:maG k (6*i) s.1 s.2.2.1 s.2.1 s.2.2.2<65536:=mulI_lt _ _
  have hh:maH k (6*i) s.1 s.2.2.1 s.2.1 s.2.2.2<65536:=addI_lt _ _
  refine⟨by decide,by decide,_,rfl,by decide,by decide,_,rfl,by decide,by decide,_,rfl,by decide,by decide,_,rfl,?_⟩
  refine⟨by decide,by show((0:Int))<((52-6*i:Nat):Int);omega,?_⟩
  refine⟨_,by show(sub (nv k) (6*i) (52-6*i))[0]? =_;rw[ed];exact drop_get (by omega),?_⟩
  refine⟨[],_,_,_,_,c_r7_inv rfl (hk _),rfl,rfl,?_⟩
  refine⟨[],_,_,_,_,c_r7_mul (i64_nxor 16 (by decide) p1 hg) rfl (xor16 p1 hg) (hi _),rfl,rfl,?_⟩
  refine⟨by decide,by show((1:Int))<((52-6*i:Nat):Int);omega,?_⟩
  refine⟨_,by show(sub (nv k) (6*i) (52-6*i))[1]? =_;rw[ed];exact drop_get (by omega),?_⟩
  refine⟨[],_,_,_,_,c_r7_less (i64_nxor 16 (by decide) p3 hh) rfl (xor16 p3 hh) (hk _),rfl,rfl,?_⟩
  refine⟨by decide,by show((2:Int))<((52-6*i:Nat):Int);omega,?_⟩
  refine⟨_,by show(sub (nv k) (6*i) (52-6*i))[2]? =_;rw[ed];exact drop_get (by omega),?_⟩
  refine⟨[],_,_,_,_,c_r7_less (i64_nxor 16 (by decide) p2 hg) rfl (xor16 p2 hg) (hk _),rfl,rfl,?_⟩
  refine⟨by decide,by show((3:Int))<((52-6*i:Nat):Int);omega,?_⟩
  refine⟨_,by show(sub (nv k) (6*i) (52-6*i))[3]? =_;rw[ed];exact drop_get (by omega),?_⟩
  refine⟨[],_,_,_,_,c_r7_inv rfl (hk _),rfl,rfl,?_⟩
  refine⟨[],_,_,_,_,c_r7_mul (i64_nxor 16 (by decide) p4 hh) rfl (xor16 p4 hh) (hi _),rfl,rfl,?_⟩
  refine⟨Zc _,?_⟩
  refine⟨r+1,by omega,by omega,[.k 0,.k 1],⟨rfl,rfl,rfl,q7i ?_,trivial⟩,⟨_,rfl,?_⟩,⟨_,rfl,rfl⟩,trivial⟩
  ·rw[Za _ (by omega)];omega
  ·rw[hbs];rfl
 ·obtain rfl:r=8:=(by omega)
  refine⟨_,rfl,rfl,Zc _,_,rfl,rfl,?_⟩
  exact⟨_,rfl,[],rfl,trivial⟩
theorem turnB_zero (b:Bs):turnB b 0=b:=by
 apply tb_ext (turnB_len _ _)
 intro j hj
 rw[turnB_len]at hj
 unfold turnB
 rw[tb_pack hj,Nat.add_zero,Nat.mod_eq_of_lt hj]
def kAt (key:Bs) (j:Nat):Bs:=turnB key (25*j%128)
theorem kAt_len (key j):(kAt key j).length=key.length:=turnB_len _ _
theorem kAt_succ {key:Bs} (hk:key.length=16) (j:Nat):turnB (kAt key j) 25=kAt key (j+1):=by
 unfold kAt
 rw[turnB_turnB _ _ _ (by omega),hk]
 congr 1;omega
def kOut (key:Bs) (j:Nat):List Nat:=if j=7 then keysI key else keysN key j
theorem kOut_end {key:Bs} {j i:Nat} (hj:j<7) (hi:i=if j=6 then 4 else 8):keysN key j++loadI (kAt key j) i=kOut key (j+1):=by
 unfold kOut kAt
 by_cases h:j=6
 ·subst h
  rw[if_pos rfl]at hi ⊢
  subst hi
  unfold keysI
  rw[keysN_succ key 6,List.take_append,keysN_len,Z4 (by rw[keysN_len];decide)]
  congr 1
 ·rw[if_neg h]at hi
  subst hi
  rw[if_neg (by omega),keysN_succ]
theorem c_r7_keys {va:List Value} {key:Bs} (ha:va=bv key) (hk:key.length=16):Con C N.r7_Keys [.z 16 va] [] (.ret (.t [.o 1 (.k 0) 0 52,i64 0])) [.sc (nv (keysI key))]:=by
 subst ha
 refine fd.r7_Keys.c ?_
 refine loopNn (fun j=>⟨[(0,.z 16 (bv (kAt key j))),(4,.o 1 (.k 0) 0 (if j=7 then 52 else 8*j))],[.sc (nv (kOut key j))]⟩) 7 [(4,1,.sc [])] ⟨[.d 900000 0],⟨?_,rfl,trivial⟩,⟨_,rfl,rfl⟩,trivial⟩ fun j hj=> ?_
 ·show V.z 16 (bv key)=V.z 16 (bv (turnB key 0))
  rw[turnB_zero]
 refine spl_d (fun h=> ?_) (fun h=> ?_)
 ·have hlt:j<7:=by
   rcases Nat.lt_or_ge j 7 with h7|h7
   ·exact h7
   ·rw[if_pos (show j=7 by omega)]at h;exact absurd h (by decide)
  have hkl:(kAt key j).length=16:=by rw[kAt_len,hk]
  refine loopN (fun i=>⟨[(0,.z 16 (bv (kAt key j))),(4,.o 1 (.k 0) 0 (8*j+i)),(5,i64 (2*i:Nat))],[.sc (nv (keysN key j++loadI (kAt key j) i))]⟩) (if j=6 then 4 else 8) ⟨[.k 0],⟨rfl,?_,rfl,trivial⟩,⟨_,rfl,q7s ?_⟩,trivial⟩ fun i hi=> ?_
  ·show V.o 1 (.k 0) 0 _=V.o 1 (.k 0) 0 _
   rw[if_neg (by omega),Nat.add_zero]
  ·unfold kOut;rw[if_neg (by omega)];simp[loadI]
  have hi8:i≤8:=by split at hi<;>omega
  refine spl_d (fun h16=> ?_) (fun h16=> ?_)
  ·refine spl_d (fun h52=> ?_) (fun h52=> ?_)
   ·have hlt2:i<if j=6 then 4 else 8:=by split<;>omega
    have e1:(I6.wrap (((2*i:Nat):Int)+1)).toNat=2*i+1:=(by simp(disch:=omega)only[Za];omega)
    refine⟨by omega,by omega,?_⟩
    refine⟨_,by rw[Zb];exact bv_getD (i:=2*i) (by omega),?_⟩
    refine⟨by decide,by omega,by omega,?_⟩
    refine⟨_,by rw[e1];exact bv_getD (i:=2*i+1) (by omega),?_⟩
    refine⟨Zc _,by omega,by rw[nv_len,Zm,loadI_len,keysN_len];omega,?_⟩
    refine⟨i+1,by omega,by omega,[.d 36 0],⟨rfl,rfl,q7i (by simp(disch:=omega)only[Za];omega),trivial⟩,⟨_,rfl,q7s ?_⟩,trivial⟩
    rw[w16_go,loadI_succ,←List.append_assoc]
    exact nv_app1 (by rw[Zm,loadI_len,keysN_len];omega)
   ·have hi4:i=if j=6 then 4 else 8:=by split at hi<;>split<;>omega
    refine⟨[],_,_,_,_,c_r1_turn (b:=kAt key j) (n:=25) rfl hkl (by decide) (by decide) (by decide),rfl,rfl,?_⟩
    refine⟨j+1,by omega,by omega,[.k 0],⟨?_,?_,trivial⟩,⟨_,rfl,q7s ?_⟩,trivial⟩
    ·show V.z 16 (sub (bv (turnB (kAt key j) 25)) 0 16)=_
     rw[bv_all (by rw[turnB_len,hkl]),kAt_succ hk]
    ·show V.o 1 (.k 0) 0 _=V.o 1 (.k 0) 0 _
     congr 1
     split at hi4<;>split<;>omega
    ·rw[kOut_end hlt hi4]
  ·have hi4:i=if j=6 then 4 else 8:=by split at hi<;>split<;>omega
   refine⟨[],_,_,_,_,c_r1_turn (b:=kAt key j) (n:=25) rfl hkl (by decide) (by decide) (by decide),rfl,rfl,?_⟩
   refine⟨j+1,by omega,by omega,[.k 0],⟨?_,?_,trivial⟩,⟨_,rfl,q7s ?_⟩,trivial⟩
   ·show V.z 16 (sub (bv (turnB (kAt key j) 25)) 0 16)=_
    rw[bv_all (by rw[turnB_len,hkl]),kAt_succ hk]
   ·show V.o 1 (.k 0) 0 _=V.o 1 (.k 0) 0 _
    congr 1
    split at hi4<;>split<;>omega
   ·rw[kOut_end hlt hi4]
 ·have h7:j=7:=by
   rcases Nat.lt_or_ge j 7 with h7|h7
   ·rw[if_neg (by omega)]at h;omega
   ·omega
  subst h7
  exact⟨_,rfl,[.k 0],rfl,⟨_,rfl,rfl⟩,trivial⟩
abbrev rIdeaV (k:List Nat):V:= .q [nz k] 0
theorem c_r7_new {va:List Value} {key:Bs} (ha:va=bv key) (hk:key.length=16):Con C N.r7_New [.z 16 va] [] (.ret (.t [rIdeaV (keysI key),i64 0])) []:=by
 refine fd.r7_New.c ?_
 refine⟨[],_,_,_,_,c_r7_keys ha hk,rfl,rfl,?_⟩
 refine⟨_,rfl,[],?_,trivial⟩
 show V.t [.q [.z 52 (sub _ 0 52)] 0,i64 0]=V.t [.q [.z _ _] 0,i64 0]
 rw[nv_all (keysI_len key),keysI_len]
def ldC (b:Bs) (i:Nat):List Value:=nv ((List.range 4).map fun j=>if j<i then w16 b j else 0)
theorem ldC_step (b:Bs) {i:Nat} (hi:i<4):(ldC b i).set i (.int .i64 ((w16 b i:Nat):Int))=ldC b (i+1):=by
 rcases i with _|_|_|_|i
 all_goals first|rfl|omega
theorem c_r7_blk {va:List Value} {b:Bs} {k:List Nat} {back:Bool} (ha:va=bv b) (hb:b.length=8) (hl:k.length=52) (hk:okK k):Con C N.r7_Idea_Block [rIdeaV k,.z 8 va,bool back] [] (okBlk 8) [.sc (bv (putQ (turnI (if back then undI k else k) (ldQ b))))]:=by
 subst ha
 refine fd.r7_Idea_Block.c ?_
 have hq:okQ (ldQ b):=⟨w16_lt _ _,w16_lt _ _,w16_lt _ _,w16_lt _ _⟩
 have hz0:nz k= .z 52 (nv k):=by rw[←hl]
 refine loopN (fun i=>⟨[(0,rIdeaV k),(1,.z 8 (bv b)),(2,bool back),(8,.p (.k 0) 0),(9,i64 i)],[.sc (ldC b i)]⟩) 4 ⟨[.d 8 0],⟨rfl,rfl,rfl,rfl,rfl,trivial⟩,⟨_,rfl,rfl⟩,trivial⟩ fun i hi=> ?_
 refine spl_d (fun h=> ?_) (fun h=> ?_)
 ·have hlt:i<4:=(by omega)
  have e1:(I6.wrap (2*(i:Int))).toNat=2*i:=(by simp(disch:=omega)only[Za];omega)
  have e2:(I6.wrap (I6.wrap (2*(i:Int))+1)).toNat=2*i+1:=(by simp(disch:=omega)only[Za];omega)
  refine⟨(by simp(disch:=omega)only[Za];omega),by omega,?_⟩
  refine⟨_,by rw[e1];exact bv_getD (i:=2*i) (by omega),?_⟩
  refine⟨by decide,by omega,by omega,?_⟩
  refine⟨_,by rw[e2];exact bv_getD (i:=2*i+1) (by omega),?_⟩
  refine⟨by omega,by omega,by show 0+((i:Int)).toNat*1<4;omega,?_⟩
  refine⟨i+1,by omega,by omega,[.k 0],⟨rfl,rfl,rfl,rfl,q7i (by simp(disch:=omega)only[Za];omega),trivial⟩,⟨_,rfl,q7s ?_⟩,trivial⟩
  rw[w16_go,Zb,Zd,Ze]
  exact ldC_step b hlt
 obtain rfl:i=4:=(by omega)
 have fin:∀(y:Q4),okQ y→∀i,i<4→([i64 y.1,i64 y.2.1,i64 y.2.2.1,i64 y.2.2.2]:List V)[i]? =some (i64 (([y.1,y.2.1,y.2.2.1,y.2.2.2].getD i 0:Nat))):=by
  intro y _ i hi
  rcases i with _|_|_|_|i
  all_goals first|rfl|omega
 cases back
 ·refine⟨_,rfl,rfl,_,rfl,?_⟩
  refine⟨[],_,_,_,_,c_there (x:=ldQ b) hl hk hq,?_,rfl,?_⟩
  ·show[qA (ldQ b),nz k]=_
   rw[hz0]
  refine⟨Zc _,?_⟩
  generalize hy:turnI k (ldQ b)=y
  have yo:okQ y:=by rw[←hy];exact lay4_ok _ _ _
  refine loopNn (fun i=>⟨[(8,.p (.k 0) 0),(10,.o 1 (.k 1) 0 (2*i)),(11,i64 i)],[.mx [i64 y.1,i64 y.2.1,i64 y.2.2.1,i64 y.2.2.2],.sc (bv (putK y i))]⟩) 4 [(10,1,.sc [])] ⟨[.k 0,.d 900000 0],⟨rfl,rfl,rfl,trivial⟩,⟨_,rfl,rfl⟩,⟨_,rfl,rfl⟩,trivial⟩ fun i hi=> ?_
  refine spl_d (fun h=> ?_) (fun h=> ?_)
  ·have hlt:i<4:=(by omega)
   have hv:([y.1,y.2.1,y.2.2.1,y.2.2.2]).getD i 0<65536:=by
    obtain⟨a,b',c,d⟩:=yo
    rcases i with _|_|_|_|i
    all_goals first|assumption|omega
   refine⟨by omega,by omega,?_⟩
   refine⟨_,by rw[Zb,Zd,Ze];exact fin y yo i hlt,?_⟩
   refine⟨by decide,by omega,by omega,?_⟩
   refine⟨_,by rw[Zb,Zd,Ze];exact fin y yo i hlt,?_⟩
   refine⟨Zc _,by omega,by rw[bv_len,putK_len y i (by omega)];omega,?_⟩
   refine⟨i+1,by omega,by omega,[.k 0,.d 64 0],⟨rfl,rfl,q7i (by simp(disch:=omega)only[Za];omega),trivial⟩,⟨_,rfl,rfl⟩,⟨_,rfl,q7s ?_⟩,trivial⟩
   rw[Zd,bv_all (putK_len y i (by omega)),putK_succ y i hlt,←bv_app]
   show bv (putK y i)++[Value.int .u8 _,Value.int .u8 _]=_
   rw[putN_go hv]
  ·obtain rfl:i=4:=(by omega)
   refine⟨_,rfl,[.k 1],rfl,⟨_,rfl,q7s ?_⟩,trivial⟩
   show bv (putK y 4)=bv (putQ (turnI k (ldQ b)))
   rw[hy];rfl
 ·refine⟨_,rfl,rfl,_,rfl,?_⟩
  refine⟨[],_,_,_,_,c_bk (x:=ldQ b) hl hk hq,?_,rfl,?_⟩
  ·show[qA (ldQ b),nz k]=_
   rw[hz0]
  refine⟨Zc _,?_⟩
  generalize hy:turnI (undI k) (ldQ b)=y
  have yo:okQ y:=by rw[←hy];exact lay4_ok _ _ _
  refine loopNn (fun i=>⟨[(8,.p (.k 0) 0),(10,.o 1 (.k 1) 0 (2*i)),(11,i64 i)],[.mx [i64 y.1,i64 y.2.1,i64 y.2.2.1,i64 y.2.2.2],.sc (bv (putK y i))]⟩) 4 [(10,1,.sc [])] ⟨[.k 0,.d 900000 0],⟨rfl,rfl,rfl,trivial⟩,⟨_,rfl,rfl⟩,⟨_,rfl,rfl⟩,trivial⟩ fun i hi=> ?_
  refine spl_d (fun h=> ?_) (fun h=> ?_)
  ·have hlt:i<4:=(by omega)
   have hv:([y.1,y.2.1,y.2.2.1,y.2.2.2]).getD i 0<65536:=by
    obtain⟨a,b',c,d⟩:=yo
    rcases i with _|_|_|_|i
    all_goals first|assumption|omega
   refine⟨by omega,by omega,?_⟩
   refine⟨_,by rw[Zb,Zd,Ze];exact fin y yo i hlt,?_⟩
   refine⟨by decide,by omega,by omega,?_⟩
   refine⟨_,by rw[Zb,Zd,Ze];exact fin y yo i hlt,?_⟩
   refine⟨Zc _,by omega,by rw[bv_len,putK_len y i (by omega)];omega,?_⟩
   refine⟨i+1,by omega,by omega,[.k 0,.d 64 0],⟨rfl,rfl,q7i (by simp(disch:=omega)only[Za];omega),trivial⟩,⟨_,rfl,rfl⟩,⟨_,rfl,q7s ?_⟩,trivial⟩
   rw[Zd,bv_all (putK_len y i (by omega)),putK_succ y i hlt,←bv_app]
   show bv (putK y i)++[Value.int .u8 _,Value.int .u8 _]=_
   rw[putN_go hv]
  ·obtain rfl:i=4:=(by omega)
   refine⟨_,rfl,[.k 1],rfl,⟨_,rfl,q7s ?_⟩,trivial⟩
   show bv (putK y 4)=bv (putQ (turnI (undI k) (ldQ b)))
   rw[hy];rfl
theorem c_r7_bad {va:List Value} {k:List Nat} {n:Nat} {back:Bool} (hn:n≠8):Con C N.r7_Idea_Block [rIdeaV k,.z n va,bool back] [] badBlk []:=by
 refine fd.r7_Idea_Block.c ?_
 refine spl_ne (fun h=> ?_) (fun h=>absurd (by omega) hn)
 exact⟨_,rfl,[],rfl,trivial⟩
def qRows (w:Nat):List (Bs):=if w=0 then
  [[56,49,55,68,54,70,51,50,48,66,53,57,69,67,65,52],[69,67,66,56,49,50,51,53,70,52,65,54,55,48,57,68],[66,65,53,69,54,68,57,48,67,56,70,51,50,52,55,49],[68,55,70,52,49,50,54,69,57,66,51,48,56,53,67,65]]
 else [[50,56,66,68,70,55,54,69,51,49,57,52,48,65,67,53],[49,69,50,66,52,67,51,55,54,68,65,53,70,57,48,56],[52,67,55,53,49,54,57,65,48,69,68,56,50,66,51,70],[66,57,53,49,67,51,68,69,54,52,55,70,50,48,56,65]]
def qRow (w r:Nat):Bs:=(qRows w).getD r []
theorem qRow_ok:∀w,w<2→∀r,r<4→(qRow w r).length=16∧∀j,j<16→isDig ((qRow w r).getD j 48)=true:=by decide
def qf (a c:Nat):Nat:=a^^^(c/2|||8*c%16)^^^8*a%16
theorem qf_lt:∀a,a<16→∀c,c<16→qf a c<16∧a^^^c<16:=by decide
def qS (w i:Nat) (p:Nat×Nat):Nat×Nat:=(digN ((qRow w (2*i)).getD (p.1^^^p.2) 48),digN ((qRow w (2*i+1)).getD (qf p.1 p.2) 48))
def qSt (w:Nat) (x:UInt8):Nat→Nat×Nat
 |0=>(x.toNat/16,x.toNat%16)
 |i+1=>qS w i (qSt w x i)
def tQ (w:Nat) (x:UInt8):UInt8:=Zp (16*(qSt w x 2).2+(qSt w x 2).1)
theorem qS_lt {w i:Nat} (hw:w<2) (hi:i<2) {p:Nat×Nat} (h1:p.1<16) (h2:p.2<16):(qS w i p).1<16∧(qS w i p).2<16:=by
 obtain⟨f,e⟩:=qf_lt p.1 h1 p.2 h2
 exact⟨digN_lt ((qRow_ok w hw (2*i) (by omega)).2 _ e),digN_lt ((qRow_ok w hw (2*i+1) (by omega)).2 _ f)⟩
theorem qSt_lt {w:Nat} (hw:w<2) (x:UInt8):∀i,i≤2→(qSt w x i).1<16∧(qSt w x i).2<16
 |0,_=>by have:=x.toNat_lt;exact⟨by show x.toNat/16<16;omega,by show x.toNat%16<16;omega⟩
 |i+1,h=>by
  obtain⟨a,b⟩:=qSt_lt hw x i (by omega)
  exact qS_lt hw (by omega) a b
theorem c_tsign {x:Int} {c:UInt8} (hx:x=c.toNat) (h:isDig c=true):Con C N.twofish_sign [vi .u8 x] [] (.ret (vi .u8 (digN c))) []:=by
 subst hx
 have h':=of_decide_eq_true h
 refine fd.twofish_sign.c ?_
 refine spl_d (fun h1=> ?_) (fun h1=> ?_)
 ·refine⟨_,rfl,[],congrArg (vi .u8) ?_,trivial⟩
  simp only[wrap_u8,digN]
  split<;>omega
 ·refine⟨_,rfl,[],congrArg (vi .u8) ?_,trivial⟩
  simp only[wrap_u8,digN]
  split<;>omega
theorem c_trows {w:Nat} (hw:w<2):Con C N.twofish_rows [i64 w] [] (.ret (.a [str (qRow w 0),str (qRow w 1),str (qRow w 2),str (qRow w 3)])) []:=by
 rcases w with _|_|w
 ·refine fd.twofish_rows.c ?_
  exact⟨Zc _,_,rfl,rfl,_,rfl,[],rfl,trivial⟩
 ·refine fd.twofish_rows.c ?_
  exact⟨Zc _,_,rfl,rfl,_,rfl,[],rfl,trivial⟩
 ·omega
theorem q_e:∀a,a<16→∀c,c<16→U8.wrap ((Zh U8.bits ((a:Nat):Int)^^^Zh U8.bits ((c:Nat):Int)).toNat:Int)=((a^^^c:Nat):Int):=by decide +kernel
theorem q_f:∀a,a<16→∀c,c<16→U8.wrap ((Zh U8.bits (U8.wrap ((Zh U8.bits ((a:Nat):Int)^^^Zh U8.bits (U8.wrap ((Zh U8.bits (((c:Nat):Int).fdiv (2^(min (1:Int).toNat U8.bits)))|||Zh U8.bits (U8.wrap ((Zh U8.bits (U8.wrap (((c:Nat):Int)*2^(min (3:Int).toNat U8.bits)))&&&Zh U8.bits 15).toNat:Int))).toNat:Int))).toNat:Int))^^^Zh U8.bits (U8.wrap ((Zh U8.bits (U8.wrap (((a:Nat):Int)*2^(min (3:Int).toNat U8.bits)))&&&Zh U8.bits 15).toNat:Int))).toNat:Int)=((qf a c:Nat):Int):=by decide +kernel
theorem q_x:∀x:Nat,x<256→((x:Nat):Int).fdiv (2^(min (4:Int).toNat U8.bits))=((x/16:Nat):Int)∧U8.wrap ((Zh U8.bits ((x:Nat):Int)&&&Zh U8.bits 15).toNat:Int)=((x%16:Nat):Int):=by decide +kernel
theorem q_o:∀a,a<16→∀c,c<16→U8.wrap ((Zh U8.bits (U8.wrap (((c:Nat):Int)*2^(min (4:Int).toNat U8.bits)))|||Zh U8.bits ((a:Nat):Int)).toNat:Int)=(((Zp (16*c+a)).toNat:Nat):Int):=by decide +kernel
theorem qa_get {w i:Nat} (hi:i<4):([str (qRow w 0),str (qRow w 1),str (qRow w 2),str (qRow w 3)]:List V)[i]? =some (str (qRow w i)):=by
 rcases i with _|_|_|_|i
 all_goals first|rfl|omega
theorem c_tQ {w:Nat} {z:Int} {x:UInt8} (hw:w<2) (hz:z=x.toNat):Con C N.twofish_Q [i64 w,vi .u8 z] [] (.ret (u8 (tQ w x))) []:=by
 subst hz
 have hx:=x.toNat_lt
 refine fd.twofish_Q.c ?_
 refine⟨[],_,_,_,_,c_trows hw,rfl,rfl,?_⟩
 refine⟨Zc _,by decide,?_⟩
 obtain⟨x1,x2⟩:=q_x x.toNat hx
 refine loopN (fun i=>⟨[(5,.p (.k 0) 0),(6,vi .u8 ((qSt w x i).1:Nat)),(7,vi .u8 ((qSt w x i).2:Nat)),(8,i64 (2*i:Nat))],[.mx [str (qRow w 0),str (qRow w 1),str (qRow w 2),str (qRow w 3)]]⟩) 2 ⟨[.d 5 0],⟨rfl,congrArg (vi .u8) x1,congrArg (vi .u8) x2,rfl,trivial⟩,⟨_,rfl,rfl⟩,trivial⟩ fun i hi=> ?_
 obtain⟨s1,s2⟩:=qSt_lt hw x i hi
 have hsi:qSt w x (i+1)=qS w i (qSt w x i):=rfl
 generalize hp:qSt w x i=p at s1 s2 hsi ⊢
 refine spl_d (fun h=> ?_) (fun h=> ?_)
 ·have hlt:i<2:=(by omega)
  obtain⟨f1,f2⟩:=qf_lt p.1 s1 p.2 s2
  obtain⟨r1,r2⟩:=qRow_ok w hw (2*i) (by omega)
  obtain⟨r3,r4⟩:=qRow_ok w hw (2*i+1) (by omega)
  have ee:=q_e p.1 s1 p.2 s2
  have ef:=q_f p.1 s1 p.2 s2
  have e1:(I6.wrap (((2*i:Nat):Int)+1)).toNat=2*i+1:=(by simp(disch:=omega)only[Za];omega)
  refine⟨by decide,by decide,by decide,?_⟩
  refine⟨by omega,by omega,?_⟩
  refine⟨_,by rw[Zb,Zd,Ze];exact qa_get (by omega),?_⟩
  refine⟨by rw[ee];omega,?_,?_⟩
  ·rw[ee]
   show((p.1^^^p.2:Nat):Int)<(((qRow w (2*i)).toArray.size:Nat):Int)
   simp only[List.size_toArray,r1];omega
  refine⟨_,by rw[ee,Zb];exact str_get (by omega),?_⟩
  refine⟨[],_,_,_,_,c_tsign rfl (r2 _ f2),rfl,rfl,?_⟩
  refine⟨by omega,by omega,?_⟩
  refine⟨_,by rw[e1,Zd,Ze];exact qa_get (by omega),?_⟩
  refine⟨by rw[ef];omega,?_,?_⟩
  ·rw[ef]
   show((qf p.1 p.2:Nat):Int)<(((qRow w (2*i+1)).toArray.size:Nat):Int)
   simp only[List.size_toArray,r3];omega
  refine⟨_,by rw[ef,Zb];exact str_get (by omega),?_⟩
  refine⟨[],_,_,_,_,c_tsign rfl (r4 _ f1),rfl,rfl,?_⟩
  refine⟨i+1,by omega,by omega,[.k 0],⟨rfl,?_,?_,q7i (by simp(disch:=omega)only[Za];omega),trivial⟩,⟨_,rfl,rfl⟩,trivial⟩
  ·show vi .u8 _=vi .u8 _
   rw[hsi];rfl
  ·show vi .u8 _=vi .u8 _
   rw[hsi];rfl
 ·obtain rfl:i=2:=(by omega)
  refine⟨by decide,?_⟩
  refine⟨_,rfl,[],congrArg (vi .u8) ?_,trivial⟩
  rw[tQ,hp]
  exact q_o p.1 s1 p.2 s2
def tOrd (l:Nat):List Nat:=if l=4 then [1,0,0,1]else if l=3 then [1,1,0,0]else if l=2 then [0,1,0,1]else if l=1 then [0,0,1,1]else [1,0,1,0]
theorem c_torder {l:Nat} (hl:l≤4):Con C N.twofish_order [i64 l] [] (.ret (.a [i64 ((tOrd l).getD 0 0:Nat),i64 ((tOrd l).getD 1 0:Nat),i64 ((tOrd l).getD 2 0:Nat),i64 ((tOrd l).getD 3 0:Nat)])) []:=by
 rcases l with _|_|_|_|_|l
 ·exact fd.twofish_order.c ⟨Zc _,_,rfl,rfl,_,rfl,[],rfl,trivial⟩
 ·exact fd.twofish_order.c ⟨Zc _,_,rfl,rfl,_,rfl,[],rfl,trivial⟩
 ·exact fd.twofish_order.c ⟨Zc _,_,rfl,rfl,_,rfl,[],rfl,trivial⟩
 ·exact fd.twofish_order.c ⟨Zc _,_,rfl,rfl,_,rfl,[],rfl,trivial⟩
 ·exact fd.twofish_order.c ⟨Zc _,_,rfl,rfl,_,rfl,[],rfl,trivial⟩
 ·omega
def tMix (i:Nat):Bs:=if i=0 then [1,239,91,91]else if i=1 then [91,239,239,1]else if i=2 then [239,91,1,239]else [239,1,239,91]
theorem c_tmix:Con C N.twofish_mix [] [] (.ret (.a [u8 1,u8 239,u8 91,u8 91,u8 91,u8 239,u8 239,u8 1,u8 239,u8 91,u8 1,u8 239,u8 239,u8 1,u8 239,u8 91])) []:=
 fd.twofish_mix.c ⟨Zc _,_,rfl,rfl,_,rfl,[],rfl,trivial⟩
def stageP (o:List Nat) (y:Bs) (i:Nat):Bs:=(List.range 4).map fun p=>if p<i then tQ (o.getD p 0) (y.getD p 0)else y.getD p 0
def stage (o:List Nat) (y:Bs):Bs:=stageP o y 4
theorem stageP_len (o y i):(stageP o y i).length=4:=by simp[stageP]
theorem stage_len (o y):(stage o y).length=4:=stageP_len _ _ _
theorem four (y:Bs) (h:y.length=4):[y.getD 0 0,y.getD 1 0,y.getD 2 0,y.getD 3 0]=y:=by
 match y,h with
 |[a,b,c,d],_=>rfl
theorem stageP_zero {o y} (h:y.length=4):stageP o y 0=y:=by
 show[y.getD 0 0,y.getD 1 0,y.getD 2 0,y.getD 3 0]=y
 exact four y h
theorem stageP_step {o y i} (h:i<4):(stageP o y i).set i (tQ (o.getD i 0) (y.getD i 0))=stageP o y (i+1):=by
 rcases i with _|_|_|_|i
 all_goals first|rfl|omega
theorem stageP_get {o y i} (h:i<4):(stageP o y i)[i]? =some (y.getD i 0):=by
 rcases i with _|_|_|_|i
 all_goals first|rfl|omega
theorem bv_at {l:Bs} {j:Nat} {x:UInt8} (h:l[j]? =some x):(bv l)[j]? =some (.int .u8 x.toNat):=by simp[bv,h]
theorem tOrd_lt (l i:Nat) (hi:i<4):(tOrd l).getD i 0<2:=by
 unfold tOrd
 rcases i with _|_|_|_|i
 ·repeat' split
  all_goals decide
 ·repeat' split
  all_goals decide
 ·repeat' split
  all_goals decide
 ·repeat' split
  all_goals decide
 ·omega
theorem at4 {a b c d:V} {f:Nat→V} (h0:a=f 0) (h1:b=f 1) (h2:c=f 2) (h3:d=f 3) {i:Nat} (hi:i<4):([a,b,c,d]:List V)[i]? =some (f i):=by
 subst h0;subst h1;subst h2;subst h3
 rcases i with _|_|_|_|i
 all_goals first|rfl|omega
def hG (x:UInt32) (l:List UInt32) (n:Nat):Nat→Bs
 |0=>putL x
 |g+1=>xorL (stage (tOrd (n-g)) (hG x l n g)) (putL (l.getD (n-g-1) 0))
theorem hG_len (x l n):∀g,(hG x l n g).length=4
 |0=>putL_len x
 |g+1=>xorL_len (stage_len _ _) (putL_len _)
def accO (f:Nat→Nat→UInt8) (K i k:Nat):Bs:=(List.range 4).map fun p=>if p<i then f p K else if p=i then f p k else 0
theorem accO_len (f K i k):(accO f K i k).length=4:=by simp[accO]
theorem accO_get {f:Nat→Nat→UInt8} {K i k} (h:i<4):(accO f K i k)[i]? =some (f i k):=by
 rcases i with _|_|_|_|i
 all_goals first|rfl|omega
theorem accO_set {f:Nat→Nat→UInt8} {K i k} (h:i<4) {x:UInt8} (hx:x=f i (k+1)):(accO f K i k).set i x=accO f K i (k+1):=by
 subst hx
 rcases i with _|_|_|_|i
 all_goals first|rfl|omega
theorem accO_next {f:Nat→Nat→UInt8} {K i} (h0:∀p,f p 0=0) (h:i<4):accO f K i K=accO f K (i+1) 0:=by
 unfold accO
 apply Zu
 intro p hp
 have:=Z5.1 hp
 by_cases h1:p<i
 ·rw[if_pos h1,if_pos (by omega)]
 ·by_cases h2:p=i
  ·rw[if_neg h1,if_pos h2,if_pos (by omega)]
  ·rw[if_neg h1,if_neg h2,if_neg (by omega)]
   by_cases h3:p=i+1
   ·rw[if_pos h3,h0]
   ·rw[if_neg h3]
theorem accO_zero {f:Nat→Nat→UInt8} {K} (h0:∀p,f p 0=0):accO f K 0 0=[0,0,0,0]:=by
 show[f 0 0,0,0,0]=_
 rw[h0]
def mixB (m:Nat) (r:Nat→Bs) (y:Bs) (p k:Nat):UInt8:=(List.range k).foldl (fun s k=>s^^^fMul m ((r p).getD k 0) (y.getD k 0)) 0
theorem mixB_succ (m r y p k):mixB m r y p (k+1)=mixB m r y p k^^^fMul m ((r p).getD k 0) (y.getD k 0):=by simp[mixB,Zn]
def tH (x:UInt32) (l:List UInt32):UInt32:=leW (accO (mixB 361 tMix (stage (tOrd 0) (hG x l l.length l.length))) 4 4 0)
theorem c_tH {z:Int} {x:UInt32} {n:Nat} {va:List Value} {l:List UInt32} (hz:z=x.toNat) (ha:va=wv l) (hl:l.length=n) (h4:n≤4):Con C N.twofish_H [vi .u32 z,.z n va] [] (.ret (u32 (tH x l))) []:=by
 subst hz;subst ha
 refine fd.twofish_H.c ?_
 refine scopeN 0 rfl (n+1) (fun g=>⟨[(1,.z n (wv l)),(5,.o 1 (.k 0) 0 4),(6,i64 (n-g))],[.sc (bv (hG x l n g))]⟩) ?_ fun g hg=> ?_
 ·refine⟨[],_,_,_,_,c_putLe32 rfl,rfl,rfl,?_⟩
  refine⟨[],0,by omega,[.d 17 0],⟨rfl,rfl,?_,trivial⟩,⟨_,rfl,rfl⟩,trivial⟩
  show i64 (if (4:Int)<n then 4 else n)=i64 (n-(0:Nat))
  rw[if_neg (by omega)]
  congr 2
 obtain⟨r,er,hr4,hrg⟩:∃r:Nat,(n:Int)-g=r∧r≤4∧r=n-g:=⟨n-g,by omega,by omega,rfl⟩
 have hgs:hG x l n (g+1)=xorL (stage (tOrd r) (hG x l n g)) (putL (l.getD (r-1) 0)):=by rw[hrg];rfl
 have hyl:=hG_len x l n g
 rw[er]
 generalize hy:hG x l n g=y at hyl hgs ⊢
 refine⟨[],_,_,_,_,c_torder hr4,rfl,rfl,?_⟩
 refine loopN (fun i=>⟨[(1,.z n (wv l)),(5,.o 1 (.k 0) 0 4),(6,i64 r),(22,.a [i64 ((tOrd r).getD 0 0:Nat),i64 ((tOrd r).getD 1 0:Nat),i64 ((tOrd r).getD 2 0:Nat),i64 ((tOrd r).getD 3 0:Nat)]),(23,i64 i)],[.sc (bv (stageP (tOrd r) y i))]⟩) 4 ⟨[.k 0],⟨rfl,rfl,rfl,rfl,rfl,trivial⟩,⟨_,rfl,q7s (by rw[stageP_zero hyl])⟩,trivial⟩ fun i hi=> ?_
 refine spl_d (fun h=> ?_) (fun h=> ?_)
 ·have hlt:i<4:=(by omega)
  refine⟨by omega,by omega,?_⟩
  refine⟨_,by rw[Zb,Zd];exact at4 (f:=fun i=>i64 ((tOrd r).getD i 0:Nat)) rfl rfl rfl rfl hlt,?_⟩
  refine⟨by omega,by omega,?_⟩
  refine⟨_,by rw[Zb,Zd,Ze];exact bv_at (stageP_get hlt),?_⟩
  refine⟨[],_,_,_,_,c_tQ (tOrd_lt r i hlt) rfl,rfl,rfl,?_⟩
  refine⟨by omega,by omega,by rw[bv_len,stageP_len];omega,?_⟩
  refine⟨i+1,by omega,by omega,[.k 0],⟨rfl,rfl,rfl,rfl,q7i (by simp(disch:=omega)only[Za];omega),trivial⟩,⟨_,rfl,q7s ?_⟩,trivial⟩
  rw[Zb,Zd,Ze,bv_set,stageP_step hlt]
 obtain rfl:i=4:=(by omega)
 have hsl:(stageP (tOrd r) y 4).length=4:=stageP_len _ _ _
 refine spl_d (fun h=> ?_) (fun h=> ?_)
 ·have e1:(I6.wrap ((r:Int)-1)).toNat=r-1:=(by simp(disch:=omega)only[Za];omega)
  refine⟨(by simp(disch:=omega)only[Za];omega),by omega,?_⟩
  refine⟨_,by rw[e1];exact wv_getD (i:=r-1) (by omega),?_⟩
  refine⟨[],_,_,_,_,c_putLe32 rfl,rfl,rfl,?_⟩
  refine⟨[],_,_,_,_,c_xor (n:=4) (a:=stage (tOrd r) y) (b:=putL (l.getD (r-1) 0)) (bv_all (stage_len _ _)) (bv_all (putL_len _)) (stage_len _ _) (putL_len _) (by decide),rfl,rfl,?_⟩
  refine⟨rfl,g+1,by omega,by omega,[.d 48 0],⟨rfl,rfl,q7i ?_,trivial⟩,⟨_,rfl,q7s (by rw[hgs])⟩,trivial⟩
  rw[Za _ (by omega)];omega
 ·obtain rfl:r=0:=(by omega)
  have hgn:g=n:=(by omega)
  have hm0:∀p,mixB 361 tMix (stage (tOrd 0) y) p 0=0:=fun _=>rfl
  refine⟨by decide,by decide,by decide,?_⟩
  refine⟨[],_,_,_,_,c_tmix,rfl,rfl,?_⟩
  generalize hst:stageP (tOrd 0) y 4=s at hsl ⊢
  have hs':stage (tOrd 0) y=s:=hst
  rw[hs']at hm0
  refine loopN (fun i=>⟨[(5,.o 1 (.k 0) 0 4),(9,.o 1 (.k 1) 0 4),(52,.a [u8 1,u8 239,u8 91,u8 91,u8 91,u8 239,u8 239,u8 1,u8 239,u8 91,u8 1,u8 239,u8 239,u8 1,u8 239,u8 91]),(53,i64 i)],[.sc (bv s),.sc (bv (accO (mixB 361 tMix s) 4 i 0))]⟩) 4 ⟨[.k 0,.d 51 0],⟨rfl,rfl,rfl,rfl,trivial⟩,⟨_,rfl,rfl⟩,⟨_,rfl,q7s (by rw[accO_zero hm0];rfl)⟩,trivial⟩ fun i hi=> ?_
  refine spl_d (fun h=> ?_) (fun h=> ?_)
  ·have hlt:i<4:=(by omega)
   refine⟨by omega,by omega,?_⟩
   refine⟨[u8 ((tMix i).getD 0 0),u8 ((tMix i).getD 1 0),u8 ((tMix i).getD 2 0),u8 ((tMix i).getD 3 0)],?_,rfl,?_⟩
   ·rw[Zb]
    rcases i with _|_|_|_|i
    all_goals first|rfl|omega
   refine⟨Zc _,?_⟩
   refine⟨_,rfl,rfl,?_⟩
   refine loopN (fun k=>⟨[(5,.o 1 (.k 0) 0 4),(9,.o 1 (.k 1) 0 4),(10,i64 i),(52,.a [u8 1,u8 239,u8 91,u8 91,u8 91,u8 239,u8 239,u8 1,u8 239,u8 91,u8 1,u8 239,u8 239,u8 1,u8 239,u8 91]),(53,i64 i),(57,.a [u8 ((tMix i).getD 0 0),u8 ((tMix i).getD 1 0),u8 ((tMix i).getD 2 0),u8 ((tMix i).getD 3 0)]),(58,i64 k)],[.sc (bv s),.sc (bv (accO (mixB 361 tMix s) 4 i k))]⟩) 4 ⟨[.k 0,.k 1],⟨rfl,rfl,rfl,rfl,rfl,rfl,rfl,trivial⟩,⟨_,rfl,rfl⟩,⟨_,rfl,rfl⟩,trivial⟩ fun k hk=> ?_
   refine spl_d (fun h=> ?_) (fun h=> ?_)
   ·have hkl:k<4:=(by omega)
    refine⟨by omega,by omega,?_⟩
    refine⟨_,by rw[Zb,Zd];exact at4 (f:=fun k=>u8 ((tMix i).getD k 0)) rfl rfl rfl rfl hkl,?_⟩
    refine⟨by omega,by omega,?_⟩
    refine⟨_,by rw[Zb,Zd,Ze];exact bv_at (accO_get hlt),?_⟩
    refine⟨by omega,by omega,?_⟩
    refine⟨_,by rw[Zb,Zd,Ze];exact bv_getD (i:=k) (by omega),?_⟩
    refine⟨[],_,_,_,_,c_fmul (m:=361) rfl rfl (by decide) (by decide),rfl,rfl,?_⟩
    refine⟨by omega,by omega,by rw[bv_len,accO_len];omega,?_⟩
    refine⟨k+1,by omega,by omega,[.k 0,.k 1],⟨rfl,rfl,rfl,rfl,rfl,rfl,q7i (by simp(disch:=omega)only[Za];omega),trivial⟩,⟨_,rfl,rfl⟩,⟨_,rfl,q7s ?_⟩,trivial⟩
    rw[Zb,Zd,Ze,u8_xor,bv_set,accO_set hlt (mixB_succ _ _ _ _ _).symm]
   ·obtain rfl:k=4:=(by omega)
    refine⟨i+1,by omega,by omega,[.k 0,.k 1],⟨rfl,rfl,rfl,q7i (by simp(disch:=omega)only[Za];omega),trivial⟩,⟨_,rfl,rfl⟩,⟨_,rfl,q7s ?_⟩,trivial⟩
    rw[accO_next hm0 hlt]
  ·obtain rfl:i=4:=(by omega)
   refine⟨[],_,_,_,_,c_le32 (l:=accO (mixB 361 tMix s) 4 4 0) (bv_all (accO_len _ _ _ _)) (accO_len _ _ _ _) rfl,rfl,rfl,?_⟩
   refine⟨_,rfl,[],?_,trivial⟩
   show u32 (leW (accO (mixB 361 tMix s) 4 4 0))=u32 (tH x l)
   have hyn:hG x l n n=y:=by rw[←hy,hgn]
   rw[tH,hl,hyn,hs']
def fR (i:Nat):Bs:=if i=0 then [1,164,85,135,90,88,219,158]else if i=1 then [164,86,130,243,30,198,104,229]else if i=2 then [2,161,252,193,71,174,61,25]else [164,85,135,90,88,219,158,3]
def fold8 (m:Bs):UInt32:=leW (accO (mixB 333 fR m) 8 4 0)
theorem fR_len (i:Nat) (h:i<4):(fR i).length=8:=by
 rcases i with _|_|_|_|i
 all_goals first|rfl|omega
theorem c_folded {va:List Value} {m:Bs} (ha:va=bv m) (hm:m.length=8):Con C N.twofish_folded [.z 8 va] [] (.ret (u32 (fold8 m))) []:=by
 subst ha
 have hm0:∀p,mixB 333 fR m p 0=0:=fun _=>rfl
 refine fd.twofish_folded.c ?_
 refine⟨by decide,by decide,by decide,?_⟩
 refine loopN (fun i=>⟨[(0,.z 8 (bv m)),(3,.o 1 (.k 0) 0 4),(15,.a [.z 8 (bv (fR 0)),.z 8 (bv (fR 1)),.z 8 (bv (fR 2)),.z 8 (bv (fR 3))]),(16,i64 i)],[.sc (bv (accO (mixB 333 fR m) 8 i 0))]⟩) 4 ⟨[.d 10 0],⟨rfl,rfl,rfl,rfl,trivial⟩,⟨_,rfl,q7s (by rw[accO_zero hm0];rfl)⟩,trivial⟩ fun i hi=> ?_
 refine spl_d (fun h=> ?_) (fun h=> ?_)
 ·have hlt:i<4:=(by omega)
  have hfl:=fR_len i hlt
  refine⟨by omega,by omega,?_⟩
  refine⟨_,by rw[Zb,Zd];exact at4 (f:=fun i=> .z 8 (bv (fR i))) rfl rfl rfl rfl hlt,?_⟩
  refine loopN (fun k=>⟨[(0,.z 8 (bv m)),(3,.o 1 (.k 0) 0 4),(4,i64 i),(15,.a [.z 8 (bv (fR 0)),.z 8 (bv (fR 1)),.z 8 (bv (fR 2)),.z 8 (bv (fR 3))]),(16,i64 i),(20,.z 8 (bv (fR i))),(21,i64 8),(22,i64 k)],[.sc (bv (accO (mixB 333 fR m) 8 i k))]⟩) 8 ⟨[.k 0],⟨rfl,rfl,rfl,rfl,rfl,rfl,rfl,rfl,trivial⟩,⟨_,rfl,rfl⟩,trivial⟩ fun k hk=> ?_
  refine spl_d (fun h=> ?_) (fun h=> ?_)
  ·have hkl:k<8:=(by omega)
   refine⟨by omega,by omega,?_⟩
   refine⟨_,by rw[Zb];exact bv_getD (by omega),?_⟩
   refine⟨by omega,by omega,?_⟩
   refine⟨_,by rw[Zb,Zd,Ze];exact bv_at (accO_get hlt),?_⟩
   refine⟨by omega,by omega,?_⟩
   refine⟨_,by rw[Zb];exact bv_getD (by omega),?_⟩
   refine⟨[],_,_,_,_,c_fmul (m:=333) rfl rfl (by decide) (by decide),rfl,rfl,?_⟩
   refine⟨by omega,by omega,by rw[bv_len,accO_len];omega,?_⟩
   refine⟨k+1,by omega,by omega,[.k 0],⟨rfl,rfl,rfl,rfl,rfl,rfl,rfl,q7i (by simp(disch:=omega)only[Za];omega),trivial⟩,⟨_,rfl,q7s ?_⟩,trivial⟩
   rw[Zb,Zd,Ze,u8_xor,bv_set,accO_set hlt (mixB_succ _ _ _ _ _).symm]
  ·obtain rfl:k=8:=(by omega)
   refine⟨i+1,by omega,by omega,[.k 0],⟨rfl,rfl,rfl,q7i (by simp(disch:=omega)only[Za];omega),trivial⟩,⟨_,rfl,q7s ?_⟩,trivial⟩
   rw[accO_next hm0 hlt]
 ·obtain rfl:i=4:=(by omega)
  refine⟨[],_,_,_,_,c_le32 (l:=accO (mixB 333 fR m) 8 4 0) (bv_all (accO_len _ _ _ _)) (accO_len _ _ _ _) rfl,rfl,rfl,?_⟩
  exact⟨_,rfl,[],rfl,trivial⟩
def tEv (key:Bs) (n:Nat):List UInt32:=(List.range n).map fun i=>leW (sub key (8*i) 4)
def tOd (key:Bs) (n:Nat):List UInt32:=(List.range n).map fun i=>leW (sub key (8*i+4) 4)
def tFo (key:Bs) (n:Nat):List UInt32:=(List.range n).map fun i=>fold8 (sub key (8*i) 8)
theorem tEv_succ (key n):tEv key (n+1)=tEv key n++[leW (sub key (8*n) 4)]:=by simp[tEv,Zn]
theorem tOd_succ (key n):tOd key (n+1)=tOd key n++[leW (sub key (8*n+4) 4)]:=by simp[tOd,Zn]
theorem tFo_succ (key n):tFo key (n+1)=tFo key n++[fold8 (sub key (8*n) 8)]:=by simp[tFo,Zn]
theorem tEv_len (key n):(tEv key n).length=n:=by simp[tEv]
theorem tOd_len (key n):(tOd key n).length=n:=by simp[tOd]
theorem tFo_len (key n):(tFo key n).length=n:=by simp[tFo]
def tonesW:UInt32:=16843009
def kWa (ev:List UInt32) (r:Nat):UInt32:=tH (2*Zk r*tonesW) ev
def kWc (od:List UInt32) (r:Nat):UInt32:=rol (tH ((2*Zk r+1)*tonesW) od) 8
def kW (ev od:List UInt32) (r:Nat):List UInt32:=[kWa ev r+kWc od r,rol (kWa ev r+2*kWc od r) 9]
def kNw (ev od:List UInt32) (n:Nat):List UInt32:=((List.range n).map (kW ev od)).flatten
theorem kNw_succ (ev od n):kNw ev od (n+1)=kNw ev od n++kW ev od n:=by simp[kNw,Zn]
theorem kNw_len (ev od):∀n,(kNw ev od n).length=2*n
 |0=>rfl
 |n+1=>by rw[kNw_succ,Zm,kNw_len ev od n];show 2*n+2=_;omega
def tK (key:Bs):List UInt32:=kNw (tEv key (key.length/8)) (tOd key (key.length/8)) 20
def tS (key:Bs):List UInt32:=(tFo key (key.length/8)).reverse
theorem tK_len (key):(tK key).length=40:=kNw_len _ _ _
theorem tS_len {key:Bs} {n:Nat} (h:key.length=8*n):(tS key).length=n:=by
 rw[tS,Zj,tFo_len,h];omega
theorem ofNat_succ32 (r:Nat):Zk r+1=Zk (r+1):=by
 rw[UInt32.ofNat_add];rfl
theorem c_tkeys {n m:Nat} {va:List Value} {key:Bs} (ha:va=bv key) (hk:key.length=m) (hm:m=8*n) (hn:2≤n∧n≤4):
  Con C N.twofish_Keys [.z m va] [] (.ret (.t [.o 1 (.k 0) 0 40,.o 1 (.k 1) 0 n,i64 0])) [.sc (wv (tK key)),.sc (wv (tS key))]:=by
 subst ha;subst hm
 have hdiv:key.length/8=n:=by omega
 have hK:tK key=kNw (tEv key n) (tOd key n) 20:=by rw[tK,hdiv]
 have hS:tS key=(tFo key n).reverse:=by rw[tS,hdiv]
 rw[hK,hS]
 refine fd.twofish_Keys.c ?_
 refine scopeN 0 rfl 20 (fun r=>⟨[(2,.o 1 (.k 0) 0 (2*r)),(3,.z n (wv (tFo key n).reverse)),(5,.z n (wv (tEv key n))),(6,.z n (wv (tOd key n))),(12,u32 (Zk r))],[.sc (wv (kNw (tEv key n) (tOd key n) r))]⟩) ?_ fun r hr=> ?_
 ·by_cases h2:n=2
  ·refine spl_f (by rw[h2];rfl) ?_
   refine loopNn (fun i=>⟨[(2,nilv),(3,.o 1 (.k 2) 0 i),(5,.o 1 (.k 0) 0 i),(6,.o 1 (.k 1) 0 i),(7,.z (8*(n-i)) (bv (key.drop (8*i))))],[.sc (wv (tEv key i)),.sc (wv (tOd key i)),.sc (wv (tFo key i))]⟩) n [(5,1,.sc []),(6,1,.sc []),(3,1,.sc [])] ⟨[.d 900000 0,.d 900000 1,.d 900000 2],⟨rfl,rfl,rfl,rfl,rfl,trivial⟩,⟨_,rfl,rfl⟩,⟨_,rfl,rfl⟩,⟨_,rfl,rfl⟩,trivial⟩ fun i hi=> ?_
   refine spl_d (fun h=> ?_) (fun h=> ?_)
   ·have hlt:i<n:=(by omega)
    have s4:sub (bv (key.drop (8*i))) 0 4=bv (sub key (8*i) 4):=by rw[bv_sub,sub_drop];rfl
    have s5:sub (bv (key.drop (8*i))) 4 4=bv (sub key (8*i+4) 4):=by rw[bv_sub,sub_drop]
    have s8:sub (bv (key.drop (8*i))) 0 8=bv (sub key (8*i) 8):=by rw[bv_sub,sub_drop];rfl
    refine⟨by decide,by decide,Zc _,by show 4≤8*(n-i);omega,?_⟩
    refine⟨[],_,_,_,_,c_le32 (l:=sub key (8*i) 4) s4 (by rw[sub_length];omega) rfl,rfl,rfl,?_⟩
    refine⟨by decide,by decide,by decide,Zc _,by show 8≤8*(n-i);omega,?_⟩
    refine⟨[],_,_,_,_,c_le32 (l:=sub key (8*i+4) 4) s5 (by rw[sub_length];omega) rfl,rfl,rfl,?_⟩
    refine⟨Zc _,by omega,by rw[wv_len,tEv_len];omega,?_⟩
    refine⟨Zc _,by omega,by rw[wv_len,tOd_len];omega,?_⟩
    refine⟨by decide,by decide,Zc _,by show 8≤8*(n-i);omega,?_⟩
    refine⟨[],_,_,_,_,c_folded (m:=sub key (8*i) 8) s8 (by rw[sub_length];omega),rfl,rfl,?_⟩
    refine⟨Zc _,by omega,by rw[wv_len,tFo_len];omega,?_⟩
    refine⟨by decide,by show 8≤8*(n-i);omega,Zc _,Zc _,?_⟩
    refine⟨i+1,by omega,by omega,[.d 49 0,.d 53 0,.d 59 0],⟨rfl,rfl,rfl,rfl,?_,trivial⟩,⟨_,rfl,q7s ?_⟩,⟨_,rfl,q7s ?_⟩,⟨_,rfl,q7s ?_⟩,trivial⟩
    ·show V.z (8*(n-i)-8) (sub _ 8 (8*(n-i)-8))=_
     rw[bv_sub,sub_drop,sub_end _ _ _ (by omega),show 8*(n-i)-8=8*(n-(i+1)) by omega,show 8*i+8=8*(i+1) by omega]
    ·rw[tEv_succ];exact wv_app1 (by rw[tEv_len];omega)
    ·rw[tOd_succ];exact wv_app1 (by rw[tOd_len];omega)
    ·rw[tFo_succ];exact wv_app1 (by rw[tFo_len];omega)
   ·obtain rfl:i=n:=(by omega)
    refine⟨[.k 2],_,_,_,_,c_revW (l:=tFo key i) (tFo_len _ _) (by omega) (by omega),rfl,rfl,?_⟩
    refine⟨[(2,1,.sc [])],0,by decide,[.d 900000 0],⟨rfl,?_,?_,?_,rfl,trivial⟩,⟨_,rfl,rfl⟩,trivial⟩
    ·show V.z i (sub _ 0 i)=V.z i _
     rw[wv_all (by rw[Zj,tFo_len])]
    ·show V.z i (sub _ 0 i)=V.z i _
     rw[wv_all (tEv_len _ _)]
    ·show V.z i (sub _ 0 i)=V.z i _
     rw[wv_all (tOd_len _ _)]
  refine spl_t (by rw[bne_iff_ne];omega) ?_
  by_cases h3:n=3
  ·refine spl_f (by rw[h3];rfl) ?_
   refine loopNn (fun i=>⟨[(2,nilv),(3,.o 1 (.k 2) 0 i),(5,.o 1 (.k 0) 0 i),(6,.o 1 (.k 1) 0 i),(7,.z (8*(n-i)) (bv (key.drop (8*i))))],[.sc (wv (tEv key i)),.sc (wv (tOd key i)),.sc (wv (tFo key i))]⟩) n [(5,1,.sc []),(6,1,.sc []),(3,1,.sc [])] ⟨[.d 900000 0,.d 900000 1,.d 900000 2],⟨rfl,rfl,rfl,rfl,rfl,trivial⟩,⟨_,rfl,rfl⟩,⟨_,rfl,rfl⟩,⟨_,rfl,rfl⟩,trivial⟩ fun i hi=> ?_
   refine spl_d (fun h=> ?_) (fun h=> ?_)
   ·have hlt:i<n:=(by omega)
    have s4:sub (bv (key.drop (8*i))) 0 4=bv (sub key (8*i) 4):=by rw[bv_sub,sub_drop];rfl
    have s5:sub (bv (key.drop (8*i))) 4 4=bv (sub key (8*i+4) 4):=by rw[bv_sub,sub_drop]
    have s8:sub (bv (key.drop (8*i))) 0 8=bv (sub key (8*i) 8):=by rw[bv_sub,sub_drop];rfl
    refine⟨by decide,by decide,Zc _,by show 4≤8*(n-i);omega,?_⟩
    refine⟨[],_,_,_,_,c_le32 (l:=sub key (8*i) 4) s4 (by rw[sub_length];omega) rfl,rfl,rfl,?_⟩
    refine⟨by decide,by decide,by decide,Zc _,by show 8≤8*(n-i);omega,?_⟩
    refine⟨[],_,_,_,_,c_le32 (l:=sub key (8*i+4) 4) s5 (by rw[sub_length];omega) rfl,rfl,rfl,?_⟩
    refine⟨Zc _,by omega,by rw[wv_len,tEv_len];omega,?_⟩
    refine⟨Zc _,by omega,by rw[wv_len,tOd_len];omega,?_⟩
    refine⟨by decide,by decide,Zc _,by show 8≤8*(n-i);omega,?_⟩
    refine⟨[],_,_,_,_,c_folded (m:=sub key (8*i) 8) s8 (by rw[sub_length];omega),rfl,rfl,?_⟩
    refine⟨Zc _,by omega,by rw[wv_len,tFo_len];omega,?_⟩
    refine⟨by decide,by show 8≤8*(n-i);omega,Zc _,Zc _,?_⟩
    refine⟨i+1,by omega,by omega,[.d 49 0,.d 53 0,.d 59 0],⟨rfl,rfl,rfl,rfl,?_,trivial⟩,⟨_,rfl,q7s ?_⟩,⟨_,rfl,q7s ?_⟩,⟨_,rfl,q7s ?_⟩,trivial⟩
    ·show V.z (8*(n-i)-8) (sub _ 8 (8*(n-i)-8))=_
     rw[bv_sub,sub_drop,sub_end _ _ _ (by omega),show 8*(n-i)-8=8*(n-(i+1)) by omega,show 8*i+8=8*(i+1) by omega]
    ·rw[tEv_succ];exact wv_app1 (by rw[tEv_len];omega)
    ·rw[tOd_succ];exact wv_app1 (by rw[tOd_len];omega)
    ·rw[tFo_succ];exact wv_app1 (by rw[tFo_len];omega)
   ·obtain rfl:i=n:=(by omega)
    refine⟨[.k 2],_,_,_,_,c_revW (l:=tFo key i) (tFo_len _ _) (by omega) (by omega),rfl,rfl,?_⟩
    refine⟨[(2,1,.sc [])],0,by decide,[.d 900000 0],⟨rfl,?_,?_,?_,rfl,trivial⟩,⟨_,rfl,rfl⟩,trivial⟩
    ·show V.z i (sub _ 0 i)=V.z i _
     rw[wv_all (by rw[Zj,tFo_len])]
    ·show V.z i (sub _ 0 i)=V.z i _
     rw[wv_all (tEv_len _ _)]
    ·show V.z i (sub _ 0 i)=V.z i _
     rw[wv_all (tOd_len _ _)]
  refine spl_t (by rw[bne_iff_ne];omega) ?_
  refine spl_f (by rw[show n=4 by omega];rfl) ?_
  refine loopNn (fun i=>⟨[(2,nilv),(3,.o 1 (.k 2) 0 i),(5,.o 1 (.k 0) 0 i),(6,.o 1 (.k 1) 0 i),(7,.z (8*(n-i)) (bv (key.drop (8*i))))],[.sc (wv (tEv key i)),.sc (wv (tOd key i)),.sc (wv (tFo key i))]⟩) n [(5,1,.sc []),(6,1,.sc []),(3,1,.sc [])] ⟨[.d 900000 0,.d 900000 1,.d 900000 2],⟨rfl,rfl,rfl,rfl,rfl,trivial⟩,⟨_,rfl,rfl⟩,⟨_,rfl,rfl⟩,⟨_,rfl,rfl⟩,trivial⟩ fun i hi=> ?_
  refine spl_d (fun h=> ?_) (fun h=> ?_)
  ·have hlt:i<n:=(by omega)
   have s4:sub (bv (key.drop (8*i))) 0 4=bv (sub key (8*i) 4):=by rw[bv_sub,sub_drop];rfl
   have s5:sub (bv (key.drop (8*i))) 4 4=bv (sub key (8*i+4) 4):=by rw[bv_sub,sub_drop]
   have s8:sub (bv (key.drop (8*i))) 0 8=bv (sub key (8*i) 8):=by rw[bv_sub,sub_drop];rfl
   refine⟨by decide,by decide,Zc _,by show 4≤8*(n-i);omega,?_⟩
   refine⟨[],_,_,_,_,c_le32 (l:=sub key (8*i) 4) s4 (by rw[sub_length];omega) rfl,rfl,rfl,?_⟩
   refine⟨by decide,by decide,by decide,Zc _,by show 8≤8*(n-i);omega,?_⟩
   refine⟨[],_,_,_,_,c_le32 (l:=sub key (8*i+4) 4) s5 (by rw[sub_length];omega) rfl,rfl,rfl,?_⟩
   refine⟨Zc _,by omega,by rw[wv_len,tEv_len];omega,?_⟩
   refine⟨Zc _,by omega,by rw[wv_len,tOd_len];omega,?_⟩
   refine⟨by decide,by decide,Zc _,by show 8≤8*(n-i);omega,?_⟩
   refine⟨[],_,_,_,_,c_folded (m:=sub key (8*i) 8) s8 (by rw[sub_length];omega),rfl,rfl,?_⟩
   refine⟨Zc _,by omega,by rw[wv_len,tFo_len];omega,?_⟩
   refine⟨by decide,by show 8≤8*(n-i);omega,Zc _,Zc _,?_⟩
   refine⟨i+1,by omega,by omega,[.d 49 0,.d 53 0,.d 59 0],⟨rfl,rfl,rfl,rfl,?_,trivial⟩,⟨_,rfl,q7s ?_⟩,⟨_,rfl,q7s ?_⟩,⟨_,rfl,q7s ?_⟩,trivial⟩
   ·show V.z (8*(n-i)-8) (sub _ 8 (8*(n-i)-8))=_
    rw[bv_sub,sub_drop,sub_end _ _ _ (by omega),show 8*(n-i)-8=8*(n-(i+1)) by omega,show 8*i+8=8*(i+1) by omega]
   ·rw[tEv_succ];exact wv_app1 (by rw[tEv_len];omega)
   ·rw[tOd_succ];exact wv_app1 (by rw[tOd_len];omega)
   ·rw[tFo_succ];exact wv_app1 (by rw[tFo_len];omega)
  ·obtain rfl:i=n:=(by omega)
   refine⟨[.k 2],_,_,_,_,c_revW (l:=tFo key i) (tFo_len _ _) (by omega) (by omega),rfl,rfl,?_⟩
   refine⟨[(2,1,.sc [])],0,by decide,[.d 900000 0],⟨rfl,?_,?_,?_,rfl,trivial⟩,⟨_,rfl,rfl⟩,trivial⟩
   ·show V.z i (sub _ 0 i)=V.z i _
    rw[wv_all (by rw[Zj,tFo_len])]
   ·show V.z i (sub _ 0 i)=V.z i _
    rw[wv_all (tEv_len _ _)]
   ·show V.z i (sub _ 0 i)=V.z i _
    rw[wv_all (tOd_len _ _)]
 ·have e2:∀x:UInt32,U3.wrap (2*(x.toNat:Int))=((2*x).toNat:Int):=fun x=>u32_mul 2 x
  have e3:∀x:UInt32,U3.wrap ((x.toNat:Int)*16843009)=((x*tonesW).toNat:Int):=fun x=>u32_mul x tonesW
  have e4:∀x:UInt32,U3.wrap ((x.toNat:Int)+1)=((x+1).toNat:Int):=fun x=>u32_add x 1
  have hkl:=kNw_len (tEv key n) (tOd key n) r
  refine⟨[],_,_,_,_,c_tH (x:=2*Zk r*tonesW) (l:=tEv key n) (by rw[e2,e3]) rfl (tEv_len _ _) (by omega),rfl,rfl,?_⟩
  refine⟨[],_,_,_,_,c_tH (x:=(2*Zk r+1)*tonesW) (l:=tOd key n) (by rw[e2,e4,e3]) rfl (tOd_len _ _) (by omega),rfl,rfl,?_⟩
  refine⟨[],_,_,_,_,c_rol32' (k:=8) rfl (by decide) (by decide),rfl,rfl,?_⟩
  refine⟨[],_,_,_,_,c_rol32' (v:=kWa (tEv key n) r+2*kWc (tOd key n) r) (k:=9) (by rw[e2];exact u32_add _ _) (by decide) (by decide),rfl,rfl,?_⟩
  refine⟨Zc _,by omega,by rw[wv_len,hkl];omega,?_⟩
  have hst:sub (wv (kNw (tEv key n) (tOd key n) r)) 0 (2*r*1)++[Value.int .u32 (U3.wrap (((kWa (tEv key n) r).toNat:Int)+((kWc (tOd key n) r).toNat:Int))),Value.int .u32 ((rol (kWa (tEv key n) r+2*kWc (tOd key n) r) 9).toNat:Int)]=wv (kNw (tEv key n) (tOd key n) (r+1)):=by
   rw[Zd,wv_all hkl,u32_add,kNw_succ,←wv_app];rfl
  have hu:((Zk r+1).toNat:Int)=((r+1:Nat):Int):=by
   rw[ofNat_succ32,UInt32.toNat_ofNat',Nat.mod_eq_of_lt (by omega)]
  refine spl_d (fun h=> ?_) (fun h=> ?_)
  ·rw[e4,hu]at h
   refine⟨rfl,r+1,by omega,by omega,[.d 84 0],⟨rfl,rfl,rfl,rfl,?_,trivial⟩,⟨_,rfl,q7s hst⟩,trivial⟩
   show vi .u32 _=vi .u32 _
   rw[e4,ofNat_succ32]
  ·rw[e4,hu]at h
   obtain rfl:r=19:=(by omega)
   refine⟨[],_,_,_,_,c_cloneW (l:=kNw (tEv key n) (tOd key n) 20) (n:=40) rfl (kNw_len _ _ _) (by decide) (by decide),?_,rfl,?_⟩
   ·show[V.z _ (sub (sub (wv (kNw (tEv key n) (tOd key n) 19)) 0 (2*19*1)++[Value.int .u32 (U3.wrap (((kWa (tEv key n) 19).toNat:Int)+((kWc (tOd key n) 19).toNat:Int))),Value.int .u32 ((rol (kWa (tEv key n) 19+2*kWc (tOd key n) 19) 9).toNat:Int)]) 0 _)]=_
    rw[hst,wv_all (kNw_len _ _ _)]
   refine⟨[],_,_,_,_,c_cloneW (l:=(tFo key n).reverse) rfl (by rw[Zj,tFo_len]) (by omega) (by omega),rfl,rfl,?_⟩
   exact⟨_,rfl,[.d 90 0,.d 92 0],rfl,⟨_,rfl,rfl⟩,⟨_,rfl,rfl⟩,trivial⟩
abbrev twoV (k s:List UInt32):V:= .q [wz k,wz s] 0
theorem c_tnew {n m:Nat} {va:List Value} {key:Bs} (ha:va=bv key) (hk:key.length=m) (hm:m=8*n) (hn:2≤n∧n≤4):Con C N.twofish_New [.z m va] [] (.ret (.t [twoV (tK key) (tS key),i64 0])) []:=by
 refine fd.twofish_New.c ?_
 refine⟨[],_,_,_,_,c_tkeys ha hk hm hn,rfl,rfl,?_⟩
 refine⟨_,rfl,[],?_,trivial⟩
 show V.t [.q [.z 40 (sub _ 0 40),.z n (sub _ 0 n)] 0,i64 0]=V.t [.q [.z _ _,.z _ _] 0,i64 0]
 rw[wv_all (tK_len key),wv_all (tS_len (n:=n) (by omega)),tK_len,tS_len (n:=n) (by omega)]
abbrev W4:=UInt32×UInt32×UInt32×UInt32
def sumF (k s:List UInt32) (a c:UInt32) (r:Nat):UInt32:=tH a s+tH (rol c 8) s+k.getD (2*r+8) 0
def sumG (k s:List UInt32) (a c:UInt32) (r:Nat):UInt32:=tH a s+2*tH (rol c 8) s+k.getD (2*r+9) 0
theorem c_tsums {k s:List UInt32} {x y:Int} {a c:UInt32} {r:Nat} (hx:x=a.toNat) (hy:y=c.toNat) (hk:k.length=40) (hs:s.length≤4) (hr:r<16):Con C N.twofish_Twofish_sums [twoV k s,vi .u32 x,vi .u32 y,i64 r] [] (.ret (.t [u32 (sumF k s a c r),u32 (sumG k s a c r)])) []:=by
 subst hx;subst hy
 refine fd.twofish_Twofish_sums.c ?_
 have e1:(I6.wrap (I6.wrap (2*(r:Int))+8)).toNat=2*r+8:=(by simp(disch:=omega)only[Za];omega)
 have e2:(I6.wrap (I6.wrap (2*(r:Int))+9)).toNat=2*r+9:=(by simp(disch:=omega)only[Za];omega)
 have e3:∀x:UInt32,U3.wrap (2*(x.toNat:Int))=((2*x).toNat:Int):=fun x=>u32_mul 2 x
 refine⟨_,rfl,?_⟩
 refine⟨[],_,_,_,_,c_tH (l:=s) rfl rfl rfl hs,rfl,rfl,?_⟩
 refine⟨[],_,_,_,_,c_rol32' (k:=8) rfl (by decide) (by decide),rfl,rfl,?_⟩
 refine⟨_,rfl,?_⟩
 refine⟨[],_,_,_,_,c_tH (l:=s) rfl rfl rfl hs,rfl,rfl,?_⟩
 refine⟨_,rfl,by omega,by omega,?_⟩
 refine⟨_,by rw[e1];exact wv_getD (by omega),?_⟩
 refine⟨_,rfl,by omega,by omega,?_⟩
 refine⟨_,by rw[e2];exact wv_getD (by omega),?_⟩
 refine⟨_,rfl,[],?_,trivial⟩
 show V.t [vi .u32 _,vi .u32 _]=_
 rw[u32_add,u32_add,e3,u32_add,u32_add]
 rfl
def whP (k:List UInt32) (o:Nat) (x:W4) (i:Nat):List V:=[u32 (if 0<i then x.1^^^k.getD (o+0) 0 else x.1),u32 (if 1<i then x.2.1^^^k.getD (o+1) 0 else x.2.1),u32 (if 2<i then x.2.2.1^^^k.getD (o+2) 0 else x.2.2.1),u32 (if 3<i then x.2.2.2^^^k.getD (o+3) 0 else x.2.2.2)]
def wh (k:List UInt32) (o:Nat) (x:W4):W4:=(x.1^^^k.getD (o+0) 0,x.2.1^^^k.getD (o+1) 0,x.2.2.1^^^k.getD (o+2) 0,x.2.2.2^^^k.getD (o+3) 0)
def w4get (x:W4) (i:Nat):UInt32:=if i=0 then x.1 else if i=1 then x.2.1 else if i=2 then x.2.2.1 else x.2.2.2
theorem whP_get {k o x i} (h:i<4):(whP k o x i)[i]? =some (u32 (w4get x i)):=by
 rcases i with _|_|_|_|i
 all_goals first|rfl|omega
theorem whP_set {k o x i} (h:i<4):(whP k o x i).set i (u32 (w4get x i^^^k.getD (o+i) 0))=whP k o x (i+1):=by
 rcases i with _|_|_|_|i
 all_goals first|rfl|omega
abbrev w4A (x:W4):V:= .a [u32 x.1,u32 x.2.1,u32 x.2.2.1,u32 x.2.2.2]
theorem c_white {k s:List UInt32} {x:W4} {o:Nat} (hk:k.length=40) (ho:o≤36):Con C N.twofish_Twofish_white [twoV k s,w4A x,i64 o] [] (.ret (w4A (wh k o x))) []:=by
 refine fd.twofish_Twofish_white.c ?_
 refine loopN (fun i=>⟨[(0,twoV k s),(2,i64 o),(4,.p (.k 0) 0),(6,.p (.k 1) 0),(8,i64 i)],[.mx (whP k o x i),.sc [.int .u32 0,.int .u32 0,.int .u32 0,.int .u32 0]]⟩) 4 ⟨[.d 4 0,.d 6 0],⟨rfl,rfl,rfl,rfl,rfl,trivial⟩,⟨_,rfl,rfl⟩,⟨_,rfl,rfl⟩,trivial⟩ fun i hi=> ?_
 refine spl_d (fun h=> ?_) (fun h=> ?_)
 ·have hlt:i<4:=(by omega)
  have e1:(I6.wrap ((o:Int)+i)).toNat=o+i:=(by simp(disch:=omega)only[Za];omega)
  refine⟨by omega,by omega,?_⟩
  refine⟨_,by rw[Zb,Zd,Ze];exact whP_get hlt,?_⟩
  refine⟨_,rfl,(by simp(disch:=omega)only[Za];omega),by omega,?_⟩
  refine⟨_,by rw[e1];exact wv_getD (by omega),?_⟩
  refine⟨by omega,by omega,by show 0+((i:Int)).toNat*1+1≤4;omega,?_⟩
  refine⟨i+1,by omega,by omega,[.k 0,.k 1],⟨rfl,rfl,rfl,rfl,q7i (by simp(disch:=omega)only[Za];omega),trivial⟩,⟨_,rfl,?_⟩,⟨_,rfl,rfl⟩,trivial⟩
  rw[←whP_set hlt,u32_xor]
  rcases i with _|_|_|_|i
  all_goals first|rfl|omega
 ·obtain rfl:i=4:=(by omega)
  refine⟨_,rfl,rfl,Zc _,_,rfl,rfl,?_⟩
  exact⟨_,rfl,[],rfl,trivial⟩
def ldW (b:Bs):W4:=(leW (sub b 0 4),leW (sub b 4 4),leW (sub b 8 4),leW (sub b 12 4))
def ldP (b:Bs) (i:Nat):List UInt32:=(List.range 4).map fun p=>if p<i then leW (sub b (4*p) 4)else 0
theorem ldP_step (b:Bs) {i:Nat} (h:i<4):(ldP b i).set i (leW (sub b (4*i) 4))=ldP b (i+1):=by
 rcases i with _|_|_|_|i
 all_goals first|rfl|omega
def tEs (k s:List UInt32) (x:W4) (r:Nat):W4:=(rol (x.2.2.1^^^sumF k s x.1 x.2.1 r) 31,rol x.2.2.2 1^^^sumG k s x.1 x.2.1 r,x.1,x.2.1)
def tDs (k s:List UInt32) (x:W4) (r:Nat):W4:=(rol x.2.2.1 1^^^sumF k s x.1 x.2.1 r,rol (x.2.2.2^^^sumG k s x.1 x.2.1 r) 31,x.1,x.2.1)
def swW (x:W4):W4:=(x.2.2.1,x.2.2.2,x.1,x.2.1)
def tEn (k s:List UInt32) (x:W4) (n:Nat):W4:=(List.range n).foldl (tEs k s) x
def tDn (k s:List UInt32) (x:W4) (n:Nat):W4:=(List.range n).foldl (fun x r=>tDs k s x (15-r)) x
theorem tEn_succ (k s x n):tEn k s x (n+1)=tEs k s (tEn k s x n) n:=by simp[tEn,Zn]
theorem tDn_succ (k s x n):tDn k s x (n+1)=tDs k s (tDn k s x n) (15-n):=by simp[tDn,Zn]
def twE (k s:List UInt32) (x:W4):W4:=wh k 4 (swW (tEn k s (wh k 0 x) 16))
def twD (k s:List UInt32) (x:W4):W4:=wh k 0 (swW (tDn k s (wh k 4 x) 16))
def putW (x:W4) (n:Nat):Bs:=((List.range n).map fun i=>putL (w4get x i)).flatten
theorem putW_succ (x n):putW x (n+1)=putW x n++putL (w4get x n):=by simp[putW,Zn]
theorem putW_len (x):∀n,(putW x n).length=4*n
 |0=>rfl
 |n+1=>by rw[putW_succ,Zm,putW_len x n,putL_len];omega
theorem w4at {x:W4} {i:Nat} (h:i<4):([u32 x.1,u32 x.2.1,u32 x.2.2.1,u32 x.2.2.2]:List V)[i]? =some (u32 (w4get x i)):=by
 rcases i with _|_|_|_|i
 all_goals first|rfl|omega
theorem mx4u {a b c d:Int} {x:W4} (h1:a=x.1.toNat) (h2:b=x.2.1.toNat) (h3:c=x.2.2.1.toNat) (h4:d=x.2.2.2.toNat):B.mx [vi .u32 a,vi .u32 b,vi .u32 c,vi .u32 d]=B.mx [u32 x.1,u32 x.2.1,u32 x.2.2.1,u32 x.2.2.2]:=by
 subst h1;subst h2;subst h3;subst h4;rfl
theorem c_two_enc {va:List Value} {b:Bs} {k s:List UInt32} (ha:va=bv b) (hb:b.length=16) (hk:k.length=40) (hs:s.length≤4):Con C N.twofish_Twofish_Block [twoV k s,.z 16 va,bool false] [] (okBlk 16) [.sc (bv (putW (twE k s (ldW b)) 4))]:=by
 subst ha
 refine fd.twofish_Twofish_Block.c ?_
 refine loopN (fun i=>⟨[(0,twoV k s),(1,.z 16 (bv b)),(2,bool false),(8,.p (.k 0) 0),(22,i64 i)],[.sc (wv (ldP b i))]⟩) 4 ⟨[.d 8 0],⟨rfl,rfl,rfl,rfl,rfl,trivial⟩,⟨_,rfl,rfl⟩,trivial⟩ fun i hi=> ?_
 refine spl_d (fun h=> ?_) (fun h=> ?_)
 ·have hlt:i<4:=(by omega)
  have e1:(I6.wrap (4*(i:Int))).toNat=4*i:=(by simp(disch:=omega)only[Za];omega)
  have e2:(I6.wrap (4*I6.wrap ((i:Int)+1))).toNat=4*i+4:=(by simp(disch:=omega)only[Za];omega)
  refine⟨by omega,(by simp(disch:=omega)only[Za];omega),by rw[e1,e2];omega,Zc _,by rw[e2];omega,?_⟩
  rw[e1,e2,show 4*i+4-4*i=4 by omega]
  refine⟨[],_,_,_,_,c_le32 (l:=sub b (4*i) 4) (bv_sub _ _ _) (by rw[sub_length];omega) rfl,rfl,rfl,?_⟩
  refine⟨by omega,by omega,by show 0+((i:Int)).toNat*1<4;omega,?_⟩
  refine⟨i+1,by omega,by omega,[.k 0],⟨rfl,rfl,rfl,rfl,q7i (by simp(disch:=omega)only[Za];omega),trivial⟩,⟨_,rfl,q7s ?_⟩,trivial⟩
  rw[Zb,Zd,Ze]
  show(wv (ldP b i)).set i (.int .u32 (leW (sub b (4*i) 4)).toNat)=_
  rw[wv_set,ldP_step b hlt]
 obtain rfl:i=4:=(by omega)
 refine⟨_,rfl,rfl,?_⟩
 refine⟨[],_,_,_,_,c_white (x:=ldW b) (o:=0) hk (by decide),rfl,rfl,?_⟩
 refine⟨Zc _,?_⟩
 refine loopN (fun i=>⟨[(0,twoV k s),(8,.p (.k 0) 0),(87,i64 i)],[.mx [u32 (tEn k s (wh k 0 (ldW b)) i).1,u32 (tEn k s (wh k 0 (ldW b)) i).2.1,u32 (tEn k s (wh k 0 (ldW b)) i).2.2.1,u32 (tEn k s (wh k 0 (ldW b)) i).2.2.2]]⟩) 16 ⟨[.k 0],⟨rfl,rfl,rfl,trivial⟩,⟨_,rfl,rfl⟩,trivial⟩ fun i hi=> ?_
 have hst:=tEn_succ k s (wh k 0 (ldW b)) i
 generalize hx:tEn k s (wh k 0 (ldW b)) i=x at hst ⊢
 refine spl_d (fun h=> ?_) (fun h=> ?_)
 ·have hlt:i<16:=(by omega)
  refine⟨by decide,by decide,_,rfl,by decide,by decide,_,rfl,?_⟩
  refine⟨[],_,_,_,_,c_tsums (r:=i) rfl rfl hk hs hlt,rfl,rfl,?_⟩
  refine⟨by decide,by decide,_,rfl,?_⟩
  refine⟨[],_,_,_,_,c_rol32' (v:=x.2.2.1^^^sumF k s x.1 x.2.1 i) (k:=31) (u32_xor _ _) (by decide) (by decide),rfl,rfl,?_⟩
  refine⟨by decide,by decide,_,rfl,?_⟩
  refine⟨[],_,_,_,_,c_rol32' (k:=1) rfl (by decide) (by decide),rfl,rfl,?_⟩
  refine⟨by decide,by decide,_,rfl,by decide,by decide,_,rfl,Zc _,?_⟩
  refine⟨i+1,by omega,by omega,[.k 0],⟨rfl,rfl,q7i (by simp(disch:=omega)only[Za];omega),trivial⟩,⟨_,rfl,?_⟩,trivial⟩
  rw[hst]
  exact mx4u rfl (u32_xor _ _) rfl rfl
 obtain rfl:i=16:=(by omega)
 refine⟨by decide,by decide,_,rfl,by decide,by decide,_,rfl,by decide,by decide,_,rfl,by decide,by decide,_,rfl,?_⟩
 refine⟨[],_,_,_,_,c_white (x:=swW x) (o:=4) hk (by decide),rfl,rfl,?_⟩
 refine⟨Zc _,by decide,by decide,by decide,?_⟩
 refine⟨_,rfl,rfl,?_⟩
 have hfx:wh k 4 (swW x)=twE k s (ldW b):=by rw[←hx];rfl
 rw[←hfx]
 generalize hy:wh k 4 (swW x)=y
 refine loopN (fun i=>⟨[(16,.o 1 (.k 0) 0 (4*i)),(128,w4A y),(129,i64 i)],[.sc (bv (putW y i))]⟩) 4 ⟨[.d 127 0],⟨rfl,?_,rfl,trivial⟩,⟨_,rfl,rfl⟩,trivial⟩ fun i hi=> ?_
 ·rw[←hy];rfl
 refine spl_d (fun h=> ?_) (fun h=> ?_)
 ·have hlt:i<4:=(by omega)
  refine⟨by omega,by omega,?_⟩
  refine⟨_,by rw[Zb,Zd];exact w4at hlt,?_⟩
  refine⟨[],_,_,_,_,c_putLe32 rfl,rfl,rfl,?_⟩
  have hpl:(putL (w4get y i)).length=4:=putL_len _
  refine⟨by rw[bv_len];exact Z3 hpl.symm,by omega,by rw[bv_len,putW_len];omega,?_⟩
  refine⟨i+1,by omega,by omega,[.d 135 0],⟨rfl,rfl,q7i (by simp(disch:=omega)only[Za];omega),trivial⟩,⟨_,rfl,q7s ?_⟩,trivial⟩
  show sub (bv (putW y i)) 0 (4*i*1)++sub (bv (putL (w4get y i))) 0 4=_
  rw[Zd,bv_all (putW_len y i),bv_all hpl,bv_app,putW_succ]
 ·obtain rfl:i=4:=(by omega)
  exact⟨_,rfl,[.k 0],rfl,⟨_,rfl,rfl⟩,trivial⟩
theorem c_two_dec {va:List Value} {b:Bs} {k s:List UInt32} (ha:va=bv b) (hb:b.length=16) (hk:k.length=40) (hs:s.length≤4):Con C N.twofish_Twofish_Block [twoV k s,.z 16 va,bool true] [] (okBlk 16) [.sc (bv (putW (twD k s (ldW b)) 4))]:=by
 subst ha
 refine fd.twofish_Twofish_Block.c ?_
 refine loopN (fun i=>⟨[(0,twoV k s),(1,.z 16 (bv b)),(2,bool true),(8,.p (.k 0) 0),(22,i64 i)],[.sc (wv (ldP b i))]⟩) 4 ⟨[.d 8 0],⟨rfl,rfl,rfl,rfl,rfl,trivial⟩,⟨_,rfl,rfl⟩,trivial⟩ fun i hi=> ?_
 refine spl_d (fun h=> ?_) (fun h=> ?_)
 ·have hlt:i<4:=(by omega)
  have e1:(I6.wrap (4*(i:Int))).toNat=4*i:=(by simp(disch:=omega)only[Za];omega)
  have e2:(I6.wrap (4*I6.wrap ((i:Int)+1))).toNat=4*i+4:=(by simp(disch:=omega)only[Za];omega)
  refine⟨by omega,(by simp(disch:=omega)only[Za];omega),by rw[e1,e2];omega,Zc _,by rw[e2];omega,?_⟩
  rw[e1,e2,show 4*i+4-4*i=4 by omega]
  refine⟨[],_,_,_,_,c_le32 (l:=sub b (4*i) 4) (bv_sub _ _ _) (by rw[sub_length];omega) rfl,rfl,rfl,?_⟩
  refine⟨by omega,by omega,by show 0+((i:Int)).toNat*1<4;omega,?_⟩
  refine⟨i+1,by omega,by omega,[.k 0],⟨rfl,rfl,rfl,rfl,q7i (by simp(disch:=omega)only[Za];omega),trivial⟩,⟨_,rfl,q7s ?_⟩,trivial⟩
  rw[Zb,Zd,Ze]
  show(wv (ldP b i)).set i (.int .u32 (leW (sub b (4*i) 4)).toNat)=_
  rw[wv_set,ldP_step b hlt]
 obtain rfl:i=4:=(by omega)
 refine⟨_,rfl,rfl,?_⟩
 refine⟨[],_,_,_,_,c_white (x:=ldW b) (o:=4) hk (by decide),rfl,rfl,?_⟩
 refine⟨Zc _,?_⟩
 refine loopN (fun i=>⟨[(0,twoV k s),(8,.p (.k 0) 0),(10,i64 (15-i))],[.mx [u32 (tDn k s (wh k 4 (ldW b)) i).1,u32 (tDn k s (wh k 4 (ldW b)) i).2.1,u32 (tDn k s (wh k 4 (ldW b)) i).2.2.1,u32 (tDn k s (wh k 4 (ldW b)) i).2.2.2]]⟩) 16 ⟨[.k 0],⟨rfl,rfl,rfl,trivial⟩,⟨_,rfl,rfl⟩,trivial⟩ fun i hi=> ?_
 have hst:=tDn_succ k s (wh k 4 (ldW b)) i
 generalize hx:tDn k s (wh k 4 (ldW b)) i=x at hst ⊢
 refine spl_d (fun h=> ?_) (fun h=> ?_)
 ·obtain⟨r,er,hr15,hri⟩:∃r:Nat,(15:Int)-i=r∧r≤15∧r=15-i:=⟨15-i,by omega,by omega,rfl⟩
  rw[←hri]at hst
  rw[er]
  refine⟨by decide,by decide,_,rfl,by decide,by decide,_,rfl,?_⟩
  refine⟨[],_,_,_,_,c_tsums (r:=r) rfl rfl hk hs (by omega),rfl,rfl,?_⟩
  refine⟨by decide,by decide,_,rfl,?_⟩
  refine⟨[],_,_,_,_,c_rol32' (k:=1) rfl (by decide) (by decide),rfl,rfl,?_⟩
  refine⟨by decide,by decide,_,rfl,?_⟩
  refine⟨[],_,_,_,_,c_rol32' (v:=x.2.2.2^^^sumG k s x.1 x.2.1 r) (k:=31) (u32_xor _ _) (by decide) (by decide),rfl,rfl,?_⟩
  refine⟨by decide,by decide,_,rfl,by decide,by decide,_,rfl,Zc _,?_⟩
  refine⟨i+1,by omega,by omega,[.k 0],⟨rfl,rfl,q7i ?_,trivial⟩,⟨_,rfl,?_⟩,trivial⟩
  ·rw[Za _ (by omega)];omega
  rw[hst]
  exact mx4u (u32_xor _ _) rfl rfl rfl
 obtain rfl:i=16:=(by omega)
 refine⟨by decide,by decide,_,rfl,by decide,by decide,_,rfl,by decide,by decide,_,rfl,by decide,by decide,_,rfl,Zc _,?_⟩
 refine⟨_,rfl,rfl,?_⟩
 refine⟨[],_,_,_,_,c_white (x:=swW x) (o:=0) hk (by decide),rfl,rfl,?_⟩
 refine⟨Zc _,by decide,by decide,by decide,?_⟩
 refine⟨_,rfl,rfl,?_⟩
 have hfx:wh k 0 (swW x)=twD k s (ldW b):=by rw[←hx];rfl
 rw[←hfx]
 generalize hy:wh k 0 (swW x)=y
 refine loopN (fun i=>⟨[(16,.o 1 (.k 0) 0 (4*i)),(128,w4A y),(129,i64 i)],[.sc (bv (putW y i))]⟩) 4 ⟨[.d 127 0],⟨rfl,?_,rfl,trivial⟩,⟨_,rfl,rfl⟩,trivial⟩ fun i hi=> ?_
 ·rw[←hy];rfl
 refine spl_d (fun h=> ?_) (fun h=> ?_)
 ·have hlt:i<4:=(by omega)
  refine⟨by omega,by omega,?_⟩
  refine⟨_,by rw[Zb,Zd];exact w4at hlt,?_⟩
  refine⟨[],_,_,_,_,c_putLe32 rfl,rfl,rfl,?_⟩
  have hpl:(putL (w4get y i)).length=4:=putL_len _
  refine⟨by rw[bv_len];exact Z3 hpl.symm,by omega,by rw[bv_len,putW_len];omega,?_⟩
  refine⟨i+1,by omega,by omega,[.d 135 0],⟨rfl,rfl,q7i (by simp(disch:=omega)only[Za];omega),trivial⟩,⟨_,rfl,q7s ?_⟩,trivial⟩
  show sub (bv (putW y i)) 0 (4*i*1)++sub (bv (putL (w4get y i))) 0 4=_
  rw[Zd,bv_all (putW_len y i),bv_all hpl,bv_app,putW_succ]
 ·obtain rfl:i=4:=(by omega)
  exact⟨_,rfl,[.k 0],rfl,⟨_,rfl,rfl⟩,trivial⟩
theorem c_two_bad {va:List Value} {k s:List UInt32} {n:Nat} {back:Bool} (hn:n≠16):Con C N.twofish_Twofish_Block [twoV k s,.z n va,bool back] [] badBlk []:=by
 refine fd.twofish_Twofish_Block.c ?_
 refine spl_ne (fun h=> ?_) (fun h=>absurd (by omega) hn)
 exact⟨_,rfl,[],rfl,trivial⟩
abbrev strL (l:Bs):Value:= .string ⟨l.toArray⟩
theorem c_r9_rows {w:Nat} (hw:w<2):Con C N.r9_rows [i64 w] [] (.ret (.o 1 (.k 0) 0 4)) [.sc [strL (qRow w 0),strL (qRow w 1),strL (qRow w 2),strL (qRow w 3)]]:=by
 rcases w with _|_|w
 ·exact fd.r9_rows.c ⟨_,rfl,[.d 5 0],rfl,⟨_,rfl,rfl⟩,trivial⟩
 ·exact fd.r9_rows.c ⟨_,rfl,[.d 6 0],rfl,⟨_,rfl,rfl⟩,trivial⟩
 ·omega
theorem r9_e:∀a,a<16→∀c,c<16→I6.wrap ((Zh I6.bits ((a:Nat):Int)^^^Zh I6.bits ((c:Nat):Int)).toNat:Int)=((a^^^c:Nat):Int):=by decide +kernel
theorem r9_f:∀a,a<16→∀c,c<16→I6.wrap ((Zh I6.bits (I6.wrap ((Zh I6.bits ((a:Nat):Int)^^^Zh I6.bits (I6.wrap ((Zh I6.bits (((c:Nat):Int).fdiv (2^(min (1:Int).toNat I6.bits)))|||Zh I6.bits (I6.wrap ((Zh I6.bits (I6.wrap (((c:Nat):Int)*2^(min (3:Int).toNat I6.bits)))&&&Zh I6.bits 8).toNat:Int))).toNat:Int))).toNat:Int))^^^Zh I6.bits ((I6.wrap (8*((a:Nat):Int))).tmod 16)).toNat:Int)=((qf a c:Nat):Int):=by decide +kernel
theorem r9_o:∀a,a<16→∀c,c<16→U8.wrap (I6.wrap (I6.wrap (16*((c:Nat):Int))+((a:Nat):Int)))=(((Zp (16*c+a)).toNat:Nat):Int):=by decide +kernel
theorem r9_x:∀x:Nat,x<256→I6.wrap (((x:Nat):Int).fdiv (2^(min (4:Int).toNat U8.bits)))=((x/16:Nat):Int)∧I6.wrap (U8.wrap ((Zh U8.bits ((x:Nat):Int)&&&Zh U8.bits 15).toNat:Int))=((x%16:Nat):Int):=by decide +kernel
theorem sa_get {w i:Nat} (hi:i<4):([strL (qRow w 0),strL (qRow w 1),strL (qRow w 2),strL (qRow w 3)]:List Value)[i]? =some (strL (qRow w i)):=by
 rcases i with _|_|_|_|i
 all_goals first|rfl|omega
theorem c_r9_Q {w:Nat} {z:Int} {x:UInt8} (hw:w<2) (hz:z=x.toNat):Con C N.r9_Q [i64 w,vi .u8 z] [] (.ret (u8 (tQ w x))) []:=by
 subst hz
 have hx:=x.toNat_lt
 refine fd.r9_Q.c ?_
 refine⟨[],_,_,_,_,c_r9_rows hw,rfl,rfl,?_⟩
 refine⟨by decide,?_⟩
 obtain⟨x1,x2⟩:=r9_x x.toNat hx
 refine loopN (fun i=>⟨[(5,.z 4 [strL (qRow w 0),strL (qRow w 1),strL (qRow w 2),strL (qRow w 3)]),(6,i64 ((qSt w x i).1:Nat)),(7,i64 ((qSt w x i).2:Nat)),(8,i64 i)],[]⟩) 2 ⟨[],⟨rfl,q7i x1,q7i x2,rfl,trivial⟩,trivial⟩ fun i hi=> ?_
 obtain⟨s1,s2⟩:=qSt_lt hw x i hi
 have hsi:qSt w x (i+1)=qS w i (qSt w x i):=rfl
 generalize hp:qSt w x i=p at s1 s2 hsi ⊢
 refine spl_d (fun h=> ?_) (fun h=> ?_)
 ·have hlt:i<2:=(by omega)
  obtain⟨f1,f2⟩:=qf_lt p.1 s1 p.2 s2
  obtain⟨r1,r2⟩:=qRow_ok w hw (2*i) (by omega)
  obtain⟨r3,r4⟩:=qRow_ok w hw (2*i+1) (by omega)
  have ee:=r9_e p.1 s1 p.2 s2
  have ef:=r9_f p.1 s1 p.2 s2
  have e0:(I6.wrap (2*(i:Int))).toNat=2*i:=(by simp(disch:=omega)only[Za];omega)
  have e1:(I6.wrap (I6.wrap (2*(i:Int))+1)).toNat=2*i+1:=(by simp(disch:=omega)only[Za];omega)
  refine⟨by decide,by decide,by decide,?_⟩
  refine⟨(by simp(disch:=omega)only[Za];omega),by omega,?_⟩
  refine⟨_,by rw[e0];exact sa_get (by omega),?_⟩
  refine⟨[],_,_,_,_,c_At (l:=qRow w (2*i)) rfl ee (by rw[r1];exact f2) (r2 _ f2),rfl,rfl,?_⟩
  refine⟨by omega,by omega,?_⟩
  refine⟨_,by rw[e1];exact sa_get (by omega),?_⟩
  refine⟨[],_,_,_,_,c_At (l:=qRow w (2*i+1)) rfl ef (by rw[r3];exact f1) (r4 _ f1),rfl,rfl,?_⟩
  refine⟨i+1,by omega,by omega,[],⟨rfl,?_,?_,q7i (by simp(disch:=omega)only[Za];omega),trivial⟩,trivial⟩
  ·rw[hsi];rfl
  ·rw[hsi];rfl
 ·obtain rfl:i=2:=(by omega)
  refine⟨_,rfl,[],congrArg (vi .u8) ?_,trivial⟩
  rw[tQ,hp]
  exact r9_o p.1 s1 p.2 s2
abbrev b4A (y:Bs):V:= .a [u8 (y.getD 0 0),u8 (y.getD 1 0),u8 (y.getD 2 0),u8 (y.getD 3 0)]
abbrev b4M (y:Bs):B:= .mx [u8 (y.getD 0 0),u8 (y.getD 1 0),u8 (y.getD 2 0),u8 (y.getD 3 0)]
theorem b4_get {y:Bs} {i:Nat} (h:i<4):([u8 (y.getD 0 0),u8 (y.getD 1 0),u8 (y.getD 2 0),u8 (y.getD 3 0)]:List V)[i]? =some (u8 (y.getD i 0)):=at4 (f:=fun i=>u8 (y.getD i 0)) rfl rfl rfl rfl h
theorem b4_set {y:Bs} {i:Nat} (hy:y.length=4) (h:i<4) (x:UInt8):([u8 (y.getD 0 0),u8 (y.getD 1 0),u8 (y.getD 2 0),u8 (y.getD 3 0)]:List V).set i (u8 x)=[u8 ((y.set i x).getD 0 0),u8 ((y.set i x).getD 1 0),u8 ((y.set i x).getD 2 0),u8 ((y.set i x).getD 3 0)]:=by
 match y,hy with
 |[a,b,c,d],_=>
  rcases i with _|_|_|_|i
  all_goals first|rfl|omega
theorem stageP_gd {o y i} (h:i<4):(stageP o y i).getD i 0=y.getD i 0:=by
 rw[List.getD_eq_getElem?_getD,stageP_get h];rfl
theorem c_r9_stage {a b c d:Nat} {y:Bs} (hy:y.length=4) (h0:a<2) (h1:b<2) (h2:c<2) (h3:d<2):Con C N.r9_stage [b4A y,.a [i64 a,i64 b,i64 c,i64 d]] [] (.ret (b4A (stage [a,b,c,d] y))) []:=by
 have ho:∀i,i<4→([a,b,c,d].getD i 0)<2:=by
  intro i hi
  rcases i with _|_|_|_|i
  ·exact h0
  ·exact h1
  ·exact h2
  ·exact h3
  ·omega
 have hg:∀i,i<4→([i64 a,i64 b,i64 c,i64 d]:List V)[i]? =some (i64 ([a,b,c,d].getD i 0:Nat)):=fun i hi=>at4 (f:=fun i=>i64 ([a,b,c,d].getD i 0:Nat)) rfl rfl rfl rfl hi
 refine fd.r9_stage.c ?_
 refine loopN (fun i=>⟨[(2,.p (.k 0) 0),(3,.p (.k 1) 0),(4,.p (.k 2) 0),(5,i64 i)],[b4M (stageP [a,b,c,d] y i),.mx [i64 a,i64 b,i64 c,i64 d],.sc [.int .u8 0,.int .u8 0,.int .u8 0,.int .u8 0]]⟩) 4 ⟨[.d 2 0,.d 3 0,.d 4 0],⟨rfl,rfl,rfl,rfl,trivial⟩,⟨_,rfl,rfl⟩,⟨_,rfl,rfl⟩,⟨_,rfl,rfl⟩,trivial⟩ fun i hi=> ?_
 refine spl_d (fun h=> ?_) (fun h=> ?_)
 ·have hlt:i<4:=(by omega)
  refine⟨by omega,by omega,?_⟩
  refine⟨_,by rw[Zb,Zd,Ze];exact hg i hlt,?_⟩
  refine⟨by omega,by omega,?_⟩
  refine⟨_,by rw[Zb,Zd,Ze];exact b4_get hlt,?_⟩
  refine⟨[],_,_,_,_,c_r9_Q (ho i hlt) rfl,rfl,rfl,?_⟩
  refine⟨by omega,by omega,by show 0+((i:Int)).toNat*1+1≤4;omega,?_⟩
  refine⟨i+1,by omega,by omega,[.k 0,.k 1,.k 2],⟨rfl,rfl,rfl,q7i (by simp(disch:=omega)only[Za];omega),trivial⟩,⟨_,rfl,?_⟩,⟨_,rfl,rfl⟩,⟨_,rfl,rfl⟩,trivial⟩
  rw[stageP_gd hlt]
  have:=b4_set (stageP_len [a,b,c,d] y i) hlt (tQ ([a,b,c,d].getD i 0) (y.getD i 0))
  rw[stageP_step hlt]at this
  refine Eq.trans ?_ (congrArg B.mx this)
  clear this hg ho
  rcases i with _|_|_|_|i
  all_goals first|rfl|omega
 ·obtain rfl:i=4:=(by omega)
  refine⟨_,rfl,rfl,Zc _,_,rfl,rfl,?_⟩
  exact⟨_,rfl,[],rfl,trivial⟩
def r9P (y:Bs) (l:UInt32) (i:Nat):Bs:=(List.range 4).map fun p=>if p<i then y.getD p 0^^^(putL l).getD p 0 else y.getD p 0
theorem r9P_len (y l i):(r9P y l i).length=4:=by simp[r9P]
theorem r9P_gd {y l i} (h:i<4):(r9P y l i).getD i 0=y.getD i 0:=by
 rcases i with _|_|_|_|i
 all_goals first|rfl|omega
theorem r9P_step {y l i} (h:i<4):(r9P y l i).set i (y.getD i 0^^^(putL l).getD i 0)=r9P y l (i+1):=by
 rcases i with _|_|_|_|i
 all_goals first|rfl|omega
theorem r9P_all {y l} (hy:y.length=4):r9P y l 4=xorL y (putL l):=by
 match y,hy with
 |[a,b,c,d],_=>rfl
theorem mx4e {a b c d a' b' c' d':V} (h1:a=a') (h2:b=b') (h3:c=c') (h4:d=d'):B.mx [a,b,c,d]=B.mx [a',b',c',d']:=by
 subst h1;subst h2;subst h3;subst h4;rfl
theorem putL_gd (l:UInt32) {i:Nat} (h:i<4):U8.wrap ((l.toNat:Int).fdiv (2^(min (IntKind.u64.wrap (I6.wrap (8*(i:Int)))).toNat U3.bits)))=(((putL l).getD i 0).toNat:Int):=by
 have hl:=l.toNat_lt
 rcases i with _|_|_|_|i
 ·show U8.wrap ((l.toNat:Int).fdiv (2^0))=((l.toUInt64.toUInt8).toNat:Int)
  simp[Zs,wrap_u8]
  try omega
 ·show U8.wrap ((l.toNat:Int).fdiv (2^8))=(((l.toUInt64>>>8).toUInt8).toNat:Int)
  simp[Zs,wrap_u8,Zx]
  try omega
 ·show U8.wrap ((l.toNat:Int).fdiv (2^16))=(((l.toUInt64>>>8>>>8).toUInt8).toNat:Int)
  simp[Zs,wrap_u8,Zx]
  try omega
 ·show U8.wrap ((l.toNat:Int).fdiv (2^24))=(((l.toUInt64>>>8>>>8>>>8).toUInt8).toNat:Int)
  simp[Zs,wrap_u8,Zx]
  try omega
 ·omega
theorem c_r9_laid {y:Bs} {z:Int} {l:UInt32} (hy:y.length=4) (hz:z=l.toNat):Con C N.r9_laid [b4A y,vi .u32 z] [] (.ret (b4A (xorL y (putL l)))) []:=by
 subst hz
 refine fd.r9_laid.c ?_
 refine loopN (fun i=>⟨[(1,u32 l),(2,.p (.k 0) 0),(4,.p (.k 1) 0),(5,i64 i)],[b4M (r9P y l i),.sc [.int .u8 0,.int .u8 0,.int .u8 0,.int .u8 0]]⟩) 4 ⟨[.d 2 0,.d 4 0],⟨rfl,rfl,rfl,rfl,trivial⟩,⟨_,rfl,rfl⟩,⟨_,rfl,rfl⟩,trivial⟩ fun i hi=> ?_
 refine spl_d (fun h=> ?_) (fun h=> ?_)
 ·have hlt:i<4:=(by omega)
  refine⟨by omega,by omega,?_⟩
  refine⟨_,by rw[Zb,Zd,Ze];exact b4_get hlt,?_⟩
  refine⟨by simp only[IntKind.wrap_i64,wrap_u64];omega,by omega,by omega,by show 0+((i:Int)).toNat*1+1≤4;omega,?_⟩
  refine⟨i+1,by omega,by omega,[.k 0,.k 1],⟨rfl,rfl,rfl,q7i (by simp(disch:=omega)only[Za];omega),trivial⟩,⟨_,rfl,?_⟩,⟨_,rfl,rfl⟩,trivial⟩
  rw[r9P_gd hlt]
  have:=b4_set (r9P_len y l i) hlt (y.getD i 0^^^(putL l).getD i 0)
  rw[r9P_step hlt]at this
  refine Eq.trans ?_ (congrArg B.mx this)
  clear this
  have hv:vi .u8 (U8.wrap ((Zh U8.bits ((y.getD i 0).toNat:Int)^^^Zh U8.bits (U8.wrap ((l.toNat:Int).fdiv (2^(min (IntKind.u64.wrap (I6.wrap (8*(i:Int)))).toNat U3.bits))))).toNat:Int))=u8 (y.getD i 0^^^(putL l).getD i 0):=by
   rw[putL_gd l hlt];exact congrArg (vi .u8) (u8_xor _ _)
  rcases i with _|_|_|_|i
  ·exact mx4e hv rfl rfl rfl
  ·exact mx4e rfl hv rfl rfl
  ·exact mx4e rfl rfl hv rfl
  ·exact mx4e rfl rfl rfl hv
  ·omega
 ·obtain rfl:i=4:=(by omega)
  refine⟨_,rfl,rfl,Zc _,_,rfl,rfl,?_⟩
  refine⟨_,rfl,[],?_,trivial⟩
  show b4A (r9P y l 4)=_
  rw[r9P_all hy]
def zA (f:Nat→Nat→UInt8) (K:Nat):Nat→UInt32
 |0=>0
 |i+1=>zA f K i^^^((f i K).toUInt32<<<Zk (8*i))
def zP (f:Nat→Nat→UInt8) (K i k:Nat):UInt32:=zA f K i^^^((f i k).toUInt32<<<Zk (8*i))
theorem zP_zero {f K i} (h:f i 0=0):zP f K i 0=zA f K i:=by
 unfold zP;rw[h];simp
theorem u32sx (a b s:UInt32):(a^^^b)<<<s=(a<<<s)^^^(b<<<s):=by
 apply Z1
 simp[BitVec.shiftLeft_xor_distrib]
theorem zP_succ {f K i k x} (h:f i (k+1)=f i k^^^x):zP f K i (k+1)=zP f K i k^^^(x.toUInt32<<<Zk (8*i)):=by
 unfold zP
 rw[h,UInt8.toUInt32_xor,u32sx,UInt32.xor_assoc]
theorem leW4 (a b c d:UInt8):leW [a,b,c,d]=((a.toUInt32^^^b.toUInt32<<<8)^^^c.toUInt32<<<16)^^^d.toUInt32<<<24:=by
 apply Z1
 apply BitVec.eq_of_getLsbD_eq
 intro j hj
 have z:∀(x:UInt8) (k:Nat),8≤k→x.toBitVec.getLsbD k=false:=fun x k h=>BitVec.getLsbD_of_ge _ _ h
 simp[leW,loadL,BitVec.getLsbD_setWidth,BitVec.getLsbD_shiftLeft]
 have hz:∀(x:UInt8) (k:Nat),(decide (k<64)&&x.toBitVec.getLsbD k)=x.toBitVec.getLsbD k:=by
  intro x k
  by_cases h:k<64
  ·simp[h]
  ·simp[h,z x k (by omega)]
 by_cases h1:j<8
 ·simp[h1,show j<16 by omega,show j<24 by omega,show j<64 by omega,hj]
 ·by_cases h2:j<16
  ·simp[h1,h2,show j<24 by omega,show j<64 by omega,hj,z a j (by omega),show j-8<8 by omega,show j-8<64 by omega]
  ·by_cases h3:j<24
   ·simp[h1,h2,h3,show j<64 by omega,hj,z a j (by omega),z b (j-8) (by omega),show ¬j-8<8 by omega,show j-8-8<8 by omega,show j-8-8<64 by omega,show j-8<64 by omega,show j-8-8=j-16 by omega,show j-16<8 by omega]
    intros;omega
   ·simp[h1,h2,h3,show j<64 by omega,hj,z a j (by omega),z b (j-8) (by omega),z c (j-16) (by omega),show ¬j-8<8 by omega,show ¬j-16<8 by omega,show j-8<64 by omega,show j-8-8=j-16 by omega,show j-16<64 by omega,show j-16-8=j-24 by omega,show j-24<64 by omega,show j-8<32 by omega,show j-16<32 by omega,show j-24<32 by omega]
theorem zA_leW {f K}:leW (accO f K 4 0)=zA f K 4:=by
 show leW [f 0 K,f 1 K,f 2 K,f 3 K]=_
 rw[leW4]
 simp[zA]
theorem fRM_get:∀i,i<4→∀k,k<8→([u8 1,u8 164,u8 85,u8 135,u8 90,u8 88,u8 219,u8 158,u8 164,u8 86,u8 130,u8 243,u8 30,u8 198,u8 104,u8 229,u8 2,u8 161,u8 252,u8 193,u8 71,u8 174,u8 61,u8 25,u8 164,u8 85,u8 135,u8 90,u8 88,u8 219,u8 158,u8 3]:List V)[i*8+k]? =some (u8 ((fR i).getD k 0)):=by
 intro i hi k hk
 rcases i with _|_|_|_|i
 all_goals first|omega|(rcases k with _|_|_|_|_|_|_|_|k<;>first|rfl|omega)
theorem mixM_get:∀i,i<4→∀k,k<4→([u8 1,u8 239,u8 91,u8 91,u8 91,u8 239,u8 239,u8 1,u8 239,u8 91,u8 1,u8 239,u8 239,u8 1,u8 239,u8 91]:List V)[i*4+k]? =some (u8 ((tMix i).getD k 0)):=by
 intro i hi k hk
 rcases i with _|_|_|_|i
 all_goals first|omega|(rcases k with _|_|_|_|k<;>first|rfl|omega)
theorem z_step {z x:UInt32} {b:UInt8} {i:Nat} (hi:i<4):U3.wrap ((Zh U3.bits (z.toNat:Int)^^^Zh U3.bits (U3.wrap (U3.wrap (b.toNat:Int)*2^(min (IntKind.u64.wrap (I6.wrap (8*(i:Int)))).toNat U3.bits)))).toNat:Int)=((z^^^(b.toUInt32<<<Zk (8*i))).toNat:Int):=by
 have e:IntKind.u64.wrap (I6.wrap (8*(i:Int)))=((8*i:Nat):Int):=by simp only[IntKind.wrap_i64,wrap_u64];omega
 rw[e,u8_u32,u32_shl _ _ (by omega) (by omega),Zb,u32_xor]
theorem c_r9_told {va:List Value} {m:Bs} (ha:va=bv m) (hm:m.length=8):Con C N.r9_told [.z 8 va] [] (.ret (u32 (fold8 m))) []:=by
 subst ha
 have hm0:∀p,mixB 333 fR m p 0=0:=fun _=>rfl
 refine fd.r9_told.c ?_
 refine⟨Zc _,?_⟩
 refine loopN (fun i=>⟨[(0,.z 8 (bv m)),(3,.p (.k 0) 0),(4,u32 (zA (mixB 333 fR m) 8 i)),(5,i64 i)],[.mx [u8 1,u8 164,u8 85,u8 135,u8 90,u8 88,u8 219,u8 158,u8 164,u8 86,u8 130,u8 243,u8 30,u8 198,u8 104,u8 229,u8 2,u8 161,u8 252,u8 193,u8 71,u8 174,u8 61,u8 25,u8 164,u8 85,u8 135,u8 90,u8 88,u8 219,u8 158,u8 3]]⟩) 4 ⟨[.d 3 0],⟨rfl,rfl,rfl,rfl,trivial⟩,⟨_,rfl,rfl⟩,trivial⟩ fun i hi=> ?_
 refine spl_d (fun h=> ?_) (fun h=> ?_)
 ·have hlt:i<4:=(by omega)
  refine loopN (fun k=>⟨[(0,.z 8 (bv m)),(3,.p (.k 0) 0),(4,u32 (zP (mixB 333 fR m) 8 i k)),(5,i64 i),(6,i64 k)],[.mx [u8 1,u8 164,u8 85,u8 135,u8 90,u8 88,u8 219,u8 158,u8 164,u8 86,u8 130,u8 243,u8 30,u8 198,u8 104,u8 229,u8 2,u8 161,u8 252,u8 193,u8 71,u8 174,u8 61,u8 25,u8 164,u8 85,u8 135,u8 90,u8 88,u8 219,u8 158,u8 3]]⟩) 8 ⟨[.k 0],⟨rfl,rfl,congrArg u32 (zP_zero (hm0 i)).symm,rfl,rfl,trivial⟩,⟨_,rfl,rfl⟩,trivial⟩ fun k hk=> ?_
  refine spl_d (fun h=> ?_) (fun h=> ?_)
  ·have hkl:k<8:=(by omega)
   refine⟨by omega,by omega,by omega,by omega,?_⟩
   refine⟨_,by simp only[Zb,Zd,Ze];exact fRM_get i hlt k hkl,?_⟩
   refine⟨by omega,by omega,?_⟩
   refine⟨_,by rw[Zb];exact bv_getD (by omega),?_⟩
   refine⟨[],_,_,_,_,c_r3_mul (m:=333) rfl rfl (by decide) (by decide),rfl,rfl,?_⟩
   refine⟨by simp only[IntKind.wrap_i64,wrap_u64];omega,?_⟩
   refine⟨k+1,by omega,by omega,[.k 0],⟨rfl,rfl,?_,rfl,q7i (by simp(disch:=omega)only[Za];omega),trivial⟩,⟨_,rfl,rfl⟩,trivial⟩
   rw[zP_succ (mixB_succ _ _ _ _ _)]
   exact congrArg (vi .u32) (z_step (x:=0) hlt)
  ·obtain rfl:k=8:=(by omega)
   exact⟨i+1,by omega,by omega,[.k 0],⟨rfl,rfl,rfl,q7i (by simp(disch:=omega)only[Za];omega),trivial⟩,⟨_,rfl,rfl⟩,trivial⟩
 ·obtain rfl:i=4:=(by omega)
  refine⟨_,rfl,[],?_,trivial⟩
  show u32 (zA (mixB 333 fR m) 8 4)=_
  rw[fold8,zA_leW]
theorem c_r9_H {z:Int} {x:UInt32} {n:Nat} {va:List Value} {l:List UInt32} (hz:z=x.toNat) (ha:va=wv l) (hl:l.length=n) (h4:2≤n∧n≤4):Con C N.r9_H [vi .u32 z,.z n va] [] (.ret (u32 (tH x l))) []:=by
 subst hz;subst ha
 generalize hst:stage (tOrd 0) (hG x l l.length l.length)=s
 have hm0:∀p,mixB 361 tMix s p 0=0:=fun _=>rfl
 have hz0:xorL [0,0,0,0] (putL x)=hG x l n 0:=by
  show List.zipWith _ _ _=putL x
  match hp:putL x,putL_len x with
  |[a,b,c,d],_=>simp
 refine fd.r9_H.c ?_
 refine⟨[],_,_,_,_,c_r9_laid (y:=[0,0,0,0]) (l:=x) rfl rfl,rfl,rfl,?_⟩
 rw[hz0]
 refine⟨Zc _,?_⟩
 rcases n with _|_|_|_|_|n
 ·omega
 ·omega
 ·refine⟨_,rfl,rfl,?_⟩
  refine⟨[],_,_,_,_,c_r9_stage (y:=hG x l 2 0) (hG_len _ _ _ _) (by decide) (by decide) (by decide) (by decide),rfl,rfl,?_⟩
  refine⟨by decide,by decide,?_⟩
  refine⟨_,wv_getD (i:=1) (by omega),?_⟩
  refine⟨[],_,_,_,_,c_r9_laid (y:=stage (tOrd 2) (hG x l 2 0)) (stage_len _ _) rfl,rfl,rfl,?_⟩
  refine⟨Zc _,?_⟩
  refine⟨_,rfl,rfl,?_⟩
  refine⟨[],_,_,_,_,c_r9_stage (y:=hG x l 2 1) (hG_len _ _ _ _) (by decide) (by decide) (by decide) (by decide),rfl,rfl,?_⟩
  refine⟨by decide,by decide,?_⟩
  refine⟨_,wv_getD (i:=0) (by omega),?_⟩
  refine⟨[],_,_,_,_,c_r9_laid (y:=stage (tOrd 1) (hG x l 2 1)) (stage_len _ _) rfl,rfl,rfl,?_⟩
  refine⟨Zc _,?_⟩
  refine⟨_,rfl,rfl,?_⟩
  refine⟨[],_,_,_,_,c_r9_stage (y:=hG x l 2 2) (hG_len _ _ _ _) (by decide) (by decide) (by decide) (by decide),rfl,rfl,?_⟩
  refine⟨Zc _,Zc _,?_⟩
  have hss:stage [1,0,1,0] (hG x l 2 2)=s:=by rw[←hst,hl];rfl
  rw[hss]
  refine loopN (fun i=>⟨[(5,.p (.k 0) 0),(6,.p (.k 1) 0),(7,u32 (zA (mixB 361 tMix s) 4 i)),(8,i64 i)],[b4M s,.mx [u8 1,u8 239,u8 91,u8 91,u8 91,u8 239,u8 239,u8 1,u8 239,u8 91,u8 1,u8 239,u8 239,u8 1,u8 239,u8 91]]⟩) 4 ⟨[.d 5 0,.d 6 0],⟨rfl,rfl,rfl,rfl,trivial⟩,⟨_,rfl,rfl⟩,⟨_,rfl,rfl⟩,trivial⟩ fun i hi=> ?_
  refine spl_d (fun h=> ?_) (fun h=> ?_)
  ·have hlt:i<4:=(by omega)
   refine loopN (fun k=>⟨[(5,.p (.k 0) 0),(6,.p (.k 1) 0),(7,u32 (zP (mixB 361 tMix s) 4 i k)),(8,i64 i),(9,i64 k)],[b4M s,.mx [u8 1,u8 239,u8 91,u8 91,u8 91,u8 239,u8 239,u8 1,u8 239,u8 91,u8 1,u8 239,u8 239,u8 1,u8 239,u8 91]]⟩) 4 ⟨[.k 0,.k 1],⟨rfl,rfl,congrArg u32 (zP_zero (hm0 i)).symm,rfl,rfl,trivial⟩,⟨_,rfl,rfl⟩,⟨_,rfl,rfl⟩,trivial⟩ fun k hk=> ?_
   refine spl_d (fun h=> ?_) (fun h=> ?_)
   ·have hkl:k<4:=(by omega)
    refine⟨by omega,by omega,by omega,by omega,?_⟩
    refine⟨_,by simp only[Zb,Zd,Ze];exact mixM_get i hlt k hkl,?_⟩
    refine⟨by omega,by omega,?_⟩
    refine⟨_,by simp only[Zb,Zd,Ze];exact b4_get hkl,?_⟩
    refine⟨[],_,_,_,_,c_r3_mul (m:=361) rfl rfl (by decide) (by decide),rfl,rfl,?_⟩
    refine⟨by simp only[IntKind.wrap_i64,wrap_u64];omega,?_⟩
    refine⟨k+1,by omega,by omega,[.k 0,.k 1],⟨rfl,rfl,?_,rfl,q7i (by simp(disch:=omega)only[Za];omega),trivial⟩,⟨_,rfl,rfl⟩,⟨_,rfl,rfl⟩,trivial⟩
    rw[zP_succ (mixB_succ _ _ _ _ _)]
    exact congrArg (vi .u32) (z_step (x:=0) hlt)
   ·obtain rfl:k=4:=(by omega)
    exact⟨i+1,by omega,by omega,[.k 0,.k 1],⟨rfl,rfl,rfl,q7i (by simp(disch:=omega)only[Za];omega),trivial⟩,⟨_,rfl,rfl⟩,⟨_,rfl,rfl⟩,trivial⟩
  ·obtain rfl:i=4:=(by omega)
   refine⟨_,rfl,[],?_,trivial⟩
   show u32 (zA (mixB 361 tMix s) 4 4)=_
   rw[tH,hst,zA_leW]
 ·refine⟨_,rfl,rfl,?_⟩
  refine⟨[],_,_,_,_,c_r9_stage (y:=hG x l 3 0) (hG_len _ _ _ _) (by decide) (by decide) (by decide) (by decide),rfl,rfl,?_⟩
  refine⟨by decide,by decide,?_⟩
  refine⟨_,wv_getD (i:=2) (by omega),?_⟩
  refine⟨[],_,_,_,_,c_r9_laid (y:=stage (tOrd 3) (hG x l 3 0)) (stage_len _ _) rfl,rfl,rfl,?_⟩
  refine⟨Zc _,?_⟩
  refine⟨_,rfl,rfl,?_⟩
  refine⟨[],_,_,_,_,c_r9_stage (y:=hG x l 3 1) (hG_len _ _ _ _) (by decide) (by decide) (by decide) (by decide),rfl,rfl,?_⟩
  refine⟨by decide,by decide,?_⟩
  refine⟨_,wv_getD (i:=1) (by omega),?_⟩
  refine⟨[],_,_,_,_,c_r9_laid (y:=stage (tOrd 2) (hG x l 3 1)) (stage_len _ _) rfl,rfl,rfl,?_⟩
  refine⟨Zc _,?_⟩
  refine⟨_,rfl,rfl,?_⟩
  refine⟨[],_,_,_,_,c_r9_stage (y:=hG x l 3 2) (hG_len _ _ _ _) (by decide) (by decide) (by decide) (by decide),rfl,rfl,?_⟩
  refine⟨by decide,by decide,?_⟩
  refine⟨_,wv_getD (i:=0) (by omega),?_⟩
  refine⟨[],_,_,_,_,c_r9_laid (y:=stage (tOrd 1) (hG x l 3 2)) (stage_len _ _) rfl,rfl,rfl,?_⟩
  refine⟨Zc _,?_⟩
  refine⟨_,rfl,rfl,?_⟩
  refine⟨[],_,_,_,_,c_r9_stage (y:=hG x l 3 3) (hG_len _ _ _ _) (by decide) (by decide) (by decide) (by decide),rfl,rfl,?_⟩
  refine⟨Zc _,Zc _,?_⟩
  have hss:stage [1,0,1,0] (hG x l 3 3)=s:=by rw[←hst,hl];rfl
  rw[hss]
  refine loopN (fun i=>⟨[(5,.p (.k 0) 0),(6,.p (.k 1) 0),(7,u32 (zA (mixB 361 tMix s) 4 i)),(8,i64 i)],[b4M s,.mx [u8 1,u8 239,u8 91,u8 91,u8 91,u8 239,u8 239,u8 1,u8 239,u8 91,u8 1,u8 239,u8 239,u8 1,u8 239,u8 91]]⟩) 4 ⟨[.d 5 0,.d 6 0],⟨rfl,rfl,rfl,rfl,trivial⟩,⟨_,rfl,rfl⟩,⟨_,rfl,rfl⟩,trivial⟩ fun i hi=> ?_
  refine spl_d (fun h=> ?_) (fun h=> ?_)
  ·have hlt:i<4:=(by omega)
   refine loopN (fun k=>⟨[(5,.p (.k 0) 0),(6,.p (.k 1) 0),(7,u32 (zP (mixB 361 tMix s) 4 i k)),(8,i64 i),(9,i64 k)],[b4M s,.mx [u8 1,u8 239,u8 91,u8 91,u8 91,u8 239,u8 239,u8 1,u8 239,u8 91,u8 1,u8 239,u8 239,u8 1,u8 239,u8 91]]⟩) 4 ⟨[.k 0,.k 1],⟨rfl,rfl,congrArg u32 (zP_zero (hm0 i)).symm,rfl,rfl,trivial⟩,⟨_,rfl,rfl⟩,⟨_,rfl,rfl⟩,trivial⟩ fun k hk=> ?_
   refine spl_d (fun h=> ?_) (fun h=> ?_)
   ·have hkl:k<4:=(by omega)
    refine⟨by omega,by omega,by omega,by omega,?_⟩
    refine⟨_,by simp only[Zb,Zd,Ze];exact mixM_get i hlt k hkl,?_⟩
    refine⟨by omega,by omega,?_⟩
    refine⟨_,by simp only[Zb,Zd,Ze];exact b4_get hkl,?_⟩
    refine⟨[],_,_,_,_,c_r3_mul (m:=361) rfl rfl (by decide) (by decide),rfl,rfl,?_⟩
    refine⟨by simp only[IntKind.wrap_i64,wrap_u64];omega,?_⟩
    refine⟨k+1,by omega,by omega,[.k 0,.k 1],⟨rfl,rfl,?_,rfl,q7i (by simp(disch:=omega)only[Za];omega),trivial⟩,⟨_,rfl,rfl⟩,⟨_,rfl,rfl⟩,trivial⟩
    rw[zP_succ (mixB_succ _ _ _ _ _)]
    exact congrArg (vi .u32) (z_step (x:=0) hlt)
   ·obtain rfl:k=4:=(by omega)
    exact⟨i+1,by omega,by omega,[.k 0,.k 1],⟨rfl,rfl,rfl,q7i (by simp(disch:=omega)only[Za];omega),trivial⟩,⟨_,rfl,rfl⟩,⟨_,rfl,rfl⟩,trivial⟩
  ·obtain rfl:i=4:=(by omega)
   refine⟨_,rfl,[],?_,trivial⟩
   show u32 (zA (mixB 361 tMix s) 4 4)=_
   rw[tH,hst,zA_leW]
 ·refine⟨_,rfl,rfl,?_⟩
  refine⟨[],_,_,_,_,c_r9_stage (y:=hG x l 4 0) (hG_len _ _ _ _) (by decide) (by decide) (by decide) (by decide),rfl,rfl,?_⟩
  refine⟨by decide,by decide,?_⟩
  refine⟨_,wv_getD (i:=3) (by omega),?_⟩
  refine⟨[],_,_,_,_,c_r9_laid (y:=stage (tOrd 4) (hG x l 4 0)) (stage_len _ _) rfl,rfl,rfl,?_⟩
  refine⟨Zc _,?_⟩
  refine⟨_,rfl,rfl,?_⟩
  refine⟨[],_,_,_,_,c_r9_stage (y:=hG x l 4 1) (hG_len _ _ _ _) (by decide) (by decide) (by decide) (by decide),rfl,rfl,?_⟩
  refine⟨by decide,by decide,?_⟩
  refine⟨_,wv_getD (i:=2) (by omega),?_⟩
  refine⟨[],_,_,_,_,c_r9_laid (y:=stage (tOrd 3) (hG x l 4 1)) (stage_len _ _) rfl,rfl,rfl,?_⟩
  refine⟨Zc _,?_⟩
  refine⟨_,rfl,rfl,?_⟩
  refine⟨[],_,_,_,_,c_r9_stage (y:=hG x l 4 2) (hG_len _ _ _ _) (by decide) (by decide) (by decide) (by decide),rfl,rfl,?_⟩
  refine⟨by decide,by decide,?_⟩
  refine⟨_,wv_getD (i:=1) (by omega),?_⟩
  refine⟨[],_,_,_,_,c_r9_laid (y:=stage (tOrd 2) (hG x l 4 2)) (stage_len _ _) rfl,rfl,rfl,?_⟩
  refine⟨Zc _,?_⟩
  refine⟨_,rfl,rfl,?_⟩
  refine⟨[],_,_,_,_,c_r9_stage (y:=hG x l 4 3) (hG_len _ _ _ _) (by decide) (by decide) (by decide) (by decide),rfl,rfl,?_⟩
  refine⟨by decide,by decide,?_⟩
  refine⟨_,wv_getD (i:=0) (by omega),?_⟩
  refine⟨[],_,_,_,_,c_r9_laid (y:=stage (tOrd 1) (hG x l 4 3)) (stage_len _ _) rfl,rfl,rfl,?_⟩
  refine⟨Zc _,?_⟩
  refine⟨_,rfl,rfl,?_⟩
  refine⟨[],_,_,_,_,c_r9_stage (y:=hG x l 4 4) (hG_len _ _ _ _) (by decide) (by decide) (by decide) (by decide),rfl,rfl,?_⟩
  refine⟨Zc _,Zc _,?_⟩
  have hss:stage [1,0,1,0] (hG x l 4 4)=s:=by rw[←hst,hl];rfl
  rw[hss]
  refine loopN (fun i=>⟨[(5,.p (.k 0) 0),(6,.p (.k 1) 0),(7,u32 (zA (mixB 361 tMix s) 4 i)),(8,i64 i)],[b4M s,.mx [u8 1,u8 239,u8 91,u8 91,u8 91,u8 239,u8 239,u8 1,u8 239,u8 91,u8 1,u8 239,u8 239,u8 1,u8 239,u8 91]]⟩) 4 ⟨[.d 5 0,.d 6 0],⟨rfl,rfl,rfl,rfl,trivial⟩,⟨_,rfl,rfl⟩,⟨_,rfl,rfl⟩,trivial⟩ fun i hi=> ?_
  refine spl_d (fun h=> ?_) (fun h=> ?_)
  ·have hlt:i<4:=(by omega)
   refine loopN (fun k=>⟨[(5,.p (.k 0) 0),(6,.p (.k 1) 0),(7,u32 (zP (mixB 361 tMix s) 4 i k)),(8,i64 i),(9,i64 k)],[b4M s,.mx [u8 1,u8 239,u8 91,u8 91,u8 91,u8 239,u8 239,u8 1,u8 239,u8 91,u8 1,u8 239,u8 239,u8 1,u8 239,u8 91]]⟩) 4 ⟨[.k 0,.k 1],⟨rfl,rfl,congrArg u32 (zP_zero (hm0 i)).symm,rfl,rfl,trivial⟩,⟨_,rfl,rfl⟩,⟨_,rfl,rfl⟩,trivial⟩ fun k hk=> ?_
   refine spl_d (fun h=> ?_) (fun h=> ?_)
   ·have hkl:k<4:=(by omega)
    refine⟨by omega,by omega,by omega,by omega,?_⟩
    refine⟨_,by simp only[Zb,Zd,Ze];exact mixM_get i hlt k hkl,?_⟩
    refine⟨by omega,by omega,?_⟩
    refine⟨_,by simp only[Zb,Zd,Ze];exact b4_get hkl,?_⟩
    refine⟨[],_,_,_,_,c_r3_mul (m:=361) rfl rfl (by decide) (by decide),rfl,rfl,?_⟩
    refine⟨by simp only[IntKind.wrap_i64,wrap_u64];omega,?_⟩
    refine⟨k+1,by omega,by omega,[.k 0,.k 1],⟨rfl,rfl,?_,rfl,q7i (by simp(disch:=omega)only[Za];omega),trivial⟩,⟨_,rfl,rfl⟩,⟨_,rfl,rfl⟩,trivial⟩
    rw[zP_succ (mixB_succ _ _ _ _ _)]
    exact congrArg (vi .u32) (z_step (x:=0) hlt)
   ·obtain rfl:k=4:=(by omega)
    exact⟨i+1,by omega,by omega,[.k 0,.k 1],⟨rfl,rfl,rfl,q7i (by simp(disch:=omega)only[Za];omega),trivial⟩,⟨_,rfl,rfl⟩,⟨_,rfl,rfl⟩,trivial⟩
  ·obtain rfl:i=4:=(by omega)
   refine⟨_,rfl,[],?_,trivial⟩
   show u32 (zA (mixB 361 tMix s) 4 4)=_
   rw[tH,hst,zA_leW]
 ·omega
theorem leW_conv (l:Bs):U3.wrap ((loadL l.reverse).toNat:Int)=((leW l).toNat:Int):=u64_u32 _
theorem two_r:∀r:Nat,r<20→U3.wrap (I6.wrap (2*(r:Int)))=((2*Zk r).toNat:Int):=by decide +kernel
theorem two_r1:∀r:Nat,r<20→U3.wrap (I6.wrap (I6.wrap (2*(r:Int))+1))=((2*Zk r+1).toNat:Int):=by decide +kernel
theorem c_r9_keys {n m:Nat} {va:List Value} {key:Bs} (ha:va=bv key) (hk:key.length=m) (hm:m=8*n) (hn:2≤n∧n≤4):
  Con C N.r9_Keys [.z m va] [] (.ret (.t [.o 1 (.k 0) 0 40,.z n (wv (tS key)),i64 0])) [.sc (wv (tK key))]:=by
 subst ha;subst hm
 have hdiv:key.length/8=n:=by omega
 have hK:tK key=kNw (tEv key n) (tOd key n) 20:=by rw[tK,hdiv]
 have hS:tS key=(tFo key n).reverse:=by rw[tS,hdiv]
 rw[hK,hS]
 have e2:∀x:UInt32,U3.wrap (2*(x.toNat:Int))=((2*x).toNat:Int):=fun x=>u32_mul 2 x
 have e3:∀x:UInt32,U3.wrap ((x.toNat:Int)*16843009)=((x*tonesW).toNat:Int):=fun x=>u32_mul x tonesW
 refine fd.r9_Keys.c ?_
 rcases n with _|_|_|_|_|n
 ·omega
 ·omega
 ·refine loopNn (fun i=>⟨[(0,.z 16 (bv key)),(5,.o 1 (.k 0) 0 i),(6,.o 1 (.k 1) 0 i),(7,.o 1 (.k 2) 0 i),(8,nilv),(9,i64 (8*i:Nat))],[.sc (wv (tEv key i)),.sc (wv (tOd key i)),.sc (wv (tFo key i).reverse)]⟩) 2 [(5,1,.sc []),(6,1,.sc []),(7,1,.sc [])] ⟨[.d 900000 0,.d 900000 1,.d 900000 2],⟨rfl,rfl,rfl,rfl,rfl,rfl,trivial⟩,⟨_,rfl,rfl⟩,⟨_,rfl,rfl⟩,⟨_,rfl,rfl⟩,trivial⟩ fun i hi=> ?_
  refine spl_d (fun h=> ?_) (fun h=> ?_)
  ·have hlt:i<2:=(by omega)
   have f1:(I6.wrap (((8*i:Nat):Int)+4)).toNat=8*i+4:=(by simp(disch:=omega)only[Za];omega)
   have f2:(I6.wrap (((8*i:Nat):Int)+8)).toNat=8*i+8:=(by simp(disch:=omega)only[Za];omega)
   refine⟨by omega,by omega,by rw[f1];omega,Zc _,by rw[f1];show _≤16;omega,?_⟩
   rw[f1,Zb,show 8*i+4-8*i=4 by omega]
   refine⟨[],_,_,_,_,c_little (l:=sub key (8*i) 4) (bv_sub _ _ _) (by rw[sub_length];omega) (by decide),rfl,rfl,?_⟩
   refine⟨Zc _,by omega,by rw[wv_len,tEv_len];omega,?_⟩
   refine⟨by omega,by omega,by rw[f1,f2];omega,Zc _,by rw[f2];show _≤16;omega,?_⟩
   rw[f1,f2,show 8*i+8-(8*i+4)=4 by omega]
   refine⟨[],_,_,_,_,c_little (l:=sub key (8*i+4) 4) (bv_sub _ _ _) (by rw[sub_length];omega) (by decide),rfl,rfl,?_⟩
   refine⟨Zc _,by omega,by rw[wv_len,tOd_len];omega,?_⟩
   refine⟨by omega,by omega,by rw[f2];omega,Zc _,by rw[f2];show _≤16;omega,?_⟩
   rw[f2,Zb,show 8*i+8-8*i=8 by omega]
   refine⟨[],_,_,_,_,c_r9_told (m:=sub key (8*i) 8) (bv_sub _ _ _) (by rw[sub_length];omega),rfl,rfl,?_⟩
   refine⟨by rw[wv_len,Zj,tFo_len];omega,by omega,Zc _,?_⟩
   refine⟨i+1,by omega,by omega,[.d 41 0,.d 52 0,.d 61 0],⟨rfl,rfl,rfl,?_,rfl,q7i (by simp(disch:=omega)only[Za];omega),trivial⟩,⟨_,rfl,q7s ?_⟩,⟨_,rfl,q7s ?_⟩,⟨_,rfl,q7s ?_⟩,trivial⟩
   ·show V.o 1 _ 0 _=V.o 1 _ 0 _
    rw[Z6]
   ·rw[tEv_succ]
    show sub (wv (tEv key i)) 0 (i*1)++[Value.int .u32 (U3.wrap ((loadL (sub key (8*i) 4).reverse).toNat:Int))]=_
    rw[leW_conv,Zd];exact wv_app1 (by rw[tEv_len])
   ·rw[tOd_succ]
    show sub (wv (tOd key i)) 0 (i*1)++[Value.int .u32 (U3.wrap ((loadL (sub key (8*i+4) 4).reverse).toNat:Int))]=_
    rw[leW_conv,Zd];exact wv_app1 (by rw[tOd_len])
   ·rw[tFo_succ,Z0]
    show[Value.int .u32 ((fold8 (sub key (8*i) 8)).toNat:Int)]++sub (wv (tFo key i).reverse) 0 (i*1)=_
    rw[Zd,wv_all (by rw[Zj,tFo_len])];rfl
  ·obtain rfl:i=2:=(by omega)
   refine loopNn (fun r=>⟨[(5,.z 2 (wv (tEv key 2))),(6,.z 2 (wv (tOd key 2))),(7,.z 2 (wv (tFo key 2).reverse)),(8,.o 1 (.k 0) 0 (2*r)),(10,i64 r)],[.sc (wv (kNw (tEv key 2) (tOd key 2) r))]⟩) 20 [(8,1,.sc [])] ⟨[.d 900000 0],⟨?_,?_,?_,rfl,rfl,trivial⟩,⟨_,rfl,rfl⟩,trivial⟩ fun r hr=> ?_
   ·show V.z 2 (sub _ 0 2)=_
    rw[wv_all (tEv_len _ _)]
   ·show V.z 2 (sub _ 0 2)=_
    rw[wv_all (tOd_len _ _)]
   ·show V.z 2 (sub _ 0 2)=_
    rw[wv_all (by rw[Zj,tFo_len])]
   have hkl:=kNw_len (tEv key 2) (tOd key 2) r
   refine spl_d (fun h=> ?_) (fun h=> ?_)
   ·have hlt:r<20:=(by omega)
    refine⟨[],_,_,_,_,c_r9_H (x:=2*Zk r*tonesW) (l:=tEv key 2) (by rw[two_r r hlt,e3]) rfl (tEv_len _ _) (by decide),rfl,rfl,?_⟩
    refine⟨[],_,_,_,_,c_r9_H (x:=(2*Zk r+1)*tonesW) (l:=tOd key 2) (by rw[two_r1 r hlt,e3]) rfl (tOd_len _ _) (by decide),rfl,rfl,?_⟩
    refine⟨[],_,_,_,_,c_r1_rol32' (k:=8) rfl (by decide) (by decide),rfl,rfl,?_⟩
    refine⟨[],_,_,_,_,c_r1_rol32' (v:=kWa (tEv key 2) r+2*kWc (tOd key 2) r) (k:=9) (by rw[e2];exact u32_add _ _) (by decide) (by decide),rfl,rfl,?_⟩
    refine⟨Zc _,by omega,by rw[wv_len,hkl];omega,?_⟩
    refine⟨r+1,by omega,by omega,[.d 90 0],⟨rfl,rfl,rfl,rfl,q7i (by simp(disch:=omega)only[Za];omega),trivial⟩,⟨_,rfl,q7s ?_⟩,trivial⟩
    show sub (wv (kNw (tEv key 2) (tOd key 2) r)) 0 (2*r*1)++[Value.int .u32 (U3.wrap (((kWa (tEv key 2) r).toNat:Int)+((kWc (tOd key 2) r).toNat:Int))),Value.int .u32 ((rol (kWa (tEv key 2) r+2*kWc (tOd key 2) r) 9).toNat:Int)]=_
    rw[Zd,wv_all hkl,u32_add,kNw_succ,←wv_app];rfl
   ·obtain rfl:r=20:=(by omega)
    exact⟨_,rfl,[.k 0],rfl,⟨_,rfl,rfl⟩,trivial⟩
 ·refine loopNn (fun i=>⟨[(0,.z 24 (bv key)),(5,.o 1 (.k 0) 0 i),(6,.o 1 (.k 1) 0 i),(7,.o 1 (.k 2) 0 i),(8,nilv),(9,i64 (8*i:Nat))],[.sc (wv (tEv key i)),.sc (wv (tOd key i)),.sc (wv (tFo key i).reverse)]⟩) 3 [(5,1,.sc []),(6,1,.sc []),(7,1,.sc [])] ⟨[.d 900000 0,.d 900000 1,.d 900000 2],⟨rfl,rfl,rfl,rfl,rfl,rfl,trivial⟩,⟨_,rfl,rfl⟩,⟨_,rfl,rfl⟩,⟨_,rfl,rfl⟩,trivial⟩ fun i hi=> ?_
  refine spl_d (fun h=> ?_) (fun h=> ?_)
  ·have hlt:i<3:=(by omega)
   have f1:(I6.wrap (((8*i:Nat):Int)+4)).toNat=8*i+4:=(by simp(disch:=omega)only[Za];omega)
   have f2:(I6.wrap (((8*i:Nat):Int)+8)).toNat=8*i+8:=(by simp(disch:=omega)only[Za];omega)
   refine⟨by omega,by omega,by rw[f1];omega,Zc _,by rw[f1];show _≤24;omega,?_⟩
   rw[f1,Zb,show 8*i+4-8*i=4 by omega]
   refine⟨[],_,_,_,_,c_little (l:=sub key (8*i) 4) (bv_sub _ _ _) (by rw[sub_length];omega) (by decide),rfl,rfl,?_⟩
   refine⟨Zc _,by omega,by rw[wv_len,tEv_len];omega,?_⟩
   refine⟨by omega,by omega,by rw[f1,f2];omega,Zc _,by rw[f2];show _≤24;omega,?_⟩
   rw[f1,f2,show 8*i+8-(8*i+4)=4 by omega]
   refine⟨[],_,_,_,_,c_little (l:=sub key (8*i+4) 4) (bv_sub _ _ _) (by rw[sub_length];omega) (by decide),rfl,rfl,?_⟩
   refine⟨Zc _,by omega,by rw[wv_len,tOd_len];omega,?_⟩
   refine⟨by omega,by omega,by rw[f2];omega,Zc _,by rw[f2];show _≤24;omega,?_⟩
   rw[f2,Zb,show 8*i+8-8*i=8 by omega]
   refine⟨[],_,_,_,_,c_r9_told (m:=sub key (8*i) 8) (bv_sub _ _ _) (by rw[sub_length];omega),rfl,rfl,?_⟩
   refine⟨by rw[wv_len,Zj,tFo_len];omega,by omega,Zc _,?_⟩
   refine⟨i+1,by omega,by omega,[.d 41 0,.d 52 0,.d 61 0],⟨rfl,rfl,rfl,?_,rfl,q7i (by simp(disch:=omega)only[Za];omega),trivial⟩,⟨_,rfl,q7s ?_⟩,⟨_,rfl,q7s ?_⟩,⟨_,rfl,q7s ?_⟩,trivial⟩
   ·show V.o 1 _ 0 _=V.o 1 _ 0 _
    rw[Z6]
   ·rw[tEv_succ]
    show sub (wv (tEv key i)) 0 (i*1)++[Value.int .u32 (U3.wrap ((loadL (sub key (8*i) 4).reverse).toNat:Int))]=_
    rw[leW_conv,Zd];exact wv_app1 (by rw[tEv_len])
   ·rw[tOd_succ]
    show sub (wv (tOd key i)) 0 (i*1)++[Value.int .u32 (U3.wrap ((loadL (sub key (8*i+4) 4).reverse).toNat:Int))]=_
    rw[leW_conv,Zd];exact wv_app1 (by rw[tOd_len])
   ·rw[tFo_succ,Z0]
    show[Value.int .u32 ((fold8 (sub key (8*i) 8)).toNat:Int)]++sub (wv (tFo key i).reverse) 0 (i*1)=_
    rw[Zd,wv_all (by rw[Zj,tFo_len])];rfl
  ·obtain rfl:i=3:=(by omega)
   refine loopNn (fun r=>⟨[(5,.z 3 (wv (tEv key 3))),(6,.z 3 (wv (tOd key 3))),(7,.z 3 (wv (tFo key 3).reverse)),(8,.o 1 (.k 0) 0 (2*r)),(10,i64 r)],[.sc (wv (kNw (tEv key 3) (tOd key 3) r))]⟩) 20 [(8,1,.sc [])] ⟨[.d 900000 0],⟨?_,?_,?_,rfl,rfl,trivial⟩,⟨_,rfl,rfl⟩,trivial⟩ fun r hr=> ?_
   ·show V.z 3 (sub _ 0 3)=_
    rw[wv_all (tEv_len _ _)]
   ·show V.z 3 (sub _ 0 3)=_
    rw[wv_all (tOd_len _ _)]
   ·show V.z 3 (sub _ 0 3)=_
    rw[wv_all (by rw[Zj,tFo_len])]
   have hkl:=kNw_len (tEv key 3) (tOd key 3) r
   refine spl_d (fun h=> ?_) (fun h=> ?_)
   ·have hlt:r<20:=(by omega)
    refine⟨[],_,_,_,_,c_r9_H (x:=2*Zk r*tonesW) (l:=tEv key 3) (by rw[two_r r hlt,e3]) rfl (tEv_len _ _) (by decide),rfl,rfl,?_⟩
    refine⟨[],_,_,_,_,c_r9_H (x:=(2*Zk r+1)*tonesW) (l:=tOd key 3) (by rw[two_r1 r hlt,e3]) rfl (tOd_len _ _) (by decide),rfl,rfl,?_⟩
    refine⟨[],_,_,_,_,c_r1_rol32' (k:=8) rfl (by decide) (by decide),rfl,rfl,?_⟩
    refine⟨[],_,_,_,_,c_r1_rol32' (v:=kWa (tEv key 3) r+2*kWc (tOd key 3) r) (k:=9) (by rw[e2];exact u32_add _ _) (by decide) (by decide),rfl,rfl,?_⟩
    refine⟨Zc _,by omega,by rw[wv_len,hkl];omega,?_⟩
    refine⟨r+1,by omega,by omega,[.d 90 0],⟨rfl,rfl,rfl,rfl,q7i (by simp(disch:=omega)only[Za];omega),trivial⟩,⟨_,rfl,q7s ?_⟩,trivial⟩
    show sub (wv (kNw (tEv key 3) (tOd key 3) r)) 0 (2*r*1)++[Value.int .u32 (U3.wrap (((kWa (tEv key 3) r).toNat:Int)+((kWc (tOd key 3) r).toNat:Int))),Value.int .u32 ((rol (kWa (tEv key 3) r+2*kWc (tOd key 3) r) 9).toNat:Int)]=_
    rw[Zd,wv_all hkl,u32_add,kNw_succ,←wv_app];rfl
   ·obtain rfl:r=20:=(by omega)
    exact⟨_,rfl,[.k 0],rfl,⟨_,rfl,rfl⟩,trivial⟩
 ·refine loopNn (fun i=>⟨[(0,.z 32 (bv key)),(5,.o 1 (.k 0) 0 i),(6,.o 1 (.k 1) 0 i),(7,.o 1 (.k 2) 0 i),(8,nilv),(9,i64 (8*i:Nat))],[.sc (wv (tEv key i)),.sc (wv (tOd key i)),.sc (wv (tFo key i).reverse)]⟩) 4 [(5,1,.sc []),(6,1,.sc []),(7,1,.sc [])] ⟨[.d 900000 0,.d 900000 1,.d 900000 2],⟨rfl,rfl,rfl,rfl,rfl,rfl,trivial⟩,⟨_,rfl,rfl⟩,⟨_,rfl,rfl⟩,⟨_,rfl,rfl⟩,trivial⟩ fun i hi=> ?_
  refine spl_d (fun h=> ?_) (fun h=> ?_)
  ·have hlt:i<4:=(by omega)
   have f1:(I6.wrap (((8*i:Nat):Int)+4)).toNat=8*i+4:=(by simp(disch:=omega)only[Za];omega)
   have f2:(I6.wrap (((8*i:Nat):Int)+8)).toNat=8*i+8:=(by simp(disch:=omega)only[Za];omega)
   refine⟨by omega,by omega,by rw[f1];omega,Zc _,by rw[f1];show _≤32;omega,?_⟩
   rw[f1,Zb,show 8*i+4-8*i=4 by omega]
   refine⟨[],_,_,_,_,c_little (l:=sub key (8*i) 4) (bv_sub _ _ _) (by rw[sub_length];omega) (by decide),rfl,rfl,?_⟩
   refine⟨Zc _,by omega,by rw[wv_len,tEv_len];omega,?_⟩
   refine⟨by omega,by omega,by rw[f1,f2];omega,Zc _,by rw[f2];show _≤32;omega,?_⟩
   rw[f1,f2,show 8*i+8-(8*i+4)=4 by omega]
   refine⟨[],_,_,_,_,c_little (l:=sub key (8*i+4) 4) (bv_sub _ _ _) (by rw[sub_length];omega) (by decide),rfl,rfl,?_⟩
   refine⟨Zc _,by omega,by rw[wv_len,tOd_len];omega,?_⟩
   refine⟨by omega,by omega,by rw[f2];omega,Zc _,by rw[f2];show _≤32;omega,?_⟩
   rw[f2,Zb,show 8*i+8-8*i=8 by omega]
   refine⟨[],_,_,_,_,c_r9_told (m:=sub key (8*i) 8) (bv_sub _ _ _) (by rw[sub_length];omega),rfl,rfl,?_⟩
   refine⟨by rw[wv_len,Zj,tFo_len];omega,by omega,Zc _,?_⟩
   refine⟨i+1,by omega,by omega,[.d 41 0,.d 52 0,.d 61 0],⟨rfl,rfl,rfl,?_,rfl,q7i (by simp(disch:=omega)only[Za];omega),trivial⟩,⟨_,rfl,q7s ?_⟩,⟨_,rfl,q7s ?_⟩,⟨_,rfl,q7s ?_⟩,trivial⟩
   ·show V.o 1 _ 0 _=V.o 1 _ 0 _
    rw[Z6]
   ·rw[tEv_succ]
    show sub (wv (tEv key i)) 0 (i*1)++[Value.int .u32 (U3.wrap ((loadL (sub key (8*i) 4).reverse).toNat:Int))]=_
    rw[leW_conv,Zd];exact wv_app1 (by rw[tEv_len])
   ·rw[tOd_succ]
    show sub (wv (tOd key i)) 0 (i*1)++[Value.int .u32 (U3.wrap ((loadL (sub key (8*i+4) 4).reverse).toNat:Int))]=_
    rw[leW_conv,Zd];exact wv_app1 (by rw[tOd_len])
   ·rw[tFo_succ,Z0]
    show[Value.int .u32 ((fold8 (sub key (8*i) 8)).toNat:Int)]++sub (wv (tFo key i).reverse) 0 (i*1)=_
    rw[Zd,wv_all (by rw[Zj,tFo_len])];rfl
  ·obtain rfl:i=4:=(by omega)
   refine loopNn (fun r=>⟨[(5,.z 4 (wv (tEv key 4))),(6,.z 4 (wv (tOd key 4))),(7,.z 4 (wv (tFo key 4).reverse)),(8,.o 1 (.k 0) 0 (2*r)),(10,i64 r)],[.sc (wv (kNw (tEv key 4) (tOd key 4) r))]⟩) 20 [(8,1,.sc [])] ⟨[.d 900000 0],⟨?_,?_,?_,rfl,rfl,trivial⟩,⟨_,rfl,rfl⟩,trivial⟩ fun r hr=> ?_
   ·show V.z 4 (sub _ 0 4)=_
    rw[wv_all (tEv_len _ _)]
   ·show V.z 4 (sub _ 0 4)=_
    rw[wv_all (tOd_len _ _)]
   ·show V.z 4 (sub _ 0 4)=_
    rw[wv_all (by rw[Zj,tFo_len])]
   have hkl:=kNw_len (tEv key 4) (tOd key 4) r
   refine spl_d (fun h=> ?_) (fun h=> ?_)
   ·have hlt:r<20:=(by omega)
    refine⟨[],_,_,_,_,c_r9_H (x:=2*Zk r*tonesW) (l:=tEv key 4) (by rw[two_r r hlt,e3]) rfl (tEv_len _ _) (by decide),rfl,rfl,?_⟩
    refine⟨[],_,_,_,_,c_r9_H (x:=(2*Zk r+1)*tonesW) (l:=tOd key 4) (by rw[two_r1 r hlt,e3]) rfl (tOd_len _ _) (by decide),rfl,rfl,?_⟩
    refine⟨[],_,_,_,_,c_r1_rol32' (k:=8) rfl (by decide) (by decide),rfl,rfl,?_⟩
    refine⟨[],_,_,_,_,c_r1_rol32' (v:=kWa (tEv key 4) r+2*kWc (tOd key 4) r) (k:=9) (by rw[e2];exact u32_add _ _) (by decide) (by decide),rfl,rfl,?_⟩
    refine⟨Zc _,by omega,by rw[wv_len,hkl];omega,?_⟩
    refine⟨r+1,by omega,by omega,[.d 90 0],⟨rfl,rfl,rfl,rfl,q7i (by simp(disch:=omega)only[Za];omega),trivial⟩,⟨_,rfl,q7s ?_⟩,trivial⟩
    show sub (wv (kNw (tEv key 4) (tOd key 4) r)) 0 (2*r*1)++[Value.int .u32 (U3.wrap (((kWa (tEv key 4) r).toNat:Int)+((kWc (tOd key 4) r).toNat:Int))),Value.int .u32 ((rol (kWa (tEv key 4) r+2*kWc (tOd key 4) r) 9).toNat:Int)]=_
    rw[Zd,wv_all hkl,u32_add,kNw_succ,←wv_app];rfl
   ·obtain rfl:r=20:=(by omega)
    exact⟨_,rfl,[.k 0],rfl,⟨_,rfl,rfl⟩,trivial⟩
 ·omega
theorem c_r9_new {n m:Nat} {va:List Value} {key:Bs} (ha:va=bv key) (hk:key.length=m) (hm:m=8*n) (hn:2≤n∧n≤4):Con C N.r9_New [.z m va] [] (.ret (.t [twoV (tK key) (tS key),i64 0])) []:=by
 refine fd.r9_New.c ?_
 refine⟨[],_,_,_,_,c_r9_keys ha hk hm hn,rfl,rfl,?_⟩
 refine⟨_,rfl,[],?_,trivial⟩
 show V.t [.q [.z 40 (sub _ 0 40),.z n _] 0,i64 0]=V.t [.q [.z _ _,.z _ _] 0,i64 0]
 rw[wv_all (tK_len key),tK_len,tS_len (n:=n) (by omega)]
theorem c_r9_sums {k s:List UInt32} {x y:Int} {a c:UInt32} (hx:x=a.toNat) (hy:y=c.toNat) (hs:2≤s.length∧s.length≤4):Con C N.r9_Twofish_sums [twoV k s,vi .u32 x,vi .u32 y] [] (.ret (.t [u32 (tH a s+tH (rol c 8) s),u32 (tH a s+2*tH (rol c 8) s)])) []:=by
 subst hx;subst hy
 refine fd.r9_Twofish_sums.c ?_
 have e3:∀x:UInt32,U3.wrap (2*(x.toNat:Int))=((2*x).toNat:Int):=fun x=>u32_mul 2 x
 refine⟨_,rfl,?_⟩
 refine⟨[],_,_,_,_,c_r9_H (l:=s) rfl rfl rfl hs,rfl,rfl,?_⟩
 refine⟨[],_,_,_,_,c_r1_rol32' (k:=8) rfl (by decide) (by decide),rfl,rfl,?_⟩
 refine⟨_,rfl,?_⟩
 refine⟨[],_,_,_,_,c_r9_H (l:=s) rfl rfl rfl hs,rfl,rfl,?_⟩
 refine⟨_,rfl,[],?_,trivial⟩
 show V.t [vi .u32 _,vi .u32 _]=_
 rw[u32_add,e3,u32_add]
abbrev w4M (x:W4):B:= .mx [u32 x.1,u32 x.2.1,u32 x.2.2.1,u32 x.2.2.2]
theorem ldP_at (b:Bs) {i:Nat} (h:i<4):(wv (ldP b 4))[i]? =some (.int .u32 (w4get (ldW b) i).toNat):=by
 rcases i with _|_|_|_|i
 all_goals first|rfl|omega
theorem c_r9_enc {va:List Value} {b:Bs} {k s:List UInt32} (ha:va=bv b) (hb:b.length=16) (hk:k.length=40) (hs:2≤s.length∧s.length≤4):Con C N.r9_Twofish_Block [twoV k s,.z 16 va,bool false] [] (okBlk 16) [.sc (bv (putW (twE k s (ldW b)) 4))]:=by
 subst ha
 refine fd.r9_Twofish_Block.c ?_
 refine loopN (fun i=>⟨[(0,twoV k s),(1,.z 16 (bv b)),(2,bool false),(8,.p (.k 0) 0),(9,i64 i)],[.sc (wv (ldP b i))]⟩) 4 ⟨[.d 8 0],⟨rfl,rfl,rfl,rfl,rfl,trivial⟩,⟨_,rfl,rfl⟩,trivial⟩ fun i hi=> ?_
 refine spl_d (fun h=> ?_) (fun h=> ?_)
 ·have hlt:i<4:=(by omega)
  have e1:(I6.wrap (4*(i:Int))).toNat=4*i:=(by simp(disch:=omega)only[Za];omega)
  have e2:(I6.wrap (I6.wrap (4*(i:Int))+4)).toNat=4*i+4:=(by simp(disch:=omega)only[Za];omega)
  refine⟨by omega,(by simp(disch:=omega)only[Za];omega),by rw[e1,e2];omega,Zc _,by rw[e2];omega,?_⟩
  rw[e1,e2,show 4*i+4-4*i=4 by omega]
  refine⟨[],_,_,_,_,c_little (l:=sub b (4*i) 4) (bv_sub _ _ _) (by rw[sub_length];omega) (by decide),rfl,rfl,?_⟩
  refine⟨by omega,by omega,by show 0+((i:Int)).toNat*1<4;omega,?_⟩
  refine⟨i+1,by omega,by omega,[.k 0],⟨rfl,rfl,rfl,rfl,q7i (by simp(disch:=omega)only[Za];omega),trivial⟩,⟨_,rfl,q7s ?_⟩,trivial⟩
  rw[Zb,Zd,Ze,leW_conv]
  show(wv (ldP b i)).set i (.int .u32 (leW (sub b (4*i) 4)).toNat)=_
  rw[wv_set,ldP_step b hlt]
 obtain rfl:i=4:=(by omega)
 refine⟨_,rfl,?_⟩
 refine⟨by decide,by decide,_,ldP_at b (i:=0) (by decide),?_⟩
 refine⟨by decide,by omega,?_⟩
 refine⟨_,wv_getD (i:=0) (by omega),?_⟩
 refine⟨by decide,by decide,_,ldP_at b (i:=1) (by decide),?_⟩
 refine⟨by decide,by omega,?_⟩
 refine⟨_,wv_getD (i:=1) (by omega),?_⟩
 refine⟨by decide,by decide,_,ldP_at b (i:=2) (by decide),?_⟩
 refine⟨by decide,by omega,?_⟩
 refine⟨_,wv_getD (i:=2) (by omega),?_⟩
 refine⟨by decide,by decide,_,ldP_at b (i:=3) (by decide),?_⟩
 refine⟨by decide,by omega,?_⟩
 refine⟨_,wv_getD (i:=3) (by omega),?_⟩
 refine⟨Zc _,?_⟩
 refine loopN (fun i=>⟨[(0,twoV k s),(8,.p (.k 0) 0),(10,wz k),(14,i64 i)],[w4M (tEn k s (wh k 0 (ldW b)) i)]⟩) 16 ⟨[.k 0],⟨rfl,rfl,rfl,rfl,trivial⟩,⟨_,rfl,mx4u (u32_xor _ _) (u32_xor _ _) (u32_xor _ _) (u32_xor _ _)⟩,trivial⟩ fun i hi=> ?_
 have hst:=tEn_succ k s (wh k 0 (ldW b)) i
 generalize hx:tEn k s (wh k 0 (ldW b)) i=x at hst ⊢
 refine spl_d (fun h=> ?_) (fun h=> ?_)
 ·have hlt:i<16:=(by omega)
  have e1:(I6.wrap (I6.wrap (2*(i:Int))+8)).toNat=2*i+8:=(by simp(disch:=omega)only[Za];omega)
  have e2:(I6.wrap (I6.wrap (2*(i:Int))+9)).toNat=2*i+9:=(by simp(disch:=omega)only[Za];omega)
  refine⟨by decide,by decide,_,rfl,by decide,by decide,_,rfl,?_⟩
  refine⟨[],_,_,_,_,c_r9_sums rfl rfl hs,rfl,rfl,?_⟩
  refine⟨by decide,by decide,_,rfl,by omega,by omega,?_⟩
  refine⟨_,by rw[e1];exact wv_getD (by omega),?_⟩
  refine⟨[],_,_,_,_,c_r1_rol32' (v:=x.2.2.1^^^sumF k s x.1 x.2.1 i) (k:=31) (by rw[u32_add];exact u32_xor _ _) (by decide) (by decide),rfl,rfl,?_⟩
  refine⟨by decide,by decide,by show 3≤4;omega,by decide,by decide,_,rfl,?_⟩
  refine⟨[],_,_,_,_,c_r1_rol32' (k:=1) rfl (by decide) (by decide),rfl,rfl,?_⟩
  refine⟨by omega,by omega,?_⟩
  refine⟨_,by rw[e2];exact wv_getD (by omega),?_⟩
  refine⟨by decide,by decide,by show 4≤4;omega,?_⟩
  refine⟨by decide,by decide,_,rfl,by decide,by decide,_,rfl,by decide,by decide,_,rfl,by decide,by decide,_,rfl,Zc _,?_⟩
  refine⟨i+1,by omega,by omega,[.k 0],⟨rfl,rfl,rfl,q7i (by simp(disch:=omega)only[Za];omega),trivial⟩,⟨_,rfl,?_⟩,trivial⟩
  rw[hst]
  exact mx4u rfl (by rw[u32_add];exact u32_xor _ _) rfl rfl
 obtain rfl:i=16:=(by omega)
 refine⟨by decide,by decide,_,rfl,?_⟩
 refine⟨by decide,by omega,?_⟩
 refine⟨_,wv_getD (i:=4) (by omega),?_⟩
 refine⟨by decide,by decide,_,rfl,?_⟩
 refine⟨by decide,by omega,?_⟩
 refine⟨_,wv_getD (i:=5) (by omega),?_⟩
 refine⟨by decide,by decide,_,rfl,?_⟩
 refine⟨by decide,by omega,?_⟩
 refine⟨_,wv_getD (i:=6) (by omega),?_⟩
 refine⟨by decide,by decide,_,rfl,?_⟩
 refine⟨by decide,by omega,?_⟩
 refine⟨_,wv_getD (i:=7) (by omega),?_⟩
 refine⟨Zc _,?_⟩
 have hfx:wh k 4 (swW x)=twE k s (ldW b):=by rw[←hx];rfl
 rw[←hfx]
 generalize hy:wh k 4 (swW x)=y
 refine loopNn (fun i=>⟨[(8,.p (.k 1) 0),(17,.o 1 (.k 0) 0 (4*i)),(18,i64 i)],[.sc (bv (putW y i)),w4M y]⟩) 4 [(17,1,.sc [])] ⟨[.d 900000 0,.k 0],⟨rfl,rfl,rfl,trivial⟩,⟨_,rfl,rfl⟩,⟨_,rfl,?_⟩,trivial⟩ fun i hi=> ?_
 ·rw[←hy,←hx];exact mx4u (u32_xor _ _) (u32_xor _ _) (u32_xor _ _) (u32_xor _ _)
 refine spl_d (fun h=> ?_) (fun h=> ?_)
 ·have hlt:i<4:=(by omega)
  refine⟨by omega,by omega,?_⟩
  refine⟨_,by rw[Zb,Zd,Ze];exact w4at hlt,?_⟩
  refine⟨[],_,_,_,_,c_r1_putLe32 rfl,rfl,rfl,?_⟩
  have hpl:(putL (w4get y i)).length=4:=putL_len _
  refine⟨by rw[bv_len];exact Z3 hpl.symm,by omega,by rw[bv_len,putW_len];omega,?_⟩
  refine⟨i+1,by omega,by omega,[.d 247 0,.k 1],⟨rfl,rfl,q7i (by simp(disch:=omega)only[Za];omega),trivial⟩,⟨_,rfl,q7s ?_⟩,⟨_,rfl,rfl⟩,trivial⟩
  show sub (bv (putW y i)) 0 (4*i*1)++sub (bv (putL (w4get y i))) 0 4=_
  rw[Zd,bv_all (putW_len y i),bv_all hpl,bv_app,putW_succ]
 ·obtain rfl:i=4:=(by omega)
  exact⟨_,rfl,[.k 0],rfl,⟨_,rfl,rfl⟩,trivial⟩
theorem c_r9_dec {va:List Value} {b:Bs} {k s:List UInt32} (ha:va=bv b) (hb:b.length=16) (hk:k.length=40) (hs:2≤s.length∧s.length≤4):Con C N.r9_Twofish_Block [twoV k s,.z 16 va,bool true] [] (okBlk 16) [.sc (bv (putW (twD k s (ldW b)) 4))]:=by
 subst ha
 refine fd.r9_Twofish_Block.c ?_
 refine loopN (fun i=>⟨[(0,twoV k s),(1,.z 16 (bv b)),(2,bool true),(8,.p (.k 0) 0),(9,i64 i)],[.sc (wv (ldP b i))]⟩) 4 ⟨[.d 8 0],⟨rfl,rfl,rfl,rfl,rfl,trivial⟩,⟨_,rfl,rfl⟩,trivial⟩ fun i hi=> ?_
 refine spl_d (fun h=> ?_) (fun h=> ?_)
 ·have hlt:i<4:=(by omega)
  have e1:(I6.wrap (4*(i:Int))).toNat=4*i:=(by simp(disch:=omega)only[Za];omega)
  have e2:(I6.wrap (I6.wrap (4*(i:Int))+4)).toNat=4*i+4:=(by simp(disch:=omega)only[Za];omega)
  refine⟨by omega,(by simp(disch:=omega)only[Za];omega),by rw[e1,e2];omega,Zc _,by rw[e2];omega,?_⟩
  rw[e1,e2,show 4*i+4-4*i=4 by omega]
  refine⟨[],_,_,_,_,c_little (l:=sub b (4*i) 4) (bv_sub _ _ _) (by rw[sub_length];omega) (by decide),rfl,rfl,?_⟩
  refine⟨by omega,by omega,by show 0+((i:Int)).toNat*1<4;omega,?_⟩
  refine⟨i+1,by omega,by omega,[.k 0],⟨rfl,rfl,rfl,rfl,q7i (by simp(disch:=omega)only[Za];omega),trivial⟩,⟨_,rfl,q7s ?_⟩,trivial⟩
  rw[Zb,Zd,Ze,leW_conv]
  show(wv (ldP b i)).set i (.int .u32 (leW (sub b (4*i) 4)).toNat)=_
  rw[wv_set,ldP_step b hlt]
 obtain rfl:i=4:=(by omega)
 refine⟨_,rfl,?_⟩
 refine⟨by decide,by decide,_,ldP_at b (i:=2) (by decide),?_⟩
 refine⟨by decide,by omega,?_⟩
 refine⟨_,wv_getD (i:=6) (by omega),?_⟩
 refine⟨by decide,by decide,_,ldP_at b (i:=3) (by decide),?_⟩
 refine⟨by decide,by omega,?_⟩
 refine⟨_,wv_getD (i:=7) (by omega),?_⟩
 refine⟨by decide,by decide,_,ldP_at b (i:=0) (by decide),?_⟩
 refine⟨by decide,by omega,?_⟩
 refine⟨_,wv_getD (i:=4) (by omega),?_⟩
 refine⟨by decide,by decide,_,ldP_at b (i:=1) (by decide),?_⟩
 refine⟨by decide,by omega,?_⟩
 refine⟨_,wv_getD (i:=5) (by omega),?_⟩
 refine⟨Zc _,?_⟩
 refine loopN (fun i=>⟨[(0,twoV k s),(8,.p (.k 0) 0),(10,wz k),(11,i64 (15-i))],[w4M (swW (tDn k s (wh k 4 (ldW b)) i))]⟩) 16 ⟨[.k 0],⟨rfl,rfl,rfl,rfl,trivial⟩,⟨_,rfl,mx4u (u32_xor _ _) (u32_xor _ _) (u32_xor _ _) (u32_xor _ _)⟩,trivial⟩ fun i hi=> ?_
 have hst:=tDn_succ k s (wh k 4 (ldW b)) i
 generalize hx:tDn k s (wh k 4 (ldW b)) i=x at hst ⊢
 refine spl_d (fun h=> ?_) (fun h=> ?_)
 ·obtain⟨r,er,hr15,hri⟩:∃r:Nat,(15:Int)-i=r∧r≤15∧r=15-i:=⟨15-i,by omega,by omega,rfl⟩
  rw[←hri]at hst
  rw[er]
  have e1:(I6.wrap (I6.wrap (2*(r:Int))+8)).toNat=2*r+8:=(by simp(disch:=omega)only[Za];omega)
  have e2:(I6.wrap (I6.wrap (2*(r:Int))+9)).toNat=2*r+9:=(by simp(disch:=omega)only[Za];omega)
  refine⟨by decide,by decide,_,rfl,by decide,by decide,_,rfl,by decide,by decide,_,rfl,by decide,by decide,_,rfl,Zc _,?_⟩
  refine⟨by decide,by decide,_,rfl,by decide,by decide,_,rfl,?_⟩
  refine⟨[],_,_,_,_,c_r9_sums (a:=x.1) (c:=x.2.1) rfl rfl hs,rfl,rfl,?_⟩
  refine⟨by decide,by decide,_,rfl,?_⟩
  refine⟨[],_,_,_,_,c_r1_rol32' (v:=x.2.2.1) (k:=1) rfl (by decide) (by decide),rfl,rfl,?_⟩
  refine⟨by omega,by omega,?_⟩
  refine⟨_,by rw[e1];exact wv_getD (by omega),?_⟩
  refine⟨by decide,by decide,by show 3≤4;omega,by decide,by decide,_,rfl,by omega,by omega,?_⟩
  refine⟨_,by rw[e2];exact wv_getD (by omega),?_⟩
  refine⟨[],_,_,_,_,c_r1_rol32' (v:=x.2.2.2^^^sumG k s x.1 x.2.1 r) (k:=31) (by rw[u32_add];exact u32_xor _ _) (by decide) (by decide),rfl,rfl,?_⟩
  refine⟨by decide,by decide,by show 4≤4;omega,?_⟩
  refine⟨i+1,by omega,by omega,[.k 0],⟨rfl,rfl,rfl,q7i ?_,trivial⟩,⟨_,rfl,?_⟩,trivial⟩
  ·rw[Za _ (by omega)];omega
  rw[hst]
  exact mx4u rfl rfl (by rw[u32_add];exact u32_xor _ _) rfl
 obtain rfl:i=16:=(by omega)
 refine⟨by decide,by decide,_,rfl,?_⟩
 refine⟨by decide,by omega,?_⟩
 refine⟨_,wv_getD (i:=0) (by omega),?_⟩
 refine⟨by decide,by decide,_,rfl,?_⟩
 refine⟨by decide,by omega,?_⟩
 refine⟨_,wv_getD (i:=1) (by omega),?_⟩
 refine⟨by decide,by decide,_,rfl,?_⟩
 refine⟨by decide,by omega,?_⟩
 refine⟨_,wv_getD (i:=2) (by omega),?_⟩
 refine⟨by decide,by decide,_,rfl,?_⟩
 refine⟨by decide,by omega,?_⟩
 refine⟨_,wv_getD (i:=3) (by omega),?_⟩
 refine⟨Zc _,?_⟩
 have hfx:wh k 0 (swW x)=twD k s (ldW b):=by rw[←hx];rfl
 rw[←hfx]
 generalize hy:wh k 0 (swW x)=y
 refine loopNn (fun i=>⟨[(8,.p (.k 1) 0),(17,.o 1 (.k 0) 0 (4*i)),(18,i64 i)],[.sc (bv (putW y i)),w4M y]⟩) 4 [(17,1,.sc [])] ⟨[.d 900000 0,.k 0],⟨rfl,rfl,rfl,trivial⟩,⟨_,rfl,rfl⟩,⟨_,rfl,?_⟩,trivial⟩ fun i hi=> ?_
 ·rw[←hy,←hx];exact mx4u (u32_xor _ _) (u32_xor _ _) (u32_xor _ _) (u32_xor _ _)
 refine spl_d (fun h=> ?_) (fun h=> ?_)
 ·have hlt:i<4:=(by omega)
  refine⟨by omega,by omega,?_⟩
  refine⟨_,by rw[Zb,Zd,Ze];exact w4at hlt,?_⟩
  refine⟨[],_,_,_,_,c_r1_putLe32 rfl,rfl,rfl,?_⟩
  have hpl:(putL (w4get y i)).length=4:=putL_len _
  refine⟨by rw[bv_len];exact Z3 hpl.symm,by omega,by rw[bv_len,putW_len];omega,?_⟩
  refine⟨i+1,by omega,by omega,[.d 247 0,.k 1],⟨rfl,rfl,q7i (by simp(disch:=omega)only[Za];omega),trivial⟩,⟨_,rfl,q7s ?_⟩,⟨_,rfl,rfl⟩,trivial⟩
  show sub (bv (putW y i)) 0 (4*i*1)++sub (bv (putL (w4get y i))) 0 4=_
  rw[Zd,bv_all (putW_len y i),bv_all hpl,bv_app,putW_succ]
 ·obtain rfl:i=4:=(by omega)
  exact⟨_,rfl,[.k 0],rfl,⟨_,rfl,rfl⟩,trivial⟩
theorem c_r9_bad {va:List Value} {k s:List UInt32} {n:Nat} {back:Bool} (hn:n≠16):Con C N.r9_Twofish_Block [twoV k s,.z n va,bool back] [] badBlk []:=by
 refine fd.r9_Twofish_Block.c ?_
 refine spl_ne (fun h=> ?_) (fun h=>absurd (by omega) hn)
 exact⟨_,rfl,[],rfl,trivial⟩
def aS1:Bs:=[99,124,119,123,242,107,111,197,48,1,103,43,254,215,171,118,202,130,201,125,250,89,71,240,173,212,162,175,156,164,114,192,183,253,147,38,54,63,247,204,52,165,229,241,113,216,49,21,4,199,35,195,24,150,5,154,7,18,128,226,235,39,178,117,9,131,44,26,27,110,90,160,82,59,214,179,41,227,47,132,83,209,0,237,32,252,177,91,106,203,190,57,74,76,88,207,208,239,170,251,67,77,51,133,69,249,2,127,80,60,159,168,81,163,64,143,146,157,56,245,188,182,218,33,16,255,243,210,205,12,19,236,95,151,68,23,196,167,126,61,100,93,25,115,96,129,79,220,34,42,144,136,70,238,184,20,222,94,11,219,224,50,58,10,73,6,36,92,194,211,172,98,145,149,228,121,231,200,55,109,141,213,78,169,108,86,244,234,101,122,174,8,186,120,37,46,28,166,180,198,232,221,116,31,75,189,139,138,112,62,181,102,72,3,246,14,97,53,87,185,134,193,29,158,225,248,152,17,105,217,142,148,155,30,135,233,206,85,40,223,140,161,137,13,191,230,66,104,65,153,45,15,176,84,187,22]
def aS2:Bs:=[226,78,84,252,148,194,74,204,98,13,106,70,60,77,139,209,94,250,100,203,180,151,190,43,188,119,46,3,211,25,89,193,29,6,65,107,85,240,153,105,234,156,24,174,99,223,231,187,0,115,102,251,150,76,133,228,58,9,69,170,15,238,16,235,45,127,244,41,172,207,173,145,141,120,200,149,249,47,206,205,8,122,136,56,92,131,42,40,71,219,184,199,147,164,18,83,255,135,14,49,54,33,88,72,1,142,55,116,50,202,233,177,183,171,12,215,196,86,66,38,7,152,96,217,182,185,17,64,236,32,140,189,160,201,132,4,73,35,241,79,80,31,19,220,216,192,158,87,227,195,123,101,59,2,143,62,232,37,146,229,21,221,253,23,169,191,212,154,126,197,57,103,254,118,157,67,167,225,208,245,104,242,27,52,112,5,163,138,213,121,134,168,48,198,81,75,30,166,39,246,53,210,110,36,22,130,95,218,230,117,162,239,44,178,28,159,93,111,128,10,114,68,155,108,144,11,91,51,125,90,82,243,97,161,247,176,214,63,124,109,237,20,224,165,61,34,179,248,137,222,113,26,175,186,181,129]
def aI1:Bs:=[82,9,106,213,48,54,165,56,191,64,163,158,129,243,215,251,124,227,57,130,155,47,255,135,52,142,67,68,196,222,233,203,84,123,148,50,166,194,35,61,238,76,149,11,66,250,195,78,8,46,161,102,40,217,36,178,118,91,162,73,109,139,209,37,114,248,246,100,134,104,152,22,212,164,92,204,93,101,182,146,108,112,72,80,253,237,185,218,94,21,70,87,167,141,157,132,144,216,171,0,140,188,211,10,247,228,88,5,184,179,69,6,208,44,30,143,202,63,15,2,193,175,189,3,1,19,138,107,58,145,17,65,79,103,220,234,151,242,207,206,240,180,230,115,150,172,116,34,231,173,53,133,226,249,55,232,28,117,223,110,71,241,26,113,29,41,197,137,111,183,98,14,170,24,190,27,252,86,62,75,198,210,121,32,154,219,192,254,120,205,90,244,31,221,168,51,136,7,199,49,177,18,16,89,39,128,236,95,96,81,127,169,25,181,74,13,45,229,122,159,147,201,156,239,160,224,59,77,174,42,245,176,200,235,187,60,131,83,153,97,23,43,4,126,186,119,214,38,225,105,20,99,85,33,12,125]
def aI2:Bs:=[48,104,153,27,135,185,33,120,80,57,219,225,114,9,98,60,62,126,94,142,241,160,204,163,42,29,251,182,214,32,196,141,129,101,245,137,203,157,119,198,87,67,86,23,212,64,26,77,192,99,108,227,183,200,100,106,83,170,56,152,12,244,155,237,127,34,118,175,221,58,11,88,103,136,6,195,53,13,1,139,140,194,230,95,2,36,117,147,102,30,229,226,84,216,16,206,122,232,8,44,18,151,50,171,180,39,10,35,223,239,202,217,184,250,220,49,107,209,173,25,73,189,81,150,238,228,168,65,218,255,205,85,134,54,190,97,82,248,187,14,130,72,105,154,224,71,158,92,4,75,52,21,121,38,167,222,41,174,146,215,132,233,210,186,93,243,197,176,191,164,59,113,68,70,43,252,235,111,213,246,20,254,124,112,90,125,253,47,24,131,22,165,145,31,5,149,116,169,193,91,74,133,109,19,7,79,78,69,178,15,201,28,166,188,236,115,144,123,207,89,143,161,249,45,242,177,0,148,55,159,208,46,156,110,40,63,128,240,61,211,37,138,181,231,66,179,199,234,247,76,17,51,3,162,172,96]
theorem aS1_eq:mkBox 254 283 [241,227,199,143,31,62,124,248] 99 256=aS1:=by decide +kernel
theorem aS2_eq:mkBox 247 283 [122,188,235,185,52,129,186,203] 226 256=aS2:=by decide +kernel
theorem aI1_eq:backN aS1 256=aI1:=by decide +kernel
theorem aI2_eq:backN aS2 256=aI2:=by decide +kernel
theorem aS1_len:aS1.length=256:=by decide +kernel
theorem aS2_len:aS2.length=256:=by decide +kernel
theorem aI1_len:aI1.length=256:=by decide +kernel
theorem aI2_len:aI2.length=256:=by decide +kernel
theorem aS1_mem:∀j,j<256→Zp j∈aS1:=by decide +kernel
theorem aS2_mem:∀j,j<256→Zp j∈aS2:=by decide +kernel
theorem aS1_nd:aS1.Nodup:=by decide +kernel
theorem aS2_nd:aS2.Nodup:=by decide +kernel
theorem c_amade:Con C N.aria_made [] [] (.ret (.a [.z 256 (bv aS1),.z 256 (bv aS2),.z 256 (bv aI1),.z 256 (bv aI2)])) []:=by
 have m1:=c_make (e:=254) (m:=283) (z:=99) (c:=99) (r0:=241) (r1:=227) (r2:=199) (r3:=143) (r4:=31) (r5:=62) (r6:=124) (r7:=248) rfl (by decide) (by decide) (by decide) (by decide)
 have m2:=c_make (e:=247) (m:=283) (z:=226) (c:=226) (r0:=122) (r1:=188) (r2:=235) (r3:=185) (r4:=52) (r5:=129) (r6:=186) (r7:=203) rfl (by decide) (by decide) (by decide) (by decide)
 rw[aS1_eq]at m1
 rw[aS2_eq]at m2
 have b1:=c_back (va:=sub (bv aS1) 0 256) (bv_all aS1_len) aS1_len aS1_mem
 have b2:=c_back (va:=sub (bv aS2) 0 256) (bv_all aS2_len) aS2_len aS2_mem
 rw[aI1_eq]at b1
 rw[aI2_eq]at b2
 refine fd.aria_made.c ?_
 refine⟨[],_,_,_,_,m1,rfl,rfl,?_⟩
 refine⟨by decide,by decide,by decide,?_⟩
 refine⟨[],_,_,_,_,m2,rfl,rfl,?_⟩
 refine⟨by decide,by decide,by decide,?_⟩
 refine⟨by decide,by decide,_,rfl,?_⟩
 refine⟨[],_,_,_,_,b1,rfl,rfl,?_⟩
 refine⟨by decide,by decide,by decide,?_⟩
 refine⟨by decide,by decide,_,rfl,?_⟩
 refine⟨[],_,_,_,_,b2,rfl,rfl,?_⟩
 refine⟨by decide,by decide,by decide,?_⟩
 refine⟨_,rfl,rfl,Zc _,_,rfl,rfl,?_⟩
 refine⟨_,rfl,[],?_,trivial⟩
 show V.a [V.z 256 (sub (bv aS1) 0 256),V.z 256 (sub (bv aS2) 0 256),V.z 256 (sub (bv aI1) 0 256),V.z 256 (sub (bv aI2) 0 256)]=_
 rw[bv_all aS1_len,bv_all aS2_len,bv_all aI1_len,bv_all aI2_len]
def aTab:List (List Nat):=[[3,4,6,8,9,13,14],[2,5,7,8,9,12,15],[1,4,6,10,11,12,15],[0,5,7,10,11,13,14],[0,2,5,8,11,14,15],[1,3,4,9,10,14,15],[0,2,7,9,10,12,13],[1,3,6,8,11,12,13],[0,1,4,7,10,13,15],[0,1,5,6,11,12,14],[2,3,5,6,8,13,15],[2,3,4,7,9,12,14],[1,2,6,7,9,11,12],[0,3,6,7,8,10,13],[0,3,4,5,9,11,14],[1,2,4,5,8,10,15]]
def aSum (i:Nat):List Nat:=aTab.getD i []
theorem aSum_lt:∀i,i<16→∀t,t<7→(aSum i).getD t 0<16:=by decide
theorem c_asums {i:Nat} (hi:i<16):Con C N.aria_sums [i64 i] [] (.ret (.a [i64 ((aSum i).getD 0 0:Nat),i64 ((aSum i).getD 1 0:Nat),i64 ((aSum i).getD 2 0:Nat),i64 ((aSum i).getD 3 0:Nat),i64 ((aSum i).getD 4 0:Nat),i64 ((aSum i).getD 5 0:Nat),i64 ((aSum i).getD 6 0:Nat)])) []:=by
 rcases i with _|_|_|_|_|_|_|_|_|_|_|_|_|_|_|_|i
 ·exact fd.aria_sums.c ⟨Zc _,_,rfl,rfl,_,rfl,[],rfl,trivial⟩
 ·exact fd.aria_sums.c ⟨Zc _,_,rfl,rfl,_,rfl,[],rfl,trivial⟩
 ·exact fd.aria_sums.c ⟨Zc _,_,rfl,rfl,_,rfl,[],rfl,trivial⟩
 ·exact fd.aria_sums.c ⟨Zc _,_,rfl,rfl,_,rfl,[],rfl,trivial⟩
 ·exact fd.aria_sums.c ⟨Zc _,_,rfl,rfl,_,rfl,[],rfl,trivial⟩
 ·exact fd.aria_sums.c ⟨Zc _,_,rfl,rfl,_,rfl,[],rfl,trivial⟩
 ·exact fd.aria_sums.c ⟨Zc _,_,rfl,rfl,_,rfl,[],rfl,trivial⟩
 ·exact fd.aria_sums.c ⟨Zc _,_,rfl,rfl,_,rfl,[],rfl,trivial⟩
 ·exact fd.aria_sums.c ⟨Zc _,_,rfl,rfl,_,rfl,[],rfl,trivial⟩
 ·exact fd.aria_sums.c ⟨Zc _,_,rfl,rfl,_,rfl,[],rfl,trivial⟩
 ·exact fd.aria_sums.c ⟨Zc _,_,rfl,rfl,_,rfl,[],rfl,trivial⟩
 ·exact fd.aria_sums.c ⟨Zc _,_,rfl,rfl,_,rfl,[],rfl,trivial⟩
 ·exact fd.aria_sums.c ⟨Zc _,_,rfl,rfl,_,rfl,[],rfl,trivial⟩
 ·exact fd.aria_sums.c ⟨Zc _,_,rfl,rfl,_,rfl,[],rfl,trivial⟩
 ·exact fd.aria_sums.c ⟨Zc _,_,rfl,rfl,_,rfl,[],rfl,trivial⟩
 ·exact fd.aria_sums.c ⟨Zc _,_,rfl,rfl,_,rfl,[],rfl,trivial⟩
 ·omega
theorem aSL_get {i t:Nat} (ht:t<7):([i64 ((aSum i).getD 0 0:Nat),i64 ((aSum i).getD 1 0:Nat),i64 ((aSum i).getD 2 0:Nat),i64 ((aSum i).getD 3 0:Nat),i64 ((aSum i).getD 4 0:Nat),i64 ((aSum i).getD 5 0:Nat),i64 ((aSum i).getD 6 0:Nat)]:List V)[t]? =some (i64 ((aSum i).getD t 0:Nat)):=by
 rcases t with _|_|_|_|_|_|_|t
 all_goals first|rfl|omega
def accN (n:Nat) (f:Nat→Nat→UInt8) (K i k:Nat):Bs:=(List.range n).map fun p=>if p<i then f p K else if p=i then f p k else 0
theorem accN_len (n f K i k):(accN n f K i k).length=n:=by simp[accN]
theorem accN_get {n} {f:Nat→Nat→UInt8} {K i k} (h:i<n):(accN n f K i k)[i]? =some (f i k):=by simp[accN,h]
theorem accN_set {n} {f:Nat→Nat→UInt8} {K i k} (h:i<n) {x:UInt8} (hx:x=f i (k+1)):(accN n f K i k).set i x=accN n f K i (k+1):=by
 subst hx
 apply Zw (by simp[accN])
 intro p h1 h2
 simp only[accN,Z2,Zz,Zy]
 by_cases h:i=p
 ·subst h;simp
 ·simp[h,show ¬p=i from fun e=>h e.symm]
theorem accN_next {n} {f:Nat→Nat→UInt8} {K i} (h0:∀p,f p 0=0):accN n f K i K=accN n f K (i+1) 0:=by
 unfold accN
 apply Zu
 intro p hp
 by_cases h1:p<i
 ·rw[if_pos h1,if_pos (by omega)]
 ·by_cases h2:p=i
  ·rw[if_neg h1,if_pos h2,if_pos (by omega)]
  ·rw[if_neg h1,if_neg h2,if_neg (by omega)]
   by_cases h3:p=i+1
   ·rw[if_pos h3,h0]
   ·rw[if_neg h3]
theorem accN_zero {n} {f:Nat→Nat→UInt8} {K} (h0:∀p,f p 0=0):accN n f K 0 0=Zo n 0:=by
 apply Zw (by simp[accN])
 intro p h1 h2
 simp only[accN,Zz,Zy,List.getElem_replicate]
 rw[if_neg (by omega)]
 split
 ·exact h0 _
 ·rfl
theorem accN_end {n} {f:Nat→Nat→UInt8} {K}:accN n f K n 0=(List.range n).map fun p=>f p K:=by
 unfold accN
 apply Zu
 intro p hp
 rw[if_pos (Z5.1 hp)]
def aX (b:Bs) (p k:Nat):UInt8:=(List.range k).foldl (fun s t=>s^^^b.getD ((aSum p).getD t 0) 0) 0
theorem aX_succ (b p k):aX b p (k+1)=aX b p k^^^b.getD ((aSum p).getD k 0) 0:=by simp[aX,Zn]
def aMix (b:Bs):Bs:=(List.range 16).map fun p=>aX b p 7
theorem aMix_len (b):(aMix b).length=16:=by simp[aMix]
theorem c_amix {va:List Value} {b:Bs} (ha:va=bv b) (hb:b.length=16):Con C N.aria_Mix [.z 16 va] [] (.ret (.t [.o 1 (.k 0) 0 16,bool true])) [.sc (bv (aMix b))]:=by
 subst ha
 have h0:∀p,aX b p 0=0:=fun _=>rfl
 refine fd.aria_Mix.c ?_
 refine⟨by decide,by decide,by decide,?_⟩
 refine loopN (fun i=>⟨[(0,.z 16 (bv b)),(4,.o 1 (.k 0) 0 16),(13,i64 16),(14,i64 i)],[.sc (bv (accN 16 (aX b) 7 i 0))]⟩) 16 ⟨[.d 11 0],⟨rfl,rfl,rfl,rfl,trivial⟩,⟨_,rfl,q7s (by rw[accN_zero h0];exact bv_rep 16)⟩,trivial⟩ fun i hi=> ?_
 refine spl_d (fun h=> ?_) (fun h=> ?_)
 ·have hlt:i<16:=(by omega)
  refine⟨[],_,_,_,_,c_asums hlt,rfl,rfl,?_⟩
  refine loopN (fun k=>⟨[(0,.z 16 (bv b)),(4,.o 1 (.k 0) 0 16),(5,i64 i),(13,i64 16),(14,i64 i),(18,.a [i64 ((aSum i).getD 0 0:Nat),i64 ((aSum i).getD 1 0:Nat),i64 ((aSum i).getD 2 0:Nat),i64 ((aSum i).getD 3 0:Nat),i64 ((aSum i).getD 4 0:Nat),i64 ((aSum i).getD 5 0:Nat),i64 ((aSum i).getD 6 0:Nat)]),(19,i64 k)],[.sc (bv (accN 16 (aX b) 7 i k))]⟩) 7 ⟨[.k 0],⟨rfl,rfl,rfl,rfl,rfl,rfl,rfl,trivial⟩,⟨_,rfl,rfl⟩,trivial⟩ fun k hk=> ?_
  refine spl_d (fun h=> ?_) (fun h=> ?_)
  ·have hkl:k<7:=(by omega)
   have hs:=aSum_lt i hlt k hkl
   refine⟨by omega,by omega,?_⟩
   refine⟨_,by rw[Zb,Zd];exact aSL_get hkl,?_⟩
   refine⟨by omega,by omega,?_⟩
   refine⟨_,by rw[Zb,Zd,Ze];exact bv_at (accN_get hlt),?_⟩
   refine⟨by omega,by omega,?_⟩
   refine⟨_,by rw[Zb];exact bv_getD (by omega),?_⟩
   refine⟨by omega,by omega,by rw[bv_len,accN_len];omega,?_⟩
   refine⟨k+1,by omega,by omega,[.k 0],⟨rfl,rfl,rfl,rfl,rfl,rfl,q7i (by simp(disch:=omega)only[Za];omega),trivial⟩,⟨_,rfl,q7s ?_⟩,trivial⟩
   rw[Zb,Zd,Ze,u8_xor,bv_set,accN_set hlt (aX_succ _ _ _).symm]
  ·obtain rfl:k=7:=(by omega)
   refine⟨i+1,by omega,by omega,[.k 0],⟨rfl,rfl,rfl,q7i (by simp(disch:=omega)only[Za];omega),trivial⟩,⟨_,rfl,q7s ?_⟩,trivial⟩
   rw[accN_next h0]
 ·obtain rfl:i=16:=(by omega)
  refine⟨_,rfl,[.k 0],rfl,⟨_,rfl,q7s ?_⟩,trivial⟩
  rw[accN_end];rfl
def aBox (k:Nat):Bs:=if k=0 then aS1 else if k=1 then aS2 else if k=2 then aI1 else aI2
theorem aBox_len (k:Nat):(aBox k).length=256:=by
 unfold aBox
 repeat' split
 ·exact aS1_len
 ·exact aS2_len
 ·exact aI1_len
 ·exact aI2_len
abbrev aBz (k:Nat):V:= .z 256 (bv (aBox k))
abbrev aBA:V:= .a [aBz 0,aBz 1,aBz 2,aBz 3]
theorem aB_get {k:Nat} (h:k<4):([aBz 0,aBz 1,aBz 2,aBz 3]:List V)[k]? =some (aBz k):=at4 (f:=aBz) rfl rfl rfl rfl h
def aLay (k:Nat) (b:Bs) (n:Nat):Bs:=(List.range n).map fun i=>(aBox ((i+2*(k-1))%4)).getD (b.getD i 0).toNat 0
theorem aLay_len (k b n):(aLay k b n).length=n:=by simp[aLay]
theorem aLay_succ (k b n):aLay k b (n+1)=aLay k b n++[(aBox ((n+2*(k-1))%4)).getD (b.getD n 0).toNat 0]:=by simp[aLay,Zn]
theorem c_alayer {va:List Value} {b:Bs} {k:Nat} (ha:va=bv b) (hb:b.length=16) (h1:1≤k) (h2:k≤2):Con C N.aria_boxes_layer [aBA,i64 k,.z 16 va] [] (.ret (.o 1 (.k 0) 0 16)) [.sc (bv (aLay k b 16))]:=by
 subst ha
 refine fd.aria_boxes_layer.c ?_
 refine⟨by decide,by decide,by decide,?_⟩
 refine loopN (fun i=>⟨[(1,i64 k),(3,.p (.k 1) 0),(7,.o 1 (.k 0) 0 16),(13,.z 16 (bv b)),(14,i64 16),(15,i64 i)],[.sc (bv (aLay k b i++Zo (16-i) 0)),.mx [aBz 0,aBz 1,aBz 2,aBz 3]]⟩) 16 ⟨[.d 12 0,.d 3 0],⟨rfl,rfl,rfl,rfl,rfl,rfl,trivial⟩,⟨_,rfl,q7s (by show Zo 16 _=_;exact bv_rep 16)⟩,⟨_,rfl,rfl⟩,trivial⟩ fun i hi=> ?_
 refine spl_d (fun h=> ?_) (fun h=> ?_)
 ·have hlt:i<16:=(by omega)
  have e1:(I6.wrap ((i:Int)+I6.wrap (2*I6.wrap ((k:Int)-1)))).tmod 4=(((i+2*(k-1))%4:Nat):Int):=by
   rw[Za ((k:Int)-1) (by omega),Za (2*((k:Int)-1)) (by omega),Za _ (by omega),Zg (by omega)]
   omega
  have e2:=Zr (i+2*(k-1)) (show 4>0 by decide)
  refine⟨by omega,by omega,?_⟩
  refine⟨_,by rw[Zb];exact bv_getD (by omega),?_⟩
  have hx:=(b.getD i 0).toNat_lt
  refine⟨by decide,by rw[e1];omega,by rw[e1];omega,?_⟩
  refine⟨_,by rw[e1,Zb,Zd,Ze];exact aB_get e2,?_⟩
  refine⟨by omega,by show _<((256:Nat):Int);omega,?_⟩
  refine⟨_,by rw[Zb];exact bv_getD (by rw[aBox_len];omega),?_⟩
  refine⟨by omega,by omega,by rw[bv_len,Zm,aLay_len,Zt];omega,?_⟩
  refine⟨i+1,by omega,by omega,[.k 0,.k 1],⟨rfl,rfl,rfl,rfl,rfl,q7i (by simp(disch:=omega)only[Za];omega),trivial⟩,⟨_,rfl,q7s ?_⟩,⟨_,rfl,rfl⟩,trivial⟩
  rw[Zb,Zd,Ze,fill_step (aLay_len _ _ _) hlt,aLay_succ]
 ·obtain rfl:i=16:=(by omega)
  refine⟨_,rfl,[.k 0],rfl,⟨_,rfl,q7s ?_⟩,trivial⟩
  simp
def aTurn (k:Nat) (b key:Bs):Bs:=aMix (aLay k (xorL b key) 16)
theorem aTurn_len (k b key):(aTurn k b key).length=16:=aMix_len _
theorem c_aturn {va vk:List Value} {b key:Bs} {k:Nat} (ha:va=bv b) (hk:vk=bv key) (hb:b.length=16) (hkl:key.length=16) (h1:1≤k) (h2:k≤2):Con C N.aria_boxes_turn [aBA,i64 k,.z 16 va,.z 16 vk] [] (.ret (.o 1 (.k 0) 0 16)) [.sc (bv (aTurn k b key))]:=by
 refine fd.aria_boxes_turn.c ?_
 refine⟨[],_,_,_,_,c_xor ha hk hb hkl (by decide),rfl,rfl,?_⟩
 refine⟨_,rfl,rfl,?_⟩
 have hx:(xorL b key).length=16:=xorL_len hb hkl
 refine⟨[],_,_,_,_,c_alayer (b:=xorL b key) (k:=k) (bv_all hx) hx h1 h2,rfl,rfl,?_⟩
 have hl:=aLay_len k (xorL b key) 16
 refine⟨[],_,_,_,_,c_amix (b:=aLay k (xorL b key) 16) (bv_all hl) hl,rfl,rfl,?_⟩
 exact⟨_,rfl,[.d 20 0],rfl,⟨_,rfl,rfl⟩,trivial⟩
def aCt:List (Bs):=[[81,124,193,183,39,34,10,148,254,19,171,232,250,154,110,224],[109,177,74,204,158,33,200,32,255,40,177,213,239,93,226,176],[219,146,55,29,33,38,233,112,3,36,151,117,4,232,201,14]]
def aC (i:Nat):Bs:=aCt.getD i []
theorem aC_len:∀i,i<3→(aC i).length=16:=by decide
abbrev aCz (i:Nat):V:= .z 16 (bv (aC i))
def a3 (i:Nat):B:=match i with
 |0=> .sc [.slice none 0 0,.slice none 0 0,.slice none 0 0]
 |1=> .mx [aCz 0,nilv,nilv]
 |2=> .mx [aCz 0,aCz 1,nilv]
 |_=> .mx [aCz 0,aCz 1,aCz 2]
theorem c_athree:Con C N.aria_three [] [] (.ret (.a [aCz 0,aCz 1,aCz 2])) []:=by
 refine fd.aria_three.c ?_
 refine loopN (fun i=>⟨[(0,.p (.k 0) 0),(6,.a [u64 5871781006564002452,u64 18308165927316385504,u64 7904181063698728992,u64 18386141011142107824,u64 15821769039155751280,u64 226472410124699918]),(7,i64 i)],[a3 i]⟩) 3 ⟨[.d 0 0],⟨rfl,rfl,rfl,trivial⟩,⟨_,rfl,rfl⟩,trivial⟩ fun i hi=> ?_
 rcases i with _|_|_|_|i
 ·refine⟨by decide,by decide,_,rfl,rfl,Zc _,?_⟩
  refine⟨by decide,by decide,_,rfl,?_⟩
  refine⟨[],_,_,_,_,c_putBe64 (v:=5871781006564002452) rfl,rfl,rfl,?_⟩
  refine⟨by decide,by decide,_,rfl,?_⟩
  refine⟨[],_,_,_,_,c_putBe64 (v:=18308165927316385504) rfl,rfl,rfl,?_⟩
  refine⟨by decide,by decide,by decide,?_⟩
  refine⟨by decide,by decide,by decide,?_⟩
  refine⟨1,by decide,by decide,[.k 0],⟨rfl,rfl,rfl,trivial⟩,⟨_,rfl,?_⟩,trivial⟩
  have he:sub (sub (bv (storeL 5871781006564002452 8)) 0 8++sub (bv (storeL 18308165927316385504 8)) 0 8) 0 16=bv (aC 0):=by
   rw[bv_all (storeL_len _ _),bv_all (storeL_len _ _),bv_app,show storeL 5871781006564002452 8++storeL 18308165927316385504 8=aC 0 by decide +kernel,bv_all (aC_len 0 (by decide))]
  show B.mx [V.z 16 (sub (sub (bv (storeL 5871781006564002452 8)) 0 8++sub (bv (storeL 18308165927316385504 8)) 0 8) 0 16),nilv,nilv]=_
  rw[he]
  rfl
 ·refine⟨by decide,by decide,_,rfl,rfl,Zc _,?_⟩
  refine⟨by decide,by decide,_,rfl,?_⟩
  refine⟨[],_,_,_,_,c_putBe64 (v:=7904181063698728992) rfl,rfl,rfl,?_⟩
  refine⟨by decide,by decide,_,rfl,?_⟩
  refine⟨[],_,_,_,_,c_putBe64 (v:=18386141011142107824) rfl,rfl,rfl,?_⟩
  refine⟨by decide,by decide,by decide,?_⟩
  refine⟨by decide,by decide,by decide,?_⟩
  refine⟨2,by decide,by decide,[.k 0],⟨rfl,rfl,rfl,trivial⟩,⟨_,rfl,?_⟩,trivial⟩
  have he:sub (sub (bv (storeL 7904181063698728992 8)) 0 8++sub (bv (storeL 18386141011142107824 8)) 0 8) 0 16=bv (aC 1):=by
   rw[bv_all (storeL_len _ _),bv_all (storeL_len _ _),bv_app,show storeL 7904181063698728992 8++storeL 18386141011142107824 8=aC 1 by decide +kernel,bv_all (aC_len 1 (by decide))]
  show B.mx [aCz 0,V.z 16 (sub (sub (bv (storeL 7904181063698728992 8)) 0 8++sub (bv (storeL 18386141011142107824 8)) 0 8) 0 16),nilv]=_
  rw[he]
  rfl
 ·refine⟨by decide,by decide,_,rfl,rfl,Zc _,?_⟩
  refine⟨by decide,by decide,_,rfl,?_⟩
  refine⟨[],_,_,_,_,c_putBe64 (v:=15821769039155751280) rfl,rfl,rfl,?_⟩
  refine⟨by decide,by decide,_,rfl,?_⟩
  refine⟨[],_,_,_,_,c_putBe64 (v:=226472410124699918) rfl,rfl,rfl,?_⟩
  refine⟨by decide,by decide,by decide,?_⟩
  refine⟨by decide,by decide,by decide,?_⟩
  refine⟨3,by decide,by decide,[.k 0],⟨rfl,rfl,rfl,trivial⟩,⟨_,rfl,?_⟩,trivial⟩
  have he:sub (sub (bv (storeL 15821769039155751280 8)) 0 8++sub (bv (storeL 226472410124699918 8)) 0 8) 0 16=bv (aC 2):=by
   rw[bv_all (storeL_len _ _),bv_all (storeL_len _ _),bv_app,show storeL 15821769039155751280 8++storeL 226472410124699918 8=aC 2 by decide +kernel,bv_all (aC_len 2 (by decide))]
  show B.mx [aCz 0,aCz 1,V.z 16 (sub (sub (bv (storeL 15821769039155751280 8)) 0 8++sub (bv (storeL 226472410124699918 8)) 0 8) 0 16)]=_
  rw[he]
  rfl
 ·refine⟨_,rfl,rfl,Zc _,_,rfl,rfl,?_⟩
  exact⟨_,rfl,[],rfl,trivial⟩
 ·omega
def aKR (key:Bs):Bs:=key.drop 16++Zo (32-key.length) 0
def aWp (q:Nat) (key:Bs):Nat→Bs×Bs
 |0=>(key.take 16,aKR key)
 |i+1=>(xorL (aTurn (1+i%2) (aWp q key i).1 (aC ((i+q)%3))) (aWp q key i).2,(aWp q key i).1)
theorem aWp_len (q:Nat) {key:Bs} (h:16≤key.length) (h2:key.length≤32):∀i,(aWp q key i).1.length=16∧(aWp q key i).2.length=16
 |0=>by
  constructor
  ·show(key.take 16).length=16
   rw[List.length_take];omega
  ·show(aKR key).length=16
   rw[aKR,Zm,List.length_drop,Zt];omega
 |i+1=>⟨xorL_len (aTurn_len _ _ _) (aWp_len q h h2 i).2,(aWp_len q h h2 i).1⟩
def aAmt (j:Nat):Int:=[-19, -31,61,31,19].getD j 0
def aKey (q:Nat) (key:Bs) (i:Nat):Bs:=xorL (aWp q key (i%4)).1 (turnB (aWp q key ((i+1)%4)).1 (aAmt (i/4)%128).toNat)
def aKs (q:Nat) (key:Bs) (n:Nat):List (Bs):=(List.range n).map (aKey q key)
theorem aKs_succ (q key n):aKs q key (n+1)=aKs q key n++[aKey q key n]:=by simp[aKs,Zn]
theorem aKs_len (q key n):(aKs q key n).length=n:=by simp[aKs]
abbrev a16 (l:Bs):V:= .z 16 (bv l)
def aKV (q:Nat) (key:Bs) (n:Nat):List V:=(aKs q key n).map a16
theorem aKV_lend (H ids) (q key n):(aKV q key n).map (lend H ids 6)=aKV q key n:=by
 unfold aKV
 rw[List.map_map]
 exact Zu fun _ _=>rfl
theorem aAmt_get {j:Nat} (h:j<5):([i64 (-19),i64 (-31),i64 61,i64 31,i64 19]:List V)[j]? =some (i64 (aAmt j)):=by
 rcases j with _|_|_|_|_|j
 all_goals first|rfl|omega
theorem aAmt_b {j:Nat} (h:j<5): -9223372036854775808≤aAmt j∧aAmt j≤9223372036854775807:=by
 rcases j with _|_|_|_|_|j
 all_goals first|decide|omega
theorem cp16 {n:Nat} {va:List Value} {v:Bs} (ha:va=bv v) (hv:v.length=n) (h:n≤16):sub ((Zo 16 (Value.int .u8 0)).take 0++va.take (min n 16)++(Zo 16 (Value.int .u8 0)).drop (0+min n 16)) 0 16=bv (v++Zo (16-n) 0):=by
 subst ha
 rw[Nat.min_eq_left h,List.take_zero,List.nil_append,Ze,List.drop_replicate,Z4 (by rw[bv_len];omega),bv_rep,bv_app,bv_all (by rw[Zm,Zt];omega)]
theorem cp16t {n:Nat} {v:Bs} (hv:v.length=n) (h:16≤n):sub ((Zo 16 (Value.int .u8 0)).take 0++(bv v).take (min n 16)++(Zo 16 (Value.int .u8 0)).drop (0+min n 16)) 0 16=bv (v.take 16):=by
 have e:(bv v).take 16=bv (v.take 16):=by simp[bv,List.map_take]
 rw[Nat.min_eq_right h,List.take_zero,List.nil_append,Ze,List.drop_replicate,Nat.sub_self,List.replicate_zero,List.append_nil,e,bv_all (by rw[List.length_take];omega)]
def aWB (q:Nat) (key:Bs) (i:Nat):B:=match i with
 |0=> .mx [a16 (aWp q key 0).1,nilv,nilv,nilv]
 |1=> .mx [a16 (aWp q key 0).1,a16 (aWp q key 1).1,nilv,nilv]
 |2=> .mx [a16 (aWp q key 0).1,a16 (aWp q key 1).1,a16 (aWp q key 2).1,nilv]
 |_=> .mx [a16 (aWp q key 0).1,a16 (aWp q key 1).1,a16 (aWp q key 2).1,a16 (aWp q key 3).1]
theorem c_akeys16 {va:List Value} {key:Bs} (ha:va=bv key) (hk:key.length=16):Con C N.aria_boxes_keys [aBA,.z 16 va] [] (.ret (.o 1 (.k 0) 0 13)) [.mx (aKV 0 key 13)]:=by
 subst ha
 refine fd.aria_boxes_keys.c ?_
 refine scopeN 0 rfl 13 (fun r=>⟨[(5,i64 0),(7,.p (.k 1) 0),(10,.o 1 (.k 0) 0 r),(11,.p (.k 2) 0),(12,i64 r)],[.mx (aKV 0 key r),.mx [a16 (aWp 0 key 0).1,a16 (aWp 0 key 1).1,a16 (aWp 0 key 2).1,a16 (aWp 0 key 3).1],.mx [i64 (-19),i64 (-31),i64 61,i64 31,i64 19]]⟩) ?_ fun r hr=> ?_
 ·refine⟨by decide,?_⟩
  refine⟨[],_,_,_,_,c_athree,rfl,rfl,?_⟩
  refine⟨Zc _,by decide,by decide,by decide,?_⟩
  refine⟨Zc _,?_⟩
  refine⟨by decide,by decide,_,rfl,?_⟩
  refine⟨by rw[bv_len,hk],by decide,?_⟩
  refine⟨by decide,by decide,by decide,?_⟩
  refine⟨by decide,by omega,Zc _,Zc _,?_⟩
  refine⟨by rw[bv_sub,bv_len,sub_length,hk];rfl,by decide,?_⟩
  refine loopN (fun i=>⟨[(2,.p (.k 0) 0),(5,i64 0),(6,.p (.k 1) 0),(7,.p (.k 2) 0),(8,a16 (aWp 0 key i).2),(33,i64 i)],[.mx [aBz 0,aBz 1,aBz 2,aBz 3],.mx [aCz 0,aCz 1,aCz 2],aWB 0 key i]⟩) 3 ⟨[.d 2 0,.d 6 0,.d 7 0],⟨rfl,rfl,rfl,rfl,?_,rfl,trivial⟩,⟨_,rfl,rfl⟩,⟨_,rfl,rfl⟩,⟨_,rfl,?_⟩,trivial⟩ fun i hi=> ?_
  ·show V.z 16 _=V.z 16 _
   refine congrArg (V.z 16) (Eq.trans (cp16 (n:=0) (v:=sub key 16 0) (bv_sub _ _ _) (by rw[sub_length];omega) (by decide)) (congrArg bv ?_))
   show sub key 16 0++_=aKR key
   rw[aKR,hk,sub_end _ _ _ (by omega)]
  ·exact congrArg (fun z=>B.mx [V.z 16 z,nilv,nilv,nilv]) (cp16t hk (by decide))
  rcases i with _|_|_|_|i
  ·refine⟨_,rfl,rfl,by decide,by decide,by decide,_,rfl,by decide,by decide,by decide,_,rfl,?_⟩
   refine⟨[],_,_,_,_,c_aturn (k:=1) (b:=(aWp 0 key 0).1) (key:=aC 0) rfl rfl (aWp_len 0 (by omega) (by omega) 0).1 (aC_len 0 (by decide)) (by decide) (by decide),rfl,rfl,?_⟩
   refine⟨by decide,by decide,Zf rfl,?_⟩
   refine⟨by decide,by decide,_,rfl,?_⟩
   refine⟨[],_,_,_,_,c_xor (a:=aTurn 1 (aWp 0 key 0).1 (aC 0)) (b:=(aWp 0 key 0).2) (bv_all (aTurn_len _ _ _)) rfl (aTurn_len _ _ _) (aWp_len 0 (by omega) (by omega) 0).2 (by decide),rfl,rfl,?_⟩
   refine⟨by decide,by decide,Zf rfl,?_⟩
   refine⟨by decide,by decide,_,rfl,?_⟩
   refine⟨1,by decide,by decide,[.k 0,.k 1,.k 2],⟨rfl,rfl,rfl,rfl,rfl,rfl,trivial⟩,⟨_,rfl,rfl⟩,⟨_,rfl,rfl⟩,⟨_,rfl,?_⟩,trivial⟩
   show B.mx [a16 (aWp 0 key 0).1,V.z 16 (sub (bv (aWp 0 key 1).1) 0 16),nilv,nilv]=_
   rw[bv_all (aWp_len 0 (by omega) (by omega) 1).1]
   rfl
  ·refine⟨_,rfl,rfl,by decide,by decide,by decide,_,rfl,by decide,by decide,by decide,_,rfl,?_⟩
   refine⟨[],_,_,_,_,c_aturn (k:=2) (b:=(aWp 0 key 1).1) (key:=aC 1) rfl rfl (aWp_len 0 (by omega) (by omega) 1).1 (aC_len 1 (by decide)) (by decide) (by decide),rfl,rfl,?_⟩
   refine⟨by decide,by decide,Zf rfl,?_⟩
   refine⟨by decide,by decide,_,rfl,?_⟩
   refine⟨[],_,_,_,_,c_xor (a:=aTurn 2 (aWp 0 key 1).1 (aC 1)) (b:=(aWp 0 key 1).2) (bv_all (aTurn_len _ _ _)) rfl (aTurn_len _ _ _) (aWp_len 0 (by omega) (by omega) 1).2 (by decide),rfl,rfl,?_⟩
   refine⟨by decide,by decide,Zf rfl,?_⟩
   refine⟨by decide,by decide,_,rfl,?_⟩
   refine⟨2,by decide,by decide,[.k 0,.k 1,.k 2],⟨rfl,rfl,rfl,rfl,rfl,rfl,trivial⟩,⟨_,rfl,rfl⟩,⟨_,rfl,rfl⟩,⟨_,rfl,?_⟩,trivial⟩
   show B.mx [a16 (aWp 0 key 0).1,a16 (aWp 0 key 1).1,V.z 16 (sub (bv (aWp 0 key 2).1) 0 16),nilv]=_
   rw[bv_all (aWp_len 0 (by omega) (by omega) 2).1]
   rfl
  ·refine⟨_,rfl,rfl,by decide,by decide,by decide,_,rfl,by decide,by decide,by decide,_,rfl,?_⟩
   refine⟨[],_,_,_,_,c_aturn (k:=1) (b:=(aWp 0 key 2).1) (key:=aC 2) rfl rfl (aWp_len 0 (by omega) (by omega) 2).1 (aC_len 2 (by decide)) (by decide) (by decide),rfl,rfl,?_⟩
   refine⟨by decide,by decide,Zf rfl,?_⟩
   refine⟨by decide,by decide,_,rfl,?_⟩
   refine⟨[],_,_,_,_,c_xor (a:=aTurn 1 (aWp 0 key 2).1 (aC 2)) (b:=(aWp 0 key 2).2) (bv_all (aTurn_len _ _ _)) rfl (aTurn_len _ _ _) (aWp_len 0 (by omega) (by omega) 2).2 (by decide),rfl,rfl,?_⟩
   refine⟨by decide,by decide,Zf rfl,?_⟩
   refine⟨by decide,by decide,_,rfl,?_⟩
   refine⟨3,by decide,by decide,[.k 0,.k 1,.k 2],⟨rfl,rfl,rfl,rfl,rfl,rfl,trivial⟩,⟨_,rfl,rfl⟩,⟨_,rfl,rfl⟩,⟨_,rfl,?_⟩,trivial⟩
   show B.mx [a16 (aWp 0 key 0).1,a16 (aWp 0 key 1).1,a16 (aWp 0 key 2).1,V.z 16 (sub (bv (aWp 0 key 3).1) 0 16)]=_
   rw[bv_all (aWp_len 0 (by omega) (by omega) 3).1]
   rfl
  ·refine⟨Zc _,[(10,1,.mx [])],0,by decide,[.d 900000 0,.k 2,.d 11 0],⟨rfl,rfl,rfl,rfl,rfl,trivial⟩,⟨_,rfl,rfl⟩,⟨_,rfl,rfl⟩,⟨_,rfl,rfl⟩,trivial⟩
  ·omega
 ·have e1:((r:Int)).tmod 4=((r%4:Nat):Int):=by rw[Zg (by omega)];omega
  have e2:(I6.wrap ((r:Int)+1)).tmod 4=(((r+1)%4:Nat):Int):=by
   rw[Za _ (by omega),Zg (by omega)];omega
  have e3:I6.wrap (((r:Int)).tdiv 4)=((r/4:Nat):Int):=by
   rw[Zi (by omega),Za _ (by omega)];omega
  have m1:=Zr r (show 4>0 by decide)
  have m2:=Zr (r+1) (show 4>0 by decide)
  have hW:∀k,(aWp 0 key k).1.length=16:=fun k=>(aWp_len 0 (by omega) (by omega) k).1
  refine⟨by decide,by decide,by rw[e1];omega,by rw[e1];omega,?_⟩
  refine⟨_,by rw[e1,Zb,Zd,Ze];exact at4 (f:=fun k=>a16 (aWp 0 key k).1) rfl rfl rfl rfl m1,?_⟩
  refine⟨by rw[e2];omega,by rw[e2];omega,?_⟩
  refine⟨_,by rw[e2,Zb,Zd,Ze];exact at4 (f:=fun k=>a16 (aWp 0 key k).1) rfl rfl rfl rfl m2,?_⟩
  refine⟨by decide,by rw[e3];omega,by rw[e3];omega,?_⟩
  refine⟨_,by rw[e3,Zb,Zd,Ze];exact aAmt_get (by omega),?_⟩
  refine⟨[],_,_,_,_,c_turn (b:=(aWp 0 key ((r+1)%4)).1) (n:=aAmt (r/4)) rfl (hW _) (by decide) (by decide) (aAmt_b (by omega)),rfl,rfl,?_⟩
  refine⟨[],_,_,_,_,c_xor (a:=(aWp 0 key (r%4)).1) (b:=turnB (aWp 0 key ((r+1)%4)).1 (aAmt (r/4)%128).toNat) rfl (bv_all (by rw[turnB_len,hW])) (hW _) (by rw[turnB_len,hW]) (by decide),rfl,rfl,?_⟩
  refine⟨Zc _,by omega,by rw[aKV,Zq,aKs_len];omega,?_⟩
  have hs0:sub (aKV 0 key r) 0 (r*1)=aKV 0 key r:=by rw[Zd,sub_all (by rw[aKV,Zq,aKs_len])]
  have hst:aKV 0 key r++[V.z 16 (sub (bv (aKey 0 key r)) 0 16)]=aKV 0 key (r+1):=by
   rw[bv_all (by rw[aKey];exact xorL_len (hW _) (by rw[turnB_len,hW])),aKV,aKV,aKs_succ,Zl]
   rfl
  have he:I6.wrap (13+I6.wrap (2*0))=13:=by decide
  refine spl_d (fun h=> ?_) (fun h=> ?_)
  ·rw[he,Za _ (by omega)]at h
   refine⟨rfl,r+1,by omega,by omega,[.d 93 0,.k 1,.k 2],⟨rfl,rfl,rfl,rfl,q7i (by simp(disch:=omega)only[Za];omega),trivial⟩,⟨_,rfl,?_⟩,⟨_,rfl,rfl⟩,⟨_,rfl,rfl⟩,trivial⟩
   show B.mx (Zv (lend _ _ 6) (sub (aKV 0 key r) 0 (r*1)++[V.o _ _ _ _]))=_
   rw[Zl,hs0,aKV_lend]
   exact congrArg B.mx hst
  ·rw[he,Za _ (by omega)]at h
   obtain rfl:r=12:=(by omega)
   refine⟨_,rfl,[.d 93 0],rfl,⟨_,rfl,?_⟩,trivial⟩
   show B.mx (Zv (lend _ _ 6) (sub (aKV 0 key 12) 0 (12*1)++[V.o _ _ _ _]))=_
   rw[Zl,hs0,aKV_lend]
   exact congrArg B.mx hst
theorem c_akeys24 {va:List Value} {key:Bs} (ha:va=bv key) (hk:key.length=24):Con C N.aria_boxes_keys [aBA,.z 24 va] [] (.ret (.o 1 (.k 0) 0 15)) [.mx (aKV 1 key 15)]:=by
 subst ha
 refine fd.aria_boxes_keys.c ?_
 refine scopeN 0 rfl 15 (fun r=>⟨[(5,i64 1),(7,.p (.k 1) 0),(10,.o 1 (.k 0) 0 r),(11,.p (.k 2) 0),(12,i64 r)],[.mx (aKV 1 key r),.mx [a16 (aWp 1 key 0).1,a16 (aWp 1 key 1).1,a16 (aWp 1 key 2).1,a16 (aWp 1 key 3).1],.mx [i64 (-19),i64 (-31),i64 61,i64 31,i64 19]]⟩) ?_ fun r hr=> ?_
 ·refine⟨by decide,?_⟩
  refine⟨[],_,_,_,_,c_athree,rfl,rfl,?_⟩
  refine⟨Zc _,by decide,by decide,by decide,?_⟩
  refine⟨Zc _,?_⟩
  refine⟨by decide,by decide,_,rfl,?_⟩
  refine⟨by rw[bv_len,hk],by decide,?_⟩
  refine⟨by decide,by decide,by decide,?_⟩
  refine⟨by decide,by omega,Zc _,Zc _,?_⟩
  refine⟨by rw[bv_sub,bv_len,sub_length,hk];rfl,by decide,?_⟩
  refine loopN (fun i=>⟨[(2,.p (.k 0) 0),(5,i64 1),(6,.p (.k 1) 0),(7,.p (.k 2) 0),(8,a16 (aWp 1 key i).2),(33,i64 i)],[.mx [aBz 0,aBz 1,aBz 2,aBz 3],.mx [aCz 0,aCz 1,aCz 2],aWB 1 key i]⟩) 3 ⟨[.d 2 0,.d 6 0,.d 7 0],⟨rfl,rfl,rfl,rfl,?_,rfl,trivial⟩,⟨_,rfl,rfl⟩,⟨_,rfl,rfl⟩,⟨_,rfl,?_⟩,trivial⟩ fun i hi=> ?_
  ·show V.z 16 _=V.z 16 _
   refine congrArg (V.z 16) (Eq.trans (cp16 (n:=8) (v:=sub key 16 8) (bv_sub _ _ _) (by rw[sub_length];omega) (by decide)) (congrArg bv ?_))
   show sub key 16 8++_=aKR key
   rw[aKR,hk,sub_end _ _ _ (by omega)]
  ·exact congrArg (fun z=>B.mx [V.z 16 z,nilv,nilv,nilv]) (cp16t hk (by decide))
  rcases i with _|_|_|_|i
  ·refine⟨_,rfl,rfl,by decide,by decide,by decide,_,rfl,by decide,by decide,by decide,_,rfl,?_⟩
   refine⟨[],_,_,_,_,c_aturn (k:=1) (b:=(aWp 1 key 0).1) (key:=aC 1) rfl rfl (aWp_len 1 (by omega) (by omega) 0).1 (aC_len 1 (by decide)) (by decide) (by decide),rfl,rfl,?_⟩
   refine⟨by decide,by decide,Zf rfl,?_⟩
   refine⟨by decide,by decide,_,rfl,?_⟩
   refine⟨[],_,_,_,_,c_xor (a:=aTurn 1 (aWp 1 key 0).1 (aC 1)) (b:=(aWp 1 key 0).2) (bv_all (aTurn_len _ _ _)) rfl (aTurn_len _ _ _) (aWp_len 1 (by omega) (by omega) 0).2 (by decide),rfl,rfl,?_⟩
   refine⟨by decide,by decide,Zf rfl,?_⟩
   refine⟨by decide,by decide,_,rfl,?_⟩
   refine⟨1,by decide,by decide,[.k 0,.k 1,.k 2],⟨rfl,rfl,rfl,rfl,rfl,rfl,trivial⟩,⟨_,rfl,rfl⟩,⟨_,rfl,rfl⟩,⟨_,rfl,?_⟩,trivial⟩
   show B.mx [a16 (aWp 1 key 0).1,V.z 16 (sub (bv (aWp 1 key 1).1) 0 16),nilv,nilv]=_
   rw[bv_all (aWp_len 1 (by omega) (by omega) 1).1]
   rfl
  ·refine⟨_,rfl,rfl,by decide,by decide,by decide,_,rfl,by decide,by decide,by decide,_,rfl,?_⟩
   refine⟨[],_,_,_,_,c_aturn (k:=2) (b:=(aWp 1 key 1).1) (key:=aC 2) rfl rfl (aWp_len 1 (by omega) (by omega) 1).1 (aC_len 2 (by decide)) (by decide) (by decide),rfl,rfl,?_⟩
   refine⟨by decide,by decide,Zf rfl,?_⟩
   refine⟨by decide,by decide,_,rfl,?_⟩
   refine⟨[],_,_,_,_,c_xor (a:=aTurn 2 (aWp 1 key 1).1 (aC 2)) (b:=(aWp 1 key 1).2) (bv_all (aTurn_len _ _ _)) rfl (aTurn_len _ _ _) (aWp_len 1 (by omega) (by omega) 1).2 (by decide),rfl,rfl,?_⟩
   refine⟨by decide,by decide,Zf rfl,?_⟩
   refine⟨by decide,by decide,_,rfl,?_⟩
   refine⟨2,by decide,by decide,[.k 0,.k 1,.k 2],⟨rfl,rfl,rfl,rfl,rfl,rfl,trivial⟩,⟨_,rfl,rfl⟩,⟨_,rfl,rfl⟩,⟨_,rfl,?_⟩,trivial⟩
   show B.mx [a16 (aWp 1 key 0).1,a16 (aWp 1 key 1).1,V.z 16 (sub (bv (aWp 1 key 2).1) 0 16),nilv]=_
   rw[bv_all (aWp_len 1 (by omega) (by omega) 2).1]
   rfl
  ·refine⟨_,rfl,rfl,by decide,by decide,by decide,_,rfl,by decide,by decide,by decide,_,rfl,?_⟩
   refine⟨[],_,_,_,_,c_aturn (k:=1) (b:=(aWp 1 key 2).1) (key:=aC 0) rfl rfl (aWp_len 1 (by omega) (by omega) 2).1 (aC_len 0 (by decide)) (by decide) (by decide),rfl,rfl,?_⟩
   refine⟨by decide,by decide,Zf rfl,?_⟩
   refine⟨by decide,by decide,_,rfl,?_⟩
   refine⟨[],_,_,_,_,c_xor (a:=aTurn 1 (aWp 1 key 2).1 (aC 0)) (b:=(aWp 1 key 2).2) (bv_all (aTurn_len _ _ _)) rfl (aTurn_len _ _ _) (aWp_len 1 (by omega) (by omega) 2).2 (by decide),rfl,rfl,?_⟩
   refine⟨by decide,by decide,Zf rfl,?_⟩
   refine⟨by decide,by decide,_,rfl,?_⟩
   refine⟨3,by decide,by decide,[.k 0,.k 1,.k 2],⟨rfl,rfl,rfl,rfl,rfl,rfl,trivial⟩,⟨_,rfl,rfl⟩,⟨_,rfl,rfl⟩,⟨_,rfl,?_⟩,trivial⟩
   show B.mx [a16 (aWp 1 key 0).1,a16 (aWp 1 key 1).1,a16 (aWp 1 key 2).1,V.z 16 (sub (bv (aWp 1 key 3).1) 0 16)]=_
   rw[bv_all (aWp_len 1 (by omega) (by omega) 3).1]
   rfl
  ·refine⟨Zc _,[(10,1,.mx [])],0,by decide,[.d 900000 0,.k 2,.d 11 0],⟨rfl,rfl,rfl,rfl,rfl,trivial⟩,⟨_,rfl,rfl⟩,⟨_,rfl,rfl⟩,⟨_,rfl,rfl⟩,trivial⟩
  ·omega
 ·have e1:((r:Int)).tmod 4=((r%4:Nat):Int):=by rw[Zg (by omega)];omega
  have e2:(I6.wrap ((r:Int)+1)).tmod 4=(((r+1)%4:Nat):Int):=by
   rw[Za _ (by omega),Zg (by omega)];omega
  have e3:I6.wrap (((r:Int)).tdiv 4)=((r/4:Nat):Int):=by
   rw[Zi (by omega),Za _ (by omega)];omega
  have m1:=Zr r (show 4>0 by decide)
  have m2:=Zr (r+1) (show 4>0 by decide)
  have hW:∀k,(aWp 1 key k).1.length=16:=fun k=>(aWp_len 1 (by omega) (by omega) k).1
  refine⟨by decide,by decide,by rw[e1];omega,by rw[e1];omega,?_⟩
  refine⟨_,by rw[e1,Zb,Zd,Ze];exact at4 (f:=fun k=>a16 (aWp 1 key k).1) rfl rfl rfl rfl m1,?_⟩
  refine⟨by rw[e2];omega,by rw[e2];omega,?_⟩
  refine⟨_,by rw[e2,Zb,Zd,Ze];exact at4 (f:=fun k=>a16 (aWp 1 key k).1) rfl rfl rfl rfl m2,?_⟩
  refine⟨by decide,by rw[e3];omega,by rw[e3];omega,?_⟩
  refine⟨_,by rw[e3,Zb,Zd,Ze];exact aAmt_get (by omega),?_⟩
  refine⟨[],_,_,_,_,c_turn (b:=(aWp 1 key ((r+1)%4)).1) (n:=aAmt (r/4)) rfl (hW _) (by decide) (by decide) (aAmt_b (by omega)),rfl,rfl,?_⟩
  refine⟨[],_,_,_,_,c_xor (a:=(aWp 1 key (r%4)).1) (b:=turnB (aWp 1 key ((r+1)%4)).1 (aAmt (r/4)%128).toNat) rfl (bv_all (by rw[turnB_len,hW])) (hW _) (by rw[turnB_len,hW]) (by decide),rfl,rfl,?_⟩
  refine⟨Zc _,by omega,by rw[aKV,Zq,aKs_len];omega,?_⟩
  have hs0:sub (aKV 1 key r) 0 (r*1)=aKV 1 key r:=by rw[Zd,sub_all (by rw[aKV,Zq,aKs_len])]
  have hst:aKV 1 key r++[V.z 16 (sub (bv (aKey 1 key r)) 0 16)]=aKV 1 key (r+1):=by
   rw[bv_all (by rw[aKey];exact xorL_len (hW _) (by rw[turnB_len,hW])),aKV,aKV,aKs_succ,Zl]
   rfl
  have he:I6.wrap (13+I6.wrap (2*1))=15:=by decide
  refine spl_d (fun h=> ?_) (fun h=> ?_)
  ·rw[he,Za _ (by omega)]at h
   refine⟨rfl,r+1,by omega,by omega,[.d 93 0,.k 1,.k 2],⟨rfl,rfl,rfl,rfl,q7i (by simp(disch:=omega)only[Za];omega),trivial⟩,⟨_,rfl,?_⟩,⟨_,rfl,rfl⟩,⟨_,rfl,rfl⟩,trivial⟩
   show B.mx (Zv (lend _ _ 6) (sub (aKV 1 key r) 0 (r*1)++[V.o _ _ _ _]))=_
   rw[Zl,hs0,aKV_lend]
   exact congrArg B.mx hst
  ·rw[he,Za _ (by omega)]at h
   obtain rfl:r=14:=(by omega)
   refine⟨_,rfl,[.d 93 0],rfl,⟨_,rfl,?_⟩,trivial⟩
   show B.mx (Zv (lend _ _ 6) (sub (aKV 1 key 14) 0 (14*1)++[V.o _ _ _ _]))=_
   rw[Zl,hs0,aKV_lend]
   exact congrArg B.mx hst
theorem c_akeys32 {va:List Value} {key:Bs} (ha:va=bv key) (hk:key.length=32):Con C N.aria_boxes_keys [aBA,.z 32 va] [] (.ret (.o 1 (.k 0) 0 17)) [.mx (aKV 2 key 17)]:=by
 subst ha
 refine fd.aria_boxes_keys.c ?_
 refine scopeN 0 rfl 17 (fun r=>⟨[(5,i64 2),(7,.p (.k 1) 0),(10,.o 1 (.k 0) 0 r),(11,.p (.k 2) 0),(12,i64 r)],[.mx (aKV 2 key r),.mx [a16 (aWp 2 key 0).1,a16 (aWp 2 key 1).1,a16 (aWp 2 key 2).1,a16 (aWp 2 key 3).1],.mx [i64 (-19),i64 (-31),i64 61,i64 31,i64 19]]⟩) ?_ fun r hr=> ?_
 ·refine⟨by decide,?_⟩
  refine⟨[],_,_,_,_,c_athree,rfl,rfl,?_⟩
  refine⟨Zc _,by decide,by decide,by decide,?_⟩
  refine⟨Zc _,?_⟩
  refine⟨by decide,by decide,_,rfl,?_⟩
  refine⟨by rw[bv_len,hk],by decide,?_⟩
  refine⟨by decide,by decide,by decide,?_⟩
  refine⟨by decide,by omega,Zc _,Zc _,?_⟩
  refine⟨by rw[bv_sub,bv_len,sub_length,hk];rfl,by decide,?_⟩
  refine loopN (fun i=>⟨[(2,.p (.k 0) 0),(5,i64 2),(6,.p (.k 1) 0),(7,.p (.k 2) 0),(8,a16 (aWp 2 key i).2),(33,i64 i)],[.mx [aBz 0,aBz 1,aBz 2,aBz 3],.mx [aCz 0,aCz 1,aCz 2],aWB 2 key i]⟩) 3 ⟨[.d 2 0,.d 6 0,.d 7 0],⟨rfl,rfl,rfl,rfl,?_,rfl,trivial⟩,⟨_,rfl,rfl⟩,⟨_,rfl,rfl⟩,⟨_,rfl,?_⟩,trivial⟩ fun i hi=> ?_
  ·show V.z 16 _=V.z 16 _
   refine congrArg (V.z 16) (Eq.trans (cp16 (n:=16) (v:=sub key 16 16) (bv_sub _ _ _) (by rw[sub_length];omega) (by decide)) (congrArg bv ?_))
   show sub key 16 16++_=aKR key
   rw[aKR,hk,sub_end _ _ _ (by omega)]
  ·exact congrArg (fun z=>B.mx [V.z 16 z,nilv,nilv,nilv]) (cp16t hk (by decide))
  rcases i with _|_|_|_|i
  ·refine⟨_,rfl,rfl,by decide,by decide,by decide,_,rfl,by decide,by decide,by decide,_,rfl,?_⟩
   refine⟨[],_,_,_,_,c_aturn (k:=1) (b:=(aWp 2 key 0).1) (key:=aC 2) rfl rfl (aWp_len 2 (by omega) (by omega) 0).1 (aC_len 2 (by decide)) (by decide) (by decide),rfl,rfl,?_⟩
   refine⟨by decide,by decide,Zf rfl,?_⟩
   refine⟨by decide,by decide,_,rfl,?_⟩
   refine⟨[],_,_,_,_,c_xor (a:=aTurn 1 (aWp 2 key 0).1 (aC 2)) (b:=(aWp 2 key 0).2) (bv_all (aTurn_len _ _ _)) rfl (aTurn_len _ _ _) (aWp_len 2 (by omega) (by omega) 0).2 (by decide),rfl,rfl,?_⟩
   refine⟨by decide,by decide,Zf rfl,?_⟩
   refine⟨by decide,by decide,_,rfl,?_⟩
   refine⟨1,by decide,by decide,[.k 0,.k 1,.k 2],⟨rfl,rfl,rfl,rfl,rfl,rfl,trivial⟩,⟨_,rfl,rfl⟩,⟨_,rfl,rfl⟩,⟨_,rfl,?_⟩,trivial⟩
   show B.mx [a16 (aWp 2 key 0).1,V.z 16 (sub (bv (aWp 2 key 1).1) 0 16),nilv,nilv]=_
   rw[bv_all (aWp_len 2 (by omega) (by omega) 1).1]
   rfl
  ·refine⟨_,rfl,rfl,by decide,by decide,by decide,_,rfl,by decide,by decide,by decide,_,rfl,?_⟩
   refine⟨[],_,_,_,_,c_aturn (k:=2) (b:=(aWp 2 key 1).1) (key:=aC 0) rfl rfl (aWp_len 2 (by omega) (by omega) 1).1 (aC_len 0 (by decide)) (by decide) (by decide),rfl,rfl,?_⟩
   refine⟨by decide,by decide,Zf rfl,?_⟩
   refine⟨by decide,by decide,_,rfl,?_⟩
   refine⟨[],_,_,_,_,c_xor (a:=aTurn 2 (aWp 2 key 1).1 (aC 0)) (b:=(aWp 2 key 1).2) (bv_all (aTurn_len _ _ _)) rfl (aTurn_len _ _ _) (aWp_len 2 (by omega) (by omega) 1).2 (by decide),rfl,rfl,?_⟩
   refine⟨by decide,by decide,Zf rfl,?_⟩
   refine⟨by decide,by decide,_,rfl,?_⟩
   refine⟨2,by decide,by decide,[.k 0,.k 1,.k 2],⟨rfl,rfl,rfl,rfl,rfl,rfl,trivial⟩,⟨_,rfl,rfl⟩,⟨_,rfl,rfl⟩,⟨_,rfl,?_⟩,trivial⟩
   show B.mx [a16 (aWp 2 key 0).1,a16 (aWp 2 key 1).1,V.z 16 (sub (bv (aWp 2 key 2).1) 0 16),nilv]=_
   rw[bv_all (aWp_len 2 (by omega) (by omega) 2).1]
   rfl
  ·refine⟨_,rfl,rfl,by decide,by decide,by decide,_,rfl,by decide,by decide,by decide,_,rfl,?_⟩
   refine⟨[],_,_,_,_,c_aturn (k:=1) (b:=(aWp 2 key 2).1) (key:=aC 1) rfl rfl (aWp_len 2 (by omega) (by omega) 2).1 (aC_len 1 (by decide)) (by decide) (by decide),rfl,rfl,?_⟩
   refine⟨by decide,by decide,Zf rfl,?_⟩
   refine⟨by decide,by decide,_,rfl,?_⟩
   refine⟨[],_,_,_,_,c_xor (a:=aTurn 1 (aWp 2 key 2).1 (aC 1)) (b:=(aWp 2 key 2).2) (bv_all (aTurn_len _ _ _)) rfl (aTurn_len _ _ _) (aWp_len 2 (by omega) (by omega) 2).2 (by decide),rfl,rfl,?_⟩
   refine⟨by decide,by decide,Zf rfl,?_⟩
   refine⟨by decide,by decide,_,rfl,?_⟩
   refine⟨3,by decide,by decide,[.k 0,.k 1,.k 2],⟨rfl,rfl,rfl,rfl,rfl,rfl,trivial⟩,⟨_,rfl,rfl⟩,⟨_,rfl,rfl⟩,⟨_,rfl,?_⟩,trivial⟩
   show B.mx [a16 (aWp 2 key 0).1,a16 (aWp 2 key 1).1,a16 (aWp 2 key 2).1,V.z 16 (sub (bv (aWp 2 key 3).1) 0 16)]=_
   rw[bv_all (aWp_len 2 (by omega) (by omega) 3).1]
   rfl
  ·refine⟨Zc _,[(10,1,.mx [])],0,by decide,[.d 900000 0,.k 2,.d 11 0],⟨rfl,rfl,rfl,rfl,rfl,trivial⟩,⟨_,rfl,rfl⟩,⟨_,rfl,rfl⟩,⟨_,rfl,rfl⟩,trivial⟩
  ·omega
 ·have e1:((r:Int)).tmod 4=((r%4:Nat):Int):=by rw[Zg (by omega)];omega
  have e2:(I6.wrap ((r:Int)+1)).tmod 4=(((r+1)%4:Nat):Int):=by
   rw[Za _ (by omega),Zg (by omega)];omega
  have e3:I6.wrap (((r:Int)).tdiv 4)=((r/4:Nat):Int):=by
   rw[Zi (by omega),Za _ (by omega)];omega
  have m1:=Zr r (show 4>0 by decide)
  have m2:=Zr (r+1) (show 4>0 by decide)
  have hW:∀k,(aWp 2 key k).1.length=16:=fun k=>(aWp_len 2 (by omega) (by omega) k).1
  refine⟨by decide,by decide,by rw[e1];omega,by rw[e1];omega,?_⟩
  refine⟨_,by rw[e1,Zb,Zd,Ze];exact at4 (f:=fun k=>a16 (aWp 2 key k).1) rfl rfl rfl rfl m1,?_⟩
  refine⟨by rw[e2];omega,by rw[e2];omega,?_⟩
  refine⟨_,by rw[e2,Zb,Zd,Ze];exact at4 (f:=fun k=>a16 (aWp 2 key k).1) rfl rfl rfl rfl m2,?_⟩
  refine⟨by decide,by rw[e3];omega,by rw[e3];omega,?_⟩
  refine⟨_,by rw[e3,Zb,Zd,Ze];exact aAmt_get (by omega),?_⟩
  refine⟨[],_,_,_,_,c_turn (b:=(aWp 2 key ((r+1)%4)).1) (n:=aAmt (r/4)) rfl (hW _) (by decide) (by decide) (aAmt_b (by omega)),rfl,rfl,?_⟩
  refine⟨[],_,_,_,_,c_xor (a:=(aWp 2 key (r%4)).1) (b:=turnB (aWp 2 key ((r+1)%4)).1 (aAmt (r/4)%128).toNat) rfl (bv_all (by rw[turnB_len,hW])) (hW _) (by rw[turnB_len,hW]) (by decide),rfl,rfl,?_⟩
  refine⟨Zc _,by omega,by rw[aKV,Zq,aKs_len];omega,?_⟩
  have hs0:sub (aKV 2 key r) 0 (r*1)=aKV 2 key r:=by rw[Zd,sub_all (by rw[aKV,Zq,aKs_len])]
  have hst:aKV 2 key r++[V.z 16 (sub (bv (aKey 2 key r)) 0 16)]=aKV 2 key (r+1):=by
   rw[bv_all (by rw[aKey];exact xorL_len (hW _) (by rw[turnB_len,hW])),aKV,aKV,aKs_succ,Zl]
   rfl
  have he:I6.wrap (13+I6.wrap (2*2))=17:=by decide
  refine spl_d (fun h=> ?_) (fun h=> ?_)
  ·rw[he,Za _ (by omega)]at h
   refine⟨rfl,r+1,by omega,by omega,[.d 93 0,.k 1,.k 2],⟨rfl,rfl,rfl,rfl,q7i (by simp(disch:=omega)only[Za];omega),trivial⟩,⟨_,rfl,?_⟩,⟨_,rfl,rfl⟩,⟨_,rfl,rfl⟩,trivial⟩
   show B.mx (Zv (lend _ _ 6) (sub (aKV 2 key r) 0 (r*1)++[V.o _ _ _ _]))=_
   rw[Zl,hs0,aKV_lend]
   exact congrArg B.mx hst
  ·rw[he,Za _ (by omega)]at h
   obtain rfl:r=16:=(by omega)
   refine⟨_,rfl,[.d 93 0],rfl,⟨_,rfl,?_⟩,trivial⟩
   show B.mx (Zv (lend _ _ 6) (sub (aKV 2 key 16) 0 (16*1)++[V.o _ _ _ _]))=_
   rw[Zl,hs0,aKV_lend]
   exact congrArg B.mx hst
abbrev ariaV (q:Nat) (key:Bs) (n:Nat):V:= .q [aBz 0,aBz 1,aBz 2,aBz 3,.zz 1 n (aKV q key n)] 0
theorem c_afits16 {va:List Value}:Con C N.aria_fits [.z 16 va] [] (.ret (bool true)) []:=fd.aria_fits.c ⟨by decide,_,rfl,[],rfl,trivial⟩
theorem c_afits24 {va:List Value}:Con C N.aria_fits [.z 24 va] [] (.ret (bool true)) []:=fd.aria_fits.c ⟨by decide,_,rfl,[],rfl,trivial⟩
theorem c_afits32 {va:List Value}:Con C N.aria_fits [.z 32 va] [] (.ret (bool true)) []:=fd.aria_fits.c ⟨by decide,_,rfl,[],rfl,trivial⟩
theorem c_anew16 {va:List Value} {key:Bs} (ha:va=bv key) (hk:key.length=16):Con C N.aria_New [.z 16 va] [] (.ret (.t [ariaV 0 key 13,i64 0])) []:=by
 refine fd.aria_New.c ?_
 refine⟨[],_,_,_,_,c_afits16,rfl,rfl,?_⟩
 refine⟨[],_,_,_,_,c_amade,rfl,rfl,?_⟩
 refine⟨Zc _,?_⟩
 refine⟨_,rfl,rfl,?_⟩
 refine⟨_,rfl,rfl,?_⟩
 refine⟨[],_,_,_,_,c_akeys16 (va:=va) ha hk,rfl,rfl,?_⟩
 exact⟨_,rfl,[],rfl,trivial⟩
theorem c_anew24 {va:List Value} {key:Bs} (ha:va=bv key) (hk:key.length=24):Con C N.aria_New [.z 24 va] [] (.ret (.t [ariaV 1 key 15,i64 0])) []:=by
 refine fd.aria_New.c ?_
 refine⟨[],_,_,_,_,c_afits24,rfl,rfl,?_⟩
 refine⟨[],_,_,_,_,c_amade,rfl,rfl,?_⟩
 refine⟨Zc _,?_⟩
 refine⟨_,rfl,rfl,?_⟩
 refine⟨_,rfl,rfl,?_⟩
 refine⟨[],_,_,_,_,c_akeys24 (va:=va) ha hk,rfl,rfl,?_⟩
 exact⟨_,rfl,[],rfl,trivial⟩
theorem c_anew32 {va:List Value} {key:Bs} (ha:va=bv key) (hk:key.length=32):Con C N.aria_New [.z 32 va] [] (.ret (.t [ariaV 2 key 17,i64 0])) []:=by
 refine fd.aria_New.c ?_
 refine⟨[],_,_,_,_,c_afits32,rfl,rfl,?_⟩
 refine⟨[],_,_,_,_,c_amade,rfl,rfl,?_⟩
 refine⟨Zc _,?_⟩
 refine⟨_,rfl,rfl,?_⟩
 refine⟨_,rfl,rfl,?_⟩
 refine⟨[],_,_,_,_,c_akeys32 (va:=va) ha hk,rfl,rfl,?_⟩
 exact⟨_,rfl,[],rfl,trivial⟩
def aEncN (q:Nat) (key b:Bs):Nat→Bs
 |0=>b
 |r+1=>aTurn (1+r%2) (aEncN q key b r) (aKey q key r)
def ariaE (q:Nat) (key:Bs) (n:Nat) (b:Bs):Bs:=xorL (aLay 2 (xorL (aEncN q key b (n-2)) (aKey q key (n-2))) 16) (aKey q key (n-1))
def aDecN (q:Nat) (key:Bs) (n:Nat) (b:Bs):Nat→Bs
 |0=>xorL (aLay 1 (xorL b (aKey q key (n-1))) 16) (aKey q key (n-2))
 |i+1=>xorL (aLay (2-(n-3-i)%2) (aMix (aDecN q key n b i)) 16) (aKey q key (n-3-i))
def ariaD (q:Nat) (key:Bs) (n:Nat) (b:Bs):Bs:=aDecN q key n b (n-2)
structure AOk (q:Nat) (key:Bs) (n:Nat):Prop where
 h1:16≤key.length
 h2:key.length≤32
 h3:13≤n
 h4:n≤17
theorem aKey_len {q key n} (h:AOk q key n) (i):(aKey q key i).length=16:=by
 have hW:∀k,(aWp q key k).1.length=16:=fun k=>(aWp_len q h.h1 h.h2 k).1
 rw[aKey];exact xorL_len (hW _) (by rw[turnB_len,hW])
theorem aEncN_len {q key n b} (h:AOk q key n) (hb:b.length=16):∀i,(aEncN q key b i).length=16
 |0=>hb
 |i+1=>aTurn_len _ _ _
theorem aDecN_len {q key n b} (h:AOk q key n):∀i,(aDecN q key n b i).length=16
 |0=>xorL_len (aLay_len _ _ _) (aKey_len h _)
 |i+1=>xorL_len (aLay_len _ _ _) (aKey_len h _)
theorem aKV_get {q key n r} (h:r<n):(aKV q key n)[r]? =some (a16 (aKey q key r)):=by
 simp[aKV,aKs,h]
theorem c_aturn' {va vk:List Value} {b key:Bs} {k:Nat} {x:Int} (hx:x=(k:Nat)) (ha:va=bv b) (hk:vk=bv key) (hb:b.length=16) (hkl:key.length=16) (h1:1≤k) (h2:k≤2):Con C N.aria_boxes_turn [aBA,i64 x,.z 16 va,.z 16 vk] [] (.ret (.o 1 (.k 0) 0 16)) [.sc (bv (aTurn k b key))]:=by
 subst hx;exact c_aturn ha hk hb hkl h1 h2
theorem c_alayer' {va:List Value} {b:Bs} {k:Nat} {x:Int} (hx:x=(k:Nat)) (ha:va=bv b) (hb:b.length=16) (h1:1≤k) (h2:k≤2):Con C N.aria_boxes_layer [aBA,i64 x,.z 16 va] [] (.ret (.o 1 (.k 0) 0 16)) [.sc (bv (aLay k b 16))]:=by
 subst hx;exact c_alayer ha hb h1 h2
theorem c_aria_enc {va:List Value} {b key:Bs} {q n:Nat} (h:AOk q key n) (ha:va=bv b) (hb:b.length=16):Con C N.aria_Aria_Block [ariaV q key n,.z 16 va,bool false] [] (okBlk 16) [.sc (bv (ariaE q key n b))]:=by
 subst ha
 have h3:=h.h3
 have h4:=h.h4
 have kl:=aKey_len h
 have h':=h
 refine fd.aria_Aria_Block.c ?_
 refine scopeN 0 rfl 0 (fun _=>⟨[],[]⟩) ?_ fun r hr=>absurd hr (Nat.not_lt_zero _)
 refine⟨_,rfl,?_⟩
 refine loopN (fun i=>⟨[(0,ariaV q key n),(1,a16 (aEncN q key b i)),(8,i64 (n-1:Nat)),(9,i64 i)],[]⟩) (n-2) ⟨[],⟨rfl,rfl,?_,rfl,trivial⟩,trivial⟩ fun i hi=> ?_
 ·show i64 _=i64 _
  rw[Za _ (by omega)];congr 2;omega
 have hel:=aEncN_len h hb i
 have e0:I6.wrap (((n-1:Nat):Int)-1)=((n-2:Nat):Int):=by rw[Za _ (by omega)];omega
 refine spl_d (fun h=> ?_) (fun h=> ?_)
 ·rw[e0]at h
  have hlt:i<n-2:=(by omega)
  have e1:I6.wrap (1+(i:Int).tmod 2)=((1+i%2:Nat):Int):=by
   rw[Zg (by omega),Za _ (by omega)];omega
  refine⟨_,rfl,rfl,by decide,_,rfl,by omega,by omega,?_⟩
  refine⟨_,by rw[Zb,Zd];exact aKV_get (by omega),?_⟩
  refine⟨[],_,_,_,_,c_aturn' (b:=aEncN q key b i) (key:=aKey q key i) (k:=1+i%2) e1 rfl rfl hel (kl i) (by omega) (by omega),rfl,rfl,?_⟩
  refine⟨i+1,by omega,by omega,[],⟨rfl,?_,rfl,q7i (by simp(disch:=omega)only[Za];omega),trivial⟩,trivial⟩
  show V.z 16 (sub (bv (aEncN q key b (i+1))) 0 16)=_
  rw[bv_all (aEncN_len h' hb _)]
 ·rw[e0]at h
  obtain rfl:i=n-2:=(by omega)
  refine⟨_,rfl,by omega,by omega,?_⟩
  refine⟨_,by rw[Zb,Zd];exact aKV_get (by omega),?_⟩
  refine⟨[],_,_,_,_,c_xor (a:=aEncN q key b (n-2)) (b:=aKey q key (n-2)) rfl rfl hel (kl _) (by decide),rfl,rfl,?_⟩
  have hx:=xorL_len hel (kl (n-2))
  refine⟨_,rfl,rfl,?_⟩
  refine⟨[],_,_,_,_,c_alayer (k:=2) (b:=xorL (aEncN q key b (n-2)) (aKey q key (n-2))) (bv_all hx) hx (by decide) (by decide),rfl,rfl,?_⟩
  refine⟨_,rfl,by omega,by omega,?_⟩
  refine⟨_,by rw[Zb,Zd];exact aKV_get (by omega),?_⟩
  have hl:=aLay_len 2 (xorL (aEncN q key b (n-2)) (aKey q key (n-2))) 16
  refine⟨[],_,_,_,_,c_xor (b:=aKey q key (n-1)) (bv_all hl) rfl hl (kl _) (by decide),rfl,rfl,?_⟩
  exact⟨_,rfl,[.d 68 0],rfl,⟨_,rfl,rfl⟩,trivial⟩
theorem c_aria_dec {va:List Value} {b key:Bs} {q n:Nat} (h:AOk q key n) (ha:va=bv b) (hb:b.length=16):Con C N.aria_Aria_Block [ariaV q key n,.z 16 va,bool true] [] (okBlk 16) [.sc (bv (ariaD q key n b))]:=by
 subst ha
 have h3:=h.h3
 have h4:=h.h4
 have kl:=aKey_len h
 have h':=h
 have e0:I6.wrap (((n-1:Nat):Int)-1)=((n-2:Nat):Int):=by rw[Za _ (by omega)];omega
 refine fd.aria_Aria_Block.c ?_
 refine scopeN 0 rfl 1 (fun _=>⟨[(0,ariaV q key n),(1,a16 b),(8,i64 (n-1:Nat))],[]⟩) ?_ fun r hr=> ?_
 ·refine⟨_,rfl,?_⟩
  refine⟨rfl,0,by decide,[],⟨rfl,rfl,?_,trivial⟩,trivial⟩
  show i64 _=i64 _
  rw[Za _ (by omega)];congr 2;omega
 refine⟨_,rfl,by omega,by omega,?_⟩
 refine⟨_,by rw[Zb,Zd];exact aKV_get (by omega),?_⟩
 refine⟨[],_,_,_,_,c_xor (a:=b) (b:=aKey q key (n-1)) rfl rfl hb (kl _) (by decide),rfl,rfl,?_⟩
 have hx:=xorL_len hb (kl (n-1))
 refine⟨_,rfl,rfl,?_⟩
 refine⟨[],_,_,_,_,c_alayer (k:=1) (b:=xorL b (aKey q key (n-1))) (bv_all hx) hx (by decide) (by decide),rfl,rfl,?_⟩
 refine⟨_,rfl,by rw[e0];omega,by rw[e0];omega,?_⟩
 refine⟨_,by rw[e0,Zb,Zd];exact aKV_get (by omega),?_⟩
 have hl:=aLay_len 1 (xorL b (aKey q key (n-1))) 16
 refine⟨[],_,_,_,_,c_xor (b:=aKey q key (n-2)) (bv_all hl) rfl hl (kl _) (by decide),rfl,rfl,?_⟩
 refine loopN (fun i=>⟨[(0,ariaV q key n),(1,.o 1 (.k 0) 0 16),(9,i64 ((n:Int)-3-i))],[.sc (bv (aDecN q key n b i))]⟩) (n-2) ⟨[.d 99 0],⟨rfl,rfl,q7i ?_,trivial⟩,⟨_,rfl,rfl⟩,trivial⟩ fun i hi=> ?_
 ·rw[Za _ (by omega)];omega
 have hdl:=aDecN_len (b:=b) h i
 refine spl_d (fun h=> ?_) (fun h=> ?_)
 ·obtain⟨r,er,hrn,hri⟩:∃r:Nat,(n:Int)-3-i=r∧r≤n-3∧r=n-3-i:=⟨n-3-i,by omega,by omega,rfl⟩
  have hst:aDecN q key n b (i+1)=xorL (aLay (2-r%2) (aMix (aDecN q key n b i)) 16) (aKey q key r):=by rw[hri];rfl
  rw[er]
  have e1:I6.wrap (2-(r:Int).tmod 2)=((2-r%2:Nat):Int):=by
   rw[Zg (by omega),Za _ (by omega)];omega
  refine⟨[],_,_,_,_,c_amix (b:=aDecN q key n b i) (bv_all hdl) hdl,rfl,rfl,?_⟩
  refine⟨_,rfl,rfl,by decide,?_⟩
  have hm:=aMix_len (aDecN q key n b i)
  refine⟨[],_,_,_,_,c_alayer' (k:=2-r%2) (b:=aMix (aDecN q key n b i)) e1 (bv_all hm) hm (by omega) (by omega),rfl,rfl,?_⟩
  refine⟨_,rfl,by omega,by omega,?_⟩
  refine⟨_,by rw[Zb,Zd];exact aKV_get (by omega),?_⟩
  have hl:=aLay_len (2-r%2) (aMix (aDecN q key n b i)) 16
  refine⟨[],_,_,_,_,c_xor (b:=aKey q key r) (bv_all hl) rfl hl (kl _) (by decide),rfl,rfl,?_⟩
  refine⟨i+1,by omega,by omega,[.d 130 0],⟨rfl,rfl,q7i ?_,trivial⟩,⟨_,rfl,q7s (by rw[hst])⟩,trivial⟩
  ·rw[Za _ (by omega)];omega
 ·obtain rfl:i=n-2:=(by omega)
  exact⟨_,rfl,[.k 0],rfl,⟨_,rfl,rfl⟩,trivial⟩
theorem c_aria_bad {va:List Value} {key:Bs} {q n m:Nat} {back:Bool} (hn:m≠16):Con C N.aria_Aria_Block [ariaV q key n,.z m va,bool back] [] badBlk []:=by
 refine fd.aria_Aria_Block.c ?_
 refine scopeN 0 rfl 0 (fun _=>⟨[],[]⟩) ?_ fun r hr=>absurd hr (Nat.not_lt_zero _)
 refine spl_ne (fun h=> ?_) (fun h=>absurd (by omega) hn)
 exact⟨_,rfl,[],rfl,trivial⟩
abbrev bxQ:V:= .q [aBz 0,aBz 1,aBz 2,aBz 3] 0
theorem c_r10_boxes:Con C N.r10_boxes [] [] (.ret bxQ) []:=by
 have m1:=c_r4_make (e:=254) (m:=283) (z:=99) (c:=99) (r0:=241) (r1:=227) (r2:=199) (r3:=143) (r4:=31) (r5:=62) (r6:=124) (r7:=248) rfl (by decide) (by decide) (by decide) (by decide)
 have m2:=c_r4_make (e:=247) (m:=283) (z:=226) (c:=226) (r0:=122) (r1:=188) (r2:=235) (r3:=185) (r4:=52) (r5:=129) (r6:=186) (r7:=203) rfl (by decide) (by decide) (by decide) (by decide)
 rw[aS1_eq]at m1
 rw[aS2_eq]at m2
 have b1:=c_r4_back (va:=sub (bv aS1) 0 256) (bv_all aS1_len) aS1_len aS1_nd
 have b2:=c_r4_back (va:=sub (bv aS2) 0 256) (bv_all aS2_len) aS2_len aS2_nd
 rw[aI1_eq]at b1
 rw[aI2_eq]at b2
 refine fd.r10_boxes.c ?_
 refine⟨[],_,_,_,_,m1,rfl,rfl,?_⟩
 refine⟨[],_,_,_,_,m2,rfl,rfl,?_⟩
 refine⟨[],_,_,_,_,b1,rfl,rfl,?_⟩
 refine⟨[],_,_,_,_,b2,rfl,rfl,?_⟩
 refine⟨_,rfl,[],?_,trivial⟩
 show V.q [V.z 256 (sub (bv aS1) 0 256),V.z 256 (sub (bv aS2) 0 256),V.z 256 (sub (bv aI1) 0 256),V.z 256 (sub (bv aI2) 0 256)] 0=_
 rw[bv_all aS1_len,bv_all aS2_len,bv_all aI1_len,bv_all aI2_len]
 rfl
theorem c_r10_of {i:Nat} (hi:i<16):Con C N.r10_of [i64 i] [] (.ret (.o 1 (.k 0) 0 7)) [.sc ([.int .i64 ((aSum i).getD 0 0:Nat),.int .i64 ((aSum i).getD 1 0:Nat),.int .i64 ((aSum i).getD 2 0:Nat),.int .i64 ((aSum i).getD 3 0:Nat),.int .i64 ((aSum i).getD 4 0:Nat),.int .i64 ((aSum i).getD 5 0:Nat),.int .i64 ((aSum i).getD 6 0:Nat)])]:=by
 rcases i with _|_|_|_|_|_|_|_|_|_|_|_|_|_|_|_|i
 ·exact fd.r10_of.c ⟨_,rfl,[.d 6 0],rfl,⟨_,rfl,rfl⟩,trivial⟩
 ·exact fd.r10_of.c ⟨_,rfl,[.d 9 0],rfl,⟨_,rfl,rfl⟩,trivial⟩
 ·exact fd.r10_of.c ⟨_,rfl,[.d 12 0],rfl,⟨_,rfl,rfl⟩,trivial⟩
 ·exact fd.r10_of.c ⟨_,rfl,[.d 15 0],rfl,⟨_,rfl,rfl⟩,trivial⟩
 ·exact fd.r10_of.c ⟨_,rfl,[.d 18 0],rfl,⟨_,rfl,rfl⟩,trivial⟩
 ·exact fd.r10_of.c ⟨_,rfl,[.d 21 0],rfl,⟨_,rfl,rfl⟩,trivial⟩
 ·exact fd.r10_of.c ⟨_,rfl,[.d 24 0],rfl,⟨_,rfl,rfl⟩,trivial⟩
 ·exact fd.r10_of.c ⟨_,rfl,[.d 27 0],rfl,⟨_,rfl,rfl⟩,trivial⟩
 ·exact fd.r10_of.c ⟨_,rfl,[.d 30 0],rfl,⟨_,rfl,rfl⟩,trivial⟩
 ·exact fd.r10_of.c ⟨_,rfl,[.d 33 0],rfl,⟨_,rfl,rfl⟩,trivial⟩
 ·exact fd.r10_of.c ⟨_,rfl,[.d 36 0],rfl,⟨_,rfl,rfl⟩,trivial⟩
 ·exact fd.r10_of.c ⟨_,rfl,[.d 39 0],rfl,⟨_,rfl,rfl⟩,trivial⟩
 ·exact fd.r10_of.c ⟨_,rfl,[.d 42 0],rfl,⟨_,rfl,rfl⟩,trivial⟩
 ·exact fd.r10_of.c ⟨_,rfl,[.d 45 0],rfl,⟨_,rfl,rfl⟩,trivial⟩
 ·exact fd.r10_of.c ⟨_,rfl,[.d 48 0],rfl,⟨_,rfl,rfl⟩,trivial⟩
 ·exact fd.r10_of.c ⟨_,rfl,[.d 49 0],rfl,⟨_,rfl,rfl⟩,trivial⟩
 ·omega
theorem ofL_get {i t:Nat} (ht:t<7):([.int .i64 ((aSum i).getD 0 0:Nat),.int .i64 ((aSum i).getD 1 0:Nat),.int .i64 ((aSum i).getD 2 0:Nat),.int .i64 ((aSum i).getD 3 0:Nat),.int .i64 ((aSum i).getD 4 0:Nat),.int .i64 ((aSum i).getD 5 0:Nat),.int .i64 ((aSum i).getD 6 0:Nat)]:List Value)[t]? =some (.int .i64 ((aSum i).getD t 0:Nat)):=by
 rcases t with _|_|_|_|_|_|_|t
 all_goals first|rfl|omega
theorem c_r10_mix {va:List Value} {b:Bs} (ha:va=bv b) (hb:b.length=16):Con C N.r10_mix [.z 16 va] [] (.ret (.o 1 (.k 0) 0 16)) [.sc (bv (aMix b))]:=by
 subst ha
 have h0:∀p,aX b p 0=0:=fun _=>rfl
 refine fd.r10_mix.c ?_
 refine⟨by decide,by decide,by decide,?_⟩
 refine loopN (fun i=>⟨[(0,.z 16 (bv b)),(3,.o 1 (.k 0) 0 16),(4,i64 i)],[.sc (bv (accN 16 (aX b) 7 i 0))]⟩) 16 ⟨[.d 7 0],⟨rfl,rfl,rfl,trivial⟩,⟨_,rfl,q7s (by rw[accN_zero h0];exact bv_rep 16)⟩,trivial⟩ fun i hi=> ?_
 refine spl_d (fun h=> ?_) (fun h=> ?_)
 ·have hlt:i<16:=(by omega)
  refine⟨[],_,_,_,_,c_r10_of hlt,rfl,rfl,?_⟩
  refine loopN (fun k=>⟨[(0,.z 16 (bv b)),(3,.o 1 (.k 0) 0 16),(4,i64 i),(5,.z 7 ([.int .i64 ((aSum i).getD 0 0:Nat),.int .i64 ((aSum i).getD 1 0:Nat),.int .i64 ((aSum i).getD 2 0:Nat),.int .i64 ((aSum i).getD 3 0:Nat),.int .i64 ((aSum i).getD 4 0:Nat),.int .i64 ((aSum i).getD 5 0:Nat),.int .i64 ((aSum i).getD 6 0:Nat)])),(6,i64 k)],[.sc (bv (accN 16 (aX b) 7 i k))]⟩) 7 ⟨[.k 0],⟨rfl,rfl,rfl,rfl,rfl,trivial⟩,⟨_,rfl,rfl⟩,trivial⟩ fun k hk=> ?_
  refine spl_d (fun h=> ?_) (fun h=> ?_)
  ·have hkl:k<7:=(by omega)
   have hs:=aSum_lt i hlt k hkl
   refine⟨by omega,by omega,?_⟩
   refine⟨_,by rw[Zb,Zd,Ze];exact bv_at (accN_get hlt),?_⟩
   refine⟨by omega,by omega,?_⟩
   refine⟨_,by rw[Zb];exact ofL_get hkl,?_⟩
   refine⟨by omega,by omega,?_⟩
   refine⟨_,by rw[Zb];exact bv_getD (by omega),?_⟩
   refine⟨by omega,by omega,by rw[bv_len,accN_len];omega,?_⟩
   refine⟨k+1,by omega,by omega,[.k 0],⟨rfl,rfl,rfl,rfl,q7i (by simp(disch:=omega)only[Za];omega),trivial⟩,⟨_,rfl,q7s ?_⟩,trivial⟩
   rw[Zb,Zd,Ze,u8_xor,bv_set,accN_set hlt (aX_succ _ _ _).symm]
  ·obtain rfl:k=7:=(by omega)
   refine⟨i+1,by omega,by omega,[.k 0],⟨rfl,rfl,q7i (by simp(disch:=omega)only[Za];omega),trivial⟩,⟨_,rfl,q7s ?_⟩,trivial⟩
   rw[accN_next h0]
 ·obtain rfl:i=16:=(by omega)
  refine⟨_,rfl,[.k 0],rfl,⟨_,rfl,q7s ?_⟩,trivial⟩
  rw[accN_end];rfl
theorem aB_get' {k:Nat} (h:k<4):([aBz 0,aBz 1,aBz 2,aBz 3]:List V)[0+0+k]? =some (aBz k):=by
 rw[show 0+0+k=k by omega];exact aB_get h
theorem c_r10_layer {va:List Value} {b:Bs} {k:Nat} {x:Int} (hx:x=(k:Nat)) (ha:va=bv b) (hb:b.length=16) (h1:1≤k) (h2:k≤2):Con C N.r10_Boxes_layer [bxQ,i64 x,.z 16 va] [] (.ret (.o 1 (.k 0) 0 16)) [.sc (bv (aLay k b 16))]:=by
 subst ha;subst hx
 refine fd.r10_Boxes_layer.c ?_
 refine⟨by decide,by decide,by decide,?_⟩
 refine loopN (fun i=>⟨[(0,bxQ),(1,i64 k),(2,.z 16 (bv b)),(7,.o 1 (.k 0) 0 16),(8,i64 i)],[.sc (bv (aLay k b i++Zo (16-i) 0))]⟩) 16 ⟨[.d 11 0],⟨rfl,rfl,rfl,rfl,rfl,trivial⟩,⟨_,rfl,q7s (by show Zo 16 _=_;exact bv_rep 16)⟩,trivial⟩ fun i hi=> ?_
 refine spl_d (fun h=> ?_) (fun h=> ?_)
 ·have hlt:i<16:=(by omega)
  have e1:(I6.wrap ((i:Int)+I6.wrap (2*I6.wrap ((k:Int)-1)))).tmod 4=(((i+2*(k-1))%4:Nat):Int):=by
   rw[Za ((k:Int)-1) (by omega),Za (2*((k:Int)-1)) (by omega),Za _ (by omega),Zg (by omega)]
   omega
  have e2:=Zr (i+2*(k-1)) (show 4>0 by decide)
  have hx:=(b.getD i 0).toNat_lt
  refine⟨by decide,by rw[e1];omega,by rw[e1];omega,?_⟩
  refine⟨aBz ((i+2*(k-1))%4),by rw[e1,Zb,Zd];exact aB_get' e2,?_⟩
  refine⟨by omega,by omega,?_⟩
  refine⟨_,by rw[Zb];exact bv_getD (by omega),?_⟩
  refine⟨by omega,by show _<((256:Nat):Int);omega,?_⟩
  refine⟨_,by rw[Zb];exact bv_getD (by rw[aBox_len];omega),?_⟩
  refine⟨by omega,by omega,by rw[bv_len,Zm,aLay_len,Zt];omega,?_⟩
  refine⟨i+1,by omega,by omega,[.k 0],⟨rfl,rfl,rfl,rfl,q7i (by simp(disch:=omega)only[Za];omega),trivial⟩,⟨_,rfl,q7s ?_⟩,trivial⟩
  rw[Zb,Zd,Ze,fill_step (aLay_len _ _ _) hlt,aLay_succ]
 ·obtain rfl:i=16:=(by omega)
  refine⟨_,rfl,[.k 0],rfl,⟨_,rfl,q7s ?_⟩,trivial⟩
  simp
theorem c_r10_round {va vk:List Value} {b key:Bs} {k:Nat} {x:Int} (hx:x=(k:Nat)) (ha:va=bv b) (hk:vk=bv key) (hb:b.length=16) (hkl:key.length=16) (h1:1≤k) (h2:k≤2):Con C N.r10_Boxes_round [bxQ,i64 x,.z 16 va,.z 16 vk] [] (.ret (.o 1 (.k 0) 0 16)) [.sc (bv (aTurn k b key))]:=by
 refine fd.r10_Boxes_round.c ?_
 refine⟨[],_,_,_,_,c_both ha hk hb hkl (by decide),rfl,rfl,?_⟩
 have hx2:(xorL b key).length=16:=xorL_len hb hkl
 refine⟨[],_,_,_,_,c_r10_layer (b:=xorL b key) (k:=k) hx (bv_all hx2) hx2 h1 h2,rfl,rfl,?_⟩
 have hl:=aLay_len k (xorL b key) 16
 refine⟨[],_,_,_,_,c_r10_mix (b:=aLay k (xorL b key) 16) (bv_all hl) hl,rfl,rfl,?_⟩
 exact⟨_,rfl,[.d 15 0],rfl,⟨_,rfl,rfl⟩,trivial⟩
theorem c_r10_constant {i:Nat} {x:Int} (hx:x=(i:Nat)) (hi:i<5):Con C N.r10_constant [i64 x] [] (.ret (.o 1 (.k 0) 0 16)) [.sc (bv (aC (i%3)))]:=by
 subst hx
 have h0:bv (storeL 5871781006564002452 8)++bv (storeL 18308165927316385504 8)=bv (aC 0):=by
  rw[bv_app,show storeL 5871781006564002452 8++storeL 18308165927316385504 8=aC 0 by decide +kernel]
 have h1:bv (storeL 7904181063698728992 8)++bv (storeL 18386141011142107824 8)=bv (aC 1):=by
  rw[bv_app,show storeL 7904181063698728992 8++storeL 18386141011142107824 8=aC 1 by decide +kernel]
 have h2:bv (storeL 15821769039155751280 8)++bv (storeL 226472410124699918 8)=bv (aC 2):=by
  rw[bv_app,show storeL 15821769039155751280 8++storeL 226472410124699918 8=aC 2 by decide +kernel]
 rcases i with _|_|_|_|_|i
 ·refine fd.r10_constant.c ?_
  refine⟨by decide,by decide,by decide,_,rfl,?_⟩
  refine⟨[],_,_,_,_,c_r1_putBe64 (v:=5871781006564002452) rfl,rfl,rfl,?_⟩
  refine⟨by decide,by decide,by decide,_,rfl,?_⟩
  refine⟨[],_,_,_,_,c_r1_putBe64 (v:=18308165927316385504) rfl,rfl,rfl,?_⟩
  refine⟨by decide,by decide,by decide,?_⟩
  refine⟨_,rfl,[.d 19 0],rfl,⟨_,rfl,q7s ?_⟩,trivial⟩
  show sub (bv (storeL 5871781006564002452 8)) 0 8++sub (bv (storeL 18308165927316385504 8)) 0 8=_
  rw[bv_all (storeL_len _ _),bv_all (storeL_len _ _)]
  exact h0
 ·refine fd.r10_constant.c ?_
  refine⟨by decide,by decide,by decide,_,rfl,?_⟩
  refine⟨[],_,_,_,_,c_r1_putBe64 (v:=7904181063698728992) rfl,rfl,rfl,?_⟩
  refine⟨by decide,by decide,by decide,_,rfl,?_⟩
  refine⟨[],_,_,_,_,c_r1_putBe64 (v:=18386141011142107824) rfl,rfl,rfl,?_⟩
  refine⟨by decide,by decide,by decide,?_⟩
  refine⟨_,rfl,[.d 19 0],rfl,⟨_,rfl,q7s ?_⟩,trivial⟩
  show sub (bv (storeL 7904181063698728992 8)) 0 8++sub (bv (storeL 18386141011142107824 8)) 0 8=_
  rw[bv_all (storeL_len _ _),bv_all (storeL_len _ _)]
  exact h1
 ·refine fd.r10_constant.c ?_
  refine⟨by decide,by decide,by decide,_,rfl,?_⟩
  refine⟨[],_,_,_,_,c_r1_putBe64 (v:=15821769039155751280) rfl,rfl,rfl,?_⟩
  refine⟨by decide,by decide,by decide,_,rfl,?_⟩
  refine⟨[],_,_,_,_,c_r1_putBe64 (v:=226472410124699918) rfl,rfl,rfl,?_⟩
  refine⟨by decide,by decide,by decide,?_⟩
  refine⟨_,rfl,[.d 19 0],rfl,⟨_,rfl,q7s ?_⟩,trivial⟩
  show sub (bv (storeL 15821769039155751280 8)) 0 8++sub (bv (storeL 226472410124699918 8)) 0 8=_
  rw[bv_all (storeL_len _ _),bv_all (storeL_len _ _)]
  exact h2
 ·refine fd.r10_constant.c ?_
  refine⟨by decide,by decide,by decide,_,rfl,?_⟩
  refine⟨[],_,_,_,_,c_r1_putBe64 (v:=5871781006564002452) rfl,rfl,rfl,?_⟩
  refine⟨by decide,by decide,by decide,_,rfl,?_⟩
  refine⟨[],_,_,_,_,c_r1_putBe64 (v:=18308165927316385504) rfl,rfl,rfl,?_⟩
  refine⟨by decide,by decide,by decide,?_⟩
  refine⟨_,rfl,[.d 19 0],rfl,⟨_,rfl,q7s ?_⟩,trivial⟩
  show sub (bv (storeL 5871781006564002452 8)) 0 8++sub (bv (storeL 18308165927316385504 8)) 0 8=_
  rw[bv_all (storeL_len _ _),bv_all (storeL_len _ _)]
  exact h0
 ·refine fd.r10_constant.c ?_
  refine⟨by decide,by decide,by decide,_,rfl,?_⟩
  refine⟨[],_,_,_,_,c_r1_putBe64 (v:=7904181063698728992) rfl,rfl,rfl,?_⟩
  refine⟨by decide,by decide,by decide,_,rfl,?_⟩
  refine⟨[],_,_,_,_,c_r1_putBe64 (v:=18386141011142107824) rfl,rfl,rfl,?_⟩
  refine⟨by decide,by decide,by decide,?_⟩
  refine⟨_,rfl,[.d 19 0],rfl,⟨_,rfl,q7s ?_⟩,trivial⟩
  show sub (bv (storeL 7904181063698728992 8)) 0 8++sub (bv (storeL 18386141011142107824 8)) 0 8=_
  rw[bv_all (storeL_len _ _),bv_all (storeL_len _ _)]
  exact h1
 ·omega
theorem amL_get {j:Nat} (h:j<5):([.int .i64 (-19),.int .i64 (-31),.int .i64 61,.int .i64 31,.int .i64 19]:List Value)[j]? =some (.int .i64 (aAmt j)):=by
 rcases j with _|_|_|_|_|j
 all_goals first|rfl|omega
theorem t6_eq {key:Bs} (h:16≤key.length):sub (sub ([]:List Value) 0 (0*1)++sub (bv key) 0 16) 0 16=bv (key.take 16):=by
 rw[bv_sub]
 show sub (bv (sub key 0 16)) 0 16=_
 rw[bv_all (by rw[sub_length];omega)]
 simp[sub]
theorem t7_eq {key:Bs} {m k:Nat} (hk:key.length=16+m) (hm:k=16-m) (h:m≤16):sub (sub (sub ([]:List Value) 0 (0*1)++sub (bv key) 16 m) 0 (m*1)++Zo k (Value.int .u8 0)) 0 16=bv (aKR key):=by
 subst hm
 rw[bv_sub]
 show sub (sub (bv (sub key 16 m)) 0 (m*1)++Zo (16-m) (Value.int .u8 0)) 0 16=_
 have hl:(sub key 16 m).length=m:=by rw[sub_length];omega
 rw[Zd,bv_all hl,bv_rep,bv_app,bv_all (by rw[Zm,Zt,hl];omega),aKR,hk,sub_end _ _ _ (by omega)]
 congr 3
 omega
abbrev ariaR (q:Nat) (key:Bs) (n:Nat):V:= .q [bxQ,.zz 1 n (aKV q key n)] 0
theorem c_r10_keys16 {va:List Value} {key:Bs} (ha:va=bv key) (hk:key.length=16):Con C N.r10_Boxes_keys [bxQ,.z 16 va] [] (.ret (.o 1 (.k 0) 0 13)) [.mx (aKV 0 key 13)]:=by
 subst ha
 have hW:∀k,(aWp 0 key k).1.length=16:=fun k=>(aWp_len 0 (by omega) (by omega) k).1
 have hP:∀k,(aWp 0 key k).2.length=16:=fun k=>(aWp_len 0 (by omega) (by omega) k).2
 have h6:=t6_eq (key:=key) (by omega)
 have h7:=t7_eq (key:=key) (m:=0) (k:=16) (by omega) rfl (by decide)
 refine fd.r10_Boxes_keys.c ?_
 refine⟨by decide,?_⟩
 refine⟨by decide,by decide,by decide,by decide,?_⟩
 refine⟨by rw[bv_sub,bv_len,sub_length,hk];rfl,by decide,Zc _,?_⟩
 refine⟨by decide,by omega,Zc _,Zc _,?_⟩
 refine⟨by rw[bv_sub,bv_len,sub_length,hk];rfl,by decide,Zc _,?_⟩
 refine⟨by decide,by decide,by decide,?_,_,rfl,?_⟩
 ·show 0+0*1≤(sub (bv key) 16 0).length
  rw[bv_sub,bv_len,sub_length];omega
 refine⟨Zc _,?_⟩
 refine⟨[],_,_,_,_,c_r10_constant (i:=0) rfl (by decide),rfl,rfl,?_⟩
 refine⟨[],_,_,_,_,c_r10_round (k:=1) (b:=(aWp 0 key 0).1) (key:=aC 0) rfl h6 (bv_all (aC_len _ (by decide))) (hW 0) (aC_len _ (by decide)) (by decide) (by decide),rfl,rfl,?_⟩
 refine⟨[],_,_,_,_,c_both (a:=aTurn 1 (aWp 0 key 0).1 (aC 0)) (b:=(aWp 0 key 0).2) (bv_all (aTurn_len _ _ _)) h7 (aTurn_len _ _ _) (hP 0) (by decide),rfl,rfl,?_⟩
 refine⟨by decide,by decide,Zf rfl,?_⟩
 refine⟨by decide,by decide,_,rfl,?_⟩
 refine⟨[],_,_,_,_,c_r10_constant (i:=1) rfl (by decide),rfl,rfl,?_⟩
 refine⟨[],_,_,_,_,c_r10_round (k:=2) (b:=(aWp 0 key 1).1) (key:=aC 1) rfl (bv_all (hW 1)) (bv_all (aC_len _ (by decide))) (hW 1) (aC_len _ (by decide)) (by decide) (by decide),rfl,rfl,?_⟩
 refine⟨[],_,_,_,_,c_both (a:=aTurn 2 (aWp 0 key 1).1 (aC 1)) (b:=(aWp 0 key 1).2) (bv_all (aTurn_len _ _ _)) h6 (aTurn_len _ _ _) (hP 1) (by decide),rfl,rfl,?_⟩
 refine⟨by decide,by decide,Zf rfl,?_⟩
 refine⟨by decide,by decide,_,rfl,?_⟩
 refine⟨[],_,_,_,_,c_r10_constant (i:=2) rfl (by decide),rfl,rfl,?_⟩
 refine⟨[],_,_,_,_,c_r10_round (k:=1) (b:=(aWp 0 key 2).1) (key:=aC 2) rfl (bv_all (hW 2)) (bv_all (aC_len _ (by decide))) (hW 2) (aC_len _ (by decide)) (by decide) (by decide),rfl,rfl,?_⟩
 refine⟨by decide,by decide,_,rfl,?_⟩
 refine⟨[],_,_,_,_,c_both (a:=aTurn 1 (aWp 0 key 2).1 (aC 2)) (b:=(aWp 0 key 2).2) (bv_all (aTurn_len _ _ _)) (bv_all (hW 1)) (aTurn_len _ _ _) (hP 2) (by decide),rfl,rfl,?_⟩
 refine⟨by decide,by decide,Zf rfl,?_⟩
 refine loopNn (fun r=>⟨[(5,i64 0),(8,.p (.k 1) 0),(9,.o 1 (.k 0) 0 r),(10,.z 5 [.int .i64 (-19),.int .i64 (-31),.int .i64 61,.int .i64 31,.int .i64 19]),(11,i64 r)],[.mx (aKV 0 key r),.mx [a16 (aWp 0 key 0).1,a16 (aWp 0 key 1).1,a16 (aWp 0 key 2).1,a16 (aWp 0 key 3).1]]⟩) 13 [(9,1,.mx [])] ⟨[.d 900000 0,.d 8 0],⟨rfl,rfl,rfl,rfl,rfl,trivial⟩,⟨_,rfl,rfl⟩,⟨_,rfl,?_⟩,trivial⟩ fun r hr=> ?_
 ·show B.mx [V.z 16 (sub _ 0 16),V.z 16 (sub (bv (aWp 0 key 1).1) 0 16),V.z 16 (sub (bv (aWp 0 key 2).1) 0 16),V.z 16 (sub (bv (aWp 0 key 3).1) 0 16)]=_
  rw[bv_all (hW 1),bv_all (hW 2),bv_all (hW 3)]
  exact congrArg (fun z=>B.mx [V.z 16 z,a16 (aWp 0 key 1).1,a16 (aWp 0 key 2).1,a16 (aWp 0 key 3).1]) h6
 have he:I6.wrap (I6.wrap (2*0)+13)=13:=by decide
 refine spl_d (fun h=> ?_) (fun h=> ?_)
 ·rw[he]at h
  have hlt:r<13:=(by omega)
  have e1:((r:Int)).tmod 4=((r%4:Nat):Int):=by rw[Zg (by omega)];omega
  have e2:(I6.wrap ((r:Int)+1)).tmod 4=(((r+1)%4:Nat):Int):=by
   rw[Za _ (by omega),Zg (by omega)];omega
  have e3:I6.wrap (((r:Int)).tdiv 4)=((r/4:Nat):Int):=by
   rw[Zi (by omega),Za _ (by omega)];omega
  have m1:=Zr r (show 4>0 by decide)
  have m2:=Zr (r+1) (show 4>0 by decide)
  refine⟨by decide,by rw[e1];omega,by rw[e1];omega,?_⟩
  refine⟨_,by rw[e1,Zb,Zd,Ze];exact at4 (f:=fun k=>a16 (aWp 0 key k).1) rfl rfl rfl rfl m1,?_⟩
  refine⟨by decide,by rw[e2];omega,by rw[e2];omega,?_⟩
  refine⟨_,by rw[e2,Zb,Zd,Ze];exact at4 (f:=fun k=>a16 (aWp 0 key k).1) rfl rfl rfl rfl m2,?_⟩
  refine⟨by decide,by rw[e3];omega,by rw[e3];omega,?_⟩
  refine⟨_,by rw[e3,Zb];exact amL_get (by omega),?_⟩
  refine⟨[],_,_,_,_,c_r1_turn (b:=(aWp 0 key ((r+1)%4)).1) (n:=aAmt (r/4)) rfl (hW _) (by decide) (by decide) (aAmt_b (by omega)),rfl,rfl,?_⟩
  refine⟨[],_,_,_,_,c_both (a:=(aWp 0 key (r%4)).1) (b:=turnB (aWp 0 key ((r+1)%4)).1 (aAmt (r/4)%128).toNat) rfl (bv_all (by rw[turnB_len,hW])) (hW _) (by rw[turnB_len,hW]) (by decide),rfl,rfl,?_⟩
  refine⟨Zc _,by omega,by rw[aKV,Zq,aKs_len];omega,?_⟩
  have hs0:sub (aKV 0 key r) 0 (r*1)=aKV 0 key r:=by rw[Zd,sub_all (by rw[aKV,Zq,aKs_len])]
  have hst:aKV 0 key r++[V.z 16 (sub (bv (aKey 0 key r)) 0 16)]=aKV 0 key (r+1):=by
   rw[bv_all (by rw[aKey];exact xorL_len (hW _) (by rw[turnB_len,hW])),aKV,aKV,aKs_succ,Zl]
   rfl
  refine⟨r+1,by omega,by omega,[.d 85 0,.k 1],⟨rfl,rfl,rfl,rfl,q7i (by simp(disch:=omega)only[Za];omega),trivial⟩,⟨_,rfl,?_⟩,⟨_,rfl,rfl⟩,trivial⟩
  show B.mx (Zv (lend _ _ 6) (sub (aKV 0 key r) 0 (r*1)++[V.o _ _ _ _]))=_
  rw[Zl,hs0,aKV_lend]
  exact congrArg B.mx hst
 ·rw[he]at h
  obtain rfl:r=13:=(by omega)
  refine⟨_,rfl,[.k 0],rfl,⟨_,rfl,?_⟩,trivial⟩
  show B.mx (Zv (lend _ _ 6) (aKV 0 key 13))=_
  rw[aKV_lend]
theorem c_r10_new16 {va:List Value} {key:Bs} (ha:va=bv key) (hk:key.length=16):Con C N.r10_New [.z 16 va] [] (.ret (.t [ariaR 0 key 13,i64 0])) []:=by
 refine fd.r10_New.c ?_
 refine⟨[],_,_,_,_,c_r10_boxes,rfl,rfl,?_⟩
 refine⟨[],_,_,_,_,c_r10_keys16 (va:=va) ha hk,rfl,rfl,?_⟩
 exact⟨_,rfl,[],rfl,trivial⟩
theorem c_r10_keys24 {va:List Value} {key:Bs} (ha:va=bv key) (hk:key.length=24):Con C N.r10_Boxes_keys [bxQ,.z 24 va] [] (.ret (.o 1 (.k 0) 0 15)) [.mx (aKV 1 key 15)]:=by
 subst ha
 have hW:∀k,(aWp 1 key k).1.length=16:=fun k=>(aWp_len 1 (by omega) (by omega) k).1
 have hP:∀k,(aWp 1 key k).2.length=16:=fun k=>(aWp_len 1 (by omega) (by omega) k).2
 have h6:=t6_eq (key:=key) (by omega)
 have h7:=t7_eq (key:=key) (m:=8) (k:=8) (by omega) rfl (by decide)
 refine fd.r10_Boxes_keys.c ?_
 refine⟨by decide,?_⟩
 refine⟨by decide,by decide,by decide,by decide,?_⟩
 refine⟨by rw[bv_sub,bv_len,sub_length,hk];rfl,by decide,Zc _,?_⟩
 refine⟨by decide,by omega,Zc _,Zc _,?_⟩
 refine⟨by rw[bv_sub,bv_len,sub_length,hk];rfl,by decide,Zc _,?_⟩
 refine⟨by decide,by decide,by decide,?_,_,rfl,?_⟩
 ·show 0+8*1≤(sub (bv key) 16 8).length
  rw[bv_sub,bv_len,sub_length];omega
 refine⟨Zc _,?_⟩
 refine⟨[],_,_,_,_,c_r10_constant (i:=1) rfl (by decide),rfl,rfl,?_⟩
 refine⟨[],_,_,_,_,c_r10_round (k:=1) (b:=(aWp 1 key 0).1) (key:=aC 1) rfl h6 (bv_all (aC_len _ (by decide))) (hW 0) (aC_len _ (by decide)) (by decide) (by decide),rfl,rfl,?_⟩
 refine⟨[],_,_,_,_,c_both (a:=aTurn 1 (aWp 1 key 0).1 (aC 1)) (b:=(aWp 1 key 0).2) (bv_all (aTurn_len _ _ _)) h7 (aTurn_len _ _ _) (hP 0) (by decide),rfl,rfl,?_⟩
 refine⟨by decide,by decide,Zf rfl,?_⟩
 refine⟨by decide,by decide,_,rfl,?_⟩
 refine⟨[],_,_,_,_,c_r10_constant (i:=2) rfl (by decide),rfl,rfl,?_⟩
 refine⟨[],_,_,_,_,c_r10_round (k:=2) (b:=(aWp 1 key 1).1) (key:=aC 2) rfl (bv_all (hW 1)) (bv_all (aC_len _ (by decide))) (hW 1) (aC_len _ (by decide)) (by decide) (by decide),rfl,rfl,?_⟩
 refine⟨[],_,_,_,_,c_both (a:=aTurn 2 (aWp 1 key 1).1 (aC 2)) (b:=(aWp 1 key 1).2) (bv_all (aTurn_len _ _ _)) h6 (aTurn_len _ _ _) (hP 1) (by decide),rfl,rfl,?_⟩
 refine⟨by decide,by decide,Zf rfl,?_⟩
 refine⟨by decide,by decide,_,rfl,?_⟩
 refine⟨[],_,_,_,_,c_r10_constant (i:=3) rfl (by decide),rfl,rfl,?_⟩
 refine⟨[],_,_,_,_,c_r10_round (k:=1) (b:=(aWp 1 key 2).1) (key:=aC 0) rfl (bv_all (hW 2)) (bv_all (aC_len _ (by decide))) (hW 2) (aC_len _ (by decide)) (by decide) (by decide),rfl,rfl,?_⟩
 refine⟨by decide,by decide,_,rfl,?_⟩
 refine⟨[],_,_,_,_,c_both (a:=aTurn 1 (aWp 1 key 2).1 (aC 0)) (b:=(aWp 1 key 2).2) (bv_all (aTurn_len _ _ _)) (bv_all (hW 1)) (aTurn_len _ _ _) (hP 2) (by decide),rfl,rfl,?_⟩
 refine⟨by decide,by decide,Zf rfl,?_⟩
 refine loopNn (fun r=>⟨[(5,i64 1),(8,.p (.k 1) 0),(9,.o 1 (.k 0) 0 r),(10,.z 5 [.int .i64 (-19),.int .i64 (-31),.int .i64 61,.int .i64 31,.int .i64 19]),(11,i64 r)],[.mx (aKV 1 key r),.mx [a16 (aWp 1 key 0).1,a16 (aWp 1 key 1).1,a16 (aWp 1 key 2).1,a16 (aWp 1 key 3).1]]⟩) 15 [(9,1,.mx [])] ⟨[.d 900000 0,.d 8 0],⟨rfl,rfl,rfl,rfl,rfl,trivial⟩,⟨_,rfl,rfl⟩,⟨_,rfl,?_⟩,trivial⟩ fun r hr=> ?_
 ·show B.mx [V.z 16 (sub _ 0 16),V.z 16 (sub (bv (aWp 1 key 1).1) 0 16),V.z 16 (sub (bv (aWp 1 key 2).1) 0 16),V.z 16 (sub (bv (aWp 1 key 3).1) 0 16)]=_
  rw[bv_all (hW 1),bv_all (hW 2),bv_all (hW 3)]
  exact congrArg (fun z=>B.mx [V.z 16 z,a16 (aWp 1 key 1).1,a16 (aWp 1 key 2).1,a16 (aWp 1 key 3).1]) h6
 have he:I6.wrap (I6.wrap (2*1)+13)=15:=by decide
 refine spl_d (fun h=> ?_) (fun h=> ?_)
 ·rw[he]at h
  have hlt:r<15:=(by omega)
  have e1:((r:Int)).tmod 4=((r%4:Nat):Int):=by rw[Zg (by omega)];omega
  have e2:(I6.wrap ((r:Int)+1)).tmod 4=(((r+1)%4:Nat):Int):=by
   rw[Za _ (by omega),Zg (by omega)];omega
  have e3:I6.wrap (((r:Int)).tdiv 4)=((r/4:Nat):Int):=by
   rw[Zi (by omega),Za _ (by omega)];omega
  have m1:=Zr r (show 4>0 by decide)
  have m2:=Zr (r+1) (show 4>0 by decide)
  refine⟨by decide,by rw[e1];omega,by rw[e1];omega,?_⟩
  refine⟨_,by rw[e1,Zb,Zd,Ze];exact at4 (f:=fun k=>a16 (aWp 1 key k).1) rfl rfl rfl rfl m1,?_⟩
  refine⟨by decide,by rw[e2];omega,by rw[e2];omega,?_⟩
  refine⟨_,by rw[e2,Zb,Zd,Ze];exact at4 (f:=fun k=>a16 (aWp 1 key k).1) rfl rfl rfl rfl m2,?_⟩
  refine⟨by decide,by rw[e3];omega,by rw[e3];omega,?_⟩
  refine⟨_,by rw[e3,Zb];exact amL_get (by omega),?_⟩
  refine⟨[],_,_,_,_,c_r1_turn (b:=(aWp 1 key ((r+1)%4)).1) (n:=aAmt (r/4)) rfl (hW _) (by decide) (by decide) (aAmt_b (by omega)),rfl,rfl,?_⟩
  refine⟨[],_,_,_,_,c_both (a:=(aWp 1 key (r%4)).1) (b:=turnB (aWp 1 key ((r+1)%4)).1 (aAmt (r/4)%128).toNat) rfl (bv_all (by rw[turnB_len,hW])) (hW _) (by rw[turnB_len,hW]) (by decide),rfl,rfl,?_⟩
  refine⟨Zc _,by omega,by rw[aKV,Zq,aKs_len];omega,?_⟩
  have hs0:sub (aKV 1 key r) 0 (r*1)=aKV 1 key r:=by rw[Zd,sub_all (by rw[aKV,Zq,aKs_len])]
  have hst:aKV 1 key r++[V.z 16 (sub (bv (aKey 1 key r)) 0 16)]=aKV 1 key (r+1):=by
   rw[bv_all (by rw[aKey];exact xorL_len (hW _) (by rw[turnB_len,hW])),aKV,aKV,aKs_succ,Zl]
   rfl
  refine⟨r+1,by omega,by omega,[.d 85 0,.k 1],⟨rfl,rfl,rfl,rfl,q7i (by simp(disch:=omega)only[Za];omega),trivial⟩,⟨_,rfl,?_⟩,⟨_,rfl,rfl⟩,trivial⟩
  show B.mx (Zv (lend _ _ 6) (sub (aKV 1 key r) 0 (r*1)++[V.o _ _ _ _]))=_
  rw[Zl,hs0,aKV_lend]
  exact congrArg B.mx hst
 ·rw[he]at h
  obtain rfl:r=15:=(by omega)
  refine⟨_,rfl,[.k 0],rfl,⟨_,rfl,?_⟩,trivial⟩
  show B.mx (Zv (lend _ _ 6) (aKV 1 key 15))=_
  rw[aKV_lend]
theorem c_r10_new24 {va:List Value} {key:Bs} (ha:va=bv key) (hk:key.length=24):Con C N.r10_New [.z 24 va] [] (.ret (.t [ariaR 1 key 15,i64 0])) []:=by
 refine fd.r10_New.c ?_
 refine⟨[],_,_,_,_,c_r10_boxes,rfl,rfl,?_⟩
 refine⟨[],_,_,_,_,c_r10_keys24 (va:=va) ha hk,rfl,rfl,?_⟩
 exact⟨_,rfl,[],rfl,trivial⟩
theorem c_r10_keys32 {va:List Value} {key:Bs} (ha:va=bv key) (hk:key.length=32):Con C N.r10_Boxes_keys [bxQ,.z 32 va] [] (.ret (.o 1 (.k 0) 0 17)) [.mx (aKV 2 key 17)]:=by
 subst ha
 have hW:∀k,(aWp 2 key k).1.length=16:=fun k=>(aWp_len 2 (by omega) (by omega) k).1
 have hP:∀k,(aWp 2 key k).2.length=16:=fun k=>(aWp_len 2 (by omega) (by omega) k).2
 have h6:=t6_eq (key:=key) (by omega)
 have h7:=t7_eq (key:=key) (m:=16) (k:=0) (by omega) rfl (by decide)
 refine fd.r10_Boxes_keys.c ?_
 refine⟨by decide,?_⟩
 refine⟨by decide,by decide,by decide,by decide,?_⟩
 refine⟨by rw[bv_sub,bv_len,sub_length,hk];rfl,by decide,Zc _,?_⟩
 refine⟨by decide,by omega,Zc _,Zc _,?_⟩
 refine⟨by rw[bv_sub,bv_len,sub_length,hk];rfl,by decide,Zc _,?_⟩
 refine⟨by decide,by decide,by decide,?_,_,rfl,?_⟩
 ·show 0+16*1≤(sub (bv key) 16 16).length
  rw[bv_sub,bv_len,sub_length];omega
 refine⟨Zc _,?_⟩
 refine⟨[],_,_,_,_,c_r10_constant (i:=2) rfl (by decide),rfl,rfl,?_⟩
 refine⟨[],_,_,_,_,c_r10_round (k:=1) (b:=(aWp 2 key 0).1) (key:=aC 2) rfl h6 (bv_all (aC_len _ (by decide))) (hW 0) (aC_len _ (by decide)) (by decide) (by decide),rfl,rfl,?_⟩
 refine⟨[],_,_,_,_,c_both (a:=aTurn 1 (aWp 2 key 0).1 (aC 2)) (b:=(aWp 2 key 0).2) (bv_all (aTurn_len _ _ _)) h7 (aTurn_len _ _ _) (hP 0) (by decide),rfl,rfl,?_⟩
 refine⟨by decide,by decide,Zf rfl,?_⟩
 refine⟨by decide,by decide,_,rfl,?_⟩
 refine⟨[],_,_,_,_,c_r10_constant (i:=3) rfl (by decide),rfl,rfl,?_⟩
 refine⟨[],_,_,_,_,c_r10_round (k:=2) (b:=(aWp 2 key 1).1) (key:=aC 0) rfl (bv_all (hW 1)) (bv_all (aC_len _ (by decide))) (hW 1) (aC_len _ (by decide)) (by decide) (by decide),rfl,rfl,?_⟩
 refine⟨[],_,_,_,_,c_both (a:=aTurn 2 (aWp 2 key 1).1 (aC 0)) (b:=(aWp 2 key 1).2) (bv_all (aTurn_len _ _ _)) h6 (aTurn_len _ _ _) (hP 1) (by decide),rfl,rfl,?_⟩
 refine⟨by decide,by decide,Zf rfl,?_⟩
 refine⟨by decide,by decide,_,rfl,?_⟩
 refine⟨[],_,_,_,_,c_r10_constant (i:=4) rfl (by decide),rfl,rfl,?_⟩
 refine⟨[],_,_,_,_,c_r10_round (k:=1) (b:=(aWp 2 key 2).1) (key:=aC 1) rfl (bv_all (hW 2)) (bv_all (aC_len _ (by decide))) (hW 2) (aC_len _ (by decide)) (by decide) (by decide),rfl,rfl,?_⟩
 refine⟨by decide,by decide,_,rfl,?_⟩
 refine⟨[],_,_,_,_,c_both (a:=aTurn 1 (aWp 2 key 2).1 (aC 1)) (b:=(aWp 2 key 2).2) (bv_all (aTurn_len _ _ _)) (bv_all (hW 1)) (aTurn_len _ _ _) (hP 2) (by decide),rfl,rfl,?_⟩
 refine⟨by decide,by decide,Zf rfl,?_⟩
 refine loopNn (fun r=>⟨[(5,i64 2),(8,.p (.k 1) 0),(9,.o 1 (.k 0) 0 r),(10,.z 5 [.int .i64 (-19),.int .i64 (-31),.int .i64 61,.int .i64 31,.int .i64 19]),(11,i64 r)],[.mx (aKV 2 key r),.mx [a16 (aWp 2 key 0).1,a16 (aWp 2 key 1).1,a16 (aWp 2 key 2).1,a16 (aWp 2 key 3).1]]⟩) 17 [(9,1,.mx [])] ⟨[.d 900000 0,.d 8 0],⟨rfl,rfl,rfl,rfl,rfl,trivial⟩,⟨_,rfl,rfl⟩,⟨_,rfl,?_⟩,trivial⟩ fun r hr=> ?_
 ·show B.mx [V.z 16 (sub _ 0 16),V.z 16 (sub (bv (aWp 2 key 1).1) 0 16),V.z 16 (sub (bv (aWp 2 key 2).1) 0 16),V.z 16 (sub (bv (aWp 2 key 3).1) 0 16)]=_
  rw[bv_all (hW 1),bv_all (hW 2),bv_all (hW 3)]
  exact congrArg (fun z=>B.mx [V.z 16 z,a16 (aWp 2 key 1).1,a16 (aWp 2 key 2).1,a16 (aWp 2 key 3).1]) h6
 have he:I6.wrap (I6.wrap (2*2)+13)=17:=by decide
 refine spl_d (fun h=> ?_) (fun h=> ?_)
 ·rw[he]at h
  have hlt:r<17:=(by omega)
  have e1:((r:Int)).tmod 4=((r%4:Nat):Int):=by rw[Zg (by omega)];omega
  have e2:(I6.wrap ((r:Int)+1)).tmod 4=(((r+1)%4:Nat):Int):=by
   rw[Za _ (by omega),Zg (by omega)];omega
  have e3:I6.wrap (((r:Int)).tdiv 4)=((r/4:Nat):Int):=by
   rw[Zi (by omega),Za _ (by omega)];omega
  have m1:=Zr r (show 4>0 by decide)
  have m2:=Zr (r+1) (show 4>0 by decide)
  refine⟨by decide,by rw[e1];omega,by rw[e1];omega,?_⟩
  refine⟨_,by rw[e1,Zb,Zd,Ze];exact at4 (f:=fun k=>a16 (aWp 2 key k).1) rfl rfl rfl rfl m1,?_⟩
  refine⟨by decide,by rw[e2];omega,by rw[e2];omega,?_⟩
  refine⟨_,by rw[e2,Zb,Zd,Ze];exact at4 (f:=fun k=>a16 (aWp 2 key k).1) rfl rfl rfl rfl m2,?_⟩
  refine⟨by decide,by rw[e3];omega,by rw[e3];omega,?_⟩
  refine⟨_,by rw[e3,Zb];exact amL_get (by omega),?_⟩
  refine⟨[],_,_,_,_,c_r1_turn (b:=(aWp 2 key ((r+1)%4)).1) (n:=aAmt (r/4)) rfl (hW _) (by decide) (by decide) (aAmt_b (by omega)),rfl,rfl,?_⟩
  refine⟨[],_,_,_,_,c_both (a:=(aWp 2 key (r%4)).1) (b:=turnB (aWp 2 key ((r+1)%4)).1 (aAmt (r/4)%128).toNat) rfl (bv_all (by rw[turnB_len,hW])) (hW _) (by rw[turnB_len,hW]) (by decide),rfl,rfl,?_⟩
  refine⟨Zc _,by omega,by rw[aKV,Zq,aKs_len];omega,?_⟩
  have hs0:sub (aKV 2 key r) 0 (r*1)=aKV 2 key r:=by rw[Zd,sub_all (by rw[aKV,Zq,aKs_len])]
  have hst:aKV 2 key r++[V.z 16 (sub (bv (aKey 2 key r)) 0 16)]=aKV 2 key (r+1):=by
   rw[bv_all (by rw[aKey];exact xorL_len (hW _) (by rw[turnB_len,hW])),aKV,aKV,aKs_succ,Zl]
   rfl
  refine⟨r+1,by omega,by omega,[.d 85 0,.k 1],⟨rfl,rfl,rfl,rfl,q7i (by simp(disch:=omega)only[Za];omega),trivial⟩,⟨_,rfl,?_⟩,⟨_,rfl,rfl⟩,trivial⟩
  show B.mx (Zv (lend _ _ 6) (sub (aKV 2 key r) 0 (r*1)++[V.o _ _ _ _]))=_
  rw[Zl,hs0,aKV_lend]
  exact congrArg B.mx hst
 ·rw[he]at h
  obtain rfl:r=17:=(by omega)
  refine⟨_,rfl,[.k 0],rfl,⟨_,rfl,?_⟩,trivial⟩
  show B.mx (Zv (lend _ _ 6) (aKV 2 key 17))=_
  rw[aKV_lend]
theorem c_r10_new32 {va:List Value} {key:Bs} (ha:va=bv key) (hk:key.length=32):Con C N.r10_New [.z 32 va] [] (.ret (.t [ariaR 2 key 17,i64 0])) []:=by
 refine fd.r10_New.c ?_
 refine⟨[],_,_,_,_,c_r10_boxes,rfl,rfl,?_⟩
 refine⟨[],_,_,_,_,c_r10_keys32 (va:=va) ha hk,rfl,rfl,?_⟩
 exact⟨_,rfl,[],rfl,trivial⟩
theorem c_r10_enc {va:List Value} {b key:Bs} {q n:Nat} (h:AOk q key n) (ha:va=bv b) (hb:b.length=16):Con C N.r10_Aria_Block [ariaR q key n,.z 16 va,bool false] [] (okBlk 16) [.sc (bv (ariaE q key n b))]:=by
 subst ha
 have h3:=h.h3
 have h4:=h.h4
 have kl:=aKey_len h
 have h':=h
 refine fd.r10_Aria_Block.c ?_
 refine⟨_,rfl,?_⟩
 refine loopN (fun i=>⟨[(0,ariaR q key n),(1,a16 (aEncN q key b i)),(8,i64 (n-2:Nat)),(10,i64 i)],[]⟩) (n-2) ⟨[],⟨rfl,rfl,q7i ?_,rfl,trivial⟩,trivial⟩ fun i hi=> ?_
 ·rw[Za _ (by omega)];omega
 have hel:=aEncN_len h hb i
 refine spl_d (fun h=> ?_) (fun h=> ?_)
 ·have hlt:i<n-2:=(by omega)
  have e1:I6.wrap (1+(i:Int).tmod 2)=((1+i%2:Nat):Int):=by
   rw[Zg (by omega),Za _ (by omega)];omega
  refine⟨_,rfl,by decide,_,rfl,by omega,by omega,?_⟩
  refine⟨_,by rw[Zb,Zd];exact aKV_get (by omega),?_⟩
  refine⟨[],_,_,_,_,c_r10_round (b:=aEncN q key b i) (key:=aKey q key i) (k:=1+i%2) e1 rfl rfl hel (kl i) (by omega) (by omega),rfl,rfl,?_⟩
  refine⟨i+1,by omega,by omega,[],⟨rfl,?_,rfl,q7i (by simp(disch:=omega)only[Za];omega),trivial⟩,trivial⟩
  show V.z 16 (sub (bv (aEncN q key b (i+1))) 0 16)=_
  rw[bv_all (aEncN_len h' hb _)]
 ·obtain rfl:i=n-2:=(by omega)
  have e0:I6.wrap (((n-2:Nat):Int)+1)=((n-1:Nat):Int):=by rw[Za _ (by omega)];omega
  refine⟨_,rfl,_,rfl,by omega,by omega,?_⟩
  refine⟨_,by rw[Zb,Zd];exact aKV_get (by omega),?_⟩
  refine⟨[],_,_,_,_,c_both (a:=aEncN q key b (n-2)) (b:=aKey q key (n-2)) rfl rfl hel (kl _) (by decide),rfl,rfl,?_⟩
  have hx:=xorL_len hel (kl (n-2))
  refine⟨[],_,_,_,_,c_r10_layer (k:=2) (b:=xorL (aEncN q key b (n-2)) (aKey q key (n-2))) rfl (bv_all hx) hx (by decide) (by decide),rfl,rfl,?_⟩
  refine⟨_,rfl,by rw[e0];omega,by rw[e0];omega,?_⟩
  refine⟨_,by rw[e0,Zb,Zd];exact aKV_get (by omega),?_⟩
  have hl:=aLay_len 2 (xorL (aEncN q key b (n-2)) (aKey q key (n-2))) 16
  refine⟨[],_,_,_,_,c_both (b:=aKey q key (n-1)) (bv_all hl) rfl hl (kl _) (by decide),rfl,rfl,?_⟩
  exact⟨_,rfl,[.d 113 0],rfl,⟨_,rfl,rfl⟩,trivial⟩
theorem c_r10_dec {va:List Value} {b key:Bs} {q n:Nat} (h:AOk q key n) (ha:va=bv b) (hb:b.length=16):Con C N.r10_Aria_Block [ariaR q key n,.z 16 va,bool true] [] (okBlk 16) [.sc (bv (ariaD q key n b))]:=by
 subst ha
 have h3:=h.h3
 have h4:=h.h4
 have kl:=aKey_len h
 have h':=h
 have ea:I6.wrap ((n:Int)-2)=((n-2:Nat):Int):=by rw[Za _ (by omega)];omega
 have e0:I6.wrap (((n-2:Nat):Int)+1)=((n-1:Nat):Int):=by rw[Za _ (by omega)];omega
 refine fd.r10_Aria_Block.c ?_
 refine⟨_,rfl,?_⟩
 refine⟨_,rfl,by rw[ea,e0];omega,by rw[ea,e0];omega,?_⟩
 refine⟨_,by rw[ea,e0,Zb,Zd];exact aKV_get (by omega),?_⟩
 refine⟨[],_,_,_,_,c_both (a:=b) (b:=aKey q key (n-1)) rfl rfl hb (kl _) (by decide),rfl,rfl,?_⟩
 have hx:=xorL_len hb (kl (n-1))
 refine⟨_,rfl,?_⟩
 refine⟨[],_,_,_,_,c_r10_layer (k:=1) (b:=xorL b (aKey q key (n-1))) rfl (bv_all hx) hx (by decide) (by decide),rfl,rfl,?_⟩
 refine⟨_,rfl,by rw[ea];omega,by rw[ea];omega,?_⟩
 refine⟨_,by rw[ea,Zb,Zd];exact aKV_get (by omega),?_⟩
 have hl:=aLay_len 1 (xorL b (aKey q key (n-1))) 16
 refine⟨[],_,_,_,_,c_both (b:=aKey q key (n-2)) (bv_all hl) rfl hl (kl _) (by decide),rfl,rfl,?_⟩
 refine loopN (fun i=>⟨[(0,ariaR q key n),(1,.o 1 (.k 0) 0 16),(9,i64 ((n:Int)-3-i))],[.sc (bv (aDecN q key n b i))]⟩) (n-2) ⟨[.d 44 0],⟨rfl,rfl,q7i ?_,trivial⟩,⟨_,rfl,rfl⟩,trivial⟩ fun i hi=> ?_
 ·rw[ea,Za _ (by omega)];omega
 have hdl:=aDecN_len (b:=b) h i
 refine spl_d (fun h=> ?_) (fun h=> ?_)
 ·obtain⟨r,er,hrn,hri⟩:∃r:Nat,(n:Int)-3-i=r∧r≤n-3∧r=n-3-i:=⟨n-3-i,by omega,by omega,rfl⟩
  have hst:aDecN q key n b (i+1)=xorL (aLay (2-r%2) (aMix (aDecN q key n b i)) 16) (aKey q key r):=by rw[hri];rfl
  rw[er]
  have e1:I6.wrap (2-(r:Int).tmod 2)=((2-r%2:Nat):Int):=by
   rw[Zg (by omega),Za _ (by omega)];omega
  refine⟨_,rfl,by decide,?_⟩
  refine⟨[],_,_,_,_,c_r10_mix (b:=aDecN q key n b i) (bv_all hdl) hdl,rfl,rfl,?_⟩
  have hm:=aMix_len (aDecN q key n b i)
  refine⟨[],_,_,_,_,c_r10_layer (k:=2-r%2) (b:=aMix (aDecN q key n b i)) e1 (bv_all hm) hm (by omega) (by omega),rfl,rfl,?_⟩
  refine⟨_,rfl,by omega,by omega,?_⟩
  refine⟨_,by rw[Zb,Zd];exact aKV_get (by omega),?_⟩
  have hl:=aLay_len (2-r%2) (aMix (aDecN q key n b i)) 16
  refine⟨[],_,_,_,_,c_both (b:=aKey q key r) (bv_all hl) rfl hl (kl _) (by decide),rfl,rfl,?_⟩
  refine⟨i+1,by omega,by omega,[.d 68 0],⟨rfl,rfl,q7i ?_,trivial⟩,⟨_,rfl,q7s (by rw[hst])⟩,trivial⟩
  ·rw[Za _ (by omega)];omega
 ·obtain rfl:i=n-2:=(by omega)
  exact⟨_,rfl,[.k 0],rfl,⟨_,rfl,rfl⟩,trivial⟩
theorem c_r10_bad {va:List Value} {key:Bs} {q n m:Nat} {back:Bool} (hn:m≠16):Con C N.r10_Aria_Block [ariaR q key n,.z m va,bool back] [] badBlk []:=by
 refine fd.r10_Aria_Block.c ?_
 refine spl_ne (fun h=> ?_) (fun h=>absurd (by omega) hn)
 exact⟨_,rfl,[],rfl,trivial⟩
theorem bit_val:∀x:Nat,x<256→∀k:Nat,k<8→I6.wrap ((Zh I6.bits (I6.wrap (((x:Nat):Int).fdiv (2^(min ((k:Nat):Int).toNat U8.bits))))&&&Zh I6.bits 1).toNat:Int)=(((x.testBit k).toNat:Nat):Int):=by decide +kernel
theorem c_bit {va:List Value} {b:Bs} {l n:Nat} {x:Int} (hx:x=n) (ha:va=bv b) (hl:b.length=l) (hm:l≤1000000) (h1:1≤n) (h2:(n-1)/8<l):Con C N.bits_Bit [.z l va,i64 x] [] (.ret (i64 ((tb b (n-1)).toNat:Nat))) []:=by
 subst ha;subst hx
 have e0:I6.wrap ((n:Int)-1)=((n-1:Nat):Int):=by rw[Za _ (by omega)];omega
 have e1:I6.wrap ((I6.wrap ((n:Int)-1)).tdiv 8)=(((n-1)/8:Nat):Int):=by
  rw[e0,Zi (by omega),Za _ (by omega)];omega
 have e2:I6.wrap (7-(I6.wrap ((n:Int)-1)).tmod 8)=((7-(n-1)%8:Nat):Int):=by
  rw[e0,Zg (by omega),Za _ (by omega)];omega
 refine fd.bits_Bit.c ?_
 refine spl_d (fun h=> ?_) (fun h=> ?_)
 ·omega
 refine⟨by decide,?_⟩
 refine spl_d (fun h=> ?_) (fun h=> ?_)
 ·rw[e1]at h;omega
 refine⟨by decide,by rw[e1];omega,by rw[e1];omega,?_⟩
 refine⟨_,by rw[e1,Zb];exact bv_getD (by omega),?_⟩
 refine⟨by decide,by rw[e2];omega,?_⟩
 refine⟨_,rfl,[],q7i ?_,trivial⟩
 rw[e2]
 exact bit_val _ (UInt8.toNat_lt _) _ (by omega)
def permB (t:List Nat) (b:Bs):Bs:=pack (t.length/8) fun j=>tb b (t.getD j 0-1)
theorem permB_len (t b):(permB t b).length=t.length/8:=pack_len _ _
def permF (t:List Nat) (b:Bs) (i:Nat) (j:Nat):Bool:=decide (j<i)&&tb b (t.getD j 0-1)
def permP (t:List Nat) (b:Bs) (i:Nat):Bs:=pack (t.length/8) (permF t b i)
theorem permP_len (t b i):(permP t b i).length=t.length/8:=pack_len _ _
theorem permP_zero (t b):permP t b 0=Zo (t.length/8) 0:=by
 apply Zw (by simp[permP,pack])
 intro j h1 h2
 simp[permP,pack,permF,byteOf]
theorem permP_end (t b):permP t b t.length=permB t b:=by
 apply Zu
 intro q hq
 have hq:=Z5.1 hq
 show byteOf _=byteOf _
 simp only[byteOf,permF]
 rw[decide_eq_true (by omega),decide_eq_true (by omega),decide_eq_true (by omega),decide_eq_true (by omega),decide_eq_true (by omega),decide_eq_true (by omega),decide_eq_true (by omega),decide_eq_true (by omega)]
 simp only[Bool.true_and]
theorem put_bit:∀v:Bool,∀k,k<8→U8.wrap (I6.wrap (((v.toNat:Nat):Int)*2^(min ((k:Nat):Int).toNat I6.bits)))=(((Zp (v.toNat*2^k)).toNat:Nat):Int):=by decide +kernel
theorem bit_pow:∀v:Bool,∀k,k<8→∀r,r<8→(Zp (v.toNat*2^k)).toNat.testBit r=(v&&decide (r=k)):=by decide +kernel
theorem permP_step {t:List Nat} {b:Bs} {i:Nat} (h:i<t.length) (ht:t.length%8=0):
  (permP t b i).set (i/8) ((permP t b i).getD (i/8) 0|||Zp ((tb b (t.getD i 0-1)).toNat*2^(7-i%8)))=permP t b (i+1):=by
 have hq:i/8<t.length/8:=by omega
 apply Zw (by simp[permP_len])
 intro q h1 h2
 rw[Z2]
 have hlen:q<t.length/8:=by rw[permP_len]at h2;exact h2
 split
 ·rename_i he
  subst he
  have hg:(permP t b i).getD (i/8) 0=byteOf fun r=>permF t b i (8*(i/8)+r):=by
   simp[permP,pack,hq]
  have hg2:(permP t b (i+1))[i/8]=byteOf fun r=>permF t b (i+1) (8*(i/8)+r):=by
   simp[permP,pack]
  rw[hg,hg2]
  apply u8_ext
  intro r hr
  rw[UInt8.toNat_or,Nat.testBit_or,byteOf_bit _ hr,byteOf_bit _ hr,bit_pow _ _ (by omega) _ (by omega)]
  simp only[permF]
  by_cases h3:8*(i/8)+r=i
  ·rw[h3,decide_eq_false (by omega),decide_eq_true (by omega),decide_eq_true (by omega)];simp
  ·rw[decide_eq_false (show ¬(7-r=7-i%8) by omega)]
   by_cases h4:8*(i/8)+r<i
   ·rw[decide_eq_true h4,decide_eq_true (by omega)];simp
   ·rw[decide_eq_false h4,decide_eq_false (by omega)];simp
 ·rename_i he
  have hg:(permP t b i)[q]'(by rw[permP_len];exact hlen)=byteOf fun r=>permF t b i (8*q+r):=by
   simp[permP,pack]
  have hg2:(permP t b (i+1))[q]=byteOf fun r=>permF t b (i+1) (8*q+r):=by
   simp[permP,pack]
  rw[hg,hg2]
  apply u8_ext
  intro r hr
  rw[byteOf_bit _ hr,byteOf_bit _ hr]
  simp only[permF]
  congr 1
  exact decide_eq_decide.2 (by omega)
theorem c_perm {va vt:List Value} {b:Bs} {t:List Nat} {l n:Nat} (ha:va=bv b) (hvt:vt=nv t) (hl:b.length=l) (ht:t.length=n) (hm:l≤1000000) (hn:n≤1000000) (h8:n%8=0) (hall:∀i,i<n→1≤t.getD i 0∧t.getD i 0≤8*l):Con C N.bits_Permute [.z l va,.z n vt] [] (.ret (.t [.o 1 (.k 0) 0 (n/8),bool true])) [.sc (bv (permB t b))]:=by
 subst ha;subst hvt;subst ht
 have e0:I6.wrap ((I6.wrap (I6.wrap ((t.length:Int)+8)-1)).tdiv 8)=((t.length/8:Nat):Int):=by
  rw[Za ((t.length:Int)+8) (by omega),Za ((t.length:Int)+8-1) (by omega),Zi (by omega),Za _ (by omega)];omega
 refine fd.bits_Permute.c ?_
 refine⟨by decide,?_⟩
 rw[e0]
 refine⟨by omega,by omega,by omega,?_⟩
 refine loopN (fun i=>⟨[(0,.z l (bv b)),(1,.z t.length (nv t)),(6,.o 1 (.k 0) 0 (t.length/8)),(15,i64 t.length),(16,i64 i)],[.sc (bv (permP t b i))]⟩) t.length ⟨[.d 13 0],⟨rfl,rfl,rfl,rfl,rfl,trivial⟩,⟨_,rfl,q7s ?_⟩,trivial⟩ fun i hi=> ?_
 ·show Zo ((t.length/8:Nat):Int).toNat (Value.int .u8 0)=_
  rw[Zb,permP_zero,bv_rep]
 refine spl_d (fun h=> ?_) (fun h=> ?_)
 ·have hlt:i<t.length:=(by omega)
  obtain⟨g1,g2⟩:=hall i hlt
  refine⟨by omega,by omega,?_⟩
  refine⟨_,by rw[Zb];exact nv_getD hlt,?_⟩
  refine spl_d (fun h=> ?_) (fun h=> ?_)
  ·omega
  have e1:I6.wrap ((I6.wrap (((t.getD i 0:Nat):Int)-1)).tdiv 8)=(((t.getD i 0-1)/8:Nat):Int):=by
   rw[Za (((t.getD i 0:Nat):Int)-1) (by omega),Zi (by omega),Za _ (by omega)];omega
  have e2:I6.wrap ((i:Int).tdiv 8)=((i/8:Nat):Int):=by
   rw[Zi (by omega),Za _ (by omega)];omega
  have e3:I6.wrap (7-(i:Int).tmod 8)=((7-i%8:Nat):Int):=by
   rw[Zg (by omega),Za _ (by omega)];omega
  refine⟨by omega,by omega,?_⟩
  refine⟨_,by rw[Zb];exact nv_getD hlt,?_⟩
  refine⟨by decide,?_⟩
  refine spl_d (fun h=> ?_) (fun h=> ?_)
  ·rw[e1]at h;omega
  refine⟨by decide,by rw[e2];omega,by rw[e2];omega,?_⟩
  refine⟨_,by rw[e2,Zb,Zd,Ze];exact bv_getD (by rw[permP_len];omega),?_⟩
  refine⟨by omega,by omega,?_⟩
  refine⟨_,by rw[Zb];exact nv_getD hlt,?_⟩
  refine⟨[],_,_,_,_,c_bit (b:=b) rfl rfl hl hm g1 (by omega),rfl,rfl,?_⟩
  refine⟨by decide,by rw[e3];omega,by rw[e2];omega,by rw[e2];omega,by rw[e2,bv_len,permP_len];omega,?_⟩
  refine⟨i+1,by omega,by omega,[.k 0],⟨rfl,rfl,rfl,rfl,q7i (by simp(disch:=omega)only[Za];omega),trivial⟩,⟨_,rfl,q7s ?_⟩,trivial⟩
  rw[e2,e3,Zb,Zd,Ze,put_bit _ _ (by omega),u8_or,bv_set,permP_step hlt (by omega)]
 ·obtain rfl:i=t.length:=(by omega)
  refine⟨_,rfl,[.k 0],rfl,⟨_,rfl,q7s ?_⟩,trivial⟩
  rw[permP_end]
def dnX (s st bk:Int):Nat→Int
 |0=>s
 |k+1=>if dnX s st bk k-st<1 then dnX s st bk k-st+(st+bk)else dnX s st bk k-st
def dnL (s st bk:Int) (n:Nat):List Int:=(List.range n).map (dnX s st bk)
theorem dnL_succ (s st bk n):dnL s st bk (n+1)=dnL s st bk n++[dnX s st bk n]:=by simp[dnL,Zn]
theorem dnL_len (s st bk n):(dnL s st bk n).length=n:=by simp[dnL]
def dnD (l:List Int) (n cnt:Nat) (s st bk:Int) (i:Nat):D:=match i with
 |0=>⟨[(0,.o 1 (.k 0) 0 n),(2,i64 st),(3,i64 bk),(11,i64 s),(13,i64 cnt),(14,i64 (0:Nat))],[.sc (iv l)]⟩
 |k+1=>⟨[(0,.o 1 (.k 1) 0 (n+(k+1))),(2,i64 st),(3,i64 bk),(11,i64 (dnX s st bk (k+1))),(13,i64 cnt),(14,i64 (k+1:Nat))],[.dead,.sc (iv (l++dnL s st bk (k+1)))]⟩
theorem c_down {l:List Int} {n cnt:Nat} {s st bk:Int} (hl:l.length=n) (hn:n≤1000) (hc0:0<cnt) (hc:cnt≤1000) (hst:0≤st∧st≤1000) (hbk:0≤bk∧bk≤1000) (hx:∀k,k≤cnt→ -10000≤dnX s st bk k∧dnX s st bk k≤10000):
  Con C N.des_down [.o 1 (.k 0) 0 n,i64 s,i64 st,i64 bk,i64 cnt] [.sc (iv l)] (.ret (.o 1 (.k 1) 0 (n+cnt))) [.dead,.sc (iv (l++dnL s st bk cnt))]:=by
 refine fd.des_down.c ?_
 refine loopN (dnD l n cnt s st bk) cnt ⟨[.k 0],⟨rfl,rfl,rfl,rfl,rfl,rfl,trivial⟩,⟨_,rfl,rfl⟩,trivial⟩ fun i hi=> ?_
 have w2:I6.wrap (st+bk)=st+bk:=Za _ (by omega)
 rcases i with _|i
 ·refine spl_d (fun h=> ?_) (fun h=> ?_)
  ·have x0:=hx 0 (by omega)
   have y0:=hx 1 (by omega)
   change -10000≤s∧s≤10000 at x0
   have w1:I6.wrap (s-st)=s-st:=Za _ (by omega)
   have hsub:sub (iv l) 0 (n*1)++[Value.int .i64 s]=iv (l++dnL s st bk (0+1)):=by
    rw[Zd,iv_all hl,←iv_app];rfl
   refine⟨Zc _,by omega,by rw[iv_len,hl];omega,?_⟩
   refine spl_d (fun h=> ?_) (fun h=> ?_)
   ·rw[w1]at h
    refine⟨0+1,by omega,by omega,[.k 0,.d 19 0],⟨rfl,rfl,rfl,q7i ?_,rfl,rfl,trivial⟩,⟨_,rfl,rfl⟩,⟨_,rfl,q7s hsub⟩,trivial⟩
    rw[w1,w2,Za _ (by omega)]
    show _=if s-st<1 then s-st+(st+bk)else s-st
    rw[if_pos h]
   ·rw[w1]at h
    refine⟨0+1,by omega,by omega,[.k 0,.d 19 0],⟨rfl,rfl,rfl,q7i ?_,rfl,rfl,trivial⟩,⟨_,rfl,rfl⟩,⟨_,rfl,q7s hsub⟩,trivial⟩
    rw[w1]
    show _=if s-st<1 then s-st+(st+bk)else s-st
    rw[if_neg h]
  ·omega
 ·have hll:(l++dnL s st bk (i+1)).length=n+(i+1):=by rw[Zm,dnL_len,hl]
  refine spl_d (fun h=> ?_) (fun h=> ?_)
  ·have hlt:i+1<cnt:=(by omega)
   have x0:=hx (i+1) (by omega)
   have hsub:sub (iv (l++dnL s st bk (i+1))) 0 ((n+(i+1))*1)++[Value.int .i64 (dnX s st bk (i+1))]=iv (l++dnL s st bk (i+1+1)):=by
    rw[Zd,iv_all hll,dnL_succ s st bk (i+1)]
    show iv (l++dnL s st bk (i+1))++iv [dnX s st bk (i+1)]=_
    rw[iv_app,List.append_assoc]
   have hd:dnX s st bk (i+1+1)=if dnX s st bk (i+1)-st<1 then dnX s st bk (i+1)-st+(st+bk)else dnX s st bk (i+1)-st:=rfl
   have w1:I6.wrap (dnX s st bk (i+1)-st)=dnX s st bk (i+1)-st:=Za _ (by omega)
   refine⟨Zc _,by omega,by rw[iv_len,hll];omega,?_⟩
   refine spl_d (fun h=> ?_) (fun h=> ?_)
   ·rw[w1]at h
    refine⟨i+1+1,by omega,by omega,[.k 0,.d 19 0],⟨rfl,rfl,rfl,q7i ?_,rfl,q7i (by simp(disch:=omega)only[Za];omega),trivial⟩,⟨_,rfl,rfl⟩,⟨_,rfl,q7s hsub⟩,trivial⟩
    rw[w1,w2,Za _ (by omega),hd,if_pos h]
   ·rw[w1]at h
    refine⟨i+1+1,by omega,by omega,[.k 0,.d 19 0],⟨rfl,rfl,rfl,q7i ?_,rfl,q7i (by simp(disch:=omega)only[Za];omega),trivial⟩,⟨_,rfl,rfl⟩,⟨_,rfl,q7s hsub⟩,trivial⟩
    rw[w1,hd,if_neg h]
  ·obtain rfl:i+1=cnt:=(by omega)
   exact⟨_,rfl,[.k 0,.k 1],rfl,⟨_,rfl,rfl⟩,⟨_,rfl,rfl⟩,trivial⟩
theorem c_down0 {cnt:Nat} {s st bk:Int} (hc0:0<cnt) (hc:cnt≤1000) (hst:0≤st∧st≤1000) (hbk:0≤bk∧bk≤1000) (hx:∀k,k≤cnt→ -10000≤dnX s st bk k∧dnX s st bk k≤10000):
  Con C N.des_down [nilv,i64 s,i64 st,i64 bk,i64 cnt] [] (.ret (.o 1 (.k 0) 0 cnt)) [.sc (iv (dnL s st bk cnt))]:=by
 refine fd.des_down.c ?_
 refine loopNn (fun i=>⟨[(0,.o 1 (.k 0) 0 i),(2,i64 st),(3,i64 bk),(11,i64 (dnX s st bk i)),(13,i64 cnt),(14,i64 i)],[.sc (iv (dnL s st bk i))]⟩) cnt [(0,1,.sc [])] ⟨[.d 900000 0],⟨rfl,rfl,rfl,rfl,rfl,rfl,trivial⟩,⟨_,rfl,rfl⟩,trivial⟩ fun i hi=> ?_
 have w2:I6.wrap (st+bk)=st+bk:=Za _ (by omega)
 have hll:=dnL_len s st bk i
 refine spl_d (fun h=> ?_) (fun h=> ?_)
 ·have hlt:i<cnt:=(by omega)
  have x0:=hx i (by omega)
  have hsub:sub (iv (dnL s st bk i)) 0 (i*1)++[Value.int .i64 (dnX s st bk i)]=iv (dnL s st bk (i+1)):=by
   rw[Zd,iv_all hll,dnL_succ s st bk i]
   show iv (dnL s st bk i)++iv [dnX s st bk i]=_
   rw[iv_app]
  have hd:dnX s st bk (i+1)=if dnX s st bk i-st<1 then dnX s st bk i-st+(st+bk)else dnX s st bk i-st:=rfl
  have w1:I6.wrap (dnX s st bk i-st)=dnX s st bk i-st:=Za _ (by omega)
  refine⟨Zc _,by omega,by rw[iv_len,hll];omega,?_⟩
  refine spl_d (fun h=> ?_) (fun h=> ?_)
  ·rw[w1]at h
   refine⟨i+1,by omega,by omega,[.d 19 0],⟨rfl,rfl,rfl,q7i ?_,rfl,q7i (by simp(disch:=omega)only[Za];omega),trivial⟩,⟨_,rfl,q7s hsub⟩,trivial⟩
   rw[w1,w2,Za _ (by omega),hd,if_pos h]
  ·rw[w1]at h
   refine⟨i+1,by omega,by omega,[.d 19 0],⟨rfl,rfl,rfl,q7i ?_,rfl,q7i (by simp(disch:=omega)only[Za];omega),trivial⟩,⟨_,rfl,q7s hsub⟩,trivial⟩
   rw[w1,hd,if_neg h]
 ·obtain rfl:i=cnt:=(by omega)
  exact⟨_,rfl,[.k 0],rfl,⟨_,rfl,rfl⟩,trivial⟩
def fsL:List Int:=[58,60,62,64,57,59,61,63]
def firstL (i:Nat):List Int:=(List.range i).foldl (fun l j=>l++dnL (fsL.getD j 0) 8 0 8) []
theorem firstL_succ (i):firstL (i+1)=firstL i++dnL (fsL.getD i 0) 8 0 8:=by simp[firstL,Zn]
theorem firstL_len:∀i,(firstL i).length=8*i
 |0=>rfl
 |i+1=>by rw[firstL_succ,Zm,firstL_len i,dnL_len];omega
theorem fs_ok:∀i,i<8→∀k,k≤8→ -10000≤dnX (fsL.getD i 0) 8 0 k∧dnX (fsL.getD i 0) 8 0 k≤10000:=by decide +kernel
def tFirst:List Nat:=(firstL 8).map Int.toNat
theorem iv_nv (t:List Nat):iv (t.map fun(x:Nat)=>(x:Int))=nv t:=by simp[iv,nv]
theorem tFirst_iv:iv (firstL 8)=nv tFirst:=by
 rw[←iv_nv,show firstL 8=tFirst.map fun(x:Nat)=>(x:Int) by decide +kernel]
theorem c_first:Con C N.des_first [] [] (.ret (.o 1 (.k 0) 0 64)) [.sc (nv tFirst)]:=by
 rw[←tFirst_iv]
 refine fd.des_first.c ?_
 refine loopNn (fun i=>⟨[(1,.o 1 (.k 0) 0 (8*i)),(4,.z 8 (iv fsL)),(5,i64 8),(6,i64 i)],[.sc (iv (firstL i))]⟩) 8 [(1,1,.sc [])] ⟨[.d 900000 0],⟨rfl,rfl,rfl,rfl,trivial⟩,⟨_,rfl,rfl⟩,trivial⟩ fun i hi=> ?_
 refine spl_d (fun h=> ?_) (fun h=> ?_)
 ·have hlt:i<8:=(by omega)
  refine⟨by omega,by omega,?_⟩
  refine⟨_,by rw[Zb];exact iv_getD hlt,?_⟩
  refine⟨[.k 0],_,_,_,_,c_down (l:=firstL i) (n:=8*i) (cnt:=8) (firstL_len i) (by omega) (by decide) (by decide) (by decide) (by decide) (fs_ok i hlt),rfl,rfl,?_⟩
  refine⟨i+1,by omega,by omega,[.d 12 1],⟨rfl,rfl,rfl,q7i (by simp(disch:=omega)only[Za];omega),trivial⟩,⟨_,rfl,q7s ?_⟩,trivial⟩
  rw[firstL_succ]
 ·obtain rfl:i=8:=(by omega)
  exact⟨_,rfl,[.k 0],rfl,⟨_,rfl,rfl⟩,trivial⟩
def tMixed:List Nat:=[16,7,20,21,29,12,28,17,1,15,23,26,5,18,31,10,2,8,24,14,32,27,3,9,19,13,30,6,22,11,4,25]
theorem c_mixed:Con C N.des_mixed [] [] (.ret (.o 1 (.k 0) 0 32)) [.sc (nv tMixed)]:=
 fd.des_mixed.c ⟨_,rfl,[.d 1 0],rfl,⟨_,rfl,rfl⟩,trivial⟩
def wideN (n:Nat):List Nat:=(List.range n).map fun i=>(4*(i/6)+i%6+31)%32+1
theorem wideN_succ (n):wideN (n+1)=wideN n++[(4*(n/6)+n%6+31)%32+1]:=by simp[wideN,Zn]
theorem wideN_len (n):(wideN n).length=n:=by simp[wideN]
theorem wide_v:∀i:Nat,i<48→I6.wrap ((I6.wrap (I6.wrap (I6.wrap (4*I6.wrap (((i:Nat):Int).tdiv 6))+((i:Nat):Int).tmod 6)+31)).tmod 32+1)=(((4*(i/6)+i%6+31)%32+1:Nat):Int):=by decide +kernel
theorem c_wide:Con C N.des_wide [] [] (.ret (.o 1 (.k 0) 0 48)) [.sc (nv (wideN 48))]:=by
 refine fd.des_wide.c ?_
 refine loopNn (fun i=>⟨[(1,.o 1 (.k 0) 0 i),(3,i64 i)],[.sc (nv (wideN i))]⟩) 48 [(1,1,.sc [])] ⟨[.d 900000 0],⟨rfl,rfl,trivial⟩,⟨_,rfl,rfl⟩,trivial⟩ fun i hi=> ?_
 refine spl_d (fun h=> ?_) (fun h=> ?_)
 ·have hlt:i<48:=(by omega)
  refine⟨by decide,by decide,by decide,?_⟩
  refine⟨Zc _,by omega,by rw[nv_len,wideN_len];omega,?_⟩
  refine⟨i+1,by omega,by omega,[.d 17 0],⟨rfl,q7i (by simp(disch:=omega)only[Za];omega),trivial⟩,⟨_,rfl,q7s ?_⟩,trivial⟩
  rw[wide_v i hlt,Zd]
  show sub (nv (wideN i)) 0 i++[Value.int .i64 (((4*(i/6)+i%6+31)%32+1:Nat):Int)]=_
  rw[nv_app1 (wideN_len _),wideN_succ]
 ·obtain rfl:i=48:=(by omega)
  exact⟨_,rfl,[.k 0],rfl,⟨_,rfl,rfl⟩,trivial⟩
def ch0:List Int:=dnL 57 8 57 28++dnL 63 8 55 24++[28,20,12,4]
def tC0:List Nat:=ch0.map Int.toNat
def tC1:List Nat:=[14,17,11,24,1,5,3,28,15,6,21,10,23,19,12,4,26,8,16,7,27,20,13,2,41,52,31,37,47,55,30,40,51,45,33,48,44,49,39,56,34,53,46,42,50,36,29,32]
theorem tC0_iv:iv ch0=nv tC0:=by
 rw[←iv_nv,show ch0=tC0.map fun(x:Nat)=>(x:Int) by decide +kernel]
theorem c_chosen:Con C N.des_chosen [] [] (.ret (.t [.o 1 (.k 0) 0 56,.o 1 (.k 1) 0 48])) [.sc (nv tC0),.sc (nv tC1)]:=by
 rw[←tC0_iv]
 have d1:=c_down0 (cnt:=28) (s:=57) (st:=8) (bk:=57) (by decide) (by decide) (by decide) (by decide) (by decide +kernel)
 have d2:=c_down (l:=dnL 57 8 57 28) (n:=28) (cnt:=24) (s:=63) (st:=8) (bk:=55) (dnL_len _ _ _ _) (by decide) (by decide) (by decide) (by decide) (by decide) (by decide +kernel)
 refine fd.des_chosen.c ?_
 refine⟨[],_,_,_,_,d1,rfl,rfl,?_⟩
 refine⟨[.d 2 0],_,_,_,_,d2,rfl,rfl,?_⟩
 refine⟨Zc _,by decide,by decide,?_⟩
 refine⟨Zc _,by decide,Zc _,?_⟩
 refine⟨_,rfl,[.d 6 0,.d 11 0],rfl,⟨_,rfl,q7s ?_⟩,⟨_,rfl,q7s ?_⟩,trivial⟩
 ·show sub (iv (dnL 57 8 57 28++dnL 63 8 55 24)) 0 52++iv [28,20,12,4]=iv ch0
  rw[iv_all (by rw[Zm,dnL_len,dnL_len]),iv_app]
  rfl
 ·rfl
def dBx:List (List (Bs)):=[[[69,52,68,49,50,70,66,56,51,65,54,67,53,57,48,55],[48,70,55,52,69,50,68,49,65,54,67,66,57,53,51,56],[52,49,69,56,68,54,50,66,70,67,57,55,51,65,53,48],[70,67,56,50,52,57,49,55,53,66,51,69,65,48,54,68]],[[70,49,56,69,54,66,51,52,57,55,50,68,67,48,53,65],[51,68,52,55,70,50,56,69,67,48,49,65,54,57,66,53],[48,69,55,66,65,52,68,49,53,56,67,54,57,51,50,70],[68,56,65,49,51,70,52,50,66,54,55,67,48,53,69,57]],[[65,48,57,69,54,51,70,53,49,68,67,55,66,52,50,56],[68,55,48,57,51,52,54,65,50,56,53,69,67,66,70,49],[68,54,52,57,56,70,51,48,66,49,50,67,53,65,69,55],[49,65,68,48,54,57,56,55,52,70,69,51,66,53,50,67]],[[55,68,69,51,48,54,57,65,49,50,56,53,66,67,52,70],[68,56,66,53,54,70,48,51,52,55,50,67,49,65,69,57],[65,54,57,48,67,66,55,68,70,49,51,69,53,50,56,52],[51,70,48,54,65,49,68,56,57,52,53,66,67,55,50,69]],[[50,67,52,49,55,65,66,54,56,53,51,70,68,48,69,57],[69,66,50,67,52,55,68,49,53,48,70,65,51,57,56,54],[52,50,49,66,65,68,55,56,70,57,67,53,54,51,48,69],[66,56,67,55,49,69,50,68,54,70,48,57,65,52,53,51]],[[67,49,65,70,57,50,54,56,48,68,51,52,69,55,53,66],[65,70,52,50,55,67,57,53,54,49,68,69,48,66,51,56],[57,69,70,53,50,56,67,51,55,48,52,65,49,68,66,54],[52,51,50,67,57,53,70,65,66,69,49,55,54,48,56,68]],[[52,66,50,69,70,48,56,68,51,67,57,55,53,65,54,49],[68,48,66,55,52,57,49,65,69,51,53,67,50,70,56,54],[49,52,66,68,67,51,55,69,65,70,54,56,48,53,57,50],[54,66,68,56,49,52,65,55,57,53,48,70,69,50,51,67]],[[68,50,56,52,54,70,66,49,65,57,51,69,53,48,67,55],[49,70,68,56,65,51,55,52,67,53,54,66,48,69,57,50],[55,66,52,49,57,67,69,50,48,54,65,68,70,51,53,56],[50,49,69,55,52,65,56,68,70,67,57,48,51,53,54,66]]]
def dRow (s r:Nat):Bs:=(dBx.getD s []).getD r []
theorem dRow_ok:∀s,s<8→∀r,r<4→(dRow s r).length=16∧∀j,j<16→isDig ((dRow s r).getD j 48)=true:=by decide +kernel
theorem c_dsign {x:Int} {c:UInt8} (hx:x=c.toNat) (h:isDig c=true):Con C N.des_sign [vi .u8 x] [] (.ret (vi .u8 (digN c))) []:=by
 subst hx
 have h':=of_decide_eq_true h
 refine fd.des_sign.c ?_
 refine spl_d (fun h1=> ?_) (fun h1=> ?_)
 ·refine⟨_,rfl,[],congrArg (vi .u8) ?_,trivial⟩
  simp only[wrap_u8,digN]
  split<;>omega
 ·refine⟨_,rfl,[],congrArg (vi .u8) ?_,trivial⟩
  simp only[wrap_u8,digN]
  split<;>omega
theorem dBx_get {s r:Nat} (hr:r<4):([str (dRow s 0),str (dRow s 1),str (dRow s 2),str (dRow s 3)]:List V)[r]? =some (str (dRow s r)):=at4 (f:=fun r=>str (dRow s r)) rfl rfl rfl rfl hr
theorem c_dboxes {s r:Nat} (hs:s<8) (hr:r<4):Con C N.des_boxes [i64 s,i64 r] [] (.ret (str (dRow s r))) []:=by
 rcases s with _|_|_|_|_|_|_|_|s
 ·refine fd.des_boxes.c ?_
  refine⟨by omega,by omega,?_⟩
  refine⟨_,by rw[Zb,Zd];exact dBx_get (s:=0) hr,?_⟩
  exact⟨_,rfl,[],rfl,trivial⟩
 ·refine fd.des_boxes.c ?_
  refine⟨by omega,by omega,?_⟩
  refine⟨_,by rw[Zb,Zd];exact dBx_get (s:=1) hr,?_⟩
  exact⟨_,rfl,[],rfl,trivial⟩
 ·refine fd.des_boxes.c ?_
  refine⟨by omega,by omega,?_⟩
  refine⟨_,by rw[Zb,Zd];exact dBx_get (s:=2) hr,?_⟩
  exact⟨_,rfl,[],rfl,trivial⟩
 ·refine fd.des_boxes.c ?_
  refine⟨by omega,by omega,?_⟩
  refine⟨_,by rw[Zb,Zd];exact dBx_get (s:=3) hr,?_⟩
  exact⟨_,rfl,[],rfl,trivial⟩
 ·refine fd.des_boxes.c ?_
  refine⟨by omega,by omega,?_⟩
  refine⟨_,by rw[Zb,Zd];exact dBx_get (s:=4) hr,?_⟩
  exact⟨_,rfl,[],rfl,trivial⟩
 ·refine fd.des_boxes.c ?_
  refine⟨by omega,by omega,?_⟩
  refine⟨_,by rw[Zb,Zd];exact dBx_get (s:=5) hr,?_⟩
  exact⟨_,rfl,[],rfl,trivial⟩
 ·refine fd.des_boxes.c ?_
  refine⟨by omega,by omega,?_⟩
  refine⟨_,by rw[Zb,Zd];exact dBx_get (s:=6) hr,?_⟩
  exact⟨_,rfl,[],rfl,trivial⟩
 ·refine fd.des_boxes.c ?_
  refine⟨by omega,by omega,?_⟩
  refine⟨_,by rw[Zb,Zd];exact dBx_get (s:=7) hr,?_⟩
  exact⟨_,rfl,[],rfl,trivial⟩
 ·omega
def dRowN (x:Bs) (s:Nat):Nat:=2*(tb x (6*s)).toNat+(tb x (6*s+5)).toNat
def dColN (x:Bs) (s:Nat):Nat→Nat
 |0=>0
 |k+1=>2*dColN x s k+(tb x (6*s+1+k)).toNat
theorem toNat_lt2 (v:Bool):v.toNat<2:=by cases v<;>decide
theorem dRowN_lt (x s):dRowN x s<4:=by
 have:=toNat_lt2 (tb x (6*s));have:=toNat_lt2 (tb x (6*s+5));unfold dRowN;omega
theorem dColN_lt (x s):∀k,dColN x s k<2^k
 |0=>by show 0<1;omega
 |k+1=>by
  have:=toNat_lt2 (tb x (6*s+1+k));have:=dColN_lt x s k
  unfold dColN;rw[Nat.pow_succ];omega
def dS (x:Bs) (s:Nat):Nat:=digN ((dRow s (dRowN x s)).getD (dColN x s 4) 48)
theorem dS_lt {x s} (hs:s<8):dS x s<16:=digN_lt ((dRow_ok s hs _ (dRowN_lt x s)).2 _ (dColN_lt x s 4))
def dOut (x:Bs) (i:Nat):Bs:=(List.range 4).map fun q=>Zp ((if 2*q<i then 16*dS x (2*q)else 0)+(if 2*q+1<i then dS x (2*q+1)else 0))
theorem dOut_len (x i):(dOut x i).length=4:=by simp[dOut]
def dF (r k:Bs):Bs:=permB tMixed (dOut (xorL (permB (wideN 48) r) k) 8)
theorem put_dig:∀d,d<16→∀j,j≤1→U8.wrap (((d:Nat):Int)*2^(min ((4*j:Nat):Int).toNat U8.bits))=(((Zp (d*16^j)).toNat:Nat):Int):=by decide +kernel
theorem or_dig:∀a,a<16→∀d,d<16→(Zp 0|||Zp (d*16^1)=Zp (16*d))∧(Zp (16*a)|||Zp (d*16^0)=Zp (16*a+d)):=by decide +kernel
theorem dOut_step {x:Bs} {i:Nat} (hi:i<8):(dOut x i).set (i/2) ((dOut x i).getD (i/2) 0|||Zp (dS x i*16^(1-i%2)))=dOut x (i+1):=by
 have hd:=dS_lt (x:=x) hi
 apply Zw (by simp[dOut])
 intro q h1 h2
 have hq:q<4:=by simpa [dOut]using h2
 rw[Z2]
 split
 ·rename_i he
  subst he
  have g1:(dOut x i).getD (i/2) 0=Zp ((if 2*(i/2)<i then 16*dS x (2*(i/2))else 0)+(if 2*(i/2)+1<i then dS x (2*(i/2)+1)else 0)):=by simp[dOut,hq]
  rw[g1]
  simp only[dOut,Zz,Zy]
  by_cases h2:i%2=0
  ·rw[h2,if_neg (by omega),if_neg (by omega),if_pos (by omega),if_neg (by omega),show 2*(i/2)=i by omega]
   exact(or_dig 0 (by decide) _ hd).1
  ·rw[show i%2=1 by omega,if_pos (by omega),if_neg (by omega),if_pos (by omega),if_pos (by omega),show 2*(i/2)+1=i by omega]
   exact(or_dig _ (dS_lt (by omega)) _ hd).2
 ·rename_i he
  simp only[dOut,Zz,Zy]
  have a1:(2*q<i)=(2*q<i+1):=by apply propext;omega
  have a2:(2*q+1<i)=(2*q+1<i+1):=by apply propext;omega
  simp only[a1,a2]
end Go.Scr
