/-
  What the functions that this law alone reaches reckon, up to the law. It is no claim by itself; each contract bears its own conditions.
-/
import Derived.Test.YtdkledbmjmmliaaGreatDoorY4
set_option linter.unusedVariables false
set_option linter.unusedSimpArgs false
set_option maxRecDepth 100000
namespace Go.Scr
open Go.Proofs
open Nat renaming le_of_ble_eq_true → Za
open Go.IntKind renaming i64 → I6
abbrev N.law15_ShotStream:=10
def rt.law15_ShotStream:Rt:=[(9,[i1 [53,54,55,56,57,58,51,59,60,13,14] [],i0 [],i0 [],i0 [],i0 [],i0 [3,4],i2 [51,59,60,13,14] [0,1,2,3,4,5],i0 [0,1,2,3,4,5,6],i0 [0,1,2,3,4,5,6,7],i0 [0,1,2,3,4,5,6,7],i0 [0,1,2,3,4,5,6,7,8],i0 [0,1,2,3,4,5,6,7,8,9,10]]),(10,[i0 [],i0 [0],i0 [0,1],i0 [0,1,2],i0 [0,1,2,3],i0 [0,1,2,3,4],i0 [0,1,2,3,4,5],i0 [0,1,2,3,4,5,6],i0 [0,1,2,3,4,5,6,7],i0 [0,1,2,3,4,5,6],i0 [0,1,2,3,4,5,6,9],i0 [0,1,2,3,4,5,6,7,8,9,10],i0 [0,1,2,3,4,5,6,7,8,9,10,11],i0 [0,1,2,3,4,5,6,7,8,9,10,11,12],i0 [0,1,2,3,4,5,6,7,8,9,10,11,12,13],i0 [0,1,2,3,4,5,6,7,8,9,10,11,12,13],i0 [0,1,2,3,4,5,6,7,8,9,10,11,12,13,14,15],i1 [79,80,81,82] [0,1,2,3,4,5,6,7,8,9,10,11,12,13,14,15,16],i0 [0,1,2,3,4,5,6,7,8,9,10,11,12,13],i1 [75,76,77,78,81,82] [0,1,2,3,4,5,6,7,8,9,10,11,12,13,18],i0 [0,1,2,3,4,5,6,7,8,9,10,11,12,13,14,15,16,17,18,19],i0 [0,1,2,3,4,5,6,7,8,9,10,11,12,13,14,15,16,17,18,19,20]])]
theorem fd.law15_ShotStream:FnD C 10 rt.law15_ShotStream Tryz.f10 107:=fk Tryz.func10 (by kernel_rfl)
abbrev con.law15_ShotStream:=@FnD.c _ _ _ _ _ fd.law15_ShotStream
theorem keyOf_len (t n k):(keyOf t n k).length=kLen t n:=bytesN_len _ _
theorem kLen_mem {t n:Int} (ht:okTag t):((kLen t n:Nat):Int)∈cLens t:=by
 have hp:=cLens_pos ht
 have h1:=Int.emod_nonneg n (b:=((cLens t).length:Int)) (by omega)
 have h2:=Int.emod_lt_of_pos n (b:=((cLens t).length:Int)) (by omega)
 have hi:(n%((cLens t).length:Int)).toNat<(cLens t).length:=by omega
 have hx:(cLens t).getD (n%((cLens t).length:Int)).toNat 0∈cLens t:=by
  rw[List.getD_eq_getElem?_getD,List.getElem?_eq_getElem hi];exact List.getElem_mem hi
 have h0:0≤(cLens t).getD (n%((cLens t).length:Int)).toNat 0:=by
  have:∀x∈cLens t,0≤x:=by
   rcases ht with rfl|rfl|rfl|rfl|rfl|rfl|rfl|rfl<;>decide
  exact this _ hx
 rw[kLen,Int.toNat_of_nonneg h0];exact hx
theorem ciph_law (tag n:Int) (k:List UInt8):∃s q xs rs,Ciph (tagOf tag) (keyOf (tagOf tag) n k) s q xs rs:=ciph_ok (tagOf_ok _) (by rw[keyOf_len];exact kLen_mem (tagOf_ok _))
theorem ivL_len (mode s b):(ivL mode s b).length=ivN mode s:=by
 unfold ivL ivN
 split
 ·rfl
 ·exact bytesN_len _ _
theorem ask_ciph (tag n:Int) (k:List UInt8):∃s q xs rs,Ciph (tagOf tag) (keyOf (tagOf tag) n k) s q xs rs:=ciph_law tag n k
theorem out_as {f args} {o:List UInt8} {l:Nat} {e:Int} (hl:o.length=l) (P:Con C f args [] (.ret (shV (o,e))) []):Con C f args [] (.ret (.t [.z l (bv o),i64 e])) []:=by
 subst hl;exact P
theorem shP_byte {E D:List UInt8→List UInt8} {n:Nat} {mode:Int} {back:Bool} {iv m:List UInt8} (hm:3≤mode∧mode≤6):shP E D n mode 4 back iv m=((moMany E mode back ⟨iv,[],[]⟩ m).1,0):=by
 unfold shP
 rw[if_neg (by omega),if_pos rfl,if_pos (by unfold moGrain;rw[if_neg (by omega)];exact Nat.mod_one _)]
 unfold moStep
 rw[if_neg (by omega)]
theorem c_sstr {tag n mode pad at':Int} {back:Bool} {lk li lb:Nat} {k iv b:List UInt8} (h0:In64 tag) (h1:In64 n) (h2:In64 mode) (h3:In64 pad) (hk:k.length=lk) (hi:iv.length=li) (hb:b.length=lb) (ha:In64 at'):
  Con C N.law15_ShotStream [askV tag n mode pad back lk k li iv,.z lb (bv b),i64 at'] [] (.ret (bool true)) []:=by
 obtain⟨s,q,xs,rs,h⟩:=ask_ciph tag n k
 have hs:=h.s_le
 have hw:I6.wrap (2+mode%4)=2+mode%4:=IntWalk.i64_in _ (by omega)
 have hM:=c_askmake (mode:=I6.wrap (2+mode%4)) (back:=back) h0 h1 (by rw[hw];unfold In64;omega) h3 hk hi h.hs hs.2
 have hW:=c_w15 (a:=mode) (n:=4) (by omega) (by omega) h2
 have em:akMode (I6.wrap (2+mode%4))=3+mode%4:=by unfold akMode;rw[hw];omega
 have ep:akPad (I6.wrap (2+mode%4)) pad=4:=by unfold akPad;rw[em,if_neg (by omega)]
 rw[em,ep]at hM
 have lK:=keyOf_len (tagOf tag) n k
 have lV:=ivL_len (3+mode%4) s iv
 have hmd:3≤3+mode%4∧3+mode%4≤6:=by omega
 generalize 3+mode%4=md at*
 have ok:shOk s md 4 (ivL md s iv):=⟨by omega,by decide,.inl rfl,lV⟩
 refine con.law15_ShotStream ?_
 refine⟨[],_,_,_,_,c_known15,rfl,rfl,?_⟩
 refine spl_d (fun hl=> ?_) (fun hl=> ?_)
 ·exact⟨_,rfl,[],rfl,trivial⟩
 have e1:I6.wrap ((lb:Int)+1)=(lb:Int)+1:=IntWalk.i64_in _ (by omega)
 obtain⟨i,hi1,hi2⟩:∃i:Nat,at'%((lb:Int)+1)=i∧i≤lb:=by
  have a1:=Int.emod_nonneg at' (show (lb:Int)+1≠0 by omega)
  have a2:=Int.emod_lt_of_pos at' (show 0<(lb:Int)+1 by omega)
  exact⟨(at'%((lb:Int)+1)).toNat,by omega,by omega⟩
 have hA:=c_w15 (a:=at') (n:=I6.wrap ((lb:Int)+1)) (by omega) (by omega) ha
 rw[e1,hi1]at hA
 have P:=fun(bk:Bool)=>c_shotP h (back:=bk) (msg:=b) (m:=lb) rfl rfl rfl lK lV hb (by omega) ok
 have P2:=c_shotP h (back:=back) (msg:=b.take i) (m:=i) rfl rfl (rfl:bv (b.take i)=bv (b.take i)) lK lV (by rw[List.length_take];omega) (by omega) ok
 rw[shP_byte hmd]at P2
 have l2:(moMany (cF (tagOf tag) (keyOf (tagOf tag) n k) false) md back ⟨ivL md s iv,[],[]⟩ (b.take i)).1.length=i:=by rw[moMany_len,List.length_take];omega
 have l1:∀bk,(moMany (cF (tagOf tag) (keyOf (tagOf tag) n k) false) md bk ⟨ivL md s iv,[],[]⟩ b).1.length=lb:=fun bk=>by rw[moMany_len,hb]
 have hfr:=moMany_front (cF (tagOf tag) (keyOf (tagOf tag) n k) false) md back ⟨ivL md s iv,[],[]⟩ b (i:=i) (by omega)
 have hflip:5≤md→∀bk,(moMany (cF (tagOf tag) (keyOf (tagOf tag) n k) false) md bk ⟨ivL md s iv,[],[]⟩ b).1=(moMany (cF (tagOf tag) (keyOf (tagOf tag) n k) false) md back ⟨ivL md s iv,[],[]⟩ b).1:=fun h5 bk=>moMany_flip _ (by omega) _ _ _ _ _ rfl rfl
 have P1:=P back
 have P3:=P (!back)
 rw[shP_byte hmd]at P1 P3
 have e3:=fun h5=>hflip h5 (!back)
 have l1':=l1 back
 have l3:=l1 (!back)
 generalize (moMany (cF (tagOf tag) (keyOf (tagOf tag) n k) false) md back ⟨ivL md s iv,[],[]⟩ b).1=o1 at*
 generalize (moMany (cF (tagOf tag) (keyOf (tagOf tag) n k) false) md (!back) ⟨ivL md s iv,[],[]⟩ b).1=o3 at*
 generalize (moMany (cF (tagOf tag) (keyOf (tagOf tag) n k) false) md back ⟨ivL md s iv,[],[]⟩ (b.take i)).1=o2 at*
 have Q1:Con C N.shot_Shot [cfgV (tagOf tag) md 4 back,.z (kLen (tagOf tag) n) (bv (keyOf (tagOf tag) n k)),.z (ivN md s) (bv (ivL md s iv)),.z lb (bv b)] [] (.ret (.t [.z lb (bv o1),i64 0])) []:=out_as l1' P1
 have Q2:Con C N.shot_Shot [cfgV (tagOf tag) md 4 back,.z (kLen (tagOf tag) n) (bv (keyOf (tagOf tag) n k)),.z (ivN md s) (bv (ivL md s iv)),.z i (bv (b.take i))] [] (.ret (.t [.z i (bv o2),i64 0])) []:=out_as l2 P2
 have Q3:Con C N.shot_Shot [cfgV (tagOf tag) md 4 (!back),.z (kLen (tagOf tag) n) (bv (keyOf (tagOf tag) n k)),.z (ivN md s) (bv (ivL md s iv)),.z lb (bv b)] [] (.ret (.t [.z lb (bv o3),i64 0])) []:=out_as l3 P3
 clear P P1 P2 P3 hflip l1
 refine⟨[i64 tag,i64 n,i64 mode,i64 pad,bool back,.z lk (bv k),.z li (bv iv)],rfl,rfl,?_⟩
 by_cases hf:lk≤100∧li≤100
 ·refine⟨[],_,_,_,_,c_few_y hf,rfl,rfl,?_⟩
  refine⟨_,rfl,?_⟩
  refine⟨[],_,_,_,_,hW,rfl,rfl,?_⟩
  refine⟨Za rfl,?_⟩
  refine⟨[i64 tag,i64 n,i64 (I6.wrap (2+mode%4)),i64 pad,bool back,.z lk (bv k),.z li (bv iv)],rfl,rfl,?_⟩
  refine⟨[],_,_,_,_,hM,rfl,rfl,?_⟩
  refine⟨Za rfl,?_⟩
  refine⟨[],_,_,_,_,c_w15 (a:=at') (n:=I6.wrap ((lb:Int)+1)) (by omega) (by omega) ha,rfl,rfl,?_⟩
  rw[e1,hi1]
  refine⟨[i64 (tagOf tag),i64 md,i64 4,bool back],rfl,rfl,?_⟩
  refine⟨[],_,_,_,_,Q1,rfl,rfl,?_⟩
  refine⟨[i64 (tagOf tag),i64 md,i64 4,bool back],rfl,rfl,?_⟩
  refine⟨by omega,by omega,by omega,by omega,?_⟩
  refine⟨[],_,_,_,_,Q2,?_,rfl,?_⟩
  ·show[cfgV (tagOf tag) md 4 back,V.z _ _,V.z _ _,V.z ((i:Int).toNat-0) (sub (bv b) 0 ((i:Int).toNat-0))]=_
   rw[Int.toNat_natCast,Nat.sub_zero,bv_sub];rfl
  refine spl_ne (fun hh=>absurd rfl hh) (fun _=> ?_)
  refine⟨by omega,by omega,by omega,by omega,?_⟩
  have hv:sub (bv o1) 0 ((i:Int).toNat-0)=bv o2:=by rw[Int.toNat_natCast,Nat.sub_zero,bv_sub,←hfr];rfl
  refine⟨by rw[hv,bv_len,l2];omega,o2,by rw[hv];rfl,?_⟩
  refine⟨by rw[bv_len,l2],_,rfl,?_⟩
  refine spl_f (by simp) ?_
  refine⟨_,rfl,?_⟩
  refine spl_d (fun h5=> ?_) (fun h5=> ?_)
  ·exact⟨_,rfl,[],rfl,trivial⟩
  refine⟨_,rfl,?_⟩
  refine⟨Za rfl,?_⟩
  refine⟨[i64 (tagOf tag),i64 md,i64 4,bool (!back)],rfl,rfl,?_⟩
  refine⟨[],_,_,_,_,Q3,rfl,rfl,?_⟩
  obtain rfl:=e3 (by omega)
  refine⟨by rw[bv_len,l3],_,rfl,?_⟩
  refine⟨by rw[bv_len,l3],_,rfl,?_⟩
  exact⟨_,rfl,[],congrArg bool (beq_self_eq_true _),trivial⟩
 ·refine⟨[],_,_,_,_,c_few_n hf,rfl,rfl,?_⟩
  exact⟨_,rfl,[],rfl,trivial⟩
end Go.Scr
