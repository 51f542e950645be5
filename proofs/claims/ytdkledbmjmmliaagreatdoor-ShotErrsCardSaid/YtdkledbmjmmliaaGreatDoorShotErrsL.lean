/-
  What the functions that this law alone reaches reckon, up to the law. It is no claim by itself; each contract bears its own conditions.
-/
import Derived.Test.YtdkledbmjmmliaaGreatDoorY4
set_option linter.unusedVariables false
set_option linter.unusedSimpArgs false
set_option maxRecDepth 100000
namespace Go.Scr
open Go.Proofs
open Nat renaming le_of_ble_eq_true → Za
abbrev N.law15_ShotErrs:=12
theorem fd.law15_ShotErrs:FnD C 12 [] Tryz.f12 82:=fk Tryz.func12 (by kernel_rfl)
abbrev con.law15_ShotErrs:=@FnD.c _ _ _ _ _ fd.law15_ShotErrs
theorem keyOf_len (t n k):(keyOf t n k).length=kLen t n:=bytesN_len _ _
theorem kLen_mem {t n:Int} (ht:okTag t):((kLen t n:Nat):Int)∈cLens t:=by
 have hp:=cLens_pos ht
 have h1:=Int.emod_nonneg n (b:=((cLens t).length:Int)) (by omega)
 have h2:=Int.emod_lt_of_pos n (b:=((cLens t).length:Int)) (by omega)
 have hi:(n%((cLens t).length:Int)).toNat<(cLens t).length:=by omega
 have hx:(cLens t).getD (n%((cLens t).length:Int)).toNat 0∈cLens t:=by
  rw[List.getD_eq_getElem?_getD,List.getElem?_eq_getElem hi];exact List.getElem_mem hi
 have h0:0≤(cLens t).getD (n%((cLens t).length:Int)).toNat 0:=by
  have:∀x∈cLens t,0≤x:=by
   rcases ht with rfl|rfl|rfl|rfl|rfl|rfl|rfl|rfl<;>decide
  exact this _ hx
 rw[kLen,Int.toNat_of_nonneg h0];exact hx
theorem ciph_law (tag n:Int) (k:List UInt8):∃s q xs rs,Ciph (tagOf tag) (keyOf (tagOf tag) n k) s q xs rs:=ciph_ok (tagOf_ok _) (by rw[keyOf_len];exact kLen_mem (tagOf_ok _))
theorem ivL_len (mode s b):(ivL mode s b).length=ivN mode s:=by
 unfold ivL ivN
 split
 ·rfl
 ·exact bytesN_len _ _
theorem akMode_in (mode:Int):1≤akMode mode∧akMode mode≤9:=by unfold akMode;omega
theorem akPad_in (mode pad:Int):(1≤akPad mode pad∧akPad mode pad≤4)∧(akPad mode pad=4∨akMode mode≤2):=by
 unfold akPad
 split
 ·omega
 ·exact⟨by decide,.inl rfl⟩
theorem ask_ciph (tag n:Int) (k:List UInt8):∃s q xs rs,Ciph (tagOf tag) (keyOf (tagOf tag) n k) s q xs rs:=ciph_law tag n k
theorem cLens_33 (t:Int):¬((33:Nat):Int)∈cLens t:=by
 unfold cLens
 repeat' split
 all_goals decide
theorem c_serr {tag n mode pad which:Int} {back:Bool} {lk li lb:Nat} {k iv b:List UInt8} (h0:In64 tag) (h1:In64 n) (h2:In64 mode) (h3:In64 pad) (hk:k.length=lk) (hi:iv.length=li) (hw:In64 which) (hb:b.length=lb):
  Con C N.law15_ShotErrs [askV tag n mode pad back lk k li iv,i64 which,.z lb (bv b)] [] (.ret (bool true)) []:=by
 obtain⟨s,q,xs,rs,h⟩:=ask_ciph tag n k
 have hs:=h.s_le
 have hM:=c_askmake (back:=back) h0 h1 h2 h3 hk hi h.hs hs.2
 have hmd:=akMode_in mode
 have hpd:=akPad_in mode pad
 have hkl:=kLen_ok (tagOf_ok tag) n
 have lK:=keyOf_len (tagOf tag) n k
 have lV:=ivL_len (akMode mode) s iv
 have hcs:=h.hs
 generalize keyOf (tagOf tag) n k=key at*
 generalize kLen (tagOf tag) n=lkk at*
 generalize ivL (akMode mode) s iv=fi at*
 generalize ivN (akMode mode) s=lfi at*
 generalize akMode mode=md at*
 generalize akPad mode pad=pd at*
 have hW:=c_w15 (a:=which) (n:=4) (by omega) (by omega) hw
 obtain⟨w,hw1,hw2⟩:∃w:Int,which%4=w∧(w=0∨w=1∨w=2∨w=3):=⟨_,rfl,by omega⟩
 rw[hw1]at hW
 have hV:=c_bytes (n:=17) (va:=bv fi) (b:=fi) (m:=lfi) rfl lV (by omega)
 have hK:=c_bytes (n:=33) (va:=bv key) (b:=key) (m:=lkk) rfl lK (by omega)
 have lV2:=bytesN_len 17 fi
 have lK2:=bytesN_len 33 key
 generalize bytesN 17 fi=fi2 at*
 generalize bytesN 33 key=key2 at*
 have nK:=cLens_33 (tagOf tag)
 refine con.law15_ShotErrs ?_
 refine⟨[],_,_,_,_,c_known15,rfl,rfl,?_⟩
 refine spl_d (fun hl=> ?_) (fun hl=> ?_)
 ·exact⟨_,rfl,[],rfl,trivial⟩
 refine⟨[i64 tag,i64 n,i64 mode,i64 pad,bool back,.z lk (bv k),.z li (bv iv)],rfl,rfl,?_⟩
 by_cases hf:lk≤100∧li≤100
 ·refine⟨[],_,_,_,_,c_few_y hf,rfl,rfl,?_⟩
  refine⟨[i64 tag,i64 n,i64 mode,i64 pad,bool back,.z lk (bv k),.z li (bv iv)],rfl,rfl,?_⟩
  refine⟨[],_,_,_,_,hM,rfl,rfl,?_⟩
  refine⟨Za rfl,?_⟩
  refine⟨[],_,_,_,_,hW,rfl,rfl,?_⟩
  have fin:∀(t:Int) (md pd:Int) (key:List UInt8) (lk:Nat) (e:Int),key.length=lk→lk≤1000→shErr t md pd (cSize t).toNat lk 17=e→e≠0→
    Con C N.shot_Shot [cfgV t md pd back,.z lk (bv key),.z 17 (bv fi2),.z lb (bv b)] [] (.ret (.t [nilv,i64 e])) []∧Con C N.shot_Check [cfgV t md pd back,.z lk (bv key),.z 17 (bv fi2)] [] (.ret (i64 e)) []∧Con C N.r15_Check [cfgV t md pd back,.z lk (bv key),.z 17 (bv fi2)] [] (.ret (i64 e)) []:=by
   intro t md pd key lk e hk hlk he he0
   obtain⟨c1,c2⟩:=check_both t hk hlk md pd back lV2
   rw[he]at c1 c2
   refine⟨?_,c1,c2⟩
   rcases shot_cases t hk hlk md pd back lV2 with ⟨e0,_⟩|⟨_,P,_⟩
   ·rw[he]at e0;exact absurd e0 he0
   ·rw[he]at P
    exact c_shot_err P he0
  rcases hw2 with rfl|rfl|rfl|rfl
  ·obtain⟨F1,F2,F3⟩:=fin 9 10 pd key2 33 2 lK2 (by omega) (by unfold shErr;rw[if_pos (by unfold okTag;omega)]) (by decide)
   refine⟨by omega,by omega,_,rfl,?_⟩
   refine⟨[],_,_,_,_,hV,rfl,rfl,?_⟩
   refine⟨Za rfl,?_⟩
   refine⟨[],_,_,_,_,hK,rfl,rfl,?_⟩
   refine⟨Za rfl,?_⟩
   refine⟨[i64 9,i64 10,i64 pd,bool back],rfl,rfl,?_⟩
   refine⟨[],_,_,_,_,F1,?_,rfl,?_⟩
   ·show[cfgV 9 10 pd back,V.z 33 (sub (bv key2) 0 33),V.z 17 (sub (bv fi2) 0 17),V.z lb (bv b)]=_
    rw[bv_all lK2,bv_all lV2]
   refine⟨[i64 9,i64 10,i64 pd,bool back],rfl,rfl,?_⟩
   refine⟨[],_,_,_,_,F2,?_,rfl,?_⟩
   ·show[cfgV 9 10 pd back,V.z 33 (sub (bv key2) 0 33),V.z 17 (sub (bv fi2) 0 17)]=_
    rw[bv_all lK2,bv_all lV2]
   refine⟨[i64 9,i64 10,i64 pd,bool back],rfl,rfl,?_⟩
   refine⟨[],_,_,_,_,F3,?_,rfl,?_⟩
   ·show[cfgV 9 10 pd back,V.z 33 (sub (bv key2) 0 33),V.z 17 (sub (bv fi2) 0 17)]=_
    rw[bv_all lK2,bv_all lV2]
   exact⟨_,rfl,[],rfl,trivial⟩
  ·obtain⟨F1,F2,F3⟩:=fin (tagOf tag) 10 pd key2 33 4 lK2 (by omega) (by unfold shErr;rw[if_neg (by exact fun x=>x h.ht),if_pos nK]) (by decide)
   refine⟨by omega,by omega,_,rfl,?_⟩
   refine⟨[],_,_,_,_,hV,rfl,rfl,?_⟩
   refine⟨Za rfl,?_⟩
   refine⟨[],_,_,_,_,hK,rfl,rfl,?_⟩
   refine⟨[i64 (tagOf tag),i64 10,i64 pd,bool back],rfl,rfl,?_⟩
   refine⟨[],_,_,_,_,F1,?_,rfl,?_⟩
   ·show[cfgV (tagOf tag) 10 pd back,V.z 33 (sub (bv key2) 0 33),V.z 17 (sub (bv fi2) 0 17),V.z lb (bv b)]=_
    rw[bv_all lK2,bv_all lV2]
   refine⟨[i64 (tagOf tag),i64 10,i64 pd,bool back],rfl,rfl,?_⟩
   refine⟨[],_,_,_,_,F2,?_,rfl,?_⟩
   ·show[cfgV (tagOf tag) 10 pd back,V.z 33 (sub (bv key2) 0 33),V.z 17 (sub (bv fi2) 0 17)]=_
    rw[bv_all lK2,bv_all lV2]
   refine⟨[i64 (tagOf tag),i64 10,i64 pd,bool back],rfl,rfl,?_⟩
   refine⟨[],_,_,_,_,F3,?_,rfl,?_⟩
   ·show[cfgV (tagOf tag) 10 pd back,V.z 33 (sub (bv key2) 0 33),V.z 17 (sub (bv fi2) 0 17)]=_
    rw[bv_all lK2,bv_all lV2]
   exact⟨_,rfl,[],rfl,trivial⟩
  ·obtain⟨F1,F2,F3⟩:=fin (tagOf tag) 10 pd key lkk 3 lK (by omega) (by unfold shErr;rw[if_neg (by exact fun x=>x h.ht),if_neg (by exact fun x=>x hkl.1),if_pos (by omega)]) (by decide)
   refine⟨by omega,by omega,_,rfl,?_⟩
   refine⟨[],_,_,_,_,hV,rfl,rfl,?_⟩
   refine⟨Za rfl,?_⟩
   refine⟨[i64 (tagOf tag),i64 10,i64 pd,bool back],rfl,rfl,?_⟩
   refine⟨[],_,_,_,_,F1,?_,rfl,?_⟩
   ·show[cfgV (tagOf tag) 10 pd back,V.z lkk (bv key),V.z 17 (sub (bv fi2) 0 17),V.z lb (bv b)]=_
    rw[bv_all lV2]
   refine⟨[i64 (tagOf tag),i64 10,i64 pd,bool back],rfl,rfl,?_⟩
   refine⟨[],_,_,_,_,F2,?_,rfl,?_⟩
   ·show[cfgV (tagOf tag) 10 pd back,V.z lkk (bv key),V.z 17 (sub (bv fi2) 0 17)]=_
    rw[bv_all lV2]
   refine⟨[i64 (tagOf tag),i64 10,i64 pd,bool back],rfl,rfl,?_⟩
   refine⟨[],_,_,_,_,F3,?_,rfl,?_⟩
   ·show[cfgV (tagOf tag) 10 pd back,V.z lkk (bv key),V.z 17 (sub (bv fi2) 0 17)]=_
    rw[bv_all lV2]
   exact⟨_,rfl,[],rfl,trivial⟩
  ·obtain⟨F1,F2,F3⟩:=fin (tagOf tag) md pd key lkk 5 lK (by omega) (by unfold shErr;rw[if_neg (by exact fun x=>x h.ht),if_neg (by exact fun x=>x hkl.1),if_neg (by omega),if_pos (by rw[hcs,Int.toNat_natCast];split<;>omega)]) (by decide)
   refine⟨by omega,by omega,_,rfl,?_⟩
   refine⟨[],_,_,_,_,hV,rfl,rfl,?_⟩
   refine⟨[i64 (tagOf tag),i64 md,i64 pd,bool back],rfl,rfl,?_⟩
   refine⟨[],_,_,_,_,F1,?_,rfl,?_⟩
   ·show[cfgV (tagOf tag) md pd back,V.z lkk (bv key),V.z 17 (sub (bv fi2) 0 17),V.z lb (bv b)]=_
    rw[bv_all lV2]
   refine⟨[i64 (tagOf tag),i64 md,i64 pd,bool back],rfl,rfl,?_⟩
   refine⟨[],_,_,_,_,F2,?_,rfl,?_⟩
   ·show[cfgV (tagOf tag) md pd back,V.z lkk (bv key),V.z 17 (sub (bv fi2) 0 17)]=_
    rw[bv_all lV2]
   refine⟨[i64 (tagOf tag),i64 md,i64 pd,bool back],rfl,rfl,?_⟩
   refine⟨[],_,_,_,_,F3,?_,rfl,?_⟩
   ·show[cfgV (tagOf tag) md pd back,V.z lkk (bv key),V.z 17 (sub (bv fi2) 0 17)]=_
    rw[bv_all lV2]
   exact⟨_,rfl,[],rfl,trivial⟩
 ·refine⟨[],_,_,_,_,c_few_n hf,rfl,rfl,?_⟩
  exact⟨_,rfl,[],rfl,trivial⟩
end Go.Scr
