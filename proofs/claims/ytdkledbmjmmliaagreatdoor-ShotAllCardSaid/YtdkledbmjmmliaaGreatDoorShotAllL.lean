/-
  What the functions that this law alone reaches reckon, up to the law. It is no claim by itself; each contract bears its own conditions.
-/
import Derived.Test.YtdkledbmjmmliaaGreatDoorY4
set_option linter.unusedVariables false
set_option linter.unusedSimpArgs false
set_option maxRecDepth 100000
namespace Go.Scr
open Go.Proofs
abbrev N.law15_ShotAll:=3
def rt.law15_ShotAll:Rt:=[(10,[i1 [47,48,49,50,51,52,53,45,54,55,12,13] [],i0 [],i0 [],i0 [],i0 [],i0 [3,4],i1 [46,47,48,53,45,54,55,12,13] [3,4,5],i2 [45,54,55,12,13] [0,1,2,3,4,5,6],i0 [0,1,2,3,4,5,6,7],i0 [0,1,2,3,4,5,6,7,8],i0 [0,1,2,3,4,5,6,7,8],i0 [0,1,2,3,4,5,6,7,8,9],i0 [0,1,2,3,4,5,6,7,8,9,10,11]]),(11,[i1 [58,59,60,61,62,63,64,56,65,66,14,15] [],i0 [],i0 [],i0 [],i0 [],i0 [3,4],i1 [57,58,59,64,56,65,66,14,15] [3,4,5],i2 [56,65,66,14,15] [0,1,2,3,4,5,6],i0 [0,1,2,3,4,5,6,7],i0 [0,1,2,3,4,5,6,7,8],i0 [0,1,2,3,4,5,6,7,8],i0 [0,1,2,3,4,5,6,7,8,9],i0 [0,1,2,3,4,5,6,7,8,9,10,11]])]
theorem fd.law15_ShotAll:FnD C 3 rt.law15_ShotAll Tryz.f3 96:=fk Tryz.func3 (by kernel_rfl)
abbrev con.law15_ShotAll:=@FnD.c _ _ _ _ _ fd.law15_ShotAll
theorem keyOf_len (t n k):(keyOf t n k).length=kLen t n:=bytesN_len _ _
theorem kLen_mem {t n:Int} (ht:okTag t):((kLen t n:Nat):Int)∈cLens t:=by
 have hp:=cLens_pos ht
 have h1:=Int.emod_nonneg n (b:=((cLens t).length:Int)) (by omega)
 have h2:=Int.emod_lt_of_pos n (b:=((cLens t).length:Int)) (by omega)
 have hi:(n%((cLens t).length:Int)).toNat<(cLens t).length:=by omega
 have hx:(cLens t).getD (n%((cLens t).length:Int)).toNat 0∈cLens t:=by
  rw[List.getD_eq_getElem?_getD,List.getElem?_eq_getElem hi];exact List.getElem_mem hi
 have h0:0≤(cLens t).getD (n%((cLens t).length:Int)).toNat 0:=by
  have:∀x∈cLens t,0≤x:=by
   rcases ht with rfl|rfl|rfl|rfl|rfl|rfl|rfl|rfl<;>decide
  exact this _ hx
 rw[kLen,Int.toNat_of_nonneg h0];exact hx
theorem ciph_law (tag n:Int) (k:List UInt8):∃s q xs rs,Ciph (tagOf tag) (keyOf (tagOf tag) n k) s q xs rs:=ciph_ok (tagOf_ok _) (by rw[keyOf_len];exact kLen_mem (tagOf_ok _))
theorem ivL_len (mode s b):(ivL mode s b).length=ivN mode s:=by
 unfold ivL ivN
 split
 ·rfl
 ·exact bytesN_len _ _
theorem akLen_le (n:Int) (s l:Nat):akLen n s l≤l:=by
 unfold akLen
 split
 ·exact Nat.div_mul_le_self _ _
 ·exact Nat.le_refl _
theorem akMsg_len (n:Int) (s:Nat) (m:List UInt8):(akMsg n s m).length=akLen n s m.length:=by
 rw[List.length_take];have:=akLen_le n s m.length;omega
theorem ask_ciph (tag n:Int) (k:List UInt8):∃s q xs rs,Ciph (tagOf tag) (keyOf (tagOf tag) n k) s q xs rs:=ciph_law tag n k
theorem c_sall {tag n mode pad rt rm rp:Int} {back rb:Bool} {lk li lb:Nat} {k iv b:List UInt8} (h0:In64 tag) (h1:In64 n) (h2:In64 mode) (h3:In64 pad) (hk:k.length=lk) (hi:iv.length=li) (hb:b.length=lb) (hrt:In64 rt) (hrm:In64 rm) (hrp:In64 rp):
  Con C N.law15_ShotAll [askV tag n mode pad back lk k li iv,.z lb (bv b),cfgV rt rm rp rb] [] (.ret (bool true)) []:=by
 obtain⟨s,q,xs,rs,h⟩:=ask_ciph tag n k
 have hs:=h.s_le
 have hM:=c_askmake (back:=back) h0 h1 h2 h3 hk hi h.hs hs.2
 have lK:=keyOf_len (tagOf tag) n k
 have lV:=ivL_len (akMode mode) s iv
 have hkl:=kLen_ok (tagOf_ok tag) n
 refine con.law15_ShotAll ?_
 refine⟨[],_,_,_,_,c_known15,rfl,rfl,?_⟩
 refine spl_d (fun hl=> ?_) (fun hl=> ?_)
 ·exact⟨_,rfl,[],rfl,trivial⟩
 have hS:=c_size15 (mode:=mode) (pad:=pad) (back:=back) (lk:=lk) (li:=li) (k:=k) (iv:=iv) h0 h1 h.hs (by omega) hb (by omega)
 have hle:=akLen_le n s lb
 have lm:=akMsg_len n s b
 rw[hb]at lm
 generalize akMode mode=md at*
 generalize akPad mode pad=pd at*
 generalize akMsg n s b=msg at*
 generalize akLen n s lb=m at*
 generalize keyOf (tagOf tag) n k=key at*
 generalize kLen (tagOf tag) n=lkk at*
 obtain⟨rX,X1,X2⟩:=shot_any (tagOf tag) lK (by omega) md pd back lV lm (by omega)
 obtain⟨rY,Y1,Y2⟩:=shot_any (tagOf tag) lK (by omega) md pd back lV hb (by omega)
 obtain⟨rZ,Z1,Z2⟩:=shot_any rt lK (by omega) rm rp rb lV hb (by omega)
 refine⟨[i64 tag,i64 n,i64 mode,i64 pad,bool back,.z lk (bv k),.z li (bv iv)],rfl,rfl,?_⟩
 by_cases hf:lk≤100∧li≤100
 ·refine⟨[],_,_,_,_,c_few_y hf,rfl,rfl,?_⟩
  refine⟨[i64 tag,i64 n,i64 mode,i64 pad,bool back,.z lk (bv k),.z li (bv iv)],rfl,rfl,?_⟩
  refine⟨[],_,_,_,_,hM,rfl,rfl,?_⟩
  refine⟨Nat.le_of_ble_eq_true rfl,?_⟩
  refine⟨[i64 tag,i64 n,i64 mode,i64 pad,bool back,.z lk (bv k),.z li (bv iv)],rfl,rfl,?_⟩
  refine⟨[],_,_,_,_,hS,rfl,rfl,?_⟩
  refine loopN (fun i=>⟨[(1,.z lb (bv b)),(5,.q [i64 rt,i64 rm,i64 rp,bool rb] 0),(7,.q [i64 (tagOf tag),i64 md,i64 pd,bool back] 0),(8,.z lkk (bv key)),(9,.z (ivN md s) (bv (ivL md s iv))),(10,.zz 1 2 [.z m (bv msg),.z lb (bv b)]),(11,i64 i)],[]⟩) 2 ⟨[],⟨rfl,rfl,rfl,rfl,rfl,rfl,rfl,trivial⟩,trivial⟩ fun i hi'=> ?_
  refine spl_d (fun hlt=> ?_) (fun hge=> ?_)
  ·have hi2:i=0∨i=1:=by omega
   rcases hi2 with rfl|rfl
   ·refine⟨[i64 (tagOf tag),i64 md,i64 pd,bool back],rfl,rfl,?_⟩
    refine⟨by decide,by decide,?_⟩
    refine⟨_,rfl,?_⟩
    refine⟨[],_,_,_,_,X1,rfl,rfl,?_⟩
    refine⟨[i64 (tagOf tag),i64 md,i64 pd,bool back],rfl,rfl,?_⟩
    refine⟨by decide,by decide,?_⟩
    refine⟨_,rfl,?_⟩
    refine⟨[],_,_,_,_,X2,rfl,rfl,?_⟩
    refine spl_ne (fun hh=>absurd rfl hh) (fun _=> ?_)
    refine⟨by rw[bv_len],_,rfl,?_⟩
    refine⟨by rw[bv_len],_,rfl,?_⟩
    refine spl_f (by simp) ?_
    exact⟨1,by omega,by omega,[],⟨rfl,rfl,rfl,rfl,rfl,rfl,rfl,trivial⟩,trivial⟩
   ·refine⟨[i64 (tagOf tag),i64 md,i64 pd,bool back],rfl,rfl,?_⟩
    refine⟨by decide,by decide,?_⟩
    refine⟨_,rfl,?_⟩
    refine⟨[],_,_,_,_,Y1,rfl,rfl,?_⟩
    refine⟨[i64 (tagOf tag),i64 md,i64 pd,bool back],rfl,rfl,?_⟩
    refine⟨by decide,by decide,?_⟩
    refine⟨_,rfl,?_⟩
    refine⟨[],_,_,_,_,Y2,rfl,rfl,?_⟩
    refine spl_ne (fun hh=>absurd rfl hh) (fun _=> ?_)
    refine⟨by rw[bv_len],_,rfl,?_⟩
    refine⟨by rw[bv_len],_,rfl,?_⟩
    refine spl_f (by simp) ?_
    exact⟨2,by omega,by omega,[],⟨rfl,rfl,rfl,rfl,rfl,rfl,rfl,trivial⟩,trivial⟩
  ·refine⟨[i64 rt,i64 rm,i64 rp,bool rb],rfl,rfl,?_⟩
   refine⟨[],_,_,_,_,Z1,rfl,rfl,?_⟩
   refine⟨[i64 rt,i64 rm,i64 rp,bool rb],rfl,rfl,?_⟩
   refine⟨[],_,_,_,_,Z2,rfl,rfl,?_⟩
   exact⟨_,rfl,[],congrArg bool (beq_self_eq_true _),trivial⟩
 ·refine⟨[],_,_,_,_,c_few_n hf,rfl,rfl,?_⟩
  exact⟨_,rfl,[],rfl,trivial⟩
end Go.Scr
