/-
  What the functions that this law alone reaches reckon, up to the law. It is no claim by itself; each contract bears its own conditions.
-/
import Derived.Test.YtggojcedobgnaaaGreatDoorY3
set_option linter.unusedVariables false
set_option linter.unusedSimpArgs false
set_option maxRecDepth 100000
namespace Go.Scr
open Go.Proofs
abbrev N.law16_CtxAgain:=9
def rt.law16_CtxAgain:Rt:=[(5,[i1 [41,42,43,9,10] [],i1 [42,43,9,10] [0],i1 [40,41,43,9,10] [],i2 [9,10] [0,1,2],i0 [0,1,2,3],i0 [0,1,2,3,4]])]
theorem fd.law16_CtxAgain:FnD C 9 rt.law16_CtxAgain Tryz.f9 106:=fk Tryz.func9 (by kernel_rfl)
abbrev con.law16_CtxAgain:=@FnD.c _ _ _ _ _ fd.law16_CtxAgain
theorem kLen_mem {t n:Int} (ht:okTag t):((kLen t n:Nat):Int)∈cLens t:=by
 have hp:=cLens_pos ht
 have h1:=Int.emod_nonneg n (b:=((cLens t).length:Int)) (by omega)
 have h2:=Int.emod_lt_of_pos n (b:=((cLens t).length:Int)) (by omega)
 have hi:(n%((cLens t).length:Int)).toNat<(cLens t).length:=by omega
 have hx:(cLens t).getD (n%((cLens t).length:Int)).toNat 0∈cLens t:=by
  rw[List.getD_eq_getElem?_getD,List.getElem?_eq_getElem hi];exact List.getElem_mem hi
 have h0:0≤(cLens t).getD (n%((cLens t).length:Int)).toNat 0:=by
  have:∀x∈cLens t,0≤x:=by
   rcases ht with rfl|rfl|rfl|rfl|rfl|rfl|rfl|rfl<;>decide
  exact this _ hx
 rw[kLen,Int.toNat_of_nonneg h0];exact hx
theorem ciph_law (tag n:Int) (k:List UInt8):∃s q xs rs,Ciph (tagOf tag) (keyOf (tagOf tag) n k) s q xs rs:=ciph_ok (tagOf_ok _) (by rw[keyOf_len];exact kLen_mem (tagOf_ok _))
theorem ask_ciph (tag n:Int) (k:List UInt8):∃s q xs rs,Ciph (tagOf tag) (keyOf (tagOf tag) n k) s q xs rs:=ciph_law tag n k
theorem c_cxagain {tag n mode pad tag2 n2 mode2 pad2:Int} {back back2:Bool} {lk li lk2 li2 lb lf:Nat} {k v k2 v2 b fi:List UInt8} (h0:In64 tag) (h1:In64 n) (h2:In64 mode) (h3:In64 pad) (hk:k.length=lk) (hi:v.length=li)
  (g0:In64 tag2) (g1:In64 n2) (g2:In64 mode2) (g3:In64 pad2) (hk2:k2.length=lk2) (hi2:v2.length=li2) (hb:b.length=lb) (hfi:fi.length=lf):
  Con C N.law16_CtxAgain [askV tag n mode pad back lk k li v,askV tag2 n2 mode2 pad2 back2 lk2 k2 li2 v2,.z lb (bv b),.z lf (bv fi)] [] (.ret (bool true)) []:=by
 subst hb
 obtain⟨s,q,xs,rs,h⟩:=ask_ciph tag n k
 obtain⟨s2,q2,xs2,rs2,j⟩:=ask_ciph tag2 n2 k2
 have hs:=h.s_le
 have js:=j.s_le
 have ok:=ak_ok mode pad s v
 have ok2:=ak_ok mode2 pad2 s2 v2
 have OP:=c_open16 (back:=back) h0 h1 h2 h3 hk hi h
 have OP2:=c_open16 (back:=back2) g0 g1 g2 g3 hk2 hi2 j
 have hM:=c_askmake (back:=back2) g0 g1 g2 g3 hk2 hi2 j.hs js.2
 have lK:=keyOf_len (tagOf tag2) n2 k2
 have lV:=ivL_len (akMode mode2) s2 v2
 have hkl:=kLen_ok (tagOf_ok tag2) n2
 refine con.law16_CtxAgain ?_
 refine⟨[],_,_,_,_,c_known16,rfl,rfl,?_⟩
 refine spl_d (fun hl=> ?_) (fun hl=> ?_)
 ·exact⟨_,rfl,[],rfl,trivial⟩
 refine spl_d (fun hl2=> ?_) (fun hl2=> ?_)
 ·exact⟨_,rfl,[],rfl,trivial⟩
 obtain⟨e,y,E0,E1,AL⟩:=all_once j (back:=back2) ok2 (ps:=[b]) (b:=b) (by simp) (by omega) (by simp)
 obtain⟨a,o,hn,_,_,U⟩:=cx_up h (back:=back) (iv:=ivL (akMode mode) s v) (M:=[]) (b:=fi) (x:= .n) ok (.inl ⟨rfl,cxH_0⟩) hfi (by simp;omega)
 have U:=U.resolve_right (fun hh=>hh.1 (by rw[cS_0' (by omega) ok]))
 rw[cL_0 (by omega) ok,cS_0' (by omega) ok,List.nil_append]at U
 have IN:=fun(st0:MS) (l0:List UInt8) (x0:HK)=>c_cxinitB j (mode:=akMode mode2) (pad:=akPad mode2 pad2) (back:=back2) (iv:=ivL (akMode mode2) s2 v2) (t0:=tagOf tag) (mode0:=akMode mode) (pad0:=akPad mode pad) (md0:=cxMd (akMode mode)) (op:=true) (back0:=back) (k0:=q) (xs0:=xs) (iv0:=ivL (akMode mode) s v) (last0:=l0) (st0:=st0) (x0:=x0) lK (by omega) lV ok2
 have IN:=IN (cS (tagOf tag) (keyOf (tagOf tag) n k) s (akMode mode) (akPad mode pad) back (ivL (akMode mode) s v) fi) (cL (tagOf tag) (keyOf (tagOf tag) n k) s (akMode mode) (akPad mode pad) back (ivL (akMode mode) s v) fi) (.o (cxH s (akMode mode) (akPad mode pad) back fi))
 have HE:=c_cxheld (t:=tagOf tag2) (mode:=akMode mode2) (pad:=akPad mode2 pad2) (md:=cxMd (akMode mode2)) (op:=true) (back:=back2) (k:=q2) (xs:=xs2) (iv:=ivL (akMode mode2) s2 v2) (last:=ivL (akMode mode2) s2 v2) (st:=⟨ivL (akMode mode2) s2 v2,[],[]⟩) (x:= .n)
 generalize cL (tagOf tag) (keyOf (tagOf tag) n k) s (akMode mode) (akPad mode pad) back (ivL (akMode mode) s v) fi=la at*
 generalize cxH s (akMode mode) (akPad mode pad) back fi=H at*
 generalize cS (tagOf tag) (keyOf (tagOf tag) n k) s (akMode mode) (akPad mode pad) back (ivL (akMode mode) s v) fi=st1 at*
 generalize akMode mode=md at*
 generalize akPad mode pad=pd at*
 generalize ivL md s v=V0 at*
 generalize akMode mode2=md2 at*
 generalize akPad mode2 pad2=pd2 at*
 generalize ivL md2 s2 v2=V2 at*
 generalize keyOf (tagOf tag2) n2 k2=key2 at*
 generalize kLen (tagOf tag2) n2=lkk2 at*
 refine⟨[i64 tag,i64 n,i64 mode,i64 pad,bool back,.z lk (bv k),.z li (bv v)],rfl,rfl,?_⟩
 by_cases hf:lk≤100∧li≤100
 ·refine⟨[],_,_,_,_,c_few_y hf,rfl,rfl,?_⟩
  refine⟨[i64 tag2,i64 n2,i64 mode2,i64 pad2,bool back2,.z lk2 (bv k2),.z li2 (bv v2)],rfl,rfl,?_⟩
  by_cases hf2:lk2≤100∧li2≤100
  ·refine⟨[],_,_,_,_,c_few_y hf2,rfl,rfl,?_⟩
   obtain⟨ch,row,g⟩:=st1
   rcases row with _|⟨a1,r1⟩
   all_goals
    refine⟨[i64 tag,i64 n,i64 mode,i64 pad,bool back,.z lk (bv k),.z li (bv v)],rfl,rfl,?_⟩
    refine⟨[],_,_,_,_,OP,rfl,rfl,?_⟩
    refine⟨[i64 tag2,i64 n2,i64 mode2,i64 pad2,bool back2,.z lk2 (bv k2),.z li2 (bv v2)],rfl,rfl,?_⟩
    refine⟨[],_,_,_,_,OP2,rfl,rfl,?_⟩
    refine⟨[.d 41 0,.d 41 1,.d 41 2,.d 41 3],_,_,_,_,U,rfl,rfl,?_⟩
    refine⟨[i64 tag2,i64 n2,i64 mode2,i64 pad2,bool back2,.z lk2 (bv k2),.z li2 (bv v2)],rfl,rfl,?_⟩
    refine⟨[],_,_,_,_,hM,rfl,rfl,?_⟩
    refine⟨Nat.le_of_ble_eq_true rfl,?_⟩
    refine⟨[i64 (tagOf tag2),i64 md2,i64 pd2,bool back2],rfl,rfl,?_⟩
    refine⟨[.d 41 0,.d 41 1,.d 52 4,.d 52 5],_,_,_,_,IN,rfl,rfl,?_⟩
    refine⟨[.d 41 0,.d 63 4,.d 63 5,.d 63 6],_,_,_,_,HE,rfl,rfl,?_⟩
    refine⟨[.d 41 0,.d 63 4,.d 63 5,.d 63 6],_,_,_,_,AL,rfl,rfl,?_⟩
    refine⟨[.d 43 0,.d 43 1,.d 43 2,.d 43 3],_,_,_,_,AL,rfl,rfl,?_⟩
    refine spl_eq (fun _=> ?_) (fun hh=>absurd rfl hh)
    refine spl_ne (fun he=> ?_) (fun he=> ?_)
    ·exact⟨_,rfl,[],congrArg bool (by simp[he]),trivial⟩
    ·refine⟨by rw[bv_len],_,rfl,?_⟩
     refine⟨by rw[bv_len],_,rfl,?_⟩
     exact⟨_,rfl,[],congrArg bool (beq_self_eq_true _),trivial⟩
  ·refine⟨[],_,_,_,_,c_few_n hf2,rfl,rfl,?_⟩
   exact⟨_,rfl,[],rfl,trivial⟩
 ·refine⟨[],_,_,_,_,c_few_n hf,rfl,rfl,?_⟩
  exact⟨_,rfl,[],rfl,trivial⟩
end Go.Scr
