/-
  What the functions that this law alone reaches reckon, up to the law. It is no claim by itself; each contract bears its own conditions.
-/
import Derived.Test.YtmgldmininkdfaaGreatDoorY4
set_option linter.unusedVariables false
set_option linter.unusedSimpArgs false
set_option maxRecDepth 100000
namespace Go.Scr
open Go.Proofs
abbrev N.law16_CtxCut:=4
theorem fd.law16_CtxCut:FnD C 4 [] Tryz.f4 74:=fk Tryz.func4 (by kernel_rfl)
theorem kLen_mem {t n:Int} (ht:okTag t):((kLen t n:Nat):Int)∈cLens t:=by
 have hp:=cLens_pos ht
 have h1:=Int.emod_nonneg n (b:=((cLens t).length:Int)) (by omega)
 have h2:=Int.emod_lt_of_pos n (b:=((cLens t).length:Int)) (by omega)
 have hi:(n%((cLens t).length:Int)).toNat<(cLens t).length:=by omega
 have hx:(cLens t).getD (n%((cLens t).length:Int)).toNat 0∈cLens t:=by
  rw[List.getD_eq_getElem?_getD,List.getElem?_eq_getElem hi];exact List.getElem_mem hi
 have h0:0≤(cLens t).getD (n%((cLens t).length:Int)).toNat 0:=by
  have:∀x∈cLens t,0≤x:=by
   rcases ht with rfl|rfl|rfl|rfl|rfl|rfl|rfl|rfl<;>decide
  exact this _ hx
 rw[kLen,Int.toNat_of_nonneg h0];exact hx
theorem ciph_law (tag n:Int) (k:Bs):∃s q xs rs,Ciph (tagOf tag) (keyOf (tagOf tag) n k) s q xs rs:=ciph_ok (tagOf_ok _) (by rw[keyOf_len];exact kLen_mem (tagOf_ok _))
theorem akLen_le (n:Int) (s l:Nat):akLen n s l≤l:=by
 unfold akLen
 split
 ·exact Nat.div_mul_le_self _ _
 ·exact Nat.le_refl _
theorem akMsg_len (n:Int) (s:Nat) (m:Bs):(akMsg n s m).length=akLen n s m.length:=by
 rw[List.length_take];have:=akLen_le n s m.length;omega
theorem ask_ciph (tag n:Int) (k:Bs):∃s q xs rs,Ciph (tagOf tag) (keyOf (tagOf tag) n k) s q xs rs:=ciph_law tag n k
theorem c_cxcut {tag n mode pad:Int} {back:Bool} {lk li lb ln:Nat} {k v b:Bs} {ns:List Int} (h0:In64 tag) (h1:In64 n) (h2:In64 mode) (h3:In64 pad) (hk:k.length=lk) (hi:v.length=li) (hb:b.length=lb) (hn:ns.length=ln) (hns:∀x∈ns, -9223372036854775808≤x∧x≤9223372036854775807):
  Con C N.law16_CtxCut [askV tag n mode pad back lk k li v,.z lb (bv b),.z ln (iv ns)] [] (.ret (bool true)) []:=by
 obtain⟨s,q,xs,rs,h⟩:=ask_ciph tag n k
 have hs:=h.s_le
 have hM:=c_askmake (back:=back) h0 h1 h2 h3 hk hi h.hs hs.2
 have lK:=keyOf_len (tagOf tag) n k
 have lV:=ivL_len (akMode mode) s v
 have hkl:=kLen_ok (tagOf_ok tag) n
 have ok:=ak_ok mode pad s v
 have OP:=c_open16 (back:=back) h0 h1 h2 h3 hk hi h
 refine fd.law16_CtxCut.c ?_
 refine⟨[],_,_,_,_,c_known16,rfl,rfl,?_⟩
 refine spl_d (fun hl=> ?_) (fun hl=> ?_)
 ·exact⟨_,rfl,[],rfl,trivial⟩
 have hS:=c_size15 (mode:=mode) (pad:=pad) (back:=back) (lk:=lk) (li:=li) (k:=k) (iv:=v) h0 h1 h.hs (by omega) hb (by omega)
 have hle:=akLen_le n s lb
 have lm:=akMsg_len n s b
 rw[hb]at lm
 obtain⟨e,y,E0,E1,AL⟩:=all_once h (back:=back) ok (cutL_flat ns (akMsg n s b)) (by omega) (by rw[cutL_len];omega)
 have RS:=c_rshotQ h (back:=back) (msg:=akMsg n s b) (m:=akLen n s lb) (vk:=bv (keyOf (tagOf tag) n k)) (vi:=bv (ivL (akMode mode) s v)) rfl rfl rfl lK lV lm (by omega) ok
 have CU:=c_cut (b:=akMsg n s b) (ns:=ns) rfl hn (by omega) hns
 rw[lm]at CU
 generalize akMode mode=md at*
 generalize akPad mode pad=pd at*
 generalize akMsg n s b=msg at*
 generalize akLen n s lb=m at*
 generalize shP (cF (tagOf tag) (keyOf (tagOf tag) n k) false) (cF (tagOf tag) (keyOf (tagOf tag) n k) true) s md pd back (ivL md s v) msg=rr at*
 generalize keyOf (tagOf tag) n k=key at*
 generalize kLen (tagOf tag) n=lkk at*
 generalize ivL md s v=V0 at*
 refine⟨[i64 tag,i64 n,i64 mode,i64 pad,bool back,.z lk (bv k),.z li (bv v)],rfl,rfl,?_⟩
 by_cases hf:lk≤100∧li≤100
 ·refine⟨[],_,_,_,_,c_few_y hf,rfl,rfl,?_⟩
  refine⟨[i64 tag,i64 n,i64 mode,i64 pad,bool back,.z lk (bv k),.z li (bv v)],rfl,rfl,?_⟩
  refine⟨[],_,_,_,_,OP,rfl,rfl,?_⟩
  refine⟨[i64 tag,i64 n,i64 mode,i64 pad,bool back,.z lk (bv k),.z li (bv v)],rfl,rfl,?_⟩
  refine⟨[],_,_,_,_,hM,rfl,rfl,?_⟩
  refine⟨Nat.le_of_ble_eq_true rfl,?_⟩
  refine⟨[i64 tag,i64 n,i64 mode,i64 pad,bool back,.z lk (bv k),.z li (bv v)],rfl,rfl,?_⟩
  refine⟨[],_,_,_,_,hS,rfl,rfl,?_⟩
  refine⟨[i64 (tagOf tag),i64 md,i64 pd,bool back],rfl,rfl,?_⟩
  refine⟨[],_,_,_,_,RS,rfl,rfl,?_⟩
  refine⟨[],_,_,_,_,CU,rfl,rfl,?_⟩
  refine⟨[.d 28 0,.d 28 1,.d 28 2,.d 28 3],_,_,_,_,AL,rfl,rfl,?_⟩
  by_cases he:e=0
  ·subst he
   obtain rfl:=E0 rfl
   refine⟨by rw[bv_len],_,rfl,?_⟩
   refine⟨by rw[bv_len],_,rfl,?_⟩
   exact⟨_,rfl,[],congrArg bool (beq_self_eq_true _),trivial⟩
  ·obtain rfl:=E1 he
   refine spl_t (by simp) ?_
   refine spl_t (by simp[he]) ?_
   exact⟨_,rfl,[],congrArg bool (by simp[he]),trivial⟩
 ·refine⟨[],_,_,_,_,c_few_n hf,rfl,rfl,?_⟩
  exact⟨_,rfl,[],rfl,trivial⟩
end Go.Scr
