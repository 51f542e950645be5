/-
  What the functions that this law alone reaches reckon, up to the law. It is no claim by itself; each contract bears its own conditions.
-/
import Derived.Test.YtggojcedobgnaaaGreatDoorY3
set_option linter.unusedVariables false
set_option linter.unusedSimpArgs false
set_option maxRecDepth 100000
namespace Go.Scr
open Go.Proofs
open Nat renaming le_of_ble_eq_true → Za
abbrev N.law16_CtxBack:=6
theorem fd.law16_CtxBack:FnD C 6 [] Tryz.f6 83:=fk Tryz.func6 (by kernel_rfl)
abbrev con.law16_CtxBack:=@FnD.c _ _ _ _ _ fd.law16_CtxBack
theorem kLen_mem {t n:Int} (ht:okTag t):((kLen t n:Nat):Int)∈cLens t:=by
 have hp:=cLens_pos ht
 have h1:=Int.emod_nonneg n (b:=((cLens t).length:Int)) (by omega)
 have h2:=Int.emod_lt_of_pos n (b:=((cLens t).length:Int)) (by omega)
 have hi:(n%((cLens t).length:Int)).toNat<(cLens t).length:=by omega
 have hx:(cLens t).getD (n%((cLens t).length:Int)).toNat 0∈cLens t:=by
  rw[List.getD_eq_getElem?_getD,List.getElem?_eq_getElem hi];exact List.getElem_mem hi
 have h0:0≤(cLens t).getD (n%((cLens t).length:Int)).toNat 0:=by
  have:∀x∈cLens t,0≤x:=by
   rcases ht with rfl|rfl|rfl|rfl|rfl|rfl|rfl|rfl<;>decide
  exact this _ hx
 rw[kLen,Int.toNat_of_nonneg h0];exact hx
theorem ciph_law (tag n:Int) (k:List UInt8):∃s q xs rs,Ciph (tagOf tag) (keyOf (tagOf tag) n k) s q xs rs:=ciph_ok (tagOf_ok _) (by rw[keyOf_len];exact kLen_mem (tagOf_ok _))
theorem akLen_le (n:Int) (s l:Nat):akLen n s l≤l:=by
 unfold akLen
 split
 ·exact Nat.div_mul_le_self _ _
 ·exact Nat.le_refl _
theorem akMsg_len (n:Int) (s:Nat) (m:List UInt8):(akMsg n s m).length=akLen n s m.length:=by
 rw[List.length_take];have:=akLen_le n s m.length;omega
theorem ask_ciph (tag n:Int) (k:List UInt8):∃s q xs rs,Ciph (tagOf tag) (keyOf (tagOf tag) n k) s q xs rs:=ciph_law tag n k
theorem c_cxback {tag n mode pad:Int} {back:Bool} {lk li lb ln lm':Nat} {k v b:List UInt8} {ns ms:List Int} (h0:In64 tag) (h1:In64 n) (h2:In64 mode) (h3:In64 pad) (hk:k.length=lk) (hi:v.length=li) (hb:b.length=lb) (hn:ns.length=ln) (hns:∀x∈ns, -9223372036854775808≤x∧x≤9223372036854775807) (hm:ms.length=lm') (hms:∀x∈ms, -9223372036854775808≤x∧x≤9223372036854775807):
  Con C N.law16_CtxBack [askV tag n mode pad back lk k li v,.z lb (bv b),.z ln (iv ns),.z lm' (iv ms)] [] (.ret (bool true)) []:=by
 obtain⟨s,q,xs,rs,h⟩:=ask_ciph tag n k
 have hs:=h.s_le
 have lV:=ivL_len (akMode mode) s v
 have ok:=ak_ok mode pad s v
 have OP:=fun bk:Bool=>c_open16 (back:=bk) h0 h1 h2 h3 hk hi h
 refine con.law16_CtxBack ?_
 refine⟨[],_,_,_,_,c_known16,rfl,rfl,?_⟩
 refine spl_d (fun hl=> ?_) (fun hl=> ?_)
 ·exact⟨_,rfl,[],rfl,trivial⟩
 have hS:=c_size15 (mode:=mode) (pad:=pad) (back:=back) (lk:=lk) (li:=li) (k:=k) (iv:=v) h0 h1 h.hs (by omega) hb (by omega)
 have hle:=akLen_le n s lb
 have lm:=akMsg_len n s b
 rw[hb]at lm
 obtain⟨e,y,E0,E1,AL⟩:=all_once h (back:=false) ok (cutL_flat ns (akMsg n s b)) (by omega) (by rw[cutL_len];omega)
 have CU:=c_cut (b:=akMsg n s b) (ns:=ns) rfl hn (by omega) hns
 rw[lm]at CU
 have he7:e≠0→e=7:=fun he=>by
  have hE:=E1 he
  by_cases hf:shFine s (akMode mode) (akPad mode pad) (akMsg n s b)
  ·have:=(shP_len h.ci (by omega) ok hf).1
   rw[hE]at this
   exact absurd this he
  ·rw[shP_bad (by omega) ok rfl hf]at hE
   exact(congrArg Prod.snd hE).symm
 have hy:e=0→y.length≤1000∧∃AL2:Con C N.law16_All [.p (.k 0) 0,.zz 1 (cutL ms y).length ((cutL ms y).map zc)] [cxO true (tagOf tag) (akMode mode) (akPad mode pad) true q xs (ivL (akMode mode) s v) .n (ivL (akMode mode) s v),moX (cipV (tagOf tag) q xs) (cxMd (akMode mode)) true ⟨ivL (akMode mode) s v,[],[]⟩ 2,.dead,.dead]
    (.ret (.t [.z (akMsg n s b).length (bv (akMsg n s b)),i64 0,bool true])) [.dead,.dead,.dead,.dead],True:=fun he=>by
  have hE:=E0 he
  have hf:shFine s (akMode mode) (akPad mode pad) (akMsg n s b):=Classical.byContradiction fun hf=>by
   rw[shP_bad (by omega) ok rfl hf]at hE
   have h70:(7:Int)=0:=congrArg Prod.snd hE
   exact absurd h70 (by decide)
  have hl:=(shP_len h.ci (by omega) ok hf).2
  have hinv:=shP_inv h.ci (by omega) hs.2 ok hf
  rw[hE]at hl hinv
  have hy:y.length≤1000:=by
   have hd:=Nat.div_mul_le_self (akMsg n s b).length s
   have hl':y.length=if akPad mode pad=4 then (akMsg n s b).length else (akMsg n s b).length/s*s+s:=hl
   rw[hl'];split<;>omega
  refine⟨hy,?_,trivial⟩
  obtain⟨e',y',F0,F1,AL2⟩:=all_once h (back:=true) ok (cutL_flat ms y) (by omega) (by rw[cutL_len];omega)
  have he':e'=0:=Classical.byContradiction fun hh=>by
   have:=F1 hh
   rw[hinv]at this
   exact hh (congrArg Prod.snd this).symm
  subst he'
  have hyb:=F0 rfl
  rw[hinv]at hyb
  obtain rfl:akMsg n s b=y':=congrArg Prod.fst hyb
  exact AL2
 generalize akMode mode=md at*
 generalize akPad mode pad=pd at*
 generalize akMsg n s b=msg at*
 generalize akLen n s lb=m at*
 generalize ivL md s v=V0 at*
 refine⟨[i64 tag,i64 n,i64 mode,i64 pad,bool back,.z lk (bv k),.z li (bv v)],rfl,rfl,?_⟩
 by_cases hf:lk≤100∧li≤100
 ·refine⟨[],_,_,_,_,c_few_y hf,rfl,rfl,?_⟩
  refine⟨[i64 tag,i64 n,i64 mode,i64 pad,bool back,.z lk (bv k),.z li (bv v)],rfl,rfl,?_⟩
  refine⟨[],_,_,_,_,hS,rfl,rfl,?_⟩
  refine⟨Za rfl,?_⟩
  refine⟨[i64 tag,i64 n,i64 mode,i64 pad,bool false,.z lk (bv k),.z li (bv v)],rfl,rfl,?_⟩
  refine⟨[],_,_,_,_,OP false,rfl,rfl,?_⟩
  refine⟨Za rfl,?_⟩
  refine⟨[i64 tag,i64 n,i64 mode,i64 pad,bool true,.z lk (bv k),.z li (bv v)],rfl,rfl,?_⟩
  refine⟨[],_,_,_,_,OP true,rfl,rfl,?_⟩
  refine⟨[],_,_,_,_,CU,rfl,rfl,?_⟩
  refine⟨[.d 33 0,.d 33 1,.d 33 2,.d 33 3],_,_,_,_,AL,rfl,rfl,?_⟩
  by_cases he:e=0
  ·obtain⟨hy1,AL2,_⟩:=hy he
   have CU2:=c_cut (b:=y) (ns:=ms) rfl hm hy1 hms
   subst he
   refine⟨[],_,_,_,_,CU2,rfl,rfl,?_⟩
   refine⟨[.d 36 0,.d 36 1,.d 36 2,.d 36 3],_,_,_,_,AL2,rfl,rfl,?_⟩
   refine⟨by rw[bv_len],_,rfl,?_⟩
   refine⟨by rw[bv_len,lm],_,rfl,?_⟩
   exact⟨_,rfl,[],congrArg bool (beq_self_eq_true _),trivial⟩
  ·obtain rfl:=he7 he
   exact⟨_,rfl,[],rfl,trivial⟩
 ·refine⟨[],_,_,_,_,c_few_n hf,rfl,rfl,?_⟩
  exact⟨_,rfl,[],rfl,trivial⟩
end Go.Scr
