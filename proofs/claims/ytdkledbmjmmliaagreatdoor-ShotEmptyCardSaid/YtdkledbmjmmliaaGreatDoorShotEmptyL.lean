/-
  What the functions that this law alone reaches reckon, up to the law. It is no claim by itself; each contract bears its own conditions.
-/
import Derived.Test.YtdkledbmjmmliaaGreatDoorY4
set_option linter.unusedVariables false
set_option linter.unusedSimpArgs false
set_option maxRecDepth 100000
namespace Go.Scr
open Go.Proofs
abbrev N.law15_ShotEmpty:=9
theorem fd.law15_ShotEmpty:FnD C 9 [] Tryz.f9 67:=fk Tryz.func9 (by kernel_rfl)
abbrev con.law15_ShotEmpty:=@FnD.c _ _ _ _ _ fd.law15_ShotEmpty
theorem keyOf_len (t n k):(keyOf t n k).length=kLen t n:=bytesN_len _ _
theorem kLen_mem {t n:Int} (ht:okTag t):((kLen t n:Nat):Int)∈cLens t:=by
 have hp:=cLens_pos ht
 have h1:=Int.emod_nonneg n (b:=((cLens t).length:Int)) (by omega)
 have h2:=Int.emod_lt_of_pos n (b:=((cLens t).length:Int)) (by omega)
 have hi:(n%((cLens t).length:Int)).toNat<(cLens t).length:=by omega
 have hx:(cLens t).getD (n%((cLens t).length:Int)).toNat 0∈cLens t:=by
  rw[List.getD_eq_getElem?_getD,List.getElem?_eq_getElem hi];exact List.getElem_mem hi
 have h0:0≤(cLens t).getD (n%((cLens t).length:Int)).toNat 0:=by
  have:∀x∈cLens t,0≤x:=by
   rcases ht with rfl|rfl|rfl|rfl|rfl|rfl|rfl|rfl<;>decide
  exact this _ hx
 rw[kLen,Int.toNat_of_nonneg h0];exact hx
theorem ciph_law (tag n:Int) (k:List UInt8):∃s q xs rs,Ciph (tagOf tag) (keyOf (tagOf tag) n k) s q xs rs:=ciph_ok (tagOf_ok _) (by rw[keyOf_len];exact kLen_mem (tagOf_ok _))
theorem ivL_len (mode s b):(ivL mode s b).length=ivN mode s:=by
 unfold ivL ivN
 split
 ·rfl
 ·exact bytesN_len _ _
theorem akMode_in (mode:Int):1≤akMode mode∧akMode mode≤9:=by unfold akMode;omega
theorem akPad_in (mode pad:Int):(1≤akPad mode pad∧akPad mode pad≤4)∧(akPad mode pad=4∨akMode mode≤2):=by
 unfold akPad
 split
 ·omega
 ·exact⟨by decide,.inl rfl⟩
theorem ak_ok (mode pad:Int) (s:Nat) (iv:List UInt8):shOk s (akMode mode) (akPad mode pad) (ivL (akMode mode) s iv):=
 ⟨akMode_in _,(akPad_in mode pad).1,(akPad_in mode pad).2,ivL_len _ _ _⟩
theorem shP_empty {E D:List UInt8→List UInt8} {n:Nat} {mode pad:Int} {back:Bool} {iv:List UInt8} (h:CI E D n) (hn:0<n) (ok:shOk n mode pad iv):
  ((7≤mode∨pad≠4∧back=true)∧shP E D n mode pad back iv []=([],7))∨(pad≠4∧back=false∧∃x:List UInt8,x.length=n∧shP E D n mode pad back iv []=(x,0))∨(mode<7∧pad=4∧shP E D n mode pad back iv []=([],0)):=by
 have hl:=shP_len (m:=[]) h hn ok
 obtain⟨o1,o2,o3,o4⟩:=ok
 by_cases h7:7≤mode
 ·refine .inl ⟨.inl h7,?_⟩
  unfold shP;rw[if_pos h7]
  unfold shSt;rw[if_pos (by exact hn)]
 ·by_cases h4:pad=4
  ·refine .inr (.inr ⟨by omega,h4,?_⟩)
   unfold shP;rw[if_neg h7,if_pos h4,if_pos (by exact Nat.zero_mod _)]
   rw[moStep_nil]
  ·cases back
   ·refine .inr (.inl ⟨h4,rfl,?_⟩)
    obtain⟨l1,l2⟩:=hl (by unfold shFine;omega)
    rw[if_neg h4]at l2
    exact⟨_,by rw[l2];simp,Prod.ext rfl l1⟩
   ·refine .inl ⟨.inr ⟨h4,rfl⟩,?_⟩
    unfold shP;rw[if_neg h7,if_neg h4,if_neg (by decide),if_pos (.inl rfl)]
theorem ask_ciph (tag n:Int) (k:List UInt8):∃s q xs rs,Ciph (tagOf tag) (keyOf (tagOf tag) n k) s q xs rs:=ciph_law tag n k
theorem c_sem {tag n mode pad:Int} {back:Bool} {lk li:Nat} {k iv:List UInt8} (h0:In64 tag) (h1:In64 n) (h2:In64 mode) (h3:In64 pad) (hk:k.length=lk) (hi:iv.length=li):
  Con C N.law15_ShotEmpty [askV tag n mode pad back lk k li iv] [] (.ret (bool true)) []:=by
 obtain⟨s,q,xs,rs,h⟩:=ask_ciph tag n k
 have hs:=h.s_le
 have hM:=c_askmake (back:=back) h0 h1 h2 h3 hk hi h.hs hs.2
 have hR:=h.hs▸c_r11_size h.ht
 have ok:=ak_ok mode pad s iv
 have lK:=keyOf_len (tagOf tag) n k
 have lV:=ivL_len (akMode mode) s iv
 have hmd:=akMode_in mode
 have hpd:=akPad_in mode pad
 generalize akMode mode=md at*
 generalize akPad mode pad=pd at*
 have P0:=fun(b:Bool)=>c_shotP h (mode:=md) (pad:=pd) (back:=b) (vk:=bv (keyOf (tagOf tag) n k)) (vi:=bv (ivL md s iv)) (vm:=[]) (msg:=[]) (m:=0) rfl rfl rfl lK lV rfl (by omega) ok
 have P1:Con C N.shot_Shot [cfgV (tagOf tag) md pd back,.z (kLen (tagOf tag) n) (bv (keyOf (tagOf tag) n k)),.z (ivN md s) (bv (ivL md s iv)),nilv] [] (.ret (shV (shP (cF (tagOf tag) (keyOf (tagOf tag) n k) false) (cF (tagOf tag) (keyOf (tagOf tag) n k) true) s md pd back (ivL md s iv) []))) []:=
  Con.args (P0 back) (.cons (.refl _) (.cons (.refl _) (.cons (.refl _) (.cons .nl .nil))))
 have hE:=shP_empty (E:=cF (tagOf tag) (keyOf (tagOf tag) n k) false) (D:=cF (tagOf tag) (keyOf (tagOf tag) n k) true) (back:=back) h.ci (by omega) ok
 refine con.law15_ShotEmpty ?_
 refine⟨[],_,_,_,_,c_known15,rfl,rfl,?_⟩
 refine⟨[i64 tag,i64 n,i64 mode,i64 pad,bool back,.z lk (bv k),.z li (bv iv)],rfl,rfl,?_⟩
 by_cases hf:lk≤100∧li≤100
 ·refine⟨[],_,_,_,_,c_few_y hf,rfl,rfl,?_⟩
  refine⟨[i64 tag,i64 n,i64 mode,i64 pad,bool back,.z lk (bv k),.z li (bv iv)],rfl,rfl,?_⟩
  refine⟨[],_,_,_,_,hM,rfl,rfl,?_⟩
  refine⟨Nat.le_of_ble_eq_true rfl,?_⟩
  refine⟨[i64 (tagOf tag),i64 md,i64 pd,bool back],rfl,rfl,?_⟩
  rcases hE with ⟨c1,e1⟩|⟨c1,c2,x,lx,e1⟩|⟨c1,c2,e1⟩
  ·rw[e1]at P1
   refine⟨[],_,_,_,_,P1,rfl,rfl,?_⟩
   refine⟨_,rfl,?_⟩
   refine spl_d (fun h7=> ?_) (fun h7=> ?_)
   ·exact⟨_,rfl,[],rfl,trivial⟩
   ·obtain⟨c2,rfl⟩:=c1.resolve_left h7
    refine⟨_,rfl,?_⟩
    refine spl_ne (fun h4=> ?_) (fun h4=>absurd h4 c2)
    refine⟨_,rfl,?_⟩
    exact⟨_,rfl,[],rfl,trivial⟩
  ·rw[e1]at P1
   subst lx
   refine⟨[],_,_,_,_,P1,rfl,rfl,?_⟩
   refine⟨_,rfl,?_⟩
   refine spl_d (fun h7=>absurd h7 (by omega)) (fun h7=> ?_)
   refine⟨_,rfl,?_⟩
   refine spl_ne (fun h4=> ?_) (fun h4=>absurd h4 c1)
   obtain rfl:=c2
   refine⟨_,rfl,?_⟩
   refine⟨_,rfl,?_⟩
   refine spl_ne (fun h4=> ?_) (fun h4=>absurd h4 c1)
   refine⟨_,rfl,?_⟩
   refine⟨[],_,_,_,_,hR,rfl,rfl,?_⟩
   exact⟨_,rfl,[],congrArg bool (decide_eq_true rfl),trivial⟩
  ·rw[e1]at P1
   refine⟨[],_,_,_,_,P1,rfl,rfl,?_⟩
   refine⟨_,rfl,?_⟩
   refine spl_d (fun h7=>absurd h7 (by omega)) (fun h7=> ?_)
   refine⟨_,rfl,?_⟩
   refine spl_ne (fun h4=>absurd c2 h4) (fun h4=> ?_)
   refine⟨_,rfl,?_⟩
   refine spl_ne (fun h4=>absurd c2 h4) (fun h4=> ?_)
   exact⟨_,rfl,[],rfl,trivial⟩
 ·refine⟨[],_,_,_,_,c_few_n hf,rfl,rfl,?_⟩
  exact⟨_,rfl,[],rfl,trivial⟩
end Go.Scr
