/-
  What the functions that this law alone reaches reckon, up to the law. It is no claim by itself; each contract bears its own conditions.
-/
import Derived.Test.YtdkledbmjmmliaaGreatDoorY4
set_option linter.unusedVariables false
set_option linter.unusedSimpArgs false
set_option maxRecDepth 100000
namespace Go.Scr
open Go.Proofs
open Nat renaming le_of_ble_eq_true → Za
abbrev N.law15_ShotBack:=4
theorem fd.law15_ShotBack:FnD C 4 [] Tryz.f4 124:=fk Tryz.func4 (by kernel_rfl)
abbrev con.law15_ShotBack:=@FnD.c _ _ _ _ _ fd.law15_ShotBack
theorem keyOf_len (t n k):(keyOf t n k).length=kLen t n:=bytesN_len _ _
theorem kLen_mem {t n:Int} (ht:okTag t):((kLen t n:Nat):Int)∈cLens t:=by
 have hp:=cLens_pos ht
 have h1:=Int.emod_nonneg n (b:=((cLens t).length:Int)) (by omega)
 have h2:=Int.emod_lt_of_pos n (b:=((cLens t).length:Int)) (by omega)
 have hi:(n%((cLens t).length:Int)).toNat<(cLens t).length:=by omega
 have hx:(cLens t).getD (n%((cLens t).length:Int)).toNat 0∈cLens t:=by
  rw[List.getD_eq_getElem?_getD,List.getElem?_eq_getElem hi];exact List.getElem_mem hi
 have h0:0≤(cLens t).getD (n%((cLens t).length:Int)).toNat 0:=by
  have:∀x∈cLens t,0≤x:=by
   rcases ht with rfl|rfl|rfl|rfl|rfl|rfl|rfl|rfl<;>decide
  exact this _ hx
 rw[kLen,Int.toNat_of_nonneg h0];exact hx
theorem ciph_law (tag n:Int) (k:List UInt8):∃s q xs rs,Ciph (tagOf tag) (keyOf (tagOf tag) n k) s q xs rs:=ciph_ok (tagOf_ok _) (by rw[keyOf_len];exact kLen_mem (tagOf_ok _))
theorem ivL_len (mode s b):(ivL mode s b).length=ivN mode s:=by
 unfold ivL ivN
 split
 ·rfl
 ·exact bytesN_len _ _
theorem akMode_in (mode:Int):1≤akMode mode∧akMode mode≤9:=by unfold akMode;omega
theorem akPad_in (mode pad:Int):(1≤akPad mode pad∧akPad mode pad≤4)∧(akPad mode pad=4∨akMode mode≤2):=by
 unfold akPad
 split
 ·omega
 ·exact⟨by decide,.inl rfl⟩
theorem ak_ok (mode pad:Int) (s:Nat) (iv:List UInt8):shOk s (akMode mode) (akPad mode pad) (ivL (akMode mode) s iv):=
 ⟨akMode_in _,(akPad_in mode pad).1,(akPad_in mode pad).2,ivL_len _ _ _⟩
theorem akLen_le (n:Int) (s l:Nat):akLen n s l≤l:=by
 unfold akLen
 split
 ·exact Nat.div_mul_le_self _ _
 ·exact Nat.le_refl _
theorem akMsg_len (n:Int) (s:Nat) (m:List UInt8):(akMsg n s m).length=akLen n s m.length:=by
 rw[List.length_take];have:=akLen_le n s m.length;omega
theorem ask_ciph (tag n:Int) (k:List UInt8):∃s q xs rs,Ciph (tagOf tag) (keyOf (tagOf tag) n k) s q xs rs:=ciph_law tag n k
theorem tmod_nat (m s:Nat):(m:Int).tmod (s:Int)=((m%s:Nat):Int):=by rw[Int.tmod_eq_emod_of_nonneg (by omega)];rfl
theorem div_mul_wrap2 {l s:Nat} (hs:0<s) (hs2:s≤16) (hl:l≤1000):IntKind.i64.wrap (IntKind.i64.wrap (IntKind.i64.wrap ((l:Int).tdiv s)*s)+s)=((l/s*s+s:Nat):Int):=by
 have h2:=Nat.div_mul_le_self l s
 rw[div_mul_wrap hs hl,IntWalk.i64_in _ (by omega)];rfl
theorem c_sbk {tag n mode pad:Int} {back:Bool} {lk li lb:Nat} {k iv b:List UInt8} (h0:In64 tag) (h1:In64 n) (h2:In64 mode) (h3:In64 pad) (hk:k.length=lk) (hi:iv.length=li) (hb:b.length=lb):
  Con C N.law15_ShotBack [askV tag n mode pad back lk k li iv,.z lb (bv b)] [] (.ret (bool true)) []:=by
 obtain⟨s,q,xs,rs,h⟩:=ask_ciph tag n k
 have hs:=h.s_le
 have hM:=c_askmake (back:=back) h0 h1 h2 h3 hk hi h.hs hs.2
 have hR:=h.hs▸c_r11_size h.ht
 have ok:=ak_ok mode pad s iv
 have lK:=keyOf_len (tagOf tag) n k
 have lV:=ivL_len (akMode mode) s iv
 have hmd:=akMode_in mode
 have hpd:=akPad_in mode pad
 refine con.law15_ShotBack ?_
 refine⟨[],_,_,_,_,c_known15,rfl,rfl,?_⟩
 refine spl_d (fun hl=> ?_) (fun hl=> ?_)
 ·exact⟨_,rfl,[],rfl,trivial⟩
 have hS:=c_size15 (mode:=mode) (pad:=pad) (back:=back) (lk:=lk) (li:=li) (k:=k) (iv:=iv) h0 h1 h.hs (by omega) hb (by omega)
 have hle:=akLen_le n s lb
 have lm:=akMsg_len n s b
 rw[hb]at lm
 generalize akMode mode=md at*
 generalize akPad mode pad=pd at*
 generalize akMsg n s b=msg at*
 generalize akLen n s lb=m at*
 refine⟨[i64 tag,i64 n,i64 mode,i64 pad,bool back,.z lk (bv k),.z li (bv iv)],rfl,rfl,?_⟩
 by_cases hf:lk≤100∧li≤100
 ·refine⟨[],_,_,_,_,c_few_y hf,rfl,rfl,?_⟩
  refine⟨[i64 tag,i64 n,i64 mode,i64 pad,bool back,.z lk (bv k),.z li (bv iv)],rfl,rfl,?_⟩
  refine⟨[],_,_,_,_,hM,rfl,rfl,?_⟩
  refine⟨Za rfl,?_⟩
  refine⟨Za rfl,?_⟩
  refine⟨_,rfl,?_⟩
  refine⟨[],_,_,_,_,hR,rfl,rfl,?_⟩
  refine⟨[i64 tag,i64 n,i64 mode,i64 pad,bool back,.z lk (bv k),.z li (bv iv)],rfl,rfl,?_⟩
  refine⟨[],_,_,_,_,hS,rfl,rfl,?_⟩
  refine⟨[i64 (tagOf tag),i64 md,i64 pd,bool false],rfl,rfl,?_⟩
  by_cases hbad:pd=4∧md≤2∧m%s≠0∨7≤md∧m<s
  ·refine⟨[],_,_,_,_,shot_not h lK lV lm (by omega) ok hbad,rfl,rfl,?_⟩
   refine⟨_,rfl,?_⟩
   refine spl_eq (fun h4=> ?_) (fun h4=>absurd h4 (by omega))
   refine⟨_,rfl,?_⟩
   refine spl_d (fun hm=> ?_) (fun hm=> ?_)
   ·refine⟨by omega,?_⟩
    refine spl_ne (fun hz=> ?_) (fun hz=>absurd (tmod_nat m s▸hz) (by omega))
    exact⟨_,rfl,[],rfl,trivial⟩
   ·refine⟨_,rfl,?_⟩
    refine spl_d (fun h7=> ?_) (fun h7=>absurd h7 (by omega))
    refine spl_t (by simp;omega) ?_
    exact⟨_,rfl,[],rfl,trivial⟩
  ·obtain⟨l,y,ly,el,_,P,Q⟩:=shot_there h lK lV lm (by omega) ok hbad
   refine⟨[],_,_,_,_,P,rfl,rfl,?_⟩
   refine⟨_,rfl,?_⟩
   refine spl_eq (fun h4=> ?_) (fun h4=> ?_)
   ·rw[if_pos h4]at el
    refine⟨_,rfl,?_⟩
    refine spl_d (fun hm=> ?_) (fun hm=> ?_)
    ·refine⟨by omega,?_⟩
     refine spl_ne (fun hz=>absurd (tmod_nat m s▸hz) (by omega)) (fun hz=> ?_)
     refine⟨_,rfl,?_⟩
     refine spl_d (fun h7=>absurd h7 (by omega)) (fun h7=> ?_)
     refine⟨_,rfl,?_⟩
     refine spl_ne (fun h4'=>absurd h4 h4') (fun h4'=> ?_)
     refine⟨Za rfl,?_⟩
     refine⟨[i64 (tagOf tag),i64 md,i64 pd,bool true],rfl,rfl,?_⟩
     refine⟨[],_,_,_,_,Q,rfl,rfl,?_⟩
     refine spl_eq (fun _=> ?_) (fun hh=>absurd (by rw[el]) hh)
     refine⟨by rw[bv_len,lm],_,rfl,?_⟩
     refine⟨by rw[bv_len,lm],_,rfl,?_⟩
     exact⟨_,rfl,[],congrArg bool (beq_self_eq_true _),trivial⟩
    ·refine⟨_,rfl,?_⟩
     refine spl_d (fun h7=> ?_) (fun h7=> ?_)
     ·refine spl_f (by simp;omega) ?_
      refine⟨_,rfl,?_⟩
      refine spl_ne (fun h4'=>absurd h4 h4') (fun h4'=> ?_)
      refine⟨Za rfl,?_⟩
      refine⟨[i64 (tagOf tag),i64 md,i64 pd,bool true],rfl,rfl,?_⟩
      refine⟨[],_,_,_,_,Q,rfl,rfl,?_⟩
      refine spl_eq (fun _=> ?_) (fun hh=>absurd (by rw[el]) hh)
      refine⟨by rw[bv_len,lm],_,rfl,?_⟩
      refine⟨by rw[bv_len,lm],_,rfl,?_⟩
      exact⟨_,rfl,[],congrArg bool (beq_self_eq_true _),trivial⟩
     ·refine⟨_,rfl,?_⟩
      refine spl_ne (fun h4'=>absurd h4 h4') (fun h4'=> ?_)
      refine⟨Za rfl,?_⟩
      refine⟨[i64 (tagOf tag),i64 md,i64 pd,bool true],rfl,rfl,?_⟩
      refine⟨[],_,_,_,_,Q,rfl,rfl,?_⟩
      refine spl_eq (fun _=> ?_) (fun hh=>absurd (by rw[el]) hh)
      refine⟨by rw[bv_len,lm],_,rfl,?_⟩
      refine⟨by rw[bv_len,lm],_,rfl,?_⟩
      exact⟨_,rfl,[],congrArg bool (beq_self_eq_true _),trivial⟩
   ·rw[if_neg h4]at el
    refine⟨_,rfl,?_⟩
    refine spl_d (fun h7=>absurd h7 (by omega)) (fun h7=> ?_)
    refine⟨_,rfl,?_⟩
    refine spl_ne (fun h4'=> ?_) (fun h4'=>absurd h4' h4)
    refine⟨by omega,?_⟩
    refine⟨Za rfl,?_⟩
    refine⟨[i64 (tagOf tag),i64 md,i64 pd,bool true],rfl,rfl,?_⟩
    refine⟨[],_,_,_,_,Q,rfl,rfl,?_⟩
    refine spl_eq (fun _=> ?_) (fun hh=>absurd (by rw[div_mul_wrap2 (by omega) hs.2 (by omega),el]) hh)
    refine⟨by rw[bv_len,lm],_,rfl,?_⟩
    refine⟨by rw[bv_len,lm],_,rfl,?_⟩
    exact⟨_,rfl,[],congrArg bool (beq_self_eq_true _),trivial⟩
 ·refine⟨[],_,_,_,_,c_few_n hf,rfl,rfl,?_⟩
  exact⟨_,rfl,[],rfl,trivial⟩
end Go.Scr
