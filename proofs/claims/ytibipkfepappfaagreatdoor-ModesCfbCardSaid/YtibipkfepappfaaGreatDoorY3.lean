/-
  What the functions of the given program reckon, each by a contract, up to the law. It is no claim by itself; each contract bears its own conditions.
-/
import Derived.Test.YtibipkfepappfaaGreatDoorY2
set_option linter.unusedVariables false
set_option linter.unusedSimpArgs false
set_option maxRecDepth 100000
namespace Go.Scr
open Go.Proofs
theorem c_step {t key s k xs rs} (h : Ciph t key s k xs rs) {mode : Int} {back : Bool} {st : MS} {m : Nat} {vb : List Value} {b : List UInt8} (hvb : vb = bv b) (hb : b.length = m) (hbm : m ≤ 1000000) (K : MK s mode st) (hg : m % moGrain s mode = 0) (hne : 0 < m ∨ st.row = []) :
  Con C N.modes_Mode_Step [.p (.k 0) 0, .z m vb] [moX (cipV t k xs) mode back st 1, gnB st.row st.gone] (.ret (.t [.z m (bv (moStep (cF t key false) (cF t key true) s mode back st b).1), i64 0])) [moX (cipV t k xs) mode back (moStep (cF t key false) (cF t key true) s mode back st b).2 2, .dead, gnB (moStep (cF t key false) (cF t key true) s mode back st b).2.row (moStep (cF t key false) (cF t key true) s mode back st b).2.gone] := by
 by_cases hm : mode = 1 ∨ mode = 2
 ·have hr := K.ok.blk hm
  have hc := K.ok.ch
  obtain ⟨ch, row, g⟩ := st
  dsimp only at hr hc
  subst hr
  have e : moStep (cF t key false) (cF t key true) s mode back ⟨ch, [], g⟩ b = ((moBlks (cF t key false) (cF t key true) mode back s b ch (m / s)).1, ⟨(moBlks (cF t key false) (cF t key true) mode back s b ch (m / s)).2, [], g⟩) := by
   unfold moStep
   rw [if_pos hm, hb]
  have hg' : m % s = 0 := by unfold moGrain at hg; rwa [if_pos hm] at hg
  have hdm := Nat.div_add_mod m s
  have hl := moBlks_chlen (back := back) h.ci (b := b) (c := ch) (i := m / s) (mode := mode) (by omega) (by omega)
  have HB := c_step_blk h (back := back) hvb hb hbm (ch := ch) (c := ch.length) (mode := mode) (by omega) rfl hg'
  rw [e]
  show Con C N.modes_Mode_Step [.p (.k 0) 0, .z m vb] [.mx [cipV t k xs, i64 mode, bool back, .z ch.length (bv ch), .z 0 [], .u], .dead] _ [.mx [cipV t k xs, i64 mode, bool back, .z (moBlks (cF t key false) (cF t key true) mode back s b ch (m / s)).2.length (bv (moBlks (cF t key false) (cF t key true) mode back s b ch (m / s)).2), .z 0 [], .u], .dead, .dead]
  rw [hl]
  exact HB
 ·have e : moStep (cF t key false) (cF t key true) s mode back st b = moMany (cF t key false) mode back st b := by
   unfold moStep
   rw [if_neg hm]
  rw [e]
  exact c_step_byte h hvb hb hbm (by have := K.ok.m; omega) K hne
theorem drop_getD0 {R : List UInt8} {u : Nat} : (R.drop u).getD 0 0 = R.getD u 0 := by simp [List.getD_eq_getElem?_getD]
theorem moOne3 {E : List UInt8 → List UInt8} {back : Bool} {ch g : List UInt8} {p : UInt8} : moOne E 3 back ⟨ch, [], g⟩ p = (p ^^^ (E ch).getD 0 0, ⟨ch.drop 1 ++ [moIn back p (p ^^^ (E ch).getD 0 0)], [], [] ++ [moIn back p (p ^^^ (E ch).getD 0 0)]⟩) := by
 show moByt 3 back ⟨ch, E ch, []⟩ p = _
 exact moByt3
theorem c_grainA {t key s k xs rs} (h : Ciph t key s k xs rs) {mode : Int} {back : Bool} {st : MS} (K : MK s mode st) :
  Con C N.modes_Mode_Grain [.p (.k 0) 0] [moX (cipV t k xs) mode back st 1, gnB st.row st.gone] (.ret (i64 (moGrain s mode))) [moX (cipV t k xs) mode back st 1, gnB st.row st.gone] := by
 by_cases hm : mode = 1 ∨ mode = 2
 ·have hr := K.ok.blk hm
  obtain ⟨ch, row, g⟩ := st
  dsimp only at hr
  subst hr
  have e : moGrain s mode = s := by unfold moGrain; rw [if_pos hm]
  rw [e]
  refine con.modes_Mode_Grain ?_
  refine ⟨_, rfl, ?_⟩
  rcases hm with rfl | rfl
  all_goals
   refine ⟨_, rfl, ?_⟩
   refine ⟨[], _, _, _, _, h.size, rfl, rfl, ?_⟩
   exact ⟨_, rfl, [.k 0, .k 1], rfl, ⟨_, rfl, rfl⟩, ⟨_, rfl, rfl⟩, trivial⟩
 ·have e : moGrain s mode = 1 := by unfold moGrain; rw [if_neg hm]
  rw [e]
  exact c_grain1 h (by have := K.ok.m; omega)
theorem c_w12 {a n : Int} (hn : 0 < n) (hn2 : n ≤ 4611686018427387904) (ha : -9223372036854775808 ≤ a ∧ a ≤ 9223372036854775807) : Con C N.law12_within [i64 a, i64 n] [] (.ret (i64 (a % n))) [] := by
 refine con.law12_within ?_
 have h1 : -n < a.tmod n := Int.lt_tmod_of_pos a hn
 have h2 : a.tmod n < n := Int.tmod_lt_of_pos a hn
 refine ⟨by omega, ?_⟩
 refine spl_d (fun h => ?_) (fun h => ?_)
 ·refine ⟨_, rfl, [], congrArg (vi .i64) ?_, trivial⟩
  rw [IntWalk.i64_in _ (by omega)]
  rw [← rest_eq a n hn, Int.tmod_eq_emod_of_nonneg (a := a.tmod n + n) (by omega), Int.emod_eq_of_lt (by omega) (by omega)]
 ·refine ⟨_, rfl, [], congrArg (vi .i64) ?_, trivial⟩
  rw [← rest_eq a n hn, Int.tmod_eq_emod_of_nonneg (a := a.tmod n + n) (by omega), Int.add_emod_right, Int.emod_eq_of_lt (by omega) (by omega)]
def ivL (mode : Int) (s : Nat) (b : List UInt8) : List UInt8 := if mode = 1 then [] else bytesN s b
def ivN (mode : Int) (s : Nat) : Nat := if mode = 1 then 0 else s
theorem ivL_len (mode s b) : (ivL mode s b).length = ivN mode s := by
 unfold ivL ivN
 split
 ·rfl
 ·exact bytesN_len _ _
theorem c_iv {mode : Int} {s m : Nat} {vb : List Value} {b : List UInt8} (hv : vb = bv b) (hb : b.length = m) (hs : s ≤ 1000) : Con C N.law12_IV [i64 mode, i64 s, .z m vb] [] (.ret (.z (ivN mode s) (bv (ivL mode s b)))) [] := by
 unfold ivL ivN
 by_cases h1 : mode = 1
 ·rw [if_pos h1, if_pos h1]
  refine fd.law12_IV.w ?_
  refine spl_eq (fun _ => ?_) (fun h => absurd h1 h)
  exact ⟨.ret nilv, [], ⟨_, rfl, [], rfl, trivial⟩, .ret .nl, .nil⟩
 ·rw [if_neg h1, if_neg h1]
  refine con.law12_IV ?_
  refine spl_eq (fun h => absurd h h1) (fun _ => ?_)
  refine ⟨[], _, _, _, _, c_bytes hv hb (by omega), rfl, rfl, ?_⟩
  exact ⟨_, rfl, [], congrArg (V.z s) (bv_all (bytesN_len _ _)), trivial⟩
theorem c_law12_known : Con C N.law12_known [] [] (.ret (bool true)) [] := by
 obtain ⟨k, xs, rs, h⟩ := ciph_xtea (key := List.replicate 16 0) rfl
 obtain ⟨z, hz⟩ : ∃ z : List UInt8, z = List.replicate 8 0 := ⟨_, rfl⟩
 have lz : z.length = 8 := by rw [hz]; rfl
 have K : MK 8 5 ⟨z, [], []⟩ := MK.new (by decide) (.inr lz)
 refine con.law12_known ?_
 refine ⟨by decide, by decide, by decide, ?_⟩
 refine ⟨[], _, _, _, _, h.new' (n := 16) rfl rfl, rfl, rfl, ?_⟩
 refine ⟨by decide, by decide, by decide, ?_⟩
 refine ⟨[], _, _, _, _, c_new_m h (mode := 5) (back := false) (i := 1) (iv := z) (vi := bv z) rfl lz (by decide) rfl, ?_, rfl, ?_⟩
 ·rw [hz]; rfl
 have G := c_grainA h (back := false) K
 have S1 := c_step_byte h (back := false) (st := ⟨z, [], []⟩) (m := 0) (vb := []) (b := []) rfl rfl (by decide) (by decide) K (.inr rfl)
 have S2 := c_step_byte h (back := false) (st := ⟨z, [], []⟩) (m := 3) (vb := bv [1, 2, 3]) (b := [1, 2, 3]) rfl rfl (by decide) (by decide) K (.inr rfl)
 refine ⟨[.d 19 0, .d 19 1], _, _, _, _, G, rfl, rfl, ?_⟩
 refine ⟨[.d 19 0, .d 19 1], _, _, _, _, Con.args S1 (ys0 := [.p (.k 0) 0, nilv]) (.cons (.refl _) (.cons .nl .nil)), rfl, rfl, ?_⟩
 refine ⟨[.d 19 0, .d 19 2], _, _, _, _, S2, rfl, rfl, ?_⟩
 exact ⟨_, rfl, [], rfl, trivial⟩
theorem i64_quo {a g : Nat} (ha : a ≤ 1000000) : IntKind.i64.wrap ((a : Int).tdiv (g : Int)) = ((a / g : Nat) : Int) := by
 have : ((a : Int).tdiv (g : Int)) = ((a / g : Nat) : Int) := by rw [Int.tdiv_eq_ediv_of_nonneg (by omega)]; rfl
 have h2 := Nat.div_le_self a g
 rw [this]
 generalize a / g = z at *
 rw [IntWalk.i64_in _ (by omega)]
theorem i64_quomul {a g : Nat} (ha : a ≤ 1000000) : IntKind.i64.wrap (IntKind.i64.wrap ((a : Int).tdiv (g : Int)) * (g : Int)) = ((a / g * g : Nat) : Int) := by
 have h2 := Nat.div_mul_le_self a g
 have : ((a / g : Nat) : Int) * (g : Int) = ((a / g * g : Nat) : Int) := by rw [Int.natCast_mul]
 rw [i64_quo ha, this]
 generalize a / g * g = z at *
 rw [IntWalk.i64_in _ (by omega)]
theorem moStep_nil {E D : List UInt8 → List UInt8} {n : Nat} {mode : Int} {back : Bool} {s : MS} : moStep E D n mode back s [] = ([], s) := by
 unfold moStep
 by_cases hm : mode = 1 ∨ mode = 2
 ·rw [if_pos hm]
  show ((moBlks E D mode back n [] s.ch (0 / n)).1, (⟨(moBlks E D mode back n [] s.ch (0 / n)).2, s.row, s.gone⟩ : MS)) = _
  rw [Nat.zero_div]; rfl
 ·rw [if_neg hm]; rfl
theorem step_one {t key s k xs rs} (h : Ciph t key s k xs rs) {mode : Int} (back : Bool) {st : MS} {m : Nat} {p : List UInt8} (hp : p.length = m) (hbm : m ≤ 1000000) (K : MK s mode st) (hg : m % moGrain s mode = 0) :
  ∃ (o : List UInt8) (st1 : MS), moStep (cF t key false) (cF t key true) s mode back st p = (o, st1) ∧ o.length = m ∧ MK s mode st1 ∧
   ((st1 = st ∧ Con C N.modes_Mode_Step [.p (.k 0) 0, .z m (bv p)] [moX (cipV t k xs) mode back st 1, gnB st.row st.gone] (.ret (.t [.z m (bv o), i64 0])) [moX (cipV t k xs) mode back st 1, gnB st.row st.gone]) ∨
    Con C N.modes_Mode_Step [.p (.k 0) 0, .z m (bv p)] [moX (cipV t k xs) mode back st 1, gnB st.row st.gone] (.ret (.t [.z m (bv o), i64 0])) [moX (cipV t k xs) mode back st1 2, .dead, gnB st1.row st1.gone]) := by
 have hs := h.s_le
 have hci := h.ci
 by_cases hne : 0 < m ∨ st.row = []
 ·refine ⟨(moStep (cF t key false) (cF t key true) s mode back st p).1, (moStep (cF t key false) (cF t key true) s mode back st p).2, rfl, ?_, K.step hci (by omega), .inr (c_step h rfl hp hbm K hg hne)⟩
  rw [moStep_len hci K.ok (by rw [hp]; exact hg), hp]
 ·have hm : ¬ (mode = 1 ∨ mode = 2) := fun hm => hne (.inr (K.ok.blk hm))
  have hm3 : 3 ≤ mode := by have := K.ok.m; omega
  obtain rfl : m = 0 := by omega
  obtain rfl := List.eq_nil_of_length_eq_zero hp
  exact ⟨[], st, moStep_nil, rfl, K, .inl ⟨rfl, c_step_nil h hm3⟩⟩
end Go.Scr
