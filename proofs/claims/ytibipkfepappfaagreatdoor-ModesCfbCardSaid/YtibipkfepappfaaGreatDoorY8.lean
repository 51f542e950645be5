/-
  What the functions of the given program reckon, each by a contract, up to the law. It is no claim by itself; each contract bears its own conditions.
-/
import Derived.Test.YtibipkfepappfaaGreatDoorY7
set_option linter.unusedVariables false
set_option linter.unusedSimpArgs false
set_option maxRecDepth 100000
namespace Go.Scr
open Go.Proofs
set_option maxHeartbeats 4000000 in
theorem c_mheals {tag n at' by' : Int} {cfb : Bool} (h0 : -9223372036854775808 ≤ tag ∧ tag ≤ 9223372036854775807) (h1 : -9223372036854775808 ≤ n ∧ n ≤ 9223372036854775807) {lk li lb : Nat} {k iv' b : List UInt8} (hk : k.length = lk) (hi : iv'.length = li) (hb : b.length = lb) (ha : -9223372036854775808 ≤ at' ∧ at' ≤ 9223372036854775807) (hy : 0 ≤ by' ∧ by' ≤ 255) :
  Con C N.law12_ModesHeals [i64 tag, i64 n, .z lk (bv k), bool cfb, .z li (bv iv'), .z lb (bv b), i64 at', .s (.int .u8 by')] [] (.ret (bool true)) [] := by
 subst hb
 obtain ⟨v, rfl⟩ : ∃ v : UInt8, by' = (v.toNat : Int) := ⟨UInt8.ofNat by'.toNat, by rw [UInt8.toNat_ofNat_of_lt' (by show by'.toNat < 256; omega)]; omega⟩
 obtain ⟨s, q, xs, rs, h⟩ := ciph_law tag n k
 have hs := h.s_le
 have hci := h.ci
 obtain ⟨w, hw⟩ : ∃ w, w = b.length / s * s := ⟨_, rfl⟩
 have hwl : w ≤ b.length := by rw [hw]; exact Nat.div_mul_le_self _ _
 have hws : w % s = 0 := by rw [hw]; exact Nat.mul_mod_left _ _
 obtain ⟨K, hK⟩ : ∃ K, w = s * K := Nat.dvd_of_mod_eq_zero hws
 have lp : (sub b 0 w).length = w := by rw [sub_length]; omega
 have hvp : sub (bv b) 0 w = bv (sub b 0 w) := bv_sub _ _ _
 refine con.law12_ModesHeals ?_
 refine ⟨[], _, _, _, _, c_law12_known, rfl, rfl, ?_⟩
 refine spl_d (fun h200 => ?_) (fun h200 => ?_)
 ·exact ⟨_, rfl, [], rfl, trivial⟩
 have e4 : IntKind.i64.wrap (IntKind.i64.wrap ((b.length : Int).tdiv (s : Int)) * (s : Int)) = ((w : Nat) : Int) := by rw [hw]; exact i64_quomul (by omega)
 refine ⟨[], _, _, _, _, c_law12_both h0 h1 hk h, rfl, rfl, ?_⟩
 cases cfb
 ·refine ⟨[], _, _, _, _, h.size, rfl, rfl, ?_⟩
  refine ⟨by omega, ?_⟩
  refine ⟨by rw [e4]; omega, by rw [e4]; omega, by rw [e4]; omega, by rw [e4]; omega, ?_⟩
  refine spl_eq (fun _ => ?_) (fun hw0 => ?_)
  ·exact ⟨_, rfl, [], rfl, trivial⟩
  rw [e4, Int.toNat_natCast] at hw0
  have hw0 : 0 < w := by omega
  generalize sub b 0 w = bb at *
  obtain ⟨i, hd, hiw⟩ := emod_nat at' (n := w) hw0
  obtain ⟨z, hz⟩ : ∃ z, z = i / s * s := ⟨_, rfl⟩
  have hzi : z ≤ i := by rw [hz]; exact Nat.div_mul_le_self _ _
  obtain ⟨to, hto⟩ : ∃ to, to = min w (z + 2 * s) := ⟨_, rfl⟩
  have lI := ivL_len 2 s iv'
  have cI := c_iv (mode := 2) (s := s) (vb := bv iv') rfl hi (by omega)
  have lV : (ivL 2 s iv').length = s := lI
  generalize ivL 2 s iv' = V0 at *
  have K0 : MK s 2 ⟨V0, [], []⟩ := MK.new (by decide) (.inr lV)
  obtain ⟨y, hyv⟩ : ∃ y, y = bb.getD i 0 + v := ⟨_, rfl⟩
  have ls : (bb.set i y).length = w := by rw [List.length_set, lp]
  have HL := mo_heal (x := y) hci (by omega) (.inl rfl : (2 : Int) = 2 ∨ (2 : Int) = 4) lV (b := bb) (i := i) (lp.trans hK) (by omega)
  have hg : w % moGrain s 2 = 0 := hws
  have l1 : (moStep (cF (tagOf tag) (keyOf (tagOf tag) n k) false) (cF (tagOf tag) (keyOf (tagOf tag) n k) true) s 2 true ⟨V0, [], []⟩ bb).1.length = w := by rw [moStep_len hci K0.ok (by rw [lp]; exact hg), lp]
  have l2 : (moStep (cF (tagOf tag) (keyOf (tagOf tag) n k) false) (cF (tagOf tag) (keyOf (tagOf tag) n k) true) s 2 true ⟨V0, [], []⟩ (bb.set i y)).1.length = w := by rw [moStep_len hci K0.ok (by rw [ls]; exact hg), ls]
  have T0 := c_step h (mode := 2) (back := true) (st := ⟨V0, [], []⟩) (b := bb) rfl lp (by omega) K0 hg (.inr rfl)
  have T1 := c_step h (mode := 2) (back := true) (st := ⟨V0, [], []⟩) (b := bb.set i y) rfl ls (by omega) K0 hg (.inr rfl)
  generalize moStep (cF (tagOf tag) (keyOf (tagOf tag) n k) false) (cF (tagOf tag) (keyOf (tagOf tag) n k) true) s 2 true ⟨V0, [], []⟩ bb = S0 at *
  generalize moStep (cF (tagOf tag) (keyOf (tagOf tag) n k) false) (cF (tagOf tag) (keyOf (tagOf tag) n k) true) s 2 true ⟨V0, [], []⟩ (bb.set i y) = S1 at *
  obtain ⟨o, ⟨c0, row0, g0⟩⟩ := S0
  obtain ⟨p, ⟨c1, row1, g1⟩⟩ := S1
  dsimp only at T0 T1 l1 l2 HL
  rw [show s * (i / s) = z by rw [hz, Nat.mul_comm], show s * (i / s + 2) = z + 2 * s by rw [Nat.mul_add, hz, Nat.mul_comm s (i / s), Nat.mul_comm s 2]] at HL
  have H1 : sub o 0 z = sub p 0 z := HL.1
  have H2 : o.drop to = p.drop to := by
   rw [hto]
   rcases Nat.le_total w (z + 2 * s) with hh | hh
   ·rw [Nat.min_eq_left hh, List.drop_of_length_le (by omega), List.drop_of_length_le (by omega)]
   ·rw [Nat.min_eq_right hh]; exact HL.2
  clear HL
  have lz1 : (sub o 0 z).length = z := by rw [sub_length]; omega
  have lz2 : (sub p 0 z).length = z := by rw [sub_length]; omega
  have vz1 : sub (bv o) 0 z = bv (sub o 0 z) := bv_sub _ _ _
  have vz2 : sub (bv p) 0 z = bv (sub p 0 z) := bv_sub _ _ _
  have vd1 : sub (bv o) to (w - to) = bv (o.drop to) := bv_dropN l1 (by omega)
  have vd2 : sub (bv p) to (w - to) = bv (p.drop to) := bv_dropN l2 (by omega)
  have ld1 : (o.drop to).length = w - to := by rw [List.length_drop, l1]
  have ld2 : (p.drop to).length = w - to := by rw [List.length_drop, l2]
  have eat : at' % ((w : Nat) : Int) = ((i : Nat) : Int) := hd
  have e7 : IntKind.i64.wrap (IntKind.i64.wrap ((i : Int).tdiv (s : Int)) * (s : Int)) = ((z : Nat) : Int) := by rw [hz]; exact i64_quomul (by omega)
  have e8 : IntKind.i64.wrap (((z : Nat) : Int) + IntKind.i64.wrap (2 * (s : Int))) = ((z + 2 * s : Nat) : Int) := by
   rw [show IntKind.i64.wrap (2 * (s : Int)) = ((2 * s : Nat) : Int) by rw [IntWalk.i64_in _ (by omega)]; omega, IntWalk.i64_in _ (by omega)]; omega
  have e9 : (if ((z + 2 * s : Nat) : Int) < ((w : Nat) : Int) then ((z + 2 * s : Nat) : Int) else ((w : Nat) : Int)) = ((to : Nat) : Int) := by
   rw [hto]; split <;> omega
  refine ⟨[], _, _, _, _, cI, rfl, rfl, ?_⟩
  refine ⟨[], _, _, _, _, c_new_m h (mode := 2) (back := true) (i := 1) (iv := V0) rfl lV (by decide) rfl, rfl, rfl, ?_⟩
  refine ⟨[], _, _, _, _, cI, rfl, rfl, ?_⟩
  refine ⟨[], _, _, _, _, c_new_m h (mode := 2) (back := true) (i := 1) (iv := V0) rfl lV (by decide) rfl, rfl, rfl, ?_⟩
  refine ⟨[], _, _, _, _, c_w12 (a := at') (n := ((w : Nat) : Int)) (by omega) (by omega) ha, ?_, rfl, ?_⟩
  ·rw [e4]; rfl
  refine ⟨by rw [e4, Int.toNat_natCast, Nat.sub_zero, hvp, bv_len, lp], by rw [e4]; omega, by decide, ?_⟩
  refine ⟨by rw [eat]; omega, by rw [eat, e4]; omega, .int .u8 ((bb.getD i 0).toNat : Int), by rw [eat, e4, Int.toNat_natCast, Int.toNat_natCast, Nat.sub_zero, hvp]; show (bv bb)[0 + i * 1]? = _; rw [Nat.mul_one, Nat.zero_add]; exact bv_getD (by omega), ?_⟩
  refine ⟨by rw [eat]; omega, by rw [eat, e4]; omega, by rw [eat, e4, Int.toNat_natCast, Int.toNat_natCast, Nat.sub_zero, hvp]; show 0 + i * 1 < (bv bb).length; rw [bv_len]; omega, ?_⟩
  rcases row0 with _ | ⟨a0, r0⟩ <;> rcases row1 with _ | ⟨a1, r1⟩
  all_goals
   refine ⟨[.d 68 0, .d 68 1], _, _, _, _, T0, ?_, rfl, ?_⟩
   ·rw [e4]
    show [V.p (.k 0) 0, V.z w (sub (bv b) 0 w)] = _
    rw [hvp]
   refine ⟨[.d 78 0, .d 78 1], _, _, _, _, T1, ?_, rfl, ?_⟩
   ·rw [e4, eat]
    show [V.p (.k 0) 0, V.z (0 + w) (sub (([] ++ sub (bv b) 0 w).set (0 + ((i : Nat) : Int).toNat * 1) (.int .u8 (IntKind.u8.wrap (((bb.getD i 0).toNat : Int) + (v.toNat : Int))))) 0 (0 + w))] = _
    rw [Int.toNat_natCast, Nat.mul_one, Nat.zero_add, Nat.zero_add, List.nil_append, hvp, u8_add, ← hyv, bv_set, bv_all ls]
   refine spl_ne (fun h => absurd (by rw [e4]; rfl) h) (fun _ => ?_)
   refine spl_ne (fun h => absurd (by rw [e4]; rfl) h) (fun _ => ?_)
   refine ⟨by omega, ?_⟩
   have f7 : IntKind.i64.wrap (IntKind.i64.wrap ((at' % ((w : Nat) : Int)).tdiv (s : Int)) * (s : Int)) = ((z : Nat) : Int) := by rw [eat]; exact e7
   refine ⟨(by first | omega | (rw [f7]; omega) | (rw [f7, Int.toNat_natCast]; omega)), (by first | omega | (rw [f7]; omega) | (rw [f7, Int.toNat_natCast]; omega)), Nat.le_refl _, (by first | omega | (rw [f7]; omega) | (rw [f7, Int.toNat_natCast]; omega)), ?_⟩
   refine ⟨by rw [f7, Int.toNat_natCast, Nat.sub_zero, vz1, bv_len, lz1], sub o 0 z, by rw [f7, Int.toNat_natCast, Nat.sub_zero, vz1]; rfl, ?_⟩
   refine ⟨(by first | omega | (rw [f7]; omega) | (rw [f7, Int.toNat_natCast]; omega)), (by first | omega | (rw [f7]; omega) | (rw [f7, Int.toNat_natCast]; omega)), Nat.le_refl _, (by first | omega | (rw [f7]; omega) | (rw [f7, Int.toNat_natCast]; omega)), ?_⟩
   refine ⟨by rw [f7, Int.toNat_natCast, Nat.sub_zero, vz2, bv_len, lz2], sub p 0 z, by rw [f7, Int.toNat_natCast, Nat.sub_zero, vz2]; rfl, ?_⟩
   refine spl_t (by rw [H1, str_beq]; simp) ?_
   have f9 : (if IntKind.i64.wrap (IntKind.i64.wrap (IntKind.i64.wrap ((at' % ((w : Nat) : Int)).tdiv (s : Int)) * (s : Int)) + IntKind.i64.wrap (2 * (s : Int))) < (((IntKind.i64.wrap (IntKind.i64.wrap ((b.length : Int).tdiv (s : Int)) * (s : Int))).toNat - 0 : Nat) : Int) then IntKind.i64.wrap (IntKind.i64.wrap (IntKind.i64.wrap ((at' % ((w : Nat) : Int)).tdiv (s : Int)) * (s : Int)) + IntKind.i64.wrap (2 * (s : Int))) else (((IntKind.i64.wrap (IntKind.i64.wrap ((b.length : Int).tdiv (s : Int)) * (s : Int))).toNat - 0 : Nat) : Int)) = ((to : Nat) : Int) := by
    rw [f7, e8, e4, Int.toNat_natCast, Nat.sub_zero, e9]
   refine ⟨(by first | omega | (rw [f9]; omega) | (rw [f9, Int.toNat_natCast]; omega)), (by first | omega | (rw [f9]; omega) | (rw [f9, Int.toNat_natCast]; omega)), (by first | omega | (rw [f9]; omega) | (rw [f9, Int.toNat_natCast]; omega)), (by first | omega | (rw [f9]; omega) | (rw [f9, Int.toNat_natCast]; omega)), ?_⟩
   refine ⟨by rw [f9, Int.toNat_natCast, vd1, bv_len, ld1], o.drop to, by rw [f9, Int.toNat_natCast, vd1]; rfl, ?_⟩
   refine ⟨(by first | omega | (rw [f9]; omega) | (rw [f9, Int.toNat_natCast]; omega)), (by first | omega | (rw [f9]; omega) | (rw [f9, Int.toNat_natCast]; omega)), (by first | omega | (rw [f9]; omega) | (rw [f9, Int.toNat_natCast]; omega)), (by first | omega | (rw [f9]; omega) | (rw [f9, Int.toNat_natCast]; omega)), ?_⟩
   refine ⟨by rw [f9, Int.toNat_natCast, vd2, bv_len, ld2], p.drop to, by rw [f9, Int.toNat_natCast, vd2]; rfl, ?_⟩
   refine ⟨_, rfl, [], congrArg bool ?_, trivial⟩
   rw [H2, str_beq]; simp
 ·refine ⟨[], _, _, _, _, h.size, rfl, rfl, ?_⟩
  refine ⟨by omega, ?_⟩
  refine ⟨by rw [e4]; omega, by rw [e4]; omega, by rw [e4]; omega, by rw [e4]; omega, ?_⟩
  refine spl_eq (fun _ => ?_) (fun hw0 => ?_)
  ·exact ⟨_, rfl, [], rfl, trivial⟩
  rw [e4, Int.toNat_natCast] at hw0
  have hw0 : 0 < w := by omega
  generalize sub b 0 w = bb at *
  obtain ⟨i, hd, hiw⟩ := emod_nat at' (n := w) hw0
  obtain ⟨z, hz⟩ : ∃ z, z = i / s * s := ⟨_, rfl⟩
  have hzi : z ≤ i := by rw [hz]; exact Nat.div_mul_le_self _ _
  obtain ⟨to, hto⟩ : ∃ to, to = min w (z + 2 * s) := ⟨_, rfl⟩
  have lI := ivL_len 4 s iv'
  have cI := c_iv (mode := 4) (s := s) (vb := bv iv') rfl hi (by omega)
  have lV : (ivL 4 s iv').length = s := lI
  generalize ivL 4 s iv' = V0 at *
  have K0 : MK s 4 ⟨V0, [], []⟩ := MK.new (by decide) (.inr lV)
  obtain ⟨y, hyv⟩ : ∃ y, y = bb.getD i 0 + v := ⟨_, rfl⟩
  have ls : (bb.set i y).length = w := by rw [List.length_set, lp]
  have HL := mo_heal (x := y) hci (by omega) (.inr rfl : (4 : Int) = 2 ∨ (4 : Int) = 4) lV (b := bb) (i := i) (lp.trans hK) (by omega)
  have hg : w % moGrain s 4 = 0 := Nat.mod_one _
  have l1 : (moStep (cF (tagOf tag) (keyOf (tagOf tag) n k) false) (cF (tagOf tag) (keyOf (tagOf tag) n k) true) s 4 true ⟨V0, [], []⟩ bb).1.length = w := by rw [moStep_len hci K0.ok (by rw [lp]; exact hg), lp]
  have l2 : (moStep (cF (tagOf tag) (keyOf (tagOf tag) n k) false) (cF (tagOf tag) (keyOf (tagOf tag) n k) true) s 4 true ⟨V0, [], []⟩ (bb.set i y)).1.length = w := by rw [moStep_len hci K0.ok (by rw [ls]; exact hg), ls]
  have T0 := c_step h (mode := 4) (back := true) (st := ⟨V0, [], []⟩) (b := bb) rfl lp (by omega) K0 hg (.inr rfl)
  have T1 := c_step h (mode := 4) (back := true) (st := ⟨V0, [], []⟩) (b := bb.set i y) rfl ls (by omega) K0 hg (.inr rfl)
  generalize moStep (cF (tagOf tag) (keyOf (tagOf tag) n k) false) (cF (tagOf tag) (keyOf (tagOf tag) n k) true) s 4 true ⟨V0, [], []⟩ bb = S0 at *
  generalize moStep (cF (tagOf tag) (keyOf (tagOf tag) n k) false) (cF (tagOf tag) (keyOf (tagOf tag) n k) true) s 4 true ⟨V0, [], []⟩ (bb.set i y) = S1 at *
  obtain ⟨o, ⟨c0, row0, g0⟩⟩ := S0
  obtain ⟨p, ⟨c1, row1, g1⟩⟩ := S1
  dsimp only at T0 T1 l1 l2 HL
  rw [show s * (i / s) = z by rw [hz, Nat.mul_comm], show s * (i / s + 2) = z + 2 * s by rw [Nat.mul_add, hz, Nat.mul_comm s (i / s), Nat.mul_comm s 2]] at HL
  have H1 : sub o 0 z = sub p 0 z := HL.1
  have H2 : o.drop to = p.drop to := by
   rw [hto]
   rcases Nat.le_total w (z + 2 * s) with hh | hh
   ·rw [Nat.min_eq_left hh, List.drop_of_length_le (by omega), List.drop_of_length_le (by omega)]
   ·rw [Nat.min_eq_right hh]; exact HL.2
  clear HL
  have lz1 : (sub o 0 z).length = z := by rw [sub_length]; omega
  have lz2 : (sub p 0 z).length = z := by rw [sub_length]; omega
  have vz1 : sub (bv o) 0 z = bv (sub o 0 z) := bv_sub _ _ _
  have vz2 : sub (bv p) 0 z = bv (sub p 0 z) := bv_sub _ _ _
  have vd1 : sub (bv o) to (w - to) = bv (o.drop to) := bv_dropN l1 (by omega)
  have vd2 : sub (bv p) to (w - to) = bv (p.drop to) := bv_dropN l2 (by omega)
  have ld1 : (o.drop to).length = w - to := by rw [List.length_drop, l1]
  have ld2 : (p.drop to).length = w - to := by rw [List.length_drop, l2]
  have eat : at' % ((w : Nat) : Int) = ((i : Nat) : Int) := hd
  have e7 : IntKind.i64.wrap (IntKind.i64.wrap ((i : Int).tdiv (s : Int)) * (s : Int)) = ((z : Nat) : Int) := by rw [hz]; exact i64_quomul (by omega)
  have e8 : IntKind.i64.wrap (((z : Nat) : Int) + IntKind.i64.wrap (2 * (s : Int))) = ((z + 2 * s : Nat) : Int) := by
   rw [show IntKind.i64.wrap (2 * (s : Int)) = ((2 * s : Nat) : Int) by rw [IntWalk.i64_in _ (by omega)]; omega, IntWalk.i64_in _ (by omega)]; omega
  have e9 : (if ((z + 2 * s : Nat) : Int) < ((w : Nat) : Int) then ((z + 2 * s : Nat) : Int) else ((w : Nat) : Int)) = ((to : Nat) : Int) := by
   rw [hto]; split <;> omega
  refine ⟨[], _, _, _, _, cI, rfl, rfl, ?_⟩
  refine ⟨[], _, _, _, _, c_new_m h (mode := 4) (back := true) (i := 1) (iv := V0) rfl lV (by decide) rfl, rfl, rfl, ?_⟩
  refine ⟨[], _, _, _, _, cI, rfl, rfl, ?_⟩
  refine ⟨[], _, _, _, _, c_new_m h (mode := 4) (back := true) (i := 1) (iv := V0) rfl lV (by decide) rfl, rfl, rfl, ?_⟩
  refine ⟨[], _, _, _, _, c_w12 (a := at') (n := ((w : Nat) : Int)) (by omega) (by omega) ha, ?_, rfl, ?_⟩
  ·rw [e4]; rfl
  refine ⟨by rw [e4, Int.toNat_natCast, Nat.sub_zero, hvp, bv_len, lp], by rw [e4]; omega, by decide, ?_⟩
  refine ⟨by rw [eat]; omega, by rw [eat, e4]; omega, .int .u8 ((bb.getD i 0).toNat : Int), by rw [eat, e4, Int.toNat_natCast, Int.toNat_natCast, Nat.sub_zero, hvp]; show (bv bb)[0 + i * 1]? = _; rw [Nat.mul_one, Nat.zero_add]; exact bv_getD (by omega), ?_⟩
  refine ⟨by rw [eat]; omega, by rw [eat, e4]; omega, by rw [eat, e4, Int.toNat_natCast, Int.toNat_natCast, Nat.sub_zero, hvp]; show 0 + i * 1 < (bv bb).length; rw [bv_len]; omega, ?_⟩
  rcases row0 with _ | ⟨a0, r0⟩ <;> rcases row1 with _ | ⟨a1, r1⟩
  all_goals
   refine ⟨[.d 68 0, .d 68 1], _, _, _, _, T0, ?_, rfl, ?_⟩
   ·rw [e4]
    show [V.p (.k 0) 0, V.z w (sub (bv b) 0 w)] = _
    rw [hvp]
   refine ⟨[.d 78 0, .d 78 1], _, _, _, _, T1, ?_, rfl, ?_⟩
   ·rw [e4, eat]
    show [V.p (.k 0) 0, V.z (0 + w) (sub (([] ++ sub (bv b) 0 w).set (0 + ((i : Nat) : Int).toNat * 1) (.int .u8 (IntKind.u8.wrap (((bb.getD i 0).toNat : Int) + (v.toNat : Int))))) 0 (0 + w))] = _
    rw [Int.toNat_natCast, Nat.mul_one, Nat.zero_add, Nat.zero_add, List.nil_append, hvp, u8_add, ← hyv, bv_set, bv_all ls]
   refine spl_ne (fun h => absurd (by rw [e4]; rfl) h) (fun _ => ?_)
   refine spl_ne (fun h => absurd (by rw [e4]; rfl) h) (fun _ => ?_)
   refine ⟨by omega, ?_⟩
   have f7 : IntKind.i64.wrap (IntKind.i64.wrap ((at' % ((w : Nat) : Int)).tdiv (s : Int)) * (s : Int)) = ((z : Nat) : Int) := by rw [eat]; exact e7
   refine ⟨(by first | omega | (rw [f7]; omega) | (rw [f7, Int.toNat_natCast]; omega)), (by first | omega | (rw [f7]; omega) | (rw [f7, Int.toNat_natCast]; omega)), Nat.le_refl _, (by first | omega | (rw [f7]; omega) | (rw [f7, Int.toNat_natCast]; omega)), ?_⟩
   refine ⟨by rw [f7, Int.toNat_natCast, Nat.sub_zero, vz1, bv_len, lz1], sub o 0 z, by rw [f7, Int.toNat_natCast, Nat.sub_zero, vz1]; rfl, ?_⟩
   refine ⟨(by first | omega | (rw [f7]; omega) | (rw [f7, Int.toNat_natCast]; omega)), (by first | omega | (rw [f7]; omega) | (rw [f7, Int.toNat_natCast]; omega)), Nat.le_refl _, (by first | omega | (rw [f7]; omega) | (rw [f7, Int.toNat_natCast]; omega)), ?_⟩
   refine ⟨by rw [f7, Int.toNat_natCast, Nat.sub_zero, vz2, bv_len, lz2], sub p 0 z, by rw [f7, Int.toNat_natCast, Nat.sub_zero, vz2]; rfl, ?_⟩
   refine spl_t (by rw [H1, str_beq]; simp) ?_
   have f9 : (if IntKind.i64.wrap (IntKind.i64.wrap (IntKind.i64.wrap ((at' % ((w : Nat) : Int)).tdiv (s : Int)) * (s : Int)) + IntKind.i64.wrap (2 * (s : Int))) < (((IntKind.i64.wrap (IntKind.i64.wrap ((b.length : Int).tdiv (s : Int)) * (s : Int))).toNat - 0 : Nat) : Int) then IntKind.i64.wrap (IntKind.i64.wrap (IntKind.i64.wrap ((at' % ((w : Nat) : Int)).tdiv (s : Int)) * (s : Int)) + IntKind.i64.wrap (2 * (s : Int))) else (((IntKind.i64.wrap (IntKind.i64.wrap ((b.length : Int).tdiv (s : Int)) * (s : Int))).toNat - 0 : Nat) : Int)) = ((to : Nat) : Int) := by
    rw [f7, e8, e4, Int.toNat_natCast, Nat.sub_zero, e9]
   refine ⟨(by first | omega | (rw [f9]; omega) | (rw [f9, Int.toNat_natCast]; omega)), (by first | omega | (rw [f9]; omega) | (rw [f9, Int.toNat_natCast]; omega)), (by first | omega | (rw [f9]; omega) | (rw [f9, Int.toNat_natCast]; omega)), (by first | omega | (rw [f9]; omega) | (rw [f9, Int.toNat_natCast]; omega)), ?_⟩
   refine ⟨by rw [f9, Int.toNat_natCast, vd1, bv_len, ld1], o.drop to, by rw [f9, Int.toNat_natCast, vd1]; rfl, ?_⟩
   refine ⟨(by first | omega | (rw [f9]; omega) | (rw [f9, Int.toNat_natCast]; omega)), (by first | omega | (rw [f9]; omega) | (rw [f9, Int.toNat_natCast]; omega)), (by first | omega | (rw [f9]; omega) | (rw [f9, Int.toNat_natCast]; omega)), (by first | omega | (rw [f9]; omega) | (rw [f9, Int.toNat_natCast]; omega)), ?_⟩
   refine ⟨by rw [f9, Int.toNat_natCast, vd2, bv_len, ld2], p.drop to, by rw [f9, Int.toNat_natCast, vd2]; rfl, ?_⟩
   refine ⟨_, rfl, [], congrArg bool ?_, trivial⟩
   rw [H2, str_beq]; simp
end Go.Scr
