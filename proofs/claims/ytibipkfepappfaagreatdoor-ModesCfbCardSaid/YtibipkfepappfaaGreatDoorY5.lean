/-
  What the functions of the given program reckon, each by a contract, up to the law. It is no claim by itself; each contract bears its own conditions.
-/
import Derived.Test.YtibipkfepappfaaGreatDoorY4
set_option linter.unusedVariables false
set_option linter.unusedSimpArgs false
set_option maxRecDepth 100000
namespace Go.Scr
open Go.Proofs
set_option maxHeartbeats 2000000 in
theorem c_mcfb {tag n : Int} {one : Bool} (h0 : -9223372036854775808 ≤ tag ∧ tag ≤ 9223372036854775807) (h1 : -9223372036854775808 ≤ n ∧ n ≤ 9223372036854775807) {lk li lb : Nat} {k iv' b : List UInt8} (hk : k.length = lk) (hi : iv'.length = li) (hb : b.length = lb) :
  Con C N.law12_ModesCfb [i64 tag, i64 n, .z lk (bv k), .z li (bv iv'), .z lb (bv b), bool one] [] (.ret (bool true)) [] := by
 obtain ⟨s, q, xs, rs, h⟩ := ciph_law tag n k
 have hs := h.s_le
 have hci := h.ci
 have lV := bytesN_len s iv'
 refine con.law12_ModesCfb ?_
 refine ⟨[], _, _, _, _, c_law12_known, rfl, rfl, ?_⟩
 refine spl_d (fun h100 => ?_) (fun h100 => ?_)
 ·exact ⟨_, rfl, [], rfl, trivial⟩
 refine ⟨[], _, _, _, _, c_law12_both h0 h1 hk h, rfl, rfl, ?_⟩
 refine ⟨[], _, _, _, _, h.size, rfl, rfl, ?_⟩
 cases one
 ·refine ⟨[], _, _, _, _, c_bytes (n := s) rfl hi (by omega), rfl, rfl, ?_⟩
  refine ⟨[.d 46 0], _, _, _, _, c_new_own h (mode := 4) (back := false) (i := 1) (iv := bytesN s iv') lV (by decide), rfl, rfl, ?_⟩
  generalize bytesN s iv' = V0 at *
  have K0 : MK s 4 ⟨V0, [], []⟩ := MK.new (by decide) (.inr lV)
  have L := cfl_four hci (by omega) lV hb
  obtain ⟨S0, hS0⟩ : ∃ x, x = moMany (cF (tagOf tag) (keyOf (tagOf tag) n k) false) 4 false ⟨V0, [], []⟩ b := ⟨_, rfl⟩
  have l0 : S0.1.length = lb := by rw [hS0, moMany_len, hb]
  have T0 := c_step_byte h (mode := 4) (back := false) (st := ⟨V0, [], []⟩) (b := b) rfl hb (by omega) (by decide) K0 (.inr rfl)
  rw [← hS0] at T0 L
  clear hS0
  obtain ⟨o, ⟨c0, row0, g0⟩⟩ := S0
  dsimp only at T0 l0 L
  obtain ⟨chf, hchf⟩ : ∃ f : Nat → List UInt8, f 0 = V0 ∧ CfL (cF (tagOf tag) (keyOf (tagOf tag) n k) false) s s lb b o f := ⟨_, rfl, L⟩
  obtain ⟨hf0, L⟩ := hchf
  rcases row0 with _ | ⟨a1, r1⟩
  all_goals
   refine ⟨[.d 51 1, .d 51 2], _, _, _, _, T0, rfl, rfl, ?_⟩
   refine spl_ne (fun h => absurd rfl h) (fun _ => ?_)
   refine ⟨Nat × Nat × List UInt8, cfD rs s s lb b o, fun x => x.2.1 = s * x.1 ∧ x.2.1 ≤ 100 ∧ (x.2.1 < lb → x.2.2 = chf x.1) ∧ x.2.2.length = s, fun x => 200 - x.2.1, ⟨[], (0, 0, V0), ⟨rfl, Nat.zero_le _, fun _ => hf0.symm, lV⟩, [], ⟨rfl, rfl, rfl, rfl, congrArg (V.z s) (bv_all lV), rfl, rfl, trivial⟩, trivial⟩, fun x hx => ?_⟩
   obtain ⟨j, i, ch⟩ := x
   obtain ⟨hij, hi100, hch, lch⟩ := hx
   dsimp only at hij hi100 hch lch
   refine spl_d (fun hlt => ?_) (fun hge => ?_)
   ·have hlt : i < lb := by omega
    have hch := hch hlt
    obtain ⟨r, hr⟩ : ∃ r, r = min s (lb - i) := ⟨_, rfl⟩
    have hat := L.at_ j (by omega)
    have hnx := L.nxt j
    rw [← hij] at hat hnx
    rw [← hr, ← hch] at hat
    rw [← hch] at hnx
    have ei : IntKind.i64.wrap ((i : Int) + (s : Int)) = ((i + s : Nat) : Int) := by rw [IntWalk.i64_in _ (by omega)]; first | rfl | omega
    have e5 : (if IntKind.i64.wrap ((i : Int) + (s : Int)) < (lb : Int) then IntKind.i64.wrap ((i : Int) + (s : Int)) else (lb : Int)) = ((i + r : Nat) : Int) := by
     rw [ei, hr]
     split <;> omega
    have lo : (sub o i r).length = r := by rw [sub_length]; omega
    have lbb : (sub b i r).length = r := by rw [sub_length]; omega
    have hvo : sub (bv o) i r = bv (sub o i r) := bv_sub _ _ _
    have hvb : sub (bv b) i r = bv (sub b i r) := bv_sub _ _ _
    have lE := h.len (back := false) lch
    have lx : (xorL (sub b i r) (cF (tagOf tag) (keyOf (tagOf tag) n k) false ch)).length = r := by rw [xorL_length, lbb, lE]; omega
    have ec : (i + r) - i = r := Nat.add_sub_cancel_left _ _
    refine ⟨[], _, _, _, _, h.E lch rfl, rfl, rfl, ?_⟩
    refine ⟨(by first | omega | (rw [e5]; omega) | (rw [e5, Int.toNat_natCast]; omega)), (by first | omega | (rw [e5]; omega) | (rw [e5, Int.toNat_natCast]; omega)), (by first | omega | (rw [e5]; omega) | (rw [e5, Int.toNat_natCast]; omega)), (by first | omega | (rw [e5]; omega) | (rw [e5, Int.toNat_natCast]; omega)), (by first | omega | (rw [e5]; omega) | (rw [e5, Int.toNat_natCast]; omega)), ?_⟩
    refine ⟨by rw [e5, Int.toNat_natCast, Int.toNat_natCast, ec, hvo, bv_len, lo], sub o i r, by rw [e5, Int.toNat_natCast, Int.toNat_natCast, ec, hvo]; rfl, ?_⟩
    refine ⟨(by first | omega | (rw [e5]; omega) | (rw [e5, Int.toNat_natCast]; omega)), (by first | omega | (rw [e5]; omega) | (rw [e5, Int.toNat_natCast]; omega)), (by first | omega | (rw [e5]; omega) | (rw [e5, Int.toNat_natCast]; omega)), (by first | omega | (rw [e5]; omega) | (rw [e5, Int.toNat_natCast]; omega)), (by first | omega | (rw [e5]; omega) | (rw [e5, Int.toNat_natCast]; omega)), ?_⟩
    refine ⟨[], _, _, _, _, c_bothS (n := r) (m := s) (va := bv (sub b i r)) (vb := bv (cF (tagOf tag) (keyOf (tagOf tag) n k) false ch)) rfl rfl lbb lE (by omega) (by omega), ?_, rfl, ?_⟩
    ·rw [e5]
     show [V.z (i + r - i) (sub (bv b) i (i + r - i)), V.z s (sub (bv (cF (tagOf tag) (keyOf (tagOf tag) n k) false ch)) 0 s)] = _
     rw [ec, hvb, bv_all lE]
    refine ⟨str_len lx, _, bv_all lx, ?_⟩
    refine spl_f (by rw [hat, str_beq]; simp) ?_
    refine ⟨by rw [bv_len]; omega, by omega, by decide, ?_⟩
    refine ⟨(by first | omega | (rw [e5]; omega) | (rw [e5, Int.toNat_natCast]; omega)), (by first | omega | (rw [e5]; omega) | (rw [e5, Int.toNat_natCast]; omega)), (by first | omega | (rw [e5]; omega) | (rw [e5, Int.toNat_natCast]; omega)), (by first | omega | (rw [e5]; omega) | (rw [e5, Int.toNat_natCast]; omega)), (by first | omega | (rw [e5]; omega) | (rw [e5, Int.toNat_natCast]; omega)), ?_⟩
    refine ⟨by rw [e5, Int.toNat_natCast, Int.toNat_natCast, ec, hvo, bv_len, lo], (by first | omega | (rw [e5]; omega) | (rw [e5, Int.toNat_natCast]; omega)), by rw [List.length_append, bv_len]; simp; omega, ?_⟩
    have e6 : IntKind.i64.wrap (((0 + s + r : Nat) : Int) - (s : Int)) = ((r : Nat) : Int) := by rw [IntWalk.i64_in _ (by omega)]; omega
    refine ⟨by rw [e5, Int.toNat_natCast, Int.toNat_natCast, ec, e6]; omega, by rw [e5, Int.toNat_natCast, Int.toNat_natCast, ec, e6, Int.toNat_natCast]; omega, Nat.le_refl _, Nat.le_refl _, ?_⟩
    refine ⟨(j + 1, i + s, (ch ++ sub o i r).drop r), ⟨by rw [hij]; first | rfl | (rw [Nat.mul_succ]), by show i + s ≤ 100; omega, fun hh => ?_, by show ((ch ++ sub o i r).drop r).length = s; rw [List.length_drop, List.length_append, lch, lo]; omega⟩, (by show 200 - (i + s) < 200 - i; omega), [], ⟨rfl, rfl, rfl, rfl, ?_, rfl, congrArg (vi .i64) ei, trivial⟩, trivial⟩
    ·have hh : i + s < lb := hh
     obtain rfl : r = s := by omega
     exact (hnx (by omega)).symm
    ·rw [e5, Int.toNat_natCast, Int.toNat_natCast, ec, e6, Int.toNat_natCast]
     exact cf_chain lch lo
   ·exact ⟨_, rfl, [], rfl, trivial⟩
 ·refine ⟨[], _, _, _, _, c_bytes (n := s) rfl hi (by omega), rfl, rfl, ?_⟩
  refine ⟨[.d 46 0], _, _, _, _, c_new_own h (mode := 3) (back := false) (i := 1) (iv := bytesN s iv') lV (by decide), rfl, rfl, ?_⟩
  generalize bytesN s iv' = V0 at *
  have K0 : MK s 3 ⟨V0, [], []⟩ := MK.new (by decide) (.inr lV)
  have L := cfl_three hci (by omega) lV hb
  obtain ⟨S0, hS0⟩ : ∃ x, x = moMany (cF (tagOf tag) (keyOf (tagOf tag) n k) false) 3 false ⟨V0, [], []⟩ b := ⟨_, rfl⟩
  have l0 : S0.1.length = lb := by rw [hS0, moMany_len, hb]
  have T0 := c_step_byte h (mode := 3) (back := false) (st := ⟨V0, [], []⟩) (b := b) rfl hb (by omega) (by decide) K0 (.inr rfl)
  rw [← hS0] at T0 L
  clear hS0
  obtain ⟨o, ⟨c0, row0, g0⟩⟩ := S0
  dsimp only at T0 l0 L
  obtain ⟨chf, hchf⟩ : ∃ f : Nat → List UInt8, f 0 = V0 ∧ CfL (cF (tagOf tag) (keyOf (tagOf tag) n k) false) s 1 lb b o f := ⟨_, rfl, L⟩
  obtain ⟨hf0, L⟩ := hchf
  rcases row0 with _ | ⟨a1, r1⟩
  all_goals
   refine ⟨[.d 51 1, .d 51 2], _, _, _, _, T0, rfl, rfl, ?_⟩
   refine spl_ne (fun h => absurd rfl h) (fun _ => ?_)
   refine ⟨Nat × Nat × List UInt8, cfD rs s 1 lb b o, fun x => x.2.1 = 1 * x.1 ∧ x.2.1 ≤ 100 ∧ (x.2.1 < lb → x.2.2 = chf x.1) ∧ x.2.2.length = s, fun x => 200 - x.2.1, ⟨[], (0, 0, V0), ⟨rfl, Nat.zero_le _, fun _ => hf0.symm, lV⟩, [], ⟨rfl, rfl, rfl, rfl, congrArg (V.z s) (bv_all lV), rfl, rfl, trivial⟩, trivial⟩, fun x hx => ?_⟩
   obtain ⟨j, i, ch⟩ := x
   obtain ⟨hij, hi100, hch, lch⟩ := hx
   dsimp only at hij hi100 hch lch
   refine spl_d (fun hlt => ?_) (fun hge => ?_)
   ·have hlt : i < lb := by omega
    have hch := hch hlt
    obtain ⟨r, hr⟩ : ∃ r, r = min 1 (lb - i) := ⟨_, rfl⟩
    have hat := L.at_ j (by omega)
    have hnx := L.nxt j
    rw [← hij] at hat hnx
    rw [← hr, ← hch] at hat
    rw [← hch] at hnx
    have ei : IntKind.i64.wrap ((i : Int) + ((1 : Nat) : Int)) = ((i + 1 : Nat) : Int) := by rw [IntWalk.i64_in _ (by omega)]; first | rfl | omega
    have e5 : (if IntKind.i64.wrap ((i : Int) + ((1 : Nat) : Int)) < (lb : Int) then IntKind.i64.wrap ((i : Int) + ((1 : Nat) : Int)) else (lb : Int)) = ((i + r : Nat) : Int) := by
     rw [ei, hr]
     split <;> omega
    have lo : (sub o i r).length = r := by rw [sub_length]; omega
    have lbb : (sub b i r).length = r := by rw [sub_length]; omega
    have hvo : sub (bv o) i r = bv (sub o i r) := bv_sub _ _ _
    have hvb : sub (bv b) i r = bv (sub b i r) := bv_sub _ _ _
    have lE := h.len (back := false) lch
    have lx : (xorL (sub b i r) (cF (tagOf tag) (keyOf (tagOf tag) n k) false ch)).length = r := by rw [xorL_length, lbb, lE]; omega
    have ec : (i + r) - i = r := Nat.add_sub_cancel_left _ _
    refine ⟨[], _, _, _, _, h.E lch rfl, rfl, rfl, ?_⟩
    refine ⟨(by first | omega | (rw [e5]; omega) | (rw [e5, Int.toNat_natCast]; omega)), (by first | omega | (rw [e5]; omega) | (rw [e5, Int.toNat_natCast]; omega)), (by first | omega | (rw [e5]; omega) | (rw [e5, Int.toNat_natCast]; omega)), (by first | omega | (rw [e5]; omega) | (rw [e5, Int.toNat_natCast]; omega)), (by first | omega | (rw [e5]; omega) | (rw [e5, Int.toNat_natCast]; omega)), ?_⟩
    refine ⟨by rw [e5, Int.toNat_natCast, Int.toNat_natCast, ec, hvo, bv_len, lo], sub o i r, by rw [e5, Int.toNat_natCast, Int.toNat_natCast, ec, hvo]; rfl, ?_⟩
    refine ⟨(by first | omega | (rw [e5]; omega) | (rw [e5, Int.toNat_natCast]; omega)), (by first | omega | (rw [e5]; omega) | (rw [e5, Int.toNat_natCast]; omega)), (by first | omega | (rw [e5]; omega) | (rw [e5, Int.toNat_natCast]; omega)), (by first | omega | (rw [e5]; omega) | (rw [e5, Int.toNat_natCast]; omega)), (by first | omega | (rw [e5]; omega) | (rw [e5, Int.toNat_natCast]; omega)), ?_⟩
    refine ⟨[], _, _, _, _, c_bothS (n := r) (m := s) (va := bv (sub b i r)) (vb := bv (cF (tagOf tag) (keyOf (tagOf tag) n k) false ch)) rfl rfl lbb lE (by omega) (by omega), ?_, rfl, ?_⟩
    ·rw [e5]
     show [V.z (i + r - i) (sub (bv b) i (i + r - i)), V.z s (sub (bv (cF (tagOf tag) (keyOf (tagOf tag) n k) false ch)) 0 s)] = _
     rw [ec, hvb, bv_all lE]
    refine ⟨str_len lx, _, bv_all lx, ?_⟩
    refine spl_f (by rw [hat, str_beq]; simp) ?_
    refine ⟨by rw [bv_len]; omega, by omega, by decide, ?_⟩
    refine ⟨(by first | omega | (rw [e5]; omega) | (rw [e5, Int.toNat_natCast]; omega)), (by first | omega | (rw [e5]; omega) | (rw [e5, Int.toNat_natCast]; omega)), (by first | omega | (rw [e5]; omega) | (rw [e5, Int.toNat_natCast]; omega)), (by first | omega | (rw [e5]; omega) | (rw [e5, Int.toNat_natCast]; omega)), (by first | omega | (rw [e5]; omega) | (rw [e5, Int.toNat_natCast]; omega)), ?_⟩
    refine ⟨by rw [e5, Int.toNat_natCast, Int.toNat_natCast, ec, hvo, bv_len, lo], (by first | omega | (rw [e5]; omega) | (rw [e5, Int.toNat_natCast]; omega)), by rw [List.length_append, bv_len]; simp; omega, ?_⟩
    have e6 : IntKind.i64.wrap (((0 + s + r : Nat) : Int) - (s : Int)) = ((r : Nat) : Int) := by rw [IntWalk.i64_in _ (by omega)]; omega
    refine ⟨by rw [e5, Int.toNat_natCast, Int.toNat_natCast, ec, e6]; omega, by rw [e5, Int.toNat_natCast, Int.toNat_natCast, ec, e6, Int.toNat_natCast]; omega, Nat.le_refl _, Nat.le_refl _, ?_⟩
    refine ⟨(j + 1, i + 1, (ch ++ sub o i r).drop r), ⟨by rw [hij]; first | rfl | (rw [Nat.mul_succ]), by show i + 1 ≤ 100; omega, fun hh => ?_, by show ((ch ++ sub o i r).drop r).length = s; rw [List.length_drop, List.length_append, lch, lo]; omega⟩, (by show 200 - (i + 1) < 200 - i; omega), [], ⟨rfl, rfl, rfl, rfl, ?_, rfl, congrArg (vi .i64) ei, trivial⟩, trivial⟩
    ·have hh : i + 1 < lb := hh
     obtain rfl : r = 1 := by omega
     exact (hnx (by omega)).symm
    ·rw [e5, Int.toNat_natCast, Int.toNat_natCast, ec, e6, Int.toNat_natCast]
     exact cf_chain lch lo
   ·exact ⟨_, rfl, [], rfl, trivial⟩
end Go.Scr
