/-
  What the functions of the given program reckon, each by a contract, up to the law. It is no claim by itself; each contract bears its own conditions.
-/
import Derived.Test.YtibipkfepappfaaGreatDoorY5
set_option linter.unusedVariables false
set_option linter.unusedSimpArgs false
set_option maxRecDepth 100000
namespace Go.Scr
open Go.Proofs
theorem ct_at {E D : List UInt8 → List UInt8} {s : Nat} {A0 : List UInt8} (h : CI E D s) (hs : 2 ≤ s) (hA : A0.length = s) {m i : Nat} (hi : i * s + s ≤ m) :
  sub (moMany E 6 false ⟨A0, [], []⟩ (List.replicate m 0)).1 (i * s) s = E (chAt E 6 A0 i) := by
 have lC := h.le (chAt_len (mode := 6) h hA i)
 have lo : (moMany E 6 false ⟨A0, [], []⟩ (List.replicate m 0)).1.length = m := by rw [moMany_len, List.length_replicate]
 refine ext_getD (by rw [sub_length, lo, lC]; omega) fun j hj => ?_
 have hj : j < s := by rw [sub_length] at hj; omega
 have e1 : (sub (moMany E 6 false ⟨A0, [], []⟩ (List.replicate m 0)).1 (i * s) s).getD j 0 = (moMany E 6 false ⟨A0, [], []⟩ (List.replicate m 0)).1.getD (i * s + j) 0 := by
  simp [sub, List.getD_eq_getElem?_getD, List.getElem?_take, hj]
 have e2 : (i * s + j) / s = i := by rw [Nat.mul_comm, Nat.mul_add_div (by omega), Nat.div_eq_of_lt hj, Nat.add_zero]
 have e3 : (i * s + j) % s = j := by rw [Nat.mul_comm, Nat.mul_add_mod, Nat.mod_eq_of_lt hj]
 rw [e1, mo_key h hs (.inr rfl) hA (by rw [List.length_replicate]; omega), e2, e3]
 have e4 : (List.replicate m (0 : UInt8)).getD (i * s + j) 0 = 0 := by
  rw [List.getD_eq_getElem?_getD, List.getElem?_replicate]
  split <;> rfl
 rw [e4, UInt8.zero_xor]
set_option maxHeartbeats 4000000 in
theorem c_mcounts {tag n : Int} {high : Bool} (h0 : -9223372036854775808 ≤ tag ∧ tag ≤ 9223372036854775807) (h1 : -9223372036854775808 ≤ n ∧ n ≤ 9223372036854775807) {lk li : Nat} {k iv' : List UInt8} (hk : k.length = lk) (hi : iv'.length = li) :
  Con C N.law12_ModesCounts [i64 tag, i64 n, .z lk (bv k), .z li (bv iv'), bool high] [] (.ret (bool true)) [] := by
 obtain ⟨s, q, xs, rs, h⟩ := ciph_law tag n k
 have hs := h.s_le
 have hci := h.ci
 have lV := bytesN_len s iv'
 have w3 : IntKind.i64.wrap (3 * (s : Int)) = ((3 * s : Nat) : Int) := by rw [IntWalk.i64_in _ (by omega)]; omega
 have lz : (List.replicate (3 * s) (0 : UInt8)).length = 3 * s := List.length_replicate
 refine con.law12_ModesCounts ?_
 refine ⟨[], _, _, _, _, c_law12_known, rfl, rfl, ?_⟩
 refine ⟨[], _, _, _, _, c_law12_both h0 h1 hk h, rfl, rfl, ?_⟩
 refine ⟨[], _, _, _, _, h.size, rfl, rfl, ?_⟩
 refine ⟨[], _, _, _, _, c_bytes (n := s) rfl hi (by omega), rfl, rfl, ?_⟩
 generalize bytesN s iv' = V0 at *
 cases high
 ·have K0 : MK s 6 ⟨V0, [], []⟩ := MK.new (by decide) (.inr lV)
  have HA : ∀ i, i < 3 → sub (moMany (cF (tagOf tag) (keyOf (tagOf tag) n k) false) 6 false ⟨V0, [], []⟩ (List.replicate (3 * s) 0)).1 (i * s) s = (cF (tagOf tag) (keyOf (tagOf tag) n k) false) (chAt (cF (tagOf tag) (keyOf (tagOf tag) n k) false) 6 V0 i) := fun i hi => ct_at hci (by omega) lV (by have := Nat.mul_le_mul_right s (show i + 1 ≤ 3 by omega); rw [Nat.succ_mul] at this; omega)
  have l0 : (moMany (cF (tagOf tag) (keyOf (tagOf tag) n k) false) 6 false ⟨V0, [], []⟩ (List.replicate (3 * s) 0)).1.length = 3 * s := by rw [moMany_len, lz]
  have T0 := c_step_byte h (mode := 6) (back := false) (st := ⟨V0, [], []⟩) (b := List.replicate (3 * s) 0) rfl lz (by omega) (by decide) K0 (.inr rfl)
  have lC : ∀ j, (chAt (cF (tagOf tag) (keyOf (tagOf tag) n k) false) 6 V0 j).length = s := chAt_len hci lV
  have hnx : ∀ j, incL (chAt (cF (tagOf tag) (keyOf (tagOf tag) n k) false) 6 V0 j) = chAt (cF (tagOf tag) (keyOf (tagOf tag) n k) false) 6 V0 (j + 1) := fun j => rfl
  generalize moMany (cF (tagOf tag) (keyOf (tagOf tag) n k) false) 6 false ⟨V0, [], []⟩ (List.replicate (3 * s) 0) = S0 at *
  obtain ⟨o, ⟨c0, row0, g0⟩⟩ := S0
  dsimp only at T0 l0 HA
  refine ⟨[.d 39 0], _, _, _, _, c_new_own h (mode := 6) (back := false) (i := 1) (iv := V0) lV (by decide), rfl, rfl, ?_⟩
  refine ⟨by rw [w3]; omega, by rw [w3]; omega, by rw [w3]; omega, ?_⟩
  rcases row0 with _ | ⟨a1, r1⟩
  all_goals
   refine ⟨[.d 52 1, .d 52 2], _, _, _, _, T0, ?_, rfl, ?_⟩
   ·rw [w3]
    show [V.p (.k 0) 0, V.z (((3 * s : Nat) : Int).toNat) (sub (List.replicate (((3 * s : Nat) : Int).toNat) (Value.int .u8 0)) 0 (((3 * s : Nat) : Int).toNat))] = _
    rw [Int.toNat_natCast, bv_rep, bv_all lz]
   refine spl_ne (fun h => absurd w3.symm h) (fun _ => ?_)
   refine loopN (fun i => ⟨[(12, .q rs 0), (13, i64 s), (14, .o 1 (.k 0) 0 s), (18, .z (3 * s) (bv o)), (20, i64 i)], [.sc (bv (chAt (cF (tagOf tag) (keyOf (tagOf tag) n k) false) 6 V0 i))]⟩) 3 ⟨[.d 39 0], ⟨rfl, rfl, rfl, rfl, rfl, trivial⟩, ⟨_, rfl, rfl⟩, trivial⟩ fun i hi' => ?_
   refine spl_d (fun hlt => ?_) (fun hge => ?_)
   ·have hlt : i < 3 := by omega
    have Ho := HA i hlt
    have hnx := hnx i
    have lCi := lC i
    have his : i * s + s ≤ 3 * s := by have := Nat.mul_le_mul_right s (show i + 1 ≤ 3 by omega); rw [Nat.succ_mul] at this; omega
    obtain ⟨z, hz⟩ : ∃ z, z = i * s := ⟨_, rfl⟩
    have z1 : IntKind.i64.wrap ((i : Int) * (s : Int)) = ((z : Nat) : Int) := by rw [hz, ← Int.natCast_mul, ← hz, IntWalk.i64_in _ (by omega)]
    have z2 : IntKind.i64.wrap (IntKind.i64.wrap ((i : Int) + 1) * (s : Int)) = ((z + s : Nat) : Int) := by
     have e : IntKind.i64.wrap ((i : Int) + 1) = ((i + 1 : Nat) : Int) := by rw [IntWalk.i64_in _ (by omega)]; rfl
     rw [e, ← Int.natCast_mul, Nat.succ_mul, ← hz, IntWalk.i64_in _ (by omega)]
    rw [← hz] at Ho his
    have lE := h.len (back := false) lCi
    have l1 : (sub o z s).length = s := by rw [sub_length]; omega
    have v1 : sub (bv o) z s = bv (sub o z s) := bv_sub _ _ _
    have ec : (z + s) - z = s := Nat.add_sub_cancel_left _ _
    obtain ⟨C1, hC1⟩ : ∃ x, x = chAt (cF (tagOf tag) (keyOf (tagOf tag) n k) false) 6 V0 (i + 1) := ⟨_, rfl⟩
    rw [← hC1] at hnx
    generalize chAt (cF (tagOf tag) (keyOf (tagOf tag) n k) false) 6 V0 i = C0 at *
    refine ⟨[], _, _, _, _, h.renc lCi (bv_all lCi), rfl, rfl, ?_⟩
    refine ⟨(by first | omega | (rw [z1]; omega) | (rw [z2]; omega) | (rw [z1, z2]; omega) | (rw [z1, z2, Int.toNat_natCast, Int.toNat_natCast]; omega) | (rw [z2, Int.toNat_natCast]; omega)), (by first | omega | (rw [z1]; omega) | (rw [z2]; omega) | (rw [z1, z2]; omega) | (rw [z1, z2, Int.toNat_natCast, Int.toNat_natCast]; omega) | (rw [z2, Int.toNat_natCast]; omega)), (by first | omega | (rw [z1]; omega) | (rw [z2]; omega) | (rw [z1, z2]; omega) | (rw [z1, z2, Int.toNat_natCast, Int.toNat_natCast]; omega) | (rw [z2, Int.toNat_natCast]; omega)), (by first | omega | (rw [z1]; omega) | (rw [z2]; omega) | (rw [z1, z2]; omega) | (rw [z1, z2, Int.toNat_natCast, Int.toNat_natCast]; omega) | (rw [z2, Int.toNat_natCast]; omega)), (by first | omega | (rw [z1]; omega) | (rw [z2]; omega) | (rw [z1, z2]; omega) | (rw [z1, z2, Int.toNat_natCast, Int.toNat_natCast]; omega) | (rw [z2, Int.toNat_natCast]; omega)), ?_⟩
    refine ⟨by rw [z1, z2, Int.toNat_natCast, Int.toNat_natCast, ec, v1, bv_len, l1], sub o z s, by rw [z1, z2, Int.toNat_natCast, Int.toNat_natCast, ec, v1]; rfl, ?_⟩
    refine ⟨str_len lE, _, bv_all lE, ?_⟩
    refine spl_f (by rw [Ho, str_beq]; simp) ?_
    refine ⟨Nat × List UInt8, fun x => ⟨[(12, .q rs 0), (13, i64 s), (14, .o 1 (.k 0) 0 s), (18, .z (3 * s) (bv o)), (20, i64 i), (23, i64 x.1)], [.sc (bv x.2)]⟩, fun x => x.1 ≤ s ∧ x.2.length = s ∧ incN x.2 x.1 = C1, fun x => x.1, ⟨[], (s, C0), ⟨Nat.le_refl _, lCi, by rw [← hnx, ← lCi]; rfl⟩, [.k 0], ⟨rfl, rfl, rfl, rfl, rfl, rfl, trivial⟩, ⟨_, rfl, rfl⟩, trivial⟩, fun x hx => ?_⟩
    obtain ⟨j, c⟩ := x
    obtain ⟨g1, g2, g3⟩ := hx
    dsimp only at g1 g2 g3
    refine spl_d (fun hp => ?_) (fun hp => ?_)
    ·obtain ⟨j, rfl⟩ : ∃ x, j = x + 1 := ⟨j - 1, by have : 0 < j := Int.ofNat_lt.1 hp; omega⟩
     have e1 : IntKind.i64.wrap (((j + 1 : Nat) : Int) - 1) = (j : Int) := by rw [IntWalk.i64_in _ (by omega)]; omega
     rw [incN_step] at g3
     refine ⟨by rw [e1]; omega, by rw [e1]; omega, .int .u8 ((c.getD j 0).toNat : Int), by rw [e1, Int.toNat_natCast, Nat.mul_one, Nat.zero_add]; exact bv_getD (show j < c.length by omega), ?_⟩
     refine ⟨by rw [e1]; omega, by rw [e1]; omega, by rw [e1, Int.toNat_natCast, bv_len]; show 0 + j * 1 < c.length; omega, ?_⟩
     have e2 : (bv c).set (0 + (IntKind.i64.wrap (((j + 1 : Nat) : Int) - 1)).toNat * 1) (.int .u8 (IntKind.u8.wrap (((c.getD j 0).toNat : Int) + 1))) = bv (c.set j (c.getD j 0 + 1)) := by
      rw [e1, Int.toNat_natCast, Nat.mul_one, Nat.zero_add, u8_one, bv_set]
     have l2 : (c.set j (c.getD j 0 + 1)).length = s := by rw [List.length_set, g2]
     have g2' : (c.set j (c.getD j 0 + 1)).getD j 0 = c.getD j 0 + 1 := by
      rw [List.getD_eq_getElem?_getD, List.getElem?_set, if_pos rfl, if_pos (by omega)]; rfl
     refine ⟨by rw [e1]; omega, by rw [e1]; omega, .int .u8 ((c.getD j 0 + 1).toNat : Int), ?_, ?_⟩
     ·show ((bv c).set (0 + (IntKind.i64.wrap (((j + 1 : Nat) : Int) - 1)).toNat * 1) (.int .u8 (IntKind.u8.wrap (((c.getD j 0).toNat : Int) + 1))))[0 + (IntKind.i64.wrap (((j + 1 : Nat) : Int) - 1)).toNat * 1]? = _
      rw [e2, e1, Int.toNat_natCast, Nat.mul_one, Nat.zero_add, bv_getD (by omega), g2']
     refine spl_ne (fun hz => ?_) (fun hz => ?_)
     ·rw [if_neg (fun e => hz ((u8_zero _).2 e))] at g3
      refine ⟨i + 1, by omega, by omega, [.k 0], ⟨rfl, rfl, rfl, rfl, congrArg (vi .i64) (by simp (disch := omega) only [IntWalk.i64_in]; omega), trivial⟩, ⟨_, rfl, congrArg B.sc ?_⟩, trivial⟩
      rw [← hC1, ← g3]; exact e2
     ·rw [if_pos ((u8_zero _).1 hz)] at g3
      exact ⟨(j, c.set j (c.getD j 0 + 1)), ⟨by show j ≤ s; omega, l2, g3⟩, (by show j < j + 1; omega), [.k 0], ⟨rfl, rfl, rfl, rfl, rfl, congrArg (vi .i64) e1, trivial⟩, ⟨_, rfl, congrArg B.sc e2⟩, trivial⟩
    ·obtain rfl : j = 0 := by
      rcases j with _ | j
      ·rfl
      ·exact absurd (Int.ofNat_lt.2 (Nat.succ_pos j)) hp
     refine ⟨i + 1, by omega, by omega, [.k 0], ⟨rfl, rfl, rfl, rfl, congrArg (vi .i64) (by simp (disch := omega) only [IntWalk.i64_in]; omega), trivial⟩, ⟨_, rfl, congrArg B.sc ?_⟩, trivial⟩
     rw [← hC1, ← g3]; rfl
   ·exact ⟨_, rfl, [], rfl, trivial⟩
 ·refine ⟨Nat × List UInt8, fun x => ⟨[(11, cipV (tagOf tag) q xs), (12, .q rs 0), (13, i64 s), (14, .o 1 (.k 0) 0 s), (15, i64 x.1)], [.sc (bv x.2)]⟩, fun x => x.1 ≤ s ∧ x.2.length = s, fun x => s - x.1, ⟨[], (1, V0), ⟨by show 1 ≤ s; omega, lV⟩, [.d 39 0], ⟨rfl, rfl, rfl, rfl, rfl, trivial⟩, ⟨_, rfl, rfl⟩, trivial⟩, fun x hx => ?_⟩
  obtain ⟨i, A0⟩ := x
  obtain ⟨hi1, lA⟩ := hx
  dsimp only at hi1 lA
  refine spl_d (fun hlt => ?_) (fun hge => ?_)
  ·have hlt : i < s := Int.ofNat_lt.1 hlt
   refine ⟨by show (0 : Int) ≤ (i : Int); omega, by show (i : Int) < (s : Int); omega, by rw [bv_len]; show 0 + ((i : Int)).toNat * 1 < A0.length; rw [Int.toNat_natCast]; omega, ?_⟩
   refine ⟨(i + 1, A0.set i 255), ⟨hlt, by rw [List.length_set, lA]⟩, (by show s - (i + 1) < s - i; omega), [.k 0], ⟨rfl, rfl, rfl, rfl, congrArg (vi .i64) ?_, trivial⟩, ⟨_, rfl, congrArg B.sc ?_⟩, trivial⟩
   ·show IntKind.i64.wrap ((i : Int) + 1) = ((i + 1 : Nat) : Int)
    rw [IntWalk.i64_in _ (by omega)]; rfl
   ·show (bv A0).set (0 + ((i : Int)).toNat * 1) (.int .u8 255) = bv (A0.set i 255)
    rw [Int.toNat_natCast, Nat.mul_one, Nat.zero_add]
    exact bv_set A0 i 255
  ·have K0 : MK s 6 ⟨A0, [], []⟩ := MK.new (by decide) (.inr lA)
   have HA : ∀ i, i < 3 → sub (moMany (cF (tagOf tag) (keyOf (tagOf tag) n k) false) 6 false ⟨A0, [], []⟩ (List.replicate (3 * s) 0)).1 (i * s) s = (cF (tagOf tag) (keyOf (tagOf tag) n k) false) (chAt (cF (tagOf tag) (keyOf (tagOf tag) n k) false) 6 A0 i) := fun i hi => ct_at hci (by omega) lA (by have := Nat.mul_le_mul_right s (show i + 1 ≤ 3 by omega); rw [Nat.succ_mul] at this; omega)
   have l0 : (moMany (cF (tagOf tag) (keyOf (tagOf tag) n k) false) 6 false ⟨A0, [], []⟩ (List.replicate (3 * s) 0)).1.length = 3 * s := by rw [moMany_len, lz]
   have T0 := c_step_byte h (mode := 6) (back := false) (st := ⟨A0, [], []⟩) (b := List.replicate (3 * s) 0) rfl lz (by omega) (by decide) K0 (.inr rfl)
   have lC : ∀ j, (chAt (cF (tagOf tag) (keyOf (tagOf tag) n k) false) 6 A0 j).length = s := chAt_len hci lA
   have hnx : ∀ j, incL (chAt (cF (tagOf tag) (keyOf (tagOf tag) n k) false) 6 A0 j) = chAt (cF (tagOf tag) (keyOf (tagOf tag) n k) false) 6 A0 (j + 1) := fun j => rfl
   generalize moMany (cF (tagOf tag) (keyOf (tagOf tag) n k) false) 6 false ⟨A0, [], []⟩ (List.replicate (3 * s) 0) = S0 at *
   obtain ⟨o, ⟨c0, row0, g0⟩⟩ := S0
   dsimp only at T0 l0 HA
   refine ⟨[.k 0], _, _, _, _, c_new_own h (mode := 6) (back := false) (i := 1) (iv := A0) lA (by decide), rfl, rfl, ?_⟩
   refine ⟨by rw [w3]; omega, by rw [w3]; omega, by rw [w3]; omega, ?_⟩
   rcases row0 with _ | ⟨a1, r1⟩
   all_goals
    refine ⟨[.d 52 1, .d 52 2], _, _, _, _, T0, ?_, rfl, ?_⟩
    ·rw [w3]
     show [V.p (.k 0) 0, V.z (((3 * s : Nat) : Int).toNat) (sub (List.replicate (((3 * s : Nat) : Int).toNat) (Value.int .u8 0)) 0 (((3 * s : Nat) : Int).toNat))] = _
     rw [Int.toNat_natCast, bv_rep, bv_all lz]
    refine spl_ne (fun h => absurd w3.symm h) (fun _ => ?_)
    refine loopN (fun i => ⟨[(12, .q rs 0), (13, i64 s), (14, .o 1 (.k 0) 0 s), (18, .z (3 * s) (bv o)), (20, i64 i)], [.sc (bv (chAt (cF (tagOf tag) (keyOf (tagOf tag) n k) false) 6 A0 i))]⟩) 3 ⟨[.k 0], ⟨rfl, rfl, rfl, rfl, rfl, trivial⟩, ⟨_, rfl, rfl⟩, trivial⟩ fun i hi' => ?_
    refine spl_d (fun hlt => ?_) (fun hge => ?_)
    ·have hlt : i < 3 := by omega
     have Ho := HA i hlt
     have hnx := hnx i
     have lCi := lC i
     have his : i * s + s ≤ 3 * s := by have := Nat.mul_le_mul_right s (show i + 1 ≤ 3 by omega); rw [Nat.succ_mul] at this; omega
     obtain ⟨z, hz⟩ : ∃ z, z = i * s := ⟨_, rfl⟩
     have z1 : IntKind.i64.wrap ((i : Int) * (s : Int)) = ((z : Nat) : Int) := by rw [hz, ← Int.natCast_mul, ← hz, IntWalk.i64_in _ (by omega)]
     have z2 : IntKind.i64.wrap (IntKind.i64.wrap ((i : Int) + 1) * (s : Int)) = ((z + s : Nat) : Int) := by
      have e : IntKind.i64.wrap ((i : Int) + 1) = ((i + 1 : Nat) : Int) := by rw [IntWalk.i64_in _ (by omega)]; rfl
      rw [e, ← Int.natCast_mul, Nat.succ_mul, ← hz, IntWalk.i64_in _ (by omega)]
     rw [← hz] at Ho his
     have lE := h.len (back := false) lCi
     have l1 : (sub o z s).length = s := by rw [sub_length]; omega
     have v1 : sub (bv o) z s = bv (sub o z s) := bv_sub _ _ _
     have ec : (z + s) - z = s := Nat.add_sub_cancel_left _ _
     obtain ⟨C1, hC1⟩ : ∃ x, x = chAt (cF (tagOf tag) (keyOf (tagOf tag) n k) false) 6 A0 (i + 1) := ⟨_, rfl⟩
     rw [← hC1] at hnx
     generalize chAt (cF (tagOf tag) (keyOf (tagOf tag) n k) false) 6 A0 i = C0 at *
     refine ⟨[], _, _, _, _, h.renc lCi (bv_all lCi), rfl, rfl, ?_⟩
     refine ⟨(by first | omega | (rw [z1]; omega) | (rw [z2]; omega) | (rw [z1, z2]; omega) | (rw [z1, z2, Int.toNat_natCast, Int.toNat_natCast]; omega) | (rw [z2, Int.toNat_natCast]; omega)), (by first | omega | (rw [z1]; omega) | (rw [z2]; omega) | (rw [z1, z2]; omega) | (rw [z1, z2, Int.toNat_natCast, Int.toNat_natCast]; omega) | (rw [z2, Int.toNat_natCast]; omega)), (by first | omega | (rw [z1]; omega) | (rw [z2]; omega) | (rw [z1, z2]; omega) | (rw [z1, z2, Int.toNat_natCast, Int.toNat_natCast]; omega) | (rw [z2, Int.toNat_natCast]; omega)), (by first | omega | (rw [z1]; omega) | (rw [z2]; omega) | (rw [z1, z2]; omega) | (rw [z1, z2, Int.toNat_natCast, Int.toNat_natCast]; omega) | (rw [z2, Int.toNat_natCast]; omega)), (by first | omega | (rw [z1]; omega) | (rw [z2]; omega) | (rw [z1, z2]; omega) | (rw [z1, z2, Int.toNat_natCast, Int.toNat_natCast]; omega) | (rw [z2, Int.toNat_natCast]; omega)), ?_⟩
     refine ⟨by rw [z1, z2, Int.toNat_natCast, Int.toNat_natCast, ec, v1, bv_len, l1], sub o z s, by rw [z1, z2, Int.toNat_natCast, Int.toNat_natCast, ec, v1]; rfl, ?_⟩
     refine ⟨str_len lE, _, bv_all lE, ?_⟩
     refine spl_f (by rw [Ho, str_beq]; simp) ?_
     refine ⟨Nat × List UInt8, fun x => ⟨[(12, .q rs 0), (13, i64 s), (14, .o 1 (.k 0) 0 s), (18, .z (3 * s) (bv o)), (20, i64 i), (23, i64 x.1)], [.sc (bv x.2)]⟩, fun x => x.1 ≤ s ∧ x.2.length = s ∧ incN x.2 x.1 = C1, fun x => x.1, ⟨[], (s, C0), ⟨Nat.le_refl _, lCi, by rw [← hnx, ← lCi]; rfl⟩, [.k 0], ⟨rfl, rfl, rfl, rfl, rfl, rfl, trivial⟩, ⟨_, rfl, rfl⟩, trivial⟩, fun x hx => ?_⟩
     obtain ⟨j, c⟩ := x
     obtain ⟨g1, g2, g3⟩ := hx
     dsimp only at g1 g2 g3
     refine spl_d (fun hp => ?_) (fun hp => ?_)
     ·obtain ⟨j, rfl⟩ : ∃ x, j = x + 1 := ⟨j - 1, by have : 0 < j := Int.ofNat_lt.1 hp; omega⟩
      have e1 : IntKind.i64.wrap (((j + 1 : Nat) : Int) - 1) = (j : Int) := by rw [IntWalk.i64_in _ (by omega)]; omega
      rw [incN_step] at g3
      refine ⟨by rw [e1]; omega, by rw [e1]; omega, .int .u8 ((c.getD j 0).toNat : Int), by rw [e1, Int.toNat_natCast, Nat.mul_one, Nat.zero_add]; exact bv_getD (show j < c.length by omega), ?_⟩
      refine ⟨by rw [e1]; omega, by rw [e1]; omega, by rw [e1, Int.toNat_natCast, bv_len]; show 0 + j * 1 < c.length; omega, ?_⟩
      have e2 : (bv c).set (0 + (IntKind.i64.wrap (((j + 1 : Nat) : Int) - 1)).toNat * 1) (.int .u8 (IntKind.u8.wrap (((c.getD j 0).toNat : Int) + 1))) = bv (c.set j (c.getD j 0 + 1)) := by
       rw [e1, Int.toNat_natCast, Nat.mul_one, Nat.zero_add, u8_one, bv_set]
      have l2 : (c.set j (c.getD j 0 + 1)).length = s := by rw [List.length_set, g2]
      have g2' : (c.set j (c.getD j 0 + 1)).getD j 0 = c.getD j 0 + 1 := by
       rw [List.getD_eq_getElem?_getD, List.getElem?_set, if_pos rfl, if_pos (by omega)]; rfl
      refine ⟨by rw [e1]; omega, by rw [e1]; omega, .int .u8 ((c.getD j 0 + 1).toNat : Int), ?_, ?_⟩
      ·show ((bv c).set (0 + (IntKind.i64.wrap (((j + 1 : Nat) : Int) - 1)).toNat * 1) (.int .u8 (IntKind.u8.wrap (((c.getD j 0).toNat : Int) + 1))))[0 + (IntKind.i64.wrap (((j + 1 : Nat) : Int) - 1)).toNat * 1]? = _
       rw [e2, e1, Int.toNat_natCast, Nat.mul_one, Nat.zero_add, bv_getD (by omega), g2']
      refine spl_ne (fun hz => ?_) (fun hz => ?_)
      ·rw [if_neg (fun e => hz ((u8_zero _).2 e))] at g3
       refine ⟨i + 1, by omega, by omega, [.k 0], ⟨rfl, rfl, rfl, rfl, congrArg (vi .i64) (by simp (disch := omega) only [IntWalk.i64_in]; omega), trivial⟩, ⟨_, rfl, congrArg B.sc ?_⟩, trivial⟩
       rw [← hC1, ← g3]; exact e2
      ·rw [if_pos ((u8_zero _).1 hz)] at g3
       exact ⟨(j, c.set j (c.getD j 0 + 1)), ⟨by show j ≤ s; omega, l2, g3⟩, (by show j < j + 1; omega), [.k 0], ⟨rfl, rfl, rfl, rfl, rfl, congrArg (vi .i64) e1, trivial⟩, ⟨_, rfl, congrArg B.sc e2⟩, trivial⟩
     ·obtain rfl : j = 0 := by
       rcases j with _ | j
       ·rfl
       ·exact absurd (Int.ofNat_lt.2 (Nat.succ_pos j)) hp
      refine ⟨i + 1, by omega, by omega, [.k 0], ⟨rfl, rfl, rfl, rfl, congrArg (vi .i64) (by simp (disch := omega) only [IntWalk.i64_in]; omega), trivial⟩, ⟨_, rfl, congrArg B.sc ?_⟩, trivial⟩
      rw [← hC1, ← g3]; rfl
    ·exact ⟨_, rfl, [], rfl, trivial⟩
end Go.Scr
