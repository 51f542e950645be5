/-
  What the functions of the given program reckon, each by a contract, up to the law. It is no claim by itself; each contract bears its own conditions.
-/
import Derived.Test.YtjoniepofpcolaaGreatDoorY2
set_option linter.unusedVariables false
set_option linter.unusedSimpArgs false
set_option maxRecDepth 100000
namespace Go.Scr
open Go.Proofs
set_option maxHeartbeats 2000000 in
theorem c_mcut {tag n mode : Int} {back : Bool} (h0 : -9223372036854775808 ≤ tag ∧ tag ≤ 9223372036854775807) (h1 : -9223372036854775808 ≤ n ∧ n ≤ 9223372036854775807) {lk li lb ln : Nat} {k iv' b : List UInt8} (hk : k.length = lk) (hm : -9223372036854775808 ≤ mode ∧ mode ≤ 9223372036854775807) (hi : iv'.length = li) (hb : b.length = lb) {ns : List Int} (hn : ns.length = ln) (hns : ∀ n ∈ ns, -9223372036854775808 ≤ n ∧ n ≤ 9223372036854775807) :
  Con C N.law12_ModesCut [i64 tag, i64 n, .z lk (bv k), i64 mode, bool back, .z li (bv iv'), .z lb (bv b), .z ln (iv ns)] [] (.ret (bool true)) [] := by
 subst hb
 obtain ⟨s, q, xs, rs, h⟩ := ciph_law tag n k
 have hs := h.s_le
 have hci := h.ci
 obtain ⟨g, hg, hg1⟩ := emod_nat mode (n := 6) (by omega)
 obtain ⟨M, hM⟩ : ∃ M : Int, M = 1 + (g : Int) := ⟨_, rfl⟩
 have e1 : IntKind.i64.wrap (1 + mode % 6) = M := by rw [IntWalk.i64_in _ (by omega)]; omega
 have lI := ivL_len M s iv'
 obtain ⟨gr, hgr⟩ : ∃ gr, gr = moGrain s M := ⟨_, rfl⟩
 have hgp : 0 < gr := by rw [hgr]; unfold moGrain; split <;> omega
 have hg16 : gr ≤ 16 := by rw [hgr]; unfold moGrain; split <;> omega
 refine con.law12_ModesCut ?_
 refine ⟨[], _, _, _, _, c_law12_known, rfl, rfl, ?_⟩
 refine spl_d (fun h200 => ?_) (fun h200 => ?_)
 ·exact ⟨_, rfl, [], rfl, trivial⟩
 refine ⟨[], _, _, _, _, c_law12_both h0 h1 hk h, rfl, rfl, ?_⟩
 refine ⟨[], _, _, _, _, c_w12 (a := mode) (n := 6) (by omega) (by omega) hm, rfl, rfl, ?_⟩
 refine ⟨[], _, _, _, _, h.size, rfl, rfl, ?_⟩
 refine ⟨[], _, _, _, _, c_iv (mode := M) (s := s) rfl hi (by omega), ?_, rfl, ?_⟩
 ·rw [e1]; rfl
 refine ⟨[], _, _, _, _, c_new_m h (mode := M) (back := back) (i := 1) (iv := ivL M s iv') rfl lI (by omega) rfl, ?_, rfl, ?_⟩
 ·rw [e1]; rfl
 refine ⟨[], _, _, _, _, h.size, rfl, rfl, ?_⟩
 refine ⟨[], _, _, _, _, c_iv (mode := M) (s := s) rfl hi (by omega), ?_, rfl, ?_⟩
 ·rw [e1]; rfl
 refine ⟨[], _, _, _, _, c_new_m h (mode := M) (back := back) (i := 1) (iv := ivL M s iv') rfl lI (by omega) rfl, ?_, rfl, ?_⟩
 ·rw [e1]; rfl
 generalize ivL M s iv' = V0 at *
 have K0 : MK s M ⟨V0, [], []⟩ := MK.new (by omega) (by
  unfold ivN at lI
  by_cases h1 : M = 1
  ·exact .inl h1
  ·rw [if_neg h1] at lI; exact .inr lI)
 refine ⟨[.d 61 0, .d 61 1], _, _, _, _, c_grainA h (back := back) K0, rfl, rfl, ?_⟩
 rw [← hgr]
 obtain ⟨w, hw⟩ : ∃ w, w = b.length / gr * gr := ⟨_, rfl⟩
 have hwl : w ≤ b.length := by rw [hw]; exact Nat.div_mul_le_self _ _
 have hwg : w % gr = 0 := by rw [hw]; exact Nat.mul_mod_left _ _
 have e4 : IntKind.i64.wrap (IntKind.i64.wrap ((b.length : Int).tdiv (gr : Int)) * (gr : Int)) = ((w : Nat) : Int) := by rw [hw]; exact i64_quomul (by omega)
 have lp : (sub b 0 w).length = w := by rw [sub_length]; omega
 have hvp : sub (bv b) 0 w = bv (sub b 0 w) := bv_sub _ _ _
 refine spl_d (fun h => absurd h (by omega)) (fun _ => ?_)
 refine spl_d (fun h => absurd h (by omega)) (fun _ => ?_)
 refine ⟨by omega, ?_⟩
 refine ⟨by rw [e4]; omega, by rw [e4]; omega, by rw [e4]; omega, by rw [e4]; omega, ?_⟩
 generalize sub b 0 w = bb at *
 have SX := c_step h (back := back) (st := ⟨V0, [], []⟩) (b := bb) rfl lp (by omega) K0 (by rw [← hgr]; exact hwg) (.inr rfl)
 obtain ⟨al, hal⟩ : ∃ al, al = (moStep (cF (tagOf tag) (keyOf (tagOf tag) n k) false) (cF (tagOf tag) (keyOf (tagOf tag) n k) true) s M back ⟨V0, [], []⟩ bb).1 := ⟨_, rfl⟩
 have lal : al.length = w := by rw [hal, moStep_len hci K0.ok (by rw [lp, ← hgr]; exact hwg), lp]
 obtain ⟨x1, hx1⟩ : ∃ x1, x1 = (moStep (cF (tagOf tag) (keyOf (tagOf tag) n k) false) (cF (tagOf tag) (keyOf (tagOf tag) n k) true) s M back ⟨V0, [], []⟩ bb).2 := ⟨_, rfl⟩
 have hAl : moStep (cF (tagOf tag) (keyOf (tagOf tag) n k) false) (cF (tagOf tag) (keyOf (tagOf tag) n k) true) s M back ⟨V0, [], []⟩ bb = (al, x1) := by rw [hal, hx1]
 rw [hAl] at SX
 dsimp only at SX
 obtain ⟨c1, row1, g1⟩ := x1
 rcases row1 with _ | ⟨a1, r1⟩
 all_goals
  refine ⟨[.d 61 0, .d 61 1], _, _, _, _, SX, ?_, rfl, ?_⟩
  ·rw [e4]
   show [V.p (.k 0) 0, V.z w (sub (bv b) 0 w)] = _
   rw [hvp]
  refine ⟨Nat × Nat × List UInt8 × MS, mcS (cipV (tagOf tag) q xs) M back gr w ln bb al ns, fun x => x.1 ≤ 40 ∧ x.2.1 ≤ w ∧ x.2.1 % gr = 0 ∧ moStep (cF (tagOf tag) (keyOf (tagOf tag) n k) false) (cF (tagOf tag) (keyOf (tagOf tag) n k) true) s M back ⟨V0, [], []⟩ (bb.take x.2.1) = (x.2.2.1, x.2.2.2) ∧ MK s M x.2.2.2 ∧ x.2.2.1.length = x.2.1, fun x => 41 - x.1, ?_, fun x hx => ?_⟩
  ·have e6 : V.z (IntKind.i64.wrap (IntKind.i64.wrap ((b.length : Int).tdiv (gr : Int)) * (gr : Int))).toNat (sub (bv b) 0 (IntKind.i64.wrap (IntKind.i64.wrap ((b.length : Int).tdiv (gr : Int)) * (gr : Int))).toNat) = V.z w (bv bb) := by rw [e4, Int.toNat_natCast, hvp]
   exact ⟨[(27, 1, .sc [])], (0, 0, [], ⟨V0, [], []⟩), ⟨Nat.zero_le _, Nat.zero_le _, Nat.zero_mod _, moStep_nil, K0, rfl⟩, [.d 73 0, .d 73 1, .d 900000 0], ⟨e6, rfl, rfl, rfl, rfl, rfl, rfl, e6, rfl, trivial⟩, ⟨_, rfl, rfl⟩, ⟨_, rfl, rfl⟩, ⟨_, rfl, rfl⟩, trivial⟩
  obtain ⟨i, c, o, ⟨ch, row, gg⟩⟩ := x
  obtain ⟨hi40, h1', h2, h3, K, h5⟩ := hx
  dsimp only at hi40 h1' h2 h3 K h5
  have ld : (bb.drop c).length = w - c := by rw [List.length_drop, lp]
  have ltc : (bb.take c).length = c := by rw [List.length_take]; omega
  have hrg : (w - c) % gr = 0 := Nat.mod_eq_zero_of_dvd (Nat.dvd_sub (Nat.dvd_of_mod_eq_zero hwg) (Nat.dvd_of_mod_eq_zero h2))
  refine spl_d (fun hle => ?_) (fun hle => ?_)
  ·refine spl_d (fun h40 => ?_) (fun h40 => ?_)
   ·have hi40 : i + 1 ≤ 40 := by omega
    have ei : IntKind.i64.wrap ((i : Int) + 1) = ((i + 1 : Nat) : Int) := by rw [IntWalk.i64_in _ (by omega)]; rfl
    refine spl_d (fun hlt => ?_) (fun hlt => ?_)
    ·have hlt : i < ns.length := by omega
     obtain ⟨x, hx⟩ : ∃ x, ns[i] = x := ⟨_, rfl⟩
     have hxb : -9223372036854775808 ≤ x ∧ x ≤ 9223372036854775807 := hns x (hx ▸ List.getElem_mem hlt)
     have hv : (iv ns)[((i : Nat) : Int).toNat]? = some (Value.int .i64 x) := by rw [Int.toNat_natCast, iv_get hlt, hx]
     obtain ⟨d, hd, hd1⟩ := emod_nat x (n := 9) (by omega)
     have hdl : d * gr ≤ 8 * 16 := Nat.mul_le_mul (by omega) hg16
     obtain ⟨m1, hm1⟩ : ∃ m1, m1 = min (d * gr) (w - c) := ⟨_, rfl⟩
     have hmg : m1 % gr = 0 := by
      rw [hm1]
      rcases Nat.le_total (d * gr) (w - c) with hh | hh
      ·rw [Nat.min_eq_left hh]; exact Nat.mul_mod_left _ _
      ·rw [Nat.min_eq_right hh]; exact hrg
     have e7 : IntKind.i64.wrap (x % 9 * (gr : Int)) = ((d * gr : Nat) : Int) := by
      have e : x % 9 * (gr : Int) = ((d * gr : Nat) : Int) := by rw [show x % 9 = (d : Int) from hd, Int.natCast_mul]
      rw [e, IntWalk.i64_in _ (by omega)]
     have e5 : (if ((w - c : Nat) : Int) < IntKind.i64.wrap (x % 9 * (gr : Int)) then ((w - c : Nat) : Int) else IntKind.i64.wrap (x % 9 * (gr : Int))) = ((m1 : Nat) : Int) := by
      rw [e7, hm1]
      split <;> omega
     refine ⟨(by omega), (by omega), _, hv, ?_⟩
     refine ⟨[], _, _, _, _, c_w12 (a := x) (n := 9) (by omega) (by omega) hxb, rfl, rfl, ?_⟩
     refine ⟨by first | omega | (rw [e5]; omega), by first | omega | (rw [e5]; omega), by first | omega | (rw [e5]; omega), by first | omega | (rw [e5]; omega), ?_⟩
     refine ⟨by first | omega | (rw [e5]; omega), by first | omega | (rw [e5]; omega), by first | omega | (rw [e5]; omega), by first | omega | (rw [e5]; omega), ?_⟩
     have hcm : c + m1 ≤ w := by omega
     have hcg : (c + m1) % gr = 0 := by rw [Nat.add_mod, h2, hmg]; simp
     have lq : (sub (bb.drop c) 0 m1).length = m1 := by rw [sub_length]; omega
     have hvq : sub (bv (bb.drop c)) 0 m1 = bv (sub (bb.drop c) 0 m1) := bv_sub _ _ _
     have hsl : sub (bv (bb.drop c)) m1 (w - c - m1) = bv (bb.drop (c + m1)) := by rw [bv_dropN ld (by omega), List.drop_drop]
     have htk : bb.take (c + m1) = bb.take c ++ sub (bb.drop c) 0 m1 := by rw [List.take_add]; rfl
     obtain ⟨o1, st1, hS, lo1, K1, OUT⟩ := step_one h back (st := ⟨ch, row, gg⟩) (p := sub (bb.drop c) 0 m1) lq (by omega) K (by rw [← hgr]; exact hmg)
     have hNx : moStep (cF (tagOf tag) (keyOf (tagOf tag) n k) false) (cF (tagOf tag) (keyOf (tagOf tag) n k) true) s M back ⟨V0, [], []⟩ (bb.take (c + m1)) = (o ++ o1, st1) := by
      rw [htk, moStep_app (by omega) (by rw [ltc, ← hgr]; exact h2) (by rw [lq, ← hgr]; exact hmg), h3]
      dsimp only
      rw [hS]
     rcases OUT with ⟨rfl, A⟩ | A
     ·rcases row with _ | ⟨a0, r1⟩
      ·refine ⟨[.k 0, .k 1], _, _, _, _, A, ?_, rfl, ?_⟩
       ·rw [e5]
        show [V.p (.k 0) 0, V.z m1 (sub (bv (bb.drop c)) 0 m1)] = _
        rw [hvq]
       refine ⟨by first | omega | (rw [bv_len]; omega), by omega, by rw [bv_len, h5]; omega, ?_⟩
       refine ⟨(i + 1, c + m1, o ++ o1, ⟨_, _, _⟩), ⟨hi40, hcm, hcg, hNx, K1, by rw [List.length_append, h5, lo1]⟩, (by show 41 - (i + 1) < 41 - i; omega), [.k 0, .k 1, .d 146 0], ⟨rfl, rfl, rfl, rfl, rfl, rfl, rfl, ?_, congrArg (vi .i64) ei, trivial⟩, ⟨_, rfl, rfl⟩, ⟨_, rfl, rfl⟩, ⟨_, rfl, congrArg B.sc ?_⟩, trivial⟩
       ·rw [e5]
        show V.z (w - c - m1) (sub (bv (bb.drop c)) m1 (w - c - m1)) = V.z (w - (c + m1)) _
        rw [hsl, Nat.sub_sub]
       ·show sub (bv o) 0 (c * 1) ++ bv o1 = _
        rw [Nat.mul_one, bv_all h5, bv_app]
      ·refine ⟨[.k 0, .k 1], _, _, _, _, A, ?_, rfl, ?_⟩
       ·rw [e5]
        show [V.p (.k 0) 0, V.z m1 (sub (bv (bb.drop c)) 0 m1)] = _
        rw [hvq]
       refine ⟨by first | omega | (rw [bv_len]; omega), by omega, by rw [bv_len, h5]; omega, ?_⟩
       refine ⟨(i + 1, c + m1, o ++ o1, ⟨_, _, _⟩), ⟨hi40, hcm, hcg, hNx, K1, by rw [List.length_append, h5, lo1]⟩, (by show 41 - (i + 1) < 41 - i; omega), [.k 0, .k 1, .d 146 0], ⟨rfl, rfl, rfl, rfl, rfl, rfl, rfl, ?_, congrArg (vi .i64) ei, trivial⟩, ⟨_, rfl, rfl⟩, ⟨_, rfl, rfl⟩, ⟨_, rfl, congrArg B.sc ?_⟩, trivial⟩
       ·rw [e5]
        show V.z (w - c - m1) (sub (bv (bb.drop c)) m1 (w - c - m1)) = V.z (w - (c + m1)) _
        rw [hsl, Nat.sub_sub]
       ·show sub (bv o) 0 (c * 1) ++ bv o1 = _
        rw [Nat.mul_one, bv_all h5, bv_app]
     ·obtain ⟨ch1, row1, g1⟩ := st1
      rcases row with _ | ⟨a0, r1⟩ <;> rcases row1 with _ | ⟨a1, r2⟩
      ·refine ⟨[.k 0, .k 1], _, _, _, _, A, ?_, rfl, ?_⟩
       ·rw [e5]
        show [V.p (.k 0) 0, V.z m1 (sub (bv (bb.drop c)) 0 m1)] = _
        rw [hvq]
       refine ⟨by first | omega | (rw [bv_len]; omega), by omega, by rw [bv_len, h5]; omega, ?_⟩
       refine ⟨(i + 1, c + m1, o ++ o1, ⟨_, _, _⟩), ⟨hi40, hcm, hcg, hNx, K1, by rw [List.length_append, h5, lo1]⟩, (by show 41 - (i + 1) < 41 - i; omega), [.k 0, .d 139 2, .d 146 0], ⟨rfl, rfl, rfl, rfl, rfl, rfl, rfl, ?_, congrArg (vi .i64) ei, trivial⟩, ⟨_, rfl, rfl⟩, ⟨_, rfl, rfl⟩, ⟨_, rfl, congrArg B.sc ?_⟩, trivial⟩
       ·rw [e5]
        show V.z (w - c - m1) (sub (bv (bb.drop c)) m1 (w - c - m1)) = V.z (w - (c + m1)) _
        rw [hsl, Nat.sub_sub]
       ·show sub (bv o) 0 (c * 1) ++ bv o1 = _
        rw [Nat.mul_one, bv_all h5, bv_app]
      ·refine ⟨[.k 0, .k 1], _, _, _, _, A, ?_, rfl, ?_⟩
       ·rw [e5]
        show [V.p (.k 0) 0, V.z m1 (sub (bv (bb.drop c)) 0 m1)] = _
        rw [hvq]
       refine ⟨by first | omega | (rw [bv_len]; omega), by omega, by rw [bv_len, h5]; omega, ?_⟩
       refine ⟨(i + 1, c + m1, o ++ o1, ⟨_, _, _⟩), ⟨hi40, hcm, hcg, hNx, K1, by rw [List.length_append, h5, lo1]⟩, (by show 41 - (i + 1) < 41 - i; omega), [.k 0, .d 139 2, .d 146 0], ⟨rfl, rfl, rfl, rfl, rfl, rfl, rfl, ?_, congrArg (vi .i64) ei, trivial⟩, ⟨_, rfl, rfl⟩, ⟨_, rfl, rfl⟩, ⟨_, rfl, congrArg B.sc ?_⟩, trivial⟩
       ·rw [e5]
        show V.z (w - c - m1) (sub (bv (bb.drop c)) m1 (w - c - m1)) = V.z (w - (c + m1)) _
        rw [hsl, Nat.sub_sub]
       ·show sub (bv o) 0 (c * 1) ++ bv o1 = _
        rw [Nat.mul_one, bv_all h5, bv_app]
      ·refine ⟨[.k 0, .k 1], _, _, _, _, A, ?_, rfl, ?_⟩
       ·rw [e5]
        show [V.p (.k 0) 0, V.z m1 (sub (bv (bb.drop c)) 0 m1)] = _
        rw [hvq]
       refine ⟨by first | omega | (rw [bv_len]; omega), by omega, by rw [bv_len, h5]; omega, ?_⟩
       refine ⟨(i + 1, c + m1, o ++ o1, ⟨_, _, _⟩), ⟨hi40, hcm, hcg, hNx, K1, by rw [List.length_append, h5, lo1]⟩, (by show 41 - (i + 1) < 41 - i; omega), [.k 0, .d 139 2, .d 146 0], ⟨rfl, rfl, rfl, rfl, rfl, rfl, rfl, ?_, congrArg (vi .i64) ei, trivial⟩, ⟨_, rfl, rfl⟩, ⟨_, rfl, rfl⟩, ⟨_, rfl, congrArg B.sc ?_⟩, trivial⟩
       ·rw [e5]
        show V.z (w - c - m1) (sub (bv (bb.drop c)) m1 (w - c - m1)) = V.z (w - (c + m1)) _
        rw [hsl, Nat.sub_sub]
       ·show sub (bv o) 0 (c * 1) ++ bv o1 = _
        rw [Nat.mul_one, bv_all h5, bv_app]
      ·refine ⟨[.k 0, .k 1], _, _, _, _, A, ?_, rfl, ?_⟩
       ·rw [e5]
        show [V.p (.k 0) 0, V.z m1 (sub (bv (bb.drop c)) 0 m1)] = _
        rw [hvq]
       refine ⟨by first | omega | (rw [bv_len]; omega), by omega, by rw [bv_len, h5]; omega, ?_⟩
       refine ⟨(i + 1, c + m1, o ++ o1, ⟨_, _, _⟩), ⟨hi40, hcm, hcg, hNx, K1, by rw [List.length_append, h5, lo1]⟩, (by show 41 - (i + 1) < 41 - i; omega), [.k 0, .d 139 2, .d 146 0], ⟨rfl, rfl, rfl, rfl, rfl, rfl, rfl, ?_, congrArg (vi .i64) ei, trivial⟩, ⟨_, rfl, rfl⟩, ⟨_, rfl, rfl⟩, ⟨_, rfl, congrArg B.sc ?_⟩, trivial⟩
       ·rw [e5]
        show V.z (w - c - m1) (sub (bv (bb.drop c)) m1 (w - c - m1)) = V.z (w - (c + m1)) _
        rw [hsl, Nat.sub_sub]
       ·show sub (bv o) 0 (c * 1) ++ bv o1 = _
        rw [Nat.mul_one, bv_all h5, bv_app]
    ·obtain ⟨m1, hm1⟩ : ∃ m1, m1 = w - c := ⟨_, rfl⟩
     have hmg : m1 % gr = 0 := by rw [hm1]; exact hrg
     refine ⟨by omega, by omega, by omega, by omega, ?_⟩
     have hcm : c + m1 ≤ w := by omega
     have hcg : (c + m1) % gr = 0 := by rw [Nat.add_mod, h2, hmg]; simp
     have lq : (sub (bb.drop c) 0 m1).length = m1 := by rw [sub_length]; omega
     have hvq : sub (bv (bb.drop c)) 0 m1 = bv (sub (bb.drop c) 0 m1) := bv_sub _ _ _
     have hsl : sub (bv (bb.drop c)) m1 (w - c - m1) = bv (bb.drop (c + m1)) := by rw [bv_dropN ld (by omega), List.drop_drop]
     have htk : bb.take (c + m1) = bb.take c ++ sub (bb.drop c) 0 m1 := by rw [List.take_add]; rfl
     obtain ⟨o1, st1, hS, lo1, K1, OUT⟩ := step_one h back (st := ⟨ch, row, gg⟩) (p := sub (bb.drop c) 0 m1) lq (by omega) K (by rw [← hgr]; exact hmg)
     have hNx : moStep (cF (tagOf tag) (keyOf (tagOf tag) n k) false) (cF (tagOf tag) (keyOf (tagOf tag) n k) true) s M back ⟨V0, [], []⟩ (bb.take (c + m1)) = (o ++ o1, st1) := by
      rw [htk, moStep_app (by omega) (by rw [ltc, ← hgr]; exact h2) (by rw [lq, ← hgr]; exact hmg), h3]
      dsimp only
      rw [hS]
     have hpe : bb.drop c = sub (bb.drop c) 0 m1 := (sub_all (by rw [hm1]; exact ld)).symm
     rcases OUT with ⟨rfl, A⟩ | A
     ·rcases row with _ | ⟨a0, r1⟩
      ·refine ⟨[.k 0, .k 1], _, _, _, _, A, ?_, rfl, ?_⟩
       ·show [V.p (.k 0) 0, V.z (w - c) (bv (bb.drop c))] = [V.p (.k 0) 0, V.z m1 (bv (sub (bb.drop c) 0 m1))]
        rw [← hpe, hm1]
       refine ⟨by first | omega | (rw [bv_len]; omega), by omega, by rw [bv_len, h5]; omega, ?_⟩
       refine ⟨(i + 1, c + m1, o ++ o1, ⟨_, _, _⟩), ⟨hi40, hcm, hcg, hNx, K1, by rw [List.length_append, h5, lo1]⟩, (by show 41 - (i + 1) < 41 - i; omega), [.k 0, .k 1, .d 146 0], ⟨rfl, rfl, rfl, rfl, rfl, rfl, rfl, ?_, congrArg (vi .i64) ei, trivial⟩, ⟨_, rfl, rfl⟩, ⟨_, rfl, rfl⟩, ⟨_, rfl, congrArg B.sc ?_⟩, trivial⟩
       ·show V.z (w - c - (w - c)) (sub (bv (bb.drop c)) (w - c) (w - c - (w - c))) = V.z (w - (c + m1)) _
        have e := hsl
        rw [hm1] at e ⊢
        rw [e, Nat.sub_sub]
       ·show sub (bv o) 0 (c * 1) ++ bv o1 = _
        rw [Nat.mul_one, bv_all h5, bv_app]
      ·refine ⟨[.k 0, .k 1], _, _, _, _, A, ?_, rfl, ?_⟩
       ·show [V.p (.k 0) 0, V.z (w - c) (bv (bb.drop c))] = [V.p (.k 0) 0, V.z m1 (bv (sub (bb.drop c) 0 m1))]
        rw [← hpe, hm1]
       refine ⟨by first | omega | (rw [bv_len]; omega), by omega, by rw [bv_len, h5]; omega, ?_⟩
       refine ⟨(i + 1, c + m1, o ++ o1, ⟨_, _, _⟩), ⟨hi40, hcm, hcg, hNx, K1, by rw [List.length_append, h5, lo1]⟩, (by show 41 - (i + 1) < 41 - i; omega), [.k 0, .k 1, .d 146 0], ⟨rfl, rfl, rfl, rfl, rfl, rfl, rfl, ?_, congrArg (vi .i64) ei, trivial⟩, ⟨_, rfl, rfl⟩, ⟨_, rfl, rfl⟩, ⟨_, rfl, congrArg B.sc ?_⟩, trivial⟩
       ·show V.z (w - c - (w - c)) (sub (bv (bb.drop c)) (w - c) (w - c - (w - c))) = V.z (w - (c + m1)) _
        have e := hsl
        rw [hm1] at e ⊢
        rw [e, Nat.sub_sub]
       ·show sub (bv o) 0 (c * 1) ++ bv o1 = _
        rw [Nat.mul_one, bv_all h5, bv_app]
     ·obtain ⟨ch1, row1, g1⟩ := st1
      rcases row with _ | ⟨a0, r1⟩ <;> rcases row1 with _ | ⟨a1, r2⟩
      ·refine ⟨[.k 0, .k 1], _, _, _, _, A, ?_, rfl, ?_⟩
       ·show [V.p (.k 0) 0, V.z (w - c) (bv (bb.drop c))] = [V.p (.k 0) 0, V.z m1 (bv (sub (bb.drop c) 0 m1))]
        rw [← hpe, hm1]
       refine ⟨by first | omega | (rw [bv_len]; omega), by omega, by rw [bv_len, h5]; omega, ?_⟩
       refine ⟨(i + 1, c + m1, o ++ o1, ⟨_, _, _⟩), ⟨hi40, hcm, hcg, hNx, K1, by rw [List.length_append, h5, lo1]⟩, (by show 41 - (i + 1) < 41 - i; omega), [.k 0, .d 139 2, .d 146 0], ⟨rfl, rfl, rfl, rfl, rfl, rfl, rfl, ?_, congrArg (vi .i64) ei, trivial⟩, ⟨_, rfl, rfl⟩, ⟨_, rfl, rfl⟩, ⟨_, rfl, congrArg B.sc ?_⟩, trivial⟩
       ·show V.z (w - c - (w - c)) (sub (bv (bb.drop c)) (w - c) (w - c - (w - c))) = V.z (w - (c + m1)) _
        have e := hsl
        rw [hm1] at e ⊢
        rw [e, Nat.sub_sub]
       ·show sub (bv o) 0 (c * 1) ++ bv o1 = _
        rw [Nat.mul_one, bv_all h5, bv_app]
      ·refine ⟨[.k 0, .k 1], _, _, _, _, A, ?_, rfl, ?_⟩
       ·show [V.p (.k 0) 0, V.z (w - c) (bv (bb.drop c))] = [V.p (.k 0) 0, V.z m1 (bv (sub (bb.drop c) 0 m1))]
        rw [← hpe, hm1]
       refine ⟨by first | omega | (rw [bv_len]; omega), by omega, by rw [bv_len, h5]; omega, ?_⟩
       refine ⟨(i + 1, c + m1, o ++ o1, ⟨_, _, _⟩), ⟨hi40, hcm, hcg, hNx, K1, by rw [List.length_append, h5, lo1]⟩, (by show 41 - (i + 1) < 41 - i; omega), [.k 0, .d 139 2, .d 146 0], ⟨rfl, rfl, rfl, rfl, rfl, rfl, rfl, ?_, congrArg (vi .i64) ei, trivial⟩, ⟨_, rfl, rfl⟩, ⟨_, rfl, rfl⟩, ⟨_, rfl, congrArg B.sc ?_⟩, trivial⟩
       ·show V.z (w - c - (w - c)) (sub (bv (bb.drop c)) (w - c) (w - c - (w - c))) = V.z (w - (c + m1)) _
        have e := hsl
        rw [hm1] at e ⊢
        rw [e, Nat.sub_sub]
       ·show sub (bv o) 0 (c * 1) ++ bv o1 = _
        rw [Nat.mul_one, bv_all h5, bv_app]
      ·refine ⟨[.k 0, .k 1], _, _, _, _, A, ?_, rfl, ?_⟩
       ·show [V.p (.k 0) 0, V.z (w - c) (bv (bb.drop c))] = [V.p (.k 0) 0, V.z m1 (bv (sub (bb.drop c) 0 m1))]
        rw [← hpe, hm1]
       refine ⟨by first | omega | (rw [bv_len]; omega), by omega, by rw [bv_len, h5]; omega, ?_⟩
       refine ⟨(i + 1, c + m1, o ++ o1, ⟨_, _, _⟩), ⟨hi40, hcm, hcg, hNx, K1, by rw [List.length_append, h5, lo1]⟩, (by show 41 - (i + 1) < 41 - i; omega), [.k 0, .d 139 2, .d 146 0], ⟨rfl, rfl, rfl, rfl, rfl, rfl, rfl, ?_, congrArg (vi .i64) ei, trivial⟩, ⟨_, rfl, rfl⟩, ⟨_, rfl, rfl⟩, ⟨_, rfl, congrArg B.sc ?_⟩, trivial⟩
       ·show V.z (w - c - (w - c)) (sub (bv (bb.drop c)) (w - c) (w - c - (w - c))) = V.z (w - (c + m1)) _
        have e := hsl
        rw [hm1] at e ⊢
        rw [e, Nat.sub_sub]
       ·show sub (bv o) 0 (c * 1) ++ bv o1 = _
        rw [Nat.mul_one, bv_all h5, bv_app]
      ·refine ⟨[.k 0, .k 1], _, _, _, _, A, ?_, rfl, ?_⟩
       ·show [V.p (.k 0) 0, V.z (w - c) (bv (bb.drop c))] = [V.p (.k 0) 0, V.z m1 (bv (sub (bb.drop c) 0 m1))]
        rw [← hpe, hm1]
       refine ⟨by first | omega | (rw [bv_len]; omega), by omega, by rw [bv_len, h5]; omega, ?_⟩
       refine ⟨(i + 1, c + m1, o ++ o1, ⟨_, _, _⟩), ⟨hi40, hcm, hcg, hNx, K1, by rw [List.length_append, h5, lo1]⟩, (by show 41 - (i + 1) < 41 - i; omega), [.k 0, .d 139 2, .d 146 0], ⟨rfl, rfl, rfl, rfl, rfl, rfl, rfl, ?_, congrArg (vi .i64) ei, trivial⟩, ⟨_, rfl, rfl⟩, ⟨_, rfl, rfl⟩, ⟨_, rfl, congrArg B.sc ?_⟩, trivial⟩
       ·show V.z (w - c - (w - c)) (sub (bv (bb.drop c)) (w - c) (w - c - (w - c))) = V.z (w - (c + m1)) _
        have e := hsl
        rw [hm1] at e ⊢
        rw [e, Nat.sub_sub]
       ·show sub (bv o) 0 (c * 1) ++ bv o1 = _
        rw [Nat.mul_one, bv_all h5, bv_app]
   ·obtain ⟨o1, st1, hS, lo1, K1, OUT⟩ := step_one h back (st := ⟨ch, row, gg⟩) (p := bb.drop c) ld (by omega) K (by rw [← hgr]; exact hrg)
    have hF : o ++ o1 = al := by
     have := moStep_app (E := cF (tagOf tag) (keyOf (tagOf tag) n k) false) (D := cF (tagOf tag) (keyOf (tagOf tag) n k) true) (n := s) (mode := M) (back := back) (s := ⟨V0, [], []⟩) (a := bb.take c) (b := bb.drop c) (by omega) (by rw [ltc, ← hgr]; exact h2) (by rw [ld, ← hgr]; exact hrg)
     rw [List.take_append_drop, h3] at this
     dsimp only at this
     rw [hS, hAl] at this
     exact (congrArg Prod.fst this).symm
    rcases OUT with ⟨rfl, A⟩ | A
    ·rcases row with _ | ⟨a0, r1⟩
     ·refine ⟨[.k 0, .k 1], _, _, _, _, A, rfl, rfl, ?_⟩
      refine ⟨by first | omega | (rw [bv_len]; omega), by omega, by rw [bv_len, h5]; omega, ?_⟩
      refine spl_eq (fun _ => ?_) (fun h => absurd rfl h)
      have lF : (o ++ o1).length = c + (w - c) := by rw [List.length_append, h5, lo1]
      refine ⟨by rw [List.length_append, sub_length, bv_len, bv_len]; omega, o ++ o1, ?_, ?_⟩
      ·show sub (sub (bv o) 0 (c * 1) ++ bv o1) 0 (c + (w - c)) = bv (o ++ o1)
       rw [Nat.mul_one, bv_all h5, bv_app, bv_all lF]
      refine ⟨by rw [bv_len]; exact lal, _, rfl, ?_⟩
      refine ⟨_, rfl, [], congrArg bool ?_, trivial⟩
      rw [hF, str_beq]; simp
     ·refine ⟨[.k 0, .k 1], _, _, _, _, A, rfl, rfl, ?_⟩
      refine ⟨by first | omega | (rw [bv_len]; omega), by omega, by rw [bv_len, h5]; omega, ?_⟩
      refine spl_eq (fun _ => ?_) (fun h => absurd rfl h)
      have lF : (o ++ o1).length = c + (w - c) := by rw [List.length_append, h5, lo1]
      refine ⟨by rw [List.length_append, sub_length, bv_len, bv_len]; omega, o ++ o1, ?_, ?_⟩
      ·show sub (sub (bv o) 0 (c * 1) ++ bv o1) 0 (c + (w - c)) = bv (o ++ o1)
       rw [Nat.mul_one, bv_all h5, bv_app, bv_all lF]
      refine ⟨by rw [bv_len]; exact lal, _, rfl, ?_⟩
      refine ⟨_, rfl, [], congrArg bool ?_, trivial⟩
      rw [hF, str_beq]; simp
    ·obtain ⟨ch1, row1, g1⟩ := st1
     rcases row with _ | ⟨a0, r1⟩ <;> rcases row1 with _ | ⟨a1, r2⟩
     ·refine ⟨[.k 0, .k 1], _, _, _, _, A, rfl, rfl, ?_⟩
      refine ⟨by first | omega | (rw [bv_len]; omega), by omega, by rw [bv_len, h5]; omega, ?_⟩
      refine spl_eq (fun _ => ?_) (fun h => absurd rfl h)
      have lF : (o ++ o1).length = c + (w - c) := by rw [List.length_append, h5, lo1]
      refine ⟨by rw [List.length_append, sub_length, bv_len, bv_len]; omega, o ++ o1, ?_, ?_⟩
      ·show sub (sub (bv o) 0 (c * 1) ++ bv o1) 0 (c + (w - c)) = bv (o ++ o1)
       rw [Nat.mul_one, bv_all h5, bv_app, bv_all lF]
      refine ⟨by rw [bv_len]; exact lal, _, rfl, ?_⟩
      refine ⟨_, rfl, [], congrArg bool ?_, trivial⟩
      rw [hF, str_beq]; simp
     ·refine ⟨[.k 0, .k 1], _, _, _, _, A, rfl, rfl, ?_⟩
      refine ⟨by first | omega | (rw [bv_len]; omega), by omega, by rw [bv_len, h5]; omega, ?_⟩
      refine spl_eq (fun _ => ?_) (fun h => absurd rfl h)
      have lF : (o ++ o1).length = c + (w - c) := by rw [List.length_append, h5, lo1]
      refine ⟨by rw [List.length_append, sub_length, bv_len, bv_len]; omega, o ++ o1, ?_, ?_⟩
      ·show sub (sub (bv o) 0 (c * 1) ++ bv o1) 0 (c + (w - c)) = bv (o ++ o1)
       rw [Nat.mul_one, bv_all h5, bv_app, bv_all lF]
      refine ⟨by rw [bv_len]; exact lal, _, rfl, ?_⟩
      refine ⟨_, rfl, [], congrArg bool ?_, trivial⟩
      rw [hF, str_beq]; simp
     ·refine ⟨[.k 0, .k 1], _, _, _, _, A, rfl, rfl, ?_⟩
      refine ⟨by first | omega | (rw [bv_len]; omega), by omega, by rw [bv_len, h5]; omega, ?_⟩
      refine spl_eq (fun _ => ?_) (fun h => absurd rfl h)
      have lF : (o ++ o1).length = c + (w - c) := by rw [List.length_append, h5, lo1]
      refine ⟨by rw [List.length_append, sub_length, bv_len, bv_len]; omega, o ++ o1, ?_, ?_⟩
      ·show sub (sub (bv o) 0 (c * 1) ++ bv o1) 0 (c + (w - c)) = bv (o ++ o1)
       rw [Nat.mul_one, bv_all h5, bv_app, bv_all lF]
      refine ⟨by rw [bv_len]; exact lal, _, rfl, ?_⟩
      refine ⟨_, rfl, [], congrArg bool ?_, trivial⟩
      rw [hF, str_beq]; simp
     ·refine ⟨[.k 0, .k 1], _, _, _, _, A, rfl, rfl, ?_⟩
      refine ⟨by first | omega | (rw [bv_len]; omega), by omega, by rw [bv_len, h5]; omega, ?_⟩
      refine spl_eq (fun _ => ?_) (fun h => absurd rfl h)
      have lF : (o ++ o1).length = c + (w - c) := by rw [List.length_append, h5, lo1]
      refine ⟨by rw [List.length_append, sub_length, bv_len, bv_len]; omega, o ++ o1, ?_, ?_⟩
      ·show sub (sub (bv o) 0 (c * 1) ++ bv o1) 0 (c + (w - c)) = bv (o ++ o1)
       rw [Nat.mul_one, bv_all h5, bv_app, bv_all lF]
      refine ⟨by rw [bv_len]; exact lal, _, rfl, ?_⟩
      refine ⟨_, rfl, [], congrArg bool ?_, trivial⟩
      rw [hF, str_beq]; simp
  ·obtain ⟨o1, st1, hS, lo1, K1, OUT⟩ := step_one h back (st := ⟨ch, row, gg⟩) (p := bb.drop c) ld (by omega) K (by rw [← hgr]; exact hrg)
   have hF : o ++ o1 = al := by
    have := moStep_app (E := cF (tagOf tag) (keyOf (tagOf tag) n k) false) (D := cF (tagOf tag) (keyOf (tagOf tag) n k) true) (n := s) (mode := M) (back := back) (s := ⟨V0, [], []⟩) (a := bb.take c) (b := bb.drop c) (by omega) (by rw [ltc, ← hgr]; exact h2) (by rw [ld, ← hgr]; exact hrg)
    rw [List.take_append_drop, h3] at this
    dsimp only at this
    rw [hS, hAl] at this
    exact (congrArg Prod.fst this).symm
   rcases OUT with ⟨rfl, A⟩ | A
   ·rcases row with _ | ⟨a0, r1⟩
    ·refine ⟨[.k 0, .k 1], _, _, _, _, A, rfl, rfl, ?_⟩
     refine ⟨by first | omega | (rw [bv_len]; omega), by omega, by rw [bv_len, h5]; omega, ?_⟩
     refine spl_eq (fun _ => ?_) (fun h => absurd rfl h)
     have lF : (o ++ o1).length = c + (w - c) := by rw [List.length_append, h5, lo1]
     refine ⟨by rw [List.length_append, sub_length, bv_len, bv_len]; omega, o ++ o1, ?_, ?_⟩
     ·show sub (sub (bv o) 0 (c * 1) ++ bv o1) 0 (c + (w - c)) = bv (o ++ o1)
      rw [Nat.mul_one, bv_all h5, bv_app, bv_all lF]
     refine ⟨by rw [bv_len]; exact lal, _, rfl, ?_⟩
     refine ⟨_, rfl, [], congrArg bool ?_, trivial⟩
     rw [hF, str_beq]; simp
    ·refine ⟨[.k 0, .k 1], _, _, _, _, A, rfl, rfl, ?_⟩
     refine ⟨by first | omega | (rw [bv_len]; omega), by omega, by rw [bv_len, h5]; omega, ?_⟩
     refine spl_eq (fun _ => ?_) (fun h => absurd rfl h)
     have lF : (o ++ o1).length = c + (w - c) := by rw [List.length_append, h5, lo1]
     refine ⟨by rw [List.length_append, sub_length, bv_len, bv_len]; omega, o ++ o1, ?_, ?_⟩
     ·show sub (sub (bv o) 0 (c * 1) ++ bv o1) 0 (c + (w - c)) = bv (o ++ o1)
      rw [Nat.mul_one, bv_all h5, bv_app, bv_all lF]
     refine ⟨by rw [bv_len]; exact lal, _, rfl, ?_⟩
     refine ⟨_, rfl, [], congrArg bool ?_, trivial⟩
     rw [hF, str_beq]; simp
   ·obtain ⟨ch1, row1, g1⟩ := st1
    rcases row with _ | ⟨a0, r1⟩ <;> rcases row1 with _ | ⟨a1, r2⟩
    ·refine ⟨[.k 0, .k 1], _, _, _, _, A, rfl, rfl, ?_⟩
     refine ⟨by first | omega | (rw [bv_len]; omega), by omega, by rw [bv_len, h5]; omega, ?_⟩
     refine spl_eq (fun _ => ?_) (fun h => absurd rfl h)
     have lF : (o ++ o1).length = c + (w - c) := by rw [List.length_append, h5, lo1]
     refine ⟨by rw [List.length_append, sub_length, bv_len, bv_len]; omega, o ++ o1, ?_, ?_⟩
     ·show sub (sub (bv o) 0 (c * 1) ++ bv o1) 0 (c + (w - c)) = bv (o ++ o1)
      rw [Nat.mul_one, bv_all h5, bv_app, bv_all lF]
     refine ⟨by rw [bv_len]; exact lal, _, rfl, ?_⟩
     refine ⟨_, rfl, [], congrArg bool ?_, trivial⟩
     rw [hF, str_beq]; simp
    ·refine ⟨[.k 0, .k 1], _, _, _, _, A, rfl, rfl, ?_⟩
     refine ⟨by first | omega | (rw [bv_len]; omega), by omega, by rw [bv_len, h5]; omega, ?_⟩
     refine spl_eq (fun _ => ?_) (fun h => absurd rfl h)
     have lF : (o ++ o1).length = c + (w - c) := by rw [List.length_append, h5, lo1]
     refine ⟨by rw [List.length_append, sub_length, bv_len, bv_len]; omega, o ++ o1, ?_, ?_⟩
     ·show sub (sub (bv o) 0 (c * 1) ++ bv o1) 0 (c + (w - c)) = bv (o ++ o1)
      rw [Nat.mul_one, bv_all h5, bv_app, bv_all lF]
     refine ⟨by rw [bv_len]; exact lal, _, rfl, ?_⟩
     refine ⟨_, rfl, [], congrArg bool ?_, trivial⟩
     rw [hF, str_beq]; simp
    ·refine ⟨[.k 0, .k 1], _, _, _, _, A, rfl, rfl, ?_⟩
     refine ⟨by first | omega | (rw [bv_len]; omega), by omega, by rw [bv_len, h5]; omega, ?_⟩
     refine spl_eq (fun _ => ?_) (fun h => absurd rfl h)
     have lF : (o ++ o1).length = c + (w - c) := by rw [List.length_append, h5, lo1]
     refine ⟨by rw [List.length_append, sub_length, bv_len, bv_len]; omega, o ++ o1, ?_, ?_⟩
     ·show sub (sub (bv o) 0 (c * 1) ++ bv o1) 0 (c + (w - c)) = bv (o ++ o1)
      rw [Nat.mul_one, bv_all h5, bv_app, bv_all lF]
     refine ⟨by rw [bv_len]; exact lal, _, rfl, ?_⟩
     refine ⟨_, rfl, [], congrArg bool ?_, trivial⟩
     rw [hF, str_beq]; simp
    ·refine ⟨[.k 0, .k 1], _, _, _, _, A, rfl, rfl, ?_⟩
     refine ⟨by first | omega | (rw [bv_len]; omega), by omega, by rw [bv_len, h5]; omega, ?_⟩
     refine spl_eq (fun _ => ?_) (fun h => absurd rfl h)
     have lF : (o ++ o1).length = c + (w - c) := by rw [List.length_append, h5, lo1]
     refine ⟨by rw [List.length_append, sub_length, bv_len, bv_len]; omega, o ++ o1, ?_, ?_⟩
     ·show sub (sub (bv o) 0 (c * 1) ++ bv o1) 0 (c + (w - c)) = bv (o ++ o1)
      rw [Nat.mul_one, bv_all h5, bv_app, bv_all lF]
     refine ⟨by rw [bv_len]; exact lal, _, rfl, ?_⟩
     refine ⟨_, rfl, [], congrArg bool ?_, trivial⟩
     rw [hF, str_beq]; simp
end Go.Scr
