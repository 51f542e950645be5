/-
  What the functions of the given program reckon, each by a contract, up to the law. It is no claim by itself; each contract bears its own conditions.
-/
import Derived.Test.YtjoniepofpcolaaGreatDoorY2
set_option linter.unusedVariables false
set_option linter.unusedSimpArgs false
set_option maxRecDepth 100000
namespace Go.Scr
open Go.Proofs
set_option maxHeartbeats 2000000 in
theorem c_mback {tag n mode at' : Int} (h0 : -9223372036854775808 ≤ tag ∧ tag ≤ 9223372036854775807) (h1 : -9223372036854775808 ≤ n ∧ n ≤ 9223372036854775807) {lk li lb : Nat} {k iv' b : List UInt8} (hk : k.length = lk) (hm : -9223372036854775808 ≤ mode ∧ mode ≤ 9223372036854775807) (hi : iv'.length = li) (hb : b.length = lb) (ha : -9223372036854775808 ≤ at' ∧ at' ≤ 9223372036854775807) :
  Con C N.law12_ModesBack [i64 tag, i64 n, .z lk (bv k), i64 mode, .z li (bv iv'), .z lb (bv b), i64 at'] [] (.ret (bool true)) [] := by
 subst hb
 obtain ⟨s, q, xs, rs, h⟩ := ciph_law tag n k
 have hs := h.s_le
 have hci := h.ci
 obtain ⟨g, hg, hg1⟩ := emod_nat mode (n := 6) (by omega)
 obtain ⟨M, hM⟩ : ∃ M : Int, M = 1 + (g : Int) := ⟨_, rfl⟩
 have e1 : IntKind.i64.wrap (1 + mode % 6) = M := by rw [IntWalk.i64_in _ (by omega)]; omega
 have lI := ivL_len M s iv'
 obtain ⟨gr, hgr⟩ : ∃ gr, gr = moGrain s M := ⟨_, rfl⟩
 have hgp : 0 < gr := by rw [hgr]; unfold moGrain; split <;> omega
 have hg16 : gr ≤ 16 := by rw [hgr]; unfold moGrain; split <;> omega
 refine con.law12_ModesBack ?_
 refine ⟨[], _, _, _, _, c_law12_known, rfl, rfl, ?_⟩
 refine spl_d (fun h200 => ?_) (fun h200 => ?_)
 ·exact ⟨_, rfl, [], rfl, trivial⟩
 refine ⟨[], _, _, _, _, c_law12_both h0 h1 hk h, rfl, rfl, ?_⟩
 refine ⟨[], _, _, _, _, c_w12 (a := mode) (n := 6) (by omega) (by omega) hm, rfl, rfl, ?_⟩
 refine ⟨[], _, _, _, _, h.size, rfl, rfl, ?_⟩
 refine ⟨[], _, _, _, _, c_iv (mode := M) (s := s) rfl hi (by omega), ?_, rfl, ?_⟩
 ·rw [e1]; rfl
 refine ⟨[], _, _, _, _, c_new_m h (mode := M) (back := false) (i := 1) (iv := ivL M s iv') rfl lI (by omega) rfl, ?_, rfl, ?_⟩
 ·rw [e1]; rfl
 refine ⟨[], _, _, _, _, h.size, rfl, rfl, ?_⟩
 refine ⟨[], _, _, _, _, c_iv (mode := M) (s := s) rfl hi (by omega), ?_, rfl, ?_⟩
 ·rw [e1]; rfl
 refine ⟨[], _, _, _, _, c_new_m h (mode := M) (back := true) (i := 1) (iv := ivL M s iv') rfl lI (by omega) rfl, ?_, rfl, ?_⟩
 ·rw [e1]; rfl
 generalize ivL M s iv' = V0 at *
 have K0 : MK s M ⟨V0, [], []⟩ := MK.new (by omega) (by
  unfold ivN at lI
  by_cases h1 : M = 1
  ·exact .inl h1
  ·rw [if_neg h1] at lI; exact .inr lI)
 refine ⟨[.d 55 0, .d 55 1], _, _, _, _, c_grainA h (back := false) K0, rfl, rfl, ?_⟩
 rw [← hgr]
 obtain ⟨w, hw⟩ : ∃ w, w = b.length / gr * gr := ⟨_, rfl⟩
 have hwl : w ≤ b.length := by rw [hw]; exact Nat.div_mul_le_self _ _
 have hwg : w % gr = 0 := by rw [hw]; exact Nat.mul_mod_left _ _
 have e4 : IntKind.i64.wrap (IntKind.i64.wrap ((b.length : Int).tdiv (gr : Int)) * (gr : Int)) = ((w : Nat) : Int) := by rw [hw]; exact i64_quomul (by omega)
 have lp : (sub b 0 w).length = w := by rw [sub_length]; omega
 have hvp : sub (bv b) 0 w = bv (sub b 0 w) := bv_sub _ _ _
 refine spl_d (fun h => absurd h (by omega)) (fun _ => ?_)
 refine spl_d (fun h => absurd h (by omega)) (fun _ => ?_)
 refine ⟨by omega, ?_⟩
 refine ⟨by rw [e4]; omega, by rw [e4]; omega, by rw [e4]; omega, by rw [e4]; omega, ?_⟩
 generalize sub b 0 w = bb at *
 have SX := c_step h (back := false) (st := ⟨V0, [], []⟩) (b := bb) rfl lp (by omega) K0 (by rw [← hgr]; exact hwg) (.inr rfl)
 obtain ⟨al, hal⟩ : ∃ al, al = (moStep (cF (tagOf tag) (keyOf (tagOf tag) n k) false) (cF (tagOf tag) (keyOf (tagOf tag) n k) true) s M false ⟨V0, [], []⟩ bb).1 := ⟨_, rfl⟩
 have lal : al.length = w := by rw [hal, moStep_len hci K0.ok (by rw [lp, ← hgr]; exact hwg), lp]
 obtain ⟨x1, hx1⟩ : ∃ x1, x1 = (moStep (cF (tagOf tag) (keyOf (tagOf tag) n k) false) (cF (tagOf tag) (keyOf (tagOf tag) n k) true) s M false ⟨V0, [], []⟩ bb).2 := ⟨_, rfl⟩
 have hAl : moStep (cF (tagOf tag) (keyOf (tagOf tag) n k) false) (cF (tagOf tag) (keyOf (tagOf tag) n k) true) s M false ⟨V0, [], []⟩ bb = (al, x1) := by rw [hal, hx1]
 have hInv := moStep_inv hci (by omega) K0.ok (b := bb) (by rw [lp, ← hgr]; exact hwg)
 rw [hAl] at SX hInv
 dsimp only at SX hInv
 obtain ⟨d, hd, hd1⟩ := emod_nat at' (n := w / gr + 1) (Nat.succ_pos _)
 obtain ⟨i, hi'⟩ : ∃ i, i = d * gr := ⟨_, rfl⟩
 have hil : i ≤ w := by
  rw [hi']
  have := Nat.mul_le_mul_right gr (show d ≤ w / gr by omega)
  have := Nat.div_mul_le_self w gr
  omega
 have hig : i % gr = 0 := by rw [hi']; exact Nat.mul_mod_left _ _
 have hiw : (w - i) % gr = 0 := Nat.mod_eq_zero_of_dvd (Nat.dvd_sub (Nat.dvd_of_mod_eq_zero hwg) (Nat.dvd_of_mod_eq_zero hig))
 have hnq := Nat.div_le_self w gr
 have e8 : IntKind.i64.wrap (IntKind.i64.wrap ((w : Int).tdiv (gr : Int)) + 1) = ((w / gr + 1 : Nat) : Int) := by
  rw [i64_quo (by omega)]
  generalize w / gr = z at *
  rw [IntWalk.i64_in _ (by omega)]; rfl
 have e9 : IntKind.i64.wrap (at' % ((w / gr + 1 : Nat) : Int) * (gr : Int)) = ((i : Nat) : Int) := by
  have e : at' % ((w / gr + 1 : Nat) : Int) * (gr : Int) = ((i : Nat) : Int) := by rw [show at' % ((w / gr + 1 : Nat) : Int) = (d : Int) from hd, hi', Int.natCast_mul]
  rw [e, IntWalk.i64_in _ (by omega)]
 have l1 : (sub al 0 i).length = i := by rw [sub_length]; omega
 have l2 : (al.drop i).length = w - i := by rw [List.length_drop, lal]
 have hv1 : sub (bv al) 0 i = bv (sub al 0 i) := bv_sub _ _ _
 have hv2 : sub (bv al) i (w - i) = bv (al.drop i) := bv_dropN lal hil
 obtain ⟨o1, st1, hS1, lo1, K1, OUT1⟩ := step_one h true (st := ⟨V0, [], []⟩) (p := sub al 0 i) l1 (by omega) K0 (by rw [← hgr]; exact hig)
 obtain ⟨o2, st2, hS2, lo2, K2, OUT2⟩ := step_one h true (st := st1) (p := al.drop i) l2 (by omega) K1 (by rw [← hgr]; exact hiw)
 have hF : o1 ++ o2 = bb := by
  have := moStep_app (E := cF (tagOf tag) (keyOf (tagOf tag) n k) false) (D := cF (tagOf tag) (keyOf (tagOf tag) n k) true) (n := s) (mode := M) (back := true) (s := ⟨V0, [], []⟩) (a := sub al 0 i) (b := al.drop i) (by omega) (by rw [l1, ← hgr]; exact hig) (by rw [l2, ← hgr]; exact hiw)
  rw [show sub al 0 i ++ al.drop i = al from List.take_append_drop i al, hInv, hS1] at this
  dsimp only at this
  rw [hS2] at this
  exact (congrArg Prod.fst this).symm
 obtain ⟨c1, row1, g1⟩ := x1
 rcases row1 with _ | ⟨a1, r1⟩
 all_goals
  refine ⟨[.d 55 0, .d 55 1], _, _, _, _, SX, ?_, rfl, ?_⟩
  ·rw [e4]
   show [V.p (.k 0) 0, V.z w (sub (bv b) 0 w)] = _
   rw [hvp]
  refine spl_ne (fun h => absurd (by rw [e4]; rfl) h) (fun _ => ?_)
  refine ⟨by omega, ?_⟩
  refine ⟨[], _, _, _, _, c_w12 (a := at') (n := ((w / gr + 1 : Nat) : Int)) (by generalize w / gr = z at *; omega) (by generalize w / gr = z at *; omega) ha, ?_, rfl, ?_⟩
  ·rw [e4, Int.toNat_natCast, ← e8]; rfl
  refine ⟨by first | omega | (rw [e9]; omega), by first | omega | (rw [e9]; omega), by first | omega | (rw [e9]; omega), by first | omega | (rw [e9]; omega), ?_⟩
  rcases OUT1 with ⟨rfl, A⟩ | A
  ·refine ⟨[.d 66 0, .d 66 1], _, _, _, _, A, ?_, rfl, ?_⟩
   ·rw [e9]
    show [V.p (.k 0) 0, V.z i (sub (bv al) 0 i)] = _
    rw [hv1]
   refine ⟨by first | omega | (rw [e9]; omega), by first | omega | (rw [e9]; omega), by first | omega | (rw [e9]; omega), by first | omega | (rw [e9]; omega), ?_⟩
   rcases OUT2 with ⟨rfl, A2⟩ | A2
   ·refine ⟨[.d 66 0, .d 66 1], _, _, _, _, A2, ?_, rfl, ?_⟩
    ·rw [e9]
     show [V.p (.k 0) 0, V.z (w - i) (sub (bv al) i (w - i))] = _
     rw [hv2]
    refine ⟨by rw [bv_len]; exact lo1, _, rfl, ?_⟩
    refine ⟨by rw [bv_len]; exact lo2, _, rfl, ?_⟩
    refine ⟨by rw [bs_size, bs_size]; omega, ?_⟩
    refine ⟨by rw [e4, Int.toNat_natCast, Nat.sub_zero, hvp, bv_len]; exact lp, _, by rw [e4, Int.toNat_natCast, Nat.sub_zero, hvp]; rfl, ?_⟩
    refine ⟨_, rfl, [], congrArg bool ?_, trivial⟩
    rw [bs_app, hF, str_beq]; simp
   ·obtain ⟨ch2, row2, g2⟩ := st2
    rcases row2 with _ | ⟨a2, r2⟩
    ·refine ⟨[.d 66 0, .d 66 1], _, _, _, _, A2, ?_, rfl, ?_⟩
     ·rw [e9]
      show [V.p (.k 0) 0, V.z (w - i) (sub (bv al) i (w - i))] = _
      rw [hv2]
     refine ⟨by rw [bv_len]; exact lo1, _, rfl, ?_⟩
     refine ⟨by rw [bv_len]; exact lo2, _, rfl, ?_⟩
     refine ⟨by rw [bs_size, bs_size]; omega, ?_⟩
     refine ⟨by rw [e4, Int.toNat_natCast, Nat.sub_zero, hvp, bv_len]; exact lp, _, by rw [e4, Int.toNat_natCast, Nat.sub_zero, hvp]; rfl, ?_⟩
     refine ⟨_, rfl, [], congrArg bool ?_, trivial⟩
     rw [bs_app, hF, str_beq]; simp
    ·refine ⟨[.d 66 0, .d 66 1], _, _, _, _, A2, ?_, rfl, ?_⟩
     ·rw [e9]
      show [V.p (.k 0) 0, V.z (w - i) (sub (bv al) i (w - i))] = _
      rw [hv2]
     refine ⟨by rw [bv_len]; exact lo1, _, rfl, ?_⟩
     refine ⟨by rw [bv_len]; exact lo2, _, rfl, ?_⟩
     refine ⟨by rw [bs_size, bs_size]; omega, ?_⟩
     refine ⟨by rw [e4, Int.toNat_natCast, Nat.sub_zero, hvp, bv_len]; exact lp, _, by rw [e4, Int.toNat_natCast, Nat.sub_zero, hvp]; rfl, ?_⟩
     refine ⟨_, rfl, [], congrArg bool ?_, trivial⟩
     rw [bs_app, hF, str_beq]; simp
  ·obtain ⟨ch1, row3, g3⟩ := st1
   rcases row3 with _ | ⟨a3, r3⟩
   ·refine ⟨[.d 66 0, .d 66 1], _, _, _, _, A, ?_, rfl, ?_⟩
    ·rw [e9]
     show [V.p (.k 0) 0, V.z i (sub (bv al) 0 i)] = _
     rw [hv1]
    refine ⟨by first | omega | (rw [e9]; omega), by first | omega | (rw [e9]; omega), by first | omega | (rw [e9]; omega), by first | omega | (rw [e9]; omega), ?_⟩
    rcases OUT2 with ⟨rfl, A2⟩ | A2
    ·refine ⟨[.d 66 0, .d 120 2], _, _, _, _, A2, ?_, rfl, ?_⟩
     ·rw [e9]
      show [V.p (.k 0) 0, V.z (w - i) (sub (bv al) i (w - i))] = _
      rw [hv2]
     refine ⟨by rw [bv_len]; exact lo1, _, rfl, ?_⟩
     refine ⟨by rw [bv_len]; exact lo2, _, rfl, ?_⟩
     refine ⟨by rw [bs_size, bs_size]; omega, ?_⟩
     refine ⟨by rw [e4, Int.toNat_natCast, Nat.sub_zero, hvp, bv_len]; exact lp, _, by rw [e4, Int.toNat_natCast, Nat.sub_zero, hvp]; rfl, ?_⟩
     refine ⟨_, rfl, [], congrArg bool ?_, trivial⟩
     rw [bs_app, hF, str_beq]; simp
    ·obtain ⟨ch2, row2, g2⟩ := st2
     rcases row2 with _ | ⟨a2, r2⟩
     ·refine ⟨[.d 66 0, .d 120 2], _, _, _, _, A2, ?_, rfl, ?_⟩
      ·rw [e9]
       show [V.p (.k 0) 0, V.z (w - i) (sub (bv al) i (w - i))] = _
       rw [hv2]
      refine ⟨by rw [bv_len]; exact lo1, _, rfl, ?_⟩
      refine ⟨by rw [bv_len]; exact lo2, _, rfl, ?_⟩
      refine ⟨by rw [bs_size, bs_size]; omega, ?_⟩
      refine ⟨by rw [e4, Int.toNat_natCast, Nat.sub_zero, hvp, bv_len]; exact lp, _, by rw [e4, Int.toNat_natCast, Nat.sub_zero, hvp]; rfl, ?_⟩
      refine ⟨_, rfl, [], congrArg bool ?_, trivial⟩
      rw [bs_app, hF, str_beq]; simp
     ·refine ⟨[.d 66 0, .d 120 2], _, _, _, _, A2, ?_, rfl, ?_⟩
      ·rw [e9]
       show [V.p (.k 0) 0, V.z (w - i) (sub (bv al) i (w - i))] = _
       rw [hv2]
      refine ⟨by rw [bv_len]; exact lo1, _, rfl, ?_⟩
      refine ⟨by rw [bv_len]; exact lo2, _, rfl, ?_⟩
      refine ⟨by rw [bs_size, bs_size]; omega, ?_⟩
      refine ⟨by rw [e4, Int.toNat_natCast, Nat.sub_zero, hvp, bv_len]; exact lp, _, by rw [e4, Int.toNat_natCast, Nat.sub_zero, hvp]; rfl, ?_⟩
      refine ⟨_, rfl, [], congrArg bool ?_, trivial⟩
      rw [bs_app, hF, str_beq]; simp
   ·refine ⟨[.d 66 0, .d 66 1], _, _, _, _, A, ?_, rfl, ?_⟩
    ·rw [e9]
     show [V.p (.k 0) 0, V.z i (sub (bv al) 0 i)] = _
     rw [hv1]
    refine ⟨by first | omega | (rw [e9]; omega), by first | omega | (rw [e9]; omega), by first | omega | (rw [e9]; omega), by first | omega | (rw [e9]; omega), ?_⟩
    rcases OUT2 with ⟨rfl, A2⟩ | A2
    ·refine ⟨[.d 66 0, .d 120 2], _, _, _, _, A2, ?_, rfl, ?_⟩
     ·rw [e9]
      show [V.p (.k 0) 0, V.z (w - i) (sub (bv al) i (w - i))] = _
      rw [hv2]
     refine ⟨by rw [bv_len]; exact lo1, _, rfl, ?_⟩
     refine ⟨by rw [bv_len]; exact lo2, _, rfl, ?_⟩
     refine ⟨by rw [bs_size, bs_size]; omega, ?_⟩
     refine ⟨by rw [e4, Int.toNat_natCast, Nat.sub_zero, hvp, bv_len]; exact lp, _, by rw [e4, Int.toNat_natCast, Nat.sub_zero, hvp]; rfl, ?_⟩
     refine ⟨_, rfl, [], congrArg bool ?_, trivial⟩
     rw [bs_app, hF, str_beq]; simp
    ·obtain ⟨ch2, row2, g2⟩ := st2
     rcases row2 with _ | ⟨a2, r2⟩
     ·refine ⟨[.d 66 0, .d 120 2], _, _, _, _, A2, ?_, rfl, ?_⟩
      ·rw [e9]
       show [V.p (.k 0) 0, V.z (w - i) (sub (bv al) i (w - i))] = _
       rw [hv2]
      refine ⟨by rw [bv_len]; exact lo1, _, rfl, ?_⟩
      refine ⟨by rw [bv_len]; exact lo2, _, rfl, ?_⟩
      refine ⟨by rw [bs_size, bs_size]; omega, ?_⟩
      refine ⟨by rw [e4, Int.toNat_natCast, Nat.sub_zero, hvp, bv_len]; exact lp, _, by rw [e4, Int.toNat_natCast, Nat.sub_zero, hvp]; rfl, ?_⟩
      refine ⟨_, rfl, [], congrArg bool ?_, trivial⟩
      rw [bs_app, hF, str_beq]; simp
     ·refine ⟨[.d 66 0, .d 120 2], _, _, _, _, A2, ?_, rfl, ?_⟩
      ·rw [e9]
       show [V.p (.k 0) 0, V.z (w - i) (sub (bv al) i (w - i))] = _
       rw [hv2]
      refine ⟨by rw [bv_len]; exact lo1, _, rfl, ?_⟩
      refine ⟨by rw [bv_len]; exact lo2, _, rfl, ?_⟩
      refine ⟨by rw [bs_size, bs_size]; omega, ?_⟩
      refine ⟨by rw [e4, Int.toNat_natCast, Nat.sub_zero, hvp, bv_len]; exact lp, _, by rw [e4, Int.toNat_natCast, Nat.sub_zero, hvp]; rfl, ?_⟩
      refine ⟨_, rfl, [], congrArg bool ?_, trivial⟩
      rw [bs_app, hF, str_beq]; simp
def stB (w : Nat) (o0 o1 o2 : List UInt8) : Nat → B
 | 0 => .sc [Value.slice none 0 0, Value.slice none 0 0, Value.slice none 0 0]
 | 1 => .mx [.z w (bv o0), nilv, nilv]
 | 2 => .mx [.z w (bv o0), .z w (bv o1), nilv]
 | _ => .mx [.z w (bv o0), .z w (bv o1), .z w (bv o2)]
theorem sub0_getD {a : List UInt8} {w i : Nat} (h : i < w) : (sub a 0 w).getD i 0 = a.getD i 0 := by
 simp [sub, List.getD_eq_getElem?_getD, List.getElem?_take, h]
theorem u8_can (k a b : UInt8) : (a ^^^ k) ^^^ a = (b ^^^ k) ^^^ b := by
 rw [UInt8.xor_comm a k, UInt8.xor_comm b k, UInt8.xor_assoc, UInt8.xor_assoc, UInt8.xor_self, UInt8.xor_self]
set_option maxHeartbeats 1000000 in
theorem c_mstreams {tag n : Int} {ctr : Bool} (h0 : -9223372036854775808 ≤ tag ∧ tag ≤ 9223372036854775807) (h1 : -9223372036854775808 ≤ n ∧ n ≤ 9223372036854775807) {lk li la lb : Nat} {k iv' a b : List UInt8} (hk : k.length = lk) (hi : iv'.length = li) (ha : a.length = la) (hb : b.length = lb) :
  Con C N.law12_ModesStreams [i64 tag, i64 n, .z lk (bv k), bool ctr, .z li (bv iv'), .z la (bv a), .z lb (bv b)] [] (.ret (bool true)) [] := by
 obtain ⟨s, q, xs, rs, h⟩ := ciph_law tag n k
 have hs := h.s_le
 have hci := h.ci
 obtain ⟨w, hw⟩ : ∃ w, w = min (min la lb) 100 := ⟨_, rfl⟩
 have e3 : (if (100 : Int) < (if (lb : Int) < (la : Int) then (lb : Int) else (la : Int)) then (100 : Int) else (if (lb : Int) < (la : Int) then (lb : Int) else (la : Int))) = ((w : Nat) : Int) := by
  rw [hw]; split <;> split <;> omega
 have la' : (sub a 0 w).length = w := by rw [sub_length]; omega
 have lb' : (sub b 0 w).length = w := by rw [sub_length]; omega
 have hva : sub (bv a) 0 w = bv (sub a 0 w) := bv_sub _ _ _
 have hvb : sub (bv b) 0 w = bv (sub b 0 w) := bv_sub _ _ _
 refine con.law12_ModesStreams ?_
 refine ⟨[], _, _, _, _, c_law12_known, rfl, rfl, ?_⟩
 refine ⟨[], _, _, _, _, c_law12_both h0 h1 hk h, rfl, rfl, ?_⟩
 cases ctr
 ·have lI := ivL_len 5 s iv'
  have cI := c_iv (mode := 5) (s := s) (vb := bv iv') rfl hi (by omega)
  have lV : (ivL 5 s iv').length = s := lI
  generalize ivL 5 s iv' = V0 at *
  have K0 : MK s 5 ⟨V0, [], []⟩ := MK.new (by decide) (.inr lV)
  obtain ⟨S0, hS0⟩ : ∃ x, x = moMany (cF (tagOf tag) (keyOf (tagOf tag) n k) false) 5 false ⟨V0, [], []⟩ (sub a 0 w) := ⟨_, rfl⟩
  obtain ⟨S1, hS1⟩ : ∃ x, x = moMany (cF (tagOf tag) (keyOf (tagOf tag) n k) false) 5 true ⟨V0, [], []⟩ (sub a 0 w) := ⟨_, rfl⟩
  obtain ⟨S2, hS2⟩ : ∃ x, x = moMany (cF (tagOf tag) (keyOf (tagOf tag) n k) false) 5 false ⟨V0, [], []⟩ (sub b 0 w) := ⟨_, rfl⟩
  have l0 : S0.1.length = w := by rw [hS0, moMany_len, la']
  have l1 : S1.1.length = w := by rw [hS1, moMany_len, la']
  have l2 : S2.1.length = w := by rw [hS2, moMany_len, lb']
  have T0 := c_step_byte h (mode := 5) (back := false) (st := ⟨V0, [], []⟩) (b := sub a 0 w) rfl la' (by omega) (by decide) K0 (.inr rfl)
  have T1 := c_step_byte h (mode := 5) (back := true) (st := ⟨V0, [], []⟩) (b := sub a 0 w) rfl la' (by omega) (by decide) K0 (.inr rfl)
  have T2 := c_step_byte h (mode := 5) (back := false) (st := ⟨V0, [], []⟩) (b := sub b 0 w) rfl lb' (by omega) (by decide) K0 (.inr rfl)
  have k0 : ∀ i, i < w → S0.1.getD i 0 = a.getD i 0 ^^^ ((cF (tagOf tag) (keyOf (tagOf tag) n k) false) (chAt (cF (tagOf tag) (keyOf (tagOf tag) n k) false) 5 V0 (i / s))).getD (i % s) 0 := fun i hi => by rw [hS0, mo_key hci (by omega) (by decide) lV (by omega), sub0_getD hi]
  have k1 : ∀ i, i < w → S1.1.getD i 0 = a.getD i 0 ^^^ ((cF (tagOf tag) (keyOf (tagOf tag) n k) false) (chAt (cF (tagOf tag) (keyOf (tagOf tag) n k) false) 5 V0 (i / s))).getD (i % s) 0 := fun i hi => by rw [hS1, mo_key hci (by omega) (by decide) lV (by omega), sub0_getD hi]
  have k2 : ∀ i, i < w → S2.1.getD i 0 = b.getD i 0 ^^^ ((cF (tagOf tag) (keyOf (tagOf tag) n k) false) (chAt (cF (tagOf tag) (keyOf (tagOf tag) n k) false) 5 V0 (i / s))).getD (i % s) 0 := fun i hi => by rw [hS2, mo_key hci (by omega) (by decide) lV (by omega), sub0_getD hi]
  rw [← hS0] at T0
  rw [← hS1] at T1
  rw [← hS2] at T2
  clear hS0 hS1 hS2
  obtain ⟨o0, ⟨c0, row0, g0⟩⟩ := S0
  obtain ⟨o1, ⟨c1, row1, g1⟩⟩ := S1
  obtain ⟨o2, ⟨c2, row2, g2⟩⟩ := S2
  dsimp only at T0 T1 T2 l0 l1 l2 k0 k1 k2
  refine ⟨Nat, fun i => ⟨[(4, .z li (bv iv')), (5, .z la (bv a)), (6, .z lb (bv b)), (15, cipV (tagOf tag) q xs), (17, i64 5), (18, i64 w), (19, .p (.k 0) 0), (20, i64 i)], [stB w o0 o1 o2 i]⟩, fun i => i ≤ 3, fun i => 3 - i, ?_, fun i hx => ?_⟩
  ·exact ⟨[], 0, Nat.zero_le _, [.d 19 0], ⟨rfl, rfl, rfl, rfl, rfl, congrArg (vi .i64) e3, rfl, rfl, trivial⟩, ⟨_, rfl, rfl⟩, trivial⟩
  ·rcases i with _ | _ | _ | _ | i
   ·refine ⟨[], _, _, _, _, h.size, rfl, rfl, ?_⟩
    refine ⟨[], _, _, _, _, cI, rfl, rfl, ?_⟩
    refine ⟨[], _, _, _, _, c_new_m h (mode := 5) (back := false) (i := 1) (iv := V0) rfl lV (by decide) rfl, rfl, rfl, ?_⟩
    refine ⟨by omega, by omega, by omega, by omega, ?_⟩
    skip
    rcases row0 with _ | ⟨a1, r1⟩
    all_goals
     refine ⟨[.d 56 0, .d 56 1], _, _, _, _, T0, ?_, rfl, ?_⟩
     ·show [V.p (.k 0) 0, V.z w (sub (bv a) 0 w)] = _
      rw [hva]
     refine ⟨by decide, by decide, ?_⟩
     refine ⟨Nat.le_of_ble_eq_true rfl, ?_⟩
     refine ⟨by decide, by decide, ?_⟩
     refine ⟨_, rfl, ?_⟩
     refine spl_ne (fun h => absurd rfl h) (fun _ => ?_)
     refine ⟨0 + 1, by decide, by decide, [.k 0], ⟨rfl, rfl, rfl, rfl, rfl, rfl, rfl, rfl, trivial⟩, ⟨_, rfl, ?_⟩, trivial⟩
     show B.mx [.z w (bv o0), nilv, nilv] = _
     rfl
   ·refine ⟨[], _, _, _, _, h.size, rfl, rfl, ?_⟩
    refine ⟨[], _, _, _, _, cI, rfl, rfl, ?_⟩
    refine ⟨[], _, _, _, _, c_new_m h (mode := 5) (back := true) (i := 1) (iv := V0) rfl lV (by decide) rfl, rfl, rfl, ?_⟩
    refine ⟨by omega, by omega, by omega, by omega, ?_⟩
    skip
    rcases row1 with _ | ⟨a1, r1⟩
    all_goals
     refine ⟨[.d 56 0, .d 56 1], _, _, _, _, T1, ?_, rfl, ?_⟩
     ·show [V.p (.k 0) 0, V.z w (sub (bv a) 0 w)] = _
      rw [hva]
     refine ⟨by decide, by decide, ?_⟩
     refine ⟨Nat.le_of_ble_eq_true rfl, ?_⟩
     refine ⟨by decide, by decide, ?_⟩
     refine ⟨_, rfl, ?_⟩
     refine spl_ne (fun h => absurd rfl h) (fun _ => ?_)
     refine ⟨1 + 1, by decide, by decide, [.k 0], ⟨rfl, rfl, rfl, rfl, rfl, rfl, rfl, rfl, trivial⟩, ⟨_, rfl, ?_⟩, trivial⟩
     show B.mx [.z w (bv o0), .z w (bv o1), nilv] = _
     rfl
   ·refine ⟨[], _, _, _, _, h.size, rfl, rfl, ?_⟩
    refine ⟨[], _, _, _, _, cI, rfl, rfl, ?_⟩
    refine ⟨[], _, _, _, _, c_new_m h (mode := 5) (back := false) (i := 1) (iv := V0) rfl lV (by decide) rfl, rfl, rfl, ?_⟩
    refine ⟨by omega, by omega, by omega, by omega, ?_⟩
    refine ⟨by omega, by omega, by omega, by omega, ?_⟩
    rcases row2 with _ | ⟨a1, r1⟩
    all_goals
     refine ⟨[.d 56 0, .d 56 1], _, _, _, _, T2, ?_, rfl, ?_⟩
     ·show [V.p (.k 0) 0, V.z w (sub (bv b) 0 w)] = _
      rw [hvb]
     refine ⟨by decide, by decide, ?_⟩
     refine ⟨Nat.le_of_ble_eq_true rfl, ?_⟩
     refine ⟨by decide, by decide, ?_⟩
     refine ⟨_, rfl, ?_⟩
     refine spl_ne (fun h => absurd rfl h) (fun _ => ?_)
     refine ⟨2 + 1, by decide, by decide, [.k 0], ⟨rfl, rfl, rfl, rfl, rfl, rfl, rfl, rfl, trivial⟩, ⟨_, rfl, ?_⟩, trivial⟩
     show B.mx [.z w (bv o0), .z w (bv o1), .z w (bv o2)] = _
     rfl
   ·refine loopN (fun i => ⟨[(5, .z la (bv a)), (6, .z lb (bv b)), (18, i64 w), (19, .p (.k 0) 0), (24, i64 i)], [.mx [.z w (bv o0), .z w (bv o1), .z w (bv o2)]]⟩) w ⟨[.k 0], ⟨rfl, rfl, rfl, rfl, rfl, trivial⟩, ⟨_, rfl, rfl⟩, trivial⟩ fun i hi' => ?_
    refine spl_d (fun hlt => ?_) (fun hge => ?_)
    ·have hlt : i < w := by omega
     have x0 : (bv o0)[((i : Nat) : Int).toNat]? = some (Value.int .u8 (o0.getD i 0).toNat) := by rw [Int.toNat_natCast]; exact bv_getD (by omega)
     have x1 : (bv o1)[((i : Nat) : Int).toNat]? = some (Value.int .u8 (o1.getD i 0).toNat) := by rw [Int.toNat_natCast]; exact bv_getD (by omega)
     have x2 : (bv o2)[((i : Nat) : Int).toNat]? = some (Value.int .u8 (o2.getD i 0).toNat) := by rw [Int.toNat_natCast]; exact bv_getD (by omega)
     have xa : (bv a)[((i : Nat) : Int).toNat]? = some (Value.int .u8 (a.getD i 0).toNat) := by rw [Int.toNat_natCast]; exact bv_getD (by omega)
     have xb : (bv b)[((i : Nat) : Int).toNat]? = some (Value.int .u8 (b.getD i 0).toNat) := by rw [Int.toNat_natCast]; exact bv_getD (by omega)
     refine ⟨by decide, by decide, ?_⟩
     refine ⟨_, rfl, ?_⟩
     refine ⟨(by omega), (by omega), _, x0, ?_⟩
     refine ⟨by decide, by decide, ?_⟩
     refine ⟨_, rfl, ?_⟩
     refine ⟨(by omega), (by omega), _, x1, ?_⟩
     refine spl_ne (fun h => absurd (by rw [k0 i hlt, k1 i hlt]) h) (fun _ => ?_)
     refine ⟨by decide, by decide, ?_⟩
     refine ⟨_, rfl, ?_⟩
     refine ⟨(by omega), (by omega), _, x0, ?_⟩
     refine ⟨(by omega), (by omega), _, xa, ?_⟩
     refine ⟨by decide, by decide, ?_⟩
     refine ⟨_, rfl, ?_⟩
     refine ⟨(by omega), (by omega), _, x2, ?_⟩
     refine ⟨(by omega), (by omega), _, xb, ?_⟩
     refine spl_ne (fun h => absurd (by rw [u8_xor, u8_xor, k0 i hlt, k2 i hlt, u8_can]) h) (fun _ => ?_)
     exact ⟨i + 1, (by omega), (by omega), [.k 0], ⟨rfl, rfl, rfl, rfl, congrArg (vi .i64) (by simp (disch := omega) only [IntWalk.i64_in]; omega), trivial⟩, ⟨_, rfl, rfl⟩, trivial⟩
    ·exact ⟨_, rfl, [], rfl, trivial⟩
   ·exact absurd hx (by omega)
 ·have lI := ivL_len 6 s iv'
  have cI := c_iv (mode := 6) (s := s) (vb := bv iv') rfl hi (by omega)
  have lV : (ivL 6 s iv').length = s := lI
  generalize ivL 6 s iv' = V0 at *
  have K0 : MK s 6 ⟨V0, [], []⟩ := MK.new (by decide) (.inr lV)
  obtain ⟨S0, hS0⟩ : ∃ x, x = moMany (cF (tagOf tag) (keyOf (tagOf tag) n k) false) 6 false ⟨V0, [], []⟩ (sub a 0 w) := ⟨_, rfl⟩
  obtain ⟨S1, hS1⟩ : ∃ x, x = moMany (cF (tagOf tag) (keyOf (tagOf tag) n k) false) 6 true ⟨V0, [], []⟩ (sub a 0 w) := ⟨_, rfl⟩
  obtain ⟨S2, hS2⟩ : ∃ x, x = moMany (cF (tagOf tag) (keyOf (tagOf tag) n k) false) 6 false ⟨V0, [], []⟩ (sub b 0 w) := ⟨_, rfl⟩
  have l0 : S0.1.length = w := by rw [hS0, moMany_len, la']
  have l1 : S1.1.length = w := by rw [hS1, moMany_len, la']
  have l2 : S2.1.length = w := by rw [hS2, moMany_len, lb']
  have T0 := c_step_byte h (mode := 6) (back := false) (st := ⟨V0, [], []⟩) (b := sub a 0 w) rfl la' (by omega) (by decide) K0 (.inr rfl)
  have T1 := c_step_byte h (mode := 6) (back := true) (st := ⟨V0, [], []⟩) (b := sub a 0 w) rfl la' (by omega) (by decide) K0 (.inr rfl)
  have T2 := c_step_byte h (mode := 6) (back := false) (st := ⟨V0, [], []⟩) (b := sub b 0 w) rfl lb' (by omega) (by decide) K0 (.inr rfl)
  have k0 : ∀ i, i < w → S0.1.getD i 0 = a.getD i 0 ^^^ ((cF (tagOf tag) (keyOf (tagOf tag) n k) false) (chAt (cF (tagOf tag) (keyOf (tagOf tag) n k) false) 6 V0 (i / s))).getD (i % s) 0 := fun i hi => by rw [hS0, mo_key hci (by omega) (by decide) lV (by omega), sub0_getD hi]
  have k1 : ∀ i, i < w → S1.1.getD i 0 = a.getD i 0 ^^^ ((cF (tagOf tag) (keyOf (tagOf tag) n k) false) (chAt (cF (tagOf tag) (keyOf (tagOf tag) n k) false) 6 V0 (i / s))).getD (i % s) 0 := fun i hi => by rw [hS1, mo_key hci (by omega) (by decide) lV (by omega), sub0_getD hi]
  have k2 : ∀ i, i < w → S2.1.getD i 0 = b.getD i 0 ^^^ ((cF (tagOf tag) (keyOf (tagOf tag) n k) false) (chAt (cF (tagOf tag) (keyOf (tagOf tag) n k) false) 6 V0 (i / s))).getD (i % s) 0 := fun i hi => by rw [hS2, mo_key hci (by omega) (by decide) lV (by omega), sub0_getD hi]
  rw [← hS0] at T0
  rw [← hS1] at T1
  rw [← hS2] at T2
  clear hS0 hS1 hS2
  obtain ⟨o0, ⟨c0, row0, g0⟩⟩ := S0
  obtain ⟨o1, ⟨c1, row1, g1⟩⟩ := S1
  obtain ⟨o2, ⟨c2, row2, g2⟩⟩ := S2
  dsimp only at T0 T1 T2 l0 l1 l2 k0 k1 k2
  refine ⟨Nat, fun i => ⟨[(4, .z li (bv iv')), (5, .z la (bv a)), (6, .z lb (bv b)), (15, cipV (tagOf tag) q xs), (17, i64 6), (18, i64 w), (19, .p (.k 0) 0), (20, i64 i)], [stB w o0 o1 o2 i]⟩, fun i => i ≤ 3, fun i => 3 - i, ?_, fun i hx => ?_⟩
  ·exact ⟨[], 0, Nat.zero_le _, [.d 19 0], ⟨rfl, rfl, rfl, rfl, rfl, congrArg (vi .i64) e3, rfl, rfl, trivial⟩, ⟨_, rfl, rfl⟩, trivial⟩
  ·rcases i with _ | _ | _ | _ | i
   ·refine ⟨[], _, _, _, _, h.size, rfl, rfl, ?_⟩
    refine ⟨[], _, _, _, _, cI, rfl, rfl, ?_⟩
    refine ⟨[], _, _, _, _, c_new_m h (mode := 6) (back := false) (i := 1) (iv := V0) rfl lV (by decide) rfl, rfl, rfl, ?_⟩
    refine ⟨by omega, by omega, by omega, by omega, ?_⟩
    skip
    rcases row0 with _ | ⟨a1, r1⟩
    all_goals
     refine ⟨[.d 56 0, .d 56 1], _, _, _, _, T0, ?_, rfl, ?_⟩
     ·show [V.p (.k 0) 0, V.z w (sub (bv a) 0 w)] = _
      rw [hva]
     refine ⟨by decide, by decide, ?_⟩
     refine ⟨Nat.le_of_ble_eq_true rfl, ?_⟩
     refine ⟨by decide, by decide, ?_⟩
     refine ⟨_, rfl, ?_⟩
     refine spl_ne (fun h => absurd rfl h) (fun _ => ?_)
     refine ⟨0 + 1, by decide, by decide, [.k 0], ⟨rfl, rfl, rfl, rfl, rfl, rfl, rfl, rfl, trivial⟩, ⟨_, rfl, ?_⟩, trivial⟩
     show B.mx [.z w (bv o0), nilv, nilv] = _
     rfl
   ·refine ⟨[], _, _, _, _, h.size, rfl, rfl, ?_⟩
    refine ⟨[], _, _, _, _, cI, rfl, rfl, ?_⟩
    refine ⟨[], _, _, _, _, c_new_m h (mode := 6) (back := true) (i := 1) (iv := V0) rfl lV (by decide) rfl, rfl, rfl, ?_⟩
    refine ⟨by omega, by omega, by omega, by omega, ?_⟩
    skip
    rcases row1 with _ | ⟨a1, r1⟩
    all_goals
     refine ⟨[.d 56 0, .d 56 1], _, _, _, _, T1, ?_, rfl, ?_⟩
     ·show [V.p (.k 0) 0, V.z w (sub (bv a) 0 w)] = _
      rw [hva]
     refine ⟨by decide, by decide, ?_⟩
     refine ⟨Nat.le_of_ble_eq_true rfl, ?_⟩
     refine ⟨by decide, by decide, ?_⟩
     refine ⟨_, rfl, ?_⟩
     refine spl_ne (fun h => absurd rfl h) (fun _ => ?_)
     refine ⟨1 + 1, by decide, by decide, [.k 0], ⟨rfl, rfl, rfl, rfl, rfl, rfl, rfl, rfl, trivial⟩, ⟨_, rfl, ?_⟩, trivial⟩
     show B.mx [.z w (bv o0), .z w (bv o1), nilv] = _
     rfl
   ·refine ⟨[], _, _, _, _, h.size, rfl, rfl, ?_⟩
    refine ⟨[], _, _, _, _, cI, rfl, rfl, ?_⟩
    refine ⟨[], _, _, _, _, c_new_m h (mode := 6) (back := false) (i := 1) (iv := V0) rfl lV (by decide) rfl, rfl, rfl, ?_⟩
    refine ⟨by omega, by omega, by omega, by omega, ?_⟩
    refine ⟨by omega, by omega, by omega, by omega, ?_⟩
    rcases row2 with _ | ⟨a1, r1⟩
    all_goals
     refine ⟨[.d 56 0, .d 56 1], _, _, _, _, T2, ?_, rfl, ?_⟩
     ·show [V.p (.k 0) 0, V.z w (sub (bv b) 0 w)] = _
      rw [hvb]
     refine ⟨by decide, by decide, ?_⟩
     refine ⟨Nat.le_of_ble_eq_true rfl, ?_⟩
     refine ⟨by decide, by decide, ?_⟩
     refine ⟨_, rfl, ?_⟩
     refine spl_ne (fun h => absurd rfl h) (fun _ => ?_)
     refine ⟨2 + 1, by decide, by decide, [.k 0], ⟨rfl, rfl, rfl, rfl, rfl, rfl, rfl, rfl, trivial⟩, ⟨_, rfl, ?_⟩, trivial⟩
     show B.mx [.z w (bv o0), .z w (bv o1), .z w (bv o2)] = _
     rfl
   ·refine loopN (fun i => ⟨[(5, .z la (bv a)), (6, .z lb (bv b)), (18, i64 w), (19, .p (.k 0) 0), (24, i64 i)], [.mx [.z w (bv o0), .z w (bv o1), .z w (bv o2)]]⟩) w ⟨[.k 0], ⟨rfl, rfl, rfl, rfl, rfl, trivial⟩, ⟨_, rfl, rfl⟩, trivial⟩ fun i hi' => ?_
    refine spl_d (fun hlt => ?_) (fun hge => ?_)
    ·have hlt : i < w := by omega
     have x0 : (bv o0)[((i : Nat) : Int).toNat]? = some (Value.int .u8 (o0.getD i 0).toNat) := by rw [Int.toNat_natCast]; exact bv_getD (by omega)
     have x1 : (bv o1)[((i : Nat) : Int).toNat]? = some (Value.int .u8 (o1.getD i 0).toNat) := by rw [Int.toNat_natCast]; exact bv_getD (by omega)
     have x2 : (bv o2)[((i : Nat) : Int).toNat]? = some (Value.int .u8 (o2.getD i 0).toNat) := by rw [Int.toNat_natCast]; exact bv_getD (by omega)
     have xa : (bv a)[((i : Nat) : Int).toNat]? = some (Value.int .u8 (a.getD i 0).toNat) := by rw [Int.toNat_natCast]; exact bv_getD (by omega)
     have xb : (bv b)[((i : Nat) : Int).toNat]? = some (Value.int .u8 (b.getD i 0).toNat) := by rw [Int.toNat_natCast]; exact bv_getD (by omega)
     refine ⟨by decide, by decide, ?_⟩
     refine ⟨_, rfl, ?_⟩
     refine ⟨(by omega), (by omega), _, x0, ?_⟩
     refine ⟨by decide, by decide, ?_⟩
     refine ⟨_, rfl, ?_⟩
     refine ⟨(by omega), (by omega), _, x1, ?_⟩
     refine spl_ne (fun h => absurd (by rw [k0 i hlt, k1 i hlt]) h) (fun _ => ?_)
     refine ⟨by decide, by decide, ?_⟩
     refine ⟨_, rfl, ?_⟩
     refine ⟨(by omega), (by omega), _, x0, ?_⟩
     refine ⟨(by omega), (by omega), _, xa, ?_⟩
     refine ⟨by decide, by decide, ?_⟩
     refine ⟨_, rfl, ?_⟩
     refine ⟨(by omega), (by omega), _, x2, ?_⟩
     refine ⟨(by omega), (by omega), _, xb, ?_⟩
     refine spl_ne (fun h => absurd (by rw [u8_xor, u8_xor, k0 i hlt, k2 i hlt, u8_can]) h) (fun _ => ?_)
     exact ⟨i + 1, (by omega), (by omega), [.k 0], ⟨rfl, rfl, rfl, rfl, congrArg (vi .i64) (by simp (disch := omega) only [IntWalk.i64_in]; omega), trivial⟩, ⟨_, rfl, rfl⟩, trivial⟩
    ·exact ⟨_, rfl, [], rfl, trivial⟩
   ·exact absurd hx (by omega)
end Go.Scr
