/-
  What the functions of the given program reckon, each by a contract, up to the law. It is no claim by itself; each contract bears its own conditions.
-/
import Derived.Test.YtibipkfepappfaaGreatDoorY6
set_option linter.unusedVariables false
set_option linter.unusedSimpArgs false
set_option maxRecDepth 100000
namespace Go.Scr
open Go.Proofs
def meD (cv : V) (M : Int) (back : Bool) (s w ln : Nat) (bb al : List UInt8) (ns : List Int) : Nat × List UInt8 × MS → D
 | (i, o, st) => ⟨[(6, .z w (bv bb)), (7, .z ln (iv ns)), (22, .p (.k 0) 0), (24, i64 s), (25, .z w (bv al)), (26, i64 0), (27, .s (.string (bs o))), (28, i64 i)], [moX cv M back st 1, gnB st.row st.gone]⟩
def meE (cv : V) (M : Int) (back : Bool) (s w ln : Nat) (bb al : List UInt8) (ns : List Int) (i : Nat) (o : List UInt8) (st : MS) : Nat → D
 | j => ⟨[(6, .z w (bv bb)), (7, .z ln (iv ns)), (22, .p (.k 0) 0), (24, i64 s), (25, .z w (bv al)), (26, i64 0), (27, .s (.string (bs o))), (28, i64 i), (29, i64 j)], [moX cv M back st 1, gnB st.row st.gone]⟩
set_option maxHeartbeats 4000000 in
theorem c_mempty {tag n mode : Int} {back : Bool} (h0 : -9223372036854775808 ≤ tag ∧ tag ≤ 9223372036854775807) (h1 : -9223372036854775808 ≤ n ∧ n ≤ 9223372036854775807) {lk li lb ln : Nat} {k iv' b : List UInt8} (hk : k.length = lk) (hm : -9223372036854775808 ≤ mode ∧ mode ≤ 9223372036854775807) (hi : iv'.length = li) (hb : b.length = lb) {ns : List Int} (hn : ns.length = ln) (hns : ∀ n ∈ ns, -9223372036854775808 ≤ n ∧ n ≤ 9223372036854775807) :
  Con C N.law12_ModesEmpty [i64 tag, i64 n, .z lk (bv k), i64 mode, bool back, .z li (bv iv'), .z lb (bv b), .z ln (iv ns)] [] (.ret (bool true)) [] := by
 subst hb
 obtain ⟨s, q, xs, rs, h⟩ := ciph_law tag n k
 have hs := h.s_le
 have hci := h.ci
 obtain ⟨g, hg, hg1⟩ := emod_nat mode (n := 6) (by omega)
 obtain ⟨M, hM⟩ : ∃ M : Int, M = 1 + (g : Int) := ⟨_, rfl⟩
 have e1 : IntKind.i64.wrap (1 + mode % 6) = M := by rw [IntWalk.i64_in _ (by omega)]; omega
 have lI := ivL_len M s iv'
 obtain ⟨gr, hgr⟩ : ∃ gr, gr = moGrain s M := ⟨_, rfl⟩
 have hgp : 0 < gr := by rw [hgr]; unfold moGrain; split <;> omega
 have hg16 : gr ≤ 16 := by rw [hgr]; unfold moGrain; split <;> omega
 have hgd : ∀ z, z % s = 0 → z % gr = 0 := fun z hz => by
  rw [hgr]; unfold moGrain
  split
  ·exact hz
  ·exact Nat.mod_one _
 refine con.law12_ModesEmpty ?_
 refine ⟨[], _, _, _, _, c_law12_known, rfl, rfl, ?_⟩
 refine spl_d (fun h200 => ?_) (fun h200 => ?_)
 ·exact ⟨_, rfl, [], rfl, trivial⟩
 refine ⟨[], _, _, _, _, c_law12_both h0 h1 hk h, rfl, rfl, ?_⟩
 refine ⟨[], _, _, _, _, c_w12 (a := mode) (n := 6) (by omega) (by omega) hm, rfl, rfl, ?_⟩
 refine ⟨[], _, _, _, _, h.size, rfl, rfl, ?_⟩
 refine ⟨[], _, _, _, _, c_iv (mode := M) (s := s) rfl hi (by omega), ?_, rfl, ?_⟩
 ·rw [e1]; rfl
 refine ⟨[], _, _, _, _, c_new_m h (mode := M) (back := back) (i := 1) (iv := ivL M s iv') rfl lI (by omega) rfl, ?_, rfl, ?_⟩
 ·rw [e1]; rfl
 refine ⟨[], _, _, _, _, h.size, rfl, rfl, ?_⟩
 refine ⟨[], _, _, _, _, c_iv (mode := M) (s := s) rfl hi (by omega), ?_, rfl, ?_⟩
 ·rw [e1]; rfl
 refine ⟨[], _, _, _, _, c_new_m h (mode := M) (back := back) (i := 1) (iv := ivL M s iv') rfl lI (by omega) rfl, ?_, rfl, ?_⟩
 ·rw [e1]; rfl
 generalize ivL M s iv' = V0 at *
 have K0 : MK s M ⟨V0, [], []⟩ := MK.new (by omega) (by
  unfold ivN at lI
  by_cases h1 : M = 1
  ·exact .inl h1
  ·rw [if_neg h1] at lI; exact .inr lI)
 obtain ⟨w, hw⟩ : ∃ w, w = b.length / s * s := ⟨_, rfl⟩
 have hwl : w ≤ b.length := by rw [hw]; exact Nat.div_mul_le_self _ _
 have hws : w % s = 0 := by rw [hw]; exact Nat.mul_mod_left _ _
 have hwg := hgd w hws
 have e4 : IntKind.i64.wrap (IntKind.i64.wrap ((b.length : Int).tdiv (s : Int)) * (s : Int)) = ((w : Nat) : Int) := by rw [hw]; exact i64_quomul (by omega)
 have lp : (sub b 0 w).length = w := by rw [sub_length]; omega
 have hvp : sub (bv b) 0 w = bv (sub b 0 w) := bv_sub _ _ _
 refine ⟨[], _, _, _, _, h.size, rfl, rfl, ?_⟩
 refine ⟨by omega, ?_⟩
 refine ⟨by rw [e4]; omega, by rw [e4]; omega, by rw [e4]; omega, by rw [e4]; omega, ?_⟩
 generalize sub b 0 w = bb at *
 have SX := c_step h (back := back) (st := ⟨V0, [], []⟩) (b := bb) rfl lp (by omega) K0 (by rw [← hgr]; exact hwg) (.inr rfl)
 obtain ⟨al, hal⟩ : ∃ al, al = (moStep (cF (tagOf tag) (keyOf (tagOf tag) n k) false) (cF (tagOf tag) (keyOf (tagOf tag) n k) true) s M back ⟨V0, [], []⟩ bb).1 := ⟨_, rfl⟩
 have lal : al.length = w := by rw [hal, moStep_len hci K0.ok (by rw [lp, ← hgr]; exact hwg), lp]
 obtain ⟨x1, hx1⟩ : ∃ x1, x1 = (moStep (cF (tagOf tag) (keyOf (tagOf tag) n k) false) (cF (tagOf tag) (keyOf (tagOf tag) n k) true) s M back ⟨V0, [], []⟩ bb).2 := ⟨_, rfl⟩
 have hAl : moStep (cF (tagOf tag) (keyOf (tagOf tag) n k) false) (cF (tagOf tag) (keyOf (tagOf tag) n k) true) s M back ⟨V0, [], []⟩ bb = (al, x1) := by rw [hal, hx1]
 rw [hAl] at SX
 dsimp only at SX
 clear hal hx1
 obtain ⟨c1, row1, g1⟩ := x1
 rcases row1 with _ | ⟨a1, r1⟩
 all_goals
  refine ⟨[.d 60 0, .d 60 1], _, _, _, _, SX, ?_, rfl, ?_⟩
  ·rw [e4]
   show [V.p (.k 0) 0, V.z w (sub (bv b) 0 w)] = _
   rw [hvp]
  have e6 : V.z (IntKind.i64.wrap (IntKind.i64.wrap ((b.length : Int).tdiv (s : Int)) * (s : Int))).toNat (sub (bv b) 0 (IntKind.i64.wrap (IntKind.i64.wrap ((b.length : Int).tdiv (s : Int)) * (s : Int))).toNat) = V.z w (bv bb) := by rw [e4, Int.toNat_natCast, hvp]
  refine ⟨Nat × List UInt8 × MS, meD (cipV (tagOf tag) q xs) M back s w ln bb al ns, fun x => x.1 ≤ w ∧ x.1 % s = 0 ∧ moStep (cF (tagOf tag) (keyOf (tagOf tag) n k) false) (cF (tagOf tag) (keyOf (tagOf tag) n k) true) s M back ⟨V0, [], []⟩ (bb.take x.1) = (x.2.1, x.2.2) ∧ MK s M x.2.2 ∧ x.2.1.length = x.1, fun x => 200 - x.1, ⟨[], (0, [], ⟨V0, [], []⟩), ⟨Nat.zero_le _, Nat.zero_mod _, moStep_nil, K0, rfl⟩, [.d 72 0, .d 72 1], ⟨e6, rfl, rfl, rfl, rfl, rfl, rfl, rfl, trivial⟩, ⟨_, rfl, rfl⟩, ⟨_, rfl, rfl⟩, trivial⟩, fun x hx => ?_⟩
  obtain ⟨i, o, ⟨ch, row, gg⟩⟩ := x
  obtain ⟨h1', h2, h3, K, h5⟩ := hx
  dsimp only at h1' h2 h3 K h5
  refine spl_d (fun hlt => ?_) (fun hge => ?_)
  ·have hlt : i < w := Int.ofNat_lt.1 hlt
   have his : i + s ≤ w := by
    obtain ⟨u, hu⟩ := Nat.dvd_of_mod_eq_zero hws
    obtain ⟨v, hv⟩ := Nat.dvd_of_mod_eq_zero h2
    have : v < u := by
     refine Nat.lt_of_mul_lt_mul_left (a := s) ?_
     omega
    have := Nat.mul_le_mul_left s this
    rw [Nat.mul_succ] at this
    omega
   have hisg : (i + s) % s = 0 := by rw [Nat.add_mod_right]; exact h2
   have e5 : IntKind.i64.wrap ((i : Int) + (s : Int)) = ((i + s : Nat) : Int) := by rw [IntWalk.i64_in _ (by omega)]; omega
   have ec : (i + s) - i = s := Nat.add_sub_cancel_left _ _
   have qi : IntKind.i64.wrap ((i : Int).tdiv (s : Int)) = ((i / s : Nat) : Int) := i64_quo (by omega)
   have l3 : (sub bb i s).length = s := by rw [sub_length]; omega
   have v3 : sub (bv bb) i s = bv (sub bb i s) := bv_sub _ _ _
   have ltc : (bb.take i).length = i := by rw [List.length_take]; omega
   have htk : bb.take (i + s) = bb.take i ++ sub bb i s := by rw [List.take_add]; rfl
   obtain ⟨o1, st1, hS, lo1, K1, OUT⟩ := step_one h back (st := ⟨ch, row, gg⟩) (p := sub bb i s) l3 (by omega) K (by rw [← hgr]; exact hgd s (Nat.mod_self s))
   have hNx : moStep (cF (tagOf tag) (keyOf (tagOf tag) n k) false) (cF (tagOf tag) (keyOf (tagOf tag) n k) true) s M back ⟨V0, [], []⟩ (bb.take (i + s)) = (o ++ o1, st1) := by
    rw [htk, moStep_app (by omega) (by rw [ltc, ← hgr]; exact hgd i h2) (by rw [l3, ← hgr]; exact hgd s (Nat.mod_self s)), h3]
    dsimp only
    rw [hS]
   obtain ⟨o0, st0, hS0, lo0, K0', OUT0'⟩ := step_one h back (st := ⟨ch, row, gg⟩) (p := []) (m := 0) rfl (by omega) K (Nat.zero_mod _)
   have e0 : ([], (⟨ch, row, gg⟩ : MS)) = (o0, st0) := moStep_nil.symm.trans hS0
   obtain ⟨rfl, rfl⟩ := Prod.mk.inj e0
   have OUT0 := OUT0'.imp_left And.right
   clear OUT0' hS0 lo0 K0' e0 hS htk
   generalize sub bb i s = pp at *
   refine ⟨Nat, meE (cipV (tagOf tag) q xs) M back s w ln bb al ns i o ⟨ch, row, gg⟩, fun j => j ≤ 3, fun j => 3 - j, ?_, fun j hj => ?_⟩
   ·rcases row with _ | ⟨a0, r0⟩ <;> exact ⟨[], 0, Nat.zero_le _, [.k 0, .k 1], ⟨rfl, rfl, rfl, rfl, rfl, rfl, rfl, rfl, rfl, trivial⟩, ⟨_, rfl, rfl⟩, ⟨_, rfl, rfl⟩, trivial⟩
   ·rcases row with _ | ⟨a0, r0⟩
    all_goals
     have ej : IntKind.i64.wrap ((j : Int) + 1) = ((j + 1 : Nat) : Int) := by rw [IntWalk.i64_in _ (by omega)]; rfl
     refine ⟨by omega, ?_⟩
     refine spl_d (fun hl => ?_) (fun hl => ?_)
     ·have hl : i / s < ns.length := by rw [qi] at hl; have := Int.ofNat_lt.1 hl; omega
      obtain ⟨x, hx⟩ : ∃ x, ns[i / s] = x := ⟨_, rfl⟩
      have hxb : -9223372036854775808 ≤ x ∧ x ≤ 9223372036854775807 := hns x (hx ▸ List.getElem_mem hl)
      have hv : (iv ns)[(IntKind.i64.wrap ((i : Int).tdiv (s : Int))).toNat]? = some (Value.int .i64 x) := by rw [qi, Int.toNat_natCast, iv_get hl, hx]
      obtain ⟨d, hd, hd1⟩ := emod_nat x (n := 3) (by omega)
      refine ⟨by omega, ?_⟩
      refine ⟨by rw [qi]; exact Int.natCast_nonneg _, by rw [qi]; exact Int.ofNat_lt.2 (by rw [← hn]; exact hl), _, hv, ?_⟩
      refine ⟨[], _, _, _, _, c_w12 (a := x) (n := 3) (by omega) (by omega) hxb, rfl, rfl, ?_⟩
      refine spl_d (fun hjd => ?_) (fun hjd => ?_)
      ·have hjd : j < d := by have : x % ((3 : Nat) : Int) = (d : Int) := hd; have e : (j : Int) < x % 3 := hjd; omega
       rcases OUT0 with A0 | A0
       ·refine ⟨[.k 0, .k 1], _, _, _, _, Con.args A0 (ys0 := [.p (.k 0) 0, nilv]) (.cons (.refl _) (.cons (.nl : Wk nilv (.z 0 (bv []))) .nil)), rfl, rfl, ?_⟩
        exact ⟨j + 1, by show j + 1 ≤ 3; omega, (by show 3 - (j + 1) < 3 - j; omega), [.k 0, .k 1], ⟨rfl, rfl, rfl, rfl, rfl, rfl, rfl, rfl, congrArg (vi .i64) ej, trivial⟩, ⟨_, rfl, rfl⟩, ⟨_, rfl, rfl⟩, trivial⟩
       ·refine ⟨[.k 0, .k 1], _, _, _, _, Con.args A0 (ys0 := [.p (.k 0) 0, nilv]) (.cons (.refl _) (.cons (.nl : Wk nilv (.z 0 (bv []))) .nil)), rfl, rfl, ?_⟩
        exact ⟨j + 1, by show j + 1 ≤ 3; omega, (by show 3 - (j + 1) < 3 - j; omega), [.k 0, .d 125 2], ⟨rfl, rfl, rfl, rfl, rfl, rfl, rfl, rfl, congrArg (vi .i64) ej, trivial⟩, ⟨_, rfl, rfl⟩, ⟨_, rfl, rfl⟩, trivial⟩
      ·rcases OUT with ⟨rfl, A⟩ | A
       ·refine ⟨(by first | omega | (rw [e5]; omega) | (rw [e5, Int.toNat_natCast]; omega)), (by first | omega | (rw [e5]; omega) | (rw [e5, Int.toNat_natCast]; omega)), (by first | omega | (rw [e5]; omega) | (rw [e5, Int.toNat_natCast]; omega)), (by first | omega | (rw [e5]; omega) | (rw [e5, Int.toNat_natCast]; omega)), (by first | omega | (rw [e5]; omega) | (rw [e5, Int.toNat_natCast]; omega)), ?_⟩
        refine ⟨[.k 0, .k 1], _, _, _, _, A, ?_, rfl, ?_⟩
        ·rw [e5]
         show [V.p (.k 0) 0, V.z (i + s - i) (sub (bv bb) i (i + s - i))] = _
         rw [ec, v3]
        refine ⟨by rw [bv_len]; exact lo1, _, rfl, ?_⟩
        refine ⟨by show (bs o).size + (bs o1).size ≤ 1099511627776; rw [bs_size, bs_size]; omega, ?_⟩
        exact ⟨(i + s, o ++ o1, ⟨_, _, _⟩), ⟨his, hisg, hNx, K1, by rw [List.length_append, h5, lo1]⟩, (by show 200 - (i + s) < 200 - i; omega), [.k 0, .k 1], ⟨rfl, rfl, rfl, rfl, rfl, rfl, congrArg (fun z => V.s (.string z)) (bs_app o o1), congrArg (vi .i64) e5, trivial⟩, ⟨_, rfl, rfl⟩, ⟨_, rfl, rfl⟩, trivial⟩
       ·obtain ⟨ch1, row1, g1⟩ := st1
        rcases row1 with _ | ⟨a1, r2⟩
        ·refine ⟨(by first | omega | (rw [e5]; omega) | (rw [e5, Int.toNat_natCast]; omega)), (by first | omega | (rw [e5]; omega) | (rw [e5, Int.toNat_natCast]; omega)), (by first | omega | (rw [e5]; omega) | (rw [e5, Int.toNat_natCast]; omega)), (by first | omega | (rw [e5]; omega) | (rw [e5, Int.toNat_natCast]; omega)), (by first | omega | (rw [e5]; omega) | (rw [e5, Int.toNat_natCast]; omega)), ?_⟩
         refine ⟨[.k 0, .k 1], _, _, _, _, A, ?_, rfl, ?_⟩
         ·rw [e5]
          show [V.p (.k 0) 0, V.z (i + s - i) (sub (bv bb) i (i + s - i))] = _
          rw [ec, v3]
         refine ⟨by rw [bv_len]; exact lo1, _, rfl, ?_⟩
         refine ⟨by show (bs o).size + (bs o1).size ≤ 1099511627776; rw [bs_size, bs_size]; omega, ?_⟩
         exact ⟨(i + s, o ++ o1, ⟨_, _, _⟩), ⟨his, hisg, hNx, K1, by rw [List.length_append, h5, lo1]⟩, (by show 200 - (i + s) < 200 - i; omega), [.k 0, .d 143 2], ⟨rfl, rfl, rfl, rfl, rfl, rfl, congrArg (fun z => V.s (.string z)) (bs_app o o1), congrArg (vi .i64) e5, trivial⟩, ⟨_, rfl, rfl⟩, ⟨_, rfl, rfl⟩, trivial⟩
        ·refine ⟨(by first | omega | (rw [e5]; omega) | (rw [e5, Int.toNat_natCast]; omega)), (by first | omega | (rw [e5]; omega) | (rw [e5, Int.toNat_natCast]; omega)), (by first | omega | (rw [e5]; omega) | (rw [e5, Int.toNat_natCast]; omega)), (by first | omega | (rw [e5]; omega) | (rw [e5, Int.toNat_natCast]; omega)), (by first | omega | (rw [e5]; omega) | (rw [e5, Int.toNat_natCast]; omega)), ?_⟩
         refine ⟨[.k 0, .k 1], _, _, _, _, A, ?_, rfl, ?_⟩
         ·rw [e5]
          show [V.p (.k 0) 0, V.z (i + s - i) (sub (bv bb) i (i + s - i))] = _
          rw [ec, v3]
         refine ⟨by rw [bv_len]; exact lo1, _, rfl, ?_⟩
         refine ⟨by show (bs o).size + (bs o1).size ≤ 1099511627776; rw [bs_size, bs_size]; omega, ?_⟩
         exact ⟨(i + s, o ++ o1, ⟨_, _, _⟩), ⟨his, hisg, hNx, K1, by rw [List.length_append, h5, lo1]⟩, (by show 200 - (i + s) < 200 - i; omega), [.k 0, .d 143 2], ⟨rfl, rfl, rfl, rfl, rfl, rfl, congrArg (fun z => V.s (.string z)) (bs_app o o1), congrArg (vi .i64) e5, trivial⟩, ⟨_, rfl, rfl⟩, ⟨_, rfl, rfl⟩, trivial⟩
     ·rcases OUT with ⟨rfl, A⟩ | A
      ·refine ⟨(by first | omega | (rw [e5]; omega) | (rw [e5, Int.toNat_natCast]; omega)), (by first | omega | (rw [e5]; omega) | (rw [e5, Int.toNat_natCast]; omega)), (by first | omega | (rw [e5]; omega) | (rw [e5, Int.toNat_natCast]; omega)), (by first | omega | (rw [e5]; omega) | (rw [e5, Int.toNat_natCast]; omega)), (by first | omega | (rw [e5]; omega) | (rw [e5, Int.toNat_natCast]; omega)), ?_⟩
       refine ⟨[.k 0, .k 1], _, _, _, _, A, ?_, rfl, ?_⟩
       ·rw [e5]
        show [V.p (.k 0) 0, V.z (i + s - i) (sub (bv bb) i (i + s - i))] = _
        rw [ec, v3]
       refine ⟨by rw [bv_len]; exact lo1, _, rfl, ?_⟩
       refine ⟨by show (bs o).size + (bs o1).size ≤ 1099511627776; rw [bs_size, bs_size]; omega, ?_⟩
       exact ⟨(i + s, o ++ o1, ⟨_, _, _⟩), ⟨his, hisg, hNx, K1, by rw [List.length_append, h5, lo1]⟩, (by show 200 - (i + s) < 200 - i; omega), [.k 0, .k 1], ⟨rfl, rfl, rfl, rfl, rfl, rfl, congrArg (fun z => V.s (.string z)) (bs_app o o1), congrArg (vi .i64) e5, trivial⟩, ⟨_, rfl, rfl⟩, ⟨_, rfl, rfl⟩, trivial⟩
      ·obtain ⟨ch1, row1, g1⟩ := st1
       rcases row1 with _ | ⟨a1, r2⟩
       ·refine ⟨(by first | omega | (rw [e5]; omega) | (rw [e5, Int.toNat_natCast]; omega)), (by first | omega | (rw [e5]; omega) | (rw [e5, Int.toNat_natCast]; omega)), (by first | omega | (rw [e5]; omega) | (rw [e5, Int.toNat_natCast]; omega)), (by first | omega | (rw [e5]; omega) | (rw [e5, Int.toNat_natCast]; omega)), (by first | omega | (rw [e5]; omega) | (rw [e5, Int.toNat_natCast]; omega)), ?_⟩
        refine ⟨[.k 0, .k 1], _, _, _, _, A, ?_, rfl, ?_⟩
        ·rw [e5]
         show [V.p (.k 0) 0, V.z (i + s - i) (sub (bv bb) i (i + s - i))] = _
         rw [ec, v3]
        refine ⟨by rw [bv_len]; exact lo1, _, rfl, ?_⟩
        refine ⟨by show (bs o).size + (bs o1).size ≤ 1099511627776; rw [bs_size, bs_size]; omega, ?_⟩
        exact ⟨(i + s, o ++ o1, ⟨_, _, _⟩), ⟨his, hisg, hNx, K1, by rw [List.length_append, h5, lo1]⟩, (by show 200 - (i + s) < 200 - i; omega), [.k 0, .d 143 2], ⟨rfl, rfl, rfl, rfl, rfl, rfl, congrArg (fun z => V.s (.string z)) (bs_app o o1), congrArg (vi .i64) e5, trivial⟩, ⟨_, rfl, rfl⟩, ⟨_, rfl, rfl⟩, trivial⟩
       ·refine ⟨(by first | omega | (rw [e5]; omega) | (rw [e5, Int.toNat_natCast]; omega)), (by first | omega | (rw [e5]; omega) | (rw [e5, Int.toNat_natCast]; omega)), (by first | omega | (rw [e5]; omega) | (rw [e5, Int.toNat_natCast]; omega)), (by first | omega | (rw [e5]; omega) | (rw [e5, Int.toNat_natCast]; omega)), (by first | omega | (rw [e5]; omega) | (rw [e5, Int.toNat_natCast]; omega)), ?_⟩
        refine ⟨[.k 0, .k 1], _, _, _, _, A, ?_, rfl, ?_⟩
        ·rw [e5]
         show [V.p (.k 0) 0, V.z (i + s - i) (sub (bv bb) i (i + s - i))] = _
         rw [ec, v3]
        refine ⟨by rw [bv_len]; exact lo1, _, rfl, ?_⟩
        refine ⟨by show (bs o).size + (bs o1).size ≤ 1099511627776; rw [bs_size, bs_size]; omega, ?_⟩
        exact ⟨(i + s, o ++ o1, ⟨_, _, _⟩), ⟨his, hisg, hNx, K1, by rw [List.length_append, h5, lo1]⟩, (by show 200 - (i + s) < 200 - i; omega), [.k 0, .d 143 2], ⟨rfl, rfl, rfl, rfl, rfl, rfl, congrArg (fun z => V.s (.string z)) (bs_app o o1), congrArg (vi .i64) e5, trivial⟩, ⟨_, rfl, rfl⟩, ⟨_, rfl, rfl⟩, trivial⟩
  ·have hi : i = w := by have : ¬ (i < w) := fun hh => hge (Int.ofNat_lt.2 hh); omega
   subst hi
   rw [List.take_of_length_le (by omega), hAl] at h3
   have ho : al = o := congrArg Prod.fst h3
   refine spl_eq (fun _ => ?_) (fun h => absurd rfl h)
   refine ⟨by rw [bv_len]; exact lal, _, rfl, ?_⟩
   refine ⟨_, rfl, [], congrArg bool ?_, trivial⟩
   rw [← ho, str_beq]; simp
end Go.Scr
