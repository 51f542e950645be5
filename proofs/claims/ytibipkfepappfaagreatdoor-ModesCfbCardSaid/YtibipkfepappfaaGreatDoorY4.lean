/-
  What the functions of the given program reckon, each by a contract, up to the law. It is no claim by itself; each contract bears its own conditions.
-/
import Derived.Test.YtibipkfepappfaaGreatDoorY3
set_option linter.unusedVariables false
set_option linter.unusedSimpArgs false
set_option maxRecDepth 100000
namespace Go.Scr
open Go.Proofs
theorem c_new_own {t key s k xs rs} (h : Ciph t key s k xs rs) {mode : Int} {back : Bool} {i : Nat} {iv : List UInt8} (hl : iv.length = s) (hm : 2 ≤ mode ∧ mode ≤ 6) :
  Con C N.modes_New [cipV t k xs, i64 mode, bool back, .o 1 (.k 0) 0 s] [.sc (bv iv)] (.ret (.t [.p (.k 1) 0, i64 0])) [.sc (bv iv), moX (cipV t k xs) mode back ⟨iv, [], []⟩ i, .dead, .dead] := by
 have hs := h.s_le
 have hX : moX (cipV t k xs) mode back ⟨iv, [], []⟩ i = .mx [cipV t k xs, i64 mode, bool back, .z s (bv iv), .z 0 [], .u] := by
  unfold moX; rw [hl]; rfl
 rw [hX]
 have hm' : mode = 2 ∨ mode = 3 ∨ mode = 4 ∨ mode = 5 ∨ mode = 6 := by omega
 refine fd.modes_New.w ?_
 rcases hm' with rfl | rfl | rfl | rfl | rfl
 ·refine ⟨[], _, _, _, _, h.size, rfl, rfl, ?_⟩
  refine spl_ne (fun hh => absurd rfl hh) (fun _ => ?_)
  refine ⟨[], _, _, _, _, c_cloneB (l := iv) (bv_all hl) hl (by omega) (by omega), rfl, rfl, ?_⟩
  refine ⟨.ret (.t [.p (.k 1) 0, i64 0]), [.sc (bv iv), .mx [cipV t k xs, i64 2, bool back, .z s (bv iv), nilv, nilv]], ⟨_, rfl, [.k 0, .d 32 0], rfl, ⟨_, rfl, rfl⟩, ⟨_, rfl, ?_⟩, trivial⟩, .ret (.refl _), .cons (.refl _) (.cons (.mx (.cons (.refl _) (.cons (.refl _) (.cons (.refl _) (.cons (.refl _) (.cons .nl (.cons .u .nil))))))) (.dd (.dd .nil)))⟩
  show B.mx [cipV t k xs, i64 2, bool back, .z s (sub (bv iv) 0 s), nilv, nilv] = _
  rw [bv_all hl]
 ·refine ⟨[], _, _, _, _, h.size, rfl, rfl, ?_⟩
  refine spl_ne (fun hh => absurd rfl hh) (fun _ => ?_)
  refine ⟨[], _, _, _, _, c_cloneB (l := iv) (bv_all hl) hl (by omega) (by omega), rfl, rfl, ?_⟩
  refine ⟨.ret (.t [.p (.k 1) 0, i64 0]), [.sc (bv iv), .mx [cipV t k xs, i64 3, bool back, .z s (bv iv), nilv, nilv]], ⟨_, rfl, [.k 0, .d 32 0], rfl, ⟨_, rfl, rfl⟩, ⟨_, rfl, ?_⟩, trivial⟩, .ret (.refl _), .cons (.refl _) (.cons (.mx (.cons (.refl _) (.cons (.refl _) (.cons (.refl _) (.cons (.refl _) (.cons .nl (.cons .u .nil))))))) (.dd (.dd .nil)))⟩
  show B.mx [cipV t k xs, i64 3, bool back, .z s (sub (bv iv) 0 s), nilv, nilv] = _
  rw [bv_all hl]
 ·refine ⟨[], _, _, _, _, h.size, rfl, rfl, ?_⟩
  refine spl_ne (fun hh => absurd rfl hh) (fun _ => ?_)
  refine ⟨[], _, _, _, _, c_cloneB (l := iv) (bv_all hl) hl (by omega) (by omega), rfl, rfl, ?_⟩
  refine ⟨.ret (.t [.p (.k 1) 0, i64 0]), [.sc (bv iv), .mx [cipV t k xs, i64 4, bool back, .z s (bv iv), nilv, nilv]], ⟨_, rfl, [.k 0, .d 32 0], rfl, ⟨_, rfl, rfl⟩, ⟨_, rfl, ?_⟩, trivial⟩, .ret (.refl _), .cons (.refl _) (.cons (.mx (.cons (.refl _) (.cons (.refl _) (.cons (.refl _) (.cons (.refl _) (.cons .nl (.cons .u .nil))))))) (.dd (.dd .nil)))⟩
  show B.mx [cipV t k xs, i64 4, bool back, .z s (sub (bv iv) 0 s), nilv, nilv] = _
  rw [bv_all hl]
 ·refine ⟨[], _, _, _, _, h.size, rfl, rfl, ?_⟩
  refine spl_ne (fun hh => absurd rfl hh) (fun _ => ?_)
  refine ⟨[], _, _, _, _, c_cloneB (l := iv) (bv_all hl) hl (by omega) (by omega), rfl, rfl, ?_⟩
  refine ⟨.ret (.t [.p (.k 1) 0, i64 0]), [.sc (bv iv), .mx [cipV t k xs, i64 5, bool back, .z s (bv iv), nilv, nilv]], ⟨_, rfl, [.k 0, .d 32 0], rfl, ⟨_, rfl, rfl⟩, ⟨_, rfl, ?_⟩, trivial⟩, .ret (.refl _), .cons (.refl _) (.cons (.mx (.cons (.refl _) (.cons (.refl _) (.cons (.refl _) (.cons (.refl _) (.cons .nl (.cons .u .nil))))))) (.dd (.dd .nil)))⟩
  show B.mx [cipV t k xs, i64 5, bool back, .z s (sub (bv iv) 0 s), nilv, nilv] = _
  rw [bv_all hl]
 ·refine ⟨[], _, _, _, _, h.size, rfl, rfl, ?_⟩
  refine spl_ne (fun hh => absurd rfl hh) (fun _ => ?_)
  refine ⟨[], _, _, _, _, c_cloneB (l := iv) (bv_all hl) hl (by omega) (by omega), rfl, rfl, ?_⟩
  refine ⟨.ret (.t [.p (.k 1) 0, i64 0]), [.sc (bv iv), .mx [cipV t k xs, i64 6, bool back, .z s (bv iv), nilv, nilv]], ⟨_, rfl, [.k 0, .d 32 0], rfl, ⟨_, rfl, rfl⟩, ⟨_, rfl, ?_⟩, trivial⟩, .ret (.refl _), .cons (.refl _) (.cons (.mx (.cons (.refl _) (.cons (.refl _) (.cons (.refl _) (.cons (.refl _) (.cons .nl (.cons .u .nil))))))) (.dd (.dd .nil)))⟩
  show B.mx [cipV t k xs, i64 6, bool back, .z s (sub (bv iv) 0 s), nilv, nilv] = _
  rw [bv_all hl]
theorem ceil0 {i s : Nat} (hs : 0 < s) (h : i % s = 0) : (i + s - 1) / s = i / s := by
 have hdm := Nat.div_add_mod i s
 have e : i + s - 1 = s * (i / s) + (s - 1) := by
  generalize s * (i / s) = z at *
  omega
 rw [e, Nat.mul_add_div hs, Nat.div_eq_of_lt (show s - 1 < s by omega), Nat.add_zero]
theorem ceil1 {i s : Nat} (hs : 0 < s) (h : i % s ≠ 0) : (i + s - 1) / s = i / s + 1 := by
 have hdm := Nat.div_add_mod i s
 have hml := Nat.mod_lt i hs
 have e : i + s - 1 = s * (i / s + 1) + (i % s - 1) := by
  rw [Nat.mul_succ]
  generalize s * (i / s) = z at *
  omega
 rw [e, Nat.mul_add_div hs, Nat.div_eq_of_lt (show i % s - 1 < s by omega), Nat.add_zero]
theorem c_mofb {tag n : Int} (h0 : -9223372036854775808 ≤ tag ∧ tag ≤ 9223372036854775807) (h1 : -9223372036854775808 ≤ n ∧ n ≤ 9223372036854775807) {lk li lb : Nat} {k iv' b : List UInt8} (hk : k.length = lk) (hi : iv'.length = li) (hb : b.length = lb) :
  Con C N.law12_ModesOfb [i64 tag, i64 n, .z lk (bv k), .z li (bv iv'), .z lb (bv b)] [] (.ret (bool true)) [] := by
 obtain ⟨s, q, xs, rs, h⟩ := ciph_law tag n k
 have hs := h.s_le
 have hci := h.ci
 have lV := bytesN_len s iv'
 refine con.law12_ModesOfb ?_
 refine ⟨[], _, _, _, _, c_law12_known, rfl, rfl, ?_⟩
 refine spl_d (fun h100 => ?_) (fun h100 => ?_)
 ·exact ⟨_, rfl, [], rfl, trivial⟩
 refine ⟨[], _, _, _, _, c_law12_both h0 h1 hk h, rfl, rfl, ?_⟩
 refine ⟨[], _, _, _, _, h.size, rfl, rfl, ?_⟩
 refine ⟨[], _, _, _, _, c_bytes (n := s) rfl hi (by omega), rfl, rfl, ?_⟩
 refine ⟨[.d 38 0], _, _, _, _, c_new_own h (mode := 5) (back := false) (i := 1) (iv := bytesN s iv') lV (by decide), rfl, rfl, ?_⟩
 generalize bytesN s iv' = V0 at *
 have K0 : MK s 5 ⟨V0, [], []⟩ := MK.new (by decide) (.inr lV)
 obtain ⟨S0, hS0⟩ : ∃ x, x = moMany (cF (tagOf tag) (keyOf (tagOf tag) n k) false) 5 false ⟨V0, [], []⟩ b := ⟨_, rfl⟩
 have l0 : S0.1.length = lb := by rw [hS0, moMany_len, hb]
 have T0 := c_step_byte h (mode := 5) (back := false) (st := ⟨V0, [], []⟩) (b := b) rfl hb (by omega) (by decide) K0 (.inr rfl)
 have k0 : ∀ i, i < lb → S0.1.getD i 0 = b.getD i 0 ^^^ (chAt (cF (tagOf tag) (keyOf (tagOf tag) n k) false) 5 V0 (i / s + 1)).getD (i % s) 0 := fun i hi => by rw [hS0, mo_key hci (by omega) (by decide) lV (by omega)]; rfl
 rw [← hS0] at T0
 clear hS0
 obtain ⟨o, ⟨c0, row0, g0⟩⟩ := S0
 dsimp only at T0 l0 k0
 have hcl : ∀ j, (chAt (cF (tagOf tag) (keyOf (tagOf tag) n k) false) 5 V0 j).length = s := chAt_len hci lV
 have hcs : ∀ j, cF (tagOf tag) (keyOf (tagOf tag) n k) false (chAt (cF (tagOf tag) (keyOf (tagOf tag) n k) false) 5 V0 j) = chAt (cF (tagOf tag) (keyOf (tagOf tag) n k) false) 5 V0 (j + 1) := fun j => rfl
 have hc0 : chAt (cF (tagOf tag) (keyOf (tagOf tag) n k) false) 5 V0 ((0 + s - 1) / s) = V0 := by rw [Nat.div_eq_of_lt (by omega)]; rfl
 rcases row0 with _ | ⟨a1, r1⟩
 all_goals
  refine ⟨[.d 42 1, .d 42 2], _, _, _, _, T0, rfl, rfl, ?_⟩
  refine spl_ne (fun h => absurd rfl h) (fun _ => ?_)
  refine loopN (fun i => ⟨[(4, .z lb (bv b)), (12, .q rs 0), (13, i64 s), (14, .z s (bv (chAt (cF (tagOf tag) (keyOf (tagOf tag) n k) false) 5 V0 ((i + s - 1) / s)))), (17, .z lb (bv o)), (19, i64 i)], []⟩) lb ⟨[], ⟨rfl, rfl, rfl, ?_, rfl, rfl, trivial⟩, trivial⟩ fun i hi' => ?_
  ·rw [hc0]
   exact congrArg (V.z s) (bv_all lV)
  refine spl_d (fun hlt => ?_) (fun hge => ?_)
  ·have hlt : i < lb := by omega
   have hrem : ((i : Int).tmod (s : Int)) = ((i % s : Nat) : Int) := by rw [Int.tmod_eq_emod_of_nonneg (by omega)]; rfl
   have hml := Nat.mod_lt i (show 0 < s by omega)
   have hdm := Nat.div_add_mod i s
   have ei : IntKind.i64.wrap ((i : Int) + 1) = ((i + 1 : Nat) : Int) := by rw [IntWalk.i64_in _ (by omega)]; rfl
   have hnx : (i + 1 + s - 1) / s = i / s + 1 := by rw [show i + 1 + s - 1 = i + s by omega, Nat.add_div_right _ (by omega)]
   have xo : (bv o)[((i : Nat) : Int).toNat]? = some (Value.int .u8 (o.getD i 0).toNat) := by rw [Int.toNat_natCast]; exact bv_getD (by omega)
   have xb : (bv b)[((i : Nat) : Int).toNat]? = some (Value.int .u8 (b.getD i 0).toNat) := by rw [Int.toNat_natCast]; exact bv_getD (by omega)
   refine ⟨by omega, ?_⟩
   refine spl_eq (fun hz => ?_) (fun hz => ?_)
   ·rw [hrem] at hz
    have hz : i % s = 0 := by omega
    have hpr : (i + s - 1) / s = i / s := ceil0 (by omega) hz
    rw [hpr]
    refine ⟨[], _, _, _, _, h.E (hcl (i / s)) rfl, rfl, rfl, ?_⟩
    rw [hcs]
    refine ⟨(by omega), (by omega), _, xo, ?_⟩
    refine ⟨(by omega), (by omega), _, xb, ?_⟩
    refine ⟨by omega, ?_⟩
    refine ⟨by rw [hrem]; omega, by rw [hrem]; omega, _, by rw [hrem, Int.toNat_natCast, Nat.mul_one, Nat.zero_add]; exact bv_getD (by rw [hcl]; omega), ?_⟩
    refine spl_ne (fun h => absurd (by rw [u8_xor, k0 i hlt]) h) (fun _ => ?_)
    refine ⟨i + 1, (by omega), (by omega), [], ⟨rfl, rfl, rfl, ?_, rfl, congrArg (vi .i64) ei, trivial⟩, trivial⟩
    rw [hnx]
    exact congrArg (V.z s) (bv_all (hcl _))
   ·rw [hrem] at hz
    have hz : i % s ≠ 0 := by omega
    have hpr : (i + s - 1) / s = i / s + 1 := ceil1 (by omega) hz
    rw [hpr]
    refine ⟨(by omega), (by omega), _, xo, ?_⟩
    refine ⟨(by omega), (by omega), _, xb, ?_⟩
    refine ⟨by omega, ?_⟩
    refine ⟨by rw [hrem]; omega, by rw [hrem]; omega, _, by rw [hrem, Int.toNat_natCast]; exact bv_getD (by rw [hcl]; omega), ?_⟩
    refine spl_ne (fun h => absurd (by rw [u8_xor, k0 i hlt]) h) (fun _ => ?_)
    refine ⟨i + 1, (by omega), (by omega), [], ⟨rfl, rfl, rfl, ?_, rfl, congrArg (vi .i64) ei, trivial⟩, trivial⟩
    rw [hnx]; rfl
  ·exact ⟨_, rfl, [], rfl, trivial⟩
theorem xorL_takeR : ∀ (a b : List UInt8), xorL a (b.take a.length) = xorL a b
 | [], _ => by simp [xorL]
 | _ :: _, [] => by simp [xorL]
 | x :: a, y :: b => by
  show (x ^^^ y) :: xorL a (b.take a.length) = (x ^^^ y) :: xorL a b
  rw [xorL_takeR a b]
theorem c_bothS {n m : Nat} {va vb : List Value} {a b : List UInt8} (ha : va = bv a) (hb : vb = bv b) (la : a.length = n) (lb : b.length = m) (hnm : n ≤ m) (hm : n ≤ 1073741824) : Con C N.r1_Both [.z n va, .z m vb] [] (.ret (.o 1 (.k 0) 0 n)) [.sc (bv (xorL a b))] := by
 subst ha; subst hb
 refine con.r1_Both ?_
 refine ⟨(by omega), (by omega), (by omega), ?_⟩
 refine loopN (fun i => ⟨[(0, .z n (bv a)), (1, .z m (bv b)), (5, .o 1 (.k 0) 0 n), (6, i64 i)], [.sc (bv (xorL (a.take i) (b.take i) ++ List.replicate (n - i) 0))]⟩) n ⟨[.d 9 0], ⟨rfl, rfl, rfl, rfl, trivial⟩, ⟨_, rfl, congrArg B.sc (by simp [bv, xorL])⟩, trivial⟩ fun i hi => ?_
 refine spl_d (fun h => ?_) (fun h => ?_)
 ·have hlt : i < n := (by omega)
  refine ⟨(by omega), (by omega), _, bv_get (i := i) (by omega), (by omega), (by omega), _, bv_get (i := i) (by omega), (by omega), (by omega), ?_, i + 1, (by omega), (by omega), [.k 0], ⟨rfl, rfl, rfl, congrArg (vi .i64) (by simp (disch := omega) only [IntWalk.i64_in]; omega), trivial⟩, ⟨_, rfl, congrArg B.sc ?_⟩, trivial⟩
  ·rw [bv_len]; simp [xorL]; omega
  ·rw [u8_xor, bv_set, xorL_step (by omega) (by omega), show n - i = (n - (i + 1)) + 1 from (by omega), List.replicate_succ]
   congr 1
   rw [set_app (by simp [xorL]; omega)]
   simp
 ·obtain rfl : i = n := (by omega)
  refine ⟨_, rfl, [.k 0], rfl, ⟨_, rfl, congrArg B.sc ?_⟩, trivial⟩
  rw [← xorL_takeR a b, la]
  conv => lhs; rw [← la, List.take_length, la]
  simp
structure CfL (E : List UInt8 → List UInt8) (s g lb : Nat) (b o : List UInt8) (chf : Nat → List UInt8) : Prop where
 len : ∀ j, g * j < lb → (chf j).length = s
 at_ : ∀ j, g * j < lb → sub o (g * j) (min g (lb - g * j)) = xorL (sub b (g * j) (min g (lb - g * j))) (E (chf j))
 nxt : ∀ j, g * j + g ≤ lb → chf (j + 1) = (chf j ++ sub o (g * j) g).drop g
theorem sub_mid {a b c : List UInt8} {n m : Nat} (ha : a.length = n) (hb : b.length = m) : sub (a ++ (b ++ c)) n m = b := by
 subst ha; subst hb
 simp [sub]
theorem cfl_four {E D : List UInt8 → List UInt8} {s lb : Nat} {V0 b : List UInt8} (h : CI E D s) (hs : 0 < s) (hV : V0.length = s) (hb : b.length = lb) : CfL E s s lb b (moMany E 4 false ⟨V0, [], []⟩ b).1 (fun j => (bf (cfB E false) s b V0 j).2) := by
 have key : ∀ j, s * j < lb → (bf (cfB E false) s b V0 j).2.length = s ∧ sub (moMany E 4 false ⟨V0, [], []⟩ b).1 (s * j) (min s (lb - s * j)) = xorL (sub b (s * j) (min s (lb - s * j))) (E (bf (cfB E false) s b V0 j).2) := by
  intro j hj
  obtain ⟨l1, l2⟩ := bf_len (b := b) (cfB_len (back := false) h) hV j (by omega)
  refine ⟨l2, ?_⟩
  obtain ⟨g', hg'⟩ := cf_bf (back := false) h hs hV b j (by omega) []
  obtain ⟨m, hm⟩ : ∃ m, m = min s (lb - s * j) := ⟨_, rfl⟩
  rw [← hm]
  have lp : (sub b (s * j) m).length = m := by rw [sub_length]; omega
  have hsp : b = b.take (s * j) ++ (sub b (s * j) m ++ b.drop (s * j + m)) := by
   conv => lhs; rw [← List.take_append_drop (s * j) b]
   congr 1
   rw [← List.take_append_drop m (b.drop (s * j)), List.drop_drop]; rfl
  have lE := h.le l2
  have hc := cf_begin (E := E) (back := false) (c := (bf (cfB E false) s b V0 j).2) (g := g') (p := sub b (s * j) m) (by omega) (by omega)
  have ho : (moMany E 4 false ⟨V0, [], []⟩ b).1 = (bf (cfB E false) s b V0 j).1 ++ (xorL (sub b (s * j) m) (E (bf (cfB E false) s b V0 j).2) ++ (moMany E 4 false (moMany E 4 false ⟨(bf (cfB E false) s b V0 j).2, [], g'⟩ (sub b (s * j) m)).2 (b.drop (s * j + m))).1) := by
   conv => lhs; rw [hsp]
   rw [moMany_app, hg', moMany_app]
   dsimp only
   rw [hc]
  rw [ho]
  exact sub_mid l1 (by rw [xorL_length, lE, lp]; omega)
 refine ⟨fun j hj => (key j hj).1, fun j hj => (key j hj).2, fun j hj => ?_⟩
 obtain ⟨k1, k2⟩ := key j (by omega)
 have lE := h.le k1
 rw [Nat.min_eq_left (by omega)] at k2
 show (bf (cfB E false) s b V0 (j + 1)).2 = _
 have e : (bf (cfB E false) s b V0 (j + 1)).2 = xorL (sub b (s * j) s) (E (bf (cfB E false) s b V0 j).2) := rfl
 rw [e, k2, List.drop_append_of_le_length (by omega), List.drop_of_length_le (by omega), List.nil_append]
theorem cfl_three {E D : List UInt8 → List UInt8} {s lb : Nat} {V0 b : List UInt8} (h : CI E D s) (hs : 0 < s) (hV : V0.length = s) (hb : b.length = lb) : CfL E s 1 lb b (moMany E 3 false ⟨V0, [], []⟩ b).1 (fun j => (moMany E 3 false ⟨V0, [], []⟩ (b.take j)).2.ch) := by
 have st : ∀ j, j ≤ lb → (moMany E 3 false ⟨V0, [], []⟩ (b.take j)).2.ch.length = s ∧ ∃ c g, (moMany E 3 false ⟨V0, [], []⟩ (b.take j)).2 = ⟨c, [], g⟩ := by
  intro j
  induction j with
  | zero => intro _; exact ⟨hV, _, _, rfl⟩
  | succ j ih =>
   intro hj
   obtain ⟨i1, c, g, i2⟩ := ih (by omega)
   rw [take_succ_getD (by omega), moMany_snoc, i2, moOne3]
   rw [i2] at i1
   refine ⟨?_, _, _, rfl⟩
   show (c.drop 1 ++ [_]).length = s
   rw [List.length_append, List.length_drop]
   have : c.length = s := i1
   show c.length - 1 + 1 = s
   omega
 have one : ∀ j, j < lb → ∀ c g, (moMany E 3 false ⟨V0, [], []⟩ (b.take j)).2 = ⟨c, [], g⟩ → sub (moMany E 3 false ⟨V0, [], []⟩ b).1 j 1 = [b.getD j 0 ^^^ (E c).getD 0 0] ∧ (moMany E 3 false ⟨V0, [], []⟩ (b.take (j + 1))).2.ch = c.drop 1 ++ [b.getD j 0 ^^^ (E c).getD 0 0] := by
  intro j hj c g i2
  have hsp : b = b.take (j + 1) ++ b.drop (j + 1) := (List.take_append_drop _ _).symm
  have l1 : (moMany E 3 false ⟨V0, [], []⟩ (b.take j)).1.length = j := by rw [moMany_len, List.length_take]; omega
  have hT : moMany E 3 false ⟨V0, [], []⟩ (b.take (j + 1)) = ((moMany E 3 false ⟨V0, [], []⟩ (b.take j)).1 ++ [b.getD j 0 ^^^ (E c).getD 0 0], ⟨c.drop 1 ++ [b.getD j 0 ^^^ (E c).getD 0 0], [], [] ++ [b.getD j 0 ^^^ (E c).getD 0 0]⟩) := by
   rw [take_succ_getD (by omega), drop_getD0, moMany_snoc, i2, moOne3]; rfl
  refine ⟨?_, by rw [hT]⟩
  conv => lhs; rw [hsp]
  rw [moMany_app, hT]
  dsimp only
  rw [List.append_assoc]
  exact sub_mid l1 rfl
 refine ⟨fun j hj => (st j (by omega)).1, fun j hj => ?_, fun j hj => ?_⟩
 ·rw [Nat.one_mul] at hj ⊢
  obtain ⟨i1, c, g, i2⟩ := st j (by omega)
  have hc : c.length = s := by rw [i2] at i1; exact i1
  have lE := h.le hc
  rw [Nat.min_eq_left (by omega), (one j hj c g i2).1]
  show _ = xorL _ (E (moMany E 3 false ⟨V0, [], []⟩ (b.take j)).2.ch)
  rw [i2]
  have hp : sub b j 1 = [b.getD j 0] := by
   simp only [sub]
   rw [List.getD_eq_getElem?_getD, List.getElem?_eq_getElem (show j < b.length by omega), List.drop_eq_getElem_cons (show j < b.length by omega)]; rfl
  obtain ⟨e, r, he⟩ : ∃ e r, E c = e :: r := by
   rcases hE : E c with _ | ⟨e, r⟩
   ·rw [hE] at lE; simp at lE; omega
   ·exact ⟨e, r, rfl⟩
  show _ = xorL (sub b j 1) (E c)
  rw [hp, he]; rfl
 ·rw [Nat.one_mul] at hj ⊢
  obtain ⟨i1, c, g, i2⟩ := st j (by omega)
  have hc : c.length = s := by rw [i2] at i1; exact i1
  show (moMany E 3 false ⟨V0, [], []⟩ (b.take (j + 1))).2.ch = ((moMany E 3 false ⟨V0, [], []⟩ (b.take j)).2.ch ++ sub (moMany E 3 false ⟨V0, [], []⟩ b).1 j 1).drop 1
  rw [(one j (by omega) c g i2).1, (one j (by omega) c g i2).2, i2]
  exact (List.drop_append_of_le_length (show 1 ≤ c.length by omega)).symm
theorem cf_chain {ch o : List UInt8} {s r i : Nat} (lch : ch.length = s) (lo : (sub o i r).length = r) : V.z (0 + s + r - r) (sub (sub ([] ++ bv ch) 0 ((0 + s) * 1) ++ sub (bv o) i r) (0 + r * 1) (0 + s + r - r)) = V.z s (bv ((ch ++ sub o i r).drop r)) := by
 have l : (ch ++ sub o i r).length = s + r := by rw [List.length_append, lch, lo]
 have e := bv_dropN l (Nat.le_add_left r s)
 rw [Nat.add_sub_cancel] at e
 rw [show 0 + s + r - r = s by omega, List.nil_append, show (0 + s) * 1 = s by omega, show 0 + r * 1 = r by omega, bv_all lch, bv_sub, bv_app, e]
def cfD (rs : List V) (s g lb : Nat) (b o : List UInt8) : Nat × Nat × List UInt8 → D
 | (j, i, ch) => ⟨[(4, .z lb (bv b)), (14, .q rs 0), (15, i64 s), (17, i64 g), (18, .z s (bv ch)), (21, .z lb (bv o)), (23, i64 i)], []⟩
end Go.Scr
