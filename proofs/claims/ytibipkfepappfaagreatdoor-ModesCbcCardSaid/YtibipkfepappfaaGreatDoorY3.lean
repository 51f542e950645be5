/-
  What the functions of the given program reckon, each by a contract, up to the law. It is no claim by itself; each contract bears its own conditions.
-/
import Derived.Test.YtibipkfepappfaaGreatDoorY2
set_option linter.unusedVariables false
set_option linter.unusedSimpArgs false
set_option maxRecDepth 100000
namespace Go.Scr
open Go.Proofs
set_option maxHeartbeats 4000000 in
theorem c_mcbc_true {tag n : Int} (h0 : -9223372036854775808 ≤ tag ∧ tag ≤ 9223372036854775807) (h1 : -9223372036854775808 ≤ n ∧ n ≤ 9223372036854775807) {lk li lb : Nat} {k iv' b : List UInt8} (hk : k.length = lk) (hi : iv'.length = li) (hb : b.length = lb) :
  Con C N.law12_ModesCbc [i64 tag, i64 n, .z lk (bv k), .z li (bv iv'), .z lb (bv b), bool true] [] (.ret (bool true)) [] := by
 subst hb
 obtain ⟨s, q, xs, rs, h⟩ := ciph_law tag n k
 have hs := h.s_le
 have hci := h.ci
 have lV := bytesN_len s iv'
 obtain ⟨w, hw⟩ : ∃ w, w = b.length / s * s := ⟨_, rfl⟩
 have hwl : w ≤ b.length := by rw [hw]; exact Nat.div_mul_le_self _ _
 have hwg : w % s = 0 := by rw [hw]; exact Nat.mul_mod_left _ _
 have lp : (sub b 0 w).length = w := by rw [sub_length]; omega
 have hvp : sub (bv b) 0 w = bv (sub b 0 w) := bv_sub _ _ _
 obtain ⟨K, hK⟩ : ∃ K, K = w / s := ⟨_, rfl⟩
 have hsK : s * K = w := by rw [hK]; exact Nat.mul_div_cancel' (Nat.dvd_of_mod_eq_zero hwg)
 have hs30 : s ≤ 1073741824 := by omega
 have hs31 : (s : Int) ≤ 1073741824 := by omega
 have hs0 : 0 < s := by omega
 refine con.law12_ModesCbc ?_
 refine ⟨[], _, _, _, _, c_law12_known, rfl, rfl, ?_⟩
 refine spl_d (fun h100 => ?_) (fun h100 => ?_)
 ·exact ⟨_, rfl, [], rfl, trivial⟩
 have hw2 : w ≤ 200 := by omega
 have hw200 : w ≤ 1000000 := by omega
 have e4 : IntKind.i64.wrap (IntKind.i64.wrap ((b.length : Int).tdiv (s : Int)) * (s : Int)) = ((w : Nat) : Int) := by rw [hw]; exact i64_quomul (by omega)
 refine ⟨[], _, _, _, _, c_law12_both h0 h1 hk h, rfl, rfl, ?_⟩
 refine ⟨[], _, _, _, _, h.size, rfl, rfl, ?_⟩
 refine ⟨by omega, ?_⟩
 refine ⟨by rw [e4]; omega, by rw [e4]; omega, by rw [e4]; omega, by rw [e4]; omega, ?_⟩
 generalize sub b 0 w = bb at *
 refine ⟨[], _, _, _, _, c_bytes (n := s) rfl hi (by omega), rfl, rfl, ?_⟩
 have lI := ivL_len 1 s iv'
 have cI := c_iv (mode := 1) (s := s) (vb := bv iv') rfl hi (by omega)
 have hIV : (1 : Int) = 1 ∨ (1 : Int) = 2 ∧ ivL 1 s iv' = bytesN s iv' := .inl rfl
 generalize ivL 1 s iv' = I0 at *
 generalize bytesN s iv' = V0 at *
 have K0 : MK s 1 ⟨I0, [], []⟩ := MK.new (by decide) (.inl rfl)
 have ex : ∀ back, (moStep (cF (tagOf tag) (keyOf (tagOf tag) n k) false) (cF (tagOf tag) (keyOf (tagOf tag) n k) true) s 1 back ⟨I0, [], []⟩ bb).1 = (moBlks (cF (tagOf tag) (keyOf (tagOf tag) n k) false) (cF (tagOf tag) (keyOf (tagOf tag) n k) true) 1 back s bb I0 K).1 := fun back => by
  unfold moStep
  rw [if_pos (by decide), lp, hK]
 have er : ∀ back, (moStep (cF (tagOf tag) (keyOf (tagOf tag) n k) false) (cF (tagOf tag) (keyOf (tagOf tag) n k) true) s 1 back ⟨I0, [], []⟩ bb).2.row = [] := fun back => by
  unfold moStep
  rw [if_pos (by decide)]
 have ho : ∀ j, j < K → sub (moStep (cF (tagOf tag) (keyOf (tagOf tag) n k) false) (cF (tagOf tag) (keyOf (tagOf tag) n k) true) s 1 false ⟨I0, [], []⟩ bb).1 (s * j) s = (moBlk (cF (tagOf tag) (keyOf (tagOf tag) n k) false) (cF (tagOf tag) (keyOf (tagOf tag) n k) true) 1 false (bf (moBlk (cF (tagOf tag) (keyOf (tagOf tag) n k) false) (cF (tagOf tag) (keyOf (tagOf tag) n k) true) 1 false) s bb V0 j).2 (sub bb (s * j) s)).1 := fun j hj => by rw [ex]; exact cb_at hci hIV lV (by omega) hj
 have hp : ∀ j, j < K → sub (moStep (cF (tagOf tag) (keyOf (tagOf tag) n k) false) (cF (tagOf tag) (keyOf (tagOf tag) n k) true) s 1 true ⟨I0, [], []⟩ bb).1 (s * j) s = (moBlk (cF (tagOf tag) (keyOf (tagOf tag) n k) false) (cF (tagOf tag) (keyOf (tagOf tag) n k) true) 1 true (bf (moBlk (cF (tagOf tag) (keyOf (tagOf tag) n k) false) (cF (tagOf tag) (keyOf (tagOf tag) n k) true) 1 true) s bb V0 j).2 (sub bb (s * j) s)).1 := fun j hj => by rw [ex]; exact cb_at hci hIV lV (by omega) hj
 have lO : ∀ back, (moStep (cF (tagOf tag) (keyOf (tagOf tag) n k) false) (cF (tagOf tag) (keyOf (tagOf tag) n k) true) s 1 back ⟨I0, [], []⟩ bb).1.length = w := fun back => by
  rw [moStep_len hci K0.ok (by rw [lp]; exact hwg), lp]
 have lo := lO false
 have lq := lO true
 have T0 := c_step h (mode := 1) (back := false) (st := ⟨I0, [], []⟩) (b := bb) rfl lp (by omega) K0 hwg (.inr rfl)
 have T1 := c_step h (mode := 1) (back := true) (st := ⟨I0, [], []⟩) (b := bb) rfl lp (by omega) K0 hwg (.inr rfl)
 have r0 := er false
 have r1 := er true
 clear ex er lO
 generalize moStep (cF (tagOf tag) (keyOf (tagOf tag) n k) false) (cF (tagOf tag) (keyOf (tagOf tag) n k) true) s 1 false ⟨I0, [], []⟩ bb = S0 at *
 generalize moStep (cF (tagOf tag) (keyOf (tagOf tag) n k) false) (cF (tagOf tag) (keyOf (tagOf tag) n k) true) s 1 true ⟨I0, [], []⟩ bb = S1 at *
 obtain ⟨o, ⟨c0, row0, g0⟩⟩ := S0
 obtain ⟨p, ⟨c1, row1, g1⟩⟩ := S1
 dsimp only at T0 T1 r0 r1 lo lq ho hp
 subst r0; subst r1
 refine ⟨[], _, _, _, _, cI, rfl, rfl, ?_⟩
 refine ⟨[], _, _, _, _, c_new_m h (mode := 1) (back := false) (i := 1) (iv := I0) rfl lI (by decide) rfl, rfl, rfl, ?_⟩
 refine ⟨[], _, _, _, _, cI, rfl, rfl, ?_⟩
 refine ⟨[], _, _, _, _, c_new_m h (mode := 1) (back := true) (i := 1) (iv := I0) rfl lI (by decide) rfl, rfl, rfl, ?_⟩
 refine ⟨[.d 65 0, .d 65 1], _, _, _, _, T0, ?_, rfl, ?_⟩
 ·rw [e4]
  show [V.p (.k 0) 0, V.z w (sub (bv b) 0 w)] = _
  rw [hvp]
 refine ⟨[.d 75 0, .d 75 1], _, _, _, _, T1, ?_, rfl, ?_⟩
 ·rw [e4]
  show [V.p (.k 0) 0, V.z w (sub (bv b) 0 w)] = _
  rw [hvp]
 refine spl_ne (fun h => absurd (by rw [e4]; rfl) h) (fun _ => ?_)
 refine spl_ne (fun h => absurd (by rw [e4]; rfl) h) (fun _ => ?_)
 refine ⟨Nat × Nat × List UInt8 × List UInt8, cbD rs true s w bb o p, fun x => x.2.1 = s * x.1 ∧ x.2.1 ≤ w ∧ x.2.2.1.length = s ∧ x.2.2.2.length = s ∧ True, fun x => 200 - x.2.1, ⟨[], (0, 0, V0, V0), ⟨rfl, Nat.zero_le _, lV, lV, trivial⟩, [], ⟨?_, rfl, rfl, rfl, rfl, rfl, congrArg (V.z s) (bv_all lV), congrArg (V.z s) (bv_all lV), rfl, trivial⟩, trivial⟩, fun x hx => ?_⟩
 ·rw [e4]
  show V.z w (sub (bv b) 0 w) = _
  rw [hvp]
 obtain ⟨j, i, T, B⟩ := x
 obtain ⟨hij, hiw, lT, lB, hTB⟩ := hx
 dsimp only at hij hiw lT lB hTB
 refine spl_d (fun hlt => ?_) (fun hge => ?_)
 ·have hlt : i < w := Int.ofNat_lt.1 hlt
  obtain ⟨hjK, his⟩ := blk_in hij hsK hlt
  have Ho := ho j hjK
  have Hp := hp j hjK
  rw [← hij] at Ho Hp
  have e5 : IntKind.i64.wrap ((i : Int) + (s : Int)) = ((i + s : Nat) : Int) := wrap_add (Nat.le_trans his hw200)
  have S := sl5 e5 his
  have hmu := mu_lt hlt hw2 hs0
  have ec : (i + s) - i = s := Nat.add_sub_cancel_left _ _
  have l1 : (sub o i s).length = s := sub_len_eq lo his
  have l2 : (sub p i s).length = s := sub_len_eq lq his
  have l3 : (sub bb i s).length = s := sub_len_eq lp his
  have v1 : sub (bv o) i s = bv (sub o i s) := bv_sub _ _ _
  have v2 : sub (bv p) i s = bv (sub p i s) := bv_sub _ _ _
  have v3 : sub (bv bb) i s = bv (sub bb i s) := bv_sub _ _ _
  obtain ⟨zz, hzz⟩ : ∃ zz : List UInt8, zz = List.replicate s 0 := ⟨_, rfl⟩
  have lz : zz.length = s := by rw [hzz]; exact List.length_replicate
  have HO : sub o i s = (cF (tagOf tag) (keyOf (tagOf tag) n k) false) (xorL (sub bb i s) zz) := by rw [Ho, hzz, xorL_zeroR l3, moBlk1_there]
  have HP : sub p i s = xorL ((cF (tagOf tag) (keyOf (tagOf tag) n k) true) (sub bb i s)) zz := by rw [Hp, hzz, xorL_zeroR (h.len (back := true) l3), moBlk1_back]
  clear Ho Hp
  generalize sub o i s = oo at *
  generalize sub p i s = pp at *
  generalize sub bb i s = qq at *
  have lx := xorL_len l3 lz
  obtain ⟨EE, hEE⟩ : ∃ x, x = (cF (tagOf tag) (keyOf (tagOf tag) n k) false) (xorL qq zz) := ⟨_, rfl⟩
  obtain ⟨DD, hDD⟩ : ∃ x, x = (cF (tagOf tag) (keyOf (tagOf tag) n k) true) qq := ⟨_, rfl⟩
  have lE : EE.length = s := by rw [hEE]; exact h.len lx
  have lD : DD.length = s := by rw [hDD]; exact h.len l3
  have cE := h.E (b := xorL qq zz) lx (bv_all lx)
  have cD := h.Un (b := qq) l3 rfl
  rw [← hEE] at cE HO
  rw [← hDD] at cD HP
  have ly := xorL_len lD lz
  clear hEE hDD
  refine ⟨S.1, S.2.1, S.2.2.1, S.2.2.2.1, S.2.2.2.2, ?_⟩
  refine ⟨Int.natCast_nonneg s, Int.le_refl _, hs31, ?_⟩
  refine ⟨Int.natCast_nonneg s, Int.le_refl _, hs31, ?_⟩
  refine ⟨S.1, S.2.1, S.2.2.1, S.2.2.2.1, S.2.2.2.2, ?_⟩
  refine ⟨by rw [e5, Int.toNat_natCast, Int.toNat_natCast, ec, v1, bv_len, l1], oo, by rw [e5, Int.toNat_natCast, Int.toNat_natCast, ec, v1]; rfl, ?_⟩
  refine ⟨[], _, _, _, _, c_both (a := qq) (b := zz) rfl rfl l3 lz hs30, ?_, rfl, ?_⟩
  ·rw [e5]
   show [V.z (i + s - i) (sub (bv bb) i (i + s - i)), V.z s (sub (List.replicate ((s : Int).toNat) (Value.int .u8 0)) 0 s)] = _
   rw [ec, v3, Int.toNat_natCast, bv_rep, ← hzz, bv_all lz]
  refine ⟨[], _, _, _, _, cE, rfl, rfl, ?_⟩
  refine ⟨str_len lE, _, bv_all lE, ?_⟩
  refine spl_f (by rw [HO, str_beq]; simp) ?_
  refine ⟨S.1, S.2.1, S.2.2.1, S.2.2.2.1, S.2.2.2.2, ?_⟩
  refine ⟨by rw [e5, Int.toNat_natCast, Int.toNat_natCast, ec, v2, bv_len, l2], pp, by rw [e5, Int.toNat_natCast, Int.toNat_natCast, ec, v2]; rfl, ?_⟩
  refine ⟨[], _, _, _, _, cD, ?_, rfl, ?_⟩
  ·rw [e5]
   show [V.q rs 0, V.z (i + s - i) (sub (bv bb) i (i + s - i))] = _
   rw [ec, v3]
  refine ⟨[], _, _, _, _, c_both (a := DD) (b := zz) rfl rfl lD lz hs30, ?_, rfl, ?_⟩
  ·show [V.z s (sub (bv DD) 0 s), V.z s (sub (List.replicate ((s : Int).toNat) (Value.int .u8 0)) 0 s)] = _
   rw [bv_all lD, Int.toNat_natCast, bv_rep, ← hzz, bv_all lz]
  refine ⟨str_len ly, _, bv_all ly, ?_⟩
  refine spl_f (by rw [HP, str_beq]; simp) ?_
  refine ⟨S.1, S.2.1, S.2.2.1, S.2.2.2.1, S.2.2.2.2, ?_⟩
  have ez : V.z ((IntKind.i64.wrap ((i : Int) + (s : Int))).toNat - ((i : Nat) : Int).toNat) (sub (bv o) ((i : Nat) : Int).toNat ((IntKind.i64.wrap ((i : Int) + (s : Int))).toNat - ((i : Nat) : Int).toNat)) = V.z s (bv oo) := by rw [e5, Int.toNat_natCast, Int.toNat_natCast, ec, v1]
  have ey : V.z ((IntKind.i64.wrap ((i : Int) + (s : Int))).toNat - ((i : Nat) : Int).toNat) (sub (bv bb) ((i : Nat) : Int).toNat ((IntKind.i64.wrap ((i : Int) + (s : Int))).toNat - ((i : Nat) : Int).toNat)) = V.z s (bv qq) := by rw [e5, Int.toNat_natCast, Int.toNat_natCast, ec, v3]
  exact ⟨(j + 1, i + s, oo, qq), ⟨by show i + s = s * (j + 1); rw [hij, Nat.mul_succ], his, l1, l3, trivial⟩, hmu, [], ⟨rfl, rfl, rfl, rfl, rfl, rfl, ez, ey, congrArg (vi .i64) e5, trivial⟩, trivial⟩
 ·exact ⟨_, rfl, [], rfl, trivial⟩
theorem c_mcbc {tag n : Int} {ecb : Bool} (h0 : -9223372036854775808 ≤ tag ∧ tag ≤ 9223372036854775807) (h1 : -9223372036854775808 ≤ n ∧ n ≤ 9223372036854775807) {lk li lb : Nat} {k iv' b : List UInt8} (hk : k.length = lk) (hi : iv'.length = li) (hb : b.length = lb) :
  Con C N.law12_ModesCbc [i64 tag, i64 n, .z lk (bv k), .z li (bv iv'), .z lb (bv b), bool ecb] [] (.ret (bool true)) [] := by
 cases ecb
 ·exact c_mcbc_false h0 h1 hk hi hb
 ·exact c_mcbc_true h0 h1 hk hi hb
end Go.Scr
