/-
  What the functions of the given program reckon, each by a contract, up to the law. It is no claim by itself; each contract bears its own conditions.
-/
import Derived.Test.YtjoniepofpcolaaGreatDoorY2
set_option linter.unusedVariables false
set_option linter.unusedSimpArgs false
set_option maxRecDepth 100000
namespace Go.Scr
open Go.Proofs
theorem c_byByteF {t key s k xs rs} (h : Ciph t key s k xs rs) {mode : Int} {back : Bool} {r u : Nat} {p : UInt8} {ch : List UInt8} {vch vr : List Value} (hvc : vch = bv ch) (hl : ch.length = s) (hm : mode = 4 ∨ mode = 5 ∨ mode = 6) (hr : r = 0 ∨ u = r) :
  Con C N.r12_Mode_byByte [.p (.k 0) 0, u8V p] [.mx [.q rs 0, i64 mode, bool back, .z s vch, .z r vr, i64 u, .u], .dead] (.ret (u8V (p ^^^ (cF t key false ch).getD 0 0))) [.mx [.q rs 0, i64 mode, bool back, .z s (bv (moNxt (cF t key false) mode ch)), .z s (bv (cF t key false ch)), i64 1, .o 1 (.k 2) 0 1], .dead, .sc (bv ([] ++ [moIn back p (p ^^^ (cF t key false ch).getD 0 0)]))] := by
 subst hvc
 have hs := h.s_le
 have lE := h.len (back := false) hl
 have hE := h.E hl (va := bv ch) rfl
 have lI : (incL ch).length = s := by rw [incL_len, hl]
 rcases hm with rfl | rfl | rfl
 ·have e : moNxt (cF t key false) 4 ch = ch := by unfold moNxt; rw [if_neg (by decide), if_neg (by decide)]
  rw [e]
  generalize cF t key false ch = E at *
  cases back
  ·refine con.r12_Mode_byByte ?_
   refine ⟨_, rfl, ?_⟩
   refine spl_eq (fun h0 => ?_) (fun h0 => ?_)
   ·refine ⟨_, rfl, ?_⟩
    refine ⟨_, rfl, ?_⟩
    refine ⟨[], _, _, _, _, hE, rfl, rfl, ?_⟩
    refine ⟨Nat.le_of_ble_eq_true rfl, ?_⟩
    refine ⟨Nat.le_of_ble_eq_true rfl, ?_⟩
    refine ⟨_, rfl, ?_⟩
    refine ⟨Nat.le_of_ble_eq_true rfl, ?_⟩
    refine ⟨_, rfl, ?_⟩
    refine ⟨_, rfl, ?_⟩
    refine ⟨(by omega), (by omega), _, bv_getD (k := E) (i := 0) (by omega), ?_⟩
    refine ⟨_, rfl, ?_⟩
    refine ⟨Nat.le_of_ble_eq_true rfl, ?_⟩
    refine ⟨_, rfl, ?_⟩
    refine ⟨_, rfl, ?_⟩
    refine ⟨Nat.le_refl _, by omega, ?_⟩
    refine ⟨Nat.le_of_ble_eq_true rfl, ?_⟩
    refine ⟨_, rfl, ?_⟩
    refine ⟨_, rfl, ?_⟩
    refine ⟨_, rfl, ?_⟩
    refine spl_eq (fun hh => absurd hh (by omega)) (fun _ => ?_)
    refine ⟨_, rfl, [.k 0, .k 1, .d 98 0], ?_, ⟨_, rfl, ?_⟩, ⟨_, rfl, rfl⟩, ⟨_, rfl, congrArg B.sc ?_⟩, trivial⟩
    ·show V.s (.int .u8 (IntKind.u8.wrap _)) = _
     rw [u8_xor]
    ·show B.mx [.q rs 0, i64 4, bool false, .z s (bv ch), .z s (sub (bv E) 0 s), i64 1, .o 1 (.k 2) 0 1] = _
     rw [bv_all lE]
    ·exact one_blk (u8_xor _ _)
   ·refine ⟨_, rfl, ?_⟩
    refine ⟨_, rfl, ?_⟩
    refine spl_eq (fun _ => ?_) (fun hh => absurd (show (u : Int) = (r : Int) by omega) hh)
    refine ⟨_, rfl, ?_⟩
    refine ⟨_, rfl, ?_⟩
    refine ⟨[], _, _, _, _, hE, rfl, rfl, ?_⟩
    refine ⟨Nat.le_of_ble_eq_true rfl, ?_⟩
    refine ⟨Nat.le_of_ble_eq_true rfl, ?_⟩
    refine ⟨_, rfl, ?_⟩
    refine ⟨Nat.le_of_ble_eq_true rfl, ?_⟩
    refine ⟨_, rfl, ?_⟩
    refine ⟨_, rfl, ?_⟩
    refine ⟨(by omega), (by omega), _, bv_getD (k := E) (i := 0) (by omega), ?_⟩
    refine ⟨_, rfl, ?_⟩
    refine ⟨Nat.le_of_ble_eq_true rfl, ?_⟩
    refine ⟨_, rfl, ?_⟩
    refine ⟨_, rfl, ?_⟩
    refine ⟨Nat.le_refl _, by omega, ?_⟩
    refine ⟨Nat.le_of_ble_eq_true rfl, ?_⟩
    refine ⟨_, rfl, ?_⟩
    refine ⟨_, rfl, ?_⟩
    refine ⟨_, rfl, ?_⟩
    refine spl_eq (fun hh => absurd hh (by omega)) (fun _ => ?_)
    refine ⟨_, rfl, [.k 0, .k 1, .d 98 0], ?_, ⟨_, rfl, ?_⟩, ⟨_, rfl, rfl⟩, ⟨_, rfl, congrArg B.sc ?_⟩, trivial⟩
    ·show V.s (.int .u8 (IntKind.u8.wrap _)) = _
     rw [u8_xor]
    ·show B.mx [.q rs 0, i64 4, bool false, .z s (bv ch), .z s (sub (bv E) 0 s), i64 1, .o 1 (.k 2) 0 1] = _
     rw [bv_all lE]
    ·exact one_blk (u8_xor _ _)
  ·refine con.r12_Mode_byByte ?_
   refine ⟨_, rfl, ?_⟩
   refine spl_eq (fun h0 => ?_) (fun h0 => ?_)
   ·refine ⟨_, rfl, ?_⟩
    refine ⟨_, rfl, ?_⟩
    refine ⟨[], _, _, _, _, hE, rfl, rfl, ?_⟩
    refine ⟨Nat.le_of_ble_eq_true rfl, ?_⟩
    refine ⟨Nat.le_of_ble_eq_true rfl, ?_⟩
    refine ⟨_, rfl, ?_⟩
    refine ⟨Nat.le_of_ble_eq_true rfl, ?_⟩
    refine ⟨_, rfl, ?_⟩
    refine ⟨_, rfl, ?_⟩
    refine ⟨(by omega), (by omega), _, bv_getD (k := E) (i := 0) (by omega), ?_⟩
    refine ⟨_, rfl, ?_⟩
    refine ⟨Nat.le_of_ble_eq_true rfl, ?_⟩
    refine ⟨_, rfl, ?_⟩
    refine ⟨_, rfl, ?_⟩
    refine ⟨Nat.le_refl _, by omega, ?_⟩
    refine ⟨Nat.le_of_ble_eq_true rfl, ?_⟩
    refine ⟨_, rfl, ?_⟩
    refine ⟨_, rfl, ?_⟩
    refine ⟨_, rfl, ?_⟩
    refine spl_eq (fun hh => absurd hh (by omega)) (fun _ => ?_)
    refine ⟨_, rfl, [.k 0, .k 1, .d 98 0], ?_, ⟨_, rfl, ?_⟩, ⟨_, rfl, rfl⟩, ⟨_, rfl, congrArg B.sc ?_⟩, trivial⟩
    ·show V.s (.int .u8 (IntKind.u8.wrap _)) = _
     rw [u8_xor]
    ·show B.mx [.q rs 0, i64 4, bool true, .z s (bv ch), .z s (sub (bv E) 0 s), i64 1, .o 1 (.k 2) 0 1] = _
     rw [bv_all lE]
    ·exact one_blk rfl
   ·refine ⟨_, rfl, ?_⟩
    refine ⟨_, rfl, ?_⟩
    refine spl_eq (fun _ => ?_) (fun hh => absurd (show (u : Int) = (r : Int) by omega) hh)
    refine ⟨_, rfl, ?_⟩
    refine ⟨_, rfl, ?_⟩
    refine ⟨[], _, _, _, _, hE, rfl, rfl, ?_⟩
    refine ⟨Nat.le_of_ble_eq_true rfl, ?_⟩
    refine ⟨Nat.le_of_ble_eq_true rfl, ?_⟩
    refine ⟨_, rfl, ?_⟩
    refine ⟨Nat.le_of_ble_eq_true rfl, ?_⟩
    refine ⟨_, rfl, ?_⟩
    refine ⟨_, rfl, ?_⟩
    refine ⟨(by omega), (by omega), _, bv_getD (k := E) (i := 0) (by omega), ?_⟩
    refine ⟨_, rfl, ?_⟩
    refine ⟨Nat.le_of_ble_eq_true rfl, ?_⟩
    refine ⟨_, rfl, ?_⟩
    refine ⟨_, rfl, ?_⟩
    refine ⟨Nat.le_refl _, by omega, ?_⟩
    refine ⟨Nat.le_of_ble_eq_true rfl, ?_⟩
    refine ⟨_, rfl, ?_⟩
    refine ⟨_, rfl, ?_⟩
    refine ⟨_, rfl, ?_⟩
    refine spl_eq (fun hh => absurd hh (by omega)) (fun _ => ?_)
    refine ⟨_, rfl, [.k 0, .k 1, .d 98 0], ?_, ⟨_, rfl, ?_⟩, ⟨_, rfl, rfl⟩, ⟨_, rfl, congrArg B.sc ?_⟩, trivial⟩
    ·show V.s (.int .u8 (IntKind.u8.wrap _)) = _
     rw [u8_xor]
    ·show B.mx [.q rs 0, i64 4, bool true, .z s (bv ch), .z s (sub (bv E) 0 s), i64 1, .o 1 (.k 2) 0 1] = _
     rw [bv_all lE]
    ·exact one_blk rfl
 ·have e : moNxt (cF t key false) 5 ch = cF t key false ch := by unfold moNxt; rw [if_pos rfl]
  rw [e]
  generalize cF t key false ch = E at *
  cases back
  ·refine con.r12_Mode_byByte ?_
   refine ⟨_, rfl, ?_⟩
   refine spl_eq (fun h0 => ?_) (fun h0 => ?_)
   ·refine ⟨_, rfl, ?_⟩
    refine ⟨_, rfl, ?_⟩
    refine ⟨[], _, _, _, _, hE, rfl, rfl, ?_⟩
    refine ⟨Nat.le_of_ble_eq_true rfl, ?_⟩
    refine ⟨Nat.le_of_ble_eq_true rfl, ?_⟩
    refine ⟨_, rfl, ?_⟩
    refine ⟨_, rfl, ?_⟩
    refine ⟨Nat.le_of_ble_eq_true rfl, ?_⟩
    refine ⟨Nat.le_of_ble_eq_true rfl, ?_⟩
    refine ⟨_, rfl, ?_⟩
    refine ⟨_, rfl, ?_⟩
    refine ⟨(by omega), (by omega), _, bv_getD (k := E) (i := 0) (by omega), ?_⟩
    refine ⟨_, rfl, ?_⟩
    refine ⟨Nat.le_of_ble_eq_true rfl, ?_⟩
    refine ⟨_, rfl, ?_⟩
    refine ⟨_, rfl, ?_⟩
    refine ⟨Nat.le_refl _, by omega, ?_⟩
    refine ⟨Nat.le_of_ble_eq_true rfl, ?_⟩
    refine ⟨_, rfl, ?_⟩
    refine ⟨_, rfl, [.k 0, .k 1, .d 98 0], ?_, ⟨_, rfl, ?_⟩, ⟨_, rfl, rfl⟩, ⟨_, rfl, congrArg B.sc ?_⟩, trivial⟩
    ·show V.s (.int .u8 (IntKind.u8.wrap _)) = _
     rw [u8_xor]
    ·show B.mx [.q rs 0, i64 5, bool false, .z s (sub (bv E) 0 s), .z s (sub (bv E) 0 s), i64 1, .o 1 (.k 2) 0 1] = _
     rw [bv_all lE]
    ·exact one_blk (u8_xor _ _)
   ·refine ⟨_, rfl, ?_⟩
    refine ⟨_, rfl, ?_⟩
    refine spl_eq (fun _ => ?_) (fun hh => absurd (show (u : Int) = (r : Int) by omega) hh)
    refine ⟨_, rfl, ?_⟩
    refine ⟨_, rfl, ?_⟩
    refine ⟨[], _, _, _, _, hE, rfl, rfl, ?_⟩
    refine ⟨Nat.le_of_ble_eq_true rfl, ?_⟩
    refine ⟨Nat.le_of_ble_eq_true rfl, ?_⟩
    refine ⟨_, rfl, ?_⟩
    refine ⟨_, rfl, ?_⟩
    refine ⟨Nat.le_of_ble_eq_true rfl, ?_⟩
    refine ⟨Nat.le_of_ble_eq_true rfl, ?_⟩
    refine ⟨_, rfl, ?_⟩
    refine ⟨_, rfl, ?_⟩
    refine ⟨(by omega), (by omega), _, bv_getD (k := E) (i := 0) (by omega), ?_⟩
    refine ⟨_, rfl, ?_⟩
    refine ⟨Nat.le_of_ble_eq_true rfl, ?_⟩
    refine ⟨_, rfl, ?_⟩
    refine ⟨_, rfl, ?_⟩
    refine ⟨Nat.le_refl _, by omega, ?_⟩
    refine ⟨Nat.le_of_ble_eq_true rfl, ?_⟩
    refine ⟨_, rfl, ?_⟩
    refine ⟨_, rfl, [.k 0, .k 1, .d 98 0], ?_, ⟨_, rfl, ?_⟩, ⟨_, rfl, rfl⟩, ⟨_, rfl, congrArg B.sc ?_⟩, trivial⟩
    ·show V.s (.int .u8 (IntKind.u8.wrap _)) = _
     rw [u8_xor]
    ·show B.mx [.q rs 0, i64 5, bool false, .z s (sub (bv E) 0 s), .z s (sub (bv E) 0 s), i64 1, .o 1 (.k 2) 0 1] = _
     rw [bv_all lE]
    ·exact one_blk (u8_xor _ _)
  ·refine con.r12_Mode_byByte ?_
   refine ⟨_, rfl, ?_⟩
   refine spl_eq (fun h0 => ?_) (fun h0 => ?_)
   ·refine ⟨_, rfl, ?_⟩
    refine ⟨_, rfl, ?_⟩
    refine ⟨[], _, _, _, _, hE, rfl, rfl, ?_⟩
    refine ⟨Nat.le_of_ble_eq_true rfl, ?_⟩
    refine ⟨Nat.le_of_ble_eq_true rfl, ?_⟩
    refine ⟨_, rfl, ?_⟩
    refine ⟨_, rfl, ?_⟩
    refine ⟨Nat.le_of_ble_eq_true rfl, ?_⟩
    refine ⟨Nat.le_of_ble_eq_true rfl, ?_⟩
    refine ⟨_, rfl, ?_⟩
    refine ⟨_, rfl, ?_⟩
    refine ⟨(by omega), (by omega), _, bv_getD (k := E) (i := 0) (by omega), ?_⟩
    refine ⟨_, rfl, ?_⟩
    refine ⟨Nat.le_of_ble_eq_true rfl, ?_⟩
    refine ⟨_, rfl, ?_⟩
    refine ⟨_, rfl, ?_⟩
    refine ⟨Nat.le_refl _, by omega, ?_⟩
    refine ⟨Nat.le_of_ble_eq_true rfl, ?_⟩
    refine ⟨_, rfl, ?_⟩
    refine ⟨_, rfl, [.k 0, .k 1, .d 98 0], ?_, ⟨_, rfl, ?_⟩, ⟨_, rfl, rfl⟩, ⟨_, rfl, congrArg B.sc ?_⟩, trivial⟩
    ·show V.s (.int .u8 (IntKind.u8.wrap _)) = _
     rw [u8_xor]
    ·show B.mx [.q rs 0, i64 5, bool true, .z s (sub (bv E) 0 s), .z s (sub (bv E) 0 s), i64 1, .o 1 (.k 2) 0 1] = _
     rw [bv_all lE]
    ·exact one_blk rfl
   ·refine ⟨_, rfl, ?_⟩
    refine ⟨_, rfl, ?_⟩
    refine spl_eq (fun _ => ?_) (fun hh => absurd (show (u : Int) = (r : Int) by omega) hh)
    refine ⟨_, rfl, ?_⟩
    refine ⟨_, rfl, ?_⟩
    refine ⟨[], _, _, _, _, hE, rfl, rfl, ?_⟩
    refine ⟨Nat.le_of_ble_eq_true rfl, ?_⟩
    refine ⟨Nat.le_of_ble_eq_true rfl, ?_⟩
    refine ⟨_, rfl, ?_⟩
    refine ⟨_, rfl, ?_⟩
    refine ⟨Nat.le_of_ble_eq_true rfl, ?_⟩
    refine ⟨Nat.le_of_ble_eq_true rfl, ?_⟩
    refine ⟨_, rfl, ?_⟩
    refine ⟨_, rfl, ?_⟩
    refine ⟨(by omega), (by omega), _, bv_getD (k := E) (i := 0) (by omega), ?_⟩
    refine ⟨_, rfl, ?_⟩
    refine ⟨Nat.le_of_ble_eq_true rfl, ?_⟩
    refine ⟨_, rfl, ?_⟩
    refine ⟨_, rfl, ?_⟩
    refine ⟨Nat.le_refl _, by omega, ?_⟩
    refine ⟨Nat.le_of_ble_eq_true rfl, ?_⟩
    refine ⟨_, rfl, ?_⟩
    refine ⟨_, rfl, [.k 0, .k 1, .d 98 0], ?_, ⟨_, rfl, ?_⟩, ⟨_, rfl, rfl⟩, ⟨_, rfl, congrArg B.sc ?_⟩, trivial⟩
    ·show V.s (.int .u8 (IntKind.u8.wrap _)) = _
     rw [u8_xor]
    ·show B.mx [.q rs 0, i64 5, bool true, .z s (sub (bv E) 0 s), .z s (sub (bv E) 0 s), i64 1, .o 1 (.k 2) 0 1] = _
     rw [bv_all lE]
    ·exact one_blk rfl
 ·have e : moNxt (cF t key false) 6 ch = incL ch := by unfold moNxt; rw [if_neg (by decide), if_pos rfl]
  rw [e]
  generalize cF t key false ch = E at *
  cases back
  ·refine con.r12_Mode_byByte ?_
   refine ⟨_, rfl, ?_⟩
   refine spl_eq (fun h0 => ?_) (fun h0 => ?_)
   ·refine ⟨_, rfl, ?_⟩
    refine ⟨_, rfl, ?_⟩
    refine ⟨[], _, _, _, _, hE, rfl, rfl, ?_⟩
    refine ⟨Nat.le_of_ble_eq_true rfl, ?_⟩
    refine ⟨Nat.le_of_ble_eq_true rfl, ?_⟩
    refine ⟨_, rfl, ?_⟩
    refine ⟨_, rfl, ?_⟩
    refine ⟨[], _, _, _, _, c_r1_inc rfl hl (by omega), rfl, rfl, ?_⟩
    refine ⟨Nat.le_of_ble_eq_true rfl, ?_⟩
    refine ⟨Nat.le_of_ble_eq_true rfl, ?_⟩
    refine ⟨_, rfl, ?_⟩
    refine ⟨_, rfl, ?_⟩
    refine ⟨(by omega), (by omega), _, bv_getD (k := E) (i := 0) (by omega), ?_⟩
    refine ⟨_, rfl, ?_⟩
    refine ⟨Nat.le_of_ble_eq_true rfl, ?_⟩
    refine ⟨_, rfl, ?_⟩
    refine ⟨_, rfl, ?_⟩
    refine ⟨Nat.le_refl _, by omega, ?_⟩
    refine ⟨Nat.le_of_ble_eq_true rfl, ?_⟩
    refine ⟨_, rfl, ?_⟩
    refine ⟨_, rfl, [.k 0, .k 1, .d 98 0], ?_, ⟨_, rfl, ?_⟩, ⟨_, rfl, rfl⟩, ⟨_, rfl, congrArg B.sc ?_⟩, trivial⟩
    ·show V.s (.int .u8 (IntKind.u8.wrap _)) = _
     rw [u8_xor]
    ·show B.mx [.q rs 0, i64 6, bool false, .z s (sub (bv (incL ch)) 0 s), .z s (sub (bv E) 0 s), i64 1, .o 1 (.k 2) 0 1] = _
     rw [bv_all lE, bv_all lI]
    ·exact one_blk (u8_xor _ _)
   ·refine ⟨_, rfl, ?_⟩
    refine ⟨_, rfl, ?_⟩
    refine spl_eq (fun _ => ?_) (fun hh => absurd (show (u : Int) = (r : Int) by omega) hh)
    refine ⟨_, rfl, ?_⟩
    refine ⟨_, rfl, ?_⟩
    refine ⟨[], _, _, _, _, hE, rfl, rfl, ?_⟩
    refine ⟨Nat.le_of_ble_eq_true rfl, ?_⟩
    refine ⟨Nat.le_of_ble_eq_true rfl, ?_⟩
    refine ⟨_, rfl, ?_⟩
    refine ⟨_, rfl, ?_⟩
    refine ⟨[], _, _, _, _, c_r1_inc rfl hl (by omega), rfl, rfl, ?_⟩
    refine ⟨Nat.le_of_ble_eq_true rfl, ?_⟩
    refine ⟨Nat.le_of_ble_eq_true rfl, ?_⟩
    refine ⟨_, rfl, ?_⟩
    refine ⟨_, rfl, ?_⟩
    refine ⟨(by omega), (by omega), _, bv_getD (k := E) (i := 0) (by omega), ?_⟩
    refine ⟨_, rfl, ?_⟩
    refine ⟨Nat.le_of_ble_eq_true rfl, ?_⟩
    refine ⟨_, rfl, ?_⟩
    refine ⟨_, rfl, ?_⟩
    refine ⟨Nat.le_refl _, by omega, ?_⟩
    refine ⟨Nat.le_of_ble_eq_true rfl, ?_⟩
    refine ⟨_, rfl, ?_⟩
    refine ⟨_, rfl, [.k 0, .k 1, .d 98 0], ?_, ⟨_, rfl, ?_⟩, ⟨_, rfl, rfl⟩, ⟨_, rfl, congrArg B.sc ?_⟩, trivial⟩
    ·show V.s (.int .u8 (IntKind.u8.wrap _)) = _
     rw [u8_xor]
    ·show B.mx [.q rs 0, i64 6, bool false, .z s (sub (bv (incL ch)) 0 s), .z s (sub (bv E) 0 s), i64 1, .o 1 (.k 2) 0 1] = _
     rw [bv_all lE, bv_all lI]
    ·exact one_blk (u8_xor _ _)
  ·refine con.r12_Mode_byByte ?_
   refine ⟨_, rfl, ?_⟩
   refine spl_eq (fun h0 => ?_) (fun h0 => ?_)
   ·refine ⟨_, rfl, ?_⟩
    refine ⟨_, rfl, ?_⟩
    refine ⟨[], _, _, _, _, hE, rfl, rfl, ?_⟩
    refine ⟨Nat.le_of_ble_eq_true rfl, ?_⟩
    refine ⟨Nat.le_of_ble_eq_true rfl, ?_⟩
    refine ⟨_, rfl, ?_⟩
    refine ⟨_, rfl, ?_⟩
    refine ⟨[], _, _, _, _, c_r1_inc rfl hl (by omega), rfl, rfl, ?_⟩
    refine ⟨Nat.le_of_ble_eq_true rfl, ?_⟩
    refine ⟨Nat.le_of_ble_eq_true rfl, ?_⟩
    refine ⟨_, rfl, ?_⟩
    refine ⟨_, rfl, ?_⟩
    refine ⟨(by omega), (by omega), _, bv_getD (k := E) (i := 0) (by omega), ?_⟩
    refine ⟨_, rfl, ?_⟩
    refine ⟨Nat.le_of_ble_eq_true rfl, ?_⟩
    refine ⟨_, rfl, ?_⟩
    refine ⟨_, rfl, ?_⟩
    refine ⟨Nat.le_refl _, by omega, ?_⟩
    refine ⟨Nat.le_of_ble_eq_true rfl, ?_⟩
    refine ⟨_, rfl, ?_⟩
    refine ⟨_, rfl, [.k 0, .k 1, .d 98 0], ?_, ⟨_, rfl, ?_⟩, ⟨_, rfl, rfl⟩, ⟨_, rfl, congrArg B.sc ?_⟩, trivial⟩
    ·show V.s (.int .u8 (IntKind.u8.wrap _)) = _
     rw [u8_xor]
    ·show B.mx [.q rs 0, i64 6, bool true, .z s (sub (bv (incL ch)) 0 s), .z s (sub (bv E) 0 s), i64 1, .o 1 (.k 2) 0 1] = _
     rw [bv_all lE, bv_all lI]
    ·exact one_blk rfl
   ·refine ⟨_, rfl, ?_⟩
    refine ⟨_, rfl, ?_⟩
    refine spl_eq (fun _ => ?_) (fun hh => absurd (show (u : Int) = (r : Int) by omega) hh)
    refine ⟨_, rfl, ?_⟩
    refine ⟨_, rfl, ?_⟩
    refine ⟨[], _, _, _, _, hE, rfl, rfl, ?_⟩
    refine ⟨Nat.le_of_ble_eq_true rfl, ?_⟩
    refine ⟨Nat.le_of_ble_eq_true rfl, ?_⟩
    refine ⟨_, rfl, ?_⟩
    refine ⟨_, rfl, ?_⟩
    refine ⟨[], _, _, _, _, c_r1_inc rfl hl (by omega), rfl, rfl, ?_⟩
    refine ⟨Nat.le_of_ble_eq_true rfl, ?_⟩
    refine ⟨Nat.le_of_ble_eq_true rfl, ?_⟩
    refine ⟨_, rfl, ?_⟩
    refine ⟨_, rfl, ?_⟩
    refine ⟨(by omega), (by omega), _, bv_getD (k := E) (i := 0) (by omega), ?_⟩
    refine ⟨_, rfl, ?_⟩
    refine ⟨Nat.le_of_ble_eq_true rfl, ?_⟩
    refine ⟨_, rfl, ?_⟩
    refine ⟨_, rfl, ?_⟩
    refine ⟨Nat.le_refl _, by omega, ?_⟩
    refine ⟨Nat.le_of_ble_eq_true rfl, ?_⟩
    refine ⟨_, rfl, ?_⟩
    refine ⟨_, rfl, [.k 0, .k 1, .d 98 0], ?_, ⟨_, rfl, ?_⟩, ⟨_, rfl, rfl⟩, ⟨_, rfl, congrArg B.sc ?_⟩, trivial⟩
    ·show V.s (.int .u8 (IntKind.u8.wrap _)) = _
     rw [u8_xor]
    ·show B.mx [.q rs 0, i64 6, bool true, .z s (sub (bv (incL ch)) 0 s), .z s (sub (bv E) 0 s), i64 1, .o 1 (.k 2) 0 1] = _
     rw [bv_all lE, bv_all lI]
    ·exact one_blk rfl
theorem c_byByteR {t key s k xs rs} (h : Ciph t key s k xs rs) {mode : Int} {back : Bool} {c r u : Nat} {p : UInt8} {ch R g : List UInt8} (hl : ch.length = c) (hc : c ≤ 1000) (hm : mode = 4 ∨ mode = 5 ∨ mode = 6) (hR : R.length = r) (hrb : r ≤ 1000) (hu : u < r) (hg : g.length = u) :
  Con C N.r12_Mode_byByte [.p (.k 0) 0, u8V p] [.mx [.q rs 0, i64 mode, bool back, .z c (bv ch), .z r (bv R), i64 u, .o 1 (.k 1) 0 u], .sc (bv g)] (.ret (u8V (p ^^^ R.getD u 0)))
   (if u + 1 = r then [.mx [.q rs 0, i64 mode, bool back, .z (if mode = 4 then u + 1 else c) (bv (if mode = 4 then g ++ [moIn back p (p ^^^ R.getD u 0)] else ch)), .z r (bv R), i64 (u + 1 : Nat), .u], .dead, .dead] else [.mx [.q rs 0, i64 mode, bool back, .z c (bv ch), .z r (bv R), i64 (u + 1 : Nat), .o 1 (.k 2) 0 (u + 1)], .dead, .sc (bv (g ++ [moIn back p (p ^^^ R.getD u 0)]))]) := by
 have w1 : IntKind.i64.wrap ((u : Int) + 1) = ((u + 1 : Nat) : Int) := by rw [IntWalk.i64_in _ (by omega)]; rfl
 rcases hm with rfl | rfl | rfl
 ·cases back
  ·by_cases he : u + 1 = r
   ·rw [if_pos he, if_pos rfl, if_pos rfl]
    refine fd.r12_Mode_byByte.w ?_
    refine ⟨_, rfl, ?_⟩
    refine spl_eq (fun h0 => absurd h0 (by omega)) (fun _ => ?_)
    refine ⟨_, rfl, ?_⟩
    refine ⟨_, rfl, ?_⟩
    refine spl_eq (fun hh => absurd hh (by omega)) (fun _ => ?_)
    refine ⟨_, rfl, ?_⟩
    refine ⟨_, rfl, ?_⟩
    refine ⟨(by omega), (by omega), _, by rw [Int.toNat_natCast]; exact bv_getD (k := R) (i := u) (by omega), ?_⟩
    refine ⟨_, rfl, ?_⟩
    refine ⟨Nat.le_of_ble_eq_true rfl, ?_⟩
    refine ⟨_, rfl, ?_⟩
    refine ⟨_, rfl, ?_⟩
    refine ⟨Nat.le_refl _, by omega, by rw [bv_len, hg]; omega, ?_⟩
    refine ⟨Nat.le_of_ble_eq_true rfl, ?_⟩
    refine ⟨_, rfl, ?_⟩
    refine ⟨_, rfl, ?_⟩
    refine ⟨_, rfl, ?_⟩
    refine spl_eq (fun hh => ?_) (fun hh => absurd (show ((u + 1 : Nat) : Int) = (r : Int) by omega) hh)
    refine ⟨_, rfl, ?_⟩
    refine ⟨Nat.le_of_ble_eq_true rfl, ?_⟩
    refine ⟨.ret (u8V (p ^^^ R.getD u 0)), [.mx [.q rs 0, i64 4, bool false, .z (u + 1) (bv (g ++ [moIn false p (p ^^^ R.getD u 0)])), .z r (bv R), i64 (u + 1 : Nat), .z (u + 1) (bv (g ++ [moIn false p (p ^^^ R.getD u 0)]))], .dead], ⟨_, rfl, [.k 0, .k 1], ?_, ⟨_, rfl, ?_⟩, ⟨_, rfl, rfl⟩, trivial⟩, .ret (.refl _), .cons (.mx (.cons (.refl _) (.cons (.refl _) (.cons (.refl _) (.cons (.refl _) (.cons (.refl _) (.cons (.refl _) (.cons .u .nil)))))))) (.cons (.refl _) (.dd .nil))⟩
    ·show V.s (.int .u8 (IntKind.u8.wrap _)) = _
     rw [u8_xor]
    ·show B.mx [.q rs 0, i64 4, bool false, .z (u + 1) (sub (sub (bv g) 0 (u * 1) ++ sub [Value.int .u8 _] 0 (1 * 1)) 0 (u + 1)), .z r (bv R), i64 (IntKind.i64.wrap ((u : Int) + 1)), .z (u + 1) (sub (sub (bv g) 0 (u * 1) ++ sub [Value.int .u8 _] 0 (1 * 1)) 0 (u + 1))] = _
     rw [w1, snoc_sub hg (u8_xor _ _)]; rfl
   ·rw [if_neg he]
    refine fd.r12_Mode_byByte.w ?_
    refine ⟨_, rfl, ?_⟩
    refine spl_eq (fun h0 => absurd h0 (by omega)) (fun _ => ?_)
    refine ⟨_, rfl, ?_⟩
    refine ⟨_, rfl, ?_⟩
    refine spl_eq (fun hh => absurd hh (by omega)) (fun _ => ?_)
    refine ⟨_, rfl, ?_⟩
    refine ⟨_, rfl, ?_⟩
    refine ⟨(by omega), (by omega), _, by rw [Int.toNat_natCast]; exact bv_getD (k := R) (i := u) (by omega), ?_⟩
    refine ⟨_, rfl, ?_⟩
    refine ⟨Nat.le_of_ble_eq_true rfl, ?_⟩
    refine ⟨_, rfl, ?_⟩
    refine ⟨_, rfl, ?_⟩
    refine ⟨Nat.le_refl _, by omega, by rw [bv_len, hg]; omega, ?_⟩
    refine ⟨Nat.le_of_ble_eq_true rfl, ?_⟩
    refine ⟨_, rfl, ?_⟩
    refine ⟨_, rfl, ?_⟩
    refine ⟨_, rfl, ?_⟩
    refine spl_eq (fun hh => absurd hh (by omega)) (fun _ => ?_)
    refine ⟨.ret (u8V (p ^^^ R.getD u 0)), [.mx [.q rs 0, i64 4, bool false, .z c (bv ch), .z r (bv R), i64 (u + 1 : Nat), .o 1 (.k 2) 0 (u + 1)], .dead, .sc (bv (g ++ [moIn false p (p ^^^ R.getD u 0)]))], ⟨_, rfl, [.k 0, .k 1, .d 98 0], ?_, ⟨_, rfl, ?_⟩, ⟨_, rfl, rfl⟩, ⟨_, rfl, congrArg B.sc ?_⟩, trivial⟩, .ret (.refl _), .cons (.refl _) (.cons (.refl _) (.cons (.refl _) .nil))⟩
    ·show V.s (.int .u8 (IntKind.u8.wrap _)) = _
     rw [u8_xor]
    ·show B.mx [.q rs 0, i64 4, bool false, .z c (bv ch), .z r (bv R), i64 (IntKind.i64.wrap ((u : Int) + 1)), .o 1 (.k 2) 0 (u + 1)] = _
     rw [w1]
    ·exact snoc_blk hg (u8_xor _ _)
  ·by_cases he : u + 1 = r
   ·rw [if_pos he, if_pos rfl, if_pos rfl]
    refine fd.r12_Mode_byByte.w ?_
    refine ⟨_, rfl, ?_⟩
    refine spl_eq (fun h0 => absurd h0 (by omega)) (fun _ => ?_)
    refine ⟨_, rfl, ?_⟩
    refine ⟨_, rfl, ?_⟩
    refine spl_eq (fun hh => absurd hh (by omega)) (fun _ => ?_)
    refine ⟨_, rfl, ?_⟩
    refine ⟨_, rfl, ?_⟩
    refine ⟨(by omega), (by omega), _, by rw [Int.toNat_natCast]; exact bv_getD (k := R) (i := u) (by omega), ?_⟩
    refine ⟨_, rfl, ?_⟩
    refine ⟨Nat.le_of_ble_eq_true rfl, ?_⟩
    refine ⟨_, rfl, ?_⟩
    refine ⟨_, rfl, ?_⟩
    refine ⟨Nat.le_refl _, by omega, by rw [bv_len, hg]; omega, ?_⟩
    refine ⟨Nat.le_of_ble_eq_true rfl, ?_⟩
    refine ⟨_, rfl, ?_⟩
    refine ⟨_, rfl, ?_⟩
    refine ⟨_, rfl, ?_⟩
    refine spl_eq (fun hh => ?_) (fun hh => absurd (show ((u + 1 : Nat) : Int) = (r : Int) by omega) hh)
    refine ⟨_, rfl, ?_⟩
    refine ⟨Nat.le_of_ble_eq_true rfl, ?_⟩
    refine ⟨.ret (u8V (p ^^^ R.getD u 0)), [.mx [.q rs 0, i64 4, bool true, .z (u + 1) (bv (g ++ [moIn true p (p ^^^ R.getD u 0)])), .z r (bv R), i64 (u + 1 : Nat), .z (u + 1) (bv (g ++ [moIn true p (p ^^^ R.getD u 0)]))], .dead], ⟨_, rfl, [.k 0, .k 1], ?_, ⟨_, rfl, ?_⟩, ⟨_, rfl, rfl⟩, trivial⟩, .ret (.refl _), .cons (.mx (.cons (.refl _) (.cons (.refl _) (.cons (.refl _) (.cons (.refl _) (.cons (.refl _) (.cons (.refl _) (.cons .u .nil)))))))) (.cons (.refl _) (.dd .nil))⟩
    ·show V.s (.int .u8 (IntKind.u8.wrap _)) = _
     rw [u8_xor]
    ·show B.mx [.q rs 0, i64 4, bool true, .z (u + 1) (sub (sub (bv g) 0 (u * 1) ++ sub [Value.int .u8 _] 0 (1 * 1)) 0 (u + 1)), .z r (bv R), i64 (IntKind.i64.wrap ((u : Int) + 1)), .z (u + 1) (sub (sub (bv g) 0 (u * 1) ++ sub [Value.int .u8 _] 0 (1 * 1)) 0 (u + 1))] = _
     rw [w1, snoc_sub hg rfl]; rfl
   ·rw [if_neg he]
    refine fd.r12_Mode_byByte.w ?_
    refine ⟨_, rfl, ?_⟩
    refine spl_eq (fun h0 => absurd h0 (by omega)) (fun _ => ?_)
    refine ⟨_, rfl, ?_⟩
    refine ⟨_, rfl, ?_⟩
    refine spl_eq (fun hh => absurd hh (by omega)) (fun _ => ?_)
    refine ⟨_, rfl, ?_⟩
    refine ⟨_, rfl, ?_⟩
    refine ⟨(by omega), (by omega), _, by rw [Int.toNat_natCast]; exact bv_getD (k := R) (i := u) (by omega), ?_⟩
    refine ⟨_, rfl, ?_⟩
    refine ⟨Nat.le_of_ble_eq_true rfl, ?_⟩
    refine ⟨_, rfl, ?_⟩
    refine ⟨_, rfl, ?_⟩
    refine ⟨Nat.le_refl _, by omega, by rw [bv_len, hg]; omega, ?_⟩
    refine ⟨Nat.le_of_ble_eq_true rfl, ?_⟩
    refine ⟨_, rfl, ?_⟩
    refine ⟨_, rfl, ?_⟩
    refine ⟨_, rfl, ?_⟩
    refine spl_eq (fun hh => absurd hh (by omega)) (fun _ => ?_)
    refine ⟨.ret (u8V (p ^^^ R.getD u 0)), [.mx [.q rs 0, i64 4, bool true, .z c (bv ch), .z r (bv R), i64 (u + 1 : Nat), .o 1 (.k 2) 0 (u + 1)], .dead, .sc (bv (g ++ [moIn true p (p ^^^ R.getD u 0)]))], ⟨_, rfl, [.k 0, .k 1, .d 98 0], ?_, ⟨_, rfl, ?_⟩, ⟨_, rfl, rfl⟩, ⟨_, rfl, congrArg B.sc ?_⟩, trivial⟩, .ret (.refl _), .cons (.refl _) (.cons (.refl _) (.cons (.refl _) .nil))⟩
    ·show V.s (.int .u8 (IntKind.u8.wrap _)) = _
     rw [u8_xor]
    ·show B.mx [.q rs 0, i64 4, bool true, .z c (bv ch), .z r (bv R), i64 (IntKind.i64.wrap ((u : Int) + 1)), .o 1 (.k 2) 0 (u + 1)] = _
     rw [w1]
    ·exact snoc_blk hg rfl
 ·cases back
  ·by_cases he : u + 1 = r
   ·rw [if_pos he, if_neg (by decide), if_neg (by decide)]
    refine fd.r12_Mode_byByte.w ?_
    refine ⟨_, rfl, ?_⟩
    refine spl_eq (fun h0 => absurd h0 (by omega)) (fun _ => ?_)
    refine ⟨_, rfl, ?_⟩
    refine ⟨_, rfl, ?_⟩
    refine spl_eq (fun hh => absurd hh (by omega)) (fun _ => ?_)
    refine ⟨_, rfl, ?_⟩
    refine ⟨_, rfl, ?_⟩
    refine ⟨(by omega), (by omega), _, by rw [Int.toNat_natCast]; exact bv_getD (k := R) (i := u) (by omega), ?_⟩
    refine ⟨_, rfl, ?_⟩
    refine ⟨Nat.le_of_ble_eq_true rfl, ?_⟩
    refine ⟨_, rfl, ?_⟩
    refine ⟨_, rfl, ?_⟩
    refine ⟨Nat.le_refl _, by omega, by rw [bv_len, hg]; omega, ?_⟩
    refine ⟨Nat.le_of_ble_eq_true rfl, ?_⟩
    refine ⟨_, rfl, ?_⟩
    refine ⟨.ret (u8V (p ^^^ R.getD u 0)), [.mx [.q rs 0, i64 5, bool false, .z c (bv ch), .z r (bv R), i64 (u + 1 : Nat), .z (u + 1) (bv (g ++ [moIn false p (p ^^^ R.getD u 0)]))], .dead], ⟨_, rfl, [.k 0, .k 1], ?_, ⟨_, rfl, ?_⟩, ⟨_, rfl, rfl⟩, trivial⟩, .ret (.refl _), .cons (.mx (.cons (.refl _) (.cons (.refl _) (.cons (.refl _) (.cons (.refl _) (.cons (.refl _) (.cons (.refl _) (.cons .u .nil)))))))) (.cons (.refl _) (.dd .nil))⟩
    ·show V.s (.int .u8 (IntKind.u8.wrap _)) = _
     rw [u8_xor]
    ·show B.mx [.q rs 0, i64 5, bool false, .z c (bv ch), .z r (bv R), i64 (IntKind.i64.wrap ((u : Int) + 1)), .z (u + 1) (sub (sub (bv g) 0 (u * 1) ++ sub [Value.int .u8 _] 0 (1 * 1)) 0 (u + 1))] = _
     rw [w1, snoc_sub hg (u8_xor _ _)]; rfl
   ·rw [if_neg he]
    refine fd.r12_Mode_byByte.w ?_
    refine ⟨_, rfl, ?_⟩
    refine spl_eq (fun h0 => absurd h0 (by omega)) (fun _ => ?_)
    refine ⟨_, rfl, ?_⟩
    refine ⟨_, rfl, ?_⟩
    refine spl_eq (fun hh => absurd hh (by omega)) (fun _ => ?_)
    refine ⟨_, rfl, ?_⟩
    refine ⟨_, rfl, ?_⟩
    refine ⟨(by omega), (by omega), _, by rw [Int.toNat_natCast]; exact bv_getD (k := R) (i := u) (by omega), ?_⟩
    refine ⟨_, rfl, ?_⟩
    refine ⟨Nat.le_of_ble_eq_true rfl, ?_⟩
    refine ⟨_, rfl, ?_⟩
    refine ⟨_, rfl, ?_⟩
    refine ⟨Nat.le_refl _, by omega, by rw [bv_len, hg]; omega, ?_⟩
    refine ⟨Nat.le_of_ble_eq_true rfl, ?_⟩
    refine ⟨_, rfl, ?_⟩
    refine ⟨.ret (u8V (p ^^^ R.getD u 0)), [.mx [.q rs 0, i64 5, bool false, .z c (bv ch), .z r (bv R), i64 (u + 1 : Nat), .o 1 (.k 2) 0 (u + 1)], .dead, .sc (bv (g ++ [moIn false p (p ^^^ R.getD u 0)]))], ⟨_, rfl, [.k 0, .k 1, .d 98 0], ?_, ⟨_, rfl, ?_⟩, ⟨_, rfl, rfl⟩, ⟨_, rfl, congrArg B.sc ?_⟩, trivial⟩, .ret (.refl _), .cons (.refl _) (.cons (.refl _) (.cons (.refl _) .nil))⟩
    ·show V.s (.int .u8 (IntKind.u8.wrap _)) = _
     rw [u8_xor]
    ·show B.mx [.q rs 0, i64 5, bool false, .z c (bv ch), .z r (bv R), i64 (IntKind.i64.wrap ((u : Int) + 1)), .o 1 (.k 2) 0 (u + 1)] = _
     rw [w1]
    ·exact snoc_blk hg (u8_xor _ _)
  ·by_cases he : u + 1 = r
   ·rw [if_pos he, if_neg (by decide), if_neg (by decide)]
    refine fd.r12_Mode_byByte.w ?_
    refine ⟨_, rfl, ?_⟩
    refine spl_eq (fun h0 => absurd h0 (by omega)) (fun _ => ?_)
    refine ⟨_, rfl, ?_⟩
    refine ⟨_, rfl, ?_⟩
    refine spl_eq (fun hh => absurd hh (by omega)) (fun _ => ?_)
    refine ⟨_, rfl, ?_⟩
    refine ⟨_, rfl, ?_⟩
    refine ⟨(by omega), (by omega), _, by rw [Int.toNat_natCast]; exact bv_getD (k := R) (i := u) (by omega), ?_⟩
    refine ⟨_, rfl, ?_⟩
    refine ⟨Nat.le_of_ble_eq_true rfl, ?_⟩
    refine ⟨_, rfl, ?_⟩
    refine ⟨_, rfl, ?_⟩
    refine ⟨Nat.le_refl _, by omega, by rw [bv_len, hg]; omega, ?_⟩
    refine ⟨Nat.le_of_ble_eq_true rfl, ?_⟩
    refine ⟨_, rfl, ?_⟩
    refine ⟨.ret (u8V (p ^^^ R.getD u 0)), [.mx [.q rs 0, i64 5, bool true, .z c (bv ch), .z r (bv R), i64 (u + 1 : Nat), .z (u + 1) (bv (g ++ [moIn true p (p ^^^ R.getD u 0)]))], .dead], ⟨_, rfl, [.k 0, .k 1], ?_, ⟨_, rfl, ?_⟩, ⟨_, rfl, rfl⟩, trivial⟩, .ret (.refl _), .cons (.mx (.cons (.refl _) (.cons (.refl _) (.cons (.refl _) (.cons (.refl _) (.cons (.refl _) (.cons (.refl _) (.cons .u .nil)))))))) (.cons (.refl _) (.dd .nil))⟩
    ·show V.s (.int .u8 (IntKind.u8.wrap _)) = _
     rw [u8_xor]
    ·show B.mx [.q rs 0, i64 5, bool true, .z c (bv ch), .z r (bv R), i64 (IntKind.i64.wrap ((u : Int) + 1)), .z (u + 1) (sub (sub (bv g) 0 (u * 1) ++ sub [Value.int .u8 _] 0 (1 * 1)) 0 (u + 1))] = _
     rw [w1, snoc_sub hg rfl]; rfl
   ·rw [if_neg he]
    refine fd.r12_Mode_byByte.w ?_
    refine ⟨_, rfl, ?_⟩
    refine spl_eq (fun h0 => absurd h0 (by omega)) (fun _ => ?_)
    refine ⟨_, rfl, ?_⟩
    refine ⟨_, rfl, ?_⟩
    refine spl_eq (fun hh => absurd hh (by omega)) (fun _ => ?_)
    refine ⟨_, rfl, ?_⟩
    refine ⟨_, rfl, ?_⟩
    refine ⟨(by omega), (by omega), _, by rw [Int.toNat_natCast]; exact bv_getD (k := R) (i := u) (by omega), ?_⟩
    refine ⟨_, rfl, ?_⟩
    refine ⟨Nat.le_of_ble_eq_true rfl, ?_⟩
    refine ⟨_, rfl, ?_⟩
    refine ⟨_, rfl, ?_⟩
    refine ⟨Nat.le_refl _, by omega, by rw [bv_len, hg]; omega, ?_⟩
    refine ⟨Nat.le_of_ble_eq_true rfl, ?_⟩
    refine ⟨_, rfl, ?_⟩
    refine ⟨.ret (u8V (p ^^^ R.getD u 0)), [.mx [.q rs 0, i64 5, bool true, .z c (bv ch), .z r (bv R), i64 (u + 1 : Nat), .o 1 (.k 2) 0 (u + 1)], .dead, .sc (bv (g ++ [moIn true p (p ^^^ R.getD u 0)]))], ⟨_, rfl, [.k 0, .k 1, .d 98 0], ?_, ⟨_, rfl, ?_⟩, ⟨_, rfl, rfl⟩, ⟨_, rfl, congrArg B.sc ?_⟩, trivial⟩, .ret (.refl _), .cons (.refl _) (.cons (.refl _) (.cons (.refl _) .nil))⟩
    ·show V.s (.int .u8 (IntKind.u8.wrap _)) = _
     rw [u8_xor]
    ·show B.mx [.q rs 0, i64 5, bool true, .z c (bv ch), .z r (bv R), i64 (IntKind.i64.wrap ((u : Int) + 1)), .o 1 (.k 2) 0 (u + 1)] = _
     rw [w1]
    ·exact snoc_blk hg rfl
 ·cases back
  ·by_cases he : u + 1 = r
   ·rw [if_pos he, if_neg (by decide), if_neg (by decide)]
    refine fd.r12_Mode_byByte.w ?_
    refine ⟨_, rfl, ?_⟩
    refine spl_eq (fun h0 => absurd h0 (by omega)) (fun _ => ?_)
    refine ⟨_, rfl, ?_⟩
    refine ⟨_, rfl, ?_⟩
    refine spl_eq (fun hh => absurd hh (by omega)) (fun _ => ?_)
    refine ⟨_, rfl, ?_⟩
    refine ⟨_, rfl, ?_⟩
    refine ⟨(by omega), (by omega), _, by rw [Int.toNat_natCast]; exact bv_getD (k := R) (i := u) (by omega), ?_⟩
    refine ⟨_, rfl, ?_⟩
    refine ⟨Nat.le_of_ble_eq_true rfl, ?_⟩
    refine ⟨_, rfl, ?_⟩
    refine ⟨_, rfl, ?_⟩
    refine ⟨Nat.le_refl _, by omega, by rw [bv_len, hg]; omega, ?_⟩
    refine ⟨Nat.le_of_ble_eq_true rfl, ?_⟩
    refine ⟨_, rfl, ?_⟩
    refine ⟨.ret (u8V (p ^^^ R.getD u 0)), [.mx [.q rs 0, i64 6, bool false, .z c (bv ch), .z r (bv R), i64 (u + 1 : Nat), .z (u + 1) (bv (g ++ [moIn false p (p ^^^ R.getD u 0)]))], .dead], ⟨_, rfl, [.k 0, .k 1], ?_, ⟨_, rfl, ?_⟩, ⟨_, rfl, rfl⟩, trivial⟩, .ret (.refl _), .cons (.mx (.cons (.refl _) (.cons (.refl _) (.cons (.refl _) (.cons (.refl _) (.cons (.refl _) (.cons (.refl _) (.cons .u .nil)))))))) (.cons (.refl _) (.dd .nil))⟩
    ·show V.s (.int .u8 (IntKind.u8.wrap _)) = _
     rw [u8_xor]
    ·show B.mx [.q rs 0, i64 6, bool false, .z c (bv ch), .z r (bv R), i64 (IntKind.i64.wrap ((u : Int) + 1)), .z (u + 1) (sub (sub (bv g) 0 (u * 1) ++ sub [Value.int .u8 _] 0 (1 * 1)) 0 (u + 1))] = _
     rw [w1, snoc_sub hg (u8_xor _ _)]; rfl
   ·rw [if_neg he]
    refine fd.r12_Mode_byByte.w ?_
    refine ⟨_, rfl, ?_⟩
    refine spl_eq (fun h0 => absurd h0 (by omega)) (fun _ => ?_)
    refine ⟨_, rfl, ?_⟩
    refine ⟨_, rfl, ?_⟩
    refine spl_eq (fun hh => absurd hh (by omega)) (fun _ => ?_)
    refine ⟨_, rfl, ?_⟩
    refine ⟨_, rfl, ?_⟩
    refine ⟨(by omega), (by omega), _, by rw [Int.toNat_natCast]; exact bv_getD (k := R) (i := u) (by omega), ?_⟩
    refine ⟨_, rfl, ?_⟩
    refine ⟨Nat.le_of_ble_eq_true rfl, ?_⟩
    refine ⟨_, rfl, ?_⟩
    refine ⟨_, rfl, ?_⟩
    refine ⟨Nat.le_refl _, by omega, by rw [bv_len, hg]; omega, ?_⟩
    refine ⟨Nat.le_of_ble_eq_true rfl, ?_⟩
    refine ⟨_, rfl, ?_⟩
    refine ⟨.ret (u8V (p ^^^ R.getD u 0)), [.mx [.q rs 0, i64 6, bool false, .z c (bv ch), .z r (bv R), i64 (u + 1 : Nat), .o 1 (.k 2) 0 (u + 1)], .dead, .sc (bv (g ++ [moIn false p (p ^^^ R.getD u 0)]))], ⟨_, rfl, [.k 0, .k 1, .d 98 0], ?_, ⟨_, rfl, ?_⟩, ⟨_, rfl, rfl⟩, ⟨_, rfl, congrArg B.sc ?_⟩, trivial⟩, .ret (.refl _), .cons (.refl _) (.cons (.refl _) (.cons (.refl _) .nil))⟩
    ·show V.s (.int .u8 (IntKind.u8.wrap _)) = _
     rw [u8_xor]
    ·show B.mx [.q rs 0, i64 6, bool false, .z c (bv ch), .z r (bv R), i64 (IntKind.i64.wrap ((u : Int) + 1)), .o 1 (.k 2) 0 (u + 1)] = _
     rw [w1]
    ·exact snoc_blk hg (u8_xor _ _)
  ·by_cases he : u + 1 = r
   ·rw [if_pos he, if_neg (by decide), if_neg (by decide)]
    refine fd.r12_Mode_byByte.w ?_
    refine ⟨_, rfl, ?_⟩
    refine spl_eq (fun h0 => absurd h0 (by omega)) (fun _ => ?_)
    refine ⟨_, rfl, ?_⟩
    refine ⟨_, rfl, ?_⟩
    refine spl_eq (fun hh => absurd hh (by omega)) (fun _ => ?_)
    refine ⟨_, rfl, ?_⟩
    refine ⟨_, rfl, ?_⟩
    refine ⟨(by omega), (by omega), _, by rw [Int.toNat_natCast]; exact bv_getD (k := R) (i := u) (by omega), ?_⟩
    refine ⟨_, rfl, ?_⟩
    refine ⟨Nat.le_of_ble_eq_true rfl, ?_⟩
    refine ⟨_, rfl, ?_⟩
    refine ⟨_, rfl, ?_⟩
    refine ⟨Nat.le_refl _, by omega, by rw [bv_len, hg]; omega, ?_⟩
    refine ⟨Nat.le_of_ble_eq_true rfl, ?_⟩
    refine ⟨_, rfl, ?_⟩
    refine ⟨.ret (u8V (p ^^^ R.getD u 0)), [.mx [.q rs 0, i64 6, bool true, .z c (bv ch), .z r (bv R), i64 (u + 1 : Nat), .z (u + 1) (bv (g ++ [moIn true p (p ^^^ R.getD u 0)]))], .dead], ⟨_, rfl, [.k 0, .k 1], ?_, ⟨_, rfl, ?_⟩, ⟨_, rfl, rfl⟩, trivial⟩, .ret (.refl _), .cons (.mx (.cons (.refl _) (.cons (.refl _) (.cons (.refl _) (.cons (.refl _) (.cons (.refl _) (.cons (.refl _) (.cons .u .nil)))))))) (.cons (.refl _) (.dd .nil))⟩
    ·show V.s (.int .u8 (IntKind.u8.wrap _)) = _
     rw [u8_xor]
    ·show B.mx [.q rs 0, i64 6, bool true, .z c (bv ch), .z r (bv R), i64 (IntKind.i64.wrap ((u : Int) + 1)), .z (u + 1) (sub (sub (bv g) 0 (u * 1) ++ sub [Value.int .u8 _] 0 (1 * 1)) 0 (u + 1))] = _
     rw [w1, snoc_sub hg rfl]; rfl
   ·rw [if_neg he]
    refine fd.r12_Mode_byByte.w ?_
    refine ⟨_, rfl, ?_⟩
    refine spl_eq (fun h0 => absurd h0 (by omega)) (fun _ => ?_)
    refine ⟨_, rfl, ?_⟩
    refine ⟨_, rfl, ?_⟩
    refine spl_eq (fun hh => absurd hh (by omega)) (fun _ => ?_)
    refine ⟨_, rfl, ?_⟩
    refine ⟨_, rfl, ?_⟩
    refine ⟨(by omega), (by omega), _, by rw [Int.toNat_natCast]; exact bv_getD (k := R) (i := u) (by omega), ?_⟩
    refine ⟨_, rfl, ?_⟩
    refine ⟨Nat.le_of_ble_eq_true rfl, ?_⟩
    refine ⟨_, rfl, ?_⟩
    refine ⟨_, rfl, ?_⟩
    refine ⟨Nat.le_refl _, by omega, by rw [bv_len, hg]; omega, ?_⟩
    refine ⟨Nat.le_of_ble_eq_true rfl, ?_⟩
    refine ⟨_, rfl, ?_⟩
    refine ⟨.ret (u8V (p ^^^ R.getD u 0)), [.mx [.q rs 0, i64 6, bool true, .z c (bv ch), .z r (bv R), i64 (u + 1 : Nat), .o 1 (.k 2) 0 (u + 1)], .dead, .sc (bv (g ++ [moIn true p (p ^^^ R.getD u 0)]))], ⟨_, rfl, [.k 0, .k 1, .d 98 0], ?_, ⟨_, rfl, ?_⟩, ⟨_, rfl, rfl⟩, ⟨_, rfl, congrArg B.sc ?_⟩, trivial⟩, .ret (.refl _), .cons (.refl _) (.cons (.refl _) (.cons (.refl _) .nil))⟩
    ·show V.s (.int .u8 (IntKind.u8.wrap _)) = _
     rw [u8_xor]
    ·show B.mx [.q rs 0, i64 6, bool true, .z c (bv ch), .z r (bv R), i64 (IntKind.i64.wrap ((u : Int) + 1)), .o 1 (.k 2) 0 (u + 1)] = _
     rw [w1]
    ·exact snoc_blk hg rfl
def rdX (rs : List V) (mode : Int) (back : Bool) (x : MS × List UInt8 × Nat) (i : Nat) : B := .mx [.q rs 0, i64 mode, bool back, .z x.1.ch.length (bv x.1.ch), .z x.2.1.length (bv x.2.1), i64 x.2.2, gnV x.1.row x.1.gone i]
theorem rd_row {rs : List V} {mode : Int} {back : Bool} {ch row g R : List UInt8} {u i c r : Nat} (hc : ch.length = c) (hr : R.length = r) (h0 : row = []) : rdX rs mode back (⟨ch, row, g⟩, R, u) i = .mx [.q rs 0, i64 mode, bool back, .z c (bv ch), .z r (bv R), i64 u, .u] := by
 subst hc; subst hr; subst h0; rfl
theorem rd_row' {rs : List V} {mode : Int} {back : Bool} {ch row g R : List UInt8} {u i j c r : Nat} (hc : ch.length = c) (hr : R.length = r) (h0 : 0 < row.length) (hg : g.length = j) : rdX rs mode back (⟨ch, row, g⟩, R, u) i = .mx [.q rs 0, i64 mode, bool back, .z c (bv ch), .z r (bv R), i64 u, .o 1 (.k i) 0 j] := by
 subst hc; subst hr; subst hg
 unfold rdX
 rw [gnV_pos h0]
theorem drop_getD0 {R : List UInt8} {u : Nat} : (R.drop u).getD 0 0 = R.getD u 0 := by simp [List.getD_eq_getElem?_getD]
theorem c_rbyte {t key s k xs rs} (h : Ciph t key s k xs rs) {mode : Int} {back : Bool} {x : MS × List UInt8 × Nat} {p : UInt8} (hm : 4 ≤ mode) (K : MK s mode x.1) (D : RelD s mode x) :
  Con C N.r12_Mode_byByte [.p (.k 0) 0, u8V p] [rdX rs mode back x 1, gnB x.1.row x.1.gone] (.ret (u8V (moOne (cF t key false) mode back x.1 p).1)) [rdX rs mode back (rdOne (cF t key false) mode back x p) 2, .dead, gnB (rdOne (cF t key false) mode back x p).1.row (rdOne (cF t key false) mode back x p).1.gone] := by
 have hs := h.s_le
 have hm3 : mode = 4 ∨ mode = 5 ∨ mode = 6 := by have := K.ok.m; omega
 have hc := K.ok.ch.resolve_left (by omega)
 obtain ⟨⟨ch, row, g⟩, R, u⟩ := x
 obtain ⟨d1, d2, d3, d4, d5, d6⟩ := D
 dsimp only at d1 d2 d3 d4 d5 d6 hc
 have lE := h.len (back := false) hc
 have lr : row.length = R.length - u := by rw [d2, List.length_drop]
 by_cases h0 : row.length = 0
 ·obtain rfl := List.eq_nil_of_length_eq_zero h0
  have lN : (moNxt (cF t key false) mode ch).length = s := by
   unfold moNxt
   split
   ·exact lE
   ·split
    ·rw [incL_len, hc]
    ·exact hc
  have e1 : moOne (cF t key false) mode back ⟨ch, [], g⟩ p = (p ^^^ (cF t key false ch).getD 0 0, ⟨moNxt (cF t key false) mode ch, (cF t key false ch).drop 1, [] ++ [moIn back p (p ^^^ (cF t key false ch).getD 0 0)]⟩) := by
   show moByt mode back ⟨moNxt (cF t key false) mode ch, cF t key false ch, []⟩ p = _
   exact moByt_row (by omega) (by omega)
  have e2 : rdOne (cF t key false) mode back (⟨ch, [], g⟩, R, u) p = (⟨moNxt (cF t key false) mode ch, (cF t key false ch).drop 1, [] ++ [moIn back p (p ^^^ (cF t key false ch).getD 0 0)]⟩, cF t key false ch, 1) := by
   unfold rdOne
   rw [e1, if_neg (by omega), if_pos (show ([] : List UInt8).length = 0 from rfl)]
  have ld : 0 < ((cF t key false ch).drop 1).length := by rw [List.length_drop]; omega
  rw [e1, e2, rd_row hc rfl rfl, rd_row' lN lE ld (j := 1) rfl]
  show Con C N.r12_Mode_byByte [.p (.k 0) 0, u8V p] [_, .dead] _ [_, .dead, gnB ((cF t key false ch).drop 1) ([] ++ [moIn back p (p ^^^ (cF t key false ch).getD 0 0)])]
  rw [gnB_pos ld]
  exact c_byByteF h rfl hc hm3 (.inr (by omega))
 ·have hg := d4 h0
  have hgd : row.getD 0 0 = R.getD u 0 := by rw [d2, drop_getD0]
  have e0 : moOne (cF t key false) mode back ⟨ch, row, g⟩ p = moByt mode back ⟨ch, row, g⟩ p := by unfold moOne; rw [if_neg h0]
  have HB := c_byByteR h (mode := mode) (back := back) (p := p) hc (by omega) hm3 (R := R) (u := u) rfl (by omega) (by omega) hg
  have e2 : ∀ y, moOne (cF t key false) mode back ⟨ch, row, g⟩ p = y → rdOne (cF t key false) mode back (⟨ch, row, g⟩, R, u) p = (y.2, R, u + 1) := by
   rintro y rfl
   unfold rdOne
   rw [if_neg (by omega), if_neg h0]
  rw [rd_row' hc rfl (by omega) hg, gnB_pos (row := row) (by omega)]
  have l1 : (row.drop 1).length = R.length - u - 1 := by rw [List.length_drop, lr]
  by_cases he : u + 1 = R.length
  ·rw [if_pos he] at HB
   have r1 : row.drop 1 = [] := List.eq_nil_of_length_eq_zero (by omega)
   by_cases h4 : mode = 4
   ·subst h4
    rw [if_pos rfl, if_pos rfl] at HB
    have e3 := moByt4 (back := back) (ch := ch) (g := g) (p := p) (show row.length = 1 by omega)
    rw [hgd] at e3
    have e4 := e2 _ (e0.trans e3)
    rw [e0, e3, e4, rd_row (c := u + 1) (by rw [List.length_append, hg]; rfl) rfl rfl]
    exact HB
   ·rw [if_neg h4, if_neg h4] at HB
    have e3 := moByt_row (back := back) (ch := ch) (row := row) (g := g) (p := p) (show mode ≠ 3 by omega) (fun e => h4 e.1)
    rw [hgd, r1] at e3
    have e4 := e2 _ (e0.trans e3)
    rw [e0, e3, e4, rd_row hc rfl rfl]
    exact HB
  ·rw [if_neg he] at HB
   have e3 := moByt_row (back := back) (ch := ch) (row := row) (g := g) (p := p) (show mode ≠ 3 by omega) (fun e => by omega)
   rw [hgd] at e3
   have e4 := e2 _ (e0.trans e3)
   rw [e0, e3, e4, rd_row' (j := u + 1) hc rfl (by omega) (by rw [List.length_append, hg]; rfl)]
   show Con C N.r12_Mode_byByte [.p (.k 0) 0, u8V p] _ _ [_, .dead, gnB (row.drop 1) (g ++ [moIn back p (p ^^^ R.getD u 0)])]
   rw [gnB_pos (row := row.drop 1) (by omega)]
   exact HB
theorem c_r12_new {t key s k xs rs} (h : Ciph t key s k xs rs) {mode : Int} {back : Bool} {l i : Nat} {vi : List Value} {iv : List UInt8} (hvi : vi = bv iv) (hl : iv.length = l) (hm : 1 ≤ mode ∧ mode ≤ 6) (hi : l = if mode = 1 then 0 else s) :
  Con C N.r12_New [.q rs 0, i64 mode, bool back, .z l vi] [] (.ret (.t [.p (.k 0) 0, i64 0])) [rdX rs mode back (⟨iv, [], []⟩, [], 0) i, .dead, .dead] := by
 subst hvi
 have hs := h.s_le
 rw [rd_row hl rfl rfl]
 have hm' : mode = 1 ∨ mode = 2 ∨ mode = 3 ∨ mode = 4 ∨ mode = 5 ∨ mode = 6 := by omega
 rcases hm' with rfl | rfl | rfl | rfl | rfl | rfl
 ·rw [if_pos rfl] at hi
  refine fd.r12_New.w ?_
  refine spl_ne (fun hh => absurd hh (by omega)) (fun _ => ?_)
  refine ⟨by rw [bv_len]; omega, by omega, by decide, ?_⟩
  refine ⟨.ret (.t [.p (.k 0) 0, i64 0]), [.mx [.q rs 0, i64 1, bool back, .z l (bv iv), nilv, i64 0, nilv]], ⟨_, rfl, [.d 41 0], rfl, ⟨_, rfl, ?_⟩, trivial⟩, .ret (.refl _), .cons (.mx (.cons (.refl _) (.cons (.refl _) (.cons (.refl _) (.cons (.refl _) (.cons .nl (.cons (.refl _) (.cons .u .nil)))))))) (.dd (.dd .nil))⟩
  show B.mx [.q rs 0, i64 1, bool back, .z (0 + l) (sub ([] ++ bv iv) 0 (0 + l)), nilv, i64 0, nilv] = _
  rw [Nat.zero_add, List.nil_append, bv_all hl]
 ·rw [if_neg (by decide)] at hi
  refine fd.r12_New.w ?_
  refine ⟨[], _, _, _, _, h.rsize, rfl, rfl, ?_⟩
  refine spl_ne (fun hh => absurd hh (by omega)) (fun _ => ?_)
  refine ⟨by rw [bv_len]; omega, by omega, by decide, ?_⟩
  refine ⟨.ret (.t [.p (.k 0) 0, i64 0]), [.mx [.q rs 0, i64 2, bool back, .z l (bv iv), nilv, i64 0, nilv]], ⟨_, rfl, [.d 41 0], rfl, ⟨_, rfl, ?_⟩, trivial⟩, .ret (.refl _), .cons (.mx (.cons (.refl _) (.cons (.refl _) (.cons (.refl _) (.cons (.refl _) (.cons .nl (.cons (.refl _) (.cons .u .nil)))))))) (.dd (.dd .nil))⟩
  show B.mx [.q rs 0, i64 2, bool back, .z (0 + l) (sub ([] ++ bv iv) 0 (0 + l)), nilv, i64 0, nilv] = _
  rw [Nat.zero_add, List.nil_append, bv_all hl]
 ·rw [if_neg (by decide)] at hi
  refine fd.r12_New.w ?_
  refine ⟨[], _, _, _, _, h.rsize, rfl, rfl, ?_⟩
  refine spl_ne (fun hh => absurd hh (by omega)) (fun _ => ?_)
  refine ⟨by rw [bv_len]; omega, by omega, by decide, ?_⟩
  refine ⟨.ret (.t [.p (.k 0) 0, i64 0]), [.mx [.q rs 0, i64 3, bool back, .z l (bv iv), nilv, i64 0, nilv]], ⟨_, rfl, [.d 41 0], rfl, ⟨_, rfl, ?_⟩, trivial⟩, .ret (.refl _), .cons (.mx (.cons (.refl _) (.cons (.refl _) (.cons (.refl _) (.cons (.refl _) (.cons .nl (.cons (.refl _) (.cons .u .nil)))))))) (.dd (.dd .nil))⟩
  show B.mx [.q rs 0, i64 3, bool back, .z (0 + l) (sub ([] ++ bv iv) 0 (0 + l)), nilv, i64 0, nilv] = _
  rw [Nat.zero_add, List.nil_append, bv_all hl]
 ·rw [if_neg (by decide)] at hi
  refine fd.r12_New.w ?_
  refine ⟨[], _, _, _, _, h.rsize, rfl, rfl, ?_⟩
  refine spl_ne (fun hh => absurd hh (by omega)) (fun _ => ?_)
  refine ⟨by rw [bv_len]; omega, by omega, by decide, ?_⟩
  refine ⟨.ret (.t [.p (.k 0) 0, i64 0]), [.mx [.q rs 0, i64 4, bool back, .z l (bv iv), nilv, i64 0, nilv]], ⟨_, rfl, [.d 41 0], rfl, ⟨_, rfl, ?_⟩, trivial⟩, .ret (.refl _), .cons (.mx (.cons (.refl _) (.cons (.refl _) (.cons (.refl _) (.cons (.refl _) (.cons .nl (.cons (.refl _) (.cons .u .nil)))))))) (.dd (.dd .nil))⟩
  show B.mx [.q rs 0, i64 4, bool back, .z (0 + l) (sub ([] ++ bv iv) 0 (0 + l)), nilv, i64 0, nilv] = _
  rw [Nat.zero_add, List.nil_append, bv_all hl]
 ·rw [if_neg (by decide)] at hi
  refine fd.r12_New.w ?_
  refine ⟨[], _, _, _, _, h.rsize, rfl, rfl, ?_⟩
  refine spl_ne (fun hh => absurd hh (by omega)) (fun _ => ?_)
  refine ⟨by rw [bv_len]; omega, by omega, by decide, ?_⟩
  refine ⟨.ret (.t [.p (.k 0) 0, i64 0]), [.mx [.q rs 0, i64 5, bool back, .z l (bv iv), nilv, i64 0, nilv]], ⟨_, rfl, [.d 41 0], rfl, ⟨_, rfl, ?_⟩, trivial⟩, .ret (.refl _), .cons (.mx (.cons (.refl _) (.cons (.refl _) (.cons (.refl _) (.cons (.refl _) (.cons .nl (.cons (.refl _) (.cons .u .nil)))))))) (.dd (.dd .nil))⟩
  show B.mx [.q rs 0, i64 5, bool back, .z (0 + l) (sub ([] ++ bv iv) 0 (0 + l)), nilv, i64 0, nilv] = _
  rw [Nat.zero_add, List.nil_append, bv_all hl]
 ·rw [if_neg (by decide)] at hi
  refine fd.r12_New.w ?_
  refine ⟨[], _, _, _, _, h.rsize, rfl, rfl, ?_⟩
  refine spl_ne (fun hh => absurd hh (by omega)) (fun _ => ?_)
  refine ⟨by rw [bv_len]; omega, by omega, by decide, ?_⟩
  refine ⟨.ret (.t [.p (.k 0) 0, i64 0]), [.mx [.q rs 0, i64 6, bool back, .z l (bv iv), nilv, i64 0, nilv]], ⟨_, rfl, [.d 41 0], rfl, ⟨_, rfl, ?_⟩, trivial⟩, .ret (.refl _), .cons (.mx (.cons (.refl _) (.cons (.refl _) (.cons (.refl _) (.cons (.refl _) (.cons .nl (.cons (.refl _) (.cons .u .nil)))))))) (.dd (.dd .nil))⟩
  show B.mx [.q rs 0, i64 6, bool back, .z (0 + l) (sub ([] ++ bv iv) 0 (0 + l)), nilv, i64 0, nilv] = _
  rw [Nat.zero_add, List.nil_append, bv_all hl]
theorem c_r12_new_iv {t key s k xs rs} (h : Ciph t key s k xs rs) {mode : Int} {back : Bool} {l : Nat} {vi : List Value} (hm : 1 ≤ mode ∧ mode ≤ 6) (hi : l ≠ if mode = 1 then 0 else s) :
  Con C N.r12_New [.q rs 0, i64 mode, bool back, .z l vi] [] (.ret (.t [nilp, i64 5])) [] := by
 have hm' : mode = 1 ∨ mode = 2 ∨ mode = 3 ∨ mode = 4 ∨ mode = 5 ∨ mode = 6 := by omega
 refine con.r12_New ?_
 rcases hm' with rfl | rfl | rfl | rfl | rfl | rfl
 ·rw [if_pos rfl] at hi
  refine spl_ne (fun _ => ?_) (fun hh => absurd hh (by omega))
  exact ⟨_, rfl, [], rfl, trivial⟩
 ·rw [if_neg (by decide)] at hi
  refine ⟨[], _, _, _, _, h.rsize, rfl, rfl, ?_⟩
  refine spl_ne (fun _ => ?_) (fun hh => absurd hh (by omega))
  exact ⟨_, rfl, [], rfl, trivial⟩
 ·rw [if_neg (by decide)] at hi
  refine ⟨[], _, _, _, _, h.rsize, rfl, rfl, ?_⟩
  refine spl_ne (fun _ => ?_) (fun hh => absurd hh (by omega))
  exact ⟨_, rfl, [], rfl, trivial⟩
 ·rw [if_neg (by decide)] at hi
  refine ⟨[], _, _, _, _, h.rsize, rfl, rfl, ?_⟩
  refine spl_ne (fun _ => ?_) (fun hh => absurd hh (by omega))
  exact ⟨_, rfl, [], rfl, trivial⟩
 ·rw [if_neg (by decide)] at hi
  refine ⟨[], _, _, _, _, h.rsize, rfl, rfl, ?_⟩
  refine spl_ne (fun _ => ?_) (fun hh => absurd hh (by omega))
  exact ⟨_, rfl, [], rfl, trivial⟩
 ·rw [if_neg (by decide)] at hi
  refine ⟨[], _, _, _, _, h.rsize, rfl, rfl, ?_⟩
  refine spl_ne (fun _ => ?_) (fun hh => absurd hh (by omega))
  exact ⟨_, rfl, [], rfl, trivial⟩
theorem c_r12_new_no {t key s k xs rs} (h : Ciph t key s k xs rs) {mode : Int} {back : Bool} {l : Nat} {vi : List Value} (hm : ¬ (1 ≤ mode ∧ mode ≤ 6)) :
  Con C N.r12_New [.q rs 0, i64 mode, bool back, .z l vi] [] (.ret (.t [nilp, i64 3])) [] := by
 refine con.r12_New ?_
 refine spl_d (fun _ => ?_) (fun _ => ?_)
 ·exact ⟨_, rfl, [], rfl, trivial⟩
 ·refine spl_d (fun _ => ?_) (fun hh => absurd hh (by omega))
  exact ⟨_, rfl, [], rfl, trivial⟩
theorem c_rgrain1 {t key s k xs rs} (h : Ciph t key s k xs rs) {mode : Int} {back : Bool} {x : MS × List UInt8 × Nat} (hm : 3 ≤ mode) :
  Con C N.r12_Mode_Grain [.p (.k 0) 0] [rdX rs mode back x 1, gnB x.1.row x.1.gone] (.ret (i64 1)) [rdX rs mode back x 1, gnB x.1.row x.1.gone] := by
 obtain ⟨⟨ch, row, g⟩, R, u⟩ := x
 refine con.r12_Mode_Grain ?_
 refine ⟨_, rfl, ?_⟩
 refine spl_d (fun h1 => absurd h1 (by omega)) (fun _ => ?_)
 cases row <;> exact ⟨_, rfl, [.k 0, .k 1], rfl, ⟨_, rfl, rfl⟩, ⟨_, rfl, rfl⟩, trivial⟩
theorem c_rgrainS {t key s k xs rs} (h : Ciph t key s k xs rs) {mode : Int} {back : Bool} {c : Nat} {vc : List Value} (hm : mode = 1 ∨ mode = 2) :
  Con C N.r12_Mode_Grain [.p (.k 0) 0] [.mx [.q rs 0, i64 mode, bool back, .z c vc, .z 0 [], i64 0, .u]] (.ret (i64 s)) [.mx [.q rs 0, i64 mode, bool back, .z c vc, .z 0 [], i64 0, .u]] := by
 refine con.r12_Mode_Grain ?_
 refine ⟨_, rfl, ?_⟩
 refine spl_d (fun h1 => ?_) (fun h1 => absurd h1 (by omega))
 refine ⟨_, rfl, ?_⟩
 refine ⟨[], _, _, _, _, h.rsize, rfl, rfl, ?_⟩
 exact ⟨_, rfl, [.k 0], rfl, ⟨_, rfl, rfl⟩, trivial⟩
def rsB (rs : List V) (mode : Int) (back : Bool) (m s c : Nat) (b : List UInt8) : Nat × Nat × List UInt8 × List UInt8 → D
 | (i, q, o, c') => ⟨[(0, .p (.k 0) 0), (1, .z m (bv b)), (6, i64 s), (7, .o 1 (.k 2) 0 q), (8, i64 q)], [.mx [.q rs 0, i64 mode, bool back, .z c (bv c'), .z 0 [], i64 0, .u], .dead, .sc (bv o)]⟩
theorem c_rstep_blk {t key s k xs rs} (h : Ciph t key s k xs rs) {mode : Int} {back : Bool} {c m : Nat} {vb : List Value} {ch b : List UInt8} (hvb : vb = bv b) (hb : b.length = m) (hbm : m ≤ 1000000) (hm : mode = 1 ∨ mode = 2 ∧ c = s) (hc : ch.length = c) (hg : m % s = 0) :
  Con C N.r12_Mode_Step [.p (.k 0) 0, .z m vb] [.mx [.q rs 0, i64 mode, bool back, .z c (bv ch), .z 0 [], i64 0, .u], .dead] (.ret (.t [.z m (bv (moBlks (cF t key false) (cF t key true) mode back s b ch (m / s)).1), i64 0])) [.mx [.q rs 0, i64 mode, bool back, .z c (bv (moBlks (cF t key false) (cF t key true) mode back s b ch (m / s)).2), .z 0 [], i64 0, .u], .dead, .dead] := by
 subst hvb
 have hs := h.s_le
 have hci := h.ci
 have hdm := Nat.div_add_mod m s
 have hm12 : mode = 1 ∨ mode = 2 := by omega
 have G := c_rgrainS h (back := back) (c := c) (vc := bv ch) hm12
 refine fd.r12_Mode_Step.w ?_
 refine ⟨[.k 0], _, _, _, _, G, rfl, rfl, ?_⟩
 refine ⟨by omega, ?_⟩
 refine spl_ne (fun h => absurd ?_ h) (fun _ => ?_)
 ·have : ((m : Int).tmod (s : Int)) = ((m % s : Nat) : Int) := by rw [Int.tmod_eq_emod_of_nonneg (by omega)]; rfl
  rw [this, hg]; rfl
 refine ⟨Nat × Nat × List UInt8 × List UInt8, rsB rs mode back m s c b, fun x => x.2.1 = s * x.1 ∧ x.2.1 ≤ m ∧ moBlks (cF t key false) (cF t key true) mode back s b ch x.1 = (x.2.2.1, x.2.2.2) ∧ x.2.2.1.length = x.2.1 ∧ x.2.2.2.length = c, fun x => m - x.2.1, ?_, fun x hx => ?_⟩
 ·exact ⟨[(7, 1, .sc [])], (0, 0, [], ch), ⟨by show 0 = s * 0; omega, Nat.zero_le _, rfl, rfl, hc⟩, [.k 0, .k 1, .d 900000 0], ⟨rfl, rfl, rfl, rfl, rfl, trivial⟩, ⟨_, rfl, rfl⟩, ⟨_, rfl, rfl⟩, ⟨_, rfl, rfl⟩, trivial⟩
 ·obtain ⟨i, q, o, c'⟩ := x
  obtain ⟨h1, h2, h3, h4, h5⟩ := hx
  dsimp only at h1 h2 h3 h4 h5
  refine spl_d (fun h0 => ?_) (fun h0 => ?_)
  ·have hq : q + s ≤ m := by
    have e1 : m = s * (m / s) := by omega
    have : i < m / s := by
     refine Nat.lt_of_mul_lt_mul_left (a := s) ?_
     omega
    have := Nat.mul_le_mul_left s this
    rw [Nat.mul_succ] at this
    omega
   have lp : (sub b q s).length = s := by rw [sub_length]; omega
   have hn : moBlks (cF t key false) (cF t key true) mode back s b ch (i + 1) = (o ++ (moBlk (cF t key false) (cF t key true) mode back c' (sub b q s)).1, (moBlk (cF t key false) (cF t key true) mode back c' (sub b q s)).2) := by
    rw [moBlks_succ, h3, ← h1]
   have HB := c_r12_block h (mode := mode) (back := back) (vp := sub (bv b) q s) (bv_sub _ _ _) rfl lp h5 hm
   have hl := moBlk_ok (back := back) hci hm12 (c := c') (p := sub b q s) (by omega) lp
   have hl2 : (moBlk (cF t key false) (cF t key true) mode back c' (sub b q s)).2.length = c := by
    rcases hm with rfl | ⟨rfl, rfl⟩
    ·rw [← h5]; rfl
    ·exact hl.2.resolve_left (by decide)
   have hl1 := hl.1
   generalize moBlk (cF t key false) (cF t key true) mode back c' (sub b q s) = x at *
   obtain ⟨o', c2⟩ := x
   dsimp only at HB hn hl1 hl2
   have e1 : IntKind.i64.wrap ((q : Int) + (s : Int)) = ((q + s : Nat) : Int) := by rw [IntWalk.i64_in _ (by omega)]; omega
   rcases hm12 with rfl | rfl
   all_goals
    refine ⟨_, rfl, ?_⟩
    refine ⟨by first | omega | (rw [e1]; omega), by first | omega | (rw [e1]; omega), by first | omega | (rw [e1]; omega), by first | omega | (rw [e1]; omega), by first | omega | (rw [e1]; omega), ?_⟩
    refine ⟨[.k 0], _, _, _, _, HB, ?_, rfl, ?_⟩
    ·rw [e1]
     show [V.p (.k 0) 0, V.z (q + s - q) (sub (bv b) q (q + s - q))] = _
     rw [Nat.add_sub_cancel_left]
    refine ⟨by first | omega | (rw [bv_len]; omega), by omega, by rw [bv_len, h4]; omega, ?_⟩
    refine ⟨(i + 1, q + s, o ++ o', c2), ⟨by show q + s = s * (i + 1); rw [Nat.mul_succ]; omega, hq, hn, by rw [List.length_append, h4, hl1], hl2⟩, (by show m - (q + s) < m - q; omega), [.k 0, .k 1, .d 48 0], ⟨rfl, rfl, rfl, rfl, congrArg (vi .i64) e1, trivial⟩, ⟨_, rfl, rfl⟩, ⟨_, rfl, rfl⟩, ⟨_, rfl, congrArg B.sc ?_⟩, trivial⟩
    show sub (bv o) 0 (q * 1) ++ bv o' = _
    rw [Nat.mul_one, bv_all h4, bv_app]
  ·obtain rfl : q = m := by omega
   have hi : q / s = i := by rw [h1, Nat.mul_div_cancel_left _ (by omega)]
   rw [hi, h3]
   exact ⟨_, [.mx [.q rs 0, i64 mode, bool back, .z c (bv c'), .z 0 [], i64 0, .u], .dead], ⟨_, rfl, [.k 0, .k 1], congrArg (fun x => V.t [x, i64 0]) (congrArg (V.z q) (bv_all h4)), ⟨_, rfl, rfl⟩, ⟨_, rfl, rfl⟩, trivial⟩, .ret (.refl _), .cons (.refl _) (.cons (.refl _) (.dd .nil))⟩
def rsT (rs : List V) (back : Bool) (m s r u : Nat) (vr : List Value) (b : List UInt8) : Nat × List UInt8 × List UInt8 → D
 | (i, o, c') => ⟨[(0, .p (.k 0) 0), (1, .z m (bv b)), (6, i64 1), (7, .o 1 (.k 2) 0 i), (8, i64 i)], [.mx [.q rs 0, i64 3, bool back, .z s (bv c'), .z r vr, i64 u, .u], .dead, .sc (bv o)]⟩
theorem moOne3 {E : List UInt8 → List UInt8} {back : Bool} {ch g : List UInt8} {p : UInt8} : moOne E 3 back ⟨ch, [], g⟩ p = (p ^^^ (E ch).getD 0 0, ⟨ch.drop 1 ++ [moIn back p (p ^^^ (E ch).getD 0 0)], [], [] ++ [moIn back p (p ^^^ (E ch).getD 0 0)]⟩) := by
 show moByt 3 back ⟨ch, E ch, []⟩ p = _
 exact moByt3
theorem c_rstep_three {t key s k xs rs} (h : Ciph t key s k xs rs) {back : Bool} {m r u : Nat} {vb vr : List Value} {ch g b : List UInt8} (hvb : vb = bv b) (hb : b.length = m) (hbm : m ≤ 1000000) (hc : ch.length = s) :
  Con C N.r12_Mode_Step [.p (.k 0) 0, .z m vb] [.mx [.q rs 0, i64 3, bool back, .z s (bv ch), .z r vr, i64 u, .u], .dead] (.ret (.t [.z m (bv (moMany (cF t key false) 3 back ⟨ch, [], g⟩ b).1), i64 0])) [.mx [.q rs 0, i64 3, bool back, .z s (bv (moMany (cF t key false) 3 back ⟨ch, [], g⟩ b).2.ch), .z r vr, i64 u, .u], .dead, .dead] := by
 subst hvb
 have hs := h.s_le
 refine fd.r12_Mode_Step.w ?_
 have G : Con C N.r12_Mode_Grain [.p (.k 0) 0] [.mx [.q rs 0, i64 3, bool back, .z s (bv ch), .z r vr, i64 u, .u]] (.ret (i64 1)) [.mx [.q rs 0, i64 3, bool back, .z s (bv ch), .z r vr, i64 u, .u]] := by
  refine con.r12_Mode_Grain ?_
  refine ⟨_, rfl, ?_⟩
  exact ⟨_, rfl, [.k 0], rfl, ⟨_, rfl, rfl⟩, trivial⟩
 refine ⟨[.k 0], _, _, _, _, G, rfl, rfl, ?_⟩
 refine ⟨by decide, ?_⟩
 refine spl_ne (fun h => absurd (Int.tmod_one _) h) (fun _ => ?_)
 refine ⟨Nat × List UInt8 × List UInt8, rsT rs back m s r u vr b, fun x => x.1 ≤ m ∧ (∃ g', moMany (cF t key false) 3 back ⟨ch, [], g⟩ (b.take x.1) = (x.2.1, ⟨x.2.2, [], g'⟩)) ∧ x.2.1.length = x.1 ∧ x.2.2.length = s, fun x => m - x.1, ?_, fun x hx => ?_⟩
 ·exact ⟨[(7, 1, .sc [])], (0, [], ch), ⟨Nat.zero_le _, ⟨g, rfl⟩, rfl, hc⟩, [.k 0, .k 1, .d 900000 0], ⟨rfl, rfl, rfl, rfl, rfl, trivial⟩, ⟨_, rfl, rfl⟩, ⟨_, rfl, rfl⟩, ⟨_, rfl, rfl⟩, trivial⟩
 ·obtain ⟨i, o, c'⟩ := x
  obtain ⟨h1, ⟨g', h2⟩, h3, h4⟩ := hx
  dsimp only at h1 h2 h3 h4
  refine spl_d (fun h0 => ?_) (fun h0 => ?_)
  ·have lt : i < m := by omega
   have e1 : IntKind.i64.wrap ((i : Int) + 1) = ((i + 1 : Nat) : Int) := by rw [IntWalk.i64_in _ (by omega)]; rfl
   have hT : moMany (cF t key false) 3 back ⟨ch, [], g⟩ (b.take (i + 1)) = (o ++ [(b.getD i 0) ^^^ (cF t key false c').getD 0 0], ⟨c'.drop 1 ++ [moIn back (b.getD i 0) ((b.getD i 0) ^^^ (cF t key false c').getD 0 0)], [], [] ++ [moIn back (b.getD i 0) ((b.getD i 0) ^^^ (cF t key false c').getD 0 0)]⟩) := by
    rw [take_succ_getD (by omega), drop_getD0, moMany_snoc, h2, moOne3]
   have HB := c_shifted h (mode := 3) (back := back) (r := r) (u := u) (vr := vr) (p := b.getD i 0) rfl h4
   refine ⟨_, rfl, ?_⟩
   refine ⟨by omega, by omega, _, by rw [Int.toNat_natCast]; exact bv_getD (k := b) (i := i) (by omega), ?_⟩
   refine ⟨[.k 0], _, _, _, _, HB, rfl, rfl, ?_⟩
   refine ⟨Nat.le_refl _, by omega, by rw [bv_len, h3]; omega, ?_⟩
   exact ⟨(i + 1, _, _), ⟨lt, ⟨_, hT⟩, by rw [List.length_append, h3]; rfl, by rw [List.length_append, List.length_drop, h4]; show s - 1 + 1 = s; omega⟩, (by show m - (i + 1) < m - i; omega), [.k 0, .k 1, .d 59 0], ⟨rfl, rfl, rfl, rfl, congrArg (vi .i64) e1, trivial⟩, ⟨_, rfl, rfl⟩, ⟨_, rfl, rfl⟩, ⟨_, rfl, congrArg B.sc (snoc_blk h3 rfl)⟩, trivial⟩
  ·obtain rfl : i = m := by omega
   rw [List.take_of_length_le (by omega)] at h2
   rw [h2]
   exact ⟨_, [.mx [.q rs 0, i64 3, bool back, .z s (bv c'), .z r vr, i64 u, .u], .dead], ⟨_, rfl, [.k 0, .k 1], congrArg (fun x => V.t [x, i64 0]) (congrArg (V.z i) (bv_all h3)), ⟨_, rfl, rfl⟩, ⟨_, rfl, rfl⟩, trivial⟩, .ret (.refl _), .cons (.refl _) (.cons (.refl _) (.dd .nil))⟩
theorem MK.rd {E D : List UInt8 → List UInt8} {n : Nat} {mode : Int} {back : Bool} {x : MS × List UInt8 × Nat} (k : MK n mode x.1) (h : CI E D n) (hn : 0 < n) (hm : 3 ≤ mode) (p : UInt8) : MK n mode (rdOne E mode back x p).1 := k.one h hn hm p
def rsD (rs : List V) (mode : Int) (back : Bool) (m : Nat) (b : List UInt8) : Bool × Nat × (MS × List UInt8 × Nat) × List UInt8 → D
 | (false, i, x, o) => ⟨[(0, .p (.k 0) 0), (1, .z m (bv b)), (6, i64 1), (7, .o 1 (.k 2) 0 0), (8, i64 (0 : Nat))], [rdX rs mode back x 1, gnB x.1.row x.1.gone, .sc []]⟩
 | (true, i, x, o) => ⟨[(0, .p (.k 0) 0), (1, .z m (bv b)), (6, i64 1), (7, .o 1 (.k 3) 0 i), (8, i64 i)], [rdX rs mode back x 2, .dead, gnB x.1.row x.1.gone, .sc (bv o)]⟩
theorem c_rstep_byte {t key s k xs rs} (h : Ciph t key s k xs rs) {mode : Int} {back : Bool} {x0 : MS × List UInt8 × Nat} {m : Nat} {vb : List Value} {b : List UInt8} (hvb : vb = bv b) (hb : b.length = m) (hbm : m ≤ 1000000) (hm : 4 ≤ mode) (K : MK s mode x0.1) (R : RelD s mode x0) (hne : 0 < m ∨ x0.1.row = []) :
  Con C N.r12_Mode_Step [.p (.k 0) 0, .z m vb] [rdX rs mode back x0 1, gnB x0.1.row x0.1.gone] (.ret (.t [.z m (bv (moMany (cF t key false) mode back x0.1 b).1), i64 0])) [rdX rs mode back (rdMany (cF t key false) mode back x0 b) 2, .dead, gnB (rdMany (cF t key false) mode back x0 b).1.row (rdMany (cF t key false) mode back x0 b).1.gone] := by
 subst hvb
 have hs := h.s_le
 have hci := h.ci
 suffices H : ∀ x1 : MS × List UInt8 × Nat, x1 = x0 → Con C N.r12_Mode_Step [.p (.k 0) 0, .z m (bv b)] [rdX rs mode back x0 1, gnB x0.1.row x0.1.gone] (.ret (.t [.z m (bv (moMany (cF t key false) mode back x1.1 b).1), i64 0])) [rdX rs mode back (rdMany (cF t key false) mode back x1 b) 2, .dead, gnB (rdMany (cF t key false) mode back x1 b).1.row (rdMany (cF t key false) mode back x1 b).1.gone] from H x0 rfl
 intro x1 hx1
 rw [← hx1] at K R hne
 have G := c_rgrain1 h (back := back) (x := x0) (show 3 ≤ mode by omega)
 refine fd.r12_Mode_Step.w ?_
 obtain ⟨⟨ch0, row0, g0⟩, R0, u0⟩ := x0
 rcases row0 with _ | ⟨a0, r0⟩
 all_goals
  refine ⟨[.k 0, .k 1], _, _, _, _, G, rfl, rfl, ?_⟩
  refine ⟨by decide, ?_⟩
  refine spl_ne (fun h => absurd (Int.tmod_one _) h) (fun _ => ?_)
  refine ⟨Bool × Nat × (MS × List UInt8 × Nat) × List UInt8, rsD rs mode back m b, fun x => x.2.1 ≤ m ∧ (moMany (cF t key false) mode back x1.1 (b.take x.2.1)).1 = x.2.2.2 ∧ rdMany (cF t key false) mode back x1 (b.take x.2.1) = x.2.2.1 ∧ MK s mode x.2.2.1.1 ∧ RelD s mode x.2.2.1 ∧ (x.1 = false → x.2.1 = 0), fun x => m - x.2.1, ⟨[(7, 1, .sc [])], (false, 0, _, []), ⟨Nat.zero_le _, rfl, hx1, hx1 ▸ K, hx1 ▸ R, fun _ => rfl⟩, [.k 0, .k 1, .d 900000 0], ⟨rfl, rfl, rfl, rfl, rfl, trivial⟩, ⟨_, rfl, rfl⟩, ⟨_, rfl, rfl⟩, ⟨_, rfl, rfl⟩, trivial⟩, fun x hx => ?_⟩
  obtain ⟨f, i, ⟨⟨ch, row, g⟩, R', u⟩, o⟩ := x
  obtain ⟨h1, h2, h3, h4, h5, h6⟩ := hx
  dsimp only at h1 h2 h3 h4 h5 h6
  have lo : o.length = i := by
   rw [← h2, moMany_len, List.length_take]; omega
  have hms : (moMany (cF t key false) mode back x1.1 (b.take i)).2 = ⟨ch, row, g⟩ := by rw [← rdMany_fst, h3]
  cases f
  ·obtain rfl := h6 rfl
   obtain rfl := List.eq_nil_of_length_eq_zero lo
   refine spl_d (fun h0 => ?_) (fun h0 => ?_)
   ·have HB := c_rbyte h (back := back) (p := b.getD 0 0) hm h4 h5
    have hN := MK.rd (mode := mode) (x := (⟨ch, row, g⟩, R', u)) h4 hci (by omega) (by omega) (back := back) (b.getD 0 0)
    have hD := rdOne_ok (mode := mode) (x := (⟨ch, row, g⟩, R', u)) hci (by omega) (by omega) h4.ok h5 (back := back) (b.getD 0 0)
    have hT : (moMany (cF t key false) mode back x1.1 (b.take (0 + 1))).1 = [(moOne (cF t key false) mode back ⟨ch, row, g⟩ (b.getD 0 0)).1] := by
     rw [take_succ_getD (by omega), drop_getD0, moMany_snoc, h2, hms]; rfl
    have hU : rdMany (cF t key false) mode back x1 (b.take (0 + 1)) = rdOne (cF t key false) mode back (⟨ch, row, g⟩, R', u) (b.getD 0 0) := by
     rw [take_succ_getD (by omega), drop_getD0, rdMany_snoc, h3]
    generalize (moOne (cF t key false) mode back ⟨ch, row, g⟩ (b.getD 0 0)).1 = o' at *
    generalize rdOne (cF t key false) mode back (⟨ch, row, g⟩, R', u) (b.getD 0 0) = x at *
    obtain ⟨⟨ch', row', g'⟩, R2, u2⟩ := x
    dsimp only at HB hN hD hU
    have k1 : ¬ mode = 1 := by omega
    have k2 : ¬ mode = 2 := by omega
    have k3 : ¬ mode = 3 := by omega
    cases row <;> cases row' <;> (
     refine ⟨_, rfl, ?_⟩
     refine spl_eq (fun h => absurd h k1) (fun _ => ?_)
     refine spl_eq (fun h => absurd h k2) (fun _ => ?_)
     refine spl_eq (fun h => absurd h k3) (fun _ => ?_)
     refine ⟨by omega, by omega, _, bv_getD (k := b) (i := 0) (by omega), ?_⟩
     refine ⟨[.k 0, .k 1], _, _, _, _, HB, rfl, rfl, ?_⟩
     refine ⟨Nat.le_refl _, by omega, by decide, ?_⟩
     exact ⟨(true, 0 + 1, (⟨ch', _, g'⟩, R2, u2), [o']), ⟨by show 0 + 1 ≤ m; omega, hT, hU, hN, hD, fun h => by cases h⟩, (by show m - (0 + 1) < m - 0; omega), [.k 0, .k 1, .d 33 2, .d 35 0], ⟨rfl, rfl, rfl, rfl, rfl, trivial⟩, ⟨_, rfl, rfl⟩, ⟨_, rfl, rfl⟩, ⟨_, rfl, rfl⟩, ⟨_, rfl, congrArg B.sc (one_blk rfl)⟩, trivial⟩)
   ·have hm0 : m = 0 := by omega
    rw [List.take_of_length_le (by omega)] at h2 h3
    rw [h2, h3]
    subst hm0
    have hr0 : row = [] := by
     have hb0 := List.eq_nil_of_length_eq_zero hb
     rw [hb0] at h3
     have h3 : x1 = _ := h3
     rw [h3] at hne
     exact hne.resolve_left (by omega)
    subst hr0
    exact ⟨.ret (.t [.z 0 [], i64 0]), [rdX rs mode back (⟨ch, [], g⟩, R', u) 2, .dead], ⟨_, rfl, [.k 0, .k 1], rfl, ⟨_, rfl, rfl⟩, ⟨_, rfl, rfl⟩, trivial⟩, .ret (.refl _), .cons (.refl _) (.cons (.refl _) (.dd .nil))⟩
  ·refine spl_d (fun h0 => ?_) (fun h0 => ?_)
   ·have lt : i < m := by omega
    have e1 : IntKind.i64.wrap ((i : Int) + 1) = ((i + 1 : Nat) : Int) := by rw [IntWalk.i64_in _ (by omega)]; rfl
    have HB := c_rbyte h (back := back) (p := b.getD i 0) hm h4 h5
    have hN := MK.rd (mode := mode) (x := (⟨ch, row, g⟩, R', u)) h4 hci (by omega) (by omega) (back := back) (b.getD i 0)
    have hD := rdOne_ok (mode := mode) (x := (⟨ch, row, g⟩, R', u)) hci (by omega) (by omega) h4.ok h5 (back := back) (b.getD i 0)
    have hT : (moMany (cF t key false) mode back x1.1 (b.take (i + 1))).1 = o ++ [(moOne (cF t key false) mode back ⟨ch, row, g⟩ (b.getD i 0)).1] := by
     rw [take_succ_getD (by omega), drop_getD0, moMany_snoc, h2, hms]
    have hU : rdMany (cF t key false) mode back x1 (b.take (i + 1)) = rdOne (cF t key false) mode back (⟨ch, row, g⟩, R', u) (b.getD i 0) := by
     rw [take_succ_getD (by omega), drop_getD0, rdMany_snoc, h3]
    generalize (moOne (cF t key false) mode back ⟨ch, row, g⟩ (b.getD i 0)).1 = o' at *
    generalize rdOne (cF t key false) mode back (⟨ch, row, g⟩, R', u) (b.getD i 0) = x at *
    obtain ⟨⟨ch', row', g'⟩, R2, u2⟩ := x
    dsimp only at HB hN hD hU
    have k1 : ¬ mode = 1 := by omega
    have k2 : ¬ mode = 2 := by omega
    have k3 : ¬ mode = 3 := by omega
    cases row <;> cases row' <;> (
     refine ⟨_, rfl, ?_⟩
     refine spl_eq (fun h => absurd h k1) (fun _ => ?_)
     refine spl_eq (fun h => absurd h k2) (fun _ => ?_)
     refine spl_eq (fun h => absurd h k3) (fun _ => ?_)
     refine ⟨by omega, by omega, _, by rw [Int.toNat_natCast]; exact bv_getD (k := b) (i := i) (by omega), ?_⟩
     refine ⟨[.k 0, .k 2], _, _, _, _, HB, rfl, rfl, ?_⟩
     refine ⟨Nat.le_refl _, by omega, by rw [bv_len, lo]; omega, ?_⟩
     exact ⟨(true, i + 1, (⟨ch', _, g'⟩, R2, u2), o ++ [o']), ⟨by show i + 1 ≤ m; omega, hT, hU, hN, hD, fun h => by cases h⟩, (by show m - (i + 1) < m - i; omega), [.k 0, .k 1, .d 33 2, .d 35 0], ⟨rfl, rfl, rfl, rfl, congrArg (vi .i64) e1, trivial⟩, ⟨_, rfl, rfl⟩, ⟨_, rfl, rfl⟩, ⟨_, rfl, rfl⟩, ⟨_, rfl, congrArg B.sc (snoc_blk lo rfl)⟩, trivial⟩)
   ·obtain rfl : i = m := by omega
    rw [List.take_of_length_le (by omega)] at h2 h3
    rw [h2, h3]
    rcases row with _ | ⟨a, r⟩
    ·exact ⟨_, [rdX rs mode back (⟨ch, [], g⟩, R', u) 2, .dead, gnB [] g], ⟨_, rfl, [.k 0, .k 1, .k 2], congrArg (fun x => V.t [x, i64 0]) (congrArg (V.z i) (bv_all lo)), ⟨_, rfl, rfl⟩, ⟨_, rfl, rfl⟩, ⟨_, rfl, rfl⟩, trivial⟩, .ret (.refl _), .cons (.refl _) (.cons (.refl _) (.cons (.refl _) .nil))⟩
    ·exact ⟨_, [rdX rs mode back (⟨ch, a :: r, g⟩, R', u) 2, .dead, gnB (a :: r) g], ⟨_, rfl, [.k 0, .k 1, .k 2], congrArg (fun x => V.t [x, i64 0]) (congrArg (V.z i) (bv_all lo)), ⟨_, rfl, rfl⟩, ⟨_, rfl, rfl⟩, ⟨_, rfl, rfl⟩, trivial⟩, .ret (.refl _), .cons (.refl _) (.cons (.refl _) (.cons (.refl _) .nil))⟩
theorem rdMany3 (E back) : ∀ (l : List UInt8) (x : MS × List UInt8 × Nat), rdMany E 3 back x l = ((moMany E 3 back x.1 l).2, x.2)
 | [], _ => rfl
 | p :: l, x => rdMany3 E back l (rdOne E 3 back x p)
theorem c_rstep {t key s k xs rs} (h : Ciph t key s k xs rs) {mode : Int} {back : Bool} {x : MS × List UInt8 × Nat} {m : Nat} {vb : List Value} {b : List UInt8} (hvb : vb = bv b) (hb : b.length = m) (hbm : m ≤ 1000000) (K : MK s mode x.1) (R : RelD s mode x) (hg : m % moGrain s mode = 0) (hne : 0 < m ∨ x.1.row = []) :
  Con C N.r12_Mode_Step [.p (.k 0) 0, .z m vb] [rdX rs mode back x 1, gnB x.1.row x.1.gone] (.ret (.t [.z m (bv (moStep (cF t key false) (cF t key true) s mode back x.1 b).1), i64 0])) [rdX rs mode back (rdStep (cF t key false) (cF t key true) s mode back x b) 2, .dead, gnB (rdStep (cF t key false) (cF t key true) s mode back x b).1.row (rdStep (cF t key false) (cF t key true) s mode back x b).1.gone] := by
 have hs := h.s_le
 have hci := h.ci
 by_cases hm : mode = 1 ∨ mode = 2
 ·have hr := K.ok.blk hm
  have hc := K.ok.ch
  have hx := R.blk hm
  obtain ⟨⟨ch, row, g⟩, x2⟩ := x
  dsimp only at hr hc hx
  subst hr; subst hx
  have e : moStep (cF t key false) (cF t key true) s mode back ⟨ch, [], g⟩ b = ((moBlks (cF t key false) (cF t key true) mode back s b ch (m / s)).1, ⟨(moBlks (cF t key false) (cF t key true) mode back s b ch (m / s)).2, [], g⟩) := by
   unfold moStep
   rw [if_pos hm, hb]
  have e2 : rdStep (cF t key false) (cF t key true) s mode back (⟨ch, [], g⟩, [], 0) b = (⟨(moBlks (cF t key false) (cF t key true) mode back s b ch (m / s)).2, [], g⟩, [], 0) := by
   unfold rdStep
   rw [if_pos hm]
   show ((moStep (cF t key false) (cF t key true) s mode back ⟨ch, [], g⟩ b).2, _) = _
   rw [e]
  have hg' : m % s = 0 := by unfold moGrain at hg; rwa [if_pos hm] at hg
  have hdm := Nat.div_add_mod m s
  have hl := moBlks_chlen (back := back) hci (b := b) (c := ch) (i := m / s) (mode := mode) (by omega) (by omega)
  have HB := c_rstep_blk h (back := back) hvb hb hbm (ch := ch) (c := ch.length) (mode := mode) (by omega) rfl hg'
  rw [e2, rd_row rfl rfl rfl, rd_row hl rfl rfl]
  show Con C N.r12_Mode_Step _ _ (.ret (.t [.z m (bv (moStep (cF t key false) (cF t key true) s mode back ⟨ch, [], g⟩ b).1), i64 0])) _
  rw [e]
  exact HB
 ·have hm3 : 3 ≤ mode := by have := K.ok.m; omega
  have e : moStep (cF t key false) (cF t key true) s mode back x.1 b = moMany (cF t key false) mode back x.1 b := by
   unfold moStep
   rw [if_neg hm]
  have e2 : rdStep (cF t key false) (cF t key true) s mode back x b = rdMany (cF t key false) mode back x b := by
   unfold rdStep
   rw [if_neg hm]
  rw [e, e2]
  by_cases h3 : mode = 3
  ·subst h3
   have R2 := rdMany_ok hci (by omega) hm3 (back := back) b K.ok R
   have K2 := K.many hci (by omega) hm3 (back := back) b
   have hc := K.ok.ch.resolve_left (by decide)
   have hr := R.three rfl
   have hc2 := K2.ok.ch.resolve_left (by decide)
   have hr2 := R2.three rfl
   rw [rdMany3] at hr2 ⊢
   obtain ⟨⟨ch, row, g⟩, R', u⟩ := x
   dsimp only at hr hc hc2 hr2
   subst hr
   have HB := c_rstep_three h (back := back) (r := R'.length) (u := u) (vr := bv R') (g := g) hvb hb hbm hc
   show Con C N.r12_Mode_Step _ [rdX rs 3 back (⟨ch, [], g⟩, R', u) 1, .dead] (.ret (.t [.z m (bv (moMany (cF t key false) 3 back ⟨ch, [], g⟩ b).1), i64 0])) [rdX rs 3 back ((moMany (cF t key false) 3 back ⟨ch, [], g⟩ b).2, R', u) 2, .dead, gnB (moMany (cF t key false) 3 back ⟨ch, [], g⟩ b).2.row (moMany (cF t key false) 3 back ⟨ch, [], g⟩ b).2.gone]
   generalize moMany (cF t key false) 3 back ⟨ch, [], g⟩ b = y at *
   obtain ⟨o, ⟨ch2, row2, g2⟩⟩ := y
   dsimp only at hr2 hc2 HB ⊢
   subst hr2
   rw [rd_row hc rfl rfl, rd_row hc2 rfl rfl]
   exact HB
  ·exact c_rstep_byte h hvb hb hbm (by omega) K R hne
theorem c_rstep_nil {t key s k xs rs} (h : Ciph t key s k xs rs) {mode : Int} {back : Bool} {x : MS × List UInt8 × Nat} {vb : List Value} (hm : 3 ≤ mode) :
  Con C N.r12_Mode_Step [.p (.k 0) 0, .z 0 vb] [rdX rs mode back x 1, gnB x.1.row x.1.gone] (.ret (.t [.z 0 [], i64 0])) [rdX rs mode back x 1, gnB x.1.row x.1.gone] := by
 have G := c_rgrain1 h (back := back) (x := x) hm
 refine fd.r12_Mode_Step.w ?_
 obtain ⟨⟨ch, row, g⟩, R, u⟩ := x
 rcases row with _ | ⟨a, r⟩
 ·refine ⟨[.k 0, .k 1], _, _, _, _, G, rfl, rfl, ?_⟩
  refine ⟨by decide, ?_⟩
  refine ⟨Unit, fun _ => ⟨[(0, .p (.k 0) 0), (1, .z 0 vb), (6, i64 1), (7, nilv), (8, i64 0)], [rdX rs mode back (⟨ch, [], g⟩, R, u) 1, .dead]⟩, fun _ => True, fun _ => 0, ⟨[], (), trivial, [.k 0, .k 1], ⟨rfl, rfl, rfl, rfl, rfl, trivial⟩, ⟨_, rfl, rfl⟩, ⟨_, rfl, rfl⟩, trivial⟩, fun _ _ => ?_⟩
  exact ⟨.ret (.t [nilv, i64 0]), [rdX rs mode back (⟨ch, [], g⟩, R, u) 1, .dead], ⟨_, rfl, [.k 0, .k 1], rfl, ⟨_, rfl, rfl⟩, ⟨_, rfl, rfl⟩, trivial⟩, .ret (.t (.cons .nl (.cons (.refl _) .nil))), .cons (.refl _) (.cons (.refl _) .nil)⟩
 ·refine ⟨[.k 0, .k 1], _, _, _, _, G, rfl, rfl, ?_⟩
  refine ⟨by decide, ?_⟩
  refine ⟨Unit, fun _ => ⟨[(0, .p (.k 0) 0), (1, .z 0 vb), (6, i64 1), (7, nilv), (8, i64 0)], [rdX rs mode back (⟨ch, a :: r, g⟩, R, u) 1, .sc (bv g)]⟩, fun _ => True, fun _ => 0, ⟨[], (), trivial, [.k 0, .k 1], ⟨rfl, rfl, rfl, rfl, rfl, trivial⟩, ⟨_, rfl, rfl⟩, ⟨_, rfl, rfl⟩, trivial⟩, fun _ _ => ?_⟩
  exact ⟨.ret (.t [nilv, i64 0]), [rdX rs mode back (⟨ch, a :: r, g⟩, R, u) 1, .sc (bv g)], ⟨_, rfl, [.k 0, .k 1], rfl, ⟨_, rfl, rfl⟩, ⟨_, rfl, rfl⟩, trivial⟩, .ret (.t (.cons .nl (.cons (.refl _) .nil))), .cons (.refl _) (.cons (.refl _) .nil)⟩
theorem c_rstep_bad {t key s k xs rs} (h : Ciph t key s k xs rs) {mode : Int} {back : Bool} {x : MS × List UInt8 × Nat} {m : Nat} {vb : List Value} (K : MK s mode x.1) (R : RelD s mode x) (hg : m % moGrain s mode ≠ 0) :
  Con C N.r12_Mode_Step [.p (.k 0) 0, .z m vb] [rdX rs mode back x 1, gnB x.1.row x.1.gone] (.ret (.t [nilv, i64 7])) [rdX rs mode back x 1, gnB x.1.row x.1.gone] := by
 have hs := h.s_le
 have hm : mode = 1 ∨ mode = 2 := by
  refine Classical.byContradiction fun hm => hg ?_
  unfold moGrain; rw [if_neg hm, Nat.mod_one]
 have hr := K.ok.blk hm
 have hx := R.blk hm
 obtain ⟨⟨ch, row, g⟩, x2⟩ := x
 dsimp only at hr hx
 subst hr; subst hx
 have hg' : m % s ≠ 0 := by unfold moGrain at hg; rwa [if_pos hm] at hg
 have G := c_rgrainS h (back := back) (c := ch.length) (vc := bv ch) hm
 refine con.r12_Mode_Step ?_
 refine ⟨[.k 0], _, _, _, _, G, rfl, rfl, ?_⟩
 refine ⟨by omega, ?_⟩
 refine spl_ne (fun _ => ?_) (fun h => absurd h ?_)
 ·exact ⟨_, rfl, [.k 0, .k 1], rfl, ⟨_, rfl, rfl⟩, ⟨_, rfl, rfl⟩, trivial⟩
 ·have : ((m : Int).tmod (s : Int)) = ((m % s : Nat) : Int) := by rw [Int.tmod_eq_emod_of_nonneg (by omega)]; rfl
  rw [this]; omega
theorem c_grainA {t key s k xs rs} (h : Ciph t key s k xs rs) {mode : Int} {back : Bool} {st : MS} (K : MK s mode st) :
  Con C N.modes_Mode_Grain [.p (.k 0) 0] [moX (cipV t k xs) mode back st 1, gnB st.row st.gone] (.ret (i64 (moGrain s mode))) [moX (cipV t k xs) mode back st 1, gnB st.row st.gone] := by
 by_cases hm : mode = 1 ∨ mode = 2
 ·have hr := K.ok.blk hm
  obtain ⟨ch, row, g⟩ := st
  dsimp only at hr
  subst hr
  have e : moGrain s mode = s := by unfold moGrain; rw [if_pos hm]
  rw [e]
  refine con.modes_Mode_Grain ?_
  refine ⟨_, rfl, ?_⟩
  rcases hm with rfl | rfl
  all_goals
   refine ⟨_, rfl, ?_⟩
   refine ⟨[], _, _, _, _, h.size, rfl, rfl, ?_⟩
   exact ⟨_, rfl, [.k 0, .k 1], rfl, ⟨_, rfl, rfl⟩, ⟨_, rfl, rfl⟩, trivial⟩
 ·have e : moGrain s mode = 1 := by unfold moGrain; rw [if_neg hm]
  rw [e]
  exact c_grain1 h (by have := K.ok.m; omega)
theorem c_rgrainA {t key s k xs rs} (h : Ciph t key s k xs rs) {mode : Int} {back : Bool} {x : MS × List UInt8 × Nat} (K : MK s mode x.1) (R : RelD s mode x) :
  Con C N.r12_Mode_Grain [.p (.k 0) 0] [rdX rs mode back x 1, gnB x.1.row x.1.gone] (.ret (i64 (moGrain s mode))) [rdX rs mode back x 1, gnB x.1.row x.1.gone] := by
 by_cases hm : mode = 1 ∨ mode = 2
 ·have hr := K.ok.blk hm
  obtain ⟨⟨ch, row, g⟩, R, u⟩ := x
  dsimp only at hr
  subst hr
  have e : moGrain s mode = s := by unfold moGrain; rw [if_pos hm]
  rw [e]
  refine con.r12_Mode_Grain ?_
  refine ⟨_, rfl, ?_⟩
  refine spl_d (fun h1 => ?_) (fun h1 => absurd h1 (by omega))
  refine ⟨_, rfl, ?_⟩
  refine ⟨[], _, _, _, _, h.rsize, rfl, rfl, ?_⟩
  exact ⟨_, rfl, [.k 0, .k 1], rfl, ⟨_, rfl, rfl⟩, ⟨_, rfl, rfl⟩, trivial⟩
 ·have e : moGrain s mode = 1 := by unfold moGrain; rw [if_neg hm]
  rw [e]
  exact c_rgrain1 h (by have := K.ok.m; omega)
theorem c_w12 {a n : Int} (hn : 0 < n) (hn2 : n ≤ 4611686018427387904) (ha : -9223372036854775808 ≤ a ∧ a ≤ 9223372036854775807) : Con C N.law12_within [i64 a, i64 n] [] (.ret (i64 (a % n))) [] := by
 refine con.law12_within ?_
 have h1 : -n < a.tmod n := Int.lt_tmod_of_pos a hn
 have h2 : a.tmod n < n := Int.tmod_lt_of_pos a hn
 refine ⟨by omega, ?_⟩
 refine spl_d (fun h => ?_) (fun h => ?_)
 ·refine ⟨_, rfl, [], congrArg (vi .i64) ?_, trivial⟩
  rw [IntWalk.i64_in _ (by omega)]
  rw [← rest_eq a n hn, Int.tmod_eq_emod_of_nonneg (a := a.tmod n + n) (by omega), Int.emod_eq_of_lt (by omega) (by omega)]
 ·refine ⟨_, rfl, [], congrArg (vi .i64) ?_, trivial⟩
  rw [← rest_eq a n hn, Int.tmod_eq_emod_of_nonneg (a := a.tmod n + n) (by omega), Int.add_emod_right, Int.emod_eq_of_lt (by omega) (by omega)]
def ivL (mode : Int) (s : Nat) (b : List UInt8) : List UInt8 := if mode = 1 then [] else bytesN s b
def ivN (mode : Int) (s : Nat) : Nat := if mode = 1 then 0 else s
theorem ivL_len (mode s b) : (ivL mode s b).length = ivN mode s := by
 unfold ivL ivN
 split
 ·rfl
 ·exact bytesN_len _ _
theorem c_iv {mode : Int} {s m : Nat} {vb : List Value} {b : List UInt8} (hv : vb = bv b) (hb : b.length = m) (hs : s ≤ 1000) : Con C N.law12_IV [i64 mode, i64 s, .z m vb] [] (.ret (.z (ivN mode s) (bv (ivL mode s b)))) [] := by
 unfold ivL ivN
 by_cases h1 : mode = 1
 ·rw [if_pos h1, if_pos h1]
  refine fd.law12_IV.w ?_
  refine spl_eq (fun _ => ?_) (fun h => absurd h1 h)
  exact ⟨.ret nilv, [], ⟨_, rfl, [], rfl, trivial⟩, .ret .nl, .nil⟩
 ·rw [if_neg h1, if_neg h1]
  refine con.law12_IV ?_
  refine spl_eq (fun h => absurd h h1) (fun _ => ?_)
  refine ⟨[], _, _, _, _, c_bytes hv hb (by omega), rfl, rfl, ?_⟩
  exact ⟨_, rfl, [], congrArg (V.z s) (bv_all (bytesN_len _ _)), trivial⟩
theorem c_law12_known : Con C N.law12_known [] [] (.ret (bool true)) [] := by
 obtain ⟨k, xs, rs, h⟩ := ciph_xtea (key := List.replicate 16 0) rfl
 obtain ⟨z, hz⟩ : ∃ z : List UInt8, z = List.replicate 8 0 := ⟨_, rfl⟩
 have lz : z.length = 8 := by rw [hz]; rfl
 have K : MK 8 5 ⟨z, [], []⟩ := MK.new (by decide) (.inr lz)
 refine con.law12_known ?_
 refine ⟨by decide, by decide, by decide, ?_⟩
 refine ⟨[], _, _, _, _, h.new' (n := 16) rfl rfl, rfl, rfl, ?_⟩
 refine ⟨by decide, by decide, by decide, ?_⟩
 refine ⟨[], _, _, _, _, c_new_m h (mode := 5) (back := false) (i := 1) (iv := z) (vi := bv z) rfl lz (by decide) rfl, ?_, rfl, ?_⟩
 ·rw [hz]; rfl
 have G := c_grainA h (back := false) K
 have S1 := c_step_byte h (back := false) (st := ⟨z, [], []⟩) (m := 0) (vb := []) (b := []) rfl rfl (by decide) (by decide) K (.inr rfl)
 have S2 := c_step_byte h (back := false) (st := ⟨z, [], []⟩) (m := 3) (vb := bv [1, 2, 3]) (b := [1, 2, 3]) rfl rfl (by decide) (by decide) K (.inr rfl)
 refine ⟨[.d 19 0, .d 19 1], _, _, _, _, G, rfl, rfl, ?_⟩
 refine ⟨[.d 19 0, .d 19 1], _, _, _, _, Con.args S1 (ys0 := [.p (.k 0) 0, nilv]) (.cons (.refl _) (.cons .nl .nil)), rfl, rfl, ?_⟩
 refine ⟨[.d 19 0, .d 19 2], _, _, _, _, S2, rfl, rfl, ?_⟩
 exact ⟨_, rfl, [], rfl, trivial⟩
def kk (x : Int) : Int := if IntKind.i64.wrap (x.tdiv 40) % 3 = 0 then 8 * (x % 5) else x % 40
def kN (x : Int) (m : Nat) : Nat := min (kk x).toNat m
theorem kk_rng (x : Int) : 0 ≤ kk x ∧ kk x ≤ 39 := by unfold kk; split <;> omega
theorem kN_le (x m) : kN x m ≤ m := Nat.min_le_right _ _
theorem kN_eq {x : Int} {m : Nat} {a : Int} (h : a = kk x) : (if (m : Int) < a then (m : Int) else a) = ((kN x m : Nat) : Int) := by
 subst h
 have := kk_rng x
 unfold kN
 split <;> omega
def cutF (ns : List Int) (b : List UInt8) : Nat → List (List UInt8) × List UInt8
 | 0 => ([], b)
 | i + 1 => ((cutF ns b i).1 ++ [(cutF ns b i).2.take (kN (ns.getD i 0) (cutF ns b i).2.length)], (cutF ns b i).2.drop (kN (ns.getD i 0) (cutF ns b i).2.length))
def cutL (ns : List Int) (b : List UInt8) : List (List UInt8) := (cutF ns b (min ns.length 40)).1 ++ [(cutF ns b (min ns.length 40)).2]
def zc (p : List UInt8) : V := .z p.length (bv p)
theorem cutF_len (ns b) : ∀ i, (cutF ns b i).1.length = i
 | 0 => rfl
 | i + 1 => by
  show ((cutF ns b i).1 ++ [_]).length = i + 1
  rw [List.length_append, cutF_len ns b i]; rfl
theorem cutF_le (ns b) : ∀ i, (cutF ns b i).2.length ≤ b.length ∧ ∀ p ∈ (cutF ns b i).1, p.length ≤ b.length
 | 0 => ⟨Nat.le_refl _, fun p hp => by cases hp⟩
 | i + 1 => by
  obtain ⟨h1, h2⟩ := cutF_le ns b i
  refine ⟨?_, fun p hp => ?_⟩
  ·show ((cutF ns b i).2.drop _).length ≤ _
   rw [List.length_drop]; omega
  ·have hp : p ∈ (cutF ns b i).1 ++ [(cutF ns b i).2.take (kN (ns.getD i 0) (cutF ns b i).2.length)] := hp
   rcases List.mem_append.1 hp with hp | hp
   ·exact h2 p hp
   ·rw [List.mem_singleton.1 hp, List.length_take]; omega
theorem cutL_le (ns b) : ∀ p ∈ cutL ns b, p.length ≤ b.length := by
 intro p hp
 rcases List.mem_append.1 hp with hp | hp
 ·exact (cutF_le ns b _).2 p hp
 ·rw [List.mem_singleton.1 hp]; exact (cutF_le ns b _).1
theorem cutL_len (ns b) : (cutL ns b).length = min ns.length 40 + 1 := by
 unfold cutL
 rw [List.length_append, cutF_len]; rfl
theorem zc_lend (H ids) (l : List (List UInt8)) : (l.map zc).map (lend H ids 6) = l.map zc := by
 rw [List.map_map]
 exact List.map_congr_left fun _ _ => rfl
theorem zc_snap (H ids) (l : List (List UInt8)) (n) : (l.map zc).map (snap H ids (n + 1)) = l.map zc := by
 rw [List.map_map]
 exact List.map_congr_left fun _ _ => rfl
theorem c_cut {ln : Nat} {vn : List Value} {b : List UInt8} {ns : List Int} (hvn : vn = iv ns) (hn : ns.length = ln) (hlb : b.length ≤ 1000) (hns : ∀ x ∈ ns, -9223372036854775808 ≤ x ∧ x ≤ 9223372036854775807) :
  Con C N.law12_Cut [.z b.length (bv b), .z ln vn] [] (.ret (.zz 1 (cutL ns b).length ((cutL ns b).map zc))) [] := by
 subst hvn
 obtain ⟨N0, hN0⟩ : ∃ N0, N0 = min ns.length 40 := ⟨_, rfl⟩
 refine con.law12_Cut ?_
 refine loopNn (fun i => ⟨[(0, .z (cutF ns b i).2.length (bv (cutF ns b i).2)), (1, .z ln (iv ns)), (5, .o 1 (.k 0) 0 i), (6, i64 i)], [.mx ((cutF ns b i).1.map zc)]⟩) N0 [(5, 1, .mx [])] ⟨[.d 900000 0], ⟨rfl, rfl, rfl, rfl, trivial⟩, ⟨_, rfl, rfl⟩, trivial⟩ fun i hi => ?_
 have hl := (cutF_le ns b i).1
 have hl1 := cutF_len ns b i
 refine spl_d (fun h1 => ?_) (fun h1 => ?_)
 ·refine spl_d (fun h2 => ?_) (fun h2 => ?_)
  ·obtain ⟨x, hx⟩ : ∃ x, ns.getD i 0 = x := ⟨_, rfl⟩
   have hlt : i < ns.length := by omega
   have hxe : ns[i] = x := by rw [← hx, List.getD_eq_getElem?_getD, List.getElem?_eq_getElem hlt]; rfl
   have hxb : -9223372036854775808 ≤ x ∧ x ≤ 9223372036854775807 := hns x (hxe ▸ List.getElem_mem hlt)
   have hv : (iv ns)[((i : Nat) : Int).toNat]? = some (Value.int .i64 x) := by rw [Int.toNat_natCast, iv_get hlt, hxe]
   have hstep : cutF ns b (i + 1) = ((cutF ns b i).1 ++ [(cutF ns b i).2.take (kN x (cutF ns b i).2.length)], (cutF ns b i).2.drop (kN x (cutF ns b i).2.length)) := by rw [← hx]; rfl
   have hk := kN_le x (cutF ns b i).2.length
   have hst : sub ((cutF ns b i).1.map zc) 0 (i * 1) ++ [V.z (kN x (cutF ns b i).2.length) (sub (bv (cutF ns b i).2) 0 (kN x (cutF ns b i).2.length))] = ((cutF ns b i).1 ++ [(cutF ns b i).2.take (kN x (cutF ns b i).2.length)]).map zc := by
    have e9 : ((cutF ns b i).2.take (kN x (cutF ns b i).2.length)).length = kN x (cutF ns b i).2.length := by rw [List.length_take, Nat.min_eq_left hk]
    rw [Nat.mul_one, sub_all (l := (cutF ns b i).1.map zc) (by rw [List.length_map, hl1]), List.map_append, bv_sub]
    show _ = (cutF ns b i).1.map zc ++ [V.z ((cutF ns b i).2.take (kN x (cutF ns b i).2.length)).length (bv ((cutF ns b i).2.take (kN x (cutF ns b i).2.length)))]
    rw [e9]; rfl
   have hb5 := Int.emod_nonneg x (show (5 : Int) ≠ 0 by decide)
   have hb6 := Int.emod_lt_of_pos x (show (0 : Int) < 5 by decide)
   have w8 : IntKind.i64.wrap (8 * (x % 5)) = 8 * (x % 5) := IntWalk.i64_in _ (by omega)
   have hwr : -9223372036854775808 ≤ IntKind.i64.wrap (x.tdiv 40) ∧ IntKind.i64.wrap (x.tdiv 40) ≤ 9223372036854775807 := by rw [IntKind.wrap_i64]; omega
   refine ⟨(by omega), (by omega), _, hv, ?_⟩
   refine ⟨[], _, _, _, _, c_w12 (a := x) (n := 40) (by omega) (by omega) hxb, rfl, rfl, ?_⟩
   refine ⟨(by omega), (by omega), _, hv, ?_⟩
   refine ⟨by decide, ?_⟩
   refine ⟨[], _, _, _, _, c_w12 (a := IntKind.i64.wrap (x.tdiv 40)) (n := 3) (by omega) (by omega) hwr, rfl, rfl, ?_⟩
   refine spl_eq (fun h3 => ?_) (fun h3 => ?_)
   ·refine ⟨(by omega), (by omega), _, hv, ?_⟩
    refine ⟨[], _, _, _, _, c_w12 (a := x) (n := 5) (by omega) (by omega) hxb, rfl, rfl, ?_⟩
    have e3 : (if (((cutF ns b i).2.length : Nat) : Int) < IntKind.i64.wrap (8 * (x % 5)) then (((cutF ns b i).2.length : Nat) : Int) else IntKind.i64.wrap (8 * (x % 5))) = ((kN x (cutF ns b i).2.length : Nat) : Int) := kN_eq (by rw [w8]; unfold kk; rw [if_pos h3])
    refine ⟨(by first | omega | (rw [e3]; omega) | (rw [e3, Int.toNat_natCast]; omega)), (by first | omega | (rw [e3]; omega) | (rw [e3, Int.toNat_natCast]; omega)), (by first | omega | (rw [e3]; omega) | (rw [e3, Int.toNat_natCast]; omega)), (by first | omega | (rw [e3]; omega) | (rw [e3, Int.toNat_natCast]; omega)), ?_⟩
    refine ⟨Nat.le_refl _, by omega, by rw [List.length_map, hl1]; omega, ?_⟩
    refine ⟨(by first | omega | (rw [e3]; omega) | (rw [e3, Int.toNat_natCast]; omega)), (by first | omega | (rw [e3]; omega) | (rw [e3, Int.toNat_natCast]; omega)), (by first | omega | (rw [e3]; omega) | (rw [e3, Int.toNat_natCast]; omega)), (by first | omega | (rw [e3]; omega) | (rw [e3, Int.toNat_natCast]; omega)), ?_⟩
    refine ⟨i + 1, by omega, by omega, [.d 45 0], ⟨?_, rfl, rfl, congrArg (vi .i64) (by simp (disch := omega) only [IntWalk.i64_in]; omega), trivial⟩, ⟨_, rfl, ?_⟩, trivial⟩
    ·rw [e3, hstep]
     show V.z ((cutF ns b i).2.length - kN x (cutF ns b i).2.length) (sub (bv (cutF ns b i).2) (kN x (cutF ns b i).2.length) ((cutF ns b i).2.length - kN x (cutF ns b i).2.length)) = V.z ((cutF ns b i).2.drop (kN x (cutF ns b i).2.length)).length (bv ((cutF ns b i).2.drop (kN x (cutF ns b i).2.length)))
     rw [bv_dropN rfl hk, List.length_drop]
    ·rw [e3, hstep]
     show B.mx (List.map (lend _ _ 6) (sub ((cutF ns b i).1.map zc) 0 (i * 1) ++ [V.z (kN x (cutF ns b i).2.length) (sub (bv (cutF ns b i).2) 0 (kN x (cutF ns b i).2.length))])) = B.mx (((cutF ns b i).1 ++ [(cutF ns b i).2.take (kN x (cutF ns b i).2.length)]).map zc)
     rw [hst]
     exact congrArg B.mx (zc_lend _ _ _)
   ·have e3 : (if (((cutF ns b i).2.length : Nat) : Int) < x % 40 then (((cutF ns b i).2.length : Nat) : Int) else x % 40) = ((kN x (cutF ns b i).2.length : Nat) : Int) := kN_eq (by unfold kk; rw [if_neg h3])
    refine ⟨(by first | omega | (rw [e3]; omega) | (rw [e3, Int.toNat_natCast]; omega)), (by first | omega | (rw [e3]; omega) | (rw [e3, Int.toNat_natCast]; omega)), (by first | omega | (rw [e3]; omega) | (rw [e3, Int.toNat_natCast]; omega)), (by first | omega | (rw [e3]; omega) | (rw [e3, Int.toNat_natCast]; omega)), ?_⟩
    refine ⟨Nat.le_refl _, by omega, by rw [List.length_map, hl1]; omega, ?_⟩
    refine ⟨(by first | omega | (rw [e3]; omega) | (rw [e3, Int.toNat_natCast]; omega)), (by first | omega | (rw [e3]; omega) | (rw [e3, Int.toNat_natCast]; omega)), (by first | omega | (rw [e3]; omega) | (rw [e3, Int.toNat_natCast]; omega)), (by first | omega | (rw [e3]; omega) | (rw [e3, Int.toNat_natCast]; omega)), ?_⟩
    refine ⟨i + 1, by omega, by omega, [.d 45 0], ⟨?_, rfl, rfl, congrArg (vi .i64) (by simp (disch := omega) only [IntWalk.i64_in]; omega), trivial⟩, ⟨_, rfl, ?_⟩, trivial⟩
    ·rw [e3, hstep]
     show V.z ((cutF ns b i).2.length - kN x (cutF ns b i).2.length) (sub (bv (cutF ns b i).2) (kN x (cutF ns b i).2.length) ((cutF ns b i).2.length - kN x (cutF ns b i).2.length)) = V.z ((cutF ns b i).2.drop (kN x (cutF ns b i).2.length)).length (bv ((cutF ns b i).2.drop (kN x (cutF ns b i).2.length)))
     rw [bv_dropN rfl hk, List.length_drop]
    ·rw [e3, hstep]
     show B.mx (List.map (lend _ _ 6) (sub ((cutF ns b i).1.map zc) 0 (i * 1) ++ [V.z (kN x (cutF ns b i).2.length) (sub (bv (cutF ns b i).2) 0 (kN x (cutF ns b i).2.length))])) = B.mx (((cutF ns b i).1 ++ [(cutF ns b i).2.take (kN x (cutF ns b i).2.length)]).map zc)
     rw [hst]
     exact congrArg B.mx (zc_lend _ _ _)
  ·have hi0 : i = min ns.length 40 := by omega
   have lc := cutL_len ns b
   refine ⟨Nat.le_refl _, by omega, by rw [List.length_map, hl1]; omega, ?_⟩
   refine ⟨_, rfl, [], ?_, trivial⟩
   rw [lc, ← hi0]
   have hcl : (cutF ns b i).1.map zc ++ [zc (cutF ns b i).2] = (cutL ns b).map zc := by unfold cutL; rw [← hi0, List.map_append]; rfl
   refine (congrArg (V.zz 1 (i + 1)) ((congrArg (List.map _) ?_).trans (zc_snap _ _ (cutL ns b) 3)))
   rw [← hcl, Nat.mul_one, Nat.mul_one]
   rw [sub_all (l := (cutF ns b i).1.map zc) (by rw [List.length_map, hl1])]
   exact sub_all (n := (i + 1) * 1) (by rw [List.length_append, List.length_map, hl1, Nat.mul_one]; rfl)
 ·have hi0 : i = min ns.length 40 := by omega
  have lc := cutL_len ns b
  refine ⟨Nat.le_refl _, by omega, by rw [List.length_map, hl1]; omega, ?_⟩
  refine ⟨_, rfl, [], ?_, trivial⟩
  rw [lc, ← hi0]
  have hcl : (cutF ns b i).1.map zc ++ [zc (cutF ns b i).2] = (cutL ns b).map zc := by unfold cutL; rw [← hi0, List.map_append]; rfl
  refine (congrArg (V.zz 1 (i + 1)) ((congrArg (List.map _) ?_).trans (zc_snap _ _ (cutL ns b) 3)))
  rw [← hcl, Nat.mul_one, Nat.mul_one]
  rw [sub_all (l := (cutF ns b i).1.map zc) (by rw [List.length_map, hl1])]
  exact sub_all (n := (i + 1) * 1) (by rw [List.length_append, List.length_map, hl1, Nat.mul_one]; rfl)
theorem i64_quo {a g : Nat} (ha : a ≤ 1000000) : IntKind.i64.wrap ((a : Int).tdiv (g : Int)) = ((a / g : Nat) : Int) := by
 have : ((a : Int).tdiv (g : Int)) = ((a / g : Nat) : Int) := by rw [Int.tdiv_eq_ediv_of_nonneg (by omega)]; rfl
 have h2 := Nat.div_le_self a g
 rw [this]
 generalize a / g = z at *
 rw [IntWalk.i64_in _ (by omega)]
theorem i64_quomul {a g : Nat} (ha : a ≤ 1000000) : IntKind.i64.wrap (IntKind.i64.wrap ((a : Int).tdiv (g : Int)) * (g : Int)) = ((a / g * g : Nat) : Int) := by
 have h2 := Nat.div_mul_le_self a g
 have : ((a / g : Nat) : Int) * (g : Int) = ((a / g * g : Nat) : Int) := by rw [Int.natCast_mul]
 rw [i64_quo ha, this]
 generalize a / g * g = z at *
 rw [IntWalk.i64_in _ (by omega)]
theorem step_out {t key s k xs rs} (h : Ciph t key s k xs rs) {mode : Int} (back : Bool) {x : MS × List UInt8 × Nat} {m : Nat} {b : List UInt8} (hb : b.length = m) (hbm : m ≤ 1000000) (K : MK s mode x.1) (R : RelD s mode x) :
  (m % moGrain s mode ≠ 0 ∧ Con C N.modes_Mode_Step [.p (.k 0) 0, .z m (bv b)] [moX (cipV t k xs) mode back x.1 1, gnB x.1.row x.1.gone] (.ret (.t [nilv, i64 7])) [moX (cipV t k xs) mode back x.1 1, gnB x.1.row x.1.gone] ∧
   Con C N.r12_Mode_Step [.p (.k 0) 0, .z m (bv b)] [rdX rs mode back x 1, gnB x.1.row x.1.gone] (.ret (.t [nilv, i64 7])) [rdX rs mode back x 1, gnB x.1.row x.1.gone]) ∨
  (m = 0 ∧ ∃ o : List UInt8, o.length = m ∧ Con C N.modes_Mode_Step [.p (.k 0) 0, .z m (bv b)] [moX (cipV t k xs) mode back x.1 1, gnB x.1.row x.1.gone] (.ret (.t [.z m (bv o), i64 0])) [moX (cipV t k xs) mode back x.1 1, gnB x.1.row x.1.gone] ∧
   Con C N.r12_Mode_Step [.p (.k 0) 0, .z m (bv b)] [rdX rs mode back x 1, gnB x.1.row x.1.gone] (.ret (.t [.z m (bv o), i64 0])) [rdX rs mode back x 1, gnB x.1.row x.1.gone]) ∨
  (∃ (o : List UInt8) (y : MS × List UInt8 × Nat), o.length = m ∧ MK s mode y.1 ∧ RelD s mode y ∧ Con C N.modes_Mode_Step [.p (.k 0) 0, .z m (bv b)] [moX (cipV t k xs) mode back x.1 1, gnB x.1.row x.1.gone] (.ret (.t [.z m (bv o), i64 0])) [moX (cipV t k xs) mode back y.1 2, .dead, gnB y.1.row y.1.gone] ∧
   Con C N.r12_Mode_Step [.p (.k 0) 0, .z m (bv b)] [rdX rs mode back x 1, gnB x.1.row x.1.gone] (.ret (.t [.z m (bv o), i64 0])) [rdX rs mode back y 2, .dead, gnB y.1.row y.1.gone]) := by
 have hs := h.s_le
 have hci := h.ci
 by_cases hg : m % moGrain s mode = 0
 ·by_cases hne : 0 < m ∨ x.1.row = []
  ·refine .inr (.inr ⟨(moStep (cF t key false) (cF t key true) s mode back x.1 b).1, rdStep (cF t key false) (cF t key true) s mode back x b, ?_, ?_, ?_, ?_, ?_⟩)
   ·rw [moStep_len hci K.ok (by rw [hb]; exact hg), hb]
   ·rw [rdStep_fst]; exact K.step hci (by omega)
   ·exact rdStep_ok hci (by omega) K.ok R
   ·rw [rdStep_fst]; exact c_step h rfl hb hbm K hg hne
   ·exact c_rstep h rfl hb hbm K R hg hne
  ·have hm : ¬ (mode = 1 ∨ mode = 2) := fun hm => hne (.inr (K.ok.blk hm))
   have hm3 : 3 ≤ mode := by have := K.ok.m; omega
   obtain rfl : m = 0 := by omega
   exact .inr (.inl ⟨rfl, [], rfl, c_step_nil h hm3, c_rstep_nil h hm3⟩)
 ·exact .inl ⟨hg, c_step_bad h K hg, c_rstep_bad h K R hg⟩
def msS (cv : V) (rs : List V) (mode : Int) (back : Bool) (L : List (List UInt8)) : Nat × MS × List UInt8 × Nat → D
 | (j, x) => ⟨[(20, .p (.k 0) 0), (22, .p (.k 2) 0), (24, .zz 1 L.length (L.map zc)), (25, i64 j)], [moX cv mode back x.1 1, gnB x.1.row x.1.gone, rdX rs mode back x 3, gnB x.1.row x.1.gone]⟩
theorem c_msteps {tag n mode : Int} {back : Bool} (h0 : -9223372036854775808 ≤ tag ∧ tag ≤ 9223372036854775807) (h1 : -9223372036854775808 ≤ n ∧ n ≤ 9223372036854775807) {lk li lb ln : Nat} {k iv' b : List UInt8} (hk : k.length = lk) (hm : -9223372036854775808 ≤ mode ∧ mode ≤ 9223372036854775807) (hi : iv'.length = li) (hb : b.length = lb) {ns : List Int} (hn : ns.length = ln) (hns : ∀ n ∈ ns, -9223372036854775808 ≤ n ∧ n ≤ 9223372036854775807) :
  Con C N.law12_ModesSteps [i64 tag, i64 n, .z lk (bv k), i64 mode, bool back, .z li (bv iv'), .z lb (bv b), .z ln (iv ns)] [] (.ret (bool true)) [] := by
 subst hb
 obtain ⟨s, q, xs, rs, h⟩ := ciph_law tag n k
 have hs := h.s_le
 obtain ⟨g, hg, hg1⟩ := emod_nat mode (n := 6) (by omega)
 obtain ⟨M, hM⟩ : ∃ M : Int, M = 1 + (g : Int) := ⟨_, rfl⟩
 have e1 : IntKind.i64.wrap (1 + mode % 6) = M := by rw [IntWalk.i64_in _ (by omega)]; omega
 have lI := ivL_len M s iv'
 obtain ⟨r0, hr0⟩ : ∃ r0 : List UInt8, r0 = [] := ⟨_, rfl⟩
 have hgp : 0 < moGrain s M := by unfold moGrain; split <;> omega
 have hg16 : moGrain s M ≤ 16 := by unfold moGrain; split <;> omega
 refine con.law12_ModesSteps ?_
 refine ⟨[], _, _, _, _, c_law12_known, rfl, rfl, ?_⟩
 refine spl_d (fun h200 => ?_) (fun h200 => ?_)
 ·exact ⟨_, rfl, [], rfl, trivial⟩
 refine ⟨[], _, _, _, _, c_law12_both h0 h1 hk h, rfl, rfl, ?_⟩
 refine ⟨[], _, _, _, _, c_w12 (a := mode) (n := 6) (by omega) (by omega) hm, rfl, rfl, ?_⟩
 refine ⟨[], _, _, _, _, h.size, rfl, rfl, ?_⟩
 refine ⟨[], _, _, _, _, c_iv (mode := M) (s := s) rfl hi (by omega), ?_, rfl, ?_⟩
 ·rw [e1]; rfl
 refine ⟨[], _, _, _, _, c_new_m h (mode := M) (back := back) (i := 1) (iv := ivL M s iv') rfl lI (by omega) rfl, ?_, rfl, ?_⟩
 ·rw [e1]; rfl
 refine ⟨[], _, _, _, _, h.size, rfl, rfl, ?_⟩
 refine ⟨[], _, _, _, _, c_iv (mode := M) (s := s) rfl hi (by omega), ?_, rfl, ?_⟩
 ·rw [e1]; rfl
 refine ⟨[], _, _, _, _, c_r12_new h (mode := M) (back := back) (i := 1) (iv := ivL M s iv') rfl lI (by omega) rfl, ?_, rfl, ?_⟩
 ·rw [e1]; rfl
 generalize ivL M s iv' = V0 at *
 have K0 : MK s M ⟨V0, [], []⟩ := MK.new (by omega) (by
  unfold ivN at lI
  by_cases h1 : M = 1
  ·exact .inl h1
  ·rw [if_neg h1] at lI; exact .inr lI)
 have R0 : RelD s M (⟨V0, [], []⟩, [], 0) := RelD.new
 refine ⟨[.d 57 0, .d 57 1], _, _, _, _, c_grainA h (back := back) K0, rfl, rfl, ?_⟩
 refine ⟨[.d 69 0, .d 69 1], _, _, _, _, c_rgrainA h (back := back) K0 R0, rfl, rfl, ?_⟩
 refine spl_ne (fun h => absurd rfl h) (fun _ => ?_)
 refine ⟨[], _, _, _, _, c_cut rfl hn (by omega) hns, rfl, rfl, ?_⟩
 have hLe := cutL_le ns b
 have hLl := cutL_len ns b
 generalize cutL ns b = L at *
 refine ⟨Nat × MS × List UInt8 × Nat, msS (cipV (tagOf tag) q xs) rs M back L, fun x => x.1 ≤ L.length ∧ MK s M x.2.1 ∧ RelD s M x.2, fun x => L.length - x.1, ?_, fun x hx => ?_⟩
 ·exact ⟨[], (0, ⟨V0, [], []⟩, [], 0), ⟨Nat.zero_le _, K0, R0⟩, [.d 57 0, .d 57 1, .d 69 0, .d 69 1], ⟨rfl, rfl, rfl, rfl, trivial⟩, ⟨_, rfl, rfl⟩, ⟨_, rfl, rfl⟩, ⟨_, rfl, rfl⟩, ⟨_, rfl, rfl⟩, trivial⟩
 ·obtain ⟨j, ⟨⟨ch, row, gg⟩, R', u⟩⟩ := x
  obtain ⟨hj, K, R⟩ := hx
  dsimp only at hj K R
  refine spl_d (fun hlt => ?_) (fun hge => ?_)
  ·have hlt : j < L.length := by omega
   have hLp := hLe _ (List.getElem_mem hlt)
   have hv : (L.map zc)[((j : Nat) : Int).toNat * 1]? = some (.z (L[j]).length (bv L[j])) := by
    rw [Int.toNat_natCast, Nat.mul_one, List.getElem?_map, List.getElem?_eq_getElem hlt]; rfl
   generalize L[j] = p at *
   have ej : IntKind.i64.wrap ((j : Int) + 1) = ((j + 1 : Nat) : Int) := by rw [IntWalk.i64_in _ (by omega)]; rfl
   refine ⟨by omega, by omega, _, hv, ?_⟩
   refine ⟨by decide, ?_⟩
   refine spl_ne (fun h3 => ?_) (fun h3 => ?_)
   ·obtain ⟨w, hw⟩ : ∃ w, w = p.length / moGrain s M * moGrain s M := ⟨_, rfl⟩
    have hwl : w ≤ p.length := by rw [hw]; exact Nat.div_mul_le_self _ _
    have hwg : w % moGrain s M = 0 := by rw [hw]; exact Nat.mul_mod_left _ _
    have e4 : IntKind.i64.wrap (IntKind.i64.wrap ((p.length : Int).tdiv (moGrain s M : Int)) * (moGrain s M : Int)) = ((w : Nat) : Int) := by rw [hw]; exact i64_quomul (by omega)
    have lp : (sub p 0 w).length = w := by rw [sub_length]; omega
    have hvp : sub (bv p) 0 w = bv (sub p 0 w) := bv_sub _ _ _
    have RG := c_rgrainA h (back := back) K R
    have OUT := step_out h back (b := sub p 0 w) lp (by omega) K R
    generalize sub p 0 w = p' at *
    rcases row with _ | ⟨a0, r1⟩
    all_goals
     refine ⟨[.k 2, .k 3], _, _, _, _, RG, rfl, rfl, ?_⟩
     refine ⟨by omega, ?_⟩
     refine ⟨[.k 2, .k 3], _, _, _, _, RG, rfl, rfl, ?_⟩
     refine ⟨by rw [e4]; omega, by rw [e4]; omega, by rw [e4]; omega, by rw [e4]; omega, ?_⟩
     refine ⟨by rw [e4, Int.toNat_natCast, sub_length, bv_len]; omega, by rw [e4]; omega, by decide, ?_⟩
     rcases OUT with ⟨hb0, A, B⟩ | ⟨hb0, o, lo, A, B⟩ | ⟨o, ⟨⟨ch2, row2, g2⟩, R2, u2⟩, lo, K2, RR2, A, B⟩
     ·exact absurd hwg hb0
     ·refine ⟨[.k 0, .k 1], _, _, _, _, A, ?_, rfl, ?_⟩
      ·rw [e4]
       show [V.p (.k 0) 0, V.z (0 + w) (sub ([] ++ sub (bv p) 0 w) 0 (0 + w))] = _
       rw [Nat.zero_add, List.nil_append, hvp, bv_all lp]
      refine ⟨[.k 2, .k 3], _, _, _, _, B, ?_, rfl, ?_⟩
      ·rw [e4]
       show [V.p (.k 0) 0, V.z w (sub (bv p) 0 w)] = _
       rw [hvp]
      refine ⟨by rw [bv_len]; exact lo, _, rfl, ?_⟩
      refine ⟨by rw [bv_len]; exact lo, _, rfl, ?_⟩
      refine spl_f (by rw [str_beq]; simp) ?_
      exact ⟨(j + 1, (⟨ch, _, gg⟩, R', u)), ⟨by show j + 1 ≤ L.length; omega, K, R⟩, (by show L.length - (j + 1) < L.length - j; omega), [.k 0, .k 1, .k 2, .k 3], ⟨rfl, rfl, rfl, congrArg (vi .i64) ej, trivial⟩, ⟨_, rfl, rfl⟩, ⟨_, rfl, rfl⟩, ⟨_, rfl, rfl⟩, ⟨_, rfl, rfl⟩, trivial⟩
     ·rcases row2 with _ | ⟨a2, r2⟩
      all_goals
       refine ⟨[.k 0, .k 1], _, _, _, _, A, ?_, rfl, ?_⟩
       ·rw [e4]
        show [V.p (.k 0) 0, V.z (0 + w) (sub ([] ++ sub (bv p) 0 w) 0 (0 + w))] = _
        rw [Nat.zero_add, List.nil_append, hvp, bv_all lp]
       refine ⟨[.k 2, .k 3], _, _, _, _, B, ?_, rfl, ?_⟩
       ·rw [e4]
        show [V.p (.k 0) 0, V.z w (sub (bv p) 0 w)] = _
        rw [hvp]
       refine ⟨by rw [bv_len]; exact lo, _, rfl, ?_⟩
       refine ⟨by rw [bv_len]; exact lo, _, rfl, ?_⟩
       refine spl_f (by rw [str_beq]; simp) ?_
       exact ⟨(j + 1, (⟨ch2, _, g2⟩, R2, u2)), ⟨by show j + 1 ≤ L.length; omega, K2, RR2⟩, (by show L.length - (j + 1) < L.length - j; omega), [.k 0, .d 121 2, .k 2, .d 127 2], ⟨rfl, rfl, rfl, congrArg (vi .i64) ej, trivial⟩, ⟨_, rfl, rfl⟩, ⟨_, rfl, rfl⟩, ⟨_, rfl, rfl⟩, ⟨_, rfl, rfl⟩, trivial⟩
   ·have OUT := step_out h back (b := p) rfl (by omega) K R
    rcases row with _ | ⟨a0, r1⟩
    all_goals
     refine ⟨by rw [bv_len], by omega, by decide, ?_⟩
     rcases OUT with ⟨hb0, A, B⟩ | ⟨hb0, o, lo, A, B⟩ | ⟨o, ⟨⟨ch2, row2, g2⟩, R2, u2⟩, lo, K2, RR2, A, B⟩
     ·refine ⟨[.k 0, .k 1], _, _, _, _, A, ?_, rfl, ?_⟩
      ·show [V.p (.k 0) 0, V.z (0 + p.length) (sub ([] ++ bv p) 0 (0 + p.length))] = _
       rw [Nat.zero_add, List.nil_append, bv_all rfl]
      refine ⟨[.k 2, .k 3], _, _, _, _, B, rfl, rfl, ?_⟩
      refine ⟨r0, by rw [hr0]; rfl, ?_⟩
      refine ⟨r0, by rw [hr0]; rfl, ?_⟩
      refine spl_f (by rw [str_beq]; simp) ?_
      exact ⟨(j + 1, (⟨ch, _, gg⟩, R', u)), ⟨by show j + 1 ≤ L.length; omega, K, R⟩, (by show L.length - (j + 1) < L.length - j; omega), [.k 0, .k 1, .k 2, .k 3], ⟨rfl, rfl, rfl, congrArg (vi .i64) ej, trivial⟩, ⟨_, rfl, rfl⟩, ⟨_, rfl, rfl⟩, ⟨_, rfl, rfl⟩, ⟨_, rfl, rfl⟩, trivial⟩
     ·refine ⟨[.k 0, .k 1], _, _, _, _, A, ?_, rfl, ?_⟩
      ·show [V.p (.k 0) 0, V.z (0 + p.length) (sub ([] ++ bv p) 0 (0 + p.length))] = _
       rw [Nat.zero_add, List.nil_append, bv_all rfl]
      refine ⟨[.k 2, .k 3], _, _, _, _, B, rfl, rfl, ?_⟩
      refine ⟨by rw [bv_len]; exact lo, _, rfl, ?_⟩
      refine ⟨by rw [bv_len]; exact lo, _, rfl, ?_⟩
      refine spl_f (by rw [str_beq]; simp) ?_
      exact ⟨(j + 1, (⟨ch, _, gg⟩, R', u)), ⟨by show j + 1 ≤ L.length; omega, K, R⟩, (by show L.length - (j + 1) < L.length - j; omega), [.k 0, .k 1, .k 2, .k 3], ⟨rfl, rfl, rfl, congrArg (vi .i64) ej, trivial⟩, ⟨_, rfl, rfl⟩, ⟨_, rfl, rfl⟩, ⟨_, rfl, rfl⟩, ⟨_, rfl, rfl⟩, trivial⟩
     ·rcases row2 with _ | ⟨a2, r2⟩
      all_goals
       refine ⟨[.k 0, .k 1], _, _, _, _, A, ?_, rfl, ?_⟩
       ·show [V.p (.k 0) 0, V.z (0 + p.length) (sub ([] ++ bv p) 0 (0 + p.length))] = _
        rw [Nat.zero_add, List.nil_append, bv_all rfl]
       refine ⟨[.k 2, .k 3], _, _, _, _, B, rfl, rfl, ?_⟩
       refine ⟨by rw [bv_len]; exact lo, _, rfl, ?_⟩
       refine ⟨by rw [bv_len]; exact lo, _, rfl, ?_⟩
       refine spl_f (by rw [str_beq]; simp) ?_
       exact ⟨(j + 1, (⟨ch2, _, g2⟩, R2, u2)), ⟨by show j + 1 ≤ L.length; omega, K2, RR2⟩, (by show L.length - (j + 1) < L.length - j; omega), [.k 0, .d 121 2, .k 2, .d 127 2], ⟨rfl, rfl, rfl, congrArg (vi .i64) ej, trivial⟩, ⟨_, rfl, rfl⟩, ⟨_, rfl, rfl⟩, ⟨_, rfl, rfl⟩, ⟨_, rfl, rfl⟩, trivial⟩
  ·exact ⟨_, rfl, [], rfl, trivial⟩
theorem new_out {t key s k xs rs} (h : Ciph t key s k xs rs) (mode : Int) (back : Bool) {l : Nat} {vi : List Value} {iv : List UInt8} (hvi : vi = bv iv) (hl : iv.length = l) :
  (1 ≤ mode ∧ mode ≤ 6 ∧ l = ivN mode s ∧ Con C N.modes_New [cipV t k xs, i64 mode, bool back, .z l vi] [] (.ret (.t [.p (.k 0) 0, i64 0])) [moX (cipV t k xs) mode back ⟨iv, [], []⟩ 1, .dead, .dead] ∧ Con C N.r12_New [.q rs 0, i64 mode, bool back, .z l vi] [] (.ret (.t [.p (.k 0) 0, i64 0])) [rdX rs mode back (⟨iv, [], []⟩, [], 0) 1, .dead, .dead]) ∨
  (Con C N.modes_New [cipV t k xs, i64 mode, bool back, .z l vi] [] (.ret (.t [nilp, i64 5])) [] ∧ Con C N.r12_New [.q rs 0, i64 mode, bool back, .z l vi] [] (.ret (.t [nilp, i64 5])) []) ∨
  (Con C N.modes_New [cipV t k xs, i64 mode, bool back, .z l vi] [] (.ret (.t [nilp, i64 3])) [] ∧ Con C N.r12_New [.q rs 0, i64 mode, bool back, .z l vi] [] (.ret (.t [nilp, i64 3])) []) := by
 by_cases hm : 1 ≤ mode ∧ mode ≤ 6
 ·by_cases hi : l = ivN mode s
  ·exact .inl ⟨hm.1, hm.2, hi, c_new_m h hvi hl hm hi, c_r12_new h hvi hl hm hi⟩
  ·exact .inr (.inl ⟨c_new_iv h hm hi, c_r12_new_iv h hm hi⟩)
 ·exact .inr (.inr ⟨c_new_no h hm, c_r12_new_no h hm⟩)
theorem c_merrs {tag n mode : Int} (h0 : -9223372036854775808 ≤ tag ∧ tag ≤ 9223372036854775807) (h1 : -9223372036854775808 ≤ n ∧ n ≤ 9223372036854775807) {lk li lr lb : Nat} {k iv' raw b : List UInt8} (hk : k.length = lk) (hm : -9223372036854775808 ≤ mode ∧ mode ≤ 9223372036854775807) (hi : iv'.length = li) (hr : raw.length = lr) (hb : b.length = lb) :
  Con C N.law12_ModesErrs [i64 tag, i64 n, .z lk (bv k), i64 mode, .z li (bv iv'), .z lr (bv raw), .z lb (bv b)] [] (.ret (bool true)) [] := by
 obtain ⟨s, q, xs, rs, h⟩ := ciph_law tag n k
 have hs := h.s_le
 have hci := h.ci
 have lq := bytesN_len s iv'
 obtain ⟨r0, hr0⟩ : ∃ r0 : List UInt8, r0 = [] := ⟨_, rfl⟩
 refine con.law12_ModesErrs ?_
 refine ⟨[], _, _, _, _, c_law12_known, rfl, rfl, ?_⟩
 refine spl_d (fun h60 => ?_) (fun h60 => ?_)
 ·exact ⟨_, rfl, [], rfl, trivial⟩
 refine spl_d (fun h61 => ?_) (fun h61 => ?_)
 ·exact ⟨_, rfl, [], rfl, trivial⟩
 refine ⟨[], _, _, _, _, c_law12_both h0 h1 hk h, rfl, rfl, ?_⟩
 refine ⟨[], _, _, _, _, c_w12 (a := mode) (n := 12) (by omega) (by omega) hm, rfl, rfl, ?_⟩
 refine loopN (fun j => ⟨[(4, .z li (bv iv')), (5, .z lr (bv raw)), (6, .z lb (bv b)), (15, cipV (tagOf tag) q xs), (16, .q rs 0), (17, .z 6 (iv [mode, IntKind.i64.wrap (mode % 12 - 1), 0, 7, 1, 2])), (18, i64 j)], []⟩) 6 ⟨[], ⟨rfl, rfl, rfl, rfl, rfl, rfl, rfl, trivial⟩, trivial⟩ fun j hj => ?_
 refine spl_d (fun h9 => ?_) (fun h9 => ?_)
 ·obtain ⟨md, hmd⟩ : ∃ md : Int, ([mode, IntKind.i64.wrap (mode % 12 - 1), 0, 7, 1, 2] : List Int)[j]? = some md := ⟨_, List.getElem?_eq_getElem (by simp only [List.length_cons, List.length_nil]; omega)⟩
  have hv : (iv [mode, IntKind.i64.wrap (mode % 12 - 1), 0, 7, 1, 2])[((j : Nat) : Int).toNat]? = some (Value.int .i64 md) := by
   rw [Int.toNat_natCast]
   unfold iv
   rw [List.getElem?_map, hmd]; rfl
  generalize ([mode, IntKind.i64.wrap (mode % 12 - 1), 0, 7, 1, 2] : List Int) = L at *
  rcases new_out h md false (vi := bv raw) rfl hr with ⟨_, _, _, A, B⟩ | ⟨A, B⟩ | ⟨A, B⟩
  all_goals
   refine ⟨(by omega), (by omega), _, hv, ?_⟩
   refine ⟨[], _, _, _, _, A, rfl, rfl, ?_⟩
   refine ⟨(by omega), (by omega), _, hv, ?_⟩
   refine ⟨[], _, _, _, _, B, rfl, rfl, ?_⟩
   exact ⟨j + 1, (by omega), (by omega), [], ⟨rfl, rfl, rfl, rfl, rfl, rfl, congrArg (vi .i64) (by simp (disch := omega) only [IntWalk.i64_in]; omega), trivial⟩, trivial⟩
 ·refine ⟨[], _, _, _, _, h.size, rfl, rfl, ?_⟩
  refine ⟨[], _, _, _, _, c_bytes (n := s) rfl hi (by omega), rfl, rfl, ?_⟩
  refine ⟨[], _, _, _, _, c_new_m h (mode := 2) (back := false) (i := 1) (iv := bytesN s iv') (bv_all lq) lq (by decide) rfl, rfl, rfl, ?_⟩
  refine ⟨[], _, _, _, _, c_bytes (n := s) rfl hi (by omega), rfl, rfl, ?_⟩
  refine ⟨[], _, _, _, _, c_r12_new h (mode := 2) (back := false) (i := 1) (iv := bytesN s iv') (bv_all lq) lq (by decide) rfl, rfl, rfl, ?_⟩
  generalize bytesN s iv' = V0 at *
  have K0 : MK s 2 ⟨V0, [], []⟩ := MK.new (by decide) (.inr lq)
  have R0 : RelD s 2 (⟨V0, [], []⟩, [], 0) := RelD.new
  have hg2 : moGrain s 2 = s := rfl
  have lz : (List.replicate s (0 : UInt8)).length = s := List.length_replicate
  rcases step_out h false (x := (⟨V0, [], []⟩, [], 0)) (b := b) hb (by omega) K0 R0 with ⟨hb0, A, B⟩ | ⟨hb0, o, lo, A, B⟩ | ⟨o, ⟨⟨ch2, row2, g2⟩, R2, u2⟩, lo, K2, RR2, A, B⟩
  ·rcases step_out h false (x := (⟨V0, [], []⟩, [], 0)) (b := List.replicate s 0) lz (by omega) K0 R0 with ⟨hc0, _, _⟩ | ⟨hc0, _⟩ | ⟨o2, ⟨⟨ch3, row3, g3⟩, R3, u3⟩, lo2, K3, RR3, A2, B2⟩
   ·exact absurd (by rw [hg2, Nat.mod_self]) hc0
   ·omega
   ·obtain rfl : row3 = [] := K3.ok.blk (.inr rfl)
    refine ⟨[.d 103 0, .d 103 1], _, _, _, _, A, rfl, rfl, ?_⟩
    refine ⟨[.d 111 0, .d 111 1], _, _, _, _, B, rfl, rfl, ?_⟩
    refine ⟨by omega, by omega, by omega, ?_⟩
    refine ⟨[.d 103 0, .d 103 1], _, _, _, _, A2, ?_, rfl, ?_⟩
    ·show [V.p (.k 0) 0, V.z s (sub (List.replicate ((s : Int).toNat) (Value.int .u8 0)) 0 s)] = _
     rw [Int.toNat_natCast, bv_rep, bv_all lz]
    refine ⟨by omega, by omega, by omega, ?_⟩
    refine ⟨[.d 111 0, .d 111 1], _, _, _, _, B2, ?_, rfl, ?_⟩
    ·show [V.p (.k 0) 0, V.z s (sub (List.replicate ((s : Int).toNat) (Value.int .u8 0)) 0 s)] = _
     rw [Int.toNat_natCast, bv_rep, bv_all lz]
    refine ⟨r0, by rw [hr0]; rfl, ?_⟩
    refine ⟨r0, by rw [hr0]; rfl, ?_⟩
    refine spl_t (by rw [str_beq]; simp) ?_
    refine spl_eq (fun _ => ?_) (fun h => absurd rfl h)
    refine ⟨by rw [bv_len]; exact lo2, _, rfl, ?_⟩
    refine ⟨by rw [bv_len]; exact lo2, _, rfl, ?_⟩
    refine ⟨_, rfl, [], congrArg bool ?_, trivial⟩
    rw [str_beq]; simp
  ·rcases step_out h false (x := (⟨V0, [], []⟩, [], 0)) (b := List.replicate s 0) lz (by omega) K0 R0 with ⟨hc0, _, _⟩ | ⟨hc0, _⟩ | ⟨o2, ⟨⟨ch3, row3, g3⟩, R3, u3⟩, lo2, K3, RR3, A2, B2⟩
   ·exact absurd (by rw [hg2, Nat.mod_self]) hc0
   ·omega
   ·obtain rfl : row3 = [] := K3.ok.blk (.inr rfl)
    refine ⟨[.d 103 0, .d 103 1], _, _, _, _, A, rfl, rfl, ?_⟩
    refine ⟨[.d 111 0, .d 111 1], _, _, _, _, B, rfl, rfl, ?_⟩
    refine ⟨by omega, by omega, by omega, ?_⟩
    refine ⟨[.d 103 0, .d 103 1], _, _, _, _, A2, ?_, rfl, ?_⟩
    ·show [V.p (.k 0) 0, V.z s (sub (List.replicate ((s : Int).toNat) (Value.int .u8 0)) 0 s)] = _
     rw [Int.toNat_natCast, bv_rep, bv_all lz]
    refine ⟨by omega, by omega, by omega, ?_⟩
    refine ⟨[.d 111 0, .d 111 1], _, _, _, _, B2, ?_, rfl, ?_⟩
    ·show [V.p (.k 0) 0, V.z s (sub (List.replicate ((s : Int).toNat) (Value.int .u8 0)) 0 s)] = _
     rw [Int.toNat_natCast, bv_rep, bv_all lz]
    refine ⟨by rw [bv_len]; exact lo, _, rfl, ?_⟩
    refine ⟨by rw [bv_len]; exact lo, _, rfl, ?_⟩
    refine spl_t (by rw [str_beq]; simp) ?_
    refine spl_eq (fun _ => ?_) (fun h => absurd rfl h)
    refine ⟨by rw [bv_len]; exact lo2, _, rfl, ?_⟩
    refine ⟨by rw [bv_len]; exact lo2, _, rfl, ?_⟩
    refine ⟨_, rfl, [], congrArg bool ?_, trivial⟩
    rw [str_beq]; simp
  ·obtain rfl : row2 = [] := K2.ok.blk (.inr rfl)
   rcases step_out h false (x := (⟨ch2, [], g2⟩, R2, u2)) (b := List.replicate s 0) lz (by omega) K2 RR2 with ⟨hc0, _, _⟩ | ⟨hc0, _⟩ | ⟨o2, ⟨⟨ch3, row3, g3⟩, R3, u3⟩, lo2, K3, RR3, A2, B2⟩
   ·exact absurd (by rw [hg2, Nat.mod_self]) hc0
   ·omega
   ·obtain rfl : row3 = [] := K3.ok.blk (.inr rfl)
    refine ⟨[.d 103 0, .d 103 1], _, _, _, _, A, rfl, rfl, ?_⟩
    refine ⟨[.d 111 0, .d 111 1], _, _, _, _, B, rfl, rfl, ?_⟩
    refine ⟨by omega, by omega, by omega, ?_⟩
    refine ⟨[.d 103 0, .d 123 2], _, _, _, _, A2, ?_, rfl, ?_⟩
    ·show [V.p (.k 0) 0, V.z s (sub (List.replicate ((s : Int).toNat) (Value.int .u8 0)) 0 s)] = _
     rw [Int.toNat_natCast, bv_rep, bv_all lz]
    refine ⟨by omega, by omega, by omega, ?_⟩
    refine ⟨[.d 111 0, .d 129 2], _, _, _, _, B2, ?_, rfl, ?_⟩
    ·show [V.p (.k 0) 0, V.z s (sub (List.replicate ((s : Int).toNat) (Value.int .u8 0)) 0 s)] = _
     rw [Int.toNat_natCast, bv_rep, bv_all lz]
    refine ⟨by rw [bv_len]; exact lo, _, rfl, ?_⟩
    refine ⟨by rw [bv_len]; exact lo, _, rfl, ?_⟩
    refine spl_t (by rw [str_beq]; simp) ?_
    refine spl_eq (fun _ => ?_) (fun h => absurd rfl h)
    refine ⟨by rw [bv_len]; exact lo2, _, rfl, ?_⟩
    refine ⟨by rw [bv_len]; exact lo2, _, rfl, ?_⟩
    refine ⟨_, rfl, [], congrArg bool ?_, trivial⟩
    rw [str_beq]; simp
end Go.Scr
