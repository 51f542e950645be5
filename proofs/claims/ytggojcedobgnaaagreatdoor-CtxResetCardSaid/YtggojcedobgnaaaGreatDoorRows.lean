/-
  NARROWER THAN 'FOR EVERY INPUT', by the rows' own cells (each row's printed sentence says how): CtxPieces: laid · CtxCut: laid · CtxFront: laid · CtxBack: laid · CtxHeld: laid · CtxRefused: laid · CtxAgain: laid · CtxBytes: laid · CtxEmpty: laid · CtxHolds: laid · CtxErrs: laid · CtxStates: laid · CtxReset: laid.
  DERIVED. THE GIVEN ROWS OF THIS SEAT. 13 by the template 'for every input the law returns true; each argument reads behind the call as it read before'; 0 by the template 'total and deterministic' (their statements: YtggojcedobgnaaaGreatDoorTotals.lean).
  GIVEN WITH THE SEED: the statements are not yours to turn. If you find one false, say at which input.
  Laid BY PROGRAM, IN A SANDBOX (cutbox-rows.mjs): the forced cells as the released guide's own fill.sh prints them over the translation 9ba57dcbea1e6bb1… (all of the seat's roots in one cut). By AI agents, Wed Nov 11 2026. No macro, syntax, notation, axiom, sorry.
-/
import Derived.Test.YtggojcedobgnaaaGreatDoorChecked
import GoSem.Claim
import GoSem.ClaimJoined
import GoSem.ClaimMapViews
import Derived.JoinedTies
import Derived.KernelRfl
namespace Go.Proofs.YtggojcedobgnaaaGreatDoor
/- THE CELL 'sum', in the pinned program and in every row, IS THE sha256 OF THE DUMP (.gsa) THAT YtggojcedobgnaaaGreatDoorProg.lean LOADS. Nothing in Lean hashes anything: it is a label: what it is worth is what the hold of that sum in a sandbox is worth. -/
noncomputable def Tryz.pinned : Pinned := { name := "ytggojcedobgnaaagreatdoor", sum := "9ba57dcbea1e6bb1baf1ed2e6140d701b391a163629b1c673b76624ea33aab5b", checked := Tryz.checked }
namespace Rows
def none {H : Type} : Left H := { results := [], args := [] }

/- WHAT THE LISTED PACKAGE-LEVEL VARIABLES READ AS WHEN THE CALL BEGINS. Each datum BY PROGRAM (the guide's laid-datum.mjs) off the statement by which the dump's own 'gosem.cut.vars' lays the variable. In a bare row this is a premise. The card (YtggojcedobgnaaaGreatDoorCards.lean) ties it to the program's text. -/
def laid_scrim_box_ones {H : Type} : DataW H := .agg [.lit (.int .u8 1), .lit (.int .u8 2), .lit (.int .u8 4), .lit (.int .u8 8), .lit (.int .u8 16), .lit (.int .u8 32), .lit (.int .u8 64), .lit (.int .u8 128)]

/-- 'scrimlaw16.CtxPieces': WHATEVER THE INPUT: true; the input reads as it did. -/
def ctxPiecesSpec : ChangeSpec := { name := "ctxPieces", fn := fun _ => fun
  | [d1, d2, d3] => { results := [.lit (.bool true)], args := [d1, d2, d3] }
  | _ => none }
def ctxPiecesRow : OpenClaim := { program := "ytggojcedobgnaaagreatdoor", sum := "9ba57dcbea1e6bb1baf1ed2e6140d701b391a163629b1c673b76624ea33aab5b", func := "scrim/scrimlaw16.CtxPieces", spec := "ctxPieces", unfollowed := true, recurses := true, named := ["scrim/box.ones"], apart := false, laid := [("scrim/box.ones", laid_scrim_box_ones)] }
def CtxPiecesSaid : Prop := ctxPiecesRow.holds Tryz.pinned (OpenSpec.ofChange ctxPiecesSpec)

/-- ITS FALSE NEIGHBOUR: 'it returns false'. Refute it at one input. -/
def ctxPiecesWrong : ChangeSpec := { name := "ctxPieces", fn := fun _ => fun
  | [d1, d2, d3] => { results := [.lit (.bool false)], args := [d1, d2, d3] }
  | _ => none }
def CtxPiecesWrongFalsely : Prop := ctxPiecesRow.holds Tryz.pinned (OpenSpec.ofChange ctxPiecesWrong)

/-- 'scrimlaw16.CtxCut': WHATEVER THE INPUT: true; the input reads as it did. -/
def ctxCutSpec : ChangeSpec := { name := "ctxCut", fn := fun _ => fun
  | [d1, d2, d3] => { results := [.lit (.bool true)], args := [d1, d2, d3] }
  | _ => none }
def ctxCutRow : OpenClaim := { program := "ytggojcedobgnaaagreatdoor", sum := "9ba57dcbea1e6bb1baf1ed2e6140d701b391a163629b1c673b76624ea33aab5b", func := "scrim/scrimlaw16.CtxCut", spec := "ctxCut", unfollowed := true, recurses := true, named := ["scrim/box.ones"], apart := false, laid := [("scrim/box.ones", laid_scrim_box_ones)] }
def CtxCutSaid : Prop := ctxCutRow.holds Tryz.pinned (OpenSpec.ofChange ctxCutSpec)

/-- ITS FALSE NEIGHBOUR: 'it returns false'. Refute it at one input. -/
def ctxCutWrong : ChangeSpec := { name := "ctxCut", fn := fun _ => fun
  | [d1, d2, d3] => { results := [.lit (.bool false)], args := [d1, d2, d3] }
  | _ => none }
def CtxCutWrongFalsely : Prop := ctxCutRow.holds Tryz.pinned (OpenSpec.ofChange ctxCutWrong)

/-- 'scrimlaw16.CtxFront': WHATEVER THE INPUT: true; the input reads as it did. -/
def ctxFrontSpec : ChangeSpec := { name := "ctxFront", fn := fun _ => fun
  | [d1, d2, d3] => { results := [.lit (.bool true)], args := [d1, d2, d3] }
  | _ => none }
def ctxFrontRow : OpenClaim := { program := "ytggojcedobgnaaagreatdoor", sum := "9ba57dcbea1e6bb1baf1ed2e6140d701b391a163629b1c673b76624ea33aab5b", func := "scrim/scrimlaw16.CtxFront", spec := "ctxFront", unfollowed := true, recurses := true, named := ["scrim/box.ones"], apart := false, laid := [("scrim/box.ones", laid_scrim_box_ones)] }
def CtxFrontSaid : Prop := ctxFrontRow.holds Tryz.pinned (OpenSpec.ofChange ctxFrontSpec)

/-- ITS FALSE NEIGHBOUR: 'it returns false'. Refute it at one input. -/
def ctxFrontWrong : ChangeSpec := { name := "ctxFront", fn := fun _ => fun
  | [d1, d2, d3] => { results := [.lit (.bool false)], args := [d1, d2, d3] }
  | _ => none }
def CtxFrontWrongFalsely : Prop := ctxFrontRow.holds Tryz.pinned (OpenSpec.ofChange ctxFrontWrong)

/-- 'scrimlaw16.CtxBack': WHATEVER THE INPUT: true; the input reads as it did. -/
def ctxBackSpec : ChangeSpec := { name := "ctxBack", fn := fun _ => fun
  | [d1, d2, d3, d4] => { results := [.lit (.bool true)], args := [d1, d2, d3, d4] }
  | _ => none }
def ctxBackRow : OpenClaim := { program := "ytggojcedobgnaaagreatdoor", sum := "9ba57dcbea1e6bb1baf1ed2e6140d701b391a163629b1c673b76624ea33aab5b", func := "scrim/scrimlaw16.CtxBack", spec := "ctxBack", unfollowed := true, recurses := true, named := ["scrim/box.ones"], apart := false, laid := [("scrim/box.ones", laid_scrim_box_ones)] }
def CtxBackSaid : Prop := ctxBackRow.holds Tryz.pinned (OpenSpec.ofChange ctxBackSpec)

/-- ITS FALSE NEIGHBOUR: 'it returns false'. Refute it at one input. -/
def ctxBackWrong : ChangeSpec := { name := "ctxBack", fn := fun _ => fun
  | [d1, d2, d3, d4] => { results := [.lit (.bool false)], args := [d1, d2, d3, d4] }
  | _ => none }
def CtxBackWrongFalsely : Prop := ctxBackRow.holds Tryz.pinned (OpenSpec.ofChange ctxBackWrong)

/-- 'scrimlaw16.CtxHeld': WHATEVER THE INPUT: true; the input reads as it did. -/
def ctxHeldSpec : ChangeSpec := { name := "ctxHeld", fn := fun _ => fun
  | [d1, d2, d3] => { results := [.lit (.bool true)], args := [d1, d2, d3] }
  | _ => none }
def ctxHeldRow : OpenClaim := { program := "ytggojcedobgnaaagreatdoor", sum := "9ba57dcbea1e6bb1baf1ed2e6140d701b391a163629b1c673b76624ea33aab5b", func := "scrim/scrimlaw16.CtxHeld", spec := "ctxHeld", unfollowed := true, recurses := true, named := ["scrim/box.ones"], apart := false, laid := [("scrim/box.ones", laid_scrim_box_ones)] }
def CtxHeldSaid : Prop := ctxHeldRow.holds Tryz.pinned (OpenSpec.ofChange ctxHeldSpec)

/-- ITS FALSE NEIGHBOUR: 'it returns false'. Refute it at one input. -/
def ctxHeldWrong : ChangeSpec := { name := "ctxHeld", fn := fun _ => fun
  | [d1, d2, d3] => { results := [.lit (.bool false)], args := [d1, d2, d3] }
  | _ => none }
def CtxHeldWrongFalsely : Prop := ctxHeldRow.holds Tryz.pinned (OpenSpec.ofChange ctxHeldWrong)

/-- 'scrimlaw16.CtxRefused': WHATEVER THE INPUT: true; the input reads as it did. -/
def ctxRefusedSpec : ChangeSpec := { name := "ctxRefused", fn := fun _ => fun
  | [d1, d2, d3, d4, d5] => { results := [.lit (.bool true)], args := [d1, d2, d3, d4, d5] }
  | _ => none }
def ctxRefusedRow : OpenClaim := { program := "ytggojcedobgnaaagreatdoor", sum := "9ba57dcbea1e6bb1baf1ed2e6140d701b391a163629b1c673b76624ea33aab5b", func := "scrim/scrimlaw16.CtxRefused", spec := "ctxRefused", unfollowed := true, recurses := true, named := ["scrim/box.ones"], apart := false, laid := [("scrim/box.ones", laid_scrim_box_ones)] }
def CtxRefusedSaid : Prop := ctxRefusedRow.holds Tryz.pinned (OpenSpec.ofChange ctxRefusedSpec)

/-- ITS FALSE NEIGHBOUR: 'it returns false'. Refute it at one input. -/
def ctxRefusedWrong : ChangeSpec := { name := "ctxRefused", fn := fun _ => fun
  | [d1, d2, d3, d4, d5] => { results := [.lit (.bool false)], args := [d1, d2, d3, d4, d5] }
  | _ => none }
def CtxRefusedWrongFalsely : Prop := ctxRefusedRow.holds Tryz.pinned (OpenSpec.ofChange ctxRefusedWrong)

/-- 'scrimlaw16.CtxAgain': WHATEVER THE INPUT: true; the input reads as it did. -/
def ctxAgainSpec : ChangeSpec := { name := "ctxAgain", fn := fun _ => fun
  | [d1, d2, d3, d4] => { results := [.lit (.bool true)], args := [d1, d2, d3, d4] }
  | _ => none }
def ctxAgainRow : OpenClaim := { program := "ytggojcedobgnaaagreatdoor", sum := "9ba57dcbea1e6bb1baf1ed2e6140d701b391a163629b1c673b76624ea33aab5b", func := "scrim/scrimlaw16.CtxAgain", spec := "ctxAgain", unfollowed := true, recurses := true, named := ["scrim/box.ones"], apart := false, laid := [("scrim/box.ones", laid_scrim_box_ones)] }
def CtxAgainSaid : Prop := ctxAgainRow.holds Tryz.pinned (OpenSpec.ofChange ctxAgainSpec)

/-- ITS FALSE NEIGHBOUR: 'it returns false'. Refute it at one input. -/
def ctxAgainWrong : ChangeSpec := { name := "ctxAgain", fn := fun _ => fun
  | [d1, d2, d3, d4] => { results := [.lit (.bool false)], args := [d1, d2, d3, d4] }
  | _ => none }
def CtxAgainWrongFalsely : Prop := ctxAgainRow.holds Tryz.pinned (OpenSpec.ofChange ctxAgainWrong)

/-- 'scrimlaw16.CtxBytes': WHATEVER THE INPUT: true; the input reads as it did. -/
def ctxBytesSpec : ChangeSpec := { name := "ctxBytes", fn := fun _ => fun
  | [d1, d2] => { results := [.lit (.bool true)], args := [d1, d2] }
  | _ => none }
def ctxBytesRow : OpenClaim := { program := "ytggojcedobgnaaagreatdoor", sum := "9ba57dcbea1e6bb1baf1ed2e6140d701b391a163629b1c673b76624ea33aab5b", func := "scrim/scrimlaw16.CtxBytes", spec := "ctxBytes", unfollowed := true, recurses := true, named := ["scrim/box.ones"], apart := false, laid := [("scrim/box.ones", laid_scrim_box_ones)] }
def CtxBytesSaid : Prop := ctxBytesRow.holds Tryz.pinned (OpenSpec.ofChange ctxBytesSpec)

/-- ITS FALSE NEIGHBOUR: 'it returns false'. Refute it at one input. -/
def ctxBytesWrong : ChangeSpec := { name := "ctxBytes", fn := fun _ => fun
  | [d1, d2] => { results := [.lit (.bool false)], args := [d1, d2] }
  | _ => none }
def CtxBytesWrongFalsely : Prop := ctxBytesRow.holds Tryz.pinned (OpenSpec.ofChange ctxBytesWrong)

/-- 'scrimlaw16.CtxEmpty': WHATEVER THE INPUT: true; the input reads as it did. -/
def ctxEmptySpec : ChangeSpec := { name := "ctxEmpty", fn := fun _ => fun
  | [d1, d2, d3, d4] => { results := [.lit (.bool true)], args := [d1, d2, d3, d4] }
  | _ => none }
def ctxEmptyRow : OpenClaim := { program := "ytggojcedobgnaaagreatdoor", sum := "9ba57dcbea1e6bb1baf1ed2e6140d701b391a163629b1c673b76624ea33aab5b", func := "scrim/scrimlaw16.CtxEmpty", spec := "ctxEmpty", unfollowed := true, recurses := true, named := ["scrim/box.ones"], apart := false, laid := [("scrim/box.ones", laid_scrim_box_ones)] }
def CtxEmptySaid : Prop := ctxEmptyRow.holds Tryz.pinned (OpenSpec.ofChange ctxEmptySpec)

/-- ITS FALSE NEIGHBOUR: 'it returns false'. Refute it at one input. -/
def ctxEmptyWrong : ChangeSpec := { name := "ctxEmpty", fn := fun _ => fun
  | [d1, d2, d3, d4] => { results := [.lit (.bool false)], args := [d1, d2, d3, d4] }
  | _ => none }
def CtxEmptyWrongFalsely : Prop := ctxEmptyRow.holds Tryz.pinned (OpenSpec.ofChange ctxEmptyWrong)

/-- 'scrimlaw16.CtxHolds': WHATEVER THE INPUT: true; the input reads as it did. -/
def ctxHoldsSpec : ChangeSpec := { name := "ctxHolds", fn := fun _ => fun
  | [d1, d2, d3] => { results := [.lit (.bool true)], args := [d1, d2, d3] }
  | _ => none }
def ctxHoldsRow : OpenClaim := { program := "ytggojcedobgnaaagreatdoor", sum := "9ba57dcbea1e6bb1baf1ed2e6140d701b391a163629b1c673b76624ea33aab5b", func := "scrim/scrimlaw16.CtxHolds", spec := "ctxHolds", unfollowed := true, recurses := true, named := ["scrim/box.ones"], apart := false, laid := [("scrim/box.ones", laid_scrim_box_ones)] }
def CtxHoldsSaid : Prop := ctxHoldsRow.holds Tryz.pinned (OpenSpec.ofChange ctxHoldsSpec)

/-- ITS FALSE NEIGHBOUR: 'it returns false'. Refute it at one input. -/
def ctxHoldsWrong : ChangeSpec := { name := "ctxHolds", fn := fun _ => fun
  | [d1, d2, d3] => { results := [.lit (.bool false)], args := [d1, d2, d3] }
  | _ => none }
def CtxHoldsWrongFalsely : Prop := ctxHoldsRow.holds Tryz.pinned (OpenSpec.ofChange ctxHoldsWrong)

/-- 'scrimlaw16.CtxErrs': WHATEVER THE INPUT: true; the input reads as it did. -/
def ctxErrsSpec : ChangeSpec := { name := "ctxErrs", fn := fun _ => fun
  | [d1, d2] => { results := [.lit (.bool true)], args := [d1, d2] }
  | _ => none }
def ctxErrsRow : OpenClaim := { program := "ytggojcedobgnaaagreatdoor", sum := "9ba57dcbea1e6bb1baf1ed2e6140d701b391a163629b1c673b76624ea33aab5b", func := "scrim/scrimlaw16.CtxErrs", spec := "ctxErrs", unfollowed := true, recurses := true, named := ["scrim/box.ones"], apart := false, laid := [("scrim/box.ones", laid_scrim_box_ones)] }
def CtxErrsSaid : Prop := ctxErrsRow.holds Tryz.pinned (OpenSpec.ofChange ctxErrsSpec)

/-- ITS FALSE NEIGHBOUR: 'it returns false'. Refute it at one input. -/
def ctxErrsWrong : ChangeSpec := { name := "ctxErrs", fn := fun _ => fun
  | [d1, d2] => { results := [.lit (.bool false)], args := [d1, d2] }
  | _ => none }
def CtxErrsWrongFalsely : Prop := ctxErrsRow.holds Tryz.pinned (OpenSpec.ofChange ctxErrsWrong)

/-- 'scrimlaw16.CtxStates': WHATEVER THE INPUT: true; the input reads as it did. -/
def ctxStatesSpec : ChangeSpec := { name := "ctxStates", fn := fun _ => fun
  | [d1, d2, d3] => { results := [.lit (.bool true)], args := [d1, d2, d3] }
  | _ => none }
def ctxStatesRow : OpenClaim := { program := "ytggojcedobgnaaagreatdoor", sum := "9ba57dcbea1e6bb1baf1ed2e6140d701b391a163629b1c673b76624ea33aab5b", func := "scrim/scrimlaw16.CtxStates", spec := "ctxStates", unfollowed := true, recurses := true, named := ["scrim/box.ones"], apart := false, laid := [("scrim/box.ones", laid_scrim_box_ones)] }
def CtxStatesSaid : Prop := ctxStatesRow.holds Tryz.pinned (OpenSpec.ofChange ctxStatesSpec)

/-- ITS FALSE NEIGHBOUR: 'it returns false'. Refute it at one input. -/
def ctxStatesWrong : ChangeSpec := { name := "ctxStates", fn := fun _ => fun
  | [d1, d2, d3] => { results := [.lit (.bool false)], args := [d1, d2, d3] }
  | _ => none }
def CtxStatesWrongFalsely : Prop := ctxStatesRow.holds Tryz.pinned (OpenSpec.ofChange ctxStatesWrong)

/-- 'scrimlaw16.CtxReset': WHATEVER THE INPUT: true; the input reads as it did. -/
def ctxResetSpec : ChangeSpec := { name := "ctxReset", fn := fun _ => fun
  | [d1, d2, d3, d4, d5] => { results := [.lit (.bool true)], args := [d1, d2, d3, d4, d5] }
  | _ => none }
def ctxResetRow : OpenClaim := { program := "ytggojcedobgnaaagreatdoor", sum := "9ba57dcbea1e6bb1baf1ed2e6140d701b391a163629b1c673b76624ea33aab5b", func := "scrim/scrimlaw16.CtxReset", spec := "ctxReset", unfollowed := true, recurses := true, named := ["scrim/box.ones"], apart := false, laid := [("scrim/box.ones", laid_scrim_box_ones)] }
def CtxResetSaid : Prop := ctxResetRow.holds Tryz.pinned (OpenSpec.ofChange ctxResetSpec)

/-- ITS FALSE NEIGHBOUR: 'it returns false'. Refute it at one input. -/
def ctxResetWrong : ChangeSpec := { name := "ctxReset", fn := fun _ => fun
  | [d1, d2, d3, d4, d5] => { results := [.lit (.bool false)], args := [d1, d2, d3, d4, d5] }
  | _ => none }
def CtxResetWrongFalsely : Prop := ctxResetRow.holds Tryz.pinned (OpenSpec.ofChange ctxResetWrong)

/- THE SECOND FORM. 'bulk': how many values and letters a reading holds, each counted each time it is reached (what is shared counts as often as it is met; a slice's spare places count too). A statement '..UptoSaid' is the law's where the arguments, and the package variables that the reading takes, are together of bulk at most 1048576: NARROWER than '..Said'. Prove '..Said' where nothing that the law and all that it calls make is longer than what came in: it says more and counts as full. Else prove '..UptoSaid'. A law counts once. -/
mutual
def uptoBulk {H : Type} : DataW H → Nat
  | .lit (.string bytes) => bytes.length + 1
  | .lit _ => 1
  | .nil => 1
  | .ptr d => uptoBulk d + 1
  | .slice elems spare => uptoBulkAll elems + uptoBulkAll spare + 1
  | .agg parts => uptoBulkAll parts + 1
  | .iface _ d => uptoBulk d + 1
  | .map entries => uptoBulkEntries entries + 1
  | .held _ => 1
def uptoBulkAll {H : Type} : List (DataW H) → Nat
  | [] => 0
  | d :: r => uptoBulk d + uptoBulkAll r
def uptoBulkEntries {H : Type} : List (Lit × DataW H) → Nat
  | [] => 0
  | x :: r => uptoBulkEntry x + uptoBulkEntries r
def uptoBulkEntry {H : Type} : Lit × DataW H → Nat
  | (.string bytes, d) => bytes.length + uptoBulk d + 1
  | (_, d) => uptoBulk d + 1
 end
def uptoSmall : (H : Type) → List (DataW H) → Bool := fun _ ds => decide (uptoBulkAll ds ≤ 1048576)
def OpenSpec.upto (s : _root_.Go.ChangeSpec) : _root_.Go.OpenSpec := { _root_.Go.OpenSpec.ofChange s with cond := some uptoSmall }

/-- 'scrimlaw16.CtxPieces', WHERE WHAT IT READS IS OF BULK AT MOST 1048576: true; the input reads as it did. -/
def ctxPiecesUptoRow : OpenClaim := { program := "ytggojcedobgnaaagreatdoor", sum := "9ba57dcbea1e6bb1baf1ed2e6140d701b391a163629b1c673b76624ea33aab5b", func := "scrim/scrimlaw16.CtxPieces", spec := "ctxPieces", unfollowed := true, recurses := true, named := ["scrim/box.ones"], apart := false, laid := [("scrim/box.ones", laid_scrim_box_ones)], narrowed := true }
def CtxPiecesUptoSaid : Prop := ctxPiecesUptoRow.holds Tryz.pinned (OpenSpec.upto ctxPiecesSpec)

/-- 'scrimlaw16.CtxCut', WHERE WHAT IT READS IS OF BULK AT MOST 1048576: true; the input reads as it did. -/
def ctxCutUptoRow : OpenClaim := { program := "ytggojcedobgnaaagreatdoor", sum := "9ba57dcbea1e6bb1baf1ed2e6140d701b391a163629b1c673b76624ea33aab5b", func := "scrim/scrimlaw16.CtxCut", spec := "ctxCut", unfollowed := true, recurses := true, named := ["scrim/box.ones"], apart := false, laid := [("scrim/box.ones", laid_scrim_box_ones)], narrowed := true }
def CtxCutUptoSaid : Prop := ctxCutUptoRow.holds Tryz.pinned (OpenSpec.upto ctxCutSpec)

/-- 'scrimlaw16.CtxFront', WHERE WHAT IT READS IS OF BULK AT MOST 1048576: true; the input reads as it did. -/
def ctxFrontUptoRow : OpenClaim := { program := "ytggojcedobgnaaagreatdoor", sum := "9ba57dcbea1e6bb1baf1ed2e6140d701b391a163629b1c673b76624ea33aab5b", func := "scrim/scrimlaw16.CtxFront", spec := "ctxFront", unfollowed := true, recurses := true, named := ["scrim/box.ones"], apart := false, laid := [("scrim/box.ones", laid_scrim_box_ones)], narrowed := true }
def CtxFrontUptoSaid : Prop := ctxFrontUptoRow.holds Tryz.pinned (OpenSpec.upto ctxFrontSpec)

/-- 'scrimlaw16.CtxBack', WHERE WHAT IT READS IS OF BULK AT MOST 1048576: true; the input reads as it did. -/
def ctxBackUptoRow : OpenClaim := { program := "ytggojcedobgnaaagreatdoor", sum := "9ba57dcbea1e6bb1baf1ed2e6140d701b391a163629b1c673b76624ea33aab5b", func := "scrim/scrimlaw16.CtxBack", spec := "ctxBack", unfollowed := true, recurses := true, named := ["scrim/box.ones"], apart := false, laid := [("scrim/box.ones", laid_scrim_box_ones)], narrowed := true }
def CtxBackUptoSaid : Prop := ctxBackUptoRow.holds Tryz.pinned (OpenSpec.upto ctxBackSpec)

/-- 'scrimlaw16.CtxHeld', WHERE WHAT IT READS IS OF BULK AT MOST 1048576: true; the input reads as it did. -/
def ctxHeldUptoRow : OpenClaim := { program := "ytggojcedobgnaaagreatdoor", sum := "9ba57dcbea1e6bb1baf1ed2e6140d701b391a163629b1c673b76624ea33aab5b", func := "scrim/scrimlaw16.CtxHeld", spec := "ctxHeld", unfollowed := true, recurses := true, named := ["scrim/box.ones"], apart := false, laid := [("scrim/box.ones", laid_scrim_box_ones)], narrowed := true }
def CtxHeldUptoSaid : Prop := ctxHeldUptoRow.holds Tryz.pinned (OpenSpec.upto ctxHeldSpec)

/-- 'scrimlaw16.CtxRefused', WHERE WHAT IT READS IS OF BULK AT MOST 1048576: true; the input reads as it did. -/
def ctxRefusedUptoRow : OpenClaim := { program := "ytggojcedobgnaaagreatdoor", sum := "9ba57dcbea1e6bb1baf1ed2e6140d701b391a163629b1c673b76624ea33aab5b", func := "scrim/scrimlaw16.CtxRefused", spec := "ctxRefused", unfollowed := true, recurses := true, named := ["scrim/box.ones"], apart := false, laid := [("scrim/box.ones", laid_scrim_box_ones)], narrowed := true }
def CtxRefusedUptoSaid : Prop := ctxRefusedUptoRow.holds Tryz.pinned (OpenSpec.upto ctxRefusedSpec)

/-- 'scrimlaw16.CtxAgain', WHERE WHAT IT READS IS OF BULK AT MOST 1048576: true; the input reads as it did. -/
def ctxAgainUptoRow : OpenClaim := { program := "ytggojcedobgnaaagreatdoor", sum := "9ba57dcbea1e6bb1baf1ed2e6140d701b391a163629b1c673b76624ea33aab5b", func := "scrim/scrimlaw16.CtxAgain", spec := "ctxAgain", unfollowed := true, recurses := true, named := ["scrim/box.ones"], apart := false, laid := [("scrim/box.ones", laid_scrim_box_ones)], narrowed := true }
def CtxAgainUptoSaid : Prop := ctxAgainUptoRow.holds Tryz.pinned (OpenSpec.upto ctxAgainSpec)

/-- 'scrimlaw16.CtxBytes', WHERE WHAT IT READS IS OF BULK AT MOST 1048576: true; the input reads as it did. -/
def ctxBytesUptoRow : OpenClaim := { program := "ytggojcedobgnaaagreatdoor", sum := "9ba57dcbea1e6bb1baf1ed2e6140d701b391a163629b1c673b76624ea33aab5b", func := "scrim/scrimlaw16.CtxBytes", spec := "ctxBytes", unfollowed := true, recurses := true, named := ["scrim/box.ones"], apart := false, laid := [("scrim/box.ones", laid_scrim_box_ones)], narrowed := true }
def CtxBytesUptoSaid : Prop := ctxBytesUptoRow.holds Tryz.pinned (OpenSpec.upto ctxBytesSpec)

/-- 'scrimlaw16.CtxEmpty', WHERE WHAT IT READS IS OF BULK AT MOST 1048576: true; the input reads as it did. -/
def ctxEmptyUptoRow : OpenClaim := { program := "ytggojcedobgnaaagreatdoor", sum := "9ba57dcbea1e6bb1baf1ed2e6140d701b391a163629b1c673b76624ea33aab5b", func := "scrim/scrimlaw16.CtxEmpty", spec := "ctxEmpty", unfollowed := true, recurses := true, named := ["scrim/box.ones"], apart := false, laid := [("scrim/box.ones", laid_scrim_box_ones)], narrowed := true }
def CtxEmptyUptoSaid : Prop := ctxEmptyUptoRow.holds Tryz.pinned (OpenSpec.upto ctxEmptySpec)

/-- 'scrimlaw16.CtxHolds', WHERE WHAT IT READS IS OF BULK AT MOST 1048576: true; the input reads as it did. -/
def ctxHoldsUptoRow : OpenClaim := { program := "ytggojcedobgnaaagreatdoor", sum := "9ba57dcbea1e6bb1baf1ed2e6140d701b391a163629b1c673b76624ea33aab5b", func := "scrim/scrimlaw16.CtxHolds", spec := "ctxHolds", unfollowed := true, recurses := true, named := ["scrim/box.ones"], apart := false, laid := [("scrim/box.ones", laid_scrim_box_ones)], narrowed := true }
def CtxHoldsUptoSaid : Prop := ctxHoldsUptoRow.holds Tryz.pinned (OpenSpec.upto ctxHoldsSpec)

/-- 'scrimlaw16.CtxErrs', WHERE WHAT IT READS IS OF BULK AT MOST 1048576: true; the input reads as it did. -/
def ctxErrsUptoRow : OpenClaim := { program := "ytggojcedobgnaaagreatdoor", sum := "9ba57dcbea1e6bb1baf1ed2e6140d701b391a163629b1c673b76624ea33aab5b", func := "scrim/scrimlaw16.CtxErrs", spec := "ctxErrs", unfollowed := true, recurses := true, named := ["scrim/box.ones"], apart := false, laid := [("scrim/box.ones", laid_scrim_box_ones)], narrowed := true }
def CtxErrsUptoSaid : Prop := ctxErrsUptoRow.holds Tryz.pinned (OpenSpec.upto ctxErrsSpec)

/-- 'scrimlaw16.CtxStates', WHERE WHAT IT READS IS OF BULK AT MOST 1048576: true; the input reads as it did. -/
def ctxStatesUptoRow : OpenClaim := { program := "ytggojcedobgnaaagreatdoor", sum := "9ba57dcbea1e6bb1baf1ed2e6140d701b391a163629b1c673b76624ea33aab5b", func := "scrim/scrimlaw16.CtxStates", spec := "ctxStates", unfollowed := true, recurses := true, named := ["scrim/box.ones"], apart := false, laid := [("scrim/box.ones", laid_scrim_box_ones)], narrowed := true }
def CtxStatesUptoSaid : Prop := ctxStatesUptoRow.holds Tryz.pinned (OpenSpec.upto ctxStatesSpec)

/-- 'scrimlaw16.CtxReset', WHERE WHAT IT READS IS OF BULK AT MOST 1048576: true; the input reads as it did. -/
def ctxResetUptoRow : OpenClaim := { program := "ytggojcedobgnaaagreatdoor", sum := "9ba57dcbea1e6bb1baf1ed2e6140d701b391a163629b1c673b76624ea33aab5b", func := "scrim/scrimlaw16.CtxReset", spec := "ctxReset", unfollowed := true, recurses := true, named := ["scrim/box.ones"], apart := false, laid := [("scrim/box.ones", laid_scrim_box_ones)], narrowed := true }
def CtxResetUptoSaid : Prop := ctxResetUptoRow.holds Tryz.pinned (OpenSpec.upto ctxResetSpec)

end Rows
end Go.Proofs.YtggojcedobgnaaaGreatDoor
