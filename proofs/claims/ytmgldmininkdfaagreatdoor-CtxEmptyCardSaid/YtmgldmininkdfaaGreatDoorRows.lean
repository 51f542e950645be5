/-
  NARROWER THAN 'FOR EVERY INPUT', by the rows' own cells (each row's printed sentence says how): CtxPieces: laid · CtxCut: laid · CtxFront: laid · CtxHeld: laid · CtxBytes: laid · CtxEmpty: laid.
  DERIVED. THE GIVEN ROWS OF THIS SEAT. 6 by the template 'for every input the law returns true; each argument reads behind the call as it read before'; 0 by the template 'total and deterministic' (their statements: YtmgldmininkdfaaGreatDoorTotals.lean).
  GIVEN WITH THE SEED: the statements are not yours to turn. If you find one false, say at which input.
  Laid BY PROGRAM, IN A SANDBOX (cutbox-rows.mjs): the forced cells as the released guide's own fill.sh prints them over the translation 33ed8aa1ec1a51b4… (all of the seat's roots in one cut). By AI agents, Wed Nov 11 2026. No macro, syntax, notation, axiom, sorry.
-/
import Derived.Test.YtmgldmininkdfaaGreatDoorChecked
import GoSem.Claim
import GoSem.ClaimJoined
import GoSem.ClaimMapViews
import Derived.JoinedTies
import Derived.KernelRfl
namespace Go.Proofs.YtmgldmininkdfaaGreatDoor
/- THE CELL 'sum', in the pinned program and in every row, IS THE sha256 OF THE DUMP (.gsa) THAT YtmgldmininkdfaaGreatDoorProg.lean LOADS. Nothing in Lean hashes anything: it is a label: what it is worth is what the hold of that sum in a sandbox is worth. -/
noncomputable def Tryz.pinned : Pinned := { name := "ytmgldmininkdfaagreatdoor", sum := "33ed8aa1ec1a51b4d8cac4fd2ec4c6d4f83ae88144d106472f5bb2ea142237a8", checked := Tryz.checked }
namespace Rows
def none {H : Type} : Left H := { results := [], args := [] }

/- WHAT THE LISTED PACKAGE-LEVEL VARIABLES READ AS WHEN THE CALL BEGINS. Each datum BY PROGRAM (the guide's laid-datum.mjs) off the statement by which the dump's own 'gosem.cut.vars' lays the variable. In a bare row this is a premise. The card (YtmgldmininkdfaaGreatDoorCards.lean) ties it to the program's text. -/
def laid_scrim_box_ones {H : Type} : DataW H := .agg [.lit (.int .u8 1), .lit (.int .u8 2), .lit (.int .u8 4), .lit (.int .u8 8), .lit (.int .u8 16), .lit (.int .u8 32), .lit (.int .u8 64), .lit (.int .u8 128)]

/-- 'scrimlaw16.CtxPieces': WHATEVER THE INPUT: true; the input reads as it did. -/
def ctxPiecesSpec : ChangeSpec := { name := "ctxPieces", fn := fun _ => fun
  | [d1, d2, d3] => { results := [.lit (.bool true)], args := [d1, d2, d3] }
  | _ => none }
def ctxPiecesRow : OpenClaim := { program := "ytmgldmininkdfaagreatdoor", sum := "33ed8aa1ec1a51b4d8cac4fd2ec4c6d4f83ae88144d106472f5bb2ea142237a8", func := "scrim/scrimlaw16.CtxPieces", spec := "ctxPieces", unfollowed := true, recurses := true, named := ["scrim/box.ones"], apart := false, laid := [("scrim/box.ones", laid_scrim_box_ones)] }
def CtxPiecesSaid : Prop := ctxPiecesRow.holds Tryz.pinned (OpenSpec.ofChange ctxPiecesSpec)

/-- ITS FALSE NEIGHBOUR: 'it returns false'. Refute it at one input. -/
def ctxPiecesWrong : ChangeSpec := { name := "ctxPieces", fn := fun _ => fun
  | [d1, d2, d3] => { results := [.lit (.bool false)], args := [d1, d2, d3] }
  | _ => none }
def CtxPiecesWrongFalsely : Prop := ctxPiecesRow.holds Tryz.pinned (OpenSpec.ofChange ctxPiecesWrong)

/-- 'scrimlaw16.CtxCut': WHATEVER THE INPUT: true; the input reads as it did. -/
def ctxCutSpec : ChangeSpec := { name := "ctxCut", fn := fun _ => fun
  | [d1, d2, d3] => { results := [.lit (.bool true)], args := [d1, d2, d3] }
  | _ => none }
def ctxCutRow : OpenClaim := { program := "ytmgldmininkdfaagreatdoor", sum := "33ed8aa1ec1a51b4d8cac4fd2ec4c6d4f83ae88144d106472f5bb2ea142237a8", func := "scrim/scrimlaw16.CtxCut", spec := "ctxCut", unfollowed := true, recurses := true, named := ["scrim/box.ones"], apart := false, laid := [("scrim/box.ones", laid_scrim_box_ones)] }
def CtxCutSaid : Prop := ctxCutRow.holds Tryz.pinned (OpenSpec.ofChange ctxCutSpec)

/-- ITS FALSE NEIGHBOUR: 'it returns false'. Refute it at one input. -/
def ctxCutWrong : ChangeSpec := { name := "ctxCut", fn := fun _ => fun
  | [d1, d2, d3] => { results := [.lit (.bool false)], args := [d1, d2, d3] }
  | _ => none }
def CtxCutWrongFalsely : Prop := ctxCutRow.holds Tryz.pinned (OpenSpec.ofChange ctxCutWrong)

/-- 'scrimlaw16.CtxFront': WHATEVER THE INPUT: true; the input reads as it did. -/
def ctxFrontSpec : ChangeSpec := { name := "ctxFront", fn := fun _ => fun
  | [d1, d2, d3] => { results := [.lit (.bool true)], args := [d1, d2, d3] }
  | _ => none }
def ctxFrontRow : OpenClaim := { program := "ytmgldmininkdfaagreatdoor", sum := "33ed8aa1ec1a51b4d8cac4fd2ec4c6d4f83ae88144d106472f5bb2ea142237a8", func := "scrim/scrimlaw16.CtxFront", spec := "ctxFront", unfollowed := true, recurses := true, named := ["scrim/box.ones"], apart := false, laid := [("scrim/box.ones", laid_scrim_box_ones)] }
def CtxFrontSaid : Prop := ctxFrontRow.holds Tryz.pinned (OpenSpec.ofChange ctxFrontSpec)

/-- ITS FALSE NEIGHBOUR: 'it returns false'. Refute it at one input. -/
def ctxFrontWrong : ChangeSpec := { name := "ctxFront", fn := fun _ => fun
  | [d1, d2, d3] => { results := [.lit (.bool false)], args := [d1, d2, d3] }
  | _ => none }
def CtxFrontWrongFalsely : Prop := ctxFrontRow.holds Tryz.pinned (OpenSpec.ofChange ctxFrontWrong)

/-- 'scrimlaw16.CtxHeld': WHATEVER THE INPUT: true; the input reads as it did. -/
def ctxHeldSpec : ChangeSpec := { name := "ctxHeld", fn := fun _ => fun
  | [d1, d2, d3] => { results := [.lit (.bool true)], args := [d1, d2, d3] }
  | _ => none }
def ctxHeldRow : OpenClaim := { program := "ytmgldmininkdfaagreatdoor", sum := "33ed8aa1ec1a51b4d8cac4fd2ec4c6d4f83ae88144d106472f5bb2ea142237a8", func := "scrim/scrimlaw16.CtxHeld", spec := "ctxHeld", unfollowed := true, recurses := true, named := ["scrim/box.ones"], apart := false, laid := [("scrim/box.ones", laid_scrim_box_ones)] }
def CtxHeldSaid : Prop := ctxHeldRow.holds Tryz.pinned (OpenSpec.ofChange ctxHeldSpec)

/-- ITS FALSE NEIGHBOUR: 'it returns false'. Refute it at one input. -/
def ctxHeldWrong : ChangeSpec := { name := "ctxHeld", fn := fun _ => fun
  | [d1, d2, d3] => { results := [.lit (.bool false)], args := [d1, d2, d3] }
  | _ => none }
def CtxHeldWrongFalsely : Prop := ctxHeldRow.holds Tryz.pinned (OpenSpec.ofChange ctxHeldWrong)

/-- 'scrimlaw16.CtxBytes': WHATEVER THE INPUT: true; the input reads as it did. -/
def ctxBytesSpec : ChangeSpec := { name := "ctxBytes", fn := fun _ => fun
  | [d1, d2] => { results := [.lit (.bool true)], args := [d1, d2] }
  | _ => none }
def ctxBytesRow : OpenClaim := { program := "ytmgldmininkdfaagreatdoor", sum := "33ed8aa1ec1a51b4d8cac4fd2ec4c6d4f83ae88144d106472f5bb2ea142237a8", func := "scrim/scrimlaw16.CtxBytes", spec := "ctxBytes", unfollowed := true, recurses := true, named := ["scrim/box.ones"], apart := false, laid := [("scrim/box.ones", laid_scrim_box_ones)] }
def CtxBytesSaid : Prop := ctxBytesRow.holds Tryz.pinned (OpenSpec.ofChange ctxBytesSpec)

/-- ITS FALSE NEIGHBOUR: 'it returns false'. Refute it at one input. -/
def ctxBytesWrong : ChangeSpec := { name := "ctxBytes", fn := fun _ => fun
  | [d1, d2] => { results := [.lit (.bool false)], args := [d1, d2] }
  | _ => none }
def CtxBytesWrongFalsely : Prop := ctxBytesRow.holds Tryz.pinned (OpenSpec.ofChange ctxBytesWrong)

/-- 'scrimlaw16.CtxEmpty': WHATEVER THE INPUT: true; the input reads as it did. -/
def ctxEmptySpec : ChangeSpec := { name := "ctxEmpty", fn := fun _ => fun
  | [d1, d2, d3, d4] => { results := [.lit (.bool true)], args := [d1, d2, d3, d4] }
  | _ => none }
def ctxEmptyRow : OpenClaim := { program := "ytmgldmininkdfaagreatdoor", sum := "33ed8aa1ec1a51b4d8cac4fd2ec4c6d4f83ae88144d106472f5bb2ea142237a8", func := "scrim/scrimlaw16.CtxEmpty", spec := "ctxEmpty", unfollowed := true, recurses := true, named := ["scrim/box.ones"], apart := false, laid := [("scrim/box.ones", laid_scrim_box_ones)] }
def CtxEmptySaid : Prop := ctxEmptyRow.holds Tryz.pinned (OpenSpec.ofChange ctxEmptySpec)

/-- ITS FALSE NEIGHBOUR: 'it returns false'. Refute it at one input. -/
def ctxEmptyWrong : ChangeSpec := { name := "ctxEmpty", fn := fun _ => fun
  | [d1, d2, d3, d4] => { results := [.lit (.bool false)], args := [d1, d2, d3, d4] }
  | _ => none }
def CtxEmptyWrongFalsely : Prop := ctxEmptyRow.holds Tryz.pinned (OpenSpec.ofChange ctxEmptyWrong)

/- THE SECOND FORM. 'bulk': how many values and letters a reading holds, each counted each time it is reached (what is shared counts as often as it is met; a slice's spare places count too). A statement '..UptoSaid' is the law's where the arguments, and the package variables that the reading takes, are together of bulk at most 1048576: NARROWER than '..Said'. Prove '..Said' where nothing that the law and all that it calls make is longer than what came in: it says more and counts as full. Else prove '..UptoSaid'. A law counts once. -/
mutual
def uptoBulk {H : Type} : DataW H → Nat
  | .lit (.string bytes) => bytes.length + 1
  | .lit _ => 1
  | .nil => 1
  | .ptr d => uptoBulk d + 1
  | .slice elems spare => uptoBulkAll elems + uptoBulkAll spare + 1
  | .agg parts => uptoBulkAll parts + 1
  | .iface _ d => uptoBulk d + 1
  | .map entries => uptoBulkEntries entries + 1
  | .held _ => 1
def uptoBulkAll {H : Type} : List (DataW H) → Nat
  | [] => 0
  | d :: r => uptoBulk d + uptoBulkAll r
def uptoBulkEntries {H : Type} : List (Lit × DataW H) → Nat
  | [] => 0
  | x :: r => uptoBulkEntry x + uptoBulkEntries r
def uptoBulkEntry {H : Type} : Lit × DataW H → Nat
  | (.string bytes, d) => bytes.length + uptoBulk d + 1
  | (_, d) => uptoBulk d + 1
 end
def uptoSmall : (H : Type) → List (DataW H) → Bool := fun _ ds => decide (uptoBulkAll ds ≤ 1048576)
def OpenSpec.upto (s : _root_.Go.ChangeSpec) : _root_.Go.OpenSpec := { _root_.Go.OpenSpec.ofChange s with cond := some uptoSmall }

/-- 'scrimlaw16.CtxPieces', WHERE WHAT IT READS IS OF BULK AT MOST 1048576: true; the input reads as it did. -/
def ctxPiecesUptoRow : OpenClaim := { program := "ytmgldmininkdfaagreatdoor", sum := "33ed8aa1ec1a51b4d8cac4fd2ec4c6d4f83ae88144d106472f5bb2ea142237a8", func := "scrim/scrimlaw16.CtxPieces", spec := "ctxPieces", unfollowed := true, recurses := true, named := ["scrim/box.ones"], apart := false, laid := [("scrim/box.ones", laid_scrim_box_ones)], narrowed := true }
def CtxPiecesUptoSaid : Prop := ctxPiecesUptoRow.holds Tryz.pinned (OpenSpec.upto ctxPiecesSpec)

/-- 'scrimlaw16.CtxCut', WHERE WHAT IT READS IS OF BULK AT MOST 1048576: true; the input reads as it did. -/
def ctxCutUptoRow : OpenClaim := { program := "ytmgldmininkdfaagreatdoor", sum := "33ed8aa1ec1a51b4d8cac4fd2ec4c6d4f83ae88144d106472f5bb2ea142237a8", func := "scrim/scrimlaw16.CtxCut", spec := "ctxCut", unfollowed := true, recurses := true, named := ["scrim/box.ones"], apart := false, laid := [("scrim/box.ones", laid_scrim_box_ones)], narrowed := true }
def CtxCutUptoSaid : Prop := ctxCutUptoRow.holds Tryz.pinned (OpenSpec.upto ctxCutSpec)

/-- 'scrimlaw16.CtxFront', WHERE WHAT IT READS IS OF BULK AT MOST 1048576: true; the input reads as it did. -/
def ctxFrontUptoRow : OpenClaim := { program := "ytmgldmininkdfaagreatdoor", sum := "33ed8aa1ec1a51b4d8cac4fd2ec4c6d4f83ae88144d106472f5bb2ea142237a8", func := "scrim/scrimlaw16.CtxFront", spec := "ctxFront", unfollowed := true, recurses := true, named := ["scrim/box.ones"], apart := false, laid := [("scrim/box.ones", laid_scrim_box_ones)], narrowed := true }
def CtxFrontUptoSaid : Prop := ctxFrontUptoRow.holds Tryz.pinned (OpenSpec.upto ctxFrontSpec)

/-- 'scrimlaw16.CtxHeld', WHERE WHAT IT READS IS OF BULK AT MOST 1048576: true; the input reads as it did. -/
def ctxHeldUptoRow : OpenClaim := { program := "ytmgldmininkdfaagreatdoor", sum := "33ed8aa1ec1a51b4d8cac4fd2ec4c6d4f83ae88144d106472f5bb2ea142237a8", func := "scrim/scrimlaw16.CtxHeld", spec := "ctxHeld", unfollowed := true, recurses := true, named := ["scrim/box.ones"], apart := false, laid := [("scrim/box.ones", laid_scrim_box_ones)], narrowed := true }
def CtxHeldUptoSaid : Prop := ctxHeldUptoRow.holds Tryz.pinned (OpenSpec.upto ctxHeldSpec)

/-- 'scrimlaw16.CtxBytes', WHERE WHAT IT READS IS OF BULK AT MOST 1048576: true; the input reads as it did. -/
def ctxBytesUptoRow : OpenClaim := { program := "ytmgldmininkdfaagreatdoor", sum := "33ed8aa1ec1a51b4d8cac4fd2ec4c6d4f83ae88144d106472f5bb2ea142237a8", func := "scrim/scrimlaw16.CtxBytes", spec := "ctxBytes", unfollowed := true, recurses := true, named := ["scrim/box.ones"], apart := false, laid := [("scrim/box.ones", laid_scrim_box_ones)], narrowed := true }
def CtxBytesUptoSaid : Prop := ctxBytesUptoRow.holds Tryz.pinned (OpenSpec.upto ctxBytesSpec)

/-- 'scrimlaw16.CtxEmpty', WHERE WHAT IT READS IS OF BULK AT MOST 1048576: true; the input reads as it did. -/
def ctxEmptyUptoRow : OpenClaim := { program := "ytmgldmininkdfaagreatdoor", sum := "33ed8aa1ec1a51b4d8cac4fd2ec4c6d4f83ae88144d106472f5bb2ea142237a8", func := "scrim/scrimlaw16.CtxEmpty", spec := "ctxEmpty", unfollowed := true, recurses := true, named := ["scrim/box.ones"], apart := false, laid := [("scrim/box.ones", laid_scrim_box_ones)], narrowed := true }
def CtxEmptyUptoSaid : Prop := ctxEmptyUptoRow.holds Tryz.pinned (OpenSpec.upto ctxEmptySpec)

end Rows
end Go.Proofs.YtmgldmininkdfaaGreatDoor
