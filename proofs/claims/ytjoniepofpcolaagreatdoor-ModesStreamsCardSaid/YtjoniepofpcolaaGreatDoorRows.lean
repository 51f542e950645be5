/-
  NARROWER THAN 'FOR EVERY INPUT', by the rows' own cells (each row's printed sentence says how): StealTails: laid · StealBack: laid · StealErrs: laid · StealOrder: laid · StealOne: laid · StealTurns: laid · StealSpoilt: laid · ModesSteps: laid · ModesCut: laid · ModesBack: laid · ModesErrs: laid · ModesStreams: laid.
  DERIVED. THE GIVEN ROWS OF THIS SEAT. 12 by the template 'for every input the law returns true; each argument reads behind the call as it read before'; 0 by the template 'total and deterministic' (their statements: YtjoniepofpcolaaGreatDoorTotals.lean).
  GIVEN WITH THE SEED: the statements are not yours to turn. If you find one false, say at which input.
  Laid BY PROGRAM, IN A SANDBOX (cutbox-rows.mjs): the forced cells as the released guide's own fill.sh prints them over the translation ac1aa989a60209ae… (all of the seat's roots in one cut). By AI agents, Wed Nov 11 2026. No macro, syntax, notation, axiom, sorry.
-/
import Derived.Test.YtjoniepofpcolaaGreatDoorChecked
import GoSem.Claim
import GoSem.ClaimJoined
import GoSem.ClaimMapViews
import Derived.JoinedTies
import Derived.KernelRfl
namespace Go.Proofs.YtjoniepofpcolaaGreatDoor
/- THE CELL 'sum', in the pinned program and in every row, IS THE sha256 OF THE DUMP (.gsa) THAT YtjoniepofpcolaaGreatDoorProg.lean LOADS. Nothing in Lean hashes anything: it is a label: what it is worth is what the hold of that sum in a sandbox is worth. -/
noncomputable def Tryz.pinned : Pinned := { name := "ytjoniepofpcolaagreatdoor", sum := "ac1aa989a60209aeb5ddee4a33c1bff6f5c1023c2a23e12efdcaab0f1a69d79d", checked := Tryz.checked }
namespace Rows
def none {H : Type} : Left H := { results := [], args := [] }

/- WHAT THE LISTED PACKAGE-LEVEL VARIABLES READ AS WHEN THE CALL BEGINS. Each datum BY PROGRAM (the guide's laid-datum.mjs) off the statement by which the dump's own 'gosem.cut.vars' lays the variable. In a bare row this is a premise. The card (YtjoniepofpcolaaGreatDoorCards.lean) ties it to the program's text. -/
def laid_scrim_box_ones {H : Type} : DataW H := .agg [.lit (.int .u8 1), .lit (.int .u8 2), .lit (.int .u8 4), .lit (.int .u8 8), .lit (.int .u8 16), .lit (.int .u8 32), .lit (.int .u8 64), .lit (.int .u8 128)]

/-- 'scrimlaw13.StealTails': WHATEVER THE INPUT: true; the input reads as it did. -/
def stealTailsSpec : ChangeSpec := { name := "stealTails", fn := fun _ => fun
  | [d1, d2, d3, d4, d5, d6, d7] => { results := [.lit (.bool true)], args := [d1, d2, d3, d4, d5, d6, d7] }
  | _ => none }
def stealTailsRow : OpenClaim := { program := "ytjoniepofpcolaagreatdoor", sum := "ac1aa989a60209aeb5ddee4a33c1bff6f5c1023c2a23e12efdcaab0f1a69d79d", func := "scrim/scrimlaw13.StealTails", spec := "stealTails", unfollowed := true, recurses := true, named := ["scrim/box.ones"], apart := false, laid := [("scrim/box.ones", laid_scrim_box_ones)] }
def StealTailsSaid : Prop := stealTailsRow.holds Tryz.pinned (OpenSpec.ofChange stealTailsSpec)

/-- ITS FALSE NEIGHBOUR: 'it returns false'. Refute it at one input. -/
def stealTailsWrong : ChangeSpec := { name := "stealTails", fn := fun _ => fun
  | [d1, d2, d3, d4, d5, d6, d7] => { results := [.lit (.bool false)], args := [d1, d2, d3, d4, d5, d6, d7] }
  | _ => none }
def StealTailsWrongFalsely : Prop := stealTailsRow.holds Tryz.pinned (OpenSpec.ofChange stealTailsWrong)

/-- 'scrimlaw13.StealBack': WHATEVER THE INPUT: true; the input reads as it did. -/
def stealBackSpec : ChangeSpec := { name := "stealBack", fn := fun _ => fun
  | [d1, d2, d3, d4, d5, d6, d7] => { results := [.lit (.bool true)], args := [d1, d2, d3, d4, d5, d6, d7] }
  | _ => none }
def stealBackRow : OpenClaim := { program := "ytjoniepofpcolaagreatdoor", sum := "ac1aa989a60209aeb5ddee4a33c1bff6f5c1023c2a23e12efdcaab0f1a69d79d", func := "scrim/scrimlaw13.StealBack", spec := "stealBack", unfollowed := true, recurses := true, named := ["scrim/box.ones"], apart := false, laid := [("scrim/box.ones", laid_scrim_box_ones)] }
def StealBackSaid : Prop := stealBackRow.holds Tryz.pinned (OpenSpec.ofChange stealBackSpec)

/-- ITS FALSE NEIGHBOUR: 'it returns false'. Refute it at one input. -/
def stealBackWrong : ChangeSpec := { name := "stealBack", fn := fun _ => fun
  | [d1, d2, d3, d4, d5, d6, d7] => { results := [.lit (.bool false)], args := [d1, d2, d3, d4, d5, d6, d7] }
  | _ => none }
def StealBackWrongFalsely : Prop := stealBackRow.holds Tryz.pinned (OpenSpec.ofChange stealBackWrong)

/-- 'scrimlaw13.StealErrs': WHATEVER THE INPUT: true; the input reads as it did. -/
def stealErrsSpec : ChangeSpec := { name := "stealErrs", fn := fun _ => fun
  | [d1, d2, d3, d4, d5, d6] => { results := [.lit (.bool true)], args := [d1, d2, d3, d4, d5, d6] }
  | _ => none }
def stealErrsRow : OpenClaim := { program := "ytjoniepofpcolaagreatdoor", sum := "ac1aa989a60209aeb5ddee4a33c1bff6f5c1023c2a23e12efdcaab0f1a69d79d", func := "scrim/scrimlaw13.StealErrs", spec := "stealErrs", unfollowed := true, recurses := true, named := ["scrim/box.ones"], apart := false, laid := [("scrim/box.ones", laid_scrim_box_ones)] }
def StealErrsSaid : Prop := stealErrsRow.holds Tryz.pinned (OpenSpec.ofChange stealErrsSpec)

/-- ITS FALSE NEIGHBOUR: 'it returns false'. Refute it at one input. -/
def stealErrsWrong : ChangeSpec := { name := "stealErrs", fn := fun _ => fun
  | [d1, d2, d3, d4, d5, d6] => { results := [.lit (.bool false)], args := [d1, d2, d3, d4, d5, d6] }
  | _ => none }
def StealErrsWrongFalsely : Prop := stealErrsRow.holds Tryz.pinned (OpenSpec.ofChange stealErrsWrong)

/-- 'scrimlaw13.StealOrder': WHATEVER THE INPUT: true; the input reads as it did. -/
def stealOrderSpec : ChangeSpec := { name := "stealOrder", fn := fun _ => fun
  | [d1, d2, d3, d4, d5, d6] => { results := [.lit (.bool true)], args := [d1, d2, d3, d4, d5, d6] }
  | _ => none }
def stealOrderRow : OpenClaim := { program := "ytjoniepofpcolaagreatdoor", sum := "ac1aa989a60209aeb5ddee4a33c1bff6f5c1023c2a23e12efdcaab0f1a69d79d", func := "scrim/scrimlaw13.StealOrder", spec := "stealOrder", unfollowed := true, recurses := true, named := ["scrim/box.ones"], apart := false, laid := [("scrim/box.ones", laid_scrim_box_ones)] }
def StealOrderSaid : Prop := stealOrderRow.holds Tryz.pinned (OpenSpec.ofChange stealOrderSpec)

/-- ITS FALSE NEIGHBOUR: 'it returns false'. Refute it at one input. -/
def stealOrderWrong : ChangeSpec := { name := "stealOrder", fn := fun _ => fun
  | [d1, d2, d3, d4, d5, d6] => { results := [.lit (.bool false)], args := [d1, d2, d3, d4, d5, d6] }
  | _ => none }
def StealOrderWrongFalsely : Prop := stealOrderRow.holds Tryz.pinned (OpenSpec.ofChange stealOrderWrong)

/-- 'scrimlaw13.StealOne': WHATEVER THE INPUT: true; the input reads as it did. -/
def stealOneSpec : ChangeSpec := { name := "stealOne", fn := fun _ => fun
  | [d1, d2, d3, d4, d5] => { results := [.lit (.bool true)], args := [d1, d2, d3, d4, d5] }
  | _ => none }
def stealOneRow : OpenClaim := { program := "ytjoniepofpcolaagreatdoor", sum := "ac1aa989a60209aeb5ddee4a33c1bff6f5c1023c2a23e12efdcaab0f1a69d79d", func := "scrim/scrimlaw13.StealOne", spec := "stealOne", unfollowed := true, recurses := true, named := ["scrim/box.ones"], apart := false, laid := [("scrim/box.ones", laid_scrim_box_ones)] }
def StealOneSaid : Prop := stealOneRow.holds Tryz.pinned (OpenSpec.ofChange stealOneSpec)

/-- ITS FALSE NEIGHBOUR: 'it returns false'. Refute it at one input. -/
def stealOneWrong : ChangeSpec := { name := "stealOne", fn := fun _ => fun
  | [d1, d2, d3, d4, d5] => { results := [.lit (.bool false)], args := [d1, d2, d3, d4, d5] }
  | _ => none }
def StealOneWrongFalsely : Prop := stealOneRow.holds Tryz.pinned (OpenSpec.ofChange stealOneWrong)

/-- 'scrimlaw13.StealTurns': WHATEVER THE INPUT: true; the input reads as it did. -/
def stealTurnsSpec : ChangeSpec := { name := "stealTurns", fn := fun _ => fun
  | [d1, d2, d3, d4, d5, d6] => { results := [.lit (.bool true)], args := [d1, d2, d3, d4, d5, d6] }
  | _ => none }
def stealTurnsRow : OpenClaim := { program := "ytjoniepofpcolaagreatdoor", sum := "ac1aa989a60209aeb5ddee4a33c1bff6f5c1023c2a23e12efdcaab0f1a69d79d", func := "scrim/scrimlaw13.StealTurns", spec := "stealTurns", unfollowed := true, recurses := true, named := ["scrim/box.ones"], apart := false, laid := [("scrim/box.ones", laid_scrim_box_ones)] }
def StealTurnsSaid : Prop := stealTurnsRow.holds Tryz.pinned (OpenSpec.ofChange stealTurnsSpec)

/-- ITS FALSE NEIGHBOUR: 'it returns false'. Refute it at one input. -/
def stealTurnsWrong : ChangeSpec := { name := "stealTurns", fn := fun _ => fun
  | [d1, d2, d3, d4, d5, d6] => { results := [.lit (.bool false)], args := [d1, d2, d3, d4, d5, d6] }
  | _ => none }
def StealTurnsWrongFalsely : Prop := stealTurnsRow.holds Tryz.pinned (OpenSpec.ofChange stealTurnsWrong)

/-- 'scrimlaw13.StealSpoilt': WHATEVER THE INPUT: true; the input reads as it did. -/
def stealSpoiltSpec : ChangeSpec := { name := "stealSpoilt", fn := fun _ => fun
  | [d1, d2, d3, d4, d5, d6, d7, d8] => { results := [.lit (.bool true)], args := [d1, d2, d3, d4, d5, d6, d7, d8] }
  | _ => none }
def stealSpoiltRow : OpenClaim := { program := "ytjoniepofpcolaagreatdoor", sum := "ac1aa989a60209aeb5ddee4a33c1bff6f5c1023c2a23e12efdcaab0f1a69d79d", func := "scrim/scrimlaw13.StealSpoilt", spec := "stealSpoilt", unfollowed := true, recurses := true, named := ["scrim/box.ones"], apart := false, laid := [("scrim/box.ones", laid_scrim_box_ones)] }
def StealSpoiltSaid : Prop := stealSpoiltRow.holds Tryz.pinned (OpenSpec.ofChange stealSpoiltSpec)

/-- ITS FALSE NEIGHBOUR: 'it returns false'. Refute it at one input. -/
def stealSpoiltWrong : ChangeSpec := { name := "stealSpoilt", fn := fun _ => fun
  | [d1, d2, d3, d4, d5, d6, d7, d8] => { results := [.lit (.bool false)], args := [d1, d2, d3, d4, d5, d6, d7, d8] }
  | _ => none }
def StealSpoiltWrongFalsely : Prop := stealSpoiltRow.holds Tryz.pinned (OpenSpec.ofChange stealSpoiltWrong)

/-- 'scrimlaw12.ModesSteps': WHATEVER THE INPUT: true; the input reads as it did. -/
def modesStepsSpec : ChangeSpec := { name := "modesSteps", fn := fun _ => fun
  | [d1, d2, d3, d4, d5, d6, d7, d8] => { results := [.lit (.bool true)], args := [d1, d2, d3, d4, d5, d6, d7, d8] }
  | _ => none }
def modesStepsRow : OpenClaim := { program := "ytjoniepofpcolaagreatdoor", sum := "ac1aa989a60209aeb5ddee4a33c1bff6f5c1023c2a23e12efdcaab0f1a69d79d", func := "scrim/scrimlaw12.ModesSteps", spec := "modesSteps", unfollowed := true, recurses := true, named := ["scrim/box.ones"], apart := false, laid := [("scrim/box.ones", laid_scrim_box_ones)] }
def ModesStepsSaid : Prop := modesStepsRow.holds Tryz.pinned (OpenSpec.ofChange modesStepsSpec)

/-- ITS FALSE NEIGHBOUR: 'it returns false'. Refute it at one input. -/
def modesStepsWrong : ChangeSpec := { name := "modesSteps", fn := fun _ => fun
  | [d1, d2, d3, d4, d5, d6, d7, d8] => { results := [.lit (.bool false)], args := [d1, d2, d3, d4, d5, d6, d7, d8] }
  | _ => none }
def ModesStepsWrongFalsely : Prop := modesStepsRow.holds Tryz.pinned (OpenSpec.ofChange modesStepsWrong)

/-- 'scrimlaw12.ModesCut': WHATEVER THE INPUT: true; the input reads as it did. -/
def modesCutSpec : ChangeSpec := { name := "modesCut", fn := fun _ => fun
  | [d1, d2, d3, d4, d5, d6, d7, d8] => { results := [.lit (.bool true)], args := [d1, d2, d3, d4, d5, d6, d7, d8] }
  | _ => none }
def modesCutRow : OpenClaim := { program := "ytjoniepofpcolaagreatdoor", sum := "ac1aa989a60209aeb5ddee4a33c1bff6f5c1023c2a23e12efdcaab0f1a69d79d", func := "scrim/scrimlaw12.ModesCut", spec := "modesCut", unfollowed := true, recurses := true, named := ["scrim/box.ones"], apart := false, laid := [("scrim/box.ones", laid_scrim_box_ones)] }
def ModesCutSaid : Prop := modesCutRow.holds Tryz.pinned (OpenSpec.ofChange modesCutSpec)

/-- ITS FALSE NEIGHBOUR: 'it returns false'. Refute it at one input. -/
def modesCutWrong : ChangeSpec := { name := "modesCut", fn := fun _ => fun
  | [d1, d2, d3, d4, d5, d6, d7, d8] => { results := [.lit (.bool false)], args := [d1, d2, d3, d4, d5, d6, d7, d8] }
  | _ => none }
def ModesCutWrongFalsely : Prop := modesCutRow.holds Tryz.pinned (OpenSpec.ofChange modesCutWrong)

/-- 'scrimlaw12.ModesBack': WHATEVER THE INPUT: true; the input reads as it did. -/
def modesBackSpec : ChangeSpec := { name := "modesBack", fn := fun _ => fun
  | [d1, d2, d3, d4, d5, d6, d7] => { results := [.lit (.bool true)], args := [d1, d2, d3, d4, d5, d6, d7] }
  | _ => none }
def modesBackRow : OpenClaim := { program := "ytjoniepofpcolaagreatdoor", sum := "ac1aa989a60209aeb5ddee4a33c1bff6f5c1023c2a23e12efdcaab0f1a69d79d", func := "scrim/scrimlaw12.ModesBack", spec := "modesBack", unfollowed := true, recurses := true, named := ["scrim/box.ones"], apart := false, laid := [("scrim/box.ones", laid_scrim_box_ones)] }
def ModesBackSaid : Prop := modesBackRow.holds Tryz.pinned (OpenSpec.ofChange modesBackSpec)

/-- ITS FALSE NEIGHBOUR: 'it returns false'. Refute it at one input. -/
def modesBackWrong : ChangeSpec := { name := "modesBack", fn := fun _ => fun
  | [d1, d2, d3, d4, d5, d6, d7] => { results := [.lit (.bool false)], args := [d1, d2, d3, d4, d5, d6, d7] }
  | _ => none }
def ModesBackWrongFalsely : Prop := modesBackRow.holds Tryz.pinned (OpenSpec.ofChange modesBackWrong)

/-- 'scrimlaw12.ModesErrs': WHATEVER THE INPUT: true; the input reads as it did. -/
def modesErrsSpec : ChangeSpec := { name := "modesErrs", fn := fun _ => fun
  | [d1, d2, d3, d4, d5, d6, d7] => { results := [.lit (.bool true)], args := [d1, d2, d3, d4, d5, d6, d7] }
  | _ => none }
def modesErrsRow : OpenClaim := { program := "ytjoniepofpcolaagreatdoor", sum := "ac1aa989a60209aeb5ddee4a33c1bff6f5c1023c2a23e12efdcaab0f1a69d79d", func := "scrim/scrimlaw12.ModesErrs", spec := "modesErrs", unfollowed := true, recurses := true, named := ["scrim/box.ones"], apart := false, laid := [("scrim/box.ones", laid_scrim_box_ones)] }
def ModesErrsSaid : Prop := modesErrsRow.holds Tryz.pinned (OpenSpec.ofChange modesErrsSpec)

/-- ITS FALSE NEIGHBOUR: 'it returns false'. Refute it at one input. -/
def modesErrsWrong : ChangeSpec := { name := "modesErrs", fn := fun _ => fun
  | [d1, d2, d3, d4, d5, d6, d7] => { results := [.lit (.bool false)], args := [d1, d2, d3, d4, d5, d6, d7] }
  | _ => none }
def ModesErrsWrongFalsely : Prop := modesErrsRow.holds Tryz.pinned (OpenSpec.ofChange modesErrsWrong)

/-- 'scrimlaw12.ModesStreams': WHATEVER THE INPUT: true; the input reads as it did. -/
def modesStreamsSpec : ChangeSpec := { name := "modesStreams", fn := fun _ => fun
  | [d1, d2, d3, d4, d5, d6, d7] => { results := [.lit (.bool true)], args := [d1, d2, d3, d4, d5, d6, d7] }
  | _ => none }
def modesStreamsRow : OpenClaim := { program := "ytjoniepofpcolaagreatdoor", sum := "ac1aa989a60209aeb5ddee4a33c1bff6f5c1023c2a23e12efdcaab0f1a69d79d", func := "scrim/scrimlaw12.ModesStreams", spec := "modesStreams", unfollowed := true, recurses := true, named := ["scrim/box.ones"], apart := false, laid := [("scrim/box.ones", laid_scrim_box_ones)] }
def ModesStreamsSaid : Prop := modesStreamsRow.holds Tryz.pinned (OpenSpec.ofChange modesStreamsSpec)

/-- ITS FALSE NEIGHBOUR: 'it returns false'. Refute it at one input. -/
def modesStreamsWrong : ChangeSpec := { name := "modesStreams", fn := fun _ => fun
  | [d1, d2, d3, d4, d5, d6, d7] => { results := [.lit (.bool false)], args := [d1, d2, d3, d4, d5, d6, d7] }
  | _ => none }
def ModesStreamsWrongFalsely : Prop := modesStreamsRow.holds Tryz.pinned (OpenSpec.ofChange modesStreamsWrong)

/- THE SECOND FORM. 'bulk': how many values and letters a reading holds, each counted each time it is reached (what is shared counts as often as it is met; a slice's spare places count too). A statement '..UptoSaid' is the law's where the arguments, and the package variables that the reading takes, are together of bulk at most 1048576: NARROWER than '..Said'. Prove '..Said' where nothing that the law and all that it calls make is longer than what came in: it says more and counts as full. Else prove '..UptoSaid'. A law counts once. -/
mutual
def uptoBulk {H : Type} : DataW H → Nat
  | .lit (.string bytes) => bytes.length + 1
  | .lit _ => 1
  | .nil => 1
  | .ptr d => uptoBulk d + 1
  | .slice elems spare => uptoBulkAll elems + uptoBulkAll spare + 1
  | .agg parts => uptoBulkAll parts + 1
  | .iface _ d => uptoBulk d + 1
  | .map entries => uptoBulkEntries entries + 1
  | .held _ => 1
def uptoBulkAll {H : Type} : List (DataW H) → Nat
  | [] => 0
  | d :: r => uptoBulk d + uptoBulkAll r
def uptoBulkEntries {H : Type} : List (Lit × DataW H) → Nat
  | [] => 0
  | x :: r => uptoBulkEntry x + uptoBulkEntries r
def uptoBulkEntry {H : Type} : Lit × DataW H → Nat
  | (.string bytes, d) => bytes.length + uptoBulk d + 1
  | (_, d) => uptoBulk d + 1
 end
def uptoSmall : (H : Type) → List (DataW H) → Bool := fun _ ds => decide (uptoBulkAll ds ≤ 1048576)
def OpenSpec.upto (s : _root_.Go.ChangeSpec) : _root_.Go.OpenSpec := { _root_.Go.OpenSpec.ofChange s with cond := some uptoSmall }

/-- 'scrimlaw13.StealTails', WHERE WHAT IT READS IS OF BULK AT MOST 1048576: true; the input reads as it did. -/
def stealTailsUptoRow : OpenClaim := { program := "ytjoniepofpcolaagreatdoor", sum := "ac1aa989a60209aeb5ddee4a33c1bff6f5c1023c2a23e12efdcaab0f1a69d79d", func := "scrim/scrimlaw13.StealTails", spec := "stealTails", unfollowed := true, recurses := true, named := ["scrim/box.ones"], apart := false, laid := [("scrim/box.ones", laid_scrim_box_ones)], narrowed := true }
def StealTailsUptoSaid : Prop := stealTailsUptoRow.holds Tryz.pinned (OpenSpec.upto stealTailsSpec)

/-- 'scrimlaw13.StealBack', WHERE WHAT IT READS IS OF BULK AT MOST 1048576: true; the input reads as it did. -/
def stealBackUptoRow : OpenClaim := { program := "ytjoniepofpcolaagreatdoor", sum := "ac1aa989a60209aeb5ddee4a33c1bff6f5c1023c2a23e12efdcaab0f1a69d79d", func := "scrim/scrimlaw13.StealBack", spec := "stealBack", unfollowed := true, recurses := true, named := ["scrim/box.ones"], apart := false, laid := [("scrim/box.ones", laid_scrim_box_ones)], narrowed := true }
def StealBackUptoSaid : Prop := stealBackUptoRow.holds Tryz.pinned (OpenSpec.upto stealBackSpec)

/-- 'scrimlaw13.StealErrs', WHERE WHAT IT READS IS OF BULK AT MOST 1048576: true; the input reads as it did. -/
def stealErrsUptoRow : OpenClaim := { program := "ytjoniepofpcolaagreatdoor", sum := "ac1aa989a60209aeb5ddee4a33c1bff6f5c1023c2a23e12efdcaab0f1a69d79d", func := "scrim/scrimlaw13.StealErrs", spec := "stealErrs", unfollowed := true, recurses := true, named := ["scrim/box.ones"], apart := false, laid := [("scrim/box.ones", laid_scrim_box_ones)], narrowed := true }
def StealErrsUptoSaid : Prop := stealErrsUptoRow.holds Tryz.pinned (OpenSpec.upto stealErrsSpec)

/-- 'scrimlaw13.StealOrder', WHERE WHAT IT READS IS OF BULK AT MOST 1048576: true; the input reads as it did. -/
def stealOrderUptoRow : OpenClaim := { program := "ytjoniepofpcolaagreatdoor", sum := "ac1aa989a60209aeb5ddee4a33c1bff6f5c1023c2a23e12efdcaab0f1a69d79d", func := "scrim/scrimlaw13.StealOrder", spec := "stealOrder", unfollowed := true, recurses := true, named := ["scrim/box.ones"], apart := false, laid := [("scrim/box.ones", laid_scrim_box_ones)], narrowed := true }
def StealOrderUptoSaid : Prop := stealOrderUptoRow.holds Tryz.pinned (OpenSpec.upto stealOrderSpec)

/-- 'scrimlaw13.StealOne', WHERE WHAT IT READS IS OF BULK AT MOST 1048576: true; the input reads as it did. -/
def stealOneUptoRow : OpenClaim := { program := "ytjoniepofpcolaagreatdoor", sum := "ac1aa989a60209aeb5ddee4a33c1bff6f5c1023c2a23e12efdcaab0f1a69d79d", func := "scrim/scrimlaw13.StealOne", spec := "stealOne", unfollowed := true, recurses := true, named := ["scrim/box.ones"], apart := false, laid := [("scrim/box.ones", laid_scrim_box_ones)], narrowed := true }
def StealOneUptoSaid : Prop := stealOneUptoRow.holds Tryz.pinned (OpenSpec.upto stealOneSpec)

/-- 'scrimlaw13.StealTurns', WHERE WHAT IT READS IS OF BULK AT MOST 1048576: true; the input reads as it did. -/
def stealTurnsUptoRow : OpenClaim := { program := "ytjoniepofpcolaagreatdoor", sum := "ac1aa989a60209aeb5ddee4a33c1bff6f5c1023c2a23e12efdcaab0f1a69d79d", func := "scrim/scrimlaw13.StealTurns", spec := "stealTurns", unfollowed := true, recurses := true, named := ["scrim/box.ones"], apart := false, laid := [("scrim/box.ones", laid_scrim_box_ones)], narrowed := true }
def StealTurnsUptoSaid : Prop := stealTurnsUptoRow.holds Tryz.pinned (OpenSpec.upto stealTurnsSpec)

/-- 'scrimlaw13.StealSpoilt', WHERE WHAT IT READS IS OF BULK AT MOST 1048576: true; the input reads as it did. -/
def stealSpoiltUptoRow : OpenClaim := { program := "ytjoniepofpcolaagreatdoor", sum := "ac1aa989a60209aeb5ddee4a33c1bff6f5c1023c2a23e12efdcaab0f1a69d79d", func := "scrim/scrimlaw13.StealSpoilt", spec := "stealSpoilt", unfollowed := true, recurses := true, named := ["scrim/box.ones"], apart := false, laid := [("scrim/box.ones", laid_scrim_box_ones)], narrowed := true }
def StealSpoiltUptoSaid : Prop := stealSpoiltUptoRow.holds Tryz.pinned (OpenSpec.upto stealSpoiltSpec)

/-- 'scrimlaw12.ModesSteps', WHERE WHAT IT READS IS OF BULK AT MOST 1048576: true; the input reads as it did. -/
def modesStepsUptoRow : OpenClaim := { program := "ytjoniepofpcolaagreatdoor", sum := "ac1aa989a60209aeb5ddee4a33c1bff6f5c1023c2a23e12efdcaab0f1a69d79d", func := "scrim/scrimlaw12.ModesSteps", spec := "modesSteps", unfollowed := true, recurses := true, named := ["scrim/box.ones"], apart := false, laid := [("scrim/box.ones", laid_scrim_box_ones)], narrowed := true }
def ModesStepsUptoSaid : Prop := modesStepsUptoRow.holds Tryz.pinned (OpenSpec.upto modesStepsSpec)

/-- 'scrimlaw12.ModesCut', WHERE WHAT IT READS IS OF BULK AT MOST 1048576: true; the input reads as it did. -/
def modesCutUptoRow : OpenClaim := { program := "ytjoniepofpcolaagreatdoor", sum := "ac1aa989a60209aeb5ddee4a33c1bff6f5c1023c2a23e12efdcaab0f1a69d79d", func := "scrim/scrimlaw12.ModesCut", spec := "modesCut", unfollowed := true, recurses := true, named := ["scrim/box.ones"], apart := false, laid := [("scrim/box.ones", laid_scrim_box_ones)], narrowed := true }
def ModesCutUptoSaid : Prop := modesCutUptoRow.holds Tryz.pinned (OpenSpec.upto modesCutSpec)

/-- 'scrimlaw12.ModesBack', WHERE WHAT IT READS IS OF BULK AT MOST 1048576: true; the input reads as it did. -/
def modesBackUptoRow : OpenClaim := { program := "ytjoniepofpcolaagreatdoor", sum := "ac1aa989a60209aeb5ddee4a33c1bff6f5c1023c2a23e12efdcaab0f1a69d79d", func := "scrim/scrimlaw12.ModesBack", spec := "modesBack", unfollowed := true, recurses := true, named := ["scrim/box.ones"], apart := false, laid := [("scrim/box.ones", laid_scrim_box_ones)], narrowed := true }
def ModesBackUptoSaid : Prop := modesBackUptoRow.holds Tryz.pinned (OpenSpec.upto modesBackSpec)

/-- 'scrimlaw12.ModesErrs', WHERE WHAT IT READS IS OF BULK AT MOST 1048576: true; the input reads as it did. -/
def modesErrsUptoRow : OpenClaim := { program := "ytjoniepofpcolaagreatdoor", sum := "ac1aa989a60209aeb5ddee4a33c1bff6f5c1023c2a23e12efdcaab0f1a69d79d", func := "scrim/scrimlaw12.ModesErrs", spec := "modesErrs", unfollowed := true, recurses := true, named := ["scrim/box.ones"], apart := false, laid := [("scrim/box.ones", laid_scrim_box_ones)], narrowed := true }
def ModesErrsUptoSaid : Prop := modesErrsUptoRow.holds Tryz.pinned (OpenSpec.upto modesErrsSpec)

/-- 'scrimlaw12.ModesStreams', WHERE WHAT IT READS IS OF BULK AT MOST 1048576: true; the input reads as it did. -/
def modesStreamsUptoRow : OpenClaim := { program := "ytjoniepofpcolaagreatdoor", sum := "ac1aa989a60209aeb5ddee4a33c1bff6f5c1023c2a23e12efdcaab0f1a69d79d", func := "scrim/scrimlaw12.ModesStreams", spec := "modesStreams", unfollowed := true, recurses := true, named := ["scrim/box.ones"], apart := false, laid := [("scrim/box.ones", laid_scrim_box_ones)], narrowed := true }
def ModesStreamsUptoSaid : Prop := modesStreamsUptoRow.holds Tryz.pinned (OpenSpec.upto modesStreamsSpec)

end Rows
end Go.Proofs.YtjoniepofpcolaaGreatDoor
