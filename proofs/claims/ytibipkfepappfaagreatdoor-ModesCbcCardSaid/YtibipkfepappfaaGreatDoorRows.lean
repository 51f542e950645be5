/-
  NARROWER THAN 'FOR EVERY INPUT', by the rows' own cells (each row's printed sentence says how): ModesBack: laid · ModesErrs: laid · ModesStreams: laid · ModesCounts: laid · ModesHeals: laid · ModesEmpty: laid · ModesOfb: laid · ModesCfb: laid · ModesCbc: laid.
  DERIVED. THE GIVEN ROWS OF THIS SEAT. 9 by the template 'for every input the law returns true; each argument reads behind the call as it read before'; 0 by the template 'total and deterministic' (their statements: YtibipkfepappfaaGreatDoorTotals.lean).
  GIVEN WITH THE SEED: the statements are not yours to turn. If you find one false, say at which input.
  Laid BY PROGRAM, IN A SANDBOX (cutbox-rows.mjs): the forced cells as the released guide's own fill.sh prints them over the translation 6722ff7c870e7469… (all of the seat's roots in one cut). By AI agents, Wed Nov 11 2026. No macro, syntax, notation, axiom, sorry.
-/
import Derived.Test.YtibipkfepappfaaGreatDoorChecked
import GoSem.Claim
import GoSem.ClaimJoined
import GoSem.ClaimMapViews
import Derived.JoinedTies
import Derived.KernelRfl
namespace Go.Proofs.YtibipkfepappfaaGreatDoor
/- THE CELL 'sum', in the pinned program and in every row, IS THE sha256 OF THE DUMP (.gsa) THAT YtibipkfepappfaaGreatDoorProg.lean LOADS. Nothing in Lean hashes anything: it is a label: what it is worth is what the hold of that sum in a sandbox is worth. -/
noncomputable def Tryz.pinned : Pinned := { name := "ytibipkfepappfaagreatdoor", sum := "6722ff7c870e746943ef4c10fe0e3ee53d849a9cc269494a55eb8349a1c32a25", checked := Tryz.checked }
namespace Rows
def none {H : Type} : Left H := { results := [], args := [] }

/- WHAT THE LISTED PACKAGE-LEVEL VARIABLES READ AS WHEN THE CALL BEGINS. Each datum BY PROGRAM (the guide's laid-datum.mjs) off the statement by which the dump's own 'gosem.cut.vars' lays the variable. In a bare row this is a premise. The card (YtibipkfepappfaaGreatDoorCards.lean) ties it to the program's text. -/
def laid_scrim_box_ones {H : Type} : DataW H := .agg [.lit (.int .u8 1), .lit (.int .u8 2), .lit (.int .u8 4), .lit (.int .u8 8), .lit (.int .u8 16), .lit (.int .u8 32), .lit (.int .u8 64), .lit (.int .u8 128)]

/-- 'scrimlaw12.ModesBack': WHATEVER THE INPUT: true; the input reads as it did. -/
def modesBackSpec : ChangeSpec := { name := "modesBack", fn := fun _ => fun
  | [d1, d2, d3, d4, d5, d6, d7] => { results := [.lit (.bool true)], args := [d1, d2, d3, d4, d5, d6, d7] }
  | _ => none }
def modesBackRow : OpenClaim := { program := "ytibipkfepappfaagreatdoor", sum := "6722ff7c870e746943ef4c10fe0e3ee53d849a9cc269494a55eb8349a1c32a25", func := "scrim/scrimlaw12.ModesBack", spec := "modesBack", unfollowed := true, recurses := true, named := ["scrim/box.ones"], apart := false, laid := [("scrim/box.ones", laid_scrim_box_ones)] }
def ModesBackSaid : Prop := modesBackRow.holds Tryz.pinned (OpenSpec.ofChange modesBackSpec)

/-- ITS FALSE NEIGHBOUR: 'it returns false'. Refute it at one input. -/
def modesBackWrong : ChangeSpec := { name := "modesBack", fn := fun _ => fun
  | [d1, d2, d3, d4, d5, d6, d7] => { results := [.lit (.bool false)], args := [d1, d2, d3, d4, d5, d6, d7] }
  | _ => none }
def ModesBackWrongFalsely : Prop := modesBackRow.holds Tryz.pinned (OpenSpec.ofChange modesBackWrong)

/-- 'scrimlaw12.ModesErrs': WHATEVER THE INPUT: true; the input reads as it did. -/
def modesErrsSpec : ChangeSpec := { name := "modesErrs", fn := fun _ => fun
  | [d1, d2, d3, d4, d5, d6, d7] => { results := [.lit (.bool true)], args := [d1, d2, d3, d4, d5, d6, d7] }
  | _ => none }
def modesErrsRow : OpenClaim := { program := "ytibipkfepappfaagreatdoor", sum := "6722ff7c870e746943ef4c10fe0e3ee53d849a9cc269494a55eb8349a1c32a25", func := "scrim/scrimlaw12.ModesErrs", spec := "modesErrs", unfollowed := true, recurses := true, named := ["scrim/box.ones"], apart := false, laid := [("scrim/box.ones", laid_scrim_box_ones)] }
def ModesErrsSaid : Prop := modesErrsRow.holds Tryz.pinned (OpenSpec.ofChange modesErrsSpec)

/-- ITS FALSE NEIGHBOUR: 'it returns false'. Refute it at one input. -/
def modesErrsWrong : ChangeSpec := { name := "modesErrs", fn := fun _ => fun
  | [d1, d2, d3, d4, d5, d6, d7] => { results := [.lit (.bool false)], args := [d1, d2, d3, d4, d5, d6, d7] }
  | _ => none }
def ModesErrsWrongFalsely : Prop := modesErrsRow.holds Tryz.pinned (OpenSpec.ofChange modesErrsWrong)

/-- 'scrimlaw12.ModesStreams': WHATEVER THE INPUT: true; the input reads as it did. -/
def modesStreamsSpec : ChangeSpec := { name := "modesStreams", fn := fun _ => fun
  | [d1, d2, d3, d4, d5, d6, d7] => { results := [.lit (.bool true)], args := [d1, d2, d3, d4, d5, d6, d7] }
  | _ => none }
def modesStreamsRow : OpenClaim := { program := "ytibipkfepappfaagreatdoor", sum := "6722ff7c870e746943ef4c10fe0e3ee53d849a9cc269494a55eb8349a1c32a25", func := "scrim/scrimlaw12.ModesStreams", spec := "modesStreams", unfollowed := true, recurses := true, named := ["scrim/box.ones"], apart := false, laid := [("scrim/box.ones", laid_scrim_box_ones)] }
def ModesStreamsSaid : Prop := modesStreamsRow.holds Tryz.pinned (OpenSpec.ofChange modesStreamsSpec)

/-- ITS FALSE NEIGHBOUR: 'it returns false'. Refute it at one input. -/
def modesStreamsWrong : ChangeSpec := { name := "modesStreams", fn := fun _ => fun
  | [d1, d2, d3, d4, d5, d6, d7] => { results := [.lit (.bool false)], args := [d1, d2, d3, d4, d5, d6, d7] }
  | _ => none }
def ModesStreamsWrongFalsely : Prop := modesStreamsRow.holds Tryz.pinned (OpenSpec.ofChange modesStreamsWrong)

/-- 'scrimlaw12.ModesCounts': WHATEVER THE INPUT: true; the input reads as it did. -/
def modesCountsSpec : ChangeSpec := { name := "modesCounts", fn := fun _ => fun
  | [d1, d2, d3, d4, d5] => { results := [.lit (.bool true)], args := [d1, d2, d3, d4, d5] }
  | _ => none }
def modesCountsRow : OpenClaim := { program := "ytibipkfepappfaagreatdoor", sum := "6722ff7c870e746943ef4c10fe0e3ee53d849a9cc269494a55eb8349a1c32a25", func := "scrim/scrimlaw12.ModesCounts", spec := "modesCounts", unfollowed := true, recurses := true, named := ["scrim/box.ones"], apart := false, laid := [("scrim/box.ones", laid_scrim_box_ones)] }
def ModesCountsSaid : Prop := modesCountsRow.holds Tryz.pinned (OpenSpec.ofChange modesCountsSpec)

/-- ITS FALSE NEIGHBOUR: 'it returns false'. Refute it at one input. -/
def modesCountsWrong : ChangeSpec := { name := "modesCounts", fn := fun _ => fun
  | [d1, d2, d3, d4, d5] => { results := [.lit (.bool false)], args := [d1, d2, d3, d4, d5] }
  | _ => none }
def ModesCountsWrongFalsely : Prop := modesCountsRow.holds Tryz.pinned (OpenSpec.ofChange modesCountsWrong)

/-- 'scrimlaw12.ModesHeals': WHATEVER THE INPUT: true; the input reads as it did. -/
def modesHealsSpec : ChangeSpec := { name := "modesHeals", fn := fun _ => fun
  | [d1, d2, d3, d4, d5, d6, d7, d8] => { results := [.lit (.bool true)], args := [d1, d2, d3, d4, d5, d6, d7, d8] }
  | _ => none }
def modesHealsRow : OpenClaim := { program := "ytibipkfepappfaagreatdoor", sum := "6722ff7c870e746943ef4c10fe0e3ee53d849a9cc269494a55eb8349a1c32a25", func := "scrim/scrimlaw12.ModesHeals", spec := "modesHeals", unfollowed := true, recurses := true, named := ["scrim/box.ones"], apart := false, laid := [("scrim/box.ones", laid_scrim_box_ones)] }
def ModesHealsSaid : Prop := modesHealsRow.holds Tryz.pinned (OpenSpec.ofChange modesHealsSpec)

/-- ITS FALSE NEIGHBOUR: 'it returns false'. Refute it at one input. -/
def modesHealsWrong : ChangeSpec := { name := "modesHeals", fn := fun _ => fun
  | [d1, d2, d3, d4, d5, d6, d7, d8] => { results := [.lit (.bool false)], args := [d1, d2, d3, d4, d5, d6, d7, d8] }
  | _ => none }
def ModesHealsWrongFalsely : Prop := modesHealsRow.holds Tryz.pinned (OpenSpec.ofChange modesHealsWrong)

/-- 'scrimlaw12.ModesEmpty': WHATEVER THE INPUT: true; the input reads as it did. -/
def modesEmptySpec : ChangeSpec := { name := "modesEmpty", fn := fun _ => fun
  | [d1, d2, d3, d4, d5, d6, d7, d8] => { results := [.lit (.bool true)], args := [d1, d2, d3, d4, d5, d6, d7, d8] }
  | _ => none }
def modesEmptyRow : OpenClaim := { program := "ytibipkfepappfaagreatdoor", sum := "6722ff7c870e746943ef4c10fe0e3ee53d849a9cc269494a55eb8349a1c32a25", func := "scrim/scrimlaw12.ModesEmpty", spec := "modesEmpty", unfollowed := true, recurses := true, named := ["scrim/box.ones"], apart := false, laid := [("scrim/box.ones", laid_scrim_box_ones)] }
def ModesEmptySaid : Prop := modesEmptyRow.holds Tryz.pinned (OpenSpec.ofChange modesEmptySpec)

/-- ITS FALSE NEIGHBOUR: 'it returns false'. Refute it at one input. -/
def modesEmptyWrong : ChangeSpec := { name := "modesEmpty", fn := fun _ => fun
  | [d1, d2, d3, d4, d5, d6, d7, d8] => { results := [.lit (.bool false)], args := [d1, d2, d3, d4, d5, d6, d7, d8] }
  | _ => none }
def ModesEmptyWrongFalsely : Prop := modesEmptyRow.holds Tryz.pinned (OpenSpec.ofChange modesEmptyWrong)

/-- 'scrimlaw12.ModesOfb': WHATEVER THE INPUT: true; the input reads as it did. -/
def modesOfbSpec : ChangeSpec := { name := "modesOfb", fn := fun _ => fun
  | [d1, d2, d3, d4, d5] => { results := [.lit (.bool true)], args := [d1, d2, d3, d4, d5] }
  | _ => none }
def modesOfbRow : OpenClaim := { program := "ytibipkfepappfaagreatdoor", sum := "6722ff7c870e746943ef4c10fe0e3ee53d849a9cc269494a55eb8349a1c32a25", func := "scrim/scrimlaw12.ModesOfb", spec := "modesOfb", unfollowed := true, recurses := true, named := ["scrim/box.ones"], apart := false, laid := [("scrim/box.ones", laid_scrim_box_ones)] }
def ModesOfbSaid : Prop := modesOfbRow.holds Tryz.pinned (OpenSpec.ofChange modesOfbSpec)

/-- ITS FALSE NEIGHBOUR: 'it returns false'. Refute it at one input. -/
def modesOfbWrong : ChangeSpec := { name := "modesOfb", fn := fun _ => fun
  | [d1, d2, d3, d4, d5] => { results := [.lit (.bool false)], args := [d1, d2, d3, d4, d5] }
  | _ => none }
def ModesOfbWrongFalsely : Prop := modesOfbRow.holds Tryz.pinned (OpenSpec.ofChange modesOfbWrong)

/-- 'scrimlaw12.ModesCfb': WHATEVER THE INPUT: true; the input reads as it did. -/
def modesCfbSpec : ChangeSpec := { name := "modesCfb", fn := fun _ => fun
  | [d1, d2, d3, d4, d5, d6] => { results := [.lit (.bool true)], args := [d1, d2, d3, d4, d5, d6] }
  | _ => none }
def modesCfbRow : OpenClaim := { program := "ytibipkfepappfaagreatdoor", sum := "6722ff7c870e746943ef4c10fe0e3ee53d849a9cc269494a55eb8349a1c32a25", func := "scrim/scrimlaw12.ModesCfb", spec := "modesCfb", unfollowed := true, recurses := true, named := ["scrim/box.ones"], apart := false, laid := [("scrim/box.ones", laid_scrim_box_ones)] }
def ModesCfbSaid : Prop := modesCfbRow.holds Tryz.pinned (OpenSpec.ofChange modesCfbSpec)

/-- ITS FALSE NEIGHBOUR: 'it returns false'. Refute it at one input. -/
def modesCfbWrong : ChangeSpec := { name := "modesCfb", fn := fun _ => fun
  | [d1, d2, d3, d4, d5, d6] => { results := [.lit (.bool false)], args := [d1, d2, d3, d4, d5, d6] }
  | _ => none }
def ModesCfbWrongFalsely : Prop := modesCfbRow.holds Tryz.pinned (OpenSpec.ofChange modesCfbWrong)

/-- 'scrimlaw12.ModesCbc': WHATEVER THE INPUT: true; the input reads as it did. -/
def modesCbcSpec : ChangeSpec := { name := "modesCbc", fn := fun _ => fun
  | [d1, d2, d3, d4, d5, d6] => { results := [.lit (.bool true)], args := [d1, d2, d3, d4, d5, d6] }
  | _ => none }
def modesCbcRow : OpenClaim := { program := "ytibipkfepappfaagreatdoor", sum := "6722ff7c870e746943ef4c10fe0e3ee53d849a9cc269494a55eb8349a1c32a25", func := "scrim/scrimlaw12.ModesCbc", spec := "modesCbc", unfollowed := true, recurses := true, named := ["scrim/box.ones"], apart := false, laid := [("scrim/box.ones", laid_scrim_box_ones)] }
def ModesCbcSaid : Prop := modesCbcRow.holds Tryz.pinned (OpenSpec.ofChange modesCbcSpec)

/-- ITS FALSE NEIGHBOUR: 'it returns false'. Refute it at one input. -/
def modesCbcWrong : ChangeSpec := { name := "modesCbc", fn := fun _ => fun
  | [d1, d2, d3, d4, d5, d6] => { results := [.lit (.bool false)], args := [d1, d2, d3, d4, d5, d6] }
  | _ => none }
def ModesCbcWrongFalsely : Prop := modesCbcRow.holds Tryz.pinned (OpenSpec.ofChange modesCbcWrong)

/- THE SECOND FORM. 'bulk': how many values and letters a reading holds, each counted each time it is reached (what is shared counts as often as it is met; a slice's spare places count too). A statement '..UptoSaid' is the law's where the arguments, and the package variables that the reading takes, are together of bulk at most 1048576: NARROWER than '..Said'. Prove '..Said' where nothing that the law and all that it calls make is longer than what came in: it says more and counts as full. Else prove '..UptoSaid'. A law counts once. -/
mutual
def uptoBulk {H : Type} : DataW H → Nat
  | .lit (.string bytes) => bytes.length + 1
  | .lit _ => 1
  | .nil => 1
  | .ptr d => uptoBulk d + 1
  | .slice elems spare => uptoBulkAll elems + uptoBulkAll spare + 1
  | .agg parts => uptoBulkAll parts + 1
  | .iface _ d => uptoBulk d + 1
  | .map entries => uptoBulkEntries entries + 1
  | .held _ => 1
def uptoBulkAll {H : Type} : List (DataW H) → Nat
  | [] => 0
  | d :: r => uptoBulk d + uptoBulkAll r
def uptoBulkEntries {H : Type} : List (Lit × DataW H) → Nat
  | [] => 0
  | x :: r => uptoBulkEntry x + uptoBulkEntries r
def uptoBulkEntry {H : Type} : Lit × DataW H → Nat
  | (.string bytes, d) => bytes.length + uptoBulk d + 1
  | (_, d) => uptoBulk d + 1
 end
def uptoSmall : (H : Type) → List (DataW H) → Bool := fun _ ds => decide (uptoBulkAll ds ≤ 1048576)
def OpenSpec.upto (s : _root_.Go.ChangeSpec) : _root_.Go.OpenSpec := { _root_.Go.OpenSpec.ofChange s with cond := some uptoSmall }

/-- 'scrimlaw12.ModesBack', WHERE WHAT IT READS IS OF BULK AT MOST 1048576: true; the input reads as it did. -/
def modesBackUptoRow : OpenClaim := { program := "ytibipkfepappfaagreatdoor", sum := "6722ff7c870e746943ef4c10fe0e3ee53d849a9cc269494a55eb8349a1c32a25", func := "scrim/scrimlaw12.ModesBack", spec := "modesBack", unfollowed := true, recurses := true, named := ["scrim/box.ones"], apart := false, laid := [("scrim/box.ones", laid_scrim_box_ones)], narrowed := true }
def ModesBackUptoSaid : Prop := modesBackUptoRow.holds Tryz.pinned (OpenSpec.upto modesBackSpec)

/-- 'scrimlaw12.ModesErrs', WHERE WHAT IT READS IS OF BULK AT MOST 1048576: true; the input reads as it did. -/
def modesErrsUptoRow : OpenClaim := { program := "ytibipkfepappfaagreatdoor", sum := "6722ff7c870e746943ef4c10fe0e3ee53d849a9cc269494a55eb8349a1c32a25", func := "scrim/scrimlaw12.ModesErrs", spec := "modesErrs", unfollowed := true, recurses := true, named := ["scrim/box.ones"], apart := false, laid := [("scrim/box.ones", laid_scrim_box_ones)], narrowed := true }
def ModesErrsUptoSaid : Prop := modesErrsUptoRow.holds Tryz.pinned (OpenSpec.upto modesErrsSpec)

/-- 'scrimlaw12.ModesStreams', WHERE WHAT IT READS IS OF BULK AT MOST 1048576: true; the input reads as it did. -/
def modesStreamsUptoRow : OpenClaim := { program := "ytibipkfepappfaagreatdoor", sum := "6722ff7c870e746943ef4c10fe0e3ee53d849a9cc269494a55eb8349a1c32a25", func := "scrim/scrimlaw12.ModesStreams", spec := "modesStreams", unfollowed := true, recurses := true, named := ["scrim/box.ones"], apart := false, laid := [("scrim/box.ones", laid_scrim_box_ones)], narrowed := true }
def ModesStreamsUptoSaid : Prop := modesStreamsUptoRow.holds Tryz.pinned (OpenSpec.upto modesStreamsSpec)

/-- 'scrimlaw12.ModesCounts', WHERE WHAT IT READS IS OF BULK AT MOST 1048576: true; the input reads as it did. -/
def modesCountsUptoRow : OpenClaim := { program := "ytibipkfepappfaagreatdoor", sum := "6722ff7c870e746943ef4c10fe0e3ee53d849a9cc269494a55eb8349a1c32a25", func := "scrim/scrimlaw12.ModesCounts", spec := "modesCounts", unfollowed := true, recurses := true, named := ["scrim/box.ones"], apart := false, laid := [("scrim/box.ones", laid_scrim_box_ones)], narrowed := true }
def ModesCountsUptoSaid : Prop := modesCountsUptoRow.holds Tryz.pinned (OpenSpec.upto modesCountsSpec)

/-- 'scrimlaw12.ModesHeals', WHERE WHAT IT READS IS OF BULK AT MOST 1048576: true; the input reads as it did. -/
def modesHealsUptoRow : OpenClaim := { program := "ytibipkfepappfaagreatdoor", sum := "6722ff7c870e746943ef4c10fe0e3ee53d849a9cc269494a55eb8349a1c32a25", func := "scrim/scrimlaw12.ModesHeals", spec := "modesHeals", unfollowed := true, recurses := true, named := ["scrim/box.ones"], apart := false, laid := [("scrim/box.ones", laid_scrim_box_ones)], narrowed := true }
def ModesHealsUptoSaid : Prop := modesHealsUptoRow.holds Tryz.pinned (OpenSpec.upto modesHealsSpec)

/-- 'scrimlaw12.ModesEmpty', WHERE WHAT IT READS IS OF BULK AT MOST 1048576: true; the input reads as it did. -/
def modesEmptyUptoRow : OpenClaim := { program := "ytibipkfepappfaagreatdoor", sum := "6722ff7c870e746943ef4c10fe0e3ee53d849a9cc269494a55eb8349a1c32a25", func := "scrim/scrimlaw12.ModesEmpty", spec := "modesEmpty", unfollowed := true, recurses := true, named := ["scrim/box.ones"], apart := false, laid := [("scrim/box.ones", laid_scrim_box_ones)], narrowed := true }
def ModesEmptyUptoSaid : Prop := modesEmptyUptoRow.holds Tryz.pinned (OpenSpec.upto modesEmptySpec)

/-- 'scrimlaw12.ModesOfb', WHERE WHAT IT READS IS OF BULK AT MOST 1048576: true; the input reads as it did. -/
def modesOfbUptoRow : OpenClaim := { program := "ytibipkfepappfaagreatdoor", sum := "6722ff7c870e746943ef4c10fe0e3ee53d849a9cc269494a55eb8349a1c32a25", func := "scrim/scrimlaw12.ModesOfb", spec := "modesOfb", unfollowed := true, recurses := true, named := ["scrim/box.ones"], apart := false, laid := [("scrim/box.ones", laid_scrim_box_ones)], narrowed := true }
def ModesOfbUptoSaid : Prop := modesOfbUptoRow.holds Tryz.pinned (OpenSpec.upto modesOfbSpec)

/-- 'scrimlaw12.ModesCfb', WHERE WHAT IT READS IS OF BULK AT MOST 1048576: true; the input reads as it did. -/
def modesCfbUptoRow : OpenClaim := { program := "ytibipkfepappfaagreatdoor", sum := "6722ff7c870e746943ef4c10fe0e3ee53d849a9cc269494a55eb8349a1c32a25", func := "scrim/scrimlaw12.ModesCfb", spec := "modesCfb", unfollowed := true, recurses := true, named := ["scrim/box.ones"], apart := false, laid := [("scrim/box.ones", laid_scrim_box_ones)], narrowed := true }
def ModesCfbUptoSaid : Prop := modesCfbUptoRow.holds Tryz.pinned (OpenSpec.upto modesCfbSpec)

/-- 'scrimlaw12.ModesCbc', WHERE WHAT IT READS IS OF BULK AT MOST 1048576: true; the input reads as it did. -/
def modesCbcUptoRow : OpenClaim := { program := "ytibipkfepappfaagreatdoor", sum := "6722ff7c870e746943ef4c10fe0e3ee53d849a9cc269494a55eb8349a1c32a25", func := "scrim/scrimlaw12.ModesCbc", spec := "modesCbc", unfollowed := true, recurses := true, named := ["scrim/box.ones"], apart := false, laid := [("scrim/box.ones", laid_scrim_box_ones)], narrowed := true }
def ModesCbcUptoSaid : Prop := modesCbcUptoRow.holds Tryz.pinned (OpenSpec.upto modesCbcSpec)

end Rows
end Go.Proofs.YtibipkfepappfaaGreatDoor
