/-
  NARROWER THAN 'FOR EVERY INPUT', by the rows' own cells (each row's printed sentence says how): ShotAll: laid · ShotBack: laid · ShotThree: laid · ShotLengths: laid · ShotEcb: laid · ShotPadded: laid · ShotEmpty: laid · ShotStream: laid · ShotChecks: laid · ShotErrs: laid.
  DERIVED. THE GIVEN ROWS OF THIS SEAT. 10 by the template 'for every input the law returns true; each argument reads behind the call as it read before'; 0 by the template 'total and deterministic' (their statements: YtdkledbmjmmliaaGreatDoorTotals.lean).
  GIVEN WITH THE SEED: the statements are not yours to turn. If you find one false, say at which input.
  Laid BY PROGRAM, IN A SANDBOX (cutbox-rows.mjs): the forced cells as the released guide's own fill.sh prints them over the translation 65e32f5df9112393… (all of the seat's roots in one cut). By AI agents, Wed Nov 11 2026. No macro, syntax, notation, axiom, sorry.
-/
import Derived.Test.YtdkledbmjmmliaaGreatDoorChecked
import GoSem.Claim
import GoSem.ClaimJoined
import GoSem.ClaimMapViews
import Derived.JoinedTies
import Derived.KernelRfl
namespace Go.Proofs.YtdkledbmjmmliaaGreatDoor
/- THE CELL 'sum', in the pinned program and in every row, IS THE sha256 OF THE DUMP (.gsa) THAT YtdkledbmjmmliaaGreatDoorProg.lean LOADS. Nothing in Lean hashes anything: it is a label: what it is worth is what the hold of that sum in a sandbox is worth. -/
noncomputable def Tryz.pinned : Pinned := { name := "ytdkledbmjmmliaagreatdoor", sum := "65e32f5df9112393458df20a4df33e95c9c3a9fdd2fc53911646d088e614442f", checked := Tryz.checked }
namespace Rows
def none {H : Type} : Left H := { results := [], args := [] }

/- WHAT THE LISTED PACKAGE-LEVEL VARIABLES READ AS WHEN THE CALL BEGINS. Each datum BY PROGRAM (the guide's laid-datum.mjs) off the statement by which the dump's own 'gosem.cut.vars' lays the variable. In a bare row this is a premise. The card (YtdkledbmjmmliaaGreatDoorCards.lean) ties it to the program's text. -/
def laid_scrim_box_ones {H : Type} : DataW H := .agg [.lit (.int .u8 1), .lit (.int .u8 2), .lit (.int .u8 4), .lit (.int .u8 8), .lit (.int .u8 16), .lit (.int .u8 32), .lit (.int .u8 64), .lit (.int .u8 128)]

/-- 'scrimlaw15.ShotAll': WHATEVER THE INPUT: true; the input reads as it did. -/
def shotAllSpec : ChangeSpec := { name := "shotAll", fn := fun _ => fun
  | [d1, d2, d3] => { results := [.lit (.bool true)], args := [d1, d2, d3] }
  | _ => none }
def shotAllRow : OpenClaim := { program := "ytdkledbmjmmliaagreatdoor", sum := "65e32f5df9112393458df20a4df33e95c9c3a9fdd2fc53911646d088e614442f", func := "scrim/scrimlaw15.ShotAll", spec := "shotAll", unfollowed := true, recurses := true, named := ["scrim/box.ones"], apart := false, laid := [("scrim/box.ones", laid_scrim_box_ones)] }
def ShotAllSaid : Prop := shotAllRow.holds Tryz.pinned (OpenSpec.ofChange shotAllSpec)

/-- ITS FALSE NEIGHBOUR: 'it returns false'. Refute it at one input. -/
def shotAllWrong : ChangeSpec := { name := "shotAll", fn := fun _ => fun
  | [d1, d2, d3] => { results := [.lit (.bool false)], args := [d1, d2, d3] }
  | _ => none }
def ShotAllWrongFalsely : Prop := shotAllRow.holds Tryz.pinned (OpenSpec.ofChange shotAllWrong)

/-- 'scrimlaw15.ShotBack': WHATEVER THE INPUT: true; the input reads as it did. -/
def shotBackSpec : ChangeSpec := { name := "shotBack", fn := fun _ => fun
  | [d1, d2] => { results := [.lit (.bool true)], args := [d1, d2] }
  | _ => none }
def shotBackRow : OpenClaim := { program := "ytdkledbmjmmliaagreatdoor", sum := "65e32f5df9112393458df20a4df33e95c9c3a9fdd2fc53911646d088e614442f", func := "scrim/scrimlaw15.ShotBack", spec := "shotBack", unfollowed := true, recurses := true, named := ["scrim/box.ones"], apart := false, laid := [("scrim/box.ones", laid_scrim_box_ones)] }
def ShotBackSaid : Prop := shotBackRow.holds Tryz.pinned (OpenSpec.ofChange shotBackSpec)

/-- ITS FALSE NEIGHBOUR: 'it returns false'. Refute it at one input. -/
def shotBackWrong : ChangeSpec := { name := "shotBack", fn := fun _ => fun
  | [d1, d2] => { results := [.lit (.bool false)], args := [d1, d2] }
  | _ => none }
def ShotBackWrongFalsely : Prop := shotBackRow.holds Tryz.pinned (OpenSpec.ofChange shotBackWrong)

/-- 'scrimlaw15.ShotThree': WHATEVER THE INPUT: true; the input reads as it did. -/
def shotThreeSpec : ChangeSpec := { name := "shotThree", fn := fun _ => fun
  | [d1, d2, d3, d4, d5] => { results := [.lit (.bool true)], args := [d1, d2, d3, d4, d5] }
  | _ => none }
def shotThreeRow : OpenClaim := { program := "ytdkledbmjmmliaagreatdoor", sum := "65e32f5df9112393458df20a4df33e95c9c3a9fdd2fc53911646d088e614442f", func := "scrim/scrimlaw15.ShotThree", spec := "shotThree", unfollowed := true, recurses := true, named := ["scrim/box.ones"], apart := false, laid := [("scrim/box.ones", laid_scrim_box_ones)] }
def ShotThreeSaid : Prop := shotThreeRow.holds Tryz.pinned (OpenSpec.ofChange shotThreeSpec)

/-- ITS FALSE NEIGHBOUR: 'it returns false'. Refute it at one input. -/
def shotThreeWrong : ChangeSpec := { name := "shotThree", fn := fun _ => fun
  | [d1, d2, d3, d4, d5] => { results := [.lit (.bool false)], args := [d1, d2, d3, d4, d5] }
  | _ => none }
def ShotThreeWrongFalsely : Prop := shotThreeRow.holds Tryz.pinned (OpenSpec.ofChange shotThreeWrong)

/-- 'scrimlaw15.ShotLengths': WHATEVER THE INPUT: true; the input reads as it did. -/
def shotLengthsSpec : ChangeSpec := { name := "shotLengths", fn := fun _ => fun
  | [d1, d2] => { results := [.lit (.bool true)], args := [d1, d2] }
  | _ => none }
def shotLengthsRow : OpenClaim := { program := "ytdkledbmjmmliaagreatdoor", sum := "65e32f5df9112393458df20a4df33e95c9c3a9fdd2fc53911646d088e614442f", func := "scrim/scrimlaw15.ShotLengths", spec := "shotLengths", unfollowed := true, recurses := true, named := ["scrim/box.ones"], apart := false, laid := [("scrim/box.ones", laid_scrim_box_ones)] }
def ShotLengthsSaid : Prop := shotLengthsRow.holds Tryz.pinned (OpenSpec.ofChange shotLengthsSpec)

/-- ITS FALSE NEIGHBOUR: 'it returns false'. Refute it at one input. -/
def shotLengthsWrong : ChangeSpec := { name := "shotLengths", fn := fun _ => fun
  | [d1, d2] => { results := [.lit (.bool false)], args := [d1, d2] }
  | _ => none }
def ShotLengthsWrongFalsely : Prop := shotLengthsRow.holds Tryz.pinned (OpenSpec.ofChange shotLengthsWrong)

/-- 'scrimlaw15.ShotEcb': WHATEVER THE INPUT: true; the input reads as it did. -/
def shotEcbSpec : ChangeSpec := { name := "shotEcb", fn := fun _ => fun
  | [d1, d2, d3] => { results := [.lit (.bool true)], args := [d1, d2, d3] }
  | _ => none }
def shotEcbRow : OpenClaim := { program := "ytdkledbmjmmliaagreatdoor", sum := "65e32f5df9112393458df20a4df33e95c9c3a9fdd2fc53911646d088e614442f", func := "scrim/scrimlaw15.ShotEcb", spec := "shotEcb", unfollowed := true, recurses := true, named := ["scrim/box.ones"], apart := false, laid := [("scrim/box.ones", laid_scrim_box_ones)] }
def ShotEcbSaid : Prop := shotEcbRow.holds Tryz.pinned (OpenSpec.ofChange shotEcbSpec)

/-- ITS FALSE NEIGHBOUR: 'it returns false'. Refute it at one input. -/
def shotEcbWrong : ChangeSpec := { name := "shotEcb", fn := fun _ => fun
  | [d1, d2, d3] => { results := [.lit (.bool false)], args := [d1, d2, d3] }
  | _ => none }
def ShotEcbWrongFalsely : Prop := shotEcbRow.holds Tryz.pinned (OpenSpec.ofChange shotEcbWrong)

/-- 'scrimlaw15.ShotPadded': WHATEVER THE INPUT: true; the input reads as it did. -/
def shotPaddedSpec : ChangeSpec := { name := "shotPadded", fn := fun _ => fun
  | [d1, d2] => { results := [.lit (.bool true)], args := [d1, d2] }
  | _ => none }
def shotPaddedRow : OpenClaim := { program := "ytdkledbmjmmliaagreatdoor", sum := "65e32f5df9112393458df20a4df33e95c9c3a9fdd2fc53911646d088e614442f", func := "scrim/scrimlaw15.ShotPadded", spec := "shotPadded", unfollowed := true, recurses := true, named := ["scrim/box.ones"], apart := false, laid := [("scrim/box.ones", laid_scrim_box_ones)] }
def ShotPaddedSaid : Prop := shotPaddedRow.holds Tryz.pinned (OpenSpec.ofChange shotPaddedSpec)

/-- ITS FALSE NEIGHBOUR: 'it returns false'. Refute it at one input. -/
def shotPaddedWrong : ChangeSpec := { name := "shotPadded", fn := fun _ => fun
  | [d1, d2] => { results := [.lit (.bool false)], args := [d1, d2] }
  | _ => none }
def ShotPaddedWrongFalsely : Prop := shotPaddedRow.holds Tryz.pinned (OpenSpec.ofChange shotPaddedWrong)

/-- 'scrimlaw15.ShotEmpty': WHATEVER THE INPUT: true; the input reads as it did. -/
def shotEmptySpec : ChangeSpec := { name := "shotEmpty", fn := fun _ => fun
  | [d] => { results := [.lit (.bool true)], args := [d] }
  | _ => none }
def shotEmptyRow : OpenClaim := { program := "ytdkledbmjmmliaagreatdoor", sum := "65e32f5df9112393458df20a4df33e95c9c3a9fdd2fc53911646d088e614442f", func := "scrim/scrimlaw15.ShotEmpty", spec := "shotEmpty", unfollowed := true, recurses := true, named := ["scrim/box.ones"], apart := false, laid := [("scrim/box.ones", laid_scrim_box_ones)] }
def ShotEmptySaid : Prop := shotEmptyRow.holds Tryz.pinned (OpenSpec.ofChange shotEmptySpec)

/-- ITS FALSE NEIGHBOUR: 'it returns false'. Refute it at one input. -/
def shotEmptyWrong : ChangeSpec := { name := "shotEmpty", fn := fun _ => fun
  | [d] => { results := [.lit (.bool false)], args := [d] }
  | _ => none }
def ShotEmptyWrongFalsely : Prop := shotEmptyRow.holds Tryz.pinned (OpenSpec.ofChange shotEmptyWrong)

/-- 'scrimlaw15.ShotStream': WHATEVER THE INPUT: true; the input reads as it did. -/
def shotStreamSpec : ChangeSpec := { name := "shotStream", fn := fun _ => fun
  | [d1, d2, d3] => { results := [.lit (.bool true)], args := [d1, d2, d3] }
  | _ => none }
def shotStreamRow : OpenClaim := { program := "ytdkledbmjmmliaagreatdoor", sum := "65e32f5df9112393458df20a4df33e95c9c3a9fdd2fc53911646d088e614442f", func := "scrim/scrimlaw15.ShotStream", spec := "shotStream", unfollowed := true, recurses := true, named := ["scrim/box.ones"], apart := false, laid := [("scrim/box.ones", laid_scrim_box_ones)] }
def ShotStreamSaid : Prop := shotStreamRow.holds Tryz.pinned (OpenSpec.ofChange shotStreamSpec)

/-- ITS FALSE NEIGHBOUR: 'it returns false'. Refute it at one input. -/
def shotStreamWrong : ChangeSpec := { name := "shotStream", fn := fun _ => fun
  | [d1, d2, d3] => { results := [.lit (.bool false)], args := [d1, d2, d3] }
  | _ => none }
def ShotStreamWrongFalsely : Prop := shotStreamRow.holds Tryz.pinned (OpenSpec.ofChange shotStreamWrong)

/-- 'scrimlaw15.ShotChecks': WHATEVER THE INPUT: true; the input reads as it did. -/
def shotChecksSpec : ChangeSpec := { name := "shotChecks", fn := fun _ => fun
  | [d1, d2, d3, d4, d5, d6] => { results := [.lit (.bool true)], args := [d1, d2, d3, d4, d5, d6] }
  | _ => none }
def shotChecksRow : OpenClaim := { program := "ytdkledbmjmmliaagreatdoor", sum := "65e32f5df9112393458df20a4df33e95c9c3a9fdd2fc53911646d088e614442f", func := "scrim/scrimlaw15.ShotChecks", spec := "shotChecks", unfollowed := true, recurses := true, named := ["scrim/box.ones"], apart := false, laid := [("scrim/box.ones", laid_scrim_box_ones)] }
def ShotChecksSaid : Prop := shotChecksRow.holds Tryz.pinned (OpenSpec.ofChange shotChecksSpec)

/-- ITS FALSE NEIGHBOUR: 'it returns false'. Refute it at one input. -/
def shotChecksWrong : ChangeSpec := { name := "shotChecks", fn := fun _ => fun
  | [d1, d2, d3, d4, d5, d6] => { results := [.lit (.bool false)], args := [d1, d2, d3, d4, d5, d6] }
  | _ => none }
def ShotChecksWrongFalsely : Prop := shotChecksRow.holds Tryz.pinned (OpenSpec.ofChange shotChecksWrong)

/-- 'scrimlaw15.ShotErrs': WHATEVER THE INPUT: true; the input reads as it did. -/
def shotErrsSpec : ChangeSpec := { name := "shotErrs", fn := fun _ => fun
  | [d1, d2, d3] => { results := [.lit (.bool true)], args := [d1, d2, d3] }
  | _ => none }
def shotErrsRow : OpenClaim := { program := "ytdkledbmjmmliaagreatdoor", sum := "65e32f5df9112393458df20a4df33e95c9c3a9fdd2fc53911646d088e614442f", func := "scrim/scrimlaw15.ShotErrs", spec := "shotErrs", unfollowed := true, recurses := true, named := ["scrim/box.ones"], apart := false, laid := [("scrim/box.ones", laid_scrim_box_ones)] }
def ShotErrsSaid : Prop := shotErrsRow.holds Tryz.pinned (OpenSpec.ofChange shotErrsSpec)

/-- ITS FALSE NEIGHBOUR: 'it returns false'. Refute it at one input. -/
def shotErrsWrong : ChangeSpec := { name := "shotErrs", fn := fun _ => fun
  | [d1, d2, d3] => { results := [.lit (.bool false)], args := [d1, d2, d3] }
  | _ => none }
def ShotErrsWrongFalsely : Prop := shotErrsRow.holds Tryz.pinned (OpenSpec.ofChange shotErrsWrong)

/- THE SECOND FORM. 'bulk': how many values and letters a reading holds, each counted each time it is reached (what is shared counts as often as it is met; a slice's spare places count too). A statement '..UptoSaid' is the law's where the arguments, and the package variables that the reading takes, are together of bulk at most 1048576: NARROWER than '..Said'. Prove '..Said' where nothing that the law and all that it calls make is longer than what came in: it says more and counts as full. Else prove '..UptoSaid'. A law counts once. -/
mutual
def uptoBulk {H : Type} : DataW H → Nat
  | .lit (.string bytes) => bytes.length + 1
  | .lit _ => 1
  | .nil => 1
  | .ptr d => uptoBulk d + 1
  | .slice elems spare => uptoBulkAll elems + uptoBulkAll spare + 1
  | .agg parts => uptoBulkAll parts + 1
  | .iface _ d => uptoBulk d + 1
  | .map entries => uptoBulkEntries entries + 1
  | .held _ => 1
def uptoBulkAll {H : Type} : List (DataW H) → Nat
  | [] => 0
  | d :: r => uptoBulk d + uptoBulkAll r
def uptoBulkEntries {H : Type} : List (Lit × DataW H) → Nat
  | [] => 0
  | x :: r => uptoBulkEntry x + uptoBulkEntries r
def uptoBulkEntry {H : Type} : Lit × DataW H → Nat
  | (.string bytes, d) => bytes.length + uptoBulk d + 1
  | (_, d) => uptoBulk d + 1
 end
def uptoSmall : (H : Type) → List (DataW H) → Bool := fun _ ds => decide (uptoBulkAll ds ≤ 1048576)
def OpenSpec.upto (s : _root_.Go.ChangeSpec) : _root_.Go.OpenSpec := { _root_.Go.OpenSpec.ofChange s with cond := some uptoSmall }

/-- 'scrimlaw15.ShotAll', WHERE WHAT IT READS IS OF BULK AT MOST 1048576: true; the input reads as it did. -/
def shotAllUptoRow : OpenClaim := { program := "ytdkledbmjmmliaagreatdoor", sum := "65e32f5df9112393458df20a4df33e95c9c3a9fdd2fc53911646d088e614442f", func := "scrim/scrimlaw15.ShotAll", spec := "shotAll", unfollowed := true, recurses := true, named := ["scrim/box.ones"], apart := false, laid := [("scrim/box.ones", laid_scrim_box_ones)], narrowed := true }
def ShotAllUptoSaid : Prop := shotAllUptoRow.holds Tryz.pinned (OpenSpec.upto shotAllSpec)

/-- 'scrimlaw15.ShotBack', WHERE WHAT IT READS IS OF BULK AT MOST 1048576: true; the input reads as it did. -/
def shotBackUptoRow : OpenClaim := { program := "ytdkledbmjmmliaagreatdoor", sum := "65e32f5df9112393458df20a4df33e95c9c3a9fdd2fc53911646d088e614442f", func := "scrim/scrimlaw15.ShotBack", spec := "shotBack", unfollowed := true, recurses := true, named := ["scrim/box.ones"], apart := false, laid := [("scrim/box.ones", laid_scrim_box_ones)], narrowed := true }
def ShotBackUptoSaid : Prop := shotBackUptoRow.holds Tryz.pinned (OpenSpec.upto shotBackSpec)

/-- 'scrimlaw15.ShotThree', WHERE WHAT IT READS IS OF BULK AT MOST 1048576: true; the input reads as it did. -/
def shotThreeUptoRow : OpenClaim := { program := "ytdkledbmjmmliaagreatdoor", sum := "65e32f5df9112393458df20a4df33e95c9c3a9fdd2fc53911646d088e614442f", func := "scrim/scrimlaw15.ShotThree", spec := "shotThree", unfollowed := true, recurses := true, named := ["scrim/box.ones"], apart := false, laid := [("scrim/box.ones", laid_scrim_box_ones)], narrowed := true }
def ShotThreeUptoSaid : Prop := shotThreeUptoRow.holds Tryz.pinned (OpenSpec.upto shotThreeSpec)

/-- 'scrimlaw15.ShotLengths', WHERE WHAT IT READS IS OF BULK AT MOST 1048576: true; the input reads as it did. -/
def shotLengthsUptoRow : OpenClaim := { program := "ytdkledbmjmmliaagreatdoor", sum := "65e32f5df9112393458df20a4df33e95c9c3a9fdd2fc53911646d088e614442f", func := "scrim/scrimlaw15.ShotLengths", spec := "shotLengths", unfollowed := true, recurses := true, named := ["scrim/box.ones"], apart := false, laid := [("scrim/box.ones", laid_scrim_box_ones)], narrowed := true }
def ShotLengthsUptoSaid : Prop := shotLengthsUptoRow.holds Tryz.pinned (OpenSpec.upto shotLengthsSpec)

/-- 'scrimlaw15.ShotEcb', WHERE WHAT IT READS IS OF BULK AT MOST 1048576: true; the input reads as it did. -/
def shotEcbUptoRow : OpenClaim := { program := "ytdkledbmjmmliaagreatdoor", sum := "65e32f5df9112393458df20a4df33e95c9c3a9fdd2fc53911646d088e614442f", func := "scrim/scrimlaw15.ShotEcb", spec := "shotEcb", unfollowed := true, recurses := true, named := ["scrim/box.ones"], apart := false, laid := [("scrim/box.ones", laid_scrim_box_ones)], narrowed := true }
def ShotEcbUptoSaid : Prop := shotEcbUptoRow.holds Tryz.pinned (OpenSpec.upto shotEcbSpec)

/-- 'scrimlaw15.ShotPadded', WHERE WHAT IT READS IS OF BULK AT MOST 1048576: true; the input reads as it did. -/
def shotPaddedUptoRow : OpenClaim := { program := "ytdkledbmjmmliaagreatdoor", sum := "65e32f5df9112393458df20a4df33e95c9c3a9fdd2fc53911646d088e614442f", func := "scrim/scrimlaw15.ShotPadded", spec := "shotPadded", unfollowed := true, recurses := true, named := ["scrim/box.ones"], apart := false, laid := [("scrim/box.ones", laid_scrim_box_ones)], narrowed := true }
def ShotPaddedUptoSaid : Prop := shotPaddedUptoRow.holds Tryz.pinned (OpenSpec.upto shotPaddedSpec)

/-- 'scrimlaw15.ShotEmpty', WHERE WHAT IT READS IS OF BULK AT MOST 1048576: true; the input reads as it did. -/
def shotEmptyUptoRow : OpenClaim := { program := "ytdkledbmjmmliaagreatdoor", sum := "65e32f5df9112393458df20a4df33e95c9c3a9fdd2fc53911646d088e614442f", func := "scrim/scrimlaw15.ShotEmpty", spec := "shotEmpty", unfollowed := true, recurses := true, named := ["scrim/box.ones"], apart := false, laid := [("scrim/box.ones", laid_scrim_box_ones)], narrowed := true }
def ShotEmptyUptoSaid : Prop := shotEmptyUptoRow.holds Tryz.pinned (OpenSpec.upto shotEmptySpec)

/-- 'scrimlaw15.ShotStream', WHERE WHAT IT READS IS OF BULK AT MOST 1048576: true; the input reads as it did. -/
def shotStreamUptoRow : OpenClaim := { program := "ytdkledbmjmmliaagreatdoor", sum := "65e32f5df9112393458df20a4df33e95c9c3a9fdd2fc53911646d088e614442f", func := "scrim/scrimlaw15.ShotStream", spec := "shotStream", unfollowed := true, recurses := true, named := ["scrim/box.ones"], apart := false, laid := [("scrim/box.ones", laid_scrim_box_ones)], narrowed := true }
def ShotStreamUptoSaid : Prop := shotStreamUptoRow.holds Tryz.pinned (OpenSpec.upto shotStreamSpec)

/-- 'scrimlaw15.ShotChecks', WHERE WHAT IT READS IS OF BULK AT MOST 1048576: true; the input reads as it did. -/
def shotChecksUptoRow : OpenClaim := { program := "ytdkledbmjmmliaagreatdoor", sum := "65e32f5df9112393458df20a4df33e95c9c3a9fdd2fc53911646d088e614442f", func := "scrim/scrimlaw15.ShotChecks", spec := "shotChecks", unfollowed := true, recurses := true, named := ["scrim/box.ones"], apart := false, laid := [("scrim/box.ones", laid_scrim_box_ones)], narrowed := true }
def ShotChecksUptoSaid : Prop := shotChecksUptoRow.holds Tryz.pinned (OpenSpec.upto shotChecksSpec)

/-- 'scrimlaw15.ShotErrs', WHERE WHAT IT READS IS OF BULK AT MOST 1048576: true; the input reads as it did. -/
def shotErrsUptoRow : OpenClaim := { program := "ytdkledbmjmmliaagreatdoor", sum := "65e32f5df9112393458df20a4df33e95c9c3a9fdd2fc53911646d088e614442f", func := "scrim/scrimlaw15.ShotErrs", spec := "shotErrs", unfollowed := true, recurses := true, named := ["scrim/box.ones"], apart := false, laid := [("scrim/box.ones", laid_scrim_box_ones)], narrowed := true }
def ShotErrsUptoSaid : Prop := shotErrsUptoRow.holds Tryz.pinned (OpenSpec.upto shotErrsSpec)

end Rows
end Go.Proofs.YtdkledbmjmmliaaGreatDoor
