/-
  DERIVED. GIVEN WITH THE SEED: THE CARDS: each row of YtjoniepofpcolaaGreatDoorRows.lean that lists a variable, with what it lists TIED to the program's text (the seventh form; the later family's looks); each row that meets fmt, with fmt's text TOLD by the authors' own Lean function (tested against real Go, not proved from fmt's source: count such statements apart). THE CARD IS WHAT COUNTS. Prove the row's statement (the work); the ties are given (YtjoniepofpcolaaGreatDoorTie.lean); close each card by the builder's one call (the guide's Derived/Test/ToyasCard.lean, 'card_holds'). Laid BY PROGRAM, IN A SANDBOX (cutbox-door.mjs). By AI agents, Wed Nov 11 2026. No macro, syntax, notation, axiom, sorry.
-/
import Derived.Test.YtjoniepofpcolaaGreatDoorRows
import GoSem.ClaimSeven
namespace Go.Proofs.YtjoniepofpcolaaGreatDoor
namespace Rows

/-- THE TIED CARD OF 'scrimlaw13.StealTails'. -/
def stealTailsCard : Claim7 := { stood := { row := stealTailsRow, standIns := [], harness := (true, "a34a332bcfdfd8a5f0185cf28a1ce525713af81cba015496baaa4899a883bbe8"), looks := false }, kinds := [], alts := [], laidByText := true, laidKinds := [.data], laidTests := true, laidLooks := .later }
def StealTailsCardSaid : Prop := Claim7.holds Tryz.pinned (.plain (OpenSpec.ofChange stealTailsSpec)) stealTailsCard

/-- THE TIED CARD OF 'scrimlaw13.StealBack'. -/
def stealBackCard : Claim7 := { stood := { row := stealBackRow, standIns := [], harness := (true, "a34a332bcfdfd8a5f0185cf28a1ce525713af81cba015496baaa4899a883bbe8"), looks := false }, kinds := [], alts := [], laidByText := true, laidKinds := [.data], laidTests := true, laidLooks := .later }
def StealBackCardSaid : Prop := Claim7.holds Tryz.pinned (.plain (OpenSpec.ofChange stealBackSpec)) stealBackCard

/-- THE TIED CARD OF 'scrimlaw13.StealErrs'. -/
def stealErrsCard : Claim7 := { stood := { row := stealErrsRow, standIns := [], harness := (true, "a34a332bcfdfd8a5f0185cf28a1ce525713af81cba015496baaa4899a883bbe8"), looks := false }, kinds := [], alts := [], laidByText := true, laidKinds := [.data], laidTests := true, laidLooks := .later }
def StealErrsCardSaid : Prop := Claim7.holds Tryz.pinned (.plain (OpenSpec.ofChange stealErrsSpec)) stealErrsCard

/-- THE TIED CARD OF 'scrimlaw13.StealOrder'. -/
def stealOrderCard : Claim7 := { stood := { row := stealOrderRow, standIns := [], harness := (true, "a34a332bcfdfd8a5f0185cf28a1ce525713af81cba015496baaa4899a883bbe8"), looks := false }, kinds := [], alts := [], laidByText := true, laidKinds := [.data], laidTests := true, laidLooks := .later }
def StealOrderCardSaid : Prop := Claim7.holds Tryz.pinned (.plain (OpenSpec.ofChange stealOrderSpec)) stealOrderCard

/-- THE TIED CARD OF 'scrimlaw13.StealOne'. -/
def stealOneCard : Claim7 := { stood := { row := stealOneRow, standIns := [], harness := (true, "a34a332bcfdfd8a5f0185cf28a1ce525713af81cba015496baaa4899a883bbe8"), looks := false }, kinds := [], alts := [], laidByText := true, laidKinds := [.data], laidTests := true, laidLooks := .later }
def StealOneCardSaid : Prop := Claim7.holds Tryz.pinned (.plain (OpenSpec.ofChange stealOneSpec)) stealOneCard

/-- THE TIED CARD OF 'scrimlaw13.StealTurns'. -/
def stealTurnsCard : Claim7 := { stood := { row := stealTurnsRow, standIns := [], harness := (true, "a34a332bcfdfd8a5f0185cf28a1ce525713af81cba015496baaa4899a883bbe8"), looks := false }, kinds := [], alts := [], laidByText := true, laidKinds := [.data], laidTests := true, laidLooks := .later }
def StealTurnsCardSaid : Prop := Claim7.holds Tryz.pinned (.plain (OpenSpec.ofChange stealTurnsSpec)) stealTurnsCard

/-- THE TIED CARD OF 'scrimlaw13.StealSpoilt'. -/
def stealSpoiltCard : Claim7 := { stood := { row := stealSpoiltRow, standIns := [], harness := (true, "a34a332bcfdfd8a5f0185cf28a1ce525713af81cba015496baaa4899a883bbe8"), looks := false }, kinds := [], alts := [], laidByText := true, laidKinds := [.data], laidTests := true, laidLooks := .later }
def StealSpoiltCardSaid : Prop := Claim7.holds Tryz.pinned (.plain (OpenSpec.ofChange stealSpoiltSpec)) stealSpoiltCard

/-- THE TIED CARD OF 'scrimlaw12.ModesSteps'. -/
def modesStepsCard : Claim7 := { stood := { row := modesStepsRow, standIns := [], harness := (true, "a34a332bcfdfd8a5f0185cf28a1ce525713af81cba015496baaa4899a883bbe8"), looks := false }, kinds := [], alts := [], laidByText := true, laidKinds := [.data], laidTests := true, laidLooks := .later }
def ModesStepsCardSaid : Prop := Claim7.holds Tryz.pinned (.plain (OpenSpec.ofChange modesStepsSpec)) modesStepsCard

/-- THE TIED CARD OF 'scrimlaw12.ModesCut'. -/
def modesCutCard : Claim7 := { stood := { row := modesCutRow, standIns := [], harness := (true, "a34a332bcfdfd8a5f0185cf28a1ce525713af81cba015496baaa4899a883bbe8"), looks := false }, kinds := [], alts := [], laidByText := true, laidKinds := [.data], laidTests := true, laidLooks := .later }
def ModesCutCardSaid : Prop := Claim7.holds Tryz.pinned (.plain (OpenSpec.ofChange modesCutSpec)) modesCutCard

/-- THE TIED CARD OF 'scrimlaw12.ModesBack'. -/
def modesBackCard : Claim7 := { stood := { row := modesBackRow, standIns := [], harness := (true, "a34a332bcfdfd8a5f0185cf28a1ce525713af81cba015496baaa4899a883bbe8"), looks := false }, kinds := [], alts := [], laidByText := true, laidKinds := [.data], laidTests := true, laidLooks := .later }
def ModesBackCardSaid : Prop := Claim7.holds Tryz.pinned (.plain (OpenSpec.ofChange modesBackSpec)) modesBackCard

/-- THE TIED CARD OF 'scrimlaw12.ModesErrs'. -/
def modesErrsCard : Claim7 := { stood := { row := modesErrsRow, standIns := [], harness := (true, "a34a332bcfdfd8a5f0185cf28a1ce525713af81cba015496baaa4899a883bbe8"), looks := false }, kinds := [], alts := [], laidByText := true, laidKinds := [.data], laidTests := true, laidLooks := .later }
def ModesErrsCardSaid : Prop := Claim7.holds Tryz.pinned (.plain (OpenSpec.ofChange modesErrsSpec)) modesErrsCard

/-- THE TIED CARD OF 'scrimlaw12.ModesStreams'. -/
def modesStreamsCard : Claim7 := { stood := { row := modesStreamsRow, standIns := [], harness := (true, "a34a332bcfdfd8a5f0185cf28a1ce525713af81cba015496baaa4899a883bbe8"), looks := false }, kinds := [], alts := [], laidByText := true, laidKinds := [.data], laidTests := true, laidLooks := .later }
def ModesStreamsCardSaid : Prop := Claim7.holds Tryz.pinned (.plain (OpenSpec.ofChange modesStreamsSpec)) modesStreamsCard

/-- THE SECOND FORM's CARD OF 'scrimlaw13.StealTails'. -/
def stealTailsUptoCard : Claim7 := { stood := { row := stealTailsUptoRow, standIns := [], harness := (true, "a34a332bcfdfd8a5f0185cf28a1ce525713af81cba015496baaa4899a883bbe8"), looks := false }, kinds := [], alts := [], laidByText := true, laidKinds := [.data], laidTests := true, laidLooks := .later }
def StealTailsUptoCardSaid : Prop := Claim7.holds Tryz.pinned (.plain (OpenSpec.upto stealTailsSpec)) stealTailsUptoCard

/-- THE SECOND FORM's CARD OF 'scrimlaw13.StealBack'. -/
def stealBackUptoCard : Claim7 := { stood := { row := stealBackUptoRow, standIns := [], harness := (true, "a34a332bcfdfd8a5f0185cf28a1ce525713af81cba015496baaa4899a883bbe8"), looks := false }, kinds := [], alts := [], laidByText := true, laidKinds := [.data], laidTests := true, laidLooks := .later }
def StealBackUptoCardSaid : Prop := Claim7.holds Tryz.pinned (.plain (OpenSpec.upto stealBackSpec)) stealBackUptoCard

/-- THE SECOND FORM's CARD OF 'scrimlaw13.StealErrs'. -/
def stealErrsUptoCard : Claim7 := { stood := { row := stealErrsUptoRow, standIns := [], harness := (true, "a34a332bcfdfd8a5f0185cf28a1ce525713af81cba015496baaa4899a883bbe8"), looks := false }, kinds := [], alts := [], laidByText := true, laidKinds := [.data], laidTests := true, laidLooks := .later }
def StealErrsUptoCardSaid : Prop := Claim7.holds Tryz.pinned (.plain (OpenSpec.upto stealErrsSpec)) stealErrsUptoCard

/-- THE SECOND FORM's CARD OF 'scrimlaw13.StealOrder'. -/
def stealOrderUptoCard : Claim7 := { stood := { row := stealOrderUptoRow, standIns := [], harness := (true, "a34a332bcfdfd8a5f0185cf28a1ce525713af81cba015496baaa4899a883bbe8"), looks := false }, kinds := [], alts := [], laidByText := true, laidKinds := [.data], laidTests := true, laidLooks := .later }
def StealOrderUptoCardSaid : Prop := Claim7.holds Tryz.pinned (.plain (OpenSpec.upto stealOrderSpec)) stealOrderUptoCard

/-- THE SECOND FORM's CARD OF 'scrimlaw13.StealOne'. -/
def stealOneUptoCard : Claim7 := { stood := { row := stealOneUptoRow, standIns := [], harness := (true, "a34a332bcfdfd8a5f0185cf28a1ce525713af81cba015496baaa4899a883bbe8"), looks := false }, kinds := [], alts := [], laidByText := true, laidKinds := [.data], laidTests := true, laidLooks := .later }
def StealOneUptoCardSaid : Prop := Claim7.holds Tryz.pinned (.plain (OpenSpec.upto stealOneSpec)) stealOneUptoCard

/-- THE SECOND FORM's CARD OF 'scrimlaw13.StealTurns'. -/
def stealTurnsUptoCard : Claim7 := { stood := { row := stealTurnsUptoRow, standIns := [], harness := (true, "a34a332bcfdfd8a5f0185cf28a1ce525713af81cba015496baaa4899a883bbe8"), looks := false }, kinds := [], alts := [], laidByText := true, laidKinds := [.data], laidTests := true, laidLooks := .later }
def StealTurnsUptoCardSaid : Prop := Claim7.holds Tryz.pinned (.plain (OpenSpec.upto stealTurnsSpec)) stealTurnsUptoCard

/-- THE SECOND FORM's CARD OF 'scrimlaw13.StealSpoilt'. -/
def stealSpoiltUptoCard : Claim7 := { stood := { row := stealSpoiltUptoRow, standIns := [], harness := (true, "a34a332bcfdfd8a5f0185cf28a1ce525713af81cba015496baaa4899a883bbe8"), looks := false }, kinds := [], alts := [], laidByText := true, laidKinds := [.data], laidTests := true, laidLooks := .later }
def StealSpoiltUptoCardSaid : Prop := Claim7.holds Tryz.pinned (.plain (OpenSpec.upto stealSpoiltSpec)) stealSpoiltUptoCard

/-- THE SECOND FORM's CARD OF 'scrimlaw12.ModesSteps'. -/
def modesStepsUptoCard : Claim7 := { stood := { row := modesStepsUptoRow, standIns := [], harness := (true, "a34a332bcfdfd8a5f0185cf28a1ce525713af81cba015496baaa4899a883bbe8"), looks := false }, kinds := [], alts := [], laidByText := true, laidKinds := [.data], laidTests := true, laidLooks := .later }
def ModesStepsUptoCardSaid : Prop := Claim7.holds Tryz.pinned (.plain (OpenSpec.upto modesStepsSpec)) modesStepsUptoCard

/-- THE SECOND FORM's CARD OF 'scrimlaw12.ModesCut'. -/
def modesCutUptoCard : Claim7 := { stood := { row := modesCutUptoRow, standIns := [], harness := (true, "a34a332bcfdfd8a5f0185cf28a1ce525713af81cba015496baaa4899a883bbe8"), looks := false }, kinds := [], alts := [], laidByText := true, laidKinds := [.data], laidTests := true, laidLooks := .later }
def ModesCutUptoCardSaid : Prop := Claim7.holds Tryz.pinned (.plain (OpenSpec.upto modesCutSpec)) modesCutUptoCard

/-- THE SECOND FORM's CARD OF 'scrimlaw12.ModesBack'. -/
def modesBackUptoCard : Claim7 := { stood := { row := modesBackUptoRow, standIns := [], harness := (true, "a34a332bcfdfd8a5f0185cf28a1ce525713af81cba015496baaa4899a883bbe8"), looks := false }, kinds := [], alts := [], laidByText := true, laidKinds := [.data], laidTests := true, laidLooks := .later }
def ModesBackUptoCardSaid : Prop := Claim7.holds Tryz.pinned (.plain (OpenSpec.upto modesBackSpec)) modesBackUptoCard

/-- THE SECOND FORM's CARD OF 'scrimlaw12.ModesErrs'. -/
def modesErrsUptoCard : Claim7 := { stood := { row := modesErrsUptoRow, standIns := [], harness := (true, "a34a332bcfdfd8a5f0185cf28a1ce525713af81cba015496baaa4899a883bbe8"), looks := false }, kinds := [], alts := [], laidByText := true, laidKinds := [.data], laidTests := true, laidLooks := .later }
def ModesErrsUptoCardSaid : Prop := Claim7.holds Tryz.pinned (.plain (OpenSpec.upto modesErrsSpec)) modesErrsUptoCard

/-- THE SECOND FORM's CARD OF 'scrimlaw12.ModesStreams'. -/
def modesStreamsUptoCard : Claim7 := { stood := { row := modesStreamsUptoRow, standIns := [], harness := (true, "a34a332bcfdfd8a5f0185cf28a1ce525713af81cba015496baaa4899a883bbe8"), looks := false }, kinds := [], alts := [], laidByText := true, laidKinds := [.data], laidTests := true, laidLooks := .later }
def ModesStreamsUptoCardSaid : Prop := Claim7.holds Tryz.pinned (.plain (OpenSpec.upto modesStreamsSpec)) modesStreamsUptoCard
end Rows
end Go.Proofs.YtjoniepofpcolaaGreatDoor
