/-
  DERIVED. GIVEN WITH THE SEED: THE CARDS: each row of YtggojcedobgnaaaGreatDoorRows.lean that lists a variable, with what it lists TIED to the program's text (the seventh form; the later family's looks); each row that meets fmt, with fmt's text TOLD by the authors' own Lean function (tested against real Go, not proved from fmt's source: count such statements apart). THE CARD IS WHAT COUNTS. Prove the row's statement (the work); the ties are given (YtggojcedobgnaaaGreatDoorTie.lean); close each card by the builder's one call (the guide's Derived/Test/ToyasCard.lean, 'card_holds'). Laid BY PROGRAM, IN A SANDBOX (cutbox-door.mjs). By AI agents, Wed Nov 11 2026. No macro, syntax, notation, axiom, sorry.
-/
import Derived.Test.YtggojcedobgnaaaGreatDoorRows
import GoSem.ClaimSeven
namespace Go.Proofs.YtggojcedobgnaaaGreatDoor
namespace Rows

/-- THE TIED CARD OF 'scrimlaw16.CtxPieces'. -/
def ctxPiecesCard : Claim7 := { stood := { row := ctxPiecesRow, standIns := [], harness := (true, "6a1c9a67ee9441173443424fc916af0574ca8dbd7aacd074d43ae305198cd875"), looks := true }, kinds := [], alts := [], laidByText := true, laidKinds := [.data], laidTests := true, laidLooks := .later }
def CtxPiecesCardSaid : Prop := Claim7.holds Tryz.pinned (.plain (OpenSpec.ofChange ctxPiecesSpec)) ctxPiecesCard

/-- THE TIED CARD OF 'scrimlaw16.CtxCut'. -/
def ctxCutCard : Claim7 := { stood := { row := ctxCutRow, standIns := [], harness := (true, "6a1c9a67ee9441173443424fc916af0574ca8dbd7aacd074d43ae305198cd875"), looks := true }, kinds := [], alts := [], laidByText := true, laidKinds := [.data], laidTests := true, laidLooks := .later }
def CtxCutCardSaid : Prop := Claim7.holds Tryz.pinned (.plain (OpenSpec.ofChange ctxCutSpec)) ctxCutCard

/-- THE TIED CARD OF 'scrimlaw16.CtxFront'. -/
def ctxFrontCard : Claim7 := { stood := { row := ctxFrontRow, standIns := [], harness := (true, "6a1c9a67ee9441173443424fc916af0574ca8dbd7aacd074d43ae305198cd875"), looks := true }, kinds := [], alts := [], laidByText := true, laidKinds := [.data], laidTests := true, laidLooks := .later }
def CtxFrontCardSaid : Prop := Claim7.holds Tryz.pinned (.plain (OpenSpec.ofChange ctxFrontSpec)) ctxFrontCard

/-- THE TIED CARD OF 'scrimlaw16.CtxBack'. -/
def ctxBackCard : Claim7 := { stood := { row := ctxBackRow, standIns := [], harness := (true, "6a1c9a67ee9441173443424fc916af0574ca8dbd7aacd074d43ae305198cd875"), looks := true }, kinds := [], alts := [], laidByText := true, laidKinds := [.data], laidTests := true, laidLooks := .later }
def CtxBackCardSaid : Prop := Claim7.holds Tryz.pinned (.plain (OpenSpec.ofChange ctxBackSpec)) ctxBackCard

/-- THE TIED CARD OF 'scrimlaw16.CtxHeld'. -/
def ctxHeldCard : Claim7 := { stood := { row := ctxHeldRow, standIns := [], harness := (true, "6a1c9a67ee9441173443424fc916af0574ca8dbd7aacd074d43ae305198cd875"), looks := true }, kinds := [], alts := [], laidByText := true, laidKinds := [.data], laidTests := true, laidLooks := .later }
def CtxHeldCardSaid : Prop := Claim7.holds Tryz.pinned (.plain (OpenSpec.ofChange ctxHeldSpec)) ctxHeldCard

/-- THE TIED CARD OF 'scrimlaw16.CtxRefused'. -/
def ctxRefusedCard : Claim7 := { stood := { row := ctxRefusedRow, standIns := [], harness := (true, "6a1c9a67ee9441173443424fc916af0574ca8dbd7aacd074d43ae305198cd875"), looks := true }, kinds := [], alts := [], laidByText := true, laidKinds := [.data], laidTests := true, laidLooks := .later }
def CtxRefusedCardSaid : Prop := Claim7.holds Tryz.pinned (.plain (OpenSpec.ofChange ctxRefusedSpec)) ctxRefusedCard

/-- THE TIED CARD OF 'scrimlaw16.CtxAgain'. -/
def ctxAgainCard : Claim7 := { stood := { row := ctxAgainRow, standIns := [], harness := (true, "6a1c9a67ee9441173443424fc916af0574ca8dbd7aacd074d43ae305198cd875"), looks := true }, kinds := [], alts := [], laidByText := true, laidKinds := [.data], laidTests := true, laidLooks := .later }
def CtxAgainCardSaid : Prop := Claim7.holds Tryz.pinned (.plain (OpenSpec.ofChange ctxAgainSpec)) ctxAgainCard

/-- THE TIED CARD OF 'scrimlaw16.CtxBytes'. -/
def ctxBytesCard : Claim7 := { stood := { row := ctxBytesRow, standIns := [], harness := (true, "6a1c9a67ee9441173443424fc916af0574ca8dbd7aacd074d43ae305198cd875"), looks := true }, kinds := [], alts := [], laidByText := true, laidKinds := [.data], laidTests := true, laidLooks := .later }
def CtxBytesCardSaid : Prop := Claim7.holds Tryz.pinned (.plain (OpenSpec.ofChange ctxBytesSpec)) ctxBytesCard

/-- THE TIED CARD OF 'scrimlaw16.CtxEmpty'. -/
def ctxEmptyCard : Claim7 := { stood := { row := ctxEmptyRow, standIns := [], harness := (true, "6a1c9a67ee9441173443424fc916af0574ca8dbd7aacd074d43ae305198cd875"), looks := true }, kinds := [], alts := [], laidByText := true, laidKinds := [.data], laidTests := true, laidLooks := .later }
def CtxEmptyCardSaid : Prop := Claim7.holds Tryz.pinned (.plain (OpenSpec.ofChange ctxEmptySpec)) ctxEmptyCard

/-- THE TIED CARD OF 'scrimlaw16.CtxHolds'. -/
def ctxHoldsCard : Claim7 := { stood := { row := ctxHoldsRow, standIns := [], harness := (true, "6a1c9a67ee9441173443424fc916af0574ca8dbd7aacd074d43ae305198cd875"), looks := true }, kinds := [], alts := [], laidByText := true, laidKinds := [.data], laidTests := true, laidLooks := .later }
def CtxHoldsCardSaid : Prop := Claim7.holds Tryz.pinned (.plain (OpenSpec.ofChange ctxHoldsSpec)) ctxHoldsCard

/-- THE TIED CARD OF 'scrimlaw16.CtxErrs'. -/
def ctxErrsCard : Claim7 := { stood := { row := ctxErrsRow, standIns := [], harness := (true, "6a1c9a67ee9441173443424fc916af0574ca8dbd7aacd074d43ae305198cd875"), looks := true }, kinds := [], alts := [], laidByText := true, laidKinds := [.data], laidTests := true, laidLooks := .later }
def CtxErrsCardSaid : Prop := Claim7.holds Tryz.pinned (.plain (OpenSpec.ofChange ctxErrsSpec)) ctxErrsCard

/-- THE TIED CARD OF 'scrimlaw16.CtxStates'. -/
def ctxStatesCard : Claim7 := { stood := { row := ctxStatesRow, standIns := [], harness := (true, "6a1c9a67ee9441173443424fc916af0574ca8dbd7aacd074d43ae305198cd875"), looks := true }, kinds := [], alts := [], laidByText := true, laidKinds := [.data], laidTests := true, laidLooks := .later }
def CtxStatesCardSaid : Prop := Claim7.holds Tryz.pinned (.plain (OpenSpec.ofChange ctxStatesSpec)) ctxStatesCard

/-- THE TIED CARD OF 'scrimlaw16.CtxReset'. -/
def ctxResetCard : Claim7 := { stood := { row := ctxResetRow, standIns := [], harness := (true, "6a1c9a67ee9441173443424fc916af0574ca8dbd7aacd074d43ae305198cd875"), looks := true }, kinds := [], alts := [], laidByText := true, laidKinds := [.data], laidTests := true, laidLooks := .later }
def CtxResetCardSaid : Prop := Claim7.holds Tryz.pinned (.plain (OpenSpec.ofChange ctxResetSpec)) ctxResetCard

/-- THE SECOND FORM's CARD OF 'scrimlaw16.CtxPieces'. -/
def ctxPiecesUptoCard : Claim7 := { stood := { row := ctxPiecesUptoRow, standIns := [], harness := (true, "6a1c9a67ee9441173443424fc916af0574ca8dbd7aacd074d43ae305198cd875"), looks := true }, kinds := [], alts := [], laidByText := true, laidKinds := [.data], laidTests := true, laidLooks := .later }
def CtxPiecesUptoCardSaid : Prop := Claim7.holds Tryz.pinned (.plain (OpenSpec.upto ctxPiecesSpec)) ctxPiecesUptoCard

/-- THE SECOND FORM's CARD OF 'scrimlaw16.CtxCut'. -/
def ctxCutUptoCard : Claim7 := { stood := { row := ctxCutUptoRow, standIns := [], harness := (true, "6a1c9a67ee9441173443424fc916af0574ca8dbd7aacd074d43ae305198cd875"), looks := true }, kinds := [], alts := [], laidByText := true, laidKinds := [.data], laidTests := true, laidLooks := .later }
def CtxCutUptoCardSaid : Prop := Claim7.holds Tryz.pinned (.plain (OpenSpec.upto ctxCutSpec)) ctxCutUptoCard

/-- THE SECOND FORM's CARD OF 'scrimlaw16.CtxFront'. -/
def ctxFrontUptoCard : Claim7 := { stood := { row := ctxFrontUptoRow, standIns := [], harness := (true, "6a1c9a67ee9441173443424fc916af0574ca8dbd7aacd074d43ae305198cd875"), looks := true }, kinds := [], alts := [], laidByText := true, laidKinds := [.data], laidTests := true, laidLooks := .later }
def CtxFrontUptoCardSaid : Prop := Claim7.holds Tryz.pinned (.plain (OpenSpec.upto ctxFrontSpec)) ctxFrontUptoCard

/-- THE SECOND FORM's CARD OF 'scrimlaw16.CtxBack'. -/
def ctxBackUptoCard : Claim7 := { stood := { row := ctxBackUptoRow, standIns := [], harness := (true, "6a1c9a67ee9441173443424fc916af0574ca8dbd7aacd074d43ae305198cd875"), looks := true }, kinds := [], alts := [], laidByText := true, laidKinds := [.data], laidTests := true, laidLooks := .later }
def CtxBackUptoCardSaid : Prop := Claim7.holds Tryz.pinned (.plain (OpenSpec.upto ctxBackSpec)) ctxBackUptoCard

/-- THE SECOND FORM's CARD OF 'scrimlaw16.CtxHeld'. -/
def ctxHeldUptoCard : Claim7 := { stood := { row := ctxHeldUptoRow, standIns := [], harness := (true, "6a1c9a67ee9441173443424fc916af0574ca8dbd7aacd074d43ae305198cd875"), looks := true }, kinds := [], alts := [], laidByText := true, laidKinds := [.data], laidTests := true, laidLooks := .later }
def CtxHeldUptoCardSaid : Prop := Claim7.holds Tryz.pinned (.plain (OpenSpec.upto ctxHeldSpec)) ctxHeldUptoCard

/-- THE SECOND FORM's CARD OF 'scrimlaw16.CtxRefused'. -/
def ctxRefusedUptoCard : Claim7 := { stood := { row := ctxRefusedUptoRow, standIns := [], harness := (true, "6a1c9a67ee9441173443424fc916af0574ca8dbd7aacd074d43ae305198cd875"), looks := true }, kinds := [], alts := [], laidByText := true, laidKinds := [.data], laidTests := true, laidLooks := .later }
def CtxRefusedUptoCardSaid : Prop := Claim7.holds Tryz.pinned (.plain (OpenSpec.upto ctxRefusedSpec)) ctxRefusedUptoCard

/-- THE SECOND FORM's CARD OF 'scrimlaw16.CtxAgain'. -/
def ctxAgainUptoCard : Claim7 := { stood := { row := ctxAgainUptoRow, standIns := [], harness := (true, "6a1c9a67ee9441173443424fc916af0574ca8dbd7aacd074d43ae305198cd875"), looks := true }, kinds := [], alts := [], laidByText := true, laidKinds := [.data], laidTests := true, laidLooks := .later }
def CtxAgainUptoCardSaid : Prop := Claim7.holds Tryz.pinned (.plain (OpenSpec.upto ctxAgainSpec)) ctxAgainUptoCard

/-- THE SECOND FORM's CARD OF 'scrimlaw16.CtxBytes'. -/
def ctxBytesUptoCard : Claim7 := { stood := { row := ctxBytesUptoRow, standIns := [], harness := (true, "6a1c9a67ee9441173443424fc916af0574ca8dbd7aacd074d43ae305198cd875"), looks := true }, kinds := [], alts := [], laidByText := true, laidKinds := [.data], laidTests := true, laidLooks := .later }
def CtxBytesUptoCardSaid : Prop := Claim7.holds Tryz.pinned (.plain (OpenSpec.upto ctxBytesSpec)) ctxBytesUptoCard

/-- THE SECOND FORM's CARD OF 'scrimlaw16.CtxEmpty'. -/
def ctxEmptyUptoCard : Claim7 := { stood := { row := ctxEmptyUptoRow, standIns := [], harness := (true, "6a1c9a67ee9441173443424fc916af0574ca8dbd7aacd074d43ae305198cd875"), looks := true }, kinds := [], alts := [], laidByText := true, laidKinds := [.data], laidTests := true, laidLooks := .later }
def CtxEmptyUptoCardSaid : Prop := Claim7.holds Tryz.pinned (.plain (OpenSpec.upto ctxEmptySpec)) ctxEmptyUptoCard

/-- THE SECOND FORM's CARD OF 'scrimlaw16.CtxHolds'. -/
def ctxHoldsUptoCard : Claim7 := { stood := { row := ctxHoldsUptoRow, standIns := [], harness := (true, "6a1c9a67ee9441173443424fc916af0574ca8dbd7aacd074d43ae305198cd875"), looks := true }, kinds := [], alts := [], laidByText := true, laidKinds := [.data], laidTests := true, laidLooks := .later }
def CtxHoldsUptoCardSaid : Prop := Claim7.holds Tryz.pinned (.plain (OpenSpec.upto ctxHoldsSpec)) ctxHoldsUptoCard

/-- THE SECOND FORM's CARD OF 'scrimlaw16.CtxErrs'. -/
def ctxErrsUptoCard : Claim7 := { stood := { row := ctxErrsUptoRow, standIns := [], harness := (true, "6a1c9a67ee9441173443424fc916af0574ca8dbd7aacd074d43ae305198cd875"), looks := true }, kinds := [], alts := [], laidByText := true, laidKinds := [.data], laidTests := true, laidLooks := .later }
def CtxErrsUptoCardSaid : Prop := Claim7.holds Tryz.pinned (.plain (OpenSpec.upto ctxErrsSpec)) ctxErrsUptoCard

/-- THE SECOND FORM's CARD OF 'scrimlaw16.CtxStates'. -/
def ctxStatesUptoCard : Claim7 := { stood := { row := ctxStatesUptoRow, standIns := [], harness := (true, "6a1c9a67ee9441173443424fc916af0574ca8dbd7aacd074d43ae305198cd875"), looks := true }, kinds := [], alts := [], laidByText := true, laidKinds := [.data], laidTests := true, laidLooks := .later }
def CtxStatesUptoCardSaid : Prop := Claim7.holds Tryz.pinned (.plain (OpenSpec.upto ctxStatesSpec)) ctxStatesUptoCard

/-- THE SECOND FORM's CARD OF 'scrimlaw16.CtxReset'. -/
def ctxResetUptoCard : Claim7 := { stood := { row := ctxResetUptoRow, standIns := [], harness := (true, "6a1c9a67ee9441173443424fc916af0574ca8dbd7aacd074d43ae305198cd875"), looks := true }, kinds := [], alts := [], laidByText := true, laidKinds := [.data], laidTests := true, laidLooks := .later }
def CtxResetUptoCardSaid : Prop := Claim7.holds Tryz.pinned (.plain (OpenSpec.upto ctxResetSpec)) ctxResetUptoCard
end Rows
end Go.Proofs.YtggojcedobgnaaaGreatDoor
