/-
  DERIVED. GIVEN WITH THE SEED: THE CARDS: each row of YtmgldmininkdfaaGreatDoorRows.lean that lists a variable, with what it lists TIED to the program's text (the seventh form; the later family's looks); each row that meets fmt, with fmt's text TOLD by the authors' own Lean function (tested against real Go, not proved from fmt's source: count such statements apart). THE CARD IS WHAT COUNTS. Prove the row's statement (the work); the ties are given (YtmgldmininkdfaaGreatDoorTie.lean); close each card by the builder's one call (the guide's Derived/Test/ToyasCard.lean, 'card_holds'). Laid BY PROGRAM, IN A SANDBOX (cutbox-door.mjs). By AI agents, Wed Nov 11 2026. No macro, syntax, notation, axiom, sorry.
-/
import Derived.Test.YtmgldmininkdfaaGreatDoorRows
import GoSem.ClaimSeven
namespace Go.Proofs.YtmgldmininkdfaaGreatDoor
namespace Rows

/-- THE TIED CARD OF 'scrimlaw16.CtxPieces'. -/
def ctxPiecesCard : Claim7 := { stood := { row := ctxPiecesRow, standIns := [], harness := (true, "f40797810d16fd6cfddffe6e585cdd1382eea645ac42c5d732000325576e77ab"), looks := true }, kinds := [], alts := [], laidByText := true, laidKinds := [.data], laidTests := true, laidLooks := .later }
def CtxPiecesCardSaid : Prop := Claim7.holds Tryz.pinned (.plain (OpenSpec.ofChange ctxPiecesSpec)) ctxPiecesCard

/-- THE TIED CARD OF 'scrimlaw16.CtxCut'. -/
def ctxCutCard : Claim7 := { stood := { row := ctxCutRow, standIns := [], harness := (true, "f40797810d16fd6cfddffe6e585cdd1382eea645ac42c5d732000325576e77ab"), looks := true }, kinds := [], alts := [], laidByText := true, laidKinds := [.data], laidTests := true, laidLooks := .later }
def CtxCutCardSaid : Prop := Claim7.holds Tryz.pinned (.plain (OpenSpec.ofChange ctxCutSpec)) ctxCutCard

/-- THE TIED CARD OF 'scrimlaw16.CtxFront'. -/
def ctxFrontCard : Claim7 := { stood := { row := ctxFrontRow, standIns := [], harness := (true, "f40797810d16fd6cfddffe6e585cdd1382eea645ac42c5d732000325576e77ab"), looks := true }, kinds := [], alts := [], laidByText := true, laidKinds := [.data], laidTests := true, laidLooks := .later }
def CtxFrontCardSaid : Prop := Claim7.holds Tryz.pinned (.plain (OpenSpec.ofChange ctxFrontSpec)) ctxFrontCard

/-- THE TIED CARD OF 'scrimlaw16.CtxHeld'. -/
def ctxHeldCard : Claim7 := { stood := { row := ctxHeldRow, standIns := [], harness := (true, "f40797810d16fd6cfddffe6e585cdd1382eea645ac42c5d732000325576e77ab"), looks := true }, kinds := [], alts := [], laidByText := true, laidKinds := [.data], laidTests := true, laidLooks := .later }
def CtxHeldCardSaid : Prop := Claim7.holds Tryz.pinned (.plain (OpenSpec.ofChange ctxHeldSpec)) ctxHeldCard

/-- THE TIED CARD OF 'scrimlaw16.CtxBytes'. -/
def ctxBytesCard : Claim7 := { stood := { row := ctxBytesRow, standIns := [], harness := (true, "f40797810d16fd6cfddffe6e585cdd1382eea645ac42c5d732000325576e77ab"), looks := true }, kinds := [], alts := [], laidByText := true, laidKinds := [.data], laidTests := true, laidLooks := .later }
def CtxBytesCardSaid : Prop := Claim7.holds Tryz.pinned (.plain (OpenSpec.ofChange ctxBytesSpec)) ctxBytesCard

/-- THE TIED CARD OF 'scrimlaw16.CtxEmpty'. -/
def ctxEmptyCard : Claim7 := { stood := { row := ctxEmptyRow, standIns := [], harness := (true, "f40797810d16fd6cfddffe6e585cdd1382eea645ac42c5d732000325576e77ab"), looks := true }, kinds := [], alts := [], laidByText := true, laidKinds := [.data], laidTests := true, laidLooks := .later }
def CtxEmptyCardSaid : Prop := Claim7.holds Tryz.pinned (.plain (OpenSpec.ofChange ctxEmptySpec)) ctxEmptyCard

/-- THE SECOND FORM's CARD OF 'scrimlaw16.CtxPieces'. -/
def ctxPiecesUptoCard : Claim7 := { stood := { row := ctxPiecesUptoRow, standIns := [], harness := (true, "f40797810d16fd6cfddffe6e585cdd1382eea645ac42c5d732000325576e77ab"), looks := true }, kinds := [], alts := [], laidByText := true, laidKinds := [.data], laidTests := true, laidLooks := .later }
def CtxPiecesUptoCardSaid : Prop := Claim7.holds Tryz.pinned (.plain (OpenSpec.upto ctxPiecesSpec)) ctxPiecesUptoCard

/-- THE SECOND FORM's CARD OF 'scrimlaw16.CtxCut'. -/
def ctxCutUptoCard : Claim7 := { stood := { row := ctxCutUptoRow, standIns := [], harness := (true, "f40797810d16fd6cfddffe6e585cdd1382eea645ac42c5d732000325576e77ab"), looks := true }, kinds := [], alts := [], laidByText := true, laidKinds := [.data], laidTests := true, laidLooks := .later }
def CtxCutUptoCardSaid : Prop := Claim7.holds Tryz.pinned (.plain (OpenSpec.upto ctxCutSpec)) ctxCutUptoCard

/-- THE SECOND FORM's CARD OF 'scrimlaw16.CtxFront'. -/
def ctxFrontUptoCard : Claim7 := { stood := { row := ctxFrontUptoRow, standIns := [], harness := (true, "f40797810d16fd6cfddffe6e585cdd1382eea645ac42c5d732000325576e77ab"), looks := true }, kinds := [], alts := [], laidByText := true, laidKinds := [.data], laidTests := true, laidLooks := .later }
def CtxFrontUptoCardSaid : Prop := Claim7.holds Tryz.pinned (.plain (OpenSpec.upto ctxFrontSpec)) ctxFrontUptoCard

/-- THE SECOND FORM's CARD OF 'scrimlaw16.CtxHeld'. -/
def ctxHeldUptoCard : Claim7 := { stood := { row := ctxHeldUptoRow, standIns := [], harness := (true, "f40797810d16fd6cfddffe6e585cdd1382eea645ac42c5d732000325576e77ab"), looks := true }, kinds := [], alts := [], laidByText := true, laidKinds := [.data], laidTests := true, laidLooks := .later }
def CtxHeldUptoCardSaid : Prop := Claim7.holds Tryz.pinned (.plain (OpenSpec.upto ctxHeldSpec)) ctxHeldUptoCard

/-- THE SECOND FORM's CARD OF 'scrimlaw16.CtxBytes'. -/
def ctxBytesUptoCard : Claim7 := { stood := { row := ctxBytesUptoRow, standIns := [], harness := (true, "f40797810d16fd6cfddffe6e585cdd1382eea645ac42c5d732000325576e77ab"), looks := true }, kinds := [], alts := [], laidByText := true, laidKinds := [.data], laidTests := true, laidLooks := .later }
def CtxBytesUptoCardSaid : Prop := Claim7.holds Tryz.pinned (.plain (OpenSpec.upto ctxBytesSpec)) ctxBytesUptoCard

/-- THE SECOND FORM's CARD OF 'scrimlaw16.CtxEmpty'. -/
def ctxEmptyUptoCard : Claim7 := { stood := { row := ctxEmptyUptoRow, standIns := [], harness := (true, "f40797810d16fd6cfddffe6e585cdd1382eea645ac42c5d732000325576e77ab"), looks := true }, kinds := [], alts := [], laidByText := true, laidKinds := [.data], laidTests := true, laidLooks := .later }
def CtxEmptyUptoCardSaid : Prop := Claim7.holds Tryz.pinned (.plain (OpenSpec.upto ctxEmptySpec)) ctxEmptyUptoCard
end Rows
end Go.Proofs.YtmgldmininkdfaaGreatDoor
