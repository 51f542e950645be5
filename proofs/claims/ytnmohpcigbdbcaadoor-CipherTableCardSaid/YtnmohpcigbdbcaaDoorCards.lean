/-
  DERIVED. GIVEN WITH THE SEED: THE CARDS: each row of YtnmohpcigbdbcaaDoorRows.lean that lists a variable, with what it lists TIED to the program's text (the seventh form; the later family's looks); each row that meets fmt, with fmt's text TOLD by the authors' own Lean function (tested against real Go, not proved from fmt's source: count such statements apart). THE CARD IS WHAT COUNTS. Prove the row's statement (the work); the ties are given (YtnmohpcigbdbcaaDoorTie.lean); close each card by the builder's one call (the guide's Derived/Test/ToyasCard.lean, 'card_holds'). Laid BY PROGRAM, IN A SANDBOX (cutbox-door.mjs). By AI agents, Wed Nov 11 2026. No macro, syntax, notation, axiom, sorry.
-/
import Derived.Test.YtnmohpcigbdbcaaDoorRows
import GoSem.ClaimSeven
namespace Go.Proofs.YtnmohpcigbdbcaaDoor
namespace Rows

/-- THE TIED CARD OF 'scrimlaw11.CipherTable'. -/
def cipherTableCard : Claim7 := { stood := { row := cipherTableRow, standIns := [], harness := (true, "80e15471f9fc55db1bde1e1ea15f92cfba7eaef5b4dbf945b866b871f3ac158e"), looks := false }, kinds := [], alts := [], laidByText := true, laidKinds := [.data], laidTests := true, laidLooks := .later }
def CipherTableCardSaid : Prop := Claim7.holds Tryd.pinned (.plain (OpenSpec.ofChange cipherTableSpec)) cipherTableCard

/-- THE SECOND FORM's CARD OF 'scrimlaw11.CipherTable'. -/
def cipherTableUptoCard : Claim7 := { stood := { row := cipherTableUptoRow, standIns := [], harness := (true, "80e15471f9fc55db1bde1e1ea15f92cfba7eaef5b4dbf945b866b871f3ac158e"), looks := false }, kinds := [], alts := [], laidByText := true, laidKinds := [.data], laidTests := true, laidLooks := .later }
def CipherTableUptoCardSaid : Prop := Claim7.holds Tryd.pinned (.plain (OpenSpec.upto cipherTableSpec)) cipherTableUptoCard
end Rows
end Go.Proofs.YtnmohpcigbdbcaaDoor
