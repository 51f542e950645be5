/-
  DERIVED. GIVEN WITH THE SEED: THE CARDS: each row of YtnmohpcigbdbcaaGreatDoorRows.lean that lists a variable, with what it lists TIED to the program's text (the seventh form; the later family's looks); each row that meets fmt, with fmt's text TOLD by the authors' own Lean function (tested against real Go, not proved from fmt's source: count such statements apart). THE CARD IS WHAT COUNTS. Prove the row's statement (the work); the ties are given (YtnmohpcigbdbcaaGreatDoorTie.lean); close each card by the builder's one call (the guide's Derived/Test/ToyasCard.lean, 'card_holds'). Laid BY PROGRAM, IN A SANDBOX (cutbox-door.mjs). By AI agents, Wed Nov 11 2026. No macro, syntax, notation, axiom, sorry.
-/
import Derived.Test.YtnmohpcigbdbcaaGreatDoorRows
import GoSem.ClaimSeven
namespace Go.Proofs.YtnmohpcigbdbcaaGreatDoor
namespace Rows

/-- THE TIED CARD OF 'scrimlaw11.CipherBlocks'. -/
def cipherBlocksCard : Claim7 := { stood := { row := cipherBlocksRow, standIns := [], harness := (true, "d6286ad5baf868e9306d15b5402cd7b794ccdc48fff924d2940a65358f28a146"), looks := false }, kinds := [], alts := [], laidByText := true, laidKinds := [.data], laidTests := true, laidLooks := .later }
def CipherBlocksCardSaid : Prop := Claim7.holds Tryz.pinned (.plain (OpenSpec.ofChange cipherBlocksSpec)) cipherBlocksCard

/-- THE TIED CARD OF 'scrimlaw11.CipherTags'. -/
def cipherTagsCard : Claim7 := { stood := { row := cipherTagsRow, standIns := [], harness := (true, "d6286ad5baf868e9306d15b5402cd7b794ccdc48fff924d2940a65358f28a146"), looks := false }, kinds := [], alts := [], laidByText := true, laidKinds := [.data], laidTests := true, laidLooks := .later }
def CipherTagsCardSaid : Prop := Claim7.holds Tryz.pinned (.plain (OpenSpec.ofChange cipherTagsSpec)) cipherTagsCard

/-- THE TIED CARD OF 'scrimlaw11.CipherBack'. -/
def cipherBackCard : Claim7 := { stood := { row := cipherBackRow, standIns := [], harness := (true, "d6286ad5baf868e9306d15b5402cd7b794ccdc48fff924d2940a65358f28a146"), looks := false }, kinds := [], alts := [], laidByText := true, laidKinds := [.data], laidTests := true, laidLooks := .later }
def CipherBackCardSaid : Prop := Claim7.holds Tryz.pinned (.plain (OpenSpec.ofChange cipherBackSpec)) cipherBackCard

/-- THE TIED CARD OF 'scrimlaw11.CipherErrs'. -/
def cipherErrsCard : Claim7 := { stood := { row := cipherErrsRow, standIns := [], harness := (true, "d6286ad5baf868e9306d15b5402cd7b794ccdc48fff924d2940a65358f28a146"), looks := false }, kinds := [], alts := [], laidByText := true, laidKinds := [.data], laidTests := true, laidLooks := .later }
def CipherErrsCardSaid : Prop := Claim7.holds Tryz.pinned (.plain (OpenSpec.ofChange cipherErrsSpec)) cipherErrsCard

/-- THE TIED CARD OF 'scrimlaw11.CipherSame'. -/
def cipherSameCard : Claim7 := { stood := { row := cipherSameRow, standIns := [], harness := (true, "d6286ad5baf868e9306d15b5402cd7b794ccdc48fff924d2940a65358f28a146"), looks := false }, kinds := [], alts := [], laidByText := true, laidKinds := [.data], laidTests := true, laidLooks := .later }
def CipherSameCardSaid : Prop := Claim7.holds Tryz.pinned (.plain (OpenSpec.ofChange cipherSameSpec)) cipherSameCard

/-- THE TIED CARD OF 'scrimlaw11.CipherMany'. -/
def cipherManyCard : Claim7 := { stood := { row := cipherManyRow, standIns := [], harness := (true, "d6286ad5baf868e9306d15b5402cd7b794ccdc48fff924d2940a65358f28a146"), looks := false }, kinds := [], alts := [], laidByText := true, laidKinds := [.data], laidTests := true, laidLooks := .later }
def CipherManyCardSaid : Prop := Claim7.holds Tryz.pinned (.plain (OpenSpec.ofChange cipherManySpec)) cipherManyCard

/-- THE TIED CARD OF 'scrimlaw11.CipherApart'. -/
def cipherApartCard : Claim7 := { stood := { row := cipherApartRow, standIns := [], harness := (true, "d6286ad5baf868e9306d15b5402cd7b794ccdc48fff924d2940a65358f28a146"), looks := false }, kinds := [], alts := [], laidByText := true, laidKinds := [.data], laidTests := true, laidLooks := .later }
def CipherApartCardSaid : Prop := Claim7.holds Tryz.pinned (.plain (OpenSpec.ofChange cipherApartSpec)) cipherApartCard

/-- THE SECOND FORM's CARD OF 'scrimlaw11.CipherBlocks'. -/
def cipherBlocksUptoCard : Claim7 := { stood := { row := cipherBlocksUptoRow, standIns := [], harness := (true, "d6286ad5baf868e9306d15b5402cd7b794ccdc48fff924d2940a65358f28a146"), looks := false }, kinds := [], alts := [], laidByText := true, laidKinds := [.data], laidTests := true, laidLooks := .later }
def CipherBlocksUptoCardSaid : Prop := Claim7.holds Tryz.pinned (.plain (OpenSpec.upto cipherBlocksSpec)) cipherBlocksUptoCard

/-- THE SECOND FORM's CARD OF 'scrimlaw11.CipherTags'. -/
def cipherTagsUptoCard : Claim7 := { stood := { row := cipherTagsUptoRow, standIns := [], harness := (true, "d6286ad5baf868e9306d15b5402cd7b794ccdc48fff924d2940a65358f28a146"), looks := false }, kinds := [], alts := [], laidByText := true, laidKinds := [.data], laidTests := true, laidLooks := .later }
def CipherTagsUptoCardSaid : Prop := Claim7.holds Tryz.pinned (.plain (OpenSpec.upto cipherTagsSpec)) cipherTagsUptoCard

/-- THE SECOND FORM's CARD OF 'scrimlaw11.CipherBack'. -/
def cipherBackUptoCard : Claim7 := { stood := { row := cipherBackUptoRow, standIns := [], harness := (true, "d6286ad5baf868e9306d15b5402cd7b794ccdc48fff924d2940a65358f28a146"), looks := false }, kinds := [], alts := [], laidByText := true, laidKinds := [.data], laidTests := true, laidLooks := .later }
def CipherBackUptoCardSaid : Prop := Claim7.holds Tryz.pinned (.plain (OpenSpec.upto cipherBackSpec)) cipherBackUptoCard

/-- THE SECOND FORM's CARD OF 'scrimlaw11.CipherErrs'. -/
def cipherErrsUptoCard : Claim7 := { stood := { row := cipherErrsUptoRow, standIns := [], harness := (true, "d6286ad5baf868e9306d15b5402cd7b794ccdc48fff924d2940a65358f28a146"), looks := false }, kinds := [], alts := [], laidByText := true, laidKinds := [.data], laidTests := true, laidLooks := .later }
def CipherErrsUptoCardSaid : Prop := Claim7.holds Tryz.pinned (.plain (OpenSpec.upto cipherErrsSpec)) cipherErrsUptoCard

/-- THE SECOND FORM's CARD OF 'scrimlaw11.CipherSame'. -/
def cipherSameUptoCard : Claim7 := { stood := { row := cipherSameUptoRow, standIns := [], harness := (true, "d6286ad5baf868e9306d15b5402cd7b794ccdc48fff924d2940a65358f28a146"), looks := false }, kinds := [], alts := [], laidByText := true, laidKinds := [.data], laidTests := true, laidLooks := .later }
def CipherSameUptoCardSaid : Prop := Claim7.holds Tryz.pinned (.plain (OpenSpec.upto cipherSameSpec)) cipherSameUptoCard

/-- THE SECOND FORM's CARD OF 'scrimlaw11.CipherMany'. -/
def cipherManyUptoCard : Claim7 := { stood := { row := cipherManyUptoRow, standIns := [], harness := (true, "d6286ad5baf868e9306d15b5402cd7b794ccdc48fff924d2940a65358f28a146"), looks := false }, kinds := [], alts := [], laidByText := true, laidKinds := [.data], laidTests := true, laidLooks := .later }
def CipherManyUptoCardSaid : Prop := Claim7.holds Tryz.pinned (.plain (OpenSpec.upto cipherManySpec)) cipherManyUptoCard

/-- THE SECOND FORM's CARD OF 'scrimlaw11.CipherApart'. -/
def cipherApartUptoCard : Claim7 := { stood := { row := cipherApartUptoRow, standIns := [], harness := (true, "d6286ad5baf868e9306d15b5402cd7b794ccdc48fff924d2940a65358f28a146"), looks := false }, kinds := [], alts := [], laidByText := true, laidKinds := [.data], laidTests := true, laidLooks := .later }
def CipherApartUptoCardSaid : Prop := Claim7.holds Tryz.pinned (.plain (OpenSpec.upto cipherApartSpec)) cipherApartUptoCard
end Rows
end Go.Proofs.YtnmohpcigbdbcaaGreatDoor
