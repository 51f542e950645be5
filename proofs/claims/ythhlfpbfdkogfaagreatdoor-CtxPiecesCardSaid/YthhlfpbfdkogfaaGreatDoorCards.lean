/-
  DERIVED. GIVEN WITH THE SEED: THE CARDS: each row of YthhlfpbfdkogfaaGreatDoorRows.lean that lists a variable, with what it lists TIED to the program's text (the seventh form; the later family's looks); each row that meets fmt, with fmt's text TOLD by the authors' own Lean function (tested against real Go, not proved from fmt's source: count such statements apart). THE CARD IS WHAT COUNTS. Prove the row's statement (the work); the ties are given (YthhlfpbfdkogfaaGreatDoorTie.lean); close each card by the builder's one call (the guide's Derived/Test/ToyasCard.lean, 'card_holds'). Laid BY PROGRAM, IN A SANDBOX (cutbox-door.mjs). By AI agents, Wed Nov 11 2026. No macro, syntax, notation, axiom, sorry.
-/
import Derived.Test.YthhlfpbfdkogfaaGreatDoorRows
import GoSem.ClaimSeven
namespace Go.Proofs.YthhlfpbfdkogfaaGreatDoor
namespace Rows

/-- THE TIED CARD OF 'scrimtop.TopStolen'. -/
def topStolenCard : Claim7 := { stood := { row := topStolenRow, standIns := [], harness := (true, "1c4a19251602e91eec53c590b0225df4c292c023232cf489b0a47162c0d7aefe"), looks := true }, kinds := [], alts := [], laidByText := true, laidKinds := [.data], laidTests := true, laidLooks := .later }
def TopStolenCardSaid : Prop := Claim7.holds Tryz.pinned (.plain (OpenSpec.ofChange topStolenSpec)) topStolenCard

/-- THE TIED CARD OF 'scrimtop.TopKeys'. -/
def topKeysCard : Claim7 := { stood := { row := topKeysRow, standIns := [], harness := (true, "1c4a19251602e91eec53c590b0225df4c292c023232cf489b0a47162c0d7aefe"), looks := true }, kinds := [], alts := [], laidByText := true, laidKinds := [.data], laidTests := true, laidLooks := .later }
def TopKeysCardSaid : Prop := Claim7.holds Tryz.pinned (.plain (OpenSpec.ofChange topKeysSpec)) topKeysCard

/-- THE TIED CARD OF 'scrimtop.TopOwn'. -/
def topOwnCard : Claim7 := { stood := { row := topOwnRow, standIns := [], harness := (true, "1c4a19251602e91eec53c590b0225df4c292c023232cf489b0a47162c0d7aefe"), looks := true }, kinds := [], alts := [], laidByText := true, laidKinds := [.data], laidTests := true, laidLooks := .later }
def TopOwnCardSaid : Prop := Claim7.holds Tryz.pinned (.plain (OpenSpec.ofChange topOwnSpec)) topOwnCard

/-- THE TIED CARD OF 'scrimlaw16.CtxPieces'. -/
def ctxPiecesCard : Claim7 := { stood := { row := ctxPiecesRow, standIns := [], harness := (true, "1c4a19251602e91eec53c590b0225df4c292c023232cf489b0a47162c0d7aefe"), looks := true }, kinds := [], alts := [], laidByText := true, laidKinds := [.data], laidTests := true, laidLooks := .later }
def CtxPiecesCardSaid : Prop := Claim7.holds Tryz.pinned (.plain (OpenSpec.ofChange ctxPiecesSpec)) ctxPiecesCard

/-- THE TIED CARD OF 'scrimlaw17.RunPlays'. -/
def runPlaysCard : Claim7 := { stood := { row := runPlaysRow, standIns := [], harness := (true, "1c4a19251602e91eec53c590b0225df4c292c023232cf489b0a47162c0d7aefe"), looks := true }, kinds := [], alts := [], laidByText := true, laidKinds := [.data], laidTests := true, laidLooks := .later }
def RunPlaysCardSaid : Prop := Claim7.holds Tryz.pinned (.plain (OpenSpec.ofChange runPlaysSpec)) runPlaysCard

/-- THE TIED CARD OF 'scrimlaw17.RunOut'. -/
def runOutCard : Claim7 := { stood := { row := runOutRow, standIns := [], harness := (true, "1c4a19251602e91eec53c590b0225df4c292c023232cf489b0a47162c0d7aefe"), looks := true }, kinds := [], alts := [], laidByText := true, laidKinds := [.data], laidTests := true, laidLooks := .later }
def RunOutCardSaid : Prop := Claim7.holds Tryz.pinned (.plain (OpenSpec.ofChange runOutSpec)) runOutCard

/-- THE TIED CARD OF 'scrimlaw17.RunSeals'. -/
def runSealsCard : Claim7 := { stood := { row := runSealsRow, standIns := [], harness := (true, "1c4a19251602e91eec53c590b0225df4c292c023232cf489b0a47162c0d7aefe"), looks := true }, kinds := [], alts := [], laidByText := true, laidKinds := [.data], laidTests := true, laidLooks := .later }
def RunSealsCardSaid : Prop := Claim7.holds Tryz.pinned (.plain (OpenSpec.ofChange runSealsSpec)) runSealsCard

/-- THE SECOND FORM's CARD OF 'scrimtop.TopStolen'. -/
def topStolenUptoCard : Claim7 := { stood := { row := topStolenUptoRow, standIns := [], harness := (true, "1c4a19251602e91eec53c590b0225df4c292c023232cf489b0a47162c0d7aefe"), looks := true }, kinds := [], alts := [], laidByText := true, laidKinds := [.data], laidTests := true, laidLooks := .later }
def TopStolenUptoCardSaid : Prop := Claim7.holds Tryz.pinned (.plain (OpenSpec.upto topStolenSpec)) topStolenUptoCard

/-- THE SECOND FORM's CARD OF 'scrimtop.TopKeys'. -/
def topKeysUptoCard : Claim7 := { stood := { row := topKeysUptoRow, standIns := [], harness := (true, "1c4a19251602e91eec53c590b0225df4c292c023232cf489b0a47162c0d7aefe"), looks := true }, kinds := [], alts := [], laidByText := true, laidKinds := [.data], laidTests := true, laidLooks := .later }
def TopKeysUptoCardSaid : Prop := Claim7.holds Tryz.pinned (.plain (OpenSpec.upto topKeysSpec)) topKeysUptoCard

/-- THE SECOND FORM's CARD OF 'scrimtop.TopOwn'. -/
def topOwnUptoCard : Claim7 := { stood := { row := topOwnUptoRow, standIns := [], harness := (true, "1c4a19251602e91eec53c590b0225df4c292c023232cf489b0a47162c0d7aefe"), looks := true }, kinds := [], alts := [], laidByText := true, laidKinds := [.data], laidTests := true, laidLooks := .later }
def TopOwnUptoCardSaid : Prop := Claim7.holds Tryz.pinned (.plain (OpenSpec.upto topOwnSpec)) topOwnUptoCard

/-- THE SECOND FORM's CARD OF 'scrimlaw16.CtxPieces'. -/
def ctxPiecesUptoCard : Claim7 := { stood := { row := ctxPiecesUptoRow, standIns := [], harness := (true, "1c4a19251602e91eec53c590b0225df4c292c023232cf489b0a47162c0d7aefe"), looks := true }, kinds := [], alts := [], laidByText := true, laidKinds := [.data], laidTests := true, laidLooks := .later }
def CtxPiecesUptoCardSaid : Prop := Claim7.holds Tryz.pinned (.plain (OpenSpec.upto ctxPiecesSpec)) ctxPiecesUptoCard

/-- THE SECOND FORM's CARD OF 'scrimlaw17.RunPlays'. -/
def runPlaysUptoCard : Claim7 := { stood := { row := runPlaysUptoRow, standIns := [], harness := (true, "1c4a19251602e91eec53c590b0225df4c292c023232cf489b0a47162c0d7aefe"), looks := true }, kinds := [], alts := [], laidByText := true, laidKinds := [.data], laidTests := true, laidLooks := .later }
def RunPlaysUptoCardSaid : Prop := Claim7.holds Tryz.pinned (.plain (OpenSpec.upto runPlaysSpec)) runPlaysUptoCard

/-- THE SECOND FORM's CARD OF 'scrimlaw17.RunOut'. -/
def runOutUptoCard : Claim7 := { stood := { row := runOutUptoRow, standIns := [], harness := (true, "1c4a19251602e91eec53c590b0225df4c292c023232cf489b0a47162c0d7aefe"), looks := true }, kinds := [], alts := [], laidByText := true, laidKinds := [.data], laidTests := true, laidLooks := .later }
def RunOutUptoCardSaid : Prop := Claim7.holds Tryz.pinned (.plain (OpenSpec.upto runOutSpec)) runOutUptoCard

/-- THE SECOND FORM's CARD OF 'scrimlaw17.RunSeals'. -/
def runSealsUptoCard : Claim7 := { stood := { row := runSealsUptoRow, standIns := [], harness := (true, "1c4a19251602e91eec53c590b0225df4c292c023232cf489b0a47162c0d7aefe"), looks := true }, kinds := [], alts := [], laidByText := true, laidKinds := [.data], laidTests := true, laidLooks := .later }
def RunSealsUptoCardSaid : Prop := Claim7.holds Tryz.pinned (.plain (OpenSpec.upto runSealsSpec)) runSealsUptoCard
end Rows
end Go.Proofs.YthhlfpbfdkogfaaGreatDoor
