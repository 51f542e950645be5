/-
  DERIVED. GIVEN WITH THE SEED: THE CARDS: each row of YtgbbedfpdpnneaaGreatDoorRows.lean that lists a variable, with what it lists TIED to the program's text (the seventh form; the later family's looks); each row that meets fmt, with fmt's text TOLD by the authors' own Lean function (tested against real Go, not proved from fmt's source: count such statements apart). THE CARD IS WHAT COUNTS. Prove the row's statement (the work); the ties are given (YtgbbedfpdpnneaaGreatDoorTie.lean); close each card by the builder's one call (the guide's Derived/Test/ToyasCard.lean, 'card_holds'). Laid BY PROGRAM, IN A SANDBOX (cutbox-door.mjs). By AI agents, Wed Nov 11 2026. No macro, syntax, notation, axiom, sorry.
-/
import Derived.Test.YtgbbedfpdpnneaaGreatDoorRows
import GoSem.ClaimSeven
namespace Go.Proofs.YtgbbedfpdpnneaaGreatDoor
namespace Rows

/-- THE TIED CARD OF 'scrimtop.TopStolen'. -/
def topStolenCard : Claim7 := { stood := { row := topStolenRow, standIns := [], harness := (true, "1266ca37e1f2a102fe8241f4c2a586a421d60712977ad7d164d8dc74d5fbad1e"), looks := true }, kinds := [], alts := [], laidByText := true, laidKinds := [.data], laidTests := true, laidLooks := .later }
def TopStolenCardSaid : Prop := Claim7.holds Tryz.pinned (.plain (OpenSpec.ofChange topStolenSpec)) topStolenCard

/-- THE TIED CARD OF 'scrimtop.TopKeys'. -/
def topKeysCard : Claim7 := { stood := { row := topKeysRow, standIns := [], harness := (true, "1266ca37e1f2a102fe8241f4c2a586a421d60712977ad7d164d8dc74d5fbad1e"), looks := true }, kinds := [], alts := [], laidByText := true, laidKinds := [.data], laidTests := true, laidLooks := .later }
def TopKeysCardSaid : Prop := Claim7.holds Tryz.pinned (.plain (OpenSpec.ofChange topKeysSpec)) topKeysCard

/-- THE TIED CARD OF 'scrimtop.TopOwn'. -/
def topOwnCard : Claim7 := { stood := { row := topOwnRow, standIns := [], harness := (true, "1266ca37e1f2a102fe8241f4c2a586a421d60712977ad7d164d8dc74d5fbad1e"), looks := true }, kinds := [], alts := [], laidByText := true, laidKinds := [.data], laidTests := true, laidLooks := .later }
def TopOwnCardSaid : Prop := Claim7.holds Tryz.pinned (.plain (OpenSpec.ofChange topOwnSpec)) topOwnCard

/-- THE TIED CARD OF 'scrimlaw17.RunPlays'. -/
def runPlaysCard : Claim7 := { stood := { row := runPlaysRow, standIns := [], harness := (true, "1266ca37e1f2a102fe8241f4c2a586a421d60712977ad7d164d8dc74d5fbad1e"), looks := true }, kinds := [], alts := [], laidByText := true, laidKinds := [.data], laidTests := true, laidLooks := .later }
def RunPlaysCardSaid : Prop := Claim7.holds Tryz.pinned (.plain (OpenSpec.ofChange runPlaysSpec)) runPlaysCard

/-- THE TIED CARD OF 'scrimlaw17.RunBounds'. -/
def runBoundsCard : Claim7 := { stood := { row := runBoundsRow, standIns := [], harness := (true, "1266ca37e1f2a102fe8241f4c2a586a421d60712977ad7d164d8dc74d5fbad1e"), looks := true }, kinds := [], alts := [], laidByText := true, laidKinds := [.data], laidTests := true, laidLooks := .later }
def RunBoundsCardSaid : Prop := Claim7.holds Tryz.pinned (.plain (OpenSpec.ofChange runBoundsSpec)) runBoundsCard

/-- THE TIED CARD OF 'scrimlaw17.RunFronts'. -/
def runFrontsCard : Claim7 := { stood := { row := runFrontsRow, standIns := [], harness := (true, "1266ca37e1f2a102fe8241f4c2a586a421d60712977ad7d164d8dc74d5fbad1e"), looks := true }, kinds := [], alts := [], laidByText := true, laidKinds := [.data], laidTests := true, laidLooks := .later }
def RunFrontsCardSaid : Prop := Claim7.holds Tryz.pinned (.plain (OpenSpec.ofChange runFrontsSpec)) runFrontsCard

/-- THE TIED CARD OF 'scrimlaw17.RunApart'. -/
def runApartCard : Claim7 := { stood := { row := runApartRow, standIns := [], harness := (true, "1266ca37e1f2a102fe8241f4c2a586a421d60712977ad7d164d8dc74d5fbad1e"), looks := true }, kinds := [], alts := [], laidByText := true, laidKinds := [.data], laidTests := true, laidLooks := .later }
def RunApartCardSaid : Prop := Claim7.holds Tryz.pinned (.plain (OpenSpec.ofChange runApartSpec)) runApartCard

/-- THE TIED CARD OF 'scrimlaw17.RunKnown'. -/
def runKnownCard : Claim7 := { stood := { row := runKnownRow, standIns := [], harness := (true, "1266ca37e1f2a102fe8241f4c2a586a421d60712977ad7d164d8dc74d5fbad1e"), looks := true }, kinds := [], alts := [], laidByText := true, laidKinds := [.data], laidTests := true, laidLooks := .later }
def RunKnownCardSaid : Prop := Claim7.holds Tryz.pinned (.plain (OpenSpec.ofChange runKnownSpec)) runKnownCard

/-- THE TIED CARD OF 'scrimlaw17.RunReset'. -/
def runResetCard : Claim7 := { stood := { row := runResetRow, standIns := [], harness := (true, "1266ca37e1f2a102fe8241f4c2a586a421d60712977ad7d164d8dc74d5fbad1e"), looks := true }, kinds := [], alts := [], laidByText := true, laidKinds := [.data], laidTests := true, laidLooks := .later }
def RunResetCardSaid : Prop := Claim7.holds Tryz.pinned (.plain (OpenSpec.ofChange runResetSpec)) runResetCard

/-- THE TIED CARD OF 'scrimlaw17.RunOut'. -/
def runOutCard : Claim7 := { stood := { row := runOutRow, standIns := [], harness := (true, "1266ca37e1f2a102fe8241f4c2a586a421d60712977ad7d164d8dc74d5fbad1e"), looks := true }, kinds := [], alts := [], laidByText := true, laidKinds := [.data], laidTests := true, laidLooks := .later }
def RunOutCardSaid : Prop := Claim7.holds Tryz.pinned (.plain (OpenSpec.ofChange runOutSpec)) runOutCard

/-- THE TIED CARD OF 'scrimlaw17.RunSeals'. -/
def runSealsCard : Claim7 := { stood := { row := runSealsRow, standIns := [], harness := (true, "1266ca37e1f2a102fe8241f4c2a586a421d60712977ad7d164d8dc74d5fbad1e"), looks := true }, kinds := [], alts := [], laidByText := true, laidKinds := [.data], laidTests := true, laidLooks := .later }
def RunSealsCardSaid : Prop := Claim7.holds Tryz.pinned (.plain (OpenSpec.ofChange runSealsSpec)) runSealsCard

/-- THE SECOND FORM's CARD OF 'scrimtop.TopStolen'. -/
def topStolenUptoCard : Claim7 := { stood := { row := topStolenUptoRow, standIns := [], harness := (true, "1266ca37e1f2a102fe8241f4c2a586a421d60712977ad7d164d8dc74d5fbad1e"), looks := true }, kinds := [], alts := [], laidByText := true, laidKinds := [.data], laidTests := true, laidLooks := .later }
def TopStolenUptoCardSaid : Prop := Claim7.holds Tryz.pinned (.plain (OpenSpec.upto topStolenSpec)) topStolenUptoCard

/-- THE SECOND FORM's CARD OF 'scrimtop.TopKeys'. -/
def topKeysUptoCard : Claim7 := { stood := { row := topKeysUptoRow, standIns := [], harness := (true, "1266ca37e1f2a102fe8241f4c2a586a421d60712977ad7d164d8dc74d5fbad1e"), looks := true }, kinds := [], alts := [], laidByText := true, laidKinds := [.data], laidTests := true, laidLooks := .later }
def TopKeysUptoCardSaid : Prop := Claim7.holds Tryz.pinned (.plain (OpenSpec.upto topKeysSpec)) topKeysUptoCard

/-- THE SECOND FORM's CARD OF 'scrimtop.TopOwn'. -/
def topOwnUptoCard : Claim7 := { stood := { row := topOwnUptoRow, standIns := [], harness := (true, "1266ca37e1f2a102fe8241f4c2a586a421d60712977ad7d164d8dc74d5fbad1e"), looks := true }, kinds := [], alts := [], laidByText := true, laidKinds := [.data], laidTests := true, laidLooks := .later }
def TopOwnUptoCardSaid : Prop := Claim7.holds Tryz.pinned (.plain (OpenSpec.upto topOwnSpec)) topOwnUptoCard

/-- THE SECOND FORM's CARD OF 'scrimlaw17.RunPlays'. -/
def runPlaysUptoCard : Claim7 := { stood := { row := runPlaysUptoRow, standIns := [], harness := (true, "1266ca37e1f2a102fe8241f4c2a586a421d60712977ad7d164d8dc74d5fbad1e"), looks := true }, kinds := [], alts := [], laidByText := true, laidKinds := [.data], laidTests := true, laidLooks := .later }
def RunPlaysUptoCardSaid : Prop := Claim7.holds Tryz.pinned (.plain (OpenSpec.upto runPlaysSpec)) runPlaysUptoCard

/-- THE SECOND FORM's CARD OF 'scrimlaw17.RunBounds'. -/
def runBoundsUptoCard : Claim7 := { stood := { row := runBoundsUptoRow, standIns := [], harness := (true, "1266ca37e1f2a102fe8241f4c2a586a421d60712977ad7d164d8dc74d5fbad1e"), looks := true }, kinds := [], alts := [], laidByText := true, laidKinds := [.data], laidTests := true, laidLooks := .later }
def RunBoundsUptoCardSaid : Prop := Claim7.holds Tryz.pinned (.plain (OpenSpec.upto runBoundsSpec)) runBoundsUptoCard

/-- THE SECOND FORM's CARD OF 'scrimlaw17.RunFronts'. -/
def runFrontsUptoCard : Claim7 := { stood := { row := runFrontsUptoRow, standIns := [], harness := (true, "1266ca37e1f2a102fe8241f4c2a586a421d60712977ad7d164d8dc74d5fbad1e"), looks := true }, kinds := [], alts := [], laidByText := true, laidKinds := [.data], laidTests := true, laidLooks := .later }
def RunFrontsUptoCardSaid : Prop := Claim7.holds Tryz.pinned (.plain (OpenSpec.upto runFrontsSpec)) runFrontsUptoCard

/-- THE SECOND FORM's CARD OF 'scrimlaw17.RunApart'. -/
def runApartUptoCard : Claim7 := { stood := { row := runApartUptoRow, standIns := [], harness := (true, "1266ca37e1f2a102fe8241f4c2a586a421d60712977ad7d164d8dc74d5fbad1e"), looks := true }, kinds := [], alts := [], laidByText := true, laidKinds := [.data], laidTests := true, laidLooks := .later }
def RunApartUptoCardSaid : Prop := Claim7.holds Tryz.pinned (.plain (OpenSpec.upto runApartSpec)) runApartUptoCard

/-- THE SECOND FORM's CARD OF 'scrimlaw17.RunKnown'. -/
def runKnownUptoCard : Claim7 := { stood := { row := runKnownUptoRow, standIns := [], harness := (true, "1266ca37e1f2a102fe8241f4c2a586a421d60712977ad7d164d8dc74d5fbad1e"), looks := true }, kinds := [], alts := [], laidByText := true, laidKinds := [.data], laidTests := true, laidLooks := .later }
def RunKnownUptoCardSaid : Prop := Claim7.holds Tryz.pinned (.plain (OpenSpec.upto runKnownSpec)) runKnownUptoCard

/-- THE SECOND FORM's CARD OF 'scrimlaw17.RunReset'. -/
def runResetUptoCard : Claim7 := { stood := { row := runResetUptoRow, standIns := [], harness := (true, "1266ca37e1f2a102fe8241f4c2a586a421d60712977ad7d164d8dc74d5fbad1e"), looks := true }, kinds := [], alts := [], laidByText := true, laidKinds := [.data], laidTests := true, laidLooks := .later }
def RunResetUptoCardSaid : Prop := Claim7.holds Tryz.pinned (.plain (OpenSpec.upto runResetSpec)) runResetUptoCard

/-- THE SECOND FORM's CARD OF 'scrimlaw17.RunOut'. -/
def runOutUptoCard : Claim7 := { stood := { row := runOutUptoRow, standIns := [], harness := (true, "1266ca37e1f2a102fe8241f4c2a586a421d60712977ad7d164d8dc74d5fbad1e"), looks := true }, kinds := [], alts := [], laidByText := true, laidKinds := [.data], laidTests := true, laidLooks := .later }
def RunOutUptoCardSaid : Prop := Claim7.holds Tryz.pinned (.plain (OpenSpec.upto runOutSpec)) runOutUptoCard

/-- THE SECOND FORM's CARD OF 'scrimlaw17.RunSeals'. -/
def runSealsUptoCard : Claim7 := { stood := { row := runSealsUptoRow, standIns := [], harness := (true, "1266ca37e1f2a102fe8241f4c2a586a421d60712977ad7d164d8dc74d5fbad1e"), looks := true }, kinds := [], alts := [], laidByText := true, laidKinds := [.data], laidTests := true, laidLooks := .later }
def RunSealsUptoCardSaid : Prop := Claim7.holds Tryz.pinned (.plain (OpenSpec.upto runSealsSpec)) runSealsUptoCard
end Rows
end Go.Proofs.YtgbbedfpdpnneaaGreatDoor
