/-
  DERIVED. GIVEN WITH THE SEED: THE CARDS: each row of YtdkledbmjmmliaaGreatDoorRows.lean that lists a variable, with what it lists TIED to the program's text (the seventh form; the later family's looks); each row that meets fmt, with fmt's text TOLD by the authors' own Lean function (tested against real Go, not proved from fmt's source: count such statements apart). THE CARD IS WHAT COUNTS. Prove the row's statement (the work); the ties are given (YtdkledbmjmmliaaGreatDoorTie.lean); close each card by the builder's one call (the guide's Derived/Test/ToyasCard.lean, 'card_holds'). Laid BY PROGRAM, IN A SANDBOX (cutbox-door.mjs). By AI agents, Wed Nov 11 2026. No macro, syntax, notation, axiom, sorry.
-/
import Derived.Test.YtdkledbmjmmliaaGreatDoorRows
import GoSem.ClaimSeven
namespace Go.Proofs.YtdkledbmjmmliaaGreatDoor
namespace Rows

/-- THE TIED CARD OF 'scrimlaw15.ShotAll'. -/
def shotAllCard : Claim7 := { stood := { row := shotAllRow, standIns := [], harness := (true, "455722a58ec2c5bbff7995e152fb4630d5bc74aaf59ecd3f2c88f612e318e53c"), looks := false }, kinds := [], alts := [], laidByText := true, laidKinds := [.data], laidTests := true, laidLooks := .later }
def ShotAllCardSaid : Prop := Claim7.holds Tryz.pinned (.plain (OpenSpec.ofChange shotAllSpec)) shotAllCard

/-- THE TIED CARD OF 'scrimlaw15.ShotBack'. -/
def shotBackCard : Claim7 := { stood := { row := shotBackRow, standIns := [], harness := (true, "455722a58ec2c5bbff7995e152fb4630d5bc74aaf59ecd3f2c88f612e318e53c"), looks := false }, kinds := [], alts := [], laidByText := true, laidKinds := [.data], laidTests := true, laidLooks := .later }
def ShotBackCardSaid : Prop := Claim7.holds Tryz.pinned (.plain (OpenSpec.ofChange shotBackSpec)) shotBackCard

/-- THE TIED CARD OF 'scrimlaw15.ShotThree'. -/
def shotThreeCard : Claim7 := { stood := { row := shotThreeRow, standIns := [], harness := (true, "455722a58ec2c5bbff7995e152fb4630d5bc74aaf59ecd3f2c88f612e318e53c"), looks := false }, kinds := [], alts := [], laidByText := true, laidKinds := [.data], laidTests := true, laidLooks := .later }
def ShotThreeCardSaid : Prop := Claim7.holds Tryz.pinned (.plain (OpenSpec.ofChange shotThreeSpec)) shotThreeCard

/-- THE TIED CARD OF 'scrimlaw15.ShotLengths'. -/
def shotLengthsCard : Claim7 := { stood := { row := shotLengthsRow, standIns := [], harness := (true, "455722a58ec2c5bbff7995e152fb4630d5bc74aaf59ecd3f2c88f612e318e53c"), looks := false }, kinds := [], alts := [], laidByText := true, laidKinds := [.data], laidTests := true, laidLooks := .later }
def ShotLengthsCardSaid : Prop := Claim7.holds Tryz.pinned (.plain (OpenSpec.ofChange shotLengthsSpec)) shotLengthsCard

/-- THE TIED CARD OF 'scrimlaw15.ShotEcb'. -/
def shotEcbCard : Claim7 := { stood := { row := shotEcbRow, standIns := [], harness := (true, "455722a58ec2c5bbff7995e152fb4630d5bc74aaf59ecd3f2c88f612e318e53c"), looks := false }, kinds := [], alts := [], laidByText := true, laidKinds := [.data], laidTests := true, laidLooks := .later }
def ShotEcbCardSaid : Prop := Claim7.holds Tryz.pinned (.plain (OpenSpec.ofChange shotEcbSpec)) shotEcbCard

/-- THE TIED CARD OF 'scrimlaw15.ShotPadded'. -/
def shotPaddedCard : Claim7 := { stood := { row := shotPaddedRow, standIns := [], harness := (true, "455722a58ec2c5bbff7995e152fb4630d5bc74aaf59ecd3f2c88f612e318e53c"), looks := false }, kinds := [], alts := [], laidByText := true, laidKinds := [.data], laidTests := true, laidLooks := .later }
def ShotPaddedCardSaid : Prop := Claim7.holds Tryz.pinned (.plain (OpenSpec.ofChange shotPaddedSpec)) shotPaddedCard

/-- THE TIED CARD OF 'scrimlaw15.ShotEmpty'. -/
def shotEmptyCard : Claim7 := { stood := { row := shotEmptyRow, standIns := [], harness := (true, "455722a58ec2c5bbff7995e152fb4630d5bc74aaf59ecd3f2c88f612e318e53c"), looks := false }, kinds := [], alts := [], laidByText := true, laidKinds := [.data], laidTests := true, laidLooks := .later }
def ShotEmptyCardSaid : Prop := Claim7.holds Tryz.pinned (.plain (OpenSpec.ofChange shotEmptySpec)) shotEmptyCard

/-- THE TIED CARD OF 'scrimlaw15.ShotStream'. -/
def shotStreamCard : Claim7 := { stood := { row := shotStreamRow, standIns := [], harness := (true, "455722a58ec2c5bbff7995e152fb4630d5bc74aaf59ecd3f2c88f612e318e53c"), looks := false }, kinds := [], alts := [], laidByText := true, laidKinds := [.data], laidTests := true, laidLooks := .later }
def ShotStreamCardSaid : Prop := Claim7.holds Tryz.pinned (.plain (OpenSpec.ofChange shotStreamSpec)) shotStreamCard

/-- THE TIED CARD OF 'scrimlaw15.ShotChecks'. -/
def shotChecksCard : Claim7 := { stood := { row := shotChecksRow, standIns := [], harness := (true, "455722a58ec2c5bbff7995e152fb4630d5bc74aaf59ecd3f2c88f612e318e53c"), looks := false }, kinds := [], alts := [], laidByText := true, laidKinds := [.data], laidTests := true, laidLooks := .later }
def ShotChecksCardSaid : Prop := Claim7.holds Tryz.pinned (.plain (OpenSpec.ofChange shotChecksSpec)) shotChecksCard

/-- THE TIED CARD OF 'scrimlaw15.ShotErrs'. -/
def shotErrsCard : Claim7 := { stood := { row := shotErrsRow, standIns := [], harness := (true, "455722a58ec2c5bbff7995e152fb4630d5bc74aaf59ecd3f2c88f612e318e53c"), looks := false }, kinds := [], alts := [], laidByText := true, laidKinds := [.data], laidTests := true, laidLooks := .later }
def ShotErrsCardSaid : Prop := Claim7.holds Tryz.pinned (.plain (OpenSpec.ofChange shotErrsSpec)) shotErrsCard

/-- THE SECOND FORM's CARD OF 'scrimlaw15.ShotAll'. -/
def shotAllUptoCard : Claim7 := { stood := { row := shotAllUptoRow, standIns := [], harness := (true, "455722a58ec2c5bbff7995e152fb4630d5bc74aaf59ecd3f2c88f612e318e53c"), looks := false }, kinds := [], alts := [], laidByText := true, laidKinds := [.data], laidTests := true, laidLooks := .later }
def ShotAllUptoCardSaid : Prop := Claim7.holds Tryz.pinned (.plain (OpenSpec.upto shotAllSpec)) shotAllUptoCard

/-- THE SECOND FORM's CARD OF 'scrimlaw15.ShotBack'. -/
def shotBackUptoCard : Claim7 := { stood := { row := shotBackUptoRow, standIns := [], harness := (true, "455722a58ec2c5bbff7995e152fb4630d5bc74aaf59ecd3f2c88f612e318e53c"), looks := false }, kinds := [], alts := [], laidByText := true, laidKinds := [.data], laidTests := true, laidLooks := .later }
def ShotBackUptoCardSaid : Prop := Claim7.holds Tryz.pinned (.plain (OpenSpec.upto shotBackSpec)) shotBackUptoCard

/-- THE SECOND FORM's CARD OF 'scrimlaw15.ShotThree'. -/
def shotThreeUptoCard : Claim7 := { stood := { row := shotThreeUptoRow, standIns := [], harness := (true, "455722a58ec2c5bbff7995e152fb4630d5bc74aaf59ecd3f2c88f612e318e53c"), looks := false }, kinds := [], alts := [], laidByText := true, laidKinds := [.data], laidTests := true, laidLooks := .later }
def ShotThreeUptoCardSaid : Prop := Claim7.holds Tryz.pinned (.plain (OpenSpec.upto shotThreeSpec)) shotThreeUptoCard

/-- THE SECOND FORM's CARD OF 'scrimlaw15.ShotLengths'. -/
def shotLengthsUptoCard : Claim7 := { stood := { row := shotLengthsUptoRow, standIns := [], harness := (true, "455722a58ec2c5bbff7995e152fb4630d5bc74aaf59ecd3f2c88f612e318e53c"), looks := false }, kinds := [], alts := [], laidByText := true, laidKinds := [.data], laidTests := true, laidLooks := .later }
def ShotLengthsUptoCardSaid : Prop := Claim7.holds Tryz.pinned (.plain (OpenSpec.upto shotLengthsSpec)) shotLengthsUptoCard

/-- THE SECOND FORM's CARD OF 'scrimlaw15.ShotEcb'. -/
def shotEcbUptoCard : Claim7 := { stood := { row := shotEcbUptoRow, standIns := [], harness := (true, "455722a58ec2c5bbff7995e152fb4630d5bc74aaf59ecd3f2c88f612e318e53c"), looks := false }, kinds := [], alts := [], laidByText := true, laidKinds := [.data], laidTests := true, laidLooks := .later }
def ShotEcbUptoCardSaid : Prop := Claim7.holds Tryz.pinned (.plain (OpenSpec.upto shotEcbSpec)) shotEcbUptoCard

/-- THE SECOND FORM's CARD OF 'scrimlaw15.ShotPadded'. -/
def shotPaddedUptoCard : Claim7 := { stood := { row := shotPaddedUptoRow, standIns := [], harness := (true, "455722a58ec2c5bbff7995e152fb4630d5bc74aaf59ecd3f2c88f612e318e53c"), looks := false }, kinds := [], alts := [], laidByText := true, laidKinds := [.data], laidTests := true, laidLooks := .later }
def ShotPaddedUptoCardSaid : Prop := Claim7.holds Tryz.pinned (.plain (OpenSpec.upto shotPaddedSpec)) shotPaddedUptoCard

/-- THE SECOND FORM's CARD OF 'scrimlaw15.ShotEmpty'. -/
def shotEmptyUptoCard : Claim7 := { stood := { row := shotEmptyUptoRow, standIns := [], harness := (true, "455722a58ec2c5bbff7995e152fb4630d5bc74aaf59ecd3f2c88f612e318e53c"), looks := false }, kinds := [], alts := [], laidByText := true, laidKinds := [.data], laidTests := true, laidLooks := .later }
def ShotEmptyUptoCardSaid : Prop := Claim7.holds Tryz.pinned (.plain (OpenSpec.upto shotEmptySpec)) shotEmptyUptoCard

/-- THE SECOND FORM's CARD OF 'scrimlaw15.ShotStream'. -/
def shotStreamUptoCard : Claim7 := { stood := { row := shotStreamUptoRow, standIns := [], harness := (true, "455722a58ec2c5bbff7995e152fb4630d5bc74aaf59ecd3f2c88f612e318e53c"), looks := false }, kinds := [], alts := [], laidByText := true, laidKinds := [.data], laidTests := true, laidLooks := .later }
def ShotStreamUptoCardSaid : Prop := Claim7.holds Tryz.pinned (.plain (OpenSpec.upto shotStreamSpec)) shotStreamUptoCard

/-- THE SECOND FORM's CARD OF 'scrimlaw15.ShotChecks'. -/
def shotChecksUptoCard : Claim7 := { stood := { row := shotChecksUptoRow, standIns := [], harness := (true, "455722a58ec2c5bbff7995e152fb4630d5bc74aaf59ecd3f2c88f612e318e53c"), looks := false }, kinds := [], alts := [], laidByText := true, laidKinds := [.data], laidTests := true, laidLooks := .later }
def ShotChecksUptoCardSaid : Prop := Claim7.holds Tryz.pinned (.plain (OpenSpec.upto shotChecksSpec)) shotChecksUptoCard

/-- THE SECOND FORM's CARD OF 'scrimlaw15.ShotErrs'. -/
def shotErrsUptoCard : Claim7 := { stood := { row := shotErrsUptoRow, standIns := [], harness := (true, "455722a58ec2c5bbff7995e152fb4630d5bc74aaf59ecd3f2c88f612e318e53c"), looks := false }, kinds := [], alts := [], laidByText := true, laidKinds := [.data], laidTests := true, laidLooks := .later }
def ShotErrsUptoCardSaid : Prop := Claim7.holds Tryz.pinned (.plain (OpenSpec.upto shotErrsSpec)) shotErrsUptoCard
end Rows
end Go.Proofs.YtdkledbmjmmliaaGreatDoor
