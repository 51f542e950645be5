/-
  DERIVED. GIVEN WITH THE SEED: THE CARDS: each row of YtibipkfepappfaaGreatDoorRows.lean that lists a variable, with what it lists TIED to the program's text (the seventh form; the later family's looks); each row that meets fmt, with fmt's text TOLD by the authors' own Lean function (tested against real Go, not proved from fmt's source: count such statements apart). THE CARD IS WHAT COUNTS. Prove the row's statement (the work); the ties are given (YtibipkfepappfaaGreatDoorTie.lean); close each card by the builder's one call (the guide's Derived/Test/ToyasCard.lean, 'card_holds'). Laid BY PROGRAM, IN A SANDBOX (cutbox-door.mjs). By AI agents, Wed Nov 11 2026. No macro, syntax, notation, axiom, sorry.
-/
import Derived.Test.YtibipkfepappfaaGreatDoorRows
import GoSem.ClaimSeven
namespace Go.Proofs.YtibipkfepappfaaGreatDoor
namespace Rows

/-- THE TIED CARD OF 'scrimlaw12.ModesBack'. -/
def modesBackCard : Claim7 := { stood := { row := modesBackRow, standIns := [], harness := (true, "1a01d159c629970eede3a55ef0583de1d161a1df360134efb9699af35d8d0a1f"), looks := false }, kinds := [], alts := [], laidByText := true, laidKinds := [.data], laidTests := true, laidLooks := .later }
def ModesBackCardSaid : Prop := Claim7.holds Tryz.pinned (.plain (OpenSpec.ofChange modesBackSpec)) modesBackCard

/-- THE TIED CARD OF 'scrimlaw12.ModesErrs'. -/
def modesErrsCard : Claim7 := { stood := { row := modesErrsRow, standIns := [], harness := (true, "1a01d159c629970eede3a55ef0583de1d161a1df360134efb9699af35d8d0a1f"), looks := false }, kinds := [], alts := [], laidByText := true, laidKinds := [.data], laidTests := true, laidLooks := .later }
def ModesErrsCardSaid : Prop := Claim7.holds Tryz.pinned (.plain (OpenSpec.ofChange modesErrsSpec)) modesErrsCard

/-- THE TIED CARD OF 'scrimlaw12.ModesStreams'. -/
def modesStreamsCard : Claim7 := { stood := { row := modesStreamsRow, standIns := [], harness := (true, "1a01d159c629970eede3a55ef0583de1d161a1df360134efb9699af35d8d0a1f"), looks := false }, kinds := [], alts := [], laidByText := true, laidKinds := [.data], laidTests := true, laidLooks := .later }
def ModesStreamsCardSaid : Prop := Claim7.holds Tryz.pinned (.plain (OpenSpec.ofChange modesStreamsSpec)) modesStreamsCard

/-- THE TIED CARD OF 'scrimlaw12.ModesCounts'. -/
def modesCountsCard : Claim7 := { stood := { row := modesCountsRow, standIns := [], harness := (true, "1a01d159c629970eede3a55ef0583de1d161a1df360134efb9699af35d8d0a1f"), looks := false }, kinds := [], alts := [], laidByText := true, laidKinds := [.data], laidTests := true, laidLooks := .later }
def ModesCountsCardSaid : Prop := Claim7.holds Tryz.pinned (.plain (OpenSpec.ofChange modesCountsSpec)) modesCountsCard

/-- THE TIED CARD OF 'scrimlaw12.ModesHeals'. -/
def modesHealsCard : Claim7 := { stood := { row := modesHealsRow, standIns := [], harness := (true, "1a01d159c629970eede3a55ef0583de1d161a1df360134efb9699af35d8d0a1f"), looks := false }, kinds := [], alts := [], laidByText := true, laidKinds := [.data], laidTests := true, laidLooks := .later }
def ModesHealsCardSaid : Prop := Claim7.holds Tryz.pinned (.plain (OpenSpec.ofChange modesHealsSpec)) modesHealsCard

/-- THE TIED CARD OF 'scrimlaw12.ModesEmpty'. -/
def modesEmptyCard : Claim7 := { stood := { row := modesEmptyRow, standIns := [], harness := (true, "1a01d159c629970eede3a55ef0583de1d161a1df360134efb9699af35d8d0a1f"), looks := false }, kinds := [], alts := [], laidByText := true, laidKinds := [.data], laidTests := true, laidLooks := .later }
def ModesEmptyCardSaid : Prop := Claim7.holds Tryz.pinned (.plain (OpenSpec.ofChange modesEmptySpec)) modesEmptyCard

/-- THE TIED CARD OF 'scrimlaw12.ModesOfb'. -/
def modesOfbCard : Claim7 := { stood := { row := modesOfbRow, standIns := [], harness := (true, "1a01d159c629970eede3a55ef0583de1d161a1df360134efb9699af35d8d0a1f"), looks := false }, kinds := [], alts := [], laidByText := true, laidKinds := [.data], laidTests := true, laidLooks := .later }
def ModesOfbCardSaid : Prop := Claim7.holds Tryz.pinned (.plain (OpenSpec.ofChange modesOfbSpec)) modesOfbCard

/-- THE TIED CARD OF 'scrimlaw12.ModesCfb'. -/
def modesCfbCard : Claim7 := { stood := { row := modesCfbRow, standIns := [], harness := (true, "1a01d159c629970eede3a55ef0583de1d161a1df360134efb9699af35d8d0a1f"), looks := false }, kinds := [], alts := [], laidByText := true, laidKinds := [.data], laidTests := true, laidLooks := .later }
def ModesCfbCardSaid : Prop := Claim7.holds Tryz.pinned (.plain (OpenSpec.ofChange modesCfbSpec)) modesCfbCard

/-- THE TIED CARD OF 'scrimlaw12.ModesCbc'. -/
def modesCbcCard : Claim7 := { stood := { row := modesCbcRow, standIns := [], harness := (true, "1a01d159c629970eede3a55ef0583de1d161a1df360134efb9699af35d8d0a1f"), looks := false }, kinds := [], alts := [], laidByText := true, laidKinds := [.data], laidTests := true, laidLooks := .later }
def ModesCbcCardSaid : Prop := Claim7.holds Tryz.pinned (.plain (OpenSpec.ofChange modesCbcSpec)) modesCbcCard

/-- THE SECOND FORM's CARD OF 'scrimlaw12.ModesBack'. -/
def modesBackUptoCard : Claim7 := { stood := { row := modesBackUptoRow, standIns := [], harness := (true, "1a01d159c629970eede3a55ef0583de1d161a1df360134efb9699af35d8d0a1f"), looks := false }, kinds := [], alts := [], laidByText := true, laidKinds := [.data], laidTests := true, laidLooks := .later }
def ModesBackUptoCardSaid : Prop := Claim7.holds Tryz.pinned (.plain (OpenSpec.upto modesBackSpec)) modesBackUptoCard

/-- THE SECOND FORM's CARD OF 'scrimlaw12.ModesErrs'. -/
def modesErrsUptoCard : Claim7 := { stood := { row := modesErrsUptoRow, standIns := [], harness := (true, "1a01d159c629970eede3a55ef0583de1d161a1df360134efb9699af35d8d0a1f"), looks := false }, kinds := [], alts := [], laidByText := true, laidKinds := [.data], laidTests := true, laidLooks := .later }
def ModesErrsUptoCardSaid : Prop := Claim7.holds Tryz.pinned (.plain (OpenSpec.upto modesErrsSpec)) modesErrsUptoCard

/-- THE SECOND FORM's CARD OF 'scrimlaw12.ModesStreams'. -/
def modesStreamsUptoCard : Claim7 := { stood := { row := modesStreamsUptoRow, standIns := [], harness := (true, "1a01d159c629970eede3a55ef0583de1d161a1df360134efb9699af35d8d0a1f"), looks := false }, kinds := [], alts := [], laidByText := true, laidKinds := [.data], laidTests := true, laidLooks := .later }
def ModesStreamsUptoCardSaid : Prop := Claim7.holds Tryz.pinned (.plain (OpenSpec.upto modesStreamsSpec)) modesStreamsUptoCard

/-- THE SECOND FORM's CARD OF 'scrimlaw12.ModesCounts'. -/
def modesCountsUptoCard : Claim7 := { stood := { row := modesCountsUptoRow, standIns := [], harness := (true, "1a01d159c629970eede3a55ef0583de1d161a1df360134efb9699af35d8d0a1f"), looks := false }, kinds := [], alts := [], laidByText := true, laidKinds := [.data], laidTests := true, laidLooks := .later }
def ModesCountsUptoCardSaid : Prop := Claim7.holds Tryz.pinned (.plain (OpenSpec.upto modesCountsSpec)) modesCountsUptoCard

/-- THE SECOND FORM's CARD OF 'scrimlaw12.ModesHeals'. -/
def modesHealsUptoCard : Claim7 := { stood := { row := modesHealsUptoRow, standIns := [], harness := (true, "1a01d159c629970eede3a55ef0583de1d161a1df360134efb9699af35d8d0a1f"), looks := false }, kinds := [], alts := [], laidByText := true, laidKinds := [.data], laidTests := true, laidLooks := .later }
def ModesHealsUptoCardSaid : Prop := Claim7.holds Tryz.pinned (.plain (OpenSpec.upto modesHealsSpec)) modesHealsUptoCard

/-- THE SECOND FORM's CARD OF 'scrimlaw12.ModesEmpty'. -/
def modesEmptyUptoCard : Claim7 := { stood := { row := modesEmptyUptoRow, standIns := [], harness := (true, "1a01d159c629970eede3a55ef0583de1d161a1df360134efb9699af35d8d0a1f"), looks := false }, kinds := [], alts := [], laidByText := true, laidKinds := [.data], laidTests := true, laidLooks := .later }
def ModesEmptyUptoCardSaid : Prop := Claim7.holds Tryz.pinned (.plain (OpenSpec.upto modesEmptySpec)) modesEmptyUptoCard

/-- THE SECOND FORM's CARD OF 'scrimlaw12.ModesOfb'. -/
def modesOfbUptoCard : Claim7 := { stood := { row := modesOfbUptoRow, standIns := [], harness := (true, "1a01d159c629970eede3a55ef0583de1d161a1df360134efb9699af35d8d0a1f"), looks := false }, kinds := [], alts := [], laidByText := true, laidKinds := [.data], laidTests := true, laidLooks := .later }
def ModesOfbUptoCardSaid : Prop := Claim7.holds Tryz.pinned (.plain (OpenSpec.upto modesOfbSpec)) modesOfbUptoCard

/-- THE SECOND FORM's CARD OF 'scrimlaw12.ModesCfb'. -/
def modesCfbUptoCard : Claim7 := { stood := { row := modesCfbUptoRow, standIns := [], harness := (true, "1a01d159c629970eede3a55ef0583de1d161a1df360134efb9699af35d8d0a1f"), looks := false }, kinds := [], alts := [], laidByText := true, laidKinds := [.data], laidTests := true, laidLooks := .later }
def ModesCfbUptoCardSaid : Prop := Claim7.holds Tryz.pinned (.plain (OpenSpec.upto modesCfbSpec)) modesCfbUptoCard

/-- THE SECOND FORM's CARD OF 'scrimlaw12.ModesCbc'. -/
def modesCbcUptoCard : Claim7 := { stood := { row := modesCbcUptoRow, standIns := [], harness := (true, "1a01d159c629970eede3a55ef0583de1d161a1df360134efb9699af35d8d0a1f"), looks := false }, kinds := [], alts := [], laidByText := true, laidKinds := [.data], laidTests := true, laidLooks := .later }
def ModesCbcUptoCardSaid : Prop := Claim7.holds Tryz.pinned (.plain (OpenSpec.upto modesCbcSpec)) modesCbcUptoCard
end Rows
end Go.Proofs.YtibipkfepappfaaGreatDoor
