/-
  NARROWER THAN 'FOR EVERY INPUT', by the rows' own cells (each row's printed sentence says how): TopStolen: laid · TopKeys: laid · TopOwn: laid · CtxPieces: laid · RunPlays: laid · RunOut: laid · RunSeals: laid.
  DERIVED. THE GIVEN ROWS OF THIS SEAT. 7 by the template 'for every input the law returns true; each argument reads behind the call as it read before'; 0 by the template 'total and deterministic' (their statements: YthhlfpbfdkogfaaGreatDoorTotals.lean).
  GIVEN WITH THE SEED: the statements are not yours to turn. If you find one false, say at which input.
  Laid BY PROGRAM, IN A SANDBOX (cutbox-rows.mjs): the forced cells as the released guide's own fill.sh prints them over the translation ea8fd6f4931051c9… (all of the seat's roots in one cut). By AI agents, Wed Nov 11 2026. No macro, syntax, notation, axiom, sorry.
-/
import Derived.Test.YthhlfpbfdkogfaaGreatDoorChecked
import GoSem.Claim
import GoSem.ClaimJoined
import GoSem.ClaimMapViews
import Derived.JoinedTies
import Derived.KernelRfl
namespace Go.Proofs.YthhlfpbfdkogfaaGreatDoor
/- THE CELL 'sum', in the pinned program and in every row, IS THE sha256 OF THE DUMP (.gsa) THAT YthhlfpbfdkogfaaGreatDoorProg.lean LOADS. Nothing in Lean hashes anything: it is a label: what it is worth is what the hold of that sum in a sandbox is worth. -/
noncomputable def Tryz.pinned : Pinned := { name := "ythhlfpbfdkogfaagreatdoor", sum := "ea8fd6f4931051c9877d5b0dc03daf23626292bd73f757b1dc085a326cf65b7d", checked := Tryz.checked }
namespace Rows
def none {H : Type} : Left H := { results := [], args := [] }

/- WHAT THE LISTED PACKAGE-LEVEL VARIABLES READ AS WHEN THE CALL BEGINS. Each datum BY PROGRAM (the guide's laid-datum.mjs) off the statement by which the dump's own 'gosem.cut.vars' lays the variable. In a bare row this is a premise. The card (YthhlfpbfdkogfaaGreatDoorCards.lean) ties it to the program's text. -/
def laid_scrim_box_ones {H : Type} : DataW H := .agg [.lit (.int .u8 1), .lit (.int .u8 2), .lit (.int .u8 4), .lit (.int .u8 8), .lit (.int .u8 16), .lit (.int .u8 32), .lit (.int .u8 64), .lit (.int .u8 128)]

/-- 'scrimtop.TopStolen': WHATEVER THE INPUT: true; the input reads as it did. -/
def topStolenSpec : ChangeSpec := { name := "topStolen", fn := fun _ => fun
  | [d1, d2] => { results := [.lit (.bool true)], args := [d1, d2] }
  | _ => none }
def topStolenRow : OpenClaim := { program := "ythhlfpbfdkogfaagreatdoor", sum := "ea8fd6f4931051c9877d5b0dc03daf23626292bd73f757b1dc085a326cf65b7d", func := "scrim/scrimtop.TopStolen", spec := "topStolen", unfollowed := true, recurses := true, named := ["scrim/box.ones"], apart := false, laid := [("scrim/box.ones", laid_scrim_box_ones)] }
def TopStolenSaid : Prop := topStolenRow.holds Tryz.pinned (OpenSpec.ofChange topStolenSpec)

/-- ITS FALSE NEIGHBOUR: 'it returns false'. Refute it at one input. -/
def topStolenWrong : ChangeSpec := { name := "topStolen", fn := fun _ => fun
  | [d1, d2] => { results := [.lit (.bool false)], args := [d1, d2] }
  | _ => none }
def TopStolenWrongFalsely : Prop := topStolenRow.holds Tryz.pinned (OpenSpec.ofChange topStolenWrong)

/-- 'scrimtop.TopKeys': WHATEVER THE INPUT: true; the input reads as it did. -/
def topKeysSpec : ChangeSpec := { name := "topKeys", fn := fun _ => fun
  | [d1, d2, d3, d4, d5] => { results := [.lit (.bool true)], args := [d1, d2, d3, d4, d5] }
  | _ => none }
def topKeysRow : OpenClaim := { program := "ythhlfpbfdkogfaagreatdoor", sum := "ea8fd6f4931051c9877d5b0dc03daf23626292bd73f757b1dc085a326cf65b7d", func := "scrim/scrimtop.TopKeys", spec := "topKeys", unfollowed := true, recurses := true, named := ["scrim/box.ones"], apart := false, laid := [("scrim/box.ones", laid_scrim_box_ones)] }
def TopKeysSaid : Prop := topKeysRow.holds Tryz.pinned (OpenSpec.ofChange topKeysSpec)

/-- ITS FALSE NEIGHBOUR: 'it returns false'. Refute it at one input. -/
def topKeysWrong : ChangeSpec := { name := "topKeys", fn := fun _ => fun
  | [d1, d2, d3, d4, d5] => { results := [.lit (.bool false)], args := [d1, d2, d3, d4, d5] }
  | _ => none }
def TopKeysWrongFalsely : Prop := topKeysRow.holds Tryz.pinned (OpenSpec.ofChange topKeysWrong)

/-- 'scrimtop.TopOwn': WHATEVER THE INPUT: true; the input reads as it did. -/
def topOwnSpec : ChangeSpec := { name := "topOwn", fn := fun _ => fun
  | [d1, d2, d3, d4] => { results := [.lit (.bool true)], args := [d1, d2, d3, d4] }
  | _ => none }
def topOwnRow : OpenClaim := { program := "ythhlfpbfdkogfaagreatdoor", sum := "ea8fd6f4931051c9877d5b0dc03daf23626292bd73f757b1dc085a326cf65b7d", func := "scrim/scrimtop.TopOwn", spec := "topOwn", unfollowed := true, recurses := true, named := ["scrim/box.ones"], apart := false, laid := [("scrim/box.ones", laid_scrim_box_ones)] }
def TopOwnSaid : Prop := topOwnRow.holds Tryz.pinned (OpenSpec.ofChange topOwnSpec)

/-- ITS FALSE NEIGHBOUR: 'it returns false'. Refute it at one input. -/
def topOwnWrong : ChangeSpec := { name := "topOwn", fn := fun _ => fun
  | [d1, d2, d3, d4] => { results := [.lit (.bool false)], args := [d1, d2, d3, d4] }
  | _ => none }
def TopOwnWrongFalsely : Prop := topOwnRow.holds Tryz.pinned (OpenSpec.ofChange topOwnWrong)

/-- 'scrimlaw16.CtxPieces': WHATEVER THE INPUT: true; the input reads as it did. -/
def ctxPiecesSpec : ChangeSpec := { name := "ctxPieces", fn := fun _ => fun
  | [d1, d2, d3] => { results := [.lit (.bool true)], args := [d1, d2, d3] }
  | _ => none }
def ctxPiecesRow : OpenClaim := { program := "ythhlfpbfdkogfaagreatdoor", sum := "ea8fd6f4931051c9877d5b0dc03daf23626292bd73f757b1dc085a326cf65b7d", func := "scrim/scrimlaw16.CtxPieces", spec := "ctxPieces", unfollowed := true, recurses := true, named := ["scrim/box.ones"], apart := false, laid := [("scrim/box.ones", laid_scrim_box_ones)] }
def CtxPiecesSaid : Prop := ctxPiecesRow.holds Tryz.pinned (OpenSpec.ofChange ctxPiecesSpec)

/-- ITS FALSE NEIGHBOUR: 'it returns false'. Refute it at one input. -/
def ctxPiecesWrong : ChangeSpec := { name := "ctxPieces", fn := fun _ => fun
  | [d1, d2, d3] => { results := [.lit (.bool false)], args := [d1, d2, d3] }
  | _ => none }
def CtxPiecesWrongFalsely : Prop := ctxPiecesRow.holds Tryz.pinned (OpenSpec.ofChange ctxPiecesWrong)

/-- 'scrimlaw17.RunPlays': WHATEVER THE INPUT: true; the input reads as it did. -/
def runPlaysSpec : ChangeSpec := { name := "runPlays", fn := fun _ => fun
  | [d] => { results := [.lit (.bool true)], args := [d] }
  | _ => none }
def runPlaysRow : OpenClaim := { program := "ythhlfpbfdkogfaagreatdoor", sum := "ea8fd6f4931051c9877d5b0dc03daf23626292bd73f757b1dc085a326cf65b7d", func := "scrim/scrimlaw17.RunPlays", spec := "runPlays", unfollowed := true, recurses := true, named := ["scrim/box.ones"], apart := false, laid := [("scrim/box.ones", laid_scrim_box_ones)] }
def RunPlaysSaid : Prop := runPlaysRow.holds Tryz.pinned (OpenSpec.ofChange runPlaysSpec)

/-- ITS FALSE NEIGHBOUR: 'it returns false'. Refute it at one input. -/
def runPlaysWrong : ChangeSpec := { name := "runPlays", fn := fun _ => fun
  | [d] => { results := [.lit (.bool false)], args := [d] }
  | _ => none }
def RunPlaysWrongFalsely : Prop := runPlaysRow.holds Tryz.pinned (OpenSpec.ofChange runPlaysWrong)

/-- 'scrimlaw17.RunOut': WHATEVER THE INPUT: true; the input reads as it did. -/
def runOutSpec : ChangeSpec := { name := "runOut", fn := fun _ => fun
  | [d] => { results := [.lit (.bool true)], args := [d] }
  | _ => none }
def runOutRow : OpenClaim := { program := "ythhlfpbfdkogfaagreatdoor", sum := "ea8fd6f4931051c9877d5b0dc03daf23626292bd73f757b1dc085a326cf65b7d", func := "scrim/scrimlaw17.RunOut", spec := "runOut", unfollowed := true, recurses := true, named := ["scrim/box.ones"], apart := false, laid := [("scrim/box.ones", laid_scrim_box_ones)] }
def RunOutSaid : Prop := runOutRow.holds Tryz.pinned (OpenSpec.ofChange runOutSpec)

/-- ITS FALSE NEIGHBOUR: 'it returns false'. Refute it at one input. -/
def runOutWrong : ChangeSpec := { name := "runOut", fn := fun _ => fun
  | [d] => { results := [.lit (.bool false)], args := [d] }
  | _ => none }
def RunOutWrongFalsely : Prop := runOutRow.holds Tryz.pinned (OpenSpec.ofChange runOutWrong)

/-- 'scrimlaw17.RunSeals': WHATEVER THE INPUT: true; the input reads as it did. -/
def runSealsSpec : ChangeSpec := { name := "runSeals", fn := fun _ => fun
  | [d1, d2, d3, d4, d5] => { results := [.lit (.bool true)], args := [d1, d2, d3, d4, d5] }
  | _ => none }
def runSealsRow : OpenClaim := { program := "ythhlfpbfdkogfaagreatdoor", sum := "ea8fd6f4931051c9877d5b0dc03daf23626292bd73f757b1dc085a326cf65b7d", func := "scrim/scrimlaw17.RunSeals", spec := "runSeals", unfollowed := true, recurses := true, named := ["scrim/box.ones"], apart := false, laid := [("scrim/box.ones", laid_scrim_box_ones)] }
def RunSealsSaid : Prop := runSealsRow.holds Tryz.pinned (OpenSpec.ofChange runSealsSpec)

/-- ITS FALSE NEIGHBOUR: 'it returns false'. Refute it at one input. -/
def runSealsWrong : ChangeSpec := { name := "runSeals", fn := fun _ => fun
  | [d1, d2, d3, d4, d5] => { results := [.lit (.bool false)], args := [d1, d2, d3, d4, d5] }
  | _ => none }
def RunSealsWrongFalsely : Prop := runSealsRow.holds Tryz.pinned (OpenSpec.ofChange runSealsWrong)

/- THE SECOND FORM. 'bulk': how many values and letters a reading holds, each counted each time it is reached (what is shared counts as often as it is met; a slice's spare places count too). A statement '..UptoSaid' is the law's where the arguments, and the package variables that the reading takes, are together of bulk at most 1048576: NARROWER than '..Said'. Prove '..Said' where nothing that the law and all that it calls make is longer than what came in: it says more and counts as full. Else prove '..UptoSaid'. A law counts once. -/
mutual
def uptoBulk {H : Type} : DataW H → Nat
  | .lit (.string bytes) => bytes.length + 1
  | .lit _ => 1
  | .nil => 1
  | .ptr d => uptoBulk d + 1
  | .slice elems spare => uptoBulkAll elems + uptoBulkAll spare + 1
  | .agg parts => uptoBulkAll parts + 1
  | .iface _ d => uptoBulk d + 1
  | .map entries => uptoBulkEntries entries + 1
  | .held _ => 1
def uptoBulkAll {H : Type} : List (DataW H) → Nat
  | [] => 0
  | d :: r => uptoBulk d + uptoBulkAll r
def uptoBulkEntries {H : Type} : List (Lit × DataW H) → Nat
  | [] => 0
  | x :: r => uptoBulkEntry x + uptoBulkEntries r
def uptoBulkEntry {H : Type} : Lit × DataW H → Nat
  | (.string bytes, d) => bytes.length + uptoBulk d + 1
  | (_, d) => uptoBulk d + 1
 end
def uptoSmall : (H : Type) → List (DataW H) → Bool := fun _ ds => decide (uptoBulkAll ds ≤ 1048576)
def OpenSpec.upto (s : _root_.Go.ChangeSpec) : _root_.Go.OpenSpec := { _root_.Go.OpenSpec.ofChange s with cond := some uptoSmall }

/-- 'scrimtop.TopStolen', WHERE WHAT IT READS IS OF BULK AT MOST 1048576: true; the input reads as it did. -/
def topStolenUptoRow : OpenClaim := { program := "ythhlfpbfdkogfaagreatdoor", sum := "ea8fd6f4931051c9877d5b0dc03daf23626292bd73f757b1dc085a326cf65b7d", func := "scrim/scrimtop.TopStolen", spec := "topStolen", unfollowed := true, recurses := true, named := ["scrim/box.ones"], apart := false, laid := [("scrim/box.ones", laid_scrim_box_ones)], narrowed := true }
def TopStolenUptoSaid : Prop := topStolenUptoRow.holds Tryz.pinned (OpenSpec.upto topStolenSpec)

/-- 'scrimtop.TopKeys', WHERE WHAT IT READS IS OF BULK AT MOST 1048576: true; the input reads as it did. -/
def topKeysUptoRow : OpenClaim := { program := "ythhlfpbfdkogfaagreatdoor", sum := "ea8fd6f4931051c9877d5b0dc03daf23626292bd73f757b1dc085a326cf65b7d", func := "scrim/scrimtop.TopKeys", spec := "topKeys", unfollowed := true, recurses := true, named := ["scrim/box.ones"], apart := false, laid := [("scrim/box.ones", laid_scrim_box_ones)], narrowed := true }
def TopKeysUptoSaid : Prop := topKeysUptoRow.holds Tryz.pinned (OpenSpec.upto topKeysSpec)

/-- 'scrimtop.TopOwn', WHERE WHAT IT READS IS OF BULK AT MOST 1048576: true; the input reads as it did. -/
def topOwnUptoRow : OpenClaim := { program := "ythhlfpbfdkogfaagreatdoor", sum := "ea8fd6f4931051c9877d5b0dc03daf23626292bd73f757b1dc085a326cf65b7d", func := "scrim/scrimtop.TopOwn", spec := "topOwn", unfollowed := true, recurses := true, named := ["scrim/box.ones"], apart := false, laid := [("scrim/box.ones", laid_scrim_box_ones)], narrowed := true }
def TopOwnUptoSaid : Prop := topOwnUptoRow.holds Tryz.pinned (OpenSpec.upto topOwnSpec)

/-- 'scrimlaw16.CtxPieces', WHERE WHAT IT READS IS OF BULK AT MOST 1048576: true; the input reads as it did. -/
def ctxPiecesUptoRow : OpenClaim := { program := "ythhlfpbfdkogfaagreatdoor", sum := "ea8fd6f4931051c9877d5b0dc03daf23626292bd73f757b1dc085a326cf65b7d", func := "scrim/scrimlaw16.CtxPieces", spec := "ctxPieces", unfollowed := true, recurses := true, named := ["scrim/box.ones"], apart := false, laid := [("scrim/box.ones", laid_scrim_box_ones)], narrowed := true }
def CtxPiecesUptoSaid : Prop := ctxPiecesUptoRow.holds Tryz.pinned (OpenSpec.upto ctxPiecesSpec)

/-- 'scrimlaw17.RunPlays', WHERE WHAT IT READS IS OF BULK AT MOST 1048576: true; the input reads as it did. -/
def runPlaysUptoRow : OpenClaim := { program := "ythhlfpbfdkogfaagreatdoor", sum := "ea8fd6f4931051c9877d5b0dc03daf23626292bd73f757b1dc085a326cf65b7d", func := "scrim/scrimlaw17.RunPlays", spec := "runPlays", unfollowed := true, recurses := true, named := ["scrim/box.ones"], apart := false, laid := [("scrim/box.ones", laid_scrim_box_ones)], narrowed := true }
def RunPlaysUptoSaid : Prop := runPlaysUptoRow.holds Tryz.pinned (OpenSpec.upto runPlaysSpec)

/-- 'scrimlaw17.RunOut', WHERE WHAT IT READS IS OF BULK AT MOST 1048576: true; the input reads as it did. -/
def runOutUptoRow : OpenClaim := { program := "ythhlfpbfdkogfaagreatdoor", sum := "ea8fd6f4931051c9877d5b0dc03daf23626292bd73f757b1dc085a326cf65b7d", func := "scrim/scrimlaw17.RunOut", spec := "runOut", unfollowed := true, recurses := true, named := ["scrim/box.ones"], apart := false, laid := [("scrim/box.ones", laid_scrim_box_ones)], narrowed := true }
def RunOutUptoSaid : Prop := runOutUptoRow.holds Tryz.pinned (OpenSpec.upto runOutSpec)

/-- 'scrimlaw17.RunSeals', WHERE WHAT IT READS IS OF BULK AT MOST 1048576: true; the input reads as it did. -/
def runSealsUptoRow : OpenClaim := { program := "ythhlfpbfdkogfaagreatdoor", sum := "ea8fd6f4931051c9877d5b0dc03daf23626292bd73f757b1dc085a326cf65b7d", func := "scrim/scrimlaw17.RunSeals", spec := "runSeals", unfollowed := true, recurses := true, named := ["scrim/box.ones"], apart := false, laid := [("scrim/box.ones", laid_scrim_box_ones)], narrowed := true }
def RunSealsUptoSaid : Prop := runSealsUptoRow.holds Tryz.pinned (OpenSpec.upto runSealsSpec)

end Rows
end Go.Proofs.YthhlfpbfdkogfaaGreatDoor
