/-
  NARROWER THAN 'FOR EVERY INPUT', by the rows' own cells (each row's printed sentence says how): CipherBlocks: laid · CipherTags: laid · CipherBack: laid · CipherErrs: laid · CipherSame: laid · CipherMany: laid · CipherApart: laid.
  DERIVED. THE GIVEN ROWS OF THIS SEAT. 7 by the template 'for every input the law returns true; each argument reads behind the call as it read before'; 0 by the template 'total and deterministic' (their statements: YtnmohpcigbdbcaaGreatDoorTotals.lean).
  GIVEN WITH THE SEED: the statements are not yours to turn. If you find one false, say at which input.
  Laid BY PROGRAM, IN A SANDBOX (cutbox-rows.mjs): the forced cells as the released guide's own fill.sh prints them over the translation 666fbfa13c45e707… (all of the seat's roots in one cut). By AI agents, Wed Nov 11 2026. No macro, syntax, notation, axiom, sorry.
-/
import Derived.Test.YtnmohpcigbdbcaaGreatDoorChecked
import GoSem.Claim
import GoSem.ClaimJoined
import GoSem.ClaimMapViews
import Derived.JoinedTies
import Derived.KernelRfl
namespace Go.Proofs.YtnmohpcigbdbcaaGreatDoor
/- THE CELL 'sum', in the pinned program and in every row, IS THE sha256 OF THE DUMP (.gsa) THAT YtnmohpcigbdbcaaGreatDoorProg.lean LOADS. Nothing in Lean hashes anything: it is a label: what it is worth is what the hold of that sum in a sandbox is worth. -/
noncomputable def Tryz.pinned : Pinned := { name := "ytnmohpcigbdbcaagreatdoor", sum := "666fbfa13c45e7070ea78820e4edd1299c7e8194969dedd949b595ce1013bac7", checked := Tryz.checked }
namespace Rows
def none {H : Type} : Left H := { results := [], args := [] }

/- WHAT THE LISTED PACKAGE-LEVEL VARIABLES READ AS WHEN THE CALL BEGINS. Each datum BY PROGRAM (the guide's laid-datum.mjs) off the statement by which the dump's own 'gosem.cut.vars' lays the variable. In a bare row this is a premise. The card (YtnmohpcigbdbcaaGreatDoorCards.lean) ties it to the program's text. -/
def laid_scrim_box_ones {H : Type} : DataW H := .agg [.lit (.int .u8 1), .lit (.int .u8 2), .lit (.int .u8 4), .lit (.int .u8 8), .lit (.int .u8 16), .lit (.int .u8 32), .lit (.int .u8 64), .lit (.int .u8 128)]

/-- 'scrimlaw11.CipherBlocks': WHATEVER THE INPUT: true; the input reads as it did. -/
def cipherBlocksSpec : ChangeSpec := { name := "cipherBlocks", fn := fun _ => fun
  | [d1, d2, d3, d4] => { results := [.lit (.bool true)], args := [d1, d2, d3, d4] }
  | _ => none }
def cipherBlocksRow : OpenClaim := { program := "ytnmohpcigbdbcaagreatdoor", sum := "666fbfa13c45e7070ea78820e4edd1299c7e8194969dedd949b595ce1013bac7", func := "scrim/scrimlaw11.CipherBlocks", spec := "cipherBlocks", unfollowed := true, recurses := true, named := ["scrim/box.ones"], apart := false, laid := [("scrim/box.ones", laid_scrim_box_ones)] }
def CipherBlocksSaid : Prop := cipherBlocksRow.holds Tryz.pinned (OpenSpec.ofChange cipherBlocksSpec)

/-- ITS FALSE NEIGHBOUR: 'it returns false'. Refute it at one input. -/
def cipherBlocksWrong : ChangeSpec := { name := "cipherBlocks", fn := fun _ => fun
  | [d1, d2, d3, d4] => { results := [.lit (.bool false)], args := [d1, d2, d3, d4] }
  | _ => none }
def CipherBlocksWrongFalsely : Prop := cipherBlocksRow.holds Tryz.pinned (OpenSpec.ofChange cipherBlocksWrong)

/-- 'scrimlaw11.CipherTags': WHATEVER THE INPUT: true; the input reads as it did. -/
def cipherTagsSpec : ChangeSpec := { name := "cipherTags", fn := fun _ => fun
  | [d1, d2, d3] => { results := [.lit (.bool true)], args := [d1, d2, d3] }
  | _ => none }
def cipherTagsRow : OpenClaim := { program := "ytnmohpcigbdbcaagreatdoor", sum := "666fbfa13c45e7070ea78820e4edd1299c7e8194969dedd949b595ce1013bac7", func := "scrim/scrimlaw11.CipherTags", spec := "cipherTags", unfollowed := true, recurses := true, named := ["scrim/box.ones"], apart := false, laid := [("scrim/box.ones", laid_scrim_box_ones)] }
def CipherTagsSaid : Prop := cipherTagsRow.holds Tryz.pinned (OpenSpec.ofChange cipherTagsSpec)

/-- ITS FALSE NEIGHBOUR: 'it returns false'. Refute it at one input. -/
def cipherTagsWrong : ChangeSpec := { name := "cipherTags", fn := fun _ => fun
  | [d1, d2, d3] => { results := [.lit (.bool false)], args := [d1, d2, d3] }
  | _ => none }
def CipherTagsWrongFalsely : Prop := cipherTagsRow.holds Tryz.pinned (OpenSpec.ofChange cipherTagsWrong)

/-- 'scrimlaw11.CipherBack': WHATEVER THE INPUT: true; the input reads as it did. -/
def cipherBackSpec : ChangeSpec := { name := "cipherBack", fn := fun _ => fun
  | [d1, d2, d3, d4, d5] => { results := [.lit (.bool true)], args := [d1, d2, d3, d4, d5] }
  | _ => none }
def cipherBackRow : OpenClaim := { program := "ytnmohpcigbdbcaagreatdoor", sum := "666fbfa13c45e7070ea78820e4edd1299c7e8194969dedd949b595ce1013bac7", func := "scrim/scrimlaw11.CipherBack", spec := "cipherBack", unfollowed := true, recurses := true, named := ["scrim/box.ones"], apart := false, laid := [("scrim/box.ones", laid_scrim_box_ones)] }
def CipherBackSaid : Prop := cipherBackRow.holds Tryz.pinned (OpenSpec.ofChange cipherBackSpec)

/-- ITS FALSE NEIGHBOUR: 'it returns false'. Refute it at one input. -/
def cipherBackWrong : ChangeSpec := { name := "cipherBack", fn := fun _ => fun
  | [d1, d2, d3, d4, d5] => { results := [.lit (.bool false)], args := [d1, d2, d3, d4, d5] }
  | _ => none }
def CipherBackWrongFalsely : Prop := cipherBackRow.holds Tryz.pinned (OpenSpec.ofChange cipherBackWrong)

/-- 'scrimlaw11.CipherErrs': WHATEVER THE INPUT: true; the input reads as it did. -/
def cipherErrsSpec : ChangeSpec := { name := "cipherErrs", fn := fun _ => fun
  | [d1, d2, d3, d4] => { results := [.lit (.bool true)], args := [d1, d2, d3, d4] }
  | _ => none }
def cipherErrsRow : OpenClaim := { program := "ytnmohpcigbdbcaagreatdoor", sum := "666fbfa13c45e7070ea78820e4edd1299c7e8194969dedd949b595ce1013bac7", func := "scrim/scrimlaw11.CipherErrs", spec := "cipherErrs", unfollowed := true, recurses := true, named := ["scrim/box.ones"], apart := false, laid := [("scrim/box.ones", laid_scrim_box_ones)] }
def CipherErrsSaid : Prop := cipherErrsRow.holds Tryz.pinned (OpenSpec.ofChange cipherErrsSpec)

/-- ITS FALSE NEIGHBOUR: 'it returns false'. Refute it at one input. -/
def cipherErrsWrong : ChangeSpec := { name := "cipherErrs", fn := fun _ => fun
  | [d1, d2, d3, d4] => { results := [.lit (.bool false)], args := [d1, d2, d3, d4] }
  | _ => none }
def CipherErrsWrongFalsely : Prop := cipherErrsRow.holds Tryz.pinned (OpenSpec.ofChange cipherErrsWrong)

/-- 'scrimlaw11.CipherSame': WHATEVER THE INPUT: true; the input reads as it did. -/
def cipherSameSpec : ChangeSpec := { name := "cipherSame", fn := fun _ => fun
  | [d1, d2, d3, d4] => { results := [.lit (.bool true)], args := [d1, d2, d3, d4] }
  | _ => none }
def cipherSameRow : OpenClaim := { program := "ytnmohpcigbdbcaagreatdoor", sum := "666fbfa13c45e7070ea78820e4edd1299c7e8194969dedd949b595ce1013bac7", func := "scrim/scrimlaw11.CipherSame", spec := "cipherSame", unfollowed := true, recurses := true, named := ["scrim/box.ones"], apart := false, laid := [("scrim/box.ones", laid_scrim_box_ones)] }
def CipherSameSaid : Prop := cipherSameRow.holds Tryz.pinned (OpenSpec.ofChange cipherSameSpec)

/-- ITS FALSE NEIGHBOUR: 'it returns false'. Refute it at one input. -/
def cipherSameWrong : ChangeSpec := { name := "cipherSame", fn := fun _ => fun
  | [d1, d2, d3, d4] => { results := [.lit (.bool false)], args := [d1, d2, d3, d4] }
  | _ => none }
def CipherSameWrongFalsely : Prop := cipherSameRow.holds Tryz.pinned (OpenSpec.ofChange cipherSameWrong)

/-- 'scrimlaw11.CipherMany': WHATEVER THE INPUT: true; the input reads as it did. -/
def cipherManySpec : ChangeSpec := { name := "cipherMany", fn := fun _ => fun
  | [d1, d2, d3, d4, d5] => { results := [.lit (.bool true)], args := [d1, d2, d3, d4, d5] }
  | _ => none }
def cipherManyRow : OpenClaim := { program := "ytnmohpcigbdbcaagreatdoor", sum := "666fbfa13c45e7070ea78820e4edd1299c7e8194969dedd949b595ce1013bac7", func := "scrim/scrimlaw11.CipherMany", spec := "cipherMany", unfollowed := true, recurses := true, named := ["scrim/box.ones"], apart := false, laid := [("scrim/box.ones", laid_scrim_box_ones)] }
def CipherManySaid : Prop := cipherManyRow.holds Tryz.pinned (OpenSpec.ofChange cipherManySpec)

/-- ITS FALSE NEIGHBOUR: 'it returns false'. Refute it at one input. -/
def cipherManyWrong : ChangeSpec := { name := "cipherMany", fn := fun _ => fun
  | [d1, d2, d3, d4, d5] => { results := [.lit (.bool false)], args := [d1, d2, d3, d4, d5] }
  | _ => none }
def CipherManyWrongFalsely : Prop := cipherManyRow.holds Tryz.pinned (OpenSpec.ofChange cipherManyWrong)

/-- 'scrimlaw11.CipherApart': WHATEVER THE INPUT: true; the input reads as it did. -/
def cipherApartSpec : ChangeSpec := { name := "cipherApart", fn := fun _ => fun
  | [d1, d2, d3, d4, d5, d6] => { results := [.lit (.bool true)], args := [d1, d2, d3, d4, d5, d6] }
  | _ => none }
def cipherApartRow : OpenClaim := { program := "ytnmohpcigbdbcaagreatdoor", sum := "666fbfa13c45e7070ea78820e4edd1299c7e8194969dedd949b595ce1013bac7", func := "scrim/scrimlaw11.CipherApart", spec := "cipherApart", unfollowed := true, recurses := true, named := ["scrim/box.ones"], apart := false, laid := [("scrim/box.ones", laid_scrim_box_ones)] }
def CipherApartSaid : Prop := cipherApartRow.holds Tryz.pinned (OpenSpec.ofChange cipherApartSpec)

/-- ITS FALSE NEIGHBOUR: 'it returns false'. Refute it at one input. -/
def cipherApartWrong : ChangeSpec := { name := "cipherApart", fn := fun _ => fun
  | [d1, d2, d3, d4, d5, d6] => { results := [.lit (.bool false)], args := [d1, d2, d3, d4, d5, d6] }
  | _ => none }
def CipherApartWrongFalsely : Prop := cipherApartRow.holds Tryz.pinned (OpenSpec.ofChange cipherApartWrong)

/- THE SECOND FORM. 'bulk': how many values and letters a reading holds, each counted each time it is reached (what is shared counts as often as it is met; a slice's spare places count too). A statement '..UptoSaid' is the law's where the arguments, and the package variables that the reading takes, are together of bulk at most 1048576: NARROWER than '..Said'. Prove '..Said' where nothing that the law and all that it calls make is longer than what came in: it says more and counts as full. Else prove '..UptoSaid'. A law counts once. -/
mutual
def uptoBulk {H : Type} : DataW H → Nat
  | .lit (.string bytes) => bytes.length + 1
  | .lit _ => 1
  | .nil => 1
  | .ptr d => uptoBulk d + 1
  | .slice elems spare => uptoBulkAll elems + uptoBulkAll spare + 1
  | .agg parts => uptoBulkAll parts + 1
  | .iface _ d => uptoBulk d + 1
  | .map entries => uptoBulkEntries entries + 1
  | .held _ => 1
def uptoBulkAll {H : Type} : List (DataW H) → Nat
  | [] => 0
  | d :: r => uptoBulk d + uptoBulkAll r
def uptoBulkEntries {H : Type} : List (Lit × DataW H) → Nat
  | [] => 0
  | x :: r => uptoBulkEntry x + uptoBulkEntries r
def uptoBulkEntry {H : Type} : Lit × DataW H → Nat
  | (.string bytes, d) => bytes.length + uptoBulk d + 1
  | (_, d) => uptoBulk d + 1
 end
def uptoSmall : (H : Type) → List (DataW H) → Bool := fun _ ds => decide (uptoBulkAll ds ≤ 1048576)
def OpenSpec.upto (s : _root_.Go.ChangeSpec) : _root_.Go.OpenSpec := { _root_.Go.OpenSpec.ofChange s with cond := some uptoSmall }

/-- 'scrimlaw11.CipherBlocks', WHERE WHAT IT READS IS OF BULK AT MOST 1048576: true; the input reads as it did. -/
def cipherBlocksUptoRow : OpenClaim := { program := "ytnmohpcigbdbcaagreatdoor", sum := "666fbfa13c45e7070ea78820e4edd1299c7e8194969dedd949b595ce1013bac7", func := "scrim/scrimlaw11.CipherBlocks", spec := "cipherBlocks", unfollowed := true, recurses := true, named := ["scrim/box.ones"], apart := false, laid := [("scrim/box.ones", laid_scrim_box_ones)], narrowed := true }
def CipherBlocksUptoSaid : Prop := cipherBlocksUptoRow.holds Tryz.pinned (OpenSpec.upto cipherBlocksSpec)

/-- 'scrimlaw11.CipherTags', WHERE WHAT IT READS IS OF BULK AT MOST 1048576: true; the input reads as it did. -/
def cipherTagsUptoRow : OpenClaim := { program := "ytnmohpcigbdbcaagreatdoor", sum := "666fbfa13c45e7070ea78820e4edd1299c7e8194969dedd949b595ce1013bac7", func := "scrim/scrimlaw11.CipherTags", spec := "cipherTags", unfollowed := true, recurses := true, named := ["scrim/box.ones"], apart := false, laid := [("scrim/box.ones", laid_scrim_box_ones)], narrowed := true }
def CipherTagsUptoSaid : Prop := cipherTagsUptoRow.holds Tryz.pinned (OpenSpec.upto cipherTagsSpec)

/-- 'scrimlaw11.CipherBack', WHERE WHAT IT READS IS OF BULK AT MOST 1048576: true; the input reads as it did. -/
def cipherBackUptoRow : OpenClaim := { program := "ytnmohpcigbdbcaagreatdoor", sum := "666fbfa13c45e7070ea78820e4edd1299c7e8194969dedd949b595ce1013bac7", func := "scrim/scrimlaw11.CipherBack", spec := "cipherBack", unfollowed := true, recurses := true, named := ["scrim/box.ones"], apart := false, laid := [("scrim/box.ones", laid_scrim_box_ones)], narrowed := true }
def CipherBackUptoSaid : Prop := cipherBackUptoRow.holds Tryz.pinned (OpenSpec.upto cipherBackSpec)

/-- 'scrimlaw11.CipherErrs', WHERE WHAT IT READS IS OF BULK AT MOST 1048576: true; the input reads as it did. -/
def cipherErrsUptoRow : OpenClaim := { program := "ytnmohpcigbdbcaagreatdoor", sum := "666fbfa13c45e7070ea78820e4edd1299c7e8194969dedd949b595ce1013bac7", func := "scrim/scrimlaw11.CipherErrs", spec := "cipherErrs", unfollowed := true, recurses := true, named := ["scrim/box.ones"], apart := false, laid := [("scrim/box.ones", laid_scrim_box_ones)], narrowed := true }
def CipherErrsUptoSaid : Prop := cipherErrsUptoRow.holds Tryz.pinned (OpenSpec.upto cipherErrsSpec)

/-- 'scrimlaw11.CipherSame', WHERE WHAT IT READS IS OF BULK AT MOST 1048576: true; the input reads as it did. -/
def cipherSameUptoRow : OpenClaim := { program := "ytnmohpcigbdbcaagreatdoor", sum := "666fbfa13c45e7070ea78820e4edd1299c7e8194969dedd949b595ce1013bac7", func := "scrim/scrimlaw11.CipherSame", spec := "cipherSame", unfollowed := true, recurses := true, named := ["scrim/box.ones"], apart := false, laid := [("scrim/box.ones", laid_scrim_box_ones)], narrowed := true }
def CipherSameUptoSaid : Prop := cipherSameUptoRow.holds Tryz.pinned (OpenSpec.upto cipherSameSpec)

/-- 'scrimlaw11.CipherMany', WHERE WHAT IT READS IS OF BULK AT MOST 1048576: true; the input reads as it did. -/
def cipherManyUptoRow : OpenClaim := { program := "ytnmohpcigbdbcaagreatdoor", sum := "666fbfa13c45e7070ea78820e4edd1299c7e8194969dedd949b595ce1013bac7", func := "scrim/scrimlaw11.CipherMany", spec := "cipherMany", unfollowed := true, recurses := true, named := ["scrim/box.ones"], apart := false, laid := [("scrim/box.ones", laid_scrim_box_ones)], narrowed := true }
def CipherManyUptoSaid : Prop := cipherManyUptoRow.holds Tryz.pinned (OpenSpec.upto cipherManySpec)

/-- 'scrimlaw11.CipherApart', WHERE WHAT IT READS IS OF BULK AT MOST 1048576: true; the input reads as it did. -/
def cipherApartUptoRow : OpenClaim := { program := "ytnmohpcigbdbcaagreatdoor", sum := "666fbfa13c45e7070ea78820e4edd1299c7e8194969dedd949b595ce1013bac7", func := "scrim/scrimlaw11.CipherApart", spec := "cipherApart", unfollowed := true, recurses := true, named := ["scrim/box.ones"], apart := false, laid := [("scrim/box.ones", laid_scrim_box_ones)], narrowed := true }
def CipherApartUptoSaid : Prop := cipherApartUptoRow.holds Tryz.pinned (OpenSpec.upto cipherApartSpec)

end Rows
end Go.Proofs.YtnmohpcigbdbcaaGreatDoor
