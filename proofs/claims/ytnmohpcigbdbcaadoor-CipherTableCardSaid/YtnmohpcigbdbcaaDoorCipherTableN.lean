/-
  NAMES, BY PROGRAM: the numbers of the functions and types that this claim reaches, the table of the types, of the regions that draw. It is no claim by itself; it has no conditions.
-/
import Derived.Test.YtnmohpcigbdbcaaDoorProg
import Derived.Test.YtnmohpcigbdbcaaDoorXb
set_option linter.unusedVariables false
set_option maxRecDepth 100000
namespace Go.Scr
open Go.Proofs

def ti3 : TI := ⟨TypeDesc.int IntKind.i64, 1, 8, [Value.int IntKind.i64 (0)]⟩
theorem tk3 : TyOk Tryd.prog 3 ti3 := ⟨Tryd.underlying3, by kernel_rfl, by kernel_rfl⟩
def ti4 : TI := ⟨TypeDesc.bool, 1, 1, [Value.bool false]⟩
theorem tk4 : TyOk Tryd.prog 4 ti4 := ⟨Tryd.underlying4, by kernel_rfl, by kernel_rfl⟩
def ti5 : TI := ⟨TypeDesc.int IntKind.u8, 1, 1, [Value.int IntKind.u8 (0)]⟩
theorem tk5 : TyOk Tryd.prog 5 ti5 := ⟨Tryd.underlying5, by kernel_rfl, by kernel_rfl⟩
def ti9 : TI := ⟨TypeDesc.string, 1, 16, [Value.string ⟨#[]⟩]⟩
theorem tk9 : TyOk Tryd.prog 9 ti9 := ⟨Tryd.underlying9, by kernel_rfl, by kernel_rfl⟩
def ti24 : TI := ⟨TypeDesc.slice 3, 1, 24, [Value.slice none 0 0]⟩
theorem tk24 : TyOk Tryd.prog 24 ti24 := ⟨Tryd.underlying24, by kernel_rfl, by kernel_rfl⟩
def ti25 : TI := ⟨TypeDesc.slice 9, 1, 24, [Value.slice none 0 0]⟩
theorem tk25 : TyOk Tryd.prog 25 ti25 := ⟨Tryd.underlying25, by kernel_rfl, by kernel_rfl⟩
def ti27 : TI := ⟨TypeDesc.slice 5, 1, 24, [Value.slice none 0 0]⟩
theorem tk27 : TyOk Tryd.prog 27 ti27 := ⟨Tryd.underlying27, by kernel_rfl, by kernel_rfl⟩
def ti30 : TI := ⟨TypeDesc.pointer 39, 1, 8, [Value.pointer none]⟩
theorem tk30 : TyOk Tryd.prog 30 ti30 := ⟨Tryd.underlying30, by kernel_rfl, by kernel_rfl⟩
def ti31 : TI := ⟨TypeDesc.int IntKind.i64, 1, 8, [Value.int IntKind.i64 (0)]⟩
theorem tk31 : TyOk Tryd.prog 31 ti31 := ⟨Tryd.underlying31, by kernel_rfl, by kernel_rfl⟩
def ti37 : TI := ⟨TypeDesc.func #[27, 4] #[27, 31] false, 1, 8, [Value.nilFunc]⟩
theorem tk37 : TyOk Tryd.prog 37 ti37 := ⟨Tryd.underlying37, by kernel_rfl, by kernel_rfl⟩
def ti39 : TI := ⟨TypeDesc.struct #[{ name := "tag", type := 3, offset := 0, embedded := false, tag := "", pkgPath := "scrim/cipher", byteOffset := 0 }, { name := "turn", type := 37, offset := 1, embedded := false, tag := "", pkgPath := "scrim/cipher", byteOffset := 8 }], 2, 16, [Value.int IntKind.i64 (0), Value.nilFunc]⟩
theorem tk39 : TyOk Tryd.prog 39 ti39 := ⟨Tryd.underlying39, by kernel_rfl, by kernel_rfl⟩
def ti47 : TI := ⟨TypeDesc.pointer 78, 1, 8, [Value.pointer none]⟩
theorem tk47 : TyOk Tryd.prog 47 ti47 := ⟨Tryd.underlying47, by kernel_rfl, by kernel_rfl⟩
def ti53 : TI := ⟨TypeDesc.pointer 103, 1, 8, [Value.pointer none]⟩
theorem tk53 : TyOk Tryd.prog 53 ti53 := ⟨Tryd.underlying53, by kernel_rfl, by kernel_rfl⟩
def ti57 : TI := ⟨TypeDesc.slice 60, 1, 24, [Value.slice none 0 0]⟩
theorem tk57 : TyOk Tryd.prog 57 ti57 := ⟨Tryd.underlying57, by kernel_rfl, by kernel_rfl⟩
def ti59 : TI := ⟨TypeDesc.struct #[{ name := "keys", type := 57, offset := 0, embedded := false, tag := "", pkgPath := "scrim/des", byteOffset := 0 }], 1, 24, [Value.slice none 0 0]⟩
theorem tk59 : TyOk Tryd.prog 59 ti59 := ⟨Tryd.underlying59, by kernel_rfl, by kernel_rfl⟩
def ti60 : TI := ⟨TypeDesc.slice 27, 1, 24, [Value.slice none 0 0]⟩
theorem tk60 : TyOk Tryd.prog 60 ti60 := ⟨Tryd.underlying60, by kernel_rfl, by kernel_rfl⟩
def ti70 : TI := ⟨TypeDesc.struct #[{ name := "there", type := 24, offset := 0, embedded := false, tag := "", pkgPath := "scrim/idea", byteOffset := 0 }, { name := "back", type := 24, offset := 1, embedded := false, tag := "", pkgPath := "scrim/idea", byteOffset := 24 }], 2, 48, [Value.slice none 0 0, Value.slice none 0 0]⟩
theorem tk70 : TyOk Tryd.prog 70 ti70 := ⟨Tryd.underlying70, by kernel_rfl, by kernel_rfl⟩
def ti73 : TI := ⟨TypeDesc.int IntKind.u64, 1, 8, [Value.int IntKind.u64 (0)]⟩
theorem tk73 : TyOk Tryd.prog 73 ti73 := ⟨Tryd.underlying73, by kernel_rfl, by kernel_rfl⟩
def ti74 : TI := ⟨TypeDesc.slice 79, 1, 24, [Value.slice none 0 0]⟩
theorem tk74 : TyOk Tryd.prog 74 ti74 := ⟨Tryd.underlying74, by kernel_rfl, by kernel_rfl⟩
def ti78 : TI := ⟨TypeDesc.struct #[{ name := "k", type := 74, offset := 0, embedded := false, tag := "", pkgPath := "scrim/twofish", byteOffset := 0 }, { name := "s", type := 74, offset := 1, embedded := false, tag := "", pkgPath := "scrim/twofish", byteOffset := 24 }], 2, 48, [Value.slice none 0 0, Value.slice none 0 0]⟩
theorem tk78 : TyOk Tryd.prog 78 ti78 := ⟨Tryd.underlying78, by kernel_rfl, by kernel_rfl⟩
def ti79 : TI := ⟨TypeDesc.int IntKind.u32, 1, 4, [Value.int IntKind.u32 (0)]⟩
theorem tk79 : TyOk Tryd.prog 79 ti79 := ⟨Tryd.underlying79, by kernel_rfl, by kernel_rfl⟩
def ti80 : TI := ⟨TypeDesc.array 4 79, 4, 16, [Value.int IntKind.u32 (0), Value.int IntKind.u32 (0), Value.int IntKind.u32 (0), Value.int IntKind.u32 (0)]⟩
theorem tk80 : TyOk Tryd.prog 80 ti80 := ⟨Tryd.underlying80, by kernel_rfl, by kernel_rfl⟩
def ti89 : TI := ⟨TypeDesc.array 4 27, 4, 96, [Value.slice none 0 0, Value.slice none 0 0, Value.slice none 0 0, Value.slice none 0 0]⟩
theorem tk89 : TyOk Tryd.prog 89 ti89 := ⟨Tryd.underlying89, by kernel_rfl, by kernel_rfl⟩
def ti90 : TI := ⟨TypeDesc.array 4 27, 4, 96, [Value.slice none 0 0, Value.slice none 0 0, Value.slice none 0 0, Value.slice none 0 0]⟩
theorem tk90 : TyOk Tryd.prog 90 ti90 := ⟨Tryd.underlying90, by kernel_rfl, by kernel_rfl⟩
def ti94 : TI := ⟨TypeDesc.struct #[{ name := "t", type := 90, offset := 0, embedded := false, tag := "", pkgPath := "scrim/aria", byteOffset := 0 }, { name := "keys", type := 60, offset := 4, embedded := false, tag := "", pkgPath := "scrim/aria", byteOffset := 96 }], 5, 120, List.replicate 5 (Value.slice none 0 0)⟩
theorem tk94 : TyOk Tryd.prog 94 ti94 := ⟨Tryd.underlying94, by kernel_rfl, by kernel_rfl⟩
def ti103 : TI := ⟨TypeDesc.struct #[{ name := "keys", type := 74, offset := 0, embedded := false, tag := "", pkgPath := "scrim/small", byteOffset := 0 }, { name := "tag", type := 3, offset := 1, embedded := false, tag := "", pkgPath := "scrim/small", byteOffset := 24 }], 2, 32, [Value.slice none 0 0, Value.int IntKind.i64 (0)]⟩
theorem tk103 : TyOk Tryd.prog 103 ti103 := ⟨Tryd.underlying103, by kernel_rfl, by kernel_rfl⟩
def ti119 : TI := ⟨TypeDesc.array 8 5, 8, 8, List.replicate 8 (Value.int IntKind.u8 (0))⟩
theorem tk119 : TyOk Tryd.prog 119 ti119 := ⟨Tryd.underlying119, by kernel_rfl, by kernel_rfl⟩
def ti120 : TI := ⟨TypeDesc.array 3 27, 3, 72, [Value.slice none 0 0, Value.slice none 0 0, Value.slice none 0 0]⟩
theorem tk120 : TyOk Tryd.prog 120 ti120 := ⟨Tryd.underlying120, by kernel_rfl, by kernel_rfl⟩
def ti122 : TI := ⟨TypeDesc.array 5 3, 5, 40, List.replicate 5 (Value.int IntKind.i64 (0))⟩
theorem tk122 : TyOk Tryd.prog 122 ti122 := ⟨Tryd.underlying122, by kernel_rfl, by kernel_rfl⟩
def ti123 : TI := ⟨TypeDesc.array 7 3, 7, 56, List.replicate 7 (Value.int IntKind.i64 (0))⟩
theorem tk123 : TyOk Tryd.prog 123 ti123 := ⟨Tryd.underlying123, by kernel_rfl, by kernel_rfl⟩
def ti132 : TI := ⟨TypeDesc.array 4 3, 4, 32, [Value.int IntKind.i64 (0), Value.int IntKind.i64 (0), Value.int IntKind.i64 (0), Value.int IntKind.i64 (0)]⟩
theorem tk132 : TyOk Tryd.prog 132 ti132 := ⟨Tryd.underlying132, by kernel_rfl, by kernel_rfl⟩
def ti136 : TI := ⟨TypeDesc.array 4 5, 4, 4, [Value.int IntKind.u8 (0), Value.int IntKind.u8 (0), Value.int IntKind.u8 (0), Value.int IntKind.u8 (0)]⟩
theorem tk136 : TyOk Tryd.prog 136 ti136 := ⟨Tryd.underlying136, by kernel_rfl, by kernel_rfl⟩
def ti137 : TI := ⟨TypeDesc.array 4 136, 16, 16, List.replicate 16 (Value.int IntKind.u8 (0))⟩
theorem tk137 : TyOk Tryd.prog 137 ti137 := ⟨Tryd.underlying137, by kernel_rfl, by kernel_rfl⟩
def ti139 : TI := ⟨TypeDesc.int IntKind.u64, 1, 8, [Value.int IntKind.u64 (0)]⟩
theorem tk139 : TyOk Tryd.prog 139 ti139 := ⟨Tryd.underlying139, by kernel_rfl, by kernel_rfl⟩
def ti144 : TI := ⟨TypeDesc.array 2 139, 2, 16, [Value.int IntKind.u64 (0), Value.int IntKind.u64 (0)]⟩
theorem tk144 : TyOk Tryd.prog 144 ti144 := ⟨Tryd.underlying144, by kernel_rfl, by kernel_rfl⟩
def ti145 : TI := ⟨TypeDesc.array 3 144, 6, 48, List.replicate 6 (Value.int IntKind.u64 (0))⟩
theorem tk145 : TyOk Tryd.prog 145 ti145 := ⟨Tryd.underlying145, by kernel_rfl, by kernel_rfl⟩
def ti147 : TI := ⟨TypeDesc.slice 74, 1, 24, [Value.slice none 0 0]⟩
theorem tk147 : TyOk Tryd.prog 147 ti147 := ⟨Tryd.underlying147, by kernel_rfl, by kernel_rfl⟩
def ti149 : TI := ⟨TypeDesc.array 8 9, 8, 128, List.replicate 8 (Value.string ⟨#[]⟩)⟩
theorem tk149 : TyOk Tryd.prog 149 ti149 := ⟨Tryd.underlying149, by kernel_rfl, by kernel_rfl⟩
def ti152 : TI := ⟨TypeDesc.array 4 9, 4, 64, [Value.string ⟨#[]⟩, Value.string ⟨#[]⟩, Value.string ⟨#[]⟩, Value.string ⟨#[]⟩]⟩
theorem tk152 : TyOk Tryd.prog 152 ti152 := ⟨Tryd.underlying152, by kernel_rfl, by kernel_rfl⟩
def ti155 : TI := ⟨TypeDesc.array 256 4, 256, 256, List.replicate 256 (Value.bool false)⟩
theorem tk155 : TyOk Tryd.prog 155 ti155 := ⟨Tryd.underlying155, by kernel_rfl, by kernel_rfl⟩
def tys : TT := (.n 79 ti79 (.n 39 ti39 (.n 25 ti25 (.n 5 ti5 (.n 4 ti4 (.n 3 ti3 .l .l) .l) (.n 24 ti24 (.n 9 ti9 .l .l) .l)) (.n 31 ti31 (.n 30 ti30 (.n 27 ti27 .l .l) .l) (.n 37 ti37 .l .l))) (.n 60 ti60 (.n 57 ti57 (.n 53 ti53 (.n 47 ti47 .l .l) .l) (.n 59 ti59 .l .l)) (.n 74 ti74 (.n 73 ti73 (.n 70 ti70 .l .l) .l) (.n 78 ti78 .l .l)))) (.n 132 ti132 (.n 103 ti103 (.n 90 ti90 (.n 89 ti89 (.n 80 ti80 .l .l) .l) (.n 94 ti94 .l .l)) (.n 122 ti122 (.n 120 ti120 (.n 119 ti119 .l .l) .l) (.n 123 ti123 .l .l))) (.n 145 ti145 (.n 139 ti139 (.n 137 ti137 (.n 136 ti136 .l .l) .l) (.n 144 ti144 .l .l)) (.n 152 ti152 (.n 149 ti149 (.n 147 ti147 .l .l) .l) (.n 155 ti155 .l .l)))))
theorem tysOk : tys.all (TyOk Tryd.prog) := ⟨tk79, ⟨tk39, ⟨tk25, ⟨tk5, ⟨tk4, ⟨tk3, trivial, trivial⟩, trivial⟩, ⟨tk24, ⟨tk9, trivial, trivial⟩, trivial⟩⟩, ⟨tk31, ⟨tk30, ⟨tk27, trivial, trivial⟩, trivial⟩, ⟨tk37, trivial, trivial⟩⟩⟩, ⟨tk60, ⟨tk57, ⟨tk53, ⟨tk47, trivial, trivial⟩, trivial⟩, ⟨tk59, trivial, trivial⟩⟩, ⟨tk74, ⟨tk73, ⟨tk70, trivial, trivial⟩, trivial⟩, ⟨tk78, trivial, trivial⟩⟩⟩⟩, ⟨tk132, ⟨tk103, ⟨tk90, ⟨tk89, ⟨tk80, trivial, trivial⟩, trivial⟩, ⟨tk94, trivial, trivial⟩⟩, ⟨tk122, ⟨tk120, ⟨tk119, trivial, trivial⟩, trivial⟩, ⟨tk123, trivial, trivial⟩⟩⟩, ⟨tk145, ⟨tk139, ⟨tk137, ⟨tk136, trivial, trivial⟩, trivial⟩, ⟨tk144, trivial, trivial⟩⟩, ⟨tk152, ⟨tk149, ⟨tk147, trivial, trivial⟩, trivial⟩, ⟨tk155, trivial, trivial⟩⟩⟩⟩⟩
def ones8 : List Value := [1, 2, 4, 8, 16, 32, 64, 128].map (.int .u8)
def glob : Nat → V := fun g => match Nat.beq g 0 with | true => .qv ones8 0 | false => .u
noncomputable def C : Ctx := ⟨Tryd.prog, tys.get, glob⟩
theorem cok : CtxOk C := ctxOk_of tysOk (by kernel_rfl)
abbrev N.law11_CipherTable : Nat := 3
def rt.law11_CipherTable : Rt := [(18, [⟨false, false, [], []⟩, ⟨true, false, [68, 69, 70, 71, 72, 73, 74, 75, 76, 77, 78, 79, 80, 2], [0]⟩, ⟨false, false, [], []⟩, ⟨false, false, [], []⟩, ⟨false, false, [], [2, 3]⟩, ⟨true, false, [66, 67, 72, 73, 74, 75, 76, 77, 78, 79, 80, 2], [2, 3, 4]⟩, ⟨false, false, [], [0, 1, 2, 3, 4, 5]⟩, ⟨false, false, [], [0, 1, 2, 3, 4, 5, 6]⟩, ⟨false, false, [], [0, 1, 2, 3, 4, 5, 6, 7]⟩, ⟨false, false, [], [0, 1, 2, 3, 4, 5, 6, 7]⟩, ⟨false, false, [], [0, 1, 2, 3, 4, 5, 6, 7]⟩, ⟨false, false, [], [0, 1, 2, 3, 4, 5, 6, 7, 9, 10]⟩, ⟨true, false, [74, 79, 80, 2], [0, 1, 2, 3, 4, 5, 6, 7, 9, 10, 11]⟩, ⟨false, false, [], [0, 1, 2, 3, 4, 5, 6, 7, 8, 9, 10, 11, 12]⟩, ⟨false, false, [], [0, 1, 2, 3, 4, 5, 6, 7, 8, 9, 10, 11, 12, 13]⟩, ⟨false, false, [], [0, 1, 2, 3, 4, 5, 6, 7, 8, 9, 10, 11, 12, 13, 14]⟩])]
theorem ok.law11_CipherTable : fnOk rt.law11_CipherTable Tryd.f3 = true := by kernel_rfl
theorem con.law11_CipherTable {args : List V} {bs bs' : List B} {r : Oc} (h : FnVC C rt.law11_CipherTable Tryd.f3 args bs r bs') (ha : Nat.ble args.length 81 = true := by rfl) : Con C N.law11_CipherTable args bs r bs' := con_of_fn cok Tryd.func3 (by kernel_rfl) ok.law11_CipherTable ha h
abbrev N.law11_known : Nat := 4
def rt.law11_known : Rt := [(6, [⟨false, false, [], []⟩, ⟨false, false, [], [0]⟩, ⟨false, false, [], [0, 1]⟩, ⟨false, false, [], [0, 1, 2]⟩, ⟨false, false, [], [0, 1, 2, 3]⟩, ⟨true, false, [45, 46, 47, 48, 49, 50, 51, 52, 53, 54, 55, 0], [0, 1, 2, 3, 4]⟩, ⟨false, false, [], [0, 1, 2, 3]⟩, ⟨true, false, [43, 44, 47, 48, 49, 50, 51, 52, 53, 54, 55, 0], [0, 1, 2, 3, 6]⟩, ⟨false, false, [], [0, 1, 2, 3, 4, 5, 6, 7]⟩, ⟨false, false, [], [0, 1, 2, 3, 4, 5, 6, 7, 8]⟩, ⟨false, false, [], [0, 1, 2, 3, 4, 5, 6, 7, 8, 9]⟩, ⟨false, false, [], [0, 1, 2, 3, 4, 5, 6, 7, 8, 9, 10]⟩, ⟨true, false, [52, 53, 54, 55, 0], [0, 1, 2, 3, 4, 5, 6, 7, 8, 9, 10, 11]⟩, ⟨false, false, [], [0, 1, 2, 3, 4, 5, 6, 7, 8, 9, 10]⟩, ⟨true, false, [50, 51, 54, 55, 0], [0, 1, 2, 3, 4, 5, 6, 7, 8, 9, 10, 13]⟩, ⟨false, false, [], [0, 1, 2, 3, 4, 5, 6, 7, 8, 9, 10, 11, 12, 13, 14]⟩, ⟨false, false, [], [0, 1, 2, 3, 4, 5, 6, 7, 8, 9, 10, 11, 12, 13, 14, 15]⟩, ⟨false, false, [], [0, 1, 2, 3, 4, 5, 6, 7, 8, 9, 10, 11, 12, 13, 14, 15, 16]⟩])]
theorem ok.law11_known : fnOk rt.law11_known Tryd.f4 = true := by kernel_rfl
theorem con.law11_known {args : List V} {bs bs' : List B} {r : Oc} (h : FnVC C rt.law11_known Tryd.f4 args bs r bs') (ha : Nat.ble args.length 56 = true := by rfl) : Con C N.law11_known args bs r bs' := con_of_fn cok Tryd.func4 (by kernel_rfl) ok.law11_known ha h
abbrev N.law11_within : Nat := 5
def rt.law11_within : Rt := []
theorem ok.law11_within : fnOk rt.law11_within Tryd.f5 = true := by kernel_rfl
theorem con.law11_within {args : List V} {bs bs' : List B} {r : Oc} (h : FnVC C rt.law11_within Tryd.f5 args bs r bs') (ha : Nat.ble args.length 15 = true := by rfl) : Con C N.law11_within args bs r bs' := con_of_fn cok Tryd.func5 (by kernel_rfl) ok.law11_within ha h
abbrev N.cipher_Lengths : Nat := 6
def rt.cipher_Lengths : Rt := []
theorem ok.cipher_Lengths : fnOk rt.cipher_Lengths Tryd.f6 = true := by kernel_rfl
theorem con.cipher_Lengths {args : List V} {bs bs' : List B} {r : Oc} (h : FnVC C rt.cipher_Lengths Tryd.f6 args bs r bs') (ha : Nat.ble args.length 22 = true := by rfl) : Con C N.cipher_Lengths args bs r bs' := con_of_fn cok Tryd.func6 (by kernel_rfl) ok.cipher_Lengths ha h
abbrev N.cipher_Size : Nat := 7
def rt.cipher_Size : Rt := []
theorem ok.cipher_Size : fnOk rt.cipher_Size Tryd.f7 = true := by kernel_rfl
theorem con.cipher_Size {args : List V} {bs bs' : List B} {r : Oc} (h : FnVC C rt.cipher_Size Tryd.f7 args bs r bs') (ha : Nat.ble args.length 14 = true := by rfl) : Con C N.cipher_Size args bs r bs' := con_of_fn cok Tryd.func7 (by kernel_rfl) ok.cipher_Size ha h
abbrev N.cipher_New : Nat := 8
def rt.cipher_New : Rt := []
theorem ok.cipher_New : fnOk rt.cipher_New Tryd.f8 = true := by kernel_rfl
theorem con.cipher_New {args : List V} {bs bs' : List B} {r : Oc} (h : FnVC C rt.cipher_New Tryd.f8 args bs r bs') (ha : Nat.ble args.length 95 = true := by rfl) : Con C N.cipher_New args bs r bs' := con_of_fn cok Tryd.func8 (by kernel_rfl) ok.cipher_New ha h
abbrev N.cipher_Cipher_Size : Nat := 9
def rt.cipher_Cipher_Size : Rt := []
theorem ok.cipher_Cipher_Size : fnOk rt.cipher_Cipher_Size Tryd.f9 = true := by kernel_rfl
theorem con.cipher_Cipher_Size {args : List V} {bs bs' : List B} {r : Oc} (h : FnVC C rt.cipher_Cipher_Size Tryd.f9 args bs r bs') (ha : Nat.ble args.length 8 = true := by rfl) : Con C N.cipher_Cipher_Size args bs r bs' := con_of_fn cok Tryd.func9 (by kernel_rfl) ok.cipher_Cipher_Size ha h
abbrev N.cipher_Cipher_Enc : Nat := 10
def rt.cipher_Cipher_Enc : Rt := []
theorem ok.cipher_Cipher_Enc : fnOk rt.cipher_Cipher_Enc Tryd.f10 = true := by kernel_rfl
theorem con.cipher_Cipher_Enc {args : List V} {bs bs' : List B} {r : Oc} (h : FnVC C rt.cipher_Cipher_Enc Tryd.f10 args bs r bs') (ha : Nat.ble args.length 14 = true := by rfl) : Con C N.cipher_Cipher_Enc args bs r bs' := con_of_fn cok Tryd.func10 (by kernel_rfl) ok.cipher_Cipher_Enc ha h
abbrev N.cipher_Cipher_Dec : Nat := 11
def rt.cipher_Cipher_Dec : Rt := []
theorem ok.cipher_Cipher_Dec : fnOk rt.cipher_Cipher_Dec Tryd.f11 = true := by kernel_rfl
theorem con.cipher_Cipher_Dec {args : List V} {bs bs' : List B} {r : Oc} (h : FnVC C rt.cipher_Cipher_Dec Tryd.f11 args bs r bs') (ha : Nat.ble args.length 14 = true := by rfl) : Con C N.cipher_Cipher_Dec args bs r bs' := con_of_fn cok Tryd.func11 (by kernel_rfl) ok.cipher_Cipher_Dec ha h
abbrev N.slices_Contains_int : Nat := 12
def rt.slices_Contains_int : Rt := []
theorem ok.slices_Contains_int : fnOk rt.slices_Contains_int Tryd.f12 = true := by kernel_rfl
theorem con.slices_Contains_int {args : List V} {bs bs' : List B} {r : Oc} (h : FnVC C rt.slices_Contains_int Tryd.f12 args bs r bs') (ha : Nat.ble args.length 9 = true := by rfl) : Con C N.slices_Contains_int args bs r bs' := con_of_fn cok Tryd.func12 (by kernel_rfl) ok.slices_Contains_int ha h
abbrev N.small_New : Nat := 21
def rt.small_New : Rt := []
theorem ok.small_New : fnOk rt.small_New Tryd.f21 = true := by kernel_rfl
theorem con.small_New {args : List V} {bs bs' : List B} {r : Oc} (h : FnVC C rt.small_New Tryd.f21 args bs r bs') (ha : Nat.ble args.length 30 = true := by rfl) : Con C N.small_New args bs r bs' := con_of_fn cok Tryd.func21 (by kernel_rfl) ok.small_New ha h
abbrev N.small_Small_Block : Nat := 22
def rt.small_Small_Block : Rt := [(5, [⟨false, false, [], []⟩, ⟨false, false, [], [0]⟩, ⟨true, false, [26, 27, 28, 10, 11], [0, 1]⟩, ⟨false, false, [], []⟩, ⟨false, false, [], [3]⟩, ⟨true, false, [23, 24, 25, 10, 11], [3, 4]⟩, ⟨false, false, [], [0, 1, 2]⟩, ⟨false, false, [], [0, 1, 2, 3, 4, 5, 6]⟩])]
theorem ok.small_Small_Block : fnOk rt.small_Small_Block Tryd.f22 = true := by kernel_rfl
theorem con.small_Small_Block {args : List V} {bs bs' : List B} {r : Oc} (h : FnVC C rt.small_Small_Block Tryd.f22 args bs r bs') (ha : Nat.ble args.length 67 = true := by rfl) : Con C N.small_Small_Block args bs r bs' := con_of_fn cok Tryd.func22 (by kernel_rfl) ok.small_Small_Block ha h
abbrev N.slices_Index_int : Nat := 23
def rt.slices_Index_int : Rt := []
theorem ok.slices_Index_int : fnOk rt.slices_Index_int Tryd.f23 = true := by kernel_rfl
theorem con.slices_Index_int {args : List V} {bs bs' : List B} {r : Oc} (h : FnVC C rt.slices_Index_int Tryd.f23 args bs r bs') (ha : Nat.ble args.length 19 = true := by rfl) : Con C N.slices_Index_int args bs r bs' := con_of_fn cok Tryd.func23 (by kernel_rfl) ok.slices_Index_int ha h
abbrev N.small_loaded : Nat := 45
def rt.small_loaded : Rt := []
theorem ok.small_loaded : fnOk rt.small_loaded Tryd.f45 = true := by kernel_rfl
theorem con.small_loaded {args : List V} {bs bs' : List B} {r : Oc} (h : FnVC C rt.small_loaded Tryd.f45 args bs r bs') (ha : Nat.ble args.length 31 = true := by rfl) : Con C N.small_loaded args bs r bs' := con_of_fn cok Tryd.func45 (by kernel_rfl) ok.small_loaded ha h
abbrev N.small_Small_xtea : Nat := 47
def rt.small_Small_xtea : Rt := []
theorem ok.small_Small_xtea : fnOk rt.small_Small_xtea Tryd.f47 = true := by kernel_rfl
theorem con.small_Small_xtea {args : List V} {bs bs' : List B} {r : Oc} (h : FnVC C rt.small_Small_xtea Tryd.f47 args bs r bs') (ha : Nat.ble args.length 82 = true := by rfl) : Con C N.small_Small_xtea args bs r bs' := con_of_fn cok Tryd.func47 (by kernel_rfl) ok.small_Small_xtea ha h
abbrev N.small_stored : Nat := 50
def rt.small_stored : Rt := []
theorem ok.small_stored : fnOk rt.small_stored Tryd.f50 = true := by kernel_rfl
theorem con.small_stored {args : List V} {bs bs' : List B} {r : Oc} (h : FnVC C rt.small_stored Tryd.f50 args bs r bs') (ha : Nat.ble args.length 20 = true := by rfl) : Con C N.small_stored args bs r bs' := con_of_fn cok Tryd.func50 (by kernel_rfl) ok.small_stored ha h
abbrev N.slices_Concat_byte : Nat := 57
def rt.slices_Concat_byte : Rt := []
theorem ok.slices_Concat_byte : fnOk rt.slices_Concat_byte Tryd.f57 = true := by kernel_rfl
theorem con.slices_Concat_byte {args : List V} {bs bs' : List B} {r : Oc} (h : FnVC C rt.slices_Concat_byte Tryd.f57 args bs r bs') (ha : Nat.ble args.length 36 = true := by rfl) : Con C N.slices_Concat_byte args bs r bs' := con_of_fn cok Tryd.func57 (by kernel_rfl) ok.slices_Concat_byte ha h
abbrev N.words_Be32 : Nat := 67
def rt.words_Be32 : Rt := []
theorem ok.words_Be32 : fnOk rt.words_Be32 Tryd.f67 = true := by kernel_rfl
theorem con.words_Be32 {args : List V} {bs bs' : List B} {r : Oc} (h : FnVC C rt.words_Be32 Tryd.f67 args bs r bs') (ha : Nat.ble args.length 10 = true := by rfl) : Con C N.words_Be32 args bs r bs' := con_of_fn cok Tryd.func67 (by kernel_rfl) ok.words_Be32 ha h
abbrev N.words_PutBe32 : Nat := 70
def rt.words_PutBe32 : Rt := []
theorem ok.words_PutBe32 : fnOk rt.words_PutBe32 Tryd.f70 = true := by kernel_rfl
theorem con.words_PutBe32 {args : List V} {bs bs' : List B} {r : Oc} (h : FnVC C rt.words_PutBe32 Tryd.f70 args bs r bs') (ha : Nat.ble args.length 6 = true := by rfl) : Con C N.words_PutBe32 args bs r bs' := con_of_fn cok Tryd.func70 (by kernel_rfl) ok.words_PutBe32 ha h
abbrev N.small_stir : Nat := 75
def rt.small_stir : Rt := []
theorem ok.small_stir : fnOk rt.small_stir Tryd.f75 = true := by kernel_rfl
theorem con.small_stir {args : List V} {bs bs' : List B} {r : Oc} (h : FnVC C rt.small_stir Tryd.f75 args bs r bs') (ha : Nat.ble args.length 14 = true := by rfl) : Con C N.small_stir args bs r bs' := con_of_fn cok Tryd.func75 (by kernel_rfl) ok.small_stir ha h
abbrev N.slices_Grow_byte : Nat := 84
def rt.slices_Grow_byte : Rt := []
theorem ok.slices_Grow_byte : fnOk rt.slices_Grow_byte Tryd.f84 = true := by kernel_rfl
theorem con.slices_Grow_byte {args : List V} {bs bs' : List B} {r : Oc} (h : FnVC C rt.slices_Grow_byte Tryd.f84 args bs r bs') (ha : Nat.ble args.length 27 = true := by rfl) : Con C N.slices_Grow_byte args bs r bs' := con_of_fn cok Tryd.func84 (by kernel_rfl) ok.slices_Grow_byte ha h
abbrev N.words_load : Nat := 89
def rt.words_load : Rt := []
theorem ok.words_load : fnOk rt.words_load Tryd.f89 = true := by kernel_rfl
theorem con.words_load {args : List V} {bs bs' : List B} {r : Oc} (h : FnVC C rt.words_load Tryd.f89 args bs r bs') (ha : Nat.ble args.length 20 = true := by rfl) : Con C N.words_load args bs r bs' := con_of_fn cok Tryd.func89 (by kernel_rfl) ok.words_load ha h
abbrev N.words_store : Nat := 90
def rt.words_store : Rt := []
theorem ok.words_store : fnOk rt.words_store Tryd.f90 = true := by kernel_rfl
theorem con.words_store {args : List V} {bs bs' : List B} {r : Oc} (h : FnVC C rt.words_store Tryd.f90 args bs r bs') (ha : Nat.ble args.length 22 = true := by rfl) : Con C N.words_store args bs r bs' := con_of_fn cok Tryd.func90 (by kernel_rfl) ok.words_store ha h
end Go.Scr
