/-
  NAMES, BY PROGRAM: the numbers of the functions and types that this claim reaches, the table of the types, of the regions that draw. It is no claim by itself; it has no conditions.
-/
import Derived.Test.YtnmohpcigbdbcaaGreatDoorProg
import Derived.Test.YtnmohpcigbdbcaaGreatDoorXb
set_option linter.unusedVariables false
set_option maxRecDepth 100000
namespace Go.Scr
open Go.Proofs

def ti3 : TI := ⟨TypeDesc.int IntKind.i64, 1, 8, [Value.int IntKind.i64 (0)]⟩
theorem tk3 : TyOk Tryz.prog 3 ti3 := ⟨Tryz.underlying3, by kernel_rfl, by kernel_rfl⟩
def ti4 : TI := ⟨TypeDesc.bool, 1, 1, [Value.bool false]⟩
theorem tk4 : TyOk Tryz.prog 4 ti4 := ⟨Tryz.underlying4, by kernel_rfl, by kernel_rfl⟩
def ti5 : TI := ⟨TypeDesc.int IntKind.u8, 1, 1, [Value.int IntKind.u8 (0)]⟩
theorem tk5 : TyOk Tryz.prog 5 ti5 := ⟨Tryz.underlying5, by kernel_rfl, by kernel_rfl⟩
def ti9 : TI := ⟨TypeDesc.string, 1, 16, [Value.string ⟨#[]⟩]⟩
theorem tk9 : TyOk Tryz.prog 9 ti9 := ⟨Tryz.underlying9, by kernel_rfl, by kernel_rfl⟩
def ti22 : TI := ⟨TypeDesc.slice 5, 1, 24, [Value.slice none 0 0]⟩
theorem tk22 : TyOk Tryz.prog 22 ti22 := ⟨Tryz.underlying22, by kernel_rfl, by kernel_rfl⟩
def ti25 : TI := ⟨TypeDesc.pointer 64, 1, 8, [Value.pointer none]⟩
theorem tk25 : TyOk Tryz.prog 25 ti25 := ⟨Tryz.underlying25, by kernel_rfl, by kernel_rfl⟩
def ti26 : TI := ⟨TypeDesc.int IntKind.i64, 1, 8, [Value.int IntKind.i64 (0)]⟩
theorem tk26 : TyOk Tryz.prog 26 ti26 := ⟨Tryz.underlying26, by kernel_rfl, by kernel_rfl⟩
def ti30 : TI := ⟨TypeDesc.pointer 72, 1, 8, [Value.pointer none]⟩
theorem tk30 : TyOk Tryz.prog 30 ti30 := ⟨Tryz.underlying30, by kernel_rfl, by kernel_rfl⟩
def ti40 : TI := ⟨TypeDesc.slice 3, 1, 24, [Value.slice none 0 0]⟩
theorem tk40 : TyOk Tryz.prog 40 ti40 := ⟨Tryz.underlying40, by kernel_rfl, by kernel_rfl⟩
def ti45 : TI := ⟨TypeDesc.pointer 86, 1, 8, [Value.pointer none]⟩
theorem tk45 : TyOk Tryz.prog 45 ti45 := ⟨Tryz.underlying45, by kernel_rfl, by kernel_rfl⟩
def ti48 : TI := ⟨TypeDesc.func #[22, 4] #[22, 26] false, 1, 8, [Value.nilFunc]⟩
theorem tk48 : TyOk Tryz.prog 48 ti48 := ⟨Tryz.underlying48, by kernel_rfl, by kernel_rfl⟩
def ti49 : TI := ⟨TypeDesc.pointer 97, 1, 8, [Value.pointer none]⟩
theorem tk49 : TyOk Tryz.prog 49 ti49 := ⟨Tryz.underlying49, by kernel_rfl, by kernel_rfl⟩
def ti52 : TI := ⟨TypeDesc.pointer 105, 1, 8, [Value.pointer none]⟩
theorem tk52 : TyOk Tryz.prog 52 ti52 := ⟨Tryz.underlying52, by kernel_rfl, by kernel_rfl⟩
def ti55 : TI := ⟨TypeDesc.pointer 121, 1, 8, [Value.pointer none]⟩
theorem tk55 : TyOk Tryz.prog 55 ti55 := ⟨Tryz.underlying55, by kernel_rfl, by kernel_rfl⟩
def ti58 : TI := ⟨TypeDesc.pointer 129, 1, 8, [Value.pointer none]⟩
theorem tk58 : TyOk Tryz.prog 58 ti58 := ⟨Tryz.underlying58, by kernel_rfl, by kernel_rfl⟩
def ti64 : TI := ⟨TypeDesc.struct #[{ name := "tag", type := 3, offset := 0, embedded := false, tag := "", pkgPath := "scrim/cipher", byteOffset := 0 }, { name := "turn", type := 48, offset := 1, embedded := false, tag := "", pkgPath := "scrim/cipher", byteOffset := 8 }], 2, 16, [Value.int IntKind.i64 (0), Value.nilFunc]⟩
theorem tk64 : TyOk Tryz.prog 64 ti64 := ⟨Tryz.underlying64, by kernel_rfl, by kernel_rfl⟩
def ti66 : TI := ⟨TypeDesc.pointer 134, 1, 8, [Value.pointer none]⟩
theorem tk66 : TyOk Tryz.prog 66 ti66 := ⟨Tryz.underlying66, by kernel_rfl, by kernel_rfl⟩
def ti67 : TI := ⟨TypeDesc.pointer 140, 1, 8, [Value.pointer none]⟩
theorem tk67 : TyOk Tryz.prog 67 ti67 := ⟨Tryz.underlying67, by kernel_rfl, by kernel_rfl⟩
def ti68 : TI := ⟨TypeDesc.pointer 151, 1, 8, [Value.pointer none]⟩
theorem tk68 : TyOk Tryz.prog 68 ti68 := ⟨Tryz.underlying68, by kernel_rfl, by kernel_rfl⟩
def ti69 : TI := ⟨TypeDesc.pointer 144, 1, 8, [Value.pointer none]⟩
theorem tk69 : TyOk Tryz.prog 69 ti69 := ⟨Tryz.underlying69, by kernel_rfl, by kernel_rfl⟩
def ti70 : TI := ⟨TypeDesc.pointer 148, 1, 8, [Value.pointer none]⟩
theorem tk70 : TyOk Tryz.prog 70 ti70 := ⟨Tryz.underlying70, by kernel_rfl, by kernel_rfl⟩
def ti72 : TI := ⟨TypeDesc.struct #[{ name := "Tag", type := 3, offset := 0, embedded := false, tag := "", pkgPath := "", byteOffset := 0 }, { name := "D", type := 66, offset := 1, embedded := false, tag := "", pkgPath := "", byteOffset := 8 }, { name := "I", type := 67, offset := 2, embedded := false, tag := "", pkgPath := "", byteOffset := 16 }, { name := "S", type := 68, offset := 3, embedded := false, tag := "", pkgPath := "", byteOffset := 24 }, { name := "T", type := 69, offset := 4, embedded := false, tag := "", pkgPath := "", byteOffset := 32 }, { name := "A", type := 70, offset := 5, embedded := false, tag := "", pkgPath := "", byteOffset := 40 }], 6, 48, [Value.int IntKind.i64 (0), Value.pointer none, Value.pointer none, Value.pointer none, Value.pointer none, Value.pointer none]⟩
theorem tk72 : TyOk Tryz.prog 72 ti72 := ⟨Tryz.underlying72, by kernel_rfl, by kernel_rfl⟩
def ti84 : TI := ⟨TypeDesc.slice 87, 1, 24, [Value.slice none 0 0]⟩
theorem tk84 : TyOk Tryz.prog 84 ti84 := ⟨Tryz.underlying84, by kernel_rfl, by kernel_rfl⟩
def ti86 : TI := ⟨TypeDesc.struct #[{ name := "keys", type := 84, offset := 0, embedded := false, tag := "", pkgPath := "scrim/des", byteOffset := 0 }], 1, 24, [Value.slice none 0 0]⟩
theorem tk86 : TyOk Tryz.prog 86 ti86 := ⟨Tryz.underlying86, by kernel_rfl, by kernel_rfl⟩
def ti87 : TI := ⟨TypeDesc.slice 22, 1, 24, [Value.slice none 0 0]⟩
theorem tk87 : TyOk Tryz.prog 87 ti87 := ⟨Tryz.underlying87, by kernel_rfl, by kernel_rfl⟩
def ti97 : TI := ⟨TypeDesc.struct #[{ name := "there", type := 40, offset := 0, embedded := false, tag := "", pkgPath := "scrim/idea", byteOffset := 0 }, { name := "back", type := 40, offset := 1, embedded := false, tag := "", pkgPath := "scrim/idea", byteOffset := 24 }], 2, 48, [Value.slice none 0 0, Value.slice none 0 0]⟩
theorem tk97 : TyOk Tryz.prog 97 ti97 := ⟨Tryz.underlying97, by kernel_rfl, by kernel_rfl⟩
def ti100 : TI := ⟨TypeDesc.int IntKind.u64, 1, 8, [Value.int IntKind.u64 (0)]⟩
theorem tk100 : TyOk Tryz.prog 100 ti100 := ⟨Tryz.underlying100, by kernel_rfl, by kernel_rfl⟩
def ti101 : TI := ⟨TypeDesc.slice 106, 1, 24, [Value.slice none 0 0]⟩
theorem tk101 : TyOk Tryz.prog 101 ti101 := ⟨Tryz.underlying101, by kernel_rfl, by kernel_rfl⟩
def ti105 : TI := ⟨TypeDesc.struct #[{ name := "k", type := 101, offset := 0, embedded := false, tag := "", pkgPath := "scrim/twofish", byteOffset := 0 }, { name := "s", type := 101, offset := 1, embedded := false, tag := "", pkgPath := "scrim/twofish", byteOffset := 24 }], 2, 48, [Value.slice none 0 0, Value.slice none 0 0]⟩
theorem tk105 : TyOk Tryz.prog 105 ti105 := ⟨Tryz.underlying105, by kernel_rfl, by kernel_rfl⟩
def ti106 : TI := ⟨TypeDesc.int IntKind.u32, 1, 4, [Value.int IntKind.u32 (0)]⟩
theorem tk106 : TyOk Tryz.prog 106 ti106 := ⟨Tryz.underlying106, by kernel_rfl, by kernel_rfl⟩
def ti107 : TI := ⟨TypeDesc.array 4 106, 4, 16, [Value.int IntKind.u32 (0), Value.int IntKind.u32 (0), Value.int IntKind.u32 (0), Value.int IntKind.u32 (0)]⟩
theorem tk107 : TyOk Tryz.prog 107 ti107 := ⟨Tryz.underlying107, by kernel_rfl, by kernel_rfl⟩
def ti116 : TI := ⟨TypeDesc.array 4 22, 4, 96, [Value.slice none 0 0, Value.slice none 0 0, Value.slice none 0 0, Value.slice none 0 0]⟩
theorem tk116 : TyOk Tryz.prog 116 ti116 := ⟨Tryz.underlying116, by kernel_rfl, by kernel_rfl⟩
def ti117 : TI := ⟨TypeDesc.array 4 22, 4, 96, [Value.slice none 0 0, Value.slice none 0 0, Value.slice none 0 0, Value.slice none 0 0]⟩
theorem tk117 : TyOk Tryz.prog 117 ti117 := ⟨Tryz.underlying117, by kernel_rfl, by kernel_rfl⟩
def ti121 : TI := ⟨TypeDesc.struct #[{ name := "t", type := 117, offset := 0, embedded := false, tag := "", pkgPath := "scrim/aria", byteOffset := 0 }, { name := "keys", type := 87, offset := 4, embedded := false, tag := "", pkgPath := "scrim/aria", byteOffset := 96 }], 5, 120, List.replicate 5 (Value.slice none 0 0)⟩
theorem tk121 : TyOk Tryz.prog 121 ti121 := ⟨Tryz.underlying121, by kernel_rfl, by kernel_rfl⟩
def ti129 : TI := ⟨TypeDesc.struct #[{ name := "keys", type := 101, offset := 0, embedded := false, tag := "", pkgPath := "scrim/small", byteOffset := 0 }, { name := "tag", type := 3, offset := 1, embedded := false, tag := "", pkgPath := "scrim/small", byteOffset := 24 }], 2, 32, [Value.slice none 0 0, Value.int IntKind.i64 (0)]⟩
theorem tk129 : TyOk Tryz.prog 129 ti129 := ⟨Tryz.underlying129, by kernel_rfl, by kernel_rfl⟩
def ti134 : TI := ⟨TypeDesc.struct #[{ name := "K", type := 84, offset := 0, embedded := false, tag := "", pkgPath := "", byteOffset := 0 }], 1, 24, [Value.slice none 0 0]⟩
theorem tk134 : TyOk Tryz.prog 134 ti134 := ⟨Tryz.underlying134, by kernel_rfl, by kernel_rfl⟩
def ti140 : TI := ⟨TypeDesc.struct #[{ name := "K", type := 40, offset := 0, embedded := false, tag := "", pkgPath := "", byteOffset := 0 }], 1, 24, [Value.slice none 0 0]⟩
theorem tk140 : TyOk Tryz.prog 140 ti140 := ⟨Tryz.underlying140, by kernel_rfl, by kernel_rfl⟩
def ti144 : TI := ⟨TypeDesc.struct #[{ name := "K", type := 101, offset := 0, embedded := false, tag := "", pkgPath := "", byteOffset := 0 }, { name := "S", type := 101, offset := 1, embedded := false, tag := "", pkgPath := "", byteOffset := 24 }], 2, 48, [Value.slice none 0 0, Value.slice none 0 0]⟩
theorem tk144 : TyOk Tryz.prog 144 ti144 := ⟨Tryz.underlying144, by kernel_rfl, by kernel_rfl⟩
def ti145 : TI := ⟨TypeDesc.pointer 177, 1, 8, [Value.pointer none]⟩
theorem tk145 : TyOk Tryz.prog 145 ti145 := ⟨Tryz.underlying145, by kernel_rfl, by kernel_rfl⟩
def ti148 : TI := ⟨TypeDesc.struct #[{ name := "S", type := 145, offset := 0, embedded := false, tag := "", pkgPath := "", byteOffset := 0 }, { name := "K", type := 87, offset := 1, embedded := false, tag := "", pkgPath := "", byteOffset := 8 }], 2, 32, [Value.pointer none, Value.slice none 0 0]⟩
theorem tk148 : TyOk Tryz.prog 148 ti148 := ⟨Tryz.underlying148, by kernel_rfl, by kernel_rfl⟩
def ti151 : TI := ⟨TypeDesc.struct #[{ name := "Tag", type := 3, offset := 0, embedded := false, tag := "", pkgPath := "", byteOffset := 0 }, { name := "K", type := 101, offset := 1, embedded := false, tag := "", pkgPath := "", byteOffset := 8 }], 2, 32, [Value.int IntKind.i64 (0), Value.slice none 0 0]⟩
theorem tk151 : TyOk Tryz.prog 151 ti151 := ⟨Tryz.underlying151, by kernel_rfl, by kernel_rfl⟩
def ti165 : TI := ⟨TypeDesc.array 8 5, 8, 8, List.replicate 8 (Value.int IntKind.u8 (0))⟩
theorem tk165 : TyOk Tryz.prog 165 ti165 := ⟨Tryz.underlying165, by kernel_rfl, by kernel_rfl⟩
def ti166 : TI := ⟨TypeDesc.array 3 22, 3, 72, [Value.slice none 0 0, Value.slice none 0 0, Value.slice none 0 0]⟩
theorem tk166 : TyOk Tryz.prog 166 ti166 := ⟨Tryz.underlying166, by kernel_rfl, by kernel_rfl⟩
def ti168 : TI := ⟨TypeDesc.array 5 3, 5, 40, List.replicate 5 (Value.int IntKind.i64 (0))⟩
theorem tk168 : TyOk Tryz.prog 168 ti168 := ⟨Tryz.underlying168, by kernel_rfl, by kernel_rfl⟩
def ti169 : TI := ⟨TypeDesc.array 7 3, 7, 56, List.replicate 7 (Value.int IntKind.i64 (0))⟩
theorem tk169 : TyOk Tryz.prog 169 ti169 := ⟨Tryz.underlying169, by kernel_rfl, by kernel_rfl⟩
def ti174 : TI := ⟨TypeDesc.int IntKind.u64, 1, 8, [Value.int IntKind.u64 (0)]⟩
theorem tk174 : TyOk Tryz.prog 174 ti174 := ⟨Tryz.underlying174, by kernel_rfl, by kernel_rfl⟩
def ti177 : TI := ⟨TypeDesc.struct #[{ name := "L", type := 116, offset := 0, embedded := false, tag := "", pkgPath := "", byteOffset := 0 }], 4, 96, [Value.slice none 0 0, Value.slice none 0 0, Value.slice none 0 0, Value.slice none 0 0]⟩
theorem tk177 : TyOk Tryz.prog 177 ti177 := ⟨Tryz.underlying177, by kernel_rfl, by kernel_rfl⟩
def ti181 : TI := ⟨TypeDesc.array 4 3, 4, 32, [Value.int IntKind.i64 (0), Value.int IntKind.i64 (0), Value.int IntKind.i64 (0), Value.int IntKind.i64 (0)]⟩
theorem tk181 : TyOk Tryz.prog 181 ti181 := ⟨Tryz.underlying181, by kernel_rfl, by kernel_rfl⟩
def ti191 : TI := ⟨TypeDesc.array 4 5, 4, 4, [Value.int IntKind.u8 (0), Value.int IntKind.u8 (0), Value.int IntKind.u8 (0), Value.int IntKind.u8 (0)]⟩
theorem tk191 : TyOk Tryz.prog 191 ti191 := ⟨Tryz.underlying191, by kernel_rfl, by kernel_rfl⟩
def ti192 : TI := ⟨TypeDesc.array 4 5, 4, 4, [Value.int IntKind.u8 (0), Value.int IntKind.u8 (0), Value.int IntKind.u8 (0), Value.int IntKind.u8 (0)]⟩
theorem tk192 : TyOk Tryz.prog 192 ti192 := ⟨Tryz.underlying192, by kernel_rfl, by kernel_rfl⟩
def ti193 : TI := ⟨TypeDesc.array 4 192, 16, 16, List.replicate 16 (Value.int IntKind.u8 (0))⟩
theorem tk193 : TyOk Tryz.prog 193 ti193 := ⟨Tryz.underlying193, by kernel_rfl, by kernel_rfl⟩
def ti198 : TI := ⟨TypeDesc.array 2 174, 2, 16, [Value.int IntKind.u64 (0), Value.int IntKind.u64 (0)]⟩
theorem tk198 : TyOk Tryz.prog 198 ti198 := ⟨Tryz.underlying198, by kernel_rfl, by kernel_rfl⟩
def ti199 : TI := ⟨TypeDesc.array 3 198, 6, 48, List.replicate 6 (Value.int IntKind.u64 (0))⟩
theorem tk199 : TyOk Tryz.prog 199 ti199 := ⟨Tryz.underlying199, by kernel_rfl, by kernel_rfl⟩
def ti201 : TI := ⟨TypeDesc.slice 101, 1, 24, [Value.slice none 0 0]⟩
theorem tk201 : TyOk Tryz.prog 201 ti201 := ⟨Tryz.underlying201, by kernel_rfl, by kernel_rfl⟩
def ti203 : TI := ⟨TypeDesc.array 8 9, 8, 128, List.replicate 8 (Value.string ⟨#[]⟩)⟩
theorem tk203 : TyOk Tryz.prog 203 ti203 := ⟨Tryz.underlying203, by kernel_rfl, by kernel_rfl⟩
def ti206 : TI := ⟨TypeDesc.array 4 165, 32, 32, List.replicate 32 (Value.int IntKind.u8 (0))⟩
theorem tk206 : TyOk Tryz.prog 206 ti206 := ⟨Tryz.underlying206, by kernel_rfl, by kernel_rfl⟩
def ti209 : TI := ⟨TypeDesc.array 4 191, 16, 16, List.replicate 16 (Value.int IntKind.u8 (0))⟩
theorem tk209 : TyOk Tryz.prog 209 ti209 := ⟨Tryz.underlying209, by kernel_rfl, by kernel_rfl⟩
def ti210 : TI := ⟨TypeDesc.slice 174, 1, 24, [Value.slice none 0 0]⟩
theorem tk210 : TyOk Tryz.prog 210 ti210 := ⟨Tryz.underlying210, by kernel_rfl, by kernel_rfl⟩
def ti214 : TI := ⟨TypeDesc.array 4 9, 4, 64, [Value.string ⟨#[]⟩, Value.string ⟨#[]⟩, Value.string ⟨#[]⟩, Value.string ⟨#[]⟩]⟩
theorem tk214 : TyOk Tryz.prog 214 ti214 := ⟨Tryz.underlying214, by kernel_rfl, by kernel_rfl⟩
def ti217 : TI := ⟨TypeDesc.array 256 4, 256, 256, List.replicate 256 (Value.bool false)⟩
theorem tk217 : TyOk Tryz.prog 217 ti217 := ⟨Tryz.underlying217, by kernel_rfl, by kernel_rfl⟩
def ti219 : TI := ⟨TypeDesc.slice 4, 1, 24, [Value.slice none 0 0]⟩
theorem tk219 : TyOk Tryz.prog 219 ti219 := ⟨Tryz.underlying219, by kernel_rfl, by kernel_rfl⟩
def ti221 : TI := ⟨TypeDesc.slice 9, 1, 24, [Value.slice none 0 0]⟩
theorem tk221 : TyOk Tryz.prog 221 ti221 := ⟨Tryz.underlying221, by kernel_rfl, by kernel_rfl⟩
def tys : TT := (.n 116 ti116 (.n 64 ti64 (.n 30 ti30 (.n 9 ti9 (.n 4 ti4 (.n 3 ti3 .l .l) (.n 5 ti5 .l .l)) (.n 25 ti25 (.n 22 ti22 .l .l) (.n 26 ti26 .l .l))) (.n 49 ti49 (.n 45 ti45 (.n 40 ti40 .l .l) (.n 48 ti48 .l .l)) (.n 55 ti55 (.n 52 ti52 .l .l) (.n 58 ti58 .l .l)))) (.n 86 ti86 (.n 69 ti69 (.n 67 ti67 (.n 66 ti66 .l .l) (.n 68 ti68 .l .l)) (.n 72 ti72 (.n 70 ti70 .l .l) (.n 84 ti84 .l .l))) (.n 101 ti101 (.n 97 ti97 (.n 87 ti87 .l .l) (.n 100 ti100 .l .l)) (.n 106 ti106 (.n 105 ti105 .l .l) (.n 107 ti107 .l .l))))) (.n 181 ti181 (.n 148 ti148 (.n 134 ti134 (.n 121 ti121 (.n 117 ti117 .l .l) (.n 129 ti129 .l .l)) (.n 144 ti144 (.n 140 ti140 .l .l) (.n 145 ti145 .l .l))) (.n 168 ti168 (.n 165 ti165 (.n 151 ti151 .l .l) (.n 166 ti166 .l .l)) (.n 174 ti174 (.n 169 ti169 .l .l) (.n 177 ti177 .l .l)))) (.n 206 ti206 (.n 198 ti198 (.n 192 ti192 (.n 191 ti191 .l .l) (.n 193 ti193 .l .l)) (.n 201 ti201 (.n 199 ti199 .l .l) (.n 203 ti203 .l .l))) (.n 217 ti217 (.n 210 ti210 (.n 209 ti209 .l .l) (.n 214 ti214 .l .l)) (.n 221 ti221 (.n 219 ti219 .l .l) .l)))))
theorem tysOk : tys.all (TyOk Tryz.prog) := ⟨tk116, ⟨tk64, ⟨tk30, ⟨tk9, ⟨tk4, ⟨tk3, trivial, trivial⟩, ⟨tk5, trivial, trivial⟩⟩, ⟨tk25, ⟨tk22, trivial, trivial⟩, ⟨tk26, trivial, trivial⟩⟩⟩, ⟨tk49, ⟨tk45, ⟨tk40, trivial, trivial⟩, ⟨tk48, trivial, trivial⟩⟩, ⟨tk55, ⟨tk52, trivial, trivial⟩, ⟨tk58, trivial, trivial⟩⟩⟩⟩, ⟨tk86, ⟨tk69, ⟨tk67, ⟨tk66, trivial, trivial⟩, ⟨tk68, trivial, trivial⟩⟩, ⟨tk72, ⟨tk70, trivial, trivial⟩, ⟨tk84, trivial, trivial⟩⟩⟩, ⟨tk101, ⟨tk97, ⟨tk87, trivial, trivial⟩, ⟨tk100, trivial, trivial⟩⟩, ⟨tk106, ⟨tk105, trivial, trivial⟩, ⟨tk107, trivial, trivial⟩⟩⟩⟩⟩, ⟨tk181, ⟨tk148, ⟨tk134, ⟨tk121, ⟨tk117, trivial, trivial⟩, ⟨tk129, trivial, trivial⟩⟩, ⟨tk144, ⟨tk140, trivial, trivial⟩, ⟨tk145, trivial, trivial⟩⟩⟩, ⟨tk168, ⟨tk165, ⟨tk151, trivial, trivial⟩, ⟨tk166, trivial, trivial⟩⟩, ⟨tk174, ⟨tk169, trivial, trivial⟩, ⟨tk177, trivial, trivial⟩⟩⟩⟩, ⟨tk206, ⟨tk198, ⟨tk192, ⟨tk191, trivial, trivial⟩, ⟨tk193, trivial, trivial⟩⟩, ⟨tk201, ⟨tk199, trivial, trivial⟩, ⟨tk203, trivial, trivial⟩⟩⟩, ⟨tk217, ⟨tk210, ⟨tk209, trivial, trivial⟩, ⟨tk214, trivial, trivial⟩⟩, ⟨tk221, ⟨tk219, trivial, trivial⟩, trivial⟩⟩⟩⟩⟩
def ones8 : List Value := [1, 2, 4, 8, 16, 32, 64, 128].map (.int .u8)
def glob : Nat → V := fun g => match Nat.beq g 0 with | true => .qv ones8 0 | false => .u
noncomputable def C : Ctx := ⟨Tryz.prog, tys.get, glob⟩
theorem cok : CtxOk C := ctxOk_of tysOk (by kernel_rfl)
abbrev N.law11_CipherApart : Nat := 9
def rt.law11_CipherApart : Rt := []
theorem ok.law11_CipherApart : fnOk rt.law11_CipherApart Tryz.f9 = true := by kernel_rfl
theorem con.law11_CipherApart {args : List V} {bs bs' : List B} {r : Oc} (h : FnVC C rt.law11_CipherApart Tryz.f9 args bs r bs') (ha : Nat.ble args.length 132 = true := by rfl) : Con C N.law11_CipherApart args bs r bs' := con_of_fn cok Tryz.func9 (by kernel_rfl) ok.law11_CipherApart ha h
abbrev N.law11_known : Nat := 10
def rt.law11_known : Rt := [(6, [⟨false, false, [], []⟩, ⟨false, false, [], [0]⟩, ⟨false, false, [], [0, 1]⟩, ⟨false, false, [], [0, 1, 2]⟩, ⟨false, false, [], [0, 1, 2, 3]⟩, ⟨true, false, [45, 46, 47, 48, 49, 50, 51, 52, 53, 54, 55, 0], [0, 1, 2, 3, 4]⟩, ⟨false, false, [], [0, 1, 2, 3]⟩, ⟨true, false, [43, 44, 47, 48, 49, 50, 51, 52, 53, 54, 55, 0], [0, 1, 2, 3, 6]⟩, ⟨false, false, [], [0, 1, 2, 3, 4, 5, 6, 7]⟩, ⟨false, false, [], [0, 1, 2, 3, 4, 5, 6, 7, 8]⟩, ⟨false, false, [], [0, 1, 2, 3, 4, 5, 6, 7, 8, 9]⟩, ⟨false, false, [], [0, 1, 2, 3, 4, 5, 6, 7, 8, 9, 10]⟩, ⟨true, false, [52, 53, 54, 55, 0], [0, 1, 2, 3, 4, 5, 6, 7, 8, 9, 10, 11]⟩, ⟨false, false, [], [0, 1, 2, 3, 4, 5, 6, 7, 8, 9, 10]⟩, ⟨true, false, [50, 51, 54, 55, 0], [0, 1, 2, 3, 4, 5, 6, 7, 8, 9, 10, 13]⟩, ⟨false, false, [], [0, 1, 2, 3, 4, 5, 6, 7, 8, 9, 10, 11, 12, 13, 14]⟩, ⟨false, false, [], [0, 1, 2, 3, 4, 5, 6, 7, 8, 9, 10, 11, 12, 13, 14, 15]⟩, ⟨false, false, [], [0, 1, 2, 3, 4, 5, 6, 7, 8, 9, 10, 11, 12, 13, 14, 15, 16]⟩])]
theorem ok.law11_known : fnOk rt.law11_known Tryz.f10 = true := by kernel_rfl
theorem con.law11_known {args : List V} {bs bs' : List B} {r : Oc} (h : FnVC C rt.law11_known Tryz.f10 args bs r bs') (ha : Nat.ble args.length 56 = true := by rfl) : Con C N.law11_known args bs r bs' := con_of_fn cok Tryz.func10 (by kernel_rfl) ok.law11_known ha h
abbrev N.law11_Tag : Nat := 11
def rt.law11_Tag : Rt := []
theorem ok.law11_Tag : fnOk rt.law11_Tag Tryz.f11 = true := by kernel_rfl
theorem con.law11_Tag {args : List V} {bs bs' : List B} {r : Oc} (h : FnVC C rt.law11_Tag Tryz.f11 args bs r bs') (ha : Nat.ble args.length 6 = true := by rfl) : Con C N.law11_Tag args bs r bs' := con_of_fn cok Tryz.func11 (by kernel_rfl) ok.law11_Tag ha h
abbrev N.cipher_New : Nat := 12
def rt.cipher_New : Rt := []
theorem ok.cipher_New : fnOk rt.cipher_New Tryz.f12 = true := by kernel_rfl
theorem con.cipher_New {args : List V} {bs bs' : List B} {r : Oc} (h : FnVC C rt.cipher_New Tryz.f12 args bs r bs') (ha : Nat.ble args.length 95 = true := by rfl) : Con C N.cipher_New args bs r bs' := con_of_fn cok Tryz.func12 (by kernel_rfl) ok.cipher_New ha h
abbrev N.law11_Key : Nat := 13
def rt.law11_Key : Rt := []
theorem ok.law11_Key : fnOk rt.law11_Key Tryz.f13 = true := by kernel_rfl
theorem con.law11_Key {args : List V} {bs bs' : List B} {r : Oc} (h : FnVC C rt.law11_Key Tryz.f13 args bs r bs') (ha : Nat.ble args.length 19 = true := by rfl) : Con C N.law11_Key args bs r bs' := con_of_fn cok Tryz.func13 (by kernel_rfl) ok.law11_Key ha h
abbrev N.r11_New : Nat := 14
def rt.r11_New : Rt := []
theorem ok.r11_New : fnOk rt.r11_New Tryz.f14 = true := by kernel_rfl
theorem con.r11_New {args : List V} {bs bs' : List B} {r : Oc} (h : FnVC C rt.r11_New Tryz.f14 args bs r bs') (ha : Nat.ble args.length 88 = true := by rfl) : Con C N.r11_New args bs r bs' := con_of_fn cok Tryz.func14 (by kernel_rfl) ok.r11_New ha h
abbrev N.cipher_Cipher_Size : Nat := 15
def rt.cipher_Cipher_Size : Rt := []
theorem ok.cipher_Cipher_Size : fnOk rt.cipher_Cipher_Size Tryz.f15 = true := by kernel_rfl
theorem con.cipher_Cipher_Size {args : List V} {bs bs' : List B} {r : Oc} (h : FnVC C rt.cipher_Cipher_Size Tryz.f15 args bs r bs') (ha : Nat.ble args.length 8 = true := by rfl) : Con C N.cipher_Cipher_Size args bs r bs' := con_of_fn cok Tryz.func15 (by kernel_rfl) ok.cipher_Cipher_Size ha h
abbrev N.law11_Bytes : Nat := 17
def rt.law11_Bytes : Rt := []
theorem ok.law11_Bytes : fnOk rt.law11_Bytes Tryz.f17 = true := by kernel_rfl
theorem con.law11_Bytes {args : List V} {bs bs' : List B} {r : Oc} (h : FnVC C rt.law11_Bytes Tryz.f17 args bs r bs') (ha : Nat.ble args.length 26 = true := by rfl) : Con C N.law11_Bytes args bs r bs' := con_of_fn cok Tryz.func17 (by kernel_rfl) ok.law11_Bytes ha h
abbrev N.cipher_Cipher_Enc : Nat := 18
def rt.cipher_Cipher_Enc : Rt := []
theorem ok.cipher_Cipher_Enc : fnOk rt.cipher_Cipher_Enc Tryz.f18 = true := by kernel_rfl
theorem con.cipher_Cipher_Enc {args : List V} {bs bs' : List B} {r : Oc} (h : FnVC C rt.cipher_Cipher_Enc Tryz.f18 args bs r bs') (ha : Nat.ble args.length 14 = true := by rfl) : Con C N.cipher_Cipher_Enc args bs r bs' := con_of_fn cok Tryz.func18 (by kernel_rfl) ok.cipher_Cipher_Enc ha h
abbrev N.r11_Cipher_Enc : Nat := 19
def rt.r11_Cipher_Enc : Rt := []
theorem ok.r11_Cipher_Enc : fnOk rt.r11_Cipher_Enc Tryz.f19 = true := by kernel_rfl
theorem con.r11_Cipher_Enc {args : List V} {bs bs' : List B} {r : Oc} (h : FnVC C rt.r11_Cipher_Enc Tryz.f19 args bs r bs') (ha : Nat.ble args.length 11 = true := by rfl) : Con C N.r11_Cipher_Enc args bs r bs' := con_of_fn cok Tryz.func19 (by kernel_rfl) ok.r11_Cipher_Enc ha h
abbrev N.cipher_Cipher_Dec : Nat := 20
def rt.cipher_Cipher_Dec : Rt := []
theorem ok.cipher_Cipher_Dec : fnOk rt.cipher_Cipher_Dec Tryz.f20 = true := by kernel_rfl
theorem con.cipher_Cipher_Dec {args : List V} {bs bs' : List B} {r : Oc} (h : FnVC C rt.cipher_Cipher_Dec Tryz.f20 args bs r bs') (ha : Nat.ble args.length 14 = true := by rfl) : Con C N.cipher_Cipher_Dec args bs r bs' := con_of_fn cok Tryz.func20 (by kernel_rfl) ok.cipher_Cipher_Dec ha h
abbrev N.r11_Cipher_Dec : Nat := 21
def rt.r11_Cipher_Dec : Rt := []
theorem ok.r11_Cipher_Dec : fnOk rt.r11_Cipher_Dec Tryz.f21 = true := by kernel_rfl
theorem con.r11_Cipher_Dec {args : List V} {bs bs' : List B} {r : Oc} (h : FnVC C rt.r11_Cipher_Dec Tryz.f21 args bs r bs') (ha : Nat.ble args.length 11 = true := by rfl) : Con C N.r11_Cipher_Dec args bs r bs' := con_of_fn cok Tryz.func21 (by kernel_rfl) ok.r11_Cipher_Dec ha h
abbrev N.cipher_Lengths : Nat := 22
def rt.cipher_Lengths : Rt := []
theorem ok.cipher_Lengths : fnOk rt.cipher_Lengths Tryz.f22 = true := by kernel_rfl
theorem con.cipher_Lengths {args : List V} {bs bs' : List B} {r : Oc} (h : FnVC C rt.cipher_Lengths Tryz.f22 args bs r bs') (ha : Nat.ble args.length 22 = true := by rfl) : Con C N.cipher_Lengths args bs r bs' := con_of_fn cok Tryz.func22 (by kernel_rfl) ok.cipher_Lengths ha h
abbrev N.r11_Lengths : Nat := 23
def rt.r11_Lengths : Rt := []
theorem ok.r11_Lengths : fnOk rt.r11_Lengths Tryz.f23 = true := by kernel_rfl
theorem con.r11_Lengths {args : List V} {bs bs' : List B} {r : Oc} (h : FnVC C rt.r11_Lengths Tryz.f23 args bs r bs') (ha : Nat.ble args.length 22 = true := by rfl) : Con C N.r11_Lengths args bs r bs' := con_of_fn cok Tryz.func23 (by kernel_rfl) ok.r11_Lengths ha h
abbrev N.cipher_Size : Nat := 24
def rt.cipher_Size : Rt := []
theorem ok.cipher_Size : fnOk rt.cipher_Size Tryz.f24 = true := by kernel_rfl
theorem con.cipher_Size {args : List V} {bs bs' : List B} {r : Oc} (h : FnVC C rt.cipher_Size Tryz.f24 args bs r bs') (ha : Nat.ble args.length 14 = true := by rfl) : Con C N.cipher_Size args bs r bs' := con_of_fn cok Tryz.func24 (by kernel_rfl) ok.cipher_Size ha h
abbrev N.r11_Size : Nat := 25
def rt.r11_Size : Rt := []
theorem ok.r11_Size : fnOk rt.r11_Size Tryz.f25 = true := by kernel_rfl
theorem con.r11_Size {args : List V} {bs bs' : List B} {r : Oc} (h : FnVC C rt.r11_Size Tryz.f25 args bs r bs') (ha : Nat.ble args.length 14 = true := by rfl) : Con C N.r11_Size args bs r bs' := con_of_fn cok Tryz.func25 (by kernel_rfl) ok.r11_Size ha h
abbrev N.law11_within : Nat := 26
def rt.law11_within : Rt := []
theorem ok.law11_within : fnOk rt.law11_within Tryz.f26 = true := by kernel_rfl
theorem con.law11_within {args : List V} {bs bs' : List B} {r : Oc} (h : FnVC C rt.law11_within Tryz.f26 args bs r bs') (ha : Nat.ble args.length 15 = true := by rfl) : Con C N.law11_within args bs r bs' := con_of_fn cok Tryz.func26 (by kernel_rfl) ok.law11_within ha h
abbrev N.des_New : Nat := 27
def rt.des_New : Rt := [(12, [⟨false, false, [], []⟩, ⟨false, false, [], []⟩, ⟨false, false, [], [1]⟩, ⟨false, false, [], [1, 2]⟩, ⟨true, false, [54, 59, 60, 61, 62, 63, 64, 65, 66, 67, 68], [1, 2, 3]⟩, ⟨false, false, [], []⟩, ⟨false, false, [], [5]⟩, ⟨false, false, [], [5, 6]⟩, ⟨true, false, [54, 55, 56, 57, 58, 63, 64, 65, 66, 67, 68], [5, 6, 7]⟩, ⟨false, false, [], [5, 6, 7, 8]⟩, ⟨true, false, [54, 55, 56, 57, 58, 65, 66, 67, 68], [5, 6, 7, 8, 9]⟩, ⟨false, false, [], [5, 6, 7, 8, 9, 10]⟩, ⟨true, true, [54, 67, 68], [1, 2, 3, 4, 5, 6, 7, 8, 9, 10, 11]⟩, ⟨false, false, [], [0, 1, 2, 3, 4, 5, 6, 7, 8, 9, 10, 11, 12]⟩, ⟨false, false, [], [0, 1, 2, 3, 4, 5, 6, 7, 8, 9, 10, 11, 12, 13]⟩, ⟨true, true, [], [0, 1, 2, 3, 4, 5, 6, 7, 8, 9, 10, 11, 12, 13, 14]⟩])]
theorem ok.des_New : fnOk rt.des_New Tryz.f27 = true := by kernel_rfl
theorem con.des_New {args : List V} {bs bs' : List B} {r : Oc} (h : FnVC C rt.des_New Tryz.f27 args bs r bs') (ha : Nat.ble args.length 70 = true := by rfl) : Con C N.des_New args bs r bs' := con_of_fn cok Tryz.func27 (by kernel_rfl) ok.des_New ha h
abbrev N.des_Des_Block : Nat := 28
def rt.des_Des_Block : Rt := [(8, [⟨false, false, [], []⟩, ⟨false, false, [], [0]⟩, ⟨false, false, [], [0, 1]⟩, ⟨true, false, [35, 36, 37, 38, 39, 40, 41, 42, 43, 44, 9], [0, 1, 2]⟩, ⟨false, false, [], []⟩, ⟨false, false, [], [4]⟩, ⟨false, false, [], [4, 5]⟩, ⟨true, false, [31, 32, 33, 34, 39, 40, 41, 42, 43, 44, 9], [4, 5, 6]⟩, ⟨false, false, [], [4, 5, 6, 7]⟩, ⟨false, false, [], [4, 5, 6, 7, 8]⟩, ⟨false, false, [], []⟩, ⟨false, false, [], [4, 5, 6, 7, 8, 9, 10]⟩, ⟨false, false, [], [0, 1, 2, 3, 4, 5, 6, 7, 8, 9, 10, 11]⟩, ⟨true, false, [9], [0, 1, 2, 3, 4, 5, 6, 7, 8, 9, 10, 11, 12]⟩, ⟨false, false, [], [0, 1, 2, 3, 4, 5, 6, 7, 8, 9, 10, 11, 12, 13]⟩])]
theorem ok.des_Des_Block : fnOk rt.des_Des_Block Tryz.f28 = true := by kernel_rfl
theorem con.des_Des_Block {args : List V} {bs bs' : List B} {r : Oc} (h : FnVC C rt.des_Des_Block Tryz.f28 args bs r bs') (ha : Nat.ble args.length 58 = true := by rfl) : Con C N.des_Des_Block args bs r bs' := con_of_fn cok Tryz.func28 (by kernel_rfl) ok.des_Des_Block ha h
abbrev N.idea_New : Nat := 29
def rt.idea_New : Rt := []
theorem ok.idea_New : fnOk rt.idea_New Tryz.f29 = true := by kernel_rfl
theorem con.idea_New {args : List V} {bs bs' : List B} {r : Oc} (h : FnVC C rt.idea_New Tryz.f29 args bs r bs') (ha : Nat.ble args.length 19 = true := by rfl) : Con C N.idea_New args bs r bs' := con_of_fn cok Tryz.func29 (by kernel_rfl) ok.idea_New ha h
abbrev N.idea_Idea_Block : Nat := 30
def rt.idea_Idea_Block : Rt := []
theorem ok.idea_Idea_Block : fnOk rt.idea_Idea_Block Tryz.f30 = true := by kernel_rfl
theorem con.idea_Idea_Block {args : List V} {bs bs' : List B} {r : Oc} (h : FnVC C rt.idea_Idea_Block Tryz.f30 args bs r bs') (ha : Nat.ble args.length 44 = true := by rfl) : Con C N.idea_Idea_Block args bs r bs' := con_of_fn cok Tryz.func30 (by kernel_rfl) ok.idea_Idea_Block ha h
abbrev N.twofish_New : Nat := 31
def rt.twofish_New : Rt := []
theorem ok.twofish_New : fnOk rt.twofish_New Tryz.f31 = true := by kernel_rfl
theorem con.twofish_New {args : List V} {bs bs' : List B} {r : Oc} (h : FnVC C rt.twofish_New Tryz.f31 args bs r bs') (ha : Nat.ble args.length 20 = true := by rfl) : Con C N.twofish_New args bs r bs' := con_of_fn cok Tryz.func31 (by kernel_rfl) ok.twofish_New ha h
abbrev N.twofish_Twofish_Block : Nat := 32
def rt.twofish_Twofish_Block : Rt := [(15, [⟨false, false, [], []⟩, ⟨true, false, [59, 60, 61, 62, 63, 64, 65, 66, 67, 68, 69, 70, 71], [0]⟩, ⟨true, false, [60, 61, 62, 63, 64, 65, 66, 67, 68, 69, 70, 71], [0, 1]⟩, ⟨false, false, [], []⟩, ⟨false, false, [], [0, 1, 2, 3]⟩, ⟨false, false, [], []⟩, ⟨true, false, [57, 58, 59, 60, 61, 64, 65, 66, 67, 68, 69, 70, 71], [5]⟩, ⟨false, false, [], []⟩, ⟨false, false, [], [5, 6, 7]⟩, ⟨true, false, [60, 61, 67, 68, 69, 70, 71], [0, 1, 2, 5, 6, 7, 8]⟩, ⟨false, false, [], []⟩, ⟨true, false, [57, 58, 59, 60, 61, 62, 63, 64, 65, 66, 69, 70, 71], [10]⟩, ⟨false, false, [], []⟩, ⟨true, false, [57, 58, 59, 60, 61, 62, 63, 64, 65, 66, 67, 68, 71], [12]⟩, ⟨false, false, [], [0, 1, 2, 3, 4, 5, 6, 7, 8, 9, 10, 11, 12, 13]⟩, ⟨true, true, [], [0, 1, 2, 3, 4, 5, 6, 7, 8, 9, 10, 11, 12, 13, 14]⟩]), (23, [⟨false, false, [], []⟩, ⟨true, false, [102, 103, 104, 105, 106, 107, 108, 109, 110, 111, 112, 113, 114], [0]⟩, ⟨false, false, [], []⟩, ⟨false, false, [], [0, 1, 2]⟩, ⟨true, false, [105, 106, 107, 108, 109, 110, 111, 112, 113, 114], [0, 1, 2, 3]⟩, ⟨false, false, [], []⟩, ⟨true, false, [100, 101, 102, 103, 104, 107, 108, 109, 110, 111, 112, 113, 114], [5]⟩, ⟨true, false, [108, 109, 110, 111, 112, 113, 114], [0, 1, 2, 3, 4, 5, 6]⟩, ⟨false, false, [], []⟩, ⟨false, false, [], [0, 1, 2, 3, 4, 5, 6, 7, 8]⟩, ⟨false, false, [], []⟩, ⟨true, false, [100, 101, 102, 103, 104, 105, 106, 107, 108, 109, 112, 113, 114], [10]⟩, ⟨false, false, [], []⟩, ⟨true, false, [100, 101, 102, 103, 104, 105, 106, 107, 108, 109, 110, 111, 114], [12]⟩, ⟨false, false, [], [0, 1, 2, 3, 4, 5, 6, 7, 8, 9, 10, 11, 12, 13]⟩, ⟨true, true, [], [0, 1, 2, 3, 4, 5, 6, 7, 8, 9, 10, 11, 12, 13, 14]⟩])]
theorem ok.twofish_Twofish_Block : fnOk rt.twofish_Twofish_Block Tryz.f32 = true := by kernel_rfl
theorem con.twofish_Twofish_Block {args : List V} {bs bs' : List B} {r : Oc} (h : FnVC C rt.twofish_Twofish_Block Tryz.f32 args bs r bs') (ha : Nat.ble args.length 138 = true := by rfl) : Con C N.twofish_Twofish_Block args bs r bs' := con_of_fn cok Tryz.func32 (by kernel_rfl) ok.twofish_Twofish_Block ha h
abbrev N.aria_New : Nat := 33
def rt.aria_New : Rt := [(4, [⟨true, false, [10, 11, 12, 13, 14, 2, 3], []⟩, ⟨true, false, [9, 11, 12, 13, 14, 2, 3], []⟩, ⟨false, false, [], []⟩, ⟨true, false, [9, 13, 14, 2, 3], [1, 2]⟩, ⟨false, false, [], [0, 1, 2, 3]⟩, ⟨false, false, [], [0, 1, 2, 3, 4]⟩, ⟨false, false, [], [0, 1, 2, 3, 4, 5]⟩, ⟨false, false, [], [0, 1, 2, 3, 4, 5, 6]⟩])]
theorem ok.aria_New : fnOk rt.aria_New Tryz.f33 = true := by kernel_rfl
theorem con.aria_New {args : List V} {bs bs' : List B} {r : Oc} (h : FnVC C rt.aria_New Tryz.f33 args bs r bs') (ha : Nat.ble args.length 15 = true := by rfl) : Con C N.aria_New args bs r bs' := con_of_fn cok Tryz.func33 (by kernel_rfl) ok.aria_New ha h
abbrev N.aria_Aria_Block : Nat := 34
def rt.aria_Aria_Block : Rt := [(8, [⟨false, false, [], []⟩, ⟨false, false, [], [0]⟩, ⟨false, false, [], [0, 1]⟩, ⟨true, false, [30, 31, 32, 33, 34, 35, 36, 37, 38, 39, 40, 41, 1], [0, 1, 2]⟩, ⟨false, false, [], []⟩, ⟨false, false, [], [4]⟩, ⟨false, false, [], [4, 5]⟩, ⟨false, false, [], []⟩, ⟨false, false, [], []⟩, ⟨false, false, [], [8]⟩, ⟨false, false, [], [8, 9]⟩, ⟨true, false, [26, 27, 28, 29, 30, 31, 32, 33, 38, 39, 40, 41, 1], [8, 9, 10]⟩, ⟨false, false, [], []⟩, ⟨false, false, [], [8, 9, 10, 11, 12]⟩, ⟨true, false, [26, 27, 28, 29, 30, 31, 32, 33, 41, 1], [8, 9, 10, 11, 12, 13]⟩, ⟨true, true, [1], [0, 1, 2, 3, 4, 5, 6, 7, 8, 9, 10, 11, 12, 13, 14]⟩, ⟨false, false, [], [0, 1, 2, 3, 4, 5, 6, 7, 8, 9, 10, 11, 12, 13, 14, 15]⟩]), (10, [⟨false, false, [], []⟩, ⟨false, false, [], [0]⟩, ⟨false, false, [], [0, 1]⟩, ⟨true, false, [59, 60, 61, 62, 63, 64, 65, 66, 67, 68, 54, 69, 70, 1], [0, 1, 2]⟩, ⟨false, false, [], []⟩, ⟨true, false, [61, 62, 63, 64, 65, 66, 67, 68, 54, 69, 70, 1], [0, 1, 2, 3, 4]⟩, ⟨false, false, [], []⟩, ⟨false, false, [], [6]⟩, ⟨false, false, [], [6, 7]⟩, ⟨true, false, [55, 56, 57, 58, 59, 60, 65, 66, 67, 68, 54, 69, 70, 1], [6, 7, 8]⟩, ⟨false, false, [], []⟩, ⟨false, false, [], [6, 7, 8, 9, 10]⟩, ⟨true, false, [55, 56, 57, 58, 59, 60, 68, 54, 69, 70, 1], [6, 7, 8, 9, 10, 11]⟩, ⟨true, true, [54, 69, 70, 1], [0, 1, 2, 3, 4, 5, 6, 7, 8, 9, 10, 11, 12]⟩, ⟨false, false, [], [0, 1, 2, 3, 4, 5, 6, 7, 8, 9, 10, 11, 12, 13]⟩, ⟨false, false, [], [0, 1, 2, 3, 4, 5, 6, 7, 8, 9, 10, 11, 12, 13, 14]⟩, ⟨false, false, [], [0, 1, 2, 3, 4, 5, 6, 7, 8, 9, 10, 11, 12, 13, 14]⟩, ⟨false, false, [], [0, 1, 2, 3, 4, 5, 6, 7, 8, 9, 10, 11, 12, 13, 14, 15]⟩]), (13, [⟨false, false, [], []⟩, ⟨false, false, [], [0]⟩, ⟨false, false, [], [0, 1]⟩, ⟨true, false, [89, 90, 91, 92, 93, 94, 95, 96, 97, 98, 99, 84, 100, 101, 1], [0, 1, 2]⟩, ⟨false, false, [], []⟩, ⟨true, false, [91, 92, 93, 94, 95, 96, 97, 98, 99, 84, 100, 101, 1], [0, 1, 2, 3, 4]⟩, ⟨false, false, [], []⟩, ⟨false, false, [], [6]⟩, ⟨false, false, [], [6, 7]⟩, ⟨true, false, [85, 86, 87, 88, 89, 90, 95, 96, 97, 98, 99, 84, 100, 101, 1], [6, 7, 8]⟩, ⟨false, false, [], []⟩, ⟨false, false, [], [10]⟩, ⟨false, false, [], [6, 7, 8, 9, 10, 11]⟩, ⟨true, false, [85, 86, 87, 88, 89, 90, 99, 84, 100, 101, 1], [6, 7, 8, 9, 10, 11, 12]⟩, ⟨true, true, [84, 100, 101, 1], [0, 1, 2, 3, 4, 5, 6, 7, 8, 9, 10, 11, 12, 13]⟩, ⟨false, false, [], [0, 1, 2, 3, 4, 5, 6, 7, 8, 9, 10, 11, 12, 13, 14]⟩, ⟨false, false, [], [0, 1, 2, 3, 4, 5, 6, 7, 8, 9, 10, 11, 12, 13, 14, 15]⟩, ⟨false, false, [], [0, 1, 2, 3, 4, 5, 6, 7, 8, 9, 10, 11, 12, 13, 14, 15]⟩, ⟨false, false, [], [0, 1, 2, 3, 4, 5, 6, 7, 8, 9, 10, 11, 12, 13, 14, 15, 16]⟩]), (18, [⟨false, false, [], []⟩, ⟨false, false, [], [0]⟩, ⟨false, false, [], [0, 1]⟩, ⟨true, false, [118, 119, 120, 121, 122, 123, 124, 125, 126, 127, 128, 129, 130, 113, 131, 132, 1], [0, 1, 2]⟩, ⟨false, false, [], []⟩, ⟨false, false, [], [4]⟩, ⟨false, false, [], [4, 5]⟩, ⟨false, false, [], []⟩, ⟨true, false, [123, 124, 125, 126, 127, 128, 129, 130, 113, 131, 132, 1], [0, 1, 2, 3, 4, 5, 6, 7]⟩, ⟨false, false, [], []⟩, ⟨false, false, [], [9]⟩, ⟨false, false, [], [9, 10]⟩, ⟨true, false, [114, 115, 116, 117, 118, 119, 120, 121, 122, 127, 128, 129, 130, 113, 131, 132, 1], [9, 10, 11]⟩, ⟨false, false, [], []⟩, ⟨false, false, [], [9, 10, 11, 12, 13]⟩, ⟨true, false, [114, 115, 116, 117, 118, 119, 120, 121, 122, 130, 113, 131, 132, 1], [9, 10, 11, 12, 13, 14]⟩, ⟨true, true, [113, 131, 132, 1], [0, 1, 2, 3, 4, 5, 6, 7, 8, 9, 10, 11, 12, 13, 14, 15]⟩, ⟨false, false, [], [0, 1, 2, 3, 4, 5, 6, 7, 8, 9, 10, 11, 12, 13, 14, 15, 16]⟩, ⟨false, false, [], [0, 1, 2, 3, 4, 5, 6, 7, 8, 9, 10, 11, 12, 13, 14, 15, 16, 17]⟩, ⟨false, false, [], [0, 1, 2, 3, 4, 5, 6, 7, 8, 9, 10, 11, 12, 13, 14, 15, 16, 17]⟩, ⟨false, false, [], [0, 1, 2, 3, 4, 5, 6, 7, 8, 9, 10, 11, 12, 13, 14, 15, 16, 17, 18]⟩])]
theorem ok.aria_Aria_Block : fnOk rt.aria_Aria_Block Tryz.f34 = true := by kernel_rfl
theorem con.aria_Aria_Block {args : List V} {bs bs' : List B} {r : Oc} (h : FnVC C rt.aria_Aria_Block Tryz.f34 args bs r bs') (ha : Nat.ble args.length 134 = true := by rfl) : Con C N.aria_Aria_Block args bs r bs' := con_of_fn cok Tryz.func34 (by kernel_rfl) ok.aria_Aria_Block ha h
abbrev N.small_New : Nat := 35
def rt.small_New : Rt := []
theorem ok.small_New : fnOk rt.small_New Tryz.f35 = true := by kernel_rfl
theorem con.small_New {args : List V} {bs bs' : List B} {r : Oc} (h : FnVC C rt.small_New Tryz.f35 args bs r bs') (ha : Nat.ble args.length 30 = true := by rfl) : Con C N.small_New args bs r bs' := con_of_fn cok Tryz.func35 (by kernel_rfl) ok.small_New ha h
abbrev N.small_Small_Block : Nat := 36
def rt.small_Small_Block : Rt := [(5, [⟨false, false, [], []⟩, ⟨false, false, [], [0]⟩, ⟨true, false, [26, 27, 28, 10, 11], [0, 1]⟩, ⟨false, false, [], []⟩, ⟨false, false, [], [3]⟩, ⟨true, false, [23, 24, 25, 10, 11], [3, 4]⟩, ⟨false, false, [], [0, 1, 2]⟩, ⟨false, false, [], [0, 1, 2, 3, 4, 5, 6]⟩])]
theorem ok.small_Small_Block : fnOk rt.small_Small_Block Tryz.f36 = true := by kernel_rfl
theorem con.small_Small_Block {args : List V} {bs bs' : List B} {r : Oc} (h : FnVC C rt.small_Small_Block Tryz.f36 args bs r bs') (ha : Nat.ble args.length 67 = true := by rfl) : Con C N.small_Small_Block args bs r bs' := con_of_fn cok Tryz.func36 (by kernel_rfl) ok.small_Small_Block ha h
abbrev N.slices_Contains_int : Nat := 37
def rt.slices_Contains_int : Rt := []
theorem ok.slices_Contains_int : fnOk rt.slices_Contains_int Tryz.f37 = true := by kernel_rfl
theorem con.slices_Contains_int {args : List V} {bs bs' : List B} {r : Oc} (h : FnVC C rt.slices_Contains_int Tryz.f37 args bs r bs') (ha : Nat.ble args.length 9 = true := by rfl) : Con C N.slices_Contains_int args bs r bs' := con_of_fn cok Tryz.func37 (by kernel_rfl) ok.slices_Contains_int ha h
abbrev N.r6_New : Nat := 38
def rt.r6_New : Rt := [(10, [⟨false, false, [], []⟩, ⟨false, false, [], []⟩, ⟨false, false, [], [1]⟩, ⟨false, false, [], [1, 2]⟩, ⟨true, false, [51, 56, 57, 58, 59, 60, 61, 62, 63, 64, 65], [1, 2, 3]⟩, ⟨false, false, [], []⟩, ⟨false, false, [], [5]⟩, ⟨false, false, [], [5, 6]⟩, ⟨true, false, [51, 52, 53, 54, 55, 60, 61, 62, 63, 64, 65], [5, 6, 7]⟩, ⟨false, false, [], [5, 6, 7, 8]⟩, ⟨true, false, [51, 52, 53, 54, 55, 62, 63, 64, 65], [5, 6, 7, 8, 9]⟩, ⟨false, false, [], [5, 6, 7, 8, 9, 10]⟩, ⟨true, true, [51, 64, 65], [1, 2, 3, 4, 5, 6, 7, 8, 9, 10, 11]⟩, ⟨false, false, [], [0, 1, 2, 3, 4, 5, 6, 7, 8, 9, 10, 11, 12]⟩, ⟨false, false, [], [0, 1, 2, 3, 4, 5, 6, 7, 8, 9, 10, 11, 12, 13]⟩, ⟨true, true, [], [0, 1, 2, 3, 4, 5, 6, 7, 8, 9, 10, 11, 12, 13, 14]⟩])]
theorem ok.r6_New : fnOk rt.r6_New Tryz.f38 = true := by kernel_rfl
theorem con.r6_New {args : List V} {bs bs' : List B} {r : Oc} (h : FnVC C rt.r6_New Tryz.f38 args bs r bs') (ha : Nat.ble args.length 67 = true := by rfl) : Con C N.r6_New args bs r bs' := con_of_fn cok Tryz.func38 (by kernel_rfl) ok.r6_New ha h
abbrev N.r7_New : Nat := 39
def rt.r7_New : Rt := []
theorem ok.r7_New : fnOk rt.r7_New Tryz.f39 = true := by kernel_rfl
theorem con.r7_New {args : List V} {bs bs' : List B} {r : Oc} (h : FnVC C rt.r7_New Tryz.f39 args bs r bs') (ha : Nat.ble args.length 17 = true := by rfl) : Con C N.r7_New args bs r bs' := con_of_fn cok Tryz.func39 (by kernel_rfl) ok.r7_New ha h
abbrev N.r9_New : Nat := 40
def rt.r9_New : Rt := []
theorem ok.r9_New : fnOk rt.r9_New Tryz.f40 = true := by kernel_rfl
theorem con.r9_New {args : List V} {bs bs' : List B} {r : Oc} (h : FnVC C rt.r9_New Tryz.f40 args bs r bs') (ha : Nat.ble args.length 20 = true := by rfl) : Con C N.r9_New args bs r bs' := con_of_fn cok Tryz.func40 (by kernel_rfl) ok.r9_New ha h
abbrev N.r10_New : Nat := 41
def rt.r10_New : Rt := []
theorem ok.r10_New : fnOk rt.r10_New Tryz.f41 = true := by kernel_rfl
theorem con.r10_New {args : List V} {bs bs' : List B} {r : Oc} (h : FnVC C rt.r10_New Tryz.f41 args bs r bs') (ha : Nat.ble args.length 25 = true := by rfl) : Con C N.r10_New args bs r bs' := con_of_fn cok Tryz.func41 (by kernel_rfl) ok.r10_New ha h
abbrev N.r8_New : Nat := 42
def rt.r8_New : Rt := []
theorem ok.r8_New : fnOk rt.r8_New Tryz.f42 = true := by kernel_rfl
theorem con.r8_New {args : List V} {bs bs' : List B} {r : Oc} (h : FnVC C rt.r8_New Tryz.f42 args bs r bs') (ha : Nat.ble args.length 29 = true := by rfl) : Con C N.r8_New args bs r bs' := con_of_fn cok Tryz.func42 (by kernel_rfl) ok.r8_New ha h
abbrev N.r11_Cipher_block : Nat := 43
def rt.r11_Cipher_block : Rt := []
theorem ok.r11_Cipher_block : fnOk rt.r11_Cipher_block Tryz.f43 = true := by kernel_rfl
theorem con.r11_Cipher_block {args : List V} {bs bs' : List B} {r : Oc} (h : FnVC C rt.r11_Cipher_block Tryz.f43 args bs r bs') (ha : Nat.ble args.length 66 = true := by rfl) : Con C N.r11_Cipher_block args bs r bs' := con_of_fn cok Tryz.func43 (by kernel_rfl) ok.r11_Cipher_block ha h
abbrev N.des_Keys : Nat := 44
def rt.des_Keys : Rt := [(11, [⟨false, false, [], []⟩, ⟨false, false, [], [0]⟩, ⟨true, true, [40, 41, 42, 9, 10], [0, 1]⟩, ⟨false, false, [], []⟩, ⟨false, false, [], [3]⟩, ⟨true, true, [9, 10], [0, 1, 2, 3, 4]⟩, ⟨false, false, [], [0, 1, 2, 3, 4, 5]⟩, ⟨false, false, [], [0, 1, 2, 3, 4, 5, 6]⟩]), (12, [⟨false, false, [], []⟩, ⟨false, false, [], []⟩, ⟨false, false, [], [0, 1]⟩, ⟨false, false, [], []⟩, ⟨false, false, [], []⟩, ⟨false, false, [], [3, 4]⟩, ⟨true, true, [50, 51, 52, 53, 54, 55, 56, 57, 4], [0, 1, 2, 3, 4, 5]⟩, ⟨false, false, [], []⟩, ⟨false, false, [], []⟩, ⟨false, false, [], [7, 8]⟩, ⟨true, true, [54, 55, 56, 57, 4], [0, 1, 2, 3, 4, 5, 6, 7, 8, 9]⟩, ⟨false, false, [], []⟩, ⟨false, false, [], []⟩, ⟨false, false, [], [11, 12]⟩, ⟨true, true, [4], [0, 1, 2, 3, 4, 5, 6, 7, 8, 9, 10, 11, 12, 13]⟩, ⟨false, false, [], [0, 1, 2, 3, 4, 5, 6, 7, 8, 9, 10, 11, 12, 13, 14]⟩])]
theorem ok.des_Keys : fnOk rt.des_Keys Tryz.f44 = true := by kernel_rfl
theorem con.des_Keys {args : List V} {bs bs' : List B} {r : Oc} (h : FnVC C rt.des_Keys Tryz.f44 args bs r bs') (ha : Nat.ble args.length 85 = true := by rfl) : Con C N.des_Keys args bs r bs' := con_of_fn cok Tryz.func44 (by kernel_rfl) ok.des_Keys ha h
abbrev N.slices_Clone_sbyte : Nat := 45
def rt.slices_Clone_sbyte : Rt := []
theorem ok.slices_Clone_sbyte : fnOk rt.slices_Clone_sbyte Tryz.f45 = true := by kernel_rfl
theorem con.slices_Clone_sbyte {args : List V} {bs bs' : List B} {r : Oc} (h : FnVC C rt.slices_Clone_sbyte Tryz.f45 args bs r bs') (ha : Nat.ble args.length 8 = true := by rfl) : Con C N.slices_Clone_sbyte args bs r bs' := con_of_fn cok Tryz.func45 (by kernel_rfl) ok.slices_Clone_sbyte ha h
abbrev N.slices_Reverse_sbyte : Nat := 46
def rt.slices_Reverse_sbyte : Rt := [(3, [⟨false, false, [], []⟩, ⟨false, false, [], []⟩, ⟨false, false, [], []⟩, ⟨false, false, [], []⟩, ⟨false, false, [], []⟩, ⟨false, false, [], []⟩, ⟨false, false, [], [4, 5]⟩, ⟨true, false, [14, 15, 16, 17, 22, 23, 24, 25, 26, 27], [4, 5, 6]⟩, ⟨false, false, [], []⟩, ⟨false, false, [], []⟩, ⟨false, false, [], [8, 9]⟩, ⟨true, false, [14, 15, 16, 17, 18, 19, 20, 21, 26, 27], [8, 9, 10]⟩, ⟨false, false, [], [0, 1, 4, 5, 6, 7, 8, 9, 10, 11]⟩, ⟨true, true, [16, 17, 27], [0, 1, 4, 5, 6, 7, 8, 9, 10, 11, 12]⟩, ⟨false, false, [], [0, 1, 2, 3, 4, 5, 6, 7, 8, 9, 10, 11, 12, 13]⟩, ⟨true, true, [], [0, 1, 2, 3, 4, 5, 6, 7, 8, 9, 10, 11, 12, 13, 14]⟩])]
theorem ok.slices_Reverse_sbyte : fnOk rt.slices_Reverse_sbyte Tryz.f46 = true := by kernel_rfl
theorem con.slices_Reverse_sbyte {args : List V} {bs bs' : List B} {r : Oc} (h : FnVC C rt.slices_Reverse_sbyte Tryz.f46 args bs r bs') (ha : Nat.ble args.length 28 = true := by rfl) : Con C N.slices_Reverse_sbyte args bs r bs' := con_of_fn cok Tryz.func46 (by kernel_rfl) ok.slices_Reverse_sbyte ha h
abbrev N.des_once : Nat := 47
def rt.des_once : Rt := [(3, [⟨false, false, [], []⟩, ⟨false, false, [], [0]⟩, ⟨false, false, [], []⟩, ⟨false, false, [], [2]⟩, ⟨false, false, [], [0, 1]⟩, ⟨false, false, [], [0, 1, 2, 3, 4]⟩])]
theorem ok.des_once : fnOk rt.des_once Tryz.f47 = true := by kernel_rfl
theorem con.des_once {args : List V} {bs bs' : List B} {r : Oc} (h : FnVC C rt.des_once Tryz.f47 args bs r bs') (ha : Nat.ble args.length 62 = true := by rfl) : Con C N.des_once args bs r bs' := con_of_fn cok Tryz.func47 (by kernel_rfl) ok.des_once ha h
abbrev N.idea_Keys : Nat := 48
def rt.idea_Keys : Rt := []
theorem ok.idea_Keys : fnOk rt.idea_Keys Tryz.f48 = true := by kernel_rfl
theorem con.idea_Keys {args : List V} {bs bs' : List B} {r : Oc} (h : FnVC C rt.idea_Keys Tryz.f48 args bs r bs') (ha : Nat.ble args.length 23 = true := by rfl) : Con C N.idea_Keys args bs r bs' := con_of_fn cok Tryz.func48 (by kernel_rfl) ok.idea_Keys ha h
abbrev N.idea_undone : Nat := 49
def rt.idea_undone : Rt := [(6, [⟨false, false, [], []⟩, ⟨false, false, [], [0]⟩, ⟨true, false, [22, 23, 24, 25, 26, 6, 7], [0, 1]⟩, ⟨true, false, [23, 24, 25, 26, 6, 7], [0, 1, 2]⟩, ⟨false, false, [], []⟩, ⟨false, false, [], [4]⟩, ⟨true, false, [19, 20, 21, 22, 26, 6, 7], [4, 5]⟩, ⟨true, true, [6, 7], [0, 1, 2, 3, 4, 5, 6]⟩, ⟨false, false, [], [0, 1, 2, 3, 4, 5, 6, 7]⟩, ⟨false, false, [], [0, 1, 2, 3, 4, 5, 6, 7, 8]⟩]), (9, [⟨false, false, [], []⟩, ⟨false, false, [], []⟩, ⟨false, false, [], [1]⟩, ⟨true, false, [35, 39, 40, 41, 42, 43, 44, 45, 46, 47, 3], [1, 2]⟩, ⟨true, false, [35, 40, 41, 42, 43, 44, 45, 46, 47, 3], [1, 2, 3]⟩, ⟨false, false, [], []⟩, ⟨false, false, [], []⟩, ⟨false, false, [], []⟩, ⟨false, false, [], [7]⟩, ⟨true, false, [35, 36, 37, 38, 39, 40, 41, 45, 46, 47, 3], [7, 8]⟩, ⟨true, true, [35, 40, 41, 46, 47, 3], [1, 2, 3, 4, 7, 8, 9]⟩, ⟨false, false, [], [1, 2, 3, 4, 5, 6, 7, 8, 9, 10]⟩, ⟨true, true, [3], [0, 1, 2, 3, 4, 5, 6, 7, 8, 9, 10, 11]⟩, ⟨false, false, [], [0, 1, 2, 3, 4, 5, 6, 7, 8, 9, 10, 11, 12]⟩])]
theorem ok.idea_undone : fnOk rt.idea_undone Tryz.f49 = true := by kernel_rfl
theorem con.idea_undone {args : List V} {bs bs' : List B} {r : Oc} (h : FnVC C rt.idea_undone Tryz.f49 args bs r bs') (ha : Nat.ble args.length 60 = true := by rfl) : Con C N.idea_undone args bs r bs' := con_of_fn cok Tryz.func49 (by kernel_rfl) ok.idea_undone ha h
abbrev N.idea_turn : Nat := 50
def rt.idea_turn : Rt := [(1, [⟨false, false, [], []⟩, ⟨false, false, [], [0]⟩, ⟨true, false, [14, 15, 16, 17, 18, 19, 20, 21, 22, 5, 6, 7, 8], [0, 1]⟩, ⟨false, false, [], []⟩, ⟨false, false, [], [3]⟩, ⟨true, false, [11, 12, 13, 17, 18, 19, 20, 21, 22, 5, 6, 7, 8], [3, 4]⟩, ⟨false, false, [], []⟩, ⟨false, false, [], [6]⟩, ⟨true, false, [11, 12, 13, 14, 15, 16, 20, 21, 22, 5, 6, 7, 8], [6, 7]⟩, ⟨false, false, [], []⟩, ⟨false, false, [], [9]⟩, ⟨true, false, [11, 12, 13, 14, 15, 16, 17, 18, 19, 5, 6, 7, 8], [9, 10]⟩, ⟨false, false, [], [0, 1, 2]⟩, ⟨false, false, [], [0, 1, 2, 3, 4, 5, 12]⟩, ⟨false, false, [], [0, 1, 2, 3, 4, 5, 6, 7, 8, 12, 13]⟩, ⟨false, false, [], [0, 1, 2, 3, 4, 5, 6, 7, 8, 9, 10, 11, 12, 13, 14]⟩]), (2, [⟨false, false, [], []⟩, ⟨false, false, [], []⟩, ⟨false, false, [], [1]⟩, ⟨true, false, [23, 27, 28, 29, 30, 31, 32, 33, 34, 35, 36, 37, 38, 39, 40, 41, 42, 5, 6, 7, 8], [1, 2]⟩, ⟨true, false, [28, 29, 30, 31, 32, 33, 34, 35, 36, 37, 38, 39, 40, 41, 42, 5, 6, 7, 8], [0, 1, 2, 3]⟩, ⟨false, false, [], []⟩, ⟨false, false, [], []⟩, ⟨false, false, [], [6]⟩, ⟨true, false, [23, 24, 25, 26, 27, 28, 32, 33, 34, 35, 36, 37, 38, 39, 40, 41, 42, 5, 6, 7, 8], [6, 7]⟩, ⟨true, false, [33, 34, 35, 36, 37, 38, 39, 40, 41, 42, 5, 6, 7, 8], [0, 1, 2, 3, 4, 5, 6, 7, 8]⟩, ⟨false, false, [], []⟩, ⟨false, false, [], []⟩, ⟨false, false, [], [11]⟩, ⟨true, false, [23, 24, 25, 26, 27, 28, 29, 30, 31, 32, 33, 37, 38, 39, 40, 41, 42, 5, 6, 7, 8], [11, 12]⟩, ⟨true, false, [38, 39, 40, 41, 42, 5, 6, 7, 8], [0, 1, 2, 3, 4, 5, 6, 7, 8, 9, 10, 11, 12, 13]⟩, ⟨false, false, [], []⟩, ⟨false, false, [], []⟩, ⟨false, false, [], [16]⟩, ⟨true, false, [23, 24, 25, 26, 27, 28, 29, 30, 31, 32, 33, 34, 35, 36, 37, 38, 42, 5, 6, 7, 8], [16, 17]⟩, ⟨true, true, [5, 6, 7, 8], [0, 1, 2, 3, 4, 5, 6, 7, 8, 9, 10, 11, 12, 13, 14, 15, 16, 17, 18]⟩, ⟨false, false, [], [0, 1, 2, 3, 4, 5, 6, 7, 8, 9, 10, 11, 12, 13, 14, 15, 16, 17, 18, 19]⟩, ⟨false, false, [], [0, 1, 2, 3, 4, 5, 6, 7, 8, 9, 10, 11, 12, 13, 14, 15, 16, 17, 18, 19, 20]⟩, ⟨false, false, [], [0, 1, 2, 3, 4, 5, 6, 7, 8, 9, 10, 11, 12, 13, 14, 15, 16, 17, 18, 19, 20, 21]⟩, ⟨false, false, [], [0, 1, 2, 3, 4, 5, 6, 7, 8, 9, 10, 11, 12, 13, 14, 15, 16, 17, 18, 19, 20, 21, 22]⟩]), (5, [⟨false, false, [], []⟩, ⟨false, false, [], []⟩, ⟨false, false, [], [0, 1]⟩, ⟨false, false, [], []⟩, ⟨true, false, [58, 59, 60, 61, 10], [0, 1, 2, 3]⟩, ⟨false, false, [], []⟩, ⟨false, false, [], [5]⟩, ⟨true, false, [53, 54, 55, 56, 57, 61, 10], [5, 6]⟩, ⟨true, true, [10], [0, 1, 2, 3, 4, 5, 6, 7]⟩, ⟨false, false, [], [0, 1, 2, 3, 4, 5, 6, 7, 8]⟩])]
theorem ok.idea_turn : fnOk rt.idea_turn Tryz.f50 = true := by kernel_rfl
theorem con.idea_turn {args : List V} {bs bs' : List B} {r : Oc} (h : FnVC C rt.idea_turn Tryz.f50 args bs r bs') (ha : Nat.ble args.length 89 = true := by rfl) : Con C N.idea_turn args bs r bs' := con_of_fn cok Tryz.func50 (by kernel_rfl) ok.idea_turn ha h
abbrev N.idea_load : Nat := 51
def rt.idea_load : Rt := [(5, [⟨false, false, [], []⟩, ⟨false, false, [], []⟩, ⟨false, false, [], []⟩, ⟨false, false, [], [1, 2]⟩, ⟨true, false, [12, 17, 18, 19, 20, 21, 22, 23, 24, 25, 26, 27, 3], [1, 2, 3]⟩, ⟨true, false, [12, 18, 19, 20, 21, 22, 23, 24, 25, 26, 27, 3], [1, 2, 3, 4]⟩, ⟨false, false, [], [1, 2, 3, 4, 5]⟩, ⟨false, false, [], []⟩, ⟨false, false, [], []⟩, ⟨false, false, [], [8]⟩, ⟨false, false, [], [7, 8, 9]⟩, ⟨true, false, [12, 13, 14, 15, 16, 17, 18, 24, 25, 26, 27, 3], [7, 8, 9, 10]⟩, ⟨true, false, [12, 13, 14, 15, 16, 17, 18, 25, 26, 27, 3], [7, 8, 9, 10, 11]⟩, ⟨false, false, [], [1, 2, 3, 4, 5, 6, 7, 8, 9, 10, 11, 12]⟩, ⟨false, false, [], [1, 2, 3, 4, 5, 6, 7, 8, 9, 10, 11, 12, 13]⟩, ⟨true, true, [3], [0, 1, 2, 3, 4, 5, 6, 7, 8, 9, 10, 11, 12, 13, 14]⟩, ⟨false, false, [], [0, 1, 2, 3, 4, 5, 6, 7, 8, 9, 10, 11, 12, 13, 14, 15]⟩])]
theorem ok.idea_load : fnOk rt.idea_load Tryz.f51 = true := by kernel_rfl
theorem con.idea_load {args : List V} {bs bs' : List B} {r : Oc} (h : FnVC C rt.idea_load Tryz.f51 args bs r bs') (ha : Nat.ble args.length 29 = true := by rfl) : Con C N.idea_load args bs r bs' := con_of_fn cok Tryz.func51 (by kernel_rfl) ok.idea_load ha h
abbrev N.twofish_Keys : Nat := 52
def rt.twofish_Keys : Rt := [(9, [⟨false, false, [], []⟩, ⟨false, false, [], []⟩, ⟨false, false, [], [1]⟩, ⟨true, true, [50, 51, 52, 53, 54, 55, 56, 57, 58, 59, 5, 6, 3], [0, 1, 2]⟩, ⟨false, false, [], []⟩, ⟨false, false, [], []⟩, ⟨false, false, [], [5]⟩, ⟨true, true, [54, 55, 56, 57, 58, 59, 5, 6, 3], [0, 1, 2, 3, 4, 5, 6]⟩, ⟨false, false, [], []⟩, ⟨false, false, [], []⟩, ⟨false, false, [], [9]⟩, ⟨true, true, [54, 58, 59, 5, 6, 3], [0, 1, 2, 3, 4, 5, 6, 7, 9, 10]⟩, ⟨false, false, [], [0, 1, 2, 3, 4, 5, 6, 7, 9, 10, 11]⟩, ⟨true, true, [5, 6, 3], [0, 1, 2, 3, 4, 5, 6, 7, 8, 9, 10, 11, 12]⟩, ⟨false, false, [], [0, 1, 2, 3, 4, 5, 6, 7, 8, 9, 10, 11, 12, 13]⟩, ⟨false, false, [], [0, 1, 2, 3, 4, 5, 6, 7, 8, 9, 10, 11, 12, 13, 14]⟩, ⟨false, false, [], [0, 1, 2, 3, 4, 5, 6, 7, 8, 9, 10, 11, 12, 13, 14, 15]⟩])]
theorem ok.twofish_Keys : fnOk rt.twofish_Keys Tryz.f52 = true := by kernel_rfl
theorem con.twofish_Keys {args : List V} {bs bs' : List B} {r : Oc} (h : FnVC C rt.twofish_Keys Tryz.f52 args bs r bs') (ha : Nat.ble args.length 93 = true := by rfl) : Con C N.twofish_Keys args bs r bs' := con_of_fn cok Tryz.func52 (by kernel_rfl) ok.twofish_Keys ha h
abbrev N.words_Le32 : Nat := 53
def rt.words_Le32 : Rt := []
theorem ok.words_Le32 : fnOk rt.words_Le32 Tryz.f53 = true := by kernel_rfl
theorem con.words_Le32 {args : List V} {bs bs' : List B} {r : Oc} (h : FnVC C rt.words_Le32 Tryz.f53 args bs r bs') (ha : Nat.ble args.length 9 = true := by rfl) : Con C N.words_Le32 args bs r bs' := con_of_fn cok Tryz.func53 (by kernel_rfl) ok.words_Le32 ha h
abbrev N.twofish_Twofish_white : Nat := 54
def rt.twofish_Twofish_white : Rt := [(4, [⟨false, false, [], []⟩, ⟨false, false, [], [0]⟩, ⟨true, false, [14, 15, 16, 17, 18, 19, 20, 21, 22, 23, 24], [0, 1]⟩, ⟨false, false, [], []⟩, ⟨false, false, [], [3]⟩, ⟨false, false, [], [3, 4]⟩, ⟨true, false, [11, 12, 13, 18, 19, 20, 21, 22, 23, 24], [3, 4, 5]⟩, ⟨false, false, [], []⟩, ⟨false, false, [], []⟩, ⟨false, false, [], [7, 8]⟩, ⟨false, false, [], [3, 4, 5, 6, 7, 8, 9]⟩, ⟨true, false, [11, 12, 13, 23, 24], [3, 4, 5, 6, 7, 8, 9, 10]⟩, ⟨false, false, [], [0, 1, 2, 3, 4, 5, 6, 7, 8, 9, 10, 11]⟩, ⟨false, false, [], [0, 1, 2, 3, 4, 5, 6, 7, 8, 9, 10, 11, 12]⟩, ⟨true, true, [], [0, 1, 2, 3, 4, 5, 6, 7, 8, 9, 10, 11, 12, 13]⟩])]
theorem ok.twofish_Twofish_white : fnOk rt.twofish_Twofish_white Tryz.f54 = true := by kernel_rfl
theorem con.twofish_Twofish_white {args : List V} {bs bs' : List B} {r : Oc} (h : FnVC C rt.twofish_Twofish_white Tryz.f54 args bs r bs') (ha : Nat.ble args.length 27 = true := by rfl) : Con C N.twofish_Twofish_white args bs r bs' := con_of_fn cok Tryz.func54 (by kernel_rfl) ok.twofish_Twofish_white ha h
abbrev N.twofish_Twofish_sums : Nat := 55
def rt.twofish_Twofish_sums : Rt := [(1, [⟨false, false, [], []⟩, ⟨false, false, [], []⟩, ⟨false, false, [], [1]⟩, ⟨false, false, [], [1, 2]⟩, ⟨true, false, [12, 17, 18, 19, 20, 21, 22, 23, 24, 10, 11], [1, 2, 3]⟩, ⟨true, false, [18, 19, 20, 21, 22, 23, 24, 10, 11], [0, 1, 2, 3, 4]⟩, ⟨false, false, [], []⟩, ⟨true, false, [20, 21, 22, 23, 24, 10, 11], [0, 1, 2, 3, 4, 5, 6]⟩, ⟨false, false, [], []⟩, ⟨false, false, [], [8]⟩, ⟨false, false, [], [8, 9]⟩, ⟨true, false, [12, 13, 14, 15, 16, 17, 18, 19, 24, 10, 11], [8, 9, 10]⟩, ⟨true, true, [10, 11], [0, 1, 2, 3, 4, 5, 6, 7, 8, 9, 10, 11]⟩, ⟨false, false, [], [0, 1, 2, 3, 4, 5, 6, 7, 8, 9, 10, 11, 12]⟩, ⟨false, false, [], [0, 1, 2, 3, 4, 5, 6, 7, 8, 9, 10, 11, 12, 13]⟩]), (2, [⟨false, false, [], []⟩, ⟨false, false, [], []⟩, ⟨false, false, [], [0, 1]⟩, ⟨false, false, [], []⟩, ⟨false, false, [], [3]⟩, ⟨false, false, [], [3, 4]⟩, ⟨true, false, [25, 26, 27, 32, 33, 34, 35, 36, 37, 38, 39, 40, 41, 42, 43, 44, 45, 46, 47, 48, 49, 50, 51, 8, 9], [3, 4, 5]⟩, ⟨false, false, [], []⟩, ⟨false, false, [], [7]⟩, ⟨false, false, [], [7, 8]⟩, ⟨false, false, [], [3, 4, 5, 6, 7, 8, 9]⟩, ⟨true, false, [25, 26, 27, 37, 38, 39, 40, 41, 42, 43, 44, 45, 46, 47, 48, 49, 50, 51, 8, 9], [3, 4, 5, 6, 7, 8, 9, 10]⟩, ⟨false, false, [], [0, 1, 2, 3, 4, 5, 6, 7, 8, 9, 10, 11]⟩, ⟨false, false, [], []⟩, ⟨false, false, [], []⟩, ⟨false, false, [], [14]⟩, ⟨false, false, [], [13, 14, 15]⟩, ⟨false, false, [], []⟩, ⟨false, false, [], [17]⟩, ⟨false, false, [], [17, 18]⟩, ⟨true, false, [25, 26, 27, 28, 29, 30, 31, 32, 33, 34, 35, 36, 37, 38, 39, 40, 41, 46, 47, 48, 49, 50, 51, 8, 9], [17, 18, 19]⟩, ⟨false, false, [], []⟩, ⟨false, false, [], [21]⟩, ⟨false, false, [], [21, 22]⟩, ⟨false, false, [], [17, 18, 19, 20, 21, 22, 23]⟩, ⟨true, false, [25, 26, 27, 28, 29, 30, 31, 32, 33, 34, 35, 36, 37, 38, 39, 40, 41, 51, 8, 9], [17, 18, 19, 20, 21, 22, 23, 24]⟩, ⟨false, false, [], [13, 14, 15, 16, 17, 18, 19, 20, 21, 22, 23, 24, 25]⟩, ⟨false, false, [], [0, 1, 2, 3, 4, 5, 6, 7, 8, 9, 10, 11, 12]⟩, ⟨false, false, [], [0, 1, 2, 3, 4, 5, 6, 7, 8, 9, 10, 11, 12, 13, 14, 15, 16, 17, 18, 19, 20, 21, 22, 23, 24, 25, 26, 27]⟩])]
theorem ok.twofish_Twofish_sums : fnOk rt.twofish_Twofish_sums Tryz.f55 = true := by kernel_rfl
theorem con.twofish_Twofish_sums {args : List V} {bs bs' : List B} {r : Oc} (h : FnVC C rt.twofish_Twofish_sums Tryz.f55 args bs r bs') (ha : Nat.ble args.length 52 = true := by rfl) : Con C N.twofish_Twofish_sums args bs r bs' := con_of_fn cok Tryz.func55 (by kernel_rfl) ok.twofish_Twofish_sums ha h
abbrev N.words_Rol32 : Nat := 56
def rt.words_Rol32 : Rt := []
theorem ok.words_Rol32 : fnOk rt.words_Rol32 Tryz.f56 = true := by kernel_rfl
theorem con.words_Rol32 {args : List V} {bs bs' : List B} {r : Oc} (h : FnVC C rt.words_Rol32 Tryz.f56 args bs r bs') (ha : Nat.ble args.length 17 = true := by rfl) : Con C N.words_Rol32 args bs r bs' := con_of_fn cok Tryz.func56 (by kernel_rfl) ok.words_Rol32 ha h
abbrev N.words_PutLe32 : Nat := 57
def rt.words_PutLe32 : Rt := []
theorem ok.words_PutLe32 : fnOk rt.words_PutLe32 Tryz.f57 = true := by kernel_rfl
theorem con.words_PutLe32 {args : List V} {bs bs' : List B} {r : Oc} (h : FnVC C rt.words_PutLe32 Tryz.f57 args bs r bs') (ha : Nat.ble args.length 6 = true := by rfl) : Con C N.words_PutLe32 args bs r bs' := con_of_fn cok Tryz.func57 (by kernel_rfl) ok.words_PutLe32 ha h
abbrev N.aria_fits : Nat := 58
def rt.aria_fits : Rt := []
theorem ok.aria_fits : fnOk rt.aria_fits Tryz.f58 = true := by kernel_rfl
theorem con.aria_fits {args : List V} {bs bs' : List B} {r : Oc} (h : FnVC C rt.aria_fits Tryz.f58 args bs r bs') (ha : Nat.ble args.length 17 = true := by rfl) : Con C N.aria_fits args bs r bs' := con_of_fn cok Tryz.func58 (by kernel_rfl) ok.aria_fits ha h
abbrev N.aria_made : Nat := 59
def rt.aria_made : Rt := []
theorem ok.aria_made : fnOk rt.aria_made Tryz.f59 = true := by kernel_rfl
theorem con.aria_made {args : List V} {bs bs' : List B} {r : Oc} (h : FnVC C rt.aria_made Tryz.f59 args bs r bs') (ha : Nat.ble args.length 22 = true := by rfl) : Con C N.aria_made args bs r bs' := con_of_fn cok Tryz.func59 (by kernel_rfl) ok.aria_made ha h
abbrev N.aria_boxes_keys : Nat := 60
def rt.aria_boxes_keys : Rt := [(10, [⟨false, false, [], []⟩, ⟨false, false, [], [0]⟩, ⟨true, false, [36, 37, 39, 40, 41, 42, 43, 44, 45, 46, 47, 48, 49, 50, 51, 52], []⟩, ⟨false, false, [], []⟩, ⟨false, false, [], [3]⟩, ⟨false, false, [], [3, 4]⟩, ⟨false, false, [], []⟩, ⟨false, false, [], [6]⟩, ⟨true, false, [36, 37, 38, 39, 40, 41, 45, 46, 47, 48, 49, 50, 51, 52], [6, 7]⟩, ⟨false, false, [], []⟩, ⟨false, false, [], []⟩, ⟨false, false, [], [9, 10]⟩, ⟨false, false, [], [9, 10, 11]⟩, ⟨false, false, [], [9, 10, 11, 12]⟩, ⟨true, false, [36, 37, 38, 39, 40, 41, 42, 43, 44, 51, 52], [9, 10, 11, 12, 13]⟩, ⟨true, true, [36, 37, 52], [2, 3, 4, 5, 6, 7, 8, 9, 10, 11, 12, 13, 14]⟩, ⟨false, false, [], [0, 1, 2, 3, 4, 5, 6, 7, 8, 9, 10, 11, 12, 13, 14, 15]⟩, ⟨true, true, [], [0, 1, 2, 3, 4, 5, 6, 7, 8, 9, 10, 11, 12, 13, 14, 15, 16]⟩]), (18, [⟨false, false, [], []⟩, ⟨false, false, [], [0]⟩, ⟨true, false, [79, 80, 81, 82, 83, 84, 85, 86, 87, 75, 88, 89, 15, 16], [0, 1]⟩, ⟨false, false, [], []⟩, ⟨false, false, [], [3]⟩, ⟨true, false, [76, 77, 78, 82, 83, 84, 85, 86, 87, 75, 88, 89, 15, 16], [3, 4]⟩, ⟨false, false, [], []⟩, ⟨false, false, [], [6]⟩, ⟨false, false, [], [6, 7]⟩, ⟨true, false, [76, 77, 78, 79, 80, 81, 86, 87, 75, 88, 89, 15, 16], [6, 7, 8]⟩, ⟨true, false, [76, 77, 78, 87, 75, 88, 89, 15, 16], [3, 4, 5, 6, 7, 8, 9]⟩, ⟨true, true, [75, 88, 89, 15, 16], [0, 1, 2, 3, 4, 5, 6, 7, 8, 9, 10]⟩, ⟨false, false, [], [0, 1, 2, 3, 4, 5, 6, 7, 8, 9, 10, 11]⟩, ⟨false, false, [], [0, 1, 2, 3, 4, 5, 6, 7, 8, 9, 10, 11, 12]⟩, ⟨false, false, [], [0, 1, 2, 3, 4, 5, 6, 7, 8, 9, 10, 11, 12]⟩, ⟨false, false, [], [0, 1, 2, 3, 4, 5, 6, 7, 8, 9, 10, 11, 12, 13]⟩, ⟨false, false, [], [0, 1, 2, 3, 4, 5, 6, 7, 8, 9, 10, 11, 12, 13, 14, 15]⟩])]
theorem ok.aria_boxes_keys : fnOk rt.aria_boxes_keys Tryz.f60 = true := by kernel_rfl
theorem con.aria_boxes_keys {args : List V} {bs bs' : List B} {r : Oc} (h : FnVC C rt.aria_boxes_keys Tryz.f60 args bs r bs') (ha : Nat.ble args.length 102 = true := by rfl) : Con C N.aria_boxes_keys args bs r bs' := con_of_fn cok Tryz.func60 (by kernel_rfl) ok.aria_boxes_keys ha h
abbrev N.aria_boxes_turn : Nat := 61
def rt.aria_boxes_turn : Rt := []
theorem ok.aria_boxes_turn : fnOk rt.aria_boxes_turn Tryz.f61 = true := by kernel_rfl
theorem con.aria_boxes_turn {args : List V} {bs bs' : List B} {r : Oc} (h : FnVC C rt.aria_boxes_turn Tryz.f61 args bs r bs') (ha : Nat.ble args.length 24 = true := by rfl) : Con C N.aria_boxes_turn args bs r bs' := con_of_fn cok Tryz.func61 (by kernel_rfl) ok.aria_boxes_turn ha h
abbrev N.words_Xor : Nat := 62
def rt.words_Xor : Rt := [(7, [⟨false, false, [], []⟩, ⟨false, false, [], []⟩, ⟨false, false, [], []⟩, ⟨false, false, [], []⟩, ⟨false, false, [], [2, 3]⟩, ⟨true, false, [21, 22, 27, 28, 29, 30, 31, 32], [2, 3, 4]⟩, ⟨false, false, [], []⟩, ⟨false, false, [], []⟩, ⟨false, false, [], [6, 7]⟩, ⟨true, false, [21, 22, 23, 24, 25, 26, 31, 32], [6, 7, 8]⟩, ⟨false, false, [], [2, 3, 4, 5, 6, 7, 8, 9]⟩, ⟨false, false, [], [0, 1, 2, 3, 4, 5, 6, 7, 8, 9, 10]⟩, ⟨true, true, [], [0, 1, 2, 3, 4, 5, 6, 7, 8, 9, 10, 11]⟩])]
theorem ok.words_Xor : fnOk rt.words_Xor Tryz.f62 = true := by kernel_rfl
theorem con.words_Xor {args : List V} {bs bs' : List B} {r : Oc} (h : FnVC C rt.words_Xor Tryz.f62 args bs r bs') (ha : Nat.ble args.length 35 = true := by rfl) : Con C N.words_Xor args bs r bs' := con_of_fn cok Tryz.func62 (by kernel_rfl) ok.words_Xor ha h
abbrev N.aria_boxes_layer : Nat := 63
def rt.aria_boxes_layer : Rt := []
theorem ok.aria_boxes_layer : fnOk rt.aria_boxes_layer Tryz.f63 = true := by kernel_rfl
theorem con.aria_boxes_layer {args : List V} {bs bs' : List B} {r : Oc} (h : FnVC C rt.aria_boxes_layer Tryz.f63 args bs r bs') (ha : Nat.ble args.length 36 = true := by rfl) : Con C N.aria_boxes_layer args bs r bs' := con_of_fn cok Tryz.func63 (by kernel_rfl) ok.aria_boxes_layer ha h
abbrev N.aria_Mix : Nat := 64
def rt.aria_Mix : Rt := [(10, [⟨false, false, [], []⟩, ⟨false, false, [], []⟩, ⟨false, false, [], [0, 1]⟩, ⟨true, false, [26, 27, 28, 29, 30, 31], [0, 1, 2]⟩, ⟨false, false, [], []⟩, ⟨false, false, [], []⟩, ⟨false, false, [], [4, 5]⟩, ⟨true, false, [22, 23, 24, 25, 30, 31], [4, 5, 6]⟩, ⟨false, false, [], [0, 1, 2, 3, 4, 5, 6, 7]⟩, ⟨false, false, [], [0, 1, 2, 3, 4, 5, 6, 7, 8]⟩, ⟨true, true, [], [0, 1, 2, 3, 4, 5, 6, 7, 8, 9]⟩])]
theorem ok.aria_Mix : fnOk rt.aria_Mix Tryz.f64 = true := by kernel_rfl
theorem con.aria_Mix {args : List V} {bs bs' : List B} {r : Oc} (h : FnVC C rt.aria_Mix Tryz.f64 args bs r bs') (ha : Nat.ble args.length 35 = true := by rfl) : Con C N.aria_Mix args bs r bs' := con_of_fn cok Tryz.func64 (by kernel_rfl) ok.aria_Mix ha h
abbrev N.small_loaded : Nat := 65
def rt.small_loaded : Rt := []
theorem ok.small_loaded : fnOk rt.small_loaded Tryz.f65 = true := by kernel_rfl
theorem con.small_loaded {args : List V} {bs bs' : List B} {r : Oc} (h : FnVC C rt.small_loaded Tryz.f65 args bs r bs') (ha : Nat.ble args.length 31 = true := by rfl) : Con C N.small_loaded args bs r bs' := con_of_fn cok Tryz.func65 (by kernel_rfl) ok.small_loaded ha h
abbrev N.small_grow : Nat := 66
def rt.small_grow : Rt := [(6, [⟨false, false, [], []⟩, ⟨false, false, [], [0]⟩, ⟨false, false, [], []⟩, ⟨false, false, [], []⟩, ⟨false, false, [], [3]⟩, ⟨false, false, [], [2, 3, 4]⟩, ⟨false, false, [], [0, 1]⟩, ⟨false, false, [], [0, 1, 2, 3, 4, 5, 6]⟩])]
theorem ok.small_grow : fnOk rt.small_grow Tryz.f66 = true := by kernel_rfl
theorem con.small_grow {args : List V} {bs bs' : List B} {r : Oc} (h : FnVC C rt.small_grow Tryz.f66 args bs r bs') (ha : Nat.ble args.length 65 = true := by rfl) : Con C N.small_grow args bs r bs' := con_of_fn cok Tryz.func66 (by kernel_rfl) ok.small_grow ha h
abbrev N.small_Small_xtea : Nat := 67
def rt.small_Small_xtea : Rt := []
theorem ok.small_Small_xtea : fnOk rt.small_Small_xtea Tryz.f67 = true := by kernel_rfl
theorem con.small_Small_xtea {args : List V} {bs bs' : List B} {r : Oc} (h : FnVC C rt.small_Small_xtea Tryz.f67 args bs r bs') (ha : Nat.ble args.length 82 = true := by rfl) : Con C N.small_Small_xtea args bs r bs' := con_of_fn cok Tryz.func67 (by kernel_rfl) ok.small_Small_xtea ha h
abbrev N.small_Small_magma : Nat := 68
def rt.small_Small_magma : Rt := [(3, [⟨false, false, [], []⟩, ⟨false, false, [], [0]⟩, ⟨false, false, [], [0, 1]⟩, ⟨true, false, [25, 26, 27, 28, 29, 30, 31, 32, 33, 34, 35, 11], [0, 1, 2]⟩, ⟨false, false, [], []⟩, ⟨false, false, [], [4]⟩, ⟨false, false, [], [4, 5]⟩, ⟨true, false, [21, 22, 23, 24, 29, 30, 31, 32, 33, 34, 35, 11], [4, 5, 6]⟩, ⟨false, false, [], []⟩, ⟨false, false, [], [8]⟩, ⟨false, false, [], [8, 9]⟩, ⟨true, false, [21, 22, 23, 24, 25, 26, 27, 28, 33, 34, 35, 11], [8, 9, 10]⟩, ⟨false, false, [], []⟩, ⟨false, false, [], [0, 1, 2, 3, 4, 5, 6, 7, 8, 9, 10, 11, 12]⟩, ⟨true, true, [11], [0, 1, 2, 3, 4, 5, 6, 7, 8, 9, 10, 11, 12, 13]⟩, ⟨false, false, [], [0, 1, 2, 3, 4, 5, 6, 7, 8, 9, 10, 11, 12, 13, 14]⟩])]
theorem ok.small_Small_magma : fnOk rt.small_Small_magma Tryz.f68 = true := by kernel_rfl
theorem con.small_Small_magma {args : List V} {bs bs' : List B} {r : Oc} (h : FnVC C rt.small_Small_magma Tryz.f68 args bs r bs') (ha : Nat.ble args.length 54 = true := by rfl) : Con C N.small_Small_magma args bs r bs' := con_of_fn cok Tryz.func68 (by kernel_rfl) ok.small_Small_magma ha h
abbrev N.small_Small_rc5 : Nat := 69
def rt.small_Small_rc5 : Rt := [(3, [⟨false, false, [], []⟩, ⟨false, false, [], []⟩, ⟨false, false, [], [1]⟩, ⟨true, false, [19, 23, 24, 25, 26, 27, 28, 1, 2], [1, 2]⟩, ⟨false, false, [], [0, 1, 2, 3]⟩, ⟨false, false, [], []⟩, ⟨false, false, [], []⟩, ⟨false, false, [], [6]⟩, ⟨true, false, [19, 20, 21, 22, 23, 24, 28, 1, 2], [6, 7]⟩, ⟨false, false, [], [5, 6, 7, 8]⟩, ⟨false, false, [], [0, 1, 2, 3, 4]⟩, ⟨false, false, [], [0, 1, 2, 3, 4, 5, 6, 7, 8, 9, 10]⟩]), (7, [⟨false, false, [], []⟩, ⟨false, false, [], []⟩, ⟨false, false, [], [0, 1]⟩, ⟨false, false, [], []⟩, ⟨false, false, [], [3]⟩, ⟨true, false, [33, 34, 35, 39, 40, 41, 42, 43, 44, 1], [3, 4]⟩, ⟨true, false, [40, 41, 42, 43, 44, 1], [0, 1, 2, 3, 4, 5]⟩, ⟨false, false, [], []⟩, ⟨false, false, [], []⟩, ⟨false, false, [], [7, 8]⟩, ⟨true, false, [33, 34, 35, 36, 37, 38, 39, 44, 1], [7, 8, 9]⟩, ⟨false, false, [], [0, 1, 2, 3, 4, 5, 6, 7, 8, 9, 10]⟩, ⟨false, false, [], [0, 1, 2, 3, 4, 5, 6, 7, 8, 9, 10, 11]⟩]), (8, [⟨false, false, [], []⟩, ⟨false, false, [], []⟩, ⟨false, false, [], [0, 1]⟩, ⟨false, false, [], []⟩, ⟨false, false, [], [3]⟩, ⟨true, false, [45, 46, 47, 51, 52, 53, 54, 55, 56, 57, 2], [3, 4]⟩, ⟨true, false, [52, 53, 54, 55, 56, 57, 2], [0, 1, 2, 3, 4, 5]⟩, ⟨false, false, [], []⟩, ⟨false, false, [], []⟩, ⟨false, false, [], [8]⟩, ⟨false, false, [], [7, 8, 9]⟩, ⟨true, false, [45, 46, 47, 48, 49, 50, 51, 57, 2], [7, 8, 9, 10]⟩, ⟨false, false, [], [0, 1, 2, 3, 4, 5, 6, 7, 8, 9, 10, 11]⟩, ⟨false, false, [], [0, 1, 2, 3, 4, 5, 6, 7, 8, 9, 10, 11, 12]⟩]), (15, [⟨false, false, [], []⟩, ⟨false, false, [], []⟩, ⟨false, false, [], [1]⟩, ⟨true, false, [91, 95, 96, 97, 98, 99, 100, 8, 9], [1, 2]⟩, ⟨false, false, [], [0, 1, 2, 3]⟩, ⟨false, false, [], []⟩, ⟨false, false, [], []⟩, ⟨false, false, [], [6]⟩, ⟨true, false, [91, 92, 93, 94, 95, 96, 100, 8, 9], [6, 7]⟩, ⟨false, false, [], [5, 6, 7, 8]⟩, ⟨false, false, [], [0, 1, 2, 3, 4]⟩, ⟨false, false, [], [0, 1, 2, 3, 4, 5, 6, 7, 8, 9, 10]⟩])]
theorem ok.small_Small_rc5 : fnOk rt.small_Small_rc5 Tryz.f69 = true := by kernel_rfl
theorem con.small_Small_rc5 {args : List V} {bs bs' : List B} {r : Oc} (h : FnVC C rt.small_Small_rc5 Tryz.f69 args bs r bs') (ha : Nat.ble args.length 101 = true := by rfl) : Con C N.small_Small_rc5 args bs r bs' := con_of_fn cok Tryz.func69 (by kernel_rfl) ok.small_Small_rc5 ha h
abbrev N.small_stored : Nat := 70
def rt.small_stored : Rt := []
theorem ok.small_stored : fnOk rt.small_stored Tryz.f70 = true := by kernel_rfl
theorem con.small_stored {args : List V} {bs bs' : List B} {r : Oc} (h : FnVC C rt.small_stored Tryz.f70 args bs r bs') (ha : Nat.ble args.length 20 = true := by rfl) : Con C N.small_stored args bs r bs' := con_of_fn cok Tryz.func70 (by kernel_rfl) ok.small_stored ha h
abbrev N.slices_Index_int : Nat := 71
def rt.slices_Index_int : Rt := []
theorem ok.slices_Index_int : fnOk rt.slices_Index_int Tryz.f71 = true := by kernel_rfl
theorem con.slices_Index_int {args : List V} {bs bs' : List B} {r : Oc} (h : FnVC C rt.slices_Index_int Tryz.f71 args bs r bs') (ha : Nat.ble args.length 19 = true := by rfl) : Con C N.slices_Index_int args bs r bs' := con_of_fn cok Tryz.func71 (by kernel_rfl) ok.slices_Index_int ha h
abbrev N.r6_Keys : Nat := 72
def rt.r6_Keys : Rt := []
theorem ok.r6_Keys : fnOk rt.r6_Keys Tryz.f72 = true := by kernel_rfl
theorem con.r6_Keys {args : List V} {bs bs' : List B} {r : Oc} (h : FnVC C rt.r6_Keys Tryz.f72 args bs r bs') (ha : Nat.ble args.length 67 = true := by rfl) : Con C N.r6_Keys args bs r bs' := con_of_fn cok Tryz.func72 (by kernel_rfl) ok.r6_Keys ha h
abbrev N.r7_Keys : Nat := 73
def rt.r7_Keys : Rt := [(8, [⟨false, false, [], []⟩, ⟨false, false, [], []⟩, ⟨false, false, [], []⟩, ⟨false, false, [], [1, 2]⟩, ⟨true, false, [21, 26, 27, 28, 29, 30, 31, 32, 33, 34, 35, 36, 4], [1, 2, 3]⟩, ⟨true, false, [21, 27, 28, 29, 30, 31, 32, 33, 34, 35, 36, 4], [1, 2, 3, 4]⟩, ⟨false, false, [], [1, 2, 3, 4, 5]⟩, ⟨false, false, [], []⟩, ⟨false, false, [], []⟩, ⟨false, false, [], [8]⟩, ⟨false, false, [], [7, 8, 9]⟩, ⟨true, false, [21, 22, 23, 24, 25, 26, 27, 33, 34, 35, 36, 4], [7, 8, 9, 10]⟩, ⟨true, false, [21, 22, 23, 24, 25, 26, 27, 34, 35, 36, 4], [7, 8, 9, 10, 11]⟩, ⟨false, false, [], [1, 2, 3, 4, 5, 6, 7, 8, 9, 10, 11, 12]⟩, ⟨false, false, [], [1, 2, 3, 4, 5, 6, 7, 8, 9, 10, 11, 12, 13]⟩, ⟨true, true, [4], [0, 1, 2, 3, 4, 5, 6, 7, 8, 9, 10, 11, 12, 13, 14]⟩, ⟨false, false, [], [0, 1, 2, 3, 4, 5, 6, 7, 8, 9, 10, 11, 12, 13, 14, 15]⟩])]
theorem ok.r7_Keys : fnOk rt.r7_Keys Tryz.f73 = true := by kernel_rfl
theorem con.r7_Keys {args : List V} {bs bs' : List B} {r : Oc} (h : FnVC C rt.r7_Keys Tryz.f73 args bs r bs') (ha : Nat.ble args.length 40 = true := by rfl) : Con C N.r7_Keys args bs r bs' := con_of_fn cok Tryz.func73 (by kernel_rfl) ok.r7_Keys ha h
abbrev N.r9_Keys : Nat := 74
def rt.r9_Keys : Rt := []
theorem ok.r9_Keys : fnOk rt.r9_Keys Tryz.f74 = true := by kernel_rfl
theorem con.r9_Keys {args : List V} {bs bs' : List B} {r : Oc} (h : FnVC C rt.r9_Keys Tryz.f74 args bs r bs') (ha : Nat.ble args.length 93 = true := by rfl) : Con C N.r9_Keys args bs r bs' := con_of_fn cok Tryz.func74 (by kernel_rfl) ok.r9_Keys ha h
abbrev N.r10_boxes : Nat := 75
def rt.r10_boxes : Rt := []
theorem ok.r10_boxes : fnOk rt.r10_boxes Tryz.f75 = true := by kernel_rfl
theorem con.r10_boxes {args : List V} {bs bs' : List B} {r : Oc} (h : FnVC C rt.r10_boxes Tryz.f75 args bs r bs') (ha : Nat.ble args.length 28 = true := by rfl) : Con C N.r10_boxes args bs r bs' := con_of_fn cok Tryz.func75 (by kernel_rfl) ok.r10_boxes ha h
abbrev N.r10_Boxes_keys : Nat := 76
def rt.r10_Boxes_keys : Rt := [(6, [⟨false, false, [], []⟩, ⟨false, false, [], []⟩, ⟨true, false, [38, 41, 42, 43, 44, 45, 46, 47], [1]⟩, ⟨false, false, [], []⟩, ⟨false, false, [], [3]⟩, ⟨true, false, [38, 39, 40, 44, 45, 46, 47], [3, 4]⟩, ⟨true, true, [45, 46, 47], [0, 1, 2, 3, 4, 5]⟩, ⟨false, false, [], []⟩, ⟨true, true, [47], [0, 1, 2, 3, 4, 5, 6, 7]⟩, ⟨false, false, [], [0, 1, 2, 3, 4, 5, 6, 7, 8]⟩, ⟨true, true, [], [0, 1, 2, 3, 4, 5, 6, 7, 8, 9]⟩]), (7, [⟨false, false, [], []⟩, ⟨false, false, [], []⟩, ⟨true, false, [48, 51, 52, 53, 54, 55, 56, 57, 58], [1]⟩, ⟨false, false, [], []⟩, ⟨false, false, [], [3]⟩, ⟨true, false, [48, 49, 50, 54, 55, 56, 57, 58], [3, 4]⟩, ⟨true, false, [55, 56, 57, 58], [0, 1, 2, 3, 4, 5]⟩, ⟨false, false, [], []⟩, ⟨true, false, [48, 49, 50, 51, 52, 53, 54, 57, 58], [7]⟩, ⟨true, true, [58], [0, 1, 2, 3, 4, 5, 6, 7, 8]⟩, ⟨false, false, [], [0, 1, 2, 3, 4, 5, 6, 7, 8, 9]⟩, ⟨true, true, [], [0, 1, 2, 3, 4, 5, 6, 7, 8, 9, 10]⟩]), (13, [⟨false, false, [], []⟩, ⟨false, false, [], []⟩, ⟨false, false, [], [1]⟩, ⟨false, false, [], [1, 2]⟩, ⟨true, false, [67, 72, 73, 74, 75, 76, 77, 78, 79, 80, 81, 82, 83, 84, 85, 9], [1, 2, 3]⟩, ⟨false, false, [], []⟩, ⟨false, false, [], [5]⟩, ⟨false, false, [], [5, 6]⟩, ⟨false, false, [], [5, 6, 7]⟩, ⟨true, false, [67, 68, 69, 70, 71, 77, 78, 79, 80, 81, 82, 83, 84, 85, 9], [5, 6, 7, 8]⟩, ⟨false, false, [], []⟩, ⟨false, false, [], []⟩, ⟨false, false, [], [11]⟩, ⟨false, false, [], [10, 11, 12]⟩, ⟨true, false, [67, 68, 69, 70, 71, 72, 73, 74, 75, 76, 82, 83, 84, 85, 9], [10, 11, 12, 13]⟩, ⟨true, false, [67, 68, 69, 70, 71, 83, 84, 85, 9], [5, 6, 7, 8, 9, 10, 11, 12, 13, 14]⟩, ⟨true, true, [67, 84, 85, 9], [1, 2, 3, 4, 5, 6, 7, 8, 9, 10, 11, 12, 13, 14, 15]⟩, ⟨false, false, [], [1, 2, 3, 4, 5, 6, 7, 8, 9, 10, 11, 12, 13, 14, 15, 16]⟩, ⟨true, true, [9], [0, 1, 2, 3, 4, 5, 6, 7, 8, 9, 10, 11, 12, 13, 14, 15, 16, 17]⟩, ⟨false, false, [], [0, 1, 2, 3, 4, 5, 6, 7, 8, 9, 10, 11, 12, 13, 14, 15, 16, 17, 18]⟩])]
theorem ok.r10_Boxes_keys : fnOk rt.r10_Boxes_keys Tryz.f76 = true := by kernel_rfl
theorem con.r10_Boxes_keys {args : List V} {bs bs' : List B} {r : Oc} (h : FnVC C rt.r10_Boxes_keys Tryz.f76 args bs r bs') (ha : Nat.ble args.length 87 = true := by rfl) : Con C N.r10_Boxes_keys args bs r bs' := con_of_fn cok Tryz.func76 (by kernel_rfl) ok.r10_Boxes_keys ha h
abbrev N.r8_stretched : Nat := 77
def rt.r8_stretched : Rt := []
theorem ok.r8_stretched : fnOk rt.r8_stretched Tryz.f77 = true := by kernel_rfl
theorem con.r8_stretched {args : List V} {bs bs' : List B} {r : Oc} (h : FnVC C rt.r8_stretched Tryz.f77 args bs r bs') (ha : Nat.ble args.length 70 = true := by rfl) : Con C N.r8_stretched args bs r bs' := con_of_fn cok Tryz.func77 (by kernel_rfl) ok.r8_stretched ha h
abbrev N.r8_big : Nat := 78
def rt.r8_big : Rt := []
theorem ok.r8_big : fnOk rt.r8_big Tryz.f78 = true := by kernel_rfl
theorem con.r8_big {args : List V} {bs bs' : List B} {r : Oc} (h : FnVC C rt.r8_big Tryz.f78 args bs r bs') (ha : Nat.ble args.length 22 = true := by rfl) : Con C N.r8_big args bs r bs' := con_of_fn cok Tryz.func78 (by kernel_rfl) ok.r8_big ha h
abbrev N.r6_Des_Block : Nat := 79
def rt.r6_Des_Block : Rt := []
theorem ok.r6_Des_Block : fnOk rt.r6_Des_Block Tryz.f79 = true := by kernel_rfl
theorem con.r6_Des_Block {args : List V} {bs bs' : List B} {r : Oc} (h : FnVC C rt.r6_Des_Block Tryz.f79 args bs r bs') (ha : Nat.ble args.length 46 = true := by rfl) : Con C N.r6_Des_Block args bs r bs' := con_of_fn cok Tryz.func79 (by kernel_rfl) ok.r6_Des_Block ha h
abbrev N.r7_Idea_Block : Nat := 80
def rt.r7_Idea_Block : Rt := [(7, [⟨false, false, [], []⟩, ⟨false, false, [], []⟩, ⟨false, false, [], []⟩, ⟨false, false, [], [2]⟩, ⟨false, false, [], [1, 2, 3]⟩, ⟨true, false, [19, 25, 26, 27, 28, 29, 30, 31, 32, 33, 34, 35], [1, 2, 3, 4]⟩, ⟨true, false, [19, 26, 27, 28, 29, 30, 31, 32, 33, 34, 35], [1, 2, 3, 4, 5]⟩, ⟨false, false, [], [1, 2, 3, 4, 5, 6]⟩, ⟨false, false, [], []⟩, ⟨false, false, [], []⟩, ⟨false, false, [], [9]⟩, ⟨false, false, [], [9, 10]⟩, ⟨false, false, [], [8, 9, 10, 11]⟩, ⟨true, false, [19, 20, 21, 22, 23, 24, 25, 26, 33, 34, 35], [8, 9, 10, 11, 12]⟩, ⟨true, false, [19, 20, 21, 22, 23, 24, 25, 26, 34, 35], [8, 9, 10, 11, 12, 13]⟩, ⟨false, false, [], [1, 2, 3, 4, 5, 6, 7, 8, 9, 10, 11, 12, 13, 14]⟩, ⟨false, false, [], [0, 1, 2, 3, 4, 5, 6, 7, 8, 9, 10, 11, 12, 13, 14, 15]⟩, ⟨true, true, [], [0, 1, 2, 3, 4, 5, 6, 7, 8, 9, 10, 11, 12, 13, 14, 15, 16]⟩]), (9, [⟨true, false, [38, 39, 40, 41, 42], []⟩, ⟨false, false, [], []⟩, ⟨false, false, [], [1]⟩, ⟨false, false, [], [1, 2]⟩, ⟨true, false, [37, 42], [1, 2, 3]⟩, ⟨true, true, [], [0, 1, 2, 3, 4]⟩, ⟨true, true, [], [0, 1, 2, 3, 4, 5]⟩]), (10, [⟨true, false, [44, 45, 46, 47, 48], []⟩, ⟨false, false, [], []⟩, ⟨false, false, [], [1]⟩, ⟨false, false, [], [1, 2]⟩, ⟨true, false, [43, 48], [1, 2, 3]⟩, ⟨true, true, [], [0, 1, 2, 3, 4]⟩, ⟨true, true, [], [0, 1, 2, 3, 4, 5]⟩]), (15, [⟨false, false, [], []⟩, ⟨false, false, [], []⟩, ⟨false, false, [], [1]⟩, ⟨true, false, [53, 57, 58, 59, 60, 61, 62, 63, 64, 10], [1, 2]⟩, ⟨false, false, [], [1, 2, 3]⟩, ⟨true, false, [53, 59, 60, 61, 62, 63, 64, 10], [1, 2, 3, 4]⟩, ⟨false, false, [], []⟩, ⟨false, false, [], [6]⟩, ⟨true, false, [53, 54, 55, 56, 57, 58, 62, 63, 64, 10], [6, 7]⟩, ⟨true, false, [53, 54, 55, 56, 57, 58, 63, 64, 10], [6, 7, 8]⟩, ⟨false, false, [], [1, 2, 3, 4, 5, 6, 7, 8, 9]⟩, ⟨true, true, [10], [0, 1, 2, 3, 4, 5, 6, 7, 8, 9, 10]⟩, ⟨false, false, [], [0, 1, 2, 3, 4, 5, 6, 7, 8, 9, 10, 11]⟩])]
theorem ok.r7_Idea_Block : fnOk rt.r7_Idea_Block Tryz.f80 = true := by kernel_rfl
theorem con.r7_Idea_Block {args : List V} {bs bs' : List B} {r : Oc} (h : FnVC C rt.r7_Idea_Block Tryz.f80 args bs r bs') (ha : Nat.ble args.length 66 = true := by rfl) : Con C N.r7_Idea_Block args bs r bs' := con_of_fn cok Tryz.func80 (by kernel_rfl) ok.r7_Idea_Block ha h
abbrev N.r9_Twofish_Block : Nat := 81
def rt.r9_Twofish_Block : Rt := [(10, [⟨false, false, [], []⟩, ⟨true, false, [44, 45, 46, 47, 48, 49, 50, 51, 52, 53, 54, 55, 56, 57, 58, 59, 60, 61, 62, 63, 64, 65, 66], [0]⟩, ⟨false, false, [], []⟩, ⟨false, false, [], [2]⟩, ⟨true, false, [42, 43, 47, 48, 49, 50, 51, 52, 53, 54, 55, 56, 57, 58, 59, 60, 61, 62, 63, 64, 65, 66], [2, 3]⟩, ⟨false, false, [], [0, 1, 2, 3, 4]⟩, ⟨false, false, [], []⟩, ⟨true, false, [42, 43, 44, 45, 46, 47, 50, 51, 52, 53, 54, 55, 56, 57, 58, 59, 60, 61, 62, 63, 64, 65, 66], [6]⟩, ⟨false, false, [], []⟩, ⟨false, false, [], [8]⟩, ⟨true, false, [42, 43, 44, 45, 46, 47, 48, 49, 53, 54, 55, 56, 57, 58, 59, 60, 61, 62, 63, 64, 65, 66], [8, 9]⟩, ⟨false, false, [], [6, 7, 8, 9, 10]⟩, ⟨false, false, [], []⟩, ⟨true, false, [42, 43, 44, 45, 46, 47, 48, 49, 50, 51, 52, 53, 56, 57, 58, 59, 60, 61, 62, 63, 64, 65, 66], [12]⟩, ⟨false, false, [], []⟩, ⟨false, false, [], [14]⟩, ⟨true, false, [42, 43, 44, 45, 46, 47, 48, 49, 50, 51, 52, 53, 54, 55, 59, 60, 61, 62, 63, 64, 65, 66], [14, 15]⟩, ⟨false, false, [], [12, 13, 14, 15, 16]⟩, ⟨false, false, [], []⟩, ⟨true, false, [42, 43, 44, 45, 46, 47, 48, 49, 50, 51, 52, 53, 54, 55, 56, 57, 58, 59, 62, 63, 64, 65, 66], [18]⟩, ⟨false, false, [], []⟩, ⟨false, false, [], [20]⟩, ⟨true, false, [42, 43, 44, 45, 46, 47, 48, 49, 50, 51, 52, 53, 54, 55, 56, 57, 58, 59, 60, 61, 65, 66], [20, 21]⟩, ⟨false, false, [], [18, 19, 20, 21, 22]⟩, ⟨false, false, [], [0, 1, 2, 3, 4, 5, 6, 7, 8, 9, 10, 11, 12, 13, 14, 15, 16, 17, 18, 19, 20, 21, 22, 23]⟩, ⟨true, true, [], [0, 1, 2, 3, 4, 5, 6, 7, 8, 9, 10, 11, 12, 13, 14, 15, 16, 17, 18, 19, 20, 21, 22, 23, 24]⟩]), (16, [⟨false, false, [], []⟩, ⟨true, false, [91, 92, 93, 94, 95, 96, 97, 98, 99, 100, 101], [0]⟩, ⟨true, false, [92, 93, 94, 95, 96, 97, 98, 99, 100, 101], [0, 1]⟩, ⟨false, false, [], []⟩, ⟨false, false, [], []⟩, ⟨false, false, [], []⟩, ⟨false, false, [], [5]⟩, ⟨false, false, [], [5, 6]⟩, ⟨false, false, [], [4, 5, 6, 7]⟩, ⟨true, false, [89, 90, 91, 92, 99, 100, 101], [4, 5, 6, 7, 8]⟩, ⟨false, false, [], [3, 4, 5, 6, 7, 8, 9]⟩, ⟨false, false, [], [0, 1, 2, 3, 4, 5, 6, 7, 8, 9, 10]⟩, ⟨false, false, [], [0, 1, 2, 3, 4, 5, 6, 7, 8, 9, 10, 11]⟩, ⟨true, true, [], [0, 1, 2, 3, 4, 5, 6, 7, 8, 9, 10, 11, 12]⟩]), (17, [⟨false, false, [], []⟩, ⟨true, false, [104, 105, 106, 107, 108, 109, 110, 111, 112, 113, 114], [0]⟩, ⟨false, false, [], []⟩, ⟨false, false, [], []⟩, ⟨false, false, [], []⟩, ⟨false, false, [], [4]⟩, ⟨false, false, [], [4, 5]⟩, ⟨false, false, [], [3, 4, 5, 6]⟩, ⟨true, false, [102, 103, 104, 111, 112, 113, 114], [3, 4, 5, 6, 7]⟩, ⟨false, false, [], [2, 3, 4, 5, 6, 7, 8]⟩, ⟨false, false, [], [0, 1, 2, 3, 4, 5, 6, 7, 8, 9]⟩, ⟨true, true, [114], [0, 1, 2, 3, 4, 5, 6, 7, 8, 9, 10]⟩, ⟨false, false, [], [0, 1, 2, 3, 4, 5, 6, 7, 8, 9, 10, 11]⟩, ⟨true, true, [], [0, 1, 2, 3, 4, 5, 6, 7, 8, 9, 10, 11, 12]⟩]), (18, [⟨false, false, [], []⟩, ⟨true, false, [117, 118, 119, 120, 121, 122, 123, 124, 125, 126, 127, 128, 129, 130, 131, 132, 133, 134, 135, 136, 137, 138, 139], [0]⟩, ⟨false, false, [], []⟩, ⟨false, false, [], [2]⟩, ⟨true, false, [115, 116, 120, 121, 122, 123, 124, 125, 126, 127, 128, 129, 130, 131, 132, 133, 134, 135, 136, 137, 138, 139], [2, 3]⟩, ⟨false, false, [], [0, 1, 2, 3, 4]⟩, ⟨false, false, [], []⟩, ⟨true, false, [115, 116, 117, 118, 119, 120, 123, 124, 125, 126, 127, 128, 129, 130, 131, 132, 133, 134, 135, 136, 137, 138, 139], [6]⟩, ⟨false, false, [], []⟩, ⟨false, false, [], [8]⟩, ⟨true, false, [115, 116, 117, 118, 119, 120, 121, 122, 126, 127, 128, 129, 130, 131, 132, 133, 134, 135, 136, 137, 138, 139], [8, 9]⟩, ⟨false, false, [], [6, 7, 8, 9, 10]⟩, ⟨false, false, [], []⟩, ⟨true, false, [115, 116, 117, 118, 119, 120, 121, 122, 123, 124, 125, 126, 129, 130, 131, 132, 133, 134, 135, 136, 137, 138, 139], [12]⟩, ⟨false, false, [], []⟩, ⟨false, false, [], [14]⟩, ⟨true, false, [115, 116, 117, 118, 119, 120, 121, 122, 123, 124, 125, 126, 127, 128, 132, 133, 134, 135, 136, 137, 138, 139], [14, 15]⟩, ⟨false, false, [], [12, 13, 14, 15, 16]⟩, ⟨false, false, [], []⟩, ⟨true, false, [115, 116, 117, 118, 119, 120, 121, 122, 123, 124, 125, 126, 127, 128, 129, 130, 131, 132, 135, 136, 137, 138, 139], [18]⟩, ⟨false, false, [], []⟩, ⟨false, false, [], [20]⟩, ⟨true, false, [115, 116, 117, 118, 119, 120, 121, 122, 123, 124, 125, 126, 127, 128, 129, 130, 131, 132, 133, 134, 138, 139], [20, 21]⟩, ⟨false, false, [], [18, 19, 20, 21, 22]⟩, ⟨false, false, [], [0, 1, 2, 3, 4, 5, 6, 7, 8, 9, 10, 11, 12, 13, 14, 15, 16, 17, 18, 19, 20, 21, 22, 23]⟩, ⟨true, true, [], [0, 1, 2, 3, 4, 5, 6, 7, 8, 9, 10, 11, 12, 13, 14, 15, 16, 17, 18, 19, 20, 21, 22, 23, 24]⟩]), (19, [⟨false, false, [], []⟩, ⟨true, false, [142, 143, 144, 145, 146, 147, 148, 149, 150, 151, 152, 153, 154, 155, 156, 157, 158, 159, 160, 161, 162, 163, 164], [0]⟩, ⟨false, false, [], []⟩, ⟨false, false, [], [2]⟩, ⟨true, false, [140, 141, 145, 146, 147, 148, 149, 150, 151, 152, 153, 154, 155, 156, 157, 158, 159, 160, 161, 162, 163, 164], [2, 3]⟩, ⟨false, false, [], [0, 1, 2, 3, 4]⟩, ⟨false, false, [], []⟩, ⟨true, false, [140, 141, 142, 143, 144, 145, 148, 149, 150, 151, 152, 153, 154, 155, 156, 157, 158, 159, 160, 161, 162, 163, 164], [6]⟩, ⟨false, false, [], []⟩, ⟨false, false, [], [8]⟩, ⟨true, false, [140, 141, 142, 143, 144, 145, 146, 147, 151, 152, 153, 154, 155, 156, 157, 158, 159, 160, 161, 162, 163, 164], [8, 9]⟩, ⟨false, false, [], [6, 7, 8, 9, 10]⟩, ⟨false, false, [], []⟩, ⟨true, false, [140, 141, 142, 143, 144, 145, 146, 147, 148, 149, 150, 151, 154, 155, 156, 157, 158, 159, 160, 161, 162, 163, 164], [12]⟩, ⟨false, false, [], []⟩, ⟨false, false, [], [14]⟩, ⟨true, false, [140, 141, 142, 143, 144, 145, 146, 147, 148, 149, 150, 151, 152, 153, 157, 158, 159, 160, 161, 162, 163, 164], [14, 15]⟩, ⟨false, false, [], [12, 13, 14, 15, 16]⟩, ⟨false, false, [], []⟩, ⟨true, false, [140, 141, 142, 143, 144, 145, 146, 147, 148, 149, 150, 151, 152, 153, 154, 155, 156, 157, 160, 161, 162, 163, 164], [18]⟩, ⟨false, false, [], []⟩, ⟨false, false, [], [20]⟩, ⟨true, false, [140, 141, 142, 143, 144, 145, 146, 147, 148, 149, 150, 151, 152, 153, 154, 155, 156, 157, 158, 159, 163, 164], [20, 21]⟩, ⟨false, false, [], [18, 19, 20, 21, 22]⟩, ⟨false, false, [], [0, 1, 2, 3, 4, 5, 6, 7, 8, 9, 10, 11, 12, 13, 14, 15, 16, 17, 18, 19, 20, 21, 22, 23]⟩, ⟨true, true, [], [0, 1, 2, 3, 4, 5, 6, 7, 8, 9, 10, 11, 12, 13, 14, 15, 16, 17, 18, 19, 20, 21, 22, 23, 24]⟩]), (24, [⟨false, false, [], []⟩, ⟨true, false, [180, 181, 182, 183, 184, 185, 186, 187, 188, 189, 190], [0]⟩, ⟨false, false, [], []⟩, ⟨false, false, [], []⟩, ⟨false, false, [], []⟩, ⟨false, false, [], [4]⟩, ⟨false, false, [], [4, 5]⟩, ⟨false, false, [], [3, 4, 5, 6]⟩, ⟨true, false, [178, 179, 180, 187, 188, 189, 190], [3, 4, 5, 6, 7]⟩, ⟨false, false, [], [2, 3, 4, 5, 6, 7, 8]⟩, ⟨false, false, [], [0, 1, 2, 3, 4, 5, 6, 7, 8, 9]⟩, ⟨true, true, [190], [0, 1, 2, 3, 4, 5, 6, 7, 8, 9, 10]⟩, ⟨false, false, [], [0, 1, 2, 3, 4, 5, 6, 7, 8, 9, 10, 11]⟩, ⟨true, true, [], [0, 1, 2, 3, 4, 5, 6, 7, 8, 9, 10, 11, 12]⟩]), (25, [⟨false, false, [], []⟩, ⟨true, false, [193, 194, 195, 196, 197, 198, 199, 200, 201, 202, 203], [0]⟩, ⟨true, false, [194, 195, 196, 197, 198, 199, 200, 201, 202, 203], [0, 1]⟩, ⟨false, false, [], []⟩, ⟨false, false, [], []⟩, ⟨false, false, [], []⟩, ⟨false, false, [], [5]⟩, ⟨false, false, [], [5, 6]⟩, ⟨false, false, [], [4, 5, 6, 7]⟩, ⟨true, false, [191, 192, 193, 194, 201, 202, 203], [4, 5, 6, 7, 8]⟩, ⟨false, false, [], [3, 4, 5, 6, 7, 8, 9]⟩, ⟨false, false, [], [0, 1, 2, 3, 4, 5, 6, 7, 8, 9, 10]⟩, ⟨false, false, [], [0, 1, 2, 3, 4, 5, 6, 7, 8, 9, 10, 11]⟩, ⟨true, true, [], [0, 1, 2, 3, 4, 5, 6, 7, 8, 9, 10, 11, 12]⟩]), (27, [⟨false, false, [], []⟩, ⟨true, false, [215, 216, 217, 218, 219, 220, 221, 222, 223, 224, 225, 226, 227, 228, 229, 230, 231, 232, 233, 234, 235, 236, 237], [0]⟩, ⟨false, false, [], []⟩, ⟨false, false, [], [2]⟩, ⟨true, false, [213, 214, 218, 219, 220, 221, 222, 223, 224, 225, 226, 227, 228, 229, 230, 231, 232, 233, 234, 235, 236, 237], [2, 3]⟩, ⟨false, false, [], [0, 1, 2, 3, 4]⟩, ⟨false, false, [], []⟩, ⟨true, false, [213, 214, 215, 216, 217, 218, 221, 222, 223, 224, 225, 226, 227, 228, 229, 230, 231, 232, 233, 234, 235, 236, 237], [6]⟩, ⟨false, false, [], []⟩, ⟨false, false, [], [8]⟩, ⟨true, false, [213, 214, 215, 216, 217, 218, 219, 220, 224, 225, 226, 227, 228, 229, 230, 231, 232, 233, 234, 235, 236, 237], [8, 9]⟩, ⟨false, false, [], [6, 7, 8, 9, 10]⟩, ⟨false, false, [], []⟩, ⟨true, false, [213, 214, 215, 216, 217, 218, 219, 220, 221, 222, 223, 224, 227, 228, 229, 230, 231, 232, 233, 234, 235, 236, 237], [12]⟩, ⟨false, false, [], []⟩, ⟨false, false, [], [14]⟩, ⟨true, false, [213, 214, 215, 216, 217, 218, 219, 220, 221, 222, 223, 224, 225, 226, 230, 231, 232, 233, 234, 235, 236, 237], [14, 15]⟩, ⟨false, false, [], [12, 13, 14, 15, 16]⟩, ⟨false, false, [], []⟩, ⟨true, false, [213, 214, 215, 216, 217, 218, 219, 220, 221, 222, 223, 224, 225, 226, 227, 228, 229, 230, 233, 234, 235, 236, 237], [18]⟩, ⟨false, false, [], []⟩, ⟨false, false, [], [20]⟩, ⟨true, false, [213, 214, 215, 216, 217, 218, 219, 220, 221, 222, 223, 224, 225, 226, 227, 228, 229, 230, 231, 232, 236, 237], [20, 21]⟩, ⟨false, false, [], [18, 19, 20, 21, 22]⟩, ⟨false, false, [], [0, 1, 2, 3, 4, 5, 6, 7, 8, 9, 10, 11, 12, 13, 14, 15, 16, 17, 18, 19, 20, 21, 22, 23]⟩, ⟨true, true, [], [0, 1, 2, 3, 4, 5, 6, 7, 8, 9, 10, 11, 12, 13, 14, 15, 16, 17, 18, 19, 20, 21, 22, 23, 24]⟩])]
theorem ok.r9_Twofish_Block : fnOk rt.r9_Twofish_Block Tryz.f81 = true := by kernel_rfl
theorem con.r9_Twofish_Block {args : List V} {bs bs' : List B} {r : Oc} (h : FnVC C rt.r9_Twofish_Block Tryz.f81 args bs r bs') (ha : Nat.ble args.length 249 = true := by rfl) : Con C N.r9_Twofish_Block args bs r bs' := con_of_fn cok Tryz.func81 (by kernel_rfl) ok.r9_Twofish_Block ha h
abbrev N.r10_Aria_Block : Nat := 82
def rt.r10_Aria_Block : Rt := [(6, [⟨false, false, [], []⟩, ⟨false, false, [], [0]⟩, ⟨false, false, [], [0, 1]⟩, ⟨true, false, [35, 36, 37, 38, 39, 40, 41, 42, 43, 44, 1], [0, 1, 2]⟩, ⟨false, false, [], []⟩, ⟨true, false, [37, 38, 39, 40, 41, 42, 43, 44, 1], [0, 1, 2, 3, 4]⟩, ⟨false, false, [], []⟩, ⟨false, false, [], [6]⟩, ⟨false, false, [], [6, 7]⟩, ⟨true, false, [31, 32, 33, 34, 35, 36, 41, 42, 43, 44, 1], [6, 7, 8]⟩, ⟨false, false, [], []⟩, ⟨false, false, [], [6, 7, 8, 9, 10]⟩, ⟨true, false, [31, 32, 33, 34, 35, 36, 44, 1], [6, 7, 8, 9, 10, 11]⟩, ⟨true, true, [1], [0, 1, 2, 3, 4, 5, 6, 7, 8, 9, 10, 11, 12]⟩, ⟨false, false, [], [0, 1, 2, 3, 4, 5, 6, 7, 8, 9, 10, 11, 12, 13]⟩]), (10, [⟨false, false, [], []⟩, ⟨false, false, [], [0]⟩, ⟨false, false, [], [0, 1]⟩, ⟨true, false, [55, 56, 57, 58, 59, 60, 61, 62, 63, 64, 65, 66, 67, 68, 1], [0, 1, 2]⟩, ⟨false, false, [], []⟩, ⟨false, false, [], [4]⟩, ⟨false, false, [], [4, 5]⟩, ⟨false, false, [], []⟩, ⟨true, false, [51, 52, 53, 54, 55, 56, 57, 60, 61, 62, 63, 64, 65, 66, 67, 68, 1], [7]⟩, ⟨true, false, [61, 62, 63, 64, 65, 66, 67, 68, 1], [0, 1, 2, 3, 4, 5, 6, 7, 8]⟩, ⟨false, false, [], []⟩, ⟨false, false, [], [10]⟩, ⟨false, false, [], [10, 11]⟩, ⟨true, false, [51, 52, 53, 54, 55, 56, 57, 58, 59, 60, 65, 66, 67, 68, 1], [10, 11, 12]⟩, ⟨false, false, [], []⟩, ⟨false, false, [], [10, 11, 12, 13, 14]⟩, ⟨true, false, [51, 52, 53, 54, 55, 56, 57, 58, 59, 60, 68, 1], [10, 11, 12, 13, 14, 15]⟩, ⟨true, true, [1], [0, 1, 2, 3, 4, 5, 6, 7, 8, 9, 10, 11, 12, 13, 14, 15, 16]⟩, ⟨false, false, [], [0, 1, 2, 3, 4, 5, 6, 7, 8, 9, 10, 11, 12, 13, 14, 15, 16, 17]⟩]), (15, [⟨false, false, [], []⟩, ⟨false, false, [], [0]⟩, ⟨false, false, [], [0, 1]⟩, ⟨true, false, [79, 80, 81, 82, 83, 84, 85, 86, 87, 88, 89, 90, 1], [0, 1, 2]⟩, ⟨false, false, [], []⟩, ⟨false, false, [], [4]⟩, ⟨false, false, [], [4, 5]⟩, ⟨false, false, [], []⟩, ⟨false, false, [], []⟩, ⟨false, false, [], [8]⟩, ⟨false, false, [], [8, 9]⟩, ⟨true, false, [75, 76, 77, 78, 79, 80, 81, 82, 87, 88, 89, 90, 1], [8, 9, 10]⟩, ⟨false, false, [], []⟩, ⟨false, false, [], [8, 9, 10, 11, 12]⟩, ⟨true, false, [75, 76, 77, 78, 79, 80, 81, 82, 90, 1], [8, 9, 10, 11, 12, 13]⟩, ⟨true, true, [1], [0, 1, 2, 3, 4, 5, 6, 7, 8, 9, 10, 11, 12, 13, 14]⟩, ⟨false, false, [], [0, 1, 2, 3, 4, 5, 6, 7, 8, 9, 10, 11, 12, 13, 14, 15]⟩]), (16, [⟨false, false, [], []⟩, ⟨false, false, [], [0]⟩, ⟨false, false, [], [0, 1]⟩, ⟨true, false, [95, 96, 97, 98, 99, 100, 101, 102, 103, 104, 105, 106, 107, 108, 109, 110, 111, 112, 113, 6, 7], [0, 1, 2]⟩, ⟨false, false, [], []⟩, ⟨false, false, [], []⟩, ⟨false, false, [], [5]⟩, ⟨false, false, [], [5, 6]⟩, ⟨true, false, [91, 92, 93, 94, 95, 100, 101, 102, 103, 104, 105, 106, 107, 108, 109, 110, 111, 112, 113, 6, 7], [5, 6, 7]⟩, ⟨false, false, [], []⟩, ⟨false, false, [], [5, 6, 7, 8, 9]⟩, ⟨true, false, [91, 92, 93, 94, 95, 103, 104, 105, 106, 107, 108, 109, 110, 111, 112, 113, 6, 7], [5, 6, 7, 8, 9, 10]⟩, ⟨true, false, [91, 92, 93, 94, 104, 105, 106, 107, 108, 109, 110, 111, 112, 113, 6, 7], [4, 5, 6, 7, 8, 9, 10, 11]⟩, ⟨true, false, [105, 106, 107, 108, 109, 110, 111, 112, 113, 6, 7], [0, 1, 2, 3, 4, 5, 6, 7, 8, 9, 10, 11, 12]⟩, ⟨false, false, [], []⟩, ⟨false, false, [], [14]⟩, ⟨false, false, [], [14, 15]⟩, ⟨true, false, [91, 92, 93, 94, 95, 96, 97, 98, 99, 100, 101, 102, 103, 104, 109, 110, 111, 112, 113, 6, 7], [14, 15, 16]⟩, ⟨false, false, [], []⟩, ⟨false, false, [], [18]⟩, ⟨false, false, [], [14, 15, 16, 17, 18, 19]⟩, ⟨true, false, [91, 92, 93, 94, 95, 96, 97, 98, 99, 100, 101, 102, 103, 104, 113, 6, 7], [14, 15, 16, 17, 18, 19, 20]⟩, ⟨true, true, [6, 7], [0, 1, 2, 3, 4, 5, 6, 7, 8, 9, 10, 11, 12, 13, 14, 15, 16, 17, 18, 19, 20, 21]⟩, ⟨false, false, [], [0, 1, 2, 3, 4, 5, 6, 7, 8, 9, 10, 11, 12, 13, 14, 15, 16, 17, 18, 19, 20, 21, 22]⟩, ⟨false, false, [], [0, 1, 2, 3, 4, 5, 6, 7, 8, 9, 10, 11, 12, 13, 14, 15, 16, 17, 18, 19, 20, 21, 22, 23]⟩])]
theorem ok.r10_Aria_Block : fnOk rt.r10_Aria_Block Tryz.f82 = true := by kernel_rfl
theorem con.r10_Aria_Block {args : List V} {bs bs' : List B} {r : Oc} (h : FnVC C rt.r10_Aria_Block Tryz.f82 args bs r bs') (ha : Nat.ble args.length 114 = true := by rfl) : Con C N.r10_Aria_Block args bs r bs' := con_of_fn cok Tryz.func82 (by kernel_rfl) ok.r10_Aria_Block ha h
abbrev N.r8_Small_Block : Nat := 83
def rt.r8_Small_Block : Rt := [(5, [⟨false, false, [], []⟩, ⟨false, false, [], []⟩, ⟨false, false, [], [1]⟩, ⟨true, false, [25, 29, 30, 31, 32, 33, 24, 34, 35, 9, 10], [1, 2]⟩, ⟨false, false, [], []⟩, ⟨false, false, [], [4]⟩, ⟨true, false, [25, 26, 27, 28, 32, 33, 24, 34, 35, 9, 10], [4, 5]⟩, ⟨false, false, [], []⟩, ⟨true, true, [24, 34, 35, 9, 10], [0, 1, 2, 3, 4, 5, 6, 7]⟩, ⟨false, false, [], [0, 1, 2, 3, 4, 5, 6, 7, 8]⟩, ⟨false, false, [], [0, 1, 2, 3, 4, 5, 6, 7, 8, 9]⟩, ⟨false, false, [], [0, 1, 2, 3, 4, 5, 6, 7, 8, 9]⟩, ⟨false, false, [], [0, 1, 2, 3, 4, 5, 6, 7, 8, 9, 10]⟩, ⟨false, false, [], [0, 1, 2, 3, 4, 5, 6, 7, 8, 9, 10, 11, 12]⟩]), (8, [⟨false, false, [], []⟩, ⟨false, false, [], [0]⟩, ⟨true, false, [46, 47, 48, 12, 13], [0, 1]⟩, ⟨false, false, [], []⟩, ⟨false, false, [], [3]⟩, ⟨true, false, [43, 44, 45, 12, 13], [3, 4]⟩, ⟨false, false, [], [0, 1, 2]⟩, ⟨false, false, [], [0, 1, 2, 3, 4, 5, 6]⟩])]
theorem ok.r8_Small_Block : fnOk rt.r8_Small_Block Tryz.f83 = true := by kernel_rfl
theorem con.r8_Small_Block {args : List V} {bs bs' : List B} {r : Oc} (h : FnVC C rt.r8_Small_Block Tryz.f83 args bs r bs') (ha : Nat.ble args.length 75 = true := by rfl) : Con C N.r8_Small_Block args bs r bs' := con_of_fn cok Tryz.func83 (by kernel_rfl) ok.r8_Small_Block ha h
abbrev N.des_chosen : Nat := 84
def rt.des_chosen : Rt := []
theorem ok.des_chosen : fnOk rt.des_chosen Tryz.f84 = true := by kernel_rfl
theorem con.des_chosen {args : List V} {bs bs' : List B} {r : Oc} (h : FnVC C rt.des_chosen Tryz.f84 args bs r bs') (ha : Nat.ble args.length 12 = true := by rfl) : Con C N.des_chosen args bs r bs' := con_of_fn cok Tryz.func84 (by kernel_rfl) ok.des_chosen ha h
abbrev N.slices_Clone_int : Nat := 85
def rt.slices_Clone_int : Rt := []
theorem ok.slices_Clone_int : fnOk rt.slices_Clone_int Tryz.f85 = true := by kernel_rfl
theorem con.slices_Clone_int {args : List V} {bs bs' : List B} {r : Oc} (h : FnVC C rt.slices_Clone_int Tryz.f85 args bs r bs') (ha : Nat.ble args.length 8 = true := by rfl) : Con C N.slices_Clone_int args bs r bs' := con_of_fn cok Tryz.func85 (by kernel_rfl) ok.slices_Clone_int ha h
abbrev N.bits_Permute : Nat := 86
def rt.bits_Permute : Rt := [(7, [⟨false, false, [], []⟩, ⟨false, false, [], []⟩, ⟨false, false, [], [1]⟩, ⟨false, false, [], [0, 1, 2]⟩, ⟨true, false, [40, 41, 42, 43, 44, 45, 46, 47, 48, 49, 50, 51, 52], [0, 1, 2, 3]⟩, ⟨false, false, [], []⟩, ⟨false, false, [], []⟩, ⟨false, false, [], []⟩, ⟨false, false, [], [6, 7]⟩, ⟨true, false, [35, 36, 37, 38, 39, 40, 45, 46, 47, 48, 49, 50, 51, 52], [6, 7, 8]⟩, ⟨true, false, [35, 36, 37, 38, 39, 46, 47, 48, 49, 50, 51, 52], [5, 6, 7, 8, 9]⟩, ⟨false, false, [], []⟩, ⟨false, false, [], [11]⟩, ⟨false, false, [], [11, 12]⟩, ⟨false, false, [], [5, 6, 7, 8, 9, 10, 11, 12, 13]⟩, ⟨true, false, [35, 36, 37, 38, 39, 51, 52], [5, 6, 7, 8, 9, 10, 11, 12, 13, 14]⟩, ⟨false, false, [], [0, 1, 2, 3, 4, 5, 6, 7, 8, 9, 10, 11, 12, 13, 14, 15]⟩, ⟨false, false, [], [0, 1, 2, 3, 4, 5, 6, 7, 8, 9, 10, 11, 12, 13, 14, 15, 16]⟩, ⟨true, true, [], [0, 1, 2, 3, 4, 5, 6, 7, 8, 9, 10, 11, 12, 13, 14, 15, 16, 17]⟩])]
theorem ok.bits_Permute : fnOk rt.bits_Permute Tryz.f86 = true := by kernel_rfl
theorem con.bits_Permute {args : List V} {bs bs' : List B} {r : Oc} (h : FnVC C rt.bits_Permute Tryz.f86 args bs r bs') (ha : Nat.ble args.length 55 = true := by rfl) : Con C N.bits_Permute args bs r bs' := con_of_fn cok Tryz.func86 (by kernel_rfl) ok.bits_Permute ha h
abbrev N.des_first : Nat := 87
def rt.des_first : Rt := []
theorem ok.des_first : fnOk rt.des_first Tryz.f87 = true := by kernel_rfl
theorem con.des_first {args : List V} {bs bs' : List B} {r : Oc} (h : FnVC C rt.des_first Tryz.f87 args bs r bs') (ha : Nat.ble args.length 15 = true := by rfl) : Con C N.des_first args bs r bs' := con_of_fn cok Tryz.func87 (by kernel_rfl) ok.des_first ha h
abbrev N.des_F : Nat := 88
def rt.des_F : Rt := [(14, [⟨false, false, [], []⟩, ⟨false, false, [], []⟩, ⟨false, false, [], [1]⟩, ⟨false, false, [], [0, 1, 2]⟩, ⟨true, false, [64, 65, 66, 67, 68, 69, 70, 71, 72, 73, 74, 75, 76], [0, 1, 2, 3]⟩, ⟨false, false, [], []⟩, ⟨false, false, [], []⟩, ⟨true, false, [59, 60, 61, 62, 63, 67, 68, 69, 70, 71, 72, 73, 74, 75, 76], [5, 6]⟩, ⟨false, false, [], []⟩, ⟨false, false, [], [5, 6, 7, 8]⟩, ⟨true, false, [59, 60, 61, 62, 63, 70, 71, 72, 73, 74, 75, 76], [5, 6, 7, 8, 9]⟩, ⟨false, false, [], []⟩, ⟨false, false, [], [11]⟩, ⟨false, false, [], [11, 12]⟩, ⟨false, false, [], [11, 12, 13]⟩, ⟨false, false, [], [5, 6, 7, 8, 9, 10, 11, 12, 13, 14]⟩, ⟨false, false, [], [0, 1, 2, 3, 4, 5, 6, 7, 8, 9, 10, 11, 12, 13, 14, 15]⟩, ⟨false, false, [], [0, 1, 2, 3, 4, 5, 6, 7, 8, 9, 10, 11, 12, 13, 14, 15, 16]⟩, ⟨true, true, [], [0, 1, 2, 3, 4, 5, 6, 7, 8, 9, 10, 11, 12, 13, 14, 15, 16, 17]⟩])]
theorem ok.des_F : fnOk rt.des_F Tryz.f88 = true := by kernel_rfl
theorem con.des_F {args : List V} {bs bs' : List B} {r : Oc} (h : FnVC C rt.des_F Tryz.f88 args bs r bs') (ha : Nat.ble args.length 86 = true := by rfl) : Con C N.des_F args bs r bs' := con_of_fn cok Tryz.func88 (by kernel_rfl) ok.des_F ha h
abbrev N.bits_Invert : Nat := 89
def rt.bits_Invert : Rt := []
theorem ok.bits_Invert : fnOk rt.bits_Invert Tryz.f89 = true := by kernel_rfl
theorem con.bits_Invert {args : List V} {bs bs' : List B} {r : Oc} (h : FnVC C rt.bits_Invert Tryz.f89 args bs r bs') (ha : Nat.ble args.length 50 = true := by rfl) : Con C N.bits_Invert args bs r bs' := con_of_fn cok Tryz.func89 (by kernel_rfl) ok.bits_Invert ha h
abbrev N.slices_Concat_byte : Nat := 90
def rt.slices_Concat_byte : Rt := []
theorem ok.slices_Concat_byte : fnOk rt.slices_Concat_byte Tryz.f90 = true := by kernel_rfl
theorem con.slices_Concat_byte {args : List V} {bs bs' : List B} {r : Oc} (h : FnVC C rt.slices_Concat_byte Tryz.f90 args bs r bs') (ha : Nat.ble args.length 36 = true := by rfl) : Con C N.slices_Concat_byte args bs r bs' := con_of_fn cok Tryz.func90 (by kernel_rfl) ok.slices_Concat_byte ha h
abbrev N.words_Turn : Nat := 91
def rt.words_Turn : Rt := [(9, [⟨false, false, [], []⟩, ⟨false, false, [], []⟩, ⟨false, false, [], []⟩, ⟨false, false, [], [2]⟩, ⟨false, false, [], [1, 2, 3]⟩, ⟨false, false, [], [0, 1, 2, 3, 4]⟩, ⟨true, false, [37, 38, 39, 40, 41, 42, 43, 44, 8, 9], [0, 1, 2, 3, 4, 5]⟩, ⟨false, false, [], []⟩, ⟨false, false, [], []⟩, ⟨false, false, [], [8]⟩, ⟨false, false, [], []⟩, ⟨false, false, [], [10]⟩, ⟨false, false, [], [8, 9, 10, 11]⟩, ⟨false, false, [], [7, 8, 9, 10, 11, 12]⟩, ⟨true, false, [30, 31, 32, 33, 34, 35, 36, 8, 9], [7, 8, 9, 10, 11, 12, 13]⟩, ⟨false, false, [], [0, 1, 2, 3, 4, 5, 6]⟩, ⟨false, false, [], [0, 1, 2, 3, 4, 5, 6, 7, 8, 9, 10, 11, 12, 13, 14, 15]⟩])]
theorem ok.words_Turn : fnOk rt.words_Turn Tryz.f91 = true := by kernel_rfl
theorem con.words_Turn {args : List V} {bs bs' : List B} {r : Oc} (h : FnVC C rt.words_Turn Tryz.f91 args bs r bs') (ha : Nat.ble args.length 62 = true := by rfl) : Con C N.words_Turn args bs r bs' := con_of_fn cok Tryz.func91 (by kernel_rfl) ok.words_Turn ha h
abbrev N.idea_neg : Nat := 92
def rt.idea_neg : Rt := []
theorem ok.idea_neg : fnOk rt.idea_neg Tryz.f92 = true := by kernel_rfl
theorem con.idea_neg {args : List V} {bs bs' : List B} {r : Oc} (h : FnVC C rt.idea_neg Tryz.f92 args bs r bs') (ha : Nat.ble args.length 6 = true := by rfl) : Con C N.idea_neg args bs r bs' := con_of_fn cok Tryz.func92 (by kernel_rfl) ok.idea_neg ha h
abbrev N.idea_Inv : Nat := 93
def rt.idea_Inv : Rt := []
theorem ok.idea_Inv : fnOk rt.idea_Inv Tryz.f93 = true := by kernel_rfl
theorem con.idea_Inv {args : List V} {bs bs' : List B} {r : Oc} (h : FnVC C rt.idea_Inv Tryz.f93 args bs r bs') (ha : Nat.ble args.length 19 = true := by rfl) : Con C N.idea_Inv args bs r bs' := con_of_fn cok Tryz.func93 (by kernel_rfl) ok.idea_Inv ha h
abbrev N.idea_Mul : Nat := 94
def rt.idea_Mul : Rt := []
theorem ok.idea_Mul : fnOk rt.idea_Mul Tryz.f94 = true := by kernel_rfl
theorem con.idea_Mul {args : List V} {bs bs' : List B} {r : Oc} (h : FnVC C rt.idea_Mul Tryz.f94 args bs r bs') (ha : Nat.ble args.length 14 = true := by rfl) : Con C N.idea_Mul args bs r bs' := con_of_fn cok Tryz.func94 (by kernel_rfl) ok.idea_Mul ha h
abbrev N.idea_add : Nat := 95
def rt.idea_add : Rt := []
theorem ok.idea_add : fnOk rt.idea_add Tryz.f95 = true := by kernel_rfl
theorem con.idea_add {args : List V} {bs bs' : List B} {r : Oc} (h : FnVC C rt.idea_add Tryz.f95 args bs r bs') (ha : Nat.ble args.length 9 = true := by rfl) : Con C N.idea_add args bs r bs' := con_of_fn cok Tryz.func95 (by kernel_rfl) ok.idea_add ha h
abbrev N.twofish_folded : Nat := 96
def rt.twofish_folded : Rt := [(8, [⟨false, false, [], []⟩, ⟨false, false, [], []⟩, ⟨false, false, [], [0, 1]⟩, ⟨true, false, [31, 32, 33, 34, 35, 36, 37, 38], [0, 1, 2]⟩, ⟨false, false, [], []⟩, ⟨false, false, [], []⟩, ⟨false, false, [], []⟩, ⟨false, false, [], [5, 6]⟩, ⟨true, false, [27, 28, 29, 30, 31, 36, 37, 38], [5, 6, 7]⟩, ⟨true, false, [27, 28, 29, 30, 37, 38], [4, 5, 6, 7, 8]⟩, ⟨false, false, [], [0, 1, 2, 3, 4, 5, 6, 7, 8, 9]⟩, ⟨false, false, [], [0, 1, 2, 3, 4, 5, 6, 7, 8, 9, 10]⟩, ⟨true, true, [], [0, 1, 2, 3, 4, 5, 6, 7, 8, 9, 10, 11]⟩])]
theorem ok.twofish_folded : fnOk rt.twofish_folded Tryz.f96 = true := by kernel_rfl
theorem con.twofish_folded {args : List V} {bs bs' : List B} {r : Oc} (h : FnVC C rt.twofish_folded Tryz.f96 args bs r bs') (ha : Nat.ble args.length 47 = true := by rfl) : Con C N.twofish_folded args bs r bs' := con_of_fn cok Tryz.func96 (by kernel_rfl) ok.twofish_folded ha h
abbrev N.slices_Reverse_uint32 : Nat := 97
def rt.slices_Reverse_uint32 : Rt := [(3, [⟨false, false, [], []⟩, ⟨false, false, [], []⟩, ⟨false, false, [], []⟩, ⟨false, false, [], []⟩, ⟨false, false, [], []⟩, ⟨false, false, [], []⟩, ⟨false, false, [], [4, 5]⟩, ⟨true, false, [14, 15, 16, 17, 22, 23, 24, 25, 26, 27], [4, 5, 6]⟩, ⟨false, false, [], []⟩, ⟨false, false, [], []⟩, ⟨false, false, [], [8, 9]⟩, ⟨true, false, [14, 15, 16, 17, 18, 19, 20, 21, 26, 27], [8, 9, 10]⟩, ⟨false, false, [], [0, 1, 4, 5, 6, 7, 8, 9, 10, 11]⟩, ⟨true, true, [16, 17, 27], [0, 1, 4, 5, 6, 7, 8, 9, 10, 11, 12]⟩, ⟨false, false, [], [0, 1, 2, 3, 4, 5, 6, 7, 8, 9, 10, 11, 12, 13]⟩, ⟨true, true, [], [0, 1, 2, 3, 4, 5, 6, 7, 8, 9, 10, 11, 12, 13, 14]⟩])]
theorem ok.slices_Reverse_uint32 : fnOk rt.slices_Reverse_uint32 Tryz.f97 = true := by kernel_rfl
theorem con.slices_Reverse_uint32 {args : List V} {bs bs' : List B} {r : Oc} (h : FnVC C rt.slices_Reverse_uint32 Tryz.f97 args bs r bs') (ha : Nat.ble args.length 28 = true := by rfl) : Con C N.slices_Reverse_uint32 args bs r bs' := con_of_fn cok Tryz.func97 (by kernel_rfl) ok.slices_Reverse_uint32 ha h
abbrev N.twofish_H : Nat := 98
def rt.twofish_H : Rt := [(18, [⟨false, false, [], []⟩, ⟨false, false, [], []⟩, ⟨false, false, [], [0, 1]⟩, ⟨true, false, [66, 67, 68, 69, 70, 71, 72, 73], [0, 1, 2]⟩, ⟨false, false, [], []⟩, ⟨false, false, [], []⟩, ⟨false, false, [], []⟩, ⟨false, false, [], [5, 6]⟩, ⟨true, false, [62, 63, 64, 65, 66, 71, 72, 73], [5, 6, 7]⟩, ⟨true, false, [62, 63, 64, 65, 72, 73], [4, 5, 6, 7, 8]⟩, ⟨false, false, [], [0, 1, 2, 3, 4, 5, 6, 7, 8, 9]⟩, ⟨false, false, [], [0, 1, 2, 3, 4, 5, 6, 7, 8, 9, 10]⟩, ⟨true, true, [], [0, 1, 2, 3, 4, 5, 6, 7, 8, 9, 10, 11]⟩])]
theorem ok.twofish_H : fnOk rt.twofish_H Tryz.f98 = true := by kernel_rfl
theorem con.twofish_H {args : List V} {bs bs' : List B} {r : Oc} (h : FnVC C rt.twofish_H Tryz.f98 args bs r bs') (ha : Nat.ble args.length 82 = true := by rfl) : Con C N.twofish_H args bs r bs' := con_of_fn cok Tryz.func98 (by kernel_rfl) ok.twofish_H ha h
abbrev N.slices_Clone_uint32 : Nat := 99
def rt.slices_Clone_uint32 : Rt := []
theorem ok.slices_Clone_uint32 : fnOk rt.slices_Clone_uint32 Tryz.f99 = true := by kernel_rfl
theorem con.slices_Clone_uint32 {args : List V} {bs bs' : List B} {r : Oc} (h : FnVC C rt.slices_Clone_uint32 Tryz.f99 args bs r bs') (ha : Nat.ble args.length 8 = true := by rfl) : Con C N.slices_Clone_uint32 args bs r bs' := con_of_fn cok Tryz.func99 (by kernel_rfl) ok.slices_Clone_uint32 ha h
abbrev N.words_Be32 : Nat := 100
def rt.words_Be32 : Rt := []
theorem ok.words_Be32 : fnOk rt.words_Be32 Tryz.f100 = true := by kernel_rfl
theorem con.words_Be32 {args : List V} {bs bs' : List B} {r : Oc} (h : FnVC C rt.words_Be32 Tryz.f100 args bs r bs') (ha : Nat.ble args.length 10 = true := by rfl) : Con C N.words_Be32 args bs r bs' := con_of_fn cok Tryz.func100 (by kernel_rfl) ok.words_Be32 ha h
abbrev N.words_turned : Nat := 101
def rt.words_turned : Rt := []
theorem ok.words_turned : fnOk rt.words_turned Tryz.f101 = true := by kernel_rfl
theorem con.words_turned {args : List V} {bs bs' : List B} {r : Oc} (h : FnVC C rt.words_turned Tryz.f101 args bs r bs') (ha : Nat.ble args.length 23 = true := by rfl) : Con C N.words_turned args bs r bs' := con_of_fn cok Tryz.func101 (by kernel_rfl) ok.words_turned ha h
abbrev N.words_rest : Nat := 102
def rt.words_rest : Rt := []
theorem ok.words_rest : fnOk rt.words_rest Tryz.f102 = true := by kernel_rfl
theorem con.words_rest {args : List V} {bs bs' : List B} {r : Oc} (h : FnVC C rt.words_rest Tryz.f102 args bs r bs') (ha : Nat.ble args.length 12 = true := by rfl) : Con C N.words_rest args bs r bs' := con_of_fn cok Tryz.func102 (by kernel_rfl) ok.words_rest ha h
abbrev N.words_PutBe32 : Nat := 103
def rt.words_PutBe32 : Rt := []
theorem ok.words_PutBe32 : fnOk rt.words_PutBe32 Tryz.f103 = true := by kernel_rfl
theorem con.words_PutBe32 {args : List V} {bs bs' : List B} {r : Oc} (h : FnVC C rt.words_PutBe32 Tryz.f103 args bs r bs') (ha : Nat.ble args.length 6 = true := by rfl) : Con C N.words_PutBe32 args bs r bs' := con_of_fn cok Tryz.func103 (by kernel_rfl) ok.words_PutBe32 ha h
abbrev N.box_Make : Nat := 104
def rt.box_Make : Rt := [(5, [⟨false, false, [], []⟩, ⟨false, false, [], []⟩, ⟨false, false, [], []⟩, ⟨true, false, [17, 18, 21, 22, 23, 24, 25, 26, 27], [2]⟩, ⟨false, false, [], []⟩, ⟨false, false, [], []⟩, ⟨true, false, [17, 18, 24, 25, 26, 27], [2, 3, 4, 5]⟩, ⟨true, false, [17, 18, 19, 20, 21, 22, 23, 25, 26, 27], []⟩, ⟨false, false, [], []⟩, ⟨true, true, [17, 18, 27], [2, 3, 4, 5, 6, 7, 8]⟩, ⟨false, false, [], [0, 1, 2, 3, 4, 5, 6, 7, 8, 9]⟩, ⟨true, true, [], [0, 1, 2, 3, 4, 5, 6, 7, 8, 9, 10]⟩])]
theorem ok.box_Make : fnOk rt.box_Make Tryz.f104 = true := by kernel_rfl
theorem con.box_Make {args : List V} {bs bs' : List B} {r : Oc} (h : FnVC C rt.box_Make Tryz.f104 args bs r bs') (ha : Nat.ble args.length 30 = true := by rfl) : Con C N.box_Make args bs r bs' := con_of_fn cok Tryz.func104 (by kernel_rfl) ok.box_Make ha h
abbrev N.box_Back : Nat := 105
def rt.box_Back : Rt := []
theorem ok.box_Back : fnOk rt.box_Back Tryz.f105 = true := by kernel_rfl
theorem con.box_Back {args : List V} {bs bs' : List B} {r : Oc} (h : FnVC C rt.box_Back Tryz.f105 args bs r bs') (ha : Nat.ble args.length 27 = true := by rfl) : Con C N.box_Back args bs r bs' := con_of_fn cok Tryz.func105 (by kernel_rfl) ok.box_Back ha h
abbrev N.aria_three : Nat := 106
def rt.aria_three : Rt := [(4, [⟨false, false, [], []⟩, ⟨false, false, [], []⟩, ⟨true, false, [11, 14, 15, 16, 17, 18, 19], [1]⟩, ⟨true, false, [11, 15, 16, 17, 18, 19], [1, 2]⟩, ⟨false, false, [], []⟩, ⟨true, false, [11, 12, 13, 14, 17, 18, 19], [4]⟩, ⟨true, true, [11, 18, 19], [1, 2, 3, 4, 5]⟩, ⟨true, true, [11, 19], [1, 2, 3, 4, 5, 6]⟩, ⟨false, false, [], [0, 1, 2, 3, 4, 5, 6, 7]⟩, ⟨true, true, [], [0, 1, 2, 3, 4, 5, 6, 7, 8]⟩])]
theorem ok.aria_three : fnOk rt.aria_three Tryz.f106 = true := by kernel_rfl
theorem con.aria_three {args : List V} {bs bs' : List B} {r : Oc} (h : FnVC C rt.aria_three Tryz.f106 args bs r bs') (ha : Nat.ble args.length 22 = true := by rfl) : Con C N.aria_three args bs r bs' := con_of_fn cok Tryz.func106 (by kernel_rfl) ok.aria_three ha h
abbrev N.aria_sums : Nat := 107
def rt.aria_sums : Rt := []
theorem ok.aria_sums : fnOk rt.aria_sums Tryz.f107 = true := by kernel_rfl
theorem con.aria_sums {args : List V} {bs bs' : List B} {r : Oc} (h : FnVC C rt.aria_sums Tryz.f107 args bs r bs') (ha : Nat.ble args.length 50 = true := by rfl) : Con C N.aria_sums args bs r bs' := con_of_fn cok Tryz.func107 (by kernel_rfl) ok.aria_sums ha h
abbrev N.small_stir : Nat := 108
def rt.small_stir : Rt := []
theorem ok.small_stir : fnOk rt.small_stir Tryz.f108 = true := by kernel_rfl
theorem con.small_stir {args : List V} {bs bs' : List B} {r : Oc} (h : FnVC C rt.small_stir Tryz.f108 args bs r bs') (ha : Nat.ble args.length 14 = true := by rfl) : Con C N.small_stir args bs r bs' := con_of_fn cok Tryz.func108 (by kernel_rfl) ok.small_stir ha h
abbrev N.slices_Concat_uint32 : Nat := 109
def rt.slices_Concat_uint32 : Rt := []
theorem ok.slices_Concat_uint32 : fnOk rt.slices_Concat_uint32 Tryz.f109 = true := by kernel_rfl
theorem con.slices_Concat_uint32 {args : List V} {bs bs' : List B} {r : Oc} (h : FnVC C rt.slices_Concat_uint32 Tryz.f109 args bs r bs') (ha : Nat.ble args.length 36 = true := by rfl) : Con C N.slices_Concat_uint32 args bs r bs' := con_of_fn cok Tryz.func109 (by kernel_rfl) ok.slices_Concat_uint32 ha h
abbrev N.small_G : Nat := 110
def rt.small_G : Rt := []
theorem ok.small_G : fnOk rt.small_G Tryz.f110 = true := by kernel_rfl
theorem con.small_G {args : List V} {bs bs' : List B} {r : Oc} (h : FnVC C rt.small_G Tryz.f110 args bs r bs') (ha : Nat.ble args.length 32 = true := by rfl) : Con C N.small_G args bs r bs' := con_of_fn cok Tryz.func110 (by kernel_rfl) ok.small_G ha h
abbrev N.r6_chosen : Nat := 111
def rt.r6_chosen : Rt := []
theorem ok.r6_chosen : fnOk rt.r6_chosen Tryz.f111 = true := by kernel_rfl
theorem con.r6_chosen {args : List V} {bs bs' : List B} {r : Oc} (h : FnVC C rt.r6_chosen Tryz.f111 args bs r bs') (ha : Nat.ble args.length 32 = true := by rfl) : Con C N.r6_chosen args bs r bs' := con_of_fn cok Tryz.func111 (by kernel_rfl) ok.r6_chosen ha h
abbrev N.r2_By : Nat := 112
def rt.r2_By : Rt := []
theorem ok.r2_By : fnOk rt.r2_By Tryz.f112 = true := by kernel_rfl
theorem con.r2_By {args : List V} {bs bs' : List B} {r : Oc} (h : FnVC C rt.r2_By Tryz.f112 args bs r bs') (ha : Nat.ble args.length 14 = true := by rfl) : Con C N.r2_By args bs r bs' := con_of_fn cok Tryz.func112 (by kernel_rfl) ok.r2_By ha h
abbrev N.r6_last : Nat := 113
def rt.r6_last : Rt := []
theorem ok.r6_last : fnOk rt.r6_last Tryz.f113 = true := by kernel_rfl
theorem con.r6_last {args : List V} {bs bs' : List B} {r : Oc} (h : FnVC C rt.r6_last Tryz.f113 args bs r bs') (ha : Nat.ble args.length 2 = true := by rfl) : Con C N.r6_last args bs r bs' := con_of_fn cok Tryz.func113 (by kernel_rfl) ok.r6_last ha h
abbrev N.r1_Turn : Nat := 114
def rt.r1_Turn : Rt := [(8, [⟨false, false, [], []⟩, ⟨false, false, [], []⟩, ⟨false, false, [], []⟩, ⟨false, false, [], [2]⟩, ⟨false, false, [], [1, 2, 3]⟩, ⟨false, false, [], []⟩, ⟨false, false, [], [5]⟩, ⟨false, false, [], [1, 2, 3, 4, 5, 6]⟩, ⟨false, false, [], [0, 1, 2, 3, 4, 5, 6, 7]⟩, ⟨true, false, [38, 39, 40, 41, 42, 43, 44, 45, 46, 47, 48, 8, 9], [0, 1, 2, 3, 4, 5, 6, 7, 8]⟩, ⟨false, false, [], []⟩, ⟨false, false, [], []⟩, ⟨false, false, [], []⟩, ⟨false, false, [], [12]⟩, ⟨false, false, [], [11, 12, 13]⟩, ⟨false, false, [], [11, 12, 13, 14]⟩, ⟨false, false, [], []⟩, ⟨false, false, [], [16]⟩, ⟨false, false, [], [11, 12, 13, 14, 15, 16, 17]⟩, ⟨false, false, [], [10, 11, 12, 13, 14, 15, 16, 17, 18]⟩, ⟨true, false, [28, 29, 30, 31, 32, 33, 34, 35, 36, 37, 8, 9], [10, 11, 12, 13, 14, 15, 16, 17, 18, 19]⟩, ⟨false, false, [], [0, 1, 2, 3, 4, 5, 6, 7, 8, 9]⟩, ⟨false, false, [], [0, 1, 2, 3, 4, 5, 6, 7, 8, 9, 10, 11, 12, 13, 14, 15, 16, 17, 18, 19, 20, 21]⟩])]
theorem ok.r1_Turn : fnOk rt.r1_Turn Tryz.f114 = true := by kernel_rfl
theorem con.r1_Turn {args : List V} {bs bs' : List B} {r : Oc} (h : FnVC C rt.r1_Turn Tryz.f114 args bs r bs') (ha : Nat.ble args.length 65 = true := by rfl) : Con C N.r1_Turn args bs r bs' := con_of_fn cok Tryz.func114 (by kernel_rfl) ok.r1_Turn ha h
abbrev N.r1_Little : Nat := 115
def rt.r1_Little : Rt := []
theorem ok.r1_Little : fnOk rt.r1_Little Tryz.f115 = true := by kernel_rfl
theorem con.r1_Little {args : List V} {bs bs' : List B} {r : Oc} (h : FnVC C rt.r1_Little Tryz.f115 args bs r bs') (ha : Nat.ble args.length 21 = true := by rfl) : Con C N.r1_Little args bs r bs' := con_of_fn cok Tryz.func115 (by kernel_rfl) ok.r1_Little ha h
abbrev N.r9_told : Nat := 116
def rt.r9_told : Rt := [(9, [⟨false, false, [], []⟩, ⟨false, false, [], []⟩, ⟨false, false, [], []⟩, ⟨false, false, [], [1]⟩, ⟨false, false, [], [1, 2, 3]⟩, ⟨true, false, [20, 26, 27, 28, 29, 30, 31, 32, 33, 34, 35, 36, 4], [1, 2, 3, 4]⟩, ⟨false, false, [], []⟩, ⟨false, false, [], []⟩, ⟨false, false, [], [6, 7]⟩, ⟨true, false, [20, 21, 22, 23, 24, 25, 30, 31, 32, 33, 34, 35, 36, 4], [6, 7, 8]⟩, ⟨true, false, [20, 31, 32, 33, 34, 35, 36, 4], [1, 2, 3, 4, 5, 6, 7, 8, 9]⟩, ⟨true, false, [20, 32, 33, 34, 35, 36, 4], [1, 2, 3, 4, 5, 6, 7, 8, 9, 10]⟩, ⟨false, false, [], []⟩, ⟨false, false, [], [12]⟩, ⟨true, false, [20, 21, 22, 23, 24, 25, 26, 27, 28, 29, 30, 31, 35, 36, 4], [12, 13]⟩, ⟨false, false, [], [1, 2, 3, 4, 5, 6, 7, 8, 9, 10, 11, 12, 13, 14]⟩, ⟨false, false, [], [0, 1, 2, 3, 4, 5, 6, 7, 8, 9, 10, 11, 12, 13, 14, 15]⟩, ⟨false, false, [], [0, 1, 2, 3, 4, 5, 6, 7, 8, 9, 10, 11, 12, 13, 14, 15, 16]⟩])]
theorem ok.r9_told : fnOk rt.r9_told Tryz.f116 = true := by kernel_rfl
theorem con.r9_told {args : List V} {bs bs' : List B} {r : Oc} (h : FnVC C rt.r9_told Tryz.f116 args bs r bs') (ha : Nat.ble args.length 38 = true := by rfl) : Con C N.r9_told args bs r bs' := con_of_fn cok Tryz.func116 (by kernel_rfl) ok.r9_told ha h
abbrev N.r9_H : Nat := 117
def rt.r9_H : Rt := [(3, [⟨true, false, [17, 18, 19, 20, 21, 22], []⟩, ⟨false, false, [], []⟩, ⟨true, false, [19, 20, 21, 22], [0, 1]⟩, ⟨false, false, [], []⟩, ⟨false, false, [], [3]⟩, ⟨true, false, [16, 17, 18, 22], [3, 4]⟩, ⟨true, true, [], [0, 1, 2, 3, 4, 5]⟩, ⟨true, true, [], [0, 1, 2, 3, 4, 5, 6]⟩]), (5, [⟨true, false, [27, 28, 29, 30, 31, 32], []⟩, ⟨false, false, [], []⟩, ⟨true, false, [29, 30, 31, 32], [0, 1]⟩, ⟨false, false, [], []⟩, ⟨false, false, [], [3]⟩, ⟨true, false, [26, 27, 28, 32], [3, 4]⟩, ⟨true, true, [], [0, 1, 2, 3, 4, 5]⟩, ⟨true, true, [], [0, 1, 2, 3, 4, 5, 6]⟩]), (8, [⟨true, false, [37, 38, 39, 40, 41, 42], []⟩, ⟨false, false, [], []⟩, ⟨true, false, [39, 40, 41, 42], [0, 1]⟩, ⟨false, false, [], []⟩, ⟨false, false, [], [3]⟩, ⟨true, false, [36, 37, 38, 42], [3, 4]⟩, ⟨true, true, [], [0, 1, 2, 3, 4, 5]⟩, ⟨true, true, [], [0, 1, 2, 3, 4, 5, 6]⟩]), (9, [⟨true, false, [44, 45, 46, 47, 48, 49], []⟩, ⟨false, false, [], []⟩, ⟨true, false, [46, 47, 48, 49], [0, 1]⟩, ⟨false, false, [], []⟩, ⟨false, false, [], [3]⟩, ⟨true, false, [43, 44, 45, 49], [3, 4]⟩, ⟨true, true, [], [0, 1, 2, 3, 4, 5]⟩, ⟨true, true, [], [0, 1, 2, 3, 4, 5, 6]⟩]), (19, [⟨false, false, [], []⟩, ⟨false, false, [], []⟩, ⟨false, false, [], []⟩, ⟨false, false, [], [1]⟩, ⟨false, false, [], [1, 2, 3]⟩, ⟨true, false, [66, 72, 73, 74, 75, 76, 77, 78, 79, 80, 81, 7], [1, 2, 3, 4]⟩, ⟨false, false, [], []⟩, ⟨false, false, [], [6]⟩, ⟨true, false, [66, 67, 68, 69, 70, 71, 75, 76, 77, 78, 79, 80, 81, 7], [6, 7]⟩, ⟨true, false, [66, 76, 77, 78, 79, 80, 81, 7], [1, 2, 3, 4, 5, 6, 7, 8]⟩, ⟨true, false, [66, 77, 78, 79, 80, 81, 7], [1, 2, 3, 4, 5, 6, 7, 8, 9]⟩, ⟨false, false, [], []⟩, ⟨false, false, [], [11]⟩, ⟨true, false, [66, 67, 68, 69, 70, 71, 72, 73, 74, 75, 76, 80, 81, 7], [11, 12]⟩, ⟨false, false, [], [1, 2, 3, 4, 5, 6, 7, 8, 9, 10, 11, 12, 13]⟩, ⟨false, false, [], [0, 1, 2, 3, 4, 5, 6, 7, 8, 9, 10, 11, 12, 13, 14]⟩, ⟨false, false, [], [0, 1, 2, 3, 4, 5, 6, 7, 8, 9, 10, 11, 12, 13, 14, 15]⟩])]
theorem ok.r9_H : fnOk rt.r9_H Tryz.f117 = true := by kernel_rfl
theorem con.r9_H {args : List V} {bs bs' : List B} {r : Oc} (h : FnVC C rt.r9_H Tryz.f117 args bs r bs') (ha : Nat.ble args.length 83 = true := by rfl) : Con C N.r9_H args bs r bs' := con_of_fn cok Tryz.func117 (by kernel_rfl) ok.r9_H ha h
abbrev N.r1_Rol32 : Nat := 118
def rt.r1_Rol32 : Rt := []
theorem ok.r1_Rol32 : fnOk rt.r1_Rol32 Tryz.f118 = true := by kernel_rfl
theorem con.r1_Rol32 {args : List V} {bs bs' : List B} {r : Oc} (h : FnVC C rt.r1_Rol32 Tryz.f118 args bs r bs') (ha : Nat.ble args.length 17 = true := by rfl) : Con C N.r1_Rol32 args bs r bs' := con_of_fn cok Tryz.func118 (by kernel_rfl) ok.r1_Rol32 ha h
abbrev N.r4_Make : Nat := 119
def rt.r4_Make : Rt := [(5, [⟨false, false, [], []⟩, ⟨false, false, [], []⟩, ⟨false, false, [], []⟩, ⟨true, false, [16, 17, 20, 21, 22, 23, 24, 25, 26], [2]⟩, ⟨false, false, [], []⟩, ⟨false, false, [], []⟩, ⟨true, false, [16, 17, 23, 24, 25, 26], [2, 3, 4, 5]⟩, ⟨true, false, [16, 17, 18, 19, 20, 21, 22, 24, 25, 26], []⟩, ⟨false, false, [], []⟩, ⟨true, true, [16, 17, 26], [2, 3, 4, 5, 6, 7, 8]⟩, ⟨false, false, [], [0, 1, 2, 3, 4, 5, 6, 7, 8, 9]⟩, ⟨true, true, [], [0, 1, 2, 3, 4, 5, 6, 7, 8, 9, 10]⟩])]
theorem ok.r4_Make : fnOk rt.r4_Make Tryz.f119 = true := by kernel_rfl
theorem con.r4_Make {args : List V} {bs bs' : List B} {r : Oc} (h : FnVC C rt.r4_Make Tryz.f119 args bs r bs') (ha : Nat.ble args.length 28 = true := by rfl) : Con C N.r4_Make args bs r bs' := con_of_fn cok Tryz.func119 (by kernel_rfl) ok.r4_Make ha h
abbrev N.r4_Back : Nat := 120
def rt.r4_Back : Rt := []
theorem ok.r4_Back : fnOk rt.r4_Back Tryz.f120 = true := by kernel_rfl
theorem con.r4_Back {args : List V} {bs bs' : List B} {r : Oc} (h : FnVC C rt.r4_Back Tryz.f120 args bs r bs') (ha : Nat.ble args.length 27 = true := by rfl) : Con C N.r4_Back args bs r bs' := con_of_fn cok Tryz.func120 (by kernel_rfl) ok.r4_Back ha h
abbrev N.r1_Both : Nat := 121
def rt.r1_Both : Rt := [(5, [⟨false, false, [], []⟩, ⟨false, false, [], []⟩, ⟨false, false, [], []⟩, ⟨false, false, [], []⟩, ⟨false, false, [], [2, 3]⟩, ⟨true, false, [16, 17, 22, 23, 24, 25, 26, 27], [2, 3, 4]⟩, ⟨false, false, [], []⟩, ⟨false, false, [], []⟩, ⟨false, false, [], [6, 7]⟩, ⟨true, false, [16, 17, 18, 19, 20, 21, 26, 27], [6, 7, 8]⟩, ⟨false, false, [], [2, 3, 4, 5, 6, 7, 8, 9]⟩, ⟨false, false, [], [0, 1, 2, 3, 4, 5, 6, 7, 8, 9, 10]⟩, ⟨true, true, [], [0, 1, 2, 3, 4, 5, 6, 7, 8, 9, 10, 11]⟩])]
theorem ok.r1_Both : fnOk rt.r1_Both Tryz.f121 = true := by kernel_rfl
theorem con.r1_Both {args : List V} {bs bs' : List B} {r : Oc} (h : FnVC C rt.r1_Both Tryz.f121 args bs r bs') (ha : Nat.ble args.length 29 = true := by rfl) : Con C N.r1_Both args bs r bs' := con_of_fn cok Tryz.func121 (by kernel_rfl) ok.r1_Both ha h
abbrev N.r10_Boxes_round : Nat := 122
def rt.r10_Boxes_round : Rt := []
theorem ok.r10_Boxes_round : fnOk rt.r10_Boxes_round Tryz.f122 = true := by kernel_rfl
theorem con.r10_Boxes_round {args : List V} {bs bs' : List B} {r : Oc} (h : FnVC C rt.r10_Boxes_round Tryz.f122 args bs r bs') (ha : Nat.ble args.length 16 = true := by rfl) : Con C N.r10_Boxes_round args bs r bs' := con_of_fn cok Tryz.func122 (by kernel_rfl) ok.r10_Boxes_round ha h
abbrev N.r10_constant : Nat := 123
def rt.r10_constant : Rt := [(3, [⟨false, false, [], []⟩, ⟨false, false, [], []⟩, ⟨false, false, [], [1]⟩, ⟨false, false, [], [0, 1, 2]⟩, ⟨true, false, [12, 13, 14, 15, 16, 17, 18, 19, 2], [0, 1, 2, 3]⟩, ⟨true, false, [13, 14, 15, 16, 17, 18, 19, 2], [0, 1, 2, 3, 4]⟩, ⟨false, false, [], []⟩, ⟨false, false, [], []⟩, ⟨false, false, [], [7]⟩, ⟨false, false, [], [6, 7, 8]⟩, ⟨true, false, [7, 8, 9, 10, 11, 12, 18, 19, 2], [6, 7, 8, 9]⟩, ⟨true, true, [19, 2], [0, 1, 2, 3, 4, 5, 6, 7, 8, 9, 10]⟩, ⟨true, true, [2], [0, 1, 2, 3, 4, 5, 6, 7, 8, 9, 10, 11]⟩, ⟨false, false, [], [0, 1, 2, 3, 4, 5, 6, 7, 8, 9, 10, 11, 12]⟩])]
theorem ok.r10_constant : fnOk rt.r10_constant Tryz.f123 = true := by kernel_rfl
theorem con.r10_constant {args : List V} {bs bs' : List B} {r : Oc} (h : FnVC C rt.r10_constant Tryz.f123 args bs r bs') (ha : Nat.ble args.length 20 = true := by rfl) : Con C N.r10_constant args bs r bs' := con_of_fn cok Tryz.func123 (by kernel_rfl) ok.r10_constant ha h
abbrev N.r8_little : Nat := 124
def rt.r8_little : Rt := []
theorem ok.r8_little : fnOk rt.r8_little Tryz.f124 = true := by kernel_rfl
theorem con.r8_little {args : List V} {bs bs' : List B} {r : Oc} (h : FnVC C rt.r8_little Tryz.f124 args bs r bs') (ha : Nat.ble args.length 22 = true := by rfl) : Con C N.r8_little args bs r bs' := con_of_fn cok Tryz.func124 (by kernel_rfl) ok.r8_little ha h
abbrev N.r1_Big : Nat := 125
def rt.r1_Big : Rt := []
theorem ok.r1_Big : fnOk rt.r1_Big Tryz.f125 = true := by kernel_rfl
theorem con.r1_Big {args : List V} {bs bs' : List B} {r : Oc} (h : FnVC C rt.r1_Big Tryz.f125 args bs r bs') (ha : Nat.ble args.length 20 = true := by rfl) : Con C N.r1_Big args bs r bs' := con_of_fn cok Tryz.func125 (by kernel_rfl) ok.r1_Big ha h
abbrev N.r6_one : Nat := 126
def rt.r6_one : Rt := [(2, [⟨false, false, [], []⟩, ⟨false, false, [], [0]⟩, ⟨false, false, [], []⟩, ⟨false, false, [], [2]⟩, ⟨false, false, [], [0, 1]⟩, ⟨false, false, [], [0, 1, 2, 3, 4]⟩])]
theorem ok.r6_one : fnOk rt.r6_one Tryz.f126 = true := by kernel_rfl
theorem con.r6_one {args : List V} {bs bs' : List B} {r : Oc} (h : FnVC C rt.r6_one Tryz.f126 args bs r bs') (ha : Nat.ble args.length 56 = true := by rfl) : Con C N.r6_one args bs r bs' := con_of_fn cok Tryz.func126 (by kernel_rfl) ok.r6_one ha h
abbrev N.r7_back : Nat := 127
def rt.r7_back : Rt := [(2, [⟨false, false, [], []⟩, ⟨true, false, [17, 18, 19, 20, 21, 22, 23, 24, 25, 26, 27, 28, 29, 30, 31, 32, 33, 34, 35, 36, 37, 38, 39, 40, 41], [0]⟩, ⟨false, false, [], []⟩, ⟨false, false, [], [2]⟩, ⟨true, false, [15, 16, 20, 21, 22, 23, 24, 25, 26, 27, 28, 29, 30, 31, 32, 33, 34, 35, 36, 37, 38, 39, 40, 41], [2, 3]⟩, ⟨true, false, [15, 16, 21, 22, 23, 24, 25, 26, 27, 28, 29, 30, 31, 32, 33, 34, 35, 36, 37, 38, 39, 40, 41], [2, 3, 4]⟩, ⟨true, false, [22, 23, 24, 25, 26, 27, 28, 29, 30, 31, 32, 33, 34, 35, 36, 37, 38, 39, 40, 41], [0, 1, 2, 3, 4, 5]⟩, ⟨false, false, [], []⟩, ⟨true, false, [15, 16, 17, 18, 19, 20, 21, 24, 25, 26, 27, 28, 29, 30, 31, 32, 33, 34, 35, 36, 37, 38, 39, 40, 41], [7]⟩, ⟨false, false, [], []⟩, ⟨false, false, [], [9]⟩, ⟨true, false, [15, 16, 17, 18, 19, 20, 21, 22, 23, 27, 28, 29, 30, 31, 32, 33, 34, 35, 36, 37, 38, 39, 40, 41], [9, 10]⟩, ⟨true, false, [28, 29, 30, 31, 32, 33, 34, 35, 36, 37, 38, 39, 40, 41], [0, 1, 2, 3, 4, 5, 6, 7, 8, 9, 10, 11]⟩, ⟨false, false, [], []⟩, ⟨true, false, [15, 16, 17, 18, 19, 20, 21, 22, 23, 24, 25, 26, 27, 30, 31, 32, 33, 34, 35, 36, 37, 38, 39, 40, 41], [13]⟩, ⟨false, false, [], []⟩, ⟨false, false, [], [15]⟩, ⟨true, false, [15, 16, 17, 18, 19, 20, 21, 22, 23, 24, 25, 26, 27, 28, 29, 33, 34, 35, 36, 37, 38, 39, 40, 41], [15, 16]⟩, ⟨true, false, [34, 35, 36, 37, 38, 39, 40, 41], [0, 1, 2, 3, 4, 5, 6, 7, 8, 9, 10, 11, 12, 13, 14, 15, 16, 17]⟩, ⟨false, false, [], []⟩, ⟨true, false, [15, 16, 17, 18, 19, 20, 21, 22, 23, 24, 25, 26, 27, 28, 29, 30, 31, 32, 33, 36, 37, 38, 39, 40, 41], [19]⟩, ⟨false, false, [], []⟩, ⟨false, false, [], [21]⟩, ⟨true, false, [15, 16, 17, 18, 19, 20, 21, 22, 23, 24, 25, 26, 27, 28, 29, 30, 31, 32, 33, 34, 35, 39, 40, 41], [21, 22]⟩, ⟨true, false, [34, 35, 40, 41], [0, 1, 2, 3, 4, 5, 6, 7, 8, 9, 10, 11, 12, 13, 14, 15, 16, 17, 18, 21, 22, 23]⟩, ⟨true, true, [41], [0, 1, 2, 3, 4, 5, 6, 7, 8, 9, 10, 11, 12, 13, 14, 15, 16, 17, 18, 19, 20, 21, 22, 23, 24]⟩, ⟨false, false, [], [0, 1, 2, 3, 4, 5, 6, 7, 8, 9, 10, 11, 12, 13, 14, 15, 16, 17, 18, 19, 20, 21, 22, 23, 24, 25]⟩, ⟨true, true, [], [0, 1, 2, 3, 4, 5, 6, 7, 8, 9, 10, 11, 12, 13, 14, 15, 16, 17, 18, 19, 20, 21, 22, 23, 24, 25, 26]⟩]), (8, [⟨false, false, [], []⟩, ⟨true, false, [65, 66, 67, 68, 69, 70, 71, 72, 73, 74, 75, 76, 77, 78, 9, 10, 11, 12], [0]⟩, ⟨false, false, [], []⟩, ⟨false, false, [], [0, 1, 2]⟩, ⟨false, false, [], []⟩, ⟨true, false, [63, 64, 65, 66, 69, 70, 71, 72, 73, 74, 75, 76, 77, 78, 9, 10, 11, 12], [4]⟩, ⟨false, false, [], []⟩, ⟨false, false, [], [4, 5, 6]⟩, ⟨false, false, [], []⟩, ⟨true, false, [63, 64, 65, 66, 67, 68, 69, 70, 73, 74, 75, 76, 77, 78, 9, 10, 11, 12], [8]⟩, ⟨false, false, [], []⟩, ⟨false, false, [], [8, 9, 10]⟩, ⟨false, false, [], []⟩, ⟨true, false, [63, 64, 65, 66, 67, 68, 69, 70, 71, 72, 73, 74, 77, 78, 9, 10, 11, 12], [12]⟩, ⟨false, false, [], []⟩, ⟨false, false, [], [12, 13, 14]⟩, ⟨false, false, [], [0, 1, 2, 3]⟩, ⟨false, false, [], [0, 1, 2, 3, 4, 5, 6, 7, 16]⟩, ⟨false, false, [], [0, 1, 2, 3, 4, 5, 6, 7, 8, 9, 10, 11, 16, 17]⟩, ⟨false, false, [], [0, 1, 2, 3, 4, 5, 6, 7, 8, 9, 10, 11, 12, 13, 14, 15, 16, 17, 18]⟩]), (9, [⟨false, false, [], []⟩, ⟨false, false, [], []⟩, ⟨false, false, [], [1]⟩, ⟨true, false, [79, 83, 84, 85, 86, 87, 88, 89, 90, 91, 92, 93, 94, 95, 96, 97, 98, 99, 100, 101], [1, 2]⟩, ⟨true, false, [79, 84, 85, 86, 87, 88, 89, 90, 91, 92, 93, 94, 95, 96, 97, 98, 99, 100, 101], [1, 2, 3]⟩, ⟨true, false, [85, 86, 87, 88, 89, 90, 91, 92, 93, 94, 95, 96, 97, 98, 99, 100, 101], [0, 1, 2, 3, 4]⟩, ⟨false, false, [], []⟩, ⟨false, false, [], []⟩, ⟨false, false, [], [7]⟩, ⟨true, false, [79, 80, 81, 82, 83, 84, 85, 89, 90, 91, 92, 93, 94, 95, 96, 97, 98, 99, 100, 101], [7, 8]⟩, ⟨true, false, [90, 91, 92, 93, 94, 95, 96, 97, 98, 99, 100, 101], [0, 1, 2, 3, 4, 5, 6, 7, 8, 9]⟩, ⟨false, false, [], []⟩, ⟨false, false, [], []⟩, ⟨false, false, [], [12]⟩, ⟨true, false, [79, 80, 81, 82, 83, 84, 85, 86, 87, 88, 89, 90, 94, 95, 96, 97, 98, 99, 100, 101], [12, 13]⟩, ⟨true, false, [95, 96, 97, 98, 99, 100, 101], [0, 1, 2, 3, 4, 5, 6, 7, 8, 9, 10, 11, 12, 13, 14]⟩, ⟨false, false, [], []⟩, ⟨false, false, [], []⟩, ⟨false, false, [], [17]⟩, ⟨true, false, [79, 80, 81, 82, 83, 84, 85, 86, 87, 88, 89, 90, 91, 92, 93, 94, 95, 99, 100, 101], [17, 18]⟩, ⟨true, true, [95, 100, 101], [0, 1, 2, 3, 4, 5, 6, 7, 8, 9, 10, 11, 12, 13, 14, 15, 17, 18, 19]⟩, ⟨true, true, [101], [0, 1, 2, 3, 4, 5, 6, 7, 8, 9, 10, 11, 12, 13, 14, 15, 16, 17, 18, 19, 20]⟩, ⟨false, false, [], [0, 1, 2, 3, 4, 5, 6, 7, 8, 9, 10, 11, 12, 13, 14, 15, 16, 17, 18, 19, 20, 21]⟩, ⟨true, true, [], [0, 1, 2, 3, 4, 5, 6, 7, 8, 9, 10, 11, 12, 13, 14, 15, 16, 17, 18, 19, 20, 21, 22]⟩])]
theorem ok.r7_back : fnOk rt.r7_back Tryz.f127 = true := by kernel_rfl
theorem con.r7_back {args : List V} {bs bs' : List B} {r : Oc} (h : FnVC C rt.r7_back Tryz.f127 args bs r bs') (ha : Nat.ble args.length 103 = true := by rfl) : Con C N.r7_back args bs r bs' := con_of_fn cok Tryz.func127 (by kernel_rfl) ok.r7_back ha h
abbrev N.r7_there : Nat := 128
def rt.r7_there : Rt := [(4, [⟨false, false, [], []⟩, ⟨true, false, [18, 19, 20, 21, 22, 23, 24, 25, 26, 27, 28, 29, 30, 31, 32, 33, 34, 35, 36, 37, 38, 39, 6, 7, 8, 9], [0]⟩, ⟨false, false, [], []⟩, ⟨false, false, [], [2]⟩, ⟨true, false, [16, 17, 21, 22, 23, 24, 25, 26, 27, 28, 29, 30, 31, 32, 33, 34, 35, 36, 37, 38, 39, 6, 7, 8, 9], [2, 3]⟩, ⟨true, false, [22, 23, 24, 25, 26, 27, 28, 29, 30, 31, 32, 33, 34, 35, 36, 37, 38, 39, 6, 7, 8, 9], [0, 1, 2, 3, 4]⟩, ⟨false, false, [], []⟩, ⟨true, false, [16, 17, 18, 19, 20, 21, 24, 25, 26, 27, 28, 29, 30, 31, 32, 33, 34, 35, 36, 37, 38, 39, 6, 7, 8, 9], [6]⟩, ⟨false, false, [], []⟩, ⟨false, false, [], [8]⟩, ⟨true, false, [16, 17, 18, 19, 20, 21, 22, 23, 27, 28, 29, 30, 31, 32, 33, 34, 35, 36, 37, 38, 39, 6, 7, 8, 9], [8, 9]⟩, ⟨true, false, [28, 29, 30, 31, 32, 33, 34, 35, 36, 37, 38, 39, 6, 7, 8, 9], [0, 1, 2, 3, 4, 5, 6, 7, 8, 9, 10]⟩, ⟨false, false, [], []⟩, ⟨true, false, [16, 17, 18, 19, 20, 21, 22, 23, 24, 25, 26, 27, 30, 31, 32, 33, 34, 35, 36, 37, 38, 39, 6, 7, 8, 9], [12]⟩, ⟨false, false, [], []⟩, ⟨false, false, [], [14]⟩, ⟨true, false, [16, 17, 18, 19, 20, 21, 22, 23, 24, 25, 26, 27, 28, 29, 33, 34, 35, 36, 37, 38, 39, 6, 7, 8, 9], [14, 15]⟩, ⟨true, false, [34, 35, 36, 37, 38, 39, 6, 7, 8, 9], [0, 1, 2, 3, 4, 5, 6, 7, 8, 9, 10, 11, 12, 13, 14, 15, 16]⟩, ⟨false, false, [], []⟩, ⟨true, false, [16, 17, 18, 19, 20, 21, 22, 23, 24, 25, 26, 27, 28, 29, 30, 31, 32, 33, 36, 37, 38, 39, 6, 7, 8, 9], [18]⟩, ⟨false, false, [], []⟩, ⟨false, false, [], [20]⟩, ⟨true, false, [16, 17, 18, 19, 20, 21, 22, 23, 24, 25, 26, 27, 28, 29, 30, 31, 32, 33, 34, 35, 39, 6, 7, 8, 9], [20, 21]⟩, ⟨true, true, [6, 7, 8, 9], [0, 1, 2, 3, 4, 5, 6, 7, 8, 9, 10, 11, 12, 13, 14, 15, 16, 17, 18, 19, 20, 21, 22]⟩, ⟨false, false, [], [0, 1, 2, 3, 4, 5, 6, 7, 8, 9, 10, 11, 12, 13, 14, 15, 16, 17, 18, 19, 20, 21, 22, 23]⟩, ⟨false, false, [], [0, 1, 2, 3, 4, 5, 6, 7, 8, 9, 10, 11, 12, 13, 14, 15, 16, 17, 18, 19, 20, 21, 22, 23, 24]⟩, ⟨false, false, [], [0, 1, 2, 3, 4, 5, 6, 7, 8, 9, 10, 11, 12, 13, 14, 15, 16, 17, 18, 19, 20, 21, 22, 23, 24, 25]⟩, ⟨false, false, [], [0, 1, 2, 3, 4, 5, 6, 7, 8, 9, 10, 11, 12, 13, 14, 15, 16, 17, 18, 19, 20, 21, 22, 23, 24, 25, 26]⟩]), (8, [⟨false, false, [], []⟩, ⟨true, false, [66, 67, 68, 69, 70, 71, 72, 73, 74, 75, 76, 77, 78, 79, 80, 81, 82, 83, 84, 85, 86, 87, 88], [0]⟩, ⟨false, false, [], []⟩, ⟨false, false, [], [2]⟩, ⟨true, false, [64, 65, 69, 70, 71, 72, 73, 74, 75, 76, 77, 78, 79, 80, 81, 82, 83, 84, 85, 86, 87, 88], [2, 3]⟩, ⟨true, false, [70, 71, 72, 73, 74, 75, 76, 77, 78, 79, 80, 81, 82, 83, 84, 85, 86, 87, 88], [0, 1, 2, 3, 4]⟩, ⟨false, false, [], []⟩, ⟨true, false, [64, 65, 66, 67, 68, 69, 72, 73, 74, 75, 76, 77, 78, 79, 80, 81, 82, 83, 84, 85, 86, 87, 88], [6]⟩, ⟨false, false, [], []⟩, ⟨false, false, [], [8]⟩, ⟨true, false, [64, 65, 66, 67, 68, 69, 70, 71, 75, 76, 77, 78, 79, 80, 81, 82, 83, 84, 85, 86, 87, 88], [8, 9]⟩, ⟨true, false, [76, 77, 78, 79, 80, 81, 82, 83, 84, 85, 86, 87, 88], [0, 1, 2, 3, 4, 5, 6, 7, 8, 9, 10]⟩, ⟨false, false, [], []⟩, ⟨true, false, [64, 65, 66, 67, 68, 69, 70, 71, 72, 73, 74, 75, 78, 79, 80, 81, 82, 83, 84, 85, 86, 87, 88], [12]⟩, ⟨false, false, [], []⟩, ⟨false, false, [], [14]⟩, ⟨true, false, [64, 65, 66, 67, 68, 69, 70, 71, 72, 73, 74, 75, 76, 77, 81, 82, 83, 84, 85, 86, 87, 88], [14, 15]⟩, ⟨true, false, [82, 83, 84, 85, 86, 87, 88], [0, 1, 2, 3, 4, 5, 6, 7, 8, 9, 10, 11, 12, 13, 14, 15, 16]⟩, ⟨false, false, [], []⟩, ⟨true, false, [64, 65, 66, 67, 68, 69, 70, 71, 72, 73, 74, 75, 76, 77, 78, 79, 80, 81, 84, 85, 86, 87, 88], [18]⟩, ⟨false, false, [], []⟩, ⟨false, false, [], [20]⟩, ⟨true, false, [64, 65, 66, 67, 68, 69, 70, 71, 72, 73, 74, 75, 76, 77, 78, 79, 80, 81, 82, 83, 87, 88], [20, 21]⟩, ⟨true, true, [88], [0, 1, 2, 3, 4, 5, 6, 7, 8, 9, 10, 11, 12, 13, 14, 15, 16, 17, 18, 19, 20, 21, 22]⟩, ⟨false, false, [], [0, 1, 2, 3, 4, 5, 6, 7, 8, 9, 10, 11, 12, 13, 14, 15, 16, 17, 18, 19, 20, 21, 22, 23]⟩, ⟨true, true, [], [0, 1, 2, 3, 4, 5, 6, 7, 8, 9, 10, 11, 12, 13, 14, 15, 16, 17, 18, 19, 20, 21, 22, 23, 24]⟩])]
theorem ok.r7_there : fnOk rt.r7_there Tryz.f128 = true := by kernel_rfl
theorem con.r7_there {args : List V} {bs bs' : List B} {r : Oc} (h : FnVC C rt.r7_there Tryz.f128 args bs r bs') (ha : Nat.ble args.length 89 = true := by rfl) : Con C N.r7_there args bs r bs' := con_of_fn cok Tryz.func128 (by kernel_rfl) ok.r7_there ha h
abbrev N.r9_Twofish_sums : Nat := 129
def rt.r9_Twofish_sums : Rt := [(1, [⟨false, false, [], []⟩, ⟨false, false, [], []⟩, ⟨false, false, [], [1]⟩, ⟨false, false, [], [1, 2]⟩, ⟨true, false, [10, 15, 16, 17, 18, 19, 20, 21, 22, 8, 9], [1, 2, 3]⟩, ⟨true, false, [16, 17, 18, 19, 20, 21, 22, 8, 9], [0, 1, 2, 3, 4]⟩, ⟨false, false, [], []⟩, ⟨true, false, [18, 19, 20, 21, 22, 8, 9], [0, 1, 2, 3, 4, 5, 6]⟩, ⟨false, false, [], []⟩, ⟨false, false, [], [8]⟩, ⟨false, false, [], [8, 9]⟩, ⟨true, false, [10, 11, 12, 13, 14, 15, 16, 17, 22, 8, 9], [8, 9, 10]⟩, ⟨true, true, [8, 9], [0, 1, 2, 3, 4, 5, 6, 7, 8, 9, 10, 11]⟩, ⟨false, false, [], [0, 1, 2, 3, 4, 5, 6, 7, 8, 9, 10, 11, 12]⟩, ⟨false, false, [], [0, 1, 2, 3, 4, 5, 6, 7, 8, 9, 10, 11, 12, 13]⟩])]
theorem ok.r9_Twofish_sums : fnOk rt.r9_Twofish_sums Tryz.f129 = true := by kernel_rfl
theorem con.r9_Twofish_sums {args : List V} {bs bs' : List B} {r : Oc} (h : FnVC C rt.r9_Twofish_sums Tryz.f129 args bs r bs') (ha : Nat.ble args.length 30 = true := by rfl) : Con C N.r9_Twofish_sums args bs r bs' := con_of_fn cok Tryz.func129 (by kernel_rfl) ok.r9_Twofish_sums ha h
abbrev N.r1_PutLe32 : Nat := 130
def rt.r1_PutLe32 : Rt := []
theorem ok.r1_PutLe32 : fnOk rt.r1_PutLe32 Tryz.f130 = true := by kernel_rfl
theorem con.r1_PutLe32 {args : List V} {bs bs' : List B} {r : Oc} (h : FnVC C rt.r1_PutLe32 Tryz.f130 args bs r bs') (ha : Nat.ble args.length 15 = true := by rfl) : Con C N.r1_PutLe32 args bs r bs' := con_of_fn cok Tryz.func130 (by kernel_rfl) ok.r1_PutLe32 ha h
abbrev N.r10_Boxes_layer : Nat := 131
def rt.r10_Boxes_layer : Rt := [(5, [⟨false, false, [], []⟩, ⟨false, false, [], []⟩, ⟨false, false, [], []⟩, ⟨false, false, [], []⟩, ⟨false, false, [], []⟩, ⟨false, false, [], [4]⟩, ⟨false, false, [], [4, 5]⟩, ⟨false, false, [], [3, 4, 5, 6]⟩, ⟨false, false, [], [3, 4, 5, 6, 7]⟩, ⟨false, false, [], [2]⟩, ⟨false, false, [], [2, 9]⟩, ⟨false, false, [], [2, 3, 4, 5, 6, 7, 8, 9, 10]⟩, ⟨true, false, [18, 19, 31, 32, 33, 34, 35, 36, 37], [2, 3, 4, 5, 6, 7, 8, 9, 10, 11]⟩, ⟨false, false, [], []⟩, ⟨false, false, [], []⟩, ⟨false, false, [], [13, 14]⟩, ⟨true, false, [18, 19, 20, 21, 22, 23, 24, 25, 26, 27, 28, 29, 30, 35, 36, 37], [13, 14, 15]⟩, ⟨false, false, [], [2, 3, 4, 5, 6, 7, 8, 9, 10, 11, 12, 13, 14, 15, 16]⟩, ⟨true, false, [18, 19, 37], [2, 3, 4, 5, 6, 7, 8, 9, 10, 11, 12, 13, 14, 15, 16, 17]⟩, ⟨false, false, [], [0, 1, 2, 3, 4, 5, 6, 7, 8, 9, 10, 11, 12, 13, 14, 15, 16, 17, 18]⟩, ⟨true, true, [], [0, 1, 2, 3, 4, 5, 6, 7, 8, 9, 10, 11, 12, 13, 14, 15, 16, 17, 18, 19]⟩])]
theorem ok.r10_Boxes_layer : fnOk rt.r10_Boxes_layer Tryz.f131 = true := by kernel_rfl
theorem con.r10_Boxes_layer {args : List V} {bs bs' : List B} {r : Oc} (h : FnVC C rt.r10_Boxes_layer Tryz.f131 args bs r bs') (ha : Nat.ble args.length 39 = true := by rfl) : Con C N.r10_Boxes_layer args bs r bs' := con_of_fn cok Tryz.func131 (by kernel_rfl) ok.r10_Boxes_layer ha h
abbrev N.r10_mix : Nat := 132
def rt.r10_mix : Rt := [(9, [⟨false, false, [], []⟩, ⟨false, false, [], []⟩, ⟨false, false, [], []⟩, ⟨false, false, [], []⟩, ⟨false, false, [], [2, 3]⟩, ⟨true, false, [20, 21, 26, 27, 28, 29, 30, 31, 32, 33, 34], [2, 3, 4]⟩, ⟨false, false, [], []⟩, ⟨false, false, [], []⟩, ⟨false, false, [], []⟩, ⟨false, false, [], [7, 8]⟩, ⟨true, false, [20, 21, 22, 23, 24, 25, 26, 31, 32, 33, 34], [7, 8, 9]⟩, ⟨false, false, [], [6, 7, 8, 9, 10]⟩, ⟨true, false, [20, 21, 22, 23, 24, 25, 33, 34], [6, 7, 8, 9, 10, 11]⟩, ⟨false, false, [], [2, 3, 4, 5, 6, 7, 8, 9, 10, 11, 12]⟩, ⟨false, false, [], [0, 1, 2, 3, 4, 5, 6, 7, 8, 9, 10, 11, 12, 13]⟩, ⟨true, true, [], [0, 1, 2, 3, 4, 5, 6, 7, 8, 9, 10, 11, 12, 13, 14]⟩])]
theorem ok.r10_mix : fnOk rt.r10_mix Tryz.f132 = true := by kernel_rfl
theorem con.r10_mix {args : List V} {bs bs' : List B} {r : Oc} (h : FnVC C rt.r10_mix Tryz.f132 args bs r bs') (ha : Nat.ble args.length 36 = true := by rfl) : Con C N.r10_mix args bs r bs' := con_of_fn cok Tryz.func132 (by kernel_rfl) ok.r10_mix ha h
abbrev N.r8_Small_rc5 : Nat := 133
def rt.r8_Small_rc5 : Rt := [(2, [⟨false, false, [], []⟩, ⟨false, false, [], []⟩, ⟨false, false, [], [1]⟩, ⟨false, false, [], [1, 2]⟩, ⟨true, false, [14, 19, 20, 21, 22, 23, 24, 25, 26, 27, 28, 29, 1, 2], [1, 2, 3]⟩, ⟨false, false, [], [1, 2, 3, 4]⟩, ⟨true, false, [14, 21, 22, 23, 24, 25, 26, 27, 28, 29, 1, 2], [1, 2, 3, 4, 5]⟩, ⟨false, false, [], [0, 1, 2, 3, 4, 5, 6]⟩, ⟨false, false, [], []⟩, ⟨false, false, [], []⟩, ⟨false, false, [], [9]⟩, ⟨false, false, [], [9, 10]⟩, ⟨true, false, [14, 15, 16, 17, 18, 19, 20, 21, 22, 27, 28, 29, 1, 2], [9, 10, 11]⟩, ⟨false, false, [], [9, 10, 11, 12]⟩, ⟨true, false, [14, 15, 16, 17, 18, 19, 20, 21, 22, 29, 1, 2], [9, 10, 11, 12, 13]⟩, ⟨false, false, [], [8, 9, 10, 11, 12, 13, 14]⟩, ⟨false, false, [], [0, 1, 2, 3, 4, 5, 6, 7]⟩, ⟨false, false, [], [0, 1, 2, 3, 4, 5, 6, 7, 8, 9, 10, 11, 12, 13, 14, 15, 16]⟩]), (6, [⟨false, false, [], []⟩, ⟨false, false, [], []⟩, ⟨false, false, [], [0, 1]⟩, ⟨false, false, [], []⟩, ⟨false, false, [], [3]⟩, ⟨true, false, [34, 35, 36, 40, 41, 42, 43, 44, 45, 46, 47, 48, 49, 1], [3, 4]⟩, ⟨true, false, [41, 42, 43, 44, 45, 46, 47, 48, 49, 1], [0, 1, 2, 3, 4, 5]⟩, ⟨false, false, [], []⟩, ⟨false, false, [], [7]⟩, ⟨false, false, [], [7, 8]⟩, ⟨true, false, [34, 35, 36, 37, 38, 39, 40, 45, 46, 47, 48, 49, 1], [7, 8, 9]⟩, ⟨false, false, [], []⟩, ⟨false, false, [], [11]⟩, ⟨false, false, [], [7, 8, 9, 10, 11, 12]⟩, ⟨true, false, [34, 35, 36, 37, 38, 39, 40, 49, 1], [7, 8, 9, 10, 11, 12, 13]⟩, ⟨false, false, [], [0, 1, 2, 3, 4, 5, 6, 7, 8, 9, 10, 11, 12, 13, 14]⟩, ⟨false, false, [], [0, 1, 2, 3, 4, 5, 6, 7, 8, 9, 10, 11, 12, 13, 14, 15]⟩]), (7, [⟨false, false, [], []⟩, ⟨false, false, [], []⟩, ⟨false, false, [], [0, 1]⟩, ⟨false, false, [], []⟩, ⟨false, false, [], [3]⟩, ⟨true, false, [50, 51, 52, 56, 57, 58, 59, 60, 61, 62, 63, 64, 65, 66, 2], [3, 4]⟩, ⟨true, false, [57, 58, 59, 60, 61, 62, 63, 64, 65, 66, 2], [0, 1, 2, 3, 4, 5]⟩, ⟨false, false, [], []⟩, ⟨false, false, [], [7]⟩, ⟨false, false, [], [7, 8]⟩, ⟨true, false, [50, 51, 52, 53, 54, 55, 56, 61, 62, 63, 64, 65, 66, 2], [7, 8, 9]⟩, ⟨false, false, [], []⟩, ⟨false, false, [], [11]⟩, ⟨false, false, [], [11, 12]⟩, ⟨false, false, [], [7, 8, 9, 10, 11, 12, 13]⟩, ⟨true, false, [50, 51, 52, 53, 54, 55, 56, 66, 2], [7, 8, 9, 10, 11, 12, 13, 14]⟩, ⟨false, false, [], [0, 1, 2, 3, 4, 5, 6, 7, 8, 9, 10, 11, 12, 13, 14, 15]⟩, ⟨false, false, [], [0, 1, 2, 3, 4, 5, 6, 7, 8, 9, 10, 11, 12, 13, 14, 15, 16]⟩]), (14, [⟨false, false, [], []⟩, ⟨false, false, [], []⟩, ⟨false, false, [], [1]⟩, ⟨false, false, [], [1, 2]⟩, ⟨true, false, [108, 113, 114, 115, 116, 117, 118, 119, 120, 121, 122, 123, 8, 9], [1, 2, 3]⟩, ⟨false, false, [], [1, 2, 3, 4]⟩, ⟨true, false, [108, 115, 116, 117, 118, 119, 120, 121, 122, 123, 8, 9], [1, 2, 3, 4, 5]⟩, ⟨false, false, [], [0, 1, 2, 3, 4, 5, 6]⟩, ⟨false, false, [], []⟩, ⟨false, false, [], []⟩, ⟨false, false, [], [9]⟩, ⟨false, false, [], [9, 10]⟩, ⟨true, false, [108, 109, 110, 111, 112, 113, 114, 115, 116, 121, 122, 123, 8, 9], [9, 10, 11]⟩, ⟨false, false, [], [9, 10, 11, 12]⟩, ⟨true, false, [108, 109, 110, 111, 112, 113, 114, 115, 116, 123, 8, 9], [9, 10, 11, 12, 13]⟩, ⟨false, false, [], [8, 9, 10, 11, 12, 13, 14]⟩, ⟨false, false, [], [0, 1, 2, 3, 4, 5, 6, 7]⟩, ⟨false, false, [], [0, 1, 2, 3, 4, 5, 6, 7, 8, 9, 10, 11, 12, 13, 14, 15, 16]⟩])]
theorem ok.r8_Small_rc5 : fnOk rt.r8_Small_rc5 Tryz.f133 = true := by kernel_rfl
theorem con.r8_Small_rc5 {args : List V} {bs bs' : List B} {r : Oc} (h : FnVC C rt.r8_Small_rc5 Tryz.f133 args bs r bs') (ha : Nat.ble args.length 124 = true := by rfl) : Con C N.r8_Small_rc5 args bs r bs' := con_of_fn cok Tryz.func133 (by kernel_rfl) ok.r8_Small_rc5 ha h
abbrev N.r8_Small_xtea : Nat := 134
def rt.r8_Small_xtea : Rt := []
theorem ok.r8_Small_xtea : fnOk rt.r8_Small_xtea Tryz.f134 = true := by kernel_rfl
theorem con.r8_Small_xtea {args : List V} {bs bs' : List B} {r : Oc} (h : FnVC C rt.r8_Small_xtea Tryz.f134 args bs r bs') (ha : Nat.ble args.length 68 = true := by rfl) : Con C N.r8_Small_xtea args bs r bs' := con_of_fn cok Tryz.func134 (by kernel_rfl) ok.r8_Small_xtea ha h
abbrev N.r8_Small_magma : Nat := 135
def rt.r8_Small_magma : Rt := []
theorem ok.r8_Small_magma : fnOk rt.r8_Small_magma Tryz.f135 = true := by kernel_rfl
theorem con.r8_Small_magma {args : List V} {bs bs' : List B} {r : Oc} (h : FnVC C rt.r8_Small_magma Tryz.f135 args bs r bs') (ha : Nat.ble args.length 41 = true := by rfl) : Con C N.r8_Small_magma args bs r bs' := con_of_fn cok Tryz.func135 (by kernel_rfl) ok.r8_Small_magma ha h
abbrev N.r1_PutBe32 : Nat := 136
def rt.r1_PutBe32 : Rt := []
theorem ok.r1_PutBe32 : fnOk rt.r1_PutBe32 Tryz.f136 = true := by kernel_rfl
theorem con.r1_PutBe32 {args : List V} {bs bs' : List B} {r : Oc} (h : FnVC C rt.r1_PutBe32 Tryz.f136 args bs r bs') (ha : Nat.ble args.length 15 = true := by rfl) : Con C N.r1_PutBe32 args bs r bs' := con_of_fn cok Tryz.func136 (by kernel_rfl) ok.r1_PutBe32 ha h
abbrev N.des_down : Nat := 137
def rt.des_down : Rt := []
theorem ok.des_down : fnOk rt.des_down Tryz.f137 = true := by kernel_rfl
theorem con.des_down {args : List V} {bs bs' : List B} {r : Oc} (h : FnVC C rt.des_down Tryz.f137 args bs r bs') (ha : Nat.ble args.length 32 = true := by rfl) : Con C N.des_down args bs r bs' := con_of_fn cok Tryz.func137 (by kernel_rfl) ok.des_down ha h
abbrev N.bits_Bit : Nat := 138
def rt.bits_Bit : Rt := []
theorem ok.bits_Bit : fnOk rt.bits_Bit Tryz.f138 = true := by kernel_rfl
theorem con.bits_Bit {args : List V} {bs bs' : List B} {r : Oc} (h : FnVC C rt.bits_Bit Tryz.f138 args bs r bs') (ha : Nat.ble args.length 28 = true := by rfl) : Con C N.bits_Bit args bs r bs' := con_of_fn cok Tryz.func138 (by kernel_rfl) ok.bits_Bit ha h
abbrev N.des_wide : Nat := 139
def rt.des_wide : Rt := []
theorem ok.des_wide : fnOk rt.des_wide Tryz.f139 = true := by kernel_rfl
theorem con.des_wide {args : List V} {bs bs' : List B} {r : Oc} (h : FnVC C rt.des_wide Tryz.f139 args bs r bs') (ha : Nat.ble args.length 20 = true := by rfl) : Con C N.des_wide args bs r bs' := con_of_fn cok Tryz.func139 (by kernel_rfl) ok.des_wide ha h
abbrev N.des_sign : Nat := 140
def rt.des_sign : Rt := []
theorem ok.des_sign : fnOk rt.des_sign Tryz.f140 = true := by kernel_rfl
theorem con.des_sign {args : List V} {bs bs' : List B} {r : Oc} (h : FnVC C rt.des_sign Tryz.f140 args bs r bs') (ha : Nat.ble args.length 10 = true := by rfl) : Con C N.des_sign args bs r bs' := con_of_fn cok Tryz.func140 (by kernel_rfl) ok.des_sign ha h
abbrev N.des_boxes : Nat := 141
def rt.des_boxes : Rt := []
theorem ok.des_boxes : fnOk rt.des_boxes Tryz.f141 = true := by kernel_rfl
theorem con.des_boxes {args : List V} {bs bs' : List B} {r : Oc} (h : FnVC C rt.des_boxes Tryz.f141 args bs r bs') (ha : Nat.ble args.length 44 = true := by rfl) : Con C N.des_boxes args bs r bs' := con_of_fn cok Tryz.func141 (by kernel_rfl) ok.des_boxes ha h
abbrev N.des_mixed : Nat := 142
def rt.des_mixed : Rt := []
theorem ok.des_mixed : fnOk rt.des_mixed Tryz.f142 = true := by kernel_rfl
theorem con.des_mixed {args : List V} {bs bs' : List B} {r : Oc} (h : FnVC C rt.des_mixed Tryz.f142 args bs r bs') (ha : Nat.ble args.length 2 = true := by rfl) : Con C N.des_mixed args bs r bs' := con_of_fn cok Tryz.func142 (by kernel_rfl) ok.des_mixed ha h
abbrev N.slices_Grow_byte : Nat := 143
def rt.slices_Grow_byte : Rt := []
theorem ok.slices_Grow_byte : fnOk rt.slices_Grow_byte Tryz.f143 = true := by kernel_rfl
theorem con.slices_Grow_byte {args : List V} {bs bs' : List B} {r : Oc} (h : FnVC C rt.slices_Grow_byte Tryz.f143 args bs r bs') (ha : Nat.ble args.length 27 = true := by rfl) : Con C N.slices_Grow_byte args bs r bs' := con_of_fn cok Tryz.func143 (by kernel_rfl) ok.slices_Grow_byte ha h
abbrev N.field_Mul : Nat := 144
def rt.field_Mul : Rt := []
theorem ok.field_Mul : fnOk rt.field_Mul Tryz.f144 = true := by kernel_rfl
theorem con.field_Mul {args : List V} {bs bs' : List B} {r : Oc} (h : FnVC C rt.field_Mul Tryz.f144 args bs r bs') (ha : Nat.ble args.length 35 = true := by rfl) : Con C N.field_Mul args bs r bs' := con_of_fn cok Tryz.func144 (by kernel_rfl) ok.field_Mul ha h
abbrev N.twofish_order : Nat := 145
def rt.twofish_order : Rt := []
theorem ok.twofish_order : fnOk rt.twofish_order Tryz.f145 = true := by kernel_rfl
theorem con.twofish_order {args : List V} {bs bs' : List B} {r : Oc} (h : FnVC C rt.twofish_order Tryz.f145 args bs r bs') (ha : Nat.ble args.length 17 = true := by rfl) : Con C N.twofish_order args bs r bs' := con_of_fn cok Tryz.func145 (by kernel_rfl) ok.twofish_order ha h
abbrev N.twofish_Q : Nat := 146
def rt.twofish_Q : Rt := [(7, [⟨false, false, [], []⟩, ⟨false, false, [], [0]⟩, ⟨true, false, [39, 40, 41, 42, 43, 44, 45, 46, 47, 48, 6, 7], [0, 1]⟩, ⟨false, false, [], []⟩, ⟨false, false, [], [0, 1, 2, 3]⟩, ⟨true, false, [42, 43, 44, 45, 46, 47, 48, 6, 7], [0, 1, 2, 3, 4]⟩, ⟨false, false, [], []⟩, ⟨false, false, [], [6]⟩, ⟨false, false, [], [6, 7]⟩, ⟨true, false, [36, 37, 38, 39, 40, 41, 46, 47, 48, 6, 7], [6, 7, 8]⟩, ⟨false, false, [], []⟩, ⟨false, false, [], [6, 7, 8, 9, 10]⟩, ⟨true, true, [6, 7], [0, 1, 2, 3, 4, 5, 6, 7, 8, 9, 10, 11]⟩, ⟨false, false, [], [0, 1, 2, 3, 4, 5, 6, 7, 8, 9, 10, 11, 12]⟩, ⟨false, false, [], [0, 1, 2, 3, 4, 5, 6, 7, 8, 9, 10, 11, 12, 13]⟩])]
theorem ok.twofish_Q : fnOk rt.twofish_Q Tryz.f146 = true := by kernel_rfl
theorem con.twofish_Q {args : List V} {bs bs' : List B} {r : Oc} (h : FnVC C rt.twofish_Q Tryz.f146 args bs r bs') (ha : Nat.ble args.length 53 = true := by rfl) : Con C N.twofish_Q args bs r bs' := con_of_fn cok Tryz.func146 (by kernel_rfl) ok.twofish_Q ha h
abbrev N.twofish_mix : Nat := 147
def rt.twofish_mix : Rt := []
theorem ok.twofish_mix : fnOk rt.twofish_mix Tryz.f147 = true := by kernel_rfl
theorem con.twofish_mix {args : List V} {bs bs' : List B} {r : Oc} (h : FnVC C rt.twofish_mix Tryz.f147 args bs r bs') (ha : Nat.ble args.length 6 = true := by rfl) : Con C N.twofish_mix args bs r bs' := con_of_fn cok Tryz.func147 (by kernel_rfl) ok.twofish_mix ha h
abbrev N.words_load : Nat := 148
def rt.words_load : Rt := []
theorem ok.words_load : fnOk rt.words_load Tryz.f148 = true := by kernel_rfl
theorem con.words_load {args : List V} {bs bs' : List B} {r : Oc} (h : FnVC C rt.words_load Tryz.f148 args bs r bs') (ha : Nat.ble args.length 20 = true := by rfl) : Con C N.words_load args bs r bs' := con_of_fn cok Tryz.func148 (by kernel_rfl) ok.words_load ha h
abbrev N.words_store : Nat := 149
def rt.words_store : Rt := []
theorem ok.words_store : fnOk rt.words_store Tryz.f149 = true := by kernel_rfl
theorem con.words_store {args : List V} {bs bs' : List B} {r : Oc} (h : FnVC C rt.words_store Tryz.f149 args bs r bs') (ha : Nat.ble args.length 22 = true := by rfl) : Con C N.words_store args bs r bs' := con_of_fn cok Tryz.func149 (by kernel_rfl) ok.words_store ha h
abbrev N.box_Affine : Nat := 150
def rt.box_Affine : Rt := []
theorem ok.box_Affine : fnOk rt.box_Affine Tryz.f150 = true := by kernel_rfl
theorem con.box_Affine {args : List V} {bs bs' : List B} {r : Oc} (h : FnVC C rt.box_Affine Tryz.f150 args bs r bs') (ha : Nat.ble args.length 27 = true := by rfl) : Con C N.box_Affine args bs r bs' := con_of_fn cok Tryz.func150 (by kernel_rfl) ok.box_Affine ha h
abbrev N.field_Pow : Nat := 151
def rt.field_Pow : Rt := []
theorem ok.field_Pow : fnOk rt.field_Pow Tryz.f151 = true := by kernel_rfl
theorem con.field_Pow {args : List V} {bs bs' : List B} {r : Oc} (h : FnVC C rt.field_Pow Tryz.f151 args bs r bs') (ha : Nat.ble args.length 24 = true := by rfl) : Con C N.field_Pow args bs r bs' := con_of_fn cok Tryz.func151 (by kernel_rfl) ok.field_Pow ha h
abbrev N.box_Is : Nat := 152
def rt.box_Is : Rt := [(9, [⟨false, false, [], []⟩, ⟨true, false, [18, 19, 2], [0]⟩, ⟨true, false, [16, 17, 19, 2], []⟩, ⟨false, false, [], [0, 1, 2]⟩, ⟨false, false, [], [0, 1, 2, 3]⟩])]
theorem ok.box_Is : fnOk rt.box_Is Tryz.f152 = true := by kernel_rfl
theorem con.box_Is {args : List V} {bs bs' : List B} {r : Oc} (h : FnVC C rt.box_Is Tryz.f152 args bs r bs') (ha : Nat.ble args.length 20 = true := by rfl) : Con C N.box_Is args bs r bs' := con_of_fn cok Tryz.func152 (by kernel_rfl) ok.box_Is ha h
abbrev N.words_PutBe64 : Nat := 153
def rt.words_PutBe64 : Rt := []
theorem ok.words_PutBe64 : fnOk rt.words_PutBe64 Tryz.f153 = true := by kernel_rfl
theorem con.words_PutBe64 {args : List V} {bs bs' : List B} {r : Oc} (h : FnVC C rt.words_PutBe64 Tryz.f153 args bs r bs') (ha : Nat.ble args.length 5 = true := by rfl) : Con C N.words_PutBe64 args bs r bs' := con_of_fn cok Tryz.func153 (by kernel_rfl) ok.words_PutBe64 ha h
abbrev N.slices_Grow_uint32 : Nat := 154
def rt.slices_Grow_uint32 : Rt := []
theorem ok.slices_Grow_uint32 : fnOk rt.slices_Grow_uint32 Tryz.f154 = true := by kernel_rfl
theorem con.slices_Grow_uint32 {args : List V} {bs bs' : List B} {r : Oc} (h : FnVC C rt.slices_Grow_uint32 Tryz.f154 args bs r bs') (ha : Nat.ble args.length 27 = true := by rfl) : Con C N.slices_Grow_uint32 args bs r bs' := con_of_fn cok Tryz.func154 (by kernel_rfl) ok.slices_Grow_uint32 ha h
abbrev N.small_rows : Nat := 155
def rt.small_rows : Rt := []
theorem ok.small_rows : fnOk rt.small_rows Tryz.f155 = true := by kernel_rfl
theorem con.small_rows {args : List V} {bs bs' : List B} {r : Oc} (h : FnVC C rt.small_rows Tryz.f155 args bs r bs') (ha : Nat.ble args.length 2 = true := by rfl) : Con C N.small_rows args bs r bs' := con_of_fn cok Tryz.func155 (by kernel_rfl) ok.small_rows ha h
abbrev N.small_sign : Nat := 156
def rt.small_sign : Rt := []
theorem ok.small_sign : fnOk rt.small_sign Tryz.f156 = true := by kernel_rfl
theorem con.small_sign {args : List V} {bs bs' : List B} {r : Oc} (h : FnVC C rt.small_sign Tryz.f156 args bs r bs') (ha : Nat.ble args.length 12 = true := by rfl) : Con C N.small_sign args bs r bs' := con_of_fn cok Tryz.func156 (by kernel_rfl) ok.small_sign ha h
abbrev N.r2_Permute : Nat := 157
def rt.r2_Permute : Rt := []
theorem ok.r2_Permute : fnOk rt.r2_Permute Tryz.f157 = true := by kernel_rfl
theorem con.r2_Permute {args : List V} {bs bs' : List B} {r : Oc} (h : FnVC C rt.r2_Permute Tryz.f157 args bs r bs') (ha : Nat.ble args.length 57 = true := by rfl) : Con C N.r2_Permute args bs r bs' := con_of_fn cok Tryz.func157 (by kernel_rfl) ok.r2_Permute ha h
abbrev N.r1_rest : Nat := 158
def rt.r1_rest : Rt := []
theorem ok.r1_rest : fnOk rt.r1_rest Tryz.f158 = true := by kernel_rfl
theorem con.r1_rest {args : List V} {bs bs' : List B} {r : Oc} (h : FnVC C rt.r1_rest Tryz.f158 args bs r bs') (ha : Nat.ble args.length 12 = true := by rfl) : Con C N.r1_rest args bs r bs' := con_of_fn cok Tryz.func158 (by kernel_rfl) ok.r1_rest ha h
abbrev N.r3_Mul : Nat := 159
def rt.r3_Mul : Rt := []
theorem ok.r3_Mul : fnOk rt.r3_Mul Tryz.f159 = true := by kernel_rfl
theorem con.r3_Mul {args : List V} {bs bs' : List B} {r : Oc} (h : FnVC C rt.r3_Mul Tryz.f159 args bs r bs') (ha : Nat.ble args.length 33 = true := by rfl) : Con C N.r3_Mul args bs r bs' := con_of_fn cok Tryz.func159 (by kernel_rfl) ok.r3_Mul ha h
abbrev N.r9_laid : Nat := 160
def rt.r9_laid : Rt := []
theorem ok.r9_laid : fnOk rt.r9_laid Tryz.f160 = true := by kernel_rfl
theorem con.r9_laid {args : List V} {bs bs' : List B} {r : Oc} (h : FnVC C rt.r9_laid Tryz.f160 args bs r bs') (ha : Nat.ble args.length 23 = true := by rfl) : Con C N.r9_laid args bs r bs' := con_of_fn cok Tryz.func160 (by kernel_rfl) ok.r9_laid ha h
abbrev N.r9_stage : Nat := 161
def rt.r9_stage : Rt := [(4, [⟨false, false, [], []⟩, ⟨false, false, [], []⟩, ⟨false, false, [], [1]⟩, ⟨true, false, [10, 14, 15, 16, 17, 18], [1, 2]⟩, ⟨false, false, [], []⟩, ⟨false, false, [], [4]⟩, ⟨true, false, [10, 11, 12, 13, 17, 18], [4, 5]⟩, ⟨true, true, [10, 18], [1, 2, 3, 4, 5, 6]⟩, ⟨false, false, [], [0, 1, 2, 3, 4, 5, 6, 7]⟩, ⟨true, true, [], [0, 1, 2, 3, 4, 5, 6, 7, 8]⟩])]
theorem ok.r9_stage : fnOk rt.r9_stage Tryz.f161 = true := by kernel_rfl
theorem con.r9_stage {args : List V} {bs bs' : List B} {r : Oc} (h : FnVC C rt.r9_stage Tryz.f161 args bs r bs') (ha : Nat.ble args.length 20 = true := by rfl) : Con C N.r9_stage args bs r bs' := con_of_fn cok Tryz.func161 (by kernel_rfl) ok.r9_stage ha h
abbrev N.r4_Affine : Nat := 162
def rt.r4_Affine : Rt := []
theorem ok.r4_Affine : fnOk rt.r4_Affine Tryz.f162 = true := by kernel_rfl
theorem con.r4_Affine {args : List V} {bs bs' : List B} {r : Oc} (h : FnVC C rt.r4_Affine Tryz.f162 args bs r bs') (ha : Nat.ble args.length 33 = true := by rfl) : Con C N.r4_Affine args bs r bs' := con_of_fn cok Tryz.func162 (by kernel_rfl) ok.r4_Affine ha h
abbrev N.r3_Pow : Nat := 163
def rt.r3_Pow : Rt := []
theorem ok.r3_Pow : fnOk rt.r3_Pow Tryz.f163 = true := by kernel_rfl
theorem con.r3_Pow {args : List V} {bs bs' : List B} {r : Oc} (h : FnVC C rt.r3_Pow Tryz.f163 args bs r bs') (ha : Nat.ble args.length 24 = true := by rfl) : Con C N.r3_Pow args bs r bs' := con_of_fn cok Tryz.func163 (by kernel_rfl) ok.r3_Pow ha h
abbrev N.r4_Is : Nat := 164
def rt.r4_Is : Rt := []
theorem ok.r4_Is : fnOk rt.r4_Is Tryz.f164 = true := by kernel_rfl
theorem con.r4_Is {args : List V} {bs bs' : List B} {r : Oc} (h : FnVC C rt.r4_Is Tryz.f164 args bs r bs') (ha : Nat.ble args.length 35 = true := by rfl) : Con C N.r4_Is args bs r bs' := con_of_fn cok Tryz.func164 (by kernel_rfl) ok.r4_Is ha h
abbrev N.r1_PutBe64 : Nat := 165
def rt.r1_PutBe64 : Rt := []
theorem ok.r1_PutBe64 : fnOk rt.r1_PutBe64 Tryz.f165 = true := by kernel_rfl
theorem con.r1_PutBe64 {args : List V} {bs bs' : List B} {r : Oc} (h : FnVC C rt.r1_PutBe64 Tryz.f165 args bs r bs') (ha : Nat.ble args.length 11 = true := by rfl) : Con C N.r1_PutBe64 args bs r bs' := con_of_fn cok Tryz.func165 (by kernel_rfl) ok.r1_PutBe64 ha h
abbrev N.r6_first : Nat := 166
def rt.r6_first : Rt := []
theorem ok.r6_first : fnOk rt.r6_first Tryz.f166 = true := by kernel_rfl
theorem con.r6_first {args : List V} {bs bs' : List B} {r : Oc} (h : FnVC C rt.r6_first Tryz.f166 args bs r bs') (ha : Nat.ble args.length 30 = true := by rfl) : Con C N.r6_first args bs r bs' := con_of_fn cok Tryz.func166 (by kernel_rfl) ok.r6_first ha h
abbrev N.r6_F : Nat := 167
def rt.r6_F : Rt := []
theorem ok.r6_F : fnOk rt.r6_F Tryz.f167 = true := by kernel_rfl
theorem con.r6_F {args : List V} {bs bs' : List B} {r : Oc} (h : FnVC C rt.r6_F Tryz.f167 args bs r bs') (ha : Nat.ble args.length 78 = true := by rfl) : Con C N.r6_F args bs r bs' := con_of_fn cok Tryz.func167 (by kernel_rfl) ok.r6_F ha h
abbrev N.r2_Invert : Nat := 168
def rt.r2_Invert : Rt := []
theorem ok.r2_Invert : fnOk rt.r2_Invert Tryz.f168 = true := by kernel_rfl
theorem con.r2_Invert {args : List V} {bs bs' : List B} {r : Oc} (h : FnVC C rt.r2_Invert Tryz.f168 args bs r bs') (ha : Nat.ble args.length 50 = true := by rfl) : Con C N.r2_Invert args bs r bs' := con_of_fn cok Tryz.func168 (by kernel_rfl) ok.r2_Invert ha h
abbrev N.r7_Mul : Nat := 169
def rt.r7_Mul : Rt := []
theorem ok.r7_Mul : fnOk rt.r7_Mul Tryz.f169 = true := by kernel_rfl
theorem con.r7_Mul {args : List V} {bs bs' : List B} {r : Oc} (h : FnVC C rt.r7_Mul Tryz.f169 args bs r bs') (ha : Nat.ble args.length 12 = true := by rfl) : Con C N.r7_Mul args bs r bs' := con_of_fn cok Tryz.func169 (by kernel_rfl) ok.r7_Mul ha h
abbrev N.r7_Inv : Nat := 170
def rt.r7_Inv : Rt := []
theorem ok.r7_Inv : fnOk rt.r7_Inv Tryz.f170 = true := by kernel_rfl
theorem con.r7_Inv {args : List V} {bs bs' : List B} {r : Oc} (h : FnVC C rt.r7_Inv Tryz.f170 args bs r bs') (ha : Nat.ble args.length 19 = true := by rfl) : Con C N.r7_Inv args bs r bs' := con_of_fn cok Tryz.func170 (by kernel_rfl) ok.r7_Inv ha h
abbrev N.r7_less : Nat := 171
def rt.r7_less : Rt := []
theorem ok.r7_less : fnOk rt.r7_less Tryz.f171 = true := by kernel_rfl
theorem con.r7_less {args : List V} {bs bs' : List B} {r : Oc} (h : FnVC C rt.r7_less Tryz.f171 args bs r bs') (ha : Nat.ble args.length 10 = true := by rfl) : Con C N.r7_less args bs r bs' := con_of_fn cok Tryz.func171 (by kernel_rfl) ok.r7_less ha h
abbrev N.r7_inner : Nat := 172
def rt.r7_inner : Rt := [(2, [⟨false, false, [], []⟩, ⟨false, false, [], []⟩, ⟨false, false, [], [0, 1]⟩, ⟨false, false, [], []⟩, ⟨true, false, [26, 27, 28, 29, 13], [0, 1, 2, 3]⟩, ⟨false, false, [], []⟩, ⟨false, false, [], [5]⟩, ⟨true, false, [21, 22, 23, 24, 25, 29, 13], [5, 6]⟩, ⟨true, true, [13], [0, 1, 2, 3, 4, 5, 6, 7]⟩, ⟨false, false, [], [0, 1, 2, 3, 4, 5, 6, 7, 8]⟩])]
theorem ok.r7_inner : fnOk rt.r7_inner Tryz.f172 = true := by kernel_rfl
theorem con.r7_inner {args : List V} {bs bs' : List B} {r : Oc} (h : FnVC C rt.r7_inner Tryz.f172 args bs r bs') (ha : Nat.ble args.length 34 = true := by rfl) : Con C N.r7_inner args bs r bs' := con_of_fn cok Tryz.func172 (by kernel_rfl) ok.r7_inner ha h
abbrev N.r7_add : Nat := 173
def rt.r7_add : Rt := []
theorem ok.r7_add : fnOk rt.r7_add Tryz.f173 = true := by kernel_rfl
theorem con.r7_add {args : List V} {bs bs' : List B} {r : Oc} (h : FnVC C rt.r7_add Tryz.f173 args bs r bs') (ha : Nat.ble args.length 9 = true := by rfl) : Con C N.r7_add args bs r bs' := con_of_fn cok Tryz.func173 (by kernel_rfl) ok.r7_add ha h
abbrev N.r10_of : Nat := 174
def rt.r10_of : Rt := []
theorem ok.r10_of : fnOk rt.r10_of Tryz.f174 = true := by kernel_rfl
theorem con.r10_of {args : List V} {bs bs' : List B} {r : Oc} (h : FnVC C rt.r10_of Tryz.f174 args bs r bs') (ha : Nat.ble args.length 50 = true := by rfl) : Con C N.r10_of args bs r bs' := con_of_fn cok Tryz.func174 (by kernel_rfl) ok.r10_of ha h
abbrev N.r8_Small_lays : Nat := 175
def rt.r8_Small_lays : Rt := []
theorem ok.r8_Small_lays : fnOk rt.r8_Small_lays Tryz.f175 = true := by kernel_rfl
theorem con.r8_Small_lays {args : List V} {bs bs' : List B} {r : Oc} (h : FnVC C rt.r8_Small_lays Tryz.f175 args bs r bs') (ha : Nat.ble args.length 27 = true := by rfl) : Con C N.r8_Small_lays args bs r bs' := con_of_fn cok Tryz.func175 (by kernel_rfl) ok.r8_Small_lays ha h
abbrev N.r8_G : Nat := 176
def rt.r8_G : Rt := []
theorem ok.r8_G : fnOk rt.r8_G Tryz.f176 = true := by kernel_rfl
theorem con.r8_G {args : List V} {bs bs' : List B} {r : Oc} (h : FnVC C rt.r8_G Tryz.f176 args bs r bs') (ha : Nat.ble args.length 33 = true := by rfl) : Con C N.r8_G args bs r bs' := con_of_fn cok Tryz.func176 (by kernel_rfl) ok.r8_G ha h
abbrev N.twofish_rows : Nat := 177
def rt.twofish_rows : Rt := []
theorem ok.twofish_rows : fnOk rt.twofish_rows Tryz.f177 = true := by kernel_rfl
theorem con.twofish_rows {args : List V} {bs bs' : List B} {r : Oc} (h : FnVC C rt.twofish_rows Tryz.f177 args bs r bs') (ha : Nat.ble args.length 7 = true := by rfl) : Con C N.twofish_rows args bs r bs' := con_of_fn cok Tryz.func177 (by kernel_rfl) ok.twofish_rows ha h
abbrev N.twofish_sign : Nat := 178
def rt.twofish_sign : Rt := []
theorem ok.twofish_sign : fnOk rt.twofish_sign Tryz.f178 = true := by kernel_rfl
theorem con.twofish_sign {args : List V} {bs bs' : List B} {r : Oc} (h : FnVC C rt.twofish_sign Tryz.f178 args bs r bs') (ha : Nat.ble args.length 10 = true := by rfl) : Con C N.twofish_sign args bs r bs' := con_of_fn cok Tryz.func178 (by kernel_rfl) ok.twofish_sign ha h
abbrev N.bits_OnesCount8 : Nat := 179
def rt.bits_OnesCount8 : Rt := []
theorem ok.bits_OnesCount8 : fnOk rt.bits_OnesCount8 Tryz.f179 = true := by kernel_rfl
theorem con.bits_OnesCount8 {args : List V} {bs bs' : List B} {r : Oc} (h : FnVC C rt.bits_OnesCount8 Tryz.f179 args bs r bs') (ha : Nat.ble args.length 6 = true := by rfl) : Con C N.bits_OnesCount8 args bs r bs' := con_of_fn cok Tryz.func179 (by kernel_rfl) ok.bits_OnesCount8 ha h
abbrev N.box_seen : Nat := 180
def rt.box_seen : Rt := []
theorem ok.box_seen : fnOk rt.box_seen Tryz.f180 = true := by kernel_rfl
theorem con.box_seen {args : List V} {bs bs' : List B} {r : Oc} (h : FnVC C rt.box_seen Tryz.f180 args bs r bs') (ha : Nat.ble args.length 15 = true := by rfl) : Con C N.box_seen args bs r bs' := con_of_fn cok Tryz.func180 (by kernel_rfl) ok.box_seen ha h
abbrev N.r2_Bit : Nat := 181
def rt.r2_Bit : Rt := []
theorem ok.r2_Bit : fnOk rt.r2_Bit Tryz.f181 = true := by kernel_rfl
theorem con.r2_Bit {args : List V} {bs bs' : List B} {r : Oc} (h : FnVC C rt.r2_Bit Tryz.f181 args bs r bs') (ha : Nat.ble args.length 28 = true := by rfl) : Con C N.r2_Bit args bs r bs' := con_of_fn cok Tryz.func181 (by kernel_rfl) ok.r2_Bit ha h
abbrev N.r9_Q : Nat := 182
def rt.r9_Q : Rt := [(8, [⟨false, false, [], []⟩, ⟨false, false, [], []⟩, ⟨false, false, [], [1]⟩, ⟨false, false, [], [0, 1, 2]⟩, ⟨true, false, [43, 44, 45, 46, 47, 48, 49, 50, 51, 52, 6, 7], [0, 1, 2, 3]⟩, ⟨false, false, [], []⟩, ⟨true, false, [45, 46, 47, 48, 49, 50, 51, 52, 6, 7], [0, 1, 2, 3, 4, 5]⟩, ⟨false, false, [], []⟩, ⟨false, false, [], []⟩, ⟨false, false, [], [8]⟩, ⟨false, false, [], [8, 9]⟩, ⟨false, false, [], [7, 8, 9, 10]⟩, ⟨true, false, [38, 39, 40, 41, 42, 43, 44, 51, 52, 6, 7], [7, 8, 9, 10, 11]⟩, ⟨false, false, [], []⟩, ⟨true, true, [6, 7], [0, 1, 2, 3, 4, 5, 6, 7, 8, 9, 10, 11, 12, 13]⟩, ⟨false, false, [], [0, 1, 2, 3, 4, 5, 6, 7, 8, 9, 10, 11, 12, 13, 14]⟩, ⟨false, false, [], [0, 1, 2, 3, 4, 5, 6, 7, 8, 9, 10, 11, 12, 13, 14, 15]⟩])]
theorem ok.r9_Q : fnOk rt.r9_Q Tryz.f182 = true := by kernel_rfl
theorem con.r9_Q {args : List V} {bs bs' : List B} {r : Oc} (h : FnVC C rt.r9_Q Tryz.f182 args bs r bs') (ha : Nat.ble args.length 58 = true := by rfl) : Con C N.r9_Q args bs r bs' := con_of_fn cok Tryz.func182 (by kernel_rfl) ok.r9_Q ha h
abbrev N.r6_wider : Nat := 183
def rt.r6_wider : Rt := []
theorem ok.r6_wider : fnOk rt.r6_wider Tryz.f183 = true := by kernel_rfl
theorem con.r6_wider {args : List V} {bs bs' : List B} {r : Oc} (h : FnVC C rt.r6_wider Tryz.f183 args bs r bs') (ha : Nat.ble args.length 20 = true := by rfl) : Con C N.r6_wider args bs r bs' := con_of_fn cok Tryz.func183 (by kernel_rfl) ok.r6_wider ha h
abbrev N.r6_At : Nat := 184
def rt.r6_At : Rt := []
theorem ok.r6_At : fnOk rt.r6_At Tryz.f184 = true := by kernel_rfl
theorem con.r6_At {args : List V} {bs bs' : List B} {r : Oc} (h : FnVC C rt.r6_At Tryz.f184 args bs r bs') (ha : Nat.ble args.length 9 = true := by rfl) : Con C N.r6_At args bs r bs' := con_of_fn cok Tryz.func184 (by kernel_rfl) ok.r6_At ha h
abbrev N.r6_rows : Nat := 185
def rt.r6_rows : Rt := []
theorem ok.r6_rows : fnOk rt.r6_rows Tryz.f185 = true := by kernel_rfl
theorem con.r6_rows {args : List V} {bs bs' : List B} {r : Oc} (h : FnVC C rt.r6_rows Tryz.f185 args bs r bs') (ha : Nat.ble args.length 26 = true := by rfl) : Con C N.r6_rows args bs r bs' := con_of_fn cok Tryz.func185 (by kernel_rfl) ok.r6_rows ha h
abbrev N.r6_mixed : Nat := 186
def rt.r6_mixed : Rt := []
theorem ok.r6_mixed : fnOk rt.r6_mixed Tryz.f186 = true := by kernel_rfl
theorem con.r6_mixed {args : List V} {bs bs' : List B} {r : Oc} (h : FnVC C rt.r6_mixed Tryz.f186 args bs r bs') (ha : Nat.ble args.length 2 = true := by rfl) : Con C N.r6_mixed args bs r bs' := con_of_fn cok Tryz.func186 (by kernel_rfl) ok.r6_mixed ha h
abbrev N.r7_stood : Nat := 187
def rt.r7_stood : Rt := []
theorem ok.r7_stood : fnOk rt.r7_stood Tryz.f187 = true := by kernel_rfl
theorem con.r7_stood {args : List V} {bs bs' : List B} {r : Oc} (h : FnVC C rt.r7_stood Tryz.f187 args bs r bs') (ha : Nat.ble args.length 6 = true := by rfl) : Con C N.r7_stood args bs r bs' := con_of_fn cok Tryz.func187 (by kernel_rfl) ok.r7_stood ha h
abbrev N.r8_row : Nat := 188
def rt.r8_row : Rt := []
theorem ok.r8_row : fnOk rt.r8_row Tryz.f188 = true := by kernel_rfl
theorem con.r8_row {args : List V} {bs bs' : List B} {r : Oc} (h : FnVC C rt.r8_row Tryz.f188 args bs r bs') (ha : Nat.ble args.length 7 = true := by rfl) : Con C N.r8_row args bs r bs' := con_of_fn cok Tryz.func188 (by kernel_rfl) ok.r8_row ha h
abbrev N.r9_rows : Nat := 189
def rt.r9_rows : Rt := []
theorem ok.r9_rows : fnOk rt.r9_rows Tryz.f189 = true := by kernel_rfl
theorem con.r9_rows {args : List V} {bs bs' : List B} {r : Oc} (h : FnVC C rt.r9_rows Tryz.f189 args bs r bs') (ha : Nat.ble args.length 7 = true := by rfl) : Con C N.r9_rows args bs r bs' := con_of_fn cok Tryz.func189 (by kernel_rfl) ok.r9_rows ha h
abbrev N.r6_digit : Nat := 190
def rt.r6_digit : Rt := []
theorem ok.r6_digit : fnOk rt.r6_digit Tryz.f190 = true := by kernel_rfl
theorem con.r6_digit {args : List V} {bs bs' : List B} {r : Oc} (h : FnVC C rt.r6_digit Tryz.f190 args bs r bs') (ha : Nat.ble args.length 12 = true := by rfl) : Con C N.r6_digit args bs r bs' := con_of_fn cok Tryz.func190 (by kernel_rfl) ok.r6_digit ha h
end Go.Scr
