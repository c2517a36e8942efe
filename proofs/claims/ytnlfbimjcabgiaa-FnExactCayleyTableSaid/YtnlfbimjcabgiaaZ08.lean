import Derived.Test.YtnlfbimjcabgiaaProg
import Derived.KernelRfl
import Derived.Test.YtnlfbimjcabgiaaZ07
set_option linter.unusedVariables false
set_option linter.unusedSimpArgs false
namespace Go.Proofs.Ytnlfbimjcabgiaa
def env : TEnv := fun t => match t with
  | 2 => some ⟨.int .i64, 1, 8, .int .i64 0, false⟩
  | 3 => some ⟨.int .i64, 1, 8, .int .i64 0, false⟩
  | 4 => some ⟨.bool, 1, 1, .bool false, false⟩
  | 5 => some ⟨.int .u8, 1, 1, .int .u8 0, false⟩
  | 6 => some ⟨.int .u8, 1, 1, .int .u8 0, false⟩
  | 7 => some ⟨.struct [(2, 0), (3, 1), (4, 2), (6, 3)], 4, 24, .agg #[.int .i64 0, .int .i64 0, .bool false, .int .u8 0], false⟩
  | 8 => some ⟨.struct [(2, 0), (3, 1), (4, 2), (6, 3)], 4, 24, .agg #[.int .i64 0, .int .i64 0, .bool false, .int .u8 0], false⟩
  | 9 => some ⟨.str, 1, 16, .string ⟨#[]⟩, false⟩
  | 10 => some ⟨.str, 1, 16, .string ⟨#[]⟩, false⟩
  | 11 => some ⟨.str, 1, 16, .string ⟨#[]⟩, false⟩
  | 12 => some ⟨.int .u64, 1, 8, .int .u64 0, false⟩
  | 13 => some ⟨.struct [(9, 0), (12, 1)], 2, 24, .agg #[.string ⟨#[]⟩, .int .u64 0], false⟩
  | 14 => some ⟨.struct [(9, 0), (12, 1)], 2, 24, .agg #[.string ⟨#[]⟩, .int .u64 0], false⟩
  | 15 => some ⟨.other, 1, 8, .pointer none, false⟩
  | 16 => some ⟨.other, 1, 8, .pointer none, false⟩
  | 17 => some ⟨.other, 1, 8, .pointer none, false⟩
  | 18 => some ⟨.struct [(17, 0)], 1, 8, .agg #[.pointer none], false⟩
  | 19 => some ⟨.struct [(17, 0)], 1, 8, .agg #[.pointer none], false⟩
  | 21 => some ⟨.int .i32, 1, 4, .int .i32 0, false⟩
  | 22 => some ⟨.slice 2, 1, 24, .slice none 0 0, false⟩
  | 23 => some ⟨.slice 22, 1, 24, .slice none 0 0, false⟩
  | 24 => some ⟨.slice 23, 1, 24, .slice none 0 0, false⟩
  | 25 => some ⟨.struct [(22, 0), (23, 1), (24, 2)], 3, 72, .agg #[.slice none 0 0, .slice none 0 0, .slice none 0 0], false⟩
  | 26 => some ⟨.struct [(22, 0), (23, 1), (24, 2)], 3, 72, .agg #[.slice none 0 0, .slice none 0 0, .slice none 0 0], false⟩
  | 31 => some ⟨.struct [(22, 0), (23, 1), (24, 2)], 3, 72, .agg #[.slice none 0 0, .slice none 0 0, .slice none 0 0], false⟩
  | 50 => some ⟨.other, 1, 8, .pointer none, false⟩
  | 68 => some ⟨.slice 3, 1, 24, .slice none 0 0, false⟩
  | 70 => some ⟨.other, 1, 8, .pointer none, false⟩
  | 74 => some ⟨.map 2 2, 1, 8, .map none, false⟩
  | 88 => some ⟨.struct [(2, 0), (2, 1), (2, 2), (2, 3)], 4, 32, .agg #[.int .i64 0, .int .i64 0, .int .i64 0, .int .i64 0], true⟩
  | 89 => some ⟨.struct [(2, 0), (2, 1), (2, 2), (2, 3)], 4, 32, .agg #[.int .i64 0, .int .i64 0, .int .i64 0, .int .i64 0], true⟩
  | 97 => some ⟨.struct [(50, 0), (23, 1)], 2, 32, .agg #[.pointer none, .slice none 0 0], false⟩
  | 98 => some ⟨.struct [(50, 0), (23, 1)], 2, 32, .agg #[.pointer none, .slice none 0 0], false⟩
  | 118 => some ⟨.struct [(17, 0), (17, 1), (17, 2), (9, 3)], 4, 40, .agg #[.pointer none, .pointer none, .pointer none, .string ⟨#[]⟩], false⟩
  | 119 => some ⟨.struct [(17, 0), (17, 1), (17, 2), (9, 3)], 4, 40, .agg #[.pointer none, .pointer none, .pointer none, .string ⟨#[]⟩], false⟩
  | 124 => some ⟨.int .u32, 1, 4, .int .u32 0, false⟩
  | 125 => some ⟨.int .u8, 1, 1, .int .u8 0, false⟩
  | 126 => some ⟨.int .u8, 1, 1, .int .u8 0, false⟩
  | 128 => some ⟨.other, 1, 8, .pointer none, false⟩
  | 129 => some ⟨.int .i32, 1, 4, .int .i32 0, false⟩
  | 130 => some ⟨.int .i32, 1, 4, .int .i32 0, false⟩
  | 131 => some ⟨.struct [(12, 0), (12, 1), (124, 2), (125, 3), (5, 4), (5, 5), (126, 6), (127, 7), (128, 8), (129, 9), (130, 10)], 11, 48, .agg #[.int .u64 0, .int .u64 0, .int .u32 0, .int .u8 0, .int .u8 0, .int .u8 0, .int .u8 0, .nilFunc, .pointer none, .int .i32 0, .int .i32 0], false⟩
  | 132 => some ⟨.struct [(12, 0), (12, 1), (124, 2), (125, 3), (5, 4), (5, 5), (126, 6), (127, 7), (128, 8), (129, 9), (130, 10)], 11, 48, .agg #[.int .u64 0, .int .u64 0, .int .u32 0, .int .u8 0, .int .u8 0, .int .u8 0, .int .u8 0, .nilFunc, .pointer none, .int .i32 0, .int .i32 0], false⟩
  | _ => none
theorem env2 : env 2 = some ⟨.int .i64, 1, 8, .int .i64 0, false⟩ := Eq.trans rfl rfl
theorem env3 : env 3 = some ⟨.int .i64, 1, 8, .int .i64 0, false⟩ := Eq.trans rfl rfl
theorem env4 : env 4 = some ⟨.bool, 1, 1, .bool false, false⟩ := Eq.trans rfl rfl
theorem env5 : env 5 = some ⟨.int .u8, 1, 1, .int .u8 0, false⟩ := Eq.trans rfl rfl
theorem env6 : env 6 = some ⟨.int .u8, 1, 1, .int .u8 0, false⟩ := Eq.trans rfl rfl
theorem env7 : env 7 = some ⟨.struct [(2, 0), (3, 1), (4, 2), (6, 3)], 4, 24, .agg #[.int .i64 0, .int .i64 0, .bool false, .int .u8 0], false⟩ := Eq.trans rfl rfl
theorem env8 : env 8 = some ⟨.struct [(2, 0), (3, 1), (4, 2), (6, 3)], 4, 24, .agg #[.int .i64 0, .int .i64 0, .bool false, .int .u8 0], false⟩ := Eq.trans rfl rfl
theorem env9 : env 9 = some ⟨.str, 1, 16, .string ⟨#[]⟩, false⟩ := Eq.trans rfl rfl
theorem env10 : env 10 = some ⟨.str, 1, 16, .string ⟨#[]⟩, false⟩ := Eq.trans rfl rfl
theorem env11 : env 11 = some ⟨.str, 1, 16, .string ⟨#[]⟩, false⟩ := Eq.trans rfl rfl
theorem env12 : env 12 = some ⟨.int .u64, 1, 8, .int .u64 0, false⟩ := Eq.trans rfl rfl
theorem env13 : env 13 = some ⟨.struct [(9, 0), (12, 1)], 2, 24, .agg #[.string ⟨#[]⟩, .int .u64 0], false⟩ := Eq.trans rfl rfl
theorem env14 : env 14 = some ⟨.struct [(9, 0), (12, 1)], 2, 24, .agg #[.string ⟨#[]⟩, .int .u64 0], false⟩ := Eq.trans rfl rfl
theorem env15 : env 15 = some ⟨.other, 1, 8, .pointer none, false⟩ := Eq.trans rfl rfl
theorem env16 : env 16 = some ⟨.other, 1, 8, .pointer none, false⟩ := Eq.trans rfl rfl
theorem env17 : env 17 = some ⟨.other, 1, 8, .pointer none, false⟩ := Eq.trans rfl rfl
theorem env18 : env 18 = some ⟨.struct [(17, 0)], 1, 8, .agg #[.pointer none], false⟩ := Eq.trans rfl rfl
theorem env19 : env 19 = some ⟨.struct [(17, 0)], 1, 8, .agg #[.pointer none], false⟩ := Eq.trans rfl rfl
theorem env21 : env 21 = some ⟨.int .i32, 1, 4, .int .i32 0, false⟩ := Eq.trans rfl rfl
theorem env22 : env 22 = some ⟨.slice 2, 1, 24, .slice none 0 0, false⟩ := Eq.trans rfl rfl
theorem env23 : env 23 = some ⟨.slice 22, 1, 24, .slice none 0 0, false⟩ := Eq.trans rfl rfl
theorem env24 : env 24 = some ⟨.slice 23, 1, 24, .slice none 0 0, false⟩ := Eq.trans rfl rfl
theorem env25 : env 25 = some ⟨.struct [(22, 0), (23, 1), (24, 2)], 3, 72, .agg #[.slice none 0 0, .slice none 0 0, .slice none 0 0], false⟩ := Eq.trans rfl rfl
theorem env26 : env 26 = some ⟨.struct [(22, 0), (23, 1), (24, 2)], 3, 72, .agg #[.slice none 0 0, .slice none 0 0, .slice none 0 0], false⟩ := Eq.trans rfl rfl
theorem env31 : env 31 = some ⟨.struct [(22, 0), (23, 1), (24, 2)], 3, 72, .agg #[.slice none 0 0, .slice none 0 0, .slice none 0 0], false⟩ := Eq.trans rfl rfl
theorem env50 : env 50 = some ⟨.other, 1, 8, .pointer none, false⟩ := Eq.trans rfl rfl
theorem env68 : env 68 = some ⟨.slice 3, 1, 24, .slice none 0 0, false⟩ := Eq.trans rfl rfl
theorem env70 : env 70 = some ⟨.other, 1, 8, .pointer none, false⟩ := Eq.trans rfl rfl
theorem env74 : env 74 = some ⟨.map 2 2, 1, 8, .map none, false⟩ := Eq.trans rfl rfl
theorem env88 : env 88 = some ⟨.struct [(2, 0), (2, 1), (2, 2), (2, 3)], 4, 32, .agg #[.int .i64 0, .int .i64 0, .int .i64 0, .int .i64 0], true⟩ := Eq.trans rfl rfl
theorem env89 : env 89 = some ⟨.struct [(2, 0), (2, 1), (2, 2), (2, 3)], 4, 32, .agg #[.int .i64 0, .int .i64 0, .int .i64 0, .int .i64 0], true⟩ := Eq.trans rfl rfl
theorem env97 : env 97 = some ⟨.struct [(50, 0), (23, 1)], 2, 32, .agg #[.pointer none, .slice none 0 0], false⟩ := Eq.trans rfl rfl
theorem env98 : env 98 = some ⟨.struct [(50, 0), (23, 1)], 2, 32, .agg #[.pointer none, .slice none 0 0], false⟩ := Eq.trans rfl rfl
theorem env118 : env 118 = some ⟨.struct [(17, 0), (17, 1), (17, 2), (9, 3)], 4, 40, .agg #[.pointer none, .pointer none, .pointer none, .string ⟨#[]⟩], false⟩ := Eq.trans rfl rfl
theorem env119 : env 119 = some ⟨.struct [(17, 0), (17, 1), (17, 2), (9, 3)], 4, 40, .agg #[.pointer none, .pointer none, .pointer none, .string ⟨#[]⟩], false⟩ := Eq.trans rfl rfl
theorem env124 : env 124 = some ⟨.int .u32, 1, 4, .int .u32 0, false⟩ := Eq.trans rfl rfl
theorem env125 : env 125 = some ⟨.int .u8, 1, 1, .int .u8 0, false⟩ := Eq.trans rfl rfl
theorem env126 : env 126 = some ⟨.int .u8, 1, 1, .int .u8 0, false⟩ := Eq.trans rfl rfl
theorem env128 : env 128 = some ⟨.other, 1, 8, .pointer none, false⟩ := Eq.trans rfl rfl
theorem env129 : env 129 = some ⟨.int .i32, 1, 4, .int .i32 0, false⟩ := Eq.trans rfl rfl
theorem env130 : env 130 = some ⟨.int .i32, 1, 4, .int .i32 0, false⟩ := Eq.trans rfl rfl
theorem env131 : env 131 = some ⟨.struct [(12, 0), (12, 1), (124, 2), (125, 3), (5, 4), (5, 5), (126, 6), (127, 7), (128, 8), (129, 9), (130, 10)], 11, 48, .agg #[.int .u64 0, .int .u64 0, .int .u32 0, .int .u8 0, .int .u8 0, .int .u8 0, .int .u8 0, .nilFunc, .pointer none, .int .i32 0, .int .i32 0], false⟩ := Eq.trans rfl rfl
theorem env132 : env 132 = some ⟨.struct [(12, 0), (12, 1), (124, 2), (125, 3), (5, 4), (5, 5), (126, 6), (127, 7), (128, 8), (129, 9), (130, 10)], 11, 48, .agg #[.int .u64 0, .int .u64 0, .int .u32 0, .int .u8 0, .int .u8 0, .int .u8 0, .int .u8 0, .nilFunc, .pointer none, .int .i32 0, .int .i32 0], false⟩ := Eq.trans rfl rfl
attribute [go_sem] env2 env3 env4 env5 env6 env7 env8 env9 env10 env11 env12 env13 env14 env15 env16 env17 env18 env19 env21 env22 env23 env24 env25 env26 env31 env50 env68 env70 env74 env88 env89 env97 env98 env118 env119 env124 env125 env126 env128 env129 env130 env131 env132
theorem tok2 : TOk Try.prog 2 ⟨.int .i64, 1, 8, .int .i64 0, false⟩ := ⟨by kernel_rfl, by kernel_rfl, fun h => by cases h⟩
theorem tok3 : TOk Try.prog 3 ⟨.int .i64, 1, 8, .int .i64 0, false⟩ := ⟨by kernel_rfl, by kernel_rfl, fun h => by cases h⟩
theorem tok4 : TOk Try.prog 4 ⟨.bool, 1, 1, .bool false, false⟩ := ⟨by kernel_rfl, by kernel_rfl, fun h => by cases h⟩
theorem tok5 : TOk Try.prog 5 ⟨.int .u8, 1, 1, .int .u8 0, false⟩ := ⟨by kernel_rfl, by kernel_rfl, fun h => by cases h⟩
theorem tok6 : TOk Try.prog 6 ⟨.int .u8, 1, 1, .int .u8 0, false⟩ := ⟨by kernel_rfl, by kernel_rfl, fun h => by cases h⟩
theorem tok7 : TOk Try.prog 7 ⟨.struct [(2, 0), (3, 1), (4, 2), (6, 3)], 4, 24, .agg #[.int .i64 0, .int .i64 0, .bool false, .int .u8 0], false⟩ := ⟨by kernel_rfl, by kernel_rfl, fun h => by cases h⟩
theorem tok8 : TOk Try.prog 8 ⟨.struct [(2, 0), (3, 1), (4, 2), (6, 3)], 4, 24, .agg #[.int .i64 0, .int .i64 0, .bool false, .int .u8 0], false⟩ := ⟨by kernel_rfl, by kernel_rfl, fun h => by cases h⟩
theorem tok9 : TOk Try.prog 9 ⟨.str, 1, 16, .string ⟨#[]⟩, false⟩ := ⟨by kernel_rfl, by kernel_rfl, fun h => by cases h⟩
theorem tok10 : TOk Try.prog 10 ⟨.str, 1, 16, .string ⟨#[]⟩, false⟩ := ⟨by kernel_rfl, by kernel_rfl, fun h => by cases h⟩
theorem tok11 : TOk Try.prog 11 ⟨.str, 1, 16, .string ⟨#[]⟩, false⟩ := ⟨by kernel_rfl, by kernel_rfl, fun h => by cases h⟩
theorem tok12 : TOk Try.prog 12 ⟨.int .u64, 1, 8, .int .u64 0, false⟩ := ⟨by kernel_rfl, by kernel_rfl, fun h => by cases h⟩
theorem tok13 : TOk Try.prog 13 ⟨.struct [(9, 0), (12, 1)], 2, 24, .agg #[.string ⟨#[]⟩, .int .u64 0], false⟩ := ⟨by kernel_rfl, by kernel_rfl, fun h => by cases h⟩
theorem tok14 : TOk Try.prog 14 ⟨.struct [(9, 0), (12, 1)], 2, 24, .agg #[.string ⟨#[]⟩, .int .u64 0], false⟩ := ⟨by kernel_rfl, by kernel_rfl, fun h => by cases h⟩
theorem tok15 : TOk Try.prog 15 ⟨.other, 1, 8, .pointer none, false⟩ := ⟨by kernel_rfl, by kernel_rfl, fun h => by cases h⟩
theorem tok16 : TOk Try.prog 16 ⟨.other, 1, 8, .pointer none, false⟩ := ⟨by kernel_rfl, by kernel_rfl, fun h => by cases h⟩
theorem tok17 : TOk Try.prog 17 ⟨.other, 1, 8, .pointer none, false⟩ := ⟨by kernel_rfl, by kernel_rfl, fun h => by cases h⟩
theorem tok18 : TOk Try.prog 18 ⟨.struct [(17, 0)], 1, 8, .agg #[.pointer none], false⟩ := ⟨by kernel_rfl, by kernel_rfl, fun h => by cases h⟩
theorem tok19 : TOk Try.prog 19 ⟨.struct [(17, 0)], 1, 8, .agg #[.pointer none], false⟩ := ⟨by kernel_rfl, by kernel_rfl, fun h => by cases h⟩
theorem tok21 : TOk Try.prog 21 ⟨.int .i32, 1, 4, .int .i32 0, false⟩ := ⟨by kernel_rfl, by kernel_rfl, fun h => by cases h⟩
theorem tok22 : TOk Try.prog 22 ⟨.slice 2, 1, 24, .slice none 0 0, false⟩ := ⟨by kernel_rfl, by kernel_rfl, fun h => by cases h⟩
theorem tok23 : TOk Try.prog 23 ⟨.slice 22, 1, 24, .slice none 0 0, false⟩ := ⟨by kernel_rfl, by kernel_rfl, fun h => by cases h⟩
theorem tok24 : TOk Try.prog 24 ⟨.slice 23, 1, 24, .slice none 0 0, false⟩ := ⟨by kernel_rfl, by kernel_rfl, fun h => by cases h⟩
theorem tok25 : TOk Try.prog 25 ⟨.struct [(22, 0), (23, 1), (24, 2)], 3, 72, .agg #[.slice none 0 0, .slice none 0 0, .slice none 0 0], false⟩ := ⟨by kernel_rfl, by kernel_rfl, fun h => by cases h⟩
theorem tok26 : TOk Try.prog 26 ⟨.struct [(22, 0), (23, 1), (24, 2)], 3, 72, .agg #[.slice none 0 0, .slice none 0 0, .slice none 0 0], false⟩ := ⟨by kernel_rfl, by kernel_rfl, fun h => by cases h⟩
theorem tok31 : TOk Try.prog 31 ⟨.struct [(22, 0), (23, 1), (24, 2)], 3, 72, .agg #[.slice none 0 0, .slice none 0 0, .slice none 0 0], false⟩ := ⟨by kernel_rfl, by kernel_rfl, fun h => by cases h⟩
theorem tok50 : TOk Try.prog 50 ⟨.other, 1, 8, .pointer none, false⟩ := ⟨by kernel_rfl, by kernel_rfl, fun h => by cases h⟩
theorem tok68 : TOk Try.prog 68 ⟨.slice 3, 1, 24, .slice none 0 0, false⟩ := ⟨by kernel_rfl, by kernel_rfl, fun h => by cases h⟩
theorem tok70 : TOk Try.prog 70 ⟨.other, 1, 8, .pointer none, false⟩ := ⟨by kernel_rfl, by kernel_rfl, fun h => by cases h⟩
theorem tok74 : TOk Try.prog 74 ⟨.map 2 2, 1, 8, .map none, false⟩ := ⟨by kernel_rfl, by kernel_rfl, fun h => by cases h⟩
theorem tok88 : TOk Try.prog 88 ⟨.struct [(2, 0), (2, 1), (2, 2), (2, 3)], 4, 32, .agg #[.int .i64 0, .int .i64 0, .int .i64 0, .int .i64 0], true⟩ := ⟨by kernel_rfl, by kernel_rfl, fun _ => by kernel_rfl⟩
theorem tok89 : TOk Try.prog 89 ⟨.struct [(2, 0), (2, 1), (2, 2), (2, 3)], 4, 32, .agg #[.int .i64 0, .int .i64 0, .int .i64 0, .int .i64 0], true⟩ := ⟨by kernel_rfl, by kernel_rfl, fun _ => by kernel_rfl⟩
theorem tok97 : TOk Try.prog 97 ⟨.struct [(50, 0), (23, 1)], 2, 32, .agg #[.pointer none, .slice none 0 0], false⟩ := ⟨by kernel_rfl, by kernel_rfl, fun h => by cases h⟩
theorem tok98 : TOk Try.prog 98 ⟨.struct [(50, 0), (23, 1)], 2, 32, .agg #[.pointer none, .slice none 0 0], false⟩ := ⟨by kernel_rfl, by kernel_rfl, fun h => by cases h⟩
theorem tok118 : TOk Try.prog 118 ⟨.struct [(17, 0), (17, 1), (17, 2), (9, 3)], 4, 40, .agg #[.pointer none, .pointer none, .pointer none, .string ⟨#[]⟩], false⟩ := ⟨by kernel_rfl, by kernel_rfl, fun h => by cases h⟩
theorem tok119 : TOk Try.prog 119 ⟨.struct [(17, 0), (17, 1), (17, 2), (9, 3)], 4, 40, .agg #[.pointer none, .pointer none, .pointer none, .string ⟨#[]⟩], false⟩ := ⟨by kernel_rfl, by kernel_rfl, fun h => by cases h⟩
theorem tok124 : TOk Try.prog 124 ⟨.int .u32, 1, 4, .int .u32 0, false⟩ := ⟨by kernel_rfl, by kernel_rfl, fun h => by cases h⟩
theorem tok125 : TOk Try.prog 125 ⟨.int .u8, 1, 1, .int .u8 0, false⟩ := ⟨by kernel_rfl, by kernel_rfl, fun h => by cases h⟩
theorem tok126 : TOk Try.prog 126 ⟨.int .u8, 1, 1, .int .u8 0, false⟩ := ⟨by kernel_rfl, by kernel_rfl, fun h => by cases h⟩
theorem tok128 : TOk Try.prog 128 ⟨.other, 1, 8, .pointer none, false⟩ := ⟨by kernel_rfl, by kernel_rfl, fun h => by cases h⟩
theorem tok129 : TOk Try.prog 129 ⟨.int .i32, 1, 4, .int .i32 0, false⟩ := ⟨by kernel_rfl, by kernel_rfl, fun h => by cases h⟩
theorem tok130 : TOk Try.prog 130 ⟨.int .i32, 1, 4, .int .i32 0, false⟩ := ⟨by kernel_rfl, by kernel_rfl, fun h => by cases h⟩
theorem tok131 : TOk Try.prog 131 ⟨.struct [(12, 0), (12, 1), (124, 2), (125, 3), (5, 4), (5, 5), (126, 6), (127, 7), (128, 8), (129, 9), (130, 10)], 11, 48, .agg #[.int .u64 0, .int .u64 0, .int .u32 0, .int .u8 0, .int .u8 0, .int .u8 0, .int .u8 0, .nilFunc, .pointer none, .int .i32 0, .int .i32 0], false⟩ := ⟨by kernel_rfl, by kernel_rfl, fun h => by cases h⟩
theorem tok132 : TOk Try.prog 132 ⟨.struct [(12, 0), (12, 1), (124, 2), (125, 3), (5, 4), (5, 5), (126, 6), (127, 7), (128, 8), (129, 9), (130, 10)], 11, 48, .agg #[.int .u64 0, .int .u64 0, .int .u32 0, .int .u8 0, .int .u8 0, .int .u8 0, .int .u8 0, .nilFunc, .pointer none, .int .i32 0, .int .i32 0], false⟩ := ⟨by kernel_rfl, by kernel_rfl, fun h => by cases h⟩
theorem envOk : GOk Try.prog env := by
  intro ty x h
  unfold env at h
  split at h <;> first | (cases h; done) | skip
  · cases h; exact tok2
  · cases h; exact tok3
  · cases h; exact tok4
  · cases h; exact tok5
  · cases h; exact tok6
  · cases h; exact tok7
  · cases h; exact tok8
  · cases h; exact tok9
  · cases h; exact tok10
  · cases h; exact tok11
  · cases h; exact tok12
  · cases h; exact tok13
  · cases h; exact tok14
  · cases h; exact tok15
  · cases h; exact tok16
  · cases h; exact tok17
  · cases h; exact tok18
  · cases h; exact tok19
  · cases h; exact tok21
  · cases h; exact tok22
  · cases h; exact tok23
  · cases h; exact tok24
  · cases h; exact tok25
  · cases h; exact tok26
  · cases h; exact tok31
  · cases h; exact tok50
  · cases h; exact tok68
  · cases h; exact tok70
  · cases h; exact tok74
  · cases h; exact tok88
  · cases h; exact tok89
  · cases h; exact tok97
  · cases h; exact tok98
  · cases h; exact tok118
  · cases h; exact tok119
  · cases h; exact tok124
  · cases h; exact tok125
  · cases h; exact tok126
  · cases h; exact tok128
  · cases h; exact tok129
  · cases h; exact tok130
  · cases h; exact tok131
  · cases h; exact tok132
end Go.Proofs.Ytnlfbimjcabgiaa
