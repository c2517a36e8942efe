import Derived.Test.YtdghgmgppecncaaProg
import Derived.KernelRfl
import Derived.Test.YtdghgmgppecncaaZ06
set_option linter.unusedVariables false
set_option linter.unusedSimpArgs false
namespace Go.Proofs.Ytdghgmgppecncaa
def env : TEnv := fun t => match t with
  | 2 => some ⟨.int .i64, 1, 8, .int .i64 0, false⟩
  | 3 => some ⟨.int .i64, 1, 8, .int .i64 0, false⟩
  | 4 => some ⟨.bool, 1, 1, .bool false, false⟩
  | 5 => some ⟨.int .u8, 1, 1, .int .u8 0, false⟩
  | 6 => some ⟨.int .u8, 1, 1, .int .u8 0, false⟩
  | 7 => some ⟨.struct [(2, 0), (3, 1), (4, 2), (6, 3)], 4, 24, .agg #[.int .i64 0, .int .i64 0, .bool false, .int .u8 0], false⟩
  | 8 => some ⟨.struct [(2, 0), (3, 1), (4, 2), (6, 3)], 4, 24, .agg #[.int .i64 0, .int .i64 0, .bool false, .int .u8 0], false⟩
  | 9 => some ⟨.str, 1, 16, .string ⟨#[]⟩, false⟩
  | 10 => some ⟨.str, 1, 16, .string ⟨#[]⟩, false⟩
  | 11 => some ⟨.str, 1, 16, .string ⟨#[]⟩, false⟩
  | 12 => some ⟨.int .u64, 1, 8, .int .u64 0, false⟩
  | 13 => some ⟨.struct [(9, 0), (12, 1)], 2, 24, .agg #[.string ⟨#[]⟩, .int .u64 0], false⟩
  | 14 => some ⟨.struct [(9, 0), (12, 1)], 2, 24, .agg #[.string ⟨#[]⟩, .int .u64 0], false⟩
  | 15 => some ⟨.other, 1, 8, .pointer none, false⟩
  | 16 => some ⟨.other, 1, 8, .pointer none, false⟩
  | 17 => some ⟨.other, 1, 8, .pointer none, false⟩
  | 18 => some ⟨.struct [(17, 0)], 1, 8, .agg #[.pointer none], false⟩
  | 19 => some ⟨.struct [(17, 0)], 1, 8, .agg #[.pointer none], false⟩
  | 21 => some ⟨.int .i32, 1, 4, .int .i32 0, false⟩
  | 22 => some ⟨.slice 2, 1, 24, .slice none 0 0, false⟩
  | 23 => some ⟨.slice 22, 1, 24, .slice none 0 0, false⟩
  | 24 => some ⟨.slice 23, 1, 24, .slice none 0 0, false⟩
  | 25 => some ⟨.struct [(22, 0), (23, 1), (24, 2)], 3, 72, .agg #[.slice none 0 0, .slice none 0 0, .slice none 0 0], false⟩
  | 26 => some ⟨.struct [(22, 0), (23, 1), (24, 2)], 3, 72, .agg #[.slice none 0 0, .slice none 0 0, .slice none 0 0], false⟩
  | 28 => some ⟨.struct [(2, 0), (23, 1)], 2, 32, .agg #[.int .i64 0, .slice none 0 0], false⟩
  | 29 => some ⟨.struct [(2, 0), (23, 1)], 2, 32, .agg #[.int .i64 0, .slice none 0 0], false⟩
  | 32 => some ⟨.struct [(22, 0), (23, 1), (24, 2)], 3, 72, .agg #[.slice none 0 0, .slice none 0 0, .slice none 0 0], false⟩
  | 39 => some ⟨.struct [(2, 0), (23, 1)], 2, 32, .agg #[.int .i64 0, .slice none 0 0], false⟩
  | 52 => some ⟨.slice 5, 1, 24, .slice none 0 0, false⟩
  | 54 => some ⟨.struct [(2, 0), (23, 1), (24, 2)], 3, 56, .agg #[.int .i64 0, .slice none 0 0, .slice none 0 0], false⟩
  | 55 => some ⟨.struct [(2, 0), (23, 1), (24, 2)], 3, 56, .agg #[.int .i64 0, .slice none 0 0, .slice none 0 0], false⟩
  | 65 => some ⟨.other, 1, 8, .pointer none, false⟩
  | 67 => some ⟨.int .u64, 1, 8, .int .u64 0, false⟩
  | 73 => some ⟨.struct [(22, 0), (2, 1)], 2, 32, .agg #[.slice none 0 0, .int .i64 0], false⟩
  | 74 => some ⟨.struct [(22, 0), (2, 1)], 2, 32, .agg #[.slice none 0 0, .int .i64 0], false⟩
  | 80 => some ⟨.struct [(2, 0), (23, 1), (24, 2)], 3, 56, .agg #[.int .i64 0, .slice none 0 0, .slice none 0 0], false⟩
  | 108 => some ⟨.other, 1, 8, .pointer none, false⟩
  | 123 => some ⟨.other, 1, 8, .pointer none, false⟩
  | 132 => some ⟨.struct [(52, 0), (3, 1), (67, 2)], 3, 40, .agg #[.slice none 0 0, .int .i64 0, .int .u64 0], false⟩
  | 133 => some ⟨.struct [(52, 0), (3, 1), (67, 2)], 3, 40, .agg #[.slice none 0 0, .int .i64 0, .int .u64 0], false⟩
  | 134 => some ⟨.int .u64, 1, 8, .int .u64 0, false⟩
  | 150 => some ⟨.other, 1, 8, .pointer none, false⟩
  | 179 => some ⟨.slice 3, 1, 24, .slice none 0 0, false⟩
  | 181 => some ⟨.other, 1, 8, .pointer none, false⟩
  | 214 => some ⟨.struct [(52, 0), (3, 1), (2, 2)], 3, 40, .agg #[.slice none 0 0, .int .i64 0, .int .i64 0], false⟩
  | 215 => some ⟨.struct [(52, 0), (3, 1), (2, 2)], 3, 40, .agg #[.slice none 0 0, .int .i64 0, .int .i64 0], false⟩
  | 227 => some ⟨.struct [(2, 0), (2, 1), (2, 2), (2, 3)], 4, 32, .agg #[.int .i64 0, .int .i64 0, .int .i64 0, .int .i64 0], true⟩
  | 228 => some ⟨.struct [(2, 0), (2, 1), (2, 2), (2, 3)], 4, 32, .agg #[.int .i64 0, .int .i64 0, .int .i64 0, .int .i64 0], true⟩
  | 237 => some ⟨.struct [(108, 0), (23, 1)], 2, 32, .agg #[.pointer none, .slice none 0 0], false⟩
  | 238 => some ⟨.struct [(108, 0), (23, 1)], 2, 32, .agg #[.pointer none, .slice none 0 0], false⟩
  | 248 => some ⟨.int .u32, 1, 4, .int .u32 0, false⟩
  | 259 => some ⟨.int .i64, 1, 8, .int .i64 0, false⟩
  | 269 => some ⟨.int .u64, 1, 8, .int .u64 0, false⟩
  | 273 => some ⟨.other, 1, 8, .pointer none, false⟩
  | 275 => some ⟨.other, 1, 8, .pointer none, false⟩
  | 279 => some ⟨.struct [(17, 0), (17, 1), (17, 2), (9, 3)], 4, 40, .agg #[.pointer none, .pointer none, .pointer none, .string ⟨#[]⟩], false⟩
  | 280 => some ⟨.struct [(17, 0), (17, 1), (17, 2), (9, 3)], 4, 40, .agg #[.pointer none, .pointer none, .pointer none, .string ⟨#[]⟩], false⟩
  | 285 => some ⟨.int .u8, 1, 1, .int .u8 0, false⟩
  | 286 => some ⟨.int .u8, 1, 1, .int .u8 0, false⟩
  | 288 => some ⟨.other, 1, 8, .pointer none, false⟩
  | 289 => some ⟨.int .i32, 1, 4, .int .i32 0, false⟩
  | 290 => some ⟨.int .i32, 1, 4, .int .i32 0, false⟩
  | 291 => some ⟨.struct [(12, 0), (12, 1), (248, 2), (285, 3), (5, 4), (5, 5), (286, 6), (287, 7), (288, 8), (289, 9), (290, 10)], 11, 48, .agg #[.int .u64 0, .int .u64 0, .int .u32 0, .int .u8 0, .int .u8 0, .int .u8 0, .int .u8 0, .nilFunc, .pointer none, .int .i32 0, .int .i32 0], false⟩
  | 292 => some ⟨.struct [(12, 0), (12, 1), (248, 2), (285, 3), (5, 4), (5, 5), (286, 6), (287, 7), (288, 8), (289, 9), (290, 10)], 11, 48, .agg #[.int .u64 0, .int .u64 0, .int .u32 0, .int .u8 0, .int .u8 0, .int .u8 0, .int .u8 0, .nilFunc, .pointer none, .int .i32 0, .int .i32 0], false⟩
  | _ => none
theorem env2 : env 2 = some ⟨.int .i64, 1, 8, .int .i64 0, false⟩ := Eq.trans rfl rfl
theorem env3 : env 3 = some ⟨.int .i64, 1, 8, .int .i64 0, false⟩ := Eq.trans rfl rfl
theorem env4 : env 4 = some ⟨.bool, 1, 1, .bool false, false⟩ := Eq.trans rfl rfl
theorem env5 : env 5 = some ⟨.int .u8, 1, 1, .int .u8 0, false⟩ := Eq.trans rfl rfl
theorem env6 : env 6 = some ⟨.int .u8, 1, 1, .int .u8 0, false⟩ := Eq.trans rfl rfl
theorem env7 : env 7 = some ⟨.struct [(2, 0), (3, 1), (4, 2), (6, 3)], 4, 24, .agg #[.int .i64 0, .int .i64 0, .bool false, .int .u8 0], false⟩ := Eq.trans rfl rfl
theorem env8 : env 8 = some ⟨.struct [(2, 0), (3, 1), (4, 2), (6, 3)], 4, 24, .agg #[.int .i64 0, .int .i64 0, .bool false, .int .u8 0], false⟩ := Eq.trans rfl rfl
theorem env9 : env 9 = some ⟨.str, 1, 16, .string ⟨#[]⟩, false⟩ := Eq.trans rfl rfl
theorem env10 : env 10 = some ⟨.str, 1, 16, .string ⟨#[]⟩, false⟩ := Eq.trans rfl rfl
theorem env11 : env 11 = some ⟨.str, 1, 16, .string ⟨#[]⟩, false⟩ := Eq.trans rfl rfl
theorem env12 : env 12 = some ⟨.int .u64, 1, 8, .int .u64 0, false⟩ := Eq.trans rfl rfl
theorem env13 : env 13 = some ⟨.struct [(9, 0), (12, 1)], 2, 24, .agg #[.string ⟨#[]⟩, .int .u64 0], false⟩ := Eq.trans rfl rfl
theorem env14 : env 14 = some ⟨.struct [(9, 0), (12, 1)], 2, 24, .agg #[.string ⟨#[]⟩, .int .u64 0], false⟩ := Eq.trans rfl rfl
theorem env15 : env 15 = some ⟨.other, 1, 8, .pointer none, false⟩ := Eq.trans rfl rfl
theorem env16 : env 16 = some ⟨.other, 1, 8, .pointer none, false⟩ := Eq.trans rfl rfl
theorem env17 : env 17 = some ⟨.other, 1, 8, .pointer none, false⟩ := Eq.trans rfl rfl
theorem env18 : env 18 = some ⟨.struct [(17, 0)], 1, 8, .agg #[.pointer none], false⟩ := Eq.trans rfl rfl
theorem env19 : env 19 = some ⟨.struct [(17, 0)], 1, 8, .agg #[.pointer none], false⟩ := Eq.trans rfl rfl
theorem env21 : env 21 = some ⟨.int .i32, 1, 4, .int .i32 0, false⟩ := Eq.trans rfl rfl
theorem env22 : env 22 = some ⟨.slice 2, 1, 24, .slice none 0 0, false⟩ := Eq.trans rfl rfl
theorem env23 : env 23 = some ⟨.slice 22, 1, 24, .slice none 0 0, false⟩ := Eq.trans rfl rfl
theorem env24 : env 24 = some ⟨.slice 23, 1, 24, .slice none 0 0, false⟩ := Eq.trans rfl rfl
theorem env25 : env 25 = some ⟨.struct [(22, 0), (23, 1), (24, 2)], 3, 72, .agg #[.slice none 0 0, .slice none 0 0, .slice none 0 0], false⟩ := Eq.trans rfl rfl
theorem env26 : env 26 = some ⟨.struct [(22, 0), (23, 1), (24, 2)], 3, 72, .agg #[.slice none 0 0, .slice none 0 0, .slice none 0 0], false⟩ := Eq.trans rfl rfl
theorem env28 : env 28 = some ⟨.struct [(2, 0), (23, 1)], 2, 32, .agg #[.int .i64 0, .slice none 0 0], false⟩ := Eq.trans rfl rfl
theorem env29 : env 29 = some ⟨.struct [(2, 0), (23, 1)], 2, 32, .agg #[.int .i64 0, .slice none 0 0], false⟩ := Eq.trans rfl rfl
theorem env32 : env 32 = some ⟨.struct [(22, 0), (23, 1), (24, 2)], 3, 72, .agg #[.slice none 0 0, .slice none 0 0, .slice none 0 0], false⟩ := Eq.trans rfl rfl
theorem env39 : env 39 = some ⟨.struct [(2, 0), (23, 1)], 2, 32, .agg #[.int .i64 0, .slice none 0 0], false⟩ := Eq.trans rfl rfl
theorem env52 : env 52 = some ⟨.slice 5, 1, 24, .slice none 0 0, false⟩ := Eq.trans rfl rfl
theorem env54 : env 54 = some ⟨.struct [(2, 0), (23, 1), (24, 2)], 3, 56, .agg #[.int .i64 0, .slice none 0 0, .slice none 0 0], false⟩ := Eq.trans rfl rfl
theorem env55 : env 55 = some ⟨.struct [(2, 0), (23, 1), (24, 2)], 3, 56, .agg #[.int .i64 0, .slice none 0 0, .slice none 0 0], false⟩ := Eq.trans rfl rfl
theorem env65 : env 65 = some ⟨.other, 1, 8, .pointer none, false⟩ := Eq.trans rfl rfl
theorem env67 : env 67 = some ⟨.int .u64, 1, 8, .int .u64 0, false⟩ := Eq.trans rfl rfl
theorem env73 : env 73 = some ⟨.struct [(22, 0), (2, 1)], 2, 32, .agg #[.slice none 0 0, .int .i64 0], false⟩ := Eq.trans rfl rfl
theorem env74 : env 74 = some ⟨.struct [(22, 0), (2, 1)], 2, 32, .agg #[.slice none 0 0, .int .i64 0], false⟩ := Eq.trans rfl rfl
theorem env80 : env 80 = some ⟨.struct [(2, 0), (23, 1), (24, 2)], 3, 56, .agg #[.int .i64 0, .slice none 0 0, .slice none 0 0], false⟩ := Eq.trans rfl rfl
theorem env108 : env 108 = some ⟨.other, 1, 8, .pointer none, false⟩ := Eq.trans rfl rfl
theorem env123 : env 123 = some ⟨.other, 1, 8, .pointer none, false⟩ := Eq.trans rfl rfl
theorem env132 : env 132 = some ⟨.struct [(52, 0), (3, 1), (67, 2)], 3, 40, .agg #[.slice none 0 0, .int .i64 0, .int .u64 0], false⟩ := Eq.trans rfl rfl
theorem env133 : env 133 = some ⟨.struct [(52, 0), (3, 1), (67, 2)], 3, 40, .agg #[.slice none 0 0, .int .i64 0, .int .u64 0], false⟩ := Eq.trans rfl rfl
theorem env134 : env 134 = some ⟨.int .u64, 1, 8, .int .u64 0, false⟩ := Eq.trans rfl rfl
theorem env150 : env 150 = some ⟨.other, 1, 8, .pointer none, false⟩ := Eq.trans rfl rfl
theorem env179 : env 179 = some ⟨.slice 3, 1, 24, .slice none 0 0, false⟩ := Eq.trans rfl rfl
theorem env181 : env 181 = some ⟨.other, 1, 8, .pointer none, false⟩ := Eq.trans rfl rfl
theorem env214 : env 214 = some ⟨.struct [(52, 0), (3, 1), (2, 2)], 3, 40, .agg #[.slice none 0 0, .int .i64 0, .int .i64 0], false⟩ := Eq.trans rfl rfl
theorem env215 : env 215 = some ⟨.struct [(52, 0), (3, 1), (2, 2)], 3, 40, .agg #[.slice none 0 0, .int .i64 0, .int .i64 0], false⟩ := Eq.trans rfl rfl
theorem env227 : env 227 = some ⟨.struct [(2, 0), (2, 1), (2, 2), (2, 3)], 4, 32, .agg #[.int .i64 0, .int .i64 0, .int .i64 0, .int .i64 0], true⟩ := Eq.trans rfl rfl
theorem env228 : env 228 = some ⟨.struct [(2, 0), (2, 1), (2, 2), (2, 3)], 4, 32, .agg #[.int .i64 0, .int .i64 0, .int .i64 0, .int .i64 0], true⟩ := Eq.trans rfl rfl
theorem env237 : env 237 = some ⟨.struct [(108, 0), (23, 1)], 2, 32, .agg #[.pointer none, .slice none 0 0], false⟩ := Eq.trans rfl rfl
theorem env238 : env 238 = some ⟨.struct [(108, 0), (23, 1)], 2, 32, .agg #[.pointer none, .slice none 0 0], false⟩ := Eq.trans rfl rfl
theorem env248 : env 248 = some ⟨.int .u32, 1, 4, .int .u32 0, false⟩ := Eq.trans rfl rfl
theorem env259 : env 259 = some ⟨.int .i64, 1, 8, .int .i64 0, false⟩ := Eq.trans rfl rfl
theorem env269 : env 269 = some ⟨.int .u64, 1, 8, .int .u64 0, false⟩ := Eq.trans rfl rfl
theorem env273 : env 273 = some ⟨.other, 1, 8, .pointer none, false⟩ := Eq.trans rfl rfl
theorem env275 : env 275 = some ⟨.other, 1, 8, .pointer none, false⟩ := Eq.trans rfl rfl
theorem env279 : env 279 = some ⟨.struct [(17, 0), (17, 1), (17, 2), (9, 3)], 4, 40, .agg #[.pointer none, .pointer none, .pointer none, .string ⟨#[]⟩], false⟩ := Eq.trans rfl rfl
theorem env280 : env 280 = some ⟨.struct [(17, 0), (17, 1), (17, 2), (9, 3)], 4, 40, .agg #[.pointer none, .pointer none, .pointer none, .string ⟨#[]⟩], false⟩ := Eq.trans rfl rfl
theorem env285 : env 285 = some ⟨.int .u8, 1, 1, .int .u8 0, false⟩ := Eq.trans rfl rfl
theorem env286 : env 286 = some ⟨.int .u8, 1, 1, .int .u8 0, false⟩ := Eq.trans rfl rfl
theorem env288 : env 288 = some ⟨.other, 1, 8, .pointer none, false⟩ := Eq.trans rfl rfl
theorem env289 : env 289 = some ⟨.int .i32, 1, 4, .int .i32 0, false⟩ := Eq.trans rfl rfl
theorem env290 : env 290 = some ⟨.int .i32, 1, 4, .int .i32 0, false⟩ := Eq.trans rfl rfl
theorem env291 : env 291 = some ⟨.struct [(12, 0), (12, 1), (248, 2), (285, 3), (5, 4), (5, 5), (286, 6), (287, 7), (288, 8), (289, 9), (290, 10)], 11, 48, .agg #[.int .u64 0, .int .u64 0, .int .u32 0, .int .u8 0, .int .u8 0, .int .u8 0, .int .u8 0, .nilFunc, .pointer none, .int .i32 0, .int .i32 0], false⟩ := Eq.trans rfl rfl
theorem env292 : env 292 = some ⟨.struct [(12, 0), (12, 1), (248, 2), (285, 3), (5, 4), (5, 5), (286, 6), (287, 7), (288, 8), (289, 9), (290, 10)], 11, 48, .agg #[.int .u64 0, .int .u64 0, .int .u32 0, .int .u8 0, .int .u8 0, .int .u8 0, .int .u8 0, .nilFunc, .pointer none, .int .i32 0, .int .i32 0], false⟩ := Eq.trans rfl rfl
attribute [go_sem] env2 env3 env4 env5 env6 env7 env8 env9 env10 env11 env12 env13 env14 env15 env16 env17 env18 env19 env21 env22 env23 env24 env25 env26 env28 env29 env32 env39 env52 env54 env55 env65 env67 env73 env74 env80 env108 env123 env132 env133 env134 env150 env179 env181 env214 env215 env227 env228 env237 env238 env248 env259 env269 env273 env275 env279 env280 env285 env286 env288 env289 env290 env291 env292
theorem tok2 : TOk Try.prog 2 ⟨.int .i64, 1, 8, .int .i64 0, false⟩ := ⟨by kernel_rfl, by kernel_rfl, fun h => by cases h⟩
theorem tok3 : TOk Try.prog 3 ⟨.int .i64, 1, 8, .int .i64 0, false⟩ := ⟨by kernel_rfl, by kernel_rfl, fun h => by cases h⟩
theorem tok4 : TOk Try.prog 4 ⟨.bool, 1, 1, .bool false, false⟩ := ⟨by kernel_rfl, by kernel_rfl, fun h => by cases h⟩
theorem tok5 : TOk Try.prog 5 ⟨.int .u8, 1, 1, .int .u8 0, false⟩ := ⟨by kernel_rfl, by kernel_rfl, fun h => by cases h⟩
theorem tok6 : TOk Try.prog 6 ⟨.int .u8, 1, 1, .int .u8 0, false⟩ := ⟨by kernel_rfl, by kernel_rfl, fun h => by cases h⟩
theorem tok7 : TOk Try.prog 7 ⟨.struct [(2, 0), (3, 1), (4, 2), (6, 3)], 4, 24, .agg #[.int .i64 0, .int .i64 0, .bool false, .int .u8 0], false⟩ := ⟨by kernel_rfl, by kernel_rfl, fun h => by cases h⟩
theorem tok8 : TOk Try.prog 8 ⟨.struct [(2, 0), (3, 1), (4, 2), (6, 3)], 4, 24, .agg #[.int .i64 0, .int .i64 0, .bool false, .int .u8 0], false⟩ := ⟨by kernel_rfl, by kernel_rfl, fun h => by cases h⟩
theorem tok9 : TOk Try.prog 9 ⟨.str, 1, 16, .string ⟨#[]⟩, false⟩ := ⟨by kernel_rfl, by kernel_rfl, fun h => by cases h⟩
theorem tok10 : TOk Try.prog 10 ⟨.str, 1, 16, .string ⟨#[]⟩, false⟩ := ⟨by kernel_rfl, by kernel_rfl, fun h => by cases h⟩
theorem tok11 : TOk Try.prog 11 ⟨.str, 1, 16, .string ⟨#[]⟩, false⟩ := ⟨by kernel_rfl, by kernel_rfl, fun h => by cases h⟩
theorem tok12 : TOk Try.prog 12 ⟨.int .u64, 1, 8, .int .u64 0, false⟩ := ⟨by kernel_rfl, by kernel_rfl, fun h => by cases h⟩
theorem tok13 : TOk Try.prog 13 ⟨.struct [(9, 0), (12, 1)], 2, 24, .agg #[.string ⟨#[]⟩, .int .u64 0], false⟩ := ⟨by kernel_rfl, by kernel_rfl, fun h => by cases h⟩
theorem tok14 : TOk Try.prog 14 ⟨.struct [(9, 0), (12, 1)], 2, 24, .agg #[.string ⟨#[]⟩, .int .u64 0], false⟩ := ⟨by kernel_rfl, by kernel_rfl, fun h => by cases h⟩
theorem tok15 : TOk Try.prog 15 ⟨.other, 1, 8, .pointer none, false⟩ := ⟨by kernel_rfl, by kernel_rfl, fun h => by cases h⟩
theorem tok16 : TOk Try.prog 16 ⟨.other, 1, 8, .pointer none, false⟩ := ⟨by kernel_rfl, by kernel_rfl, fun h => by cases h⟩
theorem tok17 : TOk Try.prog 17 ⟨.other, 1, 8, .pointer none, false⟩ := ⟨by kernel_rfl, by kernel_rfl, fun h => by cases h⟩
theorem tok18 : TOk Try.prog 18 ⟨.struct [(17, 0)], 1, 8, .agg #[.pointer none], false⟩ := ⟨by kernel_rfl, by kernel_rfl, fun h => by cases h⟩
theorem tok19 : TOk Try.prog 19 ⟨.struct [(17, 0)], 1, 8, .agg #[.pointer none], false⟩ := ⟨by kernel_rfl, by kernel_rfl, fun h => by cases h⟩
theorem tok21 : TOk Try.prog 21 ⟨.int .i32, 1, 4, .int .i32 0, false⟩ := ⟨by kernel_rfl, by kernel_rfl, fun h => by cases h⟩
theorem tok22 : TOk Try.prog 22 ⟨.slice 2, 1, 24, .slice none 0 0, false⟩ := ⟨by kernel_rfl, by kernel_rfl, fun h => by cases h⟩
theorem tok23 : TOk Try.prog 23 ⟨.slice 22, 1, 24, .slice none 0 0, false⟩ := ⟨by kernel_rfl, by kernel_rfl, fun h => by cases h⟩
theorem tok24 : TOk Try.prog 24 ⟨.slice 23, 1, 24, .slice none 0 0, false⟩ := ⟨by kernel_rfl, by kernel_rfl, fun h => by cases h⟩
theorem tok25 : TOk Try.prog 25 ⟨.struct [(22, 0), (23, 1), (24, 2)], 3, 72, .agg #[.slice none 0 0, .slice none 0 0, .slice none 0 0], false⟩ := ⟨by kernel_rfl, by kernel_rfl, fun h => by cases h⟩
theorem tok26 : TOk Try.prog 26 ⟨.struct [(22, 0), (23, 1), (24, 2)], 3, 72, .agg #[.slice none 0 0, .slice none 0 0, .slice none 0 0], false⟩ := ⟨by kernel_rfl, by kernel_rfl, fun h => by cases h⟩
theorem tok28 : TOk Try.prog 28 ⟨.struct [(2, 0), (23, 1)], 2, 32, .agg #[.int .i64 0, .slice none 0 0], false⟩ := ⟨by kernel_rfl, by kernel_rfl, fun h => by cases h⟩
theorem tok29 : TOk Try.prog 29 ⟨.struct [(2, 0), (23, 1)], 2, 32, .agg #[.int .i64 0, .slice none 0 0], false⟩ := ⟨by kernel_rfl, by kernel_rfl, fun h => by cases h⟩
theorem tok32 : TOk Try.prog 32 ⟨.struct [(22, 0), (23, 1), (24, 2)], 3, 72, .agg #[.slice none 0 0, .slice none 0 0, .slice none 0 0], false⟩ := ⟨by kernel_rfl, by kernel_rfl, fun h => by cases h⟩
theorem tok39 : TOk Try.prog 39 ⟨.struct [(2, 0), (23, 1)], 2, 32, .agg #[.int .i64 0, .slice none 0 0], false⟩ := ⟨by kernel_rfl, by kernel_rfl, fun h => by cases h⟩
theorem tok52 : TOk Try.prog 52 ⟨.slice 5, 1, 24, .slice none 0 0, false⟩ := ⟨by kernel_rfl, by kernel_rfl, fun h => by cases h⟩
theorem tok54 : TOk Try.prog 54 ⟨.struct [(2, 0), (23, 1), (24, 2)], 3, 56, .agg #[.int .i64 0, .slice none 0 0, .slice none 0 0], false⟩ := ⟨by kernel_rfl, by kernel_rfl, fun h => by cases h⟩
theorem tok55 : TOk Try.prog 55 ⟨.struct [(2, 0), (23, 1), (24, 2)], 3, 56, .agg #[.int .i64 0, .slice none 0 0, .slice none 0 0], false⟩ := ⟨by kernel_rfl, by kernel_rfl, fun h => by cases h⟩
theorem tok65 : TOk Try.prog 65 ⟨.other, 1, 8, .pointer none, false⟩ := ⟨by kernel_rfl, by kernel_rfl, fun h => by cases h⟩
theorem tok67 : TOk Try.prog 67 ⟨.int .u64, 1, 8, .int .u64 0, false⟩ := ⟨by kernel_rfl, by kernel_rfl, fun h => by cases h⟩
theorem tok73 : TOk Try.prog 73 ⟨.struct [(22, 0), (2, 1)], 2, 32, .agg #[.slice none 0 0, .int .i64 0], false⟩ := ⟨by kernel_rfl, by kernel_rfl, fun h => by cases h⟩
theorem tok74 : TOk Try.prog 74 ⟨.struct [(22, 0), (2, 1)], 2, 32, .agg #[.slice none 0 0, .int .i64 0], false⟩ := ⟨by kernel_rfl, by kernel_rfl, fun h => by cases h⟩
theorem tok80 : TOk Try.prog 80 ⟨.struct [(2, 0), (23, 1), (24, 2)], 3, 56, .agg #[.int .i64 0, .slice none 0 0, .slice none 0 0], false⟩ := ⟨by kernel_rfl, by kernel_rfl, fun h => by cases h⟩
theorem tok108 : TOk Try.prog 108 ⟨.other, 1, 8, .pointer none, false⟩ := ⟨by kernel_rfl, by kernel_rfl, fun h => by cases h⟩
theorem tok123 : TOk Try.prog 123 ⟨.other, 1, 8, .pointer none, false⟩ := ⟨by kernel_rfl, by kernel_rfl, fun h => by cases h⟩
theorem tok132 : TOk Try.prog 132 ⟨.struct [(52, 0), (3, 1), (67, 2)], 3, 40, .agg #[.slice none 0 0, .int .i64 0, .int .u64 0], false⟩ := ⟨by kernel_rfl, by kernel_rfl, fun h => by cases h⟩
theorem tok133 : TOk Try.prog 133 ⟨.struct [(52, 0), (3, 1), (67, 2)], 3, 40, .agg #[.slice none 0 0, .int .i64 0, .int .u64 0], false⟩ := ⟨by kernel_rfl, by kernel_rfl, fun h => by cases h⟩
theorem tok134 : TOk Try.prog 134 ⟨.int .u64, 1, 8, .int .u64 0, false⟩ := ⟨by kernel_rfl, by kernel_rfl, fun h => by cases h⟩
theorem tok150 : TOk Try.prog 150 ⟨.other, 1, 8, .pointer none, false⟩ := ⟨by kernel_rfl, by kernel_rfl, fun h => by cases h⟩
theorem tok179 : TOk Try.prog 179 ⟨.slice 3, 1, 24, .slice none 0 0, false⟩ := ⟨by kernel_rfl, by kernel_rfl, fun h => by cases h⟩
theorem tok181 : TOk Try.prog 181 ⟨.other, 1, 8, .pointer none, false⟩ := ⟨by kernel_rfl, by kernel_rfl, fun h => by cases h⟩
theorem tok214 : TOk Try.prog 214 ⟨.struct [(52, 0), (3, 1), (2, 2)], 3, 40, .agg #[.slice none 0 0, .int .i64 0, .int .i64 0], false⟩ := ⟨by kernel_rfl, by kernel_rfl, fun h => by cases h⟩
theorem tok215 : TOk Try.prog 215 ⟨.struct [(52, 0), (3, 1), (2, 2)], 3, 40, .agg #[.slice none 0 0, .int .i64 0, .int .i64 0], false⟩ := ⟨by kernel_rfl, by kernel_rfl, fun h => by cases h⟩
theorem tok227 : TOk Try.prog 227 ⟨.struct [(2, 0), (2, 1), (2, 2), (2, 3)], 4, 32, .agg #[.int .i64 0, .int .i64 0, .int .i64 0, .int .i64 0], true⟩ := ⟨by kernel_rfl, by kernel_rfl, fun _ => by kernel_rfl⟩
theorem tok228 : TOk Try.prog 228 ⟨.struct [(2, 0), (2, 1), (2, 2), (2, 3)], 4, 32, .agg #[.int .i64 0, .int .i64 0, .int .i64 0, .int .i64 0], true⟩ := ⟨by kernel_rfl, by kernel_rfl, fun _ => by kernel_rfl⟩
theorem tok237 : TOk Try.prog 237 ⟨.struct [(108, 0), (23, 1)], 2, 32, .agg #[.pointer none, .slice none 0 0], false⟩ := ⟨by kernel_rfl, by kernel_rfl, fun h => by cases h⟩
theorem tok238 : TOk Try.prog 238 ⟨.struct [(108, 0), (23, 1)], 2, 32, .agg #[.pointer none, .slice none 0 0], false⟩ := ⟨by kernel_rfl, by kernel_rfl, fun h => by cases h⟩
theorem tok248 : TOk Try.prog 248 ⟨.int .u32, 1, 4, .int .u32 0, false⟩ := ⟨by kernel_rfl, by kernel_rfl, fun h => by cases h⟩
theorem tok259 : TOk Try.prog 259 ⟨.int .i64, 1, 8, .int .i64 0, false⟩ := ⟨by kernel_rfl, by kernel_rfl, fun h => by cases h⟩
theorem tok269 : TOk Try.prog 269 ⟨.int .u64, 1, 8, .int .u64 0, false⟩ := ⟨by kernel_rfl, by kernel_rfl, fun h => by cases h⟩
theorem tok273 : TOk Try.prog 273 ⟨.other, 1, 8, .pointer none, false⟩ := ⟨by kernel_rfl, by kernel_rfl, fun h => by cases h⟩
theorem tok275 : TOk Try.prog 275 ⟨.other, 1, 8, .pointer none, false⟩ := ⟨by kernel_rfl, by kernel_rfl, fun h => by cases h⟩
theorem tok279 : TOk Try.prog 279 ⟨.struct [(17, 0), (17, 1), (17, 2), (9, 3)], 4, 40, .agg #[.pointer none, .pointer none, .pointer none, .string ⟨#[]⟩], false⟩ := ⟨by kernel_rfl, by kernel_rfl, fun h => by cases h⟩
theorem tok280 : TOk Try.prog 280 ⟨.struct [(17, 0), (17, 1), (17, 2), (9, 3)], 4, 40, .agg #[.pointer none, .pointer none, .pointer none, .string ⟨#[]⟩], false⟩ := ⟨by kernel_rfl, by kernel_rfl, fun h => by cases h⟩
theorem tok285 : TOk Try.prog 285 ⟨.int .u8, 1, 1, .int .u8 0, false⟩ := ⟨by kernel_rfl, by kernel_rfl, fun h => by cases h⟩
theorem tok286 : TOk Try.prog 286 ⟨.int .u8, 1, 1, .int .u8 0, false⟩ := ⟨by kernel_rfl, by kernel_rfl, fun h => by cases h⟩
theorem tok288 : TOk Try.prog 288 ⟨.other, 1, 8, .pointer none, false⟩ := ⟨by kernel_rfl, by kernel_rfl, fun h => by cases h⟩
theorem tok289 : TOk Try.prog 289 ⟨.int .i32, 1, 4, .int .i32 0, false⟩ := ⟨by kernel_rfl, by kernel_rfl, fun h => by cases h⟩
theorem tok290 : TOk Try.prog 290 ⟨.int .i32, 1, 4, .int .i32 0, false⟩ := ⟨by kernel_rfl, by kernel_rfl, fun h => by cases h⟩
theorem tok291 : TOk Try.prog 291 ⟨.struct [(12, 0), (12, 1), (248, 2), (285, 3), (5, 4), (5, 5), (286, 6), (287, 7), (288, 8), (289, 9), (290, 10)], 11, 48, .agg #[.int .u64 0, .int .u64 0, .int .u32 0, .int .u8 0, .int .u8 0, .int .u8 0, .int .u8 0, .nilFunc, .pointer none, .int .i32 0, .int .i32 0], false⟩ := ⟨by kernel_rfl, by kernel_rfl, fun h => by cases h⟩
theorem tok292 : TOk Try.prog 292 ⟨.struct [(12, 0), (12, 1), (248, 2), (285, 3), (5, 4), (5, 5), (286, 6), (287, 7), (288, 8), (289, 9), (290, 10)], 11, 48, .agg #[.int .u64 0, .int .u64 0, .int .u32 0, .int .u8 0, .int .u8 0, .int .u8 0, .int .u8 0, .nilFunc, .pointer none, .int .i32 0, .int .i32 0], false⟩ := ⟨by kernel_rfl, by kernel_rfl, fun h => by cases h⟩
theorem envOk : GOk Try.prog env := by
  intro ty x h
  unfold env at h
  split at h <;> first | (cases h; done) | skip
  · cases h; exact tok2
  · cases h; exact tok3
  · cases h; exact tok4
  · cases h; exact tok5
  · cases h; exact tok6
  · cases h; exact tok7
  · cases h; exact tok8
  · cases h; exact tok9
  · cases h; exact tok10
  · cases h; exact tok11
  · cases h; exact tok12
  · cases h; exact tok13
  · cases h; exact tok14
  · cases h; exact tok15
  · cases h; exact tok16
  · cases h; exact tok17
  · cases h; exact tok18
  · cases h; exact tok19
  · cases h; exact tok21
  · cases h; exact tok22
  · cases h; exact tok23
  · cases h; exact tok24
  · cases h; exact tok25
  · cases h; exact tok26
  · cases h; exact tok28
  · cases h; exact tok29
  · cases h; exact tok32
  · cases h; exact tok39
  · cases h; exact tok52
  · cases h; exact tok54
  · cases h; exact tok55
  · cases h; exact tok65
  · cases h; exact tok67
  · cases h; exact tok73
  · cases h; exact tok74
  · cases h; exact tok80
  · cases h; exact tok108
  · cases h; exact tok123
  · cases h; exact tok132
  · cases h; exact tok133
  · cases h; exact tok134
  · cases h; exact tok150
  · cases h; exact tok179
  · cases h; exact tok181
  · cases h; exact tok214
  · cases h; exact tok215
  · cases h; exact tok227
  · cases h; exact tok228
  · cases h; exact tok237
  · cases h; exact tok238
  · cases h; exact tok248
  · cases h; exact tok259
  · cases h; exact tok269
  · cases h; exact tok273
  · cases h; exact tok275
  · cases h; exact tok279
  · cases h; exact tok280
  · cases h; exact tok285
  · cases h; exact tok286
  · cases h; exact tok288
  · cases h; exact tok289
  · cases h; exact tok290
  · cases h; exact tok291
  · cases h; exact tok292
end Go.Proofs.Ytdghgmgppecncaa
