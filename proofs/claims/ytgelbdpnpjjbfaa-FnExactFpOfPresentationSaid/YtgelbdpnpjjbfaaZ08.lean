import Derived.Test.YtgelbdpnpjjbfaaProg
import Derived.KernelRfl
import Derived.Test.YtgelbdpnpjjbfaaZ07
set_option linter.unusedVariables false
set_option linter.unusedSimpArgs false
namespace Go.Proofs.Ytgelbdpnpjjbfaa
def env : TEnv := fun t => match t with
  | 2 => some ⟨.int .i64, 1, 8, .int .i64 0, false⟩
  | 3 => some ⟨.int .i64, 1, 8, .int .i64 0, false⟩
  | 4 => some ⟨.bool, 1, 1, .bool false, false⟩
  | 5 => some ⟨.int .u8, 1, 1, .int .u8 0, false⟩
  | 6 => some ⟨.int .u8, 1, 1, .int .u8 0, false⟩
  | 7 => some ⟨.struct [(2, 0), (3, 1), (4, 2), (6, 3)], 4, 24, .agg #[.int .i64 0, .int .i64 0, .bool false, .int .u8 0], false⟩
  | 8 => some ⟨.struct [(2, 0), (3, 1), (4, 2), (6, 3)], 4, 24, .agg #[.int .i64 0, .int .i64 0, .bool false, .int .u8 0], false⟩
  | 9 => some ⟨.str, 1, 16, .string ⟨#[]⟩, false⟩
  | 10 => some ⟨.str, 1, 16, .string ⟨#[]⟩, false⟩
  | 11 => some ⟨.str, 1, 16, .string ⟨#[]⟩, false⟩
  | 12 => some ⟨.int .u64, 1, 8, .int .u64 0, false⟩
  | 13 => some ⟨.struct [(9, 0), (12, 1)], 2, 24, .agg #[.string ⟨#[]⟩, .int .u64 0], false⟩
  | 14 => some ⟨.struct [(9, 0), (12, 1)], 2, 24, .agg #[.string ⟨#[]⟩, .int .u64 0], false⟩
  | 15 => some ⟨.other, 1, 8, .pointer none, false⟩
  | 16 => some ⟨.other, 1, 8, .pointer none, false⟩
  | 17 => some ⟨.other, 1, 8, .pointer none, false⟩
  | 18 => some ⟨.struct [(17, 0)], 1, 8, .agg #[.pointer none], false⟩
  | 19 => some ⟨.struct [(17, 0)], 1, 8, .agg #[.pointer none], false⟩
  | 21 => some ⟨.int .i32, 1, 4, .int .i32 0, false⟩
  | 22 => some ⟨.slice 2, 1, 24, .slice none 0 0, false⟩
  | 23 => some ⟨.slice 22, 1, 24, .slice none 0 0, false⟩
  | 24 => some ⟨.slice 23, 1, 24, .slice none 0 0, false⟩
  | 25 => some ⟨.struct [(22, 0), (23, 1), (24, 2)], 3, 72, .agg #[.slice none 0 0, .slice none 0 0, .slice none 0 0], false⟩
  | 26 => some ⟨.struct [(22, 0), (23, 1), (24, 2)], 3, 72, .agg #[.slice none 0 0, .slice none 0 0, .slice none 0 0], false⟩
  | 28 => some ⟨.struct [(2, 0), (23, 1)], 2, 32, .agg #[.int .i64 0, .slice none 0 0], false⟩
  | 29 => some ⟨.struct [(2, 0), (23, 1)], 2, 32, .agg #[.int .i64 0, .slice none 0 0], false⟩
  | 32 => some ⟨.struct [(22, 0), (23, 1), (24, 2)], 3, 72, .agg #[.slice none 0 0, .slice none 0 0, .slice none 0 0], false⟩
  | 58 => some ⟨.other, 1, 8, .pointer none, false⟩
  | 59 => some ⟨.int .u64, 1, 8, .int .u64 0, false⟩
  | 65 => some ⟨.int .u32, 1, 4, .int .u32 0, false⟩
  | 68 => some ⟨.int .u64, 1, 8, .int .u64 0, false⟩
  | 72 => some ⟨.struct [(17, 0), (17, 1), (17, 2), (9, 3)], 4, 40, .agg #[.pointer none, .pointer none, .pointer none, .string ⟨#[]⟩], false⟩
  | 73 => some ⟨.struct [(17, 0), (17, 1), (17, 2), (9, 3)], 4, 40, .agg #[.pointer none, .pointer none, .pointer none, .string ⟨#[]⟩], false⟩
  | 78 => some ⟨.int .u8, 1, 1, .int .u8 0, false⟩
  | 79 => some ⟨.int .u8, 1, 1, .int .u8 0, false⟩
  | 81 => some ⟨.other, 1, 8, .pointer none, false⟩
  | 82 => some ⟨.int .i32, 1, 4, .int .i32 0, false⟩
  | 83 => some ⟨.int .i32, 1, 4, .int .i32 0, false⟩
  | 84 => some ⟨.struct [(12, 0), (12, 1), (65, 2), (78, 3), (5, 4), (5, 5), (79, 6), (80, 7), (81, 8), (82, 9), (83, 10)], 11, 48, .agg #[.int .u64 0, .int .u64 0, .int .u32 0, .int .u8 0, .int .u8 0, .int .u8 0, .int .u8 0, .nilFunc, .pointer none, .int .i32 0, .int .i32 0], false⟩
  | 85 => some ⟨.struct [(12, 0), (12, 1), (65, 2), (78, 3), (5, 4), (5, 5), (79, 6), (80, 7), (81, 8), (82, 9), (83, 10)], 11, 48, .agg #[.int .u64 0, .int .u64 0, .int .u32 0, .int .u8 0, .int .u8 0, .int .u8 0, .int .u8 0, .nilFunc, .pointer none, .int .i32 0, .int .i32 0], false⟩
  | _ => none
theorem env2 : env 2 = some ⟨.int .i64, 1, 8, .int .i64 0, false⟩ := Eq.trans rfl rfl
theorem env3 : env 3 = some ⟨.int .i64, 1, 8, .int .i64 0, false⟩ := Eq.trans rfl rfl
theorem env4 : env 4 = some ⟨.bool, 1, 1, .bool false, false⟩ := Eq.trans rfl rfl
theorem env5 : env 5 = some ⟨.int .u8, 1, 1, .int .u8 0, false⟩ := Eq.trans rfl rfl
theorem env6 : env 6 = some ⟨.int .u8, 1, 1, .int .u8 0, false⟩ := Eq.trans rfl rfl
theorem env7 : env 7 = some ⟨.struct [(2, 0), (3, 1), (4, 2), (6, 3)], 4, 24, .agg #[.int .i64 0, .int .i64 0, .bool false, .int .u8 0], false⟩ := Eq.trans rfl rfl
theorem env8 : env 8 = some ⟨.struct [(2, 0), (3, 1), (4, 2), (6, 3)], 4, 24, .agg #[.int .i64 0, .int .i64 0, .bool false, .int .u8 0], false⟩ := Eq.trans rfl rfl
theorem env9 : env 9 = some ⟨.str, 1, 16, .string ⟨#[]⟩, false⟩ := Eq.trans rfl rfl
theorem env10 : env 10 = some ⟨.str, 1, 16, .string ⟨#[]⟩, false⟩ := Eq.trans rfl rfl
theorem env11 : env 11 = some ⟨.str, 1, 16, .string ⟨#[]⟩, false⟩ := Eq.trans rfl rfl
theorem env12 : env 12 = some ⟨.int .u64, 1, 8, .int .u64 0, false⟩ := Eq.trans rfl rfl
theorem env13 : env 13 = some ⟨.struct [(9, 0), (12, 1)], 2, 24, .agg #[.string ⟨#[]⟩, .int .u64 0], false⟩ := Eq.trans rfl rfl
theorem env14 : env 14 = some ⟨.struct [(9, 0), (12, 1)], 2, 24, .agg #[.string ⟨#[]⟩, .int .u64 0], false⟩ := Eq.trans rfl rfl
theorem env15 : env 15 = some ⟨.other, 1, 8, .pointer none, false⟩ := Eq.trans rfl rfl
theorem env16 : env 16 = some ⟨.other, 1, 8, .pointer none, false⟩ := Eq.trans rfl rfl
theorem env17 : env 17 = some ⟨.other, 1, 8, .pointer none, false⟩ := Eq.trans rfl rfl
theorem env18 : env 18 = some ⟨.struct [(17, 0)], 1, 8, .agg #[.pointer none], false⟩ := Eq.trans rfl rfl
theorem env19 : env 19 = some ⟨.struct [(17, 0)], 1, 8, .agg #[.pointer none], false⟩ := Eq.trans rfl rfl
theorem env21 : env 21 = some ⟨.int .i32, 1, 4, .int .i32 0, false⟩ := Eq.trans rfl rfl
theorem env22 : env 22 = some ⟨.slice 2, 1, 24, .slice none 0 0, false⟩ := Eq.trans rfl rfl
theorem env23 : env 23 = some ⟨.slice 22, 1, 24, .slice none 0 0, false⟩ := Eq.trans rfl rfl
theorem env24 : env 24 = some ⟨.slice 23, 1, 24, .slice none 0 0, false⟩ := Eq.trans rfl rfl
theorem env25 : env 25 = some ⟨.struct [(22, 0), (23, 1), (24, 2)], 3, 72, .agg #[.slice none 0 0, .slice none 0 0, .slice none 0 0], false⟩ := Eq.trans rfl rfl
theorem env26 : env 26 = some ⟨.struct [(22, 0), (23, 1), (24, 2)], 3, 72, .agg #[.slice none 0 0, .slice none 0 0, .slice none 0 0], false⟩ := Eq.trans rfl rfl
theorem env28 : env 28 = some ⟨.struct [(2, 0), (23, 1)], 2, 32, .agg #[.int .i64 0, .slice none 0 0], false⟩ := Eq.trans rfl rfl
theorem env29 : env 29 = some ⟨.struct [(2, 0), (23, 1)], 2, 32, .agg #[.int .i64 0, .slice none 0 0], false⟩ := Eq.trans rfl rfl
theorem env32 : env 32 = some ⟨.struct [(22, 0), (23, 1), (24, 2)], 3, 72, .agg #[.slice none 0 0, .slice none 0 0, .slice none 0 0], false⟩ := Eq.trans rfl rfl
theorem env58 : env 58 = some ⟨.other, 1, 8, .pointer none, false⟩ := Eq.trans rfl rfl
theorem env59 : env 59 = some ⟨.int .u64, 1, 8, .int .u64 0, false⟩ := Eq.trans rfl rfl
theorem env65 : env 65 = some ⟨.int .u32, 1, 4, .int .u32 0, false⟩ := Eq.trans rfl rfl
theorem env68 : env 68 = some ⟨.int .u64, 1, 8, .int .u64 0, false⟩ := Eq.trans rfl rfl
theorem env72 : env 72 = some ⟨.struct [(17, 0), (17, 1), (17, 2), (9, 3)], 4, 40, .agg #[.pointer none, .pointer none, .pointer none, .string ⟨#[]⟩], false⟩ := Eq.trans rfl rfl
theorem env73 : env 73 = some ⟨.struct [(17, 0), (17, 1), (17, 2), (9, 3)], 4, 40, .agg #[.pointer none, .pointer none, .pointer none, .string ⟨#[]⟩], false⟩ := Eq.trans rfl rfl
theorem env78 : env 78 = some ⟨.int .u8, 1, 1, .int .u8 0, false⟩ := Eq.trans rfl rfl
theorem env79 : env 79 = some ⟨.int .u8, 1, 1, .int .u8 0, false⟩ := Eq.trans rfl rfl
theorem env81 : env 81 = some ⟨.other, 1, 8, .pointer none, false⟩ := Eq.trans rfl rfl
theorem env82 : env 82 = some ⟨.int .i32, 1, 4, .int .i32 0, false⟩ := Eq.trans rfl rfl
theorem env83 : env 83 = some ⟨.int .i32, 1, 4, .int .i32 0, false⟩ := Eq.trans rfl rfl
theorem env84 : env 84 = some ⟨.struct [(12, 0), (12, 1), (65, 2), (78, 3), (5, 4), (5, 5), (79, 6), (80, 7), (81, 8), (82, 9), (83, 10)], 11, 48, .agg #[.int .u64 0, .int .u64 0, .int .u32 0, .int .u8 0, .int .u8 0, .int .u8 0, .int .u8 0, .nilFunc, .pointer none, .int .i32 0, .int .i32 0], false⟩ := Eq.trans rfl rfl
theorem env85 : env 85 = some ⟨.struct [(12, 0), (12, 1), (65, 2), (78, 3), (5, 4), (5, 5), (79, 6), (80, 7), (81, 8), (82, 9), (83, 10)], 11, 48, .agg #[.int .u64 0, .int .u64 0, .int .u32 0, .int .u8 0, .int .u8 0, .int .u8 0, .int .u8 0, .nilFunc, .pointer none, .int .i32 0, .int .i32 0], false⟩ := Eq.trans rfl rfl
attribute [go_sem] env2 env3 env4 env5 env6 env7 env8 env9 env10 env11 env12 env13 env14 env15 env16 env17 env18 env19 env21 env22 env23 env24 env25 env26 env28 env29 env32 env58 env59 env65 env68 env72 env73 env78 env79 env81 env82 env83 env84 env85
theorem tok2 : TOk Try.prog 2 ⟨.int .i64, 1, 8, .int .i64 0, false⟩ := ⟨by kernel_rfl, by kernel_rfl, fun h => by cases h⟩
theorem tok3 : TOk Try.prog 3 ⟨.int .i64, 1, 8, .int .i64 0, false⟩ := ⟨by kernel_rfl, by kernel_rfl, fun h => by cases h⟩
theorem tok4 : TOk Try.prog 4 ⟨.bool, 1, 1, .bool false, false⟩ := ⟨by kernel_rfl, by kernel_rfl, fun h => by cases h⟩
theorem tok5 : TOk Try.prog 5 ⟨.int .u8, 1, 1, .int .u8 0, false⟩ := ⟨by kernel_rfl, by kernel_rfl, fun h => by cases h⟩
theorem tok6 : TOk Try.prog 6 ⟨.int .u8, 1, 1, .int .u8 0, false⟩ := ⟨by kernel_rfl, by kernel_rfl, fun h => by cases h⟩
theorem tok7 : TOk Try.prog 7 ⟨.struct [(2, 0), (3, 1), (4, 2), (6, 3)], 4, 24, .agg #[.int .i64 0, .int .i64 0, .bool false, .int .u8 0], false⟩ := ⟨by kernel_rfl, by kernel_rfl, fun h => by cases h⟩
theorem tok8 : TOk Try.prog 8 ⟨.struct [(2, 0), (3, 1), (4, 2), (6, 3)], 4, 24, .agg #[.int .i64 0, .int .i64 0, .bool false, .int .u8 0], false⟩ := ⟨by kernel_rfl, by kernel_rfl, fun h => by cases h⟩
theorem tok9 : TOk Try.prog 9 ⟨.str, 1, 16, .string ⟨#[]⟩, false⟩ := ⟨by kernel_rfl, by kernel_rfl, fun h => by cases h⟩
theorem tok10 : TOk Try.prog 10 ⟨.str, 1, 16, .string ⟨#[]⟩, false⟩ := ⟨by kernel_rfl, by kernel_rfl, fun h => by cases h⟩
theorem tok11 : TOk Try.prog 11 ⟨.str, 1, 16, .string ⟨#[]⟩, false⟩ := ⟨by kernel_rfl, by kernel_rfl, fun h => by cases h⟩
theorem tok12 : TOk Try.prog 12 ⟨.int .u64, 1, 8, .int .u64 0, false⟩ := ⟨by kernel_rfl, by kernel_rfl, fun h => by cases h⟩
theorem tok13 : TOk Try.prog 13 ⟨.struct [(9, 0), (12, 1)], 2, 24, .agg #[.string ⟨#[]⟩, .int .u64 0], false⟩ := ⟨by kernel_rfl, by kernel_rfl, fun h => by cases h⟩
theorem tok14 : TOk Try.prog 14 ⟨.struct [(9, 0), (12, 1)], 2, 24, .agg #[.string ⟨#[]⟩, .int .u64 0], false⟩ := ⟨by kernel_rfl, by kernel_rfl, fun h => by cases h⟩
theorem tok15 : TOk Try.prog 15 ⟨.other, 1, 8, .pointer none, false⟩ := ⟨by kernel_rfl, by kernel_rfl, fun h => by cases h⟩
theorem tok16 : TOk Try.prog 16 ⟨.other, 1, 8, .pointer none, false⟩ := ⟨by kernel_rfl, by kernel_rfl, fun h => by cases h⟩
theorem tok17 : TOk Try.prog 17 ⟨.other, 1, 8, .pointer none, false⟩ := ⟨by kernel_rfl, by kernel_rfl, fun h => by cases h⟩
theorem tok18 : TOk Try.prog 18 ⟨.struct [(17, 0)], 1, 8, .agg #[.pointer none], false⟩ := ⟨by kernel_rfl, by kernel_rfl, fun h => by cases h⟩
theorem tok19 : TOk Try.prog 19 ⟨.struct [(17, 0)], 1, 8, .agg #[.pointer none], false⟩ := ⟨by kernel_rfl, by kernel_rfl, fun h => by cases h⟩
theorem tok21 : TOk Try.prog 21 ⟨.int .i32, 1, 4, .int .i32 0, false⟩ := ⟨by kernel_rfl, by kernel_rfl, fun h => by cases h⟩
theorem tok22 : TOk Try.prog 22 ⟨.slice 2, 1, 24, .slice none 0 0, false⟩ := ⟨by kernel_rfl, by kernel_rfl, fun h => by cases h⟩
theorem tok23 : TOk Try.prog 23 ⟨.slice 22, 1, 24, .slice none 0 0, false⟩ := ⟨by kernel_rfl, by kernel_rfl, fun h => by cases h⟩
theorem tok24 : TOk Try.prog 24 ⟨.slice 23, 1, 24, .slice none 0 0, false⟩ := ⟨by kernel_rfl, by kernel_rfl, fun h => by cases h⟩
theorem tok25 : TOk Try.prog 25 ⟨.struct [(22, 0), (23, 1), (24, 2)], 3, 72, .agg #[.slice none 0 0, .slice none 0 0, .slice none 0 0], false⟩ := ⟨by kernel_rfl, by kernel_rfl, fun h => by cases h⟩
theorem tok26 : TOk Try.prog 26 ⟨.struct [(22, 0), (23, 1), (24, 2)], 3, 72, .agg #[.slice none 0 0, .slice none 0 0, .slice none 0 0], false⟩ := ⟨by kernel_rfl, by kernel_rfl, fun h => by cases h⟩
theorem tok28 : TOk Try.prog 28 ⟨.struct [(2, 0), (23, 1)], 2, 32, .agg #[.int .i64 0, .slice none 0 0], false⟩ := ⟨by kernel_rfl, by kernel_rfl, fun h => by cases h⟩
theorem tok29 : TOk Try.prog 29 ⟨.struct [(2, 0), (23, 1)], 2, 32, .agg #[.int .i64 0, .slice none 0 0], false⟩ := ⟨by kernel_rfl, by kernel_rfl, fun h => by cases h⟩
theorem tok32 : TOk Try.prog 32 ⟨.struct [(22, 0), (23, 1), (24, 2)], 3, 72, .agg #[.slice none 0 0, .slice none 0 0, .slice none 0 0], false⟩ := ⟨by kernel_rfl, by kernel_rfl, fun h => by cases h⟩
theorem tok58 : TOk Try.prog 58 ⟨.other, 1, 8, .pointer none, false⟩ := ⟨by kernel_rfl, by kernel_rfl, fun h => by cases h⟩
theorem tok59 : TOk Try.prog 59 ⟨.int .u64, 1, 8, .int .u64 0, false⟩ := ⟨by kernel_rfl, by kernel_rfl, fun h => by cases h⟩
theorem tok65 : TOk Try.prog 65 ⟨.int .u32, 1, 4, .int .u32 0, false⟩ := ⟨by kernel_rfl, by kernel_rfl, fun h => by cases h⟩
theorem tok68 : TOk Try.prog 68 ⟨.int .u64, 1, 8, .int .u64 0, false⟩ := ⟨by kernel_rfl, by kernel_rfl, fun h => by cases h⟩
theorem tok72 : TOk Try.prog 72 ⟨.struct [(17, 0), (17, 1), (17, 2), (9, 3)], 4, 40, .agg #[.pointer none, .pointer none, .pointer none, .string ⟨#[]⟩], false⟩ := ⟨by kernel_rfl, by kernel_rfl, fun h => by cases h⟩
theorem tok73 : TOk Try.prog 73 ⟨.struct [(17, 0), (17, 1), (17, 2), (9, 3)], 4, 40, .agg #[.pointer none, .pointer none, .pointer none, .string ⟨#[]⟩], false⟩ := ⟨by kernel_rfl, by kernel_rfl, fun h => by cases h⟩
theorem tok78 : TOk Try.prog 78 ⟨.int .u8, 1, 1, .int .u8 0, false⟩ := ⟨by kernel_rfl, by kernel_rfl, fun h => by cases h⟩
theorem tok79 : TOk Try.prog 79 ⟨.int .u8, 1, 1, .int .u8 0, false⟩ := ⟨by kernel_rfl, by kernel_rfl, fun h => by cases h⟩
theorem tok81 : TOk Try.prog 81 ⟨.other, 1, 8, .pointer none, false⟩ := ⟨by kernel_rfl, by kernel_rfl, fun h => by cases h⟩
theorem tok82 : TOk Try.prog 82 ⟨.int .i32, 1, 4, .int .i32 0, false⟩ := ⟨by kernel_rfl, by kernel_rfl, fun h => by cases h⟩
theorem tok83 : TOk Try.prog 83 ⟨.int .i32, 1, 4, .int .i32 0, false⟩ := ⟨by kernel_rfl, by kernel_rfl, fun h => by cases h⟩
theorem tok84 : TOk Try.prog 84 ⟨.struct [(12, 0), (12, 1), (65, 2), (78, 3), (5, 4), (5, 5), (79, 6), (80, 7), (81, 8), (82, 9), (83, 10)], 11, 48, .agg #[.int .u64 0, .int .u64 0, .int .u32 0, .int .u8 0, .int .u8 0, .int .u8 0, .int .u8 0, .nilFunc, .pointer none, .int .i32 0, .int .i32 0], false⟩ := ⟨by kernel_rfl, by kernel_rfl, fun h => by cases h⟩
theorem tok85 : TOk Try.prog 85 ⟨.struct [(12, 0), (12, 1), (65, 2), (78, 3), (5, 4), (5, 5), (79, 6), (80, 7), (81, 8), (82, 9), (83, 10)], 11, 48, .agg #[.int .u64 0, .int .u64 0, .int .u32 0, .int .u8 0, .int .u8 0, .int .u8 0, .int .u8 0, .nilFunc, .pointer none, .int .i32 0, .int .i32 0], false⟩ := ⟨by kernel_rfl, by kernel_rfl, fun h => by cases h⟩
theorem envOk : GOk Try.prog env := by
  intro ty x h
  unfold env at h
  split at h <;> first | (cases h; done) | skip
  · cases h; exact tok2
  · cases h; exact tok3
  · cases h; exact tok4
  · cases h; exact tok5
  · cases h; exact tok6
  · cases h; exact tok7
  · cases h; exact tok8
  · cases h; exact tok9
  · cases h; exact tok10
  · cases h; exact tok11
  · cases h; exact tok12
  · cases h; exact tok13
  · cases h; exact tok14
  · cases h; exact tok15
  · cases h; exact tok16
  · cases h; exact tok17
  · cases h; exact tok18
  · cases h; exact tok19
  · cases h; exact tok21
  · cases h; exact tok22
  · cases h; exact tok23
  · cases h; exact tok24
  · cases h; exact tok25
  · cases h; exact tok26
  · cases h; exact tok28
  · cases h; exact tok29
  · cases h; exact tok32
  · cases h; exact tok58
  · cases h; exact tok59
  · cases h; exact tok65
  · cases h; exact tok68
  · cases h; exact tok72
  · cases h; exact tok73
  · cases h; exact tok78
  · cases h; exact tok79
  · cases h; exact tok81
  · cases h; exact tok82
  · cases h; exact tok83
  · cases h; exact tok84
  · cases h; exact tok85
end Go.Proofs.Ytgelbdpnpjjbfaa
