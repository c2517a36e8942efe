import Derived.Test.YtkmgmjajbiddbaaProg
import Derived.KernelRfl
import Derived.Test.YtkmgmjajbiddbaaZ07
set_option linter.unusedVariables false
set_option linter.unusedSimpArgs false
namespace Go.Proofs.Ytkmgmjajbiddbaa
def env : TEnv := fun t => match t with
  | 2 => some ⟨.int .i64, 1, 8, .int .i64 0, false⟩
  | 3 => some ⟨.int .i64, 1, 8, .int .i64 0, false⟩
  | 4 => some ⟨.bool, 1, 1, .bool false, false⟩
  | 5 => some ⟨.int .u8, 1, 1, .int .u8 0, false⟩
  | 6 => some ⟨.int .u8, 1, 1, .int .u8 0, false⟩
  | 7 => some ⟨.struct [(2, 0), (3, 1), (4, 2), (6, 3)], 4, 24, .agg #[.int .i64 0, .int .i64 0, .bool false, .int .u8 0], false⟩
  | 8 => some ⟨.struct [(2, 0), (3, 1), (4, 2), (6, 3)], 4, 24, .agg #[.int .i64 0, .int .i64 0, .bool false, .int .u8 0], false⟩
  | 9 => some ⟨.str, 1, 16, .string ⟨#[]⟩, false⟩
  | 10 => some ⟨.str, 1, 16, .string ⟨#[]⟩, false⟩
  | 11 => some ⟨.str, 1, 16, .string ⟨#[]⟩, false⟩
  | 12 => some ⟨.int .u64, 1, 8, .int .u64 0, false⟩
  | 13 => some ⟨.struct [(9, 0), (12, 1)], 2, 24, .agg #[.string ⟨#[]⟩, .int .u64 0], false⟩
  | 14 => some ⟨.struct [(9, 0), (12, 1)], 2, 24, .agg #[.string ⟨#[]⟩, .int .u64 0], false⟩
  | 15 => some ⟨.other, 1, 8, .pointer none, false⟩
  | 16 => some ⟨.other, 1, 8, .pointer none, false⟩
  | 17 => some ⟨.other, 1, 8, .pointer none, false⟩
  | 18 => some ⟨.struct [(17, 0)], 1, 8, .agg #[.pointer none], false⟩
  | 19 => some ⟨.struct [(17, 0)], 1, 8, .agg #[.pointer none], false⟩
  | 21 => some ⟨.int .i32, 1, 4, .int .i32 0, false⟩
  | 22 => some ⟨.slice 27, 1, 24, .slice none 0 0, false⟩
  | 23 => some ⟨.slice 22, 1, 24, .slice none 0 0, false⟩
  | 24 => some ⟨.struct [(2, 0), (22, 1), (23, 2)], 3, 56, .agg #[.int .i64 0, .slice none 0 0, .slice none 0 0], false⟩
  | 25 => some ⟨.struct [(2, 0), (22, 1), (23, 2)], 3, 56, .agg #[.int .i64 0, .slice none 0 0, .slice none 0 0], false⟩
  | 27 => some ⟨.slice 2, 1, 24, .slice none 0 0, false⟩
  | 28 => some ⟨.struct [(27, 0), (2, 1)], 2, 32, .agg #[.slice none 0 0, .int .i64 0], false⟩
  | 29 => some ⟨.struct [(27, 0), (2, 1)], 2, 32, .agg #[.slice none 0 0, .int .i64 0], false⟩
  | 32 => some ⟨.struct [(2, 0), (22, 1), (23, 2)], 3, 56, .agg #[.int .i64 0, .slice none 0 0, .slice none 0 0], false⟩
  | 39 => some ⟨.slice 5, 1, 24, .slice none 0 0, false⟩
  | 60 => some ⟨.other, 1, 8, .pointer none, false⟩
  | 82 => some ⟨.map 2 27, 1, 8, .map none, false⟩
  | 87 => some ⟨.other, 1, 8, .pointer none, false⟩
  | 104 => some ⟨.int .u64, 1, 8, .int .u64 0, false⟩
  | 105 => some ⟨.struct [(39, 0), (3, 1), (2, 2)], 3, 40, .agg #[.slice none 0 0, .int .i64 0, .int .i64 0], false⟩
  | 106 => some ⟨.struct [(39, 0), (3, 1), (2, 2)], 3, 40, .agg #[.slice none 0 0, .int .i64 0, .int .i64 0], false⟩
  | 111 => some ⟨.int .i64, 1, 8, .int .i64 0, false⟩
  | 120 => some ⟨.int .u32, 1, 4, .int .u32 0, false⟩
  | 122 => some ⟨.int .u64, 1, 8, .int .u64 0, false⟩
  | 123 => some ⟨.slice 3, 1, 24, .slice none 0 0, false⟩
  | 126 => some ⟨.int .u64, 1, 8, .int .u64 0, false⟩
  | 130 => some ⟨.other, 1, 8, .pointer none, false⟩
  | 132 => some ⟨.other, 1, 8, .pointer none, false⟩
  | 136 => some ⟨.struct [(17, 0), (17, 1), (17, 2), (9, 3)], 4, 40, .agg #[.pointer none, .pointer none, .pointer none, .string ⟨#[]⟩], false⟩
  | 137 => some ⟨.struct [(17, 0), (17, 1), (17, 2), (9, 3)], 4, 40, .agg #[.pointer none, .pointer none, .pointer none, .string ⟨#[]⟩], false⟩
  | 142 => some ⟨.int .u8, 1, 1, .int .u8 0, false⟩
  | 143 => some ⟨.int .u8, 1, 1, .int .u8 0, false⟩
  | 145 => some ⟨.other, 1, 8, .pointer none, false⟩
  | 146 => some ⟨.int .i32, 1, 4, .int .i32 0, false⟩
  | 147 => some ⟨.int .i32, 1, 4, .int .i32 0, false⟩
  | 148 => some ⟨.struct [(12, 0), (12, 1), (120, 2), (142, 3), (5, 4), (5, 5), (143, 6), (144, 7), (145, 8), (146, 9), (147, 10)], 11, 48, .agg #[.int .u64 0, .int .u64 0, .int .u32 0, .int .u8 0, .int .u8 0, .int .u8 0, .int .u8 0, .nilFunc, .pointer none, .int .i32 0, .int .i32 0], false⟩
  | 149 => some ⟨.struct [(12, 0), (12, 1), (120, 2), (142, 3), (5, 4), (5, 5), (143, 6), (144, 7), (145, 8), (146, 9), (147, 10)], 11, 48, .agg #[.int .u64 0, .int .u64 0, .int .u32 0, .int .u8 0, .int .u8 0, .int .u8 0, .int .u8 0, .nilFunc, .pointer none, .int .i32 0, .int .i32 0], false⟩
  | _ => none
theorem env2 : env 2 = some ⟨.int .i64, 1, 8, .int .i64 0, false⟩ := Eq.trans rfl rfl
theorem env3 : env 3 = some ⟨.int .i64, 1, 8, .int .i64 0, false⟩ := Eq.trans rfl rfl
theorem env4 : env 4 = some ⟨.bool, 1, 1, .bool false, false⟩ := Eq.trans rfl rfl
theorem env5 : env 5 = some ⟨.int .u8, 1, 1, .int .u8 0, false⟩ := Eq.trans rfl rfl
theorem env6 : env 6 = some ⟨.int .u8, 1, 1, .int .u8 0, false⟩ := Eq.trans rfl rfl
theorem env7 : env 7 = some ⟨.struct [(2, 0), (3, 1), (4, 2), (6, 3)], 4, 24, .agg #[.int .i64 0, .int .i64 0, .bool false, .int .u8 0], false⟩ := Eq.trans rfl rfl
theorem env8 : env 8 = some ⟨.struct [(2, 0), (3, 1), (4, 2), (6, 3)], 4, 24, .agg #[.int .i64 0, .int .i64 0, .bool false, .int .u8 0], false⟩ := Eq.trans rfl rfl
theorem env9 : env 9 = some ⟨.str, 1, 16, .string ⟨#[]⟩, false⟩ := Eq.trans rfl rfl
theorem env10 : env 10 = some ⟨.str, 1, 16, .string ⟨#[]⟩, false⟩ := Eq.trans rfl rfl
theorem env11 : env 11 = some ⟨.str, 1, 16, .string ⟨#[]⟩, false⟩ := Eq.trans rfl rfl
theorem env12 : env 12 = some ⟨.int .u64, 1, 8, .int .u64 0, false⟩ := Eq.trans rfl rfl
theorem env13 : env 13 = some ⟨.struct [(9, 0), (12, 1)], 2, 24, .agg #[.string ⟨#[]⟩, .int .u64 0], false⟩ := Eq.trans rfl rfl
theorem env14 : env 14 = some ⟨.struct [(9, 0), (12, 1)], 2, 24, .agg #[.string ⟨#[]⟩, .int .u64 0], false⟩ := Eq.trans rfl rfl
theorem env15 : env 15 = some ⟨.other, 1, 8, .pointer none, false⟩ := Eq.trans rfl rfl
theorem env16 : env 16 = some ⟨.other, 1, 8, .pointer none, false⟩ := Eq.trans rfl rfl
theorem env17 : env 17 = some ⟨.other, 1, 8, .pointer none, false⟩ := Eq.trans rfl rfl
theorem env18 : env 18 = some ⟨.struct [(17, 0)], 1, 8, .agg #[.pointer none], false⟩ := Eq.trans rfl rfl
theorem env19 : env 19 = some ⟨.struct [(17, 0)], 1, 8, .agg #[.pointer none], false⟩ := Eq.trans rfl rfl
theorem env21 : env 21 = some ⟨.int .i32, 1, 4, .int .i32 0, false⟩ := Eq.trans rfl rfl
theorem env22 : env 22 = some ⟨.slice 27, 1, 24, .slice none 0 0, false⟩ := Eq.trans rfl rfl
theorem env23 : env 23 = some ⟨.slice 22, 1, 24, .slice none 0 0, false⟩ := Eq.trans rfl rfl
theorem env24 : env 24 = some ⟨.struct [(2, 0), (22, 1), (23, 2)], 3, 56, .agg #[.int .i64 0, .slice none 0 0, .slice none 0 0], false⟩ := Eq.trans rfl rfl
theorem env25 : env 25 = some ⟨.struct [(2, 0), (22, 1), (23, 2)], 3, 56, .agg #[.int .i64 0, .slice none 0 0, .slice none 0 0], false⟩ := Eq.trans rfl rfl
theorem env27 : env 27 = some ⟨.slice 2, 1, 24, .slice none 0 0, false⟩ := Eq.trans rfl rfl
theorem env28 : env 28 = some ⟨.struct [(27, 0), (2, 1)], 2, 32, .agg #[.slice none 0 0, .int .i64 0], false⟩ := Eq.trans rfl rfl
theorem env29 : env 29 = some ⟨.struct [(27, 0), (2, 1)], 2, 32, .agg #[.slice none 0 0, .int .i64 0], false⟩ := Eq.trans rfl rfl
theorem env32 : env 32 = some ⟨.struct [(2, 0), (22, 1), (23, 2)], 3, 56, .agg #[.int .i64 0, .slice none 0 0, .slice none 0 0], false⟩ := Eq.trans rfl rfl
theorem env39 : env 39 = some ⟨.slice 5, 1, 24, .slice none 0 0, false⟩ := Eq.trans rfl rfl
theorem env60 : env 60 = some ⟨.other, 1, 8, .pointer none, false⟩ := Eq.trans rfl rfl
theorem env82 : env 82 = some ⟨.map 2 27, 1, 8, .map none, false⟩ := Eq.trans rfl rfl
theorem env87 : env 87 = some ⟨.other, 1, 8, .pointer none, false⟩ := Eq.trans rfl rfl
theorem env104 : env 104 = some ⟨.int .u64, 1, 8, .int .u64 0, false⟩ := Eq.trans rfl rfl
theorem env105 : env 105 = some ⟨.struct [(39, 0), (3, 1), (2, 2)], 3, 40, .agg #[.slice none 0 0, .int .i64 0, .int .i64 0], false⟩ := Eq.trans rfl rfl
theorem env106 : env 106 = some ⟨.struct [(39, 0), (3, 1), (2, 2)], 3, 40, .agg #[.slice none 0 0, .int .i64 0, .int .i64 0], false⟩ := Eq.trans rfl rfl
theorem env111 : env 111 = some ⟨.int .i64, 1, 8, .int .i64 0, false⟩ := Eq.trans rfl rfl
theorem env120 : env 120 = some ⟨.int .u32, 1, 4, .int .u32 0, false⟩ := Eq.trans rfl rfl
theorem env122 : env 122 = some ⟨.int .u64, 1, 8, .int .u64 0, false⟩ := Eq.trans rfl rfl
theorem env123 : env 123 = some ⟨.slice 3, 1, 24, .slice none 0 0, false⟩ := Eq.trans rfl rfl
theorem env126 : env 126 = some ⟨.int .u64, 1, 8, .int .u64 0, false⟩ := Eq.trans rfl rfl
theorem env130 : env 130 = some ⟨.other, 1, 8, .pointer none, false⟩ := Eq.trans rfl rfl
theorem env132 : env 132 = some ⟨.other, 1, 8, .pointer none, false⟩ := Eq.trans rfl rfl
theorem env136 : env 136 = some ⟨.struct [(17, 0), (17, 1), (17, 2), (9, 3)], 4, 40, .agg #[.pointer none, .pointer none, .pointer none, .string ⟨#[]⟩], false⟩ := Eq.trans rfl rfl
theorem env137 : env 137 = some ⟨.struct [(17, 0), (17, 1), (17, 2), (9, 3)], 4, 40, .agg #[.pointer none, .pointer none, .pointer none, .string ⟨#[]⟩], false⟩ := Eq.trans rfl rfl
theorem env142 : env 142 = some ⟨.int .u8, 1, 1, .int .u8 0, false⟩ := Eq.trans rfl rfl
theorem env143 : env 143 = some ⟨.int .u8, 1, 1, .int .u8 0, false⟩ := Eq.trans rfl rfl
theorem env145 : env 145 = some ⟨.other, 1, 8, .pointer none, false⟩ := Eq.trans rfl rfl
theorem env146 : env 146 = some ⟨.int .i32, 1, 4, .int .i32 0, false⟩ := Eq.trans rfl rfl
theorem env147 : env 147 = some ⟨.int .i32, 1, 4, .int .i32 0, false⟩ := Eq.trans rfl rfl
theorem env148 : env 148 = some ⟨.struct [(12, 0), (12, 1), (120, 2), (142, 3), (5, 4), (5, 5), (143, 6), (144, 7), (145, 8), (146, 9), (147, 10)], 11, 48, .agg #[.int .u64 0, .int .u64 0, .int .u32 0, .int .u8 0, .int .u8 0, .int .u8 0, .int .u8 0, .nilFunc, .pointer none, .int .i32 0, .int .i32 0], false⟩ := Eq.trans rfl rfl
theorem env149 : env 149 = some ⟨.struct [(12, 0), (12, 1), (120, 2), (142, 3), (5, 4), (5, 5), (143, 6), (144, 7), (145, 8), (146, 9), (147, 10)], 11, 48, .agg #[.int .u64 0, .int .u64 0, .int .u32 0, .int .u8 0, .int .u8 0, .int .u8 0, .int .u8 0, .nilFunc, .pointer none, .int .i32 0, .int .i32 0], false⟩ := Eq.trans rfl rfl
attribute [go_sem] env2 env3 env4 env5 env6 env7 env8 env9 env10 env11 env12 env13 env14 env15 env16 env17 env18 env19 env21 env22 env23 env24 env25 env27 env28 env29 env32 env39 env60 env82 env87 env104 env105 env106 env111 env120 env122 env123 env126 env130 env132 env136 env137 env142 env143 env145 env146 env147 env148 env149
theorem tok2 : TOk Try.prog 2 ⟨.int .i64, 1, 8, .int .i64 0, false⟩ := ⟨by kernel_rfl, by kernel_rfl, fun h => by cases h⟩
theorem tok3 : TOk Try.prog 3 ⟨.int .i64, 1, 8, .int .i64 0, false⟩ := ⟨by kernel_rfl, by kernel_rfl, fun h => by cases h⟩
theorem tok4 : TOk Try.prog 4 ⟨.bool, 1, 1, .bool false, false⟩ := ⟨by kernel_rfl, by kernel_rfl, fun h => by cases h⟩
theorem tok5 : TOk Try.prog 5 ⟨.int .u8, 1, 1, .int .u8 0, false⟩ := ⟨by kernel_rfl, by kernel_rfl, fun h => by cases h⟩
theorem tok6 : TOk Try.prog 6 ⟨.int .u8, 1, 1, .int .u8 0, false⟩ := ⟨by kernel_rfl, by kernel_rfl, fun h => by cases h⟩
theorem tok7 : TOk Try.prog 7 ⟨.struct [(2, 0), (3, 1), (4, 2), (6, 3)], 4, 24, .agg #[.int .i64 0, .int .i64 0, .bool false, .int .u8 0], false⟩ := ⟨by kernel_rfl, by kernel_rfl, fun h => by cases h⟩
theorem tok8 : TOk Try.prog 8 ⟨.struct [(2, 0), (3, 1), (4, 2), (6, 3)], 4, 24, .agg #[.int .i64 0, .int .i64 0, .bool false, .int .u8 0], false⟩ := ⟨by kernel_rfl, by kernel_rfl, fun h => by cases h⟩
theorem tok9 : TOk Try.prog 9 ⟨.str, 1, 16, .string ⟨#[]⟩, false⟩ := ⟨by kernel_rfl, by kernel_rfl, fun h => by cases h⟩
theorem tok10 : TOk Try.prog 10 ⟨.str, 1, 16, .string ⟨#[]⟩, false⟩ := ⟨by kernel_rfl, by kernel_rfl, fun h => by cases h⟩
theorem tok11 : TOk Try.prog 11 ⟨.str, 1, 16, .string ⟨#[]⟩, false⟩ := ⟨by kernel_rfl, by kernel_rfl, fun h => by cases h⟩
theorem tok12 : TOk Try.prog 12 ⟨.int .u64, 1, 8, .int .u64 0, false⟩ := ⟨by kernel_rfl, by kernel_rfl, fun h => by cases h⟩
theorem tok13 : TOk Try.prog 13 ⟨.struct [(9, 0), (12, 1)], 2, 24, .agg #[.string ⟨#[]⟩, .int .u64 0], false⟩ := ⟨by kernel_rfl, by kernel_rfl, fun h => by cases h⟩
theorem tok14 : TOk Try.prog 14 ⟨.struct [(9, 0), (12, 1)], 2, 24, .agg #[.string ⟨#[]⟩, .int .u64 0], false⟩ := ⟨by kernel_rfl, by kernel_rfl, fun h => by cases h⟩
theorem tok15 : TOk Try.prog 15 ⟨.other, 1, 8, .pointer none, false⟩ := ⟨by kernel_rfl, by kernel_rfl, fun h => by cases h⟩
theorem tok16 : TOk Try.prog 16 ⟨.other, 1, 8, .pointer none, false⟩ := ⟨by kernel_rfl, by kernel_rfl, fun h => by cases h⟩
theorem tok17 : TOk Try.prog 17 ⟨.other, 1, 8, .pointer none, false⟩ := ⟨by kernel_rfl, by kernel_rfl, fun h => by cases h⟩
theorem tok18 : TOk Try.prog 18 ⟨.struct [(17, 0)], 1, 8, .agg #[.pointer none], false⟩ := ⟨by kernel_rfl, by kernel_rfl, fun h => by cases h⟩
theorem tok19 : TOk Try.prog 19 ⟨.struct [(17, 0)], 1, 8, .agg #[.pointer none], false⟩ := ⟨by kernel_rfl, by kernel_rfl, fun h => by cases h⟩
theorem tok21 : TOk Try.prog 21 ⟨.int .i32, 1, 4, .int .i32 0, false⟩ := ⟨by kernel_rfl, by kernel_rfl, fun h => by cases h⟩
theorem tok22 : TOk Try.prog 22 ⟨.slice 27, 1, 24, .slice none 0 0, false⟩ := ⟨by kernel_rfl, by kernel_rfl, fun h => by cases h⟩
theorem tok23 : TOk Try.prog 23 ⟨.slice 22, 1, 24, .slice none 0 0, false⟩ := ⟨by kernel_rfl, by kernel_rfl, fun h => by cases h⟩
theorem tok24 : TOk Try.prog 24 ⟨.struct [(2, 0), (22, 1), (23, 2)], 3, 56, .agg #[.int .i64 0, .slice none 0 0, .slice none 0 0], false⟩ := ⟨by kernel_rfl, by kernel_rfl, fun h => by cases h⟩
theorem tok25 : TOk Try.prog 25 ⟨.struct [(2, 0), (22, 1), (23, 2)], 3, 56, .agg #[.int .i64 0, .slice none 0 0, .slice none 0 0], false⟩ := ⟨by kernel_rfl, by kernel_rfl, fun h => by cases h⟩
theorem tok27 : TOk Try.prog 27 ⟨.slice 2, 1, 24, .slice none 0 0, false⟩ := ⟨by kernel_rfl, by kernel_rfl, fun h => by cases h⟩
theorem tok28 : TOk Try.prog 28 ⟨.struct [(27, 0), (2, 1)], 2, 32, .agg #[.slice none 0 0, .int .i64 0], false⟩ := ⟨by kernel_rfl, by kernel_rfl, fun h => by cases h⟩
theorem tok29 : TOk Try.prog 29 ⟨.struct [(27, 0), (2, 1)], 2, 32, .agg #[.slice none 0 0, .int .i64 0], false⟩ := ⟨by kernel_rfl, by kernel_rfl, fun h => by cases h⟩
theorem tok32 : TOk Try.prog 32 ⟨.struct [(2, 0), (22, 1), (23, 2)], 3, 56, .agg #[.int .i64 0, .slice none 0 0, .slice none 0 0], false⟩ := ⟨by kernel_rfl, by kernel_rfl, fun h => by cases h⟩
theorem tok39 : TOk Try.prog 39 ⟨.slice 5, 1, 24, .slice none 0 0, false⟩ := ⟨by kernel_rfl, by kernel_rfl, fun h => by cases h⟩
theorem tok60 : TOk Try.prog 60 ⟨.other, 1, 8, .pointer none, false⟩ := ⟨by kernel_rfl, by kernel_rfl, fun h => by cases h⟩
theorem tok82 : TOk Try.prog 82 ⟨.map 2 27, 1, 8, .map none, false⟩ := ⟨by kernel_rfl, by kernel_rfl, fun h => by cases h⟩
theorem tok87 : TOk Try.prog 87 ⟨.other, 1, 8, .pointer none, false⟩ := ⟨by kernel_rfl, by kernel_rfl, fun h => by cases h⟩
theorem tok104 : TOk Try.prog 104 ⟨.int .u64, 1, 8, .int .u64 0, false⟩ := ⟨by kernel_rfl, by kernel_rfl, fun h => by cases h⟩
theorem tok105 : TOk Try.prog 105 ⟨.struct [(39, 0), (3, 1), (2, 2)], 3, 40, .agg #[.slice none 0 0, .int .i64 0, .int .i64 0], false⟩ := ⟨by kernel_rfl, by kernel_rfl, fun h => by cases h⟩
theorem tok106 : TOk Try.prog 106 ⟨.struct [(39, 0), (3, 1), (2, 2)], 3, 40, .agg #[.slice none 0 0, .int .i64 0, .int .i64 0], false⟩ := ⟨by kernel_rfl, by kernel_rfl, fun h => by cases h⟩
theorem tok111 : TOk Try.prog 111 ⟨.int .i64, 1, 8, .int .i64 0, false⟩ := ⟨by kernel_rfl, by kernel_rfl, fun h => by cases h⟩
theorem tok120 : TOk Try.prog 120 ⟨.int .u32, 1, 4, .int .u32 0, false⟩ := ⟨by kernel_rfl, by kernel_rfl, fun h => by cases h⟩
theorem tok122 : TOk Try.prog 122 ⟨.int .u64, 1, 8, .int .u64 0, false⟩ := ⟨by kernel_rfl, by kernel_rfl, fun h => by cases h⟩
theorem tok123 : TOk Try.prog 123 ⟨.slice 3, 1, 24, .slice none 0 0, false⟩ := ⟨by kernel_rfl, by kernel_rfl, fun h => by cases h⟩
theorem tok126 : TOk Try.prog 126 ⟨.int .u64, 1, 8, .int .u64 0, false⟩ := ⟨by kernel_rfl, by kernel_rfl, fun h => by cases h⟩
theorem tok130 : TOk Try.prog 130 ⟨.other, 1, 8, .pointer none, false⟩ := ⟨by kernel_rfl, by kernel_rfl, fun h => by cases h⟩
theorem tok132 : TOk Try.prog 132 ⟨.other, 1, 8, .pointer none, false⟩ := ⟨by kernel_rfl, by kernel_rfl, fun h => by cases h⟩
theorem tok136 : TOk Try.prog 136 ⟨.struct [(17, 0), (17, 1), (17, 2), (9, 3)], 4, 40, .agg #[.pointer none, .pointer none, .pointer none, .string ⟨#[]⟩], false⟩ := ⟨by kernel_rfl, by kernel_rfl, fun h => by cases h⟩
theorem tok137 : TOk Try.prog 137 ⟨.struct [(17, 0), (17, 1), (17, 2), (9, 3)], 4, 40, .agg #[.pointer none, .pointer none, .pointer none, .string ⟨#[]⟩], false⟩ := ⟨by kernel_rfl, by kernel_rfl, fun h => by cases h⟩
theorem tok142 : TOk Try.prog 142 ⟨.int .u8, 1, 1, .int .u8 0, false⟩ := ⟨by kernel_rfl, by kernel_rfl, fun h => by cases h⟩
theorem tok143 : TOk Try.prog 143 ⟨.int .u8, 1, 1, .int .u8 0, false⟩ := ⟨by kernel_rfl, by kernel_rfl, fun h => by cases h⟩
theorem tok145 : TOk Try.prog 145 ⟨.other, 1, 8, .pointer none, false⟩ := ⟨by kernel_rfl, by kernel_rfl, fun h => by cases h⟩
theorem tok146 : TOk Try.prog 146 ⟨.int .i32, 1, 4, .int .i32 0, false⟩ := ⟨by kernel_rfl, by kernel_rfl, fun h => by cases h⟩
theorem tok147 : TOk Try.prog 147 ⟨.int .i32, 1, 4, .int .i32 0, false⟩ := ⟨by kernel_rfl, by kernel_rfl, fun h => by cases h⟩
theorem tok148 : TOk Try.prog 148 ⟨.struct [(12, 0), (12, 1), (120, 2), (142, 3), (5, 4), (5, 5), (143, 6), (144, 7), (145, 8), (146, 9), (147, 10)], 11, 48, .agg #[.int .u64 0, .int .u64 0, .int .u32 0, .int .u8 0, .int .u8 0, .int .u8 0, .int .u8 0, .nilFunc, .pointer none, .int .i32 0, .int .i32 0], false⟩ := ⟨by kernel_rfl, by kernel_rfl, fun h => by cases h⟩
theorem tok149 : TOk Try.prog 149 ⟨.struct [(12, 0), (12, 1), (120, 2), (142, 3), (5, 4), (5, 5), (143, 6), (144, 7), (145, 8), (146, 9), (147, 10)], 11, 48, .agg #[.int .u64 0, .int .u64 0, .int .u32 0, .int .u8 0, .int .u8 0, .int .u8 0, .int .u8 0, .nilFunc, .pointer none, .int .i32 0, .int .i32 0], false⟩ := ⟨by kernel_rfl, by kernel_rfl, fun h => by cases h⟩
theorem envOk : GOk Try.prog env := by
  intro ty x h
  unfold env at h
  split at h <;> first | (cases h; done) | skip
  · cases h; exact tok2
  · cases h; exact tok3
  · cases h; exact tok4
  · cases h; exact tok5
  · cases h; exact tok6
  · cases h; exact tok7
  · cases h; exact tok8
  · cases h; exact tok9
  · cases h; exact tok10
  · cases h; exact tok11
  · cases h; exact tok12
  · cases h; exact tok13
  · cases h; exact tok14
  · cases h; exact tok15
  · cases h; exact tok16
  · cases h; exact tok17
  · cases h; exact tok18
  · cases h; exact tok19
  · cases h; exact tok21
  · cases h; exact tok22
  · cases h; exact tok23
  · cases h; exact tok24
  · cases h; exact tok25
  · cases h; exact tok27
  · cases h; exact tok28
  · cases h; exact tok29
  · cases h; exact tok32
  · cases h; exact tok39
  · cases h; exact tok60
  · cases h; exact tok82
  · cases h; exact tok87
  · cases h; exact tok104
  · cases h; exact tok105
  · cases h; exact tok106
  · cases h; exact tok111
  · cases h; exact tok120
  · cases h; exact tok122
  · cases h; exact tok123
  · cases h; exact tok126
  · cases h; exact tok130
  · cases h; exact tok132
  · cases h; exact tok136
  · cases h; exact tok137
  · cases h; exact tok142
  · cases h; exact tok143
  · cases h; exact tok145
  · cases h; exact tok146
  · cases h; exact tok147
  · cases h; exact tok148
  · cases h; exact tok149
end Go.Proofs.Ytkmgmjajbiddbaa
