/-
  The types of this seat's program, as far as the own layer asks of them. Printed by a program of our own out of the seat's translation.
-/
import Derived.Test.YtimgnijlnkjamaaProg
import Derived.Test.YtimgnijlnkjamaaAvP
import Derived.KernelRfl
set_option linter.unusedVariables false
namespace Go.Proofs.Ytimgnijlnkjamaa

def env : TEnv := fun t => match t with
  | 2 => some ⟨.int .i64, 1, 8, .int .i64 0, false⟩
  | 3 => some ⟨.int .i64, 1, 8, .int .i64 0, false⟩
  | 4 => some ⟨.bool, 1, 1, .bool false, false⟩
  | 5 => some ⟨.int .u8, 1, 1, .int .u8 0, false⟩
  | 6 => some ⟨.int .u8, 1, 1, .int .u8 0, false⟩
  | 7 => some ⟨.struct [(2, 0), (3, 1), (4, 2), (6, 3)], 4, 24, .agg #[.int .i64 0, .int .i64 0, .bool false, .int .u8 0], false⟩
  | 8 => some ⟨.struct [(2, 0), (3, 1), (4, 2), (6, 3)], 4, 24, .agg #[.int .i64 0, .int .i64 0, .bool false, .int .u8 0], false⟩
  | 9 => some ⟨.str, 1, 16, .string ⟨#[]⟩, false⟩
  | 10 => some ⟨.str, 1, 16, .string ⟨#[]⟩, false⟩
  | 11 => some ⟨.str, 1, 16, .string ⟨#[]⟩, false⟩
  | 12 => some ⟨.int .u64, 1, 8, .int .u64 0, false⟩
  | 13 => some ⟨.struct [(9, 0), (12, 1)], 2, 24, .agg #[.string ⟨#[]⟩, .int .u64 0], false⟩
  | 14 => some ⟨.struct [(9, 0), (12, 1)], 2, 24, .agg #[.string ⟨#[]⟩, .int .u64 0], false⟩
  | 15 => some ⟨.other, 1, 8, .pointer none, false⟩
  | 16 => some ⟨.other, 1, 8, .pointer none, false⟩
  | 17 => some ⟨.other, 1, 8, .pointer none, false⟩
  | 18 => some ⟨.struct [(17, 0)], 1, 8, .agg #[.pointer none], false⟩
  | 19 => some ⟨.struct [(17, 0)], 1, 8, .agg #[.pointer none], false⟩
  | 21 => some ⟨.int .i32, 1, 4, .int .i32 0, false⟩
  | 22 => some ⟨.slice 37, 1, 24, .slice none 0 0, false⟩
  | 23 => some ⟨.struct [(2, 0), (22, 1)], 2, 32, .agg #[.int .i64 0, .slice none 0 0], false⟩
  | 24 => some ⟨.struct [(2, 0), (22, 1)], 2, 32, .agg #[.int .i64 0, .slice none 0 0], false⟩
  | 26 => some ⟨.struct [(2, 0), (22, 1)], 2, 32, .agg #[.int .i64 0, .slice none 0 0], false⟩
  | 27 => some ⟨.struct [(2, 0), (22, 1)], 2, 32, .agg #[.int .i64 0, .slice none 0 0], false⟩
  | 30 => some ⟨.struct [(2, 0), (22, 1)], 2, 32, .agg #[.int .i64 0, .slice none 0 0], false⟩
  | 37 => some ⟨.slice 2, 1, 24, .slice none 0 0, false⟩
  | 38 => some ⟨.slice 22, 1, 24, .slice none 0 0, false⟩
  | 39 => some ⟨.struct [(37, 0), (22, 1), (38, 2)], 3, 72, .agg #[.slice none 0 0, .slice none 0 0, .slice none 0 0], false⟩
  | 40 => some ⟨.struct [(37, 0), (22, 1), (38, 2)], 3, 72, .agg #[.slice none 0 0, .slice none 0 0, .slice none 0 0], false⟩
  | 44 => some ⟨.struct [(37, 0), (22, 1), (38, 2)], 3, 72, .agg #[.slice none 0 0, .slice none 0 0, .slice none 0 0], false⟩
  | 80 => some ⟨.other, 1, 8, .pointer none, false⟩
  | 125 => some ⟨.slice 3, 1, 24, .slice none 0 0, false⟩
  | 127 => some ⟨.other, 1, 8, .pointer none, false⟩
  | 141 => some ⟨.int .u64, 1, 8, .int .u64 0, false⟩
  | 145 => some ⟨.struct [(2, 0), (2, 1), (2, 2), (2, 3)], 4, 32, .agg #[.int .i64 0, .int .i64 0, .int .i64 0, .int .i64 0], true⟩
  | 146 => some ⟨.struct [(2, 0), (2, 1), (2, 2), (2, 3)], 4, 32, .agg #[.int .i64 0, .int .i64 0, .int .i64 0, .int .i64 0], true⟩
  | 152 => some ⟨.slice 4, 1, 24, .slice none 0 0, false⟩
  | 156 => some ⟨.struct [(80, 0), (22, 1)], 2, 32, .agg #[.pointer none, .slice none 0 0], false⟩
  | 157 => some ⟨.struct [(80, 0), (22, 1)], 2, 32, .agg #[.pointer none, .slice none 0 0], false⟩
  | 163 => some ⟨.int .u32, 1, 4, .int .u32 0, false⟩
  | 166 => some ⟨.int .u64, 1, 8, .int .u64 0, false⟩
  | 178 => some ⟨.struct [(17, 0), (17, 1), (17, 2), (9, 3)], 4, 40, .agg #[.pointer none, .pointer none, .pointer none, .string ⟨#[]⟩], false⟩
  | 179 => some ⟨.struct [(17, 0), (17, 1), (17, 2), (9, 3)], 4, 40, .agg #[.pointer none, .pointer none, .pointer none, .string ⟨#[]⟩], false⟩
  | 184 => some ⟨.int .u8, 1, 1, .int .u8 0, false⟩
  | 185 => some ⟨.int .u8, 1, 1, .int .u8 0, false⟩
  | 187 => some ⟨.other, 1, 8, .pointer none, false⟩
  | 188 => some ⟨.int .i32, 1, 4, .int .i32 0, false⟩
  | 189 => some ⟨.int .i32, 1, 4, .int .i32 0, false⟩
  | 190 => some ⟨.struct [(12, 0), (12, 1), (163, 2), (184, 3), (5, 4), (5, 5), (185, 6), (186, 7), (187, 8), (188, 9), (189, 10)], 11, 48, .agg #[.int .u64 0, .int .u64 0, .int .u32 0, .int .u8 0, .int .u8 0, .int .u8 0, .int .u8 0, .nilFunc, .pointer none, .int .i32 0, .int .i32 0], false⟩
  | 191 => some ⟨.struct [(12, 0), (12, 1), (163, 2), (184, 3), (5, 4), (5, 5), (185, 6), (186, 7), (187, 8), (188, 9), (189, 10)], 11, 48, .agg #[.int .u64 0, .int .u64 0, .int .u32 0, .int .u8 0, .int .u8 0, .int .u8 0, .int .u8 0, .nilFunc, .pointer none, .int .i32 0, .int .i32 0], false⟩
  | _ => none
theorem env2 : env 2 = some ⟨.int .i64, 1, 8, .int .i64 0, false⟩ := Eq.trans rfl rfl
theorem env3 : env 3 = some ⟨.int .i64, 1, 8, .int .i64 0, false⟩ := Eq.trans rfl rfl
theorem env4 : env 4 = some ⟨.bool, 1, 1, .bool false, false⟩ := Eq.trans rfl rfl
theorem env5 : env 5 = some ⟨.int .u8, 1, 1, .int .u8 0, false⟩ := Eq.trans rfl rfl
theorem env6 : env 6 = some ⟨.int .u8, 1, 1, .int .u8 0, false⟩ := Eq.trans rfl rfl
theorem env7 : env 7 = some ⟨.struct [(2, 0), (3, 1), (4, 2), (6, 3)], 4, 24, .agg #[.int .i64 0, .int .i64 0, .bool false, .int .u8 0], false⟩ := Eq.trans rfl rfl
theorem env8 : env 8 = some ⟨.struct [(2, 0), (3, 1), (4, 2), (6, 3)], 4, 24, .agg #[.int .i64 0, .int .i64 0, .bool false, .int .u8 0], false⟩ := Eq.trans rfl rfl
theorem env9 : env 9 = some ⟨.str, 1, 16, .string ⟨#[]⟩, false⟩ := Eq.trans rfl rfl
theorem env10 : env 10 = some ⟨.str, 1, 16, .string ⟨#[]⟩, false⟩ := Eq.trans rfl rfl
theorem env11 : env 11 = some ⟨.str, 1, 16, .string ⟨#[]⟩, false⟩ := Eq.trans rfl rfl
theorem env12 : env 12 = some ⟨.int .u64, 1, 8, .int .u64 0, false⟩ := Eq.trans rfl rfl
theorem env13 : env 13 = some ⟨.struct [(9, 0), (12, 1)], 2, 24, .agg #[.string ⟨#[]⟩, .int .u64 0], false⟩ := Eq.trans rfl rfl
theorem env14 : env 14 = some ⟨.struct [(9, 0), (12, 1)], 2, 24, .agg #[.string ⟨#[]⟩, .int .u64 0], false⟩ := Eq.trans rfl rfl
theorem env15 : env 15 = some ⟨.other, 1, 8, .pointer none, false⟩ := Eq.trans rfl rfl
theorem env16 : env 16 = some ⟨.other, 1, 8, .pointer none, false⟩ := Eq.trans rfl rfl
theorem env17 : env 17 = some ⟨.other, 1, 8, .pointer none, false⟩ := Eq.trans rfl rfl
theorem env18 : env 18 = some ⟨.struct [(17, 0)], 1, 8, .agg #[.pointer none], false⟩ := Eq.trans rfl rfl
theorem env19 : env 19 = some ⟨.struct [(17, 0)], 1, 8, .agg #[.pointer none], false⟩ := Eq.trans rfl rfl
theorem env21 : env 21 = some ⟨.int .i32, 1, 4, .int .i32 0, false⟩ := Eq.trans rfl rfl
theorem env22 : env 22 = some ⟨.slice 37, 1, 24, .slice none 0 0, false⟩ := Eq.trans rfl rfl
theorem env23 : env 23 = some ⟨.struct [(2, 0), (22, 1)], 2, 32, .agg #[.int .i64 0, .slice none 0 0], false⟩ := Eq.trans rfl rfl
theorem env24 : env 24 = some ⟨.struct [(2, 0), (22, 1)], 2, 32, .agg #[.int .i64 0, .slice none 0 0], false⟩ := Eq.trans rfl rfl
theorem env26 : env 26 = some ⟨.struct [(2, 0), (22, 1)], 2, 32, .agg #[.int .i64 0, .slice none 0 0], false⟩ := Eq.trans rfl rfl
theorem env27 : env 27 = some ⟨.struct [(2, 0), (22, 1)], 2, 32, .agg #[.int .i64 0, .slice none 0 0], false⟩ := Eq.trans rfl rfl
theorem env30 : env 30 = some ⟨.struct [(2, 0), (22, 1)], 2, 32, .agg #[.int .i64 0, .slice none 0 0], false⟩ := Eq.trans rfl rfl
theorem env37 : env 37 = some ⟨.slice 2, 1, 24, .slice none 0 0, false⟩ := Eq.trans rfl rfl
theorem env38 : env 38 = some ⟨.slice 22, 1, 24, .slice none 0 0, false⟩ := Eq.trans rfl rfl
theorem env39 : env 39 = some ⟨.struct [(37, 0), (22, 1), (38, 2)], 3, 72, .agg #[.slice none 0 0, .slice none 0 0, .slice none 0 0], false⟩ := Eq.trans rfl rfl
theorem env40 : env 40 = some ⟨.struct [(37, 0), (22, 1), (38, 2)], 3, 72, .agg #[.slice none 0 0, .slice none 0 0, .slice none 0 0], false⟩ := Eq.trans rfl rfl
theorem env44 : env 44 = some ⟨.struct [(37, 0), (22, 1), (38, 2)], 3, 72, .agg #[.slice none 0 0, .slice none 0 0, .slice none 0 0], false⟩ := Eq.trans rfl rfl
theorem env80 : env 80 = some ⟨.other, 1, 8, .pointer none, false⟩ := Eq.trans rfl rfl
theorem env125 : env 125 = some ⟨.slice 3, 1, 24, .slice none 0 0, false⟩ := Eq.trans rfl rfl
theorem env127 : env 127 = some ⟨.other, 1, 8, .pointer none, false⟩ := Eq.trans rfl rfl
theorem env141 : env 141 = some ⟨.int .u64, 1, 8, .int .u64 0, false⟩ := Eq.trans rfl rfl
theorem env145 : env 145 = some ⟨.struct [(2, 0), (2, 1), (2, 2), (2, 3)], 4, 32, .agg #[.int .i64 0, .int .i64 0, .int .i64 0, .int .i64 0], true⟩ := Eq.trans rfl rfl
theorem env146 : env 146 = some ⟨.struct [(2, 0), (2, 1), (2, 2), (2, 3)], 4, 32, .agg #[.int .i64 0, .int .i64 0, .int .i64 0, .int .i64 0], true⟩ := Eq.trans rfl rfl
theorem env152 : env 152 = some ⟨.slice 4, 1, 24, .slice none 0 0, false⟩ := Eq.trans rfl rfl
theorem env156 : env 156 = some ⟨.struct [(80, 0), (22, 1)], 2, 32, .agg #[.pointer none, .slice none 0 0], false⟩ := Eq.trans rfl rfl
theorem env157 : env 157 = some ⟨.struct [(80, 0), (22, 1)], 2, 32, .agg #[.pointer none, .slice none 0 0], false⟩ := Eq.trans rfl rfl
theorem env163 : env 163 = some ⟨.int .u32, 1, 4, .int .u32 0, false⟩ := Eq.trans rfl rfl
theorem env166 : env 166 = some ⟨.int .u64, 1, 8, .int .u64 0, false⟩ := Eq.trans rfl rfl
theorem env178 : env 178 = some ⟨.struct [(17, 0), (17, 1), (17, 2), (9, 3)], 4, 40, .agg #[.pointer none, .pointer none, .pointer none, .string ⟨#[]⟩], false⟩ := Eq.trans rfl rfl
theorem env179 : env 179 = some ⟨.struct [(17, 0), (17, 1), (17, 2), (9, 3)], 4, 40, .agg #[.pointer none, .pointer none, .pointer none, .string ⟨#[]⟩], false⟩ := Eq.trans rfl rfl
theorem env184 : env 184 = some ⟨.int .u8, 1, 1, .int .u8 0, false⟩ := Eq.trans rfl rfl
theorem env185 : env 185 = some ⟨.int .u8, 1, 1, .int .u8 0, false⟩ := Eq.trans rfl rfl
theorem env187 : env 187 = some ⟨.other, 1, 8, .pointer none, false⟩ := Eq.trans rfl rfl
theorem env188 : env 188 = some ⟨.int .i32, 1, 4, .int .i32 0, false⟩ := Eq.trans rfl rfl
theorem env189 : env 189 = some ⟨.int .i32, 1, 4, .int .i32 0, false⟩ := Eq.trans rfl rfl
theorem env190 : env 190 = some ⟨.struct [(12, 0), (12, 1), (163, 2), (184, 3), (5, 4), (5, 5), (185, 6), (186, 7), (187, 8), (188, 9), (189, 10)], 11, 48, .agg #[.int .u64 0, .int .u64 0, .int .u32 0, .int .u8 0, .int .u8 0, .int .u8 0, .int .u8 0, .nilFunc, .pointer none, .int .i32 0, .int .i32 0], false⟩ := Eq.trans rfl rfl
theorem env191 : env 191 = some ⟨.struct [(12, 0), (12, 1), (163, 2), (184, 3), (5, 4), (5, 5), (185, 6), (186, 7), (187, 8), (188, 9), (189, 10)], 11, 48, .agg #[.int .u64 0, .int .u64 0, .int .u32 0, .int .u8 0, .int .u8 0, .int .u8 0, .int .u8 0, .nilFunc, .pointer none, .int .i32 0, .int .i32 0], false⟩ := Eq.trans rfl rfl
attribute [go_sem] env2 env3 env4 env5 env6 env7 env8 env9 env10 env11 env12 env13 env14 env15 env16 env17 env18 env19 env21 env22 env23 env24 env26 env27 env30 env37 env38 env39 env40 env44 env80 env125 env127 env141 env145 env146 env152 env156 env157 env163 env166 env178 env179 env184 env185 env187 env188 env189 env190 env191
theorem tok2 : TOk Try.prog 2 ⟨.int .i64, 1, 8, .int .i64 0, false⟩ := ⟨by kernel_rfl, by kernel_rfl, fun h => by cases h⟩
theorem tok3 : TOk Try.prog 3 ⟨.int .i64, 1, 8, .int .i64 0, false⟩ := ⟨by kernel_rfl, by kernel_rfl, fun h => by cases h⟩
theorem tok4 : TOk Try.prog 4 ⟨.bool, 1, 1, .bool false, false⟩ := ⟨by kernel_rfl, by kernel_rfl, fun h => by cases h⟩
theorem tok5 : TOk Try.prog 5 ⟨.int .u8, 1, 1, .int .u8 0, false⟩ := ⟨by kernel_rfl, by kernel_rfl, fun h => by cases h⟩
theorem tok6 : TOk Try.prog 6 ⟨.int .u8, 1, 1, .int .u8 0, false⟩ := ⟨by kernel_rfl, by kernel_rfl, fun h => by cases h⟩
theorem tok7 : TOk Try.prog 7 ⟨.struct [(2, 0), (3, 1), (4, 2), (6, 3)], 4, 24, .agg #[.int .i64 0, .int .i64 0, .bool false, .int .u8 0], false⟩ := ⟨by kernel_rfl, by kernel_rfl, fun h => by cases h⟩
theorem tok8 : TOk Try.prog 8 ⟨.struct [(2, 0), (3, 1), (4, 2), (6, 3)], 4, 24, .agg #[.int .i64 0, .int .i64 0, .bool false, .int .u8 0], false⟩ := ⟨by kernel_rfl, by kernel_rfl, fun h => by cases h⟩
theorem tok9 : TOk Try.prog 9 ⟨.str, 1, 16, .string ⟨#[]⟩, false⟩ := ⟨by kernel_rfl, by kernel_rfl, fun h => by cases h⟩
theorem tok10 : TOk Try.prog 10 ⟨.str, 1, 16, .string ⟨#[]⟩, false⟩ := ⟨by kernel_rfl, by kernel_rfl, fun h => by cases h⟩
theorem tok11 : TOk Try.prog 11 ⟨.str, 1, 16, .string ⟨#[]⟩, false⟩ := ⟨by kernel_rfl, by kernel_rfl, fun h => by cases h⟩
theorem tok12 : TOk Try.prog 12 ⟨.int .u64, 1, 8, .int .u64 0, false⟩ := ⟨by kernel_rfl, by kernel_rfl, fun h => by cases h⟩
theorem tok13 : TOk Try.prog 13 ⟨.struct [(9, 0), (12, 1)], 2, 24, .agg #[.string ⟨#[]⟩, .int .u64 0], false⟩ := ⟨by kernel_rfl, by kernel_rfl, fun h => by cases h⟩
theorem tok14 : TOk Try.prog 14 ⟨.struct [(9, 0), (12, 1)], 2, 24, .agg #[.string ⟨#[]⟩, .int .u64 0], false⟩ := ⟨by kernel_rfl, by kernel_rfl, fun h => by cases h⟩
theorem tok15 : TOk Try.prog 15 ⟨.other, 1, 8, .pointer none, false⟩ := ⟨by kernel_rfl, by kernel_rfl, fun h => by cases h⟩
theorem tok16 : TOk Try.prog 16 ⟨.other, 1, 8, .pointer none, false⟩ := ⟨by kernel_rfl, by kernel_rfl, fun h => by cases h⟩
theorem tok17 : TOk Try.prog 17 ⟨.other, 1, 8, .pointer none, false⟩ := ⟨by kernel_rfl, by kernel_rfl, fun h => by cases h⟩
theorem tok18 : TOk Try.prog 18 ⟨.struct [(17, 0)], 1, 8, .agg #[.pointer none], false⟩ := ⟨by kernel_rfl, by kernel_rfl, fun h => by cases h⟩
theorem tok19 : TOk Try.prog 19 ⟨.struct [(17, 0)], 1, 8, .agg #[.pointer none], false⟩ := ⟨by kernel_rfl, by kernel_rfl, fun h => by cases h⟩
theorem tok21 : TOk Try.prog 21 ⟨.int .i32, 1, 4, .int .i32 0, false⟩ := ⟨by kernel_rfl, by kernel_rfl, fun h => by cases h⟩
theorem tok22 : TOk Try.prog 22 ⟨.slice 37, 1, 24, .slice none 0 0, false⟩ := ⟨by kernel_rfl, by kernel_rfl, fun h => by cases h⟩
theorem tok23 : TOk Try.prog 23 ⟨.struct [(2, 0), (22, 1)], 2, 32, .agg #[.int .i64 0, .slice none 0 0], false⟩ := ⟨by kernel_rfl, by kernel_rfl, fun h => by cases h⟩
theorem tok24 : TOk Try.prog 24 ⟨.struct [(2, 0), (22, 1)], 2, 32, .agg #[.int .i64 0, .slice none 0 0], false⟩ := ⟨by kernel_rfl, by kernel_rfl, fun h => by cases h⟩
theorem tok26 : TOk Try.prog 26 ⟨.struct [(2, 0), (22, 1)], 2, 32, .agg #[.int .i64 0, .slice none 0 0], false⟩ := ⟨by kernel_rfl, by kernel_rfl, fun h => by cases h⟩
theorem tok27 : TOk Try.prog 27 ⟨.struct [(2, 0), (22, 1)], 2, 32, .agg #[.int .i64 0, .slice none 0 0], false⟩ := ⟨by kernel_rfl, by kernel_rfl, fun h => by cases h⟩
theorem tok30 : TOk Try.prog 30 ⟨.struct [(2, 0), (22, 1)], 2, 32, .agg #[.int .i64 0, .slice none 0 0], false⟩ := ⟨by kernel_rfl, by kernel_rfl, fun h => by cases h⟩
theorem tok37 : TOk Try.prog 37 ⟨.slice 2, 1, 24, .slice none 0 0, false⟩ := ⟨by kernel_rfl, by kernel_rfl, fun h => by cases h⟩
theorem tok38 : TOk Try.prog 38 ⟨.slice 22, 1, 24, .slice none 0 0, false⟩ := ⟨by kernel_rfl, by kernel_rfl, fun h => by cases h⟩
theorem tok39 : TOk Try.prog 39 ⟨.struct [(37, 0), (22, 1), (38, 2)], 3, 72, .agg #[.slice none 0 0, .slice none 0 0, .slice none 0 0], false⟩ := ⟨by kernel_rfl, by kernel_rfl, fun h => by cases h⟩
theorem tok40 : TOk Try.prog 40 ⟨.struct [(37, 0), (22, 1), (38, 2)], 3, 72, .agg #[.slice none 0 0, .slice none 0 0, .slice none 0 0], false⟩ := ⟨by kernel_rfl, by kernel_rfl, fun h => by cases h⟩
theorem tok44 : TOk Try.prog 44 ⟨.struct [(37, 0), (22, 1), (38, 2)], 3, 72, .agg #[.slice none 0 0, .slice none 0 0, .slice none 0 0], false⟩ := ⟨by kernel_rfl, by kernel_rfl, fun h => by cases h⟩
theorem tok80 : TOk Try.prog 80 ⟨.other, 1, 8, .pointer none, false⟩ := ⟨by kernel_rfl, by kernel_rfl, fun h => by cases h⟩
theorem tok125 : TOk Try.prog 125 ⟨.slice 3, 1, 24, .slice none 0 0, false⟩ := ⟨by kernel_rfl, by kernel_rfl, fun h => by cases h⟩
theorem tok127 : TOk Try.prog 127 ⟨.other, 1, 8, .pointer none, false⟩ := ⟨by kernel_rfl, by kernel_rfl, fun h => by cases h⟩
theorem tok141 : TOk Try.prog 141 ⟨.int .u64, 1, 8, .int .u64 0, false⟩ := ⟨by kernel_rfl, by kernel_rfl, fun h => by cases h⟩
theorem tok145 : TOk Try.prog 145 ⟨.struct [(2, 0), (2, 1), (2, 2), (2, 3)], 4, 32, .agg #[.int .i64 0, .int .i64 0, .int .i64 0, .int .i64 0], true⟩ := ⟨by kernel_rfl, by kernel_rfl, fun _ => by kernel_rfl⟩
theorem tok146 : TOk Try.prog 146 ⟨.struct [(2, 0), (2, 1), (2, 2), (2, 3)], 4, 32, .agg #[.int .i64 0, .int .i64 0, .int .i64 0, .int .i64 0], true⟩ := ⟨by kernel_rfl, by kernel_rfl, fun _ => by kernel_rfl⟩
theorem tok152 : TOk Try.prog 152 ⟨.slice 4, 1, 24, .slice none 0 0, false⟩ := ⟨by kernel_rfl, by kernel_rfl, fun h => by cases h⟩
theorem tok156 : TOk Try.prog 156 ⟨.struct [(80, 0), (22, 1)], 2, 32, .agg #[.pointer none, .slice none 0 0], false⟩ := ⟨by kernel_rfl, by kernel_rfl, fun h => by cases h⟩
theorem tok157 : TOk Try.prog 157 ⟨.struct [(80, 0), (22, 1)], 2, 32, .agg #[.pointer none, .slice none 0 0], false⟩ := ⟨by kernel_rfl, by kernel_rfl, fun h => by cases h⟩
theorem tok163 : TOk Try.prog 163 ⟨.int .u32, 1, 4, .int .u32 0, false⟩ := ⟨by kernel_rfl, by kernel_rfl, fun h => by cases h⟩
theorem tok166 : TOk Try.prog 166 ⟨.int .u64, 1, 8, .int .u64 0, false⟩ := ⟨by kernel_rfl, by kernel_rfl, fun h => by cases h⟩
theorem tok178 : TOk Try.prog 178 ⟨.struct [(17, 0), (17, 1), (17, 2), (9, 3)], 4, 40, .agg #[.pointer none, .pointer none, .pointer none, .string ⟨#[]⟩], false⟩ := ⟨by kernel_rfl, by kernel_rfl, fun h => by cases h⟩
theorem tok179 : TOk Try.prog 179 ⟨.struct [(17, 0), (17, 1), (17, 2), (9, 3)], 4, 40, .agg #[.pointer none, .pointer none, .pointer none, .string ⟨#[]⟩], false⟩ := ⟨by kernel_rfl, by kernel_rfl, fun h => by cases h⟩
theorem tok184 : TOk Try.prog 184 ⟨.int .u8, 1, 1, .int .u8 0, false⟩ := ⟨by kernel_rfl, by kernel_rfl, fun h => by cases h⟩
theorem tok185 : TOk Try.prog 185 ⟨.int .u8, 1, 1, .int .u8 0, false⟩ := ⟨by kernel_rfl, by kernel_rfl, fun h => by cases h⟩
theorem tok187 : TOk Try.prog 187 ⟨.other, 1, 8, .pointer none, false⟩ := ⟨by kernel_rfl, by kernel_rfl, fun h => by cases h⟩
theorem tok188 : TOk Try.prog 188 ⟨.int .i32, 1, 4, .int .i32 0, false⟩ := ⟨by kernel_rfl, by kernel_rfl, fun h => by cases h⟩
theorem tok189 : TOk Try.prog 189 ⟨.int .i32, 1, 4, .int .i32 0, false⟩ := ⟨by kernel_rfl, by kernel_rfl, fun h => by cases h⟩
theorem tok190 : TOk Try.prog 190 ⟨.struct [(12, 0), (12, 1), (163, 2), (184, 3), (5, 4), (5, 5), (185, 6), (186, 7), (187, 8), (188, 9), (189, 10)], 11, 48, .agg #[.int .u64 0, .int .u64 0, .int .u32 0, .int .u8 0, .int .u8 0, .int .u8 0, .int .u8 0, .nilFunc, .pointer none, .int .i32 0, .int .i32 0], false⟩ := ⟨by kernel_rfl, by kernel_rfl, fun h => by cases h⟩
theorem tok191 : TOk Try.prog 191 ⟨.struct [(12, 0), (12, 1), (163, 2), (184, 3), (5, 4), (5, 5), (185, 6), (186, 7), (187, 8), (188, 9), (189, 10)], 11, 48, .agg #[.int .u64 0, .int .u64 0, .int .u32 0, .int .u8 0, .int .u8 0, .int .u8 0, .int .u8 0, .nilFunc, .pointer none, .int .i32 0, .int .i32 0], false⟩ := ⟨by kernel_rfl, by kernel_rfl, fun h => by cases h⟩
theorem envOk : GOk Try.prog env := by
  intro ty x h
  unfold env at h
  split at h <;> first | (cases h; done) | skip
  · cases h; exact tok2
  · cases h; exact tok3
  · cases h; exact tok4
  · cases h; exact tok5
  · cases h; exact tok6
  · cases h; exact tok7
  · cases h; exact tok8
  · cases h; exact tok9
  · cases h; exact tok10
  · cases h; exact tok11
  · cases h; exact tok12
  · cases h; exact tok13
  · cases h; exact tok14
  · cases h; exact tok15
  · cases h; exact tok16
  · cases h; exact tok17
  · cases h; exact tok18
  · cases h; exact tok19
  · cases h; exact tok21
  · cases h; exact tok22
  · cases h; exact tok23
  · cases h; exact tok24
  · cases h; exact tok26
  · cases h; exact tok27
  · cases h; exact tok30
  · cases h; exact tok37
  · cases h; exact tok38
  · cases h; exact tok39
  · cases h; exact tok40
  · cases h; exact tok44
  · cases h; exact tok80
  · cases h; exact tok125
  · cases h; exact tok127
  · cases h; exact tok141
  · cases h; exact tok145
  · cases h; exact tok146
  · cases h; exact tok152
  · cases h; exact tok156
  · cases h; exact tok157
  · cases h; exact tok163
  · cases h; exact tok166
  · cases h; exact tok178
  · cases h; exact tok179
  · cases h; exact tok184
  · cases h; exact tok185
  · cases h; exact tok187
  · cases h; exact tok188
  · cases h; exact tok189
  · cases h; exact tok190
  · cases h; exact tok191

end Go.Proofs.Ytimgnijlnkjamaa
