/-
  The types of this seat's program, as far as the own layer asks of them. Printed by a program of our own out of the seat's translation.
-/
import Derived.Test.YtdjpljnpaidfcaaProg
import Derived.Test.YtdjpljnpaidfcaaAvQ
import Derived.KernelRfl
set_option linter.unusedVariables false
namespace Go.Proofs.Ytdjpljnpaidfcaa

def env : TEnv := fun t => match t with
  | 2 => some ⟨.int .i64, 1, 8, .int .i64 0⟩
  | 3 => some ⟨.int .i64, 1, 8, .int .i64 0⟩
  | 4 => some ⟨.bool, 1, 1, .bool false⟩
  | 5 => some ⟨.int .u8, 1, 1, .int .u8 0⟩
  | 6 => some ⟨.int .u8, 1, 1, .int .u8 0⟩
  | 7 => some ⟨.struct [(2, 0), (3, 1), (4, 2), (6, 3)], 4, 24, .agg #[.int .i64 0, .int .i64 0, .bool false, .int .u8 0]⟩
  | 8 => some ⟨.struct [(2, 0), (3, 1), (4, 2), (6, 3)], 4, 24, .agg #[.int .i64 0, .int .i64 0, .bool false, .int .u8 0]⟩
  | 9 => some ⟨.str, 1, 16, .string ⟨#[]⟩⟩
  | 10 => some ⟨.str, 1, 16, .string ⟨#[]⟩⟩
  | 11 => some ⟨.str, 1, 16, .string ⟨#[]⟩⟩
  | 12 => some ⟨.int .u64, 1, 8, .int .u64 0⟩
  | 13 => some ⟨.struct [(9, 0), (12, 1)], 2, 24, .agg #[.string ⟨#[]⟩, .int .u64 0]⟩
  | 14 => some ⟨.struct [(9, 0), (12, 1)], 2, 24, .agg #[.string ⟨#[]⟩, .int .u64 0]⟩
  | 15 => some ⟨.other, 1, 8, .pointer none⟩
  | 16 => some ⟨.other, 1, 8, .pointer none⟩
  | 17 => some ⟨.other, 1, 8, .pointer none⟩
  | 18 => some ⟨.struct [(17, 0)], 1, 8, .agg #[.pointer none]⟩
  | 19 => some ⟨.struct [(17, 0)], 1, 8, .agg #[.pointer none]⟩
  | 21 => some ⟨.int .i32, 1, 4, .int .i32 0⟩
  | 22 => some ⟨.slice 42, 1, 24, .slice none 0 0⟩
  | 23 => some ⟨.struct [(2, 0), (22, 1)], 2, 32, .agg #[.int .i64 0, .slice none 0 0]⟩
  | 24 => some ⟨.struct [(2, 0), (22, 1)], 2, 32, .agg #[.int .i64 0, .slice none 0 0]⟩
  | 27 => some ⟨.struct [(2, 0), (22, 1)], 2, 32, .agg #[.int .i64 0, .slice none 0 0]⟩
  | 35 => some ⟨.struct [(2, 0), (22, 1)], 2, 32, .agg #[.int .i64 0, .slice none 0 0]⟩
  | 36 => some ⟨.struct [(2, 0), (22, 1)], 2, 32, .agg #[.int .i64 0, .slice none 0 0]⟩
  | 42 => some ⟨.slice 2, 1, 24, .slice none 0 0⟩
  | 43 => some ⟨.slice 22, 1, 24, .slice none 0 0⟩
  | 44 => some ⟨.struct [(2, 0), (22, 1), (43, 2)], 3, 56, .agg #[.int .i64 0, .slice none 0 0, .slice none 0 0]⟩
  | 45 => some ⟨.struct [(2, 0), (22, 1), (43, 2)], 3, 56, .agg #[.int .i64 0, .slice none 0 0, .slice none 0 0]⟩
  | 54 => some ⟨.struct [(2, 0), (22, 1), (43, 2)], 3, 56, .agg #[.int .i64 0, .slice none 0 0, .slice none 0 0]⟩
  | 89 => some ⟨.other, 1, 8, .pointer none⟩
  | 113 => some ⟨.slice 3, 1, 24, .slice none 0 0⟩
  | 122 => some ⟨.slice 4, 1, 24, .slice none 0 0⟩
  | 134 => some ⟨.struct [(17, 0), (17, 1), (17, 2), (9, 3)], 4, 40, .agg #[.pointer none, .pointer none, .pointer none, .string ⟨#[]⟩]⟩
  | 135 => some ⟨.struct [(17, 0), (17, 1), (17, 2), (9, 3)], 4, 40, .agg #[.pointer none, .pointer none, .pointer none, .string ⟨#[]⟩]⟩
  | 140 => some ⟨.int .u32, 1, 4, .int .u32 0⟩
  | 141 => some ⟨.int .u8, 1, 1, .int .u8 0⟩
  | 142 => some ⟨.int .u8, 1, 1, .int .u8 0⟩
  | 144 => some ⟨.other, 1, 8, .pointer none⟩
  | 145 => some ⟨.int .i32, 1, 4, .int .i32 0⟩
  | 146 => some ⟨.int .i32, 1, 4, .int .i32 0⟩
  | 147 => some ⟨.struct [(12, 0), (12, 1), (140, 2), (141, 3), (5, 4), (5, 5), (142, 6), (143, 7), (144, 8), (145, 9), (146, 10)], 11, 48, .agg #[.int .u64 0, .int .u64 0, .int .u32 0, .int .u8 0, .int .u8 0, .int .u8 0, .int .u8 0, .nilFunc, .pointer none, .int .i32 0, .int .i32 0]⟩
  | 148 => some ⟨.struct [(12, 0), (12, 1), (140, 2), (141, 3), (5, 4), (5, 5), (142, 6), (143, 7), (144, 8), (145, 9), (146, 10)], 11, 48, .agg #[.int .u64 0, .int .u64 0, .int .u32 0, .int .u8 0, .int .u8 0, .int .u8 0, .int .u8 0, .nilFunc, .pointer none, .int .i32 0, .int .i32 0]⟩
  | _ => none
theorem env2 : env 2 = some ⟨.int .i64, 1, 8, .int .i64 0⟩ := Eq.trans rfl rfl
theorem env3 : env 3 = some ⟨.int .i64, 1, 8, .int .i64 0⟩ := Eq.trans rfl rfl
theorem env4 : env 4 = some ⟨.bool, 1, 1, .bool false⟩ := Eq.trans rfl rfl
theorem env5 : env 5 = some ⟨.int .u8, 1, 1, .int .u8 0⟩ := Eq.trans rfl rfl
theorem env6 : env 6 = some ⟨.int .u8, 1, 1, .int .u8 0⟩ := Eq.trans rfl rfl
theorem env7 : env 7 = some ⟨.struct [(2, 0), (3, 1), (4, 2), (6, 3)], 4, 24, .agg #[.int .i64 0, .int .i64 0, .bool false, .int .u8 0]⟩ := Eq.trans rfl rfl
theorem env8 : env 8 = some ⟨.struct [(2, 0), (3, 1), (4, 2), (6, 3)], 4, 24, .agg #[.int .i64 0, .int .i64 0, .bool false, .int .u8 0]⟩ := Eq.trans rfl rfl
theorem env9 : env 9 = some ⟨.str, 1, 16, .string ⟨#[]⟩⟩ := Eq.trans rfl rfl
theorem env10 : env 10 = some ⟨.str, 1, 16, .string ⟨#[]⟩⟩ := Eq.trans rfl rfl
theorem env11 : env 11 = some ⟨.str, 1, 16, .string ⟨#[]⟩⟩ := Eq.trans rfl rfl
theorem env12 : env 12 = some ⟨.int .u64, 1, 8, .int .u64 0⟩ := Eq.trans rfl rfl
theorem env13 : env 13 = some ⟨.struct [(9, 0), (12, 1)], 2, 24, .agg #[.string ⟨#[]⟩, .int .u64 0]⟩ := Eq.trans rfl rfl
theorem env14 : env 14 = some ⟨.struct [(9, 0), (12, 1)], 2, 24, .agg #[.string ⟨#[]⟩, .int .u64 0]⟩ := Eq.trans rfl rfl
theorem env15 : env 15 = some ⟨.other, 1, 8, .pointer none⟩ := Eq.trans rfl rfl
theorem env16 : env 16 = some ⟨.other, 1, 8, .pointer none⟩ := Eq.trans rfl rfl
theorem env17 : env 17 = some ⟨.other, 1, 8, .pointer none⟩ := Eq.trans rfl rfl
theorem env18 : env 18 = some ⟨.struct [(17, 0)], 1, 8, .agg #[.pointer none]⟩ := Eq.trans rfl rfl
theorem env19 : env 19 = some ⟨.struct [(17, 0)], 1, 8, .agg #[.pointer none]⟩ := Eq.trans rfl rfl
theorem env21 : env 21 = some ⟨.int .i32, 1, 4, .int .i32 0⟩ := Eq.trans rfl rfl
theorem env22 : env 22 = some ⟨.slice 42, 1, 24, .slice none 0 0⟩ := Eq.trans rfl rfl
theorem env23 : env 23 = some ⟨.struct [(2, 0), (22, 1)], 2, 32, .agg #[.int .i64 0, .slice none 0 0]⟩ := Eq.trans rfl rfl
theorem env24 : env 24 = some ⟨.struct [(2, 0), (22, 1)], 2, 32, .agg #[.int .i64 0, .slice none 0 0]⟩ := Eq.trans rfl rfl
theorem env27 : env 27 = some ⟨.struct [(2, 0), (22, 1)], 2, 32, .agg #[.int .i64 0, .slice none 0 0]⟩ := Eq.trans rfl rfl
theorem env35 : env 35 = some ⟨.struct [(2, 0), (22, 1)], 2, 32, .agg #[.int .i64 0, .slice none 0 0]⟩ := Eq.trans rfl rfl
theorem env36 : env 36 = some ⟨.struct [(2, 0), (22, 1)], 2, 32, .agg #[.int .i64 0, .slice none 0 0]⟩ := Eq.trans rfl rfl
theorem env42 : env 42 = some ⟨.slice 2, 1, 24, .slice none 0 0⟩ := Eq.trans rfl rfl
theorem env43 : env 43 = some ⟨.slice 22, 1, 24, .slice none 0 0⟩ := Eq.trans rfl rfl
theorem env44 : env 44 = some ⟨.struct [(2, 0), (22, 1), (43, 2)], 3, 56, .agg #[.int .i64 0, .slice none 0 0, .slice none 0 0]⟩ := Eq.trans rfl rfl
theorem env45 : env 45 = some ⟨.struct [(2, 0), (22, 1), (43, 2)], 3, 56, .agg #[.int .i64 0, .slice none 0 0, .slice none 0 0]⟩ := Eq.trans rfl rfl
theorem env54 : env 54 = some ⟨.struct [(2, 0), (22, 1), (43, 2)], 3, 56, .agg #[.int .i64 0, .slice none 0 0, .slice none 0 0]⟩ := Eq.trans rfl rfl
theorem env89 : env 89 = some ⟨.other, 1, 8, .pointer none⟩ := Eq.trans rfl rfl
theorem env113 : env 113 = some ⟨.slice 3, 1, 24, .slice none 0 0⟩ := Eq.trans rfl rfl
theorem env122 : env 122 = some ⟨.slice 4, 1, 24, .slice none 0 0⟩ := Eq.trans rfl rfl
theorem env134 : env 134 = some ⟨.struct [(17, 0), (17, 1), (17, 2), (9, 3)], 4, 40, .agg #[.pointer none, .pointer none, .pointer none, .string ⟨#[]⟩]⟩ := Eq.trans rfl rfl
theorem env135 : env 135 = some ⟨.struct [(17, 0), (17, 1), (17, 2), (9, 3)], 4, 40, .agg #[.pointer none, .pointer none, .pointer none, .string ⟨#[]⟩]⟩ := Eq.trans rfl rfl
theorem env140 : env 140 = some ⟨.int .u32, 1, 4, .int .u32 0⟩ := Eq.trans rfl rfl
theorem env141 : env 141 = some ⟨.int .u8, 1, 1, .int .u8 0⟩ := Eq.trans rfl rfl
theorem env142 : env 142 = some ⟨.int .u8, 1, 1, .int .u8 0⟩ := Eq.trans rfl rfl
theorem env144 : env 144 = some ⟨.other, 1, 8, .pointer none⟩ := Eq.trans rfl rfl
theorem env145 : env 145 = some ⟨.int .i32, 1, 4, .int .i32 0⟩ := Eq.trans rfl rfl
theorem env146 : env 146 = some ⟨.int .i32, 1, 4, .int .i32 0⟩ := Eq.trans rfl rfl
theorem env147 : env 147 = some ⟨.struct [(12, 0), (12, 1), (140, 2), (141, 3), (5, 4), (5, 5), (142, 6), (143, 7), (144, 8), (145, 9), (146, 10)], 11, 48, .agg #[.int .u64 0, .int .u64 0, .int .u32 0, .int .u8 0, .int .u8 0, .int .u8 0, .int .u8 0, .nilFunc, .pointer none, .int .i32 0, .int .i32 0]⟩ := Eq.trans rfl rfl
theorem env148 : env 148 = some ⟨.struct [(12, 0), (12, 1), (140, 2), (141, 3), (5, 4), (5, 5), (142, 6), (143, 7), (144, 8), (145, 9), (146, 10)], 11, 48, .agg #[.int .u64 0, .int .u64 0, .int .u32 0, .int .u8 0, .int .u8 0, .int .u8 0, .int .u8 0, .nilFunc, .pointer none, .int .i32 0, .int .i32 0]⟩ := Eq.trans rfl rfl
attribute [go_sem] env2 env3 env4 env5 env6 env7 env8 env9 env10 env11 env12 env13 env14 env15 env16 env17 env18 env19 env21 env22 env23 env24 env27 env35 env36 env42 env43 env44 env45 env54 env89 env113 env122 env134 env135 env140 env141 env142 env144 env145 env146 env147 env148
theorem tok2 : TOk Try.prog 2 ⟨.int .i64, 1, 8, .int .i64 0⟩ := ⟨by kernel_rfl, by kernel_rfl⟩
theorem tok3 : TOk Try.prog 3 ⟨.int .i64, 1, 8, .int .i64 0⟩ := ⟨by kernel_rfl, by kernel_rfl⟩
theorem tok4 : TOk Try.prog 4 ⟨.bool, 1, 1, .bool false⟩ := ⟨by kernel_rfl, by kernel_rfl⟩
theorem tok5 : TOk Try.prog 5 ⟨.int .u8, 1, 1, .int .u8 0⟩ := ⟨by kernel_rfl, by kernel_rfl⟩
theorem tok6 : TOk Try.prog 6 ⟨.int .u8, 1, 1, .int .u8 0⟩ := ⟨by kernel_rfl, by kernel_rfl⟩
theorem tok7 : TOk Try.prog 7 ⟨.struct [(2, 0), (3, 1), (4, 2), (6, 3)], 4, 24, .agg #[.int .i64 0, .int .i64 0, .bool false, .int .u8 0]⟩ := ⟨by kernel_rfl, by kernel_rfl⟩
theorem tok8 : TOk Try.prog 8 ⟨.struct [(2, 0), (3, 1), (4, 2), (6, 3)], 4, 24, .agg #[.int .i64 0, .int .i64 0, .bool false, .int .u8 0]⟩ := ⟨by kernel_rfl, by kernel_rfl⟩
theorem tok9 : TOk Try.prog 9 ⟨.str, 1, 16, .string ⟨#[]⟩⟩ := ⟨by kernel_rfl, by kernel_rfl⟩
theorem tok10 : TOk Try.prog 10 ⟨.str, 1, 16, .string ⟨#[]⟩⟩ := ⟨by kernel_rfl, by kernel_rfl⟩
theorem tok11 : TOk Try.prog 11 ⟨.str, 1, 16, .string ⟨#[]⟩⟩ := ⟨by kernel_rfl, by kernel_rfl⟩
theorem tok12 : TOk Try.prog 12 ⟨.int .u64, 1, 8, .int .u64 0⟩ := ⟨by kernel_rfl, by kernel_rfl⟩
theorem tok13 : TOk Try.prog 13 ⟨.struct [(9, 0), (12, 1)], 2, 24, .agg #[.string ⟨#[]⟩, .int .u64 0]⟩ := ⟨by kernel_rfl, by kernel_rfl⟩
theorem tok14 : TOk Try.prog 14 ⟨.struct [(9, 0), (12, 1)], 2, 24, .agg #[.string ⟨#[]⟩, .int .u64 0]⟩ := ⟨by kernel_rfl, by kernel_rfl⟩
theorem tok15 : TOk Try.prog 15 ⟨.other, 1, 8, .pointer none⟩ := ⟨by kernel_rfl, by kernel_rfl⟩
theorem tok16 : TOk Try.prog 16 ⟨.other, 1, 8, .pointer none⟩ := ⟨by kernel_rfl, by kernel_rfl⟩
theorem tok17 : TOk Try.prog 17 ⟨.other, 1, 8, .pointer none⟩ := ⟨by kernel_rfl, by kernel_rfl⟩
theorem tok18 : TOk Try.prog 18 ⟨.struct [(17, 0)], 1, 8, .agg #[.pointer none]⟩ := ⟨by kernel_rfl, by kernel_rfl⟩
theorem tok19 : TOk Try.prog 19 ⟨.struct [(17, 0)], 1, 8, .agg #[.pointer none]⟩ := ⟨by kernel_rfl, by kernel_rfl⟩
theorem tok21 : TOk Try.prog 21 ⟨.int .i32, 1, 4, .int .i32 0⟩ := ⟨by kernel_rfl, by kernel_rfl⟩
theorem tok22 : TOk Try.prog 22 ⟨.slice 42, 1, 24, .slice none 0 0⟩ := ⟨by kernel_rfl, by kernel_rfl⟩
theorem tok23 : TOk Try.prog 23 ⟨.struct [(2, 0), (22, 1)], 2, 32, .agg #[.int .i64 0, .slice none 0 0]⟩ := ⟨by kernel_rfl, by kernel_rfl⟩
theorem tok24 : TOk Try.prog 24 ⟨.struct [(2, 0), (22, 1)], 2, 32, .agg #[.int .i64 0, .slice none 0 0]⟩ := ⟨by kernel_rfl, by kernel_rfl⟩
theorem tok27 : TOk Try.prog 27 ⟨.struct [(2, 0), (22, 1)], 2, 32, .agg #[.int .i64 0, .slice none 0 0]⟩ := ⟨by kernel_rfl, by kernel_rfl⟩
theorem tok35 : TOk Try.prog 35 ⟨.struct [(2, 0), (22, 1)], 2, 32, .agg #[.int .i64 0, .slice none 0 0]⟩ := ⟨by kernel_rfl, by kernel_rfl⟩
theorem tok36 : TOk Try.prog 36 ⟨.struct [(2, 0), (22, 1)], 2, 32, .agg #[.int .i64 0, .slice none 0 0]⟩ := ⟨by kernel_rfl, by kernel_rfl⟩
theorem tok42 : TOk Try.prog 42 ⟨.slice 2, 1, 24, .slice none 0 0⟩ := ⟨by kernel_rfl, by kernel_rfl⟩
theorem tok43 : TOk Try.prog 43 ⟨.slice 22, 1, 24, .slice none 0 0⟩ := ⟨by kernel_rfl, by kernel_rfl⟩
theorem tok44 : TOk Try.prog 44 ⟨.struct [(2, 0), (22, 1), (43, 2)], 3, 56, .agg #[.int .i64 0, .slice none 0 0, .slice none 0 0]⟩ := ⟨by kernel_rfl, by kernel_rfl⟩
theorem tok45 : TOk Try.prog 45 ⟨.struct [(2, 0), (22, 1), (43, 2)], 3, 56, .agg #[.int .i64 0, .slice none 0 0, .slice none 0 0]⟩ := ⟨by kernel_rfl, by kernel_rfl⟩
theorem tok54 : TOk Try.prog 54 ⟨.struct [(2, 0), (22, 1), (43, 2)], 3, 56, .agg #[.int .i64 0, .slice none 0 0, .slice none 0 0]⟩ := ⟨by kernel_rfl, by kernel_rfl⟩
theorem tok89 : TOk Try.prog 89 ⟨.other, 1, 8, .pointer none⟩ := ⟨by kernel_rfl, by kernel_rfl⟩
theorem tok113 : TOk Try.prog 113 ⟨.slice 3, 1, 24, .slice none 0 0⟩ := ⟨by kernel_rfl, by kernel_rfl⟩
theorem tok122 : TOk Try.prog 122 ⟨.slice 4, 1, 24, .slice none 0 0⟩ := ⟨by kernel_rfl, by kernel_rfl⟩
theorem tok134 : TOk Try.prog 134 ⟨.struct [(17, 0), (17, 1), (17, 2), (9, 3)], 4, 40, .agg #[.pointer none, .pointer none, .pointer none, .string ⟨#[]⟩]⟩ := ⟨by kernel_rfl, by kernel_rfl⟩
theorem tok135 : TOk Try.prog 135 ⟨.struct [(17, 0), (17, 1), (17, 2), (9, 3)], 4, 40, .agg #[.pointer none, .pointer none, .pointer none, .string ⟨#[]⟩]⟩ := ⟨by kernel_rfl, by kernel_rfl⟩
theorem tok140 : TOk Try.prog 140 ⟨.int .u32, 1, 4, .int .u32 0⟩ := ⟨by kernel_rfl, by kernel_rfl⟩
theorem tok141 : TOk Try.prog 141 ⟨.int .u8, 1, 1, .int .u8 0⟩ := ⟨by kernel_rfl, by kernel_rfl⟩
theorem tok142 : TOk Try.prog 142 ⟨.int .u8, 1, 1, .int .u8 0⟩ := ⟨by kernel_rfl, by kernel_rfl⟩
theorem tok144 : TOk Try.prog 144 ⟨.other, 1, 8, .pointer none⟩ := ⟨by kernel_rfl, by kernel_rfl⟩
theorem tok145 : TOk Try.prog 145 ⟨.int .i32, 1, 4, .int .i32 0⟩ := ⟨by kernel_rfl, by kernel_rfl⟩
theorem tok146 : TOk Try.prog 146 ⟨.int .i32, 1, 4, .int .i32 0⟩ := ⟨by kernel_rfl, by kernel_rfl⟩
theorem tok147 : TOk Try.prog 147 ⟨.struct [(12, 0), (12, 1), (140, 2), (141, 3), (5, 4), (5, 5), (142, 6), (143, 7), (144, 8), (145, 9), (146, 10)], 11, 48, .agg #[.int .u64 0, .int .u64 0, .int .u32 0, .int .u8 0, .int .u8 0, .int .u8 0, .int .u8 0, .nilFunc, .pointer none, .int .i32 0, .int .i32 0]⟩ := ⟨by kernel_rfl, by kernel_rfl⟩
theorem tok148 : TOk Try.prog 148 ⟨.struct [(12, 0), (12, 1), (140, 2), (141, 3), (5, 4), (5, 5), (142, 6), (143, 7), (144, 8), (145, 9), (146, 10)], 11, 48, .agg #[.int .u64 0, .int .u64 0, .int .u32 0, .int .u8 0, .int .u8 0, .int .u8 0, .int .u8 0, .nilFunc, .pointer none, .int .i32 0, .int .i32 0]⟩ := ⟨by kernel_rfl, by kernel_rfl⟩
theorem envOk : GOk Try.prog env := by
  intro ty x h
  unfold env at h
  split at h <;> first | (cases h; done) | skip
  · cases h; exact tok2
  · cases h; exact tok3
  · cases h; exact tok4
  · cases h; exact tok5
  · cases h; exact tok6
  · cases h; exact tok7
  · cases h; exact tok8
  · cases h; exact tok9
  · cases h; exact tok10
  · cases h; exact tok11
  · cases h; exact tok12
  · cases h; exact tok13
  · cases h; exact tok14
  · cases h; exact tok15
  · cases h; exact tok16
  · cases h; exact tok17
  · cases h; exact tok18
  · cases h; exact tok19
  · cases h; exact tok21
  · cases h; exact tok22
  · cases h; exact tok23
  · cases h; exact tok24
  · cases h; exact tok27
  · cases h; exact tok35
  · cases h; exact tok36
  · cases h; exact tok42
  · cases h; exact tok43
  · cases h; exact tok44
  · cases h; exact tok45
  · cases h; exact tok54
  · cases h; exact tok89
  · cases h; exact tok113
  · cases h; exact tok122
  · cases h; exact tok134
  · cases h; exact tok135
  · cases h; exact tok140
  · cases h; exact tok141
  · cases h; exact tok142
  · cases h; exact tok144
  · cases h; exact tok145
  · cases h; exact tok146
  · cases h; exact tok147
  · cases h; exact tok148

end Go.Proofs.Ytdjpljnpaidfcaa
