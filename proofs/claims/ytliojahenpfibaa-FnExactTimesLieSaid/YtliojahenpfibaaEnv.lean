/-
  The types of this seat's program, as far as the own layer asks of them. Printed by a program of our own out of the seat's translation.
-/
import Derived.Test.YtliojahenpfibaaProg
import Derived.Test.YtliojahenpfibaaAvQ
import Derived.KernelRfl
set_option linter.unusedVariables false
namespace Go.Proofs.Ytliojahenpfibaa

def env : TEnv := fun t => match t with
  | 2 => some ⟨.int .i64, 1, 8, .int .i64 0⟩
  | 3 => some ⟨.int .i64, 1, 8, .int .i64 0⟩
  | 4 => some ⟨.bool, 1, 1, .bool false⟩
  | 5 => some ⟨.int .u8, 1, 1, .int .u8 0⟩
  | 6 => some ⟨.int .u8, 1, 1, .int .u8 0⟩
  | 7 => some ⟨.struct [(2, 0), (3, 1), (4, 2), (6, 3)], 4, 24, .agg #[.int .i64 0, .int .i64 0, .bool false, .int .u8 0]⟩
  | 8 => some ⟨.struct [(2, 0), (3, 1), (4, 2), (6, 3)], 4, 24, .agg #[.int .i64 0, .int .i64 0, .bool false, .int .u8 0]⟩
  | 9 => some ⟨.str, 1, 16, .string ⟨#[]⟩⟩
  | 10 => some ⟨.str, 1, 16, .string ⟨#[]⟩⟩
  | 11 => some ⟨.str, 1, 16, .string ⟨#[]⟩⟩
  | 12 => some ⟨.int .u64, 1, 8, .int .u64 0⟩
  | 13 => some ⟨.struct [(9, 0), (12, 1)], 2, 24, .agg #[.string ⟨#[]⟩, .int .u64 0]⟩
  | 14 => some ⟨.struct [(9, 0), (12, 1)], 2, 24, .agg #[.string ⟨#[]⟩, .int .u64 0]⟩
  | 15 => some ⟨.other, 1, 8, .pointer none⟩
  | 16 => some ⟨.other, 1, 8, .pointer none⟩
  | 17 => some ⟨.other, 1, 8, .pointer none⟩
  | 18 => some ⟨.struct [(17, 0)], 1, 8, .agg #[.pointer none]⟩
  | 19 => some ⟨.struct [(17, 0)], 1, 8, .agg #[.pointer none]⟩
  | 21 => some ⟨.int .i32, 1, 4, .int .i32 0⟩
  | 22 => some ⟨.slice 32, 1, 24, .slice none 0 0⟩
  | 23 => some ⟨.slice 22, 1, 24, .slice none 0 0⟩
  | 24 => some ⟨.struct [(2, 0), (22, 1), (23, 2)], 3, 56, .agg #[.int .i64 0, .slice none 0 0, .slice none 0 0]⟩
  | 25 => some ⟨.struct [(2, 0), (22, 1), (23, 2)], 3, 56, .agg #[.int .i64 0, .slice none 0 0, .slice none 0 0]⟩
  | 28 => some ⟨.struct [(2, 0), (22, 1), (23, 2)], 3, 56, .agg #[.int .i64 0, .slice none 0 0, .slice none 0 0]⟩
  | 32 => some ⟨.slice 2, 1, 24, .slice none 0 0⟩
  | 44 => some ⟨.slice 5, 1, 24, .slice none 0 0⟩
  | 57 => some ⟨.other, 1, 8, .pointer none⟩
  | 59 => some ⟨.int .u64, 1, 8, .int .u64 0⟩
  | 72 => some ⟨.other, 1, 8, .pointer none⟩
  | 89 => some ⟨.struct [(44, 0), (3, 1), (59, 2)], 3, 40, .agg #[.slice none 0 0, .int .i64 0, .int .u64 0]⟩
  | 90 => some ⟨.struct [(44, 0), (3, 1), (59, 2)], 3, 40, .agg #[.slice none 0 0, .int .i64 0, .int .u64 0]⟩
  | 91 => some ⟨.int .u64, 1, 8, .int .u64 0⟩
  | 97 => some ⟨.other, 1, 8, .pointer none⟩
  | 106 => some ⟨.struct [(44, 0), (3, 1), (2, 2)], 3, 40, .agg #[.slice none 0 0, .int .i64 0, .int .i64 0]⟩
  | 107 => some ⟨.struct [(44, 0), (3, 1), (2, 2)], 3, 40, .agg #[.slice none 0 0, .int .i64 0, .int .i64 0]⟩
  | 108 => some ⟨.slice 3, 1, 24, .slice none 0 0⟩
  | 111 => some ⟨.struct [(17, 0), (17, 1), (17, 2), (9, 3)], 4, 40, .agg #[.pointer none, .pointer none, .pointer none, .string ⟨#[]⟩]⟩
  | 112 => some ⟨.struct [(17, 0), (17, 1), (17, 2), (9, 3)], 4, 40, .agg #[.pointer none, .pointer none, .pointer none, .string ⟨#[]⟩]⟩
  | 117 => some ⟨.int .u32, 1, 4, .int .u32 0⟩
  | 118 => some ⟨.int .u8, 1, 1, .int .u8 0⟩
  | 119 => some ⟨.int .u8, 1, 1, .int .u8 0⟩
  | 121 => some ⟨.other, 1, 8, .pointer none⟩
  | 122 => some ⟨.int .i32, 1, 4, .int .i32 0⟩
  | 123 => some ⟨.int .i32, 1, 4, .int .i32 0⟩
  | 124 => some ⟨.struct [(12, 0), (12, 1), (117, 2), (118, 3), (5, 4), (5, 5), (119, 6), (120, 7), (121, 8), (122, 9), (123, 10)], 11, 48, .agg #[.int .u64 0, .int .u64 0, .int .u32 0, .int .u8 0, .int .u8 0, .int .u8 0, .int .u8 0, .nilFunc, .pointer none, .int .i32 0, .int .i32 0]⟩
  | 125 => some ⟨.struct [(12, 0), (12, 1), (117, 2), (118, 3), (5, 4), (5, 5), (119, 6), (120, 7), (121, 8), (122, 9), (123, 10)], 11, 48, .agg #[.int .u64 0, .int .u64 0, .int .u32 0, .int .u8 0, .int .u8 0, .int .u8 0, .int .u8 0, .nilFunc, .pointer none, .int .i32 0, .int .i32 0]⟩
  | _ => none
theorem env2 : env 2 = some ⟨.int .i64, 1, 8, .int .i64 0⟩ := Eq.trans rfl rfl
theorem env3 : env 3 = some ⟨.int .i64, 1, 8, .int .i64 0⟩ := Eq.trans rfl rfl
theorem env4 : env 4 = some ⟨.bool, 1, 1, .bool false⟩ := Eq.trans rfl rfl
theorem env5 : env 5 = some ⟨.int .u8, 1, 1, .int .u8 0⟩ := Eq.trans rfl rfl
theorem env6 : env 6 = some ⟨.int .u8, 1, 1, .int .u8 0⟩ := Eq.trans rfl rfl
theorem env7 : env 7 = some ⟨.struct [(2, 0), (3, 1), (4, 2), (6, 3)], 4, 24, .agg #[.int .i64 0, .int .i64 0, .bool false, .int .u8 0]⟩ := Eq.trans rfl rfl
theorem env8 : env 8 = some ⟨.struct [(2, 0), (3, 1), (4, 2), (6, 3)], 4, 24, .agg #[.int .i64 0, .int .i64 0, .bool false, .int .u8 0]⟩ := Eq.trans rfl rfl
theorem env9 : env 9 = some ⟨.str, 1, 16, .string ⟨#[]⟩⟩ := Eq.trans rfl rfl
theorem env10 : env 10 = some ⟨.str, 1, 16, .string ⟨#[]⟩⟩ := Eq.trans rfl rfl
theorem env11 : env 11 = some ⟨.str, 1, 16, .string ⟨#[]⟩⟩ := Eq.trans rfl rfl
theorem env12 : env 12 = some ⟨.int .u64, 1, 8, .int .u64 0⟩ := Eq.trans rfl rfl
theorem env13 : env 13 = some ⟨.struct [(9, 0), (12, 1)], 2, 24, .agg #[.string ⟨#[]⟩, .int .u64 0]⟩ := Eq.trans rfl rfl
theorem env14 : env 14 = some ⟨.struct [(9, 0), (12, 1)], 2, 24, .agg #[.string ⟨#[]⟩, .int .u64 0]⟩ := Eq.trans rfl rfl
theorem env15 : env 15 = some ⟨.other, 1, 8, .pointer none⟩ := Eq.trans rfl rfl
theorem env16 : env 16 = some ⟨.other, 1, 8, .pointer none⟩ := Eq.trans rfl rfl
theorem env17 : env 17 = some ⟨.other, 1, 8, .pointer none⟩ := Eq.trans rfl rfl
theorem env18 : env 18 = some ⟨.struct [(17, 0)], 1, 8, .agg #[.pointer none]⟩ := Eq.trans rfl rfl
theorem env19 : env 19 = some ⟨.struct [(17, 0)], 1, 8, .agg #[.pointer none]⟩ := Eq.trans rfl rfl
theorem env21 : env 21 = some ⟨.int .i32, 1, 4, .int .i32 0⟩ := Eq.trans rfl rfl
theorem env22 : env 22 = some ⟨.slice 32, 1, 24, .slice none 0 0⟩ := Eq.trans rfl rfl
theorem env23 : env 23 = some ⟨.slice 22, 1, 24, .slice none 0 0⟩ := Eq.trans rfl rfl
theorem env24 : env 24 = some ⟨.struct [(2, 0), (22, 1), (23, 2)], 3, 56, .agg #[.int .i64 0, .slice none 0 0, .slice none 0 0]⟩ := Eq.trans rfl rfl
theorem env25 : env 25 = some ⟨.struct [(2, 0), (22, 1), (23, 2)], 3, 56, .agg #[.int .i64 0, .slice none 0 0, .slice none 0 0]⟩ := Eq.trans rfl rfl
theorem env28 : env 28 = some ⟨.struct [(2, 0), (22, 1), (23, 2)], 3, 56, .agg #[.int .i64 0, .slice none 0 0, .slice none 0 0]⟩ := Eq.trans rfl rfl
theorem env32 : env 32 = some ⟨.slice 2, 1, 24, .slice none 0 0⟩ := Eq.trans rfl rfl
theorem env44 : env 44 = some ⟨.slice 5, 1, 24, .slice none 0 0⟩ := Eq.trans rfl rfl
theorem env57 : env 57 = some ⟨.other, 1, 8, .pointer none⟩ := Eq.trans rfl rfl
theorem env59 : env 59 = some ⟨.int .u64, 1, 8, .int .u64 0⟩ := Eq.trans rfl rfl
theorem env72 : env 72 = some ⟨.other, 1, 8, .pointer none⟩ := Eq.trans rfl rfl
theorem env89 : env 89 = some ⟨.struct [(44, 0), (3, 1), (59, 2)], 3, 40, .agg #[.slice none 0 0, .int .i64 0, .int .u64 0]⟩ := Eq.trans rfl rfl
theorem env90 : env 90 = some ⟨.struct [(44, 0), (3, 1), (59, 2)], 3, 40, .agg #[.slice none 0 0, .int .i64 0, .int .u64 0]⟩ := Eq.trans rfl rfl
theorem env91 : env 91 = some ⟨.int .u64, 1, 8, .int .u64 0⟩ := Eq.trans rfl rfl
theorem env97 : env 97 = some ⟨.other, 1, 8, .pointer none⟩ := Eq.trans rfl rfl
theorem env106 : env 106 = some ⟨.struct [(44, 0), (3, 1), (2, 2)], 3, 40, .agg #[.slice none 0 0, .int .i64 0, .int .i64 0]⟩ := Eq.trans rfl rfl
theorem env107 : env 107 = some ⟨.struct [(44, 0), (3, 1), (2, 2)], 3, 40, .agg #[.slice none 0 0, .int .i64 0, .int .i64 0]⟩ := Eq.trans rfl rfl
theorem env108 : env 108 = some ⟨.slice 3, 1, 24, .slice none 0 0⟩ := Eq.trans rfl rfl
theorem env111 : env 111 = some ⟨.struct [(17, 0), (17, 1), (17, 2), (9, 3)], 4, 40, .agg #[.pointer none, .pointer none, .pointer none, .string ⟨#[]⟩]⟩ := Eq.trans rfl rfl
theorem env112 : env 112 = some ⟨.struct [(17, 0), (17, 1), (17, 2), (9, 3)], 4, 40, .agg #[.pointer none, .pointer none, .pointer none, .string ⟨#[]⟩]⟩ := Eq.trans rfl rfl
theorem env117 : env 117 = some ⟨.int .u32, 1, 4, .int .u32 0⟩ := Eq.trans rfl rfl
theorem env118 : env 118 = some ⟨.int .u8, 1, 1, .int .u8 0⟩ := Eq.trans rfl rfl
theorem env119 : env 119 = some ⟨.int .u8, 1, 1, .int .u8 0⟩ := Eq.trans rfl rfl
theorem env121 : env 121 = some ⟨.other, 1, 8, .pointer none⟩ := Eq.trans rfl rfl
theorem env122 : env 122 = some ⟨.int .i32, 1, 4, .int .i32 0⟩ := Eq.trans rfl rfl
theorem env123 : env 123 = some ⟨.int .i32, 1, 4, .int .i32 0⟩ := Eq.trans rfl rfl
theorem env124 : env 124 = some ⟨.struct [(12, 0), (12, 1), (117, 2), (118, 3), (5, 4), (5, 5), (119, 6), (120, 7), (121, 8), (122, 9), (123, 10)], 11, 48, .agg #[.int .u64 0, .int .u64 0, .int .u32 0, .int .u8 0, .int .u8 0, .int .u8 0, .int .u8 0, .nilFunc, .pointer none, .int .i32 0, .int .i32 0]⟩ := Eq.trans rfl rfl
theorem env125 : env 125 = some ⟨.struct [(12, 0), (12, 1), (117, 2), (118, 3), (5, 4), (5, 5), (119, 6), (120, 7), (121, 8), (122, 9), (123, 10)], 11, 48, .agg #[.int .u64 0, .int .u64 0, .int .u32 0, .int .u8 0, .int .u8 0, .int .u8 0, .int .u8 0, .nilFunc, .pointer none, .int .i32 0, .int .i32 0]⟩ := Eq.trans rfl rfl
attribute [go_sem] env2 env3 env4 env5 env6 env7 env8 env9 env10 env11 env12 env13 env14 env15 env16 env17 env18 env19 env21 env22 env23 env24 env25 env28 env32 env44 env57 env59 env72 env89 env90 env91 env97 env106 env107 env108 env111 env112 env117 env118 env119 env121 env122 env123 env124 env125
theorem tok2 : TOk Try.prog 2 ⟨.int .i64, 1, 8, .int .i64 0⟩ := ⟨by kernel_rfl, by kernel_rfl⟩
theorem tok3 : TOk Try.prog 3 ⟨.int .i64, 1, 8, .int .i64 0⟩ := ⟨by kernel_rfl, by kernel_rfl⟩
theorem tok4 : TOk Try.prog 4 ⟨.bool, 1, 1, .bool false⟩ := ⟨by kernel_rfl, by kernel_rfl⟩
theorem tok5 : TOk Try.prog 5 ⟨.int .u8, 1, 1, .int .u8 0⟩ := ⟨by kernel_rfl, by kernel_rfl⟩
theorem tok6 : TOk Try.prog 6 ⟨.int .u8, 1, 1, .int .u8 0⟩ := ⟨by kernel_rfl, by kernel_rfl⟩
theorem tok7 : TOk Try.prog 7 ⟨.struct [(2, 0), (3, 1), (4, 2), (6, 3)], 4, 24, .agg #[.int .i64 0, .int .i64 0, .bool false, .int .u8 0]⟩ := ⟨by kernel_rfl, by kernel_rfl⟩
theorem tok8 : TOk Try.prog 8 ⟨.struct [(2, 0), (3, 1), (4, 2), (6, 3)], 4, 24, .agg #[.int .i64 0, .int .i64 0, .bool false, .int .u8 0]⟩ := ⟨by kernel_rfl, by kernel_rfl⟩
theorem tok9 : TOk Try.prog 9 ⟨.str, 1, 16, .string ⟨#[]⟩⟩ := ⟨by kernel_rfl, by kernel_rfl⟩
theorem tok10 : TOk Try.prog 10 ⟨.str, 1, 16, .string ⟨#[]⟩⟩ := ⟨by kernel_rfl, by kernel_rfl⟩
theorem tok11 : TOk Try.prog 11 ⟨.str, 1, 16, .string ⟨#[]⟩⟩ := ⟨by kernel_rfl, by kernel_rfl⟩
theorem tok12 : TOk Try.prog 12 ⟨.int .u64, 1, 8, .int .u64 0⟩ := ⟨by kernel_rfl, by kernel_rfl⟩
theorem tok13 : TOk Try.prog 13 ⟨.struct [(9, 0), (12, 1)], 2, 24, .agg #[.string ⟨#[]⟩, .int .u64 0]⟩ := ⟨by kernel_rfl, by kernel_rfl⟩
theorem tok14 : TOk Try.prog 14 ⟨.struct [(9, 0), (12, 1)], 2, 24, .agg #[.string ⟨#[]⟩, .int .u64 0]⟩ := ⟨by kernel_rfl, by kernel_rfl⟩
theorem tok15 : TOk Try.prog 15 ⟨.other, 1, 8, .pointer none⟩ := ⟨by kernel_rfl, by kernel_rfl⟩
theorem tok16 : TOk Try.prog 16 ⟨.other, 1, 8, .pointer none⟩ := ⟨by kernel_rfl, by kernel_rfl⟩
theorem tok17 : TOk Try.prog 17 ⟨.other, 1, 8, .pointer none⟩ := ⟨by kernel_rfl, by kernel_rfl⟩
theorem tok18 : TOk Try.prog 18 ⟨.struct [(17, 0)], 1, 8, .agg #[.pointer none]⟩ := ⟨by kernel_rfl, by kernel_rfl⟩
theorem tok19 : TOk Try.prog 19 ⟨.struct [(17, 0)], 1, 8, .agg #[.pointer none]⟩ := ⟨by kernel_rfl, by kernel_rfl⟩
theorem tok21 : TOk Try.prog 21 ⟨.int .i32, 1, 4, .int .i32 0⟩ := ⟨by kernel_rfl, by kernel_rfl⟩
theorem tok22 : TOk Try.prog 22 ⟨.slice 32, 1, 24, .slice none 0 0⟩ := ⟨by kernel_rfl, by kernel_rfl⟩
theorem tok23 : TOk Try.prog 23 ⟨.slice 22, 1, 24, .slice none 0 0⟩ := ⟨by kernel_rfl, by kernel_rfl⟩
theorem tok24 : TOk Try.prog 24 ⟨.struct [(2, 0), (22, 1), (23, 2)], 3, 56, .agg #[.int .i64 0, .slice none 0 0, .slice none 0 0]⟩ := ⟨by kernel_rfl, by kernel_rfl⟩
theorem tok25 : TOk Try.prog 25 ⟨.struct [(2, 0), (22, 1), (23, 2)], 3, 56, .agg #[.int .i64 0, .slice none 0 0, .slice none 0 0]⟩ := ⟨by kernel_rfl, by kernel_rfl⟩
theorem tok28 : TOk Try.prog 28 ⟨.struct [(2, 0), (22, 1), (23, 2)], 3, 56, .agg #[.int .i64 0, .slice none 0 0, .slice none 0 0]⟩ := ⟨by kernel_rfl, by kernel_rfl⟩
theorem tok32 : TOk Try.prog 32 ⟨.slice 2, 1, 24, .slice none 0 0⟩ := ⟨by kernel_rfl, by kernel_rfl⟩
theorem tok44 : TOk Try.prog 44 ⟨.slice 5, 1, 24, .slice none 0 0⟩ := ⟨by kernel_rfl, by kernel_rfl⟩
theorem tok57 : TOk Try.prog 57 ⟨.other, 1, 8, .pointer none⟩ := ⟨by kernel_rfl, by kernel_rfl⟩
theorem tok59 : TOk Try.prog 59 ⟨.int .u64, 1, 8, .int .u64 0⟩ := ⟨by kernel_rfl, by kernel_rfl⟩
theorem tok72 : TOk Try.prog 72 ⟨.other, 1, 8, .pointer none⟩ := ⟨by kernel_rfl, by kernel_rfl⟩
theorem tok89 : TOk Try.prog 89 ⟨.struct [(44, 0), (3, 1), (59, 2)], 3, 40, .agg #[.slice none 0 0, .int .i64 0, .int .u64 0]⟩ := ⟨by kernel_rfl, by kernel_rfl⟩
theorem tok90 : TOk Try.prog 90 ⟨.struct [(44, 0), (3, 1), (59, 2)], 3, 40, .agg #[.slice none 0 0, .int .i64 0, .int .u64 0]⟩ := ⟨by kernel_rfl, by kernel_rfl⟩
theorem tok91 : TOk Try.prog 91 ⟨.int .u64, 1, 8, .int .u64 0⟩ := ⟨by kernel_rfl, by kernel_rfl⟩
theorem tok97 : TOk Try.prog 97 ⟨.other, 1, 8, .pointer none⟩ := ⟨by kernel_rfl, by kernel_rfl⟩
theorem tok106 : TOk Try.prog 106 ⟨.struct [(44, 0), (3, 1), (2, 2)], 3, 40, .agg #[.slice none 0 0, .int .i64 0, .int .i64 0]⟩ := ⟨by kernel_rfl, by kernel_rfl⟩
theorem tok107 : TOk Try.prog 107 ⟨.struct [(44, 0), (3, 1), (2, 2)], 3, 40, .agg #[.slice none 0 0, .int .i64 0, .int .i64 0]⟩ := ⟨by kernel_rfl, by kernel_rfl⟩
theorem tok108 : TOk Try.prog 108 ⟨.slice 3, 1, 24, .slice none 0 0⟩ := ⟨by kernel_rfl, by kernel_rfl⟩
theorem tok111 : TOk Try.prog 111 ⟨.struct [(17, 0), (17, 1), (17, 2), (9, 3)], 4, 40, .agg #[.pointer none, .pointer none, .pointer none, .string ⟨#[]⟩]⟩ := ⟨by kernel_rfl, by kernel_rfl⟩
theorem tok112 : TOk Try.prog 112 ⟨.struct [(17, 0), (17, 1), (17, 2), (9, 3)], 4, 40, .agg #[.pointer none, .pointer none, .pointer none, .string ⟨#[]⟩]⟩ := ⟨by kernel_rfl, by kernel_rfl⟩
theorem tok117 : TOk Try.prog 117 ⟨.int .u32, 1, 4, .int .u32 0⟩ := ⟨by kernel_rfl, by kernel_rfl⟩
theorem tok118 : TOk Try.prog 118 ⟨.int .u8, 1, 1, .int .u8 0⟩ := ⟨by kernel_rfl, by kernel_rfl⟩
theorem tok119 : TOk Try.prog 119 ⟨.int .u8, 1, 1, .int .u8 0⟩ := ⟨by kernel_rfl, by kernel_rfl⟩
theorem tok121 : TOk Try.prog 121 ⟨.other, 1, 8, .pointer none⟩ := ⟨by kernel_rfl, by kernel_rfl⟩
theorem tok122 : TOk Try.prog 122 ⟨.int .i32, 1, 4, .int .i32 0⟩ := ⟨by kernel_rfl, by kernel_rfl⟩
theorem tok123 : TOk Try.prog 123 ⟨.int .i32, 1, 4, .int .i32 0⟩ := ⟨by kernel_rfl, by kernel_rfl⟩
theorem tok124 : TOk Try.prog 124 ⟨.struct [(12, 0), (12, 1), (117, 2), (118, 3), (5, 4), (5, 5), (119, 6), (120, 7), (121, 8), (122, 9), (123, 10)], 11, 48, .agg #[.int .u64 0, .int .u64 0, .int .u32 0, .int .u8 0, .int .u8 0, .int .u8 0, .int .u8 0, .nilFunc, .pointer none, .int .i32 0, .int .i32 0]⟩ := ⟨by kernel_rfl, by kernel_rfl⟩
theorem tok125 : TOk Try.prog 125 ⟨.struct [(12, 0), (12, 1), (117, 2), (118, 3), (5, 4), (5, 5), (119, 6), (120, 7), (121, 8), (122, 9), (123, 10)], 11, 48, .agg #[.int .u64 0, .int .u64 0, .int .u32 0, .int .u8 0, .int .u8 0, .int .u8 0, .int .u8 0, .nilFunc, .pointer none, .int .i32 0, .int .i32 0]⟩ := ⟨by kernel_rfl, by kernel_rfl⟩
theorem envOk : GOk Try.prog env := by
  intro ty x h
  unfold env at h
  split at h <;> first | (cases h; done) | skip
  · cases h; exact tok2
  · cases h; exact tok3
  · cases h; exact tok4
  · cases h; exact tok5
  · cases h; exact tok6
  · cases h; exact tok7
  · cases h; exact tok8
  · cases h; exact tok9
  · cases h; exact tok10
  · cases h; exact tok11
  · cases h; exact tok12
  · cases h; exact tok13
  · cases h; exact tok14
  · cases h; exact tok15
  · cases h; exact tok16
  · cases h; exact tok17
  · cases h; exact tok18
  · cases h; exact tok19
  · cases h; exact tok21
  · cases h; exact tok22
  · cases h; exact tok23
  · cases h; exact tok24
  · cases h; exact tok25
  · cases h; exact tok28
  · cases h; exact tok32
  · cases h; exact tok44
  · cases h; exact tok57
  · cases h; exact tok59
  · cases h; exact tok72
  · cases h; exact tok89
  · cases h; exact tok90
  · cases h; exact tok91
  · cases h; exact tok97
  · cases h; exact tok106
  · cases h; exact tok107
  · cases h; exact tok108
  · cases h; exact tok111
  · cases h; exact tok112
  · cases h; exact tok117
  · cases h; exact tok118
  · cases h; exact tok119
  · cases h; exact tok121
  · cases h; exact tok122
  · cases h; exact tok123
  · cases h; exact tok124
  · cases h; exact tok125

end Go.Proofs.Ytliojahenpfibaa
