/-
  The types of this seat's program, as far as the own layer asks of them. Printed by a program of our own out of the seat's translation.
-/
import Derived.Test.YtbhlindlcfeppaaProg
import Derived.Test.YtbhlindlcfeppaaAvP
import Derived.KernelRfl
set_option linter.unusedVariables false
namespace Go.Proofs.Ytbhlindlcfeppaa

def env : TEnv := fun t => match t with
  | 2 => some ⟨.int .i64, 1, 8, .int .i64 0⟩
  | 3 => some ⟨.int .i64, 1, 8, .int .i64 0⟩
  | 4 => some ⟨.bool, 1, 1, .bool false⟩
  | 5 => some ⟨.int .u8, 1, 1, .int .u8 0⟩
  | 6 => some ⟨.int .u8, 1, 1, .int .u8 0⟩
  | 7 => some ⟨.struct [(2, 0), (3, 1), (4, 2), (6, 3)], 4, 24, .agg #[.int .i64 0, .int .i64 0, .bool false, .int .u8 0]⟩
  | 8 => some ⟨.struct [(2, 0), (3, 1), (4, 2), (6, 3)], 4, 24, .agg #[.int .i64 0, .int .i64 0, .bool false, .int .u8 0]⟩
  | 9 => some ⟨.str, 1, 16, .string ⟨#[]⟩⟩
  | 10 => some ⟨.str, 1, 16, .string ⟨#[]⟩⟩
  | 11 => some ⟨.str, 1, 16, .string ⟨#[]⟩⟩
  | 12 => some ⟨.int .u64, 1, 8, .int .u64 0⟩
  | 13 => some ⟨.struct [(9, 0), (12, 1)], 2, 24, .agg #[.string ⟨#[]⟩, .int .u64 0]⟩
  | 14 => some ⟨.struct [(9, 0), (12, 1)], 2, 24, .agg #[.string ⟨#[]⟩, .int .u64 0]⟩
  | 15 => some ⟨.other, 1, 8, .pointer none⟩
  | 16 => some ⟨.other, 1, 8, .pointer none⟩
  | 17 => some ⟨.other, 1, 8, .pointer none⟩
  | 18 => some ⟨.struct [(17, 0)], 1, 8, .agg #[.pointer none]⟩
  | 19 => some ⟨.struct [(17, 0)], 1, 8, .agg #[.pointer none]⟩
  | 21 => some ⟨.int .i32, 1, 4, .int .i32 0⟩
  | 22 => some ⟨.slice 49, 1, 24, .slice none 0 0⟩
  | 23 => some ⟨.slice 22, 1, 24, .slice none 0 0⟩
  | 24 => some ⟨.struct [(2, 0), (22, 1), (23, 2)], 3, 56, .agg #[.int .i64 0, .slice none 0 0, .slice none 0 0]⟩
  | 25 => some ⟨.struct [(2, 0), (22, 1), (23, 2)], 3, 56, .agg #[.int .i64 0, .slice none 0 0, .slice none 0 0]⟩
  | 29 => some ⟨.struct [(2, 0), (22, 1), (23, 2)], 3, 56, .agg #[.int .i64 0, .slice none 0 0, .slice none 0 0]⟩
  | 49 => some ⟨.slice 2, 1, 24, .slice none 0 0⟩
  | 57 => some ⟨.slice 5, 1, 24, .slice none 0 0⟩
  | 76 => some ⟨.other, 1, 8, .pointer none⟩
  | 93 => some ⟨.slice 3, 1, 24, .slice none 0 0⟩
  | 111 => some ⟨.other, 1, 8, .pointer none⟩
  | 136 => some ⟨.struct [(57, 0), (3, 1), (2, 2)], 3, 40, .agg #[.slice none 0 0, .int .i64 0, .int .i64 0]⟩
  | 137 => some ⟨.struct [(57, 0), (3, 1), (2, 2)], 3, 40, .agg #[.slice none 0 0, .int .i64 0, .int .i64 0]⟩
  | 148 => some ⟨.struct [(17, 0), (17, 1), (17, 2), (9, 3)], 4, 40, .agg #[.pointer none, .pointer none, .pointer none, .string ⟨#[]⟩]⟩
  | 149 => some ⟨.struct [(17, 0), (17, 1), (17, 2), (9, 3)], 4, 40, .agg #[.pointer none, .pointer none, .pointer none, .string ⟨#[]⟩]⟩
  | 154 => some ⟨.int .u32, 1, 4, .int .u32 0⟩
  | 155 => some ⟨.int .u8, 1, 1, .int .u8 0⟩
  | 156 => some ⟨.int .u8, 1, 1, .int .u8 0⟩
  | 158 => some ⟨.other, 1, 8, .pointer none⟩
  | 159 => some ⟨.int .i32, 1, 4, .int .i32 0⟩
  | 160 => some ⟨.int .i32, 1, 4, .int .i32 0⟩
  | 161 => some ⟨.struct [(12, 0), (12, 1), (154, 2), (155, 3), (5, 4), (5, 5), (156, 6), (157, 7), (158, 8), (159, 9), (160, 10)], 11, 48, .agg #[.int .u64 0, .int .u64 0, .int .u32 0, .int .u8 0, .int .u8 0, .int .u8 0, .int .u8 0, .nilFunc, .pointer none, .int .i32 0, .int .i32 0]⟩
  | 162 => some ⟨.struct [(12, 0), (12, 1), (154, 2), (155, 3), (5, 4), (5, 5), (156, 6), (157, 7), (158, 8), (159, 9), (160, 10)], 11, 48, .agg #[.int .u64 0, .int .u64 0, .int .u32 0, .int .u8 0, .int .u8 0, .int .u8 0, .int .u8 0, .nilFunc, .pointer none, .int .i32 0, .int .i32 0]⟩
  | _ => none
theorem env2 : env 2 = some ⟨.int .i64, 1, 8, .int .i64 0⟩ := Eq.trans rfl rfl
theorem env3 : env 3 = some ⟨.int .i64, 1, 8, .int .i64 0⟩ := Eq.trans rfl rfl
theorem env4 : env 4 = some ⟨.bool, 1, 1, .bool false⟩ := Eq.trans rfl rfl
theorem env5 : env 5 = some ⟨.int .u8, 1, 1, .int .u8 0⟩ := Eq.trans rfl rfl
theorem env6 : env 6 = some ⟨.int .u8, 1, 1, .int .u8 0⟩ := Eq.trans rfl rfl
theorem env7 : env 7 = some ⟨.struct [(2, 0), (3, 1), (4, 2), (6, 3)], 4, 24, .agg #[.int .i64 0, .int .i64 0, .bool false, .int .u8 0]⟩ := Eq.trans rfl rfl
theorem env8 : env 8 = some ⟨.struct [(2, 0), (3, 1), (4, 2), (6, 3)], 4, 24, .agg #[.int .i64 0, .int .i64 0, .bool false, .int .u8 0]⟩ := Eq.trans rfl rfl
theorem env9 : env 9 = some ⟨.str, 1, 16, .string ⟨#[]⟩⟩ := Eq.trans rfl rfl
theorem env10 : env 10 = some ⟨.str, 1, 16, .string ⟨#[]⟩⟩ := Eq.trans rfl rfl
theorem env11 : env 11 = some ⟨.str, 1, 16, .string ⟨#[]⟩⟩ := Eq.trans rfl rfl
theorem env12 : env 12 = some ⟨.int .u64, 1, 8, .int .u64 0⟩ := Eq.trans rfl rfl
theorem env13 : env 13 = some ⟨.struct [(9, 0), (12, 1)], 2, 24, .agg #[.string ⟨#[]⟩, .int .u64 0]⟩ := Eq.trans rfl rfl
theorem env14 : env 14 = some ⟨.struct [(9, 0), (12, 1)], 2, 24, .agg #[.string ⟨#[]⟩, .int .u64 0]⟩ := Eq.trans rfl rfl
theorem env15 : env 15 = some ⟨.other, 1, 8, .pointer none⟩ := Eq.trans rfl rfl
theorem env16 : env 16 = some ⟨.other, 1, 8, .pointer none⟩ := Eq.trans rfl rfl
theorem env17 : env 17 = some ⟨.other, 1, 8, .pointer none⟩ := Eq.trans rfl rfl
theorem env18 : env 18 = some ⟨.struct [(17, 0)], 1, 8, .agg #[.pointer none]⟩ := Eq.trans rfl rfl
theorem env19 : env 19 = some ⟨.struct [(17, 0)], 1, 8, .agg #[.pointer none]⟩ := Eq.trans rfl rfl
theorem env21 : env 21 = some ⟨.int .i32, 1, 4, .int .i32 0⟩ := Eq.trans rfl rfl
theorem env22 : env 22 = some ⟨.slice 49, 1, 24, .slice none 0 0⟩ := Eq.trans rfl rfl
theorem env23 : env 23 = some ⟨.slice 22, 1, 24, .slice none 0 0⟩ := Eq.trans rfl rfl
theorem env24 : env 24 = some ⟨.struct [(2, 0), (22, 1), (23, 2)], 3, 56, .agg #[.int .i64 0, .slice none 0 0, .slice none 0 0]⟩ := Eq.trans rfl rfl
theorem env25 : env 25 = some ⟨.struct [(2, 0), (22, 1), (23, 2)], 3, 56, .agg #[.int .i64 0, .slice none 0 0, .slice none 0 0]⟩ := Eq.trans rfl rfl
theorem env29 : env 29 = some ⟨.struct [(2, 0), (22, 1), (23, 2)], 3, 56, .agg #[.int .i64 0, .slice none 0 0, .slice none 0 0]⟩ := Eq.trans rfl rfl
theorem env49 : env 49 = some ⟨.slice 2, 1, 24, .slice none 0 0⟩ := Eq.trans rfl rfl
theorem env57 : env 57 = some ⟨.slice 5, 1, 24, .slice none 0 0⟩ := Eq.trans rfl rfl
theorem env76 : env 76 = some ⟨.other, 1, 8, .pointer none⟩ := Eq.trans rfl rfl
theorem env93 : env 93 = some ⟨.slice 3, 1, 24, .slice none 0 0⟩ := Eq.trans rfl rfl
theorem env111 : env 111 = some ⟨.other, 1, 8, .pointer none⟩ := Eq.trans rfl rfl
theorem env136 : env 136 = some ⟨.struct [(57, 0), (3, 1), (2, 2)], 3, 40, .agg #[.slice none 0 0, .int .i64 0, .int .i64 0]⟩ := Eq.trans rfl rfl
theorem env137 : env 137 = some ⟨.struct [(57, 0), (3, 1), (2, 2)], 3, 40, .agg #[.slice none 0 0, .int .i64 0, .int .i64 0]⟩ := Eq.trans rfl rfl
theorem env148 : env 148 = some ⟨.struct [(17, 0), (17, 1), (17, 2), (9, 3)], 4, 40, .agg #[.pointer none, .pointer none, .pointer none, .string ⟨#[]⟩]⟩ := Eq.trans rfl rfl
theorem env149 : env 149 = some ⟨.struct [(17, 0), (17, 1), (17, 2), (9, 3)], 4, 40, .agg #[.pointer none, .pointer none, .pointer none, .string ⟨#[]⟩]⟩ := Eq.trans rfl rfl
theorem env154 : env 154 = some ⟨.int .u32, 1, 4, .int .u32 0⟩ := Eq.trans rfl rfl
theorem env155 : env 155 = some ⟨.int .u8, 1, 1, .int .u8 0⟩ := Eq.trans rfl rfl
theorem env156 : env 156 = some ⟨.int .u8, 1, 1, .int .u8 0⟩ := Eq.trans rfl rfl
theorem env158 : env 158 = some ⟨.other, 1, 8, .pointer none⟩ := Eq.trans rfl rfl
theorem env159 : env 159 = some ⟨.int .i32, 1, 4, .int .i32 0⟩ := Eq.trans rfl rfl
theorem env160 : env 160 = some ⟨.int .i32, 1, 4, .int .i32 0⟩ := Eq.trans rfl rfl
theorem env161 : env 161 = some ⟨.struct [(12, 0), (12, 1), (154, 2), (155, 3), (5, 4), (5, 5), (156, 6), (157, 7), (158, 8), (159, 9), (160, 10)], 11, 48, .agg #[.int .u64 0, .int .u64 0, .int .u32 0, .int .u8 0, .int .u8 0, .int .u8 0, .int .u8 0, .nilFunc, .pointer none, .int .i32 0, .int .i32 0]⟩ := Eq.trans rfl rfl
theorem env162 : env 162 = some ⟨.struct [(12, 0), (12, 1), (154, 2), (155, 3), (5, 4), (5, 5), (156, 6), (157, 7), (158, 8), (159, 9), (160, 10)], 11, 48, .agg #[.int .u64 0, .int .u64 0, .int .u32 0, .int .u8 0, .int .u8 0, .int .u8 0, .int .u8 0, .nilFunc, .pointer none, .int .i32 0, .int .i32 0]⟩ := Eq.trans rfl rfl
attribute [go_sem] env2 env3 env4 env5 env6 env7 env8 env9 env10 env11 env12 env13 env14 env15 env16 env17 env18 env19 env21 env22 env23 env24 env25 env29 env49 env57 env76 env93 env111 env136 env137 env148 env149 env154 env155 env156 env158 env159 env160 env161 env162
theorem tok2 : TOk Try.prog 2 ⟨.int .i64, 1, 8, .int .i64 0⟩ := ⟨by kernel_rfl, by kernel_rfl⟩
theorem tok3 : TOk Try.prog 3 ⟨.int .i64, 1, 8, .int .i64 0⟩ := ⟨by kernel_rfl, by kernel_rfl⟩
theorem tok4 : TOk Try.prog 4 ⟨.bool, 1, 1, .bool false⟩ := ⟨by kernel_rfl, by kernel_rfl⟩
theorem tok5 : TOk Try.prog 5 ⟨.int .u8, 1, 1, .int .u8 0⟩ := ⟨by kernel_rfl, by kernel_rfl⟩
theorem tok6 : TOk Try.prog 6 ⟨.int .u8, 1, 1, .int .u8 0⟩ := ⟨by kernel_rfl, by kernel_rfl⟩
theorem tok7 : TOk Try.prog 7 ⟨.struct [(2, 0), (3, 1), (4, 2), (6, 3)], 4, 24, .agg #[.int .i64 0, .int .i64 0, .bool false, .int .u8 0]⟩ := ⟨by kernel_rfl, by kernel_rfl⟩
theorem tok8 : TOk Try.prog 8 ⟨.struct [(2, 0), (3, 1), (4, 2), (6, 3)], 4, 24, .agg #[.int .i64 0, .int .i64 0, .bool false, .int .u8 0]⟩ := ⟨by kernel_rfl, by kernel_rfl⟩
theorem tok9 : TOk Try.prog 9 ⟨.str, 1, 16, .string ⟨#[]⟩⟩ := ⟨by kernel_rfl, by kernel_rfl⟩
theorem tok10 : TOk Try.prog 10 ⟨.str, 1, 16, .string ⟨#[]⟩⟩ := ⟨by kernel_rfl, by kernel_rfl⟩
theorem tok11 : TOk Try.prog 11 ⟨.str, 1, 16, .string ⟨#[]⟩⟩ := ⟨by kernel_rfl, by kernel_rfl⟩
theorem tok12 : TOk Try.prog 12 ⟨.int .u64, 1, 8, .int .u64 0⟩ := ⟨by kernel_rfl, by kernel_rfl⟩
theorem tok13 : TOk Try.prog 13 ⟨.struct [(9, 0), (12, 1)], 2, 24, .agg #[.string ⟨#[]⟩, .int .u64 0]⟩ := ⟨by kernel_rfl, by kernel_rfl⟩
theorem tok14 : TOk Try.prog 14 ⟨.struct [(9, 0), (12, 1)], 2, 24, .agg #[.string ⟨#[]⟩, .int .u64 0]⟩ := ⟨by kernel_rfl, by kernel_rfl⟩
theorem tok15 : TOk Try.prog 15 ⟨.other, 1, 8, .pointer none⟩ := ⟨by kernel_rfl, by kernel_rfl⟩
theorem tok16 : TOk Try.prog 16 ⟨.other, 1, 8, .pointer none⟩ := ⟨by kernel_rfl, by kernel_rfl⟩
theorem tok17 : TOk Try.prog 17 ⟨.other, 1, 8, .pointer none⟩ := ⟨by kernel_rfl, by kernel_rfl⟩
theorem tok18 : TOk Try.prog 18 ⟨.struct [(17, 0)], 1, 8, .agg #[.pointer none]⟩ := ⟨by kernel_rfl, by kernel_rfl⟩
theorem tok19 : TOk Try.prog 19 ⟨.struct [(17, 0)], 1, 8, .agg #[.pointer none]⟩ := ⟨by kernel_rfl, by kernel_rfl⟩
theorem tok21 : TOk Try.prog 21 ⟨.int .i32, 1, 4, .int .i32 0⟩ := ⟨by kernel_rfl, by kernel_rfl⟩
theorem tok22 : TOk Try.prog 22 ⟨.slice 49, 1, 24, .slice none 0 0⟩ := ⟨by kernel_rfl, by kernel_rfl⟩
theorem tok23 : TOk Try.prog 23 ⟨.slice 22, 1, 24, .slice none 0 0⟩ := ⟨by kernel_rfl, by kernel_rfl⟩
theorem tok24 : TOk Try.prog 24 ⟨.struct [(2, 0), (22, 1), (23, 2)], 3, 56, .agg #[.int .i64 0, .slice none 0 0, .slice none 0 0]⟩ := ⟨by kernel_rfl, by kernel_rfl⟩
theorem tok25 : TOk Try.prog 25 ⟨.struct [(2, 0), (22, 1), (23, 2)], 3, 56, .agg #[.int .i64 0, .slice none 0 0, .slice none 0 0]⟩ := ⟨by kernel_rfl, by kernel_rfl⟩
theorem tok29 : TOk Try.prog 29 ⟨.struct [(2, 0), (22, 1), (23, 2)], 3, 56, .agg #[.int .i64 0, .slice none 0 0, .slice none 0 0]⟩ := ⟨by kernel_rfl, by kernel_rfl⟩
theorem tok49 : TOk Try.prog 49 ⟨.slice 2, 1, 24, .slice none 0 0⟩ := ⟨by kernel_rfl, by kernel_rfl⟩
theorem tok57 : TOk Try.prog 57 ⟨.slice 5, 1, 24, .slice none 0 0⟩ := ⟨by kernel_rfl, by kernel_rfl⟩
theorem tok76 : TOk Try.prog 76 ⟨.other, 1, 8, .pointer none⟩ := ⟨by kernel_rfl, by kernel_rfl⟩
theorem tok93 : TOk Try.prog 93 ⟨.slice 3, 1, 24, .slice none 0 0⟩ := ⟨by kernel_rfl, by kernel_rfl⟩
theorem tok111 : TOk Try.prog 111 ⟨.other, 1, 8, .pointer none⟩ := ⟨by kernel_rfl, by kernel_rfl⟩
theorem tok136 : TOk Try.prog 136 ⟨.struct [(57, 0), (3, 1), (2, 2)], 3, 40, .agg #[.slice none 0 0, .int .i64 0, .int .i64 0]⟩ := ⟨by kernel_rfl, by kernel_rfl⟩
theorem tok137 : TOk Try.prog 137 ⟨.struct [(57, 0), (3, 1), (2, 2)], 3, 40, .agg #[.slice none 0 0, .int .i64 0, .int .i64 0]⟩ := ⟨by kernel_rfl, by kernel_rfl⟩
theorem tok148 : TOk Try.prog 148 ⟨.struct [(17, 0), (17, 1), (17, 2), (9, 3)], 4, 40, .agg #[.pointer none, .pointer none, .pointer none, .string ⟨#[]⟩]⟩ := ⟨by kernel_rfl, by kernel_rfl⟩
theorem tok149 : TOk Try.prog 149 ⟨.struct [(17, 0), (17, 1), (17, 2), (9, 3)], 4, 40, .agg #[.pointer none, .pointer none, .pointer none, .string ⟨#[]⟩]⟩ := ⟨by kernel_rfl, by kernel_rfl⟩
theorem tok154 : TOk Try.prog 154 ⟨.int .u32, 1, 4, .int .u32 0⟩ := ⟨by kernel_rfl, by kernel_rfl⟩
theorem tok155 : TOk Try.prog 155 ⟨.int .u8, 1, 1, .int .u8 0⟩ := ⟨by kernel_rfl, by kernel_rfl⟩
theorem tok156 : TOk Try.prog 156 ⟨.int .u8, 1, 1, .int .u8 0⟩ := ⟨by kernel_rfl, by kernel_rfl⟩
theorem tok158 : TOk Try.prog 158 ⟨.other, 1, 8, .pointer none⟩ := ⟨by kernel_rfl, by kernel_rfl⟩
theorem tok159 : TOk Try.prog 159 ⟨.int .i32, 1, 4, .int .i32 0⟩ := ⟨by kernel_rfl, by kernel_rfl⟩
theorem tok160 : TOk Try.prog 160 ⟨.int .i32, 1, 4, .int .i32 0⟩ := ⟨by kernel_rfl, by kernel_rfl⟩
theorem tok161 : TOk Try.prog 161 ⟨.struct [(12, 0), (12, 1), (154, 2), (155, 3), (5, 4), (5, 5), (156, 6), (157, 7), (158, 8), (159, 9), (160, 10)], 11, 48, .agg #[.int .u64 0, .int .u64 0, .int .u32 0, .int .u8 0, .int .u8 0, .int .u8 0, .int .u8 0, .nilFunc, .pointer none, .int .i32 0, .int .i32 0]⟩ := ⟨by kernel_rfl, by kernel_rfl⟩
theorem tok162 : TOk Try.prog 162 ⟨.struct [(12, 0), (12, 1), (154, 2), (155, 3), (5, 4), (5, 5), (156, 6), (157, 7), (158, 8), (159, 9), (160, 10)], 11, 48, .agg #[.int .u64 0, .int .u64 0, .int .u32 0, .int .u8 0, .int .u8 0, .int .u8 0, .int .u8 0, .nilFunc, .pointer none, .int .i32 0, .int .i32 0]⟩ := ⟨by kernel_rfl, by kernel_rfl⟩
theorem envOk : GOk Try.prog env := by
  intro ty x h
  unfold env at h
  split at h <;> first | (cases h; done) | skip
  · cases h; exact tok2
  · cases h; exact tok3
  · cases h; exact tok4
  · cases h; exact tok5
  · cases h; exact tok6
  · cases h; exact tok7
  · cases h; exact tok8
  · cases h; exact tok9
  · cases h; exact tok10
  · cases h; exact tok11
  · cases h; exact tok12
  · cases h; exact tok13
  · cases h; exact tok14
  · cases h; exact tok15
  · cases h; exact tok16
  · cases h; exact tok17
  · cases h; exact tok18
  · cases h; exact tok19
  · cases h; exact tok21
  · cases h; exact tok22
  · cases h; exact tok23
  · cases h; exact tok24
  · cases h; exact tok25
  · cases h; exact tok29
  · cases h; exact tok49
  · cases h; exact tok57
  · cases h; exact tok76
  · cases h; exact tok93
  · cases h; exact tok111
  · cases h; exact tok136
  · cases h; exact tok137
  · cases h; exact tok148
  · cases h; exact tok149
  · cases h; exact tok154
  · cases h; exact tok155
  · cases h; exact tok156
  · cases h; exact tok158
  · cases h; exact tok159
  · cases h; exact tok160
  · cases h; exact tok161
  · cases h; exact tok162

end Go.Proofs.Ytbhlindlcfeppaa
