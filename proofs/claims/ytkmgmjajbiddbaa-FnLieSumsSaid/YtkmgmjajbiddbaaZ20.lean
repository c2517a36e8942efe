import Derived.Test.YtkmgmjajbiddbaaZ19
set_option linter.unusedVariables false
set_option linter.unusedSimpArgs false
namespace Go.Proofs.Ytkmgmjajbiddbaa
open Nat (reduceAdd reduceSub reduceGT reduceEqDiff reduceMul)
theorem i4_fl (t : Int × Int × Int × Int) : Fl (i4 t) := .t _ (fun k x hk => by
  match k, hk with
  | 0, hk => cases hk; exact .i _ _
  | 1, hk => cases hk; exact .i _ _
  | 2, hk => cases hk; exact .i _ _
  | 3, hk => cases hk; exact .i _ _)
theorem NR.ts {xs : List AV} (h : ∀ x ∈ xs, NR x) : NR (.t xs) := .t _ (fun k x hk => h x (List.mem_of_getElem? hk))
def LieR (p : Int) (pw : List (List Int)) (br : List (List (List Int))) : Prop := shapeP p pw br ∧ isFault p pw br (0, 0, 0, 0)
theorem Flt.zero {n : Nat} {P : Nat → Nat → Prop} {J : Nat → Nat → Nat → Prop} {t : Int × Int × Int × Int} (h : Flt n P J t) : t.1 = 0 ↔ Flt n P J (0, 0, 0, 0) := by
  constructor
  · intro h0
    rcases h with ⟨a, b, rfl, _⟩ | ⟨hn, ⟨a, b, c, rfl, _⟩ | ⟨rfl, hz⟩⟩
    · simp at h0
    · simp at h0
    · exact .inr ⟨hn, .inr ⟨rfl, hz⟩⟩
  · intro h0
    rw [h.uniq h0]
theorem spec_IsLieRing_ok (p : Int) (pw : List (List Int)) (br : List (List (List Int))) (hl : ringlen pw br) : ACp Try.prog 31 [ring p pw br] (.b (tf (LieR p pw br))) := by
 obtain ⟨t, ht⟩ := Flt.ex pw.length (pf p pw br) (jf p pw br)
 refine ACp.intro' envOk Try.func31 rfl (by kernel_rfl) Try.ntmps31 Try.results31 (.b _) (fun nx => ?_)
 refine AW.sr envOk (fun N hN => ?_)
 simp -dsimp -implicitDefEqProofs (disch := omega) only [go_sem, undef, reduceAdd, reduceSub, reduceGT, reduceEqDiff, reduceMul, ring, rows, cubes, i4]
 refine hN _ ?_
 try clear hN N
 refine AW.seq (fun N1 hN1 => ?_)
 refine AW.sr envOk (fun N hN => ?_)
 simp -dsimp -implicitDefEqProofs (disch := omega) only [go_sem, undef, reduceAdd, reduceSub, reduceGT, reduceEqDiff, reduceMul, ring, rows, cubes, i4]
 refine AC.pure (.of (spec_IsLieShape_ok p pw br hl)) ?_
 try simp -dsimp -implicitDefEqProofs (disch := omega) only [go_sem, undef, reduceAdd, reduceSub, reduceGT, reduceEqDiff, reduceMul, ring, rows, cubes, i4]
 refine hN _ ?_
 try clear hN N
 refine AW.cond rfl (fun h1 => ?_) (fun h1 => ?_)
 ·try simp only [cn] at h1
  refine AW.sr envOk (fun N hN => ?_)
  simp -dsimp -implicitDefEqProofs (disch := omega) only [go_sem, undef, reduceAdd, reduceSub, reduceGT, reduceEqDiff, reduceMul, ring, rows, cubes, i4]
  refine hN _ ?_
  try clear hN N
  refine AW.ret ?_
  simp -dsimp -implicitDefEqProofs (disch := omega) only [go_sem, undef, reduceAdd, reduceSub, reduceGT, reduceEqDiff, reduceMul]
  exact bt (tf_f (fun h => h1 h.1)).symm
 ·try simp only [cn] at h1
  refine AW.skip ?_
  simp only [thn, blk]
  refine hN1 _ ?_
  try clear hN1 N1
  refine AW.sr envOk (fun N hN => ?_)
  simp -dsimp -implicitDefEqProofs (disch := omega) only [go_sem, undef, reduceAdd, reduceSub, reduceGT, reduceEqDiff, reduceMul, ring, rows, cubes, i4]
  refine AC.pure (.of (spec_l31Fault_ok p pw br h1.sh t ht)) ?_
  try simp -dsimp -implicitDefEqProofs (disch := omega) only [go_sem, undef, reduceAdd, reduceSub, reduceGT, reduceEqDiff, reduceMul, ring, rows, cubes, i4]
  refine hN _ ?_
  try clear hN N
  refine AW.sr envOk (fun N hN => ?_)
  simp -dsimp -implicitDefEqProofs (disch := omega) only [go_sem, undef, reduceAdd, reduceSub, reduceGT, reduceEqDiff, reduceMul, ring, rows, cubes, i4]
  refine hN _ ?_
  try clear hN N
  refine AW.ret ?_
  simp -dsimp -implicitDefEqProofs (disch := omega) only [go_sem, undef, reduceAdd, reduceSub, reduceGT, reduceEqDiff, reduceMul]
  refine bt ?_
  rw [Bool.eq_iff_iff, tf_iff, beq_iff_eq]
  exact ⟨fun h => ⟨h1, ht.zero.1 h⟩, fun h => ht.zero.2 h.2⟩
theorem impl_IsLieRing_ok (p : Int) (pw : List (List Int)) (br : List (List (List Int))) (hl : ringlen pw br) : ACp Try.prog 35 [ring p pw br] (.b (tf (LieR p pw br))) := by
 obtain ⟨t, ht⟩ := Flt.ex pw.length (pf p pw br) (jf p pw br)
 refine ACp.intro' envOk Try.func35 rfl (by kernel_rfl) Try.ntmps35 Try.results35 (.b _) (fun nx => ?_)
 refine AW.sr envOk (fun N hN => ?_)
 simp -dsimp -implicitDefEqProofs (disch := omega) only [go_sem, undef, reduceAdd, reduceSub, reduceGT, reduceEqDiff, reduceMul, ring, rows, cubes, i4]
 refine hN _ ?_
 try clear hN N
 refine AW.seq (fun N1 hN1 => ?_)
 refine AW.sr envOk (fun N hN => ?_)
 simp -dsimp -implicitDefEqProofs (disch := omega) only [go_sem, undef, reduceAdd, reduceSub, reduceGT, reduceEqDiff, reduceMul, ring, rows, cubes, i4]
 refine AC.pure (.of (impl_IsLieShape_ok p pw br hl)) ?_
 try simp -dsimp -implicitDefEqProofs (disch := omega) only [go_sem, undef, reduceAdd, reduceSub, reduceGT, reduceEqDiff, reduceMul, ring, rows, cubes, i4]
 refine hN _ ?_
 try clear hN N
 refine AW.cond rfl (fun h1 => ?_) (fun h1 => ?_)
 ·try simp only [cn] at h1
  refine AW.sr envOk (fun N hN => ?_)
  simp -dsimp -implicitDefEqProofs (disch := omega) only [go_sem, undef, reduceAdd, reduceSub, reduceGT, reduceEqDiff, reduceMul, ring, rows, cubes, i4]
  refine hN _ ?_
  try clear hN N
  refine AW.ret ?_
  simp -dsimp -implicitDefEqProofs (disch := omega) only [go_sem, undef, reduceAdd, reduceSub, reduceGT, reduceEqDiff, reduceMul]
  exact bt (tf_f (fun h => h1 h.1)).symm
 ·try simp only [cn] at h1
  refine AW.skip ?_
  simp only [thn, blk]
  refine hN1 _ ?_
  try clear hN1 N1
  refine AW.sr envOk (fun N hN => ?_)
  simp -dsimp -implicitDefEqProofs (disch := omega) only [go_sem, undef, reduceAdd, reduceSub, reduceGT, reduceEqDiff, reduceMul, ring, rows, cubes, i4]
  refine AC.pure (.lent (impl_lieFault_ok p pw br h1.sh t ht) (.cons (Vw.q' (upd_same _ _ _)) .nil) (i4_fl t)) ?_
  try simp -dsimp -implicitDefEqProofs (disch := omega) only [go_sem, undef, reduceAdd, reduceSub, reduceGT, reduceEqDiff, reduceMul, ring, rows, cubes, i4]
  refine hN _ ?_
  try clear hN N
  refine AW.sr envOk (fun N hN => ?_)
  simp -dsimp -implicitDefEqProofs (disch := omega) only [go_sem, undef, reduceAdd, reduceSub, reduceGT, reduceEqDiff, reduceMul, ring, rows, cubes, i4]
  refine hN _ ?_
  try clear hN N
  refine AW.ret ?_
  simp -dsimp -implicitDefEqProofs (disch := omega) only [go_sem, undef, reduceAdd, reduceSub, reduceGT, reduceEqDiff, reduceMul]
  refine bt ?_
  rw [Bool.eq_iff_iff, tf_iff, beq_iff_eq]
  exact ⟨fun h => ⟨h1, ht.zero.1 h⟩, fun h => ht.zero.2 h.2⟩
def in2 (b : Bool) (m e : Int) : Int × Int := match b with
  | true => (m, 0)
  | false => (0, e)
def inR (b : Bool) (m e : Int) : AV := .t [.i .i64 (in2 b m e).1, .i .i64 (in2 b m e).2]
theorem inR_nr (b : Bool) (m e : Int) : NR (inR b m e) := by
  refine NR.ts (fun x hx => ?_)
  simp at hx
  rcases hx with rfl | rfl <;> exact .i _ _
theorem impl_LieOrder_ok (p : Int) (pw : List (List Int)) (br : List (List (List Int))) (hl : ringlen pw br) : ACp Try.prog 26 [ring p pw br] (inR (tf (LieR p pw br)) (p ^ pw.length) 1) := by
 refine ACp.intro' envOk Try.func26 rfl (by kernel_rfl) Try.ntmps26 Try.results26 (inR_nr _ _ _) (fun nx => ?_)
 refine AW.sr envOk (fun N hN => ?_)
 simp -dsimp -implicitDefEqProofs (disch := omega) only [go_sem, undef, reduceAdd, reduceSub, reduceGT, reduceEqDiff, reduceMul, ring, rows, cubes]
 refine hN _ ?_
 try clear hN N
 refine AW.seq (fun N1 hN1 => ?_)
 refine AW.sr envOk (fun N hN => ?_)
 simp -dsimp -implicitDefEqProofs (disch := omega) only [go_sem, undef, reduceAdd, reduceSub, reduceGT, reduceEqDiff, reduceMul, ring, rows, cubes]
 refine AC.pure (.of (impl_IsLieRing_ok p pw br hl)) ?_
 try simp -dsimp -implicitDefEqProofs (disch := omega) only [go_sem, undef, reduceAdd, reduceSub, reduceGT, reduceEqDiff, reduceMul, ring, rows, cubes]
 refine hN _ ?_
 try clear hN N
 refine AW.cond rfl (fun h1 => ?_) (fun h1 => ?_)
 ·try simp only [cn] at h1
  refine AW.sr envOk (fun N hN => ?_)
  simp -dsimp -implicitDefEqProofs (disch := omega) only [go_sem, undef, reduceAdd, reduceSub, reduceGT, reduceEqDiff, reduceMul, ring, rows, cubes]
  refine hN _ ?_
  try clear hN N
  refine AW.ret ?_
  simp -dsimp -implicitDefEqProofs (disch := omega) only [go_sem, undef, reduceAdd, reduceSub, reduceGT, reduceEqDiff, reduceMul]
  rw [tf_f h1]; rfl
 ·try simp only [cn] at h1
  refine AW.skip ?_
  simp only [thn, blk]
  refine hN1 _ ?_
  try clear hN1 N1
  refine AW.sr envOk (fun N hN => ?_)
  simp -dsimp -implicitDefEqProofs (disch := omega) only [go_sem, undef, reduceAdd, reduceSub, reduceGT, reduceEqDiff, reduceMul, ring, rows, cubes]
  refine AC.pure (.of (impl_integerPower_ok p pw.length h1.1.1 (by have := h1.1.2.1; omega))) ?_
  try simp -dsimp -implicitDefEqProofs (disch := omega) only [go_sem, undef, reduceAdd, reduceSub, reduceGT, reduceEqDiff, reduceMul, ring, rows, cubes]
  refine hN _ ?_
  try clear hN N
  refine AW.ret ?_
  simp -dsimp -implicitDefEqProofs (disch := omega) only [go_sem, undef, reduceAdd, reduceSub, reduceGT, reduceEqDiff, reduceMul]
  rw [tf_t h1]
  rfl
end Go.Proofs.Ytkmgmjajbiddbaa
