import Derived.Test.YtnlfbimjcabgiaaZ12
import Derived.Test.YtnlfbimjcabgiaaZ29
set_option linter.unusedVariables false
set_option linter.unusedSimpArgs false
namespace Go.Proofs.Ytnlfbimjcabgiaa
open Nat (reduceAdd reduceSub reduceGT reduceEqDiff reduceMul)
theorem impl_consistentFrom_ok (os : List Int) (pw : List (List Int)) (cj : List (List (List Int))) (h : presOk os pw cj) (nx : Nat) (H : HP) : AC Try.prog 83 nx H [prsP os pw cj] (fun _ H' r => H = H' ∧ ∃ x : Nat, r = .i .i64 x ∧ (x = 0 ↔ Con (pc os pw cj) 0)) := by
 have hv := h.val
 have hn6 := h.1.1
 refine AC.introx envOk Try.func83 rfl (by kernel_rfl) Try.ntmps83 Try.results83 (fun hfr => ?_)
 refine AW.sr envOk (fun N hN => ?_)
 simp -dsimp -implicitDefEqProofs (disch := omega) only [go_sem, undef, reduceAdd, reduceSub, reduceGT, reduceEqDiff, reduceMul, prsP, ints, rows, cubes, w64]
 refine hN _ ?_
 try clear hN N
 refine AW.sr envOk (fun N hN => ?_)
 simp -dsimp -implicitDefEqProofs (disch := omega) only [go_sem, undef, reduceAdd, reduceSub, reduceGT, reduceEqDiff, reduceMul, prsP, ints, rows, cubes, w64]
 refine hN _ ?_
 try clear hN N
 refine AW.seq (fun N1 hN1 => ?_)
 refine AW.block ?_
 refine AW.loopN (α := Nat) (fun x => sl 22 [(0, prsP os pw cj), (3, .i .i64 x)]) (fun _ => H) (fun x m => x ≤ os.length ∧ Con (pc os pw cj) x) (fun x => x) (os.length) ?_ ?_ (fun _ _ h => h) ?_
 ·exact ⟨Nat.le_refl _, fun i h1 h2 => absurd h2 (by have : (pc os pw cj).n = os.length := rfl; omega)⟩
 ·simp (disch := omega) [wks, wkA, sl, prsP, ints, rows, cubes]
 ·skip
  rintro x m ⟨hx, hI⟩
  simp only [prsP]
  simp -dsimp -implicitDefEqProofs (disch := omega) only [go_sem, undef, reduceAdd, reduceSub, reduceGT, reduceEqDiff, reduceMul]
  refine AW.seq (fun N2 hN2 => ?_)
  refine AW.sr envOk (fun N hN => ?_)
  simp -dsimp -implicitDefEqProofs (disch := omega) only [go_sem, undef, reduceAdd, reduceSub, reduceGT, reduceEqDiff, reduceMul, prsP, ints, rows, cubes, w64]
  refine gopB.mk' (fun h1 => ?_) (fun h1 => ?_)
  ·try simp only [cn] at h1
   obtain ⟨i, rfl⟩ : ∃ i, x = i + 1 := ⟨x - 1, by omega⟩
   try simp -dsimp -implicitDefEqProofs (disch := omega) only [go_sem, undef, reduceAdd, reduceSub, reduceGT, reduceEqDiff, reduceMul, prsP, ints, rows, cubes, w64]
   rw [show ((i + 1 : Nat) : Int) - 1 = i by omega]
   refine (impl_levelFault_ok os pw cj h i (by omega) hI _ _).mono2 ?_
   rintro m1 H1 r1 hm1 ⟨rfl, (⟨hC, rfl⟩ | ⟨hC, k, l, a, b, hk, rfl⟩)⟩
   ·skip
    try simp -dsimp -implicitDefEqProofs (disch := omega) only [go_sem, undef, reduceAdd, reduceSub, reduceGT, reduceEqDiff, reduceMul, ]
    refine hN _ ?_
    try clear hN N
    refine AW.cond rfl (fun h2 => ?_) (fun h2 => ?_)
    ·try simp only [cn] at h2
     refine AW.skip ?_
     simp only [thn, blk]
     refine hN2 _ ?_
     try clear hN2 N2
     refine AW.block ?_
     refine AW.regionL envOk ?_
     simp -dsimp -implicitDefEqProofs (disch := omega) only [go_sem, undef, reduceAdd, reduceSub, reduceGT, reduceEqDiff, reduceMul, prsP, ints, rows, cubes, w64]
     refine ⟨i, ?_, fun _ _ h => h, ?_, ?_⟩
     ·simp (disch := omega) [wks, wkA, sl, prsP, w64, ints, rows, cubes] <;> omega
     ·refine ⟨by first| omega| (simp only; omega)| (dsimp only; omega), fun t q1 q2 => ?_⟩
      by_cases e : t = i
      ·subst e; exact hC
      ·exact hI t (by omega) q2
     ·first | omega | (simp only; omega)
    ·try simp only [cn] at h2
     simp at h2
   ·skip
    try simp -dsimp -implicitDefEqProofs (disch := omega) only [go_sem, undef, reduceAdd, reduceSub, reduceGT, reduceEqDiff, reduceMul, ]
    refine hN _ ?_
    try clear hN N
    refine AW.cond rfl (fun h3 => ?_) (fun h3 => ?_)
    ·try simp only [cn] at h3
     exact absurd h3.1 hk
    ·try simp only [cn] at h3
     refine AW.exit ?_
     simp only [thn, blk, if_true]
     refine hN1 _ ?_
     try clear hN1 N1
     refine AW.sr envOk (fun N hN => ?_)
     simp -dsimp -implicitDefEqProofs (disch := omega) only [go_sem, undef, reduceAdd, reduceSub, reduceGT, reduceEqDiff, reduceMul, prsP, ints, rows, cubes, w64]
     refine hN _ ?_
     try clear hN N
     refine AW.ret ?_
     simp -dsimp -implicitDefEqProofs (disch := omega) only [go_sem, undef, reduceAdd, reduceSub, reduceGT, reduceEqDiff, reduceMul]
     exact ⟨_, Le.refl _, rfl, i + 1, rfl, ⟨fun q => by omega, fun q => absurd (q i (Nat.zero_le _) (show i < os.length by omega)) hC⟩⟩
  ·try simp only [cn] at h1
   try simp -dsimp -implicitDefEqProofs (disch := omega) only [go_sem, undef, reduceAdd, reduceSub, reduceGT, reduceEqDiff, reduceMul, prsP, ints, rows, cubes, w64]
   refine hN _ ?_
   try clear hN N
   refine AW.condF rfl ?_
   refine AW.exit ?_
   simp only [thn, blk, if_true]
   refine hN1 _ ?_
   try clear hN1 N1
   refine AW.sr envOk (fun N hN => ?_)
   simp -dsimp -implicitDefEqProofs (disch := omega) only [go_sem, undef, reduceAdd, reduceSub, reduceGT, reduceEqDiff, reduceMul, prsP, ints, rows, cubes, w64]
   refine hN _ ?_
   try clear hN N
   refine AW.ret ?_
   simp -dsimp -implicitDefEqProofs (disch := omega) only [go_sem, undef, reduceAdd, reduceSub, reduceGT, reduceEqDiff, reduceMul]
   obtain rfl : x = 0 := by omega
   exact ⟨_, Le.refl _, rfl, 0, rfl, ⟨fun _ => hI, fun _ => rfl⟩⟩
theorem impl_IsConsistent_ok (os : List Int) (pw : List (List Int)) (cj : List (List (List Int))) (hl : prlen os pw cj) : ACp Try.prog 53 [prs os pw cj] (.b (tf (presOk os pw cj ∧ Con (pc os pw cj) 0))) := by
 refine ACp.intro' envOk Try.func53 rfl (by kernel_rfl) Try.ntmps53 Try.results53 (.b _) (fun nx => ?_)
 refine AW.sr envOk (fun N hN => ?_)
 simp -dsimp -implicitDefEqProofs (disch := omega) only [go_sem, undef, reduceAdd, reduceSub, reduceGT, reduceEqDiff, reduceMul, prs, ints, rows, cubes]
 refine hN _ ?_
 try clear hN N
 refine AW.freezeQ 1 nx _ rfl (upd_same _ _ _) ?_
 simp -dsimp -implicitDefEqProofs (disch := omega) only [go_sem, undef, reduceAdd, reduceSub, reduceGT, reduceEqDiff, reduceMul]
 refine AW.sr envOk (fun N hN => ?_)
 simp -dsimp -implicitDefEqProofs (disch := omega) only [go_sem, undef, reduceAdd, reduceSub, reduceGT, reduceEqDiff, reduceMul, prs, ints, rows, cubes]
 refine AC.pure (.of (impl_IsPresentation_ok os pw cj hl)) ?_
 try simp -dsimp -implicitDefEqProofs (disch := omega) only [go_sem, undef, reduceAdd, reduceSub, reduceGT, reduceEqDiff, reduceMul, prs, ints, rows, cubes]
 refine gopB.mk' (fun h1 => ?_) (fun h1 => ?_)
 ·try simp only [cn] at h1
  try simp -dsimp -implicitDefEqProofs (disch := omega) only [go_sem, undef, reduceAdd, reduceSub, reduceGT, reduceEqDiff, reduceMul, prs, ints, rows, cubes]
  refine (impl_consistentFrom_ok os pw cj h1 _ _).mono2 ?_
  rintro m1 H1 r1 hm1 ⟨rfl, x, rfl, hx⟩
  try simp -dsimp -implicitDefEqProofs (disch := omega) only [go_sem, undef, reduceAdd, reduceSub, reduceGT, reduceEqDiff, reduceMul, prs, ints, rows, cubes]
  refine hN _ ?_
  try clear hN N
  refine AW.ret ?_
  simp -dsimp -implicitDefEqProofs (disch := omega) only [go_sem, undef, reduceAdd, reduceSub, reduceGT, reduceEqDiff, reduceMul]
  exact bt (by by_cases q : x = 0 <;> simp [q, tf_t, tf_f, h1, ← hx])
 ·try simp only [cn] at h1
  try simp -dsimp -implicitDefEqProofs (disch := omega) only [go_sem, undef, reduceAdd, reduceSub, reduceGT, reduceEqDiff, reduceMul, prs, ints, rows, cubes]
  refine hN _ ?_
  try clear hN N
  refine AW.ret ?_
  simp -dsimp -implicitDefEqProofs (disch := omega) only [go_sem, undef, reduceAdd, reduceSub, reduceGT, reduceEqDiff, reduceMul]
  all_goals exact bt (tf_f (fun q => h1 q.1)).symm
def grpP (os : List Int) (pw : List (List Int)) (cj : List (List (List Int))) : Prop := presOk os pw cj ∧ Con (pc os pw cj) 0
end Go.Proofs.Ytnlfbimjcabgiaa
namespace Go.Proofs.Ytnlfbimjcabgiaa
open Nat (reduceAdd reduceSub reduceGT reduceEqDiff reduceMul)
def wordP (g : Int) (w : List Int) : Prop := w.length ≤ 64 ∧ ∀ j, j < w.length → w.getD j 0 ≠ 0 ∧ -g ≤ w.getD j 0 ∧ w.getD j 0 ≤ g
end Go.Proofs.Ytnlfbimjcabgiaa
