/-
  Lie rings: the small tests of a shape, of the reference and of the program.
-/
import Derived.Test.YtimgnijlnkjamaaLc
set_option linter.unusedVariables false
set_option linter.unusedSimpArgs false
namespace Go.Proofs.Ytimgnijlnkjamaa
open Nat (reduceAdd reduceSub reduceGT reduceEqDiff reduceMul)

def pr4 (p : Int) : Prop := p = 2 ∨ p = 3 ∨ p = 5 ∨ p = 7

theorem spec_l01Prime_ok (p : Int) : ACp Try.prog 97 [.i .i64 p] (.b (tf (pr4 p))) := by
 refine ACp.intro' envOk Try.func97 rfl (by kernel_rfl) Try.ntmps97 Try.results97 (.b _) (fun nx => ?_)
 refine AW.sr envOk (fun N hN => ?_)
 simp -dsimp -implicitDefEqProofs (disch := omega) only [go_sem, undef, reduceAdd, reduceSub, reduceGT, reduceEqDiff, reduceMul, ]
 refine hN _ ?_
 try clear hN N
 refine AW.sr envOk (fun N hN => ?_)
 simp -dsimp -implicitDefEqProofs (disch := omega) only [go_sem, undef, reduceAdd, reduceSub, reduceGT, reduceEqDiff, reduceMul, ]
 refine gopB.mk' (fun h1 => ?_) (fun h1 => ?_)
 ·try simp only [cn] at h1
  try simp -dsimp -implicitDefEqProofs (disch := omega) only [go_sem, undef, reduceAdd, reduceSub, reduceGT, reduceEqDiff, reduceMul, ]
  refine gopB.mk' (fun h2 => ?_) (fun h2 => ?_)
  ·try simp only [cn] at h2
   try simp -dsimp -implicitDefEqProofs (disch := omega) only [go_sem, undef, reduceAdd, reduceSub, reduceGT, reduceEqDiff, reduceMul, ]
   refine gopB.mk' (fun h3 => ?_) (fun h3 => ?_)
   ·try simp only [cn] at h3
    try simp -dsimp -implicitDefEqProofs (disch := omega) only [go_sem, undef, reduceAdd, reduceSub, reduceGT, reduceEqDiff, reduceMul, ]
    refine hN _ ?_
    try clear hN N
    refine AW.ret ?_
    simp -dsimp -implicitDefEqProofs (disch := omega) only [go_sem, undef, reduceAdd, reduceSub, reduceGT, reduceEqDiff, reduceMul]
    exact bt (by simp_all [pr4, tf]; try rfl)
   ·try simp only [cn] at h3
    try simp -dsimp -implicitDefEqProofs (disch := omega) only [go_sem, undef, reduceAdd, reduceSub, reduceGT, reduceEqDiff, reduceMul, ]
    refine hN _ ?_
    try clear hN N
    refine AW.ret ?_
    simp -dsimp -implicitDefEqProofs (disch := omega) only [go_sem, undef, reduceAdd, reduceSub, reduceGT, reduceEqDiff, reduceMul]
    exact bt (by simp_all [pr4, tf]; try rfl)
  ·try simp only [cn] at h2
   try simp -dsimp -implicitDefEqProofs (disch := omega) only [go_sem, undef, reduceAdd, reduceSub, reduceGT, reduceEqDiff, reduceMul, ]
   refine hN _ ?_
   try clear hN N
   refine AW.ret ?_
   simp -dsimp -implicitDefEqProofs (disch := omega) only [go_sem, undef, reduceAdd, reduceSub, reduceGT, reduceEqDiff, reduceMul]
   exact bt (by simp_all [pr4, tf]; try rfl)
 ·try simp only [cn] at h1
  try simp -dsimp -implicitDefEqProofs (disch := omega) only [go_sem, undef, reduceAdd, reduceSub, reduceGT, reduceEqDiff, reduceMul, ]
  refine hN _ ?_
  try clear hN N
  refine AW.ret ?_
  simp -dsimp -implicitDefEqProofs (disch := omega) only [go_sem, undef, reduceAdd, reduceSub, reduceGT, reduceEqDiff, reduceMul]
  exact bt (by simp_all [pr4, tf]; try rfl)

theorem impl_IsGroupPrime_ok (p : Int) : ACp Try.prog 150 [.i .i64 p] (.b (tf (pr4 p))) := by
 refine ACp.intro' envOk Try.func150 rfl (by kernel_rfl) Try.ntmps150 Try.results150 (.b _) (fun nx => ?_)
 refine AW.sr envOk (fun N hN => ?_)
 simp -dsimp -implicitDefEqProofs (disch := omega) only [go_sem, undef, reduceAdd, reduceSub, reduceGT, reduceEqDiff, reduceMul, ]
 refine hN _ ?_
 try clear hN N
 refine AW.sr envOk (fun N hN => ?_)
 simp -dsimp -implicitDefEqProofs (disch := omega) only [go_sem, undef, reduceAdd, reduceSub, reduceGT, reduceEqDiff, reduceMul, ]
 refine gopB.mk' (fun h1 => ?_) (fun h1 => ?_)
 ·try simp only [cn] at h1
  try simp -dsimp -implicitDefEqProofs (disch := omega) only [go_sem, undef, reduceAdd, reduceSub, reduceGT, reduceEqDiff, reduceMul, ]
  refine gopB.mk' (fun h2 => ?_) (fun h2 => ?_)
  ·try simp only [cn] at h2
   try simp -dsimp -implicitDefEqProofs (disch := omega) only [go_sem, undef, reduceAdd, reduceSub, reduceGT, reduceEqDiff, reduceMul, ]
   refine gopB.mk' (fun h3 => ?_) (fun h3 => ?_)
   ·try simp only [cn] at h3
    try simp -dsimp -implicitDefEqProofs (disch := omega) only [go_sem, undef, reduceAdd, reduceSub, reduceGT, reduceEqDiff, reduceMul, ]
    refine hN _ ?_
    try clear hN N
    refine AW.ret ?_
    simp -dsimp -implicitDefEqProofs (disch := omega) only [go_sem, undef, reduceAdd, reduceSub, reduceGT, reduceEqDiff, reduceMul]
    exact bt (by simp_all [pr4, tf]; try rfl)
   ·try simp only [cn] at h3
    try simp -dsimp -implicitDefEqProofs (disch := omega) only [go_sem, undef, reduceAdd, reduceSub, reduceGT, reduceEqDiff, reduceMul, ]
    refine hN _ ?_
    try clear hN N
    refine AW.ret ?_
    simp -dsimp -implicitDefEqProofs (disch := omega) only [go_sem, undef, reduceAdd, reduceSub, reduceGT, reduceEqDiff, reduceMul]
    exact bt (by simp_all [pr4, tf]; try rfl)
  ·try simp only [cn] at h2
   try simp -dsimp -implicitDefEqProofs (disch := omega) only [go_sem, undef, reduceAdd, reduceSub, reduceGT, reduceEqDiff, reduceMul, ]
   refine hN _ ?_
   try clear hN N
   refine AW.ret ?_
   simp -dsimp -implicitDefEqProofs (disch := omega) only [go_sem, undef, reduceAdd, reduceSub, reduceGT, reduceEqDiff, reduceMul]
   exact bt (by simp_all [pr4, tf]; try rfl)
 ·try simp only [cn] at h1
  try simp -dsimp -implicitDefEqProofs (disch := omega) only [go_sem, undef, reduceAdd, reduceSub, reduceGT, reduceEqDiff, reduceMul, ]
  refine hN _ ?_
  try clear hN N
  refine AW.ret ?_
  simp -dsimp -implicitDefEqProofs (disch := omega) only [go_sem, undef, reduceAdd, reduceSub, reduceGT, reduceEqDiff, reduceMul]
  exact bt (by simp_all [pr4, tf]; try rfl)

theorem spec_l01In_ok (n lo hi : Int) : ACp Try.prog 91 [.i .i64 n, .i .i64 lo, .i .i64 hi] (.b (tf (lo ≤ n ∧ n ≤ hi))) := by
 refine ACp.intro' envOk Try.func91 rfl (by kernel_rfl) Try.ntmps91 Try.results91 (.b _) (fun nx => ?_)
 refine AW.sr envOk (fun N hN => ?_)
 simp -dsimp -implicitDefEqProofs (disch := omega) only [go_sem, undef, reduceAdd, reduceSub, reduceGT, reduceEqDiff, reduceMul, ]
 refine hN _ ?_
 try clear hN N
 refine AW.sr envOk (fun N hN => ?_)
 simp -dsimp -implicitDefEqProofs (disch := omega) only [go_sem, undef, reduceAdd, reduceSub, reduceGT, reduceEqDiff, reduceMul, ]
 refine gopB.mk' (fun h1 => ?_) (fun h1 => ?_)
 ·try simp only [cn] at h1
  try simp -dsimp -implicitDefEqProofs (disch := omega) only [go_sem, undef, reduceAdd, reduceSub, reduceGT, reduceEqDiff, reduceMul, ]
  refine hN _ ?_
  try clear hN N
  refine AW.ret ?_
  simp -dsimp -implicitDefEqProofs (disch := omega) only [go_sem, undef, reduceAdd, reduceSub, reduceGT, reduceEqDiff, reduceMul]
  exact bt (by simp_all [tf]; try omega)
 ·try simp only [cn] at h1
  try simp -dsimp -implicitDefEqProofs (disch := omega) only [go_sem, undef, reduceAdd, reduceSub, reduceGT, reduceEqDiff, reduceMul, ]
  refine hN _ ?_
  try clear hN N
  refine AW.ret ?_
  simp -dsimp -implicitDefEqProofs (disch := omega) only [go_sem, undef, reduceAdd, reduceSub, reduceGT, reduceEqDiff, reduceMul]
  exact bt (by simp_all [tf]; try omega)

theorem impl_inside_ok (n lo hi : Int) : ACp Try.prog 93 [.i .i64 n, .i .i64 lo, .i .i64 hi] (.b (tf (lo ≤ n ∧ n ≤ hi))) := by
 refine ACp.intro' envOk Try.func93 rfl (by kernel_rfl) Try.ntmps93 Try.results93 (.b _) (fun nx => ?_)
 refine AW.sr envOk (fun N hN => ?_)
 simp -dsimp -implicitDefEqProofs (disch := omega) only [go_sem, undef, reduceAdd, reduceSub, reduceGT, reduceEqDiff, reduceMul, ]
 refine hN _ ?_
 try clear hN N
 refine AW.sr envOk (fun N hN => ?_)
 simp -dsimp -implicitDefEqProofs (disch := omega) only [go_sem, undef, reduceAdd, reduceSub, reduceGT, reduceEqDiff, reduceMul, ]
 refine gopB.mk' (fun h1 => ?_) (fun h1 => ?_)
 ·try simp only [cn] at h1
  try simp -dsimp -implicitDefEqProofs (disch := omega) only [go_sem, undef, reduceAdd, reduceSub, reduceGT, reduceEqDiff, reduceMul, ]
  refine hN _ ?_
  try clear hN N
  refine AW.ret ?_
  simp -dsimp -implicitDefEqProofs (disch := omega) only [go_sem, undef, reduceAdd, reduceSub, reduceGT, reduceEqDiff, reduceMul]
  exact bt (by simp_all [tf]; try omega)
 ·try simp only [cn] at h1
  try simp -dsimp -implicitDefEqProofs (disch := omega) only [go_sem, undef, reduceAdd, reduceSub, reduceGT, reduceEqDiff, reduceMul, ]
  refine hN _ ?_
  try clear hN N
  refine AW.ret ?_
  simp -dsimp -implicitDefEqProofs (disch := omega) only [go_sem, undef, reduceAdd, reduceSub, reduceGT, reduceEqDiff, reduceMul]
  exact bt (by simp_all [tf]; try omega)


/-- An element over p with n coordinates. -/
def isEl (p : Int) (n : Int) (a : List Int) : Prop := a.length = n ∧ ∀ k, k < a.length → 0 ≤ a.getD k 0 ∧ a.getD k 0 ≤ p - 1


/-- The first k + 1 entries are 0. -/
def blank (a : List Int) (k : Nat) : Prop := ∀ j, j ≤ k → a.getD j 0 = 0
/-- All entries are 0. -/
def zeros (a : List Int) : Prop := ∀ j, j < a.length → a.getD j 0 = 0
theorem impl_isZero_ok (a : List Int) (ha' : a.length ≤ 1099511627776) : ACp Try.prog 111 [ints a] (.b (tf (zeros a))) := by
 refine ACp.intro' envOk Try.func111 rfl (by kernel_rfl) Try.ntmps111 Try.results111 (.b _) (fun nx => ?_)
 refine AW.sr envOk (fun N hN => ?_)
 simp -dsimp -implicitDefEqProofs (disch := omega) only [go_sem, undef, reduceAdd, reduceSub, reduceGT, reduceEqDiff, reduceMul, ints, gd_i, w64]
 refine hN _ ?_
 try clear hN N
 refine AW.seq (fun N1 hN1 => ?_)
 refine AW.sr envOk (fun N hN => ?_)
 simp -dsimp -implicitDefEqProofs (disch := omega) only [go_sem, undef, reduceAdd, reduceSub, reduceGT, reduceEqDiff, reduceMul, ints, gd_i, w64]
 refine hN _ ?_
 try clear hN N
 refine AW.block ?_
 refine AW.loopN (α := Nat) (fun x => sl 14 [(5, ints a), (6, .i .i64 a.length), (7, .i .i64 x)]) (fun _ => noH) (fun x m => x ≤ a.length ∧ ∀ j, j < x → a.getD j 0 = 0) (fun x => a.length - x) (0) ?_ ?_ (fun _ _ h => h) ?_
 ·exact ⟨by omega, by intro j hj; omega⟩
 ·simp (disch := omega) [wks, wkA, sl, w64, ints, rows, cubes, ints, gd_i, w64] <;> omega
 ·skip
  rintro k m ⟨hk, hI⟩
  simp -dsimp -implicitDefEqProofs (disch := omega) only [go_sem, undef, reduceAdd, reduceSub, reduceGT, reduceEqDiff, reduceMul]
  refine AW.sr envOk (fun N hN => ?_)
  simp -dsimp -implicitDefEqProofs (disch := omega) only [go_sem, undef, reduceAdd, reduceSub, reduceGT, reduceEqDiff, reduceMul, ints, gd_i, w64]
  refine hN _ ?_
  try clear hN N
  refine AW.seq (fun N2 hN2 => ?_)
  refine AW.cond rfl (fun h1 => ?_) (fun h1 => ?_)
  ·try simp only [cn] at h1
   refine AW.skip ?_
   simp only [thn, blk]
   refine hN2 _ ?_
   try clear hN2 N2
   refine AW.seq (fun N3 hN3 => ?_)
   refine AW.block ?_
   refine AW.sr envOk (fun N hN => ?_)
   simp -dsimp -implicitDefEqProofs (disch := omega) only [go_sem, undef, reduceAdd, reduceSub, reduceGT, reduceEqDiff, reduceMul, ints, gd_i, w64]
   refine hN _ ?_
   try clear hN N
   refine AW.sr envOk (fun N hN => ?_)
   simp -dsimp -implicitDefEqProofs (disch := omega) only [go_sem, undef, reduceAdd, reduceSub, reduceGT, reduceEqDiff, reduceMul, ints, gd_i, w64]
   refine hN _ ?_
   try clear hN N
   refine AW.cond rfl (fun h2 => ?_) (fun h2 => ?_)
   ·try simp only [cn] at h2
    refine AW.sr envOk (fun N hN => ?_)
    simp -dsimp -implicitDefEqProofs (disch := omega) only [go_sem, undef, reduceAdd, reduceSub, reduceGT, reduceEqDiff, reduceMul, ints, gd_i, w64]
    refine hN _ ?_
    try clear hN N
    refine AW.ret ?_
    simp -dsimp -implicitDefEqProofs (disch := omega) only [go_sem, undef, reduceAdd, reduceSub, reduceGT, reduceEqDiff, reduceMul]
    exact bt (tf_f (fun h => h2 (h k (by omega)))).symm
   ·try simp only [cn] at h2
    refine AW.skip ?_
    simp only [thn, blk]
    refine hN3 _ ?_
    try clear hN3 N3
    refine AW.regionL envOk ?_
    simp -dsimp -implicitDefEqProofs (disch := omega) only [go_sem, undef, reduceAdd, reduceSub, reduceGT, reduceEqDiff, reduceMul, ints, gd_i, w64]
    refine ⟨k + 1, ?_, fun _ _ h => h, ?_, ?_⟩
    ·simp (disch := omega) [wks, wkA, sl, w64, ints, rows, cubes, ints, gd_i, w64] <;> omega
    ·refine ⟨by omega, fun j hj => ?_⟩
     by_cases e : j = k
     ·subst e; exact h2
     ·exact hI j (by omega)
    ·first | omega | (simp only; omega)
  ·try simp only [cn] at h1
   refine AW.exit ?_
   simp only [thn, blk, if_true]
   refine hN1 _ ?_
   try clear hN1 N1
   refine AW.sr envOk (fun N hN => ?_)
   simp -dsimp -implicitDefEqProofs (disch := omega) only [go_sem, undef, reduceAdd, reduceSub, reduceGT, reduceEqDiff, reduceMul, ints, gd_i, w64]
   refine hN _ ?_
   try clear hN N
   refine AW.ret ?_
   simp -dsimp -implicitDefEqProofs (disch := omega) only [go_sem, undef, reduceAdd, reduceSub, reduceGT, reduceEqDiff, reduceMul]
   exact bt (tf_t (fun j hj => hI j (by omega))).symm


/-- A Lie ring behind a pointer. -/
def ringP (p : Int) (pw : List (List Int)) (br : List (List (List Int))) : AV := .p 0 [.i .i64 p, rows pw, cubes br]

theorem ipow_bd {p : Int} (h1 : 1 ≤ p) (h7 : p ≤ 7) : ∀ k : Nat, 1 ≤ p ^ k ∧ p ^ k ≤ 7 ^ k := by
  intro k
  induction k with
  | zero => simp
  | succ k ih =>
    rw [Int.pow_succ, Int.pow_succ]
    refine ⟨?_, ?_⟩
    · have := Int.mul_le_mul ih.1 h1 (by omega) (by omega); simpa using this
    · exact Int.mul_le_mul ih.2 h7 (by omega) (by have := ih.1; omega)
theorem seven_bd : ∀ k : Nat, k ≤ 20 → (7 : Int) ^ k ≤ 79792266297612001 := by
  intro k hk
  have h : (7 : Nat) ^ k ≤ 7 ^ 20 := Nat.pow_le_pow_right (by decide) hk
  have h2 : ((7 ^ k : Nat) : Int) = (7 : Int) ^ k := by simp
  omega
theorem pr4_bd {p : Int} (h : pr4 p) : 2 ≤ p ∧ p ≤ 7 := by unfold pr4 at h; omega
theorem pw_bd {p : Int} (h : pr4 p) {k : Nat} (hk : k ≤ 20) : 1 ≤ p ^ k ∧ p ^ k ≤ 79792266297612001 := by
  have h1 := pr4_bd h
  have h2 := ipow_bd (by omega : 1 ≤ p) h1.2 k
  have h3 := seven_bd k hk
  omega


/-- The power of a prime, or the first one that is more than 729. -/
def capPow (p : Int) : Nat → Int
  | 0 => 1
  | n + 1 => if capPow p n ≤ 729 then capPow p n * p else capPow p n
theorem capPow_stop {p : Int} {k : Nat} (h : 729 < capPow p k) : ∀ d, capPow p (k + d) = capPow p k := by
  intro d
  induction d with
  | zero => rfl
  | succ d ih => rw [← Nat.add_assoc, capPow, if_neg (by rw [ih]; omega), ih]
theorem capPow_bd {p : Int} (hp : pr4 p) : ∀ k, 1 ≤ capPow p k ∧ capPow p k ≤ 5103 := by
  intro k
  have h1 := pr4_bd hp
  induction k with
  | zero => simp [capPow]
  | succ k ih =>
    rw [capPow]
    split
    · rename_i h
      have h2 := Int.mul_le_mul h h1.2 (by omega) (by omega)
      have h3 := Int.mul_le_mul ih.1 h1.1 (by omega) (by omega)
      omega
    · exact ih
theorem capPow_eq {p : Int} (hp : pr4 p) : ∀ k, (p ^ k ≤ 729 ∧ capPow p k = p ^ k) ∨ (729 < p ^ k ∧ 729 < capPow p k) := by
  intro k
  have h1 := pr4_bd hp
  induction k with
  | zero => exact .inl ⟨by simp, by simp [capPow]⟩
  | succ k ih =>
    rw [capPow, Int.pow_succ]
    rcases ih with ⟨h2, h3⟩ | ⟨h2, h3⟩
    · rw [h3, if_pos h2]
      by_cases h : p ^ k * p ≤ 729
      · exact .inl ⟨h, rfl⟩
      · exact .inr ⟨by omega, by omega⟩
    · rw [if_neg (by omega)]
      refine .inr ⟨?_, h3⟩
      have h4 := Int.mul_le_mul (show (730 : Int) ≤ p ^ k by omega) h1.1 (by omega) (by omega)
      omega

end Go.Proofs.Ytimgnijlnkjamaa
