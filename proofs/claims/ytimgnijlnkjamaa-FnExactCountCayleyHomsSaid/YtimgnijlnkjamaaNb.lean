/-
  Normal forms modulo the relations of a Lie ring: the reckoning, by the reference and by the program.
-/
import Derived.Test.YtimgnijlnkjamaaNa
set_option linter.unusedVariables false
set_option linter.unusedSimpArgs false
namespace Go.Proofs.Ytimgnijlnkjamaa
open Nat (reduceAdd reduceSub reduceGT reduceEqDiff reduceMul)

/-- A loop that ends in its first round. -/
theorem AW.loop1 {P : Program} {c : Code} {s : St} {K : Exit → St → Prop} (h : AW P c s (thn K fun _ => False)) : AW P (.loop c) s K :=
  AW.loopN (α := Unit) (fun _ => s.t) (fun _ => s.H) (fun _ m => m = s.nx) (fun _ => 0) () rfl (by
    have : ∀ t : List AV, wks t t := by
      intro t
      induction t with
      | nil => exact trivial
      | cons x xs ih => exact ⟨.inr (.inl rfl), ih⟩
    exact this _) (fun _ _ h => h) (fun _ m hm => by
      subst hm
      exact h.mono (fun e s' h => by cases e <;> simp only [thn] at h ⊢ <;> first | exact h.elim | exact h))

/-! One step: the i-th coordinate into 0 .. p-1. -/
def nst (p : Int) (pw : List (List Int)) (i : Nat) (f : Nat → Int) : Nat → Int := fun j => if j = i then f i % p else f j + f i / p * (pw.getD i []).getD j 0
def nrm (p : Int) (pw : List (List Int)) : Nat → (Nat → Int) → Nat → Int
  | 0, f => f
  | i + 1, f => nst p pw i (nrm p pw i f)

theorem qx_bd {p a x C : Int} (hp : 2 ≤ p) (hp7 : p ≤ 7) (hx : 0 ≤ x) (hx2 : x ≤ p) (ha : -C ≤ a) (ha2 : a ≤ C) : -(C + 7) ≤ a / p * x ∧ a / p * x ≤ C + 7 := by
  have h1 := Int.emod_nonneg a (show p ≠ 0 by omega)
  have h2 := Int.emod_lt_of_pos a (show 0 < p by omega)
  have h3 := Int.emod_add_mul_ediv a p
  rw [Int.mul_comm] at h3
  by_cases hq : 0 ≤ a / p
  · have h4 : a / p * x ≤ a / p * p := Int.mul_le_mul_of_nonneg_left hx2 hq
    have h5 : 0 ≤ a / p * x := Int.mul_nonneg hq hx
    omega
  · have h4 : a / p * p ≤ a / p * x := Int.mul_le_mul_of_nonpos_left (show a / p ≤ 0 by omega) hx2
    have h5 : a / p * x ≤ 0 := Int.mul_nonpos_of_nonpos_of_nonneg (by omega) hx
    omega

/-- The rows are of numbers from 0 to p-1, 0 up to the diagonal. -/
structure Tri (p : Int) (pw : List (List Int)) : Prop where
  p2 : 2 ≤ p
  p7 : p ≤ 7
  n6 : pw.length ≤ 6
  len : ∀ i, i < pw.length → (pw.getD i []).length = pw.length
  rng : ∀ i j, i < pw.length → j < pw.length → 0 ≤ (pw.getD i []).getD j 0 ∧ (pw.getD i []).getD j 0 ≤ p - 1
  tri : ∀ i j, i < pw.length → j ≤ i → (pw.getD i []).getD j 0 = 0
theorem shapeP.tri {p : Int} {pw : List (List Int)} {br : List (List (List Int))} (h : shapeP p pw br) : Tri p pw := by
  obtain ⟨h1, h2, h3, h4, h5⟩ := h
  have h6 := pr4_bd h1
  refine ⟨h6.1, h6.2, h2, fun i hi => ?_, fun i j hi hj => ?_, fun i j hi hj => (h5 i hi).2.1 j hj⟩
  · have := (h5 i hi).1.1; omega
  · have h7 := (h5 i hi).1
    exact h7.2 j (by have := h7.1; omega)

theorem nst_bd {p : Int} {pw : List (List Int)} (t : Tri p pw) {f : Nat → Int} {C : Int} (hC : 7 ≤ C) (hf : ∀ j, j < pw.length → -C ≤ f j ∧ f j ≤ C) {i : Nat} (hi : i < pw.length) : ∀ j, j < pw.length → -(2 * C + 7) ≤ nst p pw i f j ∧ nst p pw i f j ≤ 2 * C + 7 := by
  intro j hj
  have h1 := hf i hi
  have h2 := hf j hj
  have h3 := t.rng i j hi hj
  have h4 := qx_bd t.p2 t.p7 h3.1 (by omega) h1.1 h1.2
  have h5 := Int.emod_nonneg (f i) (show p ≠ 0 by have := t.p2; omega)
  have h6 := Int.emod_lt_of_pos (f i) (show 0 < p by have := t.p2; omega)
  have h7 := t.p7
  unfold nst
  split <;> omega

theorem nrm_bd {p : Int} {pw : List (List Int)} (t : Tri p pw) {f : Nat → Int} {C : Int} (hC : 14 ≤ C) (hf : ∀ j, j < pw.length → -(C - 7) ≤ f j ∧ f j ≤ C - 7) : ∀ i, i ≤ pw.length → ∀ j, j < pw.length → -(C * 2 ^ i - 7) ≤ nrm p pw i f j ∧ nrm p pw i f j ≤ C * 2 ^ i - 7 := by
  intro i
  induction i with
  | zero => intro _ j hj; simpa [nrm] using hf j hj
  | succ i ih =>
    intro hi j hj
    have h1 : (1 : Int) ≤ 2 ^ i := by have : 0 < (2 : Int) ^ i := Int.pow_pos (by decide); omega
    have h2 : C ≤ C * 2 ^ i := by have := Int.mul_le_mul_of_nonneg_left h1 (show 0 ≤ C by omega); omega
    have h3 := nst_bd t (show 7 ≤ C * 2 ^ i - 7 by omega) (ih (by omega)) (show i < pw.length by omega) j hj
    rw [Int.pow_succ, nrm]
    have h4 : C * (2 ^ i * 2) = 2 * (C * 2 ^ i) := by rw [← Int.mul_assoc, Int.mul_comm]
    omega

theorem two_bd {i : Nat} (h : i ≤ 6) : (2 : Int) ^ i ≤ 64 := by
  have h2 : (2 : Nat) ^ i ≤ 2 ^ 6 := Nat.pow_le_pow_right (by decide) h
  have h3 : ((2 ^ i : Nat) : Int) = (2 : Int) ^ i := by simp
  omega

/-- In a word: from 10^15 to 10^17. -/
theorem nrm_bd' {p : Int} {pw : List (List Int)} (t : Tri p pw) {f : Nat → Int} (hf : ∀ j, j < pw.length → -1000000000000000 ≤ f j ∧ f j ≤ 1000000000000000) {i : Nat} (hi : i ≤ pw.length) {j : Nat} (hj : j < pw.length) : -100000000000000000 ≤ nrm p pw i f j ∧ nrm p pw i f j ≤ 100000000000000000 := by
  have h1 := nrm_bd t (C := 1000000000000007) (by decide) (f := f) (fun j hj => by have := hf j hj; omega) i hi j hj
  have h2 := two_bd (show i ≤ 6 by have := t.n6; omega)
  omega

/-- Inside a step: the i-th coordinate is done, the others up to j. -/
def nin (p : Int) (pw : List (List Int)) (i j : Nat) (f : Nat → Int) : Nat → Int := fun t => if t = i then f i % p else if t < j then f t + f i / p * (pw.getD i []).getD t 0 else f t
theorem nin_start {p : Int} {pw : List (List Int)} (t : Tri p pw) {i : Nat} (hi : i < pw.length) (f : Nat → Int) : ivs pw.length (fset f i (f i - f i / p * p)) = ivs pw.length (nin p pw i (i + 1) f) := by
  refine ivs_ext (fun k hk => ?_)
  unfold fset nin
  have h3 := Int.emod_add_mul_ediv (f i) p
  rw [Int.mul_comm] at h3
  by_cases h : k = i
  · simp only [h, if_true]; omega
  · simp only [h, if_false]
    split
    · rw [t.tri i k hi (by omega)]; simp
    · rfl
theorem nin_start0 {p : Int} {pw : List (List Int)} {i : Nat} (f : Nat → Int) : ivs pw.length (fset f i (f i - f i / p * p)) = ivs pw.length (nin p pw i 0 f) := by
  refine ivs_ext (fun k hk => ?_)
  unfold fset nin
  have h3 := Int.emod_add_mul_ediv (f i) p
  rw [Int.mul_comm] at h3
  by_cases h : k = i
  · simp only [h, if_true]; omega
  · simp [h]
theorem nin_step {p : Int} {pw : List (List Int)} (t : Tri p pw) {i j : Nat} (hi : i < pw.length) (f : Nat → Int) : ivs pw.length (fset (nin p pw i j f) j (nin p pw i j f j + f i / p * (pw.getD i []).getD j 0)) = ivs pw.length (nin p pw i (j + 1) f) := by
  refine ivs_ext (fun k hk => ?_)
  unfold fset nin
  by_cases h : k = j
  · subst h
    simp only [if_true, Nat.lt_irrefl, if_false]
    by_cases h2 : k = i
    · subst h2; rw [t.tri k k hi (Nat.le_refl _)]; simp
    · simp [h2]
  · simp only [h, if_false]
    by_cases h2 : k < j
    · simp [h2, show k < j + 1 by omega]
    · simp [h2, show ¬ k < j + 1 by omega]
theorem nin_end {p : Int} {pw : List (List Int)} {i : Nat} (f : Nat → Int) : ivs pw.length (nin p pw i pw.length f) = ivs pw.length (nst p pw i f) := by
  refine ivs_ext (fun k hk => ?_)
  unfold nin nst
  simp [hk]

theorem nin_bd {p : Int} {pw : List (List Int)} (t : Tri p pw) {f : Nat → Int} {i j : Nat} (hj : -100000000000000000 ≤ f j ∧ f j ≤ 100000000000000000) : -100000000000000007 ≤ nin p pw i j f j ∧ nin p pw i j f j ≤ 100000000000000007 := by
  have h5 := Int.emod_nonneg (f i) (show p ≠ 0 by have := t.p2; omega)
  have h6 := Int.emod_lt_of_pos (f i) (show 0 < p by have := t.p2; omega)
  have h7 := t.p7
  unfold nin
  split
  · omega
  · simp; omega



end Go.Proofs.Ytimgnijlnkjamaa
