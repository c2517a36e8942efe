/-
  Lie rings: the shape, by the reference and by the program.
-/
import Derived.Test.YtimgnijlnkjamaaLd
set_option linter.unusedVariables false
set_option linter.unusedSimpArgs false
namespace Go.Proofs.Ytimgnijlnkjamaa
open Nat (reduceAdd reduceSub reduceGT reduceEqDiff reduceMul)

/-- How long the lists of a ring are. -/
structure ringlen (pw : List (List Int)) (br : List (List (List Int))) : Prop where
  n : pw.length ≤ 1048576
  v : ∀ i, (pw.getD i []).length ≤ 1048576
  b : br.length ≤ 1048576
  r : ∀ i, (br.getD i []).length ≤ 1048576
  e : ∀ i j, ((br.getD i []).getD j []).length ≤ 1048576

/-- What the shape asks of the k-th bracket row. -/
def brP (p : Int) (n : Nat) (bi : List (List Int)) (i k : Nat) : Prop := isEl p n (bi.getD k []) ∧ ∀ j, j ≤ i + 1 + k → (bi.getD k []).getD j 0 = 0
/-- What the shape asks of the i-th generator. -/
def rowP (p : Int) (pw : List (List Int)) (br : List (List (List Int))) (i : Nat) : Prop :=
  isEl p pw.length (pw.getD i []) ∧ blank (pw.getD i []) i ∧ (br.getD i []).length + 1 + i = pw.length ∧ ∀ k, k < (br.getD i []).length → brP p pw.length (br.getD i []) i k
def shapeP (p : Int) (pw : List (List Int)) (br : List (List (List Int))) : Prop :=
  pr4 p ∧ pw.length ≤ 6 ∧ br.length = pw.length ∧ p ^ pw.length ≤ 729 ∧ ∀ i, i < pw.length → rowP p pw br i

theorem Vw.q' {H : HP} {id o : Nat} {cs : List AV} (h : H id = some cs) : Vw H (.q id o) (.p o cs) :=
  .q id o cs cs h rfl (fun k x y hx hy => by rw [hx] at hy; cases hy; exact .refl _)


theorem zeros_take {a : List Int} {k : Nat} (h : k + 1 ≤ a.length) : zeros (a.take (k + 1)) ↔ blank a k := by
  constructor
  · intro hz j hj
    have := hz j (by simp; omega)
    rwa [getD_take _ _ (by omega)] at this
  · intro hb j hj
    simp at hj
    rw [getD_take _ _ (by omega)]
    exact hb j (by omega)

end Go.Proofs.Ytimgnijlnkjamaa
