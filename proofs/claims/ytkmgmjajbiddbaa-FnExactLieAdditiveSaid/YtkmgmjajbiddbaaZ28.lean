import Derived.Test.YtkmgmjajbiddbaaZ18
import Derived.Test.YtkmgmjajbiddbaaZ27
set_option linter.unusedVariables false
set_option linter.unusedSimpArgs false
namespace Go.Proofs.Ytkmgmjajbiddbaa
open Nat (reduceAdd reduceSub reduceGT reduceEqDiff reduceMul)
def isInv (p a y : Int) : Prop := 1 ≤ y ∧ y < p ∧ a * y % p = 1
theorem inv_ex {p a : Int} (hp : pr4 p) (h1 : 1 ≤ a) (h2 : a < p) : ∃ y, isInv p a y := by
  rcases hp with rfl | rfl | rfl | rfl
  · exact ⟨1, by omega, by omega, by omega⟩
  · rcases (show a = 1 ∨ a = 2 by omega) with rfl | rfl
    · exact ⟨1, by decide, by decide, by decide⟩
    · exact ⟨2, by decide, by decide, by decide⟩
  · rcases (show a = 1 ∨ a = 2 ∨ a = 3 ∨ a = 4 by omega) with rfl | rfl | rfl | rfl
    · exact ⟨1, by decide, by decide, by decide⟩
    · exact ⟨3, by decide, by decide, by decide⟩
    · exact ⟨2, by decide, by decide, by decide⟩
    · exact ⟨4, by decide, by decide, by decide⟩
  · rcases (show a = 1 ∨ a = 2 ∨ a = 3 ∨ a = 4 ∨ a = 5 ∨ a = 6 by omega) with rfl | rfl | rfl | rfl | rfl | rfl
    · exact ⟨1, by decide, by decide, by decide⟩
    · exact ⟨4, by decide, by decide, by decide⟩
    · exact ⟨5, by decide, by decide, by decide⟩
    · exact ⟨2, by decide, by decide, by decide⟩
    · exact ⟨3, by decide, by decide, by decide⟩
    · exact ⟨6, by decide, by decide, by decide⟩
noncomputable def invP (p a : Int) : Int := Classical.epsilon (isInv p a)
theorem invP_ok {p a : Int} (hp : pr4 p) (h1 : 1 ≤ a) (h2 : a < p) : isInv p a (invP p a) := Classical.epsilon_spec (inv_ex hp h1 h2)
end Go.Proofs.Ytkmgmjajbiddbaa
