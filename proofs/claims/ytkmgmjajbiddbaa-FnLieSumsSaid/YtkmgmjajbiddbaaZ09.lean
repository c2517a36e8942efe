import Derived.Test.YtkmgmjajbiddbaaZ08
set_option linter.unusedVariables false
set_option linter.unusedSimpArgs false
namespace Go.Proofs.Ytkmgmjajbiddbaa
open Nat (reduceAdd reduceSub reduceGT reduceEqDiff reduceMul)
def ring (p : Int) (pw : List (List Int)) (br : List (List (List Int))) : AV := .g [.i .i64 p, rows pw, cubes br]
end Go.Proofs.Ytkmgmjajbiddbaa
namespace Go.Proofs.Ytkmgmjajbiddbaa
open Nat (reduceAdd reduceSub reduceGT reduceEqDiff reduceMul)
theorem take_ext {α : Type} (d : α) {a b : List α} (hl : a.length = b.length) {k : Nat} (hk : k < a.length) (h : a.take k = b.take k) (he : a.getD k d = b.getD k d) : a.take (k + 1) = b.take (k + 1) := by
  rw [List.take_add_one, List.take_add_one, h]
  congr 1
  simp [hk, show k < b.length by omega] at he
  simp [hk, show k < b.length by omega, he]
end Go.Proofs.Ytkmgmjajbiddbaa
