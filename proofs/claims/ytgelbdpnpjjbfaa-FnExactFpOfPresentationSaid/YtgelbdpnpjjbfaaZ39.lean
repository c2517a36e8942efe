import Derived.Test.YtgelbdpnpjjbfaaZ14
set_option linter.unusedVariables false
set_option linter.unusedSimpArgs false
namespace Go.Proofs.Ytgelbdpnpjjbfaa
open Nat (reduceAdd reduceSub reduceGT reduceEqDiff reduceMul)
def wordP (g : Int) (w : List Int) : Prop := w.length ≤ 64 ∧ ∀ j, j < w.length → w.getD j 0 ≠ 0 ∧ -g ≤ w.getD j 0 ∧ w.getD j 0 ≤ g
def fp (g : Int) (rs : List (List Int)) : AV := .g [.i .i64 g, rows rs]
end Go.Proofs.Ytgelbdpnpjjbfaa
