import Derived.Test.YtlcddiojeghfgaaDoorZ26
import Derived.Test.YtlcddiojeghfgaaDoorZ38
set_option linter.unusedVariables false
set_option linter.unusedSimpArgs false
namespace Go.Proofs.YtlcddiojeghfgaaDoor
open Nat (reduceAdd reduceSub reduceGT reduceEqDiff reduceMul)
def prs (os:List Int) (pw:List (List Int)) (cj:List (List (List Int))):AV:= .g [ints os,rows pw,cubes cj]
end Go.Proofs.YtlcddiojeghfgaaDoor
