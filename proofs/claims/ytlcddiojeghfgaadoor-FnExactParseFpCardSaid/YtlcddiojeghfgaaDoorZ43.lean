import Derived.Test.YtlcddiojeghfgaaDoorZ13
import Derived.Test.YtlcddiojeghfgaaDoorZ25
set_option linter.unusedVariables false
set_option linter.unusedSimpArgs false
namespace Go.Proofs.YtlcddiojeghfgaaDoor
open Nat (reduceAdd reduceSub reduceGT reduceEqDiff reduceMul)
def lab (l:Int):Int:=if 0<l then l else-l
def lid (l:Int):Nat:=(lab l-1).toNat
theorem wordP.get {n:Nat} {w:List Int} (h:wordP n w) {k:Nat} (hk:k<w.length):lid (w.getD k 0)<n∧lab (w.getD k 0)-1=lid (w.getD k 0)∧1≤lab (w.getD k 0)∧lab (w.getD k 0)≤n:=by
  have:=h.2 k hk
  unfold lid lab
  split<;>omega
end Go.Proofs.YtlcddiojeghfgaaDoor
