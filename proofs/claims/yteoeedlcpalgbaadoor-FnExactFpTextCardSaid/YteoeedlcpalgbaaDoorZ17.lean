import Derived.Test.YteoeedlcpalgbaaDoorZ16
set_option linter.unusedVariables false
set_option linter.unusedSimpArgs false
namespace Go.Proofs.YteoeedlcpalgbaaDoor
open Nat (reduceAdd reduceSub reduceGT reduceEqDiff reduceMul)
def nst (p:Int) (pw:List (List Int)) (i:Nat) (f:Nat→Int):Nat→Int:=fun j=>if j=i then f i%p else f j+f i/p*(pw.getD i []).getD j 0
def nrm (p:Int) (pw:List (List Int)):Nat→(Nat→Int)→Nat→Int
  |0,f=>f
  |i+1,f=>nst p pw i (nrm p pw i f)
end Go.Proofs.YteoeedlcpalgbaaDoor
