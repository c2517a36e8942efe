import Derived.Test.YtlcddiojeghfgaaDoorZ10
set_option linter.unusedVariables false
set_option linter.unusedSimpArgs false
namespace Go.Proofs.YtlcddiojeghfgaaDoor
open Nat (reduceAdd reduceSub reduceGT reduceEqDiff reduceMul)
structure ringlen (pw:List (List Int)) (br:List (List (List Int))):Prop where
  n:pw.length≤1048576
  v:∀i,(pw.getD i []).length≤1048576
  b:br.length≤1048576
  r:∀i,(br.getD i []).length≤1048576
  e:∀i j,((br.getD i []).getD j []).length≤1048576
def brP (p:Int) (n:Nat) (bi:List (List Int)) (i k:Nat):Prop:=isEl p n (bi.getD k [])∧∀j,j≤i+1+k→(bi.getD k []).getD j 0=0
def rowP (p:Int) (pw:List (List Int)) (br:List (List (List Int))) (i:Nat):Prop:=
  isEl p pw.length (pw.getD i [])∧blank (pw.getD i []) i∧(br.getD i []).length+1+i=pw.length∧∀k,k<(br.getD i []).length→brP p pw.length (br.getD i []) i k
def shapeP (p:Int) (pw:List (List Int)) (br:List (List (List Int))):Prop:=
  pr4 p∧pw.length≤6∧br.length=pw.length∧p^pw.length≤729∧∀i,i<pw.length→rowP p pw br i
end Go.Proofs.YtlcddiojeghfgaaDoor
