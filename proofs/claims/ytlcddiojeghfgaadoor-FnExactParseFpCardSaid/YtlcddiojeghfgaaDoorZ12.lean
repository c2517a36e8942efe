import Derived.Test.YtlcddiojeghfgaaDoorZ08
import Derived.Test.YtlcddiojeghfgaaDoorZ11
set_option linter.unusedVariables false
set_option linter.unusedSimpArgs false
namespace Go.Proofs.YtlcddiojeghfgaaDoor
open Nat (reduceAdd reduceSub reduceGT reduceEqDiff reduceMul)
structure rowslen (a:List (List Int)):Prop where
  n:a.length≤1048576
  v:∀x∈a,x.length≤1048576
structure cubeslen (a:List (List (List Int))):Prop where
  n:a.length≤1048576
  v:∀x∈a,rowslen x
theorem getD_mem {α:Type} {P:α→Prop} {xs:List α} {d:α} (h:∀x∈xs,P x) (hd:P d) (i:Nat):P (xs.getD i d):=by
  by_cases hi:i<xs.length
  · exact h _ (by simp[hi])
  · simp[List.getD_eq_getElem?_getD,List.getElem?_eq_none (Nat.le_of_not_lt hi),hd]
theorem rowslen.nil:rowslen []:=⟨by simp,by simp⟩
theorem rowslen.getD {a:List (List Int)} (h:rowslen a) (i:Nat):(a.getD i []).length≤1048576:=getD_mem (P:=fun x:List Int=>x.length≤1048576) h.v (by simp) i
theorem ringlen.of {pw:List (List Int)} {br:List (List (List Int))} (h1:rowslen pw) (h2:cubeslen br):ringlen pw br:=
  ⟨h1.n,h1.getD,h2.n,fun i=>(getD_mem h2.v .nil i).n,fun i j=>(getD_mem h2.v .nil i).getD j⟩
end Go.Proofs.YtlcddiojeghfgaaDoor
