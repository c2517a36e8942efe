import Derived.Test.YtlcddiojeghfgaaDoorZ17
set_option linter.unusedVariables false
set_option linter.unusedSimpArgs false
namespace Go.Proofs.YtlcddiojeghfgaaDoor
open Nat (reduceAdd reduceSub reduceGT reduceEqDiff reduceMul)
def brc (a b:List Int) (i r:Nat):Int:=a.getD i 0*b.getD (i+1+r) 0-a.getD (i+1+r) 0*b.getD i 0
def brow (a b:List Int) (bi:List (List Int)) (i q t:Nat):Int:=rsum q (fun r=>brc a b i r*(bi.getD r []).getD t 0)
def bsum (a b:List Int) (br:List (List (List Int))) (k t:Nat):Int:=rsum k (fun i=>brow a b (br.getD i []) i (br.getD i []).length t)
def brkL (p:Int) (pw:List (List Int)) (br:List (List (List Int))) (a b:List Int):List Int:=nf p pw (fun t=>bsum a b br pw.length t)
theorem Sml.box {n:Nat} {k C:Int} {a:List Int} (h:∀j,j<n→-C≤k*a.getD j 0∧k*a.getD j 0≤C) (hC:C≤400000000000000):Sml n k a:=fun j hj=>by have:=h j hj;omega
theorem El.vec {p:Int} {n:Nat} {f:Nat→Int} (h:Box p n f):El p n (vec n f):=⟨vec_len,fun j hj=>by rw[vec_get hj];exact h j hj⟩
end Go.Proofs.YtlcddiojeghfgaaDoor
