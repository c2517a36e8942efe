import Derived.Test.YtlcddiojeghfgaaDoorZ16
set_option linter.unusedVariables false
set_option linter.unusedSimpArgs false
namespace Go.Proofs.YtlcddiojeghfgaaDoor
open Nat (reduceAdd reduceSub reduceGT reduceEqDiff reduceMul)
theorem Vw.ivs {H:HP} {id n:Nat} {f:Nat→Int} (h:H id=some (ivs n f)):Vw H (.h id 0 n) (ints (vec n f)):=by
  unfold Go.Proofs.YtlcddiojeghfgaaDoor.ints
  rw[vec_len,vec_map]
  exact .h id 0 n _ _ h (by rw[ivs_len];omega) ivs_len (fun k x y hx hy=>by rw[Nat.zero_add,hy]at hx;cases hx;exact .refl _)
def mixL (p:Int) (pw:List (List Int)) (k:Int) (a:List Int) (m:Int) (b:List Int):List Int:=nf p pw (fun j=>k*a.getD j 0+m*b.getD j 0)
def Sml (n:Nat) (k:Int) (a:List Int):Prop:=∀j,j<n→-400000000000000≤k*a.getD j 0∧k*a.getD j 0≤400000000000000
def unitL (n k:Nat):List Int:=vec n (fun j=>if j=k then 1 else 0)
def MvI (H:HP) (r:AV) (n:Nat) (f:Nat→Int):Prop:=(∃id,r= .h id 0 n∧H id=some (ivs n f))∨(n=0∧r= .v 0 [])
theorem MvI.vw {H:HP} {r:AV} {n:Nat} {f:Nat→Int} (h:MvI H r n f):Vw H r (ints (vec n f)):=by
  rcases h with ⟨id,rfl,h⟩|⟨rfl,rfl⟩
  · exact .ivs h
  · exact .refl _
def mulL (p:Int) (pw:List (List Int)) (k:Int) (a:List Int):List Int:=nf p pw (fun j=>k*a.getD j 0)
end Go.Proofs.YtlcddiojeghfgaaDoor
