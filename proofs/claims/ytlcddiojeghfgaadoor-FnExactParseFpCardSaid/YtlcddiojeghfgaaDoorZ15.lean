import Derived.Test.YtlcddiojeghfgaaDoorZ14
set_option linter.unusedVariables false
set_option linter.unusedSimpArgs false
namespace Go.Proofs.YtlcddiojeghfgaaDoor
open Nat (reduceAdd reduceSub reduceGT reduceEqDiff reduceMul)
theorem AW.loop1 {cX:Ctx} {P:Program} {c:Code} {s:St} {K:Exit→St→Prop} (h:AW cX P c s (thn K fun _=>False)):AW cX P (.loop c) s K:=
  AW.loopN (α:=Unit) (fun _=>s.t) (fun _=>s.H) (fun _ m=>m=s.nx) (fun _=>0) () rfl (by
    have:∀t:List AV,wks t t:=by
      intro t
      induction t with
      |nil=>exact trivial
      |cons x xs ih=>exact⟨.inr (.inl rfl),ih⟩
    exact this _) (fun _ _ h=>h) (fun _ m hm=>by
      subst hm
      exact h.mono (fun e s' h=>by cases e<;>simp only[thn]at h ⊢<;>first|exact h.elim|exact h))
def nst (p:Int) (pw:List (List Int)) (i:Nat) (f:Nat→Int):Nat→Int:=fun j=>if j=i then f i%p else f j+f i/p*(pw.getD i []).getD j 0
def nrm (p:Int) (pw:List (List Int)):Nat→(Nat→Int)→Nat→Int
  |0,f=>f
  |i+1,f=>nst p pw i (nrm p pw i f)
end Go.Proofs.YtlcddiojeghfgaaDoor
