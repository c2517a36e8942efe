import Derived.Test.YteoeedlcpalgbaaDoorZ13
set_option linter.unusedVariables false
set_option linter.unusedSimpArgs false
namespace Go.Proofs.YteoeedlcpalgbaaDoor
open Nat (reduceAdd reduceSub reduceGT reduceEqDiff reduceMul)
theorem AW.loop1 {cX:Ctx} {P:Program} {c:Code} {s:St} {K:Exit→St→Prop} (h:AW cX P c s (thn K fun _=>False)):AW cX P (.loop c) s K:=
  AW.loopN (α:=Unit) (fun _=>s.t) (fun _=>s.H) (fun _ m=>m=s.nx) (fun _=>0) () rfl (by
    have:∀t:List AV,wks t t:=by
      intro t
      induction t with
      |nil=>exact trivial
      |cons x xs ih=>exact⟨.inr (.inl rfl),ih⟩
    exact this _) (fun _ _ h=>h) (fun _ m hm=>by
      subst hm
      exact h.mono (fun e s' h=>by cases e<;>simp only[thn]at h ⊢<;>first|exact h.elim|exact h))
def nst (p:Int) (pw:List (List Int)) (i:Nat) (f:Nat→Int):Nat→Int:=fun j=>if j=i then f i%p else f j+f i/p*(pw.getD i []).getD j 0
def nrm (p:Int) (pw:List (List Int)):Nat→(Nat→Int)→Nat→Int
  |0,f=>f
  |i+1,f=>nst p pw i (nrm p pw i f)
structure Tri (p:Int) (pw:List (List Int)):Prop where
  p2:2≤p
  p7:p≤7
  n6:pw.length≤6
  len:∀i,i<pw.length→(pw.getD i []).length=pw.length
  rng:∀i j,i<pw.length→j<pw.length→0≤(pw.getD i []).getD j 0∧(pw.getD i []).getD j 0≤p-1
  tri:∀i j,i<pw.length→j≤i→(pw.getD i []).getD j 0=0
theorem shapeP.tri {p:Int} {pw:List (List Int)} {br:List (List (List Int))} (h:shapeP p pw br):Tri p pw:=by
  obtain⟨h1,h2,h3,h4,h5⟩:=h
  have h6:=pr4_bd h1
  refine⟨h6.1,h6.2,h2,fun i hi=> ?_,fun i j hi hj=> ?_,fun i j hi hj=>(h5 i hi).2.1 j hj⟩
  · have:=(h5 i hi).1.1;omega
  · have h7:=(h5 i hi).1
    exact h7.2 j (by have:=h7.1;omega)
end Go.Proofs.YteoeedlcpalgbaaDoor
