import Derived.Test.YteoeedlcpalgbaaDoorZ09
import Derived.Test.YteoeedlcpalgbaaDoorZ13
set_option linter.unusedVariables false
set_option linter.unusedSimpArgs false
namespace Go.Proofs.YteoeedlcpalgbaaDoor
open Nat (reduceAdd reduceSub reduceGT reduceEqDiff reduceMul)
theorem szSS_le (x:List (List Int)) (l:Int) (h:0≤l): -1≤szSS x l∧szSS x l≤l:=szL_le (fun x l h=>szS_le x l h) x l h
theorem szGo_mem {α:Type} {f:α→Int→Int} (hf:∀x l,0≤l→-1≤f x l∧f x l≤l):∀(xs:List α) (l:Int),0≤l→0≤szGo f xs l→∀x∈xs,∃l',0≤l'∧l'≤l∧0≤f x l':=by
  intro xs
  induction xs with
  |nil=>intro l _ _ x hx;cases hx
  | cons y ys ih=>
    intro l hl h x hx
    have hy:=hf y l hl
    simp only[szGo]at h
    split at h
    · omega
    · rcases List.mem_cons.1 hx with rfl|hx
      · exact⟨l,hl,by omega,by omega⟩
      · obtain⟨l',h1,h2,h3⟩:=ih (f y l) (by omega) h x hx
        exact⟨l',h1,by omega,h3⟩
theorem szL_mem {α:Type} {f:α→Int→Int} (hf:∀x l,0≤l→-1≤f x l∧f x l≤l) {xs:List α} {l:Int} (hl:0≤l) (h:0≤szL f xs l):(xs.length:Int)≤l∧∀x∈xs,∃l',0≤l'∧l'≤l∧0≤f x l':=by
  unfold szL at h
  split at h
  · omega
  · refine⟨by omega,fun x hx=> ?_⟩
    obtain⟨l',h1,h2,h3⟩:=szGo_mem hf xs _ (by omega) h x hx
    exact⟨l',h1,by omega,h3⟩
theorem szS_mem {a:List Int} {l:Int} (h:0≤szS a l):(a.length:Int)≤l:=by unfold szS at h;split at h<;>omega
structure rowslen (a:List (List Int)):Prop where
  n:a.length≤1048576
  v:∀x∈a,x.length≤1048576
structure cubeslen (a:List (List (List Int))):Prop where
  n:a.length≤1048576
  v:∀x∈a,rowslen x
theorem szSS_mem {a:List (List Int)} {l:Int} (hl:0≤l) (h2:l≤1048576) (h:0≤szSS a l):rowslen a:=by
  obtain⟨h3,h4⟩:=szL_mem (fun x l h=>szS_le x l h) hl h
  refine⟨by omega,fun x hx=> ?_⟩
  obtain⟨l',h5,h6,h7⟩:=h4 x hx
  have:=szS_mem h7
  omega
theorem getD_mem {α:Type} {P:α→Prop} {xs:List α} {d:α} (h:∀x∈xs,P x) (hd:P d) (i:Nat):P (xs.getD i d):=by
  by_cases hi:i<xs.length
  · exact h _ (by simp[hi])
  · simp[List.getD_eq_getElem?_getD,List.getElem?_eq_none (Nat.le_of_not_lt hi),hd]
theorem rowslen.nil:rowslen []:=⟨by simp,by simp⟩
theorem rowslen.getD {a:List (List Int)} (h:rowslen a) (i:Nat):(a.getD i []).length≤1048576:=getD_mem (P:=fun x:List Int=>x.length≤1048576) h.v (by simp) i
theorem ringlen.of {pw:List (List Int)} {br:List (List (List Int))} (h1:rowslen pw) (h2:cubeslen br):ringlen pw br:=
  ⟨h1.n,h1.getD,h2.n,fun i=>(getD_mem h2.v .nil i).n,fun i j=>(getD_mem h2.v .nil i).getD j⟩
end Go.Proofs.YteoeedlcpalgbaaDoor
