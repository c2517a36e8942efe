import Derived.Test.YteoeedlcpalgbaaDoorZ26
set_option linter.unusedVariables false
set_option linter.unusedSimpArgs false
namespace Go.Proofs.YteoeedlcpalgbaaDoor
open Nat (reduceAdd reduceSub reduceGT reduceEqDiff reduceMul)
theorem FzH.push {H:HP} {i j n:Nat} {cs ds:List AV} (h1:H i=some (cs++[.h j 0 n])) (h2:H j=some ds) (hn:ds.length=n) (hij:i≠j):FzH H (upd (upd H j none) i (some (cs++[.v n ds]))):=by
  intro k cs' hk
  by_cases e:k=i
  · subst e
    rw[upd_same]at hk;cases hk
    refine⟨_,h1,by simp,fun q x y hx hy=> ?_⟩
    rw[List.getElem?_append]at hx hy
    split at hx
    · rename_i hq
      rw[if_pos hq]at hy
      rw[hx]at hy;cases hy;exact .refl _
    · rename_i hq
      rw[if_neg hq]at hy
      have hq0:q-cs.length=0:=by have:=(List.getElem?_eq_some_iff.1 hx).1;simp at this;omega
      rw[hq0]at hx hy
      simp at hx hy;subst hx;subst hy
      exact .h j 0 n ds ds h2 (by rw[upd_ne _ _ (Ne.symm hij),upd_same]) (by omega) hn (fun q x y h1 h2=>by rw[Nat.zero_add,h2]at h1;cases h1;exact .refl _)
  · rw[upd_ne _ _ e]at hk
    by_cases e2:k=j
    · subst e2;rw[upd_same]at hk;cases hk
    · rw[upd_ne _ _ e2]at hk
      exact⟨cs',hk,rfl,fun q x y h1 h2=>by rw[h1]at h2;cases h2;exact .refl _⟩
end Go.Proofs.YteoeedlcpalgbaaDoor
