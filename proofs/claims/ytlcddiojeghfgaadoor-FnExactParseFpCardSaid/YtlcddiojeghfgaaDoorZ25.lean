import Derived.Test.YtlcddiojeghfgaaDoorZ24
set_option linter.unusedVariables false
set_option linter.unusedSimpArgs false
namespace Go.Proofs.YtlcddiojeghfgaaDoor
open Nat (reduceAdd reduceSub reduceGT reduceEqDiff reduceMul)
theorem FzH.push {H:HP} {i j n:Nat} {cs ds:List AV} (h1:H i=some (cs++[.h j 0 n])) (h2:H j=some ds) (hn:ds.length=n) (hij:i≠j):FzH H (upd (upd H j none) i (some (cs++[.v n ds]))):=by
  intro k cs' hk
  by_cases e:k=i
  · subst e
    rw[upd_same]at hk;cases hk
    refine⟨_,h1,by simp,fun q x y hx hy=> ?_⟩
    rw[List.getElem?_append]at hx hy
    split at hx
    · rename_i hq
      rw[if_pos hq]at hy
      rw[hx]at hy;cases hy;exact .refl _
    · rename_i hq
      rw[if_neg hq]at hy
      have hq0:q-cs.length=0:=by have:=(List.getElem?_eq_some_iff.1 hx).1;simp at this;omega
      rw[hq0]at hx hy
      simp at hx hy;subst hx;subst hy
      exact .h j 0 n ds ds h2 (by rw[upd_ne _ _ (Ne.symm hij),upd_same]) (by omega) hn (fun q x y h1 h2=>by rw[Nat.zero_add,h2]at h1;cases h1;exact .refl _)
  · rw[upd_ne _ _ e]at hk
    by_cases e2:k=j
    · subst e2;rw[upd_same]at hk;cases hk
    · rw[upd_ne _ _ e2]at hk
      exact⟨cs',hk,rfl,fun q x y h1 h2=>by rw[h1]at h2;cases h2;exact .refl _⟩
theorem ACp.introV {P:Program} {Γ:TEnv} (hG:GOk P Γ) {f:FuncId} {fn:Func} {c:Code} {n:Nat} {rs:Array ResultVar} (hf:P.funcs[f]? =some fn) (hb:fn.body=some c) (hn:(fn.name== "runtime.NumGoroutine")=false) (hnt:fn.ntmps=n) (hres:fn.results=rs) {xs:List AV} {r:AV} (hr:NR r)
    (h:∀nx (cX:Ctx),AW cX P c ⟨xs++List.replicate (n-xs.length) .j,noH,nx⟩ (finK Γ rs.toList fun _ H' r'=>Vw H' r' r)):ACp P f xs r:=by
  refine⟨⟨fn,hf,by rw[hb];rfl,hn⟩,?_⟩
  rintro L M w us hM ⟨nx,hfr⟩ ha
  refine((AC.intro' hG hf hb hn hnt hres (h nx)).2 L M w us (SR_noH hM) hfr (by rw[MM_noH];exact ha)).mono ?_
  rintro e w' ⟨u,r',L',nx',H',g1,g0,g2,g3,g4,g5,g6,g7⟩
  refine⟨u,g1,⟨fun _ _ h=>h,g6.os,g6.tape,g6.output,g6.size,g6.keep,fun b _ hb=>absurd hb LB_noH⟩,(g0.sound g5 g7).nr hr⟩
end Go.Proofs.YtlcddiojeghfgaaDoor
