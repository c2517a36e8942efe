import Derived.Test.YtlcddiojeghfgaaDoorZ19
set_option linter.unusedVariables false
set_option linter.unusedSimpArgs false
namespace Go.Proofs.YtlcddiojeghfgaaDoor
open Nat (reduceAdd reduceSub reduceGT reduceEqDiff reduceMul)
theorem NR.ts {xs:List AV} (h:∀x∈xs,NR x):NR (.t xs):= .t _ (fun k x hk=>h x (List.mem_of_getElem? hk))
def LieR (p:Int) (pw:List (List Int)) (br:List (List (List Int))):Prop:=shapeP p pw br∧isFault p pw br (0,0,0,0)
theorem Flt.zero {n:Nat} {P:Nat→Nat→Prop} {J:Nat→Nat→Nat→Prop} {t:Int×Int×Int×Int} (h:Flt n P J t):t.1=0↔Flt n P J (0,0,0,0):=by
  constructor
  · intro h0
    rcases h with ⟨a,b,rfl,_⟩|⟨hn,⟨a,b,c,rfl,_⟩|⟨rfl,hz⟩⟩
    · simp at h0
    · simp at h0
    · exact .inr ⟨hn,.inr ⟨rfl,hz⟩⟩
  · intro h0
    rw[h.uniq h0]
end Go.Proofs.YtlcddiojeghfgaaDoor
