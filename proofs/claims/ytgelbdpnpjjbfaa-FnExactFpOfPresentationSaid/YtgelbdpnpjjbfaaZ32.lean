import Derived.Test.YtgelbdpnpjjbfaaZ27
import Derived.Test.YtgelbdpnpjjbfaaZ28
set_option linter.unusedVariables false
set_option linter.unusedSimpArgs false
namespace Go.Proofs.Ytgelbdpnpjjbfaa
open Nat (reduceAdd reduceSub reduceGT reduceEqDiff reduceMul)
theorem slices_Reverse_nil (nx : Nat) (H : HP) : AC Try.prog 43 nx H [.nl] (fun _ H' _ => H' = H) := by
 refine AC.introx envOk Try.func43 rfl (by kernel_rfl) Try.ntmps43 Try.results43 (fun hfr => ?_)
 refine AW.sr envOk (fun N hN => ?_)
 simp -dsimp -implicitDefEqProofs (disch := omega) only [go_sem, undef, reduceAdd, reduceSub, reduceGT, reduceEqDiff, reduceMul, w64]
 refine hN _ ?_
 try clear hN N
 refine AW.block ?_
 refine AW.loop1 ?_
 refine AW.seq (fun N1 hN1 => ?_)
 refine AW.sr envOk (fun N hN => ?_)
 simp -dsimp -implicitDefEqProofs (disch := omega) only [go_sem, undef, reduceAdd, reduceSub, reduceGT, reduceEqDiff, reduceMul, w64]
 refine hN _ ?_
 try clear hN N
 refine AW.cond rfl (fun h => absurd h (by first| (simp; done)| (simp only [decide_eq_true_eq]; omega))) (fun _ => ?_)
 refine AW.exit ?_
 simp only [thn, blk, if_true]
 exact ⟨_, fun _ _ h => h, rfl⟩
end Go.Proofs.Ytgelbdpnpjjbfaa
