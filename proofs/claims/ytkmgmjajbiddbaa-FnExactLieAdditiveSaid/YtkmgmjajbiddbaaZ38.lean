import Derived.Test.YtkmgmjajbiddbaaZ22
import Derived.Test.YtkmgmjajbiddbaaZ37
set_option linter.unusedVariables false
set_option linter.unusedSimpArgs false
namespace Go.Proofs.Ytkmgmjajbiddbaa
open Nat (reduceAdd reduceSub reduceGT reduceEqDiff reduceMul)
theorem pow_div {p : Int} (h : 2 ≤ p) (k : Nat) : p ^ (k + 1) / p = p ^ k := by
  rw [Int.pow_succ]; exact Int.mul_ediv_cancel _ (by omega)
theorem pow_gt {p : Int} (h : 2 ≤ p) : ∀ k : Nat, 1 ≤ p ^ k := by
  intro k
  induction k with
  | zero => simp
  | succ k ih => rw [Int.pow_succ]; have := Int.mul_le_mul ih (show (1 : Int) ≤ p by omega) (by omega) (by omega); omega
theorem spec_l31Log_ok (p : Int) (hp : 2 ≤ p) (hp7 : p ≤ 7) (d : Nat) (hm : p ^ d ≤ 1000000) (hm9 : d ≤ 1000) : ACp Try.prog 62 [.i .i64 p, .i .i64 (p ^ d)] (.i .i64 d) := by
 have hpos := fun k => pow_gt hp k
 have hle : ∀ k, k ≤ d → p ^ (d - k) ≤ 1000000 := fun k hk => Int.le_trans (by
  have h1 := Int.mul_le_mul (Int.le_refl (p ^ (d - k))) (hpos k) (by omega) (by have := hpos (d - k); omega)
  rw [← Int.pow_add, Nat.sub_add_cancel hk, Int.mul_one] at h1; exact h1) hm
 refine ACp.intro' envOk Try.func62 rfl (by kernel_rfl) Try.ntmps62 Try.results62 (.i _ _) (fun nx => ?_)
 refine AW.sr envOk (fun N hN => ?_)
 simp -dsimp -implicitDefEqProofs (disch := omega) only [go_sem, undef, reduceAdd, reduceSub, reduceGT, reduceEqDiff, reduceMul, w64]
 refine hN _ ?_
 try clear hN N
 refine AW.sr envOk (fun N hN => ?_)
 simp -dsimp -implicitDefEqProofs (disch := omega) only [go_sem, undef, reduceAdd, reduceSub, reduceGT, reduceEqDiff, reduceMul, w64]
 refine hN _ ?_
 try clear hN N
 refine AW.seq (fun N1 hN1 => ?_)
 refine AW.block ?_
 refine AW.loopN (α := Nat) (fun x => sl 14 [(0, .i .i64 p), (1, .i .i64 (p ^ (d - x))), (5, .i .i64 x)]) (fun _ => noH) (fun x m => x ≤ d) (fun x => d - x) (0) ?_ ?_ (fun _ _ h => h) ?_
 ·omega
 ·simp (disch := omega) [wks, wkA, sl, w64, ints, rows, cubes, w64] <;> omega
 ·skip
  rintro k mm hk
  simp -dsimp -implicitDefEqProofs (disch := omega) only [go_sem, undef, reduceAdd, reduceSub, reduceGT, reduceEqDiff, reduceMul]
  refine AW.seq (fun N2 hN2 => ?_)
  refine AW.sr envOk (fun N hN => ?_)
  simp -dsimp -implicitDefEqProofs (disch := omega) only [go_sem, undef, reduceAdd, reduceSub, reduceGT, reduceEqDiff, reduceMul, w64]
  refine hN _ ?_
  try clear hN N
  refine AW.cond rfl (fun h1 => ?_) (fun h1 => ?_)
  ·try simp only [cn] at h1
   have hkm : k < d := by
    rcases Nat.lt_or_ge k d with h | h
    ·exact h
    ·rw [show d - k = 0 by omega, Int.pow_zero] at h1; omega
   have hq := hle k hk
   have hq2 := hpos (d - k)
   have hqt : (p ^ (d - k)).tdiv p = p ^ (d - (k + 1)) := by
    rw [Int.tdiv_eq_ediv_of_nonneg (by omega), show d - k = (d - (k + 1)) + 1 by omega, pow_div hp]
   have hq3 := hpos (d - (k + 1))
   have hq4 := hle (k + 1) (by omega)
   refine AW.skip ?_
   simp only [thn, blk]
   refine hN2 _ ?_
   try clear hN2 N2
   refine AW.block ?_
   refine AW.sr envOk (fun N hN => ?_)
   simp -dsimp -implicitDefEqProofs (disch := omega) only [go_sem, undef, reduceAdd, reduceSub, reduceGT, reduceEqDiff, reduceMul, w64, hqt]
   refine hN _ ?_
   try clear hN N
   refine AW.regionL envOk ?_
   simp -dsimp -implicitDefEqProofs (disch := omega) only [go_sem, undef, reduceAdd, reduceSub, reduceGT, reduceEqDiff, reduceMul, w64]
   refine ⟨k + 1, ?_, fun _ _ h => h, ?_, ?_⟩
   ·simp (disch := omega) [wks, wkA, sl, w64, ints, rows, cubes, w64] <;> omega
   ·omega
   ·first | omega | (simp only; omega)
  ·try simp only [cn] at h1
   refine AW.exit ?_
   simp only [thn, blk, if_true]
   refine hN1 _ ?_
   try clear hN1 N1
   refine AW.sr envOk (fun N hN => ?_)
   simp -dsimp -implicitDefEqProofs (disch := omega) only [go_sem, undef, reduceAdd, reduceSub, reduceGT, reduceEqDiff, reduceMul, w64]
   refine hN _ ?_
   try clear hN N
   refine AW.ret ?_
   simp -dsimp -implicitDefEqProofs (disch := omega) only [go_sem, undef, reduceAdd, reduceSub, reduceGT, reduceEqDiff, reduceMul]
   have hkm : k = d := by
    rcases Nat.lt_or_ge k d with h | h
    ·have h5 := hpos (d - (k + 1))
     have h6 : p ^ (d - k) = p ^ (d - (k + 1)) * p := by rw [← Int.pow_succ]; congr 1; omega
     have h7 := Int.mul_le_mul h5 hp (by omega) (by omega)
     omega
    ·omega
   rw [hkm]
end Go.Proofs.Ytkmgmjajbiddbaa
