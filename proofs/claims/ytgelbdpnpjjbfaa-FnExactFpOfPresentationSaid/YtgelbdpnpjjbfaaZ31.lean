import Derived.Test.YtgelbdpnpjjbfaaZ27
import Derived.Test.YtgelbdpnpjjbfaaZ28
import Derived.Test.YtgelbdpnpjjbfaaZ30
set_option linter.unusedVariables false
set_option linter.unusedSimpArgs false
namespace Go.Proofs.Ytgelbdpnpjjbfaa
open Nat (reduceAdd reduceSub reduceGT reduceEqDiff reduceMul)
def rvF (n : Nat) (f : Nat → Int) (x : Nat) : Nat → Int := fun t => if t < x ∨ n ≤ t + x then f (n - 1 - t) else f t
theorem rv_next {n : Nat} {f : Nat → Int} {x : Nat} (h : x < n - 1 - x) : ivs n (fset (fset (rvF n f x) x (f (n - 1 - x))) (n - 1 - x) (f x)) = ivs n (rvF n f (x + 1)) := by
  refine ivs_ext fun t ht => ?_
  unfold fset rvF
  by_cases e1 : t = n - 1 - x
  · rw [if_pos e1, if_pos (by omega), show n - 1 - t = x by omega]
  · rw [if_neg e1]
    by_cases e2 : t = x
    · rw [if_pos e2, if_pos (by omega), show n - 1 - t = n - 1 - x by omega]
    · rw [if_neg e2]
      by_cases e3 : t < x ∨ n ≤ t + x
      · rw [if_pos e3, if_pos (by omega)]
      · rw [if_neg e3, if_neg (by omega)]
theorem rv_end {n : Nat} {f : Nat → Int} {x : Nat} (h : ¬ x < n - 1 - x) (hx : x ≤ n) : ivs n (rvF n f x) = ivs n (fun t => f (n - 1 - t)) := by
  refine ivs_ext fun t ht => ?_
  unfold rvF
  by_cases e3 : t < x ∨ n ≤ t + x
  · rw [if_pos e3]
  · rw [if_neg e3, show n - 1 - t = t by omega]
set_option maxHeartbeats 1000000 in
theorem slices_Reverse_o (n : Nat) (hn : n ≤ 1048576) (f : Nat → Int) (nx : Nat) (H : HP) (id : Nat) (hH : H id = some (ivs n f)) : AC Try.prog 43 nx H [.h id 0 n] (fun _ H' _ => H' = upd H id (some (ivs n (fun t => f (n - 1 - t))))) := by
 refine AC.introx envOk Try.func43 rfl (by kernel_rfl) Try.ntmps43 Try.results43 (fun hfr => ?_)
 refine AW.sr envOk (fun N hN => ?_)
 simp -dsimp -implicitDefEqProofs (maxSteps := 800000) (disch := omega) only [go_sem, undef, reduceAdd, reduceSub, reduceGT, reduceEqDiff, reduceMul, w64, hH]
 refine hN _ ?_
 try clear hN N
 refine AW.block ?_
 refine AW.loopN (α := Nat) (fun x => sl 28 [(0, .h id 0 n), (2, .i .i64 x), (3, .i .i64 ((n : Int) - 1 - x))]) (fun x => upd H id (some (ivs n (rvF n f x)))) (fun x m => x ≤ n) (fun x => n - x) (0) ?_ ?_ (by rw [ivs_ext (f := rvF n f 0) (g := f) (fun t ht => by unfold rvF; rw [if_neg (by omega)])]; intro d cs hd; simp only [upd] at hd ⊢; grind) ?_
 ·omega
 ·simp (disch := omega) [wks, wkA, sl]
 ·skip
  rintro x m hx
  simp -dsimp -implicitDefEqProofs (maxSteps := 800000) (disch := omega) only [go_sem, undef, reduceAdd, reduceSub, reduceGT, reduceEqDiff, reduceMul]
  refine AW.seq (fun N1 hN1 => ?_)
  refine AW.sr envOk (fun N hN => ?_)
  simp -dsimp -implicitDefEqProofs (maxSteps := 800000) (disch := omega) only [go_sem, undef, reduceAdd, reduceSub, reduceGT, reduceEqDiff, reduceMul, w64, hH]
  refine hN _ ?_
  try clear hN N
  refine AW.cond rfl (fun h1 => ?_) (fun h1 => ?_)
  ·try simp only [cn] at h1
   have e1 : ((n : Int) - 1 - x).toNat = n - 1 - x := by omega
   have e2 : rvF n f x (n - 1 - x) = f (n - 1 - x) := by unfold rvF; rw [if_neg (by omega)]
   have e3 : rvF n f x x = f x := by unfold rvF; rw [if_neg (by omega)]
   have hg := rv_next (f := f) (show x < n - 1 - x by omega)
   refine AW.skip ?_
   simp only [thn, blk]
   refine hN1 _ ?_
   try clear hN1 N1
   refine AW.seq (fun N2 hN2 => ?_)
   refine AW.block ?_
   refine AW.drawT envOk (by kernel_rfl) [true, true, true, true, true, true, true, false, true, true, true, false, true, false, true, false] (.br 7 (.br 11 (.br 13 (.br 15 .nil .nil) .nil) .nil) (.br 11 (.br 7 (.br 13 (.br 15 .nil .nil) .nil) .nil) .nil)) (by kernel_rfl) ?_
   simp -dsimp -implicitDefEqProofs (maxSteps := 800000) (disch := omega) only [go_sem, undef, reduceAdd, reduceSub, reduceGT, reduceEqDiff, reduceMul, w64, hH, e1, e2, e3]
   refine ⟨?_, ?_⟩
   all_goals
    refine hN2 _ ?_
    try clear hN2 N2
    refine AW.regionL envOk ?_
    simp -dsimp -implicitDefEqProofs (maxSteps := 800000) (disch := omega) only [go_sem, undef, reduceAdd, reduceSub, reduceGT, reduceEqDiff, reduceMul, w64, hH]
    refine ⟨x + 1, ?_, (by rw [← hg]; exact fun _ _ h => h), ?_, ?_⟩
    ·simp (disch := omega) [wks, wkA, sl, w64] <;> omega
    ·omega
    ·first | omega | (simp only; omega)
  ·try simp only [cn] at h1
   refine AW.exit ?_
   simp only [thn, blk, if_true]
   have hx2 : ivs n (rvF n f x) = ivs n (fun t => f (n - 1 - t)) := rv_end (by omega) hx
   rw [hx2]
   exact ⟨_, fun _ _ h => h, rfl⟩
theorem rev_ivs (xs : List Int) : ivs xs.length (fun t => xs.getD (xs.length - 1 - t) 0) = xs.reverse.map (AV.i .i64) := by
  rw [map_ivs, List.length_reverse]
  exact ivs_ext fun k hk => by simp [List.getD_eq_getElem?_getD, List.getElem?_reverse hk]
end Go.Proofs.Ytgelbdpnpjjbfaa
