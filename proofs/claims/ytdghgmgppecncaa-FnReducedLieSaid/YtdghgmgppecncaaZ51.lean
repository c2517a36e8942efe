import Derived.Test.YtdghgmgppecncaaZ31
set_option linter.unusedVariables false
set_option linter.unusedSimpArgs false
namespace Go.Proofs.Ytdghgmgppecncaa
open Nat (reduceAdd reduceSub reduceGT reduceEqDiff reduceMul)
theorem laws_likeInts_e (a : List Int) (ha : a.length ≤ 1048576) : ACp Try.prog 44 [ints a, ints a] (.b true) := by
 refine ACp.intro' envOk Try.func44 rfl (by kernel_rfl) Try.ntmps44 Try.results44 (.b _) (fun nx => ?_)
 refine AW.sr envOk (fun N hN => ?_)
 simp -dsimp -implicitDefEqProofs (disch := omega) only [go_sem, undef, reduceAdd, reduceSub, reduceGT, reduceEqDiff, reduceMul, ints, gd_i, w64, bne_self_eq_false]
 refine hN _ ?_
 try clear hN N
 refine AW.seq (fun N1 hN1 => ?_)
 refine AW.sr envOk (fun N hN => ?_)
 simp -dsimp -implicitDefEqProofs (disch := omega) only [go_sem, undef, reduceAdd, reduceSub, reduceGT, reduceEqDiff, reduceMul, ints, gd_i, w64, bne_self_eq_false]
 refine hN _ ?_
 try clear hN N
 refine AW.condF rfl ?_
 refine AW.skip ?_
 simp only [thn, blk]
 refine hN1 _ ?_
 try clear hN1 N1
 refine AW.seq (fun N2 hN2 => ?_)
 refine AW.sr envOk (fun N hN => ?_)
 simp -dsimp -implicitDefEqProofs (disch := omega) only [go_sem, undef, reduceAdd, reduceSub, reduceGT, reduceEqDiff, reduceMul, ints, gd_i, w64, bne_self_eq_false]
 refine hN _ ?_
 try clear hN N
 refine AW.block ?_
 refine AW.loopN (α := Nat) (fun x => sl 26 [(0, ints a), (1, ints a), (5, .i .i64 x)]) (fun _ => noH) (fun x m => x ≤ a.length) (fun x => a.length - x) (0) ?_ ?_ (fun _ _ h => h) ?_
 ·omega
 ·simp (disch := omega) [wks, wkA, sl, w64, ints, rows, cubes, ints, gd_i, w64, bne_self_eq_false] <;> omega
 ·skip
  rintro k m hk
  simp -dsimp -implicitDefEqProofs (disch := omega) only [go_sem, undef, reduceAdd, reduceSub, reduceGT, reduceEqDiff, reduceMul]
  refine AW.seq (fun N3 hN3 => ?_)
  refine AW.sr envOk (fun N hN => ?_)
  simp -dsimp -implicitDefEqProofs (disch := omega) only [go_sem, undef, reduceAdd, reduceSub, reduceGT, reduceEqDiff, reduceMul, ints, gd_i, w64, bne_self_eq_false]
  refine hN _ ?_
  try clear hN N
  refine AW.cond rfl (fun h1 => ?_) (fun h1 => ?_)
  ·try simp only [cn] at h1
   refine AW.skip ?_
   simp only [thn, blk]
   refine hN3 _ ?_
   try clear hN3 N3
   refine AW.seq (fun N4 hN4 => ?_)
   refine AW.block ?_
   refine AW.seq (fun N hN => ?_)
   refine AW.drawF envOk (by kernel_rfl) [true, true, true, true, true, true, true, true, true] (by kernel_rfl) ?_
   simp -dsimp -implicitDefEqProofs (disch := omega) only [go_sem, undef, reduceAdd, reduceSub, reduceGT, reduceEqDiff, reduceMul, ints, gd_i, w64, bne_self_eq_false]
   refine hN _ ?_
   try clear hN N
   refine AW.condF rfl ?_
   refine AW.skip ?_
   simp only [thn, blk]
   refine hN4 _ ?_
   try clear hN4 N4
   refine AW.regionL envOk ?_
   simp -dsimp -implicitDefEqProofs (disch := omega) only [go_sem, undef, reduceAdd, reduceSub, reduceGT, reduceEqDiff, reduceMul, ints, gd_i, w64, bne_self_eq_false]
   refine ⟨k + 1, ?_, fun _ _ h => h, ?_, ?_⟩
   ·simp (disch := omega) [wks, wkA, sl, w64, ints, rows, cubes, ints, gd_i, w64, bne_self_eq_false] <;> omega
   ·omega
   ·first | omega | (simp only; omega)
  ·try simp only [cn] at h1
   refine AW.exit ?_
   simp only [thn, blk, if_true]
   refine hN2 _ ?_
   try clear hN2 N2
   refine AW.sr envOk (fun N hN => ?_)
   simp -dsimp -implicitDefEqProofs (disch := omega) only [go_sem, undef, reduceAdd, reduceSub, reduceGT, reduceEqDiff, reduceMul, ints, gd_i, w64, bne_self_eq_false]
   refine hN _ ?_
   try clear hN N
   refine AW.ret ?_
   simp -dsimp -implicitDefEqProofs (disch := omega) only [go_sem, undef, reduceAdd, reduceSub, reduceGT, reduceEqDiff, reduceMul]
   all_goals rfl
theorem laws_isZero5_ok (a : List Int) (ha : a.length ≤ 1048576) : ACp Try.prog 49 [ints a] (.b (tf (zeros a))) := by
 refine ACp.intro' envOk Try.func49 rfl (by kernel_rfl) Try.ntmps49 Try.results49 (.b _) (fun nx => ?_)
 refine AW.sr envOk (fun N hN => ?_)
 simp -dsimp -implicitDefEqProofs (disch := omega) only [go_sem, undef, reduceAdd, reduceSub, reduceGT, reduceEqDiff, reduceMul, ints, gd_i, w64]
 refine hN _ ?_
 try clear hN N
 refine AW.seq (fun N1 hN1 => ?_)
 refine AW.sr envOk (fun N hN => ?_)
 simp -dsimp -implicitDefEqProofs (disch := omega) only [go_sem, undef, reduceAdd, reduceSub, reduceGT, reduceEqDiff, reduceMul, ints, gd_i, w64]
 refine hN _ ?_
 try clear hN N
 refine AW.block ?_
 refine AW.loopN (α := Nat) (fun x => sl 15 [(0, ints a), (3, .i .i64 x)]) (fun _ => noH) (fun x m => x ≤ a.length ∧ ∀ j, j < x → a.getD j 0 = 0) (fun x => a.length - x) (0) ?_ ?_ (fun _ _ h => h) ?_
 ·exact ⟨by omega, fun j hj => by omega⟩
 ·simp (disch := omega) [wks, wkA, sl, w64, ints, rows, cubes, ints, gd_i, w64] <;> omega
 ·skip
  rintro k m ⟨hk, hz⟩
  simp -dsimp -implicitDefEqProofs (disch := omega) only [go_sem, undef, reduceAdd, reduceSub, reduceGT, reduceEqDiff, reduceMul]
  refine AW.seq (fun N2 hN2 => ?_)
  refine AW.sr envOk (fun N hN => ?_)
  simp -dsimp -implicitDefEqProofs (disch := omega) only [go_sem, undef, reduceAdd, reduceSub, reduceGT, reduceEqDiff, reduceMul, ints, gd_i, w64]
  refine hN _ ?_
  try clear hN N
  refine AW.cond rfl (fun h1 => ?_) (fun h1 => ?_)
  ·try simp only [cn] at h1
   refine AW.skip ?_
   simp only [thn, blk]
   refine hN2 _ ?_
   try clear hN2 N2
   refine AW.seq (fun N3 hN3 => ?_)
   refine AW.block ?_
   refine AW.sr envOk (fun N hN => ?_)
   simp -dsimp -implicitDefEqProofs (disch := omega) only [go_sem, undef, reduceAdd, reduceSub, reduceGT, reduceEqDiff, reduceMul, ints, gd_i, w64]
   refine hN _ ?_
   try clear hN N
   refine AW.cond rfl (fun h2 => ?_) (fun h2 => ?_)
   ·try simp only [cn] at h2
    refine AW.sr envOk (fun N hN => ?_)
    simp -dsimp -implicitDefEqProofs (disch := omega) only [go_sem, undef, reduceAdd, reduceSub, reduceGT, reduceEqDiff, reduceMul, ints, gd_i, w64]
    refine hN _ ?_
    try clear hN N
    refine AW.ret ?_
    simp -dsimp -implicitDefEqProofs (disch := omega) only [go_sem, undef, reduceAdd, reduceSub, reduceGT, reduceEqDiff, reduceMul]
    exact bt (tf_f (fun q => h2 (q k (by omega)))).symm
   ·try simp only [cn] at h2
    refine AW.skip ?_
    simp only [thn, blk]
    refine hN3 _ ?_
    try clear hN3 N3
    refine AW.regionL envOk ?_
    simp -dsimp -implicitDefEqProofs (disch := omega) only [go_sem, undef, reduceAdd, reduceSub, reduceGT, reduceEqDiff, reduceMul, ints, gd_i, w64]
    refine ⟨k + 1, ?_, fun _ _ h => h, ?_, ?_⟩
    ·simp (disch := omega) [wks, wkA, sl, w64, ints, rows, cubes, ints, gd_i, w64] <;> omega
    ·refine ⟨by omega, fun j hj => ?_⟩
     by_cases e : j = k
     ·subst e; exact h2
     ·exact hz j (by omega)
    ·first | omega | (simp only; omega)
  ·try simp only [cn] at h1
   refine AW.exit ?_
   simp only [thn, blk, if_true]
   refine hN1 _ ?_
   try clear hN1 N1
   refine AW.sr envOk (fun N hN => ?_)
   simp -dsimp -implicitDefEqProofs (disch := omega) only [go_sem, undef, reduceAdd, reduceSub, reduceGT, reduceEqDiff, reduceMul, ints, gd_i, w64]
   refine hN _ ?_
   try clear hN N
   refine AW.ret ?_
   simp -dsimp -implicitDefEqProofs (disch := omega) only [go_sem, undef, reduceAdd, reduceSub, reduceGT, reduceEqDiff, reduceMul]
   exact bt (tf_t (fun j hj => hz j (by omega))).symm
end Go.Proofs.Ytdghgmgppecncaa
