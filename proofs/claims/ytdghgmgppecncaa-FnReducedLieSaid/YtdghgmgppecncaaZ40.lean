import Derived.Test.YtdghgmgppecncaaZ39
set_option linter.unusedVariables false
set_option linter.unusedSimpArgs false
namespace Go.Proofs.Ytdghgmgppecncaa
open Nat (reduceAdd reduceSub reduceGT reduceEqDiff reduceMul)
theorem ACp.ofV {P : Program} {f : FuncId} {xs : List AV} {X : AV} (hX : NR X) (h : ∀ nx, AC P f nx noH xs (fun _ H' r => Vw H' r X)) : ACp P f xs X := by
  refine ⟨(h 0).1, fun L M w us hM ⟨n, hn⟩ ha => ((h n).2 L M w us (SR_noH hM) hn (by rw [MM_noH]; exact ha)).mono ?_⟩
  rintro e w' ⟨u, r, L', nx', H', h1, h2, h3, h4, h5, h6, h7, h8⟩
  exact ⟨u, h1, ⟨fun _ _ h => h, h7.os, h7.tape, h7.output, h7.size, h7.keep, fun b _ hb => absurd hb LB_noH⟩, (h2.sound h6 h8).nr hX⟩
theorem slices_EqualFunc_rows (a b : List (List Int)) (ha : rowslen a) (hb : rowslen b) : ACp Try.prog 280 [rows a, rows b, .f 208 []] (.b (tf (a = b))) := by
 have han := ha.n
 have hbn := hb.n
 refine ACp.intro' envOk Try.func280 rfl (by kernel_rfl) Try.ntmps280 Try.results280 (.b _) (fun nx => ?_)
 refine AW.sr envOk (fun N hN => ?_)
 simp -dsimp -implicitDefEqProofs (disch := omega) only [go_sem, undef, reduceAdd, reduceSub, reduceGT, reduceEqDiff, reduceMul, rows, gd_r, w64]
 refine hN _ ?_
 try clear hN N
 refine AW.seq (fun N1 hN1 => ?_)
 refine AW.sr envOk (fun N hN => ?_)
 simp -dsimp -implicitDefEqProofs (disch := omega) only [go_sem, undef, reduceAdd, reduceSub, reduceGT, reduceEqDiff, reduceMul, rows, gd_r, w64]
 refine hN _ ?_
 try clear hN N
 refine AW.cond rfl (fun h1 => ?_) (fun h1 => ?_)
 ·try simp only [cn] at h1
  refine AW.sr envOk (fun N hN => ?_)
  simp -dsimp -implicitDefEqProofs (disch := omega) only [go_sem, undef, reduceAdd, reduceSub, reduceGT, reduceEqDiff, reduceMul, rows, gd_r, w64]
  refine hN _ ?_
  try clear hN N
  refine AW.ret ?_
  simp -dsimp -implicitDefEqProofs (disch := omega) only [go_sem, undef, reduceAdd, reduceSub, reduceGT, reduceEqDiff, reduceMul]
  exact bt (tf_f (fun h => h1 (by rw [h]))).symm
 ·try simp only [cn] at h1
  have hl : a.length = b.length := by omega
  refine AW.skip ?_
  simp only [thn, blk]
  refine hN1 _ ?_
  try clear hN1 N1
  refine AW.seq (fun N2 hN2 => ?_)
  refine AW.sr envOk (fun N hN => ?_)
  simp -dsimp -implicitDefEqProofs (disch := omega) only [go_sem, undef, reduceAdd, reduceSub, reduceGT, reduceEqDiff, reduceMul, rows, gd_r, w64]
  refine hN _ ?_
  try clear hN N
  refine AW.block ?_
  refine AW.loopN (α := Nat) (fun x => sl 32 [(1, rows b), (2, .f 208 []), (15, rows a), (16, .i .i64 a.length), (17, .i .i64 x)]) (fun _ => noH) (fun x m => x ≤ a.length ∧ a.take x = b.take x) (fun x => a.length - x) (0) ?_ ?_ (fun _ _ h => h) ?_
  ·exact ⟨by omega, rfl⟩
  ·simp (disch := omega) [wks, wkA, sl, w64, ints, rows, cubes, rows, gd_r, w64] <;> omega
  ·skip
   rintro k m ⟨hk, hI⟩
   simp -dsimp -implicitDefEqProofs (disch := omega) only [go_sem, undef, reduceAdd, reduceSub, reduceGT, reduceEqDiff, reduceMul]
   refine AW.sr envOk (fun N hN => ?_)
   simp -dsimp -implicitDefEqProofs (disch := omega) only [go_sem, undef, reduceAdd, reduceSub, reduceGT, reduceEqDiff, reduceMul, rows, gd_r, w64]
   refine hN _ ?_
   try clear hN N
   refine AW.seq (fun N3 hN3 => ?_)
   refine AW.cond rfl (fun h2 => ?_) (fun h2 => ?_)
   ·try simp only [cn] at h2
    have hak := ha.getD k
    have hbk := hb.getD k
    refine AW.skip ?_
    simp only [thn, blk]
    refine hN3 _ ?_
    try clear hN3 N3
    refine AW.seq (fun N4 hN4 => ?_)
    refine AW.block ?_
    refine AW.sr envOk (fun N hN => ?_)
    simp -dsimp -implicitDefEqProofs (disch := omega) only [go_sem, undef, reduceAdd, reduceSub, reduceGT, reduceEqDiff, reduceMul, rows, gd_r, w64]
    refine hN _ ?_
    try clear hN N
    refine AW.sr envOk (fun N hN => ?_)
    simp -dsimp -implicitDefEqProofs (disch := omega) only [go_sem, undef, reduceAdd, reduceSub, reduceGT, reduceEqDiff, reduceMul, rows, gd_r, w64]
    refine hN _ ?_
    try clear hN N
    refine AW.sr envOk (fun N hN => ?_)
    simp -dsimp -implicitDefEqProofs (disch := omega) only [go_sem, undef, reduceAdd, reduceSub, reduceGT, reduceEqDiff, reduceMul, rows, gd_r, w64]
    refine AC.pure (.of (slices_Equal_int64_int64_ok (a.getD k []) (b.getD k []) (by omega) (by omega) )) ?_
    try simp -dsimp -implicitDefEqProofs (disch := omega) only [go_sem, undef, reduceAdd, reduceSub, reduceGT, reduceEqDiff, reduceMul, rows, gd_r, w64]
    refine hN _ ?_
    try clear hN N
    refine AW.cond rfl (fun h3 => ?_) (fun h3 => ?_)
    ·try simp only [cn] at h3
     refine AW.sr envOk (fun N hN => ?_)
     simp -dsimp -implicitDefEqProofs (disch := omega) only [go_sem, undef, reduceAdd, reduceSub, reduceGT, reduceEqDiff, reduceMul, rows, gd_r, w64]
     refine hN _ ?_
     try clear hN N
     refine AW.ret ?_
     simp -dsimp -implicitDefEqProofs (disch := omega) only [go_sem, undef, reduceAdd, reduceSub, reduceGT, reduceEqDiff, reduceMul]
     exact bt (tf_f (fun h => h3 (by rw [h]))).symm
    ·try simp only [cn] at h3
     refine AW.skip ?_
     simp only [thn, blk]
     refine hN4 _ ?_
     try clear hN4 N4
     refine AW.regionL envOk ?_
     simp -dsimp -implicitDefEqProofs (disch := omega) only [go_sem, undef, reduceAdd, reduceSub, reduceGT, reduceEqDiff, reduceMul, rows, gd_r, w64]
     refine ⟨k + 1, ?_, fun _ _ h => h, ?_, ?_⟩
     ·simp (disch := omega) [wks, wkA, sl, w64, ints, rows, cubes, rows, gd_r, w64] <;> omega
     ·exact ⟨by omega, take_ext [] hl (by omega) hI h3⟩
     ·first | omega | (simp only; omega)
   ·try simp only [cn] at h2
    refine AW.exit ?_
    simp only [thn, blk, if_true]
    refine hN2 _ ?_
    try clear hN2 N2
    refine AW.sr envOk (fun N hN => ?_)
    simp -dsimp -implicitDefEqProofs (disch := omega) only [go_sem, undef, reduceAdd, reduceSub, reduceGT, reduceEqDiff, reduceMul, rows, gd_r, w64]
    refine hN _ ?_
    try clear hN N
    refine AW.ret ?_
    simp -dsimp -implicitDefEqProofs (disch := omega) only [go_sem, undef, reduceAdd, reduceSub, reduceGT, reduceEqDiff, reduceMul]
    have hk' : k = a.length := by omega
    subst hk'
    rw [List.take_length, hl, List.take_length] at hI
    exact bt (tf_t hI).symm
theorem impl_sameRows_ok (a b : List (List Int)) (ha : rowslen a) (hb : rowslen b) : ACp Try.prog 228 [rows a, rows b] (.b (tf (a = b))) := by
 refine ACp.intro' envOk Try.func228 rfl (by kernel_rfl) Try.ntmps228 Try.results228 (.b _) (fun nx => ?_)
 refine AW.sr envOk (fun N hN => ?_)
 simp -dsimp -implicitDefEqProofs (disch := omega) only [go_sem, undef, reduceAdd, reduceSub, reduceGT, reduceEqDiff, reduceMul, ]
 refine hN _ ?_
 try clear hN N
 refine AW.sr envOk (fun N hN => ?_)
 simp -dsimp -implicitDefEqProofs (disch := omega) only [go_sem, undef, reduceAdd, reduceSub, reduceGT, reduceEqDiff, reduceMul, ]
 refine AC.pure (.of (slices_EqualFunc_rows a b ha hb )) ?_
 try simp -dsimp -implicitDefEqProofs (disch := omega) only [go_sem, undef, reduceAdd, reduceSub, reduceGT, reduceEqDiff, reduceMul, ]
 refine hN _ ?_
 try clear hN N
 refine AW.ret ?_
 simp -dsimp -implicitDefEqProofs (disch := omega) only [go_sem, undef, reduceAdd, reduceSub, reduceGT, reduceEqDiff, reduceMul]
 skip
theorem deps_len {u : List (List Int)} : (deps u).length = u.length := by simp [deps]
theorem deps_get {u : List (List Int)} {k : Nat} (h : k < u.length) : (deps u).getD k 0 = (dep (u.getD k []) : Int) := by simp [deps, h]
theorem add_mul_step {p : Int} {pw : List (List Int)} (t : Tri p pw) {v x : List Int} : mixL p pw 1 x 1 (mulL p pw (0 - x.getD (dep v) 0) v) = stepL p pw v x := by
  unfold mixL stepL
  refine nf_eq t ?_
  refine ((Cg.refl (fun j => x.getD j 0)).comb 1 1 (nf_fn t (fun j => (0 - x.getD (dep v) 0) * v.getD j 0))).trans (.of fun j _ => ?_)
  rw [Int.zero_sub]; omega
end Go.Proofs.Ytdghgmgppecncaa
