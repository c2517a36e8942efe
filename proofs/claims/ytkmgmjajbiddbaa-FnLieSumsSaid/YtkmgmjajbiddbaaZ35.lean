import Derived.Test.YtkmgmjajbiddbaaZ34
set_option linter.unusedVariables false
set_option linter.unusedSimpArgs false
namespace Go.Proofs.Ytkmgmjajbiddbaa
open Nat (reduceAdd reduceSub reduceGT reduceEqDiff reduceMul)
noncomputable def cntL (p : Int) (pw : List (List Int)) (k : Nat) : List Int := (List.range k).map fun j => p ^ wK p pw j
theorem cntL_s {p : Int} {pw : List (List Int)} (k : Nat) : cntL p pw (k + 1) = cntL p pw k ++ [p ^ wK p pw k] := by
  unfold cntL; rw [List.range_succ, List.map_append]; rfl
theorem cntL_len {p : Int} {pw : List (List Int)} (k : Nat) : (cntL p pw k).length = k := by simp [cntL]
theorem cntL_get {p : Int} {pw : List (List Int)} {k j : Nat} (h : j < k) : (cntL p pw k).getD j 0 = p ^ wK p pw j := by
  simp [cntL, h]
theorem pow_quo {p : Int} (h : 2 ≤ p) {a b : Nat} (hab : a ≤ b) : (p ^ b).tdiv (p ^ a) = p ^ (b - a) := by
  have h1 := pow_gt h a
  have h2 := pow_gt h b
  rw [Int.tdiv_eq_ediv_of_nonneg (by omega), show b = (b - a) + a by omega, Int.pow_add, Int.mul_ediv_cancel _ (by omega), Nat.add_sub_cancel]
theorem pow_lt' {p : Int} (h : 2 ≤ p) {a b : Nat} : p ^ a ≤ p ^ b ↔ a ≤ b := by
  constructor
  · intro hab
    apply Classical.byContradiction
    intro hn
    have h1 := pow_gt h (a - b - 1)
    have h2 := pow_gt h b
    have h3 : p ^ a = p ^ b * (p ^ (a - b - 1) * p) := by rw [← Int.pow_succ, ← Int.pow_add]; congr 1; omega
    have h4 : 2 ≤ p ^ (a - b - 1) * p := by
      have := Int.mul_le_mul h1 h (by omega) (by omega)
      omega
    have h5 := Int.mul_le_mul (Int.le_refl (p ^ b)) h4 (by omega) (by omega)
    omega
  · exact pw_le h
theorem rep_s {a : Int} {j : Nat} {l : List Int} : a :: (List.replicate j a ++ l) = List.replicate (j + 1) a ++ l := by rw [List.replicate_succ]; rfl
set_option maxHeartbeats 2000000 in
theorem spec_l31Additive_ok (p : Int) (pw : List (List Int)) (br : List (List (List Int))) (h : shapeP p pw br) : ACp Try.prog 32 [ring p pw br] (ints (addL p pw)) := by
 have ht := h.tri
 have hp := h.1
 have h6 := ht.n6
 have hp2 := ht.p2
 have hp7 := ht.p7
 have hsz : capPow p pw.length = p ^ pw.length := by have h1 := capPow_eq h.1 pw.length; have h2 := h.2.2.2.1; omega
 have h9 := h.2.2.2.1
 have hpos := pow_gt hp2 pw.length
 have hsize := spec_l31Size_ok p pw.length h.1 (by omega)
 rw [hsz] at hsize
 have hszk : ∀ k, k ≤ pw.length → capPow p k = p ^ k := fun k hk => by
  have h1 := capPow_eq h.1 k
  have h2 := pw_le hp2 hk
  omega
 have hwl := fun k => wK_le ht hp k
 have hwm := fun k => wK_s ht hp k
 refine ACp.introV envOk Try.func32 rfl (by kernel_rfl) Try.ntmps32 Try.results32 ((ints_nr _)) (fun nx => ?_)
 refine AW.sr envOk (fun N hN => ?_)
 simp -dsimp -implicitDefEqProofs (disch := omega) only [go_sem, undef, reduceAdd, reduceSub, reduceGT, reduceEqDiff, reduceMul, ring, ringP, w64, gd_i]
 refine hN _ ?_
 try clear hN N
 refine AW.freezeQ 1 nx _ rfl (upd_same _ _ _) ?_
 simp -dsimp -implicitDefEqProofs (disch := omega) only [go_sem, undef, reduceAdd, reduceSub, reduceGT, reduceEqDiff, reduceMul]
 refine AW.sr envOk (fun N hN => ?_)
 simp -dsimp -implicitDefEqProofs (disch := omega) only [go_sem, undef, reduceAdd, reduceSub, reduceGT, reduceEqDiff, reduceMul, ring, ringP, w64, gd_i]
 refine hN _ ?_
 try clear hN N
 refine AW.sr envOk (fun N hN => ?_)
 simp -dsimp -implicitDefEqProofs (disch := omega) only [go_sem, undef, reduceAdd, reduceSub, reduceGT, reduceEqDiff, reduceMul, ring, ringP, w64, gd_i]
 refine hN _ ?_
 try clear hN N
 refine AW.seq (fun N1 hN1 => ?_)
 refine AW.sr envOk (fun N hN => ?_)
 simp -dsimp -implicitDefEqProofs (disch := omega) only [go_sem, undef, reduceAdd, reduceSub, reduceGT, reduceEqDiff, reduceMul, ring, ringP, w64, gd_i]
 refine hN _ ?_
 try clear hN N
 refine AW.block ?_
 refine AW.loopN (α := Nat × Nat) (fun x => sl 62 [(1, ringP p pw br), (3, .i .i64 pw.length), (4, .h x.2 0 x.1), (5, .i .i64 (p ^ x.1))]) (fun x => upd noH x.2 (some ((cntL p pw x.1).map (.i .i64)))) (fun x m => x.1 ≤ pw.length + 1 ∧ nx ≤ x.2 ∧ x.2 < m) (fun x => pw.length + 1 - x.1) ((0, nx + 6)) ?_ ?_ (by intro d cs hd; simp only [upd, noH, cntL, List.range_zero, List.map_nil] at hd ⊢; grind) ?_
 ·exact ⟨by simp, by first| omega| (simp only; omega)| (dsimp only; omega), by first| omega| (simp only; omega)| (dsimp only; omega)⟩
 ·simp (disch := omega) [wks, wkA, sl, rows, ringP]
 ·skip
  rintro ⟨k, id⟩ m ⟨hk, hid1, hid2⟩
  dsimp only at hk hid1 hid2
  have hpk := pow_gt hp2 k
  have hpk7 : p ^ k ≤ 729 * 7 := by
   rcases Nat.lt_or_ge pw.length k with h5 | h5
   ·obtain rfl : k = pw.length + 1 := by omega
    rw [Int.pow_succ]
    exact Int.mul_le_mul h9 hp7 (by omega) (by omega)
   ·have := pw_le hp2 h5; omega
  have hcl := cntL_len (p := p) (pw := pw) k
  simp -dsimp -implicitDefEqProofs (disch := omega) only [go_sem, undef, reduceAdd, reduceSub, reduceGT, reduceEqDiff, reduceMul]
  refine AW.seq (fun N2 hN2 => ?_)
  refine AW.sr envOk (fun N hN => ?_)
  simp -dsimp -implicitDefEqProofs (disch := omega) only [go_sem, undef, reduceAdd, reduceSub, reduceGT, reduceEqDiff, reduceMul, ring, ringP, w64, gd_i]
  refine AC.pure (.of (hsize )) ?_
  try simp -dsimp -implicitDefEqProofs (disch := omega) only [go_sem, undef, reduceAdd, reduceSub, reduceGT, reduceEqDiff, reduceMul, ring, ringP, w64, gd_i]
  refine hN _ ?_
  try clear hN N
  refine AW.cond rfl (fun h1 => ?_) (fun h1 => ?_)
  ·try simp only [cn] at h1
   have htk : List.take k ((cntL p pw k).map (AV.i .i64)) = (cntL p pw k).map (AV.i .i64) := List.take_of_length_le (by rw [List.length_map, hcl]; exact Nat.le_refl _)
   have hkn : k ≤ pw.length := (pow_lt' hp2).1 (by omega)
   have hk9 := pw_le hp2 hkn
   have hps : p ^ k * p = p ^ (k + 1) := (Int.pow_succ p k).symm
   have hps2 : p ^ k * p ≤ 729 * 7 := Int.mul_le_mul (by omega) hp7 (by omega) (by omega)
   have hps3 : 0 ≤ p ^ k * p := Int.mul_nonneg (by omega) (by omega)
   refine AW.skip ?_
   simp only [thn, blk]
   refine hN2 _ ?_
   try clear hN2 N2
   refine AW.seq (fun N3 hN3 => ?_)
   refine AW.block ?_
   refine AW.regionL envOk ?_
   simp -dsimp -implicitDefEqProofs (disch := omega) only [go_sem, undef, reduceAdd, reduceSub, reduceGT, reduceEqDiff, reduceMul, ring, ringP, w64, gd_i]
   refine AC.pure (.of (spec_l31Killed_ok p pw br h k (by omega))) ?_
   try simp -dsimp -implicitDefEqProofs (disch := omega) only [go_sem, undef, reduceAdd, reduceSub, reduceGT, reduceEqDiff, reduceMul, ring, ringP, w64, gd_i]
   refine hN3 _ ?_
   try clear hN3 N3
   refine AW.regionL envOk ?_
   simp -dsimp -implicitDefEqProofs (disch := omega) only [go_sem, undef, reduceAdd, reduceSub, reduceGT, reduceEqDiff, reduceMul, ring, ringP, w64, gd_i]
   refine ⟨(k + 1, m + 6 + 5), ?_, by rw [cntL_s]; intro d cs hd; simp only [upd, noH, htk, List.map_append, List.map_cons, List.map_nil] at hd ⊢; grind, ?_, ?_⟩
   ·simp (disch := omega) [wks, wkA, sl, w64, rows, ringP, hps, hcl] <;> omega
   ·exact ⟨by first| omega| (simp only; omega)| (dsimp only; omega), by first| omega| (simp only; omega)| (dsimp only; omega), by first| omega| (simp only; omega)| (dsimp only; omega)⟩
   ·first | omega | (simp only; omega)
  ·try simp only [cn] at h1
   have hkn : k = pw.length + 1 := by
    apply Classical.byContradiction
    intro hn
    have := pw_le hp2 (show k ≤ pw.length by omega)
    omega
   subst hkn
   rw [cntL_len] at hcl
   refine AW.exit ?_
   simp only [thn, blk, if_true]
   refine hN1 _ ?_
   try clear hN1 N1
   refine AW.sr envOk (fun N hN => ?_)
   simp -dsimp -implicitDefEqProofs (disch := omega) only [go_sem, undef, reduceAdd, reduceSub, reduceGT, reduceEqDiff, reduceMul, ring, ringP, w64, gd_i]
   refine hN _ ?_
   try clear hN N
   refine AW.seq (fun N4 hN4 => ?_)
   refine AW.sr envOk (fun N hN => ?_)
   simp -dsimp -implicitDefEqProofs (disch := omega) only [go_sem, undef, reduceAdd, reduceSub, reduceGT, reduceEqDiff, reduceMul, ring, ringP, w64, gd_i]
   refine hN _ ?_
   try clear hN N
   refine AW.block ?_
   refine AW.freeze 4 id (pw.length + 1) ((cntL p pw (pw.length + 1)).map (.i .i64)) rfl (by simp (disch := omega) only [upd_same, upd_ne]) (by simp [cntL_len]) ?_
   have hcv : AV.v (pw.length + 1) ((cntL p pw (pw.length + 1)).map (.i .i64)) = ints (cntL p pw (pw.length + 1)) := by unfold ints; rw [cntL_len]
   rw [hcv]
   refine AW.loopN (α := Nat × Nat) (fun x => sl 62 [(1, ringP p pw br), (4, ints (cntL p pw (pw.length + 1))), (6, .h x.2 0 (facL (dK p pw) p (pw.length - x.1) x.1).length), (7, .i .i64 x.1)]) (fun x => upd noH x.2 (some ((facL (dK p pw) p (pw.length - x.1) x.1).map (.i .i64)))) (fun x m => x.1 ≤ pw.length ∧ nx ≤ x.2 ∧ x.2 < m) (fun x => x.1) ((pw.length, m + 6)) ?_ ?_ (by intro d cs hd; simp only [upd, noH, facL, Nat.sub_self, List.map_nil] at hd ⊢; grind) ?_
   ·exact ⟨by simp, by first| omega| (simp only; omega)| (dsimp only; omega), by first| omega| (simp only; omega)| (dsimp only; omega)⟩
   ·simp (disch := omega) [wks, wkA, sl, w64, rows, ringP, facL] <;> omega
   ·skip
    rintro ⟨k, id2⟩ m2 ⟨hk, hid3, hid4⟩
    dsimp only at hk hid3 hid4
    have hfl := fac_len (p := p) (d := dK p pw) (fun k => dK_le ht hp k) (pw.length - k) k
    have hdz := dK_n ht hp (wK_n ht hp) 0
    rw [Nat.add_zero] at hdz
    rw [show k + (pw.length - k) = pw.length by omega, hdz, Nat.sub_zero] at hfl
    simp -dsimp -implicitDefEqProofs (disch := omega) only [go_sem, undef, reduceAdd, reduceSub, reduceGT, reduceEqDiff, reduceMul]
    refine AW.seq (fun N5 hN5 => ?_)
    refine AW.sr envOk (fun N hN => ?_)
    simp -dsimp -implicitDefEqProofs (disch := omega) only [go_sem, undef, reduceAdd, reduceSub, reduceGT, reduceEqDiff, reduceMul, ring, ringP, w64, gd_i]
    refine hN _ ?_
    try clear hN N
    refine AW.cond rfl (fun h2 => ?_) (fun h2 => ?_)
    ·try simp only [cn] at h2
     have hk1 : 0 < k := by omega
     obtain ⟨k, rfl⟩ : ∃ k', k = k' + 1 := ⟨k - 1, by omega⟩
     have e7 : (((k + 1 : Nat) : Int) - 1).toNat = k := by omega
     have hcl2 := cntL_len (p := p) (pw := pw) (pw.length + 1)
     have g1 := cntL_get (p := p) (pw := pw) (k := pw.length + 1) (j := k + 1) (by omega)
     have g2 := cntL_get (p := p) (pw := pw) (k := pw.length + 1) (j := k) (by omega)
     have hq := pow_quo hp2 (a := wK p pw k) (b := wK p pw (k + 1)) (by have := hwm k; omega)
     rw [hwm k, Nat.add_sub_cancel, ← hwm k] at hq
     have b1 := pow_gt hp2 (wK p pw k)
     have b2 := pow_gt hp2 (wK p pw (k + 1))
     have b3 := pw_le hp2 (hwl k)
     have b4 := pw_le hp2 (hwl (k + 1))
     have b5 := pow_gt hp2 (dK p pw k)
     have hdk : dK p pw k ≤ pw.length := by have := hwm k; have := hwl (k + 1); omega
     have b6 := pw_le hp2 hdk
     have hdl := dK_le ht hp k
     refine AW.skip ?_
     simp only [thn, blk]
     refine hN5 _ ?_
     try clear hN5 N5
     refine AW.seq (fun N6 hN6 => ?_)
     refine AW.block ?_
     refine AW.seq (fun N hN => ?_)
     refine AW.drawF envOk (by kernel_rfl) [true, true, true, true, true, true, true, true, true, true, true, true, true, true] (by kernel_rfl) ?_
     simp -dsimp -implicitDefEqProofs (disch := omega) only [go_sem, undef, reduceAdd, reduceSub, reduceGT, reduceEqDiff, reduceMul, ring, ringP, w64, gd_i, ints, e7, g1, g2, hq]
     refine ⟨_, .of (spec_l31Log_ok p hp2 hp7 (dK p pw k) (by omega) (by omega)), ?_⟩
     try simp -dsimp -implicitDefEqProofs (disch := omega) only [go_sem, undef, reduceAdd, reduceSub, reduceGT, reduceEqDiff, reduceMul, ring, ringP, w64, gd_i]
     refine hN _ ?_
     try clear hN N
     refine AW.block ?_
     refine AW.loopN (α := Nat × Nat) (fun x => sl 62 [(1, ringP p pw br), (4, ints (cntL p pw (pw.length + 1))), (6, .h x.2 0 (x.1 + (facL (dK p pw) p (pw.length - (k + 1)) (k + 1)).length)), (7, .i .i64 (k + 1 : Nat)), (8, .i .i64 (dK p pw k))]) (fun x => upd noH x.2 (some ((List.replicate x.1 (p ^ (k + 1)) ++ facL (dK p pw) p (pw.length - (k + 1)) (k + 1)).map (.i .i64)))) (fun x m => x.1 + dK p pw (k + 1) ≤ dK p pw k ∧ nx ≤ x.2 ∧ x.2 < m) (fun x => dK p pw k - x.1) ((0, id2)) ?_ ?_ (by simp only [List.replicate_zero, List.nil_append]; exact Le.refl _) ?_
     ·exact ⟨by simp; omega, by first| omega| (simp only; omega)| (dsimp only; omega), by first| omega| (simp only; omega)| (dsimp only; omega)⟩
     ·simp (disch := omega) [wks, wkA, sl, w64, ints, rows, cubes, ring, ringP, w64, gd_i] <;> omega
     ·skip
      rintro ⟨j, id3⟩ m3 ⟨hj, hid5, hid6⟩
      dsimp only at hj hid5 hid6
      have hfl2 := fac_len (p := p) (d := dK p pw) (fun k => dK_le ht hp k) (pw.length - (k + 1)) (k + 1)
      rw [show k + 1 + (pw.length - (k + 1)) = pw.length by omega, hdz, Nat.sub_zero] at hfl2
      have hsz2 := spec_l31Size_ok p (k + 1) h.1 (by omega)
      rw [hszk (k + 1) (by omega)] at hsz2
      have hrl : (List.replicate j (p ^ (k + 1)) ++ facL (dK p pw) p (pw.length - (k + 1)) (k + 1)).length = j + (facL (dK p pw) p (pw.length - (k + 1)) (k + 1)).length := by rw [List.length_append, List.length_replicate]
      have htk2 : List.take (j + (facL (dK p pw) p (pw.length - (k + 1)) (k + 1)).length) ((List.replicate j (p ^ (k + 1)) ++ facL (dK p pw) p (pw.length - (k + 1)) (k + 1)).map (AV.i .i64)) = (List.replicate j (p ^ (k + 1)) ++ facL (dK p pw) p (pw.length - (k + 1)) (k + 1)).map (AV.i .i64) := List.take_of_length_le (by rw [List.length_map, hrl]; exact Nat.le_refl _)
      have hone : (∀ z ∈ List.take (j + (facL (dK p pw) p (pw.length - (k + 1)) (k + 1)).length) ((List.replicate j (p ^ (k + 1)) ++ facL (dK p pw) p (pw.length - (k + 1)) (k + 1)).map (AV.i .i64)), one z = true) = True := eq_true fun z hz => by
       obtain ⟨a, _, rfl⟩ := List.mem_map.1 (List.mem_of_mem_take hz)
       rfl
      have hmn := Nat.min_self (j + (facL (dK p pw) p (pw.length - (k + 1)) (k + 1)).length)
      simp -dsimp -implicitDefEqProofs (disch := omega) only [go_sem, undef, reduceAdd, reduceSub, reduceGT, reduceEqDiff, reduceMul]
      refine AW.seq (fun N7 hN7 => ?_)
      refine AW.sr envOk (fun N hN => ?_)
      simp -dsimp -implicitDefEqProofs (disch := omega) only [go_sem, undef, reduceAdd, reduceSub, reduceGT, reduceEqDiff, reduceMul, ring, ringP, w64, gd_i]
      refine hN _ ?_
      try clear hN N
      refine AW.cond rfl (fun h3 => ?_) (fun h3 => ?_)
      ·try simp only [cn] at h3
       refine AW.skip ?_
       simp only [thn, blk]
       refine hN7 _ ?_
       try clear hN7 N7
       refine AW.block ?_
       refine AW.regionL envOk ?_
       simp -dsimp -implicitDefEqProofs (disch := omega) only [go_sem, undef, reduceAdd, reduceSub, reduceGT, reduceEqDiff, reduceMul, ring, ringP, w64, gd_i]
       refine AC.pure (.of (hsz2 )) ?_
       try simp -dsimp -implicitDefEqProofs (disch := omega) only [go_sem, undef, reduceAdd, reduceSub, reduceGT, reduceEqDiff, reduceMul, ring, ringP, w64, gd_i]
       try simp -dsimp -implicitDefEqProofs (disch := omega) only [go_sem, undef, reduceAdd, reduceSub, reduceGT, reduceEqDiff, reduceMul, hone, hmn]
       refine ⟨(j + 1, m3 + 4 + 6), ?_, by rw [← rep_s]; intro d cs hd; simp only [upd, noH, htk2, List.map_append, List.map_cons, List.map_nil, List.cons_append, List.nil_append] at hd ⊢; grind, ?_, ?_⟩
       ·simp (disch := omega) [wks, wkA, sl, w64, rows, ringP, ints] <;> omega
       ·exact ⟨by first| omega| (simp only; omega)| (dsimp only; omega), by first| omega| (simp only; omega)| (dsimp only; omega), by first| omega| (simp only; omega)| (dsimp only; omega)⟩
       ·first | omega | (simp only; omega)
      ·try simp only [cn] at h3
       have hje : j = dK p pw k - dK p pw (k + 1) := by omega
       have hfs : facL (dK p pw) p (pw.length - k) k = List.replicate j (p ^ (k + 1)) ++ facL (dK p pw) p (pw.length - (k + 1)) (k + 1) := by rw [show pw.length - k = (pw.length - (k + 1)) + 1 by omega, facL, hje]
       refine AW.exit ?_
       simp only [thn, blk, if_true]
       refine hN6 _ ?_
       try clear hN6 N6
       refine AW.regionL envOk ?_
       simp -dsimp -implicitDefEqProofs (disch := omega) only [go_sem, undef, reduceAdd, reduceSub, reduceGT, reduceEqDiff, reduceMul, ring, ringP, w64, gd_i]
       refine ⟨(k, id3), ?_, by rw [hfs]; exact Le.refl _, ?_, ?_⟩
       ·simp (disch := omega) [wks, wkA, sl, w64, rows, ringP, ints, hfs]
       ·exact ⟨by first| omega| (simp only; omega)| (dsimp only; omega), by first| omega| (simp only; omega)| (dsimp only; omega), by first| omega| (simp only; omega)| (dsimp only; omega)⟩
       ·first | omega | (simp only; omega)
    ·try simp only [cn] at h2
     refine AW.exit ?_
     simp only [thn, blk, if_true]
     refine hN4 _ ?_
     try clear hN4 N4
     refine AW.sr envOk (fun N hN => ?_)
     simp -dsimp -implicitDefEqProofs (disch := omega) only [go_sem, undef, reduceAdd, reduceSub, reduceGT, reduceEqDiff, reduceMul, ring, ringP, w64, gd_i]
     refine hN _ ?_
     try clear hN N
     refine AW.ret ?_
     simp -dsimp -implicitDefEqProofs (disch := omega) only [go_sem, undef, reduceAdd, reduceSub, reduceGT, reduceEqDiff, reduceMul]
     obtain rfl : k = 0 := by omega
     rw [add_fac]
     have := Vw.blk (H := upd noH id2 (some ((facL (dK p pw) p (pw.length - 0) 0).map (AV.i .i64)))) (upd_same _ _ _) (show (facL (dK p pw) p (pw.length - 0) 0).length = ((facL (dK p pw) p (pw.length - 0) 0).map (AV.i .i64)).length by rw [List.length_map])
     unfold ints
     exact this
end Go.Proofs.Ytkmgmjajbiddbaa
