import Derived.Test.YtkmgmjajbiddbaaZ23
import Derived.Test.YtkmgmjajbiddbaaZ30
set_option linter.unusedVariables false
set_option linter.unusedSimpArgs false
namespace Go.Proofs.Ytkmgmjajbiddbaa
open Nat (reduceAdd reduceSub reduceGT reduceEqDiff reduceMul)
theorem nr_t0 : NR (.t []) := .t _ fun k x hk => by simp at hk
theorem nr_fl0 : Fl (.t []) := .t _ fun k x hk => by simp at hk
theorem slices_Reverse_nil (nx : Nat) (H : HP) : AC Try.prog 70 nx H [.nl] (fun _ H' _ => H' = H) := by
 refine AC.introx envOk Try.func70 rfl (by kernel_rfl) Try.ntmps70 Try.results70 (fun hfr => ?_)
 refine AW.sr envOk (fun N hN => ?_)
 simp -dsimp -implicitDefEqProofs (disch := omega) only [go_sem, undef, reduceAdd, reduceSub, reduceGT, reduceEqDiff, reduceMul, w64]
 refine hN _ ?_
 try clear hN N
 refine AW.block ?_
 refine AW.loop1 ?_
 refine AW.seq (fun N1 hN1 => ?_)
 refine AW.sr envOk (fun N hN => ?_)
 simp -dsimp -implicitDefEqProofs (disch := omega) only [go_sem, undef, reduceAdd, reduceSub, reduceGT, reduceEqDiff, reduceMul, w64]
 refine hN _ ?_
 try clear hN N
 refine AW.cond rfl (fun h => absurd h (by first| (simp; done)| (simp only [decide_eq_true_eq]; omega))) (fun _ => ?_)
 refine AW.exit ?_
 simp only [thn, blk, if_true]
 exact ⟨_, fun _ _ h => h, rfl⟩
theorem cmp_isNaN_int64_ok (a : Int) : ACp Try.prog 120 [.i .i64 a] (.b false) := by
 refine ACp.intro' envOk Try.func120 rfl (by kernel_rfl) Try.ntmps120 Try.results120 (.b _) (fun nx => ?_)
 refine AW.sr envOk (fun N hN => ?_)
 simp -dsimp -implicitDefEqProofs (disch := omega) only [go_sem, undef, reduceAdd, reduceSub, reduceGT, reduceEqDiff, reduceMul, w64]
 refine hN _ ?_
 try clear hN N
 refine AW.sr envOk (fun N hN => ?_)
 simp -dsimp -implicitDefEqProofs (disch := omega) only [go_sem, undef, reduceAdd, reduceSub, reduceGT, reduceEqDiff, reduceMul, w64]
 refine hN _ ?_
 try clear hN N
 refine AW.ret ?_
 simp -dsimp -implicitDefEqProofs (disch := omega) only [go_sem, undef, reduceAdd, reduceSub, reduceGT, reduceEqDiff, reduceMul]
 simp
theorem cmp_Less_int64_ok (a b : Int) : ACp Try.prog 108 [.i .i64 a, .i .i64 b] (.b (decide (a < b))) := by
 refine ACp.intro' envOk Try.func108 rfl (by kernel_rfl) Try.ntmps108 Try.results108 (.b _) (fun nx => ?_)
 refine AW.sr envOk (fun N hN => ?_)
 simp -dsimp -implicitDefEqProofs (disch := omega) only [go_sem, undef, reduceAdd, reduceSub, reduceGT, reduceEqDiff, reduceMul, w64]
 refine hN _ ?_
 try clear hN N
 refine AW.sr envOk (fun N hN => ?_)
 simp -dsimp -implicitDefEqProofs (disch := omega) only [go_sem, undef, reduceAdd, reduceSub, reduceGT, reduceEqDiff, reduceMul, w64]
 refine AC.pure (.of (cmp_isNaN_int64_ok a)) ?_
 try simp -dsimp -implicitDefEqProofs (disch := omega) only [go_sem, undef, reduceAdd, reduceSub, reduceGT, reduceEqDiff, reduceMul, w64]
 refine hN _ ?_
 try clear hN N
 refine AW.ret ?_
 simp -dsimp -implicitDefEqProofs (disch := omega) only [go_sem, undef, reduceAdd, reduceSub, reduceGT, reduceEqDiff, reduceMul]
 skip
theorem bits_Len64_o (n : Int) (h0 : 0 ≤ n) (hn : n < 256) (nx : Nat) (H : HP) : AC Try.prog 112 nx H [.i .u64 n] (fun _ H' r => H' = H ∧ ∃ v : Int, r = .i .i64 v) := by
 refine AC.introx envOk Try.func112 rfl (by kernel_rfl) Try.ntmps112 Try.results112 (fun hfr => ?_)
 refine AW.sr envOk (fun N hN => ?_)
 simp -dsimp -implicitDefEqProofs (disch := omega) only [go_sem, undef, reduceAdd, reduceSub, reduceGT, reduceEqDiff, reduceMul, w64]
 refine hN _ ?_
 try clear hN N
 refine AW.seq (fun N1 hN1 => ?_)
 refine AW.sr envOk (fun N hN => ?_)
 simp -dsimp -implicitDefEqProofs (disch := omega) only [go_sem, undef, reduceAdd, reduceSub, reduceGT, reduceEqDiff, reduceMul, w64]
 refine hN _ ?_
 try clear hN N
 refine AW.cond rfl (fun h1 => ?_) (fun h1 => ?_)
 ·try simp only [cn] at h1
  exact absurd h1 (by omega)
 ·try simp only [cn] at h1
  refine AW.skip ?_
  simp only [thn, blk]
  refine hN1 _ ?_
  try clear hN1 N1
  refine AW.seq (fun N2 hN2 => ?_)
  refine AW.sr envOk (fun N hN => ?_)
  simp -dsimp -implicitDefEqProofs (disch := omega) only [go_sem, undef, reduceAdd, reduceSub, reduceGT, reduceEqDiff, reduceMul, w64]
  refine hN _ ?_
  try clear hN N
  refine AW.cond rfl (fun h2 => ?_) (fun h2 => ?_)
  ·try simp only [cn] at h2
   exact absurd h2 (by omega)
  ·try simp only [cn] at h2
   refine AW.skip ?_
   simp only [thn, blk]
   refine hN2 _ ?_
   try clear hN2 N2
   refine AW.seq (fun N3 hN3 => ?_)
   refine AW.sr envOk (fun N hN => ?_)
   simp -dsimp -implicitDefEqProofs (disch := omega) only [go_sem, undef, reduceAdd, reduceSub, reduceGT, reduceEqDiff, reduceMul, w64]
   refine hN _ ?_
   try clear hN N
   refine AW.cond rfl (fun h3 => ?_) (fun h3 => ?_)
   ·try simp only [cn] at h3
    exact absurd h3 (by omega)
   ·try simp only [cn] at h3
    have hw : IntKind.wrap .u8 n = n := by
     simp [IntKind.wrap, IntKind.bits, IntKind.signed]
     omega
    refine AW.skip ?_
    simp only [thn, blk]
    refine hN3 _ ?_
    try clear hN3 N3
    refine AW.sr envOk (fun N hN => ?_)
    simp -dsimp -implicitDefEqProofs (disch := omega) only [go_sem, undef, reduceAdd, reduceSub, reduceGT, reduceEqDiff, reduceMul, w64, hw]
    refine ⟨Int.lt_of_lt_of_le hn (Int.le_of_eq (by kernel_rfl)), ?_⟩
    refine hN _ ?_
    try clear hN N
    refine AW.ret ?_
    simp -dsimp -implicitDefEqProofs (disch := omega) only [go_sem, undef, reduceAdd, reduceSub, reduceGT, reduceEqDiff, reduceMul]
    exact ⟨_, fun _ _ h => h, rfl, _, rfl⟩
theorem slices_insertionSortOrdered_int64_ok (xs : List Int) (hl : xs.length ≤ 12) (hs : ∀ j, j + 1 < xs.length → xs.getD j 0 ≤ xs.getD (j + 1) 0) : ACp Try.prog 102 [ints xs, .i .i64 0, .i .i64 xs.length] (.t []) := by
 refine ACp.intro' envOk Try.func102 rfl (by kernel_rfl) Try.ntmps102 Try.results102 nr_t0 (fun nx => ?_)
 refine AW.sr envOk (fun N hN => ?_)
 simp -dsimp -implicitDefEqProofs (disch := omega) only [go_sem, undef, reduceAdd, reduceSub, reduceGT, reduceEqDiff, reduceMul, ints, w64, gd_i]
 refine hN _ ?_
 try clear hN N
 refine AW.block ?_
 refine AW.loopN (α := Nat) (fun x => sl 49 [(0, ints xs), (1, .i .i64 0), (2, .i .i64 xs.length), (6, .i .i64 x)]) (fun _ => noH) (fun x m => 1 ≤ x ∧ x ≤ xs.length + 1) (fun x => xs.length + 1 - x) (1) ?_ ?_ (fun _ _ h => h) ?_
 ·simp
 ·simp (disch := omega) [wks, wkA, sl, w64, ints, rows, cubes, ints, w64, gd_i] <;> omega
 ·skip
  rintro k m ⟨hk1, hk⟩
  simp -dsimp -implicitDefEqProofs (disch := omega) only [go_sem, undef, reduceAdd, reduceSub, reduceGT, reduceEqDiff, reduceMul]
  refine AW.seq (fun N1 hN1 => ?_)
  refine AW.sr envOk (fun N hN => ?_)
  simp -dsimp -implicitDefEqProofs (disch := omega) only [go_sem, undef, reduceAdd, reduceSub, reduceGT, reduceEqDiff, reduceMul, ints, w64, gd_i]
  refine hN _ ?_
  try clear hN N
  refine AW.cond rfl (fun h1 => ?_) (fun h1 => ?_)
  ·try simp only [cn] at h1
   have hdk : decide ((k : Int) > 0) = true := by simp; omega
   have e7 : ((k : Int) - 1).toNat = k - 1 := by omega
   have hss := hs (k - 1) (by omega)
   rw [show k - 1 + 1 = k by omega] at hss
   refine AW.skip ?_
   simp only [thn, blk]
   refine hN1 _ ?_
   try clear hN1 N1
   refine AW.seq (fun N2 hN2 => ?_)
   refine AW.block ?_
   refine AW.sr envOk (fun N hN => ?_)
   simp -dsimp -implicitDefEqProofs (disch := omega) only [go_sem, undef, reduceAdd, reduceSub, reduceGT, reduceEqDiff, reduceMul, ints, w64, gd_i]
   refine hN _ ?_
   try clear hN N
   refine AW.block ?_
   refine AW.loop1 ?_
   refine AW.seq (fun N3 hN3 => ?_)
   refine AW.seq (fun N hN => ?_)
   refine AW.drawL envOk (by kernel_rfl) 15 (by kernel_rfl) ?_
   simp -dsimp -implicitDefEqProofs (disch := omega) only [hr_nil, hr_one, hr_if, List.take_succ_cons, List.take_zero, List.drop_succ_cons, List.drop_zero, List.take_nil, List.drop_nil, go_sem, undef, reduceAdd, reduceSub, reduceGT, reduceEqDiff, reduceMul, ints, w64, gd_i, e7, hdk]
   refine ⟨_, .of (cmp_Less_int64_ok (xs.getD k 0) (xs.getD (k - 1) 0)), ?_⟩
   try simp -dsimp -implicitDefEqProofs (disch := omega) only [go_sem, undef, reduceAdd, reduceSub, reduceGT, reduceEqDiff, reduceMul, ints, w64, gd_i]
   refine hN _ ?_
   try clear hN N
   refine AW.cond rfl (fun h => absurd h (by first| (simp; done)| (simp only [decide_eq_true_eq]; omega))) (fun _ => ?_)
   refine AW.exit ?_
   simp only [thn, blk, if_true]
   refine hN2 _ ?_
   try clear hN2 N2
   refine AW.regionL envOk ?_
   simp -dsimp -implicitDefEqProofs (disch := omega) only [go_sem, undef, reduceAdd, reduceSub, reduceGT, reduceEqDiff, reduceMul, ints, w64, gd_i]
   refine ⟨k + 1, ?_, fun _ _ h => h, ?_, ?_⟩
   ·simp (disch := omega) [wks, wkA, sl, w64, ints, rows, cubes, ints, w64, gd_i] <;> omega
   ·exact ⟨by first| omega| (simp only; omega)| (dsimp only; omega), by first| omega| (simp only; omega)| (dsimp only; omega)⟩
   ·first | omega | (simp only; omega)
  ·try simp only [cn] at h1
   refine AW.exit ?_
   simp only [thn, blk, if_true]
   simp only [finK, resop, oneOr]
theorem bits_Len_o (n : Int) (h0 : 0 ≤ n) (hn : n < 256) (nx : Nat) (H : HP) : AC Try.prog 93 nx H [.i .u64 n] (fun _ H' r => H' = H ∧ ∃ v : Int, r = .i .i64 v) := by
 refine AC.introx envOk Try.func93 rfl (by kernel_rfl) Try.ntmps93 Try.results93 (fun hfr => ?_)
 refine AW.sr envOk (fun N hN => ?_)
 simp -dsimp -implicitDefEqProofs (disch := omega) only [go_sem, undef, reduceAdd, reduceSub, reduceGT, reduceEqDiff, reduceMul, w64]
 refine hN _ ?_
 try clear hN N
 refine AW.seq (fun N1 hN1 => ?_)
 refine AW.condF rfl ?_
 refine AW.skip ?_
 simp only [thn, blk]
 refine hN1 _ ?_
 try clear hN1 N1
 refine AW.sr envOk (fun N hN => ?_)
 simp -dsimp -implicitDefEqProofs (disch := omega) only [go_sem, undef, reduceAdd, reduceSub, reduceGT, reduceEqDiff, reduceMul, w64]
 refine (bits_Len64_o n h0 hn _ _).mono2 ?_
 rintro m1 H1 r1 hm1 ⟨rfl, v, rfl⟩
 try simp -dsimp -implicitDefEqProofs (disch := omega) only [go_sem, undef, reduceAdd, reduceSub, reduceGT, reduceEqDiff, reduceMul, w64]
 refine hN _ ?_
 try clear hN N
 refine AW.ret ?_
 simp -dsimp -implicitDefEqProofs (disch := omega) only [go_sem, undef, reduceAdd, reduceSub, reduceGT, reduceEqDiff, reduceMul]
 exact ⟨_, fun _ _ h => h, rfl, _, rfl⟩
theorem slices_pdqsortOrdered_int64_ok (xs : List Int) (hl : xs.length ≤ 12) (hs : ∀ j, j + 1 < xs.length → xs.getD j 0 ≤ xs.getD (j + 1) 0) (v : Int) : ACp Try.prog 92 [ints xs, .i .i64 0, .i .i64 xs.length, .i .i64 v] (.t []) := by
 refine ACp.intro' envOk Try.func92 rfl (by kernel_rfl) Try.ntmps92 Try.results92 nr_t0 (fun nx => ?_)
 refine AW.sr envOk (fun N hN => ?_)
 simp -dsimp -implicitDefEqProofs (disch := omega) only [go_sem, undef, reduceAdd, reduceSub, reduceGT, reduceEqDiff, reduceMul, w64]
 refine hN _ ?_
 try clear hN N
 refine AW.sr envOk (fun N hN => ?_)
 simp -dsimp -implicitDefEqProofs (disch := omega) only [go_sem, undef, reduceAdd, reduceSub, reduceGT, reduceEqDiff, reduceMul, w64]
 refine hN _ ?_
 try clear hN N
 refine AW.block ?_
 refine AW.loopN (α := Nat) (fun x => sl 134 [(0, ints xs), (1, .i .i64 0), (2, .i .i64 xs.length), (3, .i .i64 v), (8, .b true), (9, .b true)]) (fun _ => noH) (fun x m => x = 0) (fun x => 0) (0) ?_ ?_ (fun _ _ h => h) ?_
 ·rfl
 ·simp (disch := omega) [wks, wkA, sl, w64, ints, rows, cubes, w64] <;> omega
 ·skip
  rintro k m hk
  simp -dsimp -implicitDefEqProofs (disch := omega) only [go_sem, undef, reduceAdd, reduceSub, reduceGT, reduceEqDiff, reduceMul]
  refine AW.block ?_
  refine AW.sr envOk (fun N hN => ?_)
  simp -dsimp -implicitDefEqProofs (disch := omega) only [go_sem, undef, reduceAdd, reduceSub, reduceGT, reduceEqDiff, reduceMul, w64]
  refine hN _ ?_
  try clear hN N
  refine AW.seq (fun N1 hN1 => ?_)
  refine AW.sr envOk (fun N hN => ?_)
  simp -dsimp -implicitDefEqProofs (disch := omega) only [go_sem, undef, reduceAdd, reduceSub, reduceGT, reduceEqDiff, reduceMul, w64]
  refine hN _ ?_
  try clear hN N
  refine AW.cond rfl (fun h1 => ?_) (fun h1 => ?_)
  ·try simp only [cn] at h1
   refine AW.sr envOk (fun N hN => ?_)
   simp -dsimp -implicitDefEqProofs (disch := omega) only [go_sem, undef, reduceAdd, reduceSub, reduceGT, reduceEqDiff, reduceMul, w64]
   refine AC.pure (.of (slices_insertionSortOrdered_int64_ok xs hl hs)) ?_
   try simp -dsimp -implicitDefEqProofs (disch := omega) only [go_sem, undef, reduceAdd, reduceSub, reduceGT, reduceEqDiff, reduceMul, w64]
   refine hN _ ?_
   try clear hN N
   refine AW.ret ?_
   simp -dsimp -implicitDefEqProofs (disch := omega) only [go_sem, undef, reduceAdd, reduceSub, reduceGT, reduceEqDiff, reduceMul]
   skip
  ·try simp only [cn] at h1
   exact absurd h1 (by omega)
theorem slices_Sort_o (xs : List Int) (hl : xs.length ≤ 12) (hs : ∀ j, j + 1 < xs.length → xs.getD j 0 ≤ xs.getD (j + 1) 0) (id nx : Nat) (H : HP) (hH : H id = some (xs.map (.i .i64))) : AC Try.prog 69 nx H [.h id 0 xs.length] (fun _ H' _ => H' = H) := by
 have hw : IntKind.wrap .u64 (xs.length : Int) = xs.length := by
  simp [IntKind.wrap, IntKind.bits, IntKind.signed]
  omega
 refine AC.introx envOk Try.func69 rfl (by kernel_rfl) Try.ntmps69 Try.results69 (fun hfr => ?_)
 refine AW.sr envOk (fun N hN => ?_)
 simp -dsimp -implicitDefEqProofs (disch := omega) only [go_sem, undef, reduceAdd, reduceSub, reduceGT, reduceEqDiff, reduceMul, w64]
 refine hN _ ?_
 try clear hN N
 refine AW.regionL envOk ?_
 simp -dsimp -implicitDefEqProofs (disch := omega) only [go_sem, undef, reduceAdd, reduceSub, reduceGT, reduceEqDiff, reduceMul, w64, hw]
 refine (bits_Len_o xs.length (by omega) (by omega) _ _).mono2 ?_
 rintro m1 H1 r1 hm1 ⟨rfl, v, rfl⟩
 try simp -dsimp -implicitDefEqProofs (disch := omega) only [go_sem, undef, reduceAdd, reduceSub, reduceGT, reduceEqDiff, reduceMul, w64]
 refine AC.pure (.lent (slices_pdqsortOrdered_int64_ok xs hl hs v) (.cons (Vw.blk hH (by rw [List.length_map])) (.cons (.refl _) (.cons (.refl _) (.cons (.refl _) .nil)))) nr_fl0) ?_
 try simp -dsimp -implicitDefEqProofs (disch := omega) only [go_sem, undef, reduceAdd, reduceSub, reduceGT, reduceEqDiff, reduceMul, w64]
 exact ⟨_, fun _ _ h => h, rfl⟩
end Go.Proofs.Ytkmgmjajbiddbaa
