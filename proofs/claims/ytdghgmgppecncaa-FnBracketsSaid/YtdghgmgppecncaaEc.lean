/-
  The dice of the laws; lists compared and held against zero by the laws.
-/
import Derived.Test.YtdghgmgppecncaaEb
set_option linter.unusedVariables false
set_option linter.unusedSimpArgs false
namespace Go.Proofs.Ytdghgmgppecncaa
open Nat (reduceAdd reduceSub reduceGT reduceEqDiff reduceMul)

theorem laws_likeInts_e (a : List Int) (ha : a.length ≤ 1048576) : ACp Try.prog 44 [ints a, ints a] (.b true) := by
 refine ACp.intro' envOk Try.func44 rfl (by kernel_rfl) Try.ntmps44 Try.results44 (.b _) (fun nx => ?_)
 refine AW.sr envOk (fun N hN => ?_)
 simp -dsimp -implicitDefEqProofs (disch := omega) only [go_sem, undef, reduceAdd, reduceSub, reduceGT, reduceEqDiff, reduceMul, ints, gd_i, w64, bne_self_eq_false]
 refine hN _ ?_
 try clear hN N
 refine AW.seq (fun N1 hN1 => ?_)
 refine AW.sr envOk (fun N hN => ?_)
 simp -dsimp -implicitDefEqProofs (disch := omega) only [go_sem, undef, reduceAdd, reduceSub, reduceGT, reduceEqDiff, reduceMul, ints, gd_i, w64, bne_self_eq_false]
 refine hN _ ?_
 try clear hN N
 refine AW.condF rfl ?_
 refine AW.skip ?_
 simp only [thn, blk]
 refine hN1 _ ?_
 try clear hN1 N1
 refine AW.seq (fun N2 hN2 => ?_)
 refine AW.sr envOk (fun N hN => ?_)
 simp -dsimp -implicitDefEqProofs (disch := omega) only [go_sem, undef, reduceAdd, reduceSub, reduceGT, reduceEqDiff, reduceMul, ints, gd_i, w64, bne_self_eq_false]
 refine hN _ ?_
 try clear hN N
 refine AW.block ?_
 refine AW.loopN (α := Nat) (fun x => sl 26 [(0, ints a), (1, ints a), (5, .i .i64 x)]) (fun _ => noH) (fun x m => x ≤ a.length) (fun x => a.length - x) (0) ?_ ?_ (fun _ _ h => h) ?_
 ·omega
 ·simp (disch := omega) [wks, wkA, sl, w64, ints, rows, cubes, ints, gd_i, w64, bne_self_eq_false] <;> omega
 ·skip
  rintro k m hk
  simp -dsimp -implicitDefEqProofs (disch := omega) only [go_sem, undef, reduceAdd, reduceSub, reduceGT, reduceEqDiff, reduceMul]
  refine AW.seq (fun N3 hN3 => ?_)
  refine AW.sr envOk (fun N hN => ?_)
  simp -dsimp -implicitDefEqProofs (disch := omega) only [go_sem, undef, reduceAdd, reduceSub, reduceGT, reduceEqDiff, reduceMul, ints, gd_i, w64, bne_self_eq_false]
  refine hN _ ?_
  try clear hN N
  refine AW.cond rfl (fun h1 => ?_) (fun h1 => ?_)
  ·try simp only [cn] at h1
   refine AW.skip ?_
   simp only [thn, blk]
   refine hN3 _ ?_
   try clear hN3 N3
   refine AW.seq (fun N4 hN4 => ?_)
   refine AW.block ?_
   refine AW.seq (fun N hN => ?_)
   refine AW.drawF envOk (by kernel_rfl) [true, true, true, true, true, true, true, true, true] (by kernel_rfl) ?_
   simp -dsimp -implicitDefEqProofs (disch := omega) only [go_sem, undef, reduceAdd, reduceSub, reduceGT, reduceEqDiff, reduceMul, ints, gd_i, w64, bne_self_eq_false]
   refine hN _ ?_
   try clear hN N
   refine AW.condF rfl ?_
   refine AW.skip ?_
   simp only [thn, blk]
   refine hN4 _ ?_
   try clear hN4 N4
   refine AW.regionL envOk ?_
   simp -dsimp -implicitDefEqProofs (disch := omega) only [go_sem, undef, reduceAdd, reduceSub, reduceGT, reduceEqDiff, reduceMul, ints, gd_i, w64, bne_self_eq_false]
   refine ⟨k + 1, ?_, fun _ _ h => h, ?_, ?_⟩
   ·simp (disch := omega) [wks, wkA, sl, w64, ints, rows, cubes, ints, gd_i, w64, bne_self_eq_false] <;> omega
   ·omega
   ·first | omega | (simp only; omega)
  ·try simp only [cn] at h1
   refine AW.exit ?_
   simp only [thn, blk, if_true]
   refine hN2 _ ?_
   try clear hN2 N2
   refine AW.sr envOk (fun N hN => ?_)
   simp -dsimp -implicitDefEqProofs (disch := omega) only [go_sem, undef, reduceAdd, reduceSub, reduceGT, reduceEqDiff, reduceMul, ints, gd_i, w64, bne_self_eq_false]
   refine hN _ ?_
   try clear hN N
   refine AW.ret ?_
   simp -dsimp -implicitDefEqProofs (disch := omega) only [go_sem, undef, reduceAdd, reduceSub, reduceGT, reduceEqDiff, reduceMul]
   all_goals rfl

theorem laws_isZero5_ok (a : List Int) (ha : a.length ≤ 1048576) : ACp Try.prog 49 [ints a] (.b (tf (zeros a))) := by
 refine ACp.intro' envOk Try.func49 rfl (by kernel_rfl) Try.ntmps49 Try.results49 (.b _) (fun nx => ?_)
 refine AW.sr envOk (fun N hN => ?_)
 simp -dsimp -implicitDefEqProofs (disch := omega) only [go_sem, undef, reduceAdd, reduceSub, reduceGT, reduceEqDiff, reduceMul, ints, gd_i, w64]
 refine hN _ ?_
 try clear hN N
 refine AW.seq (fun N1 hN1 => ?_)
 refine AW.sr envOk (fun N hN => ?_)
 simp -dsimp -implicitDefEqProofs (disch := omega) only [go_sem, undef, reduceAdd, reduceSub, reduceGT, reduceEqDiff, reduceMul, ints, gd_i, w64]
 refine hN _ ?_
 try clear hN N
 refine AW.block ?_
 refine AW.loopN (α := Nat) (fun x => sl 15 [(0, ints a), (3, .i .i64 x)]) (fun _ => noH) (fun x m => x ≤ a.length ∧ ∀ j, j < x → a.getD j 0 = 0) (fun x => a.length - x) (0) ?_ ?_ (fun _ _ h => h) ?_
 ·exact ⟨by omega, fun j hj => by omega⟩
 ·simp (disch := omega) [wks, wkA, sl, w64, ints, rows, cubes, ints, gd_i, w64] <;> omega
 ·skip
  rintro k m ⟨hk, hz⟩
  simp -dsimp -implicitDefEqProofs (disch := omega) only [go_sem, undef, reduceAdd, reduceSub, reduceGT, reduceEqDiff, reduceMul]
  refine AW.seq (fun N2 hN2 => ?_)
  refine AW.sr envOk (fun N hN => ?_)
  simp -dsimp -implicitDefEqProofs (disch := omega) only [go_sem, undef, reduceAdd, reduceSub, reduceGT, reduceEqDiff, reduceMul, ints, gd_i, w64]
  refine hN _ ?_
  try clear hN N
  refine AW.cond rfl (fun h1 => ?_) (fun h1 => ?_)
  ·try simp only [cn] at h1
   refine AW.skip ?_
   simp only [thn, blk]
   refine hN2 _ ?_
   try clear hN2 N2
   refine AW.seq (fun N3 hN3 => ?_)
   refine AW.block ?_
   refine AW.sr envOk (fun N hN => ?_)
   simp -dsimp -implicitDefEqProofs (disch := omega) only [go_sem, undef, reduceAdd, reduceSub, reduceGT, reduceEqDiff, reduceMul, ints, gd_i, w64]
   refine hN _ ?_
   try clear hN N
   refine AW.cond rfl (fun h2 => ?_) (fun h2 => ?_)
   ·try simp only [cn] at h2
    refine AW.sr envOk (fun N hN => ?_)
    simp -dsimp -implicitDefEqProofs (disch := omega) only [go_sem, undef, reduceAdd, reduceSub, reduceGT, reduceEqDiff, reduceMul, ints, gd_i, w64]
    refine hN _ ?_
    try clear hN N
    refine AW.ret ?_
    simp -dsimp -implicitDefEqProofs (disch := omega) only [go_sem, undef, reduceAdd, reduceSub, reduceGT, reduceEqDiff, reduceMul]
    exact bt (tf_f (fun q => h2 (q k (by omega)))).symm
   ·try simp only [cn] at h2
    refine AW.skip ?_
    simp only [thn, blk]
    refine hN3 _ ?_
    try clear hN3 N3
    refine AW.regionL envOk ?_
    simp -dsimp -implicitDefEqProofs (disch := omega) only [go_sem, undef, reduceAdd, reduceSub, reduceGT, reduceEqDiff, reduceMul, ints, gd_i, w64]
    refine ⟨k + 1, ?_, fun _ _ h => h, ?_, ?_⟩
    ·simp (disch := omega) [wks, wkA, sl, w64, ints, rows, cubes, ints, gd_i, w64] <;> omega
    ·refine ⟨by omega, fun j hj => ?_⟩
     by_cases e : j = k
     ·subst e; exact h2
     ·exact hz j (by omega)
    ·first | omega | (simp only; omega)
  ·try simp only [cn] at h1
   refine AW.exit ?_
   simp only [thn, blk, if_true]
   refine hN1 _ ?_
   try clear hN1 N1
   refine AW.sr envOk (fun N hN => ?_)
   simp -dsimp -implicitDefEqProofs (disch := omega) only [go_sem, undef, reduceAdd, reduceSub, reduceGT, reduceEqDiff, reduceMul, ints, gd_i, w64]
   refine hN _ ?_
   try clear hN N
   refine AW.ret ?_
   simp -dsimp -implicitDefEqProofs (disch := omega) only [go_sem, undef, reduceAdd, reduceSub, reduceGT, reduceEqDiff, reduceMul]
   exact bt (tf_t (fun j hj => hz j (by omega))).symm

theorem msk_bd (A : Int) : 0 ≤ IntKind.i64.wrap (IntKind.u64.wrap ↑(BitVec.ofInt IntKind.u64.bits A &&& BitVec.ofInt IntKind.u64.bits 16777215).toNat) ∧ IntKind.i64.wrap (IntKind.u64.wrap ↑(BitVec.ofInt IntKind.u64.bits A &&& BitVec.ofInt IntKind.u64.bits 16777215).toNat) ≤ 16777215 := by
  have h : (BitVec.ofInt IntKind.u64.bits A &&& BitVec.ofInt IntKind.u64.bits 16777215).toNat ≤ 16777215 := by
    rw [BitVec.toNat_and]
    exact Nat.le_trans Nat.and_le_right (by decide)
  obtain ⟨N, hN⟩ : ∃ N, (BitVec.ofInt IntKind.u64.bits A &&& BitVec.ofInt IntKind.u64.bits 16777215).toNat = N := ⟨_, rfl⟩
  rw [hN] at h ⊢
  have e : IntKind.u64.wrap (N : Int) = N := by
    rw [IntKind.wrap_u64]; omega
  rw [e, w64 (by omega) (by omega)]
  omega
theorem rem_bd {x n : Int} (h : 0 ≤ x) (hn : 1 ≤ n) : 0 ≤ x.tmod n ∧ x.tmod n < n := by
  rw [Int.tmod_eq_emod_of_nonneg h]
  exact ⟨Int.emod_nonneg _ (by omega), Int.emod_lt_of_pos _ (by omega)⟩
/-- The block of dice. -/
def dcB (bs : List Int) (i h : Int) : List AV := [byts bs, .i .i64 i, .i .u64 h]
theorem laws_roll_n (bs : List Int) (hb : bytsok bs) (hb4 : bs.length ≤ 4096) (sd : Int) (nx : Nat) : AC Try.prog 45 nx noH [byts bs, .i .u64 sd] (fun nx' H' r => ∃ id h, r = .q id 0 ∧ nx ≤ id ∧ id < nx' ∧ H' id = some (dcB bs 0 h)) := by
 refine AC.introx envOk Try.func45 rfl (by kernel_rfl) Try.ntmps45 Try.results45 (fun hfr => ?_)
 refine AW.sr envOk (fun N hN => ?_)
 simp -dsimp -implicitDefEqProofs (disch := omega) only [go_sem, undef, reduceAdd, reduceSub, reduceGT, reduceEqDiff, reduceMul, w64, byts]
 refine hN _ ?_
 try clear hN N
 refine AW.sr envOk (fun N hN => ?_)
 simp -dsimp -implicitDefEqProofs (disch := omega) only [go_sem, undef, reduceAdd, reduceSub, reduceGT, reduceEqDiff, reduceMul, w64, byts]
 refine hN _ ?_
 try clear hN N
 refine AW.seq (fun N1 hN1 => ?_)
 refine AW.sr envOk (fun N hN => ?_)
 simp -dsimp -implicitDefEqProofs (disch := omega) only [go_sem, undef, reduceAdd, reduceSub, reduceGT, reduceEqDiff, reduceMul, w64, byts]
 refine hN _ ?_
 try clear hN N
 refine AW.block ?_
 refine AW.nameH (fun G hG => ?_)
 dsimp only at hG
 obtain ⟨h0, hg⟩ : ∃ h0, G (nx + 1 + 8) = some (dcB bs 0 h0) := ⟨_, by rw [← hG, upd_same]; rfl⟩
 refine AW.loopN (α := Nat × Int) (fun x => sl 38 [(0, byts bs), (5, .q (nx + 1 + 8) 0), (6, .i .i64 x.1)]) (fun x => upd noH (nx + 1 + 8) (some (dcB bs 0 x.2))) (fun x m => x.1 ≤ bs.length ∧ nx + 9 < m) (fun x => bs.length - x.1) ((0, h0)) ?_ ?_ (by intro d cs hd; dsimp only at hd; (by_cases e : d = nx + 1 + 8); (subst e; rw [upd_same] at hd; cases hd; exact hg); (rw [upd_ne _ _ e] at hd; cases hd)) ?_
 ·exact ⟨Nat.zero_le _, by first| omega| (simp only; omega)| (dsimp only; omega)⟩
 ·simp (disch := omega) [wks, wkA, sl, byts] <;> omega
 ·skip
  rintro ⟨k, h⟩ m ⟨hk, hm⟩
  dsimp only at hk hm ⊢
  simp only [byts, dcB]
  simp -dsimp -implicitDefEqProofs (disch := omega) only [go_sem, undef, reduceAdd, reduceSub, reduceGT, reduceEqDiff, reduceMul]
  refine AW.seq (fun N2 hN2 => ?_)
  refine AW.sr envOk (fun N hN => ?_)
  simp -dsimp -implicitDefEqProofs (disch := omega) only [go_sem, undef, reduceAdd, reduceSub, reduceGT, reduceEqDiff, reduceMul, w64, byts]
  refine hN _ ?_
  try clear hN N
  refine AW.cond rfl (fun h1 => ?_) (fun h1 => ?_)
  ·try simp only [cn] at h1
   refine AW.skip ?_
   simp only [thn, blk]
   refine hN2 _ ?_
   try clear hN2 N2
   refine AW.seq (fun N3 hN3 => ?_)
   refine AW.block ?_
   refine AW.drawL envOk (by kernel_rfl) 15 (by kernel_rfl) ?_
   simp -dsimp -implicitDefEqProofs (disch := omega) only [hr_nil, hr_one, hr_if, List.take_succ_cons, List.take_zero, List.drop_succ_cons, List.drop_zero, List.take_nil, List.drop_nil, go_sem, undef, reduceAdd, reduceSub, reduceGT, reduceEqDiff, reduceMul, w64, byts, gd_u8]
   refine hN3 _ ?_
   try clear hN3 N3
   refine AW.nameH (fun G hG => ?_)
   dsimp only at hG
   obtain ⟨h1', hg⟩ : ∃ h0, G (nx + 1 + 8) = some (dcB bs 0 h0) := ⟨_, by rw [← hG, upd_same]; rfl⟩
   refine AW.regionL envOk ?_
   simp -dsimp -implicitDefEqProofs (disch := omega) only [go_sem, undef, reduceAdd, reduceSub, reduceGT, reduceEqDiff, reduceMul, w64, byts]
   refine ⟨(k + 1, h1'), ?_, by intro d cs hd; dsimp only at hd; (by_cases e : d = nx + 1 + 8); (subst e; rw [upd_same] at hd; cases hd; exact hg); (rw [upd_ne _ _ e] at hd; cases hd), ?_, ?_⟩
   ·simp (disch := omega) [wks, wkA, sl, byts] <;> omega
   ·(try dsimp only); omega
   ·first | omega | (simp only; omega)
  ·try simp only [cn] at h1
   refine AW.exit ?_
   simp only [thn, blk, if_true]
   refine hN1 _ ?_
   try clear hN1 N1
   refine AW.sr envOk (fun N hN => ?_)
   simp -dsimp -implicitDefEqProofs (disch := omega) only [go_sem, undef, reduceAdd, reduceSub, reduceGT, reduceEqDiff, reduceMul, w64, byts]
   refine hN _ ?_
   try clear hN N
   refine AW.ret ?_
   simp -dsimp -implicitDefEqProofs (disch := omega) only [go_sem, undef, reduceAdd, reduceSub, reduceGT, reduceEqDiff, reduceMul]
   exact ⟨_, fun _ _ h => h, nx + 1 + 8, h, rfl, by omega, by omega, upd_same _ _ _⟩

theorem laws_below_o (bs : List Int) (hb : bytsok bs) (hb4 : bs.length ≤ 4096) (i h : Int) (hi : 0 ≤ i ∧ i ≤ bs.length) (n : Int) (hn : 1 ≤ n ∧ n ≤ 1000000000) (nx : Nat) (H : HP) (did : Nat) (hH : H did = some (dcB bs i h)) : AC Try.prog 46 nx H [.q did 0, .i .i64 n] (fun _ H' r => ∃ (x i' h' : Int), r = .i .i64 x ∧ (0 ≤ x ∧ x < n) ∧ (0 ≤ i' ∧ i' ≤ bs.length) ∧ H' = upd H did (some (dcB bs i' h'))) := by
 have hH2 := hH
 unfold dcB byts at hH2
 refine AC.introx envOk Try.func46 rfl (by kernel_rfl) Try.ntmps46 Try.results46 (fun hfr => ?_)
 refine AW.sr envOk (fun N hN => ?_)
 simp -dsimp -implicitDefEqProofs (disch := omega) only [go_sem, undef, reduceAdd, reduceSub, reduceGT, reduceEqDiff, reduceMul, w64, hH2]
 refine hN _ ?_
 try clear hN N
 refine AW.sr envOk (fun N hN => ?_)
 simp -dsimp -implicitDefEqProofs (disch := omega) only [go_sem, undef, reduceAdd, reduceSub, reduceGT, reduceEqDiff, reduceMul, w64, hH2]
 refine hN _ ?_
 try clear hN N
 obtain ⟨h2, hh2⟩ : ∃ h2, IntKind.u64.wrap (IntKind.u64.wrap (h * 6364136223846793005) + 1442695040888963407) = h2 := ⟨_, rfl⟩
 rw [hh2]
 refine AW.sr envOk (fun N hN => ?_)
 simp -dsimp -implicitDefEqProofs (disch := omega) only [go_sem, undef, reduceAdd, reduceSub, reduceGT, reduceEqDiff, reduceMul, w64, hH2]
 refine hN _ ?_
 try clear hN N
 refine AW.seq (fun N1 hN1 => ?_)
 have hm := msk_bd (h2.fdiv (2 ^ min (Int.toNat 33) 64))
 generalize IntKind.i64.wrap (IntKind.u64.wrap ↑(BitVec.ofInt IntKind.u64.bits (h2.fdiv (2 ^ min (Int.toNat 33) 64)) &&& BitVec.ofInt IntKind.u64.bits 16777215).toNat) = x0 at hm ⊢
 refine AW.seq (fun N hN => ?_)
 refine AW.drawL envOk (by kernel_rfl) 10 (by kernel_rfl) ?_
 simp -dsimp -implicitDefEqProofs (disch := omega) only [hr_nil, hr_one, hr_if, List.take_succ_cons, List.take_zero, List.drop_succ_cons, List.drop_zero, List.take_nil, List.drop_nil, go_sem, undef, reduceAdd, reduceSub, reduceGT, reduceEqDiff, reduceMul, w64, hH2]
 refine hN _ ?_
 try clear hN N
 refine AW.cond rfl (fun h1 => ?_) (fun h1 => ?_)
 ·try simp only [cn] at h1
  have hbi := hb.get (k := i.toNat) (by omega)
  refine AW.seq (fun N hN => ?_)
  refine AW.drawL envOk (by kernel_rfl) 14 (by kernel_rfl) ?_
  simp -dsimp -implicitDefEqProofs (disch := omega) only [hr_nil, hr_one, hr_if, List.take_succ_cons, List.take_zero, List.drop_succ_cons, List.drop_zero, List.take_nil, List.drop_nil, go_sem, undef, reduceAdd, reduceSub, reduceGT, reduceEqDiff, reduceMul, w64, hH2, gd_u8]
  refine hN _ ?_
  try clear hN N
  refine AW.regionL envOk ?_
  simp -dsimp -implicitDefEqProofs (disch := omega) only [go_sem, undef, reduceAdd, reduceSub, reduceGT, reduceEqDiff, reduceMul, w64, hH2]
  refine hN1 _ ?_
  try clear hN1 N1
  refine AW.sr envOk (fun N hN => ?_)
  simp -dsimp -implicitDefEqProofs (disch := omega) only [go_sem, undef, reduceAdd, reduceSub, reduceGT, reduceEqDiff, reduceMul, w64, hH2]
  refine hN _ ?_
  try clear hN N
  refine AW.ret ?_
  simp -dsimp -implicitDefEqProofs (disch := omega) only [go_sem, undef, reduceAdd, reduceSub, reduceGT, reduceEqDiff, reduceMul]
  exact ⟨_, fun _ _ h => h, _, i + 1, h2, rfl, rem_bd (by omega) hn.1, by omega, rfl⟩
 ·try simp only [cn] at h1
  refine AW.skip ?_
  simp only [thn, blk]
  refine hN1 _ ?_
  try clear hN1 N1
  refine AW.sr envOk (fun N hN => ?_)
  simp -dsimp -implicitDefEqProofs (disch := omega) only [go_sem, undef, reduceAdd, reduceSub, reduceGT, reduceEqDiff, reduceMul, w64, hH2]
  refine hN _ ?_
  try clear hN N
  refine AW.ret ?_
  simp -dsimp -implicitDefEqProofs (disch := omega) only [go_sem, undef, reduceAdd, reduceSub, reduceGT, reduceEqDiff, reduceMul]
  exact ⟨_, fun _ _ h => h, _, i, h2, rfl, rem_bd (by omega) hn.1, by omega, rfl⟩

end Go.Proofs.Ytdghgmgppecncaa
