import Derived.Test.YtdghgmgppecncaaZ38
set_option linter.unusedVariables false
set_option linter.unusedSimpArgs false
namespace Go.Proofs.Ytdghgmgppecncaa
open Nat (reduceAdd reduceSub reduceGT reduceEqDiff reduceMul)
theorem dep_snoc {u : List (List Int)} {k : Nat} (h : k < u.length) : List.map (fun b => AV.i .i64 (dep b)) (u.take k) ++ [AV.i .i64 (dep (u.getD k []))] = List.map (fun b => AV.i .i64 (dep b)) (u.take (k + 1)) := by
  rw [List.take_add_one, List.map_append]
  congr 1
  simp [h]
def deps (u : List (List Int)) : List Int := u.map fun b => (dep b : Int)
theorem impl_pivots_ok (n : Nat) (u : List (List Int)) (hn : n ≤ 6) (hu : u.length ≤ 1048576) (hl : ∀ k, k < u.length → (u.getD k []).length = n ∧ dep (u.getD k []) < n) : ACp Try.prog 191 [rows u] (ints (deps u)) := by
 refine ACp.introV envOk Try.func191 rfl (by kernel_rfl) Try.ntmps191 Try.results191 ((ints_nr _)) (fun nx => ?_)
 refine AW.sr envOk (fun N hN => ?_)
 simp -dsimp -implicitDefEqProofs (disch := omega) only [go_sem, undef, reduceAdd, reduceSub, reduceGT, reduceEqDiff, reduceMul, rows, gd_r, w64, Nat.min_eq_left]
 refine hN _ ?_
 try clear hN N
 refine AW.sr envOk (fun N hN => ?_)
 simp -dsimp -implicitDefEqProofs (disch := omega) only [go_sem, undef, reduceAdd, reduceSub, reduceGT, reduceEqDiff, reduceMul, rows, gd_r, w64, Nat.min_eq_left]
 refine hN _ ?_
 try clear hN N
 refine AW.seq (fun N1 hN1 => ?_)
 refine AW.sr envOk (fun N hN => ?_)
 simp -dsimp -implicitDefEqProofs (disch := omega) only [go_sem, undef, reduceAdd, reduceSub, reduceGT, reduceEqDiff, reduceMul, rows, gd_r, w64, Nat.min_eq_left]
 refine hN _ ?_
 try clear hN N
 refine AW.block ?_
 refine AW.loopN (α := Nat × Option Nat) (fun x => sl 19 [(3, oA x.2 x.1), (6, rows u), (7, .i .i64 u.length), (8, .i .i64 x.1)]) (fun x => oH noH x.2 ((u.take x.1).map fun b => AV.i .i64 (dep b))) (fun x m => (x.1 ≤ u.length ∧ nx ≤ m) ∧ (x.2 = none → x.1 = 0) ∧ (∀ id, x.2 = some id → nx ≤ id ∧ id < m)) (fun x => u.length - x.1) ((0, none)) ?_ ?_ (fun _ _ h => h) ?_
 ·exact ⟨⟨by simp, by first| omega| (simp only; omega)| (dsimp only; omega)⟩, fun _ => rfl, by simp⟩
 ·simp [wks, wkA, sl, rows, oA]
 ·skip
  rintro ⟨k, _ | id⟩ m ⟨⟨hk, hm⟩, h0, hid⟩
  ·skip
   simp -dsimp -implicitDefEqProofs (disch := omega) only [go_sem, undef, reduceAdd, reduceSub, reduceGT, reduceEqDiff, reduceMul]
   dsimp only [oA, oH] at hk hm h0 hid ⊢
   have hk0 : k = 0 := h0 rfl
   refine AW.sr envOk (fun N hN => ?_)
   simp -dsimp -implicitDefEqProofs (disch := omega) only [go_sem, undef, reduceAdd, reduceSub, reduceGT, reduceEqDiff, reduceMul, rows, gd_r, w64, Nat.min_eq_left]
   refine hN _ ?_
   try clear hN N
   refine AW.seq (fun N2 hN2 => ?_)
   refine AW.cond rfl (fun h1 => ?_) (fun h1 => ?_)
   ·try simp only [cn] at h1
    obtain ⟨hl1, hl2⟩ := hl k (by omega)
    refine AW.skip ?_
    simp only [thn, blk]
    refine hN2 _ ?_
    try clear hN2 N2
    refine AW.seq (fun N3 hN3 => ?_)
    refine AW.block ?_
    refine AW.sr envOk (fun N hN => ?_)
    simp -dsimp -implicitDefEqProofs (disch := omega) only [go_sem, undef, reduceAdd, reduceSub, reduceGT, reduceEqDiff, reduceMul, rows, gd_r, w64, Nat.min_eq_left]
    refine hN _ ?_
    try clear hN N
    refine AW.regionL envOk ?_
    simp -dsimp -implicitDefEqProofs (disch := omega) only [go_sem, undef, reduceAdd, reduceSub, reduceGT, reduceEqDiff, reduceMul, rows, gd_r, w64, Nat.min_eq_left]
    refine AC.pure (.of (slices_IndexFunc_nz (u.getD k []) (by omega) (by omega) )) ?_
    try simp -dsimp -implicitDefEqProofs (disch := omega) only [go_sem, undef, reduceAdd, reduceSub, reduceGT, reduceEqDiff, reduceMul, rows, gd_r, w64, Nat.min_eq_left]
    refine hN3 _ ?_
    try clear hN3 N3
    refine AW.regionL envOk ?_
    simp -dsimp -implicitDefEqProofs (disch := omega) only [go_sem, undef, reduceAdd, reduceSub, reduceGT, reduceEqDiff, reduceMul, rows, gd_r, w64, Nat.min_eq_left]
    refine ⟨(k + 1, some (m + 1 + 3 + 4)), ?_, by subst hk0; rw [← dep_snoc (by omega)]; intro d cs hd; simp only [oH, upd, noH] at hd ⊢; grind, ?_, ?_⟩
    ·simp (disch := omega) [wks, wkA, sl, rows, oA, w64] <;> omega
    ·exact ⟨⟨by omega, by first| omega| (simp only; omega)| (dsimp only; omega)⟩, by simp, by simp; omega⟩
    ·first | omega | (simp only; omega)
   ·try simp only [cn] at h1
    refine AW.exit ?_
    simp only [thn, blk, if_true]
    refine hN1 _ ?_
    try clear hN1 N1
    refine AW.sr envOk (fun N hN => ?_)
    simp -dsimp -implicitDefEqProofs (disch := omega) only [go_sem, undef, reduceAdd, reduceSub, reduceGT, reduceEqDiff, reduceMul, rows, gd_r, w64, Nat.min_eq_left]
    refine hN _ ?_
    try clear hN N
    refine AW.ret ?_
    simp -dsimp -implicitDefEqProofs (disch := omega) only [go_sem, undef, reduceAdd, reduceSub, reduceGT, reduceEqDiff, reduceMul]
    have h00 : u = [] := List.length_eq_zero_iff.1 (by omega)
    subst h00
    exact .nl
  ·skip
   simp -dsimp -implicitDefEqProofs (disch := omega) only [go_sem, undef, reduceAdd, reduceSub, reduceGT, reduceEqDiff, reduceMul]
   dsimp only [oA, oH] at hk hm h0 hid ⊢
   have hidm := hid id rfl
   refine AW.sr envOk (fun N hN => ?_)
   simp -dsimp -implicitDefEqProofs (disch := omega) only [go_sem, undef, reduceAdd, reduceSub, reduceGT, reduceEqDiff, reduceMul, rows, gd_r, w64, Nat.min_eq_left]
   refine hN _ ?_
   try clear hN N
   refine AW.seq (fun N4 hN4 => ?_)
   refine AW.cond rfl (fun h2 => ?_) (fun h2 => ?_)
   ·try simp only [cn] at h2
    obtain ⟨hl1, hl2⟩ := hl k (by omega)
    refine AW.skip ?_
    simp only [thn, blk]
    refine hN4 _ ?_
    try clear hN4 N4
    refine AW.seq (fun N5 hN5 => ?_)
    refine AW.block ?_
    refine AW.sr envOk (fun N hN => ?_)
    simp -dsimp -implicitDefEqProofs (disch := omega) only [go_sem, undef, reduceAdd, reduceSub, reduceGT, reduceEqDiff, reduceMul, rows, gd_r, w64, Nat.min_eq_left]
    refine hN _ ?_
    try clear hN N
    refine AW.regionL envOk ?_
    simp -dsimp -implicitDefEqProofs (disch := omega) only [go_sem, undef, reduceAdd, reduceSub, reduceGT, reduceEqDiff, reduceMul, rows, gd_r, w64, Nat.min_eq_left]
    refine AC.pure (.of (slices_IndexFunc_nz (u.getD k []) (by omega) (by omega) )) ?_
    try simp -dsimp -implicitDefEqProofs (disch := omega) only [go_sem, undef, reduceAdd, reduceSub, reduceGT, reduceEqDiff, reduceMul, rows, gd_r, w64, Nat.min_eq_left]
    refine hN5 _ ?_
    try clear hN5 N5
    refine AW.regionL envOk ?_
    simp -dsimp -implicitDefEqProofs (disch := omega) only [go_sem, undef, reduceAdd, reduceSub, reduceGT, reduceEqDiff, reduceMul, rows, gd_r, w64, Nat.min_eq_left]
    refine ⟨(k + 1, some (m + 1 + 3 + 4)), ?_, by rw [← dep_snoc (by omega)]; intro d cs hd; simp only [oH, upd, noH] at hd ⊢; grind, ?_, ?_⟩
    ·simp (disch := omega) [wks, wkA, sl, rows, oA, w64] <;> omega
    ·exact ⟨⟨by omega, by first| omega| (simp only; omega)| (dsimp only; omega)⟩, by simp, by simp; omega⟩
    ·first | omega | (simp only; omega)
   ·try simp only [cn] at h2
    refine AW.exit ?_
    simp only [thn, blk, if_true]
    refine hN1 _ ?_
    try clear hN1 N1
    refine AW.sr envOk (fun N hN => ?_)
    simp -dsimp -implicitDefEqProofs (disch := omega) only [go_sem, undef, reduceAdd, reduceSub, reduceGT, reduceEqDiff, reduceMul, rows, gd_r, w64, Nat.min_eq_left]
    refine hN _ ?_
    try clear hN N
    refine AW.ret ?_
    simp -dsimp -implicitDefEqProofs (disch := omega) only [go_sem, undef, reduceAdd, reduceSub, reduceGT, reduceEqDiff, reduceMul]
    have hk' : k = u.length := by omega
    subst hk'
    have hx : List.map (fun b => AV.i .i64 (dep b)) (u.take u.length) = (deps u).map (.i .i64) := by simp [deps]
    refine vw_ints ?_ (by simp [deps])
    rw [upd_same, hx]
end Go.Proofs.Ytdghgmgppecncaa
