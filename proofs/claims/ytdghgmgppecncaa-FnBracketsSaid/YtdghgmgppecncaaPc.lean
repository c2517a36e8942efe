/-
  The cyclic ring and the direct sum of rings (spec).
-/
import Derived.Test.YtdghgmgppecncaaPb
set_option linter.unusedVariables false
set_option linter.unusedSimpArgs false
namespace Go.Proofs.Ytdghgmgppecncaa
open Nat (reduceAdd reduceSub reduceGT reduceEqDiff reduceMul)

def cycP (n : Nat) : List (List Int) := (List.range n).map fun i => vec n (fun j => if j = i + 1 then 1 else 0)
def cycB (n : Nat) : List (List (List Int)) := (List.range n).map fun i => List.replicate (n - 1 - i) (vec n (fun _ => 0))

theorem cycP_len {n : Nat} : (cycP n).length = n := by simp [cycP]
theorem cycB_len {n : Nat} : (cycB n).length = n := by simp [cycB]
theorem cyc_snoc {n i : Nat} (h : i < n) : List.take i (List.map ints (List.take i (cycP n))) ++ [AV.v n (ivs n fun j => if j = i + 1 then 1 else 0)] = List.map ints (List.take (i + 1) (cycP n)) := by
  rw [List.take_of_length_le (by simp; omega), List.take_add_one, List.map_append]
  congr 1
  have : (cycP n)[i]? = some (vec n (fun j => if j = i + 1 then 1 else 0)) := by simp [cycP, h]
  rw [this]
  simp only [Option.toList_some, List.map_cons, List.map_nil, ints, vec_len, vec_map]
theorem one_v (n : Nat) (cs : List AV) : (∀ z ∈ [AV.v n cs], one z = true) = True := by
  refine eq_true (fun z hz => ?_)
  rw [List.mem_singleton.1 hz]; rfl
theorem one_hc (a b c : Nat) : (∀ z ∈ [AV.h a b c], one z = true) = True := by
  refine eq_true (fun z hz => ?_)
  rw [List.mem_singleton.1 hz]; rfl
theorem rep_snoc (n k : Nat) : List.replicate k (ints (vec n fun _ => 0)) ++ [AV.v n (List.replicate n (.i .i64 0))] = List.replicate (k + 1) (ints (vec n fun _ => 0)) := by
  rw [List.replicate_succ']
  congr 2
  simp only [ints, vec_len, vec_map, ivs_zero]
theorem cyb_snoc {n i k : Nat} (h : i < n) (hk : k = n - 1 - i) : List.map rows (List.take i (cycB n)) ++ [AV.v k (List.replicate k (ints (vec n fun _ => 0)))] = List.map rows (List.take (i + 1) (cycB n)) := by
  rw [List.take_add_one, List.map_append]
  congr 1
  have : (cycB n)[i]? = some (List.replicate (n - 1 - i) (vec n fun _ => 0)) := by simp [cycB, h]
  rw [this, ← hk]
  simp [rows]
theorem NR.ring (p : Int) (pw : List (List Int)) (br : List (List (List Int))) : NR (Go.Proofs.Ytdghgmgppecncaa.ring p pw br) := by
  have hi : ∀ x : List Int, NR (Go.Proofs.Ytdghgmgppecncaa.ints x) := fun x => .v _ _ (fun k y hk => by
    obtain ⟨z, _, rfl⟩ := List.mem_map.1 (List.mem_of_getElem? hk); exact .i _ _)
  have hr : ∀ x : List (List Int), NR (Go.Proofs.Ytdghgmgppecncaa.rows x) := fun x => .v _ _ (fun k y hk => by
    obtain ⟨z, _, rfl⟩ := List.mem_map.1 (List.mem_of_getElem? hk); exact hi z)
  have hc : ∀ x : List (List (List Int)), NR (Go.Proofs.Ytdghgmgppecncaa.cubes x) := fun x => .v _ _ (fun k y hk => by
    obtain ⟨z, _, rfl⟩ := List.mem_map.1 (List.mem_of_getElem? hk); exact hr z)
  refine .g _ (fun k y hk => ?_)
  have := List.mem_of_getElem? hk
  simp only [List.mem_cons, List.not_mem_nil, or_false] at this
  rcases this with rfl | rfl | rfl
  · exact .i _ _
  · exact hr _
  · exact hc _
theorem Vw.cbs {H : HP} {id : Nat} {xs : List (List (List Int))} {n : Nat} (hn : n = xs.length) (h : H id = some (xs.map Go.Proofs.Ytdghgmgppecncaa.rows)) : Vw H (.h id 0 n) (cubes xs) := by
  subst hn
  exact .h id 0 _ _ _ h (by simp) (by simp) (fun k x y hx hy => by rw [Nat.zero_add] at hx; rw [hx] at hy; cases hy; exact .refl _)
theorem Vw.ring {H : HP} {p : Int} {a b : AV} {pw : List (List Int)} {br : List (List (List Int))} (h1 : Vw H a (rows pw)) (h2 : Vw H b (cubes br)) : Vw H (.g [.i .i64 p, a, b]) (Go.Proofs.Ytdghgmgppecncaa.ring p pw br) := by
  refine .g _ _ rfl (fun k x y hx hy => ?_)
  match k, hx, hy with
  | 0, hx, hy => cases hx; cases hy; exact .refl _
  | 1, hx, hy => cases hx; cases hy; exact h1
  | 2, hx, hy => cases hx; cases hy; exact h2

theorem spec_l31Cyclic_ok (p : Int) (n : Nat) (hn : n ≤ 6) : ACp Try.prog 308 [.i .i64 p, .i .i64 n] (ring p (cycP n) (cycB n)) := by
  refine ACp.introV envOk Try.func308 rfl (by kernel_rfl) Try.ntmps308 Try.results308 (NR.ring _ _ _) (fun nx => ?_)
  refine AW.sr envOk (fun N hN => ?_)
  simp -dsimp -implicitDefEqProofs (disch := omega) only [go_sem, undef, reduceAdd, reduceSub, reduceGT, reduceEqDiff, reduceMul, ]
  refine hN _ ?_
  try clear hN N
  refine AW.sr envOk (fun N hN => ?_)
  simp -dsimp -implicitDefEqProofs (disch := omega) only [go_sem, undef, reduceAdd, reduceSub, reduceGT, reduceEqDiff, reduceMul, ]
  refine hN _ ?_
  try clear hN N
  refine AW.seq (fun N1 hN1 => ?_)
  refine AW.sr envOk (fun N hN => ?_)
  simp -dsimp -implicitDefEqProofs (disch := omega) only [go_sem, undef, reduceAdd, reduceSub, reduceGT, reduceEqDiff, reduceMul, ]
  refine hN _ ?_
  try clear hN N
  refine AW.block ?_
  refine AW.loopN (α := Nat × Nat × Nat) (fun x => sl 55 [(1, .i .i64 n), (4, .q nx 0), (5, .q (nx + 1 + 4) 0), (6, .i .i64 x.1)])
    (fun x => upd (upd (upd (upd noH nx (some [.i .i64 0, .nl, .nl])) x.2.1 (some (((cycP n).take x.1).map ints))) x.2.2 (some (((cycB n).take x.1).map rows))) (nx + 1 + 4) (some [.i .i64 p, .h x.2.1 0 x.1, .h x.2.2 0 x.1]))
    (fun x m => x.1 ≤ n ∧ nx < x.2.1 ∧ x.2.1 ≠ nx + 1 + 4 ∧ nx < x.2.2 ∧ x.2.2 ≠ nx + 1 + 4 ∧ x.2.1 ≠ x.2.2 ∧ x.2.1 < m ∧ x.2.2 < m ∧ nx + 7 ≤ m) (fun x => n - x.1) (0, nx + 1 + 1, nx + 1 + 2) ?_ ?_ ?_ ?_
  · dsimp only; omega
  · simp (disch := omega) [wks, wkA, sl, w64, ints, rows, cubes, ] <;> omega
  · dsimp only [List.take_zero, List.map_nil]
    exact Le.refl _
  rintro ⟨i, P, B⟩ m ⟨hi, hP0, hP1, hB0, hB1, hPB, hPm, hBm, hm⟩
  dsimp only at hi hP0 hP1 hB0 hB1 hPB hPm hBm hm
  simp -dsimp -implicitDefEqProofs (disch := omega) only [go_sem, undef, reduceAdd, reduceSub, reduceGT, reduceEqDiff, reduceMul]
  refine AW.seq (fun N2 hN2 => ?_)
  refine AW.sr envOk (fun N hN => ?_)
  simp -dsimp -implicitDefEqProofs (disch := omega) only [go_sem, undef, reduceAdd, reduceSub, reduceGT, reduceEqDiff, reduceMul, ]
  refine hN _ ?_
  try clear hN N
  refine AW.cond rfl (fun h1 => ?_) (fun h1 => ?_)
  · try simp only [cn] at h1
    refine AW.skip ?_
    simp only [thn, blk]
    refine hN2 _ ?_
    try clear hN2 N2
    refine AW.seq (fun N3 hN3 => ?_)
    refine AW.block ?_
    refine AW.sr envOk (fun N hN => ?_)
    simp -dsimp -implicitDefEqProofs (disch := omega) only [go_sem, undef, reduceAdd, reduceSub, reduceGT, reduceEqDiff, reduceMul, ]
    refine hN _ ?_
    try clear hN N
    refine AW.seq (fun N4 hN4 => ?_)
    refine AW.sr envOk (fun N hN => ?_)
    simp -dsimp -implicitDefEqProofs (disch := omega) only [go_sem, undef, reduceAdd, reduceSub, reduceGT, reduceEqDiff, reduceMul, w64]
    refine hN _ ?_
    try clear hN N
    have hJ : ∀ s', Wk s' ⟨sl 55 [(1, .i .i64 n), (4, .q nx 0), (5, .q (nx + 1 + 4) 0), (6, .i .i64 i), (7, .h (m + 3 + 1) 0 n)], upd (upd (upd (upd (upd noH nx (some [.i .i64 0, .nl, .nl])) P (some (((cycP n).take i).map ints))) B (some (((cycB n).take i).map rows))) (nx + 1 + 4) (some [.i .i64 p, .h P 0 i, .h B 0 i])) (m + 3 + 1) (some (ivs n (fun j => if j = i + 1 then 1 else 0))), m + 30⟩ → N4 s' := by
      intro s' h
      refine hN4 s' (AW.wk h ?_)
      refine AW.freeze 7 (m + 3 + 1) n (ivs n (fun j => if j = i + 1 then 1 else 0)) rfl (upd_same _ _ _) (by simp [ivs]) ?_
      have hmin : min i (cycP n).length = i := by rw [cycP_len]; omega
      have hmin2 : min i (cycB n).length = i := by rw [cycB_len]; omega
      simp -dsimp -implicitDefEqProofs (disch := omega) only [go_sem, undef, reduceAdd, reduceSub, reduceGT, reduceEqDiff, reduceMul]
      refine AW.sr envOk (fun N hN => ?_)
      simp -dsimp -implicitDefEqProofs (disch := omega) only [go_sem, undef, reduceAdd, reduceSub, reduceGT, reduceEqDiff, reduceMul, one_v, hmin]
      refine hN _ ?_
      try clear hN N
      refine AW.sr envOk (fun N hN => ?_)
      simp -dsimp -implicitDefEqProofs (disch := omega) only [go_sem, undef, reduceAdd, reduceSub, reduceGT, reduceEqDiff, reduceMul, ]
      refine hN _ ?_
      try clear hN N
      refine AW.seq (fun N5 hN5 => ?_)
      refine AW.sr envOk (fun N hN => ?_)
      simp -dsimp -implicitDefEqProofs (disch := omega) only [go_sem, undef, reduceAdd, reduceSub, reduceGT, reduceEqDiff, reduceMul, w64]
      refine hN _ ?_
      try clear hN N
      refine AW.block ?_
      refine AW.loopN (α := Nat × Nat) (fun x => sl 55 [(1, .i .i64 n), (4, .q nx 0), (5, .q (nx + 1 + 4) 0), (6, .i .i64 i), (8, .h x.2 0 x.1), (9, .i .i64 ((i + 1 + x.1 : Nat) : Int))])
        (fun x => upd (upd (upd (upd (upd noH nx (some [.i .i64 0, .nl, .nl])) (m + 30 + 4) (some (((cycP n).take (i + 1)).map ints))) B (some (((cycB n).take i).map rows))) (nx + 1 + 4) (some [.i .i64 p, .h (m + 30 + 4) 0 (i + 1), .h B 0 i])) x.2 (some (List.replicate x.1 (ints (vec n fun _ => 0)))))
        (fun x q => i + 1 + x.1 ≤ n ∧ m + 37 ≤ x.2 ∧ x.2 < q ∧ m + 38 ≤ q) (fun x => n - x.1) (0, m + 30 + 7) ?_ ?_ ?_ ?_
      · dsimp only; omega
      · simp (disch := omega) [wks, wkA, sl, w64, ints, rows, cubes, ] <;> omega
      · rw [cyc_snoc (by omega : i < n)]
        intro d cs hd
        dsimp only at hd ⊢
        simp only [upd, noH] at hd ⊢
        grind
      rintro ⟨k, R⟩ q ⟨hk, hR, hRq, hq⟩
      dsimp only at hk hR hRq hq
      simp -dsimp -implicitDefEqProofs (disch := omega) only [go_sem, undef, reduceAdd, reduceSub, reduceGT, reduceEqDiff, reduceMul]
      refine AW.seq (fun N6 hN6 => ?_)
      refine AW.sr envOk (fun N hN => ?_)
      simp -dsimp -implicitDefEqProofs (disch := omega) only [go_sem, undef, reduceAdd, reduceSub, reduceGT, reduceEqDiff, reduceMul, w64]
      refine hN _ ?_
      try clear hN N
      refine AW.cond rfl (fun h3 => ?_) (fun h3 => ?_)
      · try simp only [cn] at h3
        refine AW.skip ?_
        simp only [thn, blk]
        refine hN6 _ ?_
        try clear hN6 N6
        refine AW.seq (fun N7 hN7 => ?_)
        refine AW.block ?_
        refine AW.regionL envOk ?_
        simp -dsimp -implicitDefEqProofs (disch := omega) only [go_sem, undef, reduceAdd, reduceSub, reduceGT, reduceEqDiff, reduceMul, one_hc]
        refine hN7 _ ?_
        try clear hN7 N7
        refine AW.fzpush (q + 3 + 4) (q + 3 + 2) n (List.replicate k (ints (vec n fun _ => 0))) (List.replicate n (.i .i64 0)) ?_ ?_ (by simp) (by omega) ?_
        · dsimp only
          rw [upd_same, List.take_of_length_le (by simp)]
        · dsimp only
          rw [upd_ne _ _ (by omega), upd_ne _ _ (by omega), upd_ne _ _ (by omega), upd_same]
        refine AW.regionL envOk ?_
        simp -dsimp -implicitDefEqProofs (disch := omega) only [go_sem, undef, reduceAdd, reduceSub, reduceGT, reduceEqDiff, reduceMul, w64]
        refine ⟨(k + 1, q + 3 + 4), ?_, ?_, ?_, ?_⟩
        · simp (disch := omega) [wks, wkA, sl, w64, ints, rows, cubes, ] <;> omega
        · rw [rep_snoc]
          intro d cs hd
          dsimp only at hd ⊢
          simp only [upd, noH] at hd ⊢
          grind
        · dsimp only; omega
        · dsimp only; omega
      · try simp only [cn] at h3
        refine AW.exit ?_
        simp only [thn, blk, if_true]
        refine hN5 _ ?_
        try clear hN5 N5
        refine AW.regionL envOk ?_
        simp -dsimp -implicitDefEqProofs (disch := omega) only [go_sem, undef, reduceAdd, reduceSub, reduceGT, reduceEqDiff, reduceMul, one_hc, hmin2]
        refine hN3 _ ?_
        try clear hN3 N3
        refine AW.fzpush (q + 3 + 4) R k (((cycB n).take i).map rows) (List.replicate k (ints (vec n fun _ => 0))) ?_ ?_ (by simp) (by omega) ?_
        · dsimp only
          rw [upd_ne _ _ (by omega), upd_same, List.take_of_length_le (by simp; omega)]
        · dsimp only
          rw [upd_ne _ _ (by omega), upd_ne _ _ (by omega), upd_ne _ _ (by omega), upd_ne _ _ (by omega), upd_same]
        refine AW.regionL envOk ?_
        simp -dsimp -implicitDefEqProofs (disch := omega) only [go_sem, undef, reduceAdd, reduceSub, reduceGT, reduceEqDiff, reduceMul, w64]
        refine ⟨(i + 1, m + 30 + 4, q + 3 + 4), ?_, ?_, ?_, ?_⟩
        · simp (disch := omega) [wks, wkA, sl, w64, ints, rows, cubes, ] <;> omega
        · rw [cyb_snoc (by omega : i < n) (by omega : k = n - 1 - i)]
          intro d cs hd
          dsimp only at hd ⊢
          simp only [upd, noH] at hd ⊢
          grind
        · dsimp only; omega
        · dsimp only; omega
    refine AW.cond rfl (fun h2 => ?_) (fun h2 => ?_)
    · try simp only [cn] at h2
      refine AW.regionL envOk ?_
      simp -dsimp -implicitDefEqProofs (disch := omega) only [go_sem, undef, reduceAdd, reduceSub, reduceGT, reduceEqDiff, reduceMul, w64]
      refine hJ _ ⟨?_, ?_, ?_⟩
      · simp (disch := omega) [wks, wkA, sl, w64, ints, rows, cubes, ] <;> omega
      · rw [ivs_zero, unit_set (by omega)]
        exact Le.refl _
      · dsimp only; omega
    · try simp only [cn] at h2
      refine AW.skip ?_
      simp only [thn, blk]
      refine hJ _ ⟨?_, ?_, ?_⟩
      · simp (disch := omega) [wks, wkA, sl, w64, ints, rows, cubes, ] <;> omega
      · rw [ivs_zero, ivs_ext (f := fun _ => 0) (g := fun j => if j = i + 1 then 1 else 0) (fun j hj => by rw [if_neg (by omega)])]
        exact Le.refl _
      · dsimp only; omega
  · try simp only [cn] at h1
    refine AW.exit ?_
    simp only [thn, blk, if_true]
    refine hN1 _ ?_
    try clear hN1 N1
    refine AW.sr envOk (fun N hN => ?_)
    simp -dsimp -implicitDefEqProofs (disch := omega) only [go_sem, undef, reduceAdd, reduceSub, reduceGT, reduceEqDiff, reduceMul, ]
    refine hN _ ?_
    try clear hN N
    refine AW.ret ?_
    simp -dsimp -implicitDefEqProofs (disch := omega) only [go_sem, undef, reduceAdd, reduceSub, reduceGT, reduceEqDiff, reduceMul]
    have hin : i = n := by omega
    subst hin
    refine Vw.ring (Vw.rws (by simp [cycP]) ?_) (Vw.cbs (by simp [cycB]) ?_)
    · rw [upd_ne _ _ (by omega), upd_ne _ _ (by omega), upd_ne _ _ (by omega), upd_same, List.take_of_length_le (by simp [cycP])]
    · rw [upd_ne _ _ (by omega), upd_ne _ _ (by omega), upd_same, List.take_of_length_le (by simp [cycB])]

end Go.Proofs.Ytdghgmgppecncaa
