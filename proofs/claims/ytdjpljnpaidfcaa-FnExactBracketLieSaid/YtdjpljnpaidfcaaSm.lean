/-
  The laws' equality of rows, by lengths alone; results of one's own.
-/
import Derived.Test.YtdjpljnpaidfcaaSl
import Derived.Test.YtdjpljnpaidfcaaOc
set_option linter.unusedVariables false
set_option linter.unusedSimpArgs false
namespace Go.Proofs.Ytdjpljnpaidfcaa

theorem laws_eqInt64SS_l (a b : List (List Int)) (ha : rowslen a) (hb : rowslen b) : ACp Try.prog 24 [rows a, rows b] (.b (decide (a = b))) := by
  have han := ha.n
  have hbn := hb.n
  refine ACp.intro' envOk Try.func24 rfl (by kernel_rfl) Try.ntmps24 Try.results24 (.b _) (fun nx => ?_)
  refine AW.seq (fun N hN => ?_)
  refine AW.regionL envOk ?_
  simp (dsimp := false) (implicitDefEqProofs := false) (disch := omega) only [go_sem, Nat.reduceAdd, Nat.reduceSub, Nat.reduceGT, Nat.reduceEqDiff, Nat.reduceMul, rows, gd_r, w64]
  refine hN _ ?_
  try clear hN
  try clear N
  refine AW.seq (fun N1 hN1 => ?_)
  refine AW.seq (fun N hN => ?_)
  refine AW.regionL envOk ?_
  simp (dsimp := false) (implicitDefEqProofs := false) (disch := omega) only [go_sem, Nat.reduceAdd, Nat.reduceSub, Nat.reduceGT, Nat.reduceEqDiff, Nat.reduceMul, rows, gd_r, w64]
  refine hN _ ?_
  try clear hN
  try clear N
  refine AW.cond rfl (fun h1 => ?_) (fun h1 => ?_)
  · try simp only [decide_eq_true_eq, decide_eq_false_iff_not, bne_iff_ne, bne_eq_false_iff_eq, beq_iff_eq, beq_eq_false_iff_ne, Bool.not_eq_true', Bool.not_eq_false', Bool.not_eq_true, Bool.not_false, Bool.not_true, ge_iff_le, gt_iff_lt, ne_eq, Int.not_lt, Int.not_le, tf_iff, tf_iff'] at h1
    refine AW.seq (fun N hN => ?_)
    refine AW.regionL envOk ?_
    simp (dsimp := false) (implicitDefEqProofs := false) (disch := omega) only [go_sem, Nat.reduceAdd, Nat.reduceSub, Nat.reduceGT, Nat.reduceEqDiff, Nat.reduceMul, rows, gd_r, w64]
    refine hN _ ?_
    try clear hN
    try clear N
    refine AW.ret ?_
    simp (dsimp := false) (implicitDefEqProofs := false) (disch := omega) only [go_sem, Nat.reduceAdd, Nat.reduceSub, Nat.reduceGT, Nat.reduceEqDiff, Nat.reduceMul]
    exact bt (decide_eq_false (fun h => h1 (by rw [h]))).symm
  · try simp only [decide_eq_true_eq, decide_eq_false_iff_not, bne_iff_ne, bne_eq_false_iff_eq, beq_iff_eq, beq_eq_false_iff_ne, Bool.not_eq_true', Bool.not_eq_false', Bool.not_eq_true, Bool.not_false, Bool.not_true, ge_iff_le, gt_iff_lt, ne_eq, Int.not_lt, Int.not_le, tf_iff, tf_iff'] at h1
    have hl : a.length = b.length := by omega
    refine AW.skip ?_
    simp only [thn, blk]
    refine hN1 _ ?_
    try clear hN1
    try clear N1
    refine AW.seq (fun N2 hN2 => ?_)
    refine AW.seq (fun N hN => ?_)
    refine AW.regionL envOk ?_
    simp (dsimp := false) (implicitDefEqProofs := false) (disch := omega) only [go_sem, Nat.reduceAdd, Nat.reduceSub, Nat.reduceGT, Nat.reduceEqDiff, Nat.reduceMul, rows, gd_r, w64]
    refine hN _ ?_
    try clear hN
    try clear N
    refine AW.block ?_
    refine AW.loopN (α := Nat) (fun x => sl 27 [(0, rows a), (1, rows b), (5, .i .i64 x)]) (fun _ => noH) (fun x m => x ≤ a.length ∧ a.take x = b.take x) (fun x => a.length - x) (0) ?_ ?_ (fun _ _ h => h) ?_
    · exact ⟨by omega, rfl⟩
    · simp (disch := omega) [wks, wkA, sl, w64, ints, rows, cubes, rows, gd_r, w64] <;> omega
    · skip
      rintro k m ⟨hk, hI⟩
      simp (dsimp := false) (implicitDefEqProofs := false) (disch := omega) only [go_sem, Nat.reduceAdd, Nat.reduceSub, Nat.reduceGT, Nat.reduceEqDiff, Nat.reduceMul]
      refine AW.seq (fun N3 hN3 => ?_)
      refine AW.seq (fun N hN => ?_)
      refine AW.regionL envOk ?_
      simp (dsimp := false) (implicitDefEqProofs := false) (disch := omega) only [go_sem, Nat.reduceAdd, Nat.reduceSub, Nat.reduceGT, Nat.reduceEqDiff, Nat.reduceMul, rows, gd_r, w64]
      refine hN _ ?_
      try clear hN
      try clear N
      refine AW.cond rfl (fun h2 => ?_) (fun h2 => ?_)
      · try simp only [decide_eq_true_eq, decide_eq_false_iff_not, bne_iff_ne, bne_eq_false_iff_eq, beq_iff_eq, beq_eq_false_iff_ne, Bool.not_eq_true', Bool.not_eq_false', Bool.not_eq_true, Bool.not_false, Bool.not_true, ge_iff_le, gt_iff_lt, ne_eq, Int.not_lt, Int.not_le, tf_iff, tf_iff'] at h2
        have hak := ha.getD k
        have hbk := hb.getD k
        refine AW.skip ?_
        simp only [thn, blk]
        refine hN3 _ ?_
        try clear hN3
        try clear N3
        refine AW.seq (fun N4 hN4 => ?_)
        refine AW.block ?_
        refine AW.seq (fun N hN => ?_)
        refine AW.drawL envOk (by kernel_rfl) 10 (by kernel_rfl) ?_
        simp (dsimp := false) (implicitDefEqProofs := false) (disch := omega) only [hr_nil, hr_one, hr_if, List.take_succ_cons, List.take_zero, List.drop_succ_cons, List.drop_zero, List.take_nil, List.drop_nil, go_sem, Nat.reduceAdd, Nat.reduceSub, Nat.reduceGT, Nat.reduceEqDiff, Nat.reduceMul, rows, gd_r, w64]
        refine ⟨_, .of (laws_eqInt64S_ok (a.getD k []) (b.getD k []) (by omega) (by omega) ), ?_⟩
        try simp (dsimp := false) (implicitDefEqProofs := false) (disch := omega) only [go_sem, Nat.reduceAdd, Nat.reduceSub, Nat.reduceGT, Nat.reduceEqDiff, Nat.reduceMul, rows, gd_r, w64]
        refine hN _ ?_
        try clear hN
        try clear N
        refine AW.cond rfl (fun h3 => ?_) (fun h3 => ?_)
        · try simp only [decide_eq_true_eq, decide_eq_false_iff_not, bne_iff_ne, bne_eq_false_iff_eq, beq_iff_eq, beq_eq_false_iff_ne, Bool.not_eq_true', Bool.not_eq_false', Bool.not_eq_true, Bool.not_false, Bool.not_true, ge_iff_le, gt_iff_lt, ne_eq, Int.not_lt, Int.not_le, tf_iff, tf_iff'] at h3
          refine AW.seq (fun N hN => ?_)
          refine AW.regionL envOk ?_
          simp (dsimp := false) (implicitDefEqProofs := false) (disch := omega) only [go_sem, Nat.reduceAdd, Nat.reduceSub, Nat.reduceGT, Nat.reduceEqDiff, Nat.reduceMul, rows, gd_r, w64]
          refine hN _ ?_
          try clear hN
          try clear N
          refine AW.ret ?_
          simp (dsimp := false) (implicitDefEqProofs := false) (disch := omega) only [go_sem, Nat.reduceAdd, Nat.reduceSub, Nat.reduceGT, Nat.reduceEqDiff, Nat.reduceMul]
          exact bt (decide_eq_false (fun h => h3 (by rw [h]))).symm
        · try simp only [decide_eq_true_eq, decide_eq_false_iff_not, bne_iff_ne, bne_eq_false_iff_eq, beq_iff_eq, beq_eq_false_iff_ne, Bool.not_eq_true', Bool.not_eq_false', Bool.not_eq_true, Bool.not_false, Bool.not_true, ge_iff_le, gt_iff_lt, ne_eq, Int.not_lt, Int.not_le, tf_iff, tf_iff'] at h3
          refine AW.skip ?_
          simp only [thn, blk]
          refine hN4 _ ?_
          try clear hN4
          try clear N4
          refine AW.regionL envOk ?_
          simp (dsimp := false) (implicitDefEqProofs := false) (disch := omega) only [go_sem, Nat.reduceAdd, Nat.reduceSub, Nat.reduceGT, Nat.reduceEqDiff, Nat.reduceMul, rows, gd_r, w64]
          refine ⟨k + 1, ?_, fun _ _ h => h, ?_, ?_⟩
          · simp (disch := omega) [wks, wkA, sl, w64, ints, rows, cubes, rows, gd_r, w64] <;> omega
          · exact ⟨by omega, take_ext [] hl (by omega) hI h3⟩
          · first | omega | (simp only; omega)
      · try simp only [decide_eq_true_eq, decide_eq_false_iff_not, bne_iff_ne, bne_eq_false_iff_eq, beq_iff_eq, beq_eq_false_iff_ne, Bool.not_eq_true', Bool.not_eq_false', Bool.not_eq_true, Bool.not_false, Bool.not_true, ge_iff_le, gt_iff_lt, ne_eq, Int.not_lt, Int.not_le, tf_iff, tf_iff'] at h2
        refine AW.exit ?_
        simp only [thn, blk, if_true]
        refine hN2 _ ?_
        try clear hN2
        try clear N2
        refine AW.seq (fun N hN => ?_)
        refine AW.regionL envOk ?_
        simp (dsimp := false) (implicitDefEqProofs := false) (disch := omega) only [go_sem, Nat.reduceAdd, Nat.reduceSub, Nat.reduceGT, Nat.reduceEqDiff, Nat.reduceMul, rows, gd_r, w64]
        refine hN _ ?_
        try clear hN
        try clear N
        refine AW.ret ?_
        simp (dsimp := false) (implicitDefEqProofs := false) (disch := omega) only [go_sem, Nat.reduceAdd, Nat.reduceSub, Nat.reduceGT, Nat.reduceEqDiff, Nat.reduceMul]
        have hk' : k = a.length := by omega
        subst hk'
        rw [List.take_length, hl, List.take_length] at hI
        exact bt (decide_eq_true hI).symm


theorem orRR_ok {q : Prop} {X : List (List Int)} (h : q → rowslen X) : (orRR (tf q) (X, 0)).1.length ≤ 1048576 ∧ rowslen (orRR (tf q) (X, 0)).1 := by
  by_cases hq : q
  · rw [tf_t hq]; exact ⟨(h hq).n, h hq⟩
  · rw [tf_f hq]; exact ⟨by simp [orRR], .nil⟩
theorem orE_ok {q : Prop} {X : List Int} (h : q → X.length ≤ 6) : (orE (tf q) (X, 0)).1.length ≤ 1048576 ∧ True := by
  refine ⟨?_, trivial⟩
  by_cases hq : q
  · rw [tf_t hq]; have := h hq; simp only [orE]; omega
  · rw [tf_f hq]; simp [orE]
end Go.Proofs.Ytdjpljnpaidfcaa
