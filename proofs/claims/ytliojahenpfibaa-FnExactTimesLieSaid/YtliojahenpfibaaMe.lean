/-
  The laws FnExactNegateLie, FnExactTimesLie and FnExactBracket: they answer true, whatever they are given.
-/
import Derived.Test.YtliojahenpfibaaMd
set_option linter.unusedVariables false
set_option linter.unusedSimpArgs false
namespace Go.Proofs.Ytliojahenpfibaa

theorem law_Bracket (p : Int) (pw : List (List Int)) (br : List (List (List Int))) (a : List Int) (b : List Int) (h0 : i64ok p) (hpw : rowsok pw) (hbr : cubesok br) (hi_a : intsok a) (hi_b : intsok b) : ACp Try.prog 11 [ring p pw br, ints a, ints b] (.b true) := by
  have hi1_a := hi_a.1
  have hi1_b := hi_b.1
  obtain ⟨M, hM⟩ : ∃ M : List Int × Int, orE (tf (AllEl p pw br [a, b])) (brkL p pw br a b, 0) = M := ⟨_, rfl⟩
  refine ACp.intro' envOk Try.func11 rfl (by kernel_rfl) Try.ntmps11 Try.results11 (.b _) (fun nx => ?_)
  refine AW.seq (fun N hN => ?_)
  refine AW.regionL envOk ?_
  simp (dsimp := false) (implicitDefEqProofs := false) (disch := omega) only [go_sem, Nat.reduceAdd, Nat.reduceSub, Nat.reduceGT, Nat.reduceEqDiff, Nat.reduceMul, ring, w64, resL]
  refine hN _ ?_
  try clear hN
  try clear N
  refine AW.seq (fun N1 hN1 => ?_)
  refine AW.seq (fun N hN => ?_)
  refine AW.regionL envOk ?_
  simp (dsimp := false) (implicitDefEqProofs := false) (disch := omega) only [go_sem, Nat.reduceAdd, Nat.reduceSub, Nat.reduceGT, Nat.reduceEqDiff, Nat.reduceMul, ring, w64, resL]
  refine hN _ ?_
  try clear hN
  try clear N
  refine AW.cond rfl (fun h1 => ?_) (fun h1 => ?_)
  · try simp only [decide_eq_true_eq, decide_eq_false_iff_not, bne_iff_ne, bne_eq_false_iff_eq, beq_iff_eq, beq_eq_false_iff_ne, Bool.not_eq_true', Bool.not_eq_false', Bool.not_eq_true, Bool.not_false, Bool.not_true, ge_iff_le, gt_iff_lt, ne_eq, Int.not_lt, Int.not_le, tf_iff, tf_iff'] at h1
    refine AW.seq (fun N hN => ?_)
    refine AW.regionL envOk ?_
    simp (dsimp := false) (implicitDefEqProofs := false) (disch := omega) only [go_sem, Nat.reduceAdd, Nat.reduceSub, Nat.reduceGT, Nat.reduceEqDiff, Nat.reduceMul, ring, w64, resL]
    refine hN _ ?_
    try clear hN
    try clear N
    refine AW.ret ?_
    simp (dsimp := false) (implicitDefEqProofs := false) (disch := omega) only [go_sem, Nat.reduceAdd, Nat.reduceSub, Nat.reduceGT, Nat.reduceEqDiff, Nat.reduceMul]
    try (exfalso; first | omega | (simp_all; done))
  · try simp only [decide_eq_true_eq, decide_eq_false_iff_not, bne_iff_ne, bne_eq_false_iff_eq, beq_iff_eq, beq_eq_false_iff_ne, Bool.not_eq_true', Bool.not_eq_false', Bool.not_eq_true, Bool.not_false, Bool.not_true, ge_iff_le, gt_iff_lt, ne_eq, Int.not_lt, Int.not_le, tf_iff, tf_iff'] at h1
    refine AW.skip ?_
    simp only [thn, blk]
    refine hN1 _ ?_
    try clear hN1
    try clear N1
    refine AW.seq (fun N2 hN2 => ?_)
    refine AW.seq (fun N hN => ?_)
    refine AW.regionL envOk ?_
    simp (dsimp := false) (implicitDefEqProofs := false) (disch := omega) only [go_sem, Nat.reduceAdd, Nat.reduceSub, Nat.reduceGT, Nat.reduceEqDiff, Nat.reduceMul, ring, w64, resL]
    refine hN _ ?_
    try clear hN
    try clear N
    refine AW.cond rfl (fun h2 => ?_) (fun h2 => ?_)
    · try simp only [decide_eq_true_eq, decide_eq_false_iff_not, bne_iff_ne, bne_eq_false_iff_eq, beq_iff_eq, beq_eq_false_iff_ne, Bool.not_eq_true', Bool.not_eq_false', Bool.not_eq_true, Bool.not_false, Bool.not_true, ge_iff_le, gt_iff_lt, ne_eq, Int.not_lt, Int.not_le, tf_iff, tf_iff'] at h2
      refine AW.seq (fun N hN => ?_)
      refine AW.regionL envOk ?_
      simp (dsimp := false) (implicitDefEqProofs := false) (disch := omega) only [go_sem, Nat.reduceAdd, Nat.reduceSub, Nat.reduceGT, Nat.reduceEqDiff, Nat.reduceMul, ring, w64, resL]
      refine hN _ ?_
      try clear hN
      try clear N
      refine AW.ret ?_
      simp (dsimp := false) (implicitDefEqProofs := false) (disch := omega) only [go_sem, Nat.reduceAdd, Nat.reduceSub, Nat.reduceGT, Nat.reduceEqDiff, Nat.reduceMul]
      try (exfalso; first | omega | (simp_all; done))
    · try simp only [decide_eq_true_eq, decide_eq_false_iff_not, bne_iff_ne, bne_eq_false_iff_eq, beq_iff_eq, beq_eq_false_iff_ne, Bool.not_eq_true', Bool.not_eq_false', Bool.not_eq_true, Bool.not_false, Bool.not_true, ge_iff_le, gt_iff_lt, ne_eq, Int.not_lt, Int.not_le, tf_iff, tf_iff'] at h2
      refine AW.skip ?_
      simp only [thn, blk]
      refine hN2 _ ?_
      try clear hN2
      try clear N2
      refine AW.seq (fun N hN => ?_)
      refine AW.regionL envOk ?_
      simp (dsimp := false) (implicitDefEqProofs := false) (disch := omega) only [go_sem, Nat.reduceAdd, Nat.reduceSub, Nat.reduceGT, Nat.reduceEqDiff, Nat.reduceMul, ring, w64, resL]
      refine hN _ ?_
      try clear hN
      try clear N
      refine AW.seq (fun N hN => ?_)
      refine AW.regionL envOk ?_
      simp (dsimp := false) (implicitDefEqProofs := false) (disch := omega) only [go_sem, Nat.reduceAdd, Nat.reduceSub, Nat.reduceGT, Nat.reduceEqDiff, Nat.reduceMul, ring, w64, resL]
      have hsc1 := szR_le pw br (1048576) (by omega)
      refine AC.pure (.of (laws_szLieRing_ok p pw br (1048576) (by omega) (by omega) hpw hbr)) ?_
      try simp (dsimp := false) (implicitDefEqProofs := false) (disch := omega) only [go_sem, Nat.reduceAdd, Nat.reduceSub, Nat.reduceGT, Nat.reduceEqDiff, Nat.reduceMul, ring, w64, resL]
      refine hN _ ?_
      try clear hN
      try clear N
      refine AW.seq (fun N3 hN3 => ?_)
      refine AW.seq (fun N hN => ?_)
      refine AW.regionL envOk ?_
      simp (dsimp := false) (implicitDefEqProofs := false) (disch := omega) only [go_sem, Nat.reduceAdd, Nat.reduceSub, Nat.reduceGT, Nat.reduceEqDiff, Nat.reduceMul, ring, w64, resL]
      refine hN _ ?_
      try clear hN
      try clear N
      refine AW.cond rfl (fun h3 => ?_) (fun h3 => ?_)
      · try simp only [decide_eq_true_eq, decide_eq_false_iff_not, bne_iff_ne, bne_eq_false_iff_eq, beq_iff_eq, beq_eq_false_iff_ne, Bool.not_eq_true', Bool.not_eq_false', Bool.not_eq_true, Bool.not_false, Bool.not_true, ge_iff_le, gt_iff_lt, ne_eq, Int.not_lt, Int.not_le, tf_iff, tf_iff'] at h3
        refine AW.seq (fun N hN => ?_)
        refine AW.regionL envOk ?_
        simp (dsimp := false) (implicitDefEqProofs := false) (disch := omega) only [go_sem, Nat.reduceAdd, Nat.reduceSub, Nat.reduceGT, Nat.reduceEqDiff, Nat.reduceMul, ring, w64, resL]
        refine hN _ ?_
        try clear hN
        try clear N
        refine AW.ret ?_
        simp (dsimp := false) (implicitDefEqProofs := false) (disch := omega) only [go_sem, Nat.reduceAdd, Nat.reduceSub, Nat.reduceGT, Nat.reduceEqDiff, Nat.reduceMul]
        try (exfalso; first | omega | (simp_all; done))
      · try simp only [decide_eq_true_eq, decide_eq_false_iff_not, bne_iff_ne, bne_eq_false_iff_eq, beq_iff_eq, beq_eq_false_iff_ne, Bool.not_eq_true', Bool.not_eq_false', Bool.not_eq_true, Bool.not_false, Bool.not_true, ge_iff_le, gt_iff_lt, ne_eq, Int.not_lt, Int.not_le, tf_iff, tf_iff'] at h3
        obtain ⟨g1, g2⟩ := szR_mem (l := 1048576) (by omega) (by omega) h3
        have hl := ringlen.of g1 g2
        have hl_a : a.length ≤ 1048576 := by omega
        have hl_b : b.length ≤ 1048576 := by omega
        have hto := laws_toLieRing_ok p pw br g1 g2
        have ht_a := toS_ok a (by omega)
        have ht_b := toS_ok b (by omega)
        have hML : M.1.length ≤ 1048576 ∧ True := by rw [← hM]; exact ⟨orE_len (by rw [brkL, nf_len]; exact hl.n), trivial⟩
        have hspec := spec_Bracket_ok p pw br hl a b hl_a hl_b
        have himpl := impl_Bracket_ok p pw br hl a b hl_a hl_b
        rw [hM] at hspec himpl
        have heq := laws_eqInt64S_ok M.1 M.1 (by omega) (by omega)
        refine AW.skip ?_
        simp only [thn, blk]
        refine hN3 _ ?_
        try clear hN3
        try clear N3
        refine AW.seq (fun N hN => ?_)
        refine AW.regionL envOk ?_
        simp (dsimp := false) (implicitDefEqProofs := false) (disch := omega) only [go_sem, Nat.reduceAdd, Nat.reduceSub, Nat.reduceGT, Nat.reduceEqDiff, Nat.reduceMul, ring, w64, resL]
        refine AC.pure (.of (hto.pure )) ?_
        try simp (dsimp := false) (implicitDefEqProofs := false) (disch := omega) only [go_sem, Nat.reduceAdd, Nat.reduceSub, Nat.reduceGT, Nat.reduceEqDiff, Nat.reduceMul, ring, w64, resL]
        refine AC.pure (.of (ht_a.pure )) ?_
        try simp (dsimp := false) (implicitDefEqProofs := false) (disch := omega) only [go_sem, Nat.reduceAdd, Nat.reduceSub, Nat.reduceGT, Nat.reduceEqDiff, Nat.reduceMul, ring, w64, resL]
        refine AC.pure (.of (ht_b.pure )) ?_
        try simp (dsimp := false) (implicitDefEqProofs := false) (disch := omega) only [go_sem, Nat.reduceAdd, Nat.reduceSub, Nat.reduceGT, Nat.reduceEqDiff, Nat.reduceMul, ring, w64, resL]
        refine AC.pure (.of (hspec )) ?_
        try simp (dsimp := false) (implicitDefEqProofs := false) (disch := omega) only [go_sem, Nat.reduceAdd, Nat.reduceSub, Nat.reduceGT, Nat.reduceEqDiff, Nat.reduceMul, ring, w64, resL]
        refine hN _ ?_
        try clear hN
        try clear N
        refine AW.seq (fun N hN => ?_)
        refine AW.regionL envOk ?_
        simp (dsimp := false) (implicitDefEqProofs := false) (disch := omega) only [go_sem, Nat.reduceAdd, Nat.reduceSub, Nat.reduceGT, Nat.reduceEqDiff, Nat.reduceMul, ring, w64, resL]
        refine AC.hold hto (.cons (.refl _) .nil) ?_
        intro m6 H6 r_r hm6 hH6 ho_r
        have hB := (hH6 nx (by omega)).trans (upd_same _ _ _)
        obtain ⟨r1, r2, rfl, u1, u2, ho_r⟩ := ho_r.ring
        try simp (dsimp := false) (implicitDefEqProofs := false) (disch := omega) only [go_sem, Nat.reduceAdd, Nat.reduceSub, Nat.reduceGT, Nat.reduceEqDiff, Nat.reduceMul, u1, u2]
        obtain ⟨b0, hb0⟩ : ∃ b0, nx + 2 + 3 + 3 + 1 + 4 + 2 + 12 + 2 = b0 := ⟨_, rfl⟩
        rw [hb0]
        refine hN _ ?_
        try clear hN
        try clear N
        refine AW.seq (fun N hN => ?_)
        refine AW.regionL envOk ?_
        simp (dsimp := false) (implicitDefEqProofs := false) (disch := omega) only [go_sem, Nat.reduceAdd, Nat.reduceSub, Nat.reduceGT, Nat.reduceEqDiff, Nat.reduceMul, ring, w64, resL]
        refine AC.hold ht_a (.cons (.refl _) .nil) ?_
        intro m7 H7 r_a hm7 hH7 ho_a
        replace hB := (hH7 nx (by omega)).trans ((upd_ne _ _ (by omega)).trans hB)
        have hX := (hH7 b0 (by omega)).trans (upd_same _ _ _)
        replace ho_r := ho_r.keep (fun i q1 q2 => (hH7 i (by omega)).trans (upd_ne _ _ (by omega)))
        try simp (dsimp := false) (implicitDefEqProofs := false) (disch := omega) only [go_sem, Nat.reduceAdd, Nat.reduceSub, Nat.reduceGT, Nat.reduceEqDiff, Nat.reduceMul, ring, w64, resL]
        refine hN _ ?_
        try clear hN
        try clear N
        refine AW.seq (fun N hN => ?_)
        refine AW.regionL envOk ?_
        simp (dsimp := false) (implicitDefEqProofs := false) (disch := omega) only [go_sem, Nat.reduceAdd, Nat.reduceSub, Nat.reduceGT, Nat.reduceEqDiff, Nat.reduceMul, ring, w64, resL]
        refine AC.hold ht_b (.cons (.refl _) .nil) ?_
        intro m8 H8 r_b hm8 hH8 ho_b
        replace hB := (hH8 nx (by omega)).trans hB
        replace hX := (hH8 b0 (by omega)).trans hX
        replace ho_r := ho_r.keep (fun i q1 q2 => hH8 i (by omega))
        replace ho_a := ho_a.keep (fun i q1 q2 => hH8 i (by omega))
        try simp (dsimp := false) (implicitDefEqProofs := false) (disch := omega) only [go_sem, Nat.reduceAdd, Nat.reduceSub, Nat.reduceGT, Nat.reduceEqDiff, Nat.reduceMul, ring, w64, resL]
        refine hN _ ?_
        try clear hN
        try clear N
        refine AW.seq (fun N hN => ?_)
        refine AW.regionL envOk ?_
        simp (dsimp := false) (implicitDefEqProofs := false) (disch := omega) only [go_sem, Nat.reduceAdd, Nat.reduceSub, Nat.reduceGT, Nat.reduceEqDiff, Nat.reduceMul, ring, w64, resL]
        try simp (dsimp := false) (implicitDefEqProofs := false) (disch := omega) only [go_sem, Nat.reduceAdd, Nat.reduceSub, Nat.reduceGT, Nat.reduceEqDiff, Nat.reduceMul, hX]
        refine AC.hold himpl (.cons ho_r.vw (.cons ho_a.vw (.cons ho_b.vw .nil))) ?_
        intro m9 H9 r_g hm9 hH9 ho_g
        replace hB := (hH9 nx (by omega)).trans hB
        replace hX := (hH9 b0 (by omega)).trans hX
        replace ho_r := ho_r.keep (fun i q1 q2 => hH9 i (by omega))
        replace ho_a := ho_a.keep (fun i q1 q2 => hH9 i (by omega))
        replace ho_b := ho_b.keep (fun i q1 q2 => hH9 i (by omega))
        obtain ⟨g0, rfl, hg⟩ := ho_g.pair
        clear ho_g
        try simp (dsimp := false) (implicitDefEqProofs := false) (disch := omega) only [go_sem, Nat.reduceAdd, Nat.reduceSub, Nat.reduceGT, Nat.reduceEqDiff, Nat.reduceMul, ring, w64, resL]
        refine hN _ ?_
        try clear hN
        try clear N
        refine AW.seq (fun N4 hN4 => ?_)
        refine AW.seq (fun N hN => ?_)
        refine AW.regionL envOk ?_
        simp (dsimp := false) (implicitDefEqProofs := false) (disch := omega) only [go_sem, Nat.reduceAdd, Nat.reduceSub, Nat.reduceGT, Nat.reduceEqDiff, Nat.reduceMul, ring, w64, resL]
        refine AC.pure (.lent (heq) (.cons hg.vw (.cons (.refl _) .nil)) (.b _)) ?_
        try simp (dsimp := false) (implicitDefEqProofs := false) (disch := omega) only [go_sem, Nat.reduceAdd, Nat.reduceSub, Nat.reduceGT, Nat.reduceEqDiff, Nat.reduceMul, ring, w64, resL]
        refine gopB.mk' (fun h4 => ?_) (fun h4 => ?_)
        · try simp only [decide_eq_true_eq, decide_eq_false_iff_not, bne_iff_ne, bne_eq_false_iff_eq, beq_iff_eq, beq_eq_false_iff_ne, Bool.not_eq_true', Bool.not_eq_false', Bool.not_eq_true, Bool.not_false, Bool.not_true, ge_iff_le, gt_iff_lt, ne_eq, Int.not_lt, Int.not_le, tf_iff, tf_iff'] at h4
          try simp (dsimp := false) (implicitDefEqProofs := false) (disch := omega) only [go_sem, Nat.reduceAdd, Nat.reduceSub, Nat.reduceGT, Nat.reduceEqDiff, Nat.reduceMul, ring, w64, resL]
          refine hN _ ?_
          try clear hN
          try clear N
          refine AW.cond rfl (fun h5 => ?_) (fun h5 => ?_)
          · try simp only [decide_eq_true_eq, decide_eq_false_iff_not, bne_iff_ne, bne_eq_false_iff_eq, beq_iff_eq, beq_eq_false_iff_ne, Bool.not_eq_true', Bool.not_eq_false', Bool.not_eq_true, Bool.not_false, Bool.not_true, ge_iff_le, gt_iff_lt, ne_eq, Int.not_lt, Int.not_le, tf_iff, tf_iff'] at h5
            refine AW.seq (fun N hN => ?_)
            refine AW.regionL envOk ?_
            simp (dsimp := false) (implicitDefEqProofs := false) (disch := omega) only [go_sem, Nat.reduceAdd, Nat.reduceSub, Nat.reduceGT, Nat.reduceEqDiff, Nat.reduceMul, ring, w64, resL]
            refine hN _ ?_
            try clear hN
            try clear N
            refine AW.ret ?_
            simp (dsimp := false) (implicitDefEqProofs := false) (disch := omega) only [go_sem, Nat.reduceAdd, Nat.reduceSub, Nat.reduceGT, Nat.reduceEqDiff, Nat.reduceMul]
            try (exfalso; first | omega | (simp_all; done))
          · try simp only [decide_eq_true_eq, decide_eq_false_iff_not, bne_iff_ne, bne_eq_false_iff_eq, beq_iff_eq, beq_eq_false_iff_ne, Bool.not_eq_true', Bool.not_eq_false', Bool.not_eq_true, Bool.not_false, Bool.not_true, ge_iff_le, gt_iff_lt, ne_eq, Int.not_lt, Int.not_le, tf_iff, tf_iff'] at h5
            refine AW.skip ?_
            simp only [thn, blk]
            refine hN4 _ ?_
            try clear hN4
            try clear N4
            refine AW.seq (fun N5 hN5 => ?_)
            refine AW.seq (fun N hN => ?_)
            refine AW.drawL envOk (by kernel_rfl) 5 (by kernel_rfl) ?_
            simp (dsimp := false) (implicitDefEqProofs := false) (disch := omega) only [hr_nil, hr_one, hr_if, List.take_succ_cons, List.take_zero, List.drop_succ_cons, List.drop_zero, List.take_nil, List.drop_nil, go_sem, Nat.reduceAdd, Nat.reduceSub, Nat.reduceGT, Nat.reduceEqDiff, Nat.reduceMul, ring, w64, resL]
            try simp (dsimp := false) (implicitDefEqProofs := false) (disch := omega) only [go_sem, Nat.reduceAdd, Nat.reduceSub, Nat.reduceGT, Nat.reduceEqDiff, Nat.reduceMul, hX, hB]
            refine ⟨_, .of (hto.pure ), ?_⟩
            try simp (dsimp := false) (implicitDefEqProofs := false) (disch := omega) only [go_sem, Nat.reduceAdd, Nat.reduceSub, Nat.reduceGT, Nat.reduceEqDiff, Nat.reduceMul, ring, w64, resL]
            try simp (dsimp := false) (implicitDefEqProofs := false) (disch := omega) only [go_sem, Nat.reduceAdd, Nat.reduceSub, Nat.reduceGT, Nat.reduceEqDiff, Nat.reduceMul, hX, hB]
            refine ⟨_, .lent (laws_eqLieRing_ok p p pw pw br br hpw hpw hbr hbr) (.cons ho_r.vw (.cons (.refl _) .nil)) (.b _), ?_⟩
            try simp (dsimp := false) (implicitDefEqProofs := false) (disch := omega) only [go_sem, Nat.reduceAdd, Nat.reduceSub, Nat.reduceGT, Nat.reduceEqDiff, Nat.reduceMul, ring, w64, resL]
            refine hN _ ?_
            try clear hN
            try clear N
            refine AW.cond rfl (fun h6 => ?_) (fun h6 => ?_)
            · try simp only [decide_eq_true_eq, decide_eq_false_iff_not, bne_iff_ne, bne_eq_false_iff_eq, beq_iff_eq, beq_eq_false_iff_ne, Bool.not_eq_true', Bool.not_eq_false', Bool.not_eq_true, Bool.not_false, Bool.not_true, ge_iff_le, gt_iff_lt, ne_eq, Int.not_lt, Int.not_le, tf_iff, tf_iff'] at h6
              refine AW.seq (fun N hN => ?_)
              refine AW.regionL envOk ?_
              simp (dsimp := false) (implicitDefEqProofs := false) (disch := omega) only [go_sem, Nat.reduceAdd, Nat.reduceSub, Nat.reduceGT, Nat.reduceEqDiff, Nat.reduceMul, ring, w64, resL]
              refine hN _ ?_
              try clear hN
              try clear N
              refine AW.ret ?_
              simp (dsimp := false) (implicitDefEqProofs := false) (disch := omega) only [go_sem, Nat.reduceAdd, Nat.reduceSub, Nat.reduceGT, Nat.reduceEqDiff, Nat.reduceMul]
              try (exfalso; first | omega | (simp_all; done))
            · try simp only [decide_eq_true_eq, decide_eq_false_iff_not, bne_iff_ne, bne_eq_false_iff_eq, beq_iff_eq, beq_eq_false_iff_ne, Bool.not_eq_true', Bool.not_eq_false', Bool.not_eq_true, Bool.not_false, Bool.not_true, ge_iff_le, gt_iff_lt, ne_eq, Int.not_lt, Int.not_le, tf_iff, tf_iff'] at h6
              refine AW.skip ?_
              simp only [thn, blk]
              refine hN5 _ ?_
              try clear hN5
              try clear N5
              refine AW.seq (fun N6 hN6 => ?_)
              refine AW.seq (fun N hN => ?_)
              refine AW.regionL envOk ?_
              simp (dsimp := false) (implicitDefEqProofs := false) (disch := omega) only [go_sem, Nat.reduceAdd, Nat.reduceSub, Nat.reduceGT, Nat.reduceEqDiff, Nat.reduceMul, ring, w64, resL]
              refine AC.pure (.of (ht_a.pure )) ?_
              try simp (dsimp := false) (implicitDefEqProofs := false) (disch := omega) only [go_sem, Nat.reduceAdd, Nat.reduceSub, Nat.reduceGT, Nat.reduceEqDiff, Nat.reduceMul, ring, w64, resL]
              refine AC.pure (.lent (laws_eqInt64S_ok a a (by omega) (by omega)) (.cons ho_a.vw (.cons (.refl _) .nil)) (.b _)) ?_
              try simp (dsimp := false) (implicitDefEqProofs := false) (disch := omega) only [go_sem, Nat.reduceAdd, Nat.reduceSub, Nat.reduceGT, Nat.reduceEqDiff, Nat.reduceMul, ring, w64, resL]
              refine hN _ ?_
              try clear hN
              try clear N
              refine AW.cond rfl (fun h7 => ?_) (fun h7 => ?_)
              · try simp only [decide_eq_true_eq, decide_eq_false_iff_not, bne_iff_ne, bne_eq_false_iff_eq, beq_iff_eq, beq_eq_false_iff_ne, Bool.not_eq_true', Bool.not_eq_false', Bool.not_eq_true, Bool.not_false, Bool.not_true, ge_iff_le, gt_iff_lt, ne_eq, Int.not_lt, Int.not_le, tf_iff, tf_iff'] at h7
                refine AW.seq (fun N hN => ?_)
                refine AW.regionL envOk ?_
                simp (dsimp := false) (implicitDefEqProofs := false) (disch := omega) only [go_sem, Nat.reduceAdd, Nat.reduceSub, Nat.reduceGT, Nat.reduceEqDiff, Nat.reduceMul, ring, w64, resL]
                refine hN _ ?_
                try clear hN
                try clear N
                refine AW.ret ?_
                simp (dsimp := false) (implicitDefEqProofs := false) (disch := omega) only [go_sem, Nat.reduceAdd, Nat.reduceSub, Nat.reduceGT, Nat.reduceEqDiff, Nat.reduceMul]
                try (exfalso; first | omega | (simp_all; done))
              · try simp only [decide_eq_true_eq, decide_eq_false_iff_not, bne_iff_ne, bne_eq_false_iff_eq, beq_iff_eq, beq_eq_false_iff_ne, Bool.not_eq_true', Bool.not_eq_false', Bool.not_eq_true, Bool.not_false, Bool.not_true, ge_iff_le, gt_iff_lt, ne_eq, Int.not_lt, Int.not_le, tf_iff, tf_iff'] at h7
                refine AW.skip ?_
                simp only [thn, blk]
                refine hN6 _ ?_
                try clear hN6
                try clear N6
                refine AW.seq (fun N7 hN7 => ?_)
                refine AW.seq (fun N hN => ?_)
                refine AW.regionL envOk ?_
                simp (dsimp := false) (implicitDefEqProofs := false) (disch := omega) only [go_sem, Nat.reduceAdd, Nat.reduceSub, Nat.reduceGT, Nat.reduceEqDiff, Nat.reduceMul, ring, w64, resL]
                refine AC.pure (.of (ht_b.pure )) ?_
                try simp (dsimp := false) (implicitDefEqProofs := false) (disch := omega) only [go_sem, Nat.reduceAdd, Nat.reduceSub, Nat.reduceGT, Nat.reduceEqDiff, Nat.reduceMul, ring, w64, resL]
                refine AC.pure (.lent (laws_eqInt64S_ok b b (by omega) (by omega)) (.cons ho_b.vw (.cons (.refl _) .nil)) (.b _)) ?_
                try simp (dsimp := false) (implicitDefEqProofs := false) (disch := omega) only [go_sem, Nat.reduceAdd, Nat.reduceSub, Nat.reduceGT, Nat.reduceEqDiff, Nat.reduceMul, ring, w64, resL]
                refine hN _ ?_
                try clear hN
                try clear N
                refine AW.cond rfl (fun h8 => ?_) (fun h8 => ?_)
                · try simp only [decide_eq_true_eq, decide_eq_false_iff_not, bne_iff_ne, bne_eq_false_iff_eq, beq_iff_eq, beq_eq_false_iff_ne, Bool.not_eq_true', Bool.not_eq_false', Bool.not_eq_true, Bool.not_false, Bool.not_true, ge_iff_le, gt_iff_lt, ne_eq, Int.not_lt, Int.not_le, tf_iff, tf_iff'] at h8
                  refine AW.seq (fun N hN => ?_)
                  refine AW.regionL envOk ?_
                  simp (dsimp := false) (implicitDefEqProofs := false) (disch := omega) only [go_sem, Nat.reduceAdd, Nat.reduceSub, Nat.reduceGT, Nat.reduceEqDiff, Nat.reduceMul, ring, w64, resL]
                  refine hN _ ?_
                  try clear hN
                  try clear N
                  refine AW.ret ?_
                  simp (dsimp := false) (implicitDefEqProofs := false) (disch := omega) only [go_sem, Nat.reduceAdd, Nat.reduceSub, Nat.reduceGT, Nat.reduceEqDiff, Nat.reduceMul]
                  try (exfalso; first | omega | (simp_all; done))
                · try simp only [decide_eq_true_eq, decide_eq_false_iff_not, bne_iff_ne, bne_eq_false_iff_eq, beq_iff_eq, beq_eq_false_iff_ne, Bool.not_eq_true', Bool.not_eq_false', Bool.not_eq_true, Bool.not_false, Bool.not_true, ge_iff_le, gt_iff_lt, ne_eq, Int.not_lt, Int.not_le, tf_iff, tf_iff'] at h8
                  refine AW.skip ?_
                  simp only [thn, blk]
                  refine hN7 _ ?_
                  try clear hN7
                  try clear N7
                  refine AW.seq (fun N hN => ?_)
                  refine AW.regionL envOk ?_
                  simp (dsimp := false) (implicitDefEqProofs := false) (disch := omega) only [go_sem, Nat.reduceAdd, Nat.reduceSub, Nat.reduceGT, Nat.reduceEqDiff, Nat.reduceMul, ring, w64, resL]
                  refine hN _ ?_
                  try clear hN
                  try clear N
                  refine AW.seq (fun N hN => ?_)
                  refine AW.regionL envOk ?_
                  simp (dsimp := false) (implicitDefEqProofs := false) (disch := omega) only [go_sem, Nat.reduceAdd, Nat.reduceSub, Nat.reduceGT, Nat.reduceEqDiff, Nat.reduceMul, ring, w64, resL]
                  try simp (dsimp := false) (implicitDefEqProofs := false) (disch := omega) only [go_sem, Nat.reduceAdd, Nat.reduceSub, Nat.reduceGT, Nat.reduceEqDiff, Nat.reduceMul, hX]
                  refine (markR_h _ _ _ (p, pw, br) _ _ 1 ho_r (by omega) ⟨g1, g2⟩ (by omega) (by omega)).mono2 ?_
                  rintro m17 H17 res hm17 ⟨k17, rfl, hk17, hk17', hH17⟩
                  replace hB := (hH17 nx (by omega)).trans hB
                  replace ho_a := ho_a.keep (fun i q1 q2 => hH17 i (by omega))
                  replace ho_b := ho_b.keep (fun i q1 q2 => hH17 i (by omega))
                  replace hg := hg.keep (fun i q1 q2 => hH17 i (by omega))
                  try simp (dsimp := false) (implicitDefEqProofs := false) (disch := omega) only [go_sem, Nat.reduceAdd, Nat.reduceSub, Nat.reduceGT, Nat.reduceEqDiff, Nat.reduceMul, ring, w64, resL]
                  refine hN _ ?_
                  try clear hN
                  try clear N
                  refine AW.seq (fun N hN => ?_)
                  refine AW.regionL envOk ?_
                  simp (dsimp := false) (implicitDefEqProofs := false) (disch := omega) only [go_sem, Nat.reduceAdd, Nat.reduceSub, Nat.reduceGT, Nat.reduceEqDiff, Nat.reduceMul, ring, w64, resL]
                  refine (laws_markInt64S_c.h _ _ _ a _ _ k17 ho_a (by omega) hl_a (by omega) (by omega)).mono2 ?_
                  rintro m18 H18 res hm18 ⟨k18, rfl, hk18, hk18', hH18⟩
                  replace hB := (hH18 nx (by omega)).trans hB
                  replace ho_b := ho_b.keep (fun i q1 q2 => hH18 i (by omega))
                  replace hg := hg.keep (fun i q1 q2 => hH18 i (by omega))
                  try simp (dsimp := false) (implicitDefEqProofs := false) (disch := omega) only [go_sem, Nat.reduceAdd, Nat.reduceSub, Nat.reduceGT, Nat.reduceEqDiff, Nat.reduceMul, ring, w64, resL]
                  refine hN _ ?_
                  try clear hN
                  try clear N
                  refine AW.seq (fun N hN => ?_)
                  refine AW.regionL envOk ?_
                  simp (dsimp := false) (implicitDefEqProofs := false) (disch := omega) only [go_sem, Nat.reduceAdd, Nat.reduceSub, Nat.reduceGT, Nat.reduceEqDiff, Nat.reduceMul, ring, w64, resL]
                  refine (laws_markInt64S_c.h _ _ _ b _ _ k18 ho_b (by omega) hl_b (by omega) (by omega)).mono2 ?_
                  rintro m19 H19 res hm19 ⟨k19, rfl, hk19, hk19', hH19⟩
                  replace hB := (hH19 nx (by omega)).trans hB
                  replace hg := hg.keep (fun i q1 q2 => hH19 i (by omega))
                  try simp (dsimp := false) (implicitDefEqProofs := false) (disch := omega) only [go_sem, Nat.reduceAdd, Nat.reduceSub, Nat.reduceGT, Nat.reduceEqDiff, Nat.reduceMul, ring, w64, resL]
                  refine hN _ ?_
                  try clear hN
                  try clear N
                  refine AW.seq (fun N8 hN8 => ?_)
                  refine AW.seq (fun N hN => ?_)
                  refine AW.regionL envOk ?_
                  simp (dsimp := false) (implicitDefEqProofs := false) (disch := omega) only [go_sem, Nat.reduceAdd, Nat.reduceSub, Nat.reduceGT, Nat.reduceEqDiff, Nat.reduceMul, ring, w64, resL]
                  refine gopB.mk' (fun h9 => ?_) (fun h9 => ?_)
                  · try simp only [decide_eq_true_eq, decide_eq_false_iff_not, bne_iff_ne, bne_eq_false_iff_eq, beq_iff_eq, beq_eq_false_iff_ne, Bool.not_eq_true', Bool.not_eq_false', Bool.not_eq_true, Bool.not_false, Bool.not_true, ge_iff_le, gt_iff_lt, ne_eq, Int.not_lt, Int.not_le, tf_iff, tf_iff'] at h9
                    try simp (dsimp := false) (implicitDefEqProofs := false) (disch := omega) only [go_sem, Nat.reduceAdd, Nat.reduceSub, Nat.reduceGT, Nat.reduceEqDiff, Nat.reduceMul, ring, w64, resL]
                    refine AC.pure (.lent (heq) (.cons hg.vw (.cons (.refl _) .nil)) (.b _)) ?_
                    try simp (dsimp := false) (implicitDefEqProofs := false) (disch := omega) only [go_sem, Nat.reduceAdd, Nat.reduceSub, Nat.reduceGT, Nat.reduceEqDiff, Nat.reduceMul, ring, w64, resL]
                    refine gopB.mk' (fun h10 => ?_) (fun h10 => ?_)
                    · try simp only [decide_eq_true_eq, decide_eq_false_iff_not, bne_iff_ne, bne_eq_false_iff_eq, beq_iff_eq, beq_eq_false_iff_ne, Bool.not_eq_true', Bool.not_eq_false', Bool.not_eq_true, Bool.not_false, Bool.not_true, ge_iff_le, gt_iff_lt, ne_eq, Int.not_lt, Int.not_le, tf_iff, tf_iff'] at h10
                      try simp (dsimp := false) (implicitDefEqProofs := false) (disch := omega) only [go_sem, Nat.reduceAdd, Nat.reduceSub, Nat.reduceGT, Nat.reduceEqDiff, Nat.reduceMul, ring, w64, resL]
                      refine hN _ ?_
                      try clear hN
                      try clear N
                      refine AW.cond rfl (fun h11 => ?_) (fun h11 => ?_)
                      · try simp only [decide_eq_true_eq, decide_eq_false_iff_not, bne_iff_ne, bne_eq_false_iff_eq, beq_iff_eq, beq_eq_false_iff_ne, Bool.not_eq_true', Bool.not_eq_false', Bool.not_eq_true, Bool.not_false, Bool.not_true, ge_iff_le, gt_iff_lt, ne_eq, Int.not_lt, Int.not_le, tf_iff, tf_iff'] at h11
                        refine AW.seq (fun N hN => ?_)
                        refine AW.regionL envOk ?_
                        simp (dsimp := false) (implicitDefEqProofs := false) (disch := omega) only [go_sem, Nat.reduceAdd, Nat.reduceSub, Nat.reduceGT, Nat.reduceEqDiff, Nat.reduceMul, ring, w64, resL]
                        refine hN _ ?_
                        try clear hN
                        try clear N
                        refine AW.ret ?_
                        simp (dsimp := false) (implicitDefEqProofs := false) (disch := omega) only [go_sem, Nat.reduceAdd, Nat.reduceSub, Nat.reduceGT, Nat.reduceEqDiff, Nat.reduceMul]
                        try (exfalso; first | omega | (simp_all; done))
                      · try simp only [decide_eq_true_eq, decide_eq_false_iff_not, bne_iff_ne, bne_eq_false_iff_eq, beq_iff_eq, beq_eq_false_iff_ne, Bool.not_eq_true', Bool.not_eq_false', Bool.not_eq_true, Bool.not_false, Bool.not_true, ge_iff_le, gt_iff_lt, ne_eq, Int.not_lt, Int.not_le, tf_iff, tf_iff'] at h11
                        refine AW.skip ?_
                        simp only [thn, blk]
                        refine hN8 _ ?_
                        try clear hN8
                        try clear N8
                        refine AW.seq (fun N hN => ?_)
                        refine AW.regionL envOk ?_
                        simp (dsimp := false) (implicitDefEqProofs := false) (disch := omega) only [go_sem, Nat.reduceAdd, Nat.reduceSub, Nat.reduceGT, Nat.reduceEqDiff, Nat.reduceMul, ring, w64, resL]
                        refine hN _ ?_
                        try clear hN
                        try clear N
                        refine AW.seq (fun N hN => ?_)
                        refine AW.regionL envOk ?_
                        simp (dsimp := false) (implicitDefEqProofs := false) (disch := omega) only [go_sem, Nat.reduceAdd, Nat.reduceSub, Nat.reduceGT, Nat.reduceEqDiff, Nat.reduceMul, ring, w64, resL]
                        refine (markS_g hML.1 hg (by omega) (by omega)).mono2 ?_
                        rintro m21 H21 res hm21 ⟨rfl, hg2, hH21⟩
                        replace hB := (hH21 nx (by omega)).trans hB
                        try simp (dsimp := false) (implicitDefEqProofs := false) (disch := omega) only [go_sem, Nat.reduceAdd, Nat.reduceSub, Nat.reduceGT, Nat.reduceEqDiff, Nat.reduceMul, ring, w64, resL]
                        refine hN _ ?_
                        try clear hN
                        try clear N
                        refine AW.seq (fun N hN => ?_)
                        refine AW.regionL envOk ?_
                        simp (dsimp := false) (implicitDefEqProofs := false) (disch := omega) only [go_sem, Nat.reduceAdd, Nat.reduceSub, Nat.reduceGT, Nat.reduceEqDiff, Nat.reduceMul, ring, w64, resL]
                        refine hN _ ?_
                        try clear hN
                        try clear N
                        refine AW.seq (fun N hN => ?_)
                        refine AW.regionL envOk ?_
                        simp (dsimp := false) (implicitDefEqProofs := false) (disch := omega) only [go_sem, Nat.reduceAdd, Nat.reduceSub, Nat.reduceGT, Nat.reduceEqDiff, Nat.reduceMul, ring, w64, resL]
                        refine AC.pure (.lent (held_g hML.1 (by omega) (by omega)) (.cons hg2.vw (.cons (.refl _) .nil)) (.i _ _)) ?_
                        try simp (dsimp := false) (implicitDefEqProofs := false) (disch := omega) only [go_sem, Nat.reduceAdd, Nat.reduceSub, Nat.reduceGT, Nat.reduceEqDiff, Nat.reduceMul, ring, w64, resL]
                        refine hN _ ?_
                        try clear hN
                        try clear N
                        refine AW.seq (fun N9 hN9 => ?_)
                        refine AW.seq (fun N hN => ?_)
                        refine AW.regionL envOk ?_
                        simp (dsimp := false) (implicitDefEqProofs := false) (disch := omega) only [go_sem, Nat.reduceAdd, Nat.reduceSub, Nat.reduceGT, Nat.reduceEqDiff, Nat.reduceMul, ring, w64, resL]
                        refine hN _ ?_
                        try clear hN
                        try clear N
                        refine AW.cond rfl (fun h12 => ?_) (fun h12 => ?_)
                        · try simp only [decide_eq_true_eq, decide_eq_false_iff_not, bne_iff_ne, bne_eq_false_iff_eq, beq_iff_eq, beq_eq_false_iff_ne, Bool.not_eq_true', Bool.not_eq_false', Bool.not_eq_true, Bool.not_false, Bool.not_true, ge_iff_le, gt_iff_lt, ne_eq, Int.not_lt, Int.not_le, tf_iff, tf_iff'] at h12
                          refine AW.seq (fun N hN => ?_)
                          refine AW.regionL envOk ?_
                          simp (dsimp := false) (implicitDefEqProofs := false) (disch := omega) only [go_sem, Nat.reduceAdd, Nat.reduceSub, Nat.reduceGT, Nat.reduceEqDiff, Nat.reduceMul, ring, w64, resL]
                          refine hN _ ?_
                          try clear hN
                          try clear N
                          refine AW.ret ?_
                          simp (dsimp := false) (implicitDefEqProofs := false) (disch := omega) only [go_sem, Nat.reduceAdd, Nat.reduceSub, Nat.reduceGT, Nat.reduceEqDiff, Nat.reduceMul]
                          try (exfalso; first | omega | (simp_all; done))
                        · try simp only [decide_eq_true_eq, decide_eq_false_iff_not, bne_iff_ne, bne_eq_false_iff_eq, beq_iff_eq, beq_eq_false_iff_ne, Bool.not_eq_true', Bool.not_eq_false', Bool.not_eq_true, Bool.not_false, Bool.not_true, ge_iff_le, gt_iff_lt, ne_eq, Int.not_lt, Int.not_le, tf_iff, tf_iff'] at h12
                          refine AW.skip ?_
                          simp only [thn, blk]
                          refine hN9 _ ?_
                          try clear hN9
                          try clear N9
                          refine AW.seq (fun N10 hN10 => ?_)
                          refine AW.seq (fun N hN => ?_)
                          refine AW.regionL envOk ?_
                          simp (dsimp := false) (implicitDefEqProofs := false) (disch := omega) only [go_sem, Nat.reduceAdd, Nat.reduceSub, Nat.reduceGT, Nat.reduceEqDiff, Nat.reduceMul, ring, w64, resL]
                          refine hN _ ?_
                          try clear hN
                          try clear N
                          refine AW.cond rfl (fun h13 => ?_) (fun h13 => ?_)
                          · try simp only [decide_eq_true_eq, decide_eq_false_iff_not, bne_iff_ne, bne_eq_false_iff_eq, beq_iff_eq, beq_eq_false_iff_ne, Bool.not_eq_true', Bool.not_eq_false', Bool.not_eq_true, Bool.not_false, Bool.not_true, ge_iff_le, gt_iff_lt, ne_eq, Int.not_lt, Int.not_le, tf_iff, tf_iff'] at h13
                            refine AW.seq (fun N hN => ?_)
                            refine AW.regionL envOk ?_
                            simp (dsimp := false) (implicitDefEqProofs := false) (disch := omega) only [go_sem, Nat.reduceAdd, Nat.reduceSub, Nat.reduceGT, Nat.reduceEqDiff, Nat.reduceMul, ring, w64, resL]
                            refine hN _ ?_
                            try clear hN
                            try clear N
                            refine AW.ret ?_
                            simp (dsimp := false) (implicitDefEqProofs := false) (disch := omega) only [go_sem, Nat.reduceAdd, Nat.reduceSub, Nat.reduceGT, Nat.reduceEqDiff, Nat.reduceMul]
                            try (exfalso; first | omega | (simp_all; done))
                          · try simp only [decide_eq_true_eq, decide_eq_false_iff_not, bne_iff_ne, bne_eq_false_iff_eq, beq_iff_eq, beq_eq_false_iff_ne, Bool.not_eq_true', Bool.not_eq_false', Bool.not_eq_true, Bool.not_false, Bool.not_true, ge_iff_le, gt_iff_lt, ne_eq, Int.not_lt, Int.not_le, tf_iff, tf_iff'] at h13
                            refine AW.skip ?_
                            simp only [thn, blk]
                            refine hN10 _ ?_
                            try clear hN10
                            try clear N10
                            refine AW.seq (fun N hN => ?_)
                            refine AW.regionL envOk ?_
                            simp (dsimp := false) (implicitDefEqProofs := false) (disch := omega) only [go_sem, Nat.reduceAdd, Nat.reduceSub, Nat.reduceGT, Nat.reduceEqDiff, Nat.reduceMul, ring, w64, resL]
                            try simp (dsimp := false) (implicitDefEqProofs := false) (disch := omega) only [go_sem, Nat.reduceAdd, Nat.reduceSub, Nat.reduceGT, Nat.reduceEqDiff, Nat.reduceMul, hB]
                            refine AC.pure (.of (hto.pure )) ?_
                            try simp (dsimp := false) (implicitDefEqProofs := false) (disch := omega) only [go_sem, Nat.reduceAdd, Nat.reduceSub, Nat.reduceGT, Nat.reduceEqDiff, Nat.reduceMul, ring, w64, resL]
                            refine AC.pure (.of (ht_a.pure )) ?_
                            try simp (dsimp := false) (implicitDefEqProofs := false) (disch := omega) only [go_sem, Nat.reduceAdd, Nat.reduceSub, Nat.reduceGT, Nat.reduceEqDiff, Nat.reduceMul, ring, w64, resL]
                            refine AC.pure (.of (ht_b.pure )) ?_
                            try simp (dsimp := false) (implicitDefEqProofs := false) (disch := omega) only [go_sem, Nat.reduceAdd, Nat.reduceSub, Nat.reduceGT, Nat.reduceEqDiff, Nat.reduceMul, ring, w64, resL]
                            refine AC.pure (.of (himpl.pure )) ?_
                            try simp (dsimp := false) (implicitDefEqProofs := false) (disch := omega) only [go_sem, Nat.reduceAdd, Nat.reduceSub, Nat.reduceGT, Nat.reduceEqDiff, Nat.reduceMul, ring, w64, resL]
                            refine hN _ ?_
                            try clear hN
                            try clear N
                            refine AW.seq (fun N11 hN11 => ?_)
                            refine AW.seq (fun N hN => ?_)
                            refine AW.regionL envOk ?_
                            simp (dsimp := false) (implicitDefEqProofs := false) (disch := omega) only [go_sem, Nat.reduceAdd, Nat.reduceSub, Nat.reduceGT, Nat.reduceEqDiff, Nat.reduceMul, ring, w64, resL]
                            refine AC.pure (.of (heq )) ?_
                            try simp (dsimp := false) (implicitDefEqProofs := false) (disch := omega) only [go_sem, Nat.reduceAdd, Nat.reduceSub, Nat.reduceGT, Nat.reduceEqDiff, Nat.reduceMul, ring, w64, resL]
                            refine gopB.mk' (fun h14 => ?_) (fun h14 => ?_)
                            · try simp only [decide_eq_true_eq, decide_eq_false_iff_not, bne_iff_ne, bne_eq_false_iff_eq, beq_iff_eq, beq_eq_false_iff_ne, Bool.not_eq_true', Bool.not_eq_false', Bool.not_eq_true, Bool.not_false, Bool.not_true, ge_iff_le, gt_iff_lt, ne_eq, Int.not_lt, Int.not_le, tf_iff, tf_iff'] at h14
                              try simp (dsimp := false) (implicitDefEqProofs := false) (disch := omega) only [go_sem, Nat.reduceAdd, Nat.reduceSub, Nat.reduceGT, Nat.reduceEqDiff, Nat.reduceMul, ring, w64, resL]
                              refine hN _ ?_
                              try clear hN
                              try clear N
                              refine AW.cond rfl (fun h15 => ?_) (fun h15 => ?_)
                              · try simp only [decide_eq_true_eq, decide_eq_false_iff_not, bne_iff_ne, bne_eq_false_iff_eq, beq_iff_eq, beq_eq_false_iff_ne, Bool.not_eq_true', Bool.not_eq_false', Bool.not_eq_true, Bool.not_false, Bool.not_true, ge_iff_le, gt_iff_lt, ne_eq, Int.not_lt, Int.not_le, tf_iff, tf_iff'] at h15
                                refine AW.seq (fun N hN => ?_)
                                refine AW.regionL envOk ?_
                                simp (dsimp := false) (implicitDefEqProofs := false) (disch := omega) only [go_sem, Nat.reduceAdd, Nat.reduceSub, Nat.reduceGT, Nat.reduceEqDiff, Nat.reduceMul, ring, w64, resL]
                                refine hN _ ?_
                                try clear hN
                                try clear N
                                refine AW.ret ?_
                                simp (dsimp := false) (implicitDefEqProofs := false) (disch := omega) only [go_sem, Nat.reduceAdd, Nat.reduceSub, Nat.reduceGT, Nat.reduceEqDiff, Nat.reduceMul]
                                try (exfalso; first | omega | (simp_all; done))
                              · try simp only [decide_eq_true_eq, decide_eq_false_iff_not, bne_iff_ne, bne_eq_false_iff_eq, beq_iff_eq, beq_eq_false_iff_ne, Bool.not_eq_true', Bool.not_eq_false', Bool.not_eq_true, Bool.not_false, Bool.not_true, ge_iff_le, gt_iff_lt, ne_eq, Int.not_lt, Int.not_le, tf_iff, tf_iff'] at h15
                                refine AW.skip ?_
                                simp only [thn, blk]
                                refine hN11 _ ?_
                                try clear hN11
                                try clear N11
                                refine AW.seq (fun N hN => ?_)
                                refine AW.regionL envOk ?_
                                simp (dsimp := false) (implicitDefEqProofs := false) (disch := omega) only [go_sem, Nat.reduceAdd, Nat.reduceSub, Nat.reduceGT, Nat.reduceEqDiff, Nat.reduceMul, ring, w64, resL]
                                refine hN _ ?_
                                try clear hN
                                try clear N
                                refine AW.seq (fun N hN => ?_)
                                refine AW.regionL envOk ?_
                                simp (dsimp := false) (implicitDefEqProofs := false) (disch := omega) only [go_sem, Nat.reduceAdd, Nat.reduceSub, Nat.reduceGT, Nat.reduceEqDiff, Nat.reduceMul, ring, w64, resL]
                                refine AC.pure (.lent (held_g hML.1 (by omega) (by omega)) (.cons hg2.vw (.cons (.refl _) .nil)) (.i _ _)) ?_
                                try simp (dsimp := false) (implicitDefEqProofs := false) (disch := omega) only [go_sem, Nat.reduceAdd, Nat.reduceSub, Nat.reduceGT, Nat.reduceEqDiff, Nat.reduceMul, ring, w64, resL]
                                refine hN _ ?_
                                try clear hN
                                try clear N
                                refine AW.seq (fun N12 hN12 => ?_)
                                refine AW.seq (fun N hN => ?_)
                                refine AW.regionL envOk ?_
                                simp (dsimp := false) (implicitDefEqProofs := false) (disch := omega) only [go_sem, Nat.reduceAdd, Nat.reduceSub, Nat.reduceGT, Nat.reduceEqDiff, Nat.reduceMul, ring, w64, resL]
                                refine hN _ ?_
                                try clear hN
                                try clear N
                                refine AW.cond rfl (fun h16 => ?_) (fun h16 => ?_)
                                · try simp only [decide_eq_true_eq, decide_eq_false_iff_not, bne_iff_ne, bne_eq_false_iff_eq, beq_iff_eq, beq_eq_false_iff_ne, Bool.not_eq_true', Bool.not_eq_false', Bool.not_eq_true, Bool.not_false, Bool.not_true, ge_iff_le, gt_iff_lt, ne_eq, Int.not_lt, Int.not_le, tf_iff, tf_iff'] at h16
                                  refine AW.seq (fun N hN => ?_)
                                  refine AW.regionL envOk ?_
                                  simp (dsimp := false) (implicitDefEqProofs := false) (disch := omega) only [go_sem, Nat.reduceAdd, Nat.reduceSub, Nat.reduceGT, Nat.reduceEqDiff, Nat.reduceMul, ring, w64, resL]
                                  refine hN _ ?_
                                  try clear hN
                                  try clear N
                                  refine AW.ret ?_
                                  simp (dsimp := false) (implicitDefEqProofs := false) (disch := omega) only [go_sem, Nat.reduceAdd, Nat.reduceSub, Nat.reduceGT, Nat.reduceEqDiff, Nat.reduceMul]
                                  try (exfalso; first | omega | (simp_all; done))
                                · try simp only [decide_eq_true_eq, decide_eq_false_iff_not, bne_iff_ne, bne_eq_false_iff_eq, beq_iff_eq, beq_eq_false_iff_ne, Bool.not_eq_true', Bool.not_eq_false', Bool.not_eq_true, Bool.not_false, Bool.not_true, ge_iff_le, gt_iff_lt, ne_eq, Int.not_lt, Int.not_le, tf_iff, tf_iff'] at h16
                                  refine AW.skip ?_
                                  simp only [thn, blk]
                                  refine hN12 _ ?_
                                  try clear hN12
                                  try clear N12
                                  refine AW.seq (fun N13 hN13 => ?_)
                                  refine AW.seq (fun N hN => ?_)
                                  refine AW.regionL envOk ?_
                                  simp (dsimp := false) (implicitDefEqProofs := false) (disch := omega) only [go_sem, Nat.reduceAdd, Nat.reduceSub, Nat.reduceGT, Nat.reduceEqDiff, Nat.reduceMul, ring, w64, resL]
                                  refine hN _ ?_
                                  try clear hN
                                  try clear N
                                  refine AW.cond rfl (fun h17 => ?_) (fun h17 => ?_)
                                  · try simp only [decide_eq_true_eq, decide_eq_false_iff_not, bne_iff_ne, bne_eq_false_iff_eq, beq_iff_eq, beq_eq_false_iff_ne, Bool.not_eq_true', Bool.not_eq_false', Bool.not_eq_true, Bool.not_false, Bool.not_true, ge_iff_le, gt_iff_lt, ne_eq, Int.not_lt, Int.not_le, tf_iff, tf_iff'] at h17
                                    refine AW.seq (fun N hN => ?_)
                                    refine AW.regionL envOk ?_
                                    simp (dsimp := false) (implicitDefEqProofs := false) (disch := omega) only [go_sem, Nat.reduceAdd, Nat.reduceSub, Nat.reduceGT, Nat.reduceEqDiff, Nat.reduceMul, ring, w64, resL]
                                    refine hN _ ?_
                                    try clear hN
                                    try clear N
                                    refine AW.ret ?_
                                    simp (dsimp := false) (implicitDefEqProofs := false) (disch := omega) only [go_sem, Nat.reduceAdd, Nat.reduceSub, Nat.reduceGT, Nat.reduceEqDiff, Nat.reduceMul]
                                    try (exfalso; first | omega | (simp_all; done))
                                  · try simp only [decide_eq_true_eq, decide_eq_false_iff_not, bne_iff_ne, bne_eq_false_iff_eq, beq_iff_eq, beq_eq_false_iff_ne, Bool.not_eq_true', Bool.not_eq_false', Bool.not_eq_true, Bool.not_false, Bool.not_true, ge_iff_le, gt_iff_lt, ne_eq, Int.not_lt, Int.not_le, tf_iff, tf_iff'] at h17
                                    refine AW.skip ?_
                                    simp only [thn, blk]
                                    refine hN13 _ ?_
                                    try clear hN13
                                    try clear N13
                                    refine AW.seq (fun N hN => ?_)
                                    refine AW.regionL envOk ?_
                                    simp (dsimp := false) (implicitDefEqProofs := false) (disch := omega) only [go_sem, Nat.reduceAdd, Nat.reduceSub, Nat.reduceGT, Nat.reduceEqDiff, Nat.reduceMul, ring, w64, resL]
                                    refine hN _ ?_
                                    try clear hN
                                    try clear N
                                    refine AW.ret ?_
                                    simp (dsimp := false) (implicitDefEqProofs := false) (disch := omega) only [go_sem, Nat.reduceAdd, Nat.reduceSub, Nat.reduceGT, Nat.reduceEqDiff, Nat.reduceMul]
                                    try (exfalso; first | omega | (simp_all; done))
                            · try simp only [decide_eq_true_eq, decide_eq_false_iff_not, bne_iff_ne, bne_eq_false_iff_eq, beq_iff_eq, beq_eq_false_iff_ne, Bool.not_eq_true', Bool.not_eq_false', Bool.not_eq_true, Bool.not_false, Bool.not_true, ge_iff_le, gt_iff_lt, ne_eq, Int.not_lt, Int.not_le, tf_iff, tf_iff'] at h14
                              try simp (dsimp := false) (implicitDefEqProofs := false) (disch := omega) only [go_sem, Nat.reduceAdd, Nat.reduceSub, Nat.reduceGT, Nat.reduceEqDiff, Nat.reduceMul, ring, w64, resL]
                              refine hN _ ?_
                              try clear hN
                              try clear N
                              refine AW.condT rfl ?_
                              refine AW.seq (fun N hN => ?_)
                              refine AW.regionL envOk ?_
                              simp (dsimp := false) (implicitDefEqProofs := false) (disch := omega) only [go_sem, Nat.reduceAdd, Nat.reduceSub, Nat.reduceGT, Nat.reduceEqDiff, Nat.reduceMul, ring, w64, resL]
                              refine hN _ ?_
                              try clear hN
                              try clear N
                              refine AW.ret ?_
                              simp (dsimp := false) (implicitDefEqProofs := false) (disch := omega) only [go_sem, Nat.reduceAdd, Nat.reduceSub, Nat.reduceGT, Nat.reduceEqDiff, Nat.reduceMul]
                              try (exfalso; first | omega | (simp_all; done))
                    · try simp only [decide_eq_true_eq, decide_eq_false_iff_not, bne_iff_ne, bne_eq_false_iff_eq, beq_iff_eq, beq_eq_false_iff_ne, Bool.not_eq_true', Bool.not_eq_false', Bool.not_eq_true, Bool.not_false, Bool.not_true, ge_iff_le, gt_iff_lt, ne_eq, Int.not_lt, Int.not_le, tf_iff, tf_iff'] at h10
                      try simp (dsimp := false) (implicitDefEqProofs := false) (disch := omega) only [go_sem, Nat.reduceAdd, Nat.reduceSub, Nat.reduceGT, Nat.reduceEqDiff, Nat.reduceMul, ring, w64, resL]
                      refine hN _ ?_
                      try clear hN
                      try clear N
                      refine AW.condT rfl ?_
                      refine AW.seq (fun N hN => ?_)
                      refine AW.regionL envOk ?_
                      simp (dsimp := false) (implicitDefEqProofs := false) (disch := omega) only [go_sem, Nat.reduceAdd, Nat.reduceSub, Nat.reduceGT, Nat.reduceEqDiff, Nat.reduceMul, ring, w64, resL]
                      refine hN _ ?_
                      try clear hN
                      try clear N
                      refine AW.ret ?_
                      simp (dsimp := false) (implicitDefEqProofs := false) (disch := omega) only [go_sem, Nat.reduceAdd, Nat.reduceSub, Nat.reduceGT, Nat.reduceEqDiff, Nat.reduceMul]
                      try (exfalso; first | omega | (simp_all; done))
                  · try simp only [decide_eq_true_eq, decide_eq_false_iff_not, bne_iff_ne, bne_eq_false_iff_eq, beq_iff_eq, beq_eq_false_iff_ne, Bool.not_eq_true', Bool.not_eq_false', Bool.not_eq_true, Bool.not_false, Bool.not_true, ge_iff_le, gt_iff_lt, ne_eq, Int.not_lt, Int.not_le, tf_iff, tf_iff'] at h9
                    try simp (dsimp := false) (implicitDefEqProofs := false) (disch := omega) only [go_sem, Nat.reduceAdd, Nat.reduceSub, Nat.reduceGT, Nat.reduceEqDiff, Nat.reduceMul, ring, w64, resL]
                    refine hN _ ?_
                    try clear hN
                    try clear N
                    refine AW.condT rfl ?_
                    refine AW.seq (fun N hN => ?_)
                    refine AW.regionL envOk ?_
                    simp (dsimp := false) (implicitDefEqProofs := false) (disch := omega) only [go_sem, Nat.reduceAdd, Nat.reduceSub, Nat.reduceGT, Nat.reduceEqDiff, Nat.reduceMul, ring, w64, resL]
                    refine hN _ ?_
                    try clear hN
                    try clear N
                    refine AW.ret ?_
                    simp (dsimp := false) (implicitDefEqProofs := false) (disch := omega) only [go_sem, Nat.reduceAdd, Nat.reduceSub, Nat.reduceGT, Nat.reduceEqDiff, Nat.reduceMul]
                    try (exfalso; first | omega | (simp_all; done))
        · try simp only [decide_eq_true_eq, decide_eq_false_iff_not, bne_iff_ne, bne_eq_false_iff_eq, beq_iff_eq, beq_eq_false_iff_ne, Bool.not_eq_true', Bool.not_eq_false', Bool.not_eq_true, Bool.not_false, Bool.not_true, ge_iff_le, gt_iff_lt, ne_eq, Int.not_lt, Int.not_le, tf_iff, tf_iff'] at h4
          try simp (dsimp := false) (implicitDefEqProofs := false) (disch := omega) only [go_sem, Nat.reduceAdd, Nat.reduceSub, Nat.reduceGT, Nat.reduceEqDiff, Nat.reduceMul, ring, w64, resL]
          refine hN _ ?_
          try clear hN
          try clear N
          refine AW.condT rfl ?_
          refine AW.seq (fun N hN => ?_)
          refine AW.regionL envOk ?_
          simp (dsimp := false) (implicitDefEqProofs := false) (disch := omega) only [go_sem, Nat.reduceAdd, Nat.reduceSub, Nat.reduceGT, Nat.reduceEqDiff, Nat.reduceMul, ring, w64, resL]
          refine hN _ ?_
          try clear hN
          try clear N
          refine AW.ret ?_
          simp (dsimp := false) (implicitDefEqProofs := false) (disch := omega) only [go_sem, Nat.reduceAdd, Nat.reduceSub, Nat.reduceGT, Nat.reduceEqDiff, Nat.reduceMul]
          try (exfalso; first | omega | (simp_all; done))

theorem law_NegateLie (p : Int) (pw : List (List Int)) (br : List (List (List Int))) (a : List Int) (h0 : i64ok p) (hpw : rowsok pw) (hbr : cubesok br) (hi_a : intsok a) : ACp Try.prog 12 [ring p pw br, ints a] (.b true) := by
  have hi1_a := hi_a.1
  obtain ⟨M, hM⟩ : ∃ M : List Int × Int, orE (tf (AllEl p pw br [a])) (mulL p pw (-1) a, 0) = M := ⟨_, rfl⟩
  refine ACp.intro' envOk Try.func12 rfl (by kernel_rfl) Try.ntmps12 Try.results12 (.b _) (fun nx => ?_)
  refine AW.seq (fun N hN => ?_)
  refine AW.regionL envOk ?_
  simp (dsimp := false) (implicitDefEqProofs := false) (disch := omega) only [go_sem, Nat.reduceAdd, Nat.reduceSub, Nat.reduceGT, Nat.reduceEqDiff, Nat.reduceMul, ring, w64, resL]
  refine hN _ ?_
  try clear hN
  try clear N
  refine AW.seq (fun N1 hN1 => ?_)
  refine AW.seq (fun N hN => ?_)
  refine AW.regionL envOk ?_
  simp (dsimp := false) (implicitDefEqProofs := false) (disch := omega) only [go_sem, Nat.reduceAdd, Nat.reduceSub, Nat.reduceGT, Nat.reduceEqDiff, Nat.reduceMul, ring, w64, resL]
  refine hN _ ?_
  try clear hN
  try clear N
  refine AW.cond rfl (fun h1 => ?_) (fun h1 => ?_)
  · try simp only [decide_eq_true_eq, decide_eq_false_iff_not, bne_iff_ne, bne_eq_false_iff_eq, beq_iff_eq, beq_eq_false_iff_ne, Bool.not_eq_true', Bool.not_eq_false', Bool.not_eq_true, Bool.not_false, Bool.not_true, ge_iff_le, gt_iff_lt, ne_eq, Int.not_lt, Int.not_le, tf_iff, tf_iff'] at h1
    refine AW.seq (fun N hN => ?_)
    refine AW.regionL envOk ?_
    simp (dsimp := false) (implicitDefEqProofs := false) (disch := omega) only [go_sem, Nat.reduceAdd, Nat.reduceSub, Nat.reduceGT, Nat.reduceEqDiff, Nat.reduceMul, ring, w64, resL]
    refine hN _ ?_
    try clear hN
    try clear N
    refine AW.ret ?_
    simp (dsimp := false) (implicitDefEqProofs := false) (disch := omega) only [go_sem, Nat.reduceAdd, Nat.reduceSub, Nat.reduceGT, Nat.reduceEqDiff, Nat.reduceMul]
    try (exfalso; first | omega | (simp_all; done))
  · try simp only [decide_eq_true_eq, decide_eq_false_iff_not, bne_iff_ne, bne_eq_false_iff_eq, beq_iff_eq, beq_eq_false_iff_ne, Bool.not_eq_true', Bool.not_eq_false', Bool.not_eq_true, Bool.not_false, Bool.not_true, ge_iff_le, gt_iff_lt, ne_eq, Int.not_lt, Int.not_le, tf_iff, tf_iff'] at h1
    refine AW.skip ?_
    simp only [thn, blk]
    refine hN1 _ ?_
    try clear hN1
    try clear N1
    refine AW.seq (fun N hN => ?_)
    refine AW.regionL envOk ?_
    simp (dsimp := false) (implicitDefEqProofs := false) (disch := omega) only [go_sem, Nat.reduceAdd, Nat.reduceSub, Nat.reduceGT, Nat.reduceEqDiff, Nat.reduceMul, ring, w64, resL]
    refine hN _ ?_
    try clear hN
    try clear N
    refine AW.seq (fun N hN => ?_)
    refine AW.regionL envOk ?_
    simp (dsimp := false) (implicitDefEqProofs := false) (disch := omega) only [go_sem, Nat.reduceAdd, Nat.reduceSub, Nat.reduceGT, Nat.reduceEqDiff, Nat.reduceMul, ring, w64, resL]
    have hsc1 := szR_le pw br (1048576) (by omega)
    refine AC.pure (.of (laws_szLieRing_ok p pw br (1048576) (by omega) (by omega) hpw hbr)) ?_
    try simp (dsimp := false) (implicitDefEqProofs := false) (disch := omega) only [go_sem, Nat.reduceAdd, Nat.reduceSub, Nat.reduceGT, Nat.reduceEqDiff, Nat.reduceMul, ring, w64, resL]
    refine hN _ ?_
    try clear hN
    try clear N
    refine AW.seq (fun N2 hN2 => ?_)
    refine AW.seq (fun N hN => ?_)
    refine AW.regionL envOk ?_
    simp (dsimp := false) (implicitDefEqProofs := false) (disch := omega) only [go_sem, Nat.reduceAdd, Nat.reduceSub, Nat.reduceGT, Nat.reduceEqDiff, Nat.reduceMul, ring, w64, resL]
    refine hN _ ?_
    try clear hN
    try clear N
    refine AW.cond rfl (fun h2 => ?_) (fun h2 => ?_)
    · try simp only [decide_eq_true_eq, decide_eq_false_iff_not, bne_iff_ne, bne_eq_false_iff_eq, beq_iff_eq, beq_eq_false_iff_ne, Bool.not_eq_true', Bool.not_eq_false', Bool.not_eq_true, Bool.not_false, Bool.not_true, ge_iff_le, gt_iff_lt, ne_eq, Int.not_lt, Int.not_le, tf_iff, tf_iff'] at h2
      refine AW.seq (fun N hN => ?_)
      refine AW.regionL envOk ?_
      simp (dsimp := false) (implicitDefEqProofs := false) (disch := omega) only [go_sem, Nat.reduceAdd, Nat.reduceSub, Nat.reduceGT, Nat.reduceEqDiff, Nat.reduceMul, ring, w64, resL]
      refine hN _ ?_
      try clear hN
      try clear N
      refine AW.ret ?_
      simp (dsimp := false) (implicitDefEqProofs := false) (disch := omega) only [go_sem, Nat.reduceAdd, Nat.reduceSub, Nat.reduceGT, Nat.reduceEqDiff, Nat.reduceMul]
      try (exfalso; first | omega | (simp_all; done))
    · try simp only [decide_eq_true_eq, decide_eq_false_iff_not, bne_iff_ne, bne_eq_false_iff_eq, beq_iff_eq, beq_eq_false_iff_ne, Bool.not_eq_true', Bool.not_eq_false', Bool.not_eq_true, Bool.not_false, Bool.not_true, ge_iff_le, gt_iff_lt, ne_eq, Int.not_lt, Int.not_le, tf_iff, tf_iff'] at h2
      obtain ⟨g1, g2⟩ := szR_mem (l := 1048576) (by omega) (by omega) h2
      have hl := ringlen.of g1 g2
      have hl_a : a.length ≤ 1048576 := by omega
      have hto := laws_toLieRing_ok p pw br g1 g2
      have ht_a := toS_ok a (by omega)
      have hML : M.1.length ≤ 1048576 ∧ True := by rw [← hM]; exact ⟨orE_len (by rw [mulL, nf_len]; exact hl.n), trivial⟩
      have hspec := spec_NegateLie_ok p pw br hl a hl_a
      have himpl := impl_NegateLie_ok p pw br hl a hl_a
      rw [hM] at hspec himpl
      have heq := laws_eqInt64S_ok M.1 M.1 (by omega) (by omega)
      refine AW.skip ?_
      simp only [thn, blk]
      refine hN2 _ ?_
      try clear hN2
      try clear N2
      refine AW.seq (fun N hN => ?_)
      refine AW.regionL envOk ?_
      simp (dsimp := false) (implicitDefEqProofs := false) (disch := omega) only [go_sem, Nat.reduceAdd, Nat.reduceSub, Nat.reduceGT, Nat.reduceEqDiff, Nat.reduceMul, ring, w64, resL]
      refine AC.pure (.of (hto.pure )) ?_
      try simp (dsimp := false) (implicitDefEqProofs := false) (disch := omega) only [go_sem, Nat.reduceAdd, Nat.reduceSub, Nat.reduceGT, Nat.reduceEqDiff, Nat.reduceMul, ring, w64, resL]
      refine AC.pure (.of (ht_a.pure )) ?_
      try simp (dsimp := false) (implicitDefEqProofs := false) (disch := omega) only [go_sem, Nat.reduceAdd, Nat.reduceSub, Nat.reduceGT, Nat.reduceEqDiff, Nat.reduceMul, ring, w64, resL]
      refine AC.pure (.of (hspec )) ?_
      try simp (dsimp := false) (implicitDefEqProofs := false) (disch := omega) only [go_sem, Nat.reduceAdd, Nat.reduceSub, Nat.reduceGT, Nat.reduceEqDiff, Nat.reduceMul, ring, w64, resL]
      refine hN _ ?_
      try clear hN
      try clear N
      refine AW.seq (fun N hN => ?_)
      refine AW.regionL envOk ?_
      simp (dsimp := false) (implicitDefEqProofs := false) (disch := omega) only [go_sem, Nat.reduceAdd, Nat.reduceSub, Nat.reduceGT, Nat.reduceEqDiff, Nat.reduceMul, ring, w64, resL]
      refine AC.hold hto (.cons (.refl _) .nil) ?_
      intro m5 H5 r_r hm5 hH5 ho_r
      have hB := (hH5 nx (by omega)).trans (upd_same _ _ _)
      obtain ⟨r1, r2, rfl, u1, u2, ho_r⟩ := ho_r.ring
      try simp (dsimp := false) (implicitDefEqProofs := false) (disch := omega) only [go_sem, Nat.reduceAdd, Nat.reduceSub, Nat.reduceGT, Nat.reduceEqDiff, Nat.reduceMul, u1, u2]
      obtain ⟨b0, hb0⟩ : ∃ b0, nx + 2 + 3 + 1 + 4 + 2 + 10 + 2 = b0 := ⟨_, rfl⟩
      rw [hb0]
      refine hN _ ?_
      try clear hN
      try clear N
      refine AW.seq (fun N hN => ?_)
      refine AW.regionL envOk ?_
      simp (dsimp := false) (implicitDefEqProofs := false) (disch := omega) only [go_sem, Nat.reduceAdd, Nat.reduceSub, Nat.reduceGT, Nat.reduceEqDiff, Nat.reduceMul, ring, w64, resL]
      refine AC.hold ht_a (.cons (.refl _) .nil) ?_
      intro m6 H6 r_a hm6 hH6 ho_a
      replace hB := (hH6 nx (by omega)).trans ((upd_ne _ _ (by omega)).trans hB)
      have hX := (hH6 b0 (by omega)).trans (upd_same _ _ _)
      replace ho_r := ho_r.keep (fun i q1 q2 => (hH6 i (by omega)).trans (upd_ne _ _ (by omega)))
      try simp (dsimp := false) (implicitDefEqProofs := false) (disch := omega) only [go_sem, Nat.reduceAdd, Nat.reduceSub, Nat.reduceGT, Nat.reduceEqDiff, Nat.reduceMul, ring, w64, resL]
      refine hN _ ?_
      try clear hN
      try clear N
      refine AW.seq (fun N hN => ?_)
      refine AW.regionL envOk ?_
      simp (dsimp := false) (implicitDefEqProofs := false) (disch := omega) only [go_sem, Nat.reduceAdd, Nat.reduceSub, Nat.reduceGT, Nat.reduceEqDiff, Nat.reduceMul, ring, w64, resL]
      try simp (dsimp := false) (implicitDefEqProofs := false) (disch := omega) only [go_sem, Nat.reduceAdd, Nat.reduceSub, Nat.reduceGT, Nat.reduceEqDiff, Nat.reduceMul, hX]
      refine AC.hold himpl (.cons ho_r.vw (.cons ho_a.vw .nil)) ?_
      intro m7 H7 r_g hm7 hH7 ho_g
      replace hB := (hH7 nx (by omega)).trans hB
      replace hX := (hH7 b0 (by omega)).trans hX
      replace ho_r := ho_r.keep (fun i q1 q2 => hH7 i (by omega))
      replace ho_a := ho_a.keep (fun i q1 q2 => hH7 i (by omega))
      obtain ⟨g0, rfl, hg⟩ := ho_g.pair
      clear ho_g
      try simp (dsimp := false) (implicitDefEqProofs := false) (disch := omega) only [go_sem, Nat.reduceAdd, Nat.reduceSub, Nat.reduceGT, Nat.reduceEqDiff, Nat.reduceMul, ring, w64, resL]
      refine hN _ ?_
      try clear hN
      try clear N
      refine AW.seq (fun N3 hN3 => ?_)
      refine AW.seq (fun N hN => ?_)
      refine AW.regionL envOk ?_
      simp (dsimp := false) (implicitDefEqProofs := false) (disch := omega) only [go_sem, Nat.reduceAdd, Nat.reduceSub, Nat.reduceGT, Nat.reduceEqDiff, Nat.reduceMul, ring, w64, resL]
      refine AC.pure (.lent (heq) (.cons hg.vw (.cons (.refl _) .nil)) (.b _)) ?_
      try simp (dsimp := false) (implicitDefEqProofs := false) (disch := omega) only [go_sem, Nat.reduceAdd, Nat.reduceSub, Nat.reduceGT, Nat.reduceEqDiff, Nat.reduceMul, ring, w64, resL]
      refine gopB.mk' (fun h3 => ?_) (fun h3 => ?_)
      · try simp only [decide_eq_true_eq, decide_eq_false_iff_not, bne_iff_ne, bne_eq_false_iff_eq, beq_iff_eq, beq_eq_false_iff_ne, Bool.not_eq_true', Bool.not_eq_false', Bool.not_eq_true, Bool.not_false, Bool.not_true, ge_iff_le, gt_iff_lt, ne_eq, Int.not_lt, Int.not_le, tf_iff, tf_iff'] at h3
        try simp (dsimp := false) (implicitDefEqProofs := false) (disch := omega) only [go_sem, Nat.reduceAdd, Nat.reduceSub, Nat.reduceGT, Nat.reduceEqDiff, Nat.reduceMul, ring, w64, resL]
        refine hN _ ?_
        try clear hN
        try clear N
        refine AW.cond rfl (fun h4 => ?_) (fun h4 => ?_)
        · try simp only [decide_eq_true_eq, decide_eq_false_iff_not, bne_iff_ne, bne_eq_false_iff_eq, beq_iff_eq, beq_eq_false_iff_ne, Bool.not_eq_true', Bool.not_eq_false', Bool.not_eq_true, Bool.not_false, Bool.not_true, ge_iff_le, gt_iff_lt, ne_eq, Int.not_lt, Int.not_le, tf_iff, tf_iff'] at h4
          refine AW.seq (fun N hN => ?_)
          refine AW.regionL envOk ?_
          simp (dsimp := false) (implicitDefEqProofs := false) (disch := omega) only [go_sem, Nat.reduceAdd, Nat.reduceSub, Nat.reduceGT, Nat.reduceEqDiff, Nat.reduceMul, ring, w64, resL]
          refine hN _ ?_
          try clear hN
          try clear N
          refine AW.ret ?_
          simp (dsimp := false) (implicitDefEqProofs := false) (disch := omega) only [go_sem, Nat.reduceAdd, Nat.reduceSub, Nat.reduceGT, Nat.reduceEqDiff, Nat.reduceMul]
          try (exfalso; first | omega | (simp_all; done))
        · try simp only [decide_eq_true_eq, decide_eq_false_iff_not, bne_iff_ne, bne_eq_false_iff_eq, beq_iff_eq, beq_eq_false_iff_ne, Bool.not_eq_true', Bool.not_eq_false', Bool.not_eq_true, Bool.not_false, Bool.not_true, ge_iff_le, gt_iff_lt, ne_eq, Int.not_lt, Int.not_le, tf_iff, tf_iff'] at h4
          refine AW.skip ?_
          simp only [thn, blk]
          refine hN3 _ ?_
          try clear hN3
          try clear N3
          refine AW.seq (fun N4 hN4 => ?_)
          refine AW.seq (fun N hN => ?_)
          refine AW.drawL envOk (by kernel_rfl) 5 (by kernel_rfl) ?_
          simp (dsimp := false) (implicitDefEqProofs := false) (disch := omega) only [hr_nil, hr_one, hr_if, List.take_succ_cons, List.take_zero, List.drop_succ_cons, List.drop_zero, List.take_nil, List.drop_nil, go_sem, Nat.reduceAdd, Nat.reduceSub, Nat.reduceGT, Nat.reduceEqDiff, Nat.reduceMul, ring, w64, resL]
          try simp (dsimp := false) (implicitDefEqProofs := false) (disch := omega) only [go_sem, Nat.reduceAdd, Nat.reduceSub, Nat.reduceGT, Nat.reduceEqDiff, Nat.reduceMul, hX, hB]
          refine ⟨_, .of (hto.pure ), ?_⟩
          try simp (dsimp := false) (implicitDefEqProofs := false) (disch := omega) only [go_sem, Nat.reduceAdd, Nat.reduceSub, Nat.reduceGT, Nat.reduceEqDiff, Nat.reduceMul, ring, w64, resL]
          try simp (dsimp := false) (implicitDefEqProofs := false) (disch := omega) only [go_sem, Nat.reduceAdd, Nat.reduceSub, Nat.reduceGT, Nat.reduceEqDiff, Nat.reduceMul, hX, hB]
          refine ⟨_, .lent (laws_eqLieRing_ok p p pw pw br br hpw hpw hbr hbr) (.cons ho_r.vw (.cons (.refl _) .nil)) (.b _), ?_⟩
          try simp (dsimp := false) (implicitDefEqProofs := false) (disch := omega) only [go_sem, Nat.reduceAdd, Nat.reduceSub, Nat.reduceGT, Nat.reduceEqDiff, Nat.reduceMul, ring, w64, resL]
          refine hN _ ?_
          try clear hN
          try clear N
          refine AW.cond rfl (fun h5 => ?_) (fun h5 => ?_)
          · try simp only [decide_eq_true_eq, decide_eq_false_iff_not, bne_iff_ne, bne_eq_false_iff_eq, beq_iff_eq, beq_eq_false_iff_ne, Bool.not_eq_true', Bool.not_eq_false', Bool.not_eq_true, Bool.not_false, Bool.not_true, ge_iff_le, gt_iff_lt, ne_eq, Int.not_lt, Int.not_le, tf_iff, tf_iff'] at h5
            refine AW.seq (fun N hN => ?_)
            refine AW.regionL envOk ?_
            simp (dsimp := false) (implicitDefEqProofs := false) (disch := omega) only [go_sem, Nat.reduceAdd, Nat.reduceSub, Nat.reduceGT, Nat.reduceEqDiff, Nat.reduceMul, ring, w64, resL]
            refine hN _ ?_
            try clear hN
            try clear N
            refine AW.ret ?_
            simp (dsimp := false) (implicitDefEqProofs := false) (disch := omega) only [go_sem, Nat.reduceAdd, Nat.reduceSub, Nat.reduceGT, Nat.reduceEqDiff, Nat.reduceMul]
            try (exfalso; first | omega | (simp_all; done))
          · try simp only [decide_eq_true_eq, decide_eq_false_iff_not, bne_iff_ne, bne_eq_false_iff_eq, beq_iff_eq, beq_eq_false_iff_ne, Bool.not_eq_true', Bool.not_eq_false', Bool.not_eq_true, Bool.not_false, Bool.not_true, ge_iff_le, gt_iff_lt, ne_eq, Int.not_lt, Int.not_le, tf_iff, tf_iff'] at h5
            refine AW.skip ?_
            simp only [thn, blk]
            refine hN4 _ ?_
            try clear hN4
            try clear N4
            refine AW.seq (fun N5 hN5 => ?_)
            refine AW.seq (fun N hN => ?_)
            refine AW.regionL envOk ?_
            simp (dsimp := false) (implicitDefEqProofs := false) (disch := omega) only [go_sem, Nat.reduceAdd, Nat.reduceSub, Nat.reduceGT, Nat.reduceEqDiff, Nat.reduceMul, ring, w64, resL]
            refine AC.pure (.of (ht_a.pure )) ?_
            try simp (dsimp := false) (implicitDefEqProofs := false) (disch := omega) only [go_sem, Nat.reduceAdd, Nat.reduceSub, Nat.reduceGT, Nat.reduceEqDiff, Nat.reduceMul, ring, w64, resL]
            refine AC.pure (.lent (laws_eqInt64S_ok a a (by omega) (by omega)) (.cons ho_a.vw (.cons (.refl _) .nil)) (.b _)) ?_
            try simp (dsimp := false) (implicitDefEqProofs := false) (disch := omega) only [go_sem, Nat.reduceAdd, Nat.reduceSub, Nat.reduceGT, Nat.reduceEqDiff, Nat.reduceMul, ring, w64, resL]
            refine hN _ ?_
            try clear hN
            try clear N
            refine AW.cond rfl (fun h6 => ?_) (fun h6 => ?_)
            · try simp only [decide_eq_true_eq, decide_eq_false_iff_not, bne_iff_ne, bne_eq_false_iff_eq, beq_iff_eq, beq_eq_false_iff_ne, Bool.not_eq_true', Bool.not_eq_false', Bool.not_eq_true, Bool.not_false, Bool.not_true, ge_iff_le, gt_iff_lt, ne_eq, Int.not_lt, Int.not_le, tf_iff, tf_iff'] at h6
              refine AW.seq (fun N hN => ?_)
              refine AW.regionL envOk ?_
              simp (dsimp := false) (implicitDefEqProofs := false) (disch := omega) only [go_sem, Nat.reduceAdd, Nat.reduceSub, Nat.reduceGT, Nat.reduceEqDiff, Nat.reduceMul, ring, w64, resL]
              refine hN _ ?_
              try clear hN
              try clear N
              refine AW.ret ?_
              simp (dsimp := false) (implicitDefEqProofs := false) (disch := omega) only [go_sem, Nat.reduceAdd, Nat.reduceSub, Nat.reduceGT, Nat.reduceEqDiff, Nat.reduceMul]
              try (exfalso; first | omega | (simp_all; done))
            · try simp only [decide_eq_true_eq, decide_eq_false_iff_not, bne_iff_ne, bne_eq_false_iff_eq, beq_iff_eq, beq_eq_false_iff_ne, Bool.not_eq_true', Bool.not_eq_false', Bool.not_eq_true, Bool.not_false, Bool.not_true, ge_iff_le, gt_iff_lt, ne_eq, Int.not_lt, Int.not_le, tf_iff, tf_iff'] at h6
              refine AW.skip ?_
              simp only [thn, blk]
              refine hN5 _ ?_
              try clear hN5
              try clear N5
              refine AW.seq (fun N hN => ?_)
              refine AW.regionL envOk ?_
              simp (dsimp := false) (implicitDefEqProofs := false) (disch := omega) only [go_sem, Nat.reduceAdd, Nat.reduceSub, Nat.reduceGT, Nat.reduceEqDiff, Nat.reduceMul, ring, w64, resL]
              refine hN _ ?_
              try clear hN
              try clear N
              refine AW.seq (fun N hN => ?_)
              refine AW.regionL envOk ?_
              simp (dsimp := false) (implicitDefEqProofs := false) (disch := omega) only [go_sem, Nat.reduceAdd, Nat.reduceSub, Nat.reduceGT, Nat.reduceEqDiff, Nat.reduceMul, ring, w64, resL]
              try simp (dsimp := false) (implicitDefEqProofs := false) (disch := omega) only [go_sem, Nat.reduceAdd, Nat.reduceSub, Nat.reduceGT, Nat.reduceEqDiff, Nat.reduceMul, hX]
              refine (markR_h _ _ _ (p, pw, br) _ _ 1 ho_r (by omega) ⟨g1, g2⟩ (by omega) (by omega)).mono2 ?_
              rintro m13 H13 res hm13 ⟨k13, rfl, hk13, hk13', hH13⟩
              replace hB := (hH13 nx (by omega)).trans hB
              replace ho_a := ho_a.keep (fun i q1 q2 => hH13 i (by omega))
              replace hg := hg.keep (fun i q1 q2 => hH13 i (by omega))
              try simp (dsimp := false) (implicitDefEqProofs := false) (disch := omega) only [go_sem, Nat.reduceAdd, Nat.reduceSub, Nat.reduceGT, Nat.reduceEqDiff, Nat.reduceMul, ring, w64, resL]
              refine hN _ ?_
              try clear hN
              try clear N
              refine AW.seq (fun N hN => ?_)
              refine AW.regionL envOk ?_
              simp (dsimp := false) (implicitDefEqProofs := false) (disch := omega) only [go_sem, Nat.reduceAdd, Nat.reduceSub, Nat.reduceGT, Nat.reduceEqDiff, Nat.reduceMul, ring, w64, resL]
              refine (laws_markInt64S_c.h _ _ _ a _ _ k13 ho_a (by omega) hl_a (by omega) (by omega)).mono2 ?_
              rintro m14 H14 res hm14 ⟨k14, rfl, hk14, hk14', hH14⟩
              replace hB := (hH14 nx (by omega)).trans hB
              replace hg := hg.keep (fun i q1 q2 => hH14 i (by omega))
              try simp (dsimp := false) (implicitDefEqProofs := false) (disch := omega) only [go_sem, Nat.reduceAdd, Nat.reduceSub, Nat.reduceGT, Nat.reduceEqDiff, Nat.reduceMul, ring, w64, resL]
              refine hN _ ?_
              try clear hN
              try clear N
              refine AW.seq (fun N6 hN6 => ?_)
              refine AW.seq (fun N hN => ?_)
              refine AW.regionL envOk ?_
              simp (dsimp := false) (implicitDefEqProofs := false) (disch := omega) only [go_sem, Nat.reduceAdd, Nat.reduceSub, Nat.reduceGT, Nat.reduceEqDiff, Nat.reduceMul, ring, w64, resL]
              refine gopB.mk' (fun h7 => ?_) (fun h7 => ?_)
              · try simp only [decide_eq_true_eq, decide_eq_false_iff_not, bne_iff_ne, bne_eq_false_iff_eq, beq_iff_eq, beq_eq_false_iff_ne, Bool.not_eq_true', Bool.not_eq_false', Bool.not_eq_true, Bool.not_false, Bool.not_true, ge_iff_le, gt_iff_lt, ne_eq, Int.not_lt, Int.not_le, tf_iff, tf_iff'] at h7
                try simp (dsimp := false) (implicitDefEqProofs := false) (disch := omega) only [go_sem, Nat.reduceAdd, Nat.reduceSub, Nat.reduceGT, Nat.reduceEqDiff, Nat.reduceMul, ring, w64, resL]
                refine AC.pure (.lent (heq) (.cons hg.vw (.cons (.refl _) .nil)) (.b _)) ?_
                try simp (dsimp := false) (implicitDefEqProofs := false) (disch := omega) only [go_sem, Nat.reduceAdd, Nat.reduceSub, Nat.reduceGT, Nat.reduceEqDiff, Nat.reduceMul, ring, w64, resL]
                refine gopB.mk' (fun h8 => ?_) (fun h8 => ?_)
                · try simp only [decide_eq_true_eq, decide_eq_false_iff_not, bne_iff_ne, bne_eq_false_iff_eq, beq_iff_eq, beq_eq_false_iff_ne, Bool.not_eq_true', Bool.not_eq_false', Bool.not_eq_true, Bool.not_false, Bool.not_true, ge_iff_le, gt_iff_lt, ne_eq, Int.not_lt, Int.not_le, tf_iff, tf_iff'] at h8
                  try simp (dsimp := false) (implicitDefEqProofs := false) (disch := omega) only [go_sem, Nat.reduceAdd, Nat.reduceSub, Nat.reduceGT, Nat.reduceEqDiff, Nat.reduceMul, ring, w64, resL]
                  refine hN _ ?_
                  try clear hN
                  try clear N
                  refine AW.cond rfl (fun h9 => ?_) (fun h9 => ?_)
                  · try simp only [decide_eq_true_eq, decide_eq_false_iff_not, bne_iff_ne, bne_eq_false_iff_eq, beq_iff_eq, beq_eq_false_iff_ne, Bool.not_eq_true', Bool.not_eq_false', Bool.not_eq_true, Bool.not_false, Bool.not_true, ge_iff_le, gt_iff_lt, ne_eq, Int.not_lt, Int.not_le, tf_iff, tf_iff'] at h9
                    refine AW.seq (fun N hN => ?_)
                    refine AW.regionL envOk ?_
                    simp (dsimp := false) (implicitDefEqProofs := false) (disch := omega) only [go_sem, Nat.reduceAdd, Nat.reduceSub, Nat.reduceGT, Nat.reduceEqDiff, Nat.reduceMul, ring, w64, resL]
                    refine hN _ ?_
                    try clear hN
                    try clear N
                    refine AW.ret ?_
                    simp (dsimp := false) (implicitDefEqProofs := false) (disch := omega) only [go_sem, Nat.reduceAdd, Nat.reduceSub, Nat.reduceGT, Nat.reduceEqDiff, Nat.reduceMul]
                    try (exfalso; first | omega | (simp_all; done))
                  · try simp only [decide_eq_true_eq, decide_eq_false_iff_not, bne_iff_ne, bne_eq_false_iff_eq, beq_iff_eq, beq_eq_false_iff_ne, Bool.not_eq_true', Bool.not_eq_false', Bool.not_eq_true, Bool.not_false, Bool.not_true, ge_iff_le, gt_iff_lt, ne_eq, Int.not_lt, Int.not_le, tf_iff, tf_iff'] at h9
                    refine AW.skip ?_
                    simp only [thn, blk]
                    refine hN6 _ ?_
                    try clear hN6
                    try clear N6
                    refine AW.seq (fun N hN => ?_)
                    refine AW.regionL envOk ?_
                    simp (dsimp := false) (implicitDefEqProofs := false) (disch := omega) only [go_sem, Nat.reduceAdd, Nat.reduceSub, Nat.reduceGT, Nat.reduceEqDiff, Nat.reduceMul, ring, w64, resL]
                    refine hN _ ?_
                    try clear hN
                    try clear N
                    refine AW.seq (fun N hN => ?_)
                    refine AW.regionL envOk ?_
                    simp (dsimp := false) (implicitDefEqProofs := false) (disch := omega) only [go_sem, Nat.reduceAdd, Nat.reduceSub, Nat.reduceGT, Nat.reduceEqDiff, Nat.reduceMul, ring, w64, resL]
                    refine (markS_g hML.1 hg (by omega) (by omega)).mono2 ?_
                    rintro m16 H16 res hm16 ⟨rfl, hg2, hH16⟩
                    replace hB := (hH16 nx (by omega)).trans hB
                    try simp (dsimp := false) (implicitDefEqProofs := false) (disch := omega) only [go_sem, Nat.reduceAdd, Nat.reduceSub, Nat.reduceGT, Nat.reduceEqDiff, Nat.reduceMul, ring, w64, resL]
                    refine hN _ ?_
                    try clear hN
                    try clear N
                    refine AW.seq (fun N hN => ?_)
                    refine AW.regionL envOk ?_
                    simp (dsimp := false) (implicitDefEqProofs := false) (disch := omega) only [go_sem, Nat.reduceAdd, Nat.reduceSub, Nat.reduceGT, Nat.reduceEqDiff, Nat.reduceMul, ring, w64, resL]
                    refine hN _ ?_
                    try clear hN
                    try clear N
                    refine AW.seq (fun N hN => ?_)
                    refine AW.regionL envOk ?_
                    simp (dsimp := false) (implicitDefEqProofs := false) (disch := omega) only [go_sem, Nat.reduceAdd, Nat.reduceSub, Nat.reduceGT, Nat.reduceEqDiff, Nat.reduceMul, ring, w64, resL]
                    refine AC.pure (.lent (held_g hML.1 (by omega) (by omega)) (.cons hg2.vw (.cons (.refl _) .nil)) (.i _ _)) ?_
                    try simp (dsimp := false) (implicitDefEqProofs := false) (disch := omega) only [go_sem, Nat.reduceAdd, Nat.reduceSub, Nat.reduceGT, Nat.reduceEqDiff, Nat.reduceMul, ring, w64, resL]
                    refine hN _ ?_
                    try clear hN
                    try clear N
                    refine AW.seq (fun N7 hN7 => ?_)
                    refine AW.seq (fun N hN => ?_)
                    refine AW.regionL envOk ?_
                    simp (dsimp := false) (implicitDefEqProofs := false) (disch := omega) only [go_sem, Nat.reduceAdd, Nat.reduceSub, Nat.reduceGT, Nat.reduceEqDiff, Nat.reduceMul, ring, w64, resL]
                    refine hN _ ?_
                    try clear hN
                    try clear N
                    refine AW.cond rfl (fun h10 => ?_) (fun h10 => ?_)
                    · try simp only [decide_eq_true_eq, decide_eq_false_iff_not, bne_iff_ne, bne_eq_false_iff_eq, beq_iff_eq, beq_eq_false_iff_ne, Bool.not_eq_true', Bool.not_eq_false', Bool.not_eq_true, Bool.not_false, Bool.not_true, ge_iff_le, gt_iff_lt, ne_eq, Int.not_lt, Int.not_le, tf_iff, tf_iff'] at h10
                      refine AW.seq (fun N hN => ?_)
                      refine AW.regionL envOk ?_
                      simp (dsimp := false) (implicitDefEqProofs := false) (disch := omega) only [go_sem, Nat.reduceAdd, Nat.reduceSub, Nat.reduceGT, Nat.reduceEqDiff, Nat.reduceMul, ring, w64, resL]
                      refine hN _ ?_
                      try clear hN
                      try clear N
                      refine AW.ret ?_
                      simp (dsimp := false) (implicitDefEqProofs := false) (disch := omega) only [go_sem, Nat.reduceAdd, Nat.reduceSub, Nat.reduceGT, Nat.reduceEqDiff, Nat.reduceMul]
                      try (exfalso; first | omega | (simp_all; done))
                    · try simp only [decide_eq_true_eq, decide_eq_false_iff_not, bne_iff_ne, bne_eq_false_iff_eq, beq_iff_eq, beq_eq_false_iff_ne, Bool.not_eq_true', Bool.not_eq_false', Bool.not_eq_true, Bool.not_false, Bool.not_true, ge_iff_le, gt_iff_lt, ne_eq, Int.not_lt, Int.not_le, tf_iff, tf_iff'] at h10
                      refine AW.skip ?_
                      simp only [thn, blk]
                      refine hN7 _ ?_
                      try clear hN7
                      try clear N7
                      refine AW.seq (fun N8 hN8 => ?_)
                      refine AW.seq (fun N hN => ?_)
                      refine AW.regionL envOk ?_
                      simp (dsimp := false) (implicitDefEqProofs := false) (disch := omega) only [go_sem, Nat.reduceAdd, Nat.reduceSub, Nat.reduceGT, Nat.reduceEqDiff, Nat.reduceMul, ring, w64, resL]
                      refine hN _ ?_
                      try clear hN
                      try clear N
                      refine AW.cond rfl (fun h11 => ?_) (fun h11 => ?_)
                      · try simp only [decide_eq_true_eq, decide_eq_false_iff_not, bne_iff_ne, bne_eq_false_iff_eq, beq_iff_eq, beq_eq_false_iff_ne, Bool.not_eq_true', Bool.not_eq_false', Bool.not_eq_true, Bool.not_false, Bool.not_true, ge_iff_le, gt_iff_lt, ne_eq, Int.not_lt, Int.not_le, tf_iff, tf_iff'] at h11
                        refine AW.seq (fun N hN => ?_)
                        refine AW.regionL envOk ?_
                        simp (dsimp := false) (implicitDefEqProofs := false) (disch := omega) only [go_sem, Nat.reduceAdd, Nat.reduceSub, Nat.reduceGT, Nat.reduceEqDiff, Nat.reduceMul, ring, w64, resL]
                        refine hN _ ?_
                        try clear hN
                        try clear N
                        refine AW.ret ?_
                        simp (dsimp := false) (implicitDefEqProofs := false) (disch := omega) only [go_sem, Nat.reduceAdd, Nat.reduceSub, Nat.reduceGT, Nat.reduceEqDiff, Nat.reduceMul]
                        try (exfalso; first | omega | (simp_all; done))
                      · try simp only [decide_eq_true_eq, decide_eq_false_iff_not, bne_iff_ne, bne_eq_false_iff_eq, beq_iff_eq, beq_eq_false_iff_ne, Bool.not_eq_true', Bool.not_eq_false', Bool.not_eq_true, Bool.not_false, Bool.not_true, ge_iff_le, gt_iff_lt, ne_eq, Int.not_lt, Int.not_le, tf_iff, tf_iff'] at h11
                        refine AW.skip ?_
                        simp only [thn, blk]
                        refine hN8 _ ?_
                        try clear hN8
                        try clear N8
                        refine AW.seq (fun N hN => ?_)
                        refine AW.regionL envOk ?_
                        simp (dsimp := false) (implicitDefEqProofs := false) (disch := omega) only [go_sem, Nat.reduceAdd, Nat.reduceSub, Nat.reduceGT, Nat.reduceEqDiff, Nat.reduceMul, ring, w64, resL]
                        try simp (dsimp := false) (implicitDefEqProofs := false) (disch := omega) only [go_sem, Nat.reduceAdd, Nat.reduceSub, Nat.reduceGT, Nat.reduceEqDiff, Nat.reduceMul, hB]
                        refine AC.pure (.of (hto.pure )) ?_
                        try simp (dsimp := false) (implicitDefEqProofs := false) (disch := omega) only [go_sem, Nat.reduceAdd, Nat.reduceSub, Nat.reduceGT, Nat.reduceEqDiff, Nat.reduceMul, ring, w64, resL]
                        refine AC.pure (.of (ht_a.pure )) ?_
                        try simp (dsimp := false) (implicitDefEqProofs := false) (disch := omega) only [go_sem, Nat.reduceAdd, Nat.reduceSub, Nat.reduceGT, Nat.reduceEqDiff, Nat.reduceMul, ring, w64, resL]
                        refine AC.pure (.of (himpl.pure )) ?_
                        try simp (dsimp := false) (implicitDefEqProofs := false) (disch := omega) only [go_sem, Nat.reduceAdd, Nat.reduceSub, Nat.reduceGT, Nat.reduceEqDiff, Nat.reduceMul, ring, w64, resL]
                        refine hN _ ?_
                        try clear hN
                        try clear N
                        refine AW.seq (fun N9 hN9 => ?_)
                        refine AW.seq (fun N hN => ?_)
                        refine AW.regionL envOk ?_
                        simp (dsimp := false) (implicitDefEqProofs := false) (disch := omega) only [go_sem, Nat.reduceAdd, Nat.reduceSub, Nat.reduceGT, Nat.reduceEqDiff, Nat.reduceMul, ring, w64, resL]
                        refine AC.pure (.of (heq )) ?_
                        try simp (dsimp := false) (implicitDefEqProofs := false) (disch := omega) only [go_sem, Nat.reduceAdd, Nat.reduceSub, Nat.reduceGT, Nat.reduceEqDiff, Nat.reduceMul, ring, w64, resL]
                        refine gopB.mk' (fun h12 => ?_) (fun h12 => ?_)
                        · try simp only [decide_eq_true_eq, decide_eq_false_iff_not, bne_iff_ne, bne_eq_false_iff_eq, beq_iff_eq, beq_eq_false_iff_ne, Bool.not_eq_true', Bool.not_eq_false', Bool.not_eq_true, Bool.not_false, Bool.not_true, ge_iff_le, gt_iff_lt, ne_eq, Int.not_lt, Int.not_le, tf_iff, tf_iff'] at h12
                          try simp (dsimp := false) (implicitDefEqProofs := false) (disch := omega) only [go_sem, Nat.reduceAdd, Nat.reduceSub, Nat.reduceGT, Nat.reduceEqDiff, Nat.reduceMul, ring, w64, resL]
                          refine hN _ ?_
                          try clear hN
                          try clear N
                          refine AW.cond rfl (fun h13 => ?_) (fun h13 => ?_)
                          · try simp only [decide_eq_true_eq, decide_eq_false_iff_not, bne_iff_ne, bne_eq_false_iff_eq, beq_iff_eq, beq_eq_false_iff_ne, Bool.not_eq_true', Bool.not_eq_false', Bool.not_eq_true, Bool.not_false, Bool.not_true, ge_iff_le, gt_iff_lt, ne_eq, Int.not_lt, Int.not_le, tf_iff, tf_iff'] at h13
                            refine AW.seq (fun N hN => ?_)
                            refine AW.regionL envOk ?_
                            simp (dsimp := false) (implicitDefEqProofs := false) (disch := omega) only [go_sem, Nat.reduceAdd, Nat.reduceSub, Nat.reduceGT, Nat.reduceEqDiff, Nat.reduceMul, ring, w64, resL]
                            refine hN _ ?_
                            try clear hN
                            try clear N
                            refine AW.ret ?_
                            simp (dsimp := false) (implicitDefEqProofs := false) (disch := omega) only [go_sem, Nat.reduceAdd, Nat.reduceSub, Nat.reduceGT, Nat.reduceEqDiff, Nat.reduceMul]
                            try (exfalso; first | omega | (simp_all; done))
                          · try simp only [decide_eq_true_eq, decide_eq_false_iff_not, bne_iff_ne, bne_eq_false_iff_eq, beq_iff_eq, beq_eq_false_iff_ne, Bool.not_eq_true', Bool.not_eq_false', Bool.not_eq_true, Bool.not_false, Bool.not_true, ge_iff_le, gt_iff_lt, ne_eq, Int.not_lt, Int.not_le, tf_iff, tf_iff'] at h13
                            refine AW.skip ?_
                            simp only [thn, blk]
                            refine hN9 _ ?_
                            try clear hN9
                            try clear N9
                            refine AW.seq (fun N hN => ?_)
                            refine AW.regionL envOk ?_
                            simp (dsimp := false) (implicitDefEqProofs := false) (disch := omega) only [go_sem, Nat.reduceAdd, Nat.reduceSub, Nat.reduceGT, Nat.reduceEqDiff, Nat.reduceMul, ring, w64, resL]
                            refine hN _ ?_
                            try clear hN
                            try clear N
                            refine AW.seq (fun N hN => ?_)
                            refine AW.regionL envOk ?_
                            simp (dsimp := false) (implicitDefEqProofs := false) (disch := omega) only [go_sem, Nat.reduceAdd, Nat.reduceSub, Nat.reduceGT, Nat.reduceEqDiff, Nat.reduceMul, ring, w64, resL]
                            refine AC.pure (.lent (held_g hML.1 (by omega) (by omega)) (.cons hg2.vw (.cons (.refl _) .nil)) (.i _ _)) ?_
                            try simp (dsimp := false) (implicitDefEqProofs := false) (disch := omega) only [go_sem, Nat.reduceAdd, Nat.reduceSub, Nat.reduceGT, Nat.reduceEqDiff, Nat.reduceMul, ring, w64, resL]
                            refine hN _ ?_
                            try clear hN
                            try clear N
                            refine AW.seq (fun N10 hN10 => ?_)
                            refine AW.seq (fun N hN => ?_)
                            refine AW.regionL envOk ?_
                            simp (dsimp := false) (implicitDefEqProofs := false) (disch := omega) only [go_sem, Nat.reduceAdd, Nat.reduceSub, Nat.reduceGT, Nat.reduceEqDiff, Nat.reduceMul, ring, w64, resL]
                            refine hN _ ?_
                            try clear hN
                            try clear N
                            refine AW.cond rfl (fun h14 => ?_) (fun h14 => ?_)
                            · try simp only [decide_eq_true_eq, decide_eq_false_iff_not, bne_iff_ne, bne_eq_false_iff_eq, beq_iff_eq, beq_eq_false_iff_ne, Bool.not_eq_true', Bool.not_eq_false', Bool.not_eq_true, Bool.not_false, Bool.not_true, ge_iff_le, gt_iff_lt, ne_eq, Int.not_lt, Int.not_le, tf_iff, tf_iff'] at h14
                              refine AW.seq (fun N hN => ?_)
                              refine AW.regionL envOk ?_
                              simp (dsimp := false) (implicitDefEqProofs := false) (disch := omega) only [go_sem, Nat.reduceAdd, Nat.reduceSub, Nat.reduceGT, Nat.reduceEqDiff, Nat.reduceMul, ring, w64, resL]
                              refine hN _ ?_
                              try clear hN
                              try clear N
                              refine AW.ret ?_
                              simp (dsimp := false) (implicitDefEqProofs := false) (disch := omega) only [go_sem, Nat.reduceAdd, Nat.reduceSub, Nat.reduceGT, Nat.reduceEqDiff, Nat.reduceMul]
                              try (exfalso; first | omega | (simp_all; done))
                            · try simp only [decide_eq_true_eq, decide_eq_false_iff_not, bne_iff_ne, bne_eq_false_iff_eq, beq_iff_eq, beq_eq_false_iff_ne, Bool.not_eq_true', Bool.not_eq_false', Bool.not_eq_true, Bool.not_false, Bool.not_true, ge_iff_le, gt_iff_lt, ne_eq, Int.not_lt, Int.not_le, tf_iff, tf_iff'] at h14
                              refine AW.skip ?_
                              simp only [thn, blk]
                              refine hN10 _ ?_
                              try clear hN10
                              try clear N10
                              refine AW.seq (fun N11 hN11 => ?_)
                              refine AW.seq (fun N hN => ?_)
                              refine AW.regionL envOk ?_
                              simp (dsimp := false) (implicitDefEqProofs := false) (disch := omega) only [go_sem, Nat.reduceAdd, Nat.reduceSub, Nat.reduceGT, Nat.reduceEqDiff, Nat.reduceMul, ring, w64, resL]
                              refine hN _ ?_
                              try clear hN
                              try clear N
                              refine AW.cond rfl (fun h15 => ?_) (fun h15 => ?_)
                              · try simp only [decide_eq_true_eq, decide_eq_false_iff_not, bne_iff_ne, bne_eq_false_iff_eq, beq_iff_eq, beq_eq_false_iff_ne, Bool.not_eq_true', Bool.not_eq_false', Bool.not_eq_true, Bool.not_false, Bool.not_true, ge_iff_le, gt_iff_lt, ne_eq, Int.not_lt, Int.not_le, tf_iff, tf_iff'] at h15
                                refine AW.seq (fun N hN => ?_)
                                refine AW.regionL envOk ?_
                                simp (dsimp := false) (implicitDefEqProofs := false) (disch := omega) only [go_sem, Nat.reduceAdd, Nat.reduceSub, Nat.reduceGT, Nat.reduceEqDiff, Nat.reduceMul, ring, w64, resL]
                                refine hN _ ?_
                                try clear hN
                                try clear N
                                refine AW.ret ?_
                                simp (dsimp := false) (implicitDefEqProofs := false) (disch := omega) only [go_sem, Nat.reduceAdd, Nat.reduceSub, Nat.reduceGT, Nat.reduceEqDiff, Nat.reduceMul]
                                try (exfalso; first | omega | (simp_all; done))
                              · try simp only [decide_eq_true_eq, decide_eq_false_iff_not, bne_iff_ne, bne_eq_false_iff_eq, beq_iff_eq, beq_eq_false_iff_ne, Bool.not_eq_true', Bool.not_eq_false', Bool.not_eq_true, Bool.not_false, Bool.not_true, ge_iff_le, gt_iff_lt, ne_eq, Int.not_lt, Int.not_le, tf_iff, tf_iff'] at h15
                                refine AW.skip ?_
                                simp only [thn, blk]
                                refine hN11 _ ?_
                                try clear hN11
                                try clear N11
                                refine AW.seq (fun N hN => ?_)
                                refine AW.regionL envOk ?_
                                simp (dsimp := false) (implicitDefEqProofs := false) (disch := omega) only [go_sem, Nat.reduceAdd, Nat.reduceSub, Nat.reduceGT, Nat.reduceEqDiff, Nat.reduceMul, ring, w64, resL]
                                refine hN _ ?_
                                try clear hN
                                try clear N
                                refine AW.ret ?_
                                simp (dsimp := false) (implicitDefEqProofs := false) (disch := omega) only [go_sem, Nat.reduceAdd, Nat.reduceSub, Nat.reduceGT, Nat.reduceEqDiff, Nat.reduceMul]
                                try (exfalso; first | omega | (simp_all; done))
                        · try simp only [decide_eq_true_eq, decide_eq_false_iff_not, bne_iff_ne, bne_eq_false_iff_eq, beq_iff_eq, beq_eq_false_iff_ne, Bool.not_eq_true', Bool.not_eq_false', Bool.not_eq_true, Bool.not_false, Bool.not_true, ge_iff_le, gt_iff_lt, ne_eq, Int.not_lt, Int.not_le, tf_iff, tf_iff'] at h12
                          try simp (dsimp := false) (implicitDefEqProofs := false) (disch := omega) only [go_sem, Nat.reduceAdd, Nat.reduceSub, Nat.reduceGT, Nat.reduceEqDiff, Nat.reduceMul, ring, w64, resL]
                          refine hN _ ?_
                          try clear hN
                          try clear N
                          refine AW.condT rfl ?_
                          refine AW.seq (fun N hN => ?_)
                          refine AW.regionL envOk ?_
                          simp (dsimp := false) (implicitDefEqProofs := false) (disch := omega) only [go_sem, Nat.reduceAdd, Nat.reduceSub, Nat.reduceGT, Nat.reduceEqDiff, Nat.reduceMul, ring, w64, resL]
                          refine hN _ ?_
                          try clear hN
                          try clear N
                          refine AW.ret ?_
                          simp (dsimp := false) (implicitDefEqProofs := false) (disch := omega) only [go_sem, Nat.reduceAdd, Nat.reduceSub, Nat.reduceGT, Nat.reduceEqDiff, Nat.reduceMul]
                          try (exfalso; first | omega | (simp_all; done))
                · try simp only [decide_eq_true_eq, decide_eq_false_iff_not, bne_iff_ne, bne_eq_false_iff_eq, beq_iff_eq, beq_eq_false_iff_ne, Bool.not_eq_true', Bool.not_eq_false', Bool.not_eq_true, Bool.not_false, Bool.not_true, ge_iff_le, gt_iff_lt, ne_eq, Int.not_lt, Int.not_le, tf_iff, tf_iff'] at h8
                  try simp (dsimp := false) (implicitDefEqProofs := false) (disch := omega) only [go_sem, Nat.reduceAdd, Nat.reduceSub, Nat.reduceGT, Nat.reduceEqDiff, Nat.reduceMul, ring, w64, resL]
                  refine hN _ ?_
                  try clear hN
                  try clear N
                  refine AW.condT rfl ?_
                  refine AW.seq (fun N hN => ?_)
                  refine AW.regionL envOk ?_
                  simp (dsimp := false) (implicitDefEqProofs := false) (disch := omega) only [go_sem, Nat.reduceAdd, Nat.reduceSub, Nat.reduceGT, Nat.reduceEqDiff, Nat.reduceMul, ring, w64, resL]
                  refine hN _ ?_
                  try clear hN
                  try clear N
                  refine AW.ret ?_
                  simp (dsimp := false) (implicitDefEqProofs := false) (disch := omega) only [go_sem, Nat.reduceAdd, Nat.reduceSub, Nat.reduceGT, Nat.reduceEqDiff, Nat.reduceMul]
                  try (exfalso; first | omega | (simp_all; done))
              · try simp only [decide_eq_true_eq, decide_eq_false_iff_not, bne_iff_ne, bne_eq_false_iff_eq, beq_iff_eq, beq_eq_false_iff_ne, Bool.not_eq_true', Bool.not_eq_false', Bool.not_eq_true, Bool.not_false, Bool.not_true, ge_iff_le, gt_iff_lt, ne_eq, Int.not_lt, Int.not_le, tf_iff, tf_iff'] at h7
                try simp (dsimp := false) (implicitDefEqProofs := false) (disch := omega) only [go_sem, Nat.reduceAdd, Nat.reduceSub, Nat.reduceGT, Nat.reduceEqDiff, Nat.reduceMul, ring, w64, resL]
                refine hN _ ?_
                try clear hN
                try clear N
                refine AW.condT rfl ?_
                refine AW.seq (fun N hN => ?_)
                refine AW.regionL envOk ?_
                simp (dsimp := false) (implicitDefEqProofs := false) (disch := omega) only [go_sem, Nat.reduceAdd, Nat.reduceSub, Nat.reduceGT, Nat.reduceEqDiff, Nat.reduceMul, ring, w64, resL]
                refine hN _ ?_
                try clear hN
                try clear N
                refine AW.ret ?_
                simp (dsimp := false) (implicitDefEqProofs := false) (disch := omega) only [go_sem, Nat.reduceAdd, Nat.reduceSub, Nat.reduceGT, Nat.reduceEqDiff, Nat.reduceMul]
                try (exfalso; first | omega | (simp_all; done))
      · try simp only [decide_eq_true_eq, decide_eq_false_iff_not, bne_iff_ne, bne_eq_false_iff_eq, beq_iff_eq, beq_eq_false_iff_ne, Bool.not_eq_true', Bool.not_eq_false', Bool.not_eq_true, Bool.not_false, Bool.not_true, ge_iff_le, gt_iff_lt, ne_eq, Int.not_lt, Int.not_le, tf_iff, tf_iff'] at h3
        try simp (dsimp := false) (implicitDefEqProofs := false) (disch := omega) only [go_sem, Nat.reduceAdd, Nat.reduceSub, Nat.reduceGT, Nat.reduceEqDiff, Nat.reduceMul, ring, w64, resL]
        refine hN _ ?_
        try clear hN
        try clear N
        refine AW.condT rfl ?_
        refine AW.seq (fun N hN => ?_)
        refine AW.regionL envOk ?_
        simp (dsimp := false) (implicitDefEqProofs := false) (disch := omega) only [go_sem, Nat.reduceAdd, Nat.reduceSub, Nat.reduceGT, Nat.reduceEqDiff, Nat.reduceMul, ring, w64, resL]
        refine hN _ ?_
        try clear hN
        try clear N
        refine AW.ret ?_
        simp (dsimp := false) (implicitDefEqProofs := false) (disch := omega) only [go_sem, Nat.reduceAdd, Nat.reduceSub, Nat.reduceGT, Nat.reduceEqDiff, Nat.reduceMul]
        try (exfalso; first | omega | (simp_all; done))

theorem law_TimesLie (p : Int) (pw : List (List Int)) (br : List (List (List Int))) (k : Int) (a : List Int) (h0 : i64ok p) (hpw : rowsok pw) (hbr : cubesok br) (hi_k : i64ok k) (hi_a : intsok a) : ACp Try.prog 13 [ring p pw br, .i .i64 k, ints a] (.b true) := by
  have hi1_a := hi_a.1
  obtain ⟨M, hM⟩ : ∃ M : List Int × Int, orE (tf (AllEl p pw br [a])) (orR (tf (inM k)) (mulL p pw k a, 0)) = M := ⟨_, rfl⟩
  refine ACp.intro' envOk Try.func13 rfl (by kernel_rfl) Try.ntmps13 Try.results13 (.b _) (fun nx => ?_)
  refine AW.seq (fun N hN => ?_)
  refine AW.regionL envOk ?_
  simp (dsimp := false) (implicitDefEqProofs := false) (disch := omega) only [go_sem, Nat.reduceAdd, Nat.reduceSub, Nat.reduceGT, Nat.reduceEqDiff, Nat.reduceMul, ring, w64, resL]
  refine hN _ ?_
  try clear hN
  try clear N
  refine AW.seq (fun N1 hN1 => ?_)
  refine AW.seq (fun N hN => ?_)
  refine AW.regionL envOk ?_
  simp (dsimp := false) (implicitDefEqProofs := false) (disch := omega) only [go_sem, Nat.reduceAdd, Nat.reduceSub, Nat.reduceGT, Nat.reduceEqDiff, Nat.reduceMul, ring, w64, resL]
  refine hN _ ?_
  try clear hN
  try clear N
  refine AW.cond rfl (fun h1 => ?_) (fun h1 => ?_)
  · try simp only [decide_eq_true_eq, decide_eq_false_iff_not, bne_iff_ne, bne_eq_false_iff_eq, beq_iff_eq, beq_eq_false_iff_ne, Bool.not_eq_true', Bool.not_eq_false', Bool.not_eq_true, Bool.not_false, Bool.not_true, ge_iff_le, gt_iff_lt, ne_eq, Int.not_lt, Int.not_le, tf_iff, tf_iff'] at h1
    refine AW.seq (fun N hN => ?_)
    refine AW.regionL envOk ?_
    simp (dsimp := false) (implicitDefEqProofs := false) (disch := omega) only [go_sem, Nat.reduceAdd, Nat.reduceSub, Nat.reduceGT, Nat.reduceEqDiff, Nat.reduceMul, ring, w64, resL]
    refine hN _ ?_
    try clear hN
    try clear N
    refine AW.ret ?_
    simp (dsimp := false) (implicitDefEqProofs := false) (disch := omega) only [go_sem, Nat.reduceAdd, Nat.reduceSub, Nat.reduceGT, Nat.reduceEqDiff, Nat.reduceMul]
    try (exfalso; first | omega | (simp_all; done))
  · try simp only [decide_eq_true_eq, decide_eq_false_iff_not, bne_iff_ne, bne_eq_false_iff_eq, beq_iff_eq, beq_eq_false_iff_ne, Bool.not_eq_true', Bool.not_eq_false', Bool.not_eq_true, Bool.not_false, Bool.not_true, ge_iff_le, gt_iff_lt, ne_eq, Int.not_lt, Int.not_le, tf_iff, tf_iff'] at h1
    refine AW.skip ?_
    simp only [thn, blk]
    refine hN1 _ ?_
    try clear hN1
    try clear N1
    refine AW.seq (fun N hN => ?_)
    refine AW.regionL envOk ?_
    simp (dsimp := false) (implicitDefEqProofs := false) (disch := omega) only [go_sem, Nat.reduceAdd, Nat.reduceSub, Nat.reduceGT, Nat.reduceEqDiff, Nat.reduceMul, ring, w64, resL]
    refine hN _ ?_
    try clear hN
    try clear N
    refine AW.seq (fun N hN => ?_)
    refine AW.regionL envOk ?_
    simp (dsimp := false) (implicitDefEqProofs := false) (disch := omega) only [go_sem, Nat.reduceAdd, Nat.reduceSub, Nat.reduceGT, Nat.reduceEqDiff, Nat.reduceMul, ring, w64, resL]
    have hsc1 := szR_le pw br (1048576) (by omega)
    refine AC.pure (.of (laws_szLieRing_ok p pw br (1048576) (by omega) (by omega) hpw hbr)) ?_
    try simp (dsimp := false) (implicitDefEqProofs := false) (disch := omega) only [go_sem, Nat.reduceAdd, Nat.reduceSub, Nat.reduceGT, Nat.reduceEqDiff, Nat.reduceMul, ring, w64, resL]
    refine hN _ ?_
    try clear hN
    try clear N
    refine AW.seq (fun N2 hN2 => ?_)
    refine AW.seq (fun N hN => ?_)
    refine AW.regionL envOk ?_
    simp (dsimp := false) (implicitDefEqProofs := false) (disch := omega) only [go_sem, Nat.reduceAdd, Nat.reduceSub, Nat.reduceGT, Nat.reduceEqDiff, Nat.reduceMul, ring, w64, resL]
    refine hN _ ?_
    try clear hN
    try clear N
    refine AW.cond rfl (fun h2 => ?_) (fun h2 => ?_)
    · try simp only [decide_eq_true_eq, decide_eq_false_iff_not, bne_iff_ne, bne_eq_false_iff_eq, beq_iff_eq, beq_eq_false_iff_ne, Bool.not_eq_true', Bool.not_eq_false', Bool.not_eq_true, Bool.not_false, Bool.not_true, ge_iff_le, gt_iff_lt, ne_eq, Int.not_lt, Int.not_le, tf_iff, tf_iff'] at h2
      refine AW.seq (fun N hN => ?_)
      refine AW.regionL envOk ?_
      simp (dsimp := false) (implicitDefEqProofs := false) (disch := omega) only [go_sem, Nat.reduceAdd, Nat.reduceSub, Nat.reduceGT, Nat.reduceEqDiff, Nat.reduceMul, ring, w64, resL]
      refine hN _ ?_
      try clear hN
      try clear N
      refine AW.ret ?_
      simp (dsimp := false) (implicitDefEqProofs := false) (disch := omega) only [go_sem, Nat.reduceAdd, Nat.reduceSub, Nat.reduceGT, Nat.reduceEqDiff, Nat.reduceMul]
      try (exfalso; first | omega | (simp_all; done))
    · try simp only [decide_eq_true_eq, decide_eq_false_iff_not, bne_iff_ne, bne_eq_false_iff_eq, beq_iff_eq, beq_eq_false_iff_ne, Bool.not_eq_true', Bool.not_eq_false', Bool.not_eq_true, Bool.not_false, Bool.not_true, ge_iff_le, gt_iff_lt, ne_eq, Int.not_lt, Int.not_le, tf_iff, tf_iff'] at h2
      obtain ⟨g1, g2⟩ := szR_mem (l := 1048576) (by omega) (by omega) h2
      have hl := ringlen.of g1 g2
      have hl_a : a.length ≤ 1048576 := by omega
      have hto := laws_toLieRing_ok p pw br g1 g2
      have ht_a := toS_ok a (by omega)
      have hML : M.1.length ≤ 1048576 ∧ True := by rw [← hM]; exact ⟨orE_len (orR_len (by rw [mulL, nf_len]; exact hl.n)), trivial⟩
      have hspec := spec_TimesLie_ok p pw br hl k a hl_a
      have himpl := impl_TimesLie_ok p pw br hl k a hl_a
      rw [hM] at hspec himpl
      have heq := laws_eqInt64S_ok M.1 M.1 (by omega) (by omega)
      refine AW.skip ?_
      simp only [thn, blk]
      refine hN2 _ ?_
      try clear hN2
      try clear N2
      refine AW.seq (fun N hN => ?_)
      refine AW.regionL envOk ?_
      simp (dsimp := false) (implicitDefEqProofs := false) (disch := omega) only [go_sem, Nat.reduceAdd, Nat.reduceSub, Nat.reduceGT, Nat.reduceEqDiff, Nat.reduceMul, ring, w64, resL]
      refine AC.pure (.of (hto.pure )) ?_
      try simp (dsimp := false) (implicitDefEqProofs := false) (disch := omega) only [go_sem, Nat.reduceAdd, Nat.reduceSub, Nat.reduceGT, Nat.reduceEqDiff, Nat.reduceMul, ring, w64, resL]
      refine AC.pure (.of (ht_a.pure )) ?_
      try simp (dsimp := false) (implicitDefEqProofs := false) (disch := omega) only [go_sem, Nat.reduceAdd, Nat.reduceSub, Nat.reduceGT, Nat.reduceEqDiff, Nat.reduceMul, ring, w64, resL]
      refine AC.pure (.of (hspec )) ?_
      try simp (dsimp := false) (implicitDefEqProofs := false) (disch := omega) only [go_sem, Nat.reduceAdd, Nat.reduceSub, Nat.reduceGT, Nat.reduceEqDiff, Nat.reduceMul, ring, w64, resL]
      refine hN _ ?_
      try clear hN
      try clear N
      refine AW.seq (fun N hN => ?_)
      refine AW.regionL envOk ?_
      simp (dsimp := false) (implicitDefEqProofs := false) (disch := omega) only [go_sem, Nat.reduceAdd, Nat.reduceSub, Nat.reduceGT, Nat.reduceEqDiff, Nat.reduceMul, ring, w64, resL]
      refine AC.hold hto (.cons (.refl _) .nil) ?_
      intro m5 H5 r_r hm5 hH5 ho_r
      have hB := (hH5 nx (by omega)).trans (upd_same _ _ _)
      obtain ⟨r1, r2, rfl, u1, u2, ho_r⟩ := ho_r.ring
      try simp (dsimp := false) (implicitDefEqProofs := false) (disch := omega) only [go_sem, Nat.reduceAdd, Nat.reduceSub, Nat.reduceGT, Nat.reduceEqDiff, Nat.reduceMul, u1, u2]
      obtain ⟨b0, hb0⟩ : ∃ b0, nx + 2 + 3 + 1 + 4 + 2 + 11 + 2 = b0 := ⟨_, rfl⟩
      rw [hb0]
      refine hN _ ?_
      try clear hN
      try clear N
      refine AW.seq (fun N hN => ?_)
      refine AW.regionL envOk ?_
      simp (dsimp := false) (implicitDefEqProofs := false) (disch := omega) only [go_sem, Nat.reduceAdd, Nat.reduceSub, Nat.reduceGT, Nat.reduceEqDiff, Nat.reduceMul, ring, w64, resL]
      refine AC.hold ht_a (.cons (.refl _) .nil) ?_
      intro m6 H6 r_a hm6 hH6 ho_a
      replace hB := (hH6 nx (by omega)).trans ((upd_ne _ _ (by omega)).trans hB)
      have hX := (hH6 b0 (by omega)).trans (upd_same _ _ _)
      replace ho_r := ho_r.keep (fun i q1 q2 => (hH6 i (by omega)).trans (upd_ne _ _ (by omega)))
      try simp (dsimp := false) (implicitDefEqProofs := false) (disch := omega) only [go_sem, Nat.reduceAdd, Nat.reduceSub, Nat.reduceGT, Nat.reduceEqDiff, Nat.reduceMul, ring, w64, resL]
      refine hN _ ?_
      try clear hN
      try clear N
      refine AW.seq (fun N hN => ?_)
      refine AW.regionL envOk ?_
      simp (dsimp := false) (implicitDefEqProofs := false) (disch := omega) only [go_sem, Nat.reduceAdd, Nat.reduceSub, Nat.reduceGT, Nat.reduceEqDiff, Nat.reduceMul, ring, w64, resL]
      try simp (dsimp := false) (implicitDefEqProofs := false) (disch := omega) only [go_sem, Nat.reduceAdd, Nat.reduceSub, Nat.reduceGT, Nat.reduceEqDiff, Nat.reduceMul, hX]
      refine AC.hold himpl (.cons ho_r.vw (.cons (.refl _) (.cons ho_a.vw .nil))) ?_
      intro m7 H7 r_g hm7 hH7 ho_g
      replace hB := (hH7 nx (by omega)).trans hB
      replace hX := (hH7 b0 (by omega)).trans hX
      replace ho_r := ho_r.keep (fun i q1 q2 => hH7 i (by omega))
      replace ho_a := ho_a.keep (fun i q1 q2 => hH7 i (by omega))
      obtain ⟨g0, rfl, hg⟩ := ho_g.pair
      clear ho_g
      try simp (dsimp := false) (implicitDefEqProofs := false) (disch := omega) only [go_sem, Nat.reduceAdd, Nat.reduceSub, Nat.reduceGT, Nat.reduceEqDiff, Nat.reduceMul, ring, w64, resL]
      refine hN _ ?_
      try clear hN
      try clear N
      refine AW.seq (fun N3 hN3 => ?_)
      refine AW.seq (fun N hN => ?_)
      refine AW.regionL envOk ?_
      simp (dsimp := false) (implicitDefEqProofs := false) (disch := omega) only [go_sem, Nat.reduceAdd, Nat.reduceSub, Nat.reduceGT, Nat.reduceEqDiff, Nat.reduceMul, ring, w64, resL]
      refine AC.pure (.lent (heq) (.cons hg.vw (.cons (.refl _) .nil)) (.b _)) ?_
      try simp (dsimp := false) (implicitDefEqProofs := false) (disch := omega) only [go_sem, Nat.reduceAdd, Nat.reduceSub, Nat.reduceGT, Nat.reduceEqDiff, Nat.reduceMul, ring, w64, resL]
      refine gopB.mk' (fun h3 => ?_) (fun h3 => ?_)
      · try simp only [decide_eq_true_eq, decide_eq_false_iff_not, bne_iff_ne, bne_eq_false_iff_eq, beq_iff_eq, beq_eq_false_iff_ne, Bool.not_eq_true', Bool.not_eq_false', Bool.not_eq_true, Bool.not_false, Bool.not_true, ge_iff_le, gt_iff_lt, ne_eq, Int.not_lt, Int.not_le, tf_iff, tf_iff'] at h3
        try simp (dsimp := false) (implicitDefEqProofs := false) (disch := omega) only [go_sem, Nat.reduceAdd, Nat.reduceSub, Nat.reduceGT, Nat.reduceEqDiff, Nat.reduceMul, ring, w64, resL]
        refine hN _ ?_
        try clear hN
        try clear N
        refine AW.cond rfl (fun h4 => ?_) (fun h4 => ?_)
        · try simp only [decide_eq_true_eq, decide_eq_false_iff_not, bne_iff_ne, bne_eq_false_iff_eq, beq_iff_eq, beq_eq_false_iff_ne, Bool.not_eq_true', Bool.not_eq_false', Bool.not_eq_true, Bool.not_false, Bool.not_true, ge_iff_le, gt_iff_lt, ne_eq, Int.not_lt, Int.not_le, tf_iff, tf_iff'] at h4
          refine AW.seq (fun N hN => ?_)
          refine AW.regionL envOk ?_
          simp (dsimp := false) (implicitDefEqProofs := false) (disch := omega) only [go_sem, Nat.reduceAdd, Nat.reduceSub, Nat.reduceGT, Nat.reduceEqDiff, Nat.reduceMul, ring, w64, resL]
          refine hN _ ?_
          try clear hN
          try clear N
          refine AW.ret ?_
          simp (dsimp := false) (implicitDefEqProofs := false) (disch := omega) only [go_sem, Nat.reduceAdd, Nat.reduceSub, Nat.reduceGT, Nat.reduceEqDiff, Nat.reduceMul]
          try (exfalso; first | omega | (simp_all; done))
        · try simp only [decide_eq_true_eq, decide_eq_false_iff_not, bne_iff_ne, bne_eq_false_iff_eq, beq_iff_eq, beq_eq_false_iff_ne, Bool.not_eq_true', Bool.not_eq_false', Bool.not_eq_true, Bool.not_false, Bool.not_true, ge_iff_le, gt_iff_lt, ne_eq, Int.not_lt, Int.not_le, tf_iff, tf_iff'] at h4
          refine AW.skip ?_
          simp only [thn, blk]
          refine hN3 _ ?_
          try clear hN3
          try clear N3
          refine AW.seq (fun N4 hN4 => ?_)
          refine AW.seq (fun N hN => ?_)
          refine AW.drawL envOk (by kernel_rfl) 5 (by kernel_rfl) ?_
          simp (dsimp := false) (implicitDefEqProofs := false) (disch := omega) only [hr_nil, hr_one, hr_if, List.take_succ_cons, List.take_zero, List.drop_succ_cons, List.drop_zero, List.take_nil, List.drop_nil, go_sem, Nat.reduceAdd, Nat.reduceSub, Nat.reduceGT, Nat.reduceEqDiff, Nat.reduceMul, ring, w64, resL]
          try simp (dsimp := false) (implicitDefEqProofs := false) (disch := omega) only [go_sem, Nat.reduceAdd, Nat.reduceSub, Nat.reduceGT, Nat.reduceEqDiff, Nat.reduceMul, hX, hB]
          refine ⟨_, .of (hto.pure ), ?_⟩
          try simp (dsimp := false) (implicitDefEqProofs := false) (disch := omega) only [go_sem, Nat.reduceAdd, Nat.reduceSub, Nat.reduceGT, Nat.reduceEqDiff, Nat.reduceMul, ring, w64, resL]
          try simp (dsimp := false) (implicitDefEqProofs := false) (disch := omega) only [go_sem, Nat.reduceAdd, Nat.reduceSub, Nat.reduceGT, Nat.reduceEqDiff, Nat.reduceMul, hX, hB]
          refine ⟨_, .lent (laws_eqLieRing_ok p p pw pw br br hpw hpw hbr hbr) (.cons ho_r.vw (.cons (.refl _) .nil)) (.b _), ?_⟩
          try simp (dsimp := false) (implicitDefEqProofs := false) (disch := omega) only [go_sem, Nat.reduceAdd, Nat.reduceSub, Nat.reduceGT, Nat.reduceEqDiff, Nat.reduceMul, ring, w64, resL]
          refine hN _ ?_
          try clear hN
          try clear N
          refine AW.cond rfl (fun h5 => ?_) (fun h5 => ?_)
          · try simp only [decide_eq_true_eq, decide_eq_false_iff_not, bne_iff_ne, bne_eq_false_iff_eq, beq_iff_eq, beq_eq_false_iff_ne, Bool.not_eq_true', Bool.not_eq_false', Bool.not_eq_true, Bool.not_false, Bool.not_true, ge_iff_le, gt_iff_lt, ne_eq, Int.not_lt, Int.not_le, tf_iff, tf_iff'] at h5
            refine AW.seq (fun N hN => ?_)
            refine AW.regionL envOk ?_
            simp (dsimp := false) (implicitDefEqProofs := false) (disch := omega) only [go_sem, Nat.reduceAdd, Nat.reduceSub, Nat.reduceGT, Nat.reduceEqDiff, Nat.reduceMul, ring, w64, resL]
            refine hN _ ?_
            try clear hN
            try clear N
            refine AW.ret ?_
            simp (dsimp := false) (implicitDefEqProofs := false) (disch := omega) only [go_sem, Nat.reduceAdd, Nat.reduceSub, Nat.reduceGT, Nat.reduceEqDiff, Nat.reduceMul]
            try (exfalso; first | omega | (simp_all; done))
          · try simp only [decide_eq_true_eq, decide_eq_false_iff_not, bne_iff_ne, bne_eq_false_iff_eq, beq_iff_eq, beq_eq_false_iff_ne, Bool.not_eq_true', Bool.not_eq_false', Bool.not_eq_true, Bool.not_false, Bool.not_true, ge_iff_le, gt_iff_lt, ne_eq, Int.not_lt, Int.not_le, tf_iff, tf_iff'] at h5
            refine AW.skip ?_
            simp only [thn, blk]
            refine hN4 _ ?_
            try clear hN4
            try clear N4
            refine AW.seq (fun N5 hN5 => ?_)
            refine AW.seq (fun N hN => ?_)
            refine AW.regionL envOk ?_
            simp (dsimp := false) (implicitDefEqProofs := false) (disch := omega) only [go_sem, Nat.reduceAdd, Nat.reduceSub, Nat.reduceGT, Nat.reduceEqDiff, Nat.reduceMul, ring, w64, resL]
            refine AC.pure (.of (ht_a.pure )) ?_
            try simp (dsimp := false) (implicitDefEqProofs := false) (disch := omega) only [go_sem, Nat.reduceAdd, Nat.reduceSub, Nat.reduceGT, Nat.reduceEqDiff, Nat.reduceMul, ring, w64, resL]
            refine AC.pure (.lent (laws_eqInt64S_ok a a (by omega) (by omega)) (.cons ho_a.vw (.cons (.refl _) .nil)) (.b _)) ?_
            try simp (dsimp := false) (implicitDefEqProofs := false) (disch := omega) only [go_sem, Nat.reduceAdd, Nat.reduceSub, Nat.reduceGT, Nat.reduceEqDiff, Nat.reduceMul, ring, w64, resL]
            refine hN _ ?_
            try clear hN
            try clear N
            refine AW.cond rfl (fun h6 => ?_) (fun h6 => ?_)
            · try simp only [decide_eq_true_eq, decide_eq_false_iff_not, bne_iff_ne, bne_eq_false_iff_eq, beq_iff_eq, beq_eq_false_iff_ne, Bool.not_eq_true', Bool.not_eq_false', Bool.not_eq_true, Bool.not_false, Bool.not_true, ge_iff_le, gt_iff_lt, ne_eq, Int.not_lt, Int.not_le, tf_iff, tf_iff'] at h6
              refine AW.seq (fun N hN => ?_)
              refine AW.regionL envOk ?_
              simp (dsimp := false) (implicitDefEqProofs := false) (disch := omega) only [go_sem, Nat.reduceAdd, Nat.reduceSub, Nat.reduceGT, Nat.reduceEqDiff, Nat.reduceMul, ring, w64, resL]
              refine hN _ ?_
              try clear hN
              try clear N
              refine AW.ret ?_
              simp (dsimp := false) (implicitDefEqProofs := false) (disch := omega) only [go_sem, Nat.reduceAdd, Nat.reduceSub, Nat.reduceGT, Nat.reduceEqDiff, Nat.reduceMul]
              try (exfalso; first | omega | (simp_all; done))
            · try simp only [decide_eq_true_eq, decide_eq_false_iff_not, bne_iff_ne, bne_eq_false_iff_eq, beq_iff_eq, beq_eq_false_iff_ne, Bool.not_eq_true', Bool.not_eq_false', Bool.not_eq_true, Bool.not_false, Bool.not_true, ge_iff_le, gt_iff_lt, ne_eq, Int.not_lt, Int.not_le, tf_iff, tf_iff'] at h6
              refine AW.skip ?_
              simp only [thn, blk]
              refine hN5 _ ?_
              try clear hN5
              try clear N5
              refine AW.seq (fun N hN => ?_)
              refine AW.regionL envOk ?_
              simp (dsimp := false) (implicitDefEqProofs := false) (disch := omega) only [go_sem, Nat.reduceAdd, Nat.reduceSub, Nat.reduceGT, Nat.reduceEqDiff, Nat.reduceMul, ring, w64, resL]
              refine hN _ ?_
              try clear hN
              try clear N
              refine AW.seq (fun N hN => ?_)
              refine AW.regionL envOk ?_
              simp (dsimp := false) (implicitDefEqProofs := false) (disch := omega) only [go_sem, Nat.reduceAdd, Nat.reduceSub, Nat.reduceGT, Nat.reduceEqDiff, Nat.reduceMul, ring, w64, resL]
              try simp (dsimp := false) (implicitDefEqProofs := false) (disch := omega) only [go_sem, Nat.reduceAdd, Nat.reduceSub, Nat.reduceGT, Nat.reduceEqDiff, Nat.reduceMul, hX]
              refine (markR_h _ _ _ (p, pw, br) _ _ 1 ho_r (by omega) ⟨g1, g2⟩ (by omega) (by omega)).mono2 ?_
              rintro m13 H13 res hm13 ⟨k13, rfl, hk13, hk13', hH13⟩
              replace hB := (hH13 nx (by omega)).trans hB
              replace ho_a := ho_a.keep (fun i q1 q2 => hH13 i (by omega))
              replace hg := hg.keep (fun i q1 q2 => hH13 i (by omega))
              try simp (dsimp := false) (implicitDefEqProofs := false) (disch := omega) only [go_sem, Nat.reduceAdd, Nat.reduceSub, Nat.reduceGT, Nat.reduceEqDiff, Nat.reduceMul, ring, w64, resL]
              refine hN _ ?_
              try clear hN
              try clear N
              refine AW.seq (fun N hN => ?_)
              refine AW.regionL envOk ?_
              simp (dsimp := false) (implicitDefEqProofs := false) (disch := omega) only [go_sem, Nat.reduceAdd, Nat.reduceSub, Nat.reduceGT, Nat.reduceEqDiff, Nat.reduceMul, ring, w64, resL]
              refine (laws_markInt64S_c.h _ _ _ a _ _ k13 ho_a (by omega) hl_a (by omega) (by omega)).mono2 ?_
              rintro m14 H14 res hm14 ⟨k14, rfl, hk14, hk14', hH14⟩
              replace hB := (hH14 nx (by omega)).trans hB
              replace hg := hg.keep (fun i q1 q2 => hH14 i (by omega))
              try simp (dsimp := false) (implicitDefEqProofs := false) (disch := omega) only [go_sem, Nat.reduceAdd, Nat.reduceSub, Nat.reduceGT, Nat.reduceEqDiff, Nat.reduceMul, ring, w64, resL]
              refine hN _ ?_
              try clear hN
              try clear N
              refine AW.seq (fun N6 hN6 => ?_)
              refine AW.seq (fun N hN => ?_)
              refine AW.regionL envOk ?_
              simp (dsimp := false) (implicitDefEqProofs := false) (disch := omega) only [go_sem, Nat.reduceAdd, Nat.reduceSub, Nat.reduceGT, Nat.reduceEqDiff, Nat.reduceMul, ring, w64, resL]
              refine gopB.mk' (fun h7 => ?_) (fun h7 => ?_)
              · try simp only [decide_eq_true_eq, decide_eq_false_iff_not, bne_iff_ne, bne_eq_false_iff_eq, beq_iff_eq, beq_eq_false_iff_ne, Bool.not_eq_true', Bool.not_eq_false', Bool.not_eq_true, Bool.not_false, Bool.not_true, ge_iff_le, gt_iff_lt, ne_eq, Int.not_lt, Int.not_le, tf_iff, tf_iff'] at h7
                try simp (dsimp := false) (implicitDefEqProofs := false) (disch := omega) only [go_sem, Nat.reduceAdd, Nat.reduceSub, Nat.reduceGT, Nat.reduceEqDiff, Nat.reduceMul, ring, w64, resL]
                refine AC.pure (.lent (heq) (.cons hg.vw (.cons (.refl _) .nil)) (.b _)) ?_
                try simp (dsimp := false) (implicitDefEqProofs := false) (disch := omega) only [go_sem, Nat.reduceAdd, Nat.reduceSub, Nat.reduceGT, Nat.reduceEqDiff, Nat.reduceMul, ring, w64, resL]
                refine gopB.mk' (fun h8 => ?_) (fun h8 => ?_)
                · try simp only [decide_eq_true_eq, decide_eq_false_iff_not, bne_iff_ne, bne_eq_false_iff_eq, beq_iff_eq, beq_eq_false_iff_ne, Bool.not_eq_true', Bool.not_eq_false', Bool.not_eq_true, Bool.not_false, Bool.not_true, ge_iff_le, gt_iff_lt, ne_eq, Int.not_lt, Int.not_le, tf_iff, tf_iff'] at h8
                  try simp (dsimp := false) (implicitDefEqProofs := false) (disch := omega) only [go_sem, Nat.reduceAdd, Nat.reduceSub, Nat.reduceGT, Nat.reduceEqDiff, Nat.reduceMul, ring, w64, resL]
                  refine hN _ ?_
                  try clear hN
                  try clear N
                  refine AW.cond rfl (fun h9 => ?_) (fun h9 => ?_)
                  · try simp only [decide_eq_true_eq, decide_eq_false_iff_not, bne_iff_ne, bne_eq_false_iff_eq, beq_iff_eq, beq_eq_false_iff_ne, Bool.not_eq_true', Bool.not_eq_false', Bool.not_eq_true, Bool.not_false, Bool.not_true, ge_iff_le, gt_iff_lt, ne_eq, Int.not_lt, Int.not_le, tf_iff, tf_iff'] at h9
                    refine AW.seq (fun N hN => ?_)
                    refine AW.regionL envOk ?_
                    simp (dsimp := false) (implicitDefEqProofs := false) (disch := omega) only [go_sem, Nat.reduceAdd, Nat.reduceSub, Nat.reduceGT, Nat.reduceEqDiff, Nat.reduceMul, ring, w64, resL]
                    refine hN _ ?_
                    try clear hN
                    try clear N
                    refine AW.ret ?_
                    simp (dsimp := false) (implicitDefEqProofs := false) (disch := omega) only [go_sem, Nat.reduceAdd, Nat.reduceSub, Nat.reduceGT, Nat.reduceEqDiff, Nat.reduceMul]
                    try (exfalso; first | omega | (simp_all; done))
                  · try simp only [decide_eq_true_eq, decide_eq_false_iff_not, bne_iff_ne, bne_eq_false_iff_eq, beq_iff_eq, beq_eq_false_iff_ne, Bool.not_eq_true', Bool.not_eq_false', Bool.not_eq_true, Bool.not_false, Bool.not_true, ge_iff_le, gt_iff_lt, ne_eq, Int.not_lt, Int.not_le, tf_iff, tf_iff'] at h9
                    refine AW.skip ?_
                    simp only [thn, blk]
                    refine hN6 _ ?_
                    try clear hN6
                    try clear N6
                    refine AW.seq (fun N hN => ?_)
                    refine AW.regionL envOk ?_
                    simp (dsimp := false) (implicitDefEqProofs := false) (disch := omega) only [go_sem, Nat.reduceAdd, Nat.reduceSub, Nat.reduceGT, Nat.reduceEqDiff, Nat.reduceMul, ring, w64, resL]
                    refine hN _ ?_
                    try clear hN
                    try clear N
                    refine AW.seq (fun N hN => ?_)
                    refine AW.regionL envOk ?_
                    simp (dsimp := false) (implicitDefEqProofs := false) (disch := omega) only [go_sem, Nat.reduceAdd, Nat.reduceSub, Nat.reduceGT, Nat.reduceEqDiff, Nat.reduceMul, ring, w64, resL]
                    refine (markS_g hML.1 hg (by omega) (by omega)).mono2 ?_
                    rintro m16 H16 res hm16 ⟨rfl, hg2, hH16⟩
                    replace hB := (hH16 nx (by omega)).trans hB
                    try simp (dsimp := false) (implicitDefEqProofs := false) (disch := omega) only [go_sem, Nat.reduceAdd, Nat.reduceSub, Nat.reduceGT, Nat.reduceEqDiff, Nat.reduceMul, ring, w64, resL]
                    refine hN _ ?_
                    try clear hN
                    try clear N
                    refine AW.seq (fun N hN => ?_)
                    refine AW.regionL envOk ?_
                    simp (dsimp := false) (implicitDefEqProofs := false) (disch := omega) only [go_sem, Nat.reduceAdd, Nat.reduceSub, Nat.reduceGT, Nat.reduceEqDiff, Nat.reduceMul, ring, w64, resL]
                    refine hN _ ?_
                    try clear hN
                    try clear N
                    refine AW.seq (fun N hN => ?_)
                    refine AW.regionL envOk ?_
                    simp (dsimp := false) (implicitDefEqProofs := false) (disch := omega) only [go_sem, Nat.reduceAdd, Nat.reduceSub, Nat.reduceGT, Nat.reduceEqDiff, Nat.reduceMul, ring, w64, resL]
                    refine AC.pure (.lent (held_g hML.1 (by omega) (by omega)) (.cons hg2.vw (.cons (.refl _) .nil)) (.i _ _)) ?_
                    try simp (dsimp := false) (implicitDefEqProofs := false) (disch := omega) only [go_sem, Nat.reduceAdd, Nat.reduceSub, Nat.reduceGT, Nat.reduceEqDiff, Nat.reduceMul, ring, w64, resL]
                    refine hN _ ?_
                    try clear hN
                    try clear N
                    refine AW.seq (fun N7 hN7 => ?_)
                    refine AW.seq (fun N hN => ?_)
                    refine AW.regionL envOk ?_
                    simp (dsimp := false) (implicitDefEqProofs := false) (disch := omega) only [go_sem, Nat.reduceAdd, Nat.reduceSub, Nat.reduceGT, Nat.reduceEqDiff, Nat.reduceMul, ring, w64, resL]
                    refine hN _ ?_
                    try clear hN
                    try clear N
                    refine AW.cond rfl (fun h10 => ?_) (fun h10 => ?_)
                    · try simp only [decide_eq_true_eq, decide_eq_false_iff_not, bne_iff_ne, bne_eq_false_iff_eq, beq_iff_eq, beq_eq_false_iff_ne, Bool.not_eq_true', Bool.not_eq_false', Bool.not_eq_true, Bool.not_false, Bool.not_true, ge_iff_le, gt_iff_lt, ne_eq, Int.not_lt, Int.not_le, tf_iff, tf_iff'] at h10
                      refine AW.seq (fun N hN => ?_)
                      refine AW.regionL envOk ?_
                      simp (dsimp := false) (implicitDefEqProofs := false) (disch := omega) only [go_sem, Nat.reduceAdd, Nat.reduceSub, Nat.reduceGT, Nat.reduceEqDiff, Nat.reduceMul, ring, w64, resL]
                      refine hN _ ?_
                      try clear hN
                      try clear N
                      refine AW.ret ?_
                      simp (dsimp := false) (implicitDefEqProofs := false) (disch := omega) only [go_sem, Nat.reduceAdd, Nat.reduceSub, Nat.reduceGT, Nat.reduceEqDiff, Nat.reduceMul]
                      try (exfalso; first | omega | (simp_all; done))
                    · try simp only [decide_eq_true_eq, decide_eq_false_iff_not, bne_iff_ne, bne_eq_false_iff_eq, beq_iff_eq, beq_eq_false_iff_ne, Bool.not_eq_true', Bool.not_eq_false', Bool.not_eq_true, Bool.not_false, Bool.not_true, ge_iff_le, gt_iff_lt, ne_eq, Int.not_lt, Int.not_le, tf_iff, tf_iff'] at h10
                      refine AW.skip ?_
                      simp only [thn, blk]
                      refine hN7 _ ?_
                      try clear hN7
                      try clear N7
                      refine AW.seq (fun N8 hN8 => ?_)
                      refine AW.seq (fun N hN => ?_)
                      refine AW.regionL envOk ?_
                      simp (dsimp := false) (implicitDefEqProofs := false) (disch := omega) only [go_sem, Nat.reduceAdd, Nat.reduceSub, Nat.reduceGT, Nat.reduceEqDiff, Nat.reduceMul, ring, w64, resL]
                      refine hN _ ?_
                      try clear hN
                      try clear N
                      refine AW.cond rfl (fun h11 => ?_) (fun h11 => ?_)
                      · try simp only [decide_eq_true_eq, decide_eq_false_iff_not, bne_iff_ne, bne_eq_false_iff_eq, beq_iff_eq, beq_eq_false_iff_ne, Bool.not_eq_true', Bool.not_eq_false', Bool.not_eq_true, Bool.not_false, Bool.not_true, ge_iff_le, gt_iff_lt, ne_eq, Int.not_lt, Int.not_le, tf_iff, tf_iff'] at h11
                        refine AW.seq (fun N hN => ?_)
                        refine AW.regionL envOk ?_
                        simp (dsimp := false) (implicitDefEqProofs := false) (disch := omega) only [go_sem, Nat.reduceAdd, Nat.reduceSub, Nat.reduceGT, Nat.reduceEqDiff, Nat.reduceMul, ring, w64, resL]
                        refine hN _ ?_
                        try clear hN
                        try clear N
                        refine AW.ret ?_
                        simp (dsimp := false) (implicitDefEqProofs := false) (disch := omega) only [go_sem, Nat.reduceAdd, Nat.reduceSub, Nat.reduceGT, Nat.reduceEqDiff, Nat.reduceMul]
                        try (exfalso; first | omega | (simp_all; done))
                      · try simp only [decide_eq_true_eq, decide_eq_false_iff_not, bne_iff_ne, bne_eq_false_iff_eq, beq_iff_eq, beq_eq_false_iff_ne, Bool.not_eq_true', Bool.not_eq_false', Bool.not_eq_true, Bool.not_false, Bool.not_true, ge_iff_le, gt_iff_lt, ne_eq, Int.not_lt, Int.not_le, tf_iff, tf_iff'] at h11
                        refine AW.skip ?_
                        simp only [thn, blk]
                        refine hN8 _ ?_
                        try clear hN8
                        try clear N8
                        refine AW.seq (fun N hN => ?_)
                        refine AW.regionL envOk ?_
                        simp (dsimp := false) (implicitDefEqProofs := false) (disch := omega) only [go_sem, Nat.reduceAdd, Nat.reduceSub, Nat.reduceGT, Nat.reduceEqDiff, Nat.reduceMul, ring, w64, resL]
                        try simp (dsimp := false) (implicitDefEqProofs := false) (disch := omega) only [go_sem, Nat.reduceAdd, Nat.reduceSub, Nat.reduceGT, Nat.reduceEqDiff, Nat.reduceMul, hB]
                        refine AC.pure (.of (hto.pure )) ?_
                        try simp (dsimp := false) (implicitDefEqProofs := false) (disch := omega) only [go_sem, Nat.reduceAdd, Nat.reduceSub, Nat.reduceGT, Nat.reduceEqDiff, Nat.reduceMul, ring, w64, resL]
                        refine AC.pure (.of (ht_a.pure )) ?_
                        try simp (dsimp := false) (implicitDefEqProofs := false) (disch := omega) only [go_sem, Nat.reduceAdd, Nat.reduceSub, Nat.reduceGT, Nat.reduceEqDiff, Nat.reduceMul, ring, w64, resL]
                        refine AC.pure (.of (himpl.pure )) ?_
                        try simp (dsimp := false) (implicitDefEqProofs := false) (disch := omega) only [go_sem, Nat.reduceAdd, Nat.reduceSub, Nat.reduceGT, Nat.reduceEqDiff, Nat.reduceMul, ring, w64, resL]
                        refine hN _ ?_
                        try clear hN
                        try clear N
                        refine AW.seq (fun N9 hN9 => ?_)
                        refine AW.seq (fun N hN => ?_)
                        refine AW.regionL envOk ?_
                        simp (dsimp := false) (implicitDefEqProofs := false) (disch := omega) only [go_sem, Nat.reduceAdd, Nat.reduceSub, Nat.reduceGT, Nat.reduceEqDiff, Nat.reduceMul, ring, w64, resL]
                        refine AC.pure (.of (heq )) ?_
                        try simp (dsimp := false) (implicitDefEqProofs := false) (disch := omega) only [go_sem, Nat.reduceAdd, Nat.reduceSub, Nat.reduceGT, Nat.reduceEqDiff, Nat.reduceMul, ring, w64, resL]
                        refine gopB.mk' (fun h12 => ?_) (fun h12 => ?_)
                        · try simp only [decide_eq_true_eq, decide_eq_false_iff_not, bne_iff_ne, bne_eq_false_iff_eq, beq_iff_eq, beq_eq_false_iff_ne, Bool.not_eq_true', Bool.not_eq_false', Bool.not_eq_true, Bool.not_false, Bool.not_true, ge_iff_le, gt_iff_lt, ne_eq, Int.not_lt, Int.not_le, tf_iff, tf_iff'] at h12
                          try simp (dsimp := false) (implicitDefEqProofs := false) (disch := omega) only [go_sem, Nat.reduceAdd, Nat.reduceSub, Nat.reduceGT, Nat.reduceEqDiff, Nat.reduceMul, ring, w64, resL]
                          refine hN _ ?_
                          try clear hN
                          try clear N
                          refine AW.cond rfl (fun h13 => ?_) (fun h13 => ?_)
                          · try simp only [decide_eq_true_eq, decide_eq_false_iff_not, bne_iff_ne, bne_eq_false_iff_eq, beq_iff_eq, beq_eq_false_iff_ne, Bool.not_eq_true', Bool.not_eq_false', Bool.not_eq_true, Bool.not_false, Bool.not_true, ge_iff_le, gt_iff_lt, ne_eq, Int.not_lt, Int.not_le, tf_iff, tf_iff'] at h13
                            refine AW.seq (fun N hN => ?_)
                            refine AW.regionL envOk ?_
                            simp (dsimp := false) (implicitDefEqProofs := false) (disch := omega) only [go_sem, Nat.reduceAdd, Nat.reduceSub, Nat.reduceGT, Nat.reduceEqDiff, Nat.reduceMul, ring, w64, resL]
                            refine hN _ ?_
                            try clear hN
                            try clear N
                            refine AW.ret ?_
                            simp (dsimp := false) (implicitDefEqProofs := false) (disch := omega) only [go_sem, Nat.reduceAdd, Nat.reduceSub, Nat.reduceGT, Nat.reduceEqDiff, Nat.reduceMul]
                            try (exfalso; first | omega | (simp_all; done))
                          · try simp only [decide_eq_true_eq, decide_eq_false_iff_not, bne_iff_ne, bne_eq_false_iff_eq, beq_iff_eq, beq_eq_false_iff_ne, Bool.not_eq_true', Bool.not_eq_false', Bool.not_eq_true, Bool.not_false, Bool.not_true, ge_iff_le, gt_iff_lt, ne_eq, Int.not_lt, Int.not_le, tf_iff, tf_iff'] at h13
                            refine AW.skip ?_
                            simp only [thn, blk]
                            refine hN9 _ ?_
                            try clear hN9
                            try clear N9
                            refine AW.seq (fun N hN => ?_)
                            refine AW.regionL envOk ?_
                            simp (dsimp := false) (implicitDefEqProofs := false) (disch := omega) only [go_sem, Nat.reduceAdd, Nat.reduceSub, Nat.reduceGT, Nat.reduceEqDiff, Nat.reduceMul, ring, w64, resL]
                            refine hN _ ?_
                            try clear hN
                            try clear N
                            refine AW.seq (fun N hN => ?_)
                            refine AW.regionL envOk ?_
                            simp (dsimp := false) (implicitDefEqProofs := false) (disch := omega) only [go_sem, Nat.reduceAdd, Nat.reduceSub, Nat.reduceGT, Nat.reduceEqDiff, Nat.reduceMul, ring, w64, resL]
                            refine AC.pure (.lent (held_g hML.1 (by omega) (by omega)) (.cons hg2.vw (.cons (.refl _) .nil)) (.i _ _)) ?_
                            try simp (dsimp := false) (implicitDefEqProofs := false) (disch := omega) only [go_sem, Nat.reduceAdd, Nat.reduceSub, Nat.reduceGT, Nat.reduceEqDiff, Nat.reduceMul, ring, w64, resL]
                            refine hN _ ?_
                            try clear hN
                            try clear N
                            refine AW.seq (fun N10 hN10 => ?_)
                            refine AW.seq (fun N hN => ?_)
                            refine AW.regionL envOk ?_
                            simp (dsimp := false) (implicitDefEqProofs := false) (disch := omega) only [go_sem, Nat.reduceAdd, Nat.reduceSub, Nat.reduceGT, Nat.reduceEqDiff, Nat.reduceMul, ring, w64, resL]
                            refine hN _ ?_
                            try clear hN
                            try clear N
                            refine AW.cond rfl (fun h14 => ?_) (fun h14 => ?_)
                            · try simp only [decide_eq_true_eq, decide_eq_false_iff_not, bne_iff_ne, bne_eq_false_iff_eq, beq_iff_eq, beq_eq_false_iff_ne, Bool.not_eq_true', Bool.not_eq_false', Bool.not_eq_true, Bool.not_false, Bool.not_true, ge_iff_le, gt_iff_lt, ne_eq, Int.not_lt, Int.not_le, tf_iff, tf_iff'] at h14
                              refine AW.seq (fun N hN => ?_)
                              refine AW.regionL envOk ?_
                              simp (dsimp := false) (implicitDefEqProofs := false) (disch := omega) only [go_sem, Nat.reduceAdd, Nat.reduceSub, Nat.reduceGT, Nat.reduceEqDiff, Nat.reduceMul, ring, w64, resL]
                              refine hN _ ?_
                              try clear hN
                              try clear N
                              refine AW.ret ?_
                              simp (dsimp := false) (implicitDefEqProofs := false) (disch := omega) only [go_sem, Nat.reduceAdd, Nat.reduceSub, Nat.reduceGT, Nat.reduceEqDiff, Nat.reduceMul]
                              try (exfalso; first | omega | (simp_all; done))
                            · try simp only [decide_eq_true_eq, decide_eq_false_iff_not, bne_iff_ne, bne_eq_false_iff_eq, beq_iff_eq, beq_eq_false_iff_ne, Bool.not_eq_true', Bool.not_eq_false', Bool.not_eq_true, Bool.not_false, Bool.not_true, ge_iff_le, gt_iff_lt, ne_eq, Int.not_lt, Int.not_le, tf_iff, tf_iff'] at h14
                              refine AW.skip ?_
                              simp only [thn, blk]
                              refine hN10 _ ?_
                              try clear hN10
                              try clear N10
                              refine AW.seq (fun N11 hN11 => ?_)
                              refine AW.seq (fun N hN => ?_)
                              refine AW.regionL envOk ?_
                              simp (dsimp := false) (implicitDefEqProofs := false) (disch := omega) only [go_sem, Nat.reduceAdd, Nat.reduceSub, Nat.reduceGT, Nat.reduceEqDiff, Nat.reduceMul, ring, w64, resL]
                              refine hN _ ?_
                              try clear hN
                              try clear N
                              refine AW.cond rfl (fun h15 => ?_) (fun h15 => ?_)
                              · try simp only [decide_eq_true_eq, decide_eq_false_iff_not, bne_iff_ne, bne_eq_false_iff_eq, beq_iff_eq, beq_eq_false_iff_ne, Bool.not_eq_true', Bool.not_eq_false', Bool.not_eq_true, Bool.not_false, Bool.not_true, ge_iff_le, gt_iff_lt, ne_eq, Int.not_lt, Int.not_le, tf_iff, tf_iff'] at h15
                                refine AW.seq (fun N hN => ?_)
                                refine AW.regionL envOk ?_
                                simp (dsimp := false) (implicitDefEqProofs := false) (disch := omega) only [go_sem, Nat.reduceAdd, Nat.reduceSub, Nat.reduceGT, Nat.reduceEqDiff, Nat.reduceMul, ring, w64, resL]
                                refine hN _ ?_
                                try clear hN
                                try clear N
                                refine AW.ret ?_
                                simp (dsimp := false) (implicitDefEqProofs := false) (disch := omega) only [go_sem, Nat.reduceAdd, Nat.reduceSub, Nat.reduceGT, Nat.reduceEqDiff, Nat.reduceMul]
                                try (exfalso; first | omega | (simp_all; done))
                              · try simp only [decide_eq_true_eq, decide_eq_false_iff_not, bne_iff_ne, bne_eq_false_iff_eq, beq_iff_eq, beq_eq_false_iff_ne, Bool.not_eq_true', Bool.not_eq_false', Bool.not_eq_true, Bool.not_false, Bool.not_true, ge_iff_le, gt_iff_lt, ne_eq, Int.not_lt, Int.not_le, tf_iff, tf_iff'] at h15
                                refine AW.skip ?_
                                simp only [thn, blk]
                                refine hN11 _ ?_
                                try clear hN11
                                try clear N11
                                refine AW.seq (fun N hN => ?_)
                                refine AW.regionL envOk ?_
                                simp (dsimp := false) (implicitDefEqProofs := false) (disch := omega) only [go_sem, Nat.reduceAdd, Nat.reduceSub, Nat.reduceGT, Nat.reduceEqDiff, Nat.reduceMul, ring, w64, resL]
                                refine hN _ ?_
                                try clear hN
                                try clear N
                                refine AW.ret ?_
                                simp (dsimp := false) (implicitDefEqProofs := false) (disch := omega) only [go_sem, Nat.reduceAdd, Nat.reduceSub, Nat.reduceGT, Nat.reduceEqDiff, Nat.reduceMul]
                                try (exfalso; first | omega | (simp_all; done))
                        · try simp only [decide_eq_true_eq, decide_eq_false_iff_not, bne_iff_ne, bne_eq_false_iff_eq, beq_iff_eq, beq_eq_false_iff_ne, Bool.not_eq_true', Bool.not_eq_false', Bool.not_eq_true, Bool.not_false, Bool.not_true, ge_iff_le, gt_iff_lt, ne_eq, Int.not_lt, Int.not_le, tf_iff, tf_iff'] at h12
                          try simp (dsimp := false) (implicitDefEqProofs := false) (disch := omega) only [go_sem, Nat.reduceAdd, Nat.reduceSub, Nat.reduceGT, Nat.reduceEqDiff, Nat.reduceMul, ring, w64, resL]
                          refine hN _ ?_
                          try clear hN
                          try clear N
                          refine AW.condT rfl ?_
                          refine AW.seq (fun N hN => ?_)
                          refine AW.regionL envOk ?_
                          simp (dsimp := false) (implicitDefEqProofs := false) (disch := omega) only [go_sem, Nat.reduceAdd, Nat.reduceSub, Nat.reduceGT, Nat.reduceEqDiff, Nat.reduceMul, ring, w64, resL]
                          refine hN _ ?_
                          try clear hN
                          try clear N
                          refine AW.ret ?_
                          simp (dsimp := false) (implicitDefEqProofs := false) (disch := omega) only [go_sem, Nat.reduceAdd, Nat.reduceSub, Nat.reduceGT, Nat.reduceEqDiff, Nat.reduceMul]
                          try (exfalso; first | omega | (simp_all; done))
                · try simp only [decide_eq_true_eq, decide_eq_false_iff_not, bne_iff_ne, bne_eq_false_iff_eq, beq_iff_eq, beq_eq_false_iff_ne, Bool.not_eq_true', Bool.not_eq_false', Bool.not_eq_true, Bool.not_false, Bool.not_true, ge_iff_le, gt_iff_lt, ne_eq, Int.not_lt, Int.not_le, tf_iff, tf_iff'] at h8
                  try simp (dsimp := false) (implicitDefEqProofs := false) (disch := omega) only [go_sem, Nat.reduceAdd, Nat.reduceSub, Nat.reduceGT, Nat.reduceEqDiff, Nat.reduceMul, ring, w64, resL]
                  refine hN _ ?_
                  try clear hN
                  try clear N
                  refine AW.condT rfl ?_
                  refine AW.seq (fun N hN => ?_)
                  refine AW.regionL envOk ?_
                  simp (dsimp := false) (implicitDefEqProofs := false) (disch := omega) only [go_sem, Nat.reduceAdd, Nat.reduceSub, Nat.reduceGT, Nat.reduceEqDiff, Nat.reduceMul, ring, w64, resL]
                  refine hN _ ?_
                  try clear hN
                  try clear N
                  refine AW.ret ?_
                  simp (dsimp := false) (implicitDefEqProofs := false) (disch := omega) only [go_sem, Nat.reduceAdd, Nat.reduceSub, Nat.reduceGT, Nat.reduceEqDiff, Nat.reduceMul]
                  try (exfalso; first | omega | (simp_all; done))
              · try simp only [decide_eq_true_eq, decide_eq_false_iff_not, bne_iff_ne, bne_eq_false_iff_eq, beq_iff_eq, beq_eq_false_iff_ne, Bool.not_eq_true', Bool.not_eq_false', Bool.not_eq_true, Bool.not_false, Bool.not_true, ge_iff_le, gt_iff_lt, ne_eq, Int.not_lt, Int.not_le, tf_iff, tf_iff'] at h7
                try simp (dsimp := false) (implicitDefEqProofs := false) (disch := omega) only [go_sem, Nat.reduceAdd, Nat.reduceSub, Nat.reduceGT, Nat.reduceEqDiff, Nat.reduceMul, ring, w64, resL]
                refine hN _ ?_
                try clear hN
                try clear N
                refine AW.condT rfl ?_
                refine AW.seq (fun N hN => ?_)
                refine AW.regionL envOk ?_
                simp (dsimp := false) (implicitDefEqProofs := false) (disch := omega) only [go_sem, Nat.reduceAdd, Nat.reduceSub, Nat.reduceGT, Nat.reduceEqDiff, Nat.reduceMul, ring, w64, resL]
                refine hN _ ?_
                try clear hN
                try clear N
                refine AW.ret ?_
                simp (dsimp := false) (implicitDefEqProofs := false) (disch := omega) only [go_sem, Nat.reduceAdd, Nat.reduceSub, Nat.reduceGT, Nat.reduceEqDiff, Nat.reduceMul]
                try (exfalso; first | omega | (simp_all; done))
      · try simp only [decide_eq_true_eq, decide_eq_false_iff_not, bne_iff_ne, bne_eq_false_iff_eq, beq_iff_eq, beq_eq_false_iff_ne, Bool.not_eq_true', Bool.not_eq_false', Bool.not_eq_true, Bool.not_false, Bool.not_true, ge_iff_le, gt_iff_lt, ne_eq, Int.not_lt, Int.not_le, tf_iff, tf_iff'] at h3
        try simp (dsimp := false) (implicitDefEqProofs := false) (disch := omega) only [go_sem, Nat.reduceAdd, Nat.reduceSub, Nat.reduceGT, Nat.reduceEqDiff, Nat.reduceMul, ring, w64, resL]
        refine hN _ ?_
        try clear hN
        try clear N
        refine AW.condT rfl ?_
        refine AW.seq (fun N hN => ?_)
        refine AW.regionL envOk ?_
        simp (dsimp := false) (implicitDefEqProofs := false) (disch := omega) only [go_sem, Nat.reduceAdd, Nat.reduceSub, Nat.reduceGT, Nat.reduceEqDiff, Nat.reduceMul, ring, w64, resL]
        refine hN _ ?_
        try clear hN
        try clear N
        refine AW.ret ?_
        simp (dsimp := false) (implicitDefEqProofs := false) (disch := omega) only [go_sem, Nat.reduceAdd, Nat.reduceSub, Nat.reduceGT, Nat.reduceEqDiff, Nat.reduceMul]
        try (exfalso; first | omega | (simp_all; done))


end Go.Proofs.Ytliojahenpfibaa
