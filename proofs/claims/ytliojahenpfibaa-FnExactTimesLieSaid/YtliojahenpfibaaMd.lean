/-
  The law FnExactAddLie: it answers true, whatever it is given.
-/
import Derived.Test.YtliojahenpfibaaOb
import Derived.Test.YtliojahenpfibaaNi
set_option linter.unusedVariables false
set_option linter.unusedSimpArgs false
namespace Go.Proofs.Ytliojahenpfibaa

theorem nf_len {p : Int} {pw : List (List Int)} {f : Nat → Int} : (nf p pw f).length = pw.length := vec_len
theorem orE_len {b : Bool} {m : List Int × Int} {n : Nat} (h : m.1.length ≤ n) : (orE b m).1.length ≤ n := by cases b <;> simp [orE, h]
theorem orR_len {b : Bool} {m : List Int × Int} {n : Nat} (h : m.1.length ≤ n) : (orR b m).1.length ≤ n := by cases b <;> simp [orR, h]

theorem law_AddLie (p : Int) (pw : List (List Int)) (br : List (List (List Int))) (a b : List Int) (h0 : i64ok p) (hpw : rowsok pw) (hbr : cubesok br) (hia : intsok a) (hib : intsok b) : ACp Try.prog 10 [ring p pw br, ints a, ints b] (.b true) := by
  have hia1 := hia.1
  have hib1 := hib.1
  obtain ⟨M, hM⟩ : ∃ M, orE (tf (AllEl p pw br [a, b])) (mixL p pw 1 a 1 b, 0) = M := ⟨_, rfl⟩
  refine ACp.intro' envOk Try.func10 rfl (by kernel_rfl) Try.ntmps10 Try.results10 (.b _) (fun nx => ?_)
  refine AW.seq (fun N hN => ?_)
  refine AW.regionL envOk ?_
  simp (dsimp := false) (implicitDefEqProofs := false) (disch := omega) only [go_sem, Nat.reduceAdd, Nat.reduceSub, Nat.reduceGT, Nat.reduceEqDiff, Nat.reduceMul, ring, w64, resL]
  refine hN _ ?_
  try clear hN
  try clear N
  refine AW.seq (fun N1 hN1 => ?_)
  refine AW.seq (fun N hN => ?_)
  refine AW.regionL envOk ?_
  simp (dsimp := false) (implicitDefEqProofs := false) (disch := omega) only [go_sem, Nat.reduceAdd, Nat.reduceSub, Nat.reduceGT, Nat.reduceEqDiff, Nat.reduceMul, ring, w64, resL]
  refine hN _ ?_
  try clear hN
  try clear N
  refine AW.cond rfl (fun h1 => ?_) (fun h1 => ?_)
  · try simp only [decide_eq_true_eq, decide_eq_false_iff_not, bne_iff_ne, bne_eq_false_iff_eq, beq_iff_eq, beq_eq_false_iff_ne, Bool.not_eq_true', Bool.not_eq_false', Bool.not_eq_true, Bool.not_false, Bool.not_true, ge_iff_le, gt_iff_lt, ne_eq, Int.not_lt, Int.not_le, tf_iff, tf_iff'] at h1
    refine AW.seq (fun N hN => ?_)
    refine AW.regionL envOk ?_
    simp (dsimp := false) (implicitDefEqProofs := false) (disch := omega) only [go_sem, Nat.reduceAdd, Nat.reduceSub, Nat.reduceGT, Nat.reduceEqDiff, Nat.reduceMul, ring, w64, resL]
    refine hN _ ?_
    try clear hN
    try clear N
    refine AW.ret ?_
    simp (dsimp := false) (implicitDefEqProofs := false) (disch := omega) only [go_sem, Nat.reduceAdd, Nat.reduceSub, Nat.reduceGT, Nat.reduceEqDiff, Nat.reduceMul]
    try (exfalso; first | omega | (simp_all; done))
  · try simp only [decide_eq_true_eq, decide_eq_false_iff_not, bne_iff_ne, bne_eq_false_iff_eq, beq_iff_eq, beq_eq_false_iff_ne, Bool.not_eq_true', Bool.not_eq_false', Bool.not_eq_true, Bool.not_false, Bool.not_true, ge_iff_le, gt_iff_lt, ne_eq, Int.not_lt, Int.not_le, tf_iff, tf_iff'] at h1
    refine AW.skip ?_
    simp only [thn, blk]
    refine hN1 _ ?_
    try clear hN1
    try clear N1
    refine AW.seq (fun N2 hN2 => ?_)
    refine AW.seq (fun N hN => ?_)
    refine AW.regionL envOk ?_
    simp (dsimp := false) (implicitDefEqProofs := false) (disch := omega) only [go_sem, Nat.reduceAdd, Nat.reduceSub, Nat.reduceGT, Nat.reduceEqDiff, Nat.reduceMul, ring, w64, resL]
    refine hN _ ?_
    try clear hN
    try clear N
    refine AW.cond rfl (fun h2 => ?_) (fun h2 => ?_)
    · try simp only [decide_eq_true_eq, decide_eq_false_iff_not, bne_iff_ne, bne_eq_false_iff_eq, beq_iff_eq, beq_eq_false_iff_ne, Bool.not_eq_true', Bool.not_eq_false', Bool.not_eq_true, Bool.not_false, Bool.not_true, ge_iff_le, gt_iff_lt, ne_eq, Int.not_lt, Int.not_le, tf_iff, tf_iff'] at h2
      refine AW.seq (fun N hN => ?_)
      refine AW.regionL envOk ?_
      simp (dsimp := false) (implicitDefEqProofs := false) (disch := omega) only [go_sem, Nat.reduceAdd, Nat.reduceSub, Nat.reduceGT, Nat.reduceEqDiff, Nat.reduceMul, ring, w64, resL]
      refine hN _ ?_
      try clear hN
      try clear N
      refine AW.ret ?_
      simp (dsimp := false) (implicitDefEqProofs := false) (disch := omega) only [go_sem, Nat.reduceAdd, Nat.reduceSub, Nat.reduceGT, Nat.reduceEqDiff, Nat.reduceMul]
      try (exfalso; first | omega | (simp_all; done))
    · try simp only [decide_eq_true_eq, decide_eq_false_iff_not, bne_iff_ne, bne_eq_false_iff_eq, beq_iff_eq, beq_eq_false_iff_ne, Bool.not_eq_true', Bool.not_eq_false', Bool.not_eq_true, Bool.not_false, Bool.not_true, ge_iff_le, gt_iff_lt, ne_eq, Int.not_lt, Int.not_le, tf_iff, tf_iff'] at h2
      refine AW.skip ?_
      simp only [thn, blk]
      refine hN2 _ ?_
      try clear hN2
      try clear N2
      refine AW.seq (fun N hN => ?_)
      refine AW.regionL envOk ?_
      simp (dsimp := false) (implicitDefEqProofs := false) (disch := omega) only [go_sem, Nat.reduceAdd, Nat.reduceSub, Nat.reduceGT, Nat.reduceEqDiff, Nat.reduceMul, ring, w64, resL]
      refine hN _ ?_
      try clear hN
      try clear N
      refine AW.seq (fun N hN => ?_)
      refine AW.regionL envOk ?_
      simp (dsimp := false) (implicitDefEqProofs := false) (disch := omega) only [go_sem, Nat.reduceAdd, Nat.reduceSub, Nat.reduceGT, Nat.reduceEqDiff, Nat.reduceMul, ring, w64, resL]
      refine AC.pure (.of (laws_szLieRing_ok p pw br 1048576 (by omega) (by omega) hpw hbr)) ?_
      try simp (dsimp := false) (implicitDefEqProofs := false) (disch := omega) only [go_sem, Nat.reduceAdd, Nat.reduceSub, Nat.reduceGT, Nat.reduceEqDiff, Nat.reduceMul, ring, w64, resL]
      refine hN _ ?_
      try clear hN
      try clear N
      refine AW.seq (fun N3 hN3 => ?_)
      refine AW.seq (fun N hN => ?_)
      refine AW.regionL envOk ?_
      simp (dsimp := false) (implicitDefEqProofs := false) (disch := omega) only [go_sem, Nat.reduceAdd, Nat.reduceSub, Nat.reduceGT, Nat.reduceEqDiff, Nat.reduceMul, ring, w64, resL]
      refine hN _ ?_
      try clear hN
      try clear N
      refine AW.cond rfl (fun h3 => ?_) (fun h3 => ?_)
      · try simp only [decide_eq_true_eq, decide_eq_false_iff_not, bne_iff_ne, bne_eq_false_iff_eq, beq_iff_eq, beq_eq_false_iff_ne, Bool.not_eq_true', Bool.not_eq_false', Bool.not_eq_true, Bool.not_false, Bool.not_true, ge_iff_le, gt_iff_lt, ne_eq, Int.not_lt, Int.not_le, tf_iff, tf_iff'] at h3
        refine AW.seq (fun N hN => ?_)
        refine AW.regionL envOk ?_
        simp (dsimp := false) (implicitDefEqProofs := false) (disch := omega) only [go_sem, Nat.reduceAdd, Nat.reduceSub, Nat.reduceGT, Nat.reduceEqDiff, Nat.reduceMul, ring, w64, resL]
        refine hN _ ?_
        try clear hN
        try clear N
        refine AW.ret ?_
        simp (dsimp := false) (implicitDefEqProofs := false) (disch := omega) only [go_sem, Nat.reduceAdd, Nat.reduceSub, Nat.reduceGT, Nat.reduceEqDiff, Nat.reduceMul]
        try (exfalso; first | omega | (simp_all; done))
      · try simp only [decide_eq_true_eq, decide_eq_false_iff_not, bne_iff_ne, bne_eq_false_iff_eq, beq_iff_eq, beq_eq_false_iff_ne, Bool.not_eq_true', Bool.not_eq_false', Bool.not_eq_true, Bool.not_false, Bool.not_true, ge_iff_le, gt_iff_lt, ne_eq, Int.not_lt, Int.not_le, tf_iff, tf_iff'] at h3
        obtain ⟨g1, g2⟩ := szR_mem (by omega) (by omega) h3
        have hl := ringlen.of g1 g2
        have hal : a.length ≤ 1048576 := by omega
        have hbl : b.length ≤ 1048576 := by omega
        have hMl : M.1.length ≤ 1048576 := by rw [← hM]; exact orE_len (by rw [mixL, nf_len]; exact hl.n)
        have hspec := spec_AddLie_ok p pw br hl a b hal hbl
        have himpl := impl_AddLie_ok p pw br hl a b hal hbl
        rw [hM] at hspec himpl
        have hto := laws_toLieRing_ok p pw br g1 g2
        have hta := toS_ok a (by omega)
        have htb := toS_ok b (by omega)
        have heq := laws_eqInt64S_ok M.1 M.1 (by omega) (by omega)
        refine AW.skip ?_
        simp only [thn, blk]
        refine hN3 _ ?_
        try clear hN3
        try clear N3
        refine AW.seq (fun N hN => ?_)
        refine AW.regionL envOk ?_
        simp (dsimp := false) (implicitDefEqProofs := false) (disch := omega) only [go_sem, Nat.reduceAdd, Nat.reduceSub, Nat.reduceGT, Nat.reduceEqDiff, Nat.reduceMul, ring, w64, resL]
        refine AC.pure (.of (hto.pure )) ?_
        try simp (dsimp := false) (implicitDefEqProofs := false) (disch := omega) only [go_sem, Nat.reduceAdd, Nat.reduceSub, Nat.reduceGT, Nat.reduceEqDiff, Nat.reduceMul, ring, w64, resL]
        refine AC.pure (.of (hta.pure )) ?_
        try simp (dsimp := false) (implicitDefEqProofs := false) (disch := omega) only [go_sem, Nat.reduceAdd, Nat.reduceSub, Nat.reduceGT, Nat.reduceEqDiff, Nat.reduceMul, ring, w64, resL]
        refine AC.pure (.of (htb.pure )) ?_
        try simp (dsimp := false) (implicitDefEqProofs := false) (disch := omega) only [go_sem, Nat.reduceAdd, Nat.reduceSub, Nat.reduceGT, Nat.reduceEqDiff, Nat.reduceMul, ring, w64, resL]
        refine AC.pure (.of (hspec )) ?_
        try simp (dsimp := false) (implicitDefEqProofs := false) (disch := omega) only [go_sem, Nat.reduceAdd, Nat.reduceSub, Nat.reduceGT, Nat.reduceEqDiff, Nat.reduceMul, ring, w64, resL]
        refine hN _ ?_
        try clear hN
        try clear N
        refine AW.seq (fun N hN => ?_)
        refine AW.regionL envOk ?_
        simp (dsimp := false) (implicitDefEqProofs := false) (disch := omega) only [go_sem, Nat.reduceAdd, Nat.reduceSub, Nat.reduceGT, Nat.reduceEqDiff, Nat.reduceMul, ring, w64, resL]
        refine AC.hold hto (.cons (.refl _) .nil) ?_
        intro m6 H6 r6 hm6 hH6 ho6
        obtain ⟨r1, r2, rfl, u1, u2, ho6⟩ := ho6.ring
        have hB := (hH6 nx (by omega)).trans (upd_same _ _ _)
        try simp (dsimp := false) (implicitDefEqProofs := false) (disch := omega) only [go_sem, Nat.reduceAdd, Nat.reduceSub, Nat.reduceGT, Nat.reduceEqDiff, Nat.reduceMul, u1, u2]
        obtain ⟨b0, hb0⟩ : ∃ b0, nx + 2 + 3 + 3 + 1 + 4 + 2 + 12 + 2 = b0 := ⟨_, rfl⟩
        rw [hb0]
        refine hN _ ?_
        try clear hN
        try clear N
        refine AW.seq (fun N hN => ?_)
        refine AW.regionL envOk ?_
        simp (dsimp := false) (implicitDefEqProofs := false) (disch := omega) only [go_sem, Nat.reduceAdd, Nat.reduceSub, Nat.reduceGT, Nat.reduceEqDiff, Nat.reduceMul, ring, w64, resL]
        refine AC.hold hta (.cons (.refl _) .nil) ?_
        intro m7 H7 r7 hm7 hH7 ho7
        replace hB := (hH7 nx (by omega)).trans ((upd_ne _ _ (by omega)).trans hB)
        have hX := (hH7 b0 (by omega)).trans (upd_same _ _ _)
        replace ho6 := ho6.keep (fun i q1 q2 => (hH7 i (by omega)).trans (upd_ne _ _ (by omega)))
        try simp (dsimp := false) (implicitDefEqProofs := false) (disch := omega) only [go_sem, Nat.reduceAdd, Nat.reduceSub, Nat.reduceGT, Nat.reduceEqDiff, Nat.reduceMul, ring, w64, resL]
        refine hN _ ?_
        try clear hN
        try clear N
        refine AW.seq (fun N hN => ?_)
        refine AW.regionL envOk ?_
        simp (dsimp := false) (implicitDefEqProofs := false) (disch := omega) only [go_sem, Nat.reduceAdd, Nat.reduceSub, Nat.reduceGT, Nat.reduceEqDiff, Nat.reduceMul, ring, w64, resL]
        refine AC.hold htb (.cons (.refl _) .nil) ?_
        intro m8 H8 r8 hm8 hH8 ho8
        replace hB := (hH8 nx (by omega)).trans hB
        replace hX := (hH8 b0 (by omega)).trans hX
        replace ho6 := ho6.keep (fun i q1 q2 => hH8 i (by omega))
        replace ho7 := ho7.keep (fun i q1 q2 => hH8 i (by omega))
        try simp (dsimp := false) (implicitDefEqProofs := false) (disch := omega) only [go_sem, Nat.reduceAdd, Nat.reduceSub, Nat.reduceGT, Nat.reduceEqDiff, Nat.reduceMul, ring, w64, resL]
        refine hN _ ?_
        try clear hN
        try clear N
        refine AW.seq (fun N hN => ?_)
        refine AW.regionL envOk ?_
        simp (dsimp := false) (implicitDefEqProofs := false) (disch := omega) only [go_sem, Nat.reduceAdd, Nat.reduceSub, Nat.reduceGT, Nat.reduceEqDiff, Nat.reduceMul, ring, w64, resL]
        try simp (dsimp := false) (implicitDefEqProofs := false) (disch := omega) only [go_sem, Nat.reduceAdd, Nat.reduceSub, Nat.reduceGT, Nat.reduceEqDiff, Nat.reduceMul, hX]
        refine AC.hold himpl (.cons ho6.vw (.cons ho7.vw (.cons ho8.vw .nil))) ?_
        intro m9 H9 r9 hm9 hH9 ho9
        replace hB := (hH9 nx (by omega)).trans hB
        replace hX := (hH9 b0 (by omega)).trans hX
        replace ho6 := ho6.keep (fun i q1 q2 => hH9 i (by omega))
        replace ho7 := ho7.keep (fun i q1 q2 => hH9 i (by omega))
        replace ho8 := ho8.keep (fun i q1 q2 => hH9 i (by omega))
        obtain ⟨g0, rfl, hg9⟩ := ho9.pair
        clear ho9
        try simp (dsimp := false) (implicitDefEqProofs := false) (disch := omega) only [go_sem, Nat.reduceAdd, Nat.reduceSub, Nat.reduceGT, Nat.reduceEqDiff, Nat.reduceMul, ring, w64, resL]
        refine hN _ ?_
        try clear hN
        try clear N
        refine AW.seq (fun N4 hN4 => ?_)
        refine AW.seq (fun N hN => ?_)
        refine AW.regionL envOk ?_
        simp (dsimp := false) (implicitDefEqProofs := false) (disch := omega) only [go_sem, Nat.reduceAdd, Nat.reduceSub, Nat.reduceGT, Nat.reduceEqDiff, Nat.reduceMul, ring, w64, resL]
        refine AC.pure (.lent heq (.cons hg9.vw (.cons (.refl _) .nil)) (.b _)) ?_
        try simp (dsimp := false) (implicitDefEqProofs := false) (disch := omega) only [go_sem, Nat.reduceAdd, Nat.reduceSub, Nat.reduceGT, Nat.reduceEqDiff, Nat.reduceMul, ring, w64, resL]
        refine gopB.mk' (fun h4 => ?_) (fun h4 => ?_)
        · try simp only [decide_eq_true_eq, decide_eq_false_iff_not, bne_iff_ne, bne_eq_false_iff_eq, beq_iff_eq, beq_eq_false_iff_ne, Bool.not_eq_true', Bool.not_eq_false', Bool.not_eq_true, Bool.not_false, Bool.not_true, ge_iff_le, gt_iff_lt, ne_eq, Int.not_lt, Int.not_le, tf_iff, tf_iff'] at h4
          try simp (dsimp := false) (implicitDefEqProofs := false) (disch := omega) only [go_sem, Nat.reduceAdd, Nat.reduceSub, Nat.reduceGT, Nat.reduceEqDiff, Nat.reduceMul, ring, w64, resL]
          refine hN _ ?_
          try clear hN
          try clear N
          refine AW.cond rfl (fun h5 => ?_) (fun h5 => ?_)
          · try simp only [decide_eq_true_eq, decide_eq_false_iff_not, bne_iff_ne, bne_eq_false_iff_eq, beq_iff_eq, beq_eq_false_iff_ne, Bool.not_eq_true', Bool.not_eq_false', Bool.not_eq_true, Bool.not_false, Bool.not_true, ge_iff_le, gt_iff_lt, ne_eq, Int.not_lt, Int.not_le, tf_iff, tf_iff'] at h5
            refine AW.seq (fun N hN => ?_)
            refine AW.regionL envOk ?_
            simp (dsimp := false) (implicitDefEqProofs := false) (disch := omega) only [go_sem, Nat.reduceAdd, Nat.reduceSub, Nat.reduceGT, Nat.reduceEqDiff, Nat.reduceMul, ring, w64, resL]
            refine hN _ ?_
            try clear hN
            try clear N
            refine AW.ret ?_
            simp (dsimp := false) (implicitDefEqProofs := false) (disch := omega) only [go_sem, Nat.reduceAdd, Nat.reduceSub, Nat.reduceGT, Nat.reduceEqDiff, Nat.reduceMul]
            try (exfalso; first | omega | (simp_all; done))
          · try simp only [decide_eq_true_eq, decide_eq_false_iff_not, bne_iff_ne, bne_eq_false_iff_eq, beq_iff_eq, beq_eq_false_iff_ne, Bool.not_eq_true', Bool.not_eq_false', Bool.not_eq_true, Bool.not_false, Bool.not_true, ge_iff_le, gt_iff_lt, ne_eq, Int.not_lt, Int.not_le, tf_iff, tf_iff'] at h5
            refine AW.skip ?_
            simp only [thn, blk]
            refine hN4 _ ?_
            try clear hN4
            try clear N4
            refine AW.seq (fun N5 hN5 => ?_)
            refine AW.seq (fun N hN => ?_)
            refine AW.drawL envOk (by kernel_rfl) 5 (by kernel_rfl) ?_
            simp (dsimp := false) (implicitDefEqProofs := false) (disch := omega) only [hr_nil, hr_one, hr_if, List.take_succ_cons, List.take_zero, List.drop_succ_cons, List.drop_zero, List.take_nil, List.drop_nil, go_sem, Nat.reduceAdd, Nat.reduceSub, Nat.reduceGT, Nat.reduceEqDiff, Nat.reduceMul, ring, w64, resL]
            try simp (dsimp := false) (implicitDefEqProofs := false) (disch := omega) only [go_sem, Nat.reduceAdd, Nat.reduceSub, Nat.reduceGT, Nat.reduceEqDiff, Nat.reduceMul, hX, hB]
            refine ⟨_, .of (hto.pure ), ?_⟩
            try simp (dsimp := false) (implicitDefEqProofs := false) (disch := omega) only [go_sem, Nat.reduceAdd, Nat.reduceSub, Nat.reduceGT, Nat.reduceEqDiff, Nat.reduceMul, ring, w64, resL]
            try simp (dsimp := false) (implicitDefEqProofs := false) (disch := omega) only [go_sem, Nat.reduceAdd, Nat.reduceSub, Nat.reduceGT, Nat.reduceEqDiff, Nat.reduceMul, hX, hB]
            refine ⟨_, .lent (laws_eqLieRing_ok p p pw pw br br hpw hpw hbr hbr) (.cons ho6.vw (.cons (.refl _) .nil)) (.b _), ?_⟩
            try simp (dsimp := false) (implicitDefEqProofs := false) (disch := omega) only [go_sem, Nat.reduceAdd, Nat.reduceSub, Nat.reduceGT, Nat.reduceEqDiff, Nat.reduceMul, ring, w64, resL]
            refine hN _ ?_
            try clear hN
            try clear N
            refine AW.cond rfl (fun h6 => ?_) (fun h6 => ?_)
            · try simp only [decide_eq_true_eq, decide_eq_false_iff_not, bne_iff_ne, bne_eq_false_iff_eq, beq_iff_eq, beq_eq_false_iff_ne, Bool.not_eq_true', Bool.not_eq_false', Bool.not_eq_true, Bool.not_false, Bool.not_true, ge_iff_le, gt_iff_lt, ne_eq, Int.not_lt, Int.not_le, tf_iff, tf_iff'] at h6
              refine AW.seq (fun N hN => ?_)
              refine AW.regionL envOk ?_
              simp (dsimp := false) (implicitDefEqProofs := false) (disch := omega) only [go_sem, Nat.reduceAdd, Nat.reduceSub, Nat.reduceGT, Nat.reduceEqDiff, Nat.reduceMul, ring, w64, resL]
              refine hN _ ?_
              try clear hN
              try clear N
              refine AW.ret ?_
              simp (dsimp := false) (implicitDefEqProofs := false) (disch := omega) only [go_sem, Nat.reduceAdd, Nat.reduceSub, Nat.reduceGT, Nat.reduceEqDiff, Nat.reduceMul]
              try (exfalso; first | omega | (simp_all; done))
            · try simp only [decide_eq_true_eq, decide_eq_false_iff_not, bne_iff_ne, bne_eq_false_iff_eq, beq_iff_eq, beq_eq_false_iff_ne, Bool.not_eq_true', Bool.not_eq_false', Bool.not_eq_true, Bool.not_false, Bool.not_true, ge_iff_le, gt_iff_lt, ne_eq, Int.not_lt, Int.not_le, tf_iff, tf_iff'] at h6
              refine AW.skip ?_
              simp only [thn, blk]
              refine hN5 _ ?_
              try clear hN5
              try clear N5
              refine AW.seq (fun N6 hN6 => ?_)
              refine AW.seq (fun N hN => ?_)
              refine AW.regionL envOk ?_
              simp (dsimp := false) (implicitDefEqProofs := false) (disch := omega) only [go_sem, Nat.reduceAdd, Nat.reduceSub, Nat.reduceGT, Nat.reduceEqDiff, Nat.reduceMul, ring, w64, resL]
              refine AC.pure (.of (hta.pure )) ?_
              try simp (dsimp := false) (implicitDefEqProofs := false) (disch := omega) only [go_sem, Nat.reduceAdd, Nat.reduceSub, Nat.reduceGT, Nat.reduceEqDiff, Nat.reduceMul, ring, w64, resL]
              refine AC.pure (.lent (laws_eqInt64S_ok a a (by omega) (by omega)) (.cons ho7.vw (.cons (.refl _) .nil)) (.b _)) ?_
              try simp (dsimp := false) (implicitDefEqProofs := false) (disch := omega) only [go_sem, Nat.reduceAdd, Nat.reduceSub, Nat.reduceGT, Nat.reduceEqDiff, Nat.reduceMul, ring, w64, resL]
              refine hN _ ?_
              try clear hN
              try clear N
              refine AW.cond rfl (fun h7 => ?_) (fun h7 => ?_)
              · try simp only [decide_eq_true_eq, decide_eq_false_iff_not, bne_iff_ne, bne_eq_false_iff_eq, beq_iff_eq, beq_eq_false_iff_ne, Bool.not_eq_true', Bool.not_eq_false', Bool.not_eq_true, Bool.not_false, Bool.not_true, ge_iff_le, gt_iff_lt, ne_eq, Int.not_lt, Int.not_le, tf_iff, tf_iff'] at h7
                refine AW.seq (fun N hN => ?_)
                refine AW.regionL envOk ?_
                simp (dsimp := false) (implicitDefEqProofs := false) (disch := omega) only [go_sem, Nat.reduceAdd, Nat.reduceSub, Nat.reduceGT, Nat.reduceEqDiff, Nat.reduceMul, ring, w64, resL]
                refine hN _ ?_
                try clear hN
                try clear N
                refine AW.ret ?_
                simp (dsimp := false) (implicitDefEqProofs := false) (disch := omega) only [go_sem, Nat.reduceAdd, Nat.reduceSub, Nat.reduceGT, Nat.reduceEqDiff, Nat.reduceMul]
                try (exfalso; first | omega | (simp_all; done))
              · try simp only [decide_eq_true_eq, decide_eq_false_iff_not, bne_iff_ne, bne_eq_false_iff_eq, beq_iff_eq, beq_eq_false_iff_ne, Bool.not_eq_true', Bool.not_eq_false', Bool.not_eq_true, Bool.not_false, Bool.not_true, ge_iff_le, gt_iff_lt, ne_eq, Int.not_lt, Int.not_le, tf_iff, tf_iff'] at h7
                refine AW.skip ?_
                simp only [thn, blk]
                refine hN6 _ ?_
                try clear hN6
                try clear N6
                refine AW.seq (fun N7 hN7 => ?_)
                refine AW.seq (fun N hN => ?_)
                refine AW.regionL envOk ?_
                simp (dsimp := false) (implicitDefEqProofs := false) (disch := omega) only [go_sem, Nat.reduceAdd, Nat.reduceSub, Nat.reduceGT, Nat.reduceEqDiff, Nat.reduceMul, ring, w64, resL]
                refine AC.pure (.of (htb.pure )) ?_
                try simp (dsimp := false) (implicitDefEqProofs := false) (disch := omega) only [go_sem, Nat.reduceAdd, Nat.reduceSub, Nat.reduceGT, Nat.reduceEqDiff, Nat.reduceMul, ring, w64, resL]
                refine AC.pure (.lent (laws_eqInt64S_ok b b (by omega) (by omega)) (.cons ho8.vw (.cons (.refl _) .nil)) (.b _)) ?_
                try simp (dsimp := false) (implicitDefEqProofs := false) (disch := omega) only [go_sem, Nat.reduceAdd, Nat.reduceSub, Nat.reduceGT, Nat.reduceEqDiff, Nat.reduceMul, ring, w64, resL]
                refine hN _ ?_
                try clear hN
                try clear N
                refine AW.cond rfl (fun h8 => ?_) (fun h8 => ?_)
                · try simp only [decide_eq_true_eq, decide_eq_false_iff_not, bne_iff_ne, bne_eq_false_iff_eq, beq_iff_eq, beq_eq_false_iff_ne, Bool.not_eq_true', Bool.not_eq_false', Bool.not_eq_true, Bool.not_false, Bool.not_true, ge_iff_le, gt_iff_lt, ne_eq, Int.not_lt, Int.not_le, tf_iff, tf_iff'] at h8
                  refine AW.seq (fun N hN => ?_)
                  refine AW.regionL envOk ?_
                  simp (dsimp := false) (implicitDefEqProofs := false) (disch := omega) only [go_sem, Nat.reduceAdd, Nat.reduceSub, Nat.reduceGT, Nat.reduceEqDiff, Nat.reduceMul, ring, w64, resL]
                  refine hN _ ?_
                  try clear hN
                  try clear N
                  refine AW.ret ?_
                  simp (dsimp := false) (implicitDefEqProofs := false) (disch := omega) only [go_sem, Nat.reduceAdd, Nat.reduceSub, Nat.reduceGT, Nat.reduceEqDiff, Nat.reduceMul]
                  try (exfalso; first | omega | (simp_all; done))
                · try simp only [decide_eq_true_eq, decide_eq_false_iff_not, bne_iff_ne, bne_eq_false_iff_eq, beq_iff_eq, beq_eq_false_iff_ne, Bool.not_eq_true', Bool.not_eq_false', Bool.not_eq_true, Bool.not_false, Bool.not_true, ge_iff_le, gt_iff_lt, ne_eq, Int.not_lt, Int.not_le, tf_iff, tf_iff'] at h8
                  refine AW.skip ?_
                  simp only [thn, blk]
                  refine hN7 _ ?_
                  try clear hN7
                  try clear N7
                  refine AW.seq (fun N hN => ?_)
                  refine AW.regionL envOk ?_
                  simp (dsimp := false) (implicitDefEqProofs := false) (disch := omega) only [go_sem, Nat.reduceAdd, Nat.reduceSub, Nat.reduceGT, Nat.reduceEqDiff, Nat.reduceMul, ring, w64, resL]
                  refine hN _ ?_
                  try clear hN
                  try clear N
                  refine AW.seq (fun N hN => ?_)
                  refine AW.regionL envOk ?_
                  simp (dsimp := false) (implicitDefEqProofs := false) (disch := omega) only [go_sem, Nat.reduceAdd, Nat.reduceSub, Nat.reduceGT, Nat.reduceEqDiff, Nat.reduceMul, ring, w64, resL]
                  try simp (dsimp := false) (implicitDefEqProofs := false) (disch := omega) only [go_sem, Nat.reduceAdd, Nat.reduceSub, Nat.reduceGT, Nat.reduceEqDiff, Nat.reduceMul, hX]
                  refine (markR_h _ _ _ (p, pw, br) _ _ 1 ho6 (by omega) ⟨g1, g2⟩ (by omega) (by omega)).mono2 ?_
                  rintro m17 H17 res hm17 ⟨k17, rfl, hk17, hk17', hH17⟩
                  replace hB := (hH17 nx (by omega)).trans hB
                  replace ho7 := ho7.keep (fun i q1 q2 => hH17 i (by omega))
                  replace ho8 := ho8.keep (fun i q1 q2 => hH17 i (by omega))
                  replace hg9 := hg9.keep (fun i q1 q2 => hH17 i (by omega))
                  try simp (dsimp := false) (implicitDefEqProofs := false) (disch := omega) only [go_sem, Nat.reduceAdd, Nat.reduceSub, Nat.reduceGT, Nat.reduceEqDiff, Nat.reduceMul, ring, w64, resL]
                  refine hN _ ?_
                  try clear hN
                  try clear N
                  refine AW.seq (fun N hN => ?_)
                  refine AW.regionL envOk ?_
                  simp (dsimp := false) (implicitDefEqProofs := false) (disch := omega) only [go_sem, Nat.reduceAdd, Nat.reduceSub, Nat.reduceGT, Nat.reduceEqDiff, Nat.reduceMul, ring, w64, resL]
                  refine (laws_markInt64S_c.h _ _ _ a _ _ k17 ho7 (by omega) hal (by omega) (by omega)).mono2 ?_
                  rintro m18 H18 res hm18 ⟨k18, rfl, hk18, hk18', hH18⟩
                  replace hB := (hH18 nx (by omega)).trans hB
                  replace ho8 := ho8.keep (fun i q1 q2 => hH18 i (by omega))
                  replace hg9 := hg9.keep (fun i q1 q2 => hH18 i (by omega))
                  try simp (dsimp := false) (implicitDefEqProofs := false) (disch := omega) only [go_sem, Nat.reduceAdd, Nat.reduceSub, Nat.reduceGT, Nat.reduceEqDiff, Nat.reduceMul, ring, w64, resL]
                  refine hN _ ?_
                  try clear hN
                  try clear N
                  refine AW.seq (fun N hN => ?_)
                  refine AW.regionL envOk ?_
                  simp (dsimp := false) (implicitDefEqProofs := false) (disch := omega) only [go_sem, Nat.reduceAdd, Nat.reduceSub, Nat.reduceGT, Nat.reduceEqDiff, Nat.reduceMul, ring, w64, resL]
                  refine (laws_markInt64S_c.h _ _ _ b _ _ k18 ho8 (by omega) hbl (by omega) (by omega)).mono2 ?_
                  rintro m19 H19 res hm19 ⟨k19, rfl, hk19, hk19', hH19⟩
                  replace hB := (hH19 nx (by omega)).trans hB
                  replace hg9 := hg9.keep (fun i q1 q2 => hH19 i (by omega))
                  try simp (dsimp := false) (implicitDefEqProofs := false) (disch := omega) only [go_sem, Nat.reduceAdd, Nat.reduceSub, Nat.reduceGT, Nat.reduceEqDiff, Nat.reduceMul, ring, w64, resL]
                  refine hN _ ?_
                  try clear hN
                  try clear N
                  refine AW.seq (fun N8 hN8 => ?_)
                  refine AW.seq (fun N hN => ?_)
                  refine AW.regionL envOk ?_
                  simp (dsimp := false) (implicitDefEqProofs := false) (disch := omega) only [go_sem, Nat.reduceAdd, Nat.reduceSub, Nat.reduceGT, Nat.reduceEqDiff, Nat.reduceMul, ring, w64, resL]
                  refine gopB.mk' (fun h9 => ?_) (fun h9 => ?_)
                  · try simp only [decide_eq_true_eq, decide_eq_false_iff_not, bne_iff_ne, bne_eq_false_iff_eq, beq_iff_eq, beq_eq_false_iff_ne, Bool.not_eq_true', Bool.not_eq_false', Bool.not_eq_true, Bool.not_false, Bool.not_true, ge_iff_le, gt_iff_lt, ne_eq, Int.not_lt, Int.not_le, tf_iff, tf_iff'] at h9
                    try simp (dsimp := false) (implicitDefEqProofs := false) (disch := omega) only [go_sem, Nat.reduceAdd, Nat.reduceSub, Nat.reduceGT, Nat.reduceEqDiff, Nat.reduceMul, ring, w64, resL]
                    refine AC.pure (.lent heq (.cons hg9.vw (.cons (.refl _) .nil)) (.b _)) ?_
                    try simp (dsimp := false) (implicitDefEqProofs := false) (disch := omega) only [go_sem, Nat.reduceAdd, Nat.reduceSub, Nat.reduceGT, Nat.reduceEqDiff, Nat.reduceMul, ring, w64, resL]
                    refine gopB.mk' (fun h10 => ?_) (fun h10 => ?_)
                    · try simp only [decide_eq_true_eq, decide_eq_false_iff_not, bne_iff_ne, bne_eq_false_iff_eq, beq_iff_eq, beq_eq_false_iff_ne, Bool.not_eq_true', Bool.not_eq_false', Bool.not_eq_true, Bool.not_false, Bool.not_true, ge_iff_le, gt_iff_lt, ne_eq, Int.not_lt, Int.not_le, tf_iff, tf_iff'] at h10
                      try simp (dsimp := false) (implicitDefEqProofs := false) (disch := omega) only [go_sem, Nat.reduceAdd, Nat.reduceSub, Nat.reduceGT, Nat.reduceEqDiff, Nat.reduceMul, ring, w64, resL]
                      refine hN _ ?_
                      try clear hN
                      try clear N
                      refine AW.cond rfl (fun h11 => ?_) (fun h11 => ?_)
                      · try simp only [decide_eq_true_eq, decide_eq_false_iff_not, bne_iff_ne, bne_eq_false_iff_eq, beq_iff_eq, beq_eq_false_iff_ne, Bool.not_eq_true', Bool.not_eq_false', Bool.not_eq_true, Bool.not_false, Bool.not_true, ge_iff_le, gt_iff_lt, ne_eq, Int.not_lt, Int.not_le, tf_iff, tf_iff'] at h11
                        refine AW.seq (fun N hN => ?_)
                        refine AW.regionL envOk ?_
                        simp (dsimp := false) (implicitDefEqProofs := false) (disch := omega) only [go_sem, Nat.reduceAdd, Nat.reduceSub, Nat.reduceGT, Nat.reduceEqDiff, Nat.reduceMul, ring, w64, resL]
                        refine hN _ ?_
                        try clear hN
                        try clear N
                        refine AW.ret ?_
                        simp (dsimp := false) (implicitDefEqProofs := false) (disch := omega) only [go_sem, Nat.reduceAdd, Nat.reduceSub, Nat.reduceGT, Nat.reduceEqDiff, Nat.reduceMul]
                        try (exfalso; first | omega | (simp_all; done))
                      · try simp only [decide_eq_true_eq, decide_eq_false_iff_not, bne_iff_ne, bne_eq_false_iff_eq, beq_iff_eq, beq_eq_false_iff_ne, Bool.not_eq_true', Bool.not_eq_false', Bool.not_eq_true, Bool.not_false, Bool.not_true, ge_iff_le, gt_iff_lt, ne_eq, Int.not_lt, Int.not_le, tf_iff, tf_iff'] at h11
                        refine AW.skip ?_
                        simp only [thn, blk]
                        refine hN8 _ ?_
                        try clear hN8
                        try clear N8
                        refine AW.seq (fun N hN => ?_)
                        refine AW.regionL envOk ?_
                        simp (dsimp := false) (implicitDefEqProofs := false) (disch := omega) only [go_sem, Nat.reduceAdd, Nat.reduceSub, Nat.reduceGT, Nat.reduceEqDiff, Nat.reduceMul, ring, w64, resL]
                        refine hN _ ?_
                        try clear hN
                        try clear N
                        refine AW.seq (fun N hN => ?_)
                        refine AW.regionL envOk ?_
                        simp (dsimp := false) (implicitDefEqProofs := false) (disch := omega) only [go_sem, Nat.reduceAdd, Nat.reduceSub, Nat.reduceGT, Nat.reduceEqDiff, Nat.reduceMul, ring, w64, resL]
                        refine (markS_g hMl hg9 (by omega) (by omega)).mono2 ?_
                        rintro m21 H21 res hm21 ⟨rfl, hg9, hH21⟩
                        replace hB := (hH21 nx (by omega)).trans hB
                        try simp (dsimp := false) (implicitDefEqProofs := false) (disch := omega) only [go_sem, Nat.reduceAdd, Nat.reduceSub, Nat.reduceGT, Nat.reduceEqDiff, Nat.reduceMul, ring, w64, resL]
                        refine hN _ ?_
                        try clear hN
                        try clear N
                        refine AW.seq (fun N hN => ?_)
                        refine AW.regionL envOk ?_
                        simp (dsimp := false) (implicitDefEqProofs := false) (disch := omega) only [go_sem, Nat.reduceAdd, Nat.reduceSub, Nat.reduceGT, Nat.reduceEqDiff, Nat.reduceMul, ring, w64, resL]
                        refine hN _ ?_
                        try clear hN
                        try clear N
                        refine AW.seq (fun N hN => ?_)
                        refine AW.regionL envOk ?_
                        simp (dsimp := false) (implicitDefEqProofs := false) (disch := omega) only [go_sem, Nat.reduceAdd, Nat.reduceSub, Nat.reduceGT, Nat.reduceEqDiff, Nat.reduceMul, ring, w64, resL]
                        refine AC.pure (.lent (held_g hMl (by omega) (by omega)) (.cons hg9.vw (.cons (.refl _) .nil)) (.i _ _)) ?_
                        try simp (dsimp := false) (implicitDefEqProofs := false) (disch := omega) only [go_sem, Nat.reduceAdd, Nat.reduceSub, Nat.reduceGT, Nat.reduceEqDiff, Nat.reduceMul, ring, w64, resL]
                        refine hN _ ?_
                        try clear hN
                        try clear N
                        refine AW.seq (fun N9 hN9 => ?_)
                        refine AW.seq (fun N hN => ?_)
                        refine AW.regionL envOk ?_
                        simp (dsimp := false) (implicitDefEqProofs := false) (disch := omega) only [go_sem, Nat.reduceAdd, Nat.reduceSub, Nat.reduceGT, Nat.reduceEqDiff, Nat.reduceMul, ring, w64, resL]
                        refine hN _ ?_
                        try clear hN
                        try clear N
                        refine AW.cond rfl (fun h12 => ?_) (fun h12 => ?_)
                        · try simp only [decide_eq_true_eq, decide_eq_false_iff_not, bne_iff_ne, bne_eq_false_iff_eq, beq_iff_eq, beq_eq_false_iff_ne, Bool.not_eq_true', Bool.not_eq_false', Bool.not_eq_true, Bool.not_false, Bool.not_true, ge_iff_le, gt_iff_lt, ne_eq, Int.not_lt, Int.not_le, tf_iff, tf_iff'] at h12
                          refine AW.seq (fun N hN => ?_)
                          refine AW.regionL envOk ?_
                          simp (dsimp := false) (implicitDefEqProofs := false) (disch := omega) only [go_sem, Nat.reduceAdd, Nat.reduceSub, Nat.reduceGT, Nat.reduceEqDiff, Nat.reduceMul, ring, w64, resL]
                          refine hN _ ?_
                          try clear hN
                          try clear N
                          refine AW.ret ?_
                          simp (dsimp := false) (implicitDefEqProofs := false) (disch := omega) only [go_sem, Nat.reduceAdd, Nat.reduceSub, Nat.reduceGT, Nat.reduceEqDiff, Nat.reduceMul]
                          try (exfalso; first | omega | (simp_all; done))
                        · try simp only [decide_eq_true_eq, decide_eq_false_iff_not, bne_iff_ne, bne_eq_false_iff_eq, beq_iff_eq, beq_eq_false_iff_ne, Bool.not_eq_true', Bool.not_eq_false', Bool.not_eq_true, Bool.not_false, Bool.not_true, ge_iff_le, gt_iff_lt, ne_eq, Int.not_lt, Int.not_le, tf_iff, tf_iff'] at h12
                          refine AW.skip ?_
                          simp only [thn, blk]
                          refine hN9 _ ?_
                          try clear hN9
                          try clear N9
                          refine AW.seq (fun N10 hN10 => ?_)
                          refine AW.seq (fun N hN => ?_)
                          refine AW.regionL envOk ?_
                          simp (dsimp := false) (implicitDefEqProofs := false) (disch := omega) only [go_sem, Nat.reduceAdd, Nat.reduceSub, Nat.reduceGT, Nat.reduceEqDiff, Nat.reduceMul, ring, w64, resL]
                          refine hN _ ?_
                          try clear hN
                          try clear N
                          refine AW.cond rfl (fun h13 => ?_) (fun h13 => ?_)
                          · try simp only [decide_eq_true_eq, decide_eq_false_iff_not, bne_iff_ne, bne_eq_false_iff_eq, beq_iff_eq, beq_eq_false_iff_ne, Bool.not_eq_true', Bool.not_eq_false', Bool.not_eq_true, Bool.not_false, Bool.not_true, ge_iff_le, gt_iff_lt, ne_eq, Int.not_lt, Int.not_le, tf_iff, tf_iff'] at h13
                            refine AW.seq (fun N hN => ?_)
                            refine AW.regionL envOk ?_
                            simp (dsimp := false) (implicitDefEqProofs := false) (disch := omega) only [go_sem, Nat.reduceAdd, Nat.reduceSub, Nat.reduceGT, Nat.reduceEqDiff, Nat.reduceMul, ring, w64, resL]
                            refine hN _ ?_
                            try clear hN
                            try clear N
                            refine AW.ret ?_
                            simp (dsimp := false) (implicitDefEqProofs := false) (disch := omega) only [go_sem, Nat.reduceAdd, Nat.reduceSub, Nat.reduceGT, Nat.reduceEqDiff, Nat.reduceMul]
                            try (exfalso; first | omega | (simp_all; done))
                          · try simp only [decide_eq_true_eq, decide_eq_false_iff_not, bne_iff_ne, bne_eq_false_iff_eq, beq_iff_eq, beq_eq_false_iff_ne, Bool.not_eq_true', Bool.not_eq_false', Bool.not_eq_true, Bool.not_false, Bool.not_true, ge_iff_le, gt_iff_lt, ne_eq, Int.not_lt, Int.not_le, tf_iff, tf_iff'] at h13
                            refine AW.skip ?_
                            simp only [thn, blk]
                            refine hN10 _ ?_
                            try clear hN10
                            try clear N10
                            refine AW.seq (fun N hN => ?_)
                            refine AW.regionL envOk ?_
                            simp (dsimp := false) (implicitDefEqProofs := false) (disch := omega) only [go_sem, Nat.reduceAdd, Nat.reduceSub, Nat.reduceGT, Nat.reduceEqDiff, Nat.reduceMul, ring, w64, resL]
                            try simp (dsimp := false) (implicitDefEqProofs := false) (disch := omega) only [go_sem, Nat.reduceAdd, Nat.reduceSub, Nat.reduceGT, Nat.reduceEqDiff, Nat.reduceMul, hB]
                            refine AC.pure (.of (hto.pure )) ?_
                            try simp (dsimp := false) (implicitDefEqProofs := false) (disch := omega) only [go_sem, Nat.reduceAdd, Nat.reduceSub, Nat.reduceGT, Nat.reduceEqDiff, Nat.reduceMul, ring, w64, resL]
                            refine AC.pure (.of (hta.pure )) ?_
                            try simp (dsimp := false) (implicitDefEqProofs := false) (disch := omega) only [go_sem, Nat.reduceAdd, Nat.reduceSub, Nat.reduceGT, Nat.reduceEqDiff, Nat.reduceMul, ring, w64, resL]
                            refine AC.pure (.of (htb.pure )) ?_
                            try simp (dsimp := false) (implicitDefEqProofs := false) (disch := omega) only [go_sem, Nat.reduceAdd, Nat.reduceSub, Nat.reduceGT, Nat.reduceEqDiff, Nat.reduceMul, ring, w64, resL]
                            refine AC.pure (.of (himpl.pure )) ?_
                            try simp (dsimp := false) (implicitDefEqProofs := false) (disch := omega) only [go_sem, Nat.reduceAdd, Nat.reduceSub, Nat.reduceGT, Nat.reduceEqDiff, Nat.reduceMul, ring, w64, resL]
                            refine hN _ ?_
                            try clear hN
                            try clear N
                            refine AW.seq (fun N11 hN11 => ?_)
                            refine AW.seq (fun N hN => ?_)
                            refine AW.regionL envOk ?_
                            simp (dsimp := false) (implicitDefEqProofs := false) (disch := omega) only [go_sem, Nat.reduceAdd, Nat.reduceSub, Nat.reduceGT, Nat.reduceEqDiff, Nat.reduceMul, ring, w64, resL]
                            refine AC.pure (.of (heq )) ?_
                            try simp (dsimp := false) (implicitDefEqProofs := false) (disch := omega) only [go_sem, Nat.reduceAdd, Nat.reduceSub, Nat.reduceGT, Nat.reduceEqDiff, Nat.reduceMul, ring, w64, resL]
                            refine gopB.mk' (fun h14 => ?_) (fun h14 => ?_)
                            · try simp only [decide_eq_true_eq, decide_eq_false_iff_not, bne_iff_ne, bne_eq_false_iff_eq, beq_iff_eq, beq_eq_false_iff_ne, Bool.not_eq_true', Bool.not_eq_false', Bool.not_eq_true, Bool.not_false, Bool.not_true, ge_iff_le, gt_iff_lt, ne_eq, Int.not_lt, Int.not_le, tf_iff, tf_iff'] at h14
                              try simp (dsimp := false) (implicitDefEqProofs := false) (disch := omega) only [go_sem, Nat.reduceAdd, Nat.reduceSub, Nat.reduceGT, Nat.reduceEqDiff, Nat.reduceMul, ring, w64, resL]
                              refine hN _ ?_
                              try clear hN
                              try clear N
                              refine AW.cond rfl (fun h15 => ?_) (fun h15 => ?_)
                              · try simp only [decide_eq_true_eq, decide_eq_false_iff_not, bne_iff_ne, bne_eq_false_iff_eq, beq_iff_eq, beq_eq_false_iff_ne, Bool.not_eq_true', Bool.not_eq_false', Bool.not_eq_true, Bool.not_false, Bool.not_true, ge_iff_le, gt_iff_lt, ne_eq, Int.not_lt, Int.not_le, tf_iff, tf_iff'] at h15
                                refine AW.seq (fun N hN => ?_)
                                refine AW.regionL envOk ?_
                                simp (dsimp := false) (implicitDefEqProofs := false) (disch := omega) only [go_sem, Nat.reduceAdd, Nat.reduceSub, Nat.reduceGT, Nat.reduceEqDiff, Nat.reduceMul, ring, w64, resL]
                                refine hN _ ?_
                                try clear hN
                                try clear N
                                refine AW.ret ?_
                                simp (dsimp := false) (implicitDefEqProofs := false) (disch := omega) only [go_sem, Nat.reduceAdd, Nat.reduceSub, Nat.reduceGT, Nat.reduceEqDiff, Nat.reduceMul]
                                try (exfalso; first | omega | (simp_all; done))
                              · try simp only [decide_eq_true_eq, decide_eq_false_iff_not, bne_iff_ne, bne_eq_false_iff_eq, beq_iff_eq, beq_eq_false_iff_ne, Bool.not_eq_true', Bool.not_eq_false', Bool.not_eq_true, Bool.not_false, Bool.not_true, ge_iff_le, gt_iff_lt, ne_eq, Int.not_lt, Int.not_le, tf_iff, tf_iff'] at h15
                                refine AW.skip ?_
                                simp only [thn, blk]
                                refine hN11 _ ?_
                                try clear hN11
                                try clear N11
                                refine AW.seq (fun N hN => ?_)
                                refine AW.regionL envOk ?_
                                simp (dsimp := false) (implicitDefEqProofs := false) (disch := omega) only [go_sem, Nat.reduceAdd, Nat.reduceSub, Nat.reduceGT, Nat.reduceEqDiff, Nat.reduceMul, ring, w64, resL]
                                refine hN _ ?_
                                try clear hN
                                try clear N
                                refine AW.seq (fun N hN => ?_)
                                refine AW.regionL envOk ?_
                                simp (dsimp := false) (implicitDefEqProofs := false) (disch := omega) only [go_sem, Nat.reduceAdd, Nat.reduceSub, Nat.reduceGT, Nat.reduceEqDiff, Nat.reduceMul, ring, w64, resL]
                                refine AC.pure (.lent (held_g hMl (by omega) (by omega)) (.cons hg9.vw (.cons (.refl _) .nil)) (.i _ _)) ?_
                                try simp (dsimp := false) (implicitDefEqProofs := false) (disch := omega) only [go_sem, Nat.reduceAdd, Nat.reduceSub, Nat.reduceGT, Nat.reduceEqDiff, Nat.reduceMul, ring, w64, resL]
                                refine hN _ ?_
                                try clear hN
                                try clear N
                                refine AW.seq (fun N12 hN12 => ?_)
                                refine AW.seq (fun N hN => ?_)
                                refine AW.regionL envOk ?_
                                simp (dsimp := false) (implicitDefEqProofs := false) (disch := omega) only [go_sem, Nat.reduceAdd, Nat.reduceSub, Nat.reduceGT, Nat.reduceEqDiff, Nat.reduceMul, ring, w64, resL]
                                refine hN _ ?_
                                try clear hN
                                try clear N
                                refine AW.cond rfl (fun h16 => ?_) (fun h16 => ?_)
                                · try simp only [decide_eq_true_eq, decide_eq_false_iff_not, bne_iff_ne, bne_eq_false_iff_eq, beq_iff_eq, beq_eq_false_iff_ne, Bool.not_eq_true', Bool.not_eq_false', Bool.not_eq_true, Bool.not_false, Bool.not_true, ge_iff_le, gt_iff_lt, ne_eq, Int.not_lt, Int.not_le, tf_iff, tf_iff'] at h16
                                  refine AW.seq (fun N hN => ?_)
                                  refine AW.regionL envOk ?_
                                  simp (dsimp := false) (implicitDefEqProofs := false) (disch := omega) only [go_sem, Nat.reduceAdd, Nat.reduceSub, Nat.reduceGT, Nat.reduceEqDiff, Nat.reduceMul, ring, w64, resL]
                                  refine hN _ ?_
                                  try clear hN
                                  try clear N
                                  refine AW.ret ?_
                                  simp (dsimp := false) (implicitDefEqProofs := false) (disch := omega) only [go_sem, Nat.reduceAdd, Nat.reduceSub, Nat.reduceGT, Nat.reduceEqDiff, Nat.reduceMul]
                                  try (exfalso; first | omega | (simp_all; done))
                                · try simp only [decide_eq_true_eq, decide_eq_false_iff_not, bne_iff_ne, bne_eq_false_iff_eq, beq_iff_eq, beq_eq_false_iff_ne, Bool.not_eq_true', Bool.not_eq_false', Bool.not_eq_true, Bool.not_false, Bool.not_true, ge_iff_le, gt_iff_lt, ne_eq, Int.not_lt, Int.not_le, tf_iff, tf_iff'] at h16
                                  refine AW.skip ?_
                                  simp only [thn, blk]
                                  refine hN12 _ ?_
                                  try clear hN12
                                  try clear N12
                                  refine AW.seq (fun N13 hN13 => ?_)
                                  refine AW.seq (fun N hN => ?_)
                                  refine AW.regionL envOk ?_
                                  simp (dsimp := false) (implicitDefEqProofs := false) (disch := omega) only [go_sem, Nat.reduceAdd, Nat.reduceSub, Nat.reduceGT, Nat.reduceEqDiff, Nat.reduceMul, ring, w64, resL]
                                  refine hN _ ?_
                                  try clear hN
                                  try clear N
                                  refine AW.cond rfl (fun h17 => ?_) (fun h17 => ?_)
                                  · try simp only [decide_eq_true_eq, decide_eq_false_iff_not, bne_iff_ne, bne_eq_false_iff_eq, beq_iff_eq, beq_eq_false_iff_ne, Bool.not_eq_true', Bool.not_eq_false', Bool.not_eq_true, Bool.not_false, Bool.not_true, ge_iff_le, gt_iff_lt, ne_eq, Int.not_lt, Int.not_le, tf_iff, tf_iff'] at h17
                                    refine AW.seq (fun N hN => ?_)
                                    refine AW.regionL envOk ?_
                                    simp (dsimp := false) (implicitDefEqProofs := false) (disch := omega) only [go_sem, Nat.reduceAdd, Nat.reduceSub, Nat.reduceGT, Nat.reduceEqDiff, Nat.reduceMul, ring, w64, resL]
                                    refine hN _ ?_
                                    try clear hN
                                    try clear N
                                    refine AW.ret ?_
                                    simp (dsimp := false) (implicitDefEqProofs := false) (disch := omega) only [go_sem, Nat.reduceAdd, Nat.reduceSub, Nat.reduceGT, Nat.reduceEqDiff, Nat.reduceMul]
                                    try (exfalso; first | omega | (simp_all; done))
                                  · try simp only [decide_eq_true_eq, decide_eq_false_iff_not, bne_iff_ne, bne_eq_false_iff_eq, beq_iff_eq, beq_eq_false_iff_ne, Bool.not_eq_true', Bool.not_eq_false', Bool.not_eq_true, Bool.not_false, Bool.not_true, ge_iff_le, gt_iff_lt, ne_eq, Int.not_lt, Int.not_le, tf_iff, tf_iff'] at h17
                                    refine AW.skip ?_
                                    simp only [thn, blk]
                                    refine hN13 _ ?_
                                    try clear hN13
                                    try clear N13
                                    refine AW.seq (fun N hN => ?_)
                                    refine AW.regionL envOk ?_
                                    simp (dsimp := false) (implicitDefEqProofs := false) (disch := omega) only [go_sem, Nat.reduceAdd, Nat.reduceSub, Nat.reduceGT, Nat.reduceEqDiff, Nat.reduceMul, ring, w64, resL]
                                    refine hN _ ?_
                                    try clear hN
                                    try clear N
                                    refine AW.ret ?_
                                    simp (dsimp := false) (implicitDefEqProofs := false) (disch := omega) only [go_sem, Nat.reduceAdd, Nat.reduceSub, Nat.reduceGT, Nat.reduceEqDiff, Nat.reduceMul]
                                    try (exfalso; first | omega | (simp_all; done))
                            · try simp only [decide_eq_true_eq, decide_eq_false_iff_not, bne_iff_ne, bne_eq_false_iff_eq, beq_iff_eq, beq_eq_false_iff_ne, Bool.not_eq_true', Bool.not_eq_false', Bool.not_eq_true, Bool.not_false, Bool.not_true, ge_iff_le, gt_iff_lt, ne_eq, Int.not_lt, Int.not_le, tf_iff, tf_iff'] at h14
                              try simp (dsimp := false) (implicitDefEqProofs := false) (disch := omega) only [go_sem, Nat.reduceAdd, Nat.reduceSub, Nat.reduceGT, Nat.reduceEqDiff, Nat.reduceMul, ring, w64, resL]
                              refine hN _ ?_
                              try clear hN
                              try clear N
                              refine AW.condT rfl ?_
                              refine AW.seq (fun N hN => ?_)
                              refine AW.regionL envOk ?_
                              simp (dsimp := false) (implicitDefEqProofs := false) (disch := omega) only [go_sem, Nat.reduceAdd, Nat.reduceSub, Nat.reduceGT, Nat.reduceEqDiff, Nat.reduceMul, ring, w64, resL]
                              refine hN _ ?_
                              try clear hN
                              try clear N
                              refine AW.ret ?_
                              simp (dsimp := false) (implicitDefEqProofs := false) (disch := omega) only [go_sem, Nat.reduceAdd, Nat.reduceSub, Nat.reduceGT, Nat.reduceEqDiff, Nat.reduceMul]
                              try (exfalso; first | omega | (simp_all; done))
                    · try simp only [decide_eq_true_eq, decide_eq_false_iff_not, bne_iff_ne, bne_eq_false_iff_eq, beq_iff_eq, beq_eq_false_iff_ne, Bool.not_eq_true', Bool.not_eq_false', Bool.not_eq_true, Bool.not_false, Bool.not_true, ge_iff_le, gt_iff_lt, ne_eq, Int.not_lt, Int.not_le, tf_iff, tf_iff'] at h10
                      try simp (dsimp := false) (implicitDefEqProofs := false) (disch := omega) only [go_sem, Nat.reduceAdd, Nat.reduceSub, Nat.reduceGT, Nat.reduceEqDiff, Nat.reduceMul, ring, w64, resL]
                      refine hN _ ?_
                      try clear hN
                      try clear N
                      refine AW.condT rfl ?_
                      refine AW.seq (fun N hN => ?_)
                      refine AW.regionL envOk ?_
                      simp (dsimp := false) (implicitDefEqProofs := false) (disch := omega) only [go_sem, Nat.reduceAdd, Nat.reduceSub, Nat.reduceGT, Nat.reduceEqDiff, Nat.reduceMul, ring, w64, resL]
                      refine hN _ ?_
                      try clear hN
                      try clear N
                      refine AW.ret ?_
                      simp (dsimp := false) (implicitDefEqProofs := false) (disch := omega) only [go_sem, Nat.reduceAdd, Nat.reduceSub, Nat.reduceGT, Nat.reduceEqDiff, Nat.reduceMul]
                      try (exfalso; first | omega | (simp_all; done))
                  · try simp only [decide_eq_true_eq, decide_eq_false_iff_not, bne_iff_ne, bne_eq_false_iff_eq, beq_iff_eq, beq_eq_false_iff_ne, Bool.not_eq_true', Bool.not_eq_false', Bool.not_eq_true, Bool.not_false, Bool.not_true, ge_iff_le, gt_iff_lt, ne_eq, Int.not_lt, Int.not_le, tf_iff, tf_iff'] at h9
                    try simp (dsimp := false) (implicitDefEqProofs := false) (disch := omega) only [go_sem, Nat.reduceAdd, Nat.reduceSub, Nat.reduceGT, Nat.reduceEqDiff, Nat.reduceMul, ring, w64, resL]
                    refine hN _ ?_
                    try clear hN
                    try clear N
                    refine AW.condT rfl ?_
                    refine AW.seq (fun N hN => ?_)
                    refine AW.regionL envOk ?_
                    simp (dsimp := false) (implicitDefEqProofs := false) (disch := omega) only [go_sem, Nat.reduceAdd, Nat.reduceSub, Nat.reduceGT, Nat.reduceEqDiff, Nat.reduceMul, ring, w64, resL]
                    refine hN _ ?_
                    try clear hN
                    try clear N
                    refine AW.ret ?_
                    simp (dsimp := false) (implicitDefEqProofs := false) (disch := omega) only [go_sem, Nat.reduceAdd, Nat.reduceSub, Nat.reduceGT, Nat.reduceEqDiff, Nat.reduceMul]
                    try (exfalso; first | omega | (simp_all; done))
        · try simp only [decide_eq_true_eq, decide_eq_false_iff_not, bne_iff_ne, bne_eq_false_iff_eq, beq_iff_eq, beq_eq_false_iff_ne, Bool.not_eq_true', Bool.not_eq_false', Bool.not_eq_true, Bool.not_false, Bool.not_true, ge_iff_le, gt_iff_lt, ne_eq, Int.not_lt, Int.not_le, tf_iff, tf_iff'] at h4
          try simp (dsimp := false) (implicitDefEqProofs := false) (disch := omega) only [go_sem, Nat.reduceAdd, Nat.reduceSub, Nat.reduceGT, Nat.reduceEqDiff, Nat.reduceMul, ring, w64, resL]
          refine hN _ ?_
          try clear hN
          try clear N
          refine AW.condT rfl ?_
          refine AW.seq (fun N hN => ?_)
          refine AW.regionL envOk ?_
          simp (dsimp := false) (implicitDefEqProofs := false) (disch := omega) only [go_sem, Nat.reduceAdd, Nat.reduceSub, Nat.reduceGT, Nat.reduceEqDiff, Nat.reduceMul, ring, w64, resL]
          refine hN _ ?_
          try clear hN
          try clear N
          refine AW.ret ?_
          simp (dsimp := false) (implicitDefEqProofs := false) (disch := omega) only [go_sem, Nat.reduceAdd, Nat.reduceSub, Nat.reduceGT, Nat.reduceEqDiff, Nat.reduceMul]
          try (exfalso; first | omega | (simp_all; done))

end Go.Proofs.Ytliojahenpfibaa
