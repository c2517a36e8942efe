/-
  The law FnExactLieElementOrder: it answers true, whatever ring and list it is given.
-/
import Derived.Test.YtliojahenpfibaaNi
set_option linter.unusedVariables false
set_option linter.unusedSimpArgs false
namespace Go.Proofs.Ytliojahenpfibaa

theorem law_LieElementOrder (p : Int) (pw : List (List Int)) (br : List (List (List Int))) (a : List Int) (h0 : i64ok p) (hpw : rowsok pw) (hbr : cubesok br) (hia : intsok a) : ACp Try.prog 9 [ring p pw br, ints a] (.b true) := by
  obtain ⟨t, ht⟩ : ∃ t, AllEl p pw br [a] → isOrd p pw a t := by
    by_cases h : AllEl p pw br [a]
    · have h' := AllEl.one.1 h
      obtain ⟨t, ht⟩ := isOrd.ex h'.1.1.tri h'.2.el
      exact ⟨t, fun _ => ht⟩
    · exact ⟨0, fun h' => absurd h' h⟩
  have hia1 := hia.1
  refine ACp.intro' envOk Try.func9 rfl (by kernel_rfl) Try.ntmps9 Try.results9 (.b _) (fun nx => ?_)
  refine AW.seq (fun N hN => ?_)
  refine AW.regionL envOk ?_
  simp (dsimp := false) (implicitDefEqProofs := false) (disch := omega) only [go_sem, Nat.reduceAdd, Nat.reduceSub, Nat.reduceGT, Nat.reduceEqDiff, Nat.reduceMul, ring, rows, cubes, ints, w64, inR]
  refine hN _ ?_
  try clear hN
  try clear N
  refine AW.seq (fun N1 hN1 => ?_)
  refine AW.seq (fun N hN => ?_)
  refine AW.regionL envOk ?_
  simp (dsimp := false) (implicitDefEqProofs := false) (disch := omega) only [go_sem, Nat.reduceAdd, Nat.reduceSub, Nat.reduceGT, Nat.reduceEqDiff, Nat.reduceMul, ring, rows, cubes, ints, w64, inR]
  refine hN _ ?_
  try clear hN
  try clear N
  refine AW.cond rfl (fun h1 => ?_) (fun h1 => ?_)
  · try simp only [decide_eq_true_eq, decide_eq_false_iff_not, bne_iff_ne, bne_eq_false_iff_eq, beq_iff_eq, beq_eq_false_iff_ne, Bool.not_eq_true', Bool.not_eq_false', Bool.not_eq_true, Bool.not_false, Bool.not_true, ge_iff_le, gt_iff_lt, ne_eq, Int.not_lt, Int.not_le, tf_iff, tf_iff'] at h1
    refine AW.seq (fun N hN => ?_)
    refine AW.regionL envOk ?_
    simp (dsimp := false) (implicitDefEqProofs := false) (disch := omega) only [go_sem, Nat.reduceAdd, Nat.reduceSub, Nat.reduceGT, Nat.reduceEqDiff, Nat.reduceMul, ring, rows, cubes, ints, w64, inR]
    refine hN _ ?_
    try clear hN
    try clear N
    refine AW.ret ?_
    simp (dsimp := false) (implicitDefEqProofs := false) (disch := omega) only [go_sem, Nat.reduceAdd, Nat.reduceSub, Nat.reduceGT, Nat.reduceEqDiff, Nat.reduceMul]
    try (exfalso; simp_all; done)
  · try simp only [decide_eq_true_eq, decide_eq_false_iff_not, bne_iff_ne, bne_eq_false_iff_eq, beq_iff_eq, beq_eq_false_iff_ne, Bool.not_eq_true', Bool.not_eq_false', Bool.not_eq_true, Bool.not_false, Bool.not_true, ge_iff_le, gt_iff_lt, ne_eq, Int.not_lt, Int.not_le, tf_iff, tf_iff'] at h1
    refine AW.skip ?_
    simp only [thn, blk]
    refine hN1 _ ?_
    try clear hN1
    try clear N1
    refine AW.seq (fun N hN => ?_)
    refine AW.regionL envOk ?_
    simp (dsimp := false) (implicitDefEqProofs := false) (disch := omega) only [go_sem, Nat.reduceAdd, Nat.reduceSub, Nat.reduceGT, Nat.reduceEqDiff, Nat.reduceMul, ring, rows, cubes, ints, w64, inR]
    refine hN _ ?_
    try clear hN
    try clear N
    refine AW.seq (fun N hN => ?_)
    refine AW.regionL envOk ?_
    simp (dsimp := false) (implicitDefEqProofs := false) (disch := omega) only [go_sem, Nat.reduceAdd, Nat.reduceSub, Nat.reduceGT, Nat.reduceEqDiff, Nat.reduceMul, ring, rows, cubes, ints, w64, inR]
    refine AC.pure (.of (laws_szLieRing_ok p pw br 1048576 (by omega) (by omega) hpw hbr)) ?_
    try simp (dsimp := false) (implicitDefEqProofs := false) (disch := omega) only [go_sem, Nat.reduceAdd, Nat.reduceSub, Nat.reduceGT, Nat.reduceEqDiff, Nat.reduceMul, ring, rows, cubes, ints, w64, inR]
    refine hN _ ?_
    try clear hN
    try clear N
    refine AW.seq (fun N2 hN2 => ?_)
    refine AW.seq (fun N hN => ?_)
    refine AW.regionL envOk ?_
    simp (dsimp := false) (implicitDefEqProofs := false) (disch := omega) only [go_sem, Nat.reduceAdd, Nat.reduceSub, Nat.reduceGT, Nat.reduceEqDiff, Nat.reduceMul, ring, rows, cubes, ints, w64, inR]
    refine hN _ ?_
    try clear hN
    try clear N
    refine AW.cond rfl (fun h2 => ?_) (fun h2 => ?_)
    · try simp only [decide_eq_true_eq, decide_eq_false_iff_not, bne_iff_ne, bne_eq_false_iff_eq, beq_iff_eq, beq_eq_false_iff_ne, Bool.not_eq_true', Bool.not_eq_false', Bool.not_eq_true, Bool.not_false, Bool.not_true, ge_iff_le, gt_iff_lt, ne_eq, Int.not_lt, Int.not_le, tf_iff, tf_iff'] at h2
      refine AW.seq (fun N hN => ?_)
      refine AW.regionL envOk ?_
      simp (dsimp := false) (implicitDefEqProofs := false) (disch := omega) only [go_sem, Nat.reduceAdd, Nat.reduceSub, Nat.reduceGT, Nat.reduceEqDiff, Nat.reduceMul, ring, rows, cubes, ints, w64, inR]
      refine hN _ ?_
      try clear hN
      try clear N
      refine AW.ret ?_
      simp (dsimp := false) (implicitDefEqProofs := false) (disch := omega) only [go_sem, Nat.reduceAdd, Nat.reduceSub, Nat.reduceGT, Nat.reduceEqDiff, Nat.reduceMul]
      try (exfalso; simp_all; done)
    · try simp only [decide_eq_true_eq, decide_eq_false_iff_not, bne_iff_ne, bne_eq_false_iff_eq, beq_iff_eq, beq_eq_false_iff_ne, Bool.not_eq_true', Bool.not_eq_false', Bool.not_eq_true, Bool.not_false, Bool.not_true, ge_iff_le, gt_iff_lt, ne_eq, Int.not_lt, Int.not_le, tf_iff, tf_iff'] at h2
      obtain ⟨g1, g2⟩ := szR_mem (by omega) (by omega) h2
      have hl := ringlen.of g1 g2
      have hal : a.length ≤ 1048576 := by omega
      refine AW.skip ?_
      simp only [thn, blk]
      refine hN2 _ ?_
      try clear hN2
      try clear N2
      refine AW.seq (fun N hN => ?_)
      refine AW.regionL envOk ?_
      simp (dsimp := false) (implicitDefEqProofs := false) (disch := omega) only [go_sem, Nat.reduceAdd, Nat.reduceSub, Nat.reduceGT, Nat.reduceEqDiff, Nat.reduceMul, ring, rows, cubes, ints, w64, inR]
      refine AC.pure (.of ((laws_toLieRing_ok p pw br g1 g2).pure )) ?_
      try simp (dsimp := false) (implicitDefEqProofs := false) (disch := omega) only [go_sem, Nat.reduceAdd, Nat.reduceSub, Nat.reduceGT, Nat.reduceEqDiff, Nat.reduceMul, ring, rows, cubes, ints, w64, inR]
      refine AC.pure (.of ((toS_ok a (by omega)).pure )) ?_
      try simp (dsimp := false) (implicitDefEqProofs := false) (disch := omega) only [go_sem, Nat.reduceAdd, Nat.reduceSub, Nat.reduceGT, Nat.reduceEqDiff, Nat.reduceMul, ring, rows, cubes, ints, w64, inR]
      refine AC.pure (.of (spec_LieElementOrder_ok p pw br hl a hal t ht)) ?_
      try simp (dsimp := false) (implicitDefEqProofs := false) (disch := omega) only [go_sem, Nat.reduceAdd, Nat.reduceSub, Nat.reduceGT, Nat.reduceEqDiff, Nat.reduceMul, ring, rows, cubes, ints, w64, inR]
      refine hN _ ?_
      try clear hN
      try clear N
      refine AW.seq (fun N hN => ?_)
      refine AW.regionL envOk ?_
      simp (dsimp := false) (implicitDefEqProofs := false) (disch := omega) only [go_sem, Nat.reduceAdd, Nat.reduceSub, Nat.reduceGT, Nat.reduceEqDiff, Nat.reduceMul, ring, rows, cubes, ints, w64, inR]
      refine AC.pure (.of ((laws_toLieRing_ok p pw br g1 g2).pure )) ?_
      try simp (dsimp := false) (implicitDefEqProofs := false) (disch := omega) only [go_sem, Nat.reduceAdd, Nat.reduceSub, Nat.reduceGT, Nat.reduceEqDiff, Nat.reduceMul, ring, rows, cubes, ints, w64, inR]
      refine hN _ ?_
      try clear hN
      try clear N
      refine AW.seq (fun N hN => ?_)
      refine AW.regionL envOk ?_
      simp (dsimp := false) (implicitDefEqProofs := false) (disch := omega) only [go_sem, Nat.reduceAdd, Nat.reduceSub, Nat.reduceGT, Nat.reduceEqDiff, Nat.reduceMul, ring, rows, cubes, ints, w64, inR]
      refine AC.pure (.of ((toS_ok a (by omega)).pure )) ?_
      try simp (dsimp := false) (implicitDefEqProofs := false) (disch := omega) only [go_sem, Nat.reduceAdd, Nat.reduceSub, Nat.reduceGT, Nat.reduceEqDiff, Nat.reduceMul, ring, rows, cubes, ints, w64, inR]
      refine hN _ ?_
      try clear hN
      try clear N
      refine AW.seq (fun N hN => ?_)
      refine AW.regionL envOk ?_
      simp (dsimp := false) (implicitDefEqProofs := false) (disch := omega) only [go_sem, Nat.reduceAdd, Nat.reduceSub, Nat.reduceGT, Nat.reduceEqDiff, Nat.reduceMul, ring, rows, cubes, ints, w64, inR]
      refine AC.pure (.of (impl_LieElementOrder_ok p pw br hl a hal t ht)) ?_
      try simp (dsimp := false) (implicitDefEqProofs := false) (disch := omega) only [go_sem, Nat.reduceAdd, Nat.reduceSub, Nat.reduceGT, Nat.reduceEqDiff, Nat.reduceMul, ring, rows, cubes, ints, w64, inR]
      refine hN _ ?_
      try clear hN
      try clear N
      refine AW.seq (fun N3 hN3 => ?_)
      refine AW.seq (fun N hN => ?_)
      refine AW.regionL envOk ?_
      simp (dsimp := false) (implicitDefEqProofs := false) (disch := omega) only [go_sem, Nat.reduceAdd, Nat.reduceSub, Nat.reduceGT, Nat.reduceEqDiff, Nat.reduceMul, ring, rows, cubes, ints, w64, inR]
      refine gopB.mk' (fun h3 => ?_) (fun h3 => ?_)
      · try simp only [decide_eq_true_eq, decide_eq_false_iff_not, bne_iff_ne, bne_eq_false_iff_eq, beq_iff_eq, beq_eq_false_iff_ne, Bool.not_eq_true', Bool.not_eq_false', Bool.not_eq_true, Bool.not_false, Bool.not_true, ge_iff_le, gt_iff_lt, ne_eq, Int.not_lt, Int.not_le, tf_iff, tf_iff'] at h3
        try simp (dsimp := false) (implicitDefEqProofs := false) (disch := omega) only [go_sem, Nat.reduceAdd, Nat.reduceSub, Nat.reduceGT, Nat.reduceEqDiff, Nat.reduceMul, ring, rows, cubes, ints, w64, inR]
        refine hN _ ?_
        try clear hN
        try clear N
        refine AW.cond rfl (fun h4 => ?_) (fun h4 => ?_)
        · try simp only [decide_eq_true_eq, decide_eq_false_iff_not, bne_iff_ne, bne_eq_false_iff_eq, beq_iff_eq, beq_eq_false_iff_ne, Bool.not_eq_true', Bool.not_eq_false', Bool.not_eq_true, Bool.not_false, Bool.not_true, ge_iff_le, gt_iff_lt, ne_eq, Int.not_lt, Int.not_le, tf_iff, tf_iff'] at h4
          refine AW.seq (fun N hN => ?_)
          refine AW.regionL envOk ?_
          simp (dsimp := false) (implicitDefEqProofs := false) (disch := omega) only [go_sem, Nat.reduceAdd, Nat.reduceSub, Nat.reduceGT, Nat.reduceEqDiff, Nat.reduceMul, ring, rows, cubes, ints, w64, inR]
          refine hN _ ?_
          try clear hN
          try clear N
          refine AW.ret ?_
          simp (dsimp := false) (implicitDefEqProofs := false) (disch := omega) only [go_sem, Nat.reduceAdd, Nat.reduceSub, Nat.reduceGT, Nat.reduceEqDiff, Nat.reduceMul]
          try (exfalso; simp_all; done)
        · try simp only [decide_eq_true_eq, decide_eq_false_iff_not, bne_iff_ne, bne_eq_false_iff_eq, beq_iff_eq, beq_eq_false_iff_ne, Bool.not_eq_true', Bool.not_eq_false', Bool.not_eq_true, Bool.not_false, Bool.not_true, ge_iff_le, gt_iff_lt, ne_eq, Int.not_lt, Int.not_le, tf_iff, tf_iff'] at h4
          refine AW.skip ?_
          simp only [thn, blk]
          refine hN3 _ ?_
          try clear hN3
          try clear N3
          refine AW.seq (fun N4 hN4 => ?_)
          refine AW.seq (fun N hN => ?_)
          refine AW.drawL envOk (by kernel_rfl) 5 (by kernel_rfl) ?_
          simp (dsimp := false) (implicitDefEqProofs := false) (disch := omega) only [hr_nil, hr_one, hr_if, List.take_succ_cons, List.take_zero, List.drop_succ_cons, List.drop_zero, List.take_nil, List.drop_nil, go_sem, Nat.reduceAdd, Nat.reduceSub, Nat.reduceGT, Nat.reduceEqDiff, Nat.reduceMul, ring, rows, cubes, ints, w64, inR]
          refine ⟨_, .of ((laws_toLieRing_ok p pw br g1 g2).pure ), ?_⟩
          try simp (dsimp := false) (implicitDefEqProofs := false) (disch := omega) only [go_sem, Nat.reduceAdd, Nat.reduceSub, Nat.reduceGT, Nat.reduceEqDiff, Nat.reduceMul, ring, rows, cubes, ints, w64, inR]
          refine ⟨_, .of (laws_eqLieRing_ok p p pw pw br br hpw hpw hbr hbr), ?_⟩
          try simp (dsimp := false) (implicitDefEqProofs := false) (disch := omega) only [go_sem, Nat.reduceAdd, Nat.reduceSub, Nat.reduceGT, Nat.reduceEqDiff, Nat.reduceMul, ring, rows, cubes, ints, w64, inR]
          refine hN _ ?_
          try clear hN
          try clear N
          refine AW.cond rfl (fun h5 => ?_) (fun h5 => ?_)
          · try simp only [decide_eq_true_eq, decide_eq_false_iff_not, bne_iff_ne, bne_eq_false_iff_eq, beq_iff_eq, beq_eq_false_iff_ne, Bool.not_eq_true', Bool.not_eq_false', Bool.not_eq_true, Bool.not_false, Bool.not_true, ge_iff_le, gt_iff_lt, ne_eq, Int.not_lt, Int.not_le, tf_iff, tf_iff'] at h5
            refine AW.seq (fun N hN => ?_)
            refine AW.regionL envOk ?_
            simp (dsimp := false) (implicitDefEqProofs := false) (disch := omega) only [go_sem, Nat.reduceAdd, Nat.reduceSub, Nat.reduceGT, Nat.reduceEqDiff, Nat.reduceMul, ring, rows, cubes, ints, w64, inR]
            refine hN _ ?_
            try clear hN
            try clear N
            refine AW.ret ?_
            simp (dsimp := false) (implicitDefEqProofs := false) (disch := omega) only [go_sem, Nat.reduceAdd, Nat.reduceSub, Nat.reduceGT, Nat.reduceEqDiff, Nat.reduceMul]
            try (exfalso; simp_all; done)
          · try simp only [decide_eq_true_eq, decide_eq_false_iff_not, bne_iff_ne, bne_eq_false_iff_eq, beq_iff_eq, beq_eq_false_iff_ne, Bool.not_eq_true', Bool.not_eq_false', Bool.not_eq_true, Bool.not_false, Bool.not_true, ge_iff_le, gt_iff_lt, ne_eq, Int.not_lt, Int.not_le, tf_iff, tf_iff'] at h5
            refine AW.skip ?_
            simp only [thn, blk]
            refine hN4 _ ?_
            try clear hN4
            try clear N4
            refine AW.seq (fun N5 hN5 => ?_)
            refine AW.seq (fun N hN => ?_)
            refine AW.regionL envOk ?_
            simp (dsimp := false) (implicitDefEqProofs := false) (disch := omega) only [go_sem, Nat.reduceAdd, Nat.reduceSub, Nat.reduceGT, Nat.reduceEqDiff, Nat.reduceMul, ring, rows, cubes, ints, w64, inR]
            refine AC.pure (.of ((toS_ok a (by omega)).pure )) ?_
            try simp (dsimp := false) (implicitDefEqProofs := false) (disch := omega) only [go_sem, Nat.reduceAdd, Nat.reduceSub, Nat.reduceGT, Nat.reduceEqDiff, Nat.reduceMul, ring, rows, cubes, ints, w64, inR]
            refine AC.pure (.of (laws_eqInt64S_ok a a (by omega) (by omega))) ?_
            try simp (dsimp := false) (implicitDefEqProofs := false) (disch := omega) only [go_sem, Nat.reduceAdd, Nat.reduceSub, Nat.reduceGT, Nat.reduceEqDiff, Nat.reduceMul, ring, rows, cubes, ints, w64, inR]
            refine hN _ ?_
            try clear hN
            try clear N
            refine AW.cond rfl (fun h6 => ?_) (fun h6 => ?_)
            · try simp only [decide_eq_true_eq, decide_eq_false_iff_not, bne_iff_ne, bne_eq_false_iff_eq, beq_iff_eq, beq_eq_false_iff_ne, Bool.not_eq_true', Bool.not_eq_false', Bool.not_eq_true, Bool.not_false, Bool.not_true, ge_iff_le, gt_iff_lt, ne_eq, Int.not_lt, Int.not_le, tf_iff, tf_iff'] at h6
              refine AW.seq (fun N hN => ?_)
              refine AW.regionL envOk ?_
              simp (dsimp := false) (implicitDefEqProofs := false) (disch := omega) only [go_sem, Nat.reduceAdd, Nat.reduceSub, Nat.reduceGT, Nat.reduceEqDiff, Nat.reduceMul, ring, rows, cubes, ints, w64, inR]
              refine hN _ ?_
              try clear hN
              try clear N
              refine AW.ret ?_
              simp (dsimp := false) (implicitDefEqProofs := false) (disch := omega) only [go_sem, Nat.reduceAdd, Nat.reduceSub, Nat.reduceGT, Nat.reduceEqDiff, Nat.reduceMul]
              try (exfalso; simp_all; done)
            · try simp only [decide_eq_true_eq, decide_eq_false_iff_not, bne_iff_ne, bne_eq_false_iff_eq, beq_iff_eq, beq_eq_false_iff_ne, Bool.not_eq_true', Bool.not_eq_false', Bool.not_eq_true, Bool.not_false, Bool.not_true, ge_iff_le, gt_iff_lt, ne_eq, Int.not_lt, Int.not_le, tf_iff, tf_iff'] at h6
              refine AW.skip ?_
              simp only [thn, blk]
              refine hN5 _ ?_
              try clear hN5
              try clear N5
              refine AW.seq (fun N hN => ?_)
              refine AW.regionL envOk ?_
              simp (dsimp := false) (implicitDefEqProofs := false) (disch := omega) only [go_sem, Nat.reduceAdd, Nat.reduceSub, Nat.reduceGT, Nat.reduceEqDiff, Nat.reduceMul, ring, rows, cubes, ints, w64, inR]
              refine hN _ ?_
              try clear hN
              try clear N
              refine AW.ret ?_
              simp (dsimp := false) (implicitDefEqProofs := false) (disch := omega) only [go_sem, Nat.reduceAdd, Nat.reduceSub, Nat.reduceGT, Nat.reduceEqDiff, Nat.reduceMul]
              try (exfalso; simp_all; done)
      · try simp only [decide_eq_true_eq, decide_eq_false_iff_not, bne_iff_ne, bne_eq_false_iff_eq, beq_iff_eq, beq_eq_false_iff_ne, Bool.not_eq_true', Bool.not_eq_false', Bool.not_eq_true, Bool.not_false, Bool.not_true, ge_iff_le, gt_iff_lt, ne_eq, Int.not_lt, Int.not_le, tf_iff, tf_iff'] at h3
        try simp (dsimp := false) (implicitDefEqProofs := false) (disch := omega) only [go_sem, Nat.reduceAdd, Nat.reduceSub, Nat.reduceGT, Nat.reduceEqDiff, Nat.reduceMul, ring, rows, cubes, ints, w64, inR]
        refine hN _ ?_
        try clear hN
        try clear N
        refine AW.condT rfl ?_
        refine AW.seq (fun N hN => ?_)
        refine AW.regionL envOk ?_
        simp (dsimp := false) (implicitDefEqProofs := false) (disch := omega) only [go_sem, Nat.reduceAdd, Nat.reduceSub, Nat.reduceGT, Nat.reduceEqDiff, Nat.reduceMul, ring, rows, cubes, ints, w64, inR]
        refine hN _ ?_
        try clear hN
        try clear N
        refine AW.ret ?_
        simp (dsimp := false) (implicitDefEqProofs := false) (disch := omega) only [go_sem, Nat.reduceAdd, Nat.reduceSub, Nat.reduceGT, Nat.reduceEqDiff, Nat.reduceMul]
        try (exfalso; simp_all; done)

end Go.Proofs.Ytliojahenpfibaa
