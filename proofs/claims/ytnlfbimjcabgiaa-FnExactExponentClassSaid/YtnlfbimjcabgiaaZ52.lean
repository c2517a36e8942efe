import Derived.Test.YtnlfbimjcabgiaaZ51
set_option linter.unusedVariables false
set_option linter.unusedSimpArgs false
namespace Go.Proofs.Ytnlfbimjcabgiaa
open Nat (reduceAdd reduceSub reduceGT reduceEqDiff reduceMul)
noncomputable def cvC (os : List Int) (pw : List (List Int)) (cj : List (List (List Int))) : Int := if tf (grpP os pw cj) = true then (if tf (pgP os pw cj) = true then (if prd os os.length ≤ 81 then 0 else 3) else 5) else 1
section
variable (os : List Int) (pw : List (List Int)) (cj : List (List (List Int)))
theorem cvC_1 (h : ¬grpP os pw cj) : cvC os pw cj = 1 := by rw [cvC, tf_f h]; rfl
theorem cvC_5 (h : grpP os pw cj) (h2 : ¬pgP os pw cj) : cvC os pw cj = 5 := by rw [cvC, tf_t h, if_pos rfl, tf_f h2]; rfl
theorem cvC_3 (h : grpP os pw cj) (h2 : pgP os pw cj) (h3 : ¬prd os os.length ≤ 81) : cvC os pw cj = 3 := by rw [cvC, tf_t h, if_pos rfl, tf_t h2, if_pos rfl, if_neg h3]
theorem cvC_0 (h : grpP os pw cj) (h2 : pgP os pw cj) (h3 : prd os os.length ≤ 81) : cvC os pw cj = 0 := by rw [cvC, tf_t h, if_pos rfl, tf_t h2, if_pos rfl, if_pos h3]
theorem cvC_z (h : cvC os pw cj = 0) : grpP os pw cj ∧ pgP os pw cj ∧ prd os os.length ≤ 81 := by
  by_cases h1 : grpP os pw cj
  · by_cases h2 : pgP os pw cj
    · by_cases h3 : prd os os.length ≤ 81
      · exact ⟨h1, h2, h3⟩
      · rw [cvC_3 os pw cj h1 h2 h3] at h; omega
    · rw [cvC_5 os pw cj h1 h2] at h; omega
  · rw [cvC_1 os pw cj h1] at h; omega
theorem impl_coverCode_ok (hl : prlen os pw cj) : ACp Try.prog 38 [prsP os pw cj] (.i .i64 (cvC os pw cj)) := by
 have hlo := hl.o
 refine ACp.intro' envOk Try.func38 rfl (by kernel_rfl) Try.ntmps38 Try.results38 (.i _ _) (fun nx => ?_)
 refine AW.sr envOk (fun N hN => ?_)
 simp -dsimp -implicitDefEqProofs (disch := omega) only [go_sem, undef, reduceAdd, reduceSub, reduceGT, reduceEqDiff, reduceMul, prsP, prs, w64]
 refine hN _ ?_
 try clear hN N
 refine AW.seq (fun N1 hN1 => ?_)
 refine AW.block ?_
 refine AW.sr envOk (fun N hN => ?_)
 simp -dsimp -implicitDefEqProofs (disch := omega) only [go_sem, undef, reduceAdd, reduceSub, reduceGT, reduceEqDiff, reduceMul, prsP, prs, w64]
 refine AC.pure (.of (impl_IsConsistent_ok os pw cj hl)) ?_
 try simp -dsimp -implicitDefEqProofs (disch := omega) only [go_sem, undef, reduceAdd, reduceSub, reduceGT, reduceEqDiff, reduceMul, prsP, prs, w64]
 refine hN _ ?_
 try clear hN N
 refine AW.cond rfl (fun h1 => ?_) (fun h1 => ?_)
 ·try simp only [cn] at h1
  refine AW.sr envOk (fun N hN => ?_)
  simp -dsimp -implicitDefEqProofs (disch := omega) only [go_sem, undef, reduceAdd, reduceSub, reduceGT, reduceEqDiff, reduceMul, prsP, prs, w64]
  refine hN _ ?_
  try clear hN N
  refine AW.ret ?_
  simp -dsimp -implicitDefEqProofs (disch := omega) only [go_sem, undef, reduceAdd, reduceSub, reduceGT, reduceEqDiff, reduceMul]
  rw [cvC_1 os pw cj h1]
 ·try simp only [cn] at h1
  refine AW.sr envOk (fun N hN => ?_)
  simp -dsimp -implicitDefEqProofs (disch := omega) only [go_sem, undef, reduceAdd, reduceSub, reduceGT, reduceEqDiff, reduceMul, prsP, prs, w64]
  refine AC.pure (.of (impl_isPGroup_ok os pw cj hl)) ?_
  try simp -dsimp -implicitDefEqProofs (disch := omega) only [go_sem, undef, reduceAdd, reduceSub, reduceGT, reduceEqDiff, reduceMul, prsP, prs, w64]
  refine hN _ ?_
  try clear hN N
  refine AW.cond rfl (fun h2 => ?_) (fun h2 => ?_)
  ·try simp only [cn] at h2
   refine AW.sr envOk (fun N hN => ?_)
   simp -dsimp -implicitDefEqProofs (disch := omega) only [go_sem, undef, reduceAdd, reduceSub, reduceGT, reduceEqDiff, reduceMul, prsP, prs, w64]
   refine hN _ ?_
   try clear hN N
   refine AW.ret ?_
   simp -dsimp -implicitDefEqProofs (disch := omega) only [go_sem, undef, reduceAdd, reduceSub, reduceGT, reduceEqDiff, reduceMul]
   rw [cvC_5 os pw cj h1 h2]
  ·try simp only [cn] at h2
   refine AW.sr envOk (fun N hN => ?_)
   simp -dsimp -implicitDefEqProofs (disch := omega) only [go_sem, undef, reduceAdd, reduceSub, reduceGT, reduceEqDiff, reduceMul, prsP, prs, w64]
   refine AC.pure (.of (impl_orderOf_ok os pw cj h1.1 )) ?_
   try simp -dsimp -implicitDefEqProofs (disch := omega) only [go_sem, undef, reduceAdd, reduceSub, reduceGT, reduceEqDiff, reduceMul, prsP, prs, w64]
   refine hN _ ?_
   try clear hN N
   refine AW.cond rfl (fun h3 => ?_) (fun h3 => ?_)
   ·try simp only [cn] at h3
    refine AW.sr envOk (fun N hN => ?_)
    simp -dsimp -implicitDefEqProofs (disch := omega) only [go_sem, undef, reduceAdd, reduceSub, reduceGT, reduceEqDiff, reduceMul, prsP, prs, w64]
    refine hN _ ?_
    try clear hN N
    refine AW.ret ?_
    simp -dsimp -implicitDefEqProofs (disch := omega) only [go_sem, undef, reduceAdd, reduceSub, reduceGT, reduceEqDiff, reduceMul]
    rw [cvC_3 os pw cj h1 h2 (by omega)]
   ·try simp only [cn] at h3
    refine AW.skip ?_
    simp only [thn, blk]
    refine hN1 _ ?_
    try clear hN1 N1
    refine AW.sr envOk (fun N hN => ?_)
    simp -dsimp -implicitDefEqProofs (disch := omega) only [go_sem, undef, reduceAdd, reduceSub, reduceGT, reduceEqDiff, reduceMul, prsP, prs, w64]
    refine hN _ ?_
    try clear hN N
    refine AW.ret ?_
    simp -dsimp -implicitDefEqProofs (disch := omega) only [go_sem, undef, reduceAdd, reduceSub, reduceGT, reduceEqDiff, reduceMul]
    rw [cvC_0 os pw cj h1 h2 (by omega)]
theorem spec_l28Code_ok (hl : prlen os pw cj) : ACp Try.prog 36 [prs os pw cj] (.i .i64 (cvC os pw cj)) := by
 have hlo := hl.o
 refine ACp.intro' envOk Try.func36 rfl (by kernel_rfl) Try.ntmps36 Try.results36 (.i _ _) (fun nx => ?_)
 refine AW.sr envOk (fun N hN => ?_)
 simp -dsimp -implicitDefEqProofs (disch := omega) only [go_sem, undef, reduceAdd, reduceSub, reduceGT, reduceEqDiff, reduceMul, prsP, prs, w64]
 refine hN _ ?_
 try clear hN N
 refine AW.freezeQ 1 nx _ rfl (upd_same _ _ _) ?_
 simp -dsimp -implicitDefEqProofs (disch := omega) only [go_sem, undef, reduceAdd, reduceSub, reduceGT, reduceEqDiff, reduceMul]
 refine AW.seq (fun N1 hN1 => ?_)
 refine AW.sr envOk (fun N hN => ?_)
 simp -dsimp -implicitDefEqProofs (disch := omega) only [go_sem, undef, reduceAdd, reduceSub, reduceGT, reduceEqDiff, reduceMul, prsP, prs, w64]
 refine AC.pure (.of (spec_l08Group_ok os pw cj hl)) ?_
 try simp -dsimp -implicitDefEqProofs (disch := omega) only [go_sem, undef, reduceAdd, reduceSub, reduceGT, reduceEqDiff, reduceMul, prsP, prs, w64]
 refine hN _ ?_
 try clear hN N
 refine AW.cond rfl (fun h1 => ?_) (fun h1 => ?_)
 ·try simp only [cn] at h1
  refine AW.sr envOk (fun N hN => ?_)
  simp -dsimp -implicitDefEqProofs (disch := omega) only [go_sem, undef, reduceAdd, reduceSub, reduceGT, reduceEqDiff, reduceMul, prsP, prs, w64]
  refine hN _ ?_
  try clear hN N
  refine AW.ret ?_
  simp -dsimp -implicitDefEqProofs (disch := omega) only [go_sem, undef, reduceAdd, reduceSub, reduceGT, reduceEqDiff, reduceMul]
  rw [cvC_1 os pw cj h1]
 ·try simp only [cn] at h1
  refine AW.skip ?_
  simp only [thn, blk]
  refine hN1 _ ?_
  try clear hN1 N1
  refine AW.seq (fun N2 hN2 => ?_)
  refine AW.sr envOk (fun N hN => ?_)
  simp -dsimp -implicitDefEqProofs (disch := omega) only [go_sem, undef, reduceAdd, reduceSub, reduceGT, reduceEqDiff, reduceMul, prsP, prs, w64]
  refine AC.pure (.of (spec_IsPGroup_ok os pw cj hl)) ?_
  try simp -dsimp -implicitDefEqProofs (disch := omega) only [go_sem, undef, reduceAdd, reduceSub, reduceGT, reduceEqDiff, reduceMul, prsP, prs, w64]
  refine hN _ ?_
  try clear hN N
  refine AW.cond rfl (fun h2 => ?_) (fun h2 => ?_)
  ·try simp only [cn] at h2
   refine AW.sr envOk (fun N hN => ?_)
   simp -dsimp -implicitDefEqProofs (disch := omega) only [go_sem, undef, reduceAdd, reduceSub, reduceGT, reduceEqDiff, reduceMul, prsP, prs, w64]
   refine hN _ ?_
   try clear hN N
   refine AW.ret ?_
   simp -dsimp -implicitDefEqProofs (disch := omega) only [go_sem, undef, reduceAdd, reduceSub, reduceGT, reduceEqDiff, reduceMul]
   rw [cvC_5 os pw cj h1 h2]
  ·try simp only [cn] at h2
   refine AW.skip ?_
   simp only [thn, blk]
   refine hN2 _ ?_
   try clear hN2 N2
   refine AW.seq (fun N3 hN3 => ?_)
   refine AW.sr envOk (fun N hN => ?_)
   simp -dsimp -implicitDefEqProofs (disch := omega) only [go_sem, undef, reduceAdd, reduceSub, reduceGT, reduceEqDiff, reduceMul, prsP, prs, w64]
   refine AC.pure (.of (spec_l10Order_ok os pw cj h1.1 )) ?_
   try simp -dsimp -implicitDefEqProofs (disch := omega) only [go_sem, undef, reduceAdd, reduceSub, reduceGT, reduceEqDiff, reduceMul, prsP, prs, w64]
   refine hN _ ?_
   try clear hN N
   refine AW.cond rfl (fun h3 => ?_) (fun h3 => ?_)
   ·try simp only [cn] at h3
    refine AW.sr envOk (fun N hN => ?_)
    simp -dsimp -implicitDefEqProofs (disch := omega) only [go_sem, undef, reduceAdd, reduceSub, reduceGT, reduceEqDiff, reduceMul, prsP, prs, w64]
    refine hN _ ?_
    try clear hN N
    refine AW.ret ?_
    simp -dsimp -implicitDefEqProofs (disch := omega) only [go_sem, undef, reduceAdd, reduceSub, reduceGT, reduceEqDiff, reduceMul]
    rw [cvC_3 os pw cj h1 h2 (by omega)]
   ·try simp only [cn] at h3
    refine AW.skip ?_
    simp only [thn, blk]
    refine hN3 _ ?_
    try clear hN3 N3
    refine AW.sr envOk (fun N hN => ?_)
    simp -dsimp -implicitDefEqProofs (disch := omega) only [go_sem, undef, reduceAdd, reduceSub, reduceGT, reduceEqDiff, reduceMul, prsP, prs, w64]
    refine hN _ ?_
    try clear hN N
    refine AW.ret ?_
    simp -dsimp -implicitDefEqProofs (disch := omega) only [go_sem, undef, reduceAdd, reduceSub, reduceGT, reduceEqDiff, reduceMul]
    rw [cvC_0 os pw cj h1 h2 (by omega)]
noncomputable def exSr (os : List Int) (pw : List (List Int)) (cj : List (List (List Int))) : List (List V) := exK (pc os pw cj) (os.getD 0 0) os.length (unL os.length)
noncomputable def xcV (os : List Int) (pw : List (List Int)) (cj : List (List (List Int))) : Int := if cvC os pw cj = 0 then ((exSr os pw cj).length : Int) - 1 else 0
theorem impl_ExponentClass_ok (hl : prlen os pw cj) : ACp Try.prog 17 [prs os pw cj] (resN (xcV os pw cj) (cvC os pw cj)) := by
 have hlo := hl.o
 refine ACp.intro' envOk Try.func17 rfl (by kernel_rfl) Try.ntmps17 Try.results17 (resN_nr _ _) (fun nx => ?_)
 refine AW.sr envOk (fun N hN => ?_)
 simp -dsimp -implicitDefEqProofs (disch := omega) only [go_sem, undef, reduceAdd, reduceSub, reduceGT, reduceEqDiff, reduceMul, prsP, prs, w64, ints, gd_i]
 refine hN _ ?_
 try clear hN N
 refine AW.freezeQ 1 nx _ rfl (upd_same _ _ _) ?_
 simp -dsimp -implicitDefEqProofs (disch := omega) only [go_sem, undef, reduceAdd, reduceSub, reduceGT, reduceEqDiff, reduceMul]
 refine AW.seq (fun N1 hN1 => ?_)
 refine AW.sr envOk (fun N hN => ?_)
 simp -dsimp -implicitDefEqProofs (disch := omega) only [go_sem, undef, reduceAdd, reduceSub, reduceGT, reduceEqDiff, reduceMul, prsP, prs, w64, ints, gd_i]
 refine AC.pure (.of (impl_coverCode_ok os pw cj hl)) ?_
 try simp -dsimp -implicitDefEqProofs (disch := omega) only [go_sem, undef, reduceAdd, reduceSub, reduceGT, reduceEqDiff, reduceMul, prsP, prs, w64, ints, gd_i]
 refine hN _ ?_
 try clear hN N
 refine AW.sr envOk (fun N hN => ?_)
 simp -dsimp -implicitDefEqProofs (disch := omega) only [go_sem, undef, reduceAdd, reduceSub, reduceGT, reduceEqDiff, reduceMul, prsP, prs, w64, ints, gd_i]
 refine hN _ ?_
 try clear hN N
 refine AW.cond rfl (fun h1 => ?_) (fun h1 => ?_)
 ·try simp only [cn] at h1
  refine AW.sr envOk (fun N hN => ?_)
  simp -dsimp -implicitDefEqProofs (disch := omega) only [go_sem, undef, reduceAdd, reduceSub, reduceGT, reduceEqDiff, reduceMul, prsP, prs, w64, ints, gd_i]
  refine hN _ ?_
  try clear hN N
  refine AW.ret ?_
  simp -dsimp -implicitDefEqProofs (disch := omega) only [go_sem, undef, reduceAdd, reduceSub, reduceGT, reduceEqDiff, reduceMul]
  rw [show xcV os pw cj = 0 from by unfold xcV; rw [if_neg (by omega)]]
  rfl
 ·try simp only [cn] at h1
  have hz : cvC os pw cj = 0 := by omega
  obtain ⟨g1, g2, g3⟩ := cvC_z os pw cj hz
  have h0 := g2.2.1
  have hb := pr4_bd (g1.1.2.1 0 (by omega))
  have hle := exK_len (P := pc os pw cj) (q := os.getD 0 0) os.length (unL os.length)
  have hn6 := g1.1.1.1
  refine AW.skip ?_
  simp only [thn, blk]
  refine hN1 _ ?_
  try clear hN1 N1
  refine AW.sr envOk (fun N hN => ?_)
  simp -dsimp -implicitDefEqProofs (disch := omega) only [go_sem, undef, reduceAdd, reduceSub, reduceGT, reduceEqDiff, reduceMul, prsP, prs, w64, ints, gd_i]
  refine AC.pure (.of (impl_lowerExponent_ok os pw cj g1.1 g1.2 (os.getD 0 0) (by omega) )) ?_
  try simp -dsimp -implicitDefEqProofs (disch := omega) only [go_sem, undef, reduceAdd, reduceSub, reduceGT, reduceEqDiff, reduceMul, prsP, prs, w64, ints, gd_i]
  refine hN _ ?_
  try clear hN N
  refine AW.ret ?_
  simp -dsimp -implicitDefEqProofs (disch := omega) only [go_sem, undef, reduceAdd, reduceSub, reduceGT, reduceEqDiff, reduceMul]
  rw [show xcV os pw cj = ((exSr os pw cj).length : Int) - 1 from by unfold xcV; rw [if_pos hz], hz]
  simp (disch := omega) only [w64]
  rfl
theorem spec_ExponentClass_ok (hl : prlen os pw cj) : ACp Try.prog 16 [prs os pw cj] (resN (xcV os pw cj) (cvC os pw cj)) := by
 have hlo := hl.o
 refine ACp.intro' envOk Try.func16 rfl (by kernel_rfl) Try.ntmps16 Try.results16 (resN_nr _ _) (fun nx => ?_)
 refine AW.sr envOk (fun N hN => ?_)
 simp -dsimp -implicitDefEqProofs (disch := omega) only [go_sem, undef, reduceAdd, reduceSub, reduceGT, reduceEqDiff, reduceMul, prsP, prs, w64, ints, gd_i]
 refine hN _ ?_
 try clear hN N
 refine AW.freezeQ 1 nx _ rfl (upd_same _ _ _) ?_
 simp -dsimp -implicitDefEqProofs (disch := omega) only [go_sem, undef, reduceAdd, reduceSub, reduceGT, reduceEqDiff, reduceMul]
 refine AW.seq (fun N1 hN1 => ?_)
 refine AW.sr envOk (fun N hN => ?_)
 simp -dsimp -implicitDefEqProofs (disch := omega) only [go_sem, undef, reduceAdd, reduceSub, reduceGT, reduceEqDiff, reduceMul, prsP, prs, w64, ints, gd_i]
 refine AC.pure (.of (spec_l28Code_ok os pw cj hl)) ?_
 try simp -dsimp -implicitDefEqProofs (disch := omega) only [go_sem, undef, reduceAdd, reduceSub, reduceGT, reduceEqDiff, reduceMul, prsP, prs, w64, ints, gd_i]
 refine hN _ ?_
 try clear hN N
 refine AW.sr envOk (fun N hN => ?_)
 simp -dsimp -implicitDefEqProofs (disch := omega) only [go_sem, undef, reduceAdd, reduceSub, reduceGT, reduceEqDiff, reduceMul, prsP, prs, w64, ints, gd_i]
 refine hN _ ?_
 try clear hN N
 refine AW.cond rfl (fun h1 => ?_) (fun h1 => ?_)
 ·try simp only [cn] at h1
  refine AW.sr envOk (fun N hN => ?_)
  simp -dsimp -implicitDefEqProofs (disch := omega) only [go_sem, undef, reduceAdd, reduceSub, reduceGT, reduceEqDiff, reduceMul, prsP, prs, w64, ints, gd_i]
  refine hN _ ?_
  try clear hN N
  refine AW.ret ?_
  simp -dsimp -implicitDefEqProofs (disch := omega) only [go_sem, undef, reduceAdd, reduceSub, reduceGT, reduceEqDiff, reduceMul]
  rw [show xcV os pw cj = 0 from by unfold xcV; rw [if_neg (by omega)]]
  rfl
 ·try simp only [cn] at h1
  have hz : cvC os pw cj = 0 := by omega
  obtain ⟨g1, g2, g3⟩ := cvC_z os pw cj hz
  have h0 := g2.2.1
  have hb := pr4_bd (g1.1.2.1 0 (by omega))
  have hle := exK_len (P := pc os pw cj) (q := os.getD 0 0) os.length (unL os.length)
  have hn6 := g1.1.1.1
  refine AW.skip ?_
  simp only [thn, blk]
  refine hN1 _ ?_
  try clear hN1 N1
  refine AW.seq (fun N hN => ?_)
  refine AW.drawL envOk (by kernel_rfl) 10 (by kernel_rfl) ?_
  simp -dsimp -implicitDefEqProofs (disch := omega) only [hr_nil, hr_one, hr_if, List.take_succ_cons, List.take_zero, List.drop_succ_cons, List.drop_zero, List.take_nil, List.drop_nil, go_sem, undef, reduceAdd, reduceSub, reduceGT, reduceEqDiff, reduceMul, prsP, prs, w64, ints, gd_i]
  refine ⟨_, .of (spec_l17Exponent_ok os pw cj g1.1 g1.2 (os.getD 0 0) (by omega) ), ?_⟩
  try simp -dsimp -implicitDefEqProofs (disch := omega) only [go_sem, undef, reduceAdd, reduceSub, reduceGT, reduceEqDiff, reduceMul, prsP, prs, w64, ints, gd_i]
  refine hN _ ?_
  try clear hN N
  refine AW.ret ?_
  simp -dsimp -implicitDefEqProofs (disch := omega) only [go_sem, undef, reduceAdd, reduceSub, reduceGT, reduceEqDiff, reduceMul]
  rw [show xcV os pw cj = ((exSr os pw cj).length : Int) - 1 from by unfold xcV; rw [if_pos hz], hz]
  simp (disch := omega) only [w64]
  rfl
end
theorem law_ExponentClass (os : List Int) (pw : List (List Int)) (cj : List (List (List Int))) (h0 : intsok os) (hpw : rowsok pw) (hcj : cubesok cj) : ACp Try.prog 4 [prs os pw cj] (.b true) := by
 have ho := h0.1
 refine ACp.intro' envOk Try.func4 rfl (by kernel_rfl) Try.ntmps4 Try.results4 (.b _) (fun nx => ?_)
 refine AW.sr envOk (fun N hN => ?_)
 simp -dsimp -implicitDefEqProofs (disch := omega) only [go_sem, undef, reduceAdd, reduceSub, reduceGT, reduceEqDiff, reduceMul, prs, w64, resN]
 refine hN _ ?_
 try clear hN N
 refine AW.sr envOk (fun N hN => ?_)
 simp -dsimp -implicitDefEqProofs (disch := omega) only [go_sem, undef, reduceAdd, reduceSub, reduceGT, reduceEqDiff, reduceMul, prs, w64, resN]
 refine hN _ ?_
 try clear hN N
 refine AW.sr envOk (fun N hN => ?_)
 simp -dsimp -implicitDefEqProofs (disch := omega) only [go_sem, undef, reduceAdd, reduceSub, reduceGT, reduceEqDiff, reduceMul, prs, w64, resN]
 refine AC.pure (.of (laws_szPresentation_ok os pw cj 1048576 (by omega) (by omega) h0 hpw hcj )) ?_
 try simp -dsimp -implicitDefEqProofs (disch := omega) only [go_sem, undef, reduceAdd, reduceSub, reduceGT, reduceEqDiff, reduceMul, prs, w64, resN]
 refine hN _ ?_
 try clear hN N
 refine AW.seq (fun N1 hN1 => ?_)
 refine AW.sr envOk (fun N hN => ?_)
 simp -dsimp -implicitDefEqProofs (disch := omega) only [go_sem, undef, reduceAdd, reduceSub, reduceGT, reduceEqDiff, reduceMul, prs, w64, resN]
 refine hN _ ?_
 try clear hN N
 refine AW.cond rfl (fun h1 => ?_) (fun h1 => ?_)
 ·try simp only [cn] at h1
  refine AW.sr envOk (fun N hN => ?_)
  simp -dsimp -implicitDefEqProofs (disch := omega) only [go_sem, undef, reduceAdd, reduceSub, reduceGT, reduceEqDiff, reduceMul, prs, w64, resN]
  refine hN _ ?_
  try clear hN N
  refine AW.ret ?_
  simp -dsimp -implicitDefEqProofs (disch := omega) only [go_sem, undef, reduceAdd, reduceSub, reduceGT, reduceEqDiff, reduceMul]
  try (exfalso; first | omega | (simp_all; done))
 ·try simp only [cn] at h1
  obtain ⟨hl, g1, g2⟩ := szP_mem (by omega) (by omega) h1
  have hlo := hl.o
  have hto := (laws_toPresentation_ok os pw cj hlo g1 g2).pure
  refine AW.skip ?_
  simp only [thn, blk]
  refine hN1 _ ?_
  try clear hN1 N1
  refine AW.sr envOk (fun N hN => ?_)
  simp -dsimp -implicitDefEqProofs (disch := omega) only [go_sem, undef, reduceAdd, reduceSub, reduceGT, reduceEqDiff, reduceMul, prs, w64, resN]
  refine AC.pure (.of (hto )) ?_
  try simp -dsimp -implicitDefEqProofs (disch := omega) only [go_sem, undef, reduceAdd, reduceSub, reduceGT, reduceEqDiff, reduceMul, prs, w64, resN]
  refine AC.pure (.of (spec_ExponentClass_ok os pw cj hl )) ?_
  try simp -dsimp -implicitDefEqProofs (disch := omega) only [go_sem, undef, reduceAdd, reduceSub, reduceGT, reduceEqDiff, reduceMul, prs, w64, resN]
  refine hN _ ?_
  try clear hN N
  refine AW.sr envOk (fun N hN => ?_)
  simp -dsimp -implicitDefEqProofs (disch := omega) only [go_sem, undef, reduceAdd, reduceSub, reduceGT, reduceEqDiff, reduceMul, prs, w64, resN]
  refine AC.pure (.of (hto )) ?_
  try simp -dsimp -implicitDefEqProofs (disch := omega) only [go_sem, undef, reduceAdd, reduceSub, reduceGT, reduceEqDiff, reduceMul, prs, w64, resN]
  refine hN _ ?_
  try clear hN N
  refine AW.sr envOk (fun N hN => ?_)
  simp -dsimp -implicitDefEqProofs (disch := omega) only [go_sem, undef, reduceAdd, reduceSub, reduceGT, reduceEqDiff, reduceMul, prs, w64, resN]
  refine AC.pure (.of (impl_ExponentClass_ok os pw cj hl )) ?_
  try simp -dsimp -implicitDefEqProofs (disch := omega) only [go_sem, undef, reduceAdd, reduceSub, reduceGT, reduceEqDiff, reduceMul, prs, w64, resN]
  refine hN _ ?_
  try clear hN N
  refine AW.seq (fun N2 hN2 => ?_)
  refine AW.sr envOk (fun N hN => ?_)
  simp -dsimp -implicitDefEqProofs (disch := omega) only [go_sem, undef, reduceAdd, reduceSub, reduceGT, reduceEqDiff, reduceMul, prs, w64, resN]
  refine gopB.mk' (fun h2 => ?_) (fun h2 => ?_)
  ·try simp only [cn] at h2
   try simp -dsimp -implicitDefEqProofs (disch := omega) only [go_sem, undef, reduceAdd, reduceSub, reduceGT, reduceEqDiff, reduceMul, prs, w64, resN]
   refine hN _ ?_
   try clear hN N
   refine AW.cond rfl (fun h3 => ?_) (fun h3 => ?_)
   ·try simp only [cn] at h3
    refine AW.sr envOk (fun N hN => ?_)
    simp -dsimp -implicitDefEqProofs (disch := omega) only [go_sem, undef, reduceAdd, reduceSub, reduceGT, reduceEqDiff, reduceMul, prs, w64, resN]
    refine hN _ ?_
    try clear hN N
    refine AW.ret ?_
    simp -dsimp -implicitDefEqProofs (disch := omega) only [go_sem, undef, reduceAdd, reduceSub, reduceGT, reduceEqDiff, reduceMul]
    try (exfalso; first | omega | (simp_all; done))
   ·try simp only [cn] at h3
    refine AW.skip ?_
    simp only [thn, blk]
    refine hN2 _ ?_
    try clear hN2 N2
    refine AW.seq (fun N3 hN3 => ?_)
    refine AW.seq (fun N hN => ?_)
    refine AW.drawL envOk (by kernel_rfl) 5 (by kernel_rfl) ?_
    simp -dsimp -implicitDefEqProofs (disch := omega) only [hr_nil, hr_one, hr_if, List.take_succ_cons, List.take_zero, List.drop_succ_cons, List.drop_zero, List.take_nil, List.drop_nil, go_sem, undef, reduceAdd, reduceSub, reduceGT, reduceEqDiff, reduceMul, prs, w64, resN]
    refine ⟨_, .of (hto ), ?_⟩
    try simp -dsimp -implicitDefEqProofs (disch := omega) only [go_sem, undef, reduceAdd, reduceSub, reduceGT, reduceEqDiff, reduceMul, prs, w64, resN]
    refine ⟨_, .of (laws_eqPresentation_ok os os pw pw cj cj (by omega) (by omega) hpw hpw hcj hcj ), ?_⟩
    try simp -dsimp -implicitDefEqProofs (disch := omega) only [go_sem, undef, reduceAdd, reduceSub, reduceGT, reduceEqDiff, reduceMul, prs, w64, resN]
    refine hN _ ?_
    try clear hN N
    refine AW.cond rfl (fun h4 => ?_) (fun h4 => ?_)
    ·try simp only [cn] at h4
     refine AW.sr envOk (fun N hN => ?_)
     simp -dsimp -implicitDefEqProofs (disch := omega) only [go_sem, undef, reduceAdd, reduceSub, reduceGT, reduceEqDiff, reduceMul, prs, w64, resN]
     refine hN _ ?_
     try clear hN N
     refine AW.ret ?_
     simp -dsimp -implicitDefEqProofs (disch := omega) only [go_sem, undef, reduceAdd, reduceSub, reduceGT, reduceEqDiff, reduceMul]
     try (exfalso; first | omega | (simp_all; done))
    ·try simp only [cn] at h4
     refine AW.skip ?_
     simp only [thn, blk]
     refine hN3 _ ?_
     try clear hN3 N3
     refine AW.sr envOk (fun N hN => ?_)
     simp -dsimp -implicitDefEqProofs (disch := omega) only [go_sem, undef, reduceAdd, reduceSub, reduceGT, reduceEqDiff, reduceMul, prs, w64, resN]
     refine hN _ ?_
     try clear hN N
     refine AW.ret ?_
     simp -dsimp -implicitDefEqProofs (disch := omega) only [go_sem, undef, reduceAdd, reduceSub, reduceGT, reduceEqDiff, reduceMul]
     try (exfalso; first | omega | (simp_all; done))
  ·try simp only [cn] at h2
   try simp -dsimp -implicitDefEqProofs (disch := omega) only [go_sem, undef, reduceAdd, reduceSub, reduceGT, reduceEqDiff, reduceMul, prs, w64, resN]
   refine hN _ ?_
   try clear hN N
   refine AW.condT rfl ?_
   refine AW.sr envOk (fun N hN => ?_)
   simp -dsimp -implicitDefEqProofs (disch := omega) only [go_sem, undef, reduceAdd, reduceSub, reduceGT, reduceEqDiff, reduceMul, prs, w64, resN]
   refine hN _ ?_
   try clear hN N
   refine AW.ret ?_
   simp -dsimp -implicitDefEqProofs (disch := omega) only [go_sem, undef, reduceAdd, reduceSub, reduceGT, reduceEqDiff, reduceMul]
   try (exfalso; first | omega | (simp_all; done))
end Go.Proofs.Ytnlfbimjcabgiaa
