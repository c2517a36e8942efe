import Derived.Test.YtnlfbimjcabgiaaGreatZ51
set_option linter.unusedVariables false
set_option linter.unusedSimpArgs false
namespace Go.Proofs.YtnlfbimjcabgiaaGreat
open Nat (reduceAdd reduceSub reduceGT reduceEqDiff reduceMul)
theorem cloU_len {P : Pc} {us : List V} : (cloU P us).length ≤ P.n := outS_len
theorem impl_CountEpimorphisms_1_ok (g : Int) (rs : List (List Int)) (os : List Int) (pw : List (List Int)) (cj : List (List (List Int))) (h : presOk os pw cj) (hc : Con (pc os pw cj) 0) (xs : List (List Int)) (hx : exsP os xs) (hxl : xs.length ≤ 1000) (hr : rowslen rs) (hw : ∀ k, k < rs.length → wordP xs.length (rs.getD k [])) : ACp Tryz.prog 31 [rows xs, .p 0 [.i .i64 g, rows rs], prsP os pw cj] (.b (tf (hldP (pc os pw cj) xs rs ∧ ontP os (pc os pw cj) xs))) := by
 have hn6 := h.1.1
 have hT := exs_T os pw cj hx
 have hge := impl_generated_ok os pw cj h hc (xs.map fl) (by rw [List.length_map]; omega) hT
 rw [← rows_vls os hx] at hge
 have hon := onto_iff os pw cj h hc hT
 have hcl := cloU_len (P := pc os pw cj) (us := xs.map fl)
 have hn0 : (pc os pw cj).n = os.length := rfl
 rw [hn0] at hcl
 refine ACp.intro' envOk Tryz.func31 rfl (by kernel_rfl) Tryz.ntmps31 Tryz.results31 (.b _) (fun nx => ?_)
 refine AW.sr envOk (fun N hN => ?_)
 simp -dsimp -implicitDefEqProofs (disch := omega) only [go_sem, undef, reduceAdd, reduceSub, reduceGT, reduceEqDiff, reduceMul, w64, prsP, ints, vls]
 refine hN _ ?_
 try clear hN N
 refine AW.seq (fun N hN => ?_)
 refine AW.drawL envOk (by kernel_rfl) 14 (by kernel_rfl) ?_
 simp -dsimp -implicitDefEqProofs (disch := omega) only [hr_nil, hr_one, hr_if, List.take_succ_cons, List.take_zero, List.drop_succ_cons, List.drop_zero, List.take_nil, List.drop_nil, go_sem, undef, reduceAdd, reduceSub, reduceGT, reduceEqDiff, reduceMul, w64, prsP, ints, vls]
 refine ⟨_, .of (impl_respects_ok rs os pw cj h hc xs hx hxl hr hw ), ?_⟩
 try simp -dsimp -implicitDefEqProofs (disch := omega) only [go_sem, undef, reduceAdd, reduceSub, reduceGT, reduceEqDiff, reduceMul, w64, prsP, ints, vls]
 refine gopB.mk' (fun h1 => ?_) (fun h1 => ?_)
 ·try simp only [cn] at h1
  try simp -dsimp -implicitDefEqProofs (disch := omega) only [go_sem, undef, reduceAdd, reduceSub, reduceGT, reduceEqDiff, reduceMul, w64, prsP, ints, vls]
  refine ⟨_, .of (hge ), ?_⟩
  try simp -dsimp -implicitDefEqProofs (disch := omega) only [go_sem, undef, reduceAdd, reduceSub, reduceGT, reduceEqDiff, reduceMul, w64, prsP, ints, vls]
  refine hN _ ?_
  try clear hN N
  refine AW.ret ?_
  simp -dsimp -implicitDefEqProofs (disch := omega) only [go_sem, undef, reduceAdd, reduceSub, reduceGT, reduceEqDiff, reduceMul]
  by_cases q : (cloU (pc os pw cj) (List.map fl xs)).length = os.length
  ·rw [tf_t (show ontP os (pc os pw cj) xs from hon.2 q), q]; simp
  ·rw [tf_f (show ¬ontP os (pc os pw cj) xs from fun z => q (hon.1 z))]
   congr 1
   rw [beq_eq_false_iff_ne]
   omega
 ·try simp only [cn] at h1
  try simp -dsimp -implicitDefEqProofs (disch := omega) only [go_sem, undef, reduceAdd, reduceSub, reduceGT, reduceEqDiff, reduceMul, w64, prsP, ints, vls]
  refine hN _ ?_
  try clear hN N
  refine AW.ret ?_
  simp -dsimp -implicitDefEqProofs (disch := omega) only [go_sem, undef, reduceAdd, reduceSub, reduceGT, reduceEqDiff, reduceMul]
  rw [tf_f (fun z => h1 z.1)]
theorem impl_CountEpimorphisms_ok (g : Int) (rs : List (List Int)) (hr : rowslen rs) (os : List Int) (pw : List (List Int)) (cj : List (List (List Int))) (hl : prlen os pw cj) : ACp Tryz.prog 11 [fp g rs, prs os pw cj] (resN (ccvP (fpP g rs ∧ grpP os pw cj) (stq (prd os os.length) g.toNat) (cntF (fun k => hldP (pc os pw cj) (tupI os (prd os os.length) g.toNat k) rs ∧ ontP os (pc os pw cj) (tupI os (prd os os.length) g.toNat k)) (stq (prd os os.length) g.toNat).toNat)) (cceP (fpP g rs ∧ grpP os pw cj) (stq (prd os os.length) g.toNat))) := by
 have hrn := hr.n
 have hlo := hl.o
 obtain ⟨OK, hOK⟩ : ∃ OK : Prop, (fpP g rs ∧ grpP os pw cj) = OK := ⟨_, rfl⟩
 rw [hOK]
 refine ACp.intro' envOk Tryz.func11 rfl (by kernel_rfl) Tryz.ntmps11 Tryz.results11 (resN_nr _ _) (fun nx => ?_)
 refine AW.sr envOk (fun N hN => ?_)
 simp -dsimp -implicitDefEqProofs (disch := omega) only [go_sem, undef, reduceAdd, reduceSub, reduceGT, reduceEqDiff, reduceMul, prs, fp, rows, w64, resN]
 refine hN _ ?_
 try clear hN N
 refine AW.seq (fun N1 hN1 => ?_)
 refine AW.freezeQ 2 nx _ rfl ((upd_ne _ _ (by omega)).trans (upd_same _ _ _)) ?_
 simp -dsimp -implicitDefEqProofs (disch := omega) only [go_sem, undef, reduceAdd, reduceSub, reduceGT, reduceEqDiff, reduceMul]
 refine AW.freezeQ 3 (nx + 1) _ rfl ((upd_ne _ _ (by omega)).trans (upd_same _ _ _)) ?_
 simp -dsimp -implicitDefEqProofs (disch := omega) only [go_sem, undef, reduceAdd, reduceSub, reduceGT, reduceEqDiff, reduceMul]
 refine AW.sr envOk (fun N hN => ?_)
 simp -dsimp -implicitDefEqProofs (disch := omega) only [go_sem, undef, reduceAdd, reduceSub, reduceGT, reduceEqDiff, reduceMul, prs, fp, rows, w64, resN]
 refine AC.pure (.of (impl_IsFpGroup_ok g rs hr)) ?_
 try simp -dsimp -implicitDefEqProofs (disch := omega) only [go_sem, undef, reduceAdd, reduceSub, reduceGT, reduceEqDiff, reduceMul, prs, fp, rows, w64, resN]
 refine gopB.mk' (fun h1 => ?_) (fun h1 => ?_)
 ·try simp only [cn] at h1
  try simp -dsimp -implicitDefEqProofs (disch := omega) only [go_sem, undef, reduceAdd, reduceSub, reduceGT, reduceEqDiff, reduceMul, prs, fp, rows, w64, resN]
  refine AC.pure (.of (impl_IsConsistent_ok os pw cj hl)) ?_
  try simp -dsimp -implicitDefEqProofs (disch := omega) only [go_sem, undef, reduceAdd, reduceSub, reduceGT, reduceEqDiff, reduceMul, prs, fp, rows, w64, resN]
  refine hN _ ?_
  try clear hN N
  refine AW.cond rfl (fun h2 => ?_) (fun h2 => ?_)
  ·try simp only [cn] at h2
   refine AW.sr envOk (fun N hN => ?_)
   simp -dsimp -implicitDefEqProofs (disch := omega) only [go_sem, undef, reduceAdd, reduceSub, reduceGT, reduceEqDiff, reduceMul, prs, fp, rows, w64, resN]
   refine hN _ ?_
   try clear hN N
   refine AW.ret ?_
   simp -dsimp -implicitDefEqProofs (disch := omega) only [go_sem, undef, reduceAdd, reduceSub, reduceGT, reduceEqDiff, reduceMul]
   exact (res_no (by rw [← hOK]; exact fun q => h2 q.2)).symm
  ·try simp only [cn] at h2
   refine AW.skip ?_
   simp only [thn, blk]
   refine hN1 _ ?_
   try clear hN1 N1
   have hpr := h2.1.2.1
   have hq1 := prd_pos hpr os.length (Nat.le_refl _)
   have hg4 := h1.1
   have hgc : ((g.toNat : Nat) : Int) = g := by omega
   have hct := impl_countTuples_ok os pw cj h2.1 g.toNat (by omega) 31 [.p 0 [.i .i64 g, rows rs], prsP os pw cj] (fun k => hldP (pc os pw cj) (tupI os (prd os os.length) g.toNat k) rs ∧ ontP os (pc os pw cj) (tupI os (prd os os.length) g.toNat k)) (fun k _ => impl_CountEpimorphisms_1_ok g rs os pw cj h2.1 h2.2 _ (tupI_ex hpr (by omega) hq1) (by rw [tupI_len]; omega) hr (fun j hj => by rw [tupI_len, hgc]; exact h1.2.2 j hj))
   rw [hgc] at hct
   refine AW.sr envOk (fun N hN => ?_)
   simp -dsimp -implicitDefEqProofs (disch := omega) only [go_sem, undef, reduceAdd, reduceSub, reduceGT, reduceEqDiff, reduceMul, prs, fp, rows, w64, resN]
   refine AC.pure (.of (hct )) ?_
   try simp -dsimp -implicitDefEqProofs (disch := omega) only [go_sem, undef, reduceAdd, reduceSub, reduceGT, reduceEqDiff, reduceMul, prs, fp, rows, w64, resN]
   refine hN _ ?_
   try clear hN N
   refine AW.ret ?_
   simp -dsimp -implicitDefEqProofs (disch := omega) only [go_sem, undef, reduceAdd, reduceSub, reduceGT, reduceEqDiff, reduceMul]
   simp only [resN, ccvP, cceP, tf_t trivial, tf_t (show OK by rw [← hOK]; exact ⟨h1, h2⟩)]
 ·try simp only [cn] at h1
  try simp -dsimp -implicitDefEqProofs (disch := omega) only [go_sem, undef, reduceAdd, reduceSub, reduceGT, reduceEqDiff, reduceMul, prs, fp, rows, w64, resN]
  refine hN _ ?_
  try clear hN N
  refine AW.condT rfl ?_
  refine AW.sr envOk (fun N hN => ?_)
  simp -dsimp -implicitDefEqProofs (disch := omega) only [go_sem, undef, reduceAdd, reduceSub, reduceGT, reduceEqDiff, reduceMul, prs, fp, rows, w64, resN]
  refine hN _ ?_
  try clear hN N
  refine AW.ret ?_
  simp -dsimp -implicitDefEqProofs (disch := omega) only [go_sem, undef, reduceAdd, reduceSub, reduceGT, reduceEqDiff, reduceMul]
  exact (res_no (by rw [← hOK]; exact fun q => h1 q.1)).symm
theorem spec_CountEpimorphisms_ok (g : Int) (rs : List (List Int)) (hr : rowslen rs) (os : List Int) (pw : List (List Int)) (cj : List (List (List Int))) (hl : prlen os pw cj) : ACp Tryz.prog 8 [fp g rs, prs os pw cj] (resN (ccvP (fpP g rs ∧ grpP os pw cj) (stq (prd os os.length) g.toNat) (cntF (fun k => hldP (pc os pw cj) (tupS os (prd os os.length) g.toNat k) rs ∧ ontP os (pc os pw cj) (tupS os (prd os os.length) g.toNat k)) (stq (prd os os.length) g.toNat).toNat)) (cceP (fpP g rs ∧ grpP os pw cj) (stq (prd os os.length) g.toNat))) := by
 have hrn := hr.n
 have hlo := hl.o
 obtain ⟨OK, hOK⟩ : ∃ OK : Prop, (fpP g rs ∧ grpP os pw cj) = OK := ⟨_, rfl⟩
 have hco := spec_l27Code_ok g rs hr os pw cj hl
 rw [hOK] at hco ⊢
 obtain ⟨ee, hee⟩ : ∃ ee, cceP OK (stq (prd os os.length) g.toNat) = ee := ⟨_, rfl⟩
 rw [hee] at hco ⊢
 refine ACp.intro' envOk Tryz.func8 rfl (by kernel_rfl) Tryz.ntmps8 Tryz.results8 (resN_nr _ _) (fun nx => ?_)
 refine AW.sr envOk (fun N hN => ?_)
 simp -dsimp -implicitDefEqProofs (disch := omega) only [go_sem, undef, reduceAdd, reduceSub, reduceGT, reduceEqDiff, reduceMul, prs, prsP, fp, rows, w64, resN]
 refine hN _ ?_
 try clear hN N
 refine AW.freezeQ 2 nx _ rfl ((upd_ne _ _ (by omega)).trans (upd_same _ _ _)) ?_
 simp -dsimp -implicitDefEqProofs (disch := omega) only [go_sem, undef, reduceAdd, reduceSub, reduceGT, reduceEqDiff, reduceMul]
 refine AW.freezeQ 3 (nx + 1) _ rfl ((upd_ne _ _ (by omega)).trans (upd_same _ _ _)) ?_
 simp -dsimp -implicitDefEqProofs (disch := omega) only [go_sem, undef, reduceAdd, reduceSub, reduceGT, reduceEqDiff, reduceMul]
 refine AW.sr envOk (fun N hN => ?_)
 simp -dsimp -implicitDefEqProofs (disch := omega) only [go_sem, undef, reduceAdd, reduceSub, reduceGT, reduceEqDiff, reduceMul, prs, prsP, fp, rows, w64, resN]
 refine AC.pure (.of (hco )) ?_
 try simp -dsimp -implicitDefEqProofs (disch := omega) only [go_sem, undef, reduceAdd, reduceSub, reduceGT, reduceEqDiff, reduceMul, prs, prsP, fp, rows, w64, resN]
 refine hN _ ?_
 try clear hN N
 refine AW.seq (fun N1 hN1 => ?_)
 refine AW.sr envOk (fun N hN => ?_)
 simp -dsimp -implicitDefEqProofs (disch := omega) only [go_sem, undef, reduceAdd, reduceSub, reduceGT, reduceEqDiff, reduceMul, prs, prsP, fp, rows, w64, resN]
 refine hN _ ?_
 try clear hN N
 refine AW.cond rfl (fun h1 => ?_) (fun h1 => ?_)
 ·try simp only [cn] at h1
  refine AW.sr envOk (fun N hN => ?_)
  simp -dsimp -implicitDefEqProofs (disch := omega) only [go_sem, undef, reduceAdd, reduceSub, reduceGT, reduceEqDiff, reduceMul, prs, prsP, fp, rows, w64, resN]
  refine hN _ ?_
  try clear hN N
  refine AW.ret ?_
  simp -dsimp -implicitDefEqProofs (disch := omega) only [go_sem, undef, reduceAdd, reduceSub, reduceGT, reduceEqDiff, reduceMul]
  have hz : ccvP OK (stq (prd os os.length) g.toNat) (cntF (fun k => hldP (pc os pw cj) (tupS os (prd os os.length) g.toNat k) rs ∧ ontP os (pc os pw cj) (tupS os (prd os os.length) g.toNat k)) (stq (prd os os.length) g.toNat).toNat) = 0 := by
   rw [ccvP]
   split
   ·rename_i q
    rw [if_neg (fun q2 => h1 (by rw [← hee, cceP, if_pos q, if_pos q2]))]
   ·rfl
  rw [hz]; rfl
 ·try simp only [cn] at h1
  have hee0 : ee = 0 := by omega
  have hok : OK ∧ stq (prd os os.length) g.toNat ≤ 4096 := by
   rw [cceP] at hee
   by_cases q : OK
   ·rw [tf_t q, if_pos rfl] at hee
    refine ⟨q, ?_⟩
    apply Classical.byContradiction
    intro hn
    rw [if_neg hn] at hee; omega
   ·rw [tf_f q] at hee
    simp at hee; omega
  have hok1 := hok.1
  rw [← hOK] at hok1
  refine AW.skip ?_
  simp only [thn, blk]
  refine hN1 _ ?_
  try clear hN1 N1
  refine AW.sr envOk (fun N hN => ?_)
  simp -dsimp -implicitDefEqProofs (disch := omega) only [go_sem, undef, reduceAdd, reduceSub, reduceGT, reduceEqDiff, reduceMul, prs, prsP, fp, rows, w64, resN]
  refine AC.pure (.of (spec_l27Count_ok g rs hr hok1.1 os pw cj hok1.2.1 hok1.2.2 hok.2 )) ?_
  try simp -dsimp -implicitDefEqProofs (disch := omega) only [go_sem, undef, reduceAdd, reduceSub, reduceGT, reduceEqDiff, reduceMul, prs, prsP, fp, rows, w64, resN]
  refine hN _ ?_
  try clear hN N
  refine AW.sr envOk (fun N hN => ?_)
  simp -dsimp -implicitDefEqProofs (disch := omega) only [go_sem, undef, reduceAdd, reduceSub, reduceGT, reduceEqDiff, reduceMul, prs, prsP, fp, rows, w64, resN]
  refine hN _ ?_
  try clear hN N
  refine AW.ret ?_
  simp -dsimp -implicitDefEqProofs (disch := omega) only [go_sem, undef, reduceAdd, reduceSub, reduceGT, reduceEqDiff, reduceMul]
  rw [ccvP, if_pos (tf_t hok.1), if_pos hok.2, hee0]; rfl
theorem law_CountEpimorphisms (g : Int) (rs : List (List Int)) (os : List Int) (pw : List (List Int)) (cj : List (List (List Int))) (hg : i64ok g) (hrs : rowsok rs) (h0 : intsok os) (hpw : rowsok pw) (hcj : cubesok cj) : ACp Tryz.prog 3 [fp g rs, prs os pw cj] (.b true) := by
 have ho := h0.1
 refine ACp.intro' envOk Tryz.func3 rfl (by kernel_rfl) Tryz.ntmps3 Tryz.results3 (.b _) (fun nx => ?_)
 refine AW.sr envOk (fun N hN => ?_)
 simp -dsimp -implicitDefEqProofs (disch := omega) only [go_sem, undef, reduceAdd, reduceSub, reduceGT, reduceEqDiff, reduceMul, prs, fp, w64, resN]
 refine hN _ ?_
 try clear hN N
 refine AW.sr envOk (fun N hN => ?_)
 simp -dsimp -implicitDefEqProofs (disch := omega) only [go_sem, undef, reduceAdd, reduceSub, reduceGT, reduceEqDiff, reduceMul, prs, fp, w64, resN]
 refine hN _ ?_
 try clear hN N
 refine AW.sr envOk (fun N hN => ?_)
 simp -dsimp -implicitDefEqProofs (disch := omega) only [go_sem, undef, reduceAdd, reduceSub, reduceGT, reduceEqDiff, reduceMul, prs, fp, w64, resN]
 have hs1 := szSS_le rs 1048576 (by omega)
 refine AC.pure (.of (laws_szFpGroup_ok g rs 1048576 (by omega) (by omega) hrs)) ?_
 try simp -dsimp -implicitDefEqProofs (disch := omega) only [go_sem, undef, reduceAdd, reduceSub, reduceGT, reduceEqDiff, reduceMul, prs, fp, w64, resN]
 refine hN _ ?_
 try clear hN N
 refine AW.seq (fun N1 hN1 => ?_)
 refine AW.sr envOk (fun N hN => ?_)
 simp -dsimp -implicitDefEqProofs (disch := omega) only [go_sem, undef, reduceAdd, reduceSub, reduceGT, reduceEqDiff, reduceMul, prs, fp, w64, resN]
 refine hN _ ?_
 try clear hN N
 refine AW.cond rfl (fun h1 => ?_) (fun h1 => ?_)
 ·try simp only [cn] at h1
  refine AW.sr envOk (fun N hN => ?_)
  simp -dsimp -implicitDefEqProofs (disch := omega) only [go_sem, undef, reduceAdd, reduceSub, reduceGT, reduceEqDiff, reduceMul, prs, fp, w64, resN]
  refine hN _ ?_
  try clear hN N
  refine AW.ret ?_
  simp -dsimp -implicitDefEqProofs (disch := omega) only [go_sem, undef, reduceAdd, reduceSub, reduceGT, reduceEqDiff, reduceMul]
  try (exfalso; first | omega | (simp_all; done))
 ·try simp only [cn] at h1
  have hr := szSS_mem (by omega) (by omega) h1
  refine AW.skip ?_
  simp only [thn, blk]
  refine hN1 _ ?_
  try clear hN1 N1
  refine AW.sr envOk (fun N hN => ?_)
  simp -dsimp -implicitDefEqProofs (disch := omega) only [go_sem, undef, reduceAdd, reduceSub, reduceGT, reduceEqDiff, reduceMul, prs, fp, w64, resN]
  refine AC.pure (.of (laws_szPresentation_ok os pw cj (szSS rs 1048576) (by omega) (by omega) h0 hpw hcj )) ?_
  try simp -dsimp -implicitDefEqProofs (disch := omega) only [go_sem, undef, reduceAdd, reduceSub, reduceGT, reduceEqDiff, reduceMul, prs, fp, w64, resN]
  refine hN _ ?_
  try clear hN N
  refine AW.seq (fun N2 hN2 => ?_)
  refine AW.sr envOk (fun N hN => ?_)
  simp -dsimp -implicitDefEqProofs (disch := omega) only [go_sem, undef, reduceAdd, reduceSub, reduceGT, reduceEqDiff, reduceMul, prs, fp, w64, resN]
  refine hN _ ?_
  try clear hN N
  refine AW.cond rfl (fun h2 => ?_) (fun h2 => ?_)
  ·try simp only [cn] at h2
   refine AW.sr envOk (fun N hN => ?_)
   simp -dsimp -implicitDefEqProofs (disch := omega) only [go_sem, undef, reduceAdd, reduceSub, reduceGT, reduceEqDiff, reduceMul, prs, fp, w64, resN]
   refine hN _ ?_
   try clear hN N
   refine AW.ret ?_
   simp -dsimp -implicitDefEqProofs (disch := omega) only [go_sem, undef, reduceAdd, reduceSub, reduceGT, reduceEqDiff, reduceMul]
   try (exfalso; first | omega | (simp_all; done))
  ·try simp only [cn] at h2
   obtain ⟨hl, g1, g2⟩ := szP_mem (by omega) (by omega) h2
   have hlo := hl.o
   have hto := (laws_toPresentation_ok os pw cj hlo g1 g2).pure
   have htf := (laws_toFpGroup_ok g rs hr).pure
   have hsp := spec_CountEpimorphisms_ok g rs hr os pw cj hl
   have him := impl_CountEpimorphisms_ok g rs hr os pw cj hl
   rw [res_eq (fun hok ht => count_eq (prd_pos hok.2.1.2.1 os.length (Nat.le_refl _)) ht (fun X => hldP (pc os pw cj) X rs ∧ ontP os (pc os pw cj) X))] at hsp
   obtain ⟨vv, hvv⟩ : ∃ vv, ccvP (fpP g rs ∧ grpP os pw cj) (stq (prd os os.length) g.toNat) (cntF (fun k => hldP (pc os pw cj) (tupI os (prd os os.length) g.toNat k) rs ∧ ontP os (pc os pw cj) (tupI os (prd os os.length) g.toNat k)) (stq (prd os os.length) g.toNat).toNat) = vv := ⟨_, rfl⟩
   obtain ⟨ee, hee⟩ : ∃ ee, cceP (fpP g rs ∧ grpP os pw cj) (stq (prd os os.length) g.toNat) = ee := ⟨_, rfl⟩
   rw [hvv, hee] at hsp him
   refine AW.skip ?_
   simp only [thn, blk]
   refine hN2 _ ?_
   try clear hN2 N2
   refine AW.seq (fun N hN => ?_)
   refine AW.drawL envOk (by kernel_rfl) 10 (by kernel_rfl) ?_
   simp -dsimp -implicitDefEqProofs (disch := omega) only [hr_nil, hr_one, hr_if, List.take_succ_cons, List.take_zero, List.drop_succ_cons, List.drop_zero, List.take_nil, List.drop_nil, go_sem, undef, reduceAdd, reduceSub, reduceGT, reduceEqDiff, reduceMul, prs, fp, w64, resN]
   refine ⟨_, .of (htf ), ?_⟩
   try simp -dsimp -implicitDefEqProofs (disch := omega) only [go_sem, undef, reduceAdd, reduceSub, reduceGT, reduceEqDiff, reduceMul, prs, fp, w64, resN]
   refine ⟨_, .of (hto ), ?_⟩
   try simp -dsimp -implicitDefEqProofs (disch := omega) only [go_sem, undef, reduceAdd, reduceSub, reduceGT, reduceEqDiff, reduceMul, prs, fp, w64, resN]
   refine ⟨_, .of (hsp ), ?_⟩
   try simp -dsimp -implicitDefEqProofs (disch := omega) only [go_sem, undef, reduceAdd, reduceSub, reduceGT, reduceEqDiff, reduceMul, prs, fp, w64, resN]
   refine hN _ ?_
   try clear hN N
   refine AW.sr envOk (fun N hN => ?_)
   simp -dsimp -implicitDefEqProofs (disch := omega) only [go_sem, undef, reduceAdd, reduceSub, reduceGT, reduceEqDiff, reduceMul, prs, fp, w64, resN]
   refine AC.pure (.of (htf )) ?_
   try simp -dsimp -implicitDefEqProofs (disch := omega) only [go_sem, undef, reduceAdd, reduceSub, reduceGT, reduceEqDiff, reduceMul, prs, fp, w64, resN]
   refine hN _ ?_
   try clear hN N
   refine AW.sr envOk (fun N hN => ?_)
   simp -dsimp -implicitDefEqProofs (disch := omega) only [go_sem, undef, reduceAdd, reduceSub, reduceGT, reduceEqDiff, reduceMul, prs, fp, w64, resN]
   refine AC.pure (.of (hto )) ?_
   try simp -dsimp -implicitDefEqProofs (disch := omega) only [go_sem, undef, reduceAdd, reduceSub, reduceGT, reduceEqDiff, reduceMul, prs, fp, w64, resN]
   refine hN _ ?_
   try clear hN N
   refine AW.sr envOk (fun N hN => ?_)
   simp -dsimp -implicitDefEqProofs (disch := omega) only [go_sem, undef, reduceAdd, reduceSub, reduceGT, reduceEqDiff, reduceMul, prs, fp, w64, resN]
   refine AC.pure (.of (him )) ?_
   try simp -dsimp -implicitDefEqProofs (disch := omega) only [go_sem, undef, reduceAdd, reduceSub, reduceGT, reduceEqDiff, reduceMul, prs, fp, w64, resN]
   refine hN _ ?_
   try clear hN N
   refine AW.seq (fun N3 hN3 => ?_)
   refine AW.sr envOk (fun N hN => ?_)
   simp -dsimp -implicitDefEqProofs (disch := omega) only [go_sem, undef, reduceAdd, reduceSub, reduceGT, reduceEqDiff, reduceMul, prs, fp, w64, resN]
   refine gopB.mk' (fun h3 => ?_) (fun h3 => ?_)
   ·try simp only [cn] at h3
    try simp -dsimp -implicitDefEqProofs (disch := omega) only [go_sem, undef, reduceAdd, reduceSub, reduceGT, reduceEqDiff, reduceMul, prs, fp, w64, resN]
    refine hN _ ?_
    try clear hN N
    refine AW.cond rfl (fun h4 => ?_) (fun h4 => ?_)
    ·try simp only [cn] at h4
     refine AW.sr envOk (fun N hN => ?_)
     simp -dsimp -implicitDefEqProofs (disch := omega) only [go_sem, undef, reduceAdd, reduceSub, reduceGT, reduceEqDiff, reduceMul, prs, fp, w64, resN]
     refine hN _ ?_
     try clear hN N
     refine AW.ret ?_
     simp -dsimp -implicitDefEqProofs (disch := omega) only [go_sem, undef, reduceAdd, reduceSub, reduceGT, reduceEqDiff, reduceMul]
     try (exfalso; first | omega | (simp_all; done))
    ·try simp only [cn] at h4
     refine AW.skip ?_
     simp only [thn, blk]
     refine hN3 _ ?_
     try clear hN3 N3
     refine AW.seq (fun N4 hN4 => ?_)
     refine AW.seq (fun N hN => ?_)
     refine AW.drawL envOk (by kernel_rfl) 5 (by kernel_rfl) ?_
     simp -dsimp -implicitDefEqProofs (disch := omega) only [hr_nil, hr_one, hr_if, List.take_succ_cons, List.take_zero, List.drop_succ_cons, List.drop_zero, List.take_nil, List.drop_nil, go_sem, undef, reduceAdd, reduceSub, reduceGT, reduceEqDiff, reduceMul, prs, fp, w64, resN]
     refine ⟨_, .of (htf ), ?_⟩
     try simp -dsimp -implicitDefEqProofs (disch := omega) only [go_sem, undef, reduceAdd, reduceSub, reduceGT, reduceEqDiff, reduceMul, prs, fp, w64, resN]
     refine ⟨_, .of (laws_eqFpGroup_ok g g rs rs hrs hrs ), ?_⟩
     try simp -dsimp -implicitDefEqProofs (disch := omega) only [go_sem, undef, reduceAdd, reduceSub, reduceGT, reduceEqDiff, reduceMul, prs, fp, w64, resN]
     refine hN _ ?_
     try clear hN N
     refine AW.cond rfl (fun h5 => ?_) (fun h5 => ?_)
     ·try simp only [cn] at h5
      refine AW.sr envOk (fun N hN => ?_)
      simp -dsimp -implicitDefEqProofs (disch := omega) only [go_sem, undef, reduceAdd, reduceSub, reduceGT, reduceEqDiff, reduceMul, prs, fp, w64, resN]
      refine hN _ ?_
      try clear hN N
      refine AW.ret ?_
      simp -dsimp -implicitDefEqProofs (disch := omega) only [go_sem, undef, reduceAdd, reduceSub, reduceGT, reduceEqDiff, reduceMul]
      try (exfalso; first | omega | (simp_all; done))
     ·try simp only [cn] at h5
      refine AW.skip ?_
      simp only [thn, blk]
      refine hN4 _ ?_
      try clear hN4 N4
      refine AW.seq (fun N5 hN5 => ?_)
      refine AW.seq (fun N hN => ?_)
      refine AW.drawL envOk (by kernel_rfl) 5 (by kernel_rfl) ?_
      simp -dsimp -implicitDefEqProofs (disch := omega) only [hr_nil, hr_one, hr_if, List.take_succ_cons, List.take_zero, List.drop_succ_cons, List.drop_zero, List.take_nil, List.drop_nil, go_sem, undef, reduceAdd, reduceSub, reduceGT, reduceEqDiff, reduceMul, prs, fp, w64, resN]
      refine ⟨_, .of (hto ), ?_⟩
      try simp -dsimp -implicitDefEqProofs (disch := omega) only [go_sem, undef, reduceAdd, reduceSub, reduceGT, reduceEqDiff, reduceMul, prs, fp, w64, resN]
      refine ⟨_, .of (laws_eqPresentation_ok os os pw pw cj cj (by omega) (by omega) hpw hpw hcj hcj ), ?_⟩
      try simp -dsimp -implicitDefEqProofs (disch := omega) only [go_sem, undef, reduceAdd, reduceSub, reduceGT, reduceEqDiff, reduceMul, prs, fp, w64, resN]
      refine hN _ ?_
      try clear hN N
      refine AW.cond rfl (fun h6 => ?_) (fun h6 => ?_)
      ·try simp only [cn] at h6
       refine AW.sr envOk (fun N hN => ?_)
       simp -dsimp -implicitDefEqProofs (disch := omega) only [go_sem, undef, reduceAdd, reduceSub, reduceGT, reduceEqDiff, reduceMul, prs, fp, w64, resN]
       refine hN _ ?_
       try clear hN N
       refine AW.ret ?_
       simp -dsimp -implicitDefEqProofs (disch := omega) only [go_sem, undef, reduceAdd, reduceSub, reduceGT, reduceEqDiff, reduceMul]
       try (exfalso; first | omega | (simp_all; done))
      ·try simp only [cn] at h6
       refine AW.skip ?_
       simp only [thn, blk]
       refine hN5 _ ?_
       try clear hN5 N5
       refine AW.sr envOk (fun N hN => ?_)
       simp -dsimp -implicitDefEqProofs (disch := omega) only [go_sem, undef, reduceAdd, reduceSub, reduceGT, reduceEqDiff, reduceMul, prs, fp, w64, resN]
       refine hN _ ?_
       try clear hN N
       refine AW.ret ?_
       simp -dsimp -implicitDefEqProofs (disch := omega) only [go_sem, undef, reduceAdd, reduceSub, reduceGT, reduceEqDiff, reduceMul]
       try (exfalso; first | omega | (simp_all; done))
   ·try simp only [cn] at h3
    try simp -dsimp -implicitDefEqProofs (disch := omega) only [go_sem, undef, reduceAdd, reduceSub, reduceGT, reduceEqDiff, reduceMul, prs, fp, w64, resN]
    refine hN _ ?_
    try clear hN N
    refine AW.condT rfl ?_
    refine AW.sr envOk (fun N hN => ?_)
    simp -dsimp -implicitDefEqProofs (disch := omega) only [go_sem, undef, reduceAdd, reduceSub, reduceGT, reduceEqDiff, reduceMul, prs, fp, w64, resN]
    refine hN _ ?_
    try clear hN N
    refine AW.ret ?_
    simp -dsimp -implicitDefEqProofs (disch := omega) only [go_sem, undef, reduceAdd, reduceSub, reduceGT, reduceEqDiff, reduceMul]
    try (exfalso; first | omega | (simp_all; done))
end Go.Proofs.YtnlfbimjcabgiaaGreat
