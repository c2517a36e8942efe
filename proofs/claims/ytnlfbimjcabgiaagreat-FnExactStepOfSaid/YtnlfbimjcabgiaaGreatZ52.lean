import Derived.Test.YtnlfbimjcabgiaaGreatZ48
import Derived.Test.YtnlfbimjcabgiaaGreatZ51
set_option linter.unusedVariables false
set_option linter.unusedSimpArgs false
namespace Go.Proofs.YtnlfbimjcabgiaaGreat
open Nat (reduceAdd reduceSub reduceGT reduceEqDiff reduceMul)
theorem outS_frlen {dn : Nat → Option V} : ∀ k : Nat, (outS dn k).length + ((List.range k).filter fun d => (dn d).isNone).length = k
  | 0 => rfl
  | k + 1 => by
    have ih := outS_frlen (dn := dn) k
    cases h : dn k with
    | none => rw [outS_none h, List.range_succ, List.filter_append]; simp [h]; omega
    | some y => rw [outS_some h, List.range_succ, List.filter_append]; simp [h]; omega
theorem fr_len {P : Pc} {S : V → Prop} {u : List V} (h : Cnl P S u) : u.length + (frU P.n u P.n).length = P.n := by
  have h1 := (tbA_can h).2
  have h2 := outS_frlen (dn := tbA P.n u) P.n
  rw [← h1] at h2
  exact h2
section
variable {P : Pc} (hv : Val P) (hc : Con P 0) (hp : ∀ d, d < P.n → pr4 (P.o d))
include hv hc hp
theorem exK_mem {q : Int} : ∀ k (us : List V), ExP P us → ∀ x ∈ exK P q k us, ExP P x
  | 0, us, h, x, hx => by
    rw [exK, List.mem_singleton] at hx
    rw [hx]; exact h
  | k + 1, us, h, x, hx => by
    rw [exK] at hx
    split at hx
    · rw [List.mem_singleton] at hx
      rw [hx]; exact h
    · rcases List.mem_cons.1 hx with e | e
      · rw [e]; exact h
      · exact exK_mem k _ (ExP.next hv hc hp h).1 x e
end
def resQ (m : (List Int × List (List Int) × List (List (List Int))) × Int) : AV := .t [prs m.1.1 m.1.2.1 m.1.2.2, .i .i64 m.2]
theorem Own.nilQ {a b : Nat} {H : HP} {e : Int} : ∃ ids, Own a b H (.t [.g [.nl, .nl, .nl], .i .i64 e]) (resQ (([], [], []), e)) ids :=
  ⟨_, .t _ _ _ (.cons _ _ _ _ _ _ (.g _ _ _ (.cons _ _ _ _ _ _ .nl (.cons _ _ _ _ _ _ .nl (.cons _ _ _ _ _ _ .nl .nil)))) (.cons _ _ _ _ _ _ (.leaf _ (.i _ _) (.i _ _)) .nil)), by simp, by simp⟩
section
variable (os : List Int) (pw : List (List Int)) (cj : List (List (List Int)))
noncomputable def paU : List V := (exSr os pw cj).getD ((exSr os pw cj).length - 2) []
noncomputable def paM : (List Int × List (List Int) × List (List (List Int))) × Int :=
  if cvC os pw cj = 0 then (if 3 ≤ (exSr os pw cj).length then ((qoO os (paU os pw cj), qoP (pc os pw cj) (paU os pw cj), qoC (pc os pw cj) (paU os pw cj)), 0) else (([], [], []), 4)) else (([], [], []), cvC os pw cj)
noncomputable def stV : Int := if cvC os pw cj = 0 ∧ 3 ≤ (exSr os pw cj).length then ((paU os pw cj).length : Int) else 0
noncomputable def stC : Int := if cvC os pw cj = 0 then (if 3 ≤ (exSr os pw cj).length then 0 else 4) else cvC os pw cj
theorem paU_ExP (h : presOk os pw cj) (hc : Con (pc os pw cj) 0) (h3 : 3 ≤ (exSr os pw cj).length) : ExP (pc os pw cj) (paU os pw cj) := by
  have hv := h.val
  have hfst : ExP (pc os pw cj) (unL os.length) := ExP.first hv hc
  have hm : paU os pw cj ∈ exSr os pw cj := by
    unfold paU
    rw [List.getD_eq_getElem?_getD, List.getElem?_eq_getElem (by omega)]
    exact List.getElem_mem _
  exact exK_mem hv hc (fun d hd => h.2.1 d hd) _ _ hfst _ hm
theorem tmin2 {x : Nat} : ((x : Int) - 2).toNat = x - 2 := by omega
theorem sr_get {n : Nat} {K : List (List V)} {k : Nat} (h : k < K.length) : (K.map (vls n)).getD k .j = vls n (K.getD k []) := by
  simp [List.getD_eq_getElem?_getD, h]
set_option maxHeartbeats 2000000 in
theorem impl_ParentOf_ok (hl : prlen os pw cj) : ACo Tryz.prog 17 [prs os pw cj] (resQ (paM os pw cj)) := by
 have hlo := hl.o
 intro nx
 refine AC.intro' envOk Tryz.func17 rfl (by kernel_rfl) Tryz.ntmps17 Tryz.results17 ?_
 refine AW.sr envOk (fun N hN => ?_)
 simp -dsimp -implicitDefEqProofs (disch := omega) only [go_sem, undef, prsP, prs, w64, ints, gd_i]
 refine hN _ ?_
 try clear hN N
 refine AW.seq (fun N1 hN1 => ?_)
 refine AW.freezeQ 1 nx _ rfl ((upd_ne _ _ (by omega)).trans (upd_same _ _ _)) ?_
 simp -dsimp -implicitDefEqProofs (disch := omega) only [go_sem, undef]
 refine AW.sr envOk (fun N hN => ?_)
 simp -dsimp -implicitDefEqProofs (disch := omega) only [go_sem, undef, prsP, prs, w64, ints, gd_i]
 refine AC.pure (.of (impl_coverCode_ok os pw cj hl)) ?_
 try simp -dsimp -implicitDefEqProofs (disch := omega) only [go_sem, undef, prsP, prs, w64, ints, gd_i]
 refine hN _ ?_
 try clear hN N
 refine AW.sr envOk (fun N hN => ?_)
 simp -dsimp -implicitDefEqProofs (disch := omega) only [go_sem, undef, prsP, prs, w64, ints, gd_i]
 refine hN _ ?_
 try clear hN N
 refine AW.cond rfl (fun h1 => ?_) (fun h1 => ?_)
 ·try simp only [cn] at h1
  refine AW.sr envOk (fun N hN => ?_)
  simp -dsimp -implicitDefEqProofs (disch := omega) only [go_sem, undef, prsP, prs, w64, ints, gd_i]
  refine hN _ ?_
  try clear hN N
  refine AW.ret ?_
  simp -dsimp -implicitDefEqProofs (disch := omega) only [go_sem, undef]
  rw [show paM os pw cj = (([], [], []), cvC os pw cj) from by unfold paM; rw [if_neg (by omega)]]
  exact Own.nilQ
 ·try simp only [cn] at h1
  have hz : cvC os pw cj = 0 := by omega
  obtain ⟨g1, g2, g3⟩ := cvC_z os pw cj hz
  have h0 := g2.2.1
  have hb := pr4_bd (g1.1.2.1 0 (by omega))
  have hle := exK_len (P := pc os pw cj) (q := os.getD 0 0) os.length (unL os.length)
  have hn6 := g1.1.1.1
  have hlx : (exSr os pw cj).length = (exK (pc os pw cj) (os.getD 0 0) os.length (unL os.length)).length := rfl
  refine AW.skip ?_
  simp only [thn, blk]
  refine hN1 _ ?_
  try clear hN1 N1
  refine AW.sr envOk (fun N hN => ?_)
  simp -dsimp -implicitDefEqProofs (disch := omega) only [go_sem, undef, prsP, prs, w64, ints, gd_i]
  refine AC.pure (.of (impl_lowerExponent_ok os pw cj g1.1 g1.2 (os.getD 0 0) (by omega) )) ?_
  try simp -dsimp -implicitDefEqProofs (disch := omega) only [go_sem, undef, prsP, prs, w64, ints, gd_i]
  refine hN _ ?_
  try clear hN N
  refine AW.seq (fun N2 hN2 => ?_)
  refine AW.sr envOk (fun N hN => ?_)
  simp -dsimp -implicitDefEqProofs (disch := omega) only [go_sem, undef, prsP, prs, w64, ints, gd_i]
  refine hN _ ?_
  try clear hN N
  refine AW.cond rfl (fun h2 => ?_) (fun h2 => ?_)
  ·try simp only [cn] at h2
   refine AW.sr envOk (fun N hN => ?_)
   simp -dsimp -implicitDefEqProofs (disch := omega) only [go_sem, undef, prsP, prs, w64, ints, gd_i]
   refine hN _ ?_
   try clear hN N
   refine AW.ret ?_
   simp -dsimp -implicitDefEqProofs (disch := omega) only [go_sem, undef]
   have h3 : ¬3 ≤ (exSr os pw cj).length := by omega
   rw [show paM os pw cj = (([], [], []), 4) from by unfold paM; rw [if_pos hz, if_neg h3]]
   exact Own.nilQ
  ·try simp only [cn] at h2
   have h3 : 3 ≤ (exSr os pw cj).length := by omega
   have hE := paU_ExP os pw cj g1.1 g1.2 h3
   have hgu : ((exK (pc os pw cj) (os.getD 0 0) os.length (unL os.length)).map (vls os.length)).getD ((exK (pc os pw cj) (os.getD 0 0) os.length (unL os.length)).length - 2) .j = vls os.length (paU os pw cj) := sr_get (by omega)
   refine AW.skip ?_
   simp only [thn, blk]
   refine hN2 _ ?_
   try clear hN2 N2
   refine AW.sr envOk (fun N hN => ?_)
   simp -dsimp -implicitDefEqProofs (disch := omega) only [go_sem, undef, prsP, prs, w64, ints, gd_i, vcs, tmin2, hgu]
   refine AC.own (impl_quotientPresentation_ok os pw cj g1.1 g1.2 (paU os pw cj) hE.2.1) (.cons (.refl _) (.cons (.refl _) .nil)) ?_
   intro m1 H1 r1 ids1 hm1 hH1 hown1
   obtain ⟨s1, s2, s3, is, js, ks, rfl, hid, o1, o2, o3⟩ := hown1.1.prs_inv
   have u1 := one_ow o1
   have u2 := one_ow o2
   have u3 := one_ow o3
   have hc1 : H1 (nx + 1) = some [.nl, .nl, .nl] := (hH1 _ (by omega)).trans (by simp (disch := omega) only [upd_ne, upd_same])
   try simp -dsimp -implicitDefEqProofs (disch := omega) only [go_sem, undef, prsP, prs, w64, ints, u1, u2, u3, hc1]
   refine hN _ ?_
   try clear hN N
   refine AW.ret ?_
   simp -dsimp -implicitDefEqProofs (disch := omega) only [go_sem, undef]
   rw [show paM os pw cj = ((qoO os (paU os pw cj), qoP (pc os pw cj) (paU os pw cj), qoC (pc os pw cj) (paU os pw cj)), 0) from by unfold paM; rw [if_pos hz, if_pos h3]]
   have hidB : ∀ i ∈ ids1, nx + 3 ≤ i := fun i hi => by have := hown1.2.2 i hi; omega
   exact (hown1.keep (fun i q1 q2 => upd_ne _ _ (by omega)) (by omega) (by omega)).pair
theorem paM_n (h : (paM os pw cj).2 ≠ 0) : stV os pw cj = 0 ∧ stC os pw cj = (paM os pw cj).2 := by
  unfold paM at h ⊢
  unfold stV stC
  by_cases h1 : cvC os pw cj = 0
  · by_cases h2 : 3 ≤ (exSr os pw cj).length
    · simp [h1, h2] at h
    · simp [h1, h2]
  · simp [h1]
theorem paM_0 (h : (paM os pw cj).2 = 0) : cvC os pw cj = 0 ∧ 3 ≤ (exSr os pw cj).length ∧ (paM os pw cj).1.1 = qoO os (paU os pw cj) ∧ stC os pw cj = 0 ∧ stV os pw cj = ((paU os pw cj).length : Int) := by
  unfold paM at h ⊢
  unfold stV stC
  by_cases h1 : cvC os pw cj = 0
  · by_cases h2 : 3 ≤ (exSr os pw cj).length
    · simp [h1, h2]
    · simp [h1, h2] at h
  · simp [h1] at h
set_option maxHeartbeats 2000000 in
theorem impl_StepOf_ok (hl : prlen os pw cj) : ACp Tryz.prog 15 [prs os pw cj] (resN (stV os pw cj) (stC os pw cj)) := by
 have hlo := hl.o
 obtain ⟨M, hM⟩ : ∃ M, paM os pw cj = M := ⟨_, rfl⟩
 have hpar := (impl_ParentOf_ok os pw cj hl).pure
 rw [hM] at hpar
 refine ACp.intro' envOk Tryz.func15 rfl (by kernel_rfl) Tryz.ntmps15 Tryz.results15 (resN_nr _ _) (fun nx => ?_)
 refine AW.sr envOk (fun N hN => ?_)
 simp -dsimp -implicitDefEqProofs (disch := omega) only [go_sem, undef, prsP, prs, w64, ints, gd_i, resQ]
 refine hN _ ?_
 try clear hN N
 refine AW.freezeQ 1 nx _ rfl (upd_same _ _ _) ?_
 simp -dsimp -implicitDefEqProofs (disch := omega) only [go_sem, undef]
 refine AW.sr envOk (fun N hN => ?_)
 simp -dsimp -implicitDefEqProofs (disch := omega) only [go_sem, undef, prsP, prs, w64, ints, gd_i, resQ]
 refine AC.pure (.of (hpar )) ?_
 try simp -dsimp -implicitDefEqProofs (disch := omega) only [go_sem, undef, prsP, prs, w64, ints, gd_i, resQ]
 refine hN _ ?_
 try clear hN N
 refine AW.seq (fun N1 hN1 => ?_)
 refine AW.sr envOk (fun N hN => ?_)
 simp -dsimp -implicitDefEqProofs (disch := omega) only [go_sem, undef, prsP, prs, w64, ints, gd_i, resQ]
 refine hN _ ?_
 try clear hN N
 refine AW.cond rfl (fun h1 => ?_) (fun h1 => ?_)
 ·try simp only [cn] at h1
  refine AW.sr envOk (fun N hN => ?_)
  simp -dsimp -implicitDefEqProofs (disch := omega) only [go_sem, undef, prsP, prs, w64, ints, gd_i, resQ]
  refine hN _ ?_
  try clear hN N
  refine AW.ret ?_
  simp -dsimp -implicitDefEqProofs (disch := omega) only [go_sem, undef]
  have hn := paM_n os pw cj (by rw [hM]; simpa using h1)
  rw [hn.1, hn.2, hM]
  rfl
 ·try simp only [cn] at h1
  have hz0 : M.2 = 0 := by simpa using h1
  obtain ⟨hz, h3, hq, hsc, hsv⟩ := paM_0 os pw cj (by rw [hM]; exact hz0)
  obtain ⟨g1, g2, g3⟩ := cvC_z os pw cj hz
  have hE := paU_ExP os pw cj g1.1 g1.2 h3
  have hfl := fr_len hE.2.1
  have hfl2 : (paU os pw cj).length + M.1.1.length = os.length := by
   rw [← hM, hq]
   simp only [qoO, List.length_map]
   exact hfl
  refine AW.skip ?_
  simp only [thn, blk]
  refine hN1 _ ?_
  try clear hN1 N1
  refine AW.sr envOk (fun N hN => ?_)
  simp -dsimp -implicitDefEqProofs (disch := omega) only [go_sem, undef, prsP, prs, w64, ints, gd_i, resQ]
  refine hN _ ?_
  try clear hN N
  refine AW.ret ?_
  simp -dsimp -implicitDefEqProofs (disch := omega) only [go_sem, undef]
  rw [hsc, hsv, show ((paU os pw cj).length : Int) = (os.length : Int) - (M.1.1.length : Int) from by omega]
  rfl
theorem spec_StepOf_ok (hl : prlen os pw cj) : ACp Tryz.prog 14 [prs os pw cj] (resN (stV os pw cj) (stC os pw cj)) := by
 have hlo := hl.o
 refine ACp.intro' envOk Tryz.func14 rfl (by kernel_rfl) Tryz.ntmps14 Tryz.results14 (resN_nr _ _) (fun nx => ?_)
 refine AW.sr envOk (fun N hN => ?_)
 simp -dsimp -implicitDefEqProofs (disch := omega) only [go_sem, undef, prsP, prs, w64, ints, gd_i]
 refine hN _ ?_
 try clear hN N
 refine AW.freezeQ 1 nx _ rfl (upd_same _ _ _) ?_
 simp -dsimp -implicitDefEqProofs (disch := omega) only [go_sem, undef]
 refine AW.seq (fun N1 hN1 => ?_)
 refine AW.sr envOk (fun N hN => ?_)
 simp -dsimp -implicitDefEqProofs (disch := omega) only [go_sem, undef, prsP, prs, w64, ints, gd_i]
 refine AC.pure (.of (spec_l28Code_ok os pw cj hl)) ?_
 try simp -dsimp -implicitDefEqProofs (disch := omega) only [go_sem, undef, prsP, prs, w64, ints, gd_i]
 refine hN _ ?_
 try clear hN N
 refine AW.sr envOk (fun N hN => ?_)
 simp -dsimp -implicitDefEqProofs (disch := omega) only [go_sem, undef, prsP, prs, w64, ints, gd_i]
 refine hN _ ?_
 try clear hN N
 refine AW.cond rfl (fun h1 => ?_) (fun h1 => ?_)
 ·try simp only [cn] at h1
  refine AW.sr envOk (fun N hN => ?_)
  simp -dsimp -implicitDefEqProofs (disch := omega) only [go_sem, undef, prsP, prs, w64, ints, gd_i]
  refine hN _ ?_
  try clear hN N
  refine AW.ret ?_
  simp -dsimp -implicitDefEqProofs (disch := omega) only [go_sem, undef]
  rw [show stV os pw cj = 0 from by unfold stV; rw [if_neg (by omega)], show stC os pw cj = cvC os pw cj from by unfold stC; rw [if_neg (by omega)]]
  rfl
 ·try simp only [cn] at h1
  have hz : cvC os pw cj = 0 := by omega
  obtain ⟨g1, g2, g3⟩ := cvC_z os pw cj hz
  have h0 := g2.2.1
  have hb := pr4_bd (g1.1.2.1 0 (by omega))
  have hle := exK_len (P := pc os pw cj) (q := os.getD 0 0) os.length (unL os.length)
  have hn6 := g1.1.1.1
  have hlx : (exSr os pw cj).length = (exK (pc os pw cj) (os.getD 0 0) os.length (unL os.length)).length := rfl
  refine AW.skip ?_
  simp only [thn, blk]
  refine hN1 _ ?_
  try clear hN1 N1
  refine AW.seq (fun N hN => ?_)
  refine AW.drawL envOk (by kernel_rfl) 7 (by kernel_rfl) ?_
  simp -dsimp -implicitDefEqProofs (disch := omega) only [hr_nil, hr_one, hr_if, List.take_succ_cons, List.take_zero, List.drop_succ_cons, List.drop_zero, List.take_nil, List.drop_nil, go_sem, undef, prsP, prs, w64, ints, gd_i]
  refine ⟨_, .of (spec_l17Exponent_ok os pw cj g1.1 g1.2 (os.getD 0 0) (by omega) ), ?_⟩
  try simp -dsimp -implicitDefEqProofs (disch := omega) only [go_sem, undef, prsP, prs, w64, ints, gd_i]
  refine hN _ ?_
  try clear hN N
  refine AW.seq (fun N2 hN2 => ?_)
  refine AW.sr envOk (fun N hN => ?_)
  simp -dsimp -implicitDefEqProofs (disch := omega) only [go_sem, undef, prsP, prs, w64, ints, gd_i]
  refine hN _ ?_
  try clear hN N
  refine AW.cond rfl (fun h2 => ?_) (fun h2 => ?_)
  ·try simp only [cn] at h2
   refine AW.sr envOk (fun N hN => ?_)
   simp -dsimp -implicitDefEqProofs (disch := omega) only [go_sem, undef, prsP, prs, w64, ints, gd_i]
   refine hN _ ?_
   try clear hN N
   refine AW.ret ?_
   simp -dsimp -implicitDefEqProofs (disch := omega) only [go_sem, undef]
   rw [show stV os pw cj = 0 from by unfold stV; rw [if_neg (by omega)], show stC os pw cj = 4 from by unfold stC; rw [if_pos hz, if_neg (by omega)]]
   rfl
  ·try simp only [cn] at h2
   have h3 : 3 ≤ (exSr os pw cj).length := by omega
   have hE := paU_ExP os pw cj g1.1 g1.2 h3
   have hgu : ((exK (pc os pw cj) (os.getD 0 0) os.length (unL os.length)).map (vls os.length)).getD ((exK (pc os pw cj) (os.getD 0 0) os.length (unL os.length)).length - 2) .j = vls os.length (paU os pw cj) := sr_get (by omega)
   refine AW.skip ?_
   simp only [thn, blk]
   refine hN2 _ ?_
   try clear hN2 N2
   refine AW.sr envOk (fun N hN => ?_)
   simp -dsimp -implicitDefEqProofs (disch := omega) only [go_sem, undef, prsP, prs, w64, ints, gd_i, vcs, tmin2, hgu, vls]
   refine hN _ ?_
   try clear hN N
   refine AW.ret ?_
   simp -dsimp -implicitDefEqProofs (disch := omega) only [go_sem, undef]
   rw [show stV os pw cj = ((paU os pw cj).length : Int) from by unfold stV; rw [if_pos ⟨hz, h3⟩], show stC os pw cj = 0 from by unfold stC; rw [if_pos hz, if_pos h3]]
   rfl
end
theorem law_StepOf (os : List Int) (pw : List (List Int)) (cj : List (List (List Int))) (h0 : intsok os) (hpw : rowsok pw) (hcj : cubesok cj) : ACp Tryz.prog 4 [prs os pw cj] (.b true) := by
 have ho := h0.1
 refine ACp.intro' envOk Tryz.func4 rfl (by kernel_rfl) Tryz.ntmps4 Tryz.results4 (.b _) (fun nx => ?_)
 refine AW.sr envOk (fun N hN => ?_)
 simp -dsimp -implicitDefEqProofs (disch := omega) only [go_sem, undef, prs, w64, resN]
 refine hN _ ?_
 try clear hN N
 refine AW.sr envOk (fun N hN => ?_)
 simp -dsimp -implicitDefEqProofs (disch := omega) only [go_sem, undef, prs, w64, resN]
 refine hN _ ?_
 try clear hN N
 refine AW.sr envOk (fun N hN => ?_)
 simp -dsimp -implicitDefEqProofs (disch := omega) only [go_sem, undef, prs, w64, resN]
 refine AC.pure (.of (laws_szPresentation_ok os pw cj 1048576 (by omega) (by omega) h0 hpw hcj )) ?_
 try simp -dsimp -implicitDefEqProofs (disch := omega) only [go_sem, undef, prs, w64, resN]
 refine hN _ ?_
 try clear hN N
 refine AW.seq (fun N1 hN1 => ?_)
 refine AW.sr envOk (fun N hN => ?_)
 simp -dsimp -implicitDefEqProofs (disch := omega) only [go_sem, undef, prs, w64, resN]
 refine hN _ ?_
 try clear hN N
 refine AW.cond rfl (fun h1 => ?_) (fun h1 => ?_)
 ·try simp only [cn] at h1
  refine AW.sr envOk (fun N hN => ?_)
  simp -dsimp -implicitDefEqProofs (disch := omega) only [go_sem, undef, prs, w64, resN]
  refine hN _ ?_
  try clear hN N
  refine AW.ret ?_
  simp -dsimp -implicitDefEqProofs (disch := omega) only [go_sem, undef]
  try (exfalso; first | omega | (simp_all; done))
 ·try simp only [cn] at h1
  obtain ⟨hl, g1, g2⟩ := szP_mem (by omega) (by omega) h1
  have hlo := hl.o
  have hto := (laws_toPresentation_ok os pw cj hlo g1 g2).pure
  refine AW.skip ?_
  simp only [thn, blk]
  refine hN1 _ ?_
  try clear hN1 N1
  refine AW.sr envOk (fun N hN => ?_)
  simp -dsimp -implicitDefEqProofs (disch := omega) only [go_sem, undef, prs, w64, resN]
  refine AC.pure (.of (hto )) ?_
  try simp -dsimp -implicitDefEqProofs (disch := omega) only [go_sem, undef, prs, w64, resN]
  refine AC.pure (.of (spec_StepOf_ok os pw cj hl )) ?_
  try simp -dsimp -implicitDefEqProofs (disch := omega) only [go_sem, undef, prs, w64, resN]
  refine hN _ ?_
  try clear hN N
  refine AW.sr envOk (fun N hN => ?_)
  simp -dsimp -implicitDefEqProofs (disch := omega) only [go_sem, undef, prs, w64, resN]
  refine AC.pure (.of (hto )) ?_
  try simp -dsimp -implicitDefEqProofs (disch := omega) only [go_sem, undef, prs, w64, resN]
  refine hN _ ?_
  try clear hN N
  refine AW.sr envOk (fun N hN => ?_)
  simp -dsimp -implicitDefEqProofs (disch := omega) only [go_sem, undef, prs, w64, resN]
  refine AC.pure (.of (impl_StepOf_ok os pw cj hl )) ?_
  try simp -dsimp -implicitDefEqProofs (disch := omega) only [go_sem, undef, prs, w64, resN]
  refine hN _ ?_
  try clear hN N
  refine AW.seq (fun N2 hN2 => ?_)
  refine AW.sr envOk (fun N hN => ?_)
  simp -dsimp -implicitDefEqProofs (disch := omega) only [go_sem, undef, prs, w64, resN]
  refine gopB.mk' (fun h2 => ?_) (fun h2 => ?_)
  ·try simp only [cn] at h2
   try simp -dsimp -implicitDefEqProofs (disch := omega) only [go_sem, undef, prs, w64, resN]
   refine hN _ ?_
   try clear hN N
   refine AW.cond rfl (fun h3 => ?_) (fun h3 => ?_)
   ·try simp only [cn] at h3
    refine AW.sr envOk (fun N hN => ?_)
    simp -dsimp -implicitDefEqProofs (disch := omega) only [go_sem, undef, prs, w64, resN]
    refine hN _ ?_
    try clear hN N
    refine AW.ret ?_
    simp -dsimp -implicitDefEqProofs (disch := omega) only [go_sem, undef]
    try (exfalso; first | omega | (simp_all; done))
   ·try simp only [cn] at h3
    refine AW.skip ?_
    simp only [thn, blk]
    refine hN2 _ ?_
    try clear hN2 N2
    refine AW.seq (fun N3 hN3 => ?_)
    refine AW.seq (fun N hN => ?_)
    refine AW.drawL envOk (by kernel_rfl) 5 (by kernel_rfl) ?_
    simp -dsimp -implicitDefEqProofs (disch := omega) only [hr_nil, hr_one, hr_if, List.take_succ_cons, List.take_zero, List.drop_succ_cons, List.drop_zero, List.take_nil, List.drop_nil, go_sem, undef, prs, w64, resN]
    refine ⟨_, .of (hto ), ?_⟩
    try simp -dsimp -implicitDefEqProofs (disch := omega) only [go_sem, undef, prs, w64, resN]
    refine ⟨_, .of (laws_eqPresentation_ok os os pw pw cj cj (by omega) (by omega) hpw hpw hcj hcj ), ?_⟩
    try simp -dsimp -implicitDefEqProofs (disch := omega) only [go_sem, undef, prs, w64, resN]
    refine hN _ ?_
    try clear hN N
    refine AW.cond rfl (fun h4 => ?_) (fun h4 => ?_)
    ·try simp only [cn] at h4
     refine AW.sr envOk (fun N hN => ?_)
     simp -dsimp -implicitDefEqProofs (disch := omega) only [go_sem, undef, prs, w64, resN]
     refine hN _ ?_
     try clear hN N
     refine AW.ret ?_
     simp -dsimp -implicitDefEqProofs (disch := omega) only [go_sem, undef]
     try (exfalso; first | omega | (simp_all; done))
    ·try simp only [cn] at h4
     refine AW.skip ?_
     simp only [thn, blk]
     refine hN3 _ ?_
     try clear hN3 N3
     refine AW.sr envOk (fun N hN => ?_)
     simp -dsimp -implicitDefEqProofs (disch := omega) only [go_sem, undef, prs, w64, resN]
     refine hN _ ?_
     try clear hN N
     refine AW.ret ?_
     simp -dsimp -implicitDefEqProofs (disch := omega) only [go_sem, undef]
     try (exfalso; first | omega | (simp_all; done))
  ·try simp only [cn] at h2
   try simp -dsimp -implicitDefEqProofs (disch := omega) only [go_sem, undef, prs, w64, resN]
   refine hN _ ?_
   try clear hN N
   refine AW.condT rfl ?_
   refine AW.sr envOk (fun N hN => ?_)
   simp -dsimp -implicitDefEqProofs (disch := omega) only [go_sem, undef, prs, w64, resN]
   refine hN _ ?_
   try clear hN N
   refine AW.ret ?_
   simp -dsimp -implicitDefEqProofs (disch := omega) only [go_sem, undef]
   try (exfalso; first | omega | (simp_all; done))
end Go.Proofs.YtnlfbimjcabgiaaGreat
