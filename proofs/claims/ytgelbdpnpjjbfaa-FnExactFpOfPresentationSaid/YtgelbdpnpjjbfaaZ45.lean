import Derived.Test.YtgelbdpnpjjbfaaZ42
import Derived.Test.YtgelbdpnpjjbfaaZ43
import Derived.Test.YtgelbdpnpjjbfaaZ44
set_option linter.unusedVariables false
set_option linter.unusedSimpArgs false
namespace Go.Proofs.Ytgelbdpnpjjbfaa
open Nat (reduceAdd reduceSub reduceGT reduceEqDiff reduceMul)
theorem Ow.prs_inv {H : HP} {r : AV} {os : List Int} {pw : List (List Int)} {cj : List (List (List Int))} {ids : List Nat} (h : Ow H r (Go.Proofs.Ytgelbdpnpjjbfaa.prs os pw cj) ids) :
    ∃ r1 r2 r3 is js ks, r = .g [r1, r2, r3] ∧ ids = is ++ (js ++ ks) ∧ Ow H r1 (Go.Proofs.Ytgelbdpnpjjbfaa.ints os) is ∧ Ow H r2 (rows pw) js ∧ Ow H r3 (cubes cj) ks := by
  unfold Go.Proofs.Ytgelbdpnpjjbfaa.prs at h
  generalize hX : AV.g [Go.Proofs.Ytgelbdpnpjjbfaa.ints os, rows pw, cubes cj] = X at h
  cases h with
  | leaf _ hf hn =>
    subst hX
    cases hf with | g _ hf => cases hn with | g _ hn => exact ⟨Go.Proofs.Ytgelbdpnpjjbfaa.ints os, rows pw, cubes cj, [], [], [], rfl, rfl, .leaf _ (hf 0 _ rfl) (hn 0 _ rfl), .leaf _ (hf 1 _ rfl) (hn 1 _ rfl), .leaf _ (hf 2 _ rfl) (hn 2 _ rfl)⟩
  | nl => cases hX
  | h id cs ts ids' h1 h2 => cases hX
  | q id cs ts ids' h1 h2 => cases hX
  | g cs ts ids' h2 =>
    cases hX
    cases h2 with | cons x0 _ xs _ i0 j0 g1 g2 => cases g2 with | cons x1 _ xs _ i1 j1 g3 g4 => cases g4 with | cons x2 _ xs _ i2 j2 g5 g6 =>
      cases g6
      exact ⟨x0, x1, x2, i0, i1, i2, rfl, by simp, g1, g3, g5⟩
  | t cs ts ids' h2 => cases hX
theorem Hold.prs {H : HP} {lo hi : Nat} {r : AV} {os : List Int} {pw : List (List Int)} {cj : List (List (List Int))} (h : Hold H lo hi r (Go.Proofs.Ytgelbdpnpjjbfaa.prs os pw cj)) :
    ∃ r1 r2 r3, r = .g [r1, r2, r3] ∧ (one r1 = true ∧ one r2 = true ∧ one r3 = true) ∧ Hold H lo hi (.g [r1, r2, r3]) (Go.Proofs.Ytgelbdpnpjjbfaa.prs os pw cj) := by
  obtain ⟨ids, h1, h2, h3⟩ := h
  obtain ⟨r1, r2, r3, is, js, ks, rfl, _, h4, h5, h6⟩ := h1.prs_inv
  exact ⟨r1, r2, r3, rfl, ⟨one_ow h4, one_ow h5, one_ow h6⟩, ids, h1, h2, h3⟩
theorem markP_x (os : List Int) (pw : List (List Int)) (cj : List (List (List Int))) (hos : os.length ≤ 1048576) (hpw : rowslen pw) (hcj : cubeslen cj) (r1 r2 r3 : AV) (is js ks : List Nat) (k : Int) (nx : Nat) (H : HP) (o1 : Ow H r1 (ints os) is) (o2 : Ow H r2 (rows pw) js) (o3 : Ow H r3 (cubes cj) ks) (hnd : (is ++ (js ++ ks)).Nodup) (hlt : ∀ i ∈ is ++ (js ++ ks), i < nx) (hk0 : 0 ≤ k) (hk1 : k ≤ 1000000000000) :
 AC Try.prog 10 nx H [.g [r1, r2, r3], .i .i64 k] (fun _ H' res => ∃ k' : Int, res = .i .i64 k' ∧ 0 ≤ k' ∧ ∀ i, i ∉ is ++ (js ++ ks) → H' i = H i) := by
 obtain ⟨n1, n2, n3⟩ := List.nodup_append.1 hnd
 obtain ⟨n4, n5, n6⟩ := List.nodup_append.1 n2
 have u1 := one_ow o1
 have u2 := one_ow o2
 have u3 := one_ow o3
 refine AC.introx envOk Try.func10 rfl (by kernel_rfl) Try.ntmps10 Try.results10 (fun hfr => ?_)
 refine AW.sr envOk (fun N hN => ?_)
 simp -dsimp -implicitDefEqProofs (disch := omega) only [go_sem, undef, reduceAdd, reduceSub, reduceGT, reduceEqDiff, reduceMul, u1, u2, u3]
 refine hN _ ?_
 try clear hN N
 refine AW.sr envOk (fun N hN => ?_)
 simp -dsimp -implicitDefEqProofs (disch := omega) only [go_sem, undef, reduceAdd, reduceSub, reduceGT, reduceEqDiff, reduceMul, u1, u2, u3]
 refine (laws_markInt64S_c _ _ r1 os is k (o1.keep (fun i hi => ?_)) n1 hos hk0 (by omega)).mono2 ?_
 ·have := hlt i (by simp [hi]); exact upd_ne _ _ (by omega)
 rintro nx1 H1 res hx1 ⟨k1, rfl, hk2, hk3, hH1⟩
 have hb : H1 nx = some [r1, r2, r3] := by rw [hH1 nx (fun h => by have := hlt nx (by simp [h]); omega), upd_same]
 try simp -dsimp -implicitDefEqProofs (disch := omega) only [go_sem, undef, reduceAdd, reduceSub, reduceGT, reduceEqDiff, reduceMul, u1, u2, u3]
 refine hN _ ?_
 try clear hN N
 refine AW.sr envOk (fun N hN => ?_)
 simp -dsimp -implicitDefEqProofs (disch := omega) only [go_sem, undef, reduceAdd, reduceSub, reduceGT, reduceEqDiff, reduceMul, u1, u2, u3]
 try simp -dsimp -implicitDefEqProofs (disch := omega) only [go_sem, undef, reduceAdd, reduceSub, reduceGT, reduceEqDiff, reduceMul, hb]
 refine (laws_markInt64SS_c _ _ r2 pw js k1 (o2.keep (fun i hi => ?_)) n4 hpw (by omega) (by omega)).mono2 ?_
 ·rw [hH1 i (fun h => n3 i h i (by simp [hi]) rfl)]
  have := hlt i (by simp [hi]); exact upd_ne _ _ (by omega)
 rintro nx2 H2 res hx2 ⟨k2, rfl, hk4, hk5, hH2⟩
 have hb2 : H2 nx = some [r1, r2, r3] := by rw [hH2 nx (fun h => by have := hlt nx (by simp [h]); omega), hb]
 try simp -dsimp -implicitDefEqProofs (disch := omega) only [go_sem, undef, reduceAdd, reduceSub, reduceGT, reduceEqDiff, reduceMul, u1, u2, u3]
 refine hN _ ?_
 try clear hN N
 refine AW.sr envOk (fun N hN => ?_)
 simp -dsimp -implicitDefEqProofs (disch := omega) only [go_sem, undef, reduceAdd, reduceSub, reduceGT, reduceEqDiff, reduceMul, u1, u2, u3]
 try simp -dsimp -implicitDefEqProofs (disch := omega) only [go_sem, undef, reduceAdd, reduceSub, reduceGT, reduceEqDiff, reduceMul, hb2]
 refine (laws_markInt64SSS_c _ _ r3 cj ks k2 (o3.keep (fun i hi => ?_)) n5 hcj (by omega) (by omega)).mono2 ?_
 ·rw [hH2 i (fun h => n6 i h i hi rfl), hH1 i (fun h => n3 i h i (by simp [hi]) rfl)]
  have := hlt i (by simp [hi]); exact upd_ne _ _ (by omega)
 rintro nx3 H3 res hx3 ⟨k3, rfl, hk6, hk7, hH3⟩
 try simp -dsimp -implicitDefEqProofs (disch := omega) only [go_sem, undef, reduceAdd, reduceSub, reduceGT, reduceEqDiff, reduceMul, u1, u2, u3]
 refine hN _ ?_
 try clear hN N
 refine AW.sr envOk (fun N hN => ?_)
 simp -dsimp -implicitDefEqProofs (disch := omega) only [go_sem, undef, reduceAdd, reduceSub, reduceGT, reduceEqDiff, reduceMul, u1, u2, u3]
 refine hN _ ?_
 try clear hN N
 refine AW.ret ?_
 simp -dsimp -implicitDefEqProofs (disch := omega) only [go_sem, undef, reduceAdd, reduceSub, reduceGT, reduceEqDiff, reduceMul]
 refine ⟨cut nx H3, cut_le _ _, k3, rfl, by omega, fun i hi => ?_⟩
 unfold cut
 split
 ·rw [hH3 i (fun h => hi (by simp [h])), hH2 i (fun h => hi (by simp [h])), hH1 i (fun h => hi (by simp [h]))]
  exact upd_ne _ _ (by omega)
 ·rw [hfr i (by omega)]
theorem markP_g {os : List Int} {pw : List (List Int)} {cj : List (List (List Int))} (hos : os.length ≤ 1048576) (hpw : rowslen pw) (hcj : cubeslen cj) {nx : Nat} {H : HP} {r1 r2 r3 : AV} {lo hi : Nat} {k : Int} (h : Hold H lo hi (.g [r1, r2, r3]) (prs os pw cj)) (hn : hi ≤ nx) (h0 : 0 ≤ k) (h1 : k ≤ 1000000000000) :
    AC Try.prog 10 nx H [.g [r1, r2, r3], .i .i64 k] (fun _ H' res => ∃ k' : Int, res = .i .i64 k' ∧ 0 ≤ k' ∧ ∀ i, (i < lo ∨ hi ≤ i) → H' i = H i) := by
  obtain ⟨ids, g1, g2, g3⟩ := h
  obtain ⟨s1, s2, s3, is, js, ks, e, rfl, o1, o2, o3⟩ := g1.prs_inv
  cases e
  refine (markP_x os pw cj hos hpw hcj r1 r2 r3 is js ks k nx H o1 o2 o3 g2 (fun i hi => by have := g3 i hi; omega) h0 h1).mono ?_
  rintro _ H' res ⟨k', rfl, w1, hH⟩
  exact ⟨k', rfl, w1, fun i hi => hH i (fun hm => by have := g3 i hm; omega)⟩
theorem fpoM_len {b : Bool} {os : List Int} {pw : List (List Int)} {cj : List (List (List Int))} (h : b = true → presOk os pw cj) : rowslen (fpoM b os pw cj).1.2 := by
  cases b with
  | false => exact .nil
  | true =>
    unfold fpoM
    dsimp only
    split
    · exact .nil
    · exact rels_rl (h rfl)
theorem law_FpOfPresentation (os : List Int) (pw : List (List Int)) (cj : List (List (List Int))) (h0 : intsok os) (hpw : rowsok pw) (hcj : cubesok cj) : ACp Try.prog 3 [prs os pw cj] (.b true) := by
 have hlo0 := h0.1
 obtain ⟨M, hM⟩ : ∃ M, fpoM (tf (presOk os pw cj)) os pw cj = M := ⟨_, rfl⟩
 refine ACp.intro' envOk Try.func3 rfl (by kernel_rfl) Try.ntmps3 Try.results3 (.b _) (fun nx => ?_)
 refine AW.sr envOk (fun N hN => ?_)
 simp -dsimp -implicitDefEqProofs (disch := omega) only [go_sem, undef, reduceAdd, reduceSub, reduceGT, reduceEqDiff, reduceMul, prs, fp, w64, resF]
 refine hN _ ?_
 try clear hN N
 refine AW.freezeQ 1 nx _ rfl (upd_same _ _ _) ?_
 simp -dsimp -implicitDefEqProofs (disch := omega) only [go_sem, undef, reduceAdd, reduceSub, reduceGT, reduceEqDiff, reduceMul]
 refine AW.sr envOk (fun N hN => ?_)
 simp -dsimp -implicitDefEqProofs (disch := omega) only [go_sem, undef, reduceAdd, reduceSub, reduceGT, reduceEqDiff, reduceMul, prs, fp, w64, resF]
 refine hN _ ?_
 try clear hN N
 refine AW.sr envOk (fun N hN => ?_)
 simp -dsimp -implicitDefEqProofs (disch := omega) only [go_sem, undef, reduceAdd, reduceSub, reduceGT, reduceEqDiff, reduceMul, prs, fp, w64, resF]
 refine AC.pure (.of (laws_szPresentation_ok os pw cj 1048576 (by omega) (by omega) h0 hpw hcj )) ?_
 try simp -dsimp -implicitDefEqProofs (disch := omega) only [go_sem, undef, reduceAdd, reduceSub, reduceGT, reduceEqDiff, reduceMul, prs, fp, w64, resF]
 refine hN _ ?_
 try clear hN N
 refine AW.seq (fun N1 hN1 => ?_)
 refine AW.sr envOk (fun N hN => ?_)
 simp -dsimp -implicitDefEqProofs (disch := omega) only [go_sem, undef, reduceAdd, reduceSub, reduceGT, reduceEqDiff, reduceMul, prs, fp, w64, resF]
 refine hN _ ?_
 try clear hN N
 refine AW.cond rfl (fun h1 => ?_) (fun h1 => ?_)
 ·try simp only [cn] at h1
  refine AW.sr envOk (fun N hN => ?_)
  simp -dsimp -implicitDefEqProofs (disch := omega) only [go_sem, undef, reduceAdd, reduceSub, reduceGT, reduceEqDiff, reduceMul, prs, fp, w64, resF]
  refine hN _ ?_
  try clear hN N
  refine AW.ret ?_
  simp -dsimp -implicitDefEqProofs (disch := omega) only [go_sem, undef, reduceAdd, reduceSub, reduceGT, reduceEqDiff, reduceMul]
  try (exfalso; first | omega | (simp_all; done))
 ·try simp only [cn] at h1
  obtain ⟨hl, g1, g2⟩ := szP_mem (by omega) (by omega) h1
  have hlo := hl.o
  have hto := laws_toPresentation_ok os pw cj hlo g1 g2
  have hML : rowslen M.1.2 := by rw [← hM]; exact fpoM_len (fun h => by
   rcases Classical.em (presOk os pw cj) with hp | hp
   ·exact hp
   ·rw [tf_f hp] at h; cases h)
  have hspec := spec_FpOfPresentation_ok os pw cj hl
  have himpl := impl_FpOfPresentation_ok os pw cj hl
  rw [hM] at hspec himpl
  have heq := laws_eqFpGroup_r M.1.1 M.1.2 hML
  refine AW.skip ?_
  simp only [thn, blk]
  refine hN1 _ ?_
  try clear hN1 N1
  refine AW.sr envOk (fun N hN => ?_)
  simp -dsimp -implicitDefEqProofs (disch := omega) only [go_sem, undef, reduceAdd, reduceSub, reduceGT, reduceEqDiff, reduceMul, prs, fp, w64, resF]
  refine AC.pure (.of (hto.pure )) ?_
  try simp -dsimp -implicitDefEqProofs (disch := omega) only [go_sem, undef, reduceAdd, reduceSub, reduceGT, reduceEqDiff, reduceMul, prs, fp, w64, resF]
  refine AC.pure (.of (hspec )) ?_
  try simp -dsimp -implicitDefEqProofs (disch := omega) only [go_sem, undef, reduceAdd, reduceSub, reduceGT, reduceEqDiff, reduceMul, prs, fp, w64, resF]
  refine hN _ ?_
  try clear hN N
  refine AW.freezeQ 4 (nx + 2 + 1 + 4 + 2 + 6) _ rfl (upd_same _ _ _) ?_
  simp -dsimp -implicitDefEqProofs (disch := omega) only [go_sem, undef, reduceAdd, reduceSub, reduceGT, reduceEqDiff, reduceMul]
  refine AW.sr envOk (fun N hN => ?_)
  simp -dsimp -implicitDefEqProofs (disch := omega) only [go_sem, undef, reduceAdd, reduceSub, reduceGT, reduceEqDiff, reduceMul, prs, fp, w64, resF]
  refine AC.hold hto (.cons (.refl _) .nil) ?_
  intro m6 H6 r_r hm6 hH6 ho_r
  obtain ⟨r1, r2, r3, rfl, ⟨u1, u2, u3⟩, ho_r⟩ := ho_r.prs
  try simp -dsimp -implicitDefEqProofs (disch := omega) only [go_sem, undef, reduceAdd, reduceSub, reduceGT, reduceEqDiff, reduceMul, u1, u2, u3]
  refine hN _ ?_
  try clear hN N
  refine AW.freezeQ 6 (nx + 2 + 1 + 4 + 2 + 9 + 2) _ rfl (upd_same _ _ _) ?_
  refine AW.nameH (fun G6 hG6 => ?_)
  dsimp only at hG6
  replace ho_r := ho_r.keep (H' := G6) (fun i q1 q2 => by rw [← hG6]; simp (disch := omega) only [upd_ne])
  simp -dsimp -implicitDefEqProofs (disch := omega) only [go_sem, undef, reduceAdd, reduceSub, reduceGT, reduceEqDiff, reduceMul]
  refine AW.sr envOk (fun N hN => ?_)
  simp -dsimp -implicitDefEqProofs (disch := omega) only [go_sem, undef, reduceAdd, reduceSub, reduceGT, reduceEqDiff, reduceMul, prs, fp, w64, resF]
  refine AC.hold himpl (.cons ho_r.vw .nil) ?_
  intro m8 H8 r_z hm8 hH8 ho_z
  replace ho_r := ho_r.keep (fun i q1 q2 => hH8 i (by omega))
  obtain ⟨g0, rfl, hg⟩ := ho_z.pair
  obtain ⟨s1, rfl, v1, hg⟩ := hg.fp
  clear ho_z
  try simp -dsimp -implicitDefEqProofs (disch := omega) only [go_sem, undef, reduceAdd, reduceSub, reduceGT, reduceEqDiff, reduceMul, v1]
  refine hN _ ?_
  try clear hN N
  refine AW.seq (fun N2 hN2 => ?_)
  refine AW.freezeQ 7 (m6 + 5) _ rfl (upd_same _ _ _) ?_
  refine AW.nameH (fun G8 hG8 => ?_)
  dsimp only at hG8
  replace ho_r := ho_r.keep (H' := G8) (fun i q1 q2 => by rw [← hG8]; simp (disch := omega) only [upd_ne])
  replace hg := hg.keep (H' := G8) (fun i q1 q2 => by rw [← hG8]; simp (disch := omega) only [upd_ne])
  simp -dsimp -implicitDefEqProofs (disch := omega) only [go_sem, undef, reduceAdd, reduceSub, reduceGT, reduceEqDiff, reduceMul]
  refine AW.sr envOk (fun N hN => ?_)
  simp -dsimp -implicitDefEqProofs (disch := omega) only [go_sem, undef, reduceAdd, reduceSub, reduceGT, reduceEqDiff, reduceMul, prs, fp, w64, resF]
  refine AC.pure (.lent (heq) (.cons hg.vw (.cons (.refl _) .nil)) (.b _)) ?_
  try simp -dsimp -implicitDefEqProofs (disch := omega) only [go_sem, undef, reduceAdd, reduceSub, reduceGT, reduceEqDiff, reduceMul, prs, fp, w64, resF]
  refine gopB.mk' (fun h2 => ?_) (fun h2 => ?_)
  ·try simp only [cn] at h2
   try simp -dsimp -implicitDefEqProofs (disch := omega) only [go_sem, undef, reduceAdd, reduceSub, reduceGT, reduceEqDiff, reduceMul, prs, fp, w64, resF]
   refine hN _ ?_
   try clear hN N
   refine AW.cond rfl (fun h3 => ?_) (fun h3 => ?_)
   ·try simp only [cn] at h3
    refine AW.sr envOk (fun N hN => ?_)
    simp -dsimp -implicitDefEqProofs (disch := omega) only [go_sem, undef, reduceAdd, reduceSub, reduceGT, reduceEqDiff, reduceMul, prs, fp, w64, resF]
    refine hN _ ?_
    try clear hN N
    refine AW.ret ?_
    simp -dsimp -implicitDefEqProofs (disch := omega) only [go_sem, undef, reduceAdd, reduceSub, reduceGT, reduceEqDiff, reduceMul]
    try (exfalso; first | omega | (simp_all; done))
   ·try simp only [cn] at h3
    refine AW.skip ?_
    simp only [thn, blk]
    refine hN2 _ ?_
    try clear hN2 N2
    refine AW.seq (fun N3 hN3 => ?_)
    refine AW.seq (fun N hN => ?_)
    refine AW.drawL envOk (by kernel_rfl) 5 (by kernel_rfl) ?_
    simp -dsimp -implicitDefEqProofs (disch := omega) only [hr_nil, hr_one, hr_if, List.take_succ_cons, List.take_zero, List.drop_succ_cons, List.drop_zero, List.take_nil, List.drop_nil, go_sem, undef, reduceAdd, reduceSub, reduceGT, reduceEqDiff, reduceMul, prs, fp, w64, resF]
    refine ⟨_, .of (hto.pure ), ?_⟩
    try simp -dsimp -implicitDefEqProofs (disch := omega) only [go_sem, undef, reduceAdd, reduceSub, reduceGT, reduceEqDiff, reduceMul, prs, fp, w64, resF]
    refine ⟨_, .lent (laws_eqPresentation_ok os os pw pw cj cj (by omega) (by omega) hpw hpw hcj hcj) (.cons ho_r.vw (.cons (.refl _) .nil)) (.b _), ?_⟩
    try simp -dsimp -implicitDefEqProofs (disch := omega) only [go_sem, undef, reduceAdd, reduceSub, reduceGT, reduceEqDiff, reduceMul, prs, fp, w64, resF]
    refine hN _ ?_
    try clear hN N
    refine AW.cond rfl (fun h4 => ?_) (fun h4 => ?_)
    ·try simp only [cn] at h4
     refine AW.sr envOk (fun N hN => ?_)
     simp -dsimp -implicitDefEqProofs (disch := omega) only [go_sem, undef, reduceAdd, reduceSub, reduceGT, reduceEqDiff, reduceMul, prs, fp, w64, resF]
     refine hN _ ?_
     try clear hN N
     refine AW.ret ?_
     simp -dsimp -implicitDefEqProofs (disch := omega) only [go_sem, undef, reduceAdd, reduceSub, reduceGT, reduceEqDiff, reduceMul]
     try (exfalso; first | omega | (simp_all; done))
    ·try simp only [cn] at h4
     refine AW.skip ?_
     simp only [thn, blk]
     refine hN3 _ ?_
     try clear hN3 N3
     refine AW.sr envOk (fun N hN => ?_)
     simp -dsimp -implicitDefEqProofs (disch := omega) only [go_sem, undef, reduceAdd, reduceSub, reduceGT, reduceEqDiff, reduceMul, prs, fp, w64, resF]
     refine hN _ ?_
     try clear hN N
     refine AW.sr envOk (fun N hN => ?_)
     simp -dsimp -implicitDefEqProofs (disch := omega) only [go_sem, undef, reduceAdd, reduceSub, reduceGT, reduceEqDiff, reduceMul, prs, fp, w64, resF]
     refine (markP_g hlo g1 g2 ho_r (by omega) (by omega) (by omega)).mono2 ?_
     rintro m14 H14 res hm14 ⟨kk, rfl, hkk, hH14⟩
     replace hg := hg.keep (fun i q1 q2 => hH14 i (by omega))
     try simp -dsimp -implicitDefEqProofs (disch := omega) only [go_sem, undef, reduceAdd, reduceSub, reduceGT, reduceEqDiff, reduceMul, prs, fp, w64, resF]
     refine hN _ ?_
     try clear hN N
     refine AW.seq (fun N4 hN4 => ?_)
     refine AW.sr envOk (fun N hN => ?_)
     simp -dsimp -implicitDefEqProofs (disch := omega) only [go_sem, undef, reduceAdd, reduceSub, reduceGT, reduceEqDiff, reduceMul, prs, fp, w64, resF]
     refine gopB.mk' (fun h5 => ?_) (fun h5 => ?_)
     ·try simp only [cn] at h5
      try simp -dsimp -implicitDefEqProofs (disch := omega) only [go_sem, undef, reduceAdd, reduceSub, reduceGT, reduceEqDiff, reduceMul, prs, fp, w64, resF]
      refine AC.pure (.lent (heq) (.cons hg.vw (.cons (.refl _) .nil)) (.b _)) ?_
      try simp -dsimp -implicitDefEqProofs (disch := omega) only [go_sem, undef, reduceAdd, reduceSub, reduceGT, reduceEqDiff, reduceMul, prs, fp, w64, resF]
      refine gopB.mk' (fun h6 => ?_) (fun h6 => ?_)
      ·try simp only [cn] at h6
       try simp -dsimp -implicitDefEqProofs (disch := omega) only [go_sem, undef, reduceAdd, reduceSub, reduceGT, reduceEqDiff, reduceMul, prs, fp, w64, resF]
       refine hN _ ?_
       try clear hN N
       refine AW.cond rfl (fun h7 => ?_) (fun h7 => ?_)
       ·try simp only [cn] at h7
        refine AW.sr envOk (fun N hN => ?_)
        simp -dsimp -implicitDefEqProofs (disch := omega) only [go_sem, undef, reduceAdd, reduceSub, reduceGT, reduceEqDiff, reduceMul, prs, fp, w64, resF]
        refine hN _ ?_
        try clear hN N
        refine AW.ret ?_
        simp -dsimp -implicitDefEqProofs (disch := omega) only [go_sem, undef, reduceAdd, reduceSub, reduceGT, reduceEqDiff, reduceMul]
        try (exfalso; first | omega | (simp_all; done))
       ·try simp only [cn] at h7
        refine AW.skip ?_
        simp only [thn, blk]
        refine hN4 _ ?_
        try clear hN4 N4
        refine AW.sr envOk (fun N hN => ?_)
        simp -dsimp -implicitDefEqProofs (disch := omega) only [go_sem, undef, reduceAdd, reduceSub, reduceGT, reduceEqDiff, reduceMul, prs, fp, w64, resF]
        refine hN _ ?_
        try clear hN N
        refine AW.sr envOk (fun N hN => ?_)
        simp -dsimp -implicitDefEqProofs (disch := omega) only [go_sem, undef, reduceAdd, reduceSub, reduceGT, reduceEqDiff, reduceMul, prs, fp, w64, resF]
        refine (markF_g hML hg (by omega) (by omega) (by omega)).mono2 ?_
        rintro m17 H17 res hm17 ⟨rfl, hg2, hH17⟩
        try simp -dsimp -implicitDefEqProofs (disch := omega) only [go_sem, undef, reduceAdd, reduceSub, reduceGT, reduceEqDiff, reduceMul, prs, fp, w64, resF]
        refine hN _ ?_
        try clear hN N
        refine AW.sr envOk (fun N hN => ?_)
        simp -dsimp -implicitDefEqProofs (disch := omega) only [go_sem, undef, reduceAdd, reduceSub, reduceGT, reduceEqDiff, reduceMul, prs, fp, w64, resF]
        refine hN _ ?_
        try clear hN N
        refine AW.sr envOk (fun N hN => ?_)
        simp -dsimp -implicitDefEqProofs (disch := omega) only [go_sem, undef, reduceAdd, reduceSub, reduceGT, reduceEqDiff, reduceMul, prs, fp, w64, resF]
        refine AC.pure (.lent (heldF_g hML (by omega) (by omega)) (.cons hg2.vw (.cons (.refl _) .nil)) (.i _ _)) ?_
        try simp -dsimp -implicitDefEqProofs (disch := omega) only [go_sem, undef, reduceAdd, reduceSub, reduceGT, reduceEqDiff, reduceMul, prs, fp, w64, resF]
        refine hN _ ?_
        try clear hN N
        refine AW.seq (fun N5 hN5 => ?_)
        refine AW.sr envOk (fun N hN => ?_)
        simp -dsimp -implicitDefEqProofs (disch := omega) only [go_sem, undef, reduceAdd, reduceSub, reduceGT, reduceEqDiff, reduceMul, prs, fp, w64, resF]
        refine hN _ ?_
        try clear hN N
        refine AW.cond rfl (fun h8 => ?_) (fun h8 => ?_)
        ·try simp only [cn] at h8
         refine AW.sr envOk (fun N hN => ?_)
         simp -dsimp -implicitDefEqProofs (disch := omega) only [go_sem, undef, reduceAdd, reduceSub, reduceGT, reduceEqDiff, reduceMul, prs, fp, w64, resF]
         refine hN _ ?_
         try clear hN N
         refine AW.ret ?_
         simp -dsimp -implicitDefEqProofs (disch := omega) only [go_sem, undef, reduceAdd, reduceSub, reduceGT, reduceEqDiff, reduceMul]
         try (exfalso; first | omega | (simp_all; done))
        ·try simp only [cn] at h8
         refine AW.skip ?_
         simp only [thn, blk]
         refine hN5 _ ?_
         try clear hN5 N5
         refine AW.seq (fun N6 hN6 => ?_)
         refine AW.sr envOk (fun N hN => ?_)
         simp -dsimp -implicitDefEqProofs (disch := omega) only [go_sem, undef, reduceAdd, reduceSub, reduceGT, reduceEqDiff, reduceMul, prs, fp, w64, resF]
         refine hN _ ?_
         try clear hN N
         refine AW.cond rfl (fun h9 => ?_) (fun h9 => ?_)
         ·try simp only [cn] at h9
          refine AW.sr envOk (fun N hN => ?_)
          simp -dsimp -implicitDefEqProofs (disch := omega) only [go_sem, undef, reduceAdd, reduceSub, reduceGT, reduceEqDiff, reduceMul, prs, fp, w64, resF]
          refine hN _ ?_
          try clear hN N
          refine AW.ret ?_
          simp -dsimp -implicitDefEqProofs (disch := omega) only [go_sem, undef, reduceAdd, reduceSub, reduceGT, reduceEqDiff, reduceMul]
          try (exfalso; first | omega | (simp_all; done))
         ·try simp only [cn] at h9
          refine AW.skip ?_
          simp only [thn, blk]
          refine hN6 _ ?_
          try clear hN6 N6
          refine AW.sr envOk (fun N hN => ?_)
          simp -dsimp -implicitDefEqProofs (disch := omega) only [go_sem, undef, reduceAdd, reduceSub, reduceGT, reduceEqDiff, reduceMul, prs, fp, w64, resF]
          refine AC.pure (.of (hto.pure )) ?_
          try simp -dsimp -implicitDefEqProofs (disch := omega) only [go_sem, undef, reduceAdd, reduceSub, reduceGT, reduceEqDiff, reduceMul, prs, fp, w64, resF]
          refine AC.pure (.of (himpl.pure )) ?_
          try simp -dsimp -implicitDefEqProofs (disch := omega) only [go_sem, undef, reduceAdd, reduceSub, reduceGT, reduceEqDiff, reduceMul, prs, fp, w64, resF]
          refine hN _ ?_
          try clear hN N
          refine AW.seq (fun N7 hN7 => ?_)
          refine AW.freezeQ 12 (m17 + 1 + 4 + 2 + 3 + 6) _ rfl (upd_same _ _ _) ?_
          refine AW.nameH (fun G9 hG9 => ?_)
          dsimp only at hG9
          replace hg2 := hg2.keep (H' := G9) (fun i q1 q2 => by rw [← hG9]; simp (disch := omega) only [upd_ne])
          simp -dsimp -implicitDefEqProofs (disch := omega) only [go_sem, undef, reduceAdd, reduceSub, reduceGT, reduceEqDiff, reduceMul]
          refine AW.sr envOk (fun N hN => ?_)
          simp -dsimp -implicitDefEqProofs (disch := omega) only [go_sem, undef, reduceAdd, reduceSub, reduceGT, reduceEqDiff, reduceMul, prs, fp, w64, resF]
          refine AC.pure (.of (heq )) ?_
          try simp -dsimp -implicitDefEqProofs (disch := omega) only [go_sem, undef, reduceAdd, reduceSub, reduceGT, reduceEqDiff, reduceMul, prs, fp, w64, resF]
          refine gopB.mk' (fun h10 => ?_) (fun h10 => ?_)
          ·try simp only [cn] at h10
           try simp -dsimp -implicitDefEqProofs (disch := omega) only [go_sem, undef, reduceAdd, reduceSub, reduceGT, reduceEqDiff, reduceMul, prs, fp, w64, resF]
           refine hN _ ?_
           try clear hN N
           refine AW.cond rfl (fun h11 => ?_) (fun h11 => ?_)
           ·try simp only [cn] at h11
            refine AW.sr envOk (fun N hN => ?_)
            simp -dsimp -implicitDefEqProofs (disch := omega) only [go_sem, undef, reduceAdd, reduceSub, reduceGT, reduceEqDiff, reduceMul, prs, fp, w64, resF]
            refine hN _ ?_
            try clear hN N
            refine AW.ret ?_
            simp -dsimp -implicitDefEqProofs (disch := omega) only [go_sem, undef, reduceAdd, reduceSub, reduceGT, reduceEqDiff, reduceMul]
            try (exfalso; first | omega | (simp_all; done))
           ·try simp only [cn] at h11
            refine AW.skip ?_
            simp only [thn, blk]
            refine hN7 _ ?_
            try clear hN7 N7
            refine AW.sr envOk (fun N hN => ?_)
            simp -dsimp -implicitDefEqProofs (disch := omega) only [go_sem, undef, reduceAdd, reduceSub, reduceGT, reduceEqDiff, reduceMul, prs, fp, w64, resF]
            refine hN _ ?_
            try clear hN N
            refine AW.sr envOk (fun N hN => ?_)
            simp -dsimp -implicitDefEqProofs (disch := omega) only [go_sem, undef, reduceAdd, reduceSub, reduceGT, reduceEqDiff, reduceMul, prs, fp, w64, resF]
            refine AC.pure (.lent (heldF_g hML (by omega) (by omega)) (.cons hg2.vw (.cons (.refl _) .nil)) (.i _ _)) ?_
            try simp -dsimp -implicitDefEqProofs (disch := omega) only [go_sem, undef, reduceAdd, reduceSub, reduceGT, reduceEqDiff, reduceMul, prs, fp, w64, resF]
            refine hN _ ?_
            try clear hN N
            refine AW.seq (fun N8 hN8 => ?_)
            refine AW.sr envOk (fun N hN => ?_)
            simp -dsimp -implicitDefEqProofs (disch := omega) only [go_sem, undef, reduceAdd, reduceSub, reduceGT, reduceEqDiff, reduceMul, prs, fp, w64, resF]
            refine hN _ ?_
            try clear hN N
            refine AW.cond rfl (fun h12 => ?_) (fun h12 => ?_)
            ·try simp only [cn] at h12
             refine AW.sr envOk (fun N hN => ?_)
             simp -dsimp -implicitDefEqProofs (disch := omega) only [go_sem, undef, reduceAdd, reduceSub, reduceGT, reduceEqDiff, reduceMul, prs, fp, w64, resF]
             refine hN _ ?_
             try clear hN N
             refine AW.ret ?_
             simp -dsimp -implicitDefEqProofs (disch := omega) only [go_sem, undef, reduceAdd, reduceSub, reduceGT, reduceEqDiff, reduceMul]
             try (exfalso; first | omega | (simp_all; done))
            ·try simp only [cn] at h12
             refine AW.skip ?_
             simp only [thn, blk]
             refine hN8 _ ?_
             try clear hN8 N8
             refine AW.seq (fun N9 hN9 => ?_)
             refine AW.sr envOk (fun N hN => ?_)
             simp -dsimp -implicitDefEqProofs (disch := omega) only [go_sem, undef, reduceAdd, reduceSub, reduceGT, reduceEqDiff, reduceMul, prs, fp, w64, resF]
             refine hN _ ?_
             try clear hN N
             refine AW.cond rfl (fun h13 => ?_) (fun h13 => ?_)
             ·try simp only [cn] at h13
              refine AW.sr envOk (fun N hN => ?_)
              simp -dsimp -implicitDefEqProofs (disch := omega) only [go_sem, undef, reduceAdd, reduceSub, reduceGT, reduceEqDiff, reduceMul, prs, fp, w64, resF]
              refine hN _ ?_
              try clear hN N
              refine AW.ret ?_
              simp -dsimp -implicitDefEqProofs (disch := omega) only [go_sem, undef, reduceAdd, reduceSub, reduceGT, reduceEqDiff, reduceMul]
              try (exfalso; first | omega | (simp_all; done))
             ·try simp only [cn] at h13
              refine AW.skip ?_
              simp only [thn, blk]
              refine hN9 _ ?_
              try clear hN9 N9
              refine AW.sr envOk (fun N hN => ?_)
              simp -dsimp -implicitDefEqProofs (disch := omega) only [go_sem, undef, reduceAdd, reduceSub, reduceGT, reduceEqDiff, reduceMul, prs, fp, w64, resF]
              refine hN _ ?_
              try clear hN N
              refine AW.ret ?_
              simp -dsimp -implicitDefEqProofs (disch := omega) only [go_sem, undef, reduceAdd, reduceSub, reduceGT, reduceEqDiff, reduceMul]
              try (exfalso; first | omega | (simp_all; done))
          ·try simp only [cn] at h10
           try simp -dsimp -implicitDefEqProofs (disch := omega) only [go_sem, undef, reduceAdd, reduceSub, reduceGT, reduceEqDiff, reduceMul, prs, fp, w64, resF]
           refine hN _ ?_
           try clear hN N
           refine AW.condT rfl ?_
           refine AW.sr envOk (fun N hN => ?_)
           simp -dsimp -implicitDefEqProofs (disch := omega) only [go_sem, undef, reduceAdd, reduceSub, reduceGT, reduceEqDiff, reduceMul, prs, fp, w64, resF]
           refine hN _ ?_
           try clear hN N
           refine AW.ret ?_
           simp -dsimp -implicitDefEqProofs (disch := omega) only [go_sem, undef, reduceAdd, reduceSub, reduceGT, reduceEqDiff, reduceMul]
           try (exfalso; first | omega | (simp_all; done))
      ·try simp only [cn] at h6
       try simp -dsimp -implicitDefEqProofs (disch := omega) only [go_sem, undef, reduceAdd, reduceSub, reduceGT, reduceEqDiff, reduceMul, prs, fp, w64, resF]
       refine hN _ ?_
       try clear hN N
       refine AW.condT rfl ?_
       refine AW.sr envOk (fun N hN => ?_)
       simp -dsimp -implicitDefEqProofs (disch := omega) only [go_sem, undef, reduceAdd, reduceSub, reduceGT, reduceEqDiff, reduceMul, prs, fp, w64, resF]
       refine hN _ ?_
       try clear hN N
       refine AW.ret ?_
       simp -dsimp -implicitDefEqProofs (disch := omega) only [go_sem, undef, reduceAdd, reduceSub, reduceGT, reduceEqDiff, reduceMul]
       try (exfalso; first | omega | (simp_all; done))
     ·try simp only [cn] at h5
      try simp -dsimp -implicitDefEqProofs (disch := omega) only [go_sem, undef, reduceAdd, reduceSub, reduceGT, reduceEqDiff, reduceMul, prs, fp, w64, resF]
      refine hN _ ?_
      try clear hN N
      refine AW.condT rfl ?_
      refine AW.sr envOk (fun N hN => ?_)
      simp -dsimp -implicitDefEqProofs (disch := omega) only [go_sem, undef, reduceAdd, reduceSub, reduceGT, reduceEqDiff, reduceMul, prs, fp, w64, resF]
      refine hN _ ?_
      try clear hN N
      refine AW.ret ?_
      simp -dsimp -implicitDefEqProofs (disch := omega) only [go_sem, undef, reduceAdd, reduceSub, reduceGT, reduceEqDiff, reduceMul]
      try (exfalso; first | omega | (simp_all; done))
  ·try simp only [cn] at h2
   try simp -dsimp -implicitDefEqProofs (disch := omega) only [go_sem, undef, reduceAdd, reduceSub, reduceGT, reduceEqDiff, reduceMul, prs, fp, w64, resF]
   refine hN _ ?_
   try clear hN N
   refine AW.condT rfl ?_
   refine AW.sr envOk (fun N hN => ?_)
   simp -dsimp -implicitDefEqProofs (disch := omega) only [go_sem, undef, reduceAdd, reduceSub, reduceGT, reduceEqDiff, reduceMul, prs, fp, w64, resF]
   refine hN _ ?_
   try clear hN N
   refine AW.ret ?_
   simp -dsimp -implicitDefEqProofs (disch := omega) only [go_sem, undef, reduceAdd, reduceSub, reduceGT, reduceEqDiff, reduceMul]
   try (exfalso; first | omega | (simp_all; done))
end Go.Proofs.Ytgelbdpnpjjbfaa
