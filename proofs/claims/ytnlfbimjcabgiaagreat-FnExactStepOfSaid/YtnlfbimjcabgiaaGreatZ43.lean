import Derived.Test.YtnlfbimjcabgiaaGreatZ42
set_option linter.unusedVariables false
set_option linter.unusedSimpArgs false
namespace Go.Proofs.YtnlfbimjcabgiaaGreat
open Nat (reduceAdd reduceSub reduceGT reduceEqDiff reduceMul)
theorem adT_nil {P : Pc} {t : Nat → Option V} : adT P t [] = t := by
  unfold adT
  cases clM P t [] with
  | zero => rfl
  | succ f => rfl
theorem upd_self {H : HP} {id : Nat} {c : Option (List AV)} (h : H id = c) : upd H id c = H := by
  funext i
  unfold upd
  split
  · rename_i e; rw [e, h]
  · rfl
section
variable (os : List Int) (pw : List (List Int)) (cj : List (List (List Int)))
set_option maxRecDepth 20000 in
theorem impl_add_nil (n ids : Nat) (nx : Nat) (H : HP) : AC Tryz.prog 66 nx H [.q ids 0, vls n []] (fun _ H' r => r = .b false ∧ H' = H) := by
 refine AC.introx envOk Tryz.func66 rfl (by kernel_rfl) Tryz.ntmps66 Tryz.results66 (fun hfr => ?_)
 refine AW.sr envOk (fun N hN => ?_)
 simp -dsimp -implicitDefEqProofs (disch := omega) only [go_sem, undef, w64, vi, ints, vls]
 refine hN _ ?_
 try clear hN N
 refine AW.sr envOk (fun N hN => ?_)
 simp -dsimp -implicitDefEqProofs (disch := omega) only [go_sem, undef, w64, vi, ints, vls]
 refine hN _ ?_
 try clear hN N
 refine AW.sr envOk (fun N hN => ?_)
 simp -dsimp -implicitDefEqProofs (disch := omega) only [go_sem, undef, w64, vi, ints, vls]
 refine (slices_Clone_vls n [] (by simp) _ _).mono2 ?_
 rintro nx1 H1 r hx1 (⟨id0, rfl, hid1, hid2, rfl⟩ | ⟨-, rfl, rfl⟩)
 ·skip
  try simp -dsimp -implicitDefEqProofs (disch := omega) only [go_sem, undef, w64, vi, ints, vls]
  refine hN _ ?_
  try clear hN N
  refine AW.seq (fun N1 hN1 => ?_)
  refine AW.block ?_
  refine AW.loopN (α := Nat) (fun x => sl 109 [(0, .q ids 0), (5, .b false), (6, .h id0 0 0)]) (fun _ => upd H id0 (some [])) (fun x m => nx ≤ id0) (fun x => 0) (0) ?_ ?_ (fun _ _ h => h) ?_
  ·omega
  ·simp (disch := omega) [wks, wkA, sl]
  ·skip
   rintro k m hk
   simp -dsimp -implicitDefEqProofs (disch := omega) only [go_sem, undef]
   refine AW.seq (fun N2 hN2 => ?_)
   refine AW.sr envOk (fun N hN => ?_)
   simp -dsimp -implicitDefEqProofs (disch := omega) only [go_sem, undef, w64, vi, ints, vls]
   refine hN _ ?_
   try clear hN N
   refine AW.cond rfl (fun h1 => ?_) (fun h1 => ?_)
   ·try simp only [cn] at h1
    first| done| (cases h1)| (exact absurd h1 (by simp))
   ·try simp only [cn] at h1
    refine AW.exit ?_
    simp only [thn, blk, if_true]
    refine hN1 _ ?_
    try clear hN1 N1
    refine AW.sr envOk (fun N hN => ?_)
    simp -dsimp -implicitDefEqProofs (disch := omega) only [go_sem, undef, w64, vi, ints, vls]
    refine hN _ ?_
    try clear hN N
    refine AW.ret ?_
    simp -dsimp -implicitDefEqProofs (disch := omega) only [go_sem, undef]
    exact ⟨_, le_new (hfr id0 hk), rfl⟩
 ·skip
  try simp -dsimp -implicitDefEqProofs (disch := omega) only [go_sem, undef, w64, vi, ints, vls]
  refine hN _ ?_
  try clear hN N
  refine AW.seq (fun N3 hN3 => ?_)
  refine AW.block ?_
  refine AW.loopN (α := Nat) (fun x => sl 109 [(0, .q ids 0), (5, .b false), (6, .v 0 [])]) (fun _ => H1) (fun x m => True) (fun x => 0) (0) ?_ ?_ (fun _ _ h => h) ?_
  ·trivial
  ·simp (disch := omega) [wks, wkA, sl]
  ·skip
   rintro k m hk
   simp -dsimp -implicitDefEqProofs (disch := omega) only [go_sem, undef]
   refine AW.seq (fun N4 hN4 => ?_)
   refine AW.sr envOk (fun N hN => ?_)
   simp -dsimp -implicitDefEqProofs (disch := omega) only [go_sem, undef, w64, vi, ints, vls]
   refine hN _ ?_
   try clear hN N
   refine AW.cond rfl (fun h2 => ?_) (fun h2 => ?_)
   ·try simp only [cn] at h2
    first| done| (cases h2)| (exact absurd h2 (by simp))
   ·try simp only [cn] at h2
    refine AW.exit ?_
    simp only [thn, blk, if_true]
    refine hN3 _ ?_
    try clear hN3 N3
    refine AW.sr envOk (fun N hN => ?_)
    simp -dsimp -implicitDefEqProofs (disch := omega) only [go_sem, undef, w64, vi, ints, vls]
    refine hN _ ?_
    try clear hN N
    refine AW.ret ?_
    simp -dsimp -implicitDefEqProofs (disch := omega) only [go_sem, undef]
    exact ⟨_, Le.refl _, rfl⟩
theorem impl_add_ok (h : presOk os pw cj) (hc : Con (pc os pw cj) 0) (t0 : Nat → Option V) (hG0 : tbG (pc os pw cj) t0) (us : List V) (hl : us.length ≤ 1000) (hu : ∀ x ∈ us, T (pc os pw cj) 0 x) (nx : Nat) (H : HP) (ids id2 : Nat) (hne : ids ≠ id2) (h1' : H ids = some [prsP os pw cj, .h id2 0 os.length]) (h2' : H id2 = some (tbn os.length t0)) : AC Tryz.prog 66 nx H [.q ids 0, vls os.length us] (fun _ H' r => r = .b (tf (adT (pc os pw cj) t0 us ≠ t0)) ∧ H' = upd H id2 (some (tbn os.length (adT (pc os pw cj) t0 us)))) := by
  by_cases h0 : us = []
  · subst h0
    refine (impl_add_nil os.length ids nx H).mono2 ?_
    rintro m H1 r hm ⟨rfl, rfl⟩
    rw [adT_nil]
    exact ⟨by rw [tf_f (fun q => q rfl)], (upd_self h2').symm⟩
  · exact impl_add_ne os pw cj h hc t0 hG0 us hl (List.length_pos_iff.2 h0) hu nx H ids id2 hne h1' h2'
theorem outR_clo (h : presOk os pw cj) (hc : Con (pc os pw cj) 0) (us : List V) (hu : ∀ x ∈ us, T (pc os pw cj) 0 x) : outR (pc os pw cj) (adT (pc os pw cj) (fun _ => none) us) 0 = cloU (pc os pw cj) us :=
  out_same h.val hc (fun d hd => h.2.1 d hd) hu
theorem impl_generated_ok (h : presOk os pw cj) (hc : Con (pc os pw cj) 0) (us : List V) (hl : us.length ≤ 1000) (hu : ∀ x ∈ us, T (pc os pw cj) 0 x) : ACp Tryz.prog 33 [prsP os pw cj, vls os.length us] (vls os.length (cloU (pc os pw cj) us)) := by
 have hn6 := h.1.1
 have hG := tbI_G h.val hc (fun d hd => h.2.1 d hd) hu
 have hout := outR_clo os pw cj h hc us hu
 refine ACp.intro' envOk Tryz.func33 rfl (by kernel_rfl) Tryz.ntmps33 Tryz.results33 (vls_nr _ _) (fun nx => ?_)
 refine AW.sr envOk (fun N hN => ?_)
 simp -dsimp -implicitDefEqProofs (disch := omega) only [go_sem, undef, w64]
 refine hN _ ?_
 try clear hN N
 refine AW.sr envOk (fun N hN => ?_)
 simp -dsimp -implicitDefEqProofs (disch := omega) only [go_sem, undef, w64]
 refine (impl_newSequence_ok os pw cj (by omega) _ _).mono2 ?_
 rintro m1 H1 r1 hm1 ⟨ids, id2, rfl, ⟨i1, i2, i3, i4, i5⟩, rfl⟩
 try simp -dsimp -implicitDefEqProofs (disch := omega) only [go_sem, undef, w64]
 refine hN _ ?_
 try clear hN N
 refine AW.sr envOk (fun N hN => ?_)
 simp -dsimp -implicitDefEqProofs (disch := omega) only [go_sem, undef, w64]
 refine (impl_add_ok os pw cj h hc (fun _ => none) (fun d y hy => by cases hy) us hl hu _ _ ids id2 i5 (upd_same _ _ _) ((upd_ne _ _ (Ne.symm i5)).trans (upd_same _ _ _))).mono2 ?_
 rintro m2 H2 r2 hm2 ⟨rfl, rfl⟩
 try simp -dsimp -implicitDefEqProofs (disch := omega) only [go_sem, undef, w64]
 refine hN _ ?_
 try clear hN N
 refine AW.sr envOk (fun N hN => ?_)
 simp -dsimp -implicitDefEqProofs (disch := omega) only [go_sem, undef, w64]
 refine (impl_canonical_ok os pw cj h hc (adT (pc os pw cj) (fun _ => none) us) hG _ _ ids id2 ((upd_ne _ _ i5).trans (upd_same _ _ _)) (upd_same _ _ _)).mono2 ?_
 rintro m3 H3 r3 hm3 ⟨rfl, rfl⟩
 try simp -dsimp -implicitDefEqProofs (disch := omega) only [go_sem, undef, w64]
 refine hN _ ?_
 try clear hN N
 refine AW.ret ?_
 simp -dsimp -implicitDefEqProofs (disch := omega) only [go_sem, undef]
 rw [hout]
end
end Go.Proofs.YtnlfbimjcabgiaaGreat
