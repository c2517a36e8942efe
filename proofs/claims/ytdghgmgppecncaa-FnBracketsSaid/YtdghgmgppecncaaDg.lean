/-
  A shape drawn, often with a fault, by the reference.
-/
import Derived.Test.YtdghgmgppecncaaDf
import Derived.Test.YtdghgmgppecncaaAvT
set_option linter.unusedVariables false
set_option linter.unusedSimpArgs false
namespace Go.Proofs.Ytdghgmgppecncaa
open Nat (reduceAdd reduceSub reduceGT reduceEqDiff reduceMul)

theorem RgV.rl {lo m n P o : Nat} {q : Nat → Nat} {X : List (List Int)} {Y : List (List (List Int))} {H : HP} (h : RgV lo m n P q X Y H) (hn : n ≤ 6) : ringlen X (Y.drop o) := by
  obtain ⟨h1, h2, h4, h5, h6, h7, h8⟩ := h
  have hY : ∀ i, (∀ x ∈ (Y.drop o).getD i [], x.length ≤ 6) ∧ ((Y.drop o).getD i []).length ≤ 6 := by
    intro i
    by_cases hi : o + i < n
    · have : (Y.drop o).getD i [] = Y.getD (o + i) [] := by simp [List.getD_eq_getElem?_getD, List.getElem?_drop]
      rw [this]
      exact ⟨getDY_le h8.2 _, by rw [(h5 _ hi).2.1]; omega⟩
    · have : (Y.drop o).getD i [] = [] := by rw [List.getD_eq_getElem?_getD, List.getElem?_eq_none (by rw [List.length_drop]; omega)]; rfl
      rw [this]
      exact ⟨fun x hx => (by cases hx), Nat.zero_le _⟩
  refine ⟨by omega, fun i => ?_, by rw [List.length_drop]; omega, fun i => by have := (hY i).2; omega, fun i j => ?_⟩
  · by_cases hi : i < X.length
    · have := h8.1 (X.getD i []) (by rw [List.getD_eq_getElem?_getD, List.getElem?_eq_getElem hi]; exact List.getElem_mem hi)
      omega
    · rw [List.getD_eq_getElem?_getD, List.getElem?_eq_none (by omega)]; exact Nat.zero_le _
  · obtain ⟨Z, hZ⟩ : ∃ Z, (Y.drop o).getD i [] = Z := ⟨_, rfl⟩
    have hz := hY i
    rw [hZ] at hz ⊢
    by_cases hj : j < Z.length
    · have := hz.1 (Z.getD j []) (by rw [List.getD_eq_getElem?_getD, List.getElem?_eq_getElem hj]; exact List.getElem_mem hj)
      omega
    · rw [List.getD_eq_getElem?_getD, List.getElem?_eq_none (by omega)]; exact Nat.zero_le _
theorem nil_vw {H : HP} : Vw H (.g [.i .i64 3, .nl, .nl]) (ring 3 [] []) := .g _ _ rfl fun k x y hx hy => by
  match k, hx, hy with
  | 0, hx, hy => cases hx; cases hy; exact .refl _
  | 1, hx, hy => cases hx; cases hy; exact .nl
  | 2, hx, hy => cases hx; cases hy; exact .nl
/-- What a call leaves that hands out a ring and keeps nothing. -/
def brkK (nx : Nat) : Nat → HP → AV → Prop := fun nx' H' r => (∃ o n p P q X Y, o ≤ 1 ∧ (1 ≤ n ∧ n ≤ 6) ∧ r = rgO p n P o q ∧ RgV nx nx' n P q X Y H') ∨ r = .g [.i .i64 3, .nl, .nl]
set_option maxRecDepth 100000 in
set_option maxHeartbeats 4000000 in
theorem spec_l31Broken_o (bs : List Int) (hb : bytsok bs) (hb4 : bs.length ≤ 4096) (nx : Nat) : AC Try.prog 116 nx noH [byts bs] (brkK nx) := by
 refine AC.introx envOk Try.func116 rfl (by kernel_rfl) Try.ntmps116 Try.results116 (fun hfr => ?_)
 refine AW.sr envOk (fun N hN => ?_)
 simp -dsimp -implicitDefEqProofs (disch := omega) only [go_sem, undef, reduceAdd, reduceSub, reduceGT, reduceEqDiff, reduceMul, w64, rgO, it1, it2, Nat.sub_zero, List.drop_zero]
 refine hN _ ?_
 try clear hN N
 refine AW.sr envOk (fun N hN => ?_)
 simp -dsimp -implicitDefEqProofs (disch := omega) only [go_sem, undef, reduceAdd, reduceSub, reduceGT, reduceEqDiff, reduceMul, w64, rgO, it1, it2, Nat.sub_zero, List.drop_zero]
 refine AC.mono2 (AC.frame (spec_l01From_n bs hb hb4 _)) ?_
 rintro m1 H1 r1 hm1 ⟨H0, ⟨sid, a1, s1, rfl, hsid1, hsid2, ho1, hs0⟩, hlow, hhigh⟩
 have hs1 := (hhigh sid hsid1).trans hs0
 have h01 : H1 nx = some [.i .i64 0, .nl, .nl] := (hlow nx (by omega)).trans (upd_same _ _ _)
 clear hs0 hlow hhigh
 try simp -dsimp -implicitDefEqProofs (disch := omega) only [go_sem, undef, reduceAdd, reduceSub, reduceGT, reduceEqDiff, reduceMul, w64, rgO, it1, it2, Nat.sub_zero, List.drop_zero]
 refine hN _ ?_
 try clear hN N
 refine AW.sr envOk (fun N hN => ?_)
 simp -dsimp -implicitDefEqProofs (disch := omega) only [go_sem, undef, reduceAdd, reduceSub, reduceGT, reduceEqDiff, reduceMul, w64, rgO, it1, it2, Nat.sub_zero, List.drop_zero]
 refine (spec_l31Draw_o bs a1 s1 ho1 _ _ sid hs1).mono2 ?_
 rintro m2 H2 r2 hm2 ⟨(⟨o, n, p, P, q, X, Y, ho1', hn, hpb, rfl, hV⟩ | rfl), a2, s2, ho2, hs2, hfr2⟩
 ·skip
  try simp -dsimp -implicitDefEqProofs (disch := omega) only [go_sem, undef, reduceAdd, reduceSub, reduceGT, reduceEqDiff, reduceMul, w64, rgO, it1, it2]
  refine hN _ ?_
  try clear hN N
  refine AW.seq (fun N1 hN1 => ?_)
  refine AW.freezeQ 4 (m1 + 2) _ rfl (upd_same _ _ _) ?_
  simp -dsimp -implicitDefEqProofs (disch := omega) only [go_sem, undef, reduceAdd, reduceSub, reduceGT, reduceEqDiff, reduceMul]
  refine AW.nameH (fun G hG => ?_)
  dsimp only at hG
  have hbx : G nx = some [.i .i64 0, .nl, .nl] := by rw [← hG, upd_ne _ _ (by omega)]; exact (hfr2 nx (by omega) (by omega)).trans h01
  have hsG : ∃ a s, srOk bs a s ∧ G sid = some (srB bs a s) := ⟨a2, s2, ho2, by rw [← hG, upd_ne _ _ (by omega)]; exact hs2⟩
  refine AW.sr envOk (fun N hN => ?_)
  simp -dsimp -implicitDefEqProofs (disch := omega) only [go_sem, undef, reduceAdd, reduceSub, reduceGT, reduceEqDiff, reduceMul, w64, rgO, it1, it2, Nat.sub_zero, List.drop_zero]
  have hI : GdI bs nx (m1 + 3) m2 sid n P q X Y G H2 := ⟨(hV.keep (fun j h1 h2 => by rw [← hG, upd_ne _ _ (by omega)]) (Nat.le_refl _)).lo (by omega), ⟨⟨by omega, by omega⟩, by omega⟩, hsG, hbx, fun i g1 g2 => by rw [← hG, upd_ne _ _ (by omega)]⟩
  clear hG
  obtain ⟨a3, s3, ho3, hs3⟩ := hI.src
  refine (spec_l01Next_o bs a3 s3 ho3 3 (by omega) _ _ sid hs3).mono2 ?_
  rintro m3 H3 r3 hm3 ⟨x, a4, s4, rfl, hx, ho4, rfl⟩
  replace hI := hI.nxt ho4
  try rw [upd_upd] at hI
  try simp -dsimp -implicitDefEqProofs (disch := omega) only [go_sem, undef, reduceAdd, reduceSub, reduceGT, reduceEqDiff, reduceMul, w64, rgO, it1, it2, Nat.sub_zero, List.drop_zero]
  refine gopB.mk' (fun h1 => ?_) (fun h1 => ?_)
  ·try simp only [cn] at h1
   try simp -dsimp -implicitDefEqProofs (disch := omega) only [go_sem, undef, reduceAdd, reduceSub, reduceGT, reduceEqDiff, reduceMul, w64, rgO, it1, it2, Nat.sub_zero, List.drop_zero]
   refine AC.pure (.lent (spec_IsLieShape_ok p X (Y.drop o) (hI.rg.rl hn.2)) (.cons hI.rg.vw .nil) (.b _)) ?_
   try simp -dsimp -implicitDefEqProofs (disch := omega) only [go_sem, undef, reduceAdd, reduceSub, reduceGT, reduceEqDiff, reduceMul, w64, rgO, it1, it2, Nat.sub_zero, List.drop_zero]
   refine gopB.mk' (fun h2 => ?_) (fun h2 => ?_)
   ·try simp only [cn] at h2
    have ho0 : o = 0 := by
     have q1 := h2.2.2.1
     rw [List.length_drop, hI.rg.yl, hI.rg.xl] at q1
     omega
    subst ho0
    try simp -dsimp -implicitDefEqProofs (disch := omega) only [go_sem, undef, reduceAdd, reduceSub, reduceGT, reduceEqDiff, reduceMul, w64, rgO, it1, it2, Nat.sub_zero, List.drop_zero]
    refine hN _ ?_
    try clear hN N
    refine AW.cond rfl (fun h3 => ?_) (fun h3 => ?_)
    ·try simp only [cn] at h3
     refine AW.sr envOk (fun N hN => ?_)
     simp -dsimp -implicitDefEqProofs (disch := omega) only [go_sem, undef, reduceAdd, reduceSub, reduceGT, reduceEqDiff, reduceMul, w64, rgO, it1, it2, Nat.sub_zero, List.drop_zero]
     obtain ⟨a3, s3, ho3, hs3⟩ := hI.src
     refine (spec_l01Next_o bs a3 s3 ho3 ((n : Int) - 1) (by omega) _ _ sid hs3).mono2 ?_
     rintro m4 H3 r3 hm4 ⟨i, a4, s4, rfl, hi, ho4, rfl⟩
     replace hI := hI.nxt ho4
     try rw [upd_upd] at hI
     obtain ⟨i, rfl⟩ : ∃ k : Nat, i = k := ⟨i.toNat, by omega⟩
     try simp -dsimp -implicitDefEqProofs (disch := omega) only [go_sem, undef, reduceAdd, reduceSub, reduceGT, reduceEqDiff, reduceMul, w64, rgO, it1, it2, Nat.sub_zero, List.drop_zero]
     refine hN _ ?_
     try clear hN N
     refine AW.sr envOk (fun N hN => ?_)
     simp -dsimp -implicitDefEqProofs (disch := omega) only [go_sem, undef, reduceAdd, reduceSub, reduceGT, reduceEqDiff, reduceMul, w64, rgO, it1, it2, Nat.sub_zero, List.drop_zero]
     obtain ⟨a3, s3, ho3, hs3⟩ := hI.src
     refine (spec_l01Next_o bs a3 s3 ho3 ((n : Int) - 1 - i) (by omega) _ _ sid hs3).mono2 ?_
     rintro m5 H3 r3 hm5 ⟨y, a4, s4, rfl, hy, ho4, rfl⟩
     replace hI := hI.nxt ho4
     try rw [upd_upd] at hI
     obtain ⟨y, rfl⟩ : ∃ k : Nat, y = k := ⟨y.toNat, by omega⟩
     have e9 : ((i : Int) + 1 + y - i - 1).toNat = y := by omega
     try simp -dsimp -implicitDefEqProofs (disch := omega) only [go_sem, undef, reduceAdd, reduceSub, reduceGT, reduceEqDiff, reduceMul, w64, rgO, it1, it2, Nat.sub_zero, List.drop_zero]
     refine hN _ ?_
     try clear hN N
     refine AW.nameH (fun G hG => ?_)
     dsimp only at hG
     rw [hG] at hI
     clear hG
     obtain ⟨hGq, hYl, hqm, hqP⟩ := hI.rg.hq i (by omega)
     refine AW.seq (fun N hN => ?_)
     refine AW.drawF envOk (by kernel_rfl) [true, true, true, true, true, true, true, true, true, true, true, true, true, false, true, false] (by kernel_rfl) ?_
     simp -dsimp -implicitDefEqProofs (disch := omega) only [go_sem, undef, reduceAdd, reduceSub, reduceGT, reduceEqDiff, reduceMul, w64, rgO, it1, it2, Nat.sub_zero, List.drop_zero, hGq, hYl, e9]
     obtain ⟨a9, s9, ho9, hs9⟩ := hI.src
     refine (spec_l31Tail_z bs a9 s9 ho9 p (by omega) n P (bcV q n) one_bcV hn.2 ((i : Int) + 1 + y + 1) (by omega) (by omega) _ _ sid hs9).mono2 ?_
     rintro m6 H9 r9 hm6 ⟨w9, a8, s8, rfl, hw9, ho8, hf9⟩
     replace hI := hI.tail (by omega) hf9 ho8
     have hGP := hI.rg.hp
     have hXl := hI.rg.xl
     obtain ⟨hGq, hYl, hqm, hqP⟩ := hI.rg.hq i (by omega)
     try simp -dsimp -implicitDefEqProofs (disch := omega) only [go_sem, undef, reduceAdd, reduceSub, reduceGT, reduceEqDiff, reduceMul, w64, it1, it2, hGP, hXl, hGq, hYl, e9]
     refine hN _ ?_
     try clear hN N
     refine AW.nameH (fun G hG => ?_)
     dsimp only at hG
     obtain ⟨Y, hI⟩ := hI.stB (k := i) (l := y) (w := w9) (by omega) (by omega) (by omega)
     rw [hG] at hI
     clear hG
     refine AW.sr envOk (fun N hN => ?_)
     simp -dsimp -implicitDefEqProofs (disch := omega) only [go_sem, undef, reduceAdd, reduceSub, reduceGT, reduceEqDiff, reduceMul, w64, rgO, it1, it2, Nat.sub_zero, List.drop_zero]
     obtain ⟨a3, s3, ho3, hs3⟩ := hI.src
     refine (spec_l01Next_o bs a3 s3 ho3 2 (by omega) _ _ sid hs3).mono2 ?_
     rintro m7 H3 r3 hm7 ⟨z, a4, s4, rfl, hz, ho4, rfl⟩
     replace hI := hI.nxt ho4
     try rw [upd_upd] at hI
     try simp -dsimp -implicitDefEqProofs (disch := omega) only [go_sem, undef, reduceAdd, reduceSub, reduceGT, reduceEqDiff, reduceMul, w64, rgO, it1, it2, Nat.sub_zero, List.drop_zero]
     refine hN _ ?_
     try clear hN N
     refine AW.cond rfl (fun h4 => ?_) (fun h4 => ?_)
     ·try simp only [cn] at h4
      refine AW.nameH (fun G hG => ?_)
      dsimp only at hG
      rw [hG] at hI
      clear hG
      have hGP := hI.rg.hp
      have hXl := hI.rg.xl
      refine AW.drawF envOk (by kernel_rfl) [true, true, true, true, true, true, true, false, true, false] (by kernel_rfl) ?_
      simp -dsimp -implicitDefEqProofs (disch := omega) only [go_sem, undef, reduceAdd, reduceSub, reduceGT, reduceEqDiff, reduceMul, w64, rgO, it1, it2, Nat.sub_zero, List.drop_zero, hGP, hXl]
      obtain ⟨a9, s9, ho9, hs9⟩ := hI.src
      refine (spec_l31Tail_z bs a9 s9 ho9 p (by omega) n P (bcV q n) one_bcV hn.2 ((i : Int) + 1) (by omega) (by omega) _ _ sid hs9).mono2 ?_
      rintro m8 H9 r9 hm8 ⟨w9, a8, s8, rfl, hw9, ho8, hf9⟩
      replace hI := hI.tail (by omega) hf9 ho8
      have hGP := hI.rg.hp
      have hXl := hI.rg.xl
      obtain ⟨hGq, hYl, hqm, hqP⟩ := hI.rg.hq i (by omega)
      try simp -dsimp -implicitDefEqProofs (disch := omega) only [go_sem, undef, reduceAdd, reduceSub, reduceGT, reduceEqDiff, reduceMul, w64, it1, it2, hGP, hXl, hGq, hYl, e9]
      refine hN1 _ ?_
      try clear hN1 N1
      first| (refine AW.nameH (fun G hG => ?_); dsimp only at hG; (try simp only [upd_upd] at hI); rw [hG] at hI; have hbx := hI.bx)| (refine AW.nameH (fun G hG => ?_); dsimp only at hG; obtain ⟨X, hI⟩ := hI.stP (k := i) (w := w9) (by omega) (by omega); rw [hG] at hI; have hbx := hI.bx)| skip
      refine AW.sr envOk (fun N hN => ?_)
      simp -dsimp -implicitDefEqProofs (disch := omega) only [go_sem, undef, reduceAdd, reduceSub, reduceGT, reduceEqDiff, reduceMul, w64, rgO, it1, it2, Nat.sub_zero, List.drop_zero, hbx]
      refine hN _ ?_
      try clear hN N
      refine AW.ret ?_
      simp -dsimp -implicitDefEqProofs (disch := omega) only [go_sem, undef, reduceAdd, reduceSub, reduceGT, reduceEqDiff, reduceMul]
      first
      | exact ⟨_, fun _ _ h => h, .inl ⟨0, n, p, P, q, X, Y, by omega, hn, rfl, (hI.rg.keep (fun j g1 g2 => by simp (disch := omega) only [upd_ne]) (by omega)).lo (by omega)⟩⟩
      | exact ⟨_, fun _ _ h => h, .inl ⟨o, n, p, P, q, X, Y, by omega, hn, rfl, (hI.rg.keep (fun j g1 g2 => by simp (disch := omega) only [upd_ne]) (by omega)).lo (by omega)⟩⟩
      | exact ⟨_, fun _ _ h => h, .inr rfl⟩
     ·try simp only [cn] at h4
      refine AW.skip ?_
      simp only [thn, blk]
      refine hN1 _ ?_
      try clear hN1 N1
      first| (refine AW.nameH (fun G hG => ?_); dsimp only at hG; (try simp only [upd_upd] at hI); rw [hG] at hI; have hbx := hI.bx)| (refine AW.nameH (fun G hG => ?_); dsimp only at hG; obtain ⟨X, hI⟩ := hI.stP (k := i) (w := w9) (by omega) (by omega); rw [hG] at hI; have hbx := hI.bx)| skip
      refine AW.sr envOk (fun N hN => ?_)
      simp -dsimp -implicitDefEqProofs (disch := omega) only [go_sem, undef, reduceAdd, reduceSub, reduceGT, reduceEqDiff, reduceMul, w64, rgO, it1, it2, Nat.sub_zero, List.drop_zero, hbx]
      refine hN _ ?_
      try clear hN N
      refine AW.ret ?_
      simp -dsimp -implicitDefEqProofs (disch := omega) only [go_sem, undef, reduceAdd, reduceSub, reduceGT, reduceEqDiff, reduceMul]
      first
      | exact ⟨_, fun _ _ h => h, .inl ⟨0, n, p, P, q, X, Y, by omega, hn, rfl, (hI.rg.keep (fun j g1 g2 => by simp (disch := omega) only [upd_ne]) (by omega)).lo (by omega)⟩⟩
      | exact ⟨_, fun _ _ h => h, .inl ⟨o, n, p, P, q, X, Y, by omega, hn, rfl, (hI.rg.keep (fun j g1 g2 => by simp (disch := omega) only [upd_ne]) (by omega)).lo (by omega)⟩⟩
      | exact ⟨_, fun _ _ h => h, .inr rfl⟩
    ·try simp only [cn] at h3
     refine AW.skip ?_
     simp only [thn, blk]
     refine hN1 _ ?_
     try clear hN1 N1
     first| (refine AW.nameH (fun G hG => ?_); dsimp only at hG; (try simp only [upd_upd] at hI); rw [hG] at hI; have hbx := hI.bx)| (refine AW.nameH (fun G hG => ?_); dsimp only at hG; obtain ⟨X, hI⟩ := hI.stP (k := i) (w := w9) (by omega) (by omega); rw [hG] at hI; have hbx := hI.bx)| skip
     refine AW.sr envOk (fun N hN => ?_)
     simp -dsimp -implicitDefEqProofs (disch := omega) only [go_sem, undef, reduceAdd, reduceSub, reduceGT, reduceEqDiff, reduceMul, w64, rgO, it1, it2, Nat.sub_zero, List.drop_zero, hbx]
     refine hN _ ?_
     try clear hN N
     refine AW.ret ?_
     simp -dsimp -implicitDefEqProofs (disch := omega) only [go_sem, undef, reduceAdd, reduceSub, reduceGT, reduceEqDiff, reduceMul]
     first
     | exact ⟨_, fun _ _ h => h, .inl ⟨0, n, p, P, q, X, Y, by omega, hn, rfl, (hI.rg.keep (fun j g1 g2 => by simp (disch := omega) only [upd_ne]) (by omega)).lo (by omega)⟩⟩
     | exact ⟨_, fun _ _ h => h, .inl ⟨o, n, p, P, q, X, Y, by omega, hn, rfl, (hI.rg.keep (fun j g1 g2 => by simp (disch := omega) only [upd_ne]) (by omega)).lo (by omega)⟩⟩
     | exact ⟨_, fun _ _ h => h, .inr rfl⟩
   ·try simp only [cn] at h2
    try simp -dsimp -implicitDefEqProofs (disch := omega) only [go_sem, undef, reduceAdd, reduceSub, reduceGT, reduceEqDiff, reduceMul, w64, rgO, it1, it2, Nat.sub_zero, List.drop_zero]
    refine hN _ ?_
    try clear hN N
    refine AW.condF rfl ?_
    refine AW.skip ?_
    simp only [thn, blk]
    refine hN1 _ ?_
    try clear hN1 N1
    first| (refine AW.nameH (fun G hG => ?_); dsimp only at hG; (try simp only [upd_upd] at hI); rw [hG] at hI; have hbx := hI.bx)| (refine AW.nameH (fun G hG => ?_); dsimp only at hG; obtain ⟨X, hI⟩ := hI.stP (k := i) (w := w9) (by omega) (by omega); rw [hG] at hI; have hbx := hI.bx)| skip
    refine AW.sr envOk (fun N hN => ?_)
    simp -dsimp -implicitDefEqProofs (disch := omega) only [go_sem, undef, reduceAdd, reduceSub, reduceGT, reduceEqDiff, reduceMul, w64, rgO, it1, it2, Nat.sub_zero, List.drop_zero, hbx]
    refine hN _ ?_
    try clear hN N
    refine AW.ret ?_
    simp -dsimp -implicitDefEqProofs (disch := omega) only [go_sem, undef, reduceAdd, reduceSub, reduceGT, reduceEqDiff, reduceMul]
    first
    | exact ⟨_, fun _ _ h => h, .inl ⟨0, n, p, P, q, X, Y, by omega, hn, rfl, (hI.rg.keep (fun j g1 g2 => by simp (disch := omega) only [upd_ne]) (by omega)).lo (by omega)⟩⟩
    | exact ⟨_, fun _ _ h => h, .inl ⟨o, n, p, P, q, X, Y, by omega, hn, rfl, (hI.rg.keep (fun j g1 g2 => by simp (disch := omega) only [upd_ne]) (by omega)).lo (by omega)⟩⟩
    | exact ⟨_, fun _ _ h => h, .inr rfl⟩
  ·try simp only [cn] at h1
   try simp -dsimp -implicitDefEqProofs (disch := omega) only [go_sem, undef, reduceAdd, reduceSub, reduceGT, reduceEqDiff, reduceMul, w64, rgO, it1, it2, Nat.sub_zero, List.drop_zero]
   refine hN _ ?_
   try clear hN N
   refine AW.condF rfl ?_
   refine AW.skip ?_
   simp only [thn, blk]
   refine hN1 _ ?_
   try clear hN1 N1
   first| (refine AW.nameH (fun G hG => ?_); dsimp only at hG; (try simp only [upd_upd] at hI); rw [hG] at hI; have hbx := hI.bx)| (refine AW.nameH (fun G hG => ?_); dsimp only at hG; obtain ⟨X, hI⟩ := hI.stP (k := i) (w := w9) (by omega) (by omega); rw [hG] at hI; have hbx := hI.bx)| skip
   refine AW.sr envOk (fun N hN => ?_)
   simp -dsimp -implicitDefEqProofs (disch := omega) only [go_sem, undef, reduceAdd, reduceSub, reduceGT, reduceEqDiff, reduceMul, w64, rgO, it1, it2, Nat.sub_zero, List.drop_zero, hbx]
   refine hN _ ?_
   try clear hN N
   refine AW.ret ?_
   simp -dsimp -implicitDefEqProofs (disch := omega) only [go_sem, undef, reduceAdd, reduceSub, reduceGT, reduceEqDiff, reduceMul]
   first
   | exact ⟨_, fun _ _ h => h, .inl ⟨0, n, p, P, q, X, Y, by omega, hn, rfl, (hI.rg.keep (fun j g1 g2 => by simp (disch := omega) only [upd_ne]) (by omega)).lo (by omega)⟩⟩
   | exact ⟨_, fun _ _ h => h, .inl ⟨o, n, p, P, q, X, Y, by omega, hn, rfl, (hI.rg.keep (fun j g1 g2 => by simp (disch := omega) only [upd_ne]) (by omega)).lo (by omega)⟩⟩
   | exact ⟨_, fun _ _ h => h, .inr rfl⟩
 ·skip
  try simp -dsimp -implicitDefEqProofs (disch := omega) only [go_sem, undef, reduceAdd, reduceSub, reduceGT, reduceEqDiff, reduceMul, w64, rgO, it1, it2]
  refine hN _ ?_
  try clear hN N
  refine AW.seq (fun N2 hN2 => ?_)
  refine AW.freezeQ 4 (m1 + 2) _ rfl (upd_same _ _ _) ?_
  simp -dsimp -implicitDefEqProofs (disch := omega) only [go_sem, undef, reduceAdd, reduceSub, reduceGT, reduceEqDiff, reduceMul]
  refine AW.nameH (fun G hG => ?_)
  dsimp only at hG
  have hbx : G nx = some [.i .i64 0, .nl, .nl] := by rw [← hG, upd_ne _ _ (by omega)]; exact (hfr2 nx (by omega) (by omega)).trans h01
  have hsG : ∃ a s, srOk bs a s ∧ G sid = some (srB bs a s) := ⟨a2, s2, ho2, by rw [← hG, upd_ne _ _ (by omega)]; exact hs2⟩
  refine AW.sr envOk (fun N hN => ?_)
  simp -dsimp -implicitDefEqProofs (disch := omega) only [go_sem, undef, reduceAdd, reduceSub, reduceGT, reduceEqDiff, reduceMul, w64, rgO, it1, it2, Nat.sub_zero, List.drop_zero]
  clear hG
  obtain ⟨a3, s3, ho3, hs3⟩ := hsG
  refine (spec_l01Next_o bs a3 s3 ho3 3 (by omega) _ _ sid hs3).mono2 ?_
  rintro m3 H3 r3 hm3 ⟨x, a4, s4, rfl, hx, ho4, rfl⟩
  try simp -dsimp -implicitDefEqProofs (disch := omega) only [go_sem, undef, reduceAdd, reduceSub, reduceGT, reduceEqDiff, reduceMul, w64, rgO, it1, it2, Nat.sub_zero, List.drop_zero]
  refine gopB.mk' (fun h5 => ?_) (fun h5 => ?_)
  ·try simp only [cn] at h5
   try simp -dsimp -implicitDefEqProofs (disch := omega) only [go_sem, undef, reduceAdd, reduceSub, reduceGT, reduceEqDiff, reduceMul, w64, rgO, it1, it2, Nat.sub_zero, List.drop_zero]
   refine AC.pure (.lent (spec_IsLieShape_ok 3 [] [] ⟨by simp, by simp, by simp, by simp, by simp⟩) (.cons nil_vw .nil) (.b _)) ?_
   try simp -dsimp -implicitDefEqProofs (disch := omega) only [go_sem, undef, reduceAdd, reduceSub, reduceGT, reduceEqDiff, reduceMul, w64, rgO, it1, it2, Nat.sub_zero, List.drop_zero]
   refine gopB.mk' (fun h6 => ?_) (fun h6 => ?_)
   ·try simp only [cn] at h6
    try simp -dsimp -implicitDefEqProofs (disch := omega) only [go_sem, undef, reduceAdd, reduceSub, reduceGT, reduceEqDiff, reduceMul, w64, rgO, it1, it2, Nat.sub_zero, List.drop_zero]
    refine hN _ ?_
    try clear hN N
    refine AW.cond rfl (fun h7 => ?_) (fun h7 => ?_)
    ·try simp only [cn] at h7
     omega
    ·try simp only [cn] at h7
     refine AW.skip ?_
     simp only [thn, blk]
     refine hN2 _ ?_
     try clear hN2 N2
     first| (refine AW.nameH (fun G hG => ?_); dsimp only at hG; (try simp only [upd_upd] at hI); rw [hG] at hI; have hbx := hI.bx)| (refine AW.nameH (fun G hG => ?_); dsimp only at hG; obtain ⟨X, hI⟩ := hI.stP (k := i) (w := w9) (by omega) (by omega); rw [hG] at hI; have hbx := hI.bx)| skip
     refine AW.sr envOk (fun N hN => ?_)
     simp -dsimp -implicitDefEqProofs (disch := omega) only [go_sem, undef, reduceAdd, reduceSub, reduceGT, reduceEqDiff, reduceMul, w64, rgO, it1, it2, Nat.sub_zero, List.drop_zero, hbx]
     refine hN _ ?_
     try clear hN N
     refine AW.ret ?_
     simp -dsimp -implicitDefEqProofs (disch := omega) only [go_sem, undef, reduceAdd, reduceSub, reduceGT, reduceEqDiff, reduceMul]
     first
     | exact ⟨_, fun _ _ h => h, .inl ⟨0, n, p, P, q, X, Y, by omega, hn, rfl, (hI.rg.keep (fun j g1 g2 => by simp (disch := omega) only [upd_ne]) (by omega)).lo (by omega)⟩⟩
     | exact ⟨_, fun _ _ h => h, .inl ⟨o, n, p, P, q, X, Y, by omega, hn, rfl, (hI.rg.keep (fun j g1 g2 => by simp (disch := omega) only [upd_ne]) (by omega)).lo (by omega)⟩⟩
     | exact ⟨_, fun _ _ h => h, .inr rfl⟩
   ·try simp only [cn] at h6
    try simp -dsimp -implicitDefEqProofs (disch := omega) only [go_sem, undef, reduceAdd, reduceSub, reduceGT, reduceEqDiff, reduceMul, w64, rgO, it1, it2, Nat.sub_zero, List.drop_zero]
    refine hN _ ?_
    try clear hN N
    refine AW.condF rfl ?_
    refine AW.skip ?_
    simp only [thn, blk]
    refine hN2 _ ?_
    try clear hN2 N2
    first| (refine AW.nameH (fun G hG => ?_); dsimp only at hG; (try simp only [upd_upd] at hI); rw [hG] at hI; have hbx := hI.bx)| (refine AW.nameH (fun G hG => ?_); dsimp only at hG; obtain ⟨X, hI⟩ := hI.stP (k := i) (w := w9) (by omega) (by omega); rw [hG] at hI; have hbx := hI.bx)| skip
    refine AW.sr envOk (fun N hN => ?_)
    simp -dsimp -implicitDefEqProofs (disch := omega) only [go_sem, undef, reduceAdd, reduceSub, reduceGT, reduceEqDiff, reduceMul, w64, rgO, it1, it2, Nat.sub_zero, List.drop_zero, hbx]
    refine hN _ ?_
    try clear hN N
    refine AW.ret ?_
    simp -dsimp -implicitDefEqProofs (disch := omega) only [go_sem, undef, reduceAdd, reduceSub, reduceGT, reduceEqDiff, reduceMul]
    first
    | exact ⟨_, fun _ _ h => h, .inl ⟨0, n, p, P, q, X, Y, by omega, hn, rfl, (hI.rg.keep (fun j g1 g2 => by simp (disch := omega) only [upd_ne]) (by omega)).lo (by omega)⟩⟩
    | exact ⟨_, fun _ _ h => h, .inl ⟨o, n, p, P, q, X, Y, by omega, hn, rfl, (hI.rg.keep (fun j g1 g2 => by simp (disch := omega) only [upd_ne]) (by omega)).lo (by omega)⟩⟩
    | exact ⟨_, fun _ _ h => h, .inr rfl⟩
  ·try simp only [cn] at h5
   try simp -dsimp -implicitDefEqProofs (disch := omega) only [go_sem, undef, reduceAdd, reduceSub, reduceGT, reduceEqDiff, reduceMul, w64, rgO, it1, it2, Nat.sub_zero, List.drop_zero]
   refine hN _ ?_
   try clear hN N
   refine AW.condF rfl ?_
   refine AW.skip ?_
   simp only [thn, blk]
   refine hN2 _ ?_
   try clear hN2 N2
   first| (refine AW.nameH (fun G hG => ?_); dsimp only at hG; (try simp only [upd_upd] at hI); rw [hG] at hI; have hbx := hI.bx)| (refine AW.nameH (fun G hG => ?_); dsimp only at hG; obtain ⟨X, hI⟩ := hI.stP (k := i) (w := w9) (by omega) (by omega); rw [hG] at hI; have hbx := hI.bx)| skip
   refine AW.sr envOk (fun N hN => ?_)
   simp -dsimp -implicitDefEqProofs (disch := omega) only [go_sem, undef, reduceAdd, reduceSub, reduceGT, reduceEqDiff, reduceMul, w64, rgO, it1, it2, Nat.sub_zero, List.drop_zero, hbx]
   refine hN _ ?_
   try clear hN N
   refine AW.ret ?_
   simp -dsimp -implicitDefEqProofs (disch := omega) only [go_sem, undef, reduceAdd, reduceSub, reduceGT, reduceEqDiff, reduceMul]
   first
   | exact ⟨_, fun _ _ h => h, .inl ⟨0, n, p, P, q, X, Y, by omega, hn, rfl, (hI.rg.keep (fun j g1 g2 => by simp (disch := omega) only [upd_ne]) (by omega)).lo (by omega)⟩⟩
   | exact ⟨_, fun _ _ h => h, .inl ⟨o, n, p, P, q, X, Y, by omega, hn, rfl, (hI.rg.keep (fun j g1 g2 => by simp (disch := omega) only [upd_ne]) (by omega)).lo (by omega)⟩⟩
   | exact ⟨_, fun _ _ h => h, .inr rfl⟩

end Go.Proofs.Ytdghgmgppecncaa
