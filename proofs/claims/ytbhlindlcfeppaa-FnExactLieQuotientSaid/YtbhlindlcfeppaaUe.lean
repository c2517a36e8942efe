/-
  The law FnExactLieQuotient: it answers true, whatever it is given.
-/
import Derived.Test.YtbhlindlcfeppaaUc
import Derived.Test.YtbhlindlcfeppaaUd
set_option linter.unusedVariables false
set_option linter.unusedSimpArgs false
namespace Go.Proofs.Ytbhlindlcfeppaa
open Nat (reduceAdd reduceSub reduceGT reduceEqDiff reduceMul)

theorem tot_le2 {xs : List (List Int)} {n : Nat} (h : ∀ x ∈ xs, x.length ≤ n) : tot xs ≤ n * xs.length := by
  induction xs with
  | nil => simp [tot]
  | cons x xs ih =>
    have h1 := h x (by simp)
    have h2 := ih (fun y hy => h y (by simp [hy]))
    simp only [tot, List.length_cons, Nat.mul_succ]; omega
/-- A small ring. -/
structure ringsml (X : List (List Int)) (Y : List (List (List Int))) : Prop where
  x : rowslen X
  t : tot X ≤ 1000000000000
  y : cubesml Y
theorem ringsml.nil : ringsml [] [] := ⟨.nil, by simp [tot], .nil⟩
theorem imgL_len {p : Int} {pw u : List (List Int)} {x : List Int} : (imgL p pw u x).length = qM pw u := by unfold imgL; rw [imgK_len]; rfl
theorem quo_sml {p : Int} {pw : List (List Int)} {br : List (List (List Int))} {u : List (List Int)} (h6 : pw.length ≤ 6) : ringsml (qP p pw u) (qB p pw br u) := by
  have hm := qM_le (pw := pw) (u := u)
  have h1 : ∀ x ∈ qP p pw u, x.length ≤ 6 := fun x hx => by
    obtain ⟨a, _, rfl⟩ := List.mem_map.1 hx
    rw [imgL_len]; omega
  have hl := qP_len (p := p) (pw := pw) (u := u)
  refine ⟨⟨by omega, fun x hx => by have := h1 x hx; omega⟩, ?_, ⟨by rw [qB_len]; omega, fun x hx => ?_⟩⟩
  · have := tot_le2 h1; omega
  · obtain ⟨a, _, rfl⟩ := List.mem_map.1 hx
    refine ⟨by rw [qR_len]; omega, fun y hy => ?_⟩
    obtain ⟨k, _, rfl⟩ := List.mem_map.1 hy
    rw [imgL_len]; omega
theorem quoM_sml {p : Int} {pw : List (List Int)} {br : List (List (List Int))} {u : List (List Int)} {b : Bool} : ringsml (quoM p pw br u (tf (SpnP p pw br u)) b).1.2.1 (quoM p pw br u (tf (SpnP p pw br u)) b).1.2.2 := by
  by_cases h : SpnP p pw br u
  · rw [tf_t h]
    cases b with
    | true => exact quo_sml h.1.1.tri.n6
    | false => exact .nil
  · rw [tf_f h]; exact .nil

theorem law_LieQuotient (p : Int) (pw : List (List Int)) (br : List (List (List Int))) (u : List (List Int)) (h0 : i64ok p) (hpw : rowsok pw) (hbr : cubesok br) (hi_u : rowsok u) : ACp Try.prog 9 [ring p pw br, rows u] (.b true) := by
 obtain ⟨M, hM⟩ : ∃ M, quoM p pw br u (tf (SpnP p pw br u)) (tf (within p pw u (brkLL p pw br u (wholeL pw.length)))) = M := ⟨_, rfl⟩
 refine ACp.intro' envOk Try.func9 rfl (by kernel_rfl) Try.ntmps9 Try.results9 (.b _) (fun nx => ?_)
 refine AW.sr envOk (fun N hN => ?_)
 simp -dsimp -implicitDefEqProofs (disch := omega) only [go_sem, reduceAdd, reduceSub, reduceGT, reduceEqDiff, reduceMul, ring, w64, resG]
 refine hN _ ?_
 try clear hN N
 refine AW.freezeQ 2 nx _ rfl (upd_same _ _ _) ?_
 simp -dsimp -implicitDefEqProofs (disch := omega) only [go_sem, reduceAdd, reduceSub, reduceGT, reduceEqDiff, reduceMul]
 refine AW.sr envOk (fun N hN => ?_)
 simp -dsimp -implicitDefEqProofs (disch := omega) only [go_sem, reduceAdd, reduceSub, reduceGT, reduceEqDiff, reduceMul, ring, w64, resG]
 refine hN _ ?_
 try clear hN N
 refine AW.sr envOk (fun N hN => ?_)
 simp -dsimp -implicitDefEqProofs (disch := omega) only [go_sem, reduceAdd, reduceSub, reduceGT, reduceEqDiff, reduceMul, ring, w64, resG]
 have hsc1 := szR_le pw br (1048576) (by omega)
 refine AC.pure (.of (laws_szLieRing_ok p pw br (1048576) (by omega) (by omega) hpw hbr)) ?_
 try simp -dsimp -implicitDefEqProofs (disch := omega) only [go_sem, reduceAdd, reduceSub, reduceGT, reduceEqDiff, reduceMul, ring, w64, resG]
 refine hN _ ?_
 try clear hN N
 refine AW.seq (fun N1 hN1 => ?_)
 refine AW.sr envOk (fun N hN => ?_)
 simp -dsimp -implicitDefEqProofs (disch := omega) only [go_sem, reduceAdd, reduceSub, reduceGT, reduceEqDiff, reduceMul, ring, w64, resG]
 refine hN _ ?_
 try clear hN N
 refine AW.cond rfl (fun h1 => ?_) (fun h1 => ?_)
 ·try simp only [cn] at h1
  refine AW.sr envOk (fun N hN => ?_)
  simp -dsimp -implicitDefEqProofs (disch := omega) only [go_sem, reduceAdd, reduceSub, reduceGT, reduceEqDiff, reduceMul, ring, w64, resG]
  refine hN _ ?_
  try clear hN N
  refine AW.ret ?_
  simp -dsimp -implicitDefEqProofs (disch := omega) only [go_sem, reduceAdd, reduceSub, reduceGT, reduceEqDiff, reduceMul]
  try (exfalso; first | omega | (simp_all; done))
 ·try simp only [cn] at h1
  obtain ⟨g1, g2⟩ := szR_mem (l := 1048576) (by omega) (by omega) h1
  have hl := ringlen.of g1 g2
  refine AW.skip ?_
  simp only [thn, blk]
  refine hN1 _ ?_
  try clear hN1 N1
  refine AW.sr envOk (fun N hN => ?_)
  simp -dsimp -implicitDefEqProofs (disch := omega) only [go_sem, reduceAdd, reduceSub, reduceGT, reduceEqDiff, reduceMul, ring, w64, resG]
  have hsc2 := szSS_le u (szR pw br (1048576)) (by omega)
  refine AC.pure (.of (szSS_ok u (szR pw br (1048576)) (by omega) (by omega) hi_u )) ?_
  try simp -dsimp -implicitDefEqProofs (disch := omega) only [go_sem, reduceAdd, reduceSub, reduceGT, reduceEqDiff, reduceMul, ring, w64, resG]
  refine hN _ ?_
  try clear hN N
  refine AW.seq (fun N2 hN2 => ?_)
  refine AW.sr envOk (fun N hN => ?_)
  simp -dsimp -implicitDefEqProofs (disch := omega) only [go_sem, reduceAdd, reduceSub, reduceGT, reduceEqDiff, reduceMul, ring, w64, resG]
  refine hN _ ?_
  try clear hN N
  refine AW.cond rfl (fun h2 => ?_) (fun h2 => ?_)
  ·try simp only [cn] at h2
   refine AW.sr envOk (fun N hN => ?_)
   simp -dsimp -implicitDefEqProofs (disch := omega) only [go_sem, reduceAdd, reduceSub, reduceGT, reduceEqDiff, reduceMul, ring, w64, resG]
   refine hN _ ?_
   try clear hN N
   refine AW.ret ?_
   simp -dsimp -implicitDefEqProofs (disch := omega) only [go_sem, reduceAdd, reduceSub, reduceGT, reduceEqDiff, reduceMul]
   try (exfalso; first | omega | (simp_all; done))
  ·try simp only [cn] at h2
   have hl_u := szSS_mem (a := u) (l := szR pw br (1048576)) (by omega) (by omega) h2
   have hto := laws_toLieRing_ok p pw br g1 g2
   have ht_u := toSS_ok u (by have := hl_u.n; omega) (fun x hx => by have := hl_u.v x hx; omega)
   have hML : ringsml M.1.2.1 M.1.2.2 := by rw [← hM]; exact quoM_sml
   have hspec := spec_LieQuotient_ok p pw br hl u hl_u
   have himpl := impl_LieQuotient_ok p pw br hl u hl_u
   rw [hM] at hspec himpl
   have heq := laws_eqLieRing_r M.1.1 M.1.2.1 M.1.2.2 hML.x hML.y.len
   refine AW.skip ?_
   simp only [thn, blk]
   refine hN2 _ ?_
   try clear hN2 N2
   refine AW.sr envOk (fun N hN => ?_)
   simp -dsimp -implicitDefEqProofs (disch := omega) only [go_sem, reduceAdd, reduceSub, reduceGT, reduceEqDiff, reduceMul, ring, w64, resG]
   refine AC.pure (.of (hto.pure )) ?_
   try simp -dsimp -implicitDefEqProofs (disch := omega) only [go_sem, reduceAdd, reduceSub, reduceGT, reduceEqDiff, reduceMul, ring, w64, resG]
   refine AC.pure (.of (ht_u.pure )) ?_
   try simp -dsimp -implicitDefEqProofs (disch := omega) only [go_sem, reduceAdd, reduceSub, reduceGT, reduceEqDiff, reduceMul, ring, w64, resG]
   refine AC.pure (.of (hspec )) ?_
   try simp -dsimp -implicitDefEqProofs (disch := omega) only [go_sem, reduceAdd, reduceSub, reduceGT, reduceEqDiff, reduceMul, ring, w64, resG]
   refine hN _ ?_
   try clear hN N
   refine AW.freezeQ 6 (nx + 2 + 1 + 4 + 2 + 4 + 2 + 8) _ rfl (upd_same _ _ _) ?_
   simp -dsimp -implicitDefEqProofs (disch := omega) only [go_sem, reduceAdd, reduceSub, reduceGT, reduceEqDiff, reduceMul]
   refine AW.sr envOk (fun N hN => ?_)
   simp -dsimp -implicitDefEqProofs (disch := omega) only [go_sem, reduceAdd, reduceSub, reduceGT, reduceEqDiff, reduceMul, ring, w64, resG]
   refine AC.hold hto (.cons (.refl _) .nil) ?_
   intro m6 H6 r_r hm6 hH6 ho_r
   obtain ⟨r1, r2, rfl, u1, u2, ho_r⟩ := ho_r.ring
   try simp -dsimp -implicitDefEqProofs (disch := omega) only [go_sem, reduceAdd, reduceSub, reduceGT, reduceEqDiff, reduceMul, u1, u2]
   refine hN _ ?_
   try clear hN N
   refine AW.freezeQ 8 (nx + 2 + 1 + 4 + 2 + 4 + 2 + 11 + 2) _ rfl (upd_same _ _ _) ?_
   refine AW.nameH (fun G6 hG6 => ?_)
   dsimp only at hG6
   replace ho_r := ho_r.keep (H' := G6) (fun i q1 q2 => by rw [← hG6]; simp (disch := omega) only [upd_ne])
   simp -dsimp -implicitDefEqProofs (disch := omega) only [go_sem, reduceAdd, reduceSub, reduceGT, reduceEqDiff, reduceMul]
   refine AW.sr envOk (fun N hN => ?_)
   simp -dsimp -implicitDefEqProofs (disch := omega) only [go_sem, reduceAdd, reduceSub, reduceGT, reduceEqDiff, reduceMul, ring, w64, resG]
   refine AC.hold ht_u (.cons (.refl _) .nil) ?_
   intro m7 H7 r_u hm7 hH7 ho_u
   replace ho_r := ho_r.keep (fun i q1 q2 => hH7 i (by omega))
   try simp -dsimp -implicitDefEqProofs (disch := omega) only [go_sem, reduceAdd, reduceSub, reduceGT, reduceEqDiff, reduceMul, ring, w64, resG]
   refine hN _ ?_
   try clear hN N
   refine AW.sr envOk (fun N hN => ?_)
   simp -dsimp -implicitDefEqProofs (disch := omega) only [go_sem, reduceAdd, reduceSub, reduceGT, reduceEqDiff, reduceMul, ring, w64, resG]
   refine AC.hold himpl (.cons ho_r.vw (.cons ho_u.vw .nil)) ?_
   intro m8 H8 r_z hm8 hH8 ho_z
   replace ho_r := ho_r.keep (fun i q1 q2 => hH8 i (by omega))
   replace ho_u := ho_u.keep (fun i q1 q2 => hH8 i (by omega))
   obtain ⟨g0, rfl, hg⟩ := ho_z.pair
   obtain ⟨s1, s2, rfl, v1, v2, hg⟩ := hg.ring
   clear ho_z
   try simp -dsimp -implicitDefEqProofs (disch := omega) only [go_sem, reduceAdd, reduceSub, reduceGT, reduceEqDiff, reduceMul, v1, v2]
   refine hN _ ?_
   try clear hN N
   refine AW.seq (fun N3 hN3 => ?_)
   refine AW.freezeQ 10 (m7 + 6) _ rfl (upd_same _ _ _) ?_
   refine AW.nameH (fun G8 hG8 => ?_)
   dsimp only at hG8
   replace ho_r := ho_r.keep (H' := G8) (fun i q1 q2 => by rw [← hG8]; simp (disch := omega) only [upd_ne])
   replace ho_u := ho_u.keep (H' := G8) (fun i q1 q2 => by rw [← hG8]; simp (disch := omega) only [upd_ne])
   replace hg := hg.keep (H' := G8) (fun i q1 q2 => by rw [← hG8]; simp (disch := omega) only [upd_ne])
   simp -dsimp -implicitDefEqProofs (disch := omega) only [go_sem, reduceAdd, reduceSub, reduceGT, reduceEqDiff, reduceMul]
   refine AW.sr envOk (fun N hN => ?_)
   simp -dsimp -implicitDefEqProofs (disch := omega) only [go_sem, reduceAdd, reduceSub, reduceGT, reduceEqDiff, reduceMul, ring, w64, resG]
   refine AC.pure (.lent (heq) (.cons hg.vw (.cons (.refl _) .nil)) (.b _)) ?_
   try simp -dsimp -implicitDefEqProofs (disch := omega) only [go_sem, reduceAdd, reduceSub, reduceGT, reduceEqDiff, reduceMul, ring, w64, resG]
   refine gopB.mk' (fun h3 => ?_) (fun h3 => ?_)
   ·try simp only [cn] at h3
    try simp -dsimp -implicitDefEqProofs (disch := omega) only [go_sem, reduceAdd, reduceSub, reduceGT, reduceEqDiff, reduceMul, ring, w64, resG]
    refine hN _ ?_
    try clear hN N
    refine AW.cond rfl (fun h4 => ?_) (fun h4 => ?_)
    ·try simp only [cn] at h4
     refine AW.sr envOk (fun N hN => ?_)
     simp -dsimp -implicitDefEqProofs (disch := omega) only [go_sem, reduceAdd, reduceSub, reduceGT, reduceEqDiff, reduceMul, ring, w64, resG]
     refine hN _ ?_
     try clear hN N
     refine AW.ret ?_
     simp -dsimp -implicitDefEqProofs (disch := omega) only [go_sem, reduceAdd, reduceSub, reduceGT, reduceEqDiff, reduceMul]
     try (exfalso; first | omega | (simp_all; done))
    ·try simp only [cn] at h4
     refine AW.skip ?_
     simp only [thn, blk]
     refine hN3 _ ?_
     try clear hN3 N3
     refine AW.seq (fun N4 hN4 => ?_)
     refine AW.seq (fun N hN => ?_)
     refine AW.drawL envOk (by kernel_rfl) 5 (by kernel_rfl) ?_
     simp -dsimp -implicitDefEqProofs (disch := omega) only [hr_nil, hr_one, hr_if, List.take_succ_cons, List.take_zero, List.drop_succ_cons, List.drop_zero, List.take_nil, List.drop_nil, go_sem, reduceAdd, reduceSub, reduceGT, reduceEqDiff, reduceMul, ring, w64, resG]
     refine ⟨_, .of (hto.pure ), ?_⟩
     try simp -dsimp -implicitDefEqProofs (disch := omega) only [go_sem, reduceAdd, reduceSub, reduceGT, reduceEqDiff, reduceMul, ring, w64, resG]
     refine ⟨_, .lent (laws_eqLieRing_ok p p pw pw br br hpw hpw hbr hbr) (.cons ho_r.vw (.cons (.refl _) .nil)) (.b _), ?_⟩
     try simp -dsimp -implicitDefEqProofs (disch := omega) only [go_sem, reduceAdd, reduceSub, reduceGT, reduceEqDiff, reduceMul, ring, w64, resG]
     refine hN _ ?_
     try clear hN N
     refine AW.cond rfl (fun h5 => ?_) (fun h5 => ?_)
     ·try simp only [cn] at h5
      refine AW.sr envOk (fun N hN => ?_)
      simp -dsimp -implicitDefEqProofs (disch := omega) only [go_sem, reduceAdd, reduceSub, reduceGT, reduceEqDiff, reduceMul, ring, w64, resG]
      refine hN _ ?_
      try clear hN N
      refine AW.ret ?_
      simp -dsimp -implicitDefEqProofs (disch := omega) only [go_sem, reduceAdd, reduceSub, reduceGT, reduceEqDiff, reduceMul]
      try (exfalso; first | omega | (simp_all; done))
     ·try simp only [cn] at h5
      refine AW.skip ?_
      simp only [thn, blk]
      refine hN4 _ ?_
      try clear hN4 N4
      refine AW.seq (fun N5 hN5 => ?_)
      refine AW.sr envOk (fun N hN => ?_)
      simp -dsimp -implicitDefEqProofs (disch := omega) only [go_sem, reduceAdd, reduceSub, reduceGT, reduceEqDiff, reduceMul, ring, w64, resG]
      refine AC.pure (.of (ht_u.pure )) ?_
      try simp -dsimp -implicitDefEqProofs (disch := omega) only [go_sem, reduceAdd, reduceSub, reduceGT, reduceEqDiff, reduceMul, ring, w64, resG]
      refine AC.pure (.lent (laws_eqInt64SS_ok u u hi_u hi_u) (.cons ho_u.vw (.cons (.refl _) .nil)) (.b _)) ?_
      try simp -dsimp -implicitDefEqProofs (disch := omega) only [go_sem, reduceAdd, reduceSub, reduceGT, reduceEqDiff, reduceMul, ring, w64, resG]
      refine hN _ ?_
      try clear hN N
      refine AW.cond rfl (fun h6 => ?_) (fun h6 => ?_)
      ·try simp only [cn] at h6
       refine AW.sr envOk (fun N hN => ?_)
       simp -dsimp -implicitDefEqProofs (disch := omega) only [go_sem, reduceAdd, reduceSub, reduceGT, reduceEqDiff, reduceMul, ring, w64, resG]
       refine hN _ ?_
       try clear hN N
       refine AW.ret ?_
       simp -dsimp -implicitDefEqProofs (disch := omega) only [go_sem, reduceAdd, reduceSub, reduceGT, reduceEqDiff, reduceMul]
       try (exfalso; first | omega | (simp_all; done))
      ·try simp only [cn] at h6
       refine AW.skip ?_
       simp only [thn, blk]
       refine hN5 _ ?_
       try clear hN5 N5
       refine AW.sr envOk (fun N hN => ?_)
       simp -dsimp -implicitDefEqProofs (disch := omega) only [go_sem, reduceAdd, reduceSub, reduceGT, reduceEqDiff, reduceMul, ring, w64, resG]
       refine hN _ ?_
       try clear hN N
       refine AW.sr envOk (fun N hN => ?_)
       simp -dsimp -implicitDefEqProofs (disch := omega) only [go_sem, reduceAdd, reduceSub, reduceGT, reduceEqDiff, reduceMul, ring, w64, resG]
       refine (markR_h _ _ _ (p, pw, br) _ _ 1 ho_r (by omega) ⟨g1, g2⟩ (by omega) (by omega)).mono2 ?_
       rintro m14 H14 res hm14 ⟨k14, rfl, hk14, hk14', hH14⟩
       replace ho_u := ho_u.keep (fun i q1 q2 => hH14 i (by omega))
       replace hg := hg.keep (fun i q1 q2 => hH14 i (by omega))
       try simp -dsimp -implicitDefEqProofs (disch := omega) only [go_sem, reduceAdd, reduceSub, reduceGT, reduceEqDiff, reduceMul, ring, w64, resG]
       refine hN _ ?_
       try clear hN N
       refine AW.sr envOk (fun N hN => ?_)
       simp -dsimp -implicitDefEqProofs (disch := omega) only [go_sem, reduceAdd, reduceSub, reduceGT, reduceEqDiff, reduceMul, ring, w64, resG]
       refine (laws_markInt64SS_c.h _ _ _ u _ _ k14 ho_u (by omega) hl_u (by omega) (by omega)).mono2 ?_
       rintro m15 H15 res hm15 ⟨k15, rfl, hk15, hk15', hH15⟩
       replace hg := hg.keep (fun i q1 q2 => hH15 i (by omega))
       try simp -dsimp -implicitDefEqProofs (disch := omega) only [go_sem, reduceAdd, reduceSub, reduceGT, reduceEqDiff, reduceMul, ring, w64, resG]
       refine hN _ ?_
       try clear hN N
       refine AW.seq (fun N6 hN6 => ?_)
       refine AW.sr envOk (fun N hN => ?_)
       simp -dsimp -implicitDefEqProofs (disch := omega) only [go_sem, reduceAdd, reduceSub, reduceGT, reduceEqDiff, reduceMul, ring, w64, resG]
       refine gopB.mk' (fun h7 => ?_) (fun h7 => ?_)
       ·try simp only [cn] at h7
        try simp -dsimp -implicitDefEqProofs (disch := omega) only [go_sem, reduceAdd, reduceSub, reduceGT, reduceEqDiff, reduceMul, ring, w64, resG]
        refine AC.pure (.lent (heq) (.cons hg.vw (.cons (.refl _) .nil)) (.b _)) ?_
        try simp -dsimp -implicitDefEqProofs (disch := omega) only [go_sem, reduceAdd, reduceSub, reduceGT, reduceEqDiff, reduceMul, ring, w64, resG]
        refine gopB.mk' (fun h8 => ?_) (fun h8 => ?_)
        ·try simp only [cn] at h8
         try simp -dsimp -implicitDefEqProofs (disch := omega) only [go_sem, reduceAdd, reduceSub, reduceGT, reduceEqDiff, reduceMul, ring, w64, resG]
         refine hN _ ?_
         try clear hN N
         refine AW.cond rfl (fun h9 => ?_) (fun h9 => ?_)
         ·try simp only [cn] at h9
          refine AW.sr envOk (fun N hN => ?_)
          simp -dsimp -implicitDefEqProofs (disch := omega) only [go_sem, reduceAdd, reduceSub, reduceGT, reduceEqDiff, reduceMul, ring, w64, resG]
          refine hN _ ?_
          try clear hN N
          refine AW.ret ?_
          simp -dsimp -implicitDefEqProofs (disch := omega) only [go_sem, reduceAdd, reduceSub, reduceGT, reduceEqDiff, reduceMul]
          try (exfalso; first | omega | (simp_all; done))
         ·try simp only [cn] at h9
          refine AW.skip ?_
          simp only [thn, blk]
          refine hN6 _ ?_
          try clear hN6 N6
          refine AW.sr envOk (fun N hN => ?_)
          simp -dsimp -implicitDefEqProofs (disch := omega) only [go_sem, reduceAdd, reduceSub, reduceGT, reduceEqDiff, reduceMul, ring, w64, resG]
          refine hN _ ?_
          try clear hN N
          refine AW.sr envOk (fun N hN => ?_)
          simp -dsimp -implicitDefEqProofs (disch := omega) only [go_sem, reduceAdd, reduceSub, reduceGT, reduceEqDiff, reduceMul, ring, w64, resG]
          refine (markG_g hML.x hML.y hML.t hg (by omega) (by omega) (by omega)).mono2 ?_
          rintro m17 H17 res hm17 ⟨rfl, hg2, hH17⟩
          try simp -dsimp -implicitDefEqProofs (disch := omega) only [go_sem, reduceAdd, reduceSub, reduceGT, reduceEqDiff, reduceMul, ring, w64, resG]
          refine hN _ ?_
          try clear hN N
          refine AW.sr envOk (fun N hN => ?_)
          simp -dsimp -implicitDefEqProofs (disch := omega) only [go_sem, reduceAdd, reduceSub, reduceGT, reduceEqDiff, reduceMul, ring, w64, resG]
          refine hN _ ?_
          try clear hN N
          refine AW.sr envOk (fun N hN => ?_)
          simp -dsimp -implicitDefEqProofs (disch := omega) only [go_sem, reduceAdd, reduceSub, reduceGT, reduceEqDiff, reduceMul, ring, w64, resG]
          refine AC.pure (.lent (heldG_g hML.x hML.y hML.t (by omega) (by omega)) (.cons hg2.vw (.cons (.refl _) .nil)) (.i _ _)) ?_
          try simp -dsimp -implicitDefEqProofs (disch := omega) only [go_sem, reduceAdd, reduceSub, reduceGT, reduceEqDiff, reduceMul, ring, w64, resG]
          refine hN _ ?_
          try clear hN N
          refine AW.seq (fun N7 hN7 => ?_)
          refine AW.sr envOk (fun N hN => ?_)
          simp -dsimp -implicitDefEqProofs (disch := omega) only [go_sem, reduceAdd, reduceSub, reduceGT, reduceEqDiff, reduceMul, ring, w64, resG]
          refine hN _ ?_
          try clear hN N
          refine AW.cond rfl (fun h10 => ?_) (fun h10 => ?_)
          ·try simp only [cn] at h10
           refine AW.sr envOk (fun N hN => ?_)
           simp -dsimp -implicitDefEqProofs (disch := omega) only [go_sem, reduceAdd, reduceSub, reduceGT, reduceEqDiff, reduceMul, ring, w64, resG]
           refine hN _ ?_
           try clear hN N
           refine AW.ret ?_
           simp -dsimp -implicitDefEqProofs (disch := omega) only [go_sem, reduceAdd, reduceSub, reduceGT, reduceEqDiff, reduceMul]
           try (exfalso; first | omega | (simp_all; done))
          ·try simp only [cn] at h10
           refine AW.skip ?_
           simp only [thn, blk]
           refine hN7 _ ?_
           try clear hN7 N7
           refine AW.seq (fun N8 hN8 => ?_)
           refine AW.sr envOk (fun N hN => ?_)
           simp -dsimp -implicitDefEqProofs (disch := omega) only [go_sem, reduceAdd, reduceSub, reduceGT, reduceEqDiff, reduceMul, ring, w64, resG]
           refine hN _ ?_
           try clear hN N
           refine AW.cond rfl (fun h11 => ?_) (fun h11 => ?_)
           ·try simp only [cn] at h11
            refine AW.sr envOk (fun N hN => ?_)
            simp -dsimp -implicitDefEqProofs (disch := omega) only [go_sem, reduceAdd, reduceSub, reduceGT, reduceEqDiff, reduceMul, ring, w64, resG]
            refine hN _ ?_
            try clear hN N
            refine AW.ret ?_
            simp -dsimp -implicitDefEqProofs (disch := omega) only [go_sem, reduceAdd, reduceSub, reduceGT, reduceEqDiff, reduceMul]
            try (exfalso; first | omega | (simp_all; done))
           ·try simp only [cn] at h11
            refine AW.skip ?_
            simp only [thn, blk]
            refine hN8 _ ?_
            try clear hN8 N8
            refine AW.sr envOk (fun N hN => ?_)
            simp -dsimp -implicitDefEqProofs (disch := omega) only [go_sem, reduceAdd, reduceSub, reduceGT, reduceEqDiff, reduceMul, ring, w64, resG]
            refine AC.pure (.of (hto.pure )) ?_
            try simp -dsimp -implicitDefEqProofs (disch := omega) only [go_sem, reduceAdd, reduceSub, reduceGT, reduceEqDiff, reduceMul, ring, w64, resG]
            refine AC.pure (.of (ht_u.pure )) ?_
            try simp -dsimp -implicitDefEqProofs (disch := omega) only [go_sem, reduceAdd, reduceSub, reduceGT, reduceEqDiff, reduceMul, ring, w64, resG]
            refine AC.pure (.of (himpl.pure )) ?_
            try simp -dsimp -implicitDefEqProofs (disch := omega) only [go_sem, reduceAdd, reduceSub, reduceGT, reduceEqDiff, reduceMul, ring, w64, resG]
            refine hN _ ?_
            try clear hN N
            refine AW.seq (fun N9 hN9 => ?_)
            refine AW.freezeQ 15 (m17 + 1 + 4 + 2 + 3 + 8) _ rfl (upd_same _ _ _) ?_
            refine AW.nameH (fun G9 hG9 => ?_)
            dsimp only at hG9
            replace hg2 := hg2.keep (H' := G9) (fun i q1 q2 => by rw [← hG9]; simp (disch := omega) only [upd_ne])
            simp -dsimp -implicitDefEqProofs (disch := omega) only [go_sem, reduceAdd, reduceSub, reduceGT, reduceEqDiff, reduceMul]
            refine AW.sr envOk (fun N hN => ?_)
            simp -dsimp -implicitDefEqProofs (disch := omega) only [go_sem, reduceAdd, reduceSub, reduceGT, reduceEqDiff, reduceMul, ring, w64, resG]
            refine AC.pure (.of (heq )) ?_
            try simp -dsimp -implicitDefEqProofs (disch := omega) only [go_sem, reduceAdd, reduceSub, reduceGT, reduceEqDiff, reduceMul, ring, w64, resG]
            refine gopB.mk' (fun h12 => ?_) (fun h12 => ?_)
            ·try simp only [cn] at h12
             try simp -dsimp -implicitDefEqProofs (disch := omega) only [go_sem, reduceAdd, reduceSub, reduceGT, reduceEqDiff, reduceMul, ring, w64, resG]
             refine hN _ ?_
             try clear hN N
             refine AW.cond rfl (fun h13 => ?_) (fun h13 => ?_)
             ·try simp only [cn] at h13
              refine AW.sr envOk (fun N hN => ?_)
              simp -dsimp -implicitDefEqProofs (disch := omega) only [go_sem, reduceAdd, reduceSub, reduceGT, reduceEqDiff, reduceMul, ring, w64, resG]
              refine hN _ ?_
              try clear hN N
              refine AW.ret ?_
              simp -dsimp -implicitDefEqProofs (disch := omega) only [go_sem, reduceAdd, reduceSub, reduceGT, reduceEqDiff, reduceMul]
              try (exfalso; first | omega | (simp_all; done))
             ·try simp only [cn] at h13
              refine AW.skip ?_
              simp only [thn, blk]
              refine hN9 _ ?_
              try clear hN9 N9
              refine AW.sr envOk (fun N hN => ?_)
              simp -dsimp -implicitDefEqProofs (disch := omega) only [go_sem, reduceAdd, reduceSub, reduceGT, reduceEqDiff, reduceMul, ring, w64, resG]
              refine hN _ ?_
              try clear hN N
              refine AW.sr envOk (fun N hN => ?_)
              simp -dsimp -implicitDefEqProofs (disch := omega) only [go_sem, reduceAdd, reduceSub, reduceGT, reduceEqDiff, reduceMul, ring, w64, resG]
              refine AC.pure (.lent (heldG_g hML.x hML.y hML.t (by omega) (by omega)) (.cons hg2.vw (.cons (.refl _) .nil)) (.i _ _)) ?_
              try simp -dsimp -implicitDefEqProofs (disch := omega) only [go_sem, reduceAdd, reduceSub, reduceGT, reduceEqDiff, reduceMul, ring, w64, resG]
              refine hN _ ?_
              try clear hN N
              refine AW.seq (fun N10 hN10 => ?_)
              refine AW.sr envOk (fun N hN => ?_)
              simp -dsimp -implicitDefEqProofs (disch := omega) only [go_sem, reduceAdd, reduceSub, reduceGT, reduceEqDiff, reduceMul, ring, w64, resG]
              refine hN _ ?_
              try clear hN N
              refine AW.cond rfl (fun h14 => ?_) (fun h14 => ?_)
              ·try simp only [cn] at h14
               refine AW.sr envOk (fun N hN => ?_)
               simp -dsimp -implicitDefEqProofs (disch := omega) only [go_sem, reduceAdd, reduceSub, reduceGT, reduceEqDiff, reduceMul, ring, w64, resG]
               refine hN _ ?_
               try clear hN N
               refine AW.ret ?_
               simp -dsimp -implicitDefEqProofs (disch := omega) only [go_sem, reduceAdd, reduceSub, reduceGT, reduceEqDiff, reduceMul]
               try (exfalso; first | omega | (simp_all; done))
              ·try simp only [cn] at h14
               refine AW.skip ?_
               simp only [thn, blk]
               refine hN10 _ ?_
               try clear hN10 N10
               refine AW.seq (fun N11 hN11 => ?_)
               refine AW.sr envOk (fun N hN => ?_)
               simp -dsimp -implicitDefEqProofs (disch := omega) only [go_sem, reduceAdd, reduceSub, reduceGT, reduceEqDiff, reduceMul, ring, w64, resG]
               refine hN _ ?_
               try clear hN N
               refine AW.cond rfl (fun h15 => ?_) (fun h15 => ?_)
               ·try simp only [cn] at h15
                refine AW.sr envOk (fun N hN => ?_)
                simp -dsimp -implicitDefEqProofs (disch := omega) only [go_sem, reduceAdd, reduceSub, reduceGT, reduceEqDiff, reduceMul, ring, w64, resG]
                refine hN _ ?_
                try clear hN N
                refine AW.ret ?_
                simp -dsimp -implicitDefEqProofs (disch := omega) only [go_sem, reduceAdd, reduceSub, reduceGT, reduceEqDiff, reduceMul]
                try (exfalso; first | omega | (simp_all; done))
               ·try simp only [cn] at h15
                refine AW.skip ?_
                simp only [thn, blk]
                refine hN11 _ ?_
                try clear hN11 N11
                refine AW.sr envOk (fun N hN => ?_)
                simp -dsimp -implicitDefEqProofs (disch := omega) only [go_sem, reduceAdd, reduceSub, reduceGT, reduceEqDiff, reduceMul, ring, w64, resG]
                refine hN _ ?_
                try clear hN N
                refine AW.ret ?_
                simp -dsimp -implicitDefEqProofs (disch := omega) only [go_sem, reduceAdd, reduceSub, reduceGT, reduceEqDiff, reduceMul]
                try (exfalso; first | omega | (simp_all; done))
            ·try simp only [cn] at h12
             try simp -dsimp -implicitDefEqProofs (disch := omega) only [go_sem, reduceAdd, reduceSub, reduceGT, reduceEqDiff, reduceMul, ring, w64, resG]
             refine hN _ ?_
             try clear hN N
             refine AW.condT rfl ?_
             refine AW.sr envOk (fun N hN => ?_)
             simp -dsimp -implicitDefEqProofs (disch := omega) only [go_sem, reduceAdd, reduceSub, reduceGT, reduceEqDiff, reduceMul, ring, w64, resG]
             refine hN _ ?_
             try clear hN N
             refine AW.ret ?_
             simp -dsimp -implicitDefEqProofs (disch := omega) only [go_sem, reduceAdd, reduceSub, reduceGT, reduceEqDiff, reduceMul]
             try (exfalso; first | omega | (simp_all; done))
        ·try simp only [cn] at h8
         try simp -dsimp -implicitDefEqProofs (disch := omega) only [go_sem, reduceAdd, reduceSub, reduceGT, reduceEqDiff, reduceMul, ring, w64, resG]
         refine hN _ ?_
         try clear hN N
         refine AW.condT rfl ?_
         refine AW.sr envOk (fun N hN => ?_)
         simp -dsimp -implicitDefEqProofs (disch := omega) only [go_sem, reduceAdd, reduceSub, reduceGT, reduceEqDiff, reduceMul, ring, w64, resG]
         refine hN _ ?_
         try clear hN N
         refine AW.ret ?_
         simp -dsimp -implicitDefEqProofs (disch := omega) only [go_sem, reduceAdd, reduceSub, reduceGT, reduceEqDiff, reduceMul]
         try (exfalso; first | omega | (simp_all; done))
       ·try simp only [cn] at h7
        try simp -dsimp -implicitDefEqProofs (disch := omega) only [go_sem, reduceAdd, reduceSub, reduceGT, reduceEqDiff, reduceMul, ring, w64, resG]
        refine hN _ ?_
        try clear hN N
        refine AW.condT rfl ?_
        refine AW.sr envOk (fun N hN => ?_)
        simp -dsimp -implicitDefEqProofs (disch := omega) only [go_sem, reduceAdd, reduceSub, reduceGT, reduceEqDiff, reduceMul, ring, w64, resG]
        refine hN _ ?_
        try clear hN N
        refine AW.ret ?_
        simp -dsimp -implicitDefEqProofs (disch := omega) only [go_sem, reduceAdd, reduceSub, reduceGT, reduceEqDiff, reduceMul]
        try (exfalso; first | omega | (simp_all; done))
   ·try simp only [cn] at h3
    try simp -dsimp -implicitDefEqProofs (disch := omega) only [go_sem, reduceAdd, reduceSub, reduceGT, reduceEqDiff, reduceMul, ring, w64, resG]
    refine hN _ ?_
    try clear hN N
    refine AW.condT rfl ?_
    refine AW.sr envOk (fun N hN => ?_)
    simp -dsimp -implicitDefEqProofs (disch := omega) only [go_sem, reduceAdd, reduceSub, reduceGT, reduceEqDiff, reduceMul, ring, w64, resG]
    refine hN _ ?_
    try clear hN N
    refine AW.ret ?_
    simp -dsimp -implicitDefEqProofs (disch := omega) only [go_sem, reduceAdd, reduceSub, reduceGT, reduceEqDiff, reduceMul]
    try (exfalso; first | omega | (simp_all; done))

end Go.Proofs.Ytbhlindlcfeppaa
