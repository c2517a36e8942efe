/-
  The law FnExactMeetLie: it answers true, whatever it is given.
-/
import Derived.Test.YtbhlindlcfeppaaTv
import Derived.Test.YtbhlindlcfeppaaSm
set_option linter.unusedVariables false
set_option linter.unusedSimpArgs false
namespace Go.Proofs.Ytbhlindlcfeppaa
open Nat (reduceAdd reduceSub reduceGT reduceEqDiff reduceMul)

theorem law_MeetLie (p : Int) (pw : List (List Int)) (br : List (List (List Int))) (u : List (List Int)) (v : List (List Int)) (h0 : i64ok p) (hpw : rowsok pw) (hbr : cubesok br) (hi_u : rowsok u) (hi_v : rowsok v) : ACp Try.prog 5 [ring p pw br, rows u, rows v] (.b true) := by
 obtain ⟨M, hM⟩ : ∃ M : List (List Int) × Int, orRR (tf (SpnP p pw br u ∧ SpnP p pw br v)) (withL p pw (MeetP p pw u v), 0) = M := ⟨_, rfl⟩
 refine ACp.intro' envOk Try.func5 rfl (by kernel_rfl) Try.ntmps5 Try.results5 (.b _) (fun nx => ?_)
 refine AW.sr envOk (fun N hN => ?_)
 simp -dsimp -implicitDefEqProofs (disch := omega) only [go_sem, reduceAdd, reduceSub, reduceGT, reduceEqDiff, reduceMul, ring, w64, resRR]
 refine hN _ ?_
 try clear hN N
 refine AW.sr envOk (fun N hN => ?_)
 simp -dsimp -implicitDefEqProofs (disch := omega) only [go_sem, reduceAdd, reduceSub, reduceGT, reduceEqDiff, reduceMul, ring, w64, resRR]
 refine hN _ ?_
 try clear hN N
 refine AW.sr envOk (fun N hN => ?_)
 simp -dsimp -implicitDefEqProofs (disch := omega) only [go_sem, reduceAdd, reduceSub, reduceGT, reduceEqDiff, reduceMul, ring, w64, resRR]
 have hsc1 := szR_le pw br (1048576) (by omega)
 refine AC.pure (.of (laws_szLieRing_ok p pw br (1048576) (by omega) (by omega) hpw hbr)) ?_
 try simp -dsimp -implicitDefEqProofs (disch := omega) only [go_sem, reduceAdd, reduceSub, reduceGT, reduceEqDiff, reduceMul, ring, w64, resRR]
 refine hN _ ?_
 try clear hN N
 refine AW.seq (fun N1 hN1 => ?_)
 refine AW.sr envOk (fun N hN => ?_)
 simp -dsimp -implicitDefEqProofs (disch := omega) only [go_sem, reduceAdd, reduceSub, reduceGT, reduceEqDiff, reduceMul, ring, w64, resRR]
 refine hN _ ?_
 try clear hN N
 refine AW.cond rfl (fun h1 => ?_) (fun h1 => ?_)
 ·try simp only [cn] at h1
  refine AW.sr envOk (fun N hN => ?_)
  simp -dsimp -implicitDefEqProofs (disch := omega) only [go_sem, reduceAdd, reduceSub, reduceGT, reduceEqDiff, reduceMul, ring, w64, resRR]
  refine hN _ ?_
  try clear hN N
  refine AW.ret ?_
  simp -dsimp -implicitDefEqProofs (disch := omega) only [go_sem, reduceAdd, reduceSub, reduceGT, reduceEqDiff, reduceMul]
  try (exfalso; first | omega | (simp_all; done))
 ·try simp only [cn] at h1
  obtain ⟨g1, g2⟩ := szR_mem (l := 1048576) (by omega) (by omega) h1
  have hl := ringlen.of g1 g2
  refine AW.skip ?_
  simp only [thn, blk]
  refine hN1 _ ?_
  try clear hN1 N1
  refine AW.sr envOk (fun N hN => ?_)
  simp -dsimp -implicitDefEqProofs (disch := omega) only [go_sem, reduceAdd, reduceSub, reduceGT, reduceEqDiff, reduceMul, ring, w64, resRR]
  have hsc2 := szSS_le u (szR pw br (1048576)) (by omega)
  refine AC.pure (.of (szSS_ok u (szR pw br (1048576)) (by omega) (by omega) hi_u )) ?_
  try simp -dsimp -implicitDefEqProofs (disch := omega) only [go_sem, reduceAdd, reduceSub, reduceGT, reduceEqDiff, reduceMul, ring, w64, resRR]
  refine hN _ ?_
  try clear hN N
  refine AW.seq (fun N2 hN2 => ?_)
  refine AW.sr envOk (fun N hN => ?_)
  simp -dsimp -implicitDefEqProofs (disch := omega) only [go_sem, reduceAdd, reduceSub, reduceGT, reduceEqDiff, reduceMul, ring, w64, resRR]
  refine hN _ ?_
  try clear hN N
  refine AW.cond rfl (fun h2 => ?_) (fun h2 => ?_)
  ·try simp only [cn] at h2
   refine AW.sr envOk (fun N hN => ?_)
   simp -dsimp -implicitDefEqProofs (disch := omega) only [go_sem, reduceAdd, reduceSub, reduceGT, reduceEqDiff, reduceMul, ring, w64, resRR]
   refine hN _ ?_
   try clear hN N
   refine AW.ret ?_
   simp -dsimp -implicitDefEqProofs (disch := omega) only [go_sem, reduceAdd, reduceSub, reduceGT, reduceEqDiff, reduceMul]
   try (exfalso; first | omega | (simp_all; done))
  ·try simp only [cn] at h2
   have hl_u := szSS_mem (a := u) (l := szR pw br (1048576)) (by omega) (by omega) h2
   refine AW.skip ?_
   simp only [thn, blk]
   refine hN2 _ ?_
   try clear hN2 N2
   refine AW.sr envOk (fun N hN => ?_)
   simp -dsimp -implicitDefEqProofs (disch := omega) only [go_sem, reduceAdd, reduceSub, reduceGT, reduceEqDiff, reduceMul, ring, w64, resRR]
   have hsc3 := szSS_le v (szSS u (szR pw br (1048576))) (by omega)
   refine AC.pure (.of (szSS_ok v (szSS u (szR pw br (1048576))) (by omega) (by omega) hi_v )) ?_
   try simp -dsimp -implicitDefEqProofs (disch := omega) only [go_sem, reduceAdd, reduceSub, reduceGT, reduceEqDiff, reduceMul, ring, w64, resRR]
   refine hN _ ?_
   try clear hN N
   refine AW.seq (fun N3 hN3 => ?_)
   refine AW.sr envOk (fun N hN => ?_)
   simp -dsimp -implicitDefEqProofs (disch := omega) only [go_sem, reduceAdd, reduceSub, reduceGT, reduceEqDiff, reduceMul, ring, w64, resRR]
   refine hN _ ?_
   try clear hN N
   refine AW.cond rfl (fun h3 => ?_) (fun h3 => ?_)
   ·try simp only [cn] at h3
    refine AW.sr envOk (fun N hN => ?_)
    simp -dsimp -implicitDefEqProofs (disch := omega) only [go_sem, reduceAdd, reduceSub, reduceGT, reduceEqDiff, reduceMul, ring, w64, resRR]
    refine hN _ ?_
    try clear hN N
    refine AW.ret ?_
    simp -dsimp -implicitDefEqProofs (disch := omega) only [go_sem, reduceAdd, reduceSub, reduceGT, reduceEqDiff, reduceMul]
    try (exfalso; first | omega | (simp_all; done))
   ·try simp only [cn] at h3
    have hl_v := szSS_mem (a := v) (l := szSS u (szR pw br (1048576))) (by omega) (by omega) h3
    have hto := laws_toLieRing_ok p pw br g1 g2
    have ht_u := toSS_ok u (by have := hl_u.n; omega) (fun x hx => by have := hl_u.v x hx; omega)
    have ht_v := toSS_ok v (by have := hl_v.n; omega) (fun x hx => by have := hl_v.v x hx; omega)
    have hML : M.1.length ≤ 1048576 ∧ rowslen M.1 := by rw [← hM]; exact (orRR_ok (fun h => (with_can h.1.1.1.tri h.1.1.1.1).rl h.1.1.1.tri.n6))
    have hspec := spec_MeetLie_ok p pw br hl u v hl_u hl_v
    have himpl := impl_MeetLie_ok p pw br hl u v hl_u hl_v
    rw [hM] at hspec himpl
    have heq := laws_eqInt64SS_l M.1 M.1 hML.2 hML.2
    refine AW.skip ?_
    simp only [thn, blk]
    refine hN3 _ ?_
    try clear hN3 N3
    refine AW.sr envOk (fun N hN => ?_)
    simp -dsimp -implicitDefEqProofs (disch := omega) only [go_sem, reduceAdd, reduceSub, reduceGT, reduceEqDiff, reduceMul, ring, w64, resRR]
    refine AC.pure (.of (hto.pure )) ?_
    try simp -dsimp -implicitDefEqProofs (disch := omega) only [go_sem, reduceAdd, reduceSub, reduceGT, reduceEqDiff, reduceMul, ring, w64, resRR]
    refine AC.pure (.of (ht_u.pure )) ?_
    try simp -dsimp -implicitDefEqProofs (disch := omega) only [go_sem, reduceAdd, reduceSub, reduceGT, reduceEqDiff, reduceMul, ring, w64, resRR]
    refine AC.pure (.of (ht_v.pure )) ?_
    try simp -dsimp -implicitDefEqProofs (disch := omega) only [go_sem, reduceAdd, reduceSub, reduceGT, reduceEqDiff, reduceMul, ring, w64, resRR]
    refine AC.pure (.of (hspec )) ?_
    try simp -dsimp -implicitDefEqProofs (disch := omega) only [go_sem, reduceAdd, reduceSub, reduceGT, reduceEqDiff, reduceMul, ring, w64, resRR]
    refine hN _ ?_
    try clear hN N
    refine AW.sr envOk (fun N hN => ?_)
    simp -dsimp -implicitDefEqProofs (disch := omega) only [go_sem, reduceAdd, reduceSub, reduceGT, reduceEqDiff, reduceMul, ring, w64, resRR]
    refine AC.hold hto (.cons (.refl _) .nil) ?_
    intro m8 H8 r_r hm8 hH8 ho_r
    have hB := (hH8 nx (by omega)).trans (upd_same _ _ _)
    obtain ⟨r1, r2, rfl, u1, u2, ho_r⟩ := ho_r.ring
    try simp -dsimp -implicitDefEqProofs (disch := omega) only [go_sem, reduceAdd, reduceSub, reduceGT, reduceEqDiff, reduceMul, u1, u2]
    obtain ⟨b0, hb0⟩ : ∃ b0, nx + 2 + 1 + 4 + 2 + 4 + 2 + 4 + 2 + 12 + 2 = b0 := ⟨_, rfl⟩
    rw [hb0]
    refine hN _ ?_
    try clear hN N
    refine AW.sr envOk (fun N hN => ?_)
    simp -dsimp -implicitDefEqProofs (disch := omega) only [go_sem, reduceAdd, reduceSub, reduceGT, reduceEqDiff, reduceMul, ring, w64, resRR]
    refine AC.hold ht_u (.cons (.refl _) .nil) ?_
    intro m9 H9 r_u hm9 hH9 ho_u
    replace hB := (hH9 nx (by omega)).trans ((upd_ne _ _ (by omega)).trans hB)
    have hX := (hH9 b0 (by omega)).trans (upd_same _ _ _)
    replace ho_r := ho_r.keep (fun i q1 q2 => (hH9 i (by omega)).trans (upd_ne _ _ (by omega)))
    try simp -dsimp -implicitDefEqProofs (disch := omega) only [go_sem, reduceAdd, reduceSub, reduceGT, reduceEqDiff, reduceMul, ring, w64, resRR]
    refine hN _ ?_
    try clear hN N
    refine AW.sr envOk (fun N hN => ?_)
    simp -dsimp -implicitDefEqProofs (disch := omega) only [go_sem, reduceAdd, reduceSub, reduceGT, reduceEqDiff, reduceMul, ring, w64, resRR]
    refine AC.hold ht_v (.cons (.refl _) .nil) ?_
    intro m10 H10 r_v hm10 hH10 ho_v
    replace hB := (hH10 nx (by omega)).trans hB
    replace hX := (hH10 b0 (by omega)).trans hX
    replace ho_r := ho_r.keep (fun i q1 q2 => hH10 i (by omega))
    replace ho_u := ho_u.keep (fun i q1 q2 => hH10 i (by omega))
    try simp -dsimp -implicitDefEqProofs (disch := omega) only [go_sem, reduceAdd, reduceSub, reduceGT, reduceEqDiff, reduceMul, ring, w64, resRR]
    refine hN _ ?_
    try clear hN N
    refine AW.sr envOk (fun N hN => ?_)
    simp -dsimp -implicitDefEqProofs (disch := omega) only [go_sem, reduceAdd, reduceSub, reduceGT, reduceEqDiff, reduceMul, ring, w64, resRR]
    try simp -dsimp -implicitDefEqProofs (disch := omega) only [go_sem, reduceAdd, reduceSub, reduceGT, reduceEqDiff, reduceMul, hX]
    refine AC.hold himpl (.cons ho_r.vw (.cons ho_u.vw (.cons ho_v.vw .nil))) ?_
    intro m11 H11 r_z hm11 hH11 ho_z
    replace hB := (hH11 nx (by omega)).trans hB
    replace hX := (hH11 b0 (by omega)).trans hX
    replace ho_r := ho_r.keep (fun i q1 q2 => hH11 i (by omega))
    replace ho_u := ho_u.keep (fun i q1 q2 => hH11 i (by omega))
    replace ho_v := ho_v.keep (fun i q1 q2 => hH11 i (by omega))
    obtain ⟨g0, rfl, hg⟩ := ho_z.pair
    clear ho_z
    try simp -dsimp -implicitDefEqProofs (disch := omega) only [go_sem, reduceAdd, reduceSub, reduceGT, reduceEqDiff, reduceMul, ring, w64, resRR]
    refine hN _ ?_
    try clear hN N
    refine AW.seq (fun N4 hN4 => ?_)
    refine AW.sr envOk (fun N hN => ?_)
    simp -dsimp -implicitDefEqProofs (disch := omega) only [go_sem, reduceAdd, reduceSub, reduceGT, reduceEqDiff, reduceMul, ring, w64, resRR]
    refine AC.pure (.lent (heq) (.cons hg.vw (.cons (.refl _) .nil)) (.b _)) ?_
    try simp -dsimp -implicitDefEqProofs (disch := omega) only [go_sem, reduceAdd, reduceSub, reduceGT, reduceEqDiff, reduceMul, ring, w64, resRR]
    refine gopB.mk' (fun h4 => ?_) (fun h4 => ?_)
    ·try simp only [cn] at h4
     try simp -dsimp -implicitDefEqProofs (disch := omega) only [go_sem, reduceAdd, reduceSub, reduceGT, reduceEqDiff, reduceMul, ring, w64, resRR]
     refine hN _ ?_
     try clear hN N
     refine AW.cond rfl (fun h5 => ?_) (fun h5 => ?_)
     ·try simp only [cn] at h5
      refine AW.sr envOk (fun N hN => ?_)
      simp -dsimp -implicitDefEqProofs (disch := omega) only [go_sem, reduceAdd, reduceSub, reduceGT, reduceEqDiff, reduceMul, ring, w64, resRR]
      refine hN _ ?_
      try clear hN N
      refine AW.ret ?_
      simp -dsimp -implicitDefEqProofs (disch := omega) only [go_sem, reduceAdd, reduceSub, reduceGT, reduceEqDiff, reduceMul]
      try (exfalso; first | omega | (simp_all; done))
     ·try simp only [cn] at h5
      refine AW.skip ?_
      simp only [thn, blk]
      refine hN4 _ ?_
      try clear hN4 N4
      refine AW.seq (fun N5 hN5 => ?_)
      refine AW.seq (fun N hN => ?_)
      refine AW.drawL envOk (by kernel_rfl) 5 (by kernel_rfl) ?_
      simp -dsimp -implicitDefEqProofs (disch := omega) only [hr_nil, hr_one, hr_if, List.take_succ_cons, List.take_zero, List.drop_succ_cons, List.drop_zero, List.take_nil, List.drop_nil, go_sem, reduceAdd, reduceSub, reduceGT, reduceEqDiff, reduceMul, ring, w64, resRR]
      try simp -dsimp -implicitDefEqProofs (disch := omega) only [go_sem, reduceAdd, reduceSub, reduceGT, reduceEqDiff, reduceMul, hX, hB]
      refine ⟨_, .of (hto.pure ), ?_⟩
      try simp -dsimp -implicitDefEqProofs (disch := omega) only [go_sem, reduceAdd, reduceSub, reduceGT, reduceEqDiff, reduceMul, ring, w64, resRR]
      try simp -dsimp -implicitDefEqProofs (disch := omega) only [go_sem, reduceAdd, reduceSub, reduceGT, reduceEqDiff, reduceMul, hX, hB]
      refine ⟨_, .lent (laws_eqLieRing_ok p p pw pw br br hpw hpw hbr hbr) (.cons ho_r.vw (.cons (.refl _) .nil)) (.b _), ?_⟩
      try simp -dsimp -implicitDefEqProofs (disch := omega) only [go_sem, reduceAdd, reduceSub, reduceGT, reduceEqDiff, reduceMul, ring, w64, resRR]
      refine hN _ ?_
      try clear hN N
      refine AW.cond rfl (fun h6 => ?_) (fun h6 => ?_)
      ·try simp only [cn] at h6
       refine AW.sr envOk (fun N hN => ?_)
       simp -dsimp -implicitDefEqProofs (disch := omega) only [go_sem, reduceAdd, reduceSub, reduceGT, reduceEqDiff, reduceMul, ring, w64, resRR]
       refine hN _ ?_
       try clear hN N
       refine AW.ret ?_
       simp -dsimp -implicitDefEqProofs (disch := omega) only [go_sem, reduceAdd, reduceSub, reduceGT, reduceEqDiff, reduceMul]
       try (exfalso; first | omega | (simp_all; done))
      ·try simp only [cn] at h6
       refine AW.skip ?_
       simp only [thn, blk]
       refine hN5 _ ?_
       try clear hN5 N5
       refine AW.seq (fun N6 hN6 => ?_)
       refine AW.sr envOk (fun N hN => ?_)
       simp -dsimp -implicitDefEqProofs (disch := omega) only [go_sem, reduceAdd, reduceSub, reduceGT, reduceEqDiff, reduceMul, ring, w64, resRR]
       refine AC.pure (.of (ht_u.pure )) ?_
       try simp -dsimp -implicitDefEqProofs (disch := omega) only [go_sem, reduceAdd, reduceSub, reduceGT, reduceEqDiff, reduceMul, ring, w64, resRR]
       refine AC.pure (.lent (laws_eqInt64SS_ok u u hi_u hi_u) (.cons ho_u.vw (.cons (.refl _) .nil)) (.b _)) ?_
       try simp -dsimp -implicitDefEqProofs (disch := omega) only [go_sem, reduceAdd, reduceSub, reduceGT, reduceEqDiff, reduceMul, ring, w64, resRR]
       refine hN _ ?_
       try clear hN N
       refine AW.cond rfl (fun h7 => ?_) (fun h7 => ?_)
       ·try simp only [cn] at h7
        refine AW.sr envOk (fun N hN => ?_)
        simp -dsimp -implicitDefEqProofs (disch := omega) only [go_sem, reduceAdd, reduceSub, reduceGT, reduceEqDiff, reduceMul, ring, w64, resRR]
        refine hN _ ?_
        try clear hN N
        refine AW.ret ?_
        simp -dsimp -implicitDefEqProofs (disch := omega) only [go_sem, reduceAdd, reduceSub, reduceGT, reduceEqDiff, reduceMul]
        try (exfalso; first | omega | (simp_all; done))
       ·try simp only [cn] at h7
        refine AW.skip ?_
        simp only [thn, blk]
        refine hN6 _ ?_
        try clear hN6 N6
        refine AW.seq (fun N7 hN7 => ?_)
        refine AW.sr envOk (fun N hN => ?_)
        simp -dsimp -implicitDefEqProofs (disch := omega) only [go_sem, reduceAdd, reduceSub, reduceGT, reduceEqDiff, reduceMul, ring, w64, resRR]
        refine AC.pure (.of (ht_v.pure )) ?_
        try simp -dsimp -implicitDefEqProofs (disch := omega) only [go_sem, reduceAdd, reduceSub, reduceGT, reduceEqDiff, reduceMul, ring, w64, resRR]
        refine AC.pure (.lent (laws_eqInt64SS_ok v v hi_v hi_v) (.cons ho_v.vw (.cons (.refl _) .nil)) (.b _)) ?_
        try simp -dsimp -implicitDefEqProofs (disch := omega) only [go_sem, reduceAdd, reduceSub, reduceGT, reduceEqDiff, reduceMul, ring, w64, resRR]
        refine hN _ ?_
        try clear hN N
        refine AW.cond rfl (fun h8 => ?_) (fun h8 => ?_)
        ·try simp only [cn] at h8
         refine AW.sr envOk (fun N hN => ?_)
         simp -dsimp -implicitDefEqProofs (disch := omega) only [go_sem, reduceAdd, reduceSub, reduceGT, reduceEqDiff, reduceMul, ring, w64, resRR]
         refine hN _ ?_
         try clear hN N
         refine AW.ret ?_
         simp -dsimp -implicitDefEqProofs (disch := omega) only [go_sem, reduceAdd, reduceSub, reduceGT, reduceEqDiff, reduceMul]
         try (exfalso; first | omega | (simp_all; done))
        ·try simp only [cn] at h8
         refine AW.skip ?_
         simp only [thn, blk]
         refine hN7 _ ?_
         try clear hN7 N7
         refine AW.sr envOk (fun N hN => ?_)
         simp -dsimp -implicitDefEqProofs (disch := omega) only [go_sem, reduceAdd, reduceSub, reduceGT, reduceEqDiff, reduceMul, ring, w64, resRR]
         refine hN _ ?_
         try clear hN N
         refine AW.sr envOk (fun N hN => ?_)
         simp -dsimp -implicitDefEqProofs (disch := omega) only [go_sem, reduceAdd, reduceSub, reduceGT, reduceEqDiff, reduceMul, ring, w64, resRR]
         try simp -dsimp -implicitDefEqProofs (disch := omega) only [go_sem, reduceAdd, reduceSub, reduceGT, reduceEqDiff, reduceMul, hX]
         refine (markR_h _ _ _ (p, pw, br) _ _ 1 ho_r (by omega) ⟨g1, g2⟩ (by omega) (by omega)).mono2 ?_
         rintro m19 H19 res hm19 ⟨k19, rfl, hk19, hk19', hH19⟩
         replace hB := (hH19 nx (by omega)).trans hB
         replace ho_u := ho_u.keep (fun i q1 q2 => hH19 i (by omega))
         replace ho_v := ho_v.keep (fun i q1 q2 => hH19 i (by omega))
         replace hg := hg.keep (fun i q1 q2 => hH19 i (by omega))
         try simp -dsimp -implicitDefEqProofs (disch := omega) only [go_sem, reduceAdd, reduceSub, reduceGT, reduceEqDiff, reduceMul, ring, w64, resRR]
         refine hN _ ?_
         try clear hN N
         refine AW.sr envOk (fun N hN => ?_)
         simp -dsimp -implicitDefEqProofs (disch := omega) only [go_sem, reduceAdd, reduceSub, reduceGT, reduceEqDiff, reduceMul, ring, w64, resRR]
         refine (laws_markInt64SS_c.h _ _ _ u _ _ k19 ho_u (by omega) hl_u (by omega) (by omega)).mono2 ?_
         rintro m20 H20 res hm20 ⟨k20, rfl, hk20, hk20', hH20⟩
         replace hB := (hH20 nx (by omega)).trans hB
         replace ho_v := ho_v.keep (fun i q1 q2 => hH20 i (by omega))
         replace hg := hg.keep (fun i q1 q2 => hH20 i (by omega))
         try simp -dsimp -implicitDefEqProofs (disch := omega) only [go_sem, reduceAdd, reduceSub, reduceGT, reduceEqDiff, reduceMul, ring, w64, resRR]
         refine hN _ ?_
         try clear hN N
         refine AW.sr envOk (fun N hN => ?_)
         simp -dsimp -implicitDefEqProofs (disch := omega) only [go_sem, reduceAdd, reduceSub, reduceGT, reduceEqDiff, reduceMul, ring, w64, resRR]
         refine (laws_markInt64SS_c.h _ _ _ v _ _ k20 ho_v (by omega) hl_v (by omega) (by omega)).mono2 ?_
         rintro m21 H21 res hm21 ⟨k21, rfl, hk21, hk21', hH21⟩
         replace hB := (hH21 nx (by omega)).trans hB
         replace hg := hg.keep (fun i q1 q2 => hH21 i (by omega))
         try simp -dsimp -implicitDefEqProofs (disch := omega) only [go_sem, reduceAdd, reduceSub, reduceGT, reduceEqDiff, reduceMul, ring, w64, resRR]
         refine hN _ ?_
         try clear hN N
         refine AW.seq (fun N8 hN8 => ?_)
         refine AW.sr envOk (fun N hN => ?_)
         simp -dsimp -implicitDefEqProofs (disch := omega) only [go_sem, reduceAdd, reduceSub, reduceGT, reduceEqDiff, reduceMul, ring, w64, resRR]
         refine gopB.mk' (fun h9 => ?_) (fun h9 => ?_)
         ·try simp only [cn] at h9
          try simp -dsimp -implicitDefEqProofs (disch := omega) only [go_sem, reduceAdd, reduceSub, reduceGT, reduceEqDiff, reduceMul, ring, w64, resRR]
          refine AC.pure (.lent (heq) (.cons hg.vw (.cons (.refl _) .nil)) (.b _)) ?_
          try simp -dsimp -implicitDefEqProofs (disch := omega) only [go_sem, reduceAdd, reduceSub, reduceGT, reduceEqDiff, reduceMul, ring, w64, resRR]
          refine gopB.mk' (fun h10 => ?_) (fun h10 => ?_)
          ·try simp only [cn] at h10
           try simp -dsimp -implicitDefEqProofs (disch := omega) only [go_sem, reduceAdd, reduceSub, reduceGT, reduceEqDiff, reduceMul, ring, w64, resRR]
           refine hN _ ?_
           try clear hN N
           refine AW.cond rfl (fun h11 => ?_) (fun h11 => ?_)
           ·try simp only [cn] at h11
            refine AW.sr envOk (fun N hN => ?_)
            simp -dsimp -implicitDefEqProofs (disch := omega) only [go_sem, reduceAdd, reduceSub, reduceGT, reduceEqDiff, reduceMul, ring, w64, resRR]
            refine hN _ ?_
            try clear hN N
            refine AW.ret ?_
            simp -dsimp -implicitDefEqProofs (disch := omega) only [go_sem, reduceAdd, reduceSub, reduceGT, reduceEqDiff, reduceMul]
            try (exfalso; first | omega | (simp_all; done))
           ·try simp only [cn] at h11
            refine AW.skip ?_
            simp only [thn, blk]
            refine hN8 _ ?_
            try clear hN8 N8
            refine AW.sr envOk (fun N hN => ?_)
            simp -dsimp -implicitDefEqProofs (disch := omega) only [go_sem, reduceAdd, reduceSub, reduceGT, reduceEqDiff, reduceMul, ring, w64, resRR]
            refine hN _ ?_
            try clear hN N
            refine AW.sr envOk (fun N hN => ?_)
            simp -dsimp -implicitDefEqProofs (disch := omega) only [go_sem, reduceAdd, reduceSub, reduceGT, reduceEqDiff, reduceMul, ring, w64, resRR]
            refine (markRR_g hML.2 hg (by omega) (by omega)).mono2 ?_
            rintro m23 H23 res hm23 ⟨rfl, hg2, hH23⟩
            replace hB := (hH23 nx (by omega)).trans hB
            try simp -dsimp -implicitDefEqProofs (disch := omega) only [go_sem, reduceAdd, reduceSub, reduceGT, reduceEqDiff, reduceMul, ring, w64, resRR]
            refine hN _ ?_
            try clear hN N
            refine AW.sr envOk (fun N hN => ?_)
            simp -dsimp -implicitDefEqProofs (disch := omega) only [go_sem, reduceAdd, reduceSub, reduceGT, reduceEqDiff, reduceMul, ring, w64, resRR]
            refine hN _ ?_
            try clear hN N
            refine AW.sr envOk (fun N hN => ?_)
            simp -dsimp -implicitDefEqProofs (disch := omega) only [go_sem, reduceAdd, reduceSub, reduceGT, reduceEqDiff, reduceMul, ring, w64, resRR]
            refine AC.pure (.lent (heldRR_g hML.2 (by omega) (by omega)) (.cons hg2.vw (.cons (.refl _) .nil)) (.i _ _)) ?_
            try simp -dsimp -implicitDefEqProofs (disch := omega) only [go_sem, reduceAdd, reduceSub, reduceGT, reduceEqDiff, reduceMul, ring, w64, resRR]
            refine hN _ ?_
            try clear hN N
            refine AW.seq (fun N9 hN9 => ?_)
            refine AW.sr envOk (fun N hN => ?_)
            simp -dsimp -implicitDefEqProofs (disch := omega) only [go_sem, reduceAdd, reduceSub, reduceGT, reduceEqDiff, reduceMul, ring, w64, resRR]
            refine hN _ ?_
            try clear hN N
            refine AW.cond rfl (fun h12 => ?_) (fun h12 => ?_)
            ·try simp only [cn] at h12
             refine AW.sr envOk (fun N hN => ?_)
             simp -dsimp -implicitDefEqProofs (disch := omega) only [go_sem, reduceAdd, reduceSub, reduceGT, reduceEqDiff, reduceMul, ring, w64, resRR]
             refine hN _ ?_
             try clear hN N
             refine AW.ret ?_
             simp -dsimp -implicitDefEqProofs (disch := omega) only [go_sem, reduceAdd, reduceSub, reduceGT, reduceEqDiff, reduceMul]
             try (exfalso; first | omega | (simp_all; done))
            ·try simp only [cn] at h12
             refine AW.skip ?_
             simp only [thn, blk]
             refine hN9 _ ?_
             try clear hN9 N9
             refine AW.seq (fun N10 hN10 => ?_)
             refine AW.sr envOk (fun N hN => ?_)
             simp -dsimp -implicitDefEqProofs (disch := omega) only [go_sem, reduceAdd, reduceSub, reduceGT, reduceEqDiff, reduceMul, ring, w64, resRR]
             refine hN _ ?_
             try clear hN N
             refine AW.cond rfl (fun h13 => ?_) (fun h13 => ?_)
             ·try simp only [cn] at h13
              refine AW.sr envOk (fun N hN => ?_)
              simp -dsimp -implicitDefEqProofs (disch := omega) only [go_sem, reduceAdd, reduceSub, reduceGT, reduceEqDiff, reduceMul, ring, w64, resRR]
              refine hN _ ?_
              try clear hN N
              refine AW.ret ?_
              simp -dsimp -implicitDefEqProofs (disch := omega) only [go_sem, reduceAdd, reduceSub, reduceGT, reduceEqDiff, reduceMul]
              try (exfalso; first | omega | (simp_all; done))
             ·try simp only [cn] at h13
              refine AW.skip ?_
              simp only [thn, blk]
              refine hN10 _ ?_
              try clear hN10 N10
              refine AW.sr envOk (fun N hN => ?_)
              simp -dsimp -implicitDefEqProofs (disch := omega) only [go_sem, reduceAdd, reduceSub, reduceGT, reduceEqDiff, reduceMul, ring, w64, resRR]
              try simp -dsimp -implicitDefEqProofs (disch := omega) only [go_sem, reduceAdd, reduceSub, reduceGT, reduceEqDiff, reduceMul, hB]
              refine AC.pure (.of (hto.pure )) ?_
              try simp -dsimp -implicitDefEqProofs (disch := omega) only [go_sem, reduceAdd, reduceSub, reduceGT, reduceEqDiff, reduceMul, ring, w64, resRR]
              refine AC.pure (.of (ht_u.pure )) ?_
              try simp -dsimp -implicitDefEqProofs (disch := omega) only [go_sem, reduceAdd, reduceSub, reduceGT, reduceEqDiff, reduceMul, ring, w64, resRR]
              refine AC.pure (.of (ht_v.pure )) ?_
              try simp -dsimp -implicitDefEqProofs (disch := omega) only [go_sem, reduceAdd, reduceSub, reduceGT, reduceEqDiff, reduceMul, ring, w64, resRR]
              refine AC.pure (.of (himpl.pure )) ?_
              try simp -dsimp -implicitDefEqProofs (disch := omega) only [go_sem, reduceAdd, reduceSub, reduceGT, reduceEqDiff, reduceMul, ring, w64, resRR]
              refine hN _ ?_
              try clear hN N
              refine AW.seq (fun N11 hN11 => ?_)
              refine AW.sr envOk (fun N hN => ?_)
              simp -dsimp -implicitDefEqProofs (disch := omega) only [go_sem, reduceAdd, reduceSub, reduceGT, reduceEqDiff, reduceMul, ring, w64, resRR]
              refine AC.pure (.of (heq )) ?_
              try simp -dsimp -implicitDefEqProofs (disch := omega) only [go_sem, reduceAdd, reduceSub, reduceGT, reduceEqDiff, reduceMul, ring, w64, resRR]
              refine gopB.mk' (fun h14 => ?_) (fun h14 => ?_)
              ·try simp only [cn] at h14
               try simp -dsimp -implicitDefEqProofs (disch := omega) only [go_sem, reduceAdd, reduceSub, reduceGT, reduceEqDiff, reduceMul, ring, w64, resRR]
               refine hN _ ?_
               try clear hN N
               refine AW.cond rfl (fun h15 => ?_) (fun h15 => ?_)
               ·try simp only [cn] at h15
                refine AW.sr envOk (fun N hN => ?_)
                simp -dsimp -implicitDefEqProofs (disch := omega) only [go_sem, reduceAdd, reduceSub, reduceGT, reduceEqDiff, reduceMul, ring, w64, resRR]
                refine hN _ ?_
                try clear hN N
                refine AW.ret ?_
                simp -dsimp -implicitDefEqProofs (disch := omega) only [go_sem, reduceAdd, reduceSub, reduceGT, reduceEqDiff, reduceMul]
                try (exfalso; first | omega | (simp_all; done))
               ·try simp only [cn] at h15
                refine AW.skip ?_
                simp only [thn, blk]
                refine hN11 _ ?_
                try clear hN11 N11
                refine AW.sr envOk (fun N hN => ?_)
                simp -dsimp -implicitDefEqProofs (disch := omega) only [go_sem, reduceAdd, reduceSub, reduceGT, reduceEqDiff, reduceMul, ring, w64, resRR]
                refine hN _ ?_
                try clear hN N
                refine AW.sr envOk (fun N hN => ?_)
                simp -dsimp -implicitDefEqProofs (disch := omega) only [go_sem, reduceAdd, reduceSub, reduceGT, reduceEqDiff, reduceMul, ring, w64, resRR]
                refine AC.pure (.lent (heldRR_g hML.2 (by omega) (by omega)) (.cons hg2.vw (.cons (.refl _) .nil)) (.i _ _)) ?_
                try simp -dsimp -implicitDefEqProofs (disch := omega) only [go_sem, reduceAdd, reduceSub, reduceGT, reduceEqDiff, reduceMul, ring, w64, resRR]
                refine hN _ ?_
                try clear hN N
                refine AW.seq (fun N12 hN12 => ?_)
                refine AW.sr envOk (fun N hN => ?_)
                simp -dsimp -implicitDefEqProofs (disch := omega) only [go_sem, reduceAdd, reduceSub, reduceGT, reduceEqDiff, reduceMul, ring, w64, resRR]
                refine hN _ ?_
                try clear hN N
                refine AW.cond rfl (fun h16 => ?_) (fun h16 => ?_)
                ·try simp only [cn] at h16
                 refine AW.sr envOk (fun N hN => ?_)
                 simp -dsimp -implicitDefEqProofs (disch := omega) only [go_sem, reduceAdd, reduceSub, reduceGT, reduceEqDiff, reduceMul, ring, w64, resRR]
                 refine hN _ ?_
                 try clear hN N
                 refine AW.ret ?_
                 simp -dsimp -implicitDefEqProofs (disch := omega) only [go_sem, reduceAdd, reduceSub, reduceGT, reduceEqDiff, reduceMul]
                 try (exfalso; first | omega | (simp_all; done))
                ·try simp only [cn] at h16
                 refine AW.skip ?_
                 simp only [thn, blk]
                 refine hN12 _ ?_
                 try clear hN12 N12
                 refine AW.seq (fun N13 hN13 => ?_)
                 refine AW.sr envOk (fun N hN => ?_)
                 simp -dsimp -implicitDefEqProofs (disch := omega) only [go_sem, reduceAdd, reduceSub, reduceGT, reduceEqDiff, reduceMul, ring, w64, resRR]
                 refine hN _ ?_
                 try clear hN N
                 refine AW.cond rfl (fun h17 => ?_) (fun h17 => ?_)
                 ·try simp only [cn] at h17
                  refine AW.sr envOk (fun N hN => ?_)
                  simp -dsimp -implicitDefEqProofs (disch := omega) only [go_sem, reduceAdd, reduceSub, reduceGT, reduceEqDiff, reduceMul, ring, w64, resRR]
                  refine hN _ ?_
                  try clear hN N
                  refine AW.ret ?_
                  simp -dsimp -implicitDefEqProofs (disch := omega) only [go_sem, reduceAdd, reduceSub, reduceGT, reduceEqDiff, reduceMul]
                  try (exfalso; first | omega | (simp_all; done))
                 ·try simp only [cn] at h17
                  refine AW.skip ?_
                  simp only [thn, blk]
                  refine hN13 _ ?_
                  try clear hN13 N13
                  refine AW.sr envOk (fun N hN => ?_)
                  simp -dsimp -implicitDefEqProofs (disch := omega) only [go_sem, reduceAdd, reduceSub, reduceGT, reduceEqDiff, reduceMul, ring, w64, resRR]
                  refine hN _ ?_
                  try clear hN N
                  refine AW.ret ?_
                  simp -dsimp -implicitDefEqProofs (disch := omega) only [go_sem, reduceAdd, reduceSub, reduceGT, reduceEqDiff, reduceMul]
                  try (exfalso; first | omega | (simp_all; done))
              ·try simp only [cn] at h14
               try simp -dsimp -implicitDefEqProofs (disch := omega) only [go_sem, reduceAdd, reduceSub, reduceGT, reduceEqDiff, reduceMul, ring, w64, resRR]
               refine hN _ ?_
               try clear hN N
               refine AW.condT rfl ?_
               refine AW.sr envOk (fun N hN => ?_)
               simp -dsimp -implicitDefEqProofs (disch := omega) only [go_sem, reduceAdd, reduceSub, reduceGT, reduceEqDiff, reduceMul, ring, w64, resRR]
               refine hN _ ?_
               try clear hN N
               refine AW.ret ?_
               simp -dsimp -implicitDefEqProofs (disch := omega) only [go_sem, reduceAdd, reduceSub, reduceGT, reduceEqDiff, reduceMul]
               try (exfalso; first | omega | (simp_all; done))
          ·try simp only [cn] at h10
           try simp -dsimp -implicitDefEqProofs (disch := omega) only [go_sem, reduceAdd, reduceSub, reduceGT, reduceEqDiff, reduceMul, ring, w64, resRR]
           refine hN _ ?_
           try clear hN N
           refine AW.condT rfl ?_
           refine AW.sr envOk (fun N hN => ?_)
           simp -dsimp -implicitDefEqProofs (disch := omega) only [go_sem, reduceAdd, reduceSub, reduceGT, reduceEqDiff, reduceMul, ring, w64, resRR]
           refine hN _ ?_
           try clear hN N
           refine AW.ret ?_
           simp -dsimp -implicitDefEqProofs (disch := omega) only [go_sem, reduceAdd, reduceSub, reduceGT, reduceEqDiff, reduceMul]
           try (exfalso; first | omega | (simp_all; done))
         ·try simp only [cn] at h9
          try simp -dsimp -implicitDefEqProofs (disch := omega) only [go_sem, reduceAdd, reduceSub, reduceGT, reduceEqDiff, reduceMul, ring, w64, resRR]
          refine hN _ ?_
          try clear hN N
          refine AW.condT rfl ?_
          refine AW.sr envOk (fun N hN => ?_)
          simp -dsimp -implicitDefEqProofs (disch := omega) only [go_sem, reduceAdd, reduceSub, reduceGT, reduceEqDiff, reduceMul, ring, w64, resRR]
          refine hN _ ?_
          try clear hN N
          refine AW.ret ?_
          simp -dsimp -implicitDefEqProofs (disch := omega) only [go_sem, reduceAdd, reduceSub, reduceGT, reduceEqDiff, reduceMul]
          try (exfalso; first | omega | (simp_all; done))
    ·try simp only [cn] at h4
     try simp -dsimp -implicitDefEqProofs (disch := omega) only [go_sem, reduceAdd, reduceSub, reduceGT, reduceEqDiff, reduceMul, ring, w64, resRR]
     refine hN _ ?_
     try clear hN N
     refine AW.condT rfl ?_
     refine AW.sr envOk (fun N hN => ?_)
     simp -dsimp -implicitDefEqProofs (disch := omega) only [go_sem, reduceAdd, reduceSub, reduceGT, reduceEqDiff, reduceMul, ring, w64, resRR]
     refine hN _ ?_
     try clear hN N
     refine AW.ret ?_
     simp -dsimp -implicitDefEqProofs (disch := omega) only [go_sem, reduceAdd, reduceSub, reduceGT, reduceEqDiff, reduceMul]
     try (exfalso; first | omega | (simp_all; done))

end Go.Proofs.Ytbhlindlcfeppaa
