/-
  The law FnExactUpperLieSeries: it answers true, whatever it is given.
-/
import Derived.Test.YtbhlindlcfeppaaTs
set_option linter.unusedVariables false
set_option linter.unusedSimpArgs false
namespace Go.Proofs.Ytbhlindlcfeppaa
open Nat (reduceAdd reduceSub reduceGT reduceEqDiff reduceMul)

theorem law_UpperLieSeries (p : Int) (pw : List (List Int)) (br : List (List (List Int))) (h0 : i64ok p) (hpw : rowsok pw) (hbr : cubesok br) : ACp Try.prog 8 [ring p pw br] (.b true) := by
 obtain ⟨M, hM⟩ : ∃ M : List (List (List Int)) × Int, orCC (tf (LieR p pw br)) (upK p pw br, 0) = M := ⟨_, rfl⟩
 refine ACp.intro' envOk Try.func8 rfl (by kernel_rfl) Try.ntmps8 Try.results8 (.b _) (fun nx => ?_)
 refine AW.sr envOk (fun N hN => ?_)
 simp -dsimp -implicitDefEqProofs (disch := omega) only [go_sem, reduceAdd, reduceSub, reduceGT, reduceEqDiff, reduceMul, ring, w64, resCC]
 refine hN _ ?_
 try clear hN N
 refine AW.sr envOk (fun N hN => ?_)
 simp -dsimp -implicitDefEqProofs (disch := omega) only [go_sem, reduceAdd, reduceSub, reduceGT, reduceEqDiff, reduceMul, ring, w64, resCC]
 refine hN _ ?_
 try clear hN N
 refine AW.sr envOk (fun N hN => ?_)
 simp -dsimp -implicitDefEqProofs (disch := omega) only [go_sem, reduceAdd, reduceSub, reduceGT, reduceEqDiff, reduceMul, ring, w64, resCC]
 have hsc1 := szR_le pw br (1048576) (by omega)
 refine AC.pure (.of (laws_szLieRing_ok p pw br (1048576) (by omega) (by omega) hpw hbr)) ?_
 try simp -dsimp -implicitDefEqProofs (disch := omega) only [go_sem, reduceAdd, reduceSub, reduceGT, reduceEqDiff, reduceMul, ring, w64, resCC]
 refine hN _ ?_
 try clear hN N
 refine AW.seq (fun N1 hN1 => ?_)
 refine AW.sr envOk (fun N hN => ?_)
 simp -dsimp -implicitDefEqProofs (disch := omega) only [go_sem, reduceAdd, reduceSub, reduceGT, reduceEqDiff, reduceMul, ring, w64, resCC]
 refine hN _ ?_
 try clear hN N
 refine AW.cond rfl (fun h1 => ?_) (fun h1 => ?_)
 ·try simp only [cn] at h1
  refine AW.sr envOk (fun N hN => ?_)
  simp -dsimp -implicitDefEqProofs (disch := omega) only [go_sem, reduceAdd, reduceSub, reduceGT, reduceEqDiff, reduceMul, ring, w64, resCC]
  refine hN _ ?_
  try clear hN N
  refine AW.ret ?_
  simp -dsimp -implicitDefEqProofs (disch := omega) only [go_sem, reduceAdd, reduceSub, reduceGT, reduceEqDiff, reduceMul]
  try (exfalso; first | omega | (simp_all; done))
 ·try simp only [cn] at h1
  obtain ⟨g1, g2⟩ := szR_mem (l := 1048576) (by omega) (by omega) h1
  have hl := ringlen.of g1 g2
  have hto := laws_toLieRing_ok p pw br g1 g2
  have hML : M.1.length ≤ 1048576 ∧ cubesml M.1 := by rw [← hM]; exact (orCC_ok (fun h => upK_sml h.1))
  have hspec := spec_UpperLieSeries_ok p pw br hl
  have himpl := impl_UpperLieSeries_ok p pw br hl
  rw [hM] at hspec himpl
  have heq := laws_eqInt64SSS_l M.1 M.1 hML.2.len hML.2.len
  refine AW.skip ?_
  simp only [thn, blk]
  refine hN1 _ ?_
  try clear hN1 N1
  refine AW.sr envOk (fun N hN => ?_)
  simp -dsimp -implicitDefEqProofs (disch := omega) only [go_sem, reduceAdd, reduceSub, reduceGT, reduceEqDiff, reduceMul, ring, w64, resCC]
  refine AC.pure (.of (hto.pure )) ?_
  try simp -dsimp -implicitDefEqProofs (disch := omega) only [go_sem, reduceAdd, reduceSub, reduceGT, reduceEqDiff, reduceMul, ring, w64, resCC]
  refine AC.pure (.of (hspec )) ?_
  try simp -dsimp -implicitDefEqProofs (disch := omega) only [go_sem, reduceAdd, reduceSub, reduceGT, reduceEqDiff, reduceMul, ring, w64, resCC]
  refine hN _ ?_
  try clear hN N
  refine AW.sr envOk (fun N hN => ?_)
  simp -dsimp -implicitDefEqProofs (disch := omega) only [go_sem, reduceAdd, reduceSub, reduceGT, reduceEqDiff, reduceMul, ring, w64, resCC]
  refine AC.hold hto (.cons (.refl _) .nil) ?_
  intro m4 H4 r_r hm4 hH4 ho_r
  have hB := (hH4 nx (by omega)).trans (upd_same _ _ _)
  obtain ⟨r1, r2, rfl, u1, u2, ho_r⟩ := ho_r.ring
  try simp -dsimp -implicitDefEqProofs (disch := omega) only [go_sem, reduceAdd, reduceSub, reduceGT, reduceEqDiff, reduceMul, u1, u2]
  obtain ⟨b0, hb0⟩ : ∃ b0, nx + 2 + 1 + 4 + 2 + 8 + 2 = b0 := ⟨_, rfl⟩
  rw [hb0]
  refine hN _ ?_
  try clear hN N
  refine AW.sr envOk (fun N hN => ?_)
  simp -dsimp -implicitDefEqProofs (disch := omega) only [go_sem, reduceAdd, reduceSub, reduceGT, reduceEqDiff, reduceMul, ring, w64, resCC]
  try simp -dsimp -implicitDefEqProofs (disch := omega) only [go_sem, reduceAdd, reduceSub, reduceGT, reduceEqDiff, reduceMul, ]
  have ho_r0 := ho_r.keep (H' := upd H4 b0 (some [.i .i64 p, r1, r2])) (fun i q1 q2 => upd_ne _ _ (by omega))
  refine AC.hold himpl (.cons ho_r0.vw .nil) ?_
  intro m5 H5 r_z hm5 hH5 ho_z
  replace hB := (hH5 nx (by omega)).trans ((upd_ne _ _ (by omega)).trans hB)
  have hX := (hH5 b0 (by omega)).trans (upd_same _ _ _)
  replace ho_r := ho_r.keep (fun i q1 q2 => (hH5 i (by omega)).trans (upd_ne _ _ (by omega)))
  obtain ⟨g0, rfl, hg⟩ := ho_z.pair
  clear ho_z
  try simp -dsimp -implicitDefEqProofs (disch := omega) only [go_sem, reduceAdd, reduceSub, reduceGT, reduceEqDiff, reduceMul, ring, w64, resCC]
  refine hN _ ?_
  try clear hN N
  refine AW.seq (fun N2 hN2 => ?_)
  refine AW.sr envOk (fun N hN => ?_)
  simp -dsimp -implicitDefEqProofs (disch := omega) only [go_sem, reduceAdd, reduceSub, reduceGT, reduceEqDiff, reduceMul, ring, w64, resCC]
  refine AC.pure (.lent (heq) (.cons hg.vw (.cons (.refl _) .nil)) (.b _)) ?_
  try simp -dsimp -implicitDefEqProofs (disch := omega) only [go_sem, reduceAdd, reduceSub, reduceGT, reduceEqDiff, reduceMul, ring, w64, resCC]
  refine gopB.mk' (fun h2 => ?_) (fun h2 => ?_)
  ·try simp only [cn] at h2
   try simp -dsimp -implicitDefEqProofs (disch := omega) only [go_sem, reduceAdd, reduceSub, reduceGT, reduceEqDiff, reduceMul, ring, w64, resCC]
   refine hN _ ?_
   try clear hN N
   refine AW.cond rfl (fun h3 => ?_) (fun h3 => ?_)
   ·try simp only [cn] at h3
    refine AW.sr envOk (fun N hN => ?_)
    simp -dsimp -implicitDefEqProofs (disch := omega) only [go_sem, reduceAdd, reduceSub, reduceGT, reduceEqDiff, reduceMul, ring, w64, resCC]
    refine hN _ ?_
    try clear hN N
    refine AW.ret ?_
    simp -dsimp -implicitDefEqProofs (disch := omega) only [go_sem, reduceAdd, reduceSub, reduceGT, reduceEqDiff, reduceMul]
    try (exfalso; first | omega | (simp_all; done))
   ·try simp only [cn] at h3
    refine AW.skip ?_
    simp only [thn, blk]
    refine hN2 _ ?_
    try clear hN2 N2
    refine AW.seq (fun N3 hN3 => ?_)
    refine AW.seq (fun N hN => ?_)
    refine AW.drawL envOk (by kernel_rfl) 5 (by kernel_rfl) ?_
    simp -dsimp -implicitDefEqProofs (disch := omega) only [hr_nil, hr_one, hr_if, List.take_succ_cons, List.take_zero, List.drop_succ_cons, List.drop_zero, List.take_nil, List.drop_nil, go_sem, reduceAdd, reduceSub, reduceGT, reduceEqDiff, reduceMul, ring, w64, resCC]
    try simp -dsimp -implicitDefEqProofs (disch := omega) only [go_sem, reduceAdd, reduceSub, reduceGT, reduceEqDiff, reduceMul, hX, hB]
    refine ⟨_, .of (hto.pure ), ?_⟩
    try simp -dsimp -implicitDefEqProofs (disch := omega) only [go_sem, reduceAdd, reduceSub, reduceGT, reduceEqDiff, reduceMul, ring, w64, resCC]
    try simp -dsimp -implicitDefEqProofs (disch := omega) only [go_sem, reduceAdd, reduceSub, reduceGT, reduceEqDiff, reduceMul, hX, hB]
    refine ⟨_, .lent (laws_eqLieRing_ok p p pw pw br br hpw hpw hbr hbr) (.cons ho_r.vw (.cons (.refl _) .nil)) (.b _), ?_⟩
    try simp -dsimp -implicitDefEqProofs (disch := omega) only [go_sem, reduceAdd, reduceSub, reduceGT, reduceEqDiff, reduceMul, ring, w64, resCC]
    refine hN _ ?_
    try clear hN N
    refine AW.cond rfl (fun h4 => ?_) (fun h4 => ?_)
    ·try simp only [cn] at h4
     refine AW.sr envOk (fun N hN => ?_)
     simp -dsimp -implicitDefEqProofs (disch := omega) only [go_sem, reduceAdd, reduceSub, reduceGT, reduceEqDiff, reduceMul, ring, w64, resCC]
     refine hN _ ?_
     try clear hN N
     refine AW.ret ?_
     simp -dsimp -implicitDefEqProofs (disch := omega) only [go_sem, reduceAdd, reduceSub, reduceGT, reduceEqDiff, reduceMul]
     try (exfalso; first | omega | (simp_all; done))
    ·try simp only [cn] at h4
     refine AW.skip ?_
     simp only [thn, blk]
     refine hN3 _ ?_
     try clear hN3 N3
     refine AW.sr envOk (fun N hN => ?_)
     simp -dsimp -implicitDefEqProofs (disch := omega) only [go_sem, reduceAdd, reduceSub, reduceGT, reduceEqDiff, reduceMul, ring, w64, resCC]
     refine hN _ ?_
     try clear hN N
     refine AW.sr envOk (fun N hN => ?_)
     simp -dsimp -implicitDefEqProofs (disch := omega) only [go_sem, reduceAdd, reduceSub, reduceGT, reduceEqDiff, reduceMul, ring, w64, resCC]
     try simp -dsimp -implicitDefEqProofs (disch := omega) only [go_sem, reduceAdd, reduceSub, reduceGT, reduceEqDiff, reduceMul, hX]
     refine (markR_h _ _ _ (p, pw, br) _ _ 1 ho_r (by omega) ⟨g1, g2⟩ (by omega) (by omega)).mono2 ?_
     rintro m9 H9 res hm9 ⟨k9, rfl, hk9, hk9', hH9⟩
     replace hB := (hH9 nx (by omega)).trans hB
     replace hg := hg.keep (fun i q1 q2 => hH9 i (by omega))
     try simp -dsimp -implicitDefEqProofs (disch := omega) only [go_sem, reduceAdd, reduceSub, reduceGT, reduceEqDiff, reduceMul, ring, w64, resCC]
     refine hN _ ?_
     try clear hN N
     refine AW.seq (fun N4 hN4 => ?_)
     refine AW.sr envOk (fun N hN => ?_)
     simp -dsimp -implicitDefEqProofs (disch := omega) only [go_sem, reduceAdd, reduceSub, reduceGT, reduceEqDiff, reduceMul, ring, w64, resCC]
     refine gopB.mk' (fun h5 => ?_) (fun h5 => ?_)
     ·try simp only [cn] at h5
      try simp -dsimp -implicitDefEqProofs (disch := omega) only [go_sem, reduceAdd, reduceSub, reduceGT, reduceEqDiff, reduceMul, ring, w64, resCC]
      refine AC.pure (.lent (heq) (.cons hg.vw (.cons (.refl _) .nil)) (.b _)) ?_
      try simp -dsimp -implicitDefEqProofs (disch := omega) only [go_sem, reduceAdd, reduceSub, reduceGT, reduceEqDiff, reduceMul, ring, w64, resCC]
      refine gopB.mk' (fun h6 => ?_) (fun h6 => ?_)
      ·try simp only [cn] at h6
       try simp -dsimp -implicitDefEqProofs (disch := omega) only [go_sem, reduceAdd, reduceSub, reduceGT, reduceEqDiff, reduceMul, ring, w64, resCC]
       refine hN _ ?_
       try clear hN N
       refine AW.cond rfl (fun h7 => ?_) (fun h7 => ?_)
       ·try simp only [cn] at h7
        refine AW.sr envOk (fun N hN => ?_)
        simp -dsimp -implicitDefEqProofs (disch := omega) only [go_sem, reduceAdd, reduceSub, reduceGT, reduceEqDiff, reduceMul, ring, w64, resCC]
        refine hN _ ?_
        try clear hN N
        refine AW.ret ?_
        simp -dsimp -implicitDefEqProofs (disch := omega) only [go_sem, reduceAdd, reduceSub, reduceGT, reduceEqDiff, reduceMul]
        try (exfalso; first | omega | (simp_all; done))
       ·try simp only [cn] at h7
        refine AW.skip ?_
        simp only [thn, blk]
        refine hN4 _ ?_
        try clear hN4 N4
        refine AW.sr envOk (fun N hN => ?_)
        simp -dsimp -implicitDefEqProofs (disch := omega) only [go_sem, reduceAdd, reduceSub, reduceGT, reduceEqDiff, reduceMul, ring, w64, resCC]
        refine hN _ ?_
        try clear hN N
        refine AW.sr envOk (fun N hN => ?_)
        simp -dsimp -implicitDefEqProofs (disch := omega) only [go_sem, reduceAdd, reduceSub, reduceGT, reduceEqDiff, reduceMul, ring, w64, resCC]
        refine (markCC_g hML.2 hg (by omega) (by omega)).mono2 ?_
        rintro m11 H11 res hm11 ⟨rfl, hg2, hH11⟩
        replace hB := (hH11 nx (by omega)).trans hB
        try simp -dsimp -implicitDefEqProofs (disch := omega) only [go_sem, reduceAdd, reduceSub, reduceGT, reduceEqDiff, reduceMul, ring, w64, resCC]
        refine hN _ ?_
        try clear hN N
        refine AW.sr envOk (fun N hN => ?_)
        simp -dsimp -implicitDefEqProofs (disch := omega) only [go_sem, reduceAdd, reduceSub, reduceGT, reduceEqDiff, reduceMul, ring, w64, resCC]
        refine hN _ ?_
        try clear hN N
        refine AW.sr envOk (fun N hN => ?_)
        simp -dsimp -implicitDefEqProofs (disch := omega) only [go_sem, reduceAdd, reduceSub, reduceGT, reduceEqDiff, reduceMul, ring, w64, resCC]
        refine AC.pure (.lent (heldCC_g hML.2 (by omega) (by omega)) (.cons hg2.vw (.cons (.refl _) .nil)) (.i _ _)) ?_
        try simp -dsimp -implicitDefEqProofs (disch := omega) only [go_sem, reduceAdd, reduceSub, reduceGT, reduceEqDiff, reduceMul, ring, w64, resCC]
        refine hN _ ?_
        try clear hN N
        refine AW.seq (fun N5 hN5 => ?_)
        refine AW.sr envOk (fun N hN => ?_)
        simp -dsimp -implicitDefEqProofs (disch := omega) only [go_sem, reduceAdd, reduceSub, reduceGT, reduceEqDiff, reduceMul, ring, w64, resCC]
        refine hN _ ?_
        try clear hN N
        refine AW.cond rfl (fun h8 => ?_) (fun h8 => ?_)
        ·try simp only [cn] at h8
         refine AW.sr envOk (fun N hN => ?_)
         simp -dsimp -implicitDefEqProofs (disch := omega) only [go_sem, reduceAdd, reduceSub, reduceGT, reduceEqDiff, reduceMul, ring, w64, resCC]
         refine hN _ ?_
         try clear hN N
         refine AW.ret ?_
         simp -dsimp -implicitDefEqProofs (disch := omega) only [go_sem, reduceAdd, reduceSub, reduceGT, reduceEqDiff, reduceMul]
         try (exfalso; first | omega | (simp_all; done))
        ·try simp only [cn] at h8
         refine AW.skip ?_
         simp only [thn, blk]
         refine hN5 _ ?_
         try clear hN5 N5
         refine AW.seq (fun N6 hN6 => ?_)
         refine AW.sr envOk (fun N hN => ?_)
         simp -dsimp -implicitDefEqProofs (disch := omega) only [go_sem, reduceAdd, reduceSub, reduceGT, reduceEqDiff, reduceMul, ring, w64, resCC]
         refine hN _ ?_
         try clear hN N
         refine AW.cond rfl (fun h9 => ?_) (fun h9 => ?_)
         ·try simp only [cn] at h9
          refine AW.sr envOk (fun N hN => ?_)
          simp -dsimp -implicitDefEqProofs (disch := omega) only [go_sem, reduceAdd, reduceSub, reduceGT, reduceEqDiff, reduceMul, ring, w64, resCC]
          refine hN _ ?_
          try clear hN N
          refine AW.ret ?_
          simp -dsimp -implicitDefEqProofs (disch := omega) only [go_sem, reduceAdd, reduceSub, reduceGT, reduceEqDiff, reduceMul]
          try (exfalso; first | omega | (simp_all; done))
         ·try simp only [cn] at h9
          refine AW.skip ?_
          simp only [thn, blk]
          refine hN6 _ ?_
          try clear hN6 N6
          refine AW.sr envOk (fun N hN => ?_)
          simp -dsimp -implicitDefEqProofs (disch := omega) only [go_sem, reduceAdd, reduceSub, reduceGT, reduceEqDiff, reduceMul, ring, w64, resCC]
          try simp -dsimp -implicitDefEqProofs (disch := omega) only [go_sem, reduceAdd, reduceSub, reduceGT, reduceEqDiff, reduceMul, hB]
          refine AC.pure (.of (hto.pure )) ?_
          try simp -dsimp -implicitDefEqProofs (disch := omega) only [go_sem, reduceAdd, reduceSub, reduceGT, reduceEqDiff, reduceMul, ring, w64, resCC]
          refine AC.pure (.of (himpl.pure )) ?_
          try simp -dsimp -implicitDefEqProofs (disch := omega) only [go_sem, reduceAdd, reduceSub, reduceGT, reduceEqDiff, reduceMul, ring, w64, resCC]
          refine hN _ ?_
          try clear hN N
          refine AW.seq (fun N7 hN7 => ?_)
          refine AW.sr envOk (fun N hN => ?_)
          simp -dsimp -implicitDefEqProofs (disch := omega) only [go_sem, reduceAdd, reduceSub, reduceGT, reduceEqDiff, reduceMul, ring, w64, resCC]
          refine AC.pure (.of (heq )) ?_
          try simp -dsimp -implicitDefEqProofs (disch := omega) only [go_sem, reduceAdd, reduceSub, reduceGT, reduceEqDiff, reduceMul, ring, w64, resCC]
          refine gopB.mk' (fun h10 => ?_) (fun h10 => ?_)
          ·try simp only [cn] at h10
           try simp -dsimp -implicitDefEqProofs (disch := omega) only [go_sem, reduceAdd, reduceSub, reduceGT, reduceEqDiff, reduceMul, ring, w64, resCC]
           refine hN _ ?_
           try clear hN N
           refine AW.cond rfl (fun h11 => ?_) (fun h11 => ?_)
           ·try simp only [cn] at h11
            refine AW.sr envOk (fun N hN => ?_)
            simp -dsimp -implicitDefEqProofs (disch := omega) only [go_sem, reduceAdd, reduceSub, reduceGT, reduceEqDiff, reduceMul, ring, w64, resCC]
            refine hN _ ?_
            try clear hN N
            refine AW.ret ?_
            simp -dsimp -implicitDefEqProofs (disch := omega) only [go_sem, reduceAdd, reduceSub, reduceGT, reduceEqDiff, reduceMul]
            try (exfalso; first | omega | (simp_all; done))
           ·try simp only [cn] at h11
            refine AW.skip ?_
            simp only [thn, blk]
            refine hN7 _ ?_
            try clear hN7 N7
            refine AW.sr envOk (fun N hN => ?_)
            simp -dsimp -implicitDefEqProofs (disch := omega) only [go_sem, reduceAdd, reduceSub, reduceGT, reduceEqDiff, reduceMul, ring, w64, resCC]
            refine hN _ ?_
            try clear hN N
            refine AW.sr envOk (fun N hN => ?_)
            simp -dsimp -implicitDefEqProofs (disch := omega) only [go_sem, reduceAdd, reduceSub, reduceGT, reduceEqDiff, reduceMul, ring, w64, resCC]
            refine AC.pure (.lent (heldCC_g hML.2 (by omega) (by omega)) (.cons hg2.vw (.cons (.refl _) .nil)) (.i _ _)) ?_
            try simp -dsimp -implicitDefEqProofs (disch := omega) only [go_sem, reduceAdd, reduceSub, reduceGT, reduceEqDiff, reduceMul, ring, w64, resCC]
            refine hN _ ?_
            try clear hN N
            refine AW.seq (fun N8 hN8 => ?_)
            refine AW.sr envOk (fun N hN => ?_)
            simp -dsimp -implicitDefEqProofs (disch := omega) only [go_sem, reduceAdd, reduceSub, reduceGT, reduceEqDiff, reduceMul, ring, w64, resCC]
            refine hN _ ?_
            try clear hN N
            refine AW.cond rfl (fun h12 => ?_) (fun h12 => ?_)
            ·try simp only [cn] at h12
             refine AW.sr envOk (fun N hN => ?_)
             simp -dsimp -implicitDefEqProofs (disch := omega) only [go_sem, reduceAdd, reduceSub, reduceGT, reduceEqDiff, reduceMul, ring, w64, resCC]
             refine hN _ ?_
             try clear hN N
             refine AW.ret ?_
             simp -dsimp -implicitDefEqProofs (disch := omega) only [go_sem, reduceAdd, reduceSub, reduceGT, reduceEqDiff, reduceMul]
             try (exfalso; first | omega | (simp_all; done))
            ·try simp only [cn] at h12
             refine AW.skip ?_
             simp only [thn, blk]
             refine hN8 _ ?_
             try clear hN8 N8
             refine AW.seq (fun N9 hN9 => ?_)
             refine AW.sr envOk (fun N hN => ?_)
             simp -dsimp -implicitDefEqProofs (disch := omega) only [go_sem, reduceAdd, reduceSub, reduceGT, reduceEqDiff, reduceMul, ring, w64, resCC]
             refine hN _ ?_
             try clear hN N
             refine AW.cond rfl (fun h13 => ?_) (fun h13 => ?_)
             ·try simp only [cn] at h13
              refine AW.sr envOk (fun N hN => ?_)
              simp -dsimp -implicitDefEqProofs (disch := omega) only [go_sem, reduceAdd, reduceSub, reduceGT, reduceEqDiff, reduceMul, ring, w64, resCC]
              refine hN _ ?_
              try clear hN N
              refine AW.ret ?_
              simp -dsimp -implicitDefEqProofs (disch := omega) only [go_sem, reduceAdd, reduceSub, reduceGT, reduceEqDiff, reduceMul]
              try (exfalso; first | omega | (simp_all; done))
             ·try simp only [cn] at h13
              refine AW.skip ?_
              simp only [thn, blk]
              refine hN9 _ ?_
              try clear hN9 N9
              refine AW.sr envOk (fun N hN => ?_)
              simp -dsimp -implicitDefEqProofs (disch := omega) only [go_sem, reduceAdd, reduceSub, reduceGT, reduceEqDiff, reduceMul, ring, w64, resCC]
              refine hN _ ?_
              try clear hN N
              refine AW.ret ?_
              simp -dsimp -implicitDefEqProofs (disch := omega) only [go_sem, reduceAdd, reduceSub, reduceGT, reduceEqDiff, reduceMul]
              try (exfalso; first | omega | (simp_all; done))
          ·try simp only [cn] at h10
           try simp -dsimp -implicitDefEqProofs (disch := omega) only [go_sem, reduceAdd, reduceSub, reduceGT, reduceEqDiff, reduceMul, ring, w64, resCC]
           refine hN _ ?_
           try clear hN N
           refine AW.condT rfl ?_
           refine AW.sr envOk (fun N hN => ?_)
           simp -dsimp -implicitDefEqProofs (disch := omega) only [go_sem, reduceAdd, reduceSub, reduceGT, reduceEqDiff, reduceMul, ring, w64, resCC]
           refine hN _ ?_
           try clear hN N
           refine AW.ret ?_
           simp -dsimp -implicitDefEqProofs (disch := omega) only [go_sem, reduceAdd, reduceSub, reduceGT, reduceEqDiff, reduceMul]
           try (exfalso; first | omega | (simp_all; done))
      ·try simp only [cn] at h6
       try simp -dsimp -implicitDefEqProofs (disch := omega) only [go_sem, reduceAdd, reduceSub, reduceGT, reduceEqDiff, reduceMul, ring, w64, resCC]
       refine hN _ ?_
       try clear hN N
       refine AW.condT rfl ?_
       refine AW.sr envOk (fun N hN => ?_)
       simp -dsimp -implicitDefEqProofs (disch := omega) only [go_sem, reduceAdd, reduceSub, reduceGT, reduceEqDiff, reduceMul, ring, w64, resCC]
       refine hN _ ?_
       try clear hN N
       refine AW.ret ?_
       simp -dsimp -implicitDefEqProofs (disch := omega) only [go_sem, reduceAdd, reduceSub, reduceGT, reduceEqDiff, reduceMul]
       try (exfalso; first | omega | (simp_all; done))
     ·try simp only [cn] at h5
      try simp -dsimp -implicitDefEqProofs (disch := omega) only [go_sem, reduceAdd, reduceSub, reduceGT, reduceEqDiff, reduceMul, ring, w64, resCC]
      refine hN _ ?_
      try clear hN N
      refine AW.condT rfl ?_
      refine AW.sr envOk (fun N hN => ?_)
      simp -dsimp -implicitDefEqProofs (disch := omega) only [go_sem, reduceAdd, reduceSub, reduceGT, reduceEqDiff, reduceMul, ring, w64, resCC]
      refine hN _ ?_
      try clear hN N
      refine AW.ret ?_
      simp -dsimp -implicitDefEqProofs (disch := omega) only [go_sem, reduceAdd, reduceSub, reduceGT, reduceEqDiff, reduceMul]
      try (exfalso; first | omega | (simp_all; done))
  ·try simp only [cn] at h2
   try simp -dsimp -implicitDefEqProofs (disch := omega) only [go_sem, reduceAdd, reduceSub, reduceGT, reduceEqDiff, reduceMul, ring, w64, resCC]
   refine hN _ ?_
   try clear hN N
   refine AW.condT rfl ?_
   refine AW.sr envOk (fun N hN => ?_)
   simp -dsimp -implicitDefEqProofs (disch := omega) only [go_sem, reduceAdd, reduceSub, reduceGT, reduceEqDiff, reduceMul, ring, w64, resCC]
   refine hN _ ?_
   try clear hN N
   refine AW.ret ?_
   simp -dsimp -implicitDefEqProofs (disch := omega) only [go_sem, reduceAdd, reduceSub, reduceGT, reduceEqDiff, reduceMul]
   try (exfalso; first | omega | (simp_all; done))

end Go.Proofs.Ytbhlindlcfeppaa
