/-
  The law FnExactRelationTable: it answers true, whatever it is given.
-/
import Derived.Test.YtimgnijlnkjamaaWb
import Derived.Test.YtimgnijlnkjamaaWc
set_option linter.unusedVariables false
set_option linter.unusedSimpArgs false
namespace Go.Proofs.Ytimgnijlnkjamaa
open Nat (reduceAdd reduceSub reduceGT reduceEqDiff reduceMul)

theorem relM_len {b : Bool} {g : Int} {rs : List (List Int)} (h : rowslen rs) (hg : b = true → g ≤ 4) : rowslen (relM b g rs).1.2 := by
  cases b with
  | false => exact .nil
  | true =>
    have := hg rfl
    unfold relM
    dsimp only
    split
    · exact .nil
    · refine ⟨by rw [exR_len]; exact h.n, fun x hx => ?_⟩
      obtain ⟨y, _, rfl⟩ := List.mem_map.1 hx
      rw [exS_len]; omega

theorem law_RelationTable (g : Int) (rs : List (List Int)) (h0 : i64ok g) (ha : rowsok rs) : ACp Try.prog 3 [fp g rs] (.b true) := by
 obtain ⟨M, hM⟩ : ∃ M, relM (tf (fpP g rs)) g rs = M := ⟨_, rfl⟩
 refine ACp.intro' envOk Try.func3 rfl (by kernel_rfl) Try.ntmps3 Try.results3 (.b _) (fun nx => ?_)
 refine AW.sr envOk (fun N hN => ?_)
 simp -dsimp -implicitDefEqProofs (disch := omega) only [go_sem, reduceAdd, reduceSub, reduceGT, reduceEqDiff, reduceMul, fp, w64, resF]
 refine hN _ ?_
 try clear hN N
 refine AW.freezeQ 1 nx _ rfl (upd_same _ _ _) ?_
 simp -dsimp -implicitDefEqProofs (disch := omega) only [go_sem, reduceAdd, reduceSub, reduceGT, reduceEqDiff, reduceMul]
 refine AW.sr envOk (fun N hN => ?_)
 simp -dsimp -implicitDefEqProofs (disch := omega) only [go_sem, reduceAdd, reduceSub, reduceGT, reduceEqDiff, reduceMul, fp, w64, resF]
 refine hN _ ?_
 try clear hN N
 refine AW.sr envOk (fun N hN => ?_)
 simp -dsimp -implicitDefEqProofs (disch := omega) only [go_sem, reduceAdd, reduceSub, reduceGT, reduceEqDiff, reduceMul, fp, w64, resF]
 refine AC.pure (.of (laws_szFpGroup_ok g rs 1048576 (by omega) (by omega) ha)) ?_
 try simp -dsimp -implicitDefEqProofs (disch := omega) only [go_sem, reduceAdd, reduceSub, reduceGT, reduceEqDiff, reduceMul, fp, w64, resF]
 refine hN _ ?_
 try clear hN N
 refine AW.seq (fun N1 hN1 => ?_)
 refine AW.sr envOk (fun N hN => ?_)
 simp -dsimp -implicitDefEqProofs (disch := omega) only [go_sem, reduceAdd, reduceSub, reduceGT, reduceEqDiff, reduceMul, fp, w64, resF]
 refine hN _ ?_
 try clear hN N
 refine AW.cond rfl (fun h1 => ?_) (fun h1 => ?_)
 ·try simp only [cn] at h1
  refine AW.sr envOk (fun N hN => ?_)
  simp -dsimp -implicitDefEqProofs (disch := omega) only [go_sem, reduceAdd, reduceSub, reduceGT, reduceEqDiff, reduceMul, fp, w64, resF]
  refine hN _ ?_
  try clear hN N
  refine AW.ret ?_
  simp -dsimp -implicitDefEqProofs (disch := omega) only [go_sem, reduceAdd, reduceSub, reduceGT, reduceEqDiff, reduceMul]
  try (exfalso; first | omega | (simp_all; done))
 ·try simp only [cn] at h1
  have hr := szSS_mem (by omega) (by omega) h1
  have hto := laws_toFpGroup_ok g rs hr
  have hML : rowslen M.1.2 := by rw [← hM]; exact relM_len hr (fun h => by
   by_cases hp : fpP g rs
   ·have := hp.1; omega
   ·rw [tf_f hp] at h; cases h)
  have hspec := spec_RelationTable_ok g rs hr
  have himpl := impl_RelationTable_ok g rs hr
  rw [hM] at hspec himpl
  have heq := laws_eqTable_r M.1.1 M.1.2 hML
  refine AW.skip ?_
  simp only [thn, blk]
  refine hN1 _ ?_
  try clear hN1 N1
  refine AW.sr envOk (fun N hN => ?_)
  simp -dsimp -implicitDefEqProofs (disch := omega) only [go_sem, reduceAdd, reduceSub, reduceGT, reduceEqDiff, reduceMul, fp, w64, resF]
  refine AC.pure (.of (hto.pure )) ?_
  try simp -dsimp -implicitDefEqProofs (disch := omega) only [go_sem, reduceAdd, reduceSub, reduceGT, reduceEqDiff, reduceMul, fp, w64, resF]
  refine AC.pure (.of (hspec )) ?_
  try simp -dsimp -implicitDefEqProofs (disch := omega) only [go_sem, reduceAdd, reduceSub, reduceGT, reduceEqDiff, reduceMul, fp, w64, resF]
  refine hN _ ?_
  try clear hN N
  refine AW.freezeQ 4 (nx + 2 + 1 + 4 + 2 + 6) _ rfl (upd_same _ _ _) ?_
  simp -dsimp -implicitDefEqProofs (disch := omega) only [go_sem, reduceAdd, reduceSub, reduceGT, reduceEqDiff, reduceMul]
  refine AW.sr envOk (fun N hN => ?_)
  simp -dsimp -implicitDefEqProofs (disch := omega) only [go_sem, reduceAdd, reduceSub, reduceGT, reduceEqDiff, reduceMul, fp, w64, resF]
  refine AC.hold hto (.cons (.refl _) .nil) ?_
  intro m6 H6 r_r hm6 hH6 ho_r
  obtain ⟨r1, rfl, u1, ho_r⟩ := ho_r.fp
  try simp -dsimp -implicitDefEqProofs (disch := omega) only [go_sem, reduceAdd, reduceSub, reduceGT, reduceEqDiff, reduceMul, u1]
  refine hN _ ?_
  try clear hN N
  refine AW.freezeQ 6 (nx + 2 + 1 + 4 + 2 + 9 + 2) _ rfl (upd_same _ _ _) ?_
  refine AW.nameH (fun G6 hG6 => ?_)
  dsimp only at hG6
  replace ho_r := ho_r.keep (H' := G6) (fun i q1 q2 => by rw [← hG6]; simp (disch := omega) only [upd_ne])
  simp -dsimp -implicitDefEqProofs (disch := omega) only [go_sem, reduceAdd, reduceSub, reduceGT, reduceEqDiff, reduceMul]
  refine AW.sr envOk (fun N hN => ?_)
  simp -dsimp -implicitDefEqProofs (disch := omega) only [go_sem, reduceAdd, reduceSub, reduceGT, reduceEqDiff, reduceMul, fp, w64, resF]
  refine AC.hold himpl (.cons ho_r.vw .nil) ?_
  intro m8 H8 r_z hm8 hH8 ho_z
  replace ho_r := ho_r.keep (fun i q1 q2 => hH8 i (by omega))
  obtain ⟨g0, rfl, hg⟩ := ho_z.pair
  obtain ⟨s1, rfl, v1, hg⟩ := hg.fp
  clear ho_z
  try simp -dsimp -implicitDefEqProofs (disch := omega) only [go_sem, reduceAdd, reduceSub, reduceGT, reduceEqDiff, reduceMul, v1]
  refine hN _ ?_
  try clear hN N
  refine AW.seq (fun N2 hN2 => ?_)
  refine AW.freezeQ 7 (m6 + 5) _ rfl (upd_same _ _ _) ?_
  refine AW.nameH (fun G8 hG8 => ?_)
  dsimp only at hG8
  replace ho_r := ho_r.keep (H' := G8) (fun i q1 q2 => by rw [← hG8]; simp (disch := omega) only [upd_ne])
  replace hg := hg.keep (H' := G8) (fun i q1 q2 => by rw [← hG8]; simp (disch := omega) only [upd_ne])
  simp -dsimp -implicitDefEqProofs (disch := omega) only [go_sem, reduceAdd, reduceSub, reduceGT, reduceEqDiff, reduceMul]
  refine AW.sr envOk (fun N hN => ?_)
  simp -dsimp -implicitDefEqProofs (disch := omega) only [go_sem, reduceAdd, reduceSub, reduceGT, reduceEqDiff, reduceMul, fp, w64, resF]
  refine AC.pure (.lent (heq) (.cons hg.vw (.cons (.refl _) .nil)) (.b _)) ?_
  try simp -dsimp -implicitDefEqProofs (disch := omega) only [go_sem, reduceAdd, reduceSub, reduceGT, reduceEqDiff, reduceMul, fp, w64, resF]
  refine gopB.mk' (fun h2 => ?_) (fun h2 => ?_)
  ·try simp only [cn] at h2
   try simp -dsimp -implicitDefEqProofs (disch := omega) only [go_sem, reduceAdd, reduceSub, reduceGT, reduceEqDiff, reduceMul, fp, w64, resF]
   refine hN _ ?_
   try clear hN N
   refine AW.cond rfl (fun h3 => ?_) (fun h3 => ?_)
   ·try simp only [cn] at h3
    refine AW.sr envOk (fun N hN => ?_)
    simp -dsimp -implicitDefEqProofs (disch := omega) only [go_sem, reduceAdd, reduceSub, reduceGT, reduceEqDiff, reduceMul, fp, w64, resF]
    refine hN _ ?_
    try clear hN N
    refine AW.ret ?_
    simp -dsimp -implicitDefEqProofs (disch := omega) only [go_sem, reduceAdd, reduceSub, reduceGT, reduceEqDiff, reduceMul]
    try (exfalso; first | omega | (simp_all; done))
   ·try simp only [cn] at h3
    refine AW.skip ?_
    simp only [thn, blk]
    refine hN2 _ ?_
    try clear hN2 N2
    refine AW.seq (fun N3 hN3 => ?_)
    refine AW.seq (fun N hN => ?_)
    refine AW.drawL envOk (by kernel_rfl) 5 (by kernel_rfl) ?_
    simp -dsimp -implicitDefEqProofs (disch := omega) only [hr_nil, hr_one, hr_if, List.take_succ_cons, List.take_zero, List.drop_succ_cons, List.drop_zero, List.take_nil, List.drop_nil, go_sem, reduceAdd, reduceSub, reduceGT, reduceEqDiff, reduceMul, fp, w64, resF]
    refine ⟨_, .of (hto.pure ), ?_⟩
    try simp -dsimp -implicitDefEqProofs (disch := omega) only [go_sem, reduceAdd, reduceSub, reduceGT, reduceEqDiff, reduceMul, fp, w64, resF]
    refine ⟨_, .lent (laws_eqFpGroup_ok g g rs rs ha ha) (.cons ho_r.vw (.cons (.refl _) .nil)) (.b _), ?_⟩
    try simp -dsimp -implicitDefEqProofs (disch := omega) only [go_sem, reduceAdd, reduceSub, reduceGT, reduceEqDiff, reduceMul, fp, w64, resF]
    refine hN _ ?_
    try clear hN N
    refine AW.cond rfl (fun h4 => ?_) (fun h4 => ?_)
    ·try simp only [cn] at h4
     refine AW.sr envOk (fun N hN => ?_)
     simp -dsimp -implicitDefEqProofs (disch := omega) only [go_sem, reduceAdd, reduceSub, reduceGT, reduceEqDiff, reduceMul, fp, w64, resF]
     refine hN _ ?_
     try clear hN N
     refine AW.ret ?_
     simp -dsimp -implicitDefEqProofs (disch := omega) only [go_sem, reduceAdd, reduceSub, reduceGT, reduceEqDiff, reduceMul]
     try (exfalso; first | omega | (simp_all; done))
    ·try simp only [cn] at h4
     refine AW.skip ?_
     simp only [thn, blk]
     refine hN3 _ ?_
     try clear hN3 N3
     refine AW.sr envOk (fun N hN => ?_)
     simp -dsimp -implicitDefEqProofs (disch := omega) only [go_sem, reduceAdd, reduceSub, reduceGT, reduceEqDiff, reduceMul, fp, w64, resF]
     refine hN _ ?_
     try clear hN N
     refine AW.sr envOk (fun N hN => ?_)
     simp -dsimp -implicitDefEqProofs (disch := omega) only [go_sem, reduceAdd, reduceSub, reduceGT, reduceEqDiff, reduceMul, fp, w64, resF]
     refine (markF_g hr ho_r (by omega) (by omega) (by omega)).mono2 ?_
     rintro m14 H14 res hm14 ⟨rfl, ho_r2, hH14⟩
     replace hg := hg.keep (fun i q1 q2 => hH14 i (by omega))
     have htt := hr.tot rs.length
     rw [List.take_length] at htt
     try simp -dsimp -implicitDefEqProofs (disch := omega) only [go_sem, reduceAdd, reduceSub, reduceGT, reduceEqDiff, reduceMul, fp, w64, resF]
     refine hN _ ?_
     try clear hN N
     refine AW.seq (fun N4 hN4 => ?_)
     refine AW.sr envOk (fun N hN => ?_)
     simp -dsimp -implicitDefEqProofs (disch := omega) only [go_sem, reduceAdd, reduceSub, reduceGT, reduceEqDiff, reduceMul, fp, w64, resF]
     refine gopB.mk' (fun h5 => ?_) (fun h5 => ?_)
     ·try simp only [cn] at h5
      try simp -dsimp -implicitDefEqProofs (disch := omega) only [go_sem, reduceAdd, reduceSub, reduceGT, reduceEqDiff, reduceMul, fp, w64, resF]
      refine AC.pure (.lent (heq) (.cons hg.vw (.cons (.refl _) .nil)) (.b _)) ?_
      try simp -dsimp -implicitDefEqProofs (disch := omega) only [go_sem, reduceAdd, reduceSub, reduceGT, reduceEqDiff, reduceMul, fp, w64, resF]
      refine gopB.mk' (fun h6 => ?_) (fun h6 => ?_)
      ·try simp only [cn] at h6
       try simp -dsimp -implicitDefEqProofs (disch := omega) only [go_sem, reduceAdd, reduceSub, reduceGT, reduceEqDiff, reduceMul, fp, w64, resF]
       refine hN _ ?_
       try clear hN N
       refine AW.cond rfl (fun h7 => ?_) (fun h7 => ?_)
       ·try simp only [cn] at h7
        refine AW.sr envOk (fun N hN => ?_)
        simp -dsimp -implicitDefEqProofs (disch := omega) only [go_sem, reduceAdd, reduceSub, reduceGT, reduceEqDiff, reduceMul, fp, w64, resF]
        refine hN _ ?_
        try clear hN N
        refine AW.ret ?_
        simp -dsimp -implicitDefEqProofs (disch := omega) only [go_sem, reduceAdd, reduceSub, reduceGT, reduceEqDiff, reduceMul]
        try (exfalso; first | omega | (simp_all; done))
       ·try simp only [cn] at h7
        refine AW.skip ?_
        simp only [thn, blk]
        refine hN4 _ ?_
        try clear hN4 N4
        refine AW.sr envOk (fun N hN => ?_)
        simp -dsimp -implicitDefEqProofs (disch := omega) only [go_sem, reduceAdd, reduceSub, reduceGT, reduceEqDiff, reduceMul, fp, w64, resF]
        refine hN _ ?_
        try clear hN N
        refine AW.sr envOk (fun N hN => ?_)
        simp -dsimp -implicitDefEqProofs (disch := omega) only [go_sem, reduceAdd, reduceSub, reduceGT, reduceEqDiff, reduceMul, fp, w64, resF]
        refine (markT_g hML hg (by omega) (by omega) (by omega)).mono2 ?_
        rintro m17 H17 res hm17 ⟨rfl, hg2, hH17⟩
        try simp -dsimp -implicitDefEqProofs (disch := omega) only [go_sem, reduceAdd, reduceSub, reduceGT, reduceEqDiff, reduceMul, fp, w64, resF]
        refine hN _ ?_
        try clear hN N
        refine AW.sr envOk (fun N hN => ?_)
        simp -dsimp -implicitDefEqProofs (disch := omega) only [go_sem, reduceAdd, reduceSub, reduceGT, reduceEqDiff, reduceMul, fp, w64, resF]
        refine hN _ ?_
        try clear hN N
        refine AW.sr envOk (fun N hN => ?_)
        simp -dsimp -implicitDefEqProofs (disch := omega) only [go_sem, reduceAdd, reduceSub, reduceGT, reduceEqDiff, reduceMul, fp, w64, resF]
        refine AC.pure (.lent (heldT_g hML (by omega) (by omega)) (.cons hg2.vw (.cons (.refl _) .nil)) (.i _ _)) ?_
        try simp -dsimp -implicitDefEqProofs (disch := omega) only [go_sem, reduceAdd, reduceSub, reduceGT, reduceEqDiff, reduceMul, fp, w64, resF]
        refine hN _ ?_
        try clear hN N
        refine AW.seq (fun N5 hN5 => ?_)
        refine AW.sr envOk (fun N hN => ?_)
        simp -dsimp -implicitDefEqProofs (disch := omega) only [go_sem, reduceAdd, reduceSub, reduceGT, reduceEqDiff, reduceMul, fp, w64, resF]
        refine hN _ ?_
        try clear hN N
        refine AW.cond rfl (fun h8 => ?_) (fun h8 => ?_)
        ·try simp only [cn] at h8
         refine AW.sr envOk (fun N hN => ?_)
         simp -dsimp -implicitDefEqProofs (disch := omega) only [go_sem, reduceAdd, reduceSub, reduceGT, reduceEqDiff, reduceMul, fp, w64, resF]
         refine hN _ ?_
         try clear hN N
         refine AW.ret ?_
         simp -dsimp -implicitDefEqProofs (disch := omega) only [go_sem, reduceAdd, reduceSub, reduceGT, reduceEqDiff, reduceMul]
         try (exfalso; first | omega | (simp_all; done))
        ·try simp only [cn] at h8
         refine AW.skip ?_
         simp only [thn, blk]
         refine hN5 _ ?_
         try clear hN5 N5
         refine AW.seq (fun N6 hN6 => ?_)
         refine AW.sr envOk (fun N hN => ?_)
         simp -dsimp -implicitDefEqProofs (disch := omega) only [go_sem, reduceAdd, reduceSub, reduceGT, reduceEqDiff, reduceMul, fp, w64, resF]
         refine hN _ ?_
         try clear hN N
         refine AW.cond rfl (fun h9 => ?_) (fun h9 => ?_)
         ·try simp only [cn] at h9
          refine AW.sr envOk (fun N hN => ?_)
          simp -dsimp -implicitDefEqProofs (disch := omega) only [go_sem, reduceAdd, reduceSub, reduceGT, reduceEqDiff, reduceMul, fp, w64, resF]
          refine hN _ ?_
          try clear hN N
          refine AW.ret ?_
          simp -dsimp -implicitDefEqProofs (disch := omega) only [go_sem, reduceAdd, reduceSub, reduceGT, reduceEqDiff, reduceMul]
          try (exfalso; first | omega | (simp_all; done))
         ·try simp only [cn] at h9
          refine AW.skip ?_
          simp only [thn, blk]
          refine hN6 _ ?_
          try clear hN6 N6
          refine AW.sr envOk (fun N hN => ?_)
          simp -dsimp -implicitDefEqProofs (disch := omega) only [go_sem, reduceAdd, reduceSub, reduceGT, reduceEqDiff, reduceMul, fp, w64, resF]
          refine AC.pure (.of (hto.pure )) ?_
          try simp -dsimp -implicitDefEqProofs (disch := omega) only [go_sem, reduceAdd, reduceSub, reduceGT, reduceEqDiff, reduceMul, fp, w64, resF]
          refine AC.pure (.of (himpl.pure )) ?_
          try simp -dsimp -implicitDefEqProofs (disch := omega) only [go_sem, reduceAdd, reduceSub, reduceGT, reduceEqDiff, reduceMul, fp, w64, resF]
          refine hN _ ?_
          try clear hN N
          refine AW.seq (fun N7 hN7 => ?_)
          refine AW.freezeQ 12 (m17 + 1 + 4 + 2 + 3 + 6) _ rfl (upd_same _ _ _) ?_
          refine AW.nameH (fun G9 hG9 => ?_)
          dsimp only at hG9
          replace hg2 := hg2.keep (H' := G9) (fun i q1 q2 => by rw [← hG9]; simp (disch := omega) only [upd_ne])
          simp -dsimp -implicitDefEqProofs (disch := omega) only [go_sem, reduceAdd, reduceSub, reduceGT, reduceEqDiff, reduceMul]
          refine AW.sr envOk (fun N hN => ?_)
          simp -dsimp -implicitDefEqProofs (disch := omega) only [go_sem, reduceAdd, reduceSub, reduceGT, reduceEqDiff, reduceMul, fp, w64, resF]
          refine AC.pure (.of (heq )) ?_
          try simp -dsimp -implicitDefEqProofs (disch := omega) only [go_sem, reduceAdd, reduceSub, reduceGT, reduceEqDiff, reduceMul, fp, w64, resF]
          refine gopB.mk' (fun h10 => ?_) (fun h10 => ?_)
          ·try simp only [cn] at h10
           try simp -dsimp -implicitDefEqProofs (disch := omega) only [go_sem, reduceAdd, reduceSub, reduceGT, reduceEqDiff, reduceMul, fp, w64, resF]
           refine hN _ ?_
           try clear hN N
           refine AW.cond rfl (fun h11 => ?_) (fun h11 => ?_)
           ·try simp only [cn] at h11
            refine AW.sr envOk (fun N hN => ?_)
            simp -dsimp -implicitDefEqProofs (disch := omega) only [go_sem, reduceAdd, reduceSub, reduceGT, reduceEqDiff, reduceMul, fp, w64, resF]
            refine hN _ ?_
            try clear hN N
            refine AW.ret ?_
            simp -dsimp -implicitDefEqProofs (disch := omega) only [go_sem, reduceAdd, reduceSub, reduceGT, reduceEqDiff, reduceMul]
            try (exfalso; first | omega | (simp_all; done))
           ·try simp only [cn] at h11
            refine AW.skip ?_
            simp only [thn, blk]
            refine hN7 _ ?_
            try clear hN7 N7
            refine AW.sr envOk (fun N hN => ?_)
            simp -dsimp -implicitDefEqProofs (disch := omega) only [go_sem, reduceAdd, reduceSub, reduceGT, reduceEqDiff, reduceMul, fp, w64, resF]
            refine hN _ ?_
            try clear hN N
            refine AW.sr envOk (fun N hN => ?_)
            simp -dsimp -implicitDefEqProofs (disch := omega) only [go_sem, reduceAdd, reduceSub, reduceGT, reduceEqDiff, reduceMul, fp, w64, resF]
            refine AC.pure (.lent (heldT_g hML (by omega) (by omega)) (.cons hg2.vw (.cons (.refl _) .nil)) (.i _ _)) ?_
            try simp -dsimp -implicitDefEqProofs (disch := omega) only [go_sem, reduceAdd, reduceSub, reduceGT, reduceEqDiff, reduceMul, fp, w64, resF]
            refine hN _ ?_
            try clear hN N
            refine AW.seq (fun N8 hN8 => ?_)
            refine AW.sr envOk (fun N hN => ?_)
            simp -dsimp -implicitDefEqProofs (disch := omega) only [go_sem, reduceAdd, reduceSub, reduceGT, reduceEqDiff, reduceMul, fp, w64, resF]
            refine hN _ ?_
            try clear hN N
            refine AW.cond rfl (fun h12 => ?_) (fun h12 => ?_)
            ·try simp only [cn] at h12
             refine AW.sr envOk (fun N hN => ?_)
             simp -dsimp -implicitDefEqProofs (disch := omega) only [go_sem, reduceAdd, reduceSub, reduceGT, reduceEqDiff, reduceMul, fp, w64, resF]
             refine hN _ ?_
             try clear hN N
             refine AW.ret ?_
             simp -dsimp -implicitDefEqProofs (disch := omega) only [go_sem, reduceAdd, reduceSub, reduceGT, reduceEqDiff, reduceMul]
             try (exfalso; first | omega | (simp_all; done))
            ·try simp only [cn] at h12
             refine AW.skip ?_
             simp only [thn, blk]
             refine hN8 _ ?_
             try clear hN8 N8
             refine AW.seq (fun N9 hN9 => ?_)
             refine AW.sr envOk (fun N hN => ?_)
             simp -dsimp -implicitDefEqProofs (disch := omega) only [go_sem, reduceAdd, reduceSub, reduceGT, reduceEqDiff, reduceMul, fp, w64, resF]
             refine hN _ ?_
             try clear hN N
             refine AW.cond rfl (fun h13 => ?_) (fun h13 => ?_)
             ·try simp only [cn] at h13
              refine AW.sr envOk (fun N hN => ?_)
              simp -dsimp -implicitDefEqProofs (disch := omega) only [go_sem, reduceAdd, reduceSub, reduceGT, reduceEqDiff, reduceMul, fp, w64, resF]
              refine hN _ ?_
              try clear hN N
              refine AW.ret ?_
              simp -dsimp -implicitDefEqProofs (disch := omega) only [go_sem, reduceAdd, reduceSub, reduceGT, reduceEqDiff, reduceMul]
              try (exfalso; first | omega | (simp_all; done))
             ·try simp only [cn] at h13
              refine AW.skip ?_
              simp only [thn, blk]
              refine hN9 _ ?_
              try clear hN9 N9
              refine AW.sr envOk (fun N hN => ?_)
              simp -dsimp -implicitDefEqProofs (disch := omega) only [go_sem, reduceAdd, reduceSub, reduceGT, reduceEqDiff, reduceMul, fp, w64, resF]
              refine hN _ ?_
              try clear hN N
              refine AW.ret ?_
              simp -dsimp -implicitDefEqProofs (disch := omega) only [go_sem, reduceAdd, reduceSub, reduceGT, reduceEqDiff, reduceMul]
              try (exfalso; first | omega | (simp_all; done))
          ·try simp only [cn] at h10
           try simp -dsimp -implicitDefEqProofs (disch := omega) only [go_sem, reduceAdd, reduceSub, reduceGT, reduceEqDiff, reduceMul, fp, w64, resF]
           refine hN _ ?_
           try clear hN N
           refine AW.condT rfl ?_
           refine AW.sr envOk (fun N hN => ?_)
           simp -dsimp -implicitDefEqProofs (disch := omega) only [go_sem, reduceAdd, reduceSub, reduceGT, reduceEqDiff, reduceMul, fp, w64, resF]
           refine hN _ ?_
           try clear hN N
           refine AW.ret ?_
           simp -dsimp -implicitDefEqProofs (disch := omega) only [go_sem, reduceAdd, reduceSub, reduceGT, reduceEqDiff, reduceMul]
           try (exfalso; first | omega | (simp_all; done))
      ·try simp only [cn] at h6
       try simp -dsimp -implicitDefEqProofs (disch := omega) only [go_sem, reduceAdd, reduceSub, reduceGT, reduceEqDiff, reduceMul, fp, w64, resF]
       refine hN _ ?_
       try clear hN N
       refine AW.condT rfl ?_
       refine AW.sr envOk (fun N hN => ?_)
       simp -dsimp -implicitDefEqProofs (disch := omega) only [go_sem, reduceAdd, reduceSub, reduceGT, reduceEqDiff, reduceMul, fp, w64, resF]
       refine hN _ ?_
       try clear hN N
       refine AW.ret ?_
       simp -dsimp -implicitDefEqProofs (disch := omega) only [go_sem, reduceAdd, reduceSub, reduceGT, reduceEqDiff, reduceMul]
       try (exfalso; first | omega | (simp_all; done))
     ·try simp only [cn] at h5
      try simp -dsimp -implicitDefEqProofs (disch := omega) only [go_sem, reduceAdd, reduceSub, reduceGT, reduceEqDiff, reduceMul, fp, w64, resF]
      refine hN _ ?_
      try clear hN N
      refine AW.condT rfl ?_
      refine AW.sr envOk (fun N hN => ?_)
      simp -dsimp -implicitDefEqProofs (disch := omega) only [go_sem, reduceAdd, reduceSub, reduceGT, reduceEqDiff, reduceMul, fp, w64, resF]
      refine hN _ ?_
      try clear hN N
      refine AW.ret ?_
      simp -dsimp -implicitDefEqProofs (disch := omega) only [go_sem, reduceAdd, reduceSub, reduceGT, reduceEqDiff, reduceMul]
      try (exfalso; first | omega | (simp_all; done))
  ·try simp only [cn] at h2
   try simp -dsimp -implicitDefEqProofs (disch := omega) only [go_sem, reduceAdd, reduceSub, reduceGT, reduceEqDiff, reduceMul, fp, w64, resF]
   refine hN _ ?_
   try clear hN N
   refine AW.condT rfl ?_
   refine AW.sr envOk (fun N hN => ?_)
   simp -dsimp -implicitDefEqProofs (disch := omega) only [go_sem, reduceAdd, reduceSub, reduceGT, reduceEqDiff, reduceMul, fp, w64, resF]
   refine hN _ ?_
   try clear hN N
   refine AW.ret ?_
   simp -dsimp -implicitDefEqProofs (disch := omega) only [go_sem, reduceAdd, reduceSub, reduceGT, reduceEqDiff, reduceMul]
   try (exfalso; first | omega | (simp_all; done))

end Go.Proofs.Ytimgnijlnkjamaa
