/-
  The law FnExactIsFpHom: it answers true, whatever it is given.
-/
import Derived.Test.YtimgnijlnkjamaaGp
import Derived.Test.YtimgnijlnkjamaaGm
set_option linter.unusedVariables false
set_option linter.unusedSimpArgs false
namespace Go.Proofs.Ytimgnijlnkjamaa
open Nat (reduceAdd reduceSub reduceGT reduceEqDiff reduceMul)

theorem law_IsFpHom (g : Int) (rs : List (List Int)) (os : List Int) (pw : List (List Int)) (cj : List (List (List Int))) (xs : List (List Int)) (hg : i64ok g) (hrs : rowsok rs) (h0 : intsok os) (hpw : rowsok pw) (hcj : cubesok cj) (hxs : rowsok xs) : ACp Try.prog 6 [fp g rs, prs os pw cj, rows xs] (.b true) := by
 have ho := h0.1
 obtain ⟨M1, hM1⟩ : ∃ b, tf (hmP g rs os pw cj xs) = b := ⟨_, rfl⟩
 obtain ⟨M2, hM2⟩ : ∃ b, tf (hldP (pc os pw cj) xs rs) = b := ⟨_, rfl⟩
 refine ACp.intro' envOk Try.func6 rfl (by kernel_rfl) Try.ntmps6 Try.results6 (.b _) (fun nx => ?_)
 refine AW.sr envOk (fun N hN => ?_)
 simp -dsimp -implicitDefEqProofs (disch := omega) only [go_sem, undef, reduceAdd, reduceSub, reduceGT, reduceEqDiff, reduceMul, prs, fp, w64, resT]
 refine hN _ ?_
 try clear hN N
 refine AW.sr envOk (fun N hN => ?_)
 simp -dsimp -implicitDefEqProofs (disch := omega) only [go_sem, undef, reduceAdd, reduceSub, reduceGT, reduceEqDiff, reduceMul, prs, fp, w64, resT]
 refine hN _ ?_
 try clear hN N
 refine AW.sr envOk (fun N hN => ?_)
 simp -dsimp -implicitDefEqProofs (disch := omega) only [go_sem, undef, reduceAdd, reduceSub, reduceGT, reduceEqDiff, reduceMul, prs, fp, w64, resT]
 have hs1 := szSS_le rs 1048576 (by omega)
 refine AC.pure (.of (laws_szFpGroup_ok g rs 1048576 (by omega) (by omega) hrs)) ?_
 try simp -dsimp -implicitDefEqProofs (disch := omega) only [go_sem, undef, reduceAdd, reduceSub, reduceGT, reduceEqDiff, reduceMul, prs, fp, w64, resT]
 refine hN _ ?_
 try clear hN N
 refine AW.seq (fun N1 hN1 => ?_)
 refine AW.sr envOk (fun N hN => ?_)
 simp -dsimp -implicitDefEqProofs (disch := omega) only [go_sem, undef, reduceAdd, reduceSub, reduceGT, reduceEqDiff, reduceMul, prs, fp, w64, resT]
 refine hN _ ?_
 try clear hN N
 refine AW.cond rfl (fun h1 => ?_) (fun h1 => ?_)
 ·try simp only [cn] at h1
  refine AW.sr envOk (fun N hN => ?_)
  simp -dsimp -implicitDefEqProofs (disch := omega) only [go_sem, undef, reduceAdd, reduceSub, reduceGT, reduceEqDiff, reduceMul, prs, fp, w64, resT]
  refine hN _ ?_
  try clear hN N
  refine AW.ret ?_
  simp -dsimp -implicitDefEqProofs (disch := omega) only [go_sem, undef, reduceAdd, reduceSub, reduceGT, reduceEqDiff, reduceMul]
  try (exfalso; first | omega | (simp_all; done))
 ·try simp only [cn] at h1
  have hr := szSS_mem (by omega) (by omega) h1
  refine AW.skip ?_
  simp only [thn, blk]
  refine hN1 _ ?_
  try clear hN1 N1
  refine AW.sr envOk (fun N hN => ?_)
  simp -dsimp -implicitDefEqProofs (disch := omega) only [go_sem, undef, reduceAdd, reduceSub, reduceGT, reduceEqDiff, reduceMul, prs, fp, w64, resT]
  have hs2 := szP_le os pw cj (szSS rs 1048576) (by omega)
  refine AC.pure (.of (laws_szPresentation_ok os pw cj (szSS rs 1048576) (by omega) (by omega) h0 hpw hcj )) ?_
  try simp -dsimp -implicitDefEqProofs (disch := omega) only [go_sem, undef, reduceAdd, reduceSub, reduceGT, reduceEqDiff, reduceMul, prs, fp, w64, resT]
  refine hN _ ?_
  try clear hN N
  refine AW.seq (fun N2 hN2 => ?_)
  refine AW.sr envOk (fun N hN => ?_)
  simp -dsimp -implicitDefEqProofs (disch := omega) only [go_sem, undef, reduceAdd, reduceSub, reduceGT, reduceEqDiff, reduceMul, prs, fp, w64, resT]
  refine hN _ ?_
  try clear hN N
  refine AW.cond rfl (fun h2 => ?_) (fun h2 => ?_)
  ·try simp only [cn] at h2
   refine AW.sr envOk (fun N hN => ?_)
   simp -dsimp -implicitDefEqProofs (disch := omega) only [go_sem, undef, reduceAdd, reduceSub, reduceGT, reduceEqDiff, reduceMul, prs, fp, w64, resT]
   refine hN _ ?_
   try clear hN N
   refine AW.ret ?_
   simp -dsimp -implicitDefEqProofs (disch := omega) only [go_sem, undef, reduceAdd, reduceSub, reduceGT, reduceEqDiff, reduceMul]
   try (exfalso; first | omega | (simp_all; done))
  ·try simp only [cn] at h2
   obtain ⟨hl, g1, g2⟩ := szP_mem (by omega) (by omega) h2
   have hlo := hl.o
   refine AW.skip ?_
   simp only [thn, blk]
   refine hN2 _ ?_
   try clear hN2 N2
   refine AW.sr envOk (fun N hN => ?_)
   simp -dsimp -implicitDefEqProofs (disch := omega) only [go_sem, undef, reduceAdd, reduceSub, reduceGT, reduceEqDiff, reduceMul, prs, fp, w64, resT]
   refine AC.pure (.of (szSS_ok xs (szP os pw cj (szSS rs 1048576)) (by omega) (by omega) hxs )) ?_
   try simp -dsimp -implicitDefEqProofs (disch := omega) only [go_sem, undef, reduceAdd, reduceSub, reduceGT, reduceEqDiff, reduceMul, prs, fp, w64, resT]
   refine hN _ ?_
   try clear hN N
   refine AW.seq (fun N3 hN3 => ?_)
   refine AW.sr envOk (fun N hN => ?_)
   simp -dsimp -implicitDefEqProofs (disch := omega) only [go_sem, undef, reduceAdd, reduceSub, reduceGT, reduceEqDiff, reduceMul, prs, fp, w64, resT]
   refine hN _ ?_
   try clear hN N
   refine AW.cond rfl (fun h3 => ?_) (fun h3 => ?_)
   ·try simp only [cn] at h3
    refine AW.sr envOk (fun N hN => ?_)
    simp -dsimp -implicitDefEqProofs (disch := omega) only [go_sem, undef, reduceAdd, reduceSub, reduceGT, reduceEqDiff, reduceMul, prs, fp, w64, resT]
    refine hN _ ?_
    try clear hN N
    refine AW.ret ?_
    simp -dsimp -implicitDefEqProofs (disch := omega) only [go_sem, undef, reduceAdd, reduceSub, reduceGT, reduceEqDiff, reduceMul]
    try (exfalso; first | omega | (simp_all; done))
   ·try simp only [cn] at h3
    have hx := szSS_mem (by omega) (by omega) h3
    have hto := (laws_toPresentation_ok os pw cj hlo g1 g2).pure
    have htf := (laws_toFpGroup_ok g rs hr).pure
    have htx := (toSS_ok xs (by have := hx.n; omega) (fun x h => by have := hx.v x h; omega)).pure
    have hsp := spec_IsFpHom_ok g rs hr os pw cj hl xs hx
    have him := impl_IsFpHom_ok g rs hr os pw cj hl xs hx
    rw [hM1, hM2] at hsp him
    refine AW.skip ?_
    simp only [thn, blk]
    refine hN3 _ ?_
    try clear hN3 N3
    refine AW.seq (fun N hN => ?_)
    refine AW.drawL envOk (by kernel_rfl) 12 (by kernel_rfl) ?_
    simp -dsimp -implicitDefEqProofs (disch := omega) only [hr_nil, hr_one, hr_if, List.take_succ_cons, List.take_zero, List.drop_succ_cons, List.drop_zero, List.take_nil, List.drop_nil, go_sem, undef, reduceAdd, reduceSub, reduceGT, reduceEqDiff, reduceMul, prs, fp, w64, resT]
    refine ⟨_, .of (htf ), ?_⟩
    try simp -dsimp -implicitDefEqProofs (disch := omega) only [go_sem, undef, reduceAdd, reduceSub, reduceGT, reduceEqDiff, reduceMul, prs, fp, w64, resT]
    refine ⟨_, .of (hto ), ?_⟩
    try simp -dsimp -implicitDefEqProofs (disch := omega) only [go_sem, undef, reduceAdd, reduceSub, reduceGT, reduceEqDiff, reduceMul, prs, fp, w64, resT]
    refine ⟨_, .of (htx ), ?_⟩
    try simp -dsimp -implicitDefEqProofs (disch := omega) only [go_sem, undef, reduceAdd, reduceSub, reduceGT, reduceEqDiff, reduceMul, prs, fp, w64, resT]
    refine ⟨_, .of (hsp ), ?_⟩
    try simp -dsimp -implicitDefEqProofs (disch := omega) only [go_sem, undef, reduceAdd, reduceSub, reduceGT, reduceEqDiff, reduceMul, prs, fp, w64, resT]
    refine hN _ ?_
    try clear hN N
    refine AW.sr envOk (fun N hN => ?_)
    simp -dsimp -implicitDefEqProofs (disch := omega) only [go_sem, undef, reduceAdd, reduceSub, reduceGT, reduceEqDiff, reduceMul, prs, fp, w64, resT]
    refine AC.pure (.of (htf )) ?_
    try simp -dsimp -implicitDefEqProofs (disch := omega) only [go_sem, undef, reduceAdd, reduceSub, reduceGT, reduceEqDiff, reduceMul, prs, fp, w64, resT]
    refine hN _ ?_
    try clear hN N
    refine AW.sr envOk (fun N hN => ?_)
    simp -dsimp -implicitDefEqProofs (disch := omega) only [go_sem, undef, reduceAdd, reduceSub, reduceGT, reduceEqDiff, reduceMul, prs, fp, w64, resT]
    refine AC.pure (.of (hto )) ?_
    try simp -dsimp -implicitDefEqProofs (disch := omega) only [go_sem, undef, reduceAdd, reduceSub, reduceGT, reduceEqDiff, reduceMul, prs, fp, w64, resT]
    refine hN _ ?_
    try clear hN N
    refine AW.sr envOk (fun N hN => ?_)
    simp -dsimp -implicitDefEqProofs (disch := omega) only [go_sem, undef, reduceAdd, reduceSub, reduceGT, reduceEqDiff, reduceMul, prs, fp, w64, resT]
    refine AC.pure (.of (htx )) ?_
    try simp -dsimp -implicitDefEqProofs (disch := omega) only [go_sem, undef, reduceAdd, reduceSub, reduceGT, reduceEqDiff, reduceMul, prs, fp, w64, resT]
    refine hN _ ?_
    try clear hN N
    refine AW.sr envOk (fun N hN => ?_)
    simp -dsimp -implicitDefEqProofs (disch := omega) only [go_sem, undef, reduceAdd, reduceSub, reduceGT, reduceEqDiff, reduceMul, prs, fp, w64, resT]
    refine AC.pure (.of (him )) ?_
    try simp -dsimp -implicitDefEqProofs (disch := omega) only [go_sem, undef, reduceAdd, reduceSub, reduceGT, reduceEqDiff, reduceMul, prs, fp, w64, resT]
    refine hN _ ?_
    try clear hN N
    refine AW.seq (fun N4 hN4 => ?_)
    refine AW.sr envOk (fun N hN => ?_)
    simp -dsimp -implicitDefEqProofs (disch := omega) only [go_sem, undef, reduceAdd, reduceSub, reduceGT, reduceEqDiff, reduceMul, prs, fp, w64, resT]
    refine gopB.mk' (fun h4 => ?_) (fun h4 => ?_)
    ·try simp only [cn] at h4
     try simp -dsimp -implicitDefEqProofs (disch := omega) only [go_sem, undef, reduceAdd, reduceSub, reduceGT, reduceEqDiff, reduceMul, prs, fp, w64, resT]
     refine hN _ ?_
     try clear hN N
     refine AW.cond rfl (fun h5 => ?_) (fun h5 => ?_)
     ·try simp only [cn] at h5
      refine AW.sr envOk (fun N hN => ?_)
      simp -dsimp -implicitDefEqProofs (disch := omega) only [go_sem, undef, reduceAdd, reduceSub, reduceGT, reduceEqDiff, reduceMul, prs, fp, w64, resT]
      refine hN _ ?_
      try clear hN N
      refine AW.ret ?_
      simp -dsimp -implicitDefEqProofs (disch := omega) only [go_sem, undef, reduceAdd, reduceSub, reduceGT, reduceEqDiff, reduceMul]
      try (exfalso; first | omega | (simp_all; done))
     ·try simp only [cn] at h5
      refine AW.skip ?_
      simp only [thn, blk]
      refine hN4 _ ?_
      try clear hN4 N4
      refine AW.seq (fun N5 hN5 => ?_)
      refine AW.seq (fun N hN => ?_)
      refine AW.drawL envOk (by kernel_rfl) 5 (by kernel_rfl) ?_
      simp -dsimp -implicitDefEqProofs (disch := omega) only [hr_nil, hr_one, hr_if, List.take_succ_cons, List.take_zero, List.drop_succ_cons, List.drop_zero, List.take_nil, List.drop_nil, go_sem, undef, reduceAdd, reduceSub, reduceGT, reduceEqDiff, reduceMul, prs, fp, w64, resT]
      refine ⟨_, .of (htf ), ?_⟩
      try simp -dsimp -implicitDefEqProofs (disch := omega) only [go_sem, undef, reduceAdd, reduceSub, reduceGT, reduceEqDiff, reduceMul, prs, fp, w64, resT]
      refine ⟨_, .of (laws_eqFpGroup_ok g g rs rs hrs hrs ), ?_⟩
      try simp -dsimp -implicitDefEqProofs (disch := omega) only [go_sem, undef, reduceAdd, reduceSub, reduceGT, reduceEqDiff, reduceMul, prs, fp, w64, resT]
      refine hN _ ?_
      try clear hN N
      refine AW.cond rfl (fun h6 => ?_) (fun h6 => ?_)
      ·try simp only [cn] at h6
       refine AW.sr envOk (fun N hN => ?_)
       simp -dsimp -implicitDefEqProofs (disch := omega) only [go_sem, undef, reduceAdd, reduceSub, reduceGT, reduceEqDiff, reduceMul, prs, fp, w64, resT]
       refine hN _ ?_
       try clear hN N
       refine AW.ret ?_
       simp -dsimp -implicitDefEqProofs (disch := omega) only [go_sem, undef, reduceAdd, reduceSub, reduceGT, reduceEqDiff, reduceMul]
       try (exfalso; first | omega | (simp_all; done))
      ·try simp only [cn] at h6
       refine AW.skip ?_
       simp only [thn, blk]
       refine hN5 _ ?_
       try clear hN5 N5
       refine AW.seq (fun N6 hN6 => ?_)
       refine AW.seq (fun N hN => ?_)
       refine AW.drawL envOk (by kernel_rfl) 5 (by kernel_rfl) ?_
       simp -dsimp -implicitDefEqProofs (disch := omega) only [hr_nil, hr_one, hr_if, List.take_succ_cons, List.take_zero, List.drop_succ_cons, List.drop_zero, List.take_nil, List.drop_nil, go_sem, undef, reduceAdd, reduceSub, reduceGT, reduceEqDiff, reduceMul, prs, fp, w64, resT]
       refine ⟨_, .of (hto ), ?_⟩
       try simp -dsimp -implicitDefEqProofs (disch := omega) only [go_sem, undef, reduceAdd, reduceSub, reduceGT, reduceEqDiff, reduceMul, prs, fp, w64, resT]
       refine ⟨_, .of (laws_eqPresentation_ok os os pw pw cj cj (by omega) (by omega) hpw hpw hcj hcj ), ?_⟩
       try simp -dsimp -implicitDefEqProofs (disch := omega) only [go_sem, undef, reduceAdd, reduceSub, reduceGT, reduceEqDiff, reduceMul, prs, fp, w64, resT]
       refine hN _ ?_
       try clear hN N
       refine AW.cond rfl (fun h7 => ?_) (fun h7 => ?_)
       ·try simp only [cn] at h7
        refine AW.sr envOk (fun N hN => ?_)
        simp -dsimp -implicitDefEqProofs (disch := omega) only [go_sem, undef, reduceAdd, reduceSub, reduceGT, reduceEqDiff, reduceMul, prs, fp, w64, resT]
        refine hN _ ?_
        try clear hN N
        refine AW.ret ?_
        simp -dsimp -implicitDefEqProofs (disch := omega) only [go_sem, undef, reduceAdd, reduceSub, reduceGT, reduceEqDiff, reduceMul]
        try (exfalso; first | omega | (simp_all; done))
       ·try simp only [cn] at h7
        refine AW.skip ?_
        simp only [thn, blk]
        refine hN6 _ ?_
        try clear hN6 N6
        refine AW.seq (fun N7 hN7 => ?_)
        refine AW.sr envOk (fun N hN => ?_)
        simp -dsimp -implicitDefEqProofs (disch := omega) only [go_sem, undef, reduceAdd, reduceSub, reduceGT, reduceEqDiff, reduceMul, prs, fp, w64, resT]
        refine AC.pure (.of (htx )) ?_
        try simp -dsimp -implicitDefEqProofs (disch := omega) only [go_sem, undef, reduceAdd, reduceSub, reduceGT, reduceEqDiff, reduceMul, prs, fp, w64, resT]
        refine AC.pure (.of (laws_eqInt64SS_ok xs xs hxs hxs )) ?_
        try simp -dsimp -implicitDefEqProofs (disch := omega) only [go_sem, undef, reduceAdd, reduceSub, reduceGT, reduceEqDiff, reduceMul, prs, fp, w64, resT]
        refine hN _ ?_
        try clear hN N
        refine AW.cond rfl (fun h8 => ?_) (fun h8 => ?_)
        ·try simp only [cn] at h8
         refine AW.sr envOk (fun N hN => ?_)
         simp -dsimp -implicitDefEqProofs (disch := omega) only [go_sem, undef, reduceAdd, reduceSub, reduceGT, reduceEqDiff, reduceMul, prs, fp, w64, resT]
         refine hN _ ?_
         try clear hN N
         refine AW.ret ?_
         simp -dsimp -implicitDefEqProofs (disch := omega) only [go_sem, undef, reduceAdd, reduceSub, reduceGT, reduceEqDiff, reduceMul]
         try (exfalso; first | omega | (simp_all; done))
        ·try simp only [cn] at h8
         refine AW.skip ?_
         simp only [thn, blk]
         refine hN7 _ ?_
         try clear hN7 N7
         refine AW.sr envOk (fun N hN => ?_)
         simp -dsimp -implicitDefEqProofs (disch := omega) only [go_sem, undef, reduceAdd, reduceSub, reduceGT, reduceEqDiff, reduceMul, prs, fp, w64, resT]
         refine hN _ ?_
         try clear hN N
         refine AW.ret ?_
         simp -dsimp -implicitDefEqProofs (disch := omega) only [go_sem, undef, reduceAdd, reduceSub, reduceGT, reduceEqDiff, reduceMul]
         try (exfalso; first | omega | (simp_all; done))
    ·try simp only [cn] at h4
     try simp -dsimp -implicitDefEqProofs (disch := omega) only [go_sem, undef, reduceAdd, reduceSub, reduceGT, reduceEqDiff, reduceMul, prs, fp, w64, resT]
     refine hN _ ?_
     try clear hN N
     refine AW.condT rfl ?_
     refine AW.sr envOk (fun N hN => ?_)
     simp -dsimp -implicitDefEqProofs (disch := omega) only [go_sem, undef, reduceAdd, reduceSub, reduceGT, reduceEqDiff, reduceMul, prs, fp, w64, resT]
     refine hN _ ?_
     try clear hN N
     refine AW.ret ?_
     simp -dsimp -implicitDefEqProofs (disch := omega) only [go_sem, undef, reduceAdd, reduceSub, reduceGT, reduceEqDiff, reduceMul]
     try (exfalso; first | omega | (simp_all; done))

end Go.Proofs.Ytimgnijlnkjamaa
