import Derived.Test.YtgelbdpnpjjbfaaZ37
set_option linter.unusedVariables false
set_option linter.unusedSimpArgs false
namespace Go.Proofs.Ytgelbdpnpjjbfaa
open Nat (reduceAdd reduceSub reduceGT reduceEqDiff reduceMul)
def szP (os : List Int) (pw : List (List Int)) (cj : List (List (List Int))) (left : Int) : Int := if szS os left < 0 then -1 else szR pw cj (szS os left)
theorem szP_mem {os : List Int} {pw : List (List Int)} {cj : List (List (List Int))} {l : Int} (hl : 0 ≤ l) (h2 : l ≤ 1048576) (h : 0 ≤ szP os pw cj l) : prlen os pw cj ∧ rowslen pw ∧ cubeslen cj := by
  have h1 := szS_le os l hl
  unfold szP at h
  split at h
  · omega
  · have h3 := szR_mem (l := szS os l) (by omega) (by omega) h
    have h4 := szS_mem (a := os) (l := l) (by omega)
    exact ⟨⟨by omega, ringlen.of h3.1 h3.2⟩, h3.1, h3.2⟩
theorem laws_szPresentation_ok (os : List Int) (pw : List (List Int)) (cj : List (List (List Int))) (left : Int) (hl0 : 0 ≤ left) (hl2 : left ≤ 1048576) (h0 : intsok os) (ha : rowsok pw) (hb : cubesok cj) : ACp Try.prog 4 [prs os pw cj, .i .i64 left] (.i .i64 (szP os pw cj left)) := by
 have h1 := szS_le os left hl0
 have ho := h0.1
 refine ACp.intro' envOk Try.func4 rfl (by kernel_rfl) Try.ntmps4 Try.results4 (.i _ _) (fun nx => ?_)
 refine AW.sr envOk (fun N hN => ?_)
 simp -dsimp -implicitDefEqProofs (disch := omega) only [go_sem, undef, reduceAdd, reduceSub, reduceGT, reduceEqDiff, reduceMul, prs, ints, rows, cubes, w64]
 refine hN _ ?_
 try clear hN N
 refine AW.sr envOk (fun N hN => ?_)
 simp -dsimp -implicitDefEqProofs (disch := omega) only [go_sem, undef, reduceAdd, reduceSub, reduceGT, reduceEqDiff, reduceMul, prs, ints, rows, cubes, w64]
 refine AC.pure (.of (szS_ok os left hl0 hl2 h0.1 )) ?_
 try simp -dsimp -implicitDefEqProofs (disch := omega) only [go_sem, undef, reduceAdd, reduceSub, reduceGT, reduceEqDiff, reduceMul, prs, ints, rows, cubes, w64]
 refine hN _ ?_
 try clear hN N
 refine AW.seq (fun N1 hN1 => ?_)
 refine AW.sr envOk (fun N hN => ?_)
 simp -dsimp -implicitDefEqProofs (disch := omega) only [go_sem, undef, reduceAdd, reduceSub, reduceGT, reduceEqDiff, reduceMul, prs, ints, rows, cubes, w64]
 refine hN _ ?_
 try clear hN N
 refine AW.cond rfl (fun h1 => ?_) (fun h1 => ?_)
 ·try simp only [cn] at h1
  refine AW.sr envOk (fun N hN => ?_)
  simp -dsimp -implicitDefEqProofs (disch := omega) only [go_sem, undef, reduceAdd, reduceSub, reduceGT, reduceEqDiff, reduceMul, prs, ints, rows, cubes, w64]
  refine hN _ ?_
  try clear hN N
  refine AW.ret ?_
  simp -dsimp -implicitDefEqProofs (disch := omega) only [go_sem, undef, reduceAdd, reduceSub, reduceGT, reduceEqDiff, reduceMul]
  rw [szP, if_pos (by omega)]
 ·try simp only [cn] at h1
  have h2 := szSS_le pw (szS os left) (by omega)
  refine AW.skip ?_
  simp only [thn, blk]
  refine hN1 _ ?_
  try clear hN1 N1
  refine AW.sr envOk (fun N hN => ?_)
  simp -dsimp -implicitDefEqProofs (disch := omega) only [go_sem, undef, reduceAdd, reduceSub, reduceGT, reduceEqDiff, reduceMul, prs, ints, rows, cubes, w64]
  refine AC.pure (.of (szSS_ok pw (szS os left) (by omega) (by omega) ha )) ?_
  try simp -dsimp -implicitDefEqProofs (disch := omega) only [go_sem, undef, reduceAdd, reduceSub, reduceGT, reduceEqDiff, reduceMul, prs, ints, rows, cubes, w64]
  refine hN _ ?_
  try clear hN N
  refine AW.seq (fun N2 hN2 => ?_)
  refine AW.sr envOk (fun N hN => ?_)
  simp -dsimp -implicitDefEqProofs (disch := omega) only [go_sem, undef, reduceAdd, reduceSub, reduceGT, reduceEqDiff, reduceMul, prs, ints, rows, cubes, w64]
  refine hN _ ?_
  try clear hN N
  refine AW.cond rfl (fun h2 => ?_) (fun h2 => ?_)
  ·try simp only [cn] at h2
   refine AW.sr envOk (fun N hN => ?_)
   simp -dsimp -implicitDefEqProofs (disch := omega) only [go_sem, undef, reduceAdd, reduceSub, reduceGT, reduceEqDiff, reduceMul, prs, ints, rows, cubes, w64]
   refine hN _ ?_
   try clear hN N
   refine AW.ret ?_
   simp -dsimp -implicitDefEqProofs (disch := omega) only [go_sem, undef, reduceAdd, reduceSub, reduceGT, reduceEqDiff, reduceMul]
   rw [szP, if_neg (by omega), szR, if_pos (by omega)]
  ·try simp only [cn] at h2
   have h3 := szSSS_le cj (szSS pw (szS os left)) (by omega)
   refine AW.skip ?_
   simp only [thn, blk]
   refine hN2 _ ?_
   try clear hN2 N2
   refine AW.sr envOk (fun N hN => ?_)
   simp -dsimp -implicitDefEqProofs (disch := omega) only [go_sem, undef, reduceAdd, reduceSub, reduceGT, reduceEqDiff, reduceMul, prs, ints, rows, cubes, w64]
   refine AC.pure (.of (laws_szInt64SSS_ok cj (szSS pw (szS os left)) (by omega) (by omega) hb )) ?_
   try simp -dsimp -implicitDefEqProofs (disch := omega) only [go_sem, undef, reduceAdd, reduceSub, reduceGT, reduceEqDiff, reduceMul, prs, ints, rows, cubes, w64]
   refine hN _ ?_
   try clear hN N
   refine AW.seq (fun N3 hN3 => ?_)
   refine AW.sr envOk (fun N hN => ?_)
   simp -dsimp -implicitDefEqProofs (disch := omega) only [go_sem, undef, reduceAdd, reduceSub, reduceGT, reduceEqDiff, reduceMul, prs, ints, rows, cubes, w64]
   refine hN _ ?_
   try clear hN N
   refine AW.cond rfl (fun h3 => ?_) (fun h3 => ?_)
   ·try simp only [cn] at h3
    refine AW.sr envOk (fun N hN => ?_)
    simp -dsimp -implicitDefEqProofs (disch := omega) only [go_sem, undef, reduceAdd, reduceSub, reduceGT, reduceEqDiff, reduceMul, prs, ints, rows, cubes, w64]
    refine hN _ ?_
    try clear hN N
    refine AW.ret ?_
    simp -dsimp -implicitDefEqProofs (disch := omega) only [go_sem, undef, reduceAdd, reduceSub, reduceGT, reduceEqDiff, reduceMul]
    rw [szP, if_neg (by omega), szR, if_neg (by omega)]
    refine it ?_
    omega
   ·try simp only [cn] at h3
    refine AW.skip ?_
    simp only [thn, blk]
    refine hN3 _ ?_
    try clear hN3 N3
    refine AW.sr envOk (fun N hN => ?_)
    simp -dsimp -implicitDefEqProofs (disch := omega) only [go_sem, undef, reduceAdd, reduceSub, reduceGT, reduceEqDiff, reduceMul, prs, ints, rows, cubes, w64]
    refine hN _ ?_
    try clear hN N
    refine AW.ret ?_
    simp -dsimp -implicitDefEqProofs (disch := omega) only [go_sem, undef, reduceAdd, reduceSub, reduceGT, reduceEqDiff, reduceMul]
    rw [szP, if_neg (by omega), szR, if_neg (by omega)]
theorem laws_toPresentation_ok (os : List Int) (pw : List (List Int)) (cj : List (List (List Int))) (h0 : os.length ≤ 1048576) (g1 : rowslen pw) (g2 : cubeslen cj) : ACo Try.prog 6 [prs os pw cj] (prs os pw cj) := by
  have h1 : pw.length ≤ 1099511627776 := by have := g1.n; omega
  have h2 : ∀ x ∈ pw, x.length ≤ 1099511627776 := fun x hx => by have := g1.v x hx; omega
  have h3 : cj.length ≤ 1099511627776 := by have := g2.n; omega
  have h4 : ∀ x ∈ cj, x.length ≤ 1099511627776 ∧ ∀ y ∈ x, y.length ≤ 1099511627776 := fun x hx => ⟨by have := (g2.v x hx).n; omega, fun y hy => by have := (g2.v x hx).v y hy; omega⟩
  intro nx
  refine AC.intro' envOk Try.func6 rfl (by kernel_rfl) Try.ntmps6 Try.results6 ?_
  refine AW.sr envOk (fun N hN => ?_)
  simp -dsimp -implicitDefEqProofs (disch := omega) only [go_sem, undef, reduceAdd, reduceSub, reduceGT, reduceEqDiff, reduceMul, prs, ints, rows, cubes]
  refine hN _ ?_
  try clear hN N
  refine AW.sr envOk (fun N hN => ?_)
  simp -dsimp -implicitDefEqProofs (disch := omega) only [go_sem, undef, reduceAdd, reduceSub, reduceGT, reduceEqDiff, reduceMul, ]
  refine hN _ ?_
  try clear hN N
  refine AW.sr envOk (fun N hN => ?_)
  simp -dsimp -implicitDefEqProofs (disch := omega) only [go_sem, undef, reduceAdd, reduceSub, reduceGT, reduceEqDiff, reduceMul, ]
  refine AC.own (toS_ok os (by omega)) (.cons (.refl _) .nil) ?_
  intro m0 H0 r0 ids0 hm0 hH0 hown0
  obtain ⟨b1, b2, b3⟩ := hown0.1.slice
  try simp -dsimp -implicitDefEqProofs (disch := omega) only [go_sem, undef, reduceAdd, reduceSub, reduceGT, reduceEqDiff, reduceMul, b1, b2, b3, hH0]
  refine hN _ ?_
  try clear hN N
  refine AW.sr envOk (fun N hN => ?_)
  simp -dsimp -implicitDefEqProofs (disch := omega) only [go_sem, undef, reduceAdd, reduceSub, reduceGT, reduceEqDiff, reduceMul, hH0, b2]
  refine AC.own (toSS_ok pw h1 h2) (.cons (.refl _) .nil) ?_
  intro m1 H1 r1 ids1 hm1 hH1 hown1
  obtain ⟨c1, c2, c3⟩ := hown1.1.slice
  try simp -dsimp -implicitDefEqProofs (disch := omega) only [go_sem, undef, reduceAdd, reduceSub, reduceGT, reduceEqDiff, reduceMul, c1, c2, c3, hH1, hH0]
  refine hN _ ?_
  try clear hN N
  refine AW.sr envOk (fun N hN => ?_)
  simp -dsimp -implicitDefEqProofs (disch := omega) only [go_sem, undef, reduceAdd, reduceSub, reduceGT, reduceEqDiff, reduceMul, hH1, hH0]
  refine AC.own (toSSS_ok cj h3 h4) (.cons (.refl _) .nil) ?_
  intro m2 H2 r2 ids2 hm2 hH2 hown2
  obtain ⟨d1, d2, d3⟩ := hown2.1.slice
  try simp -dsimp -implicitDefEqProofs (disch := omega) only [go_sem, undef, reduceAdd, reduceSub, reduceGT, reduceEqDiff, reduceMul, d1, d2, d3, hH2, hH1, hH0]
  refine hN _ ?_
  try clear hN N
  refine AW.sr envOk (fun N hN => ?_)
  simp -dsimp -implicitDefEqProofs (disch := omega) only [go_sem, undef, reduceAdd, reduceSub, reduceGT, reduceEqDiff, reduceMul, b2, c2, d2, hH2, hH1, hH0]
  refine hN _ ?_
  try clear hN N
  refine AW.ret ?_
  simp -dsimp -implicitDefEqProofs (disch := omega) only [go_sem, undef, reduceAdd, reduceSub, reduceGT, reduceEqDiff, reduceMul]
  refine ⟨_, OwnL.g (.cons (b := m0) (hown0.keep (fun i h1 h2 => ?_) (by omega) (Nat.le_refl _)) (.cons (b := m1) (hown1.keep (fun i h1 h2 => ?_) (by omega) (Nat.le_refl _)) (.cons (b := m2 + 2) (c := m2 + 2) (hown2.keep (fun i h1 h2 => ?_) (by omega) (by omega)) .nil (by omega) (by omega)) (by omega) (by omega)) (by omega) (by omega))⟩
  · simp (disch := omega) only [upd_ne, hH2, hH1]
  · simp (disch := omega) only [upd_ne, hH2]
  · simp (disch := omega) only [upd_ne]
theorem laws_eqPresentation_ok (os os2 : List Int) (pw pw2 : List (List Int)) (cj cj2 : List (List (List Int))) (h1 : os.length ≤ 9223372036854775807) (h2 : os2.length ≤ 9223372036854775807) (h3 : rowsok pw) (h4 : rowsok pw2) (h5 : cubesok cj) (h6 : cubesok cj2) : ACp Try.prog 9 [prs os pw cj, prs os2 pw2 cj2] (.b (decide (os = os2 ∧ pw = pw2 ∧ cj = cj2))) := by
 refine ACp.intro' envOk Try.func9 rfl (by kernel_rfl) Try.ntmps9 Try.results9 (.b _) (fun nx => ?_)
 refine AW.sr envOk (fun N hN => ?_)
 simp -dsimp -implicitDefEqProofs (disch := omega) only [go_sem, undef, reduceAdd, reduceSub, reduceGT, reduceEqDiff, reduceMul, prs, w64]
 refine hN _ ?_
 try clear hN N
 refine AW.seq (fun N1 hN1 => ?_)
 refine AW.sr envOk (fun N hN => ?_)
 simp -dsimp -implicitDefEqProofs (disch := omega) only [go_sem, undef, reduceAdd, reduceSub, reduceGT, reduceEqDiff, reduceMul, prs, w64]
 refine AC.pure (.of (laws_eqInt64S_ok os os2 h1 h2 )) ?_
 try simp -dsimp -implicitDefEqProofs (disch := omega) only [go_sem, undef, reduceAdd, reduceSub, reduceGT, reduceEqDiff, reduceMul, prs, w64]
 refine hN _ ?_
 try clear hN N
 refine AW.cond rfl (fun h1 => ?_) (fun h1 => ?_)
 ·try simp only [cn] at h1
  refine AW.sr envOk (fun N hN => ?_)
  simp -dsimp -implicitDefEqProofs (disch := omega) only [go_sem, undef, reduceAdd, reduceSub, reduceGT, reduceEqDiff, reduceMul, prs, w64]
  refine hN _ ?_
  try clear hN N
  refine AW.ret ?_
  simp -dsimp -implicitDefEqProofs (disch := omega) only [go_sem, undef, reduceAdd, reduceSub, reduceGT, reduceEqDiff, reduceMul]
  simp_all
 ·try simp only [cn] at h1
  refine AW.skip ?_
  simp only [thn, blk]
  refine hN1 _ ?_
  try clear hN1 N1
  refine AW.seq (fun N2 hN2 => ?_)
  refine AW.sr envOk (fun N hN => ?_)
  simp -dsimp -implicitDefEqProofs (disch := omega) only [go_sem, undef, reduceAdd, reduceSub, reduceGT, reduceEqDiff, reduceMul, prs, w64]
  refine AC.pure (.of (laws_eqInt64SS_ok pw pw2 h3 h4 )) ?_
  try simp -dsimp -implicitDefEqProofs (disch := omega) only [go_sem, undef, reduceAdd, reduceSub, reduceGT, reduceEqDiff, reduceMul, prs, w64]
  refine hN _ ?_
  try clear hN N
  refine AW.cond rfl (fun h2 => ?_) (fun h2 => ?_)
  ·try simp only [cn] at h2
   refine AW.sr envOk (fun N hN => ?_)
   simp -dsimp -implicitDefEqProofs (disch := omega) only [go_sem, undef, reduceAdd, reduceSub, reduceGT, reduceEqDiff, reduceMul, prs, w64]
   refine hN _ ?_
   try clear hN N
   refine AW.ret ?_
   simp -dsimp -implicitDefEqProofs (disch := omega) only [go_sem, undef, reduceAdd, reduceSub, reduceGT, reduceEqDiff, reduceMul]
   simp_all
  ·try simp only [cn] at h2
   refine AW.skip ?_
   simp only [thn, blk]
   refine hN2 _ ?_
   try clear hN2 N2
   refine AW.seq (fun N3 hN3 => ?_)
   refine AW.sr envOk (fun N hN => ?_)
   simp -dsimp -implicitDefEqProofs (disch := omega) only [go_sem, undef, reduceAdd, reduceSub, reduceGT, reduceEqDiff, reduceMul, prs, w64]
   refine AC.pure (.of (laws_eqInt64SSS_ok cj cj2 h5 h6 )) ?_
   try simp -dsimp -implicitDefEqProofs (disch := omega) only [go_sem, undef, reduceAdd, reduceSub, reduceGT, reduceEqDiff, reduceMul, prs, w64]
   refine hN _ ?_
   try clear hN N
   refine AW.cond rfl (fun h3 => ?_) (fun h3 => ?_)
   ·try simp only [cn] at h3
    refine AW.sr envOk (fun N hN => ?_)
    simp -dsimp -implicitDefEqProofs (disch := omega) only [go_sem, undef, reduceAdd, reduceSub, reduceGT, reduceEqDiff, reduceMul, prs, w64]
    refine hN _ ?_
    try clear hN N
    refine AW.ret ?_
    simp -dsimp -implicitDefEqProofs (disch := omega) only [go_sem, undef, reduceAdd, reduceSub, reduceGT, reduceEqDiff, reduceMul]
    simp_all
   ·try simp only [cn] at h3
    refine AW.skip ?_
    simp only [thn, blk]
    refine hN3 _ ?_
    try clear hN3 N3
    refine AW.sr envOk (fun N hN => ?_)
    simp -dsimp -implicitDefEqProofs (disch := omega) only [go_sem, undef, reduceAdd, reduceSub, reduceGT, reduceEqDiff, reduceMul, prs, w64]
    refine hN _ ?_
    try clear hN N
    refine AW.ret ?_
    simp -dsimp -implicitDefEqProofs (disch := omega) only [go_sem, undef, reduceAdd, reduceSub, reduceGT, reduceEqDiff, reduceMul]
    simp_all
end Go.Proofs.Ytgelbdpnpjjbfaa
