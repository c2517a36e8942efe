/-
  Marks of owned rings, told exactly, and that they are found again; their equality by lengths alone.
-/
import Derived.Test.YtbhlindlcfeppaaTl
set_option linter.unusedVariables false
set_option linter.unusedSimpArgs false
namespace Go.Proofs.Ytbhlindlcfeppaa
open Nat (reduceAdd reduceSub reduceGT reduceEqDiff reduceMul)

theorem markG_x (p : Int) (pw : List (List Int)) (br : List (List (List Int))) (hpw : rowslen pw) (hbr : cubesml br) (htt : tot pw ≤ 1000000000000) (r1 r2 : AV) (is js : List Nat) (k : Int) (nx : Nat) (H : HP) (o1 : Ow H r1 (rows pw) is) (o2 : Ow H r2 (cubes br) js) (hnd : (is ++ js).Nodup) (hlt : ∀ i ∈ is ++ js, i < nx) (hk0 : 0 ≤ k) (hk1 : k ≤ 1000000000000) :
 AC Try.prog 23 nx H [.g [.i .i64 p, r1, r2], .i .i64 k] (fun _ H' res => res = .i .i64 (k + tot pw + tot3 br) ∧ (∃ is' js', Ow H' r1 (rows (mks2 k pw)) is' ∧ Ow H' r2 (cubes (mks3 (k + tot pw) br)) js' ∧ (is' ++ js').Nodup ∧ ∀ i ∈ is' ++ js', i ∈ is ++ js) ∧ ∀ i, i ∉ is ++ js → H' i = H i) := by
 obtain ⟨n1, n2, n3⟩ := List.nodup_append.1 hnd
 have u1 := one_ow o1
 have u2 := one_ow o2
 refine AC.introx envOk Try.func23 rfl (by kernel_rfl) Try.ntmps23 Try.results23 (fun hfr => ?_)
 refine AW.sr envOk (fun N hN => ?_)
 simp -dsimp -implicitDefEqProofs (disch := omega) only [go_sem, reduceAdd, reduceSub, reduceGT, reduceEqDiff, reduceMul, u1, u2]
 refine hN _ ?_
 try clear hN N
 refine AW.sr envOk (fun N hN => ?_)
 simp -dsimp -implicitDefEqProofs (disch := omega) only [go_sem, reduceAdd, reduceSub, reduceGT, reduceEqDiff, reduceMul, u1, u2]
 refine (markRR_o hpw (o1.keep (fun i hi => ?_)) n1 hk0 (by omega)).mono2 ?_
 ·have := hlt i (by simp [hi]); exact upd_ne _ _ (by omega)
 rintro nx1 H1 res hx1 ⟨rfl, ⟨is1, w1, w2, w3⟩, hH1⟩
 have hb : H1 nx = some [.i .i64 p, r1, r2] := by rw [hH1 nx (fun h => by have := hlt nx (by simp [h]); omega), upd_same]
 try simp -dsimp -implicitDefEqProofs (disch := omega) only [go_sem, reduceAdd, reduceSub, reduceGT, reduceEqDiff, reduceMul, u1, u2]
 refine hN _ ?_
 try clear hN N
 refine AW.sr envOk (fun N hN => ?_)
 simp -dsimp -implicitDefEqProofs (disch := omega) only [go_sem, reduceAdd, reduceSub, reduceGT, reduceEqDiff, reduceMul, u1, u2]
 try simp -dsimp -implicitDefEqProofs (disch := omega) only [go_sem, reduceAdd, reduceSub, reduceGT, reduceEqDiff, reduceMul, hb]
 refine (markCC_o hbr (o2.keep (fun i hi => ?_)) n2 (by omega) (by omega)).mono2 ?_
 ·rw [hH1 i (fun h => n3 i h i hi rfl)]
  have := hlt i (by simp [hi]); exact upd_ne _ _ (by omega)
 rintro nx2 H2 res hx2 ⟨rfl, ⟨js1, w4, w5, w6⟩, hH2⟩
 try simp -dsimp -implicitDefEqProofs (disch := omega) only [go_sem, reduceAdd, reduceSub, reduceGT, reduceEqDiff, reduceMul, u1, u2]
 refine hN _ ?_
 try clear hN N
 refine AW.sr envOk (fun N hN => ?_)
 simp -dsimp -implicitDefEqProofs (disch := omega) only [go_sem, reduceAdd, reduceSub, reduceGT, reduceEqDiff, reduceMul, u1, u2]
 refine hN _ ?_
 try clear hN N
 refine AW.ret ?_
 simp -dsimp -implicitDefEqProofs (disch := omega) only [go_sem, reduceAdd, reduceSub, reduceGT, reduceEqDiff, reduceMul]
 have hc : ∀ i, i < nx → cut nx H2 i = H2 i := fun i hi => by unfold cut; rw [if_pos hi]
 refine ⟨cut nx H2, cut_le _ _, ⟨is1, js1, w1.keep fun i hi => ?_, w4.keep fun i hi => hc i (hlt i (by simp [w6 i hi])), ?_, ?_⟩, fun i hi => ?_⟩
 ·rw [hc i (hlt i (by simp [w3 i hi]))]
  exact hH2 i (fun h => n3 i (w3 i hi) i h rfl)
 ·exact List.nodup_append.2 ⟨w2, w5, fun x hx y hy e => n3 x (w3 x hx) y (w6 y hy) e⟩
 ·intro i hi
  rcases List.mem_append.1 hi with hi | hi
  ·simp [w3 i hi]
  ·simp [w6 i hi]
 ·unfold cut
  split
  ·rw [hH2 i (fun h => hi (by simp [h])), hH1 i (fun h => hi (by simp [h]))]
   exact upd_ne _ _ (by omega)
  ·rw [hfr i (by omega)]

theorem markG_g {p : Int} {pw : List (List Int)} {br : List (List (List Int))} (hpw : rowslen pw) (hbr : cubesml br) (htt : tot pw ≤ 1000000000000) {nx : Nat} {H : HP} {r1 r2 : AV} {lo hi : Nat} {k : Int} (h : Hold H lo hi (.g [.i .i64 p, r1, r2]) (ring p pw br)) (hn : hi ≤ nx) (h0 : 0 ≤ k) (h1 : k ≤ 1000000000000) :
    AC Try.prog 23 nx H [.g [.i .i64 p, r1, r2], .i .i64 k] (fun _ H' res => res = .i .i64 (k + tot pw + tot3 br) ∧ Hold H' lo hi (.g [.i .i64 p, r1, r2]) (ring p (mks2 k pw) (mks3 (k + tot pw) br)) ∧ ∀ i, (i < lo ∨ hi ≤ i) → H' i = H i) := by
  obtain ⟨ids, g1, g2, g3⟩ := h
  obtain ⟨s1, s2, is, js, e, rfl, o1, o2⟩ := g1.ring_inv
  cases e
  refine (markG_x p pw br hpw hbr htt r1 r2 is js k nx H o1 o2 g2 (fun i hi => by have := g3 i hi; omega) h0 h1).mono ?_
  rintro _ H' res ⟨rfl, ⟨is', js', w1, w2, w3, w4⟩, hH⟩
  refine ⟨rfl, ⟨is' ++ (js' ++ []), .g _ _ _ (.cons _ _ _ _ [] _ (.leaf _ (.i _ _) (.i _ _)) (.cons _ _ _ _ _ _ w1 (.cons _ _ _ _ _ _ w2 .nil))), by simpa using w3, fun i hi => g3 i (w4 i (by simpa using hi))⟩, fun i hi => hH i (fun hm => by have := g3 i hm; omega)⟩

theorem heldG_g {p : Int} {pw : List (List Int)} {br : List (List (List Int))} (hpw : rowslen pw) (hbr : cubesml br) (htt : tot pw ≤ 1000000000000) {k : Int} (hk0 : 0 ≤ k) (hk1 : k ≤ 1000000000000) : ACp Try.prog 41 [ring p (mks2 k pw) (mks3 (k + tot pw) br), .i .i64 k] (.i .i64 (k + tot pw + tot3 br)) := by
 refine ACp.intro' envOk Try.func41 rfl (by kernel_rfl) Try.ntmps41 Try.results41 (.i _ _) (fun nx => ?_)
 refine AW.sr envOk (fun N hN => ?_)
 simp -dsimp -implicitDefEqProofs (disch := omega) only [go_sem, reduceAdd, reduceSub, reduceGT, reduceEqDiff, reduceMul, ring, w64]
 refine hN _ ?_
 try clear hN N
 refine AW.sr envOk (fun N hN => ?_)
 simp -dsimp -implicitDefEqProofs (disch := omega) only [go_sem, reduceAdd, reduceSub, reduceGT, reduceEqDiff, reduceMul, ring, w64]
 refine AC.pure (.of (heldRR_g hpw hk0 (by omega) )) ?_
 try simp -dsimp -implicitDefEqProofs (disch := omega) only [go_sem, reduceAdd, reduceSub, reduceGT, reduceEqDiff, reduceMul, ring, w64]
 refine hN _ ?_
 try clear hN N
 refine AW.seq (fun N1 hN1 => ?_)
 refine AW.sr envOk (fun N hN => ?_)
 simp -dsimp -implicitDefEqProofs (disch := omega) only [go_sem, reduceAdd, reduceSub, reduceGT, reduceEqDiff, reduceMul, ring, w64]
 refine hN _ ?_
 try clear hN N
 refine AW.cond rfl (fun h1 => ?_) (fun h1 => ?_)
 ·try simp only [cn] at h1
  refine AW.sr envOk (fun N hN => ?_)
  simp -dsimp -implicitDefEqProofs (disch := omega) only [go_sem, reduceAdd, reduceSub, reduceGT, reduceEqDiff, reduceMul, ring, w64]
  refine hN _ ?_
  try clear hN N
  refine AW.ret ?_
  simp -dsimp -implicitDefEqProofs (disch := omega) only [go_sem, reduceAdd, reduceSub, reduceGT, reduceEqDiff, reduceMul]
  exfalso; omega
 ·try simp only [cn] at h1
  refine AW.skip ?_
  simp only [thn, blk]
  refine hN1 _ ?_
  try clear hN1 N1
  refine AW.sr envOk (fun N hN => ?_)
  simp -dsimp -implicitDefEqProofs (disch := omega) only [go_sem, reduceAdd, reduceSub, reduceGT, reduceEqDiff, reduceMul, ring, w64]
  refine AC.pure (.of (heldCC_g hbr (by omega) (by omega) )) ?_
  try simp -dsimp -implicitDefEqProofs (disch := omega) only [go_sem, reduceAdd, reduceSub, reduceGT, reduceEqDiff, reduceMul, ring, w64]
  refine hN _ ?_
  try clear hN N
  refine AW.seq (fun N2 hN2 => ?_)
  refine AW.sr envOk (fun N hN => ?_)
  simp -dsimp -implicitDefEqProofs (disch := omega) only [go_sem, reduceAdd, reduceSub, reduceGT, reduceEqDiff, reduceMul, ring, w64]
  refine hN _ ?_
  try clear hN N
  refine AW.cond rfl (fun h2 => ?_) (fun h2 => ?_)
  ·try simp only [cn] at h2
   refine AW.sr envOk (fun N hN => ?_)
   simp -dsimp -implicitDefEqProofs (disch := omega) only [go_sem, reduceAdd, reduceSub, reduceGT, reduceEqDiff, reduceMul, ring, w64]
   refine hN _ ?_
   try clear hN N
   refine AW.ret ?_
   simp -dsimp -implicitDefEqProofs (disch := omega) only [go_sem, reduceAdd, reduceSub, reduceGT, reduceEqDiff, reduceMul]
   exfalso; omega
  ·try simp only [cn] at h2
   refine AW.skip ?_
   simp only [thn, blk]
   refine hN2 _ ?_
   try clear hN2 N2
   refine AW.sr envOk (fun N hN => ?_)
   simp -dsimp -implicitDefEqProofs (disch := omega) only [go_sem, reduceAdd, reduceSub, reduceGT, reduceEqDiff, reduceMul, ring, w64]
   refine hN _ ?_
   try clear hN N
   refine AW.ret ?_
   simp -dsimp -implicitDefEqProofs (disch := omega) only [go_sem, reduceAdd, reduceSub, reduceGT, reduceEqDiff, reduceMul]
   try rfl

theorem laws_eqLieRing_r (p : Int) (pw : List (List Int)) (br : List (List (List Int))) (q1 : rowslen pw) (q2 : cubeslen br) : ACp Try.prog 19 [ring p pw br, ring p pw br] (.b (decide (pw = pw))) := by
 refine ACp.intro' envOk Try.func19 rfl (by kernel_rfl) Try.ntmps19 Try.results19 (.b _) (fun nx => ?_)
 refine AW.sr envOk (fun N hN => ?_)
 simp -dsimp -implicitDefEqProofs (disch := omega) only [go_sem, reduceAdd, reduceSub, reduceGT, reduceEqDiff, reduceMul, ring, bne_self_eq_false]
 refine hN _ ?_
 try clear hN N
 refine AW.seq (fun N1 hN1 => ?_)
 refine AW.sr envOk (fun N hN => ?_)
 simp -dsimp -implicitDefEqProofs (disch := omega) only [go_sem, reduceAdd, reduceSub, reduceGT, reduceEqDiff, reduceMul, ring, bne_self_eq_false]
 refine hN _ ?_
 try clear hN N
 refine AW.cond rfl (fun h1 => ?_) (fun h1 => ?_)
 ·try simp only [cn] at h1
  refine AW.sr envOk (fun N hN => ?_)
  simp -dsimp -implicitDefEqProofs (disch := omega) only [go_sem, reduceAdd, reduceSub, reduceGT, reduceEqDiff, reduceMul, ring, bne_self_eq_false]
  refine hN _ ?_
  try clear hN N
  refine AW.ret ?_
  simp -dsimp -implicitDefEqProofs (disch := omega) only [go_sem, reduceAdd, reduceSub, reduceGT, reduceEqDiff, reduceMul]
  try (exfalso; simp_all; done)
 ·try simp only [cn] at h1
  refine AW.skip ?_
  simp only [thn, blk]
  refine hN1 _ ?_
  try clear hN1 N1
  refine AW.seq (fun N2 hN2 => ?_)
  refine AW.sr envOk (fun N hN => ?_)
  simp -dsimp -implicitDefEqProofs (disch := omega) only [go_sem, reduceAdd, reduceSub, reduceGT, reduceEqDiff, reduceMul, ring, bne_self_eq_false]
  refine AC.pure (.of (laws_eqInt64SS_l pw pw q1 q1 )) ?_
  try simp -dsimp -implicitDefEqProofs (disch := omega) only [go_sem, reduceAdd, reduceSub, reduceGT, reduceEqDiff, reduceMul, ring, bne_self_eq_false]
  refine hN _ ?_
  try clear hN N
  refine AW.cond rfl (fun h2 => ?_) (fun h2 => ?_)
  ·try simp only [cn] at h2
   refine AW.sr envOk (fun N hN => ?_)
   simp -dsimp -implicitDefEqProofs (disch := omega) only [go_sem, reduceAdd, reduceSub, reduceGT, reduceEqDiff, reduceMul, ring, bne_self_eq_false]
   refine hN _ ?_
   try clear hN N
   refine AW.ret ?_
   simp -dsimp -implicitDefEqProofs (disch := omega) only [go_sem, reduceAdd, reduceSub, reduceGT, reduceEqDiff, reduceMul]
   try (exfalso; simp_all; done)
  ·try simp only [cn] at h2
   refine AW.skip ?_
   simp only [thn, blk]
   refine hN2 _ ?_
   try clear hN2 N2
   refine AW.seq (fun N3 hN3 => ?_)
   refine AW.sr envOk (fun N hN => ?_)
   simp -dsimp -implicitDefEqProofs (disch := omega) only [go_sem, reduceAdd, reduceSub, reduceGT, reduceEqDiff, reduceMul, ring, bne_self_eq_false]
   refine AC.pure (.of (laws_eqInt64SSS_l br br q2 q2 )) ?_
   try simp -dsimp -implicitDefEqProofs (disch := omega) only [go_sem, reduceAdd, reduceSub, reduceGT, reduceEqDiff, reduceMul, ring, bne_self_eq_false]
   refine hN _ ?_
   try clear hN N
   refine AW.cond rfl (fun h3 => ?_) (fun h3 => ?_)
   ·try simp only [cn] at h3
    refine AW.sr envOk (fun N hN => ?_)
    simp -dsimp -implicitDefEqProofs (disch := omega) only [go_sem, reduceAdd, reduceSub, reduceGT, reduceEqDiff, reduceMul, ring, bne_self_eq_false]
    refine hN _ ?_
    try clear hN N
    refine AW.ret ?_
    simp -dsimp -implicitDefEqProofs (disch := omega) only [go_sem, reduceAdd, reduceSub, reduceGT, reduceEqDiff, reduceMul]
    try (exfalso; simp_all; done)
   ·try simp only [cn] at h3
    refine AW.skip ?_
    simp only [thn, blk]
    refine hN3 _ ?_
    try clear hN3 N3
    refine AW.sr envOk (fun N hN => ?_)
    simp -dsimp -implicitDefEqProofs (disch := omega) only [go_sem, reduceAdd, reduceSub, reduceGT, reduceEqDiff, reduceMul, ring, bne_self_eq_false]
    refine hN _ ?_
    try clear hN N
    refine AW.ret ?_
    simp -dsimp -implicitDefEqProofs (disch := omega) only [go_sem, reduceAdd, reduceSub, reduceGT, reduceEqDiff, reduceMul]
    try simp

end Go.Proofs.Ytbhlindlcfeppaa
