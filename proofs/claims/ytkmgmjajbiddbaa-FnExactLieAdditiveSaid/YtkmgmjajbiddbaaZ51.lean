import Derived.Test.YtkmgmjajbiddbaaZ24
import Derived.Test.YtkmgmjajbiddbaaZ50
set_option linter.unusedVariables false
set_option linter.unusedSimpArgs false
namespace Go.Proofs.Ytkmgmjajbiddbaa
open Nat (reduceAdd reduceSub reduceGT reduceEqDiff reduceMul)
def orA (b : Bool) (xs : List Int) : List Int × Int := match b with
  | true => (xs, 0)
  | false => ([], 1)
def resM (M : List Int × Int) : AV := .t [abl M.1, .i .i64 M.2]
theorem resA_M (b : Bool) (xs : List Int) : resA b xs = resM (orA b xs) := by cases b <;> rfl
theorem Ow.abl_inv {H : HP} {r : AV} {xs : List Int} {ids : List Nat} (h : Ow H r (Go.Proofs.Ytkmgmjajbiddbaa.abl xs) ids) : ∃ r1, r = .g [r1, .i .i64 0] ∧ Ow H r1 (Go.Proofs.Ytkmgmjajbiddbaa.ints xs) ids := by
  unfold Go.Proofs.Ytkmgmjajbiddbaa.abl at h
  generalize hX : AV.g [Go.Proofs.Ytkmgmjajbiddbaa.ints xs, AV.i .i64 0] = X at h
  cases h with
  | leaf _ hf hn =>
    subst hX
    cases hf with | g _ hf => cases hn with | g _ hn => exact ⟨Go.Proofs.Ytkmgmjajbiddbaa.ints xs, rfl, .leaf _ (hf 0 _ rfl) (hn 0 _ rfl)⟩
  | nl => cases hX
  | h id cs ts ids' h1 h2 => cases hX
  | q id cs ts ids' h1 h2 => cases hX
  | g cs ts ids' h2 =>
    cases hX
    cases h2 with | cons x0 _ xs _ i0 j0 g1 g2 => cases g2 with | cons x1 _ xs _ i1 j1 g3 g4 =>
      cases g4
      cases g3 with | leaf _ _ _ => exact ⟨x0, rfl, by simpa using g1⟩
  | t cs ts ids' h2 => cases hX
theorem Hold.abl {H : HP} {lo hi : Nat} {r : AV} {xs : List Int} (h : Hold H lo hi r (Go.Proofs.Ytkmgmjajbiddbaa.abl xs)) :
    ∃ r1, r = .g [r1, .i .i64 0] ∧ one r1 = true ∧ Hold H lo hi (.g [r1, .i .i64 0]) (Go.Proofs.Ytkmgmjajbiddbaa.abl xs) := by
  obtain ⟨ids, h1, h2, h3⟩ := h
  obtain ⟨r1, rfl, h5⟩ := h1.abl_inv
  exact ⟨r1, rfl, one_ow h5, ids, h1, h2, h3⟩
theorem Hold.abl_at {H : HP} {lo hi : Nat} {r1 : AV} {xs : List Int} (h : Hold H lo hi (.g [r1, .i .i64 0]) (Go.Proofs.Ytkmgmjajbiddbaa.abl xs)) : Hold H lo hi r1 (Go.Proofs.Ytkmgmjajbiddbaa.ints xs) := by
  obtain ⟨ids, h1, h2, h3⟩ := h
  obtain ⟨r2, e, h5⟩ := h1.abl_inv
  cases e
  exact ⟨ids, h5, h2, h3⟩
theorem Hold.abl_of {H : HP} {lo hi : Nat} {r1 : AV} {xs : List Int} (h : Hold H lo hi r1 (Go.Proofs.Ytkmgmjajbiddbaa.ints xs)) : Hold H lo hi (.g [r1, .i .i64 0]) (Go.Proofs.Ytkmgmjajbiddbaa.abl xs) := by
  obtain ⟨ids, h1, h2, h3⟩ := h
  exact ⟨ids ++ ([] ++ []), .g _ _ _ (.cons _ _ _ _ _ _ h1 (.cons _ _ _ _ _ _ (.leaf _ (.i _ _) (.i _ _)) .nil)), by simpa using h2, by simpa using h3⟩
theorem laws_eqAbelian_r (xs : List Int) (h : xs.length ≤ 1048576) : ACp Try.prog 9 [abl xs, abl xs] (.b true) := by
 refine ACp.intro' envOk Try.func9 rfl (by kernel_rfl) Try.ntmps9 Try.results9 (.b _) (fun nx => ?_)
 refine AW.sr envOk (fun N hN => ?_)
 simp -dsimp -implicitDefEqProofs (disch := omega) only [go_sem, undef, reduceAdd, reduceSub, reduceGT, reduceEqDiff, reduceMul, abl, w64]
 refine hN _ ?_
 try clear hN N
 refine AW.seq (fun N1 hN1 => ?_)
 refine AW.sr envOk (fun N hN => ?_)
 simp -dsimp -implicitDefEqProofs (disch := omega) only [go_sem, undef, reduceAdd, reduceSub, reduceGT, reduceEqDiff, reduceMul, abl, w64]
 refine AC.pure (.of (laws_eqInt64S_ok xs xs (by omega) (by omega))) ?_
 try simp -dsimp -implicitDefEqProofs (disch := omega) only [go_sem, undef, reduceAdd, reduceSub, reduceGT, reduceEqDiff, reduceMul, abl, w64]
 refine hN _ ?_
 try clear hN N
 refine AW.cond rfl (fun h1 => ?_) (fun h1 => ?_)
 ·try simp only [cn] at h1
  refine AW.sr envOk (fun N hN => ?_)
  simp -dsimp -implicitDefEqProofs (disch := omega) only [go_sem, undef, reduceAdd, reduceSub, reduceGT, reduceEqDiff, reduceMul, abl, w64]
  refine hN _ ?_
  try clear hN N
  refine AW.ret ?_
  simp -dsimp -implicitDefEqProofs (disch := omega) only [go_sem, undef, reduceAdd, reduceSub, reduceGT, reduceEqDiff, reduceMul]
  simp at h1
 ·try simp only [cn] at h1
  refine AW.skip ?_
  simp only [thn, blk]
  refine hN1 _ ?_
  try clear hN1 N1
  refine AW.seq (fun N2 hN2 => ?_)
  refine AW.sr envOk (fun N hN => ?_)
  simp -dsimp -implicitDefEqProofs (disch := omega) only [go_sem, undef, reduceAdd, reduceSub, reduceGT, reduceEqDiff, reduceMul, abl, w64]
  refine hN _ ?_
  try clear hN N
  refine AW.cond rfl (fun h2 => ?_) (fun h2 => ?_)
  ·try simp only [cn] at h2
   refine AW.sr envOk (fun N hN => ?_)
   simp -dsimp -implicitDefEqProofs (disch := omega) only [go_sem, undef, reduceAdd, reduceSub, reduceGT, reduceEqDiff, reduceMul, abl, w64]
   refine hN _ ?_
   try clear hN N
   refine AW.ret ?_
   simp -dsimp -implicitDefEqProofs (disch := omega) only [go_sem, undef, reduceAdd, reduceSub, reduceGT, reduceEqDiff, reduceMul]
   simp at h2
  ·try simp only [cn] at h2
   refine AW.skip ?_
   simp only [thn, blk]
   refine hN2 _ ?_
   try clear hN2 N2
   refine AW.sr envOk (fun N hN => ?_)
   simp -dsimp -implicitDefEqProofs (disch := omega) only [go_sem, undef, reduceAdd, reduceSub, reduceGT, reduceEqDiff, reduceMul, abl, w64]
   refine hN _ ?_
   try clear hN N
   refine AW.ret ?_
   simp -dsimp -implicitDefEqProofs (disch := omega) only [go_sem, undef, reduceAdd, reduceSub, reduceGT, reduceEqDiff, reduceMul]
   skip
theorem markA_g {xs : List Int} (hl : xs.length ≤ 1048576) {nx : Nat} {H : HP} {r1 : AV} {lo hi : Nat} {k : Int} (h : Hold H lo hi (.g [r1, .i .i64 0]) (abl xs)) (hn : hi ≤ nx) (h0 : 0 ≤ k) (h1 : k ≤ 1000000000000000000) :
 AC Try.prog 12 nx H [.g [r1, .i .i64 0], .i .i64 k] (fun _ H' res => res = .i .i64 (k + xs.length) ∧ Hold H' lo hi (.g [r1, .i .i64 0]) (abl (mks k xs.length)) ∧ ∀ i, (i < lo ∨ hi ≤ i) → H' i = H i) := by
 have hh := h.abl_at
 have u1 : one r1 = true := by obtain ⟨ids, q, _⟩ := hh; exact one_ow q
 refine AC.introx envOk Try.func12 rfl (by kernel_rfl) Try.ntmps12 Try.results12 (fun hfr => ?_)
 refine AW.sr envOk (fun N hN => ?_)
 simp -dsimp -implicitDefEqProofs (disch := omega) only [go_sem, undef, reduceAdd, reduceSub, reduceGT, reduceEqDiff, reduceMul, u1]
 refine hN _ ?_
 try clear hN N
 refine AW.sr envOk (fun N hN => ?_)
 simp -dsimp -implicitDefEqProofs (disch := omega) only [go_sem, undef, reduceAdd, reduceSub, reduceGT, reduceEqDiff, reduceMul, u1]
 refine (markS_g hl (hh.keep (fun i q1 q2 => upd_ne _ _ (by omega))) h0 h1).mono2 ?_
 rintro nx1 H1 res hx1 ⟨rfl, hg, hH1⟩
 try simp -dsimp -implicitDefEqProofs (disch := omega) only [go_sem, undef, reduceAdd, reduceSub, reduceGT, reduceEqDiff, reduceMul, u1]
 refine hN _ ?_
 try clear hN N
 refine AW.sr envOk (fun N hN => ?_)
 simp -dsimp -implicitDefEqProofs (disch := omega) only [go_sem, undef, reduceAdd, reduceSub, reduceGT, reduceEqDiff, reduceMul, u1]
 refine hN _ ?_
 try clear hN N
 refine AW.ret ?_
 simp -dsimp -implicitDefEqProofs (disch := omega) only [go_sem, undef, reduceAdd, reduceSub, reduceGT, reduceEqDiff, reduceMul]
 have hc : ∀ i, i < nx → cut nx H1 i = H1 i := fun i hi => by unfold cut; rw [if_pos hi]
 refine ⟨cut nx H1, cut_le _ _, (hg.keep (fun i q1 q2 => hc i (by omega))).abl_of, fun i hi => ?_⟩
 unfold cut
 split
 ·rw [hH1 i hi]; exact upd_ne _ _ (by omega)
 ·rw [hfr i (by omega)]
theorem heldA_g {n : Nat} (hn : n ≤ 1048576) {k : Int} (hk0 : 0 ≤ k) (hk1 : k ≤ 1000000000000000000) : ACp Try.prog 13 [abl (mks k n), .i .i64 k] (.i .i64 (k + n)) := by
 refine ACp.intro' envOk Try.func13 rfl (by kernel_rfl) Try.ntmps13 Try.results13 (.i _ _) (fun nx => ?_)
 refine AW.sr envOk (fun N hN => ?_)
 simp -dsimp -implicitDefEqProofs (disch := omega) only [go_sem, undef, reduceAdd, reduceSub, reduceGT, reduceEqDiff, reduceMul, abl, w64]
 refine hN _ ?_
 try clear hN N
 refine AW.sr envOk (fun N hN => ?_)
 simp -dsimp -implicitDefEqProofs (disch := omega) only [go_sem, undef, reduceAdd, reduceSub, reduceGT, reduceEqDiff, reduceMul, abl, w64]
 refine AC.pure (.of (held_g hn hk0 hk1 )) ?_
 try simp -dsimp -implicitDefEqProofs (disch := omega) only [go_sem, undef, reduceAdd, reduceSub, reduceGT, reduceEqDiff, reduceMul, abl, w64]
 refine hN _ ?_
 try clear hN N
 refine AW.seq (fun N1 hN1 => ?_)
 refine AW.sr envOk (fun N hN => ?_)
 simp -dsimp -implicitDefEqProofs (disch := omega) only [go_sem, undef, reduceAdd, reduceSub, reduceGT, reduceEqDiff, reduceMul, abl, w64]
 refine hN _ ?_
 try clear hN N
 refine AW.cond rfl (fun h1 => ?_) (fun h1 => ?_)
 ·try simp only [cn] at h1
  refine AW.sr envOk (fun N hN => ?_)
  simp -dsimp -implicitDefEqProofs (disch := omega) only [go_sem, undef, reduceAdd, reduceSub, reduceGT, reduceEqDiff, reduceMul, abl, w64]
  refine hN _ ?_
  try clear hN N
  refine AW.ret ?_
  simp -dsimp -implicitDefEqProofs (disch := omega) only [go_sem, undef, reduceAdd, reduceSub, reduceGT, reduceEqDiff, reduceMul]
  exfalso; omega
 ·try simp only [cn] at h1
  refine AW.skip ?_
  simp only [thn, blk]
  refine hN1 _ ?_
  try clear hN1 N1
  refine AW.sr envOk (fun N hN => ?_)
  simp -dsimp -implicitDefEqProofs (disch := omega) only [go_sem, undef, reduceAdd, reduceSub, reduceGT, reduceEqDiff, reduceMul, abl, w64]
  refine hN _ ?_
  try clear hN N
  refine AW.ret ?_
  simp -dsimp -implicitDefEqProofs (disch := omega) only [go_sem, undef, reduceAdd, reduceSub, reduceGT, reduceEqDiff, reduceMul]
  try rfl
end Go.Proofs.Ytkmgmjajbiddbaa
