import Derived.Test.YtnlfbimjcabgiaaZ18
import Derived.Test.YtnlfbimjcabgiaaZ32
set_option linter.unusedVariables false
set_option linter.unusedSimpArgs false
namespace Go.Proofs.Ytnlfbimjcabgiaa
open Nat (reduceAdd reduceSub reduceGT reduceEqDiff reduceMul)
theorem Ow.prs_inv {H : HP} {r : AV} {os : List Int} {pw : List (List Int)} {cj : List (List (List Int))} {ids : List Nat} (h : Ow H r (Go.Proofs.Ytnlfbimjcabgiaa.prs os pw cj) ids) :
    ∃ r1 r2 r3 is js ks, r = .g [r1, r2, r3] ∧ ids = is ++ (js ++ ks) ∧ Ow H r1 (Go.Proofs.Ytnlfbimjcabgiaa.ints os) is ∧ Ow H r2 (rows pw) js ∧ Ow H r3 (cubes cj) ks := by
  unfold Go.Proofs.Ytnlfbimjcabgiaa.prs at h
  generalize hX : AV.g [Go.Proofs.Ytnlfbimjcabgiaa.ints os, rows pw, cubes cj] = X at h
  cases h with
  | leaf _ hf hn =>
    subst hX
    cases hf with | g _ hf => cases hn with | g _ hn => exact ⟨Go.Proofs.Ytnlfbimjcabgiaa.ints os, rows pw, cubes cj, [], [], [], rfl, rfl, .leaf _ (hf 0 _ rfl) (hn 0 _ rfl), .leaf _ (hf 1 _ rfl) (hn 1 _ rfl), .leaf _ (hf 2 _ rfl) (hn 2 _ rfl)⟩
  | nl => cases hX
  | h id cs ts ids' h1 h2 => cases hX
  | q id cs ts ids' h1 h2 => cases hX
  | g cs ts ids' h2 =>
    cases hX
    cases h2 with | cons x0 _ xs _ i0 j0 g1 g2 => cases g2 with | cons x1 _ xs _ i1 j1 g3 g4 => cases g4 with | cons x2 _ xs _ i2 j2 g5 g6 =>
      cases g6
      exact ⟨x0, x1, x2, i0, i1, i2, rfl, by simp, g1, g3, g5⟩
  | t cs ts ids' h2 => cases hX
theorem Hold.prs {H : HP} {lo hi : Nat} {r : AV} {os : List Int} {pw : List (List Int)} {cj : List (List (List Int))} (h : Hold H lo hi r (Go.Proofs.Ytnlfbimjcabgiaa.prs os pw cj)) :
    ∃ r1 r2 r3, r = .g [r1, r2, r3] ∧ (one r1 = true ∧ one r2 = true ∧ one r3 = true) ∧ Hold H lo hi (.g [r1, r2, r3]) (Go.Proofs.Ytnlfbimjcabgiaa.prs os pw cj) := by
  obtain ⟨ids, h1, h2, h3⟩ := h
  obtain ⟨r1, r2, r3, is, js, ks, rfl, _, h4, h5, h6⟩ := h1.prs_inv
  exact ⟨r1, r2, r3, rfl, ⟨one_ow h4, one_ow h5, one_ow h6⟩, ids, h1, h2, h3⟩
theorem markP_x (os : List Int) (pw : List (List Int)) (cj : List (List (List Int))) (hos : os.length ≤ 1048576) (hpw : rowslen pw) (hcj : cubeslen cj) (r1 r2 r3 : AV) (is js ks : List Nat) (k : Int) (nx : Nat) (H : HP) (o1 : Ow H r1 (ints os) is) (o2 : Ow H r2 (rows pw) js) (o3 : Ow H r3 (cubes cj) ks) (hnd : (is ++ (js ++ ks)).Nodup) (hlt : ∀ i ∈ is ++ (js ++ ks), i < nx) (hk0 : 0 ≤ k) (hk1 : k ≤ 1000000000000) :
 AC Try.prog 13 nx H [.g [r1, r2, r3], .i .i64 k] (fun _ H' res => ∃ k' : Int, res = .i .i64 k' ∧ (0 ≤ k' ∧ k' ≤ 2000000000000000000) ∧ ∀ i, i ∉ is ++ (js ++ ks) → H' i = H i) := by
 obtain ⟨n1, n2, n3⟩ := List.nodup_append.1 hnd
 obtain ⟨n4, n5, n6⟩ := List.nodup_append.1 n2
 have u1 := one_ow o1
 have u2 := one_ow o2
 have u3 := one_ow o3
 refine AC.introx envOk Try.func13 rfl (by kernel_rfl) Try.ntmps13 Try.results13 (fun hfr => ?_)
 refine AW.sr envOk (fun N hN => ?_)
 simp -dsimp -implicitDefEqProofs (disch := omega) only [go_sem, undef, reduceAdd, reduceSub, reduceGT, reduceEqDiff, reduceMul, u1, u2, u3]
 refine hN _ ?_
 try clear hN N
 refine AW.sr envOk (fun N hN => ?_)
 simp -dsimp -implicitDefEqProofs (disch := omega) only [go_sem, undef, reduceAdd, reduceSub, reduceGT, reduceEqDiff, reduceMul, u1, u2, u3]
 refine (laws_markInt64S_c _ _ r1 os is k (o1.keep (fun i hi => ?_)) n1 hos hk0 (by omega)).mono2 ?_
 ·have := hlt i (by simp [hi]); exact upd_ne _ _ (by omega)
 rintro nx1 H1 res hx1 ⟨k1, rfl, hk2, hk3, hH1⟩
 have hb : H1 nx = some [r1, r2, r3] := by rw [hH1 nx (fun h => by have := hlt nx (by simp [h]); omega), upd_same]
 try simp -dsimp -implicitDefEqProofs (disch := omega) only [go_sem, undef, reduceAdd, reduceSub, reduceGT, reduceEqDiff, reduceMul, u1, u2, u3]
 refine hN _ ?_
 try clear hN N
 refine AW.sr envOk (fun N hN => ?_)
 simp -dsimp -implicitDefEqProofs (disch := omega) only [go_sem, undef, reduceAdd, reduceSub, reduceGT, reduceEqDiff, reduceMul, u1, u2, u3]
 try simp -dsimp -implicitDefEqProofs (disch := omega) only [go_sem, undef, reduceAdd, reduceSub, reduceGT, reduceEqDiff, reduceMul, hb]
 refine (laws_markInt64SS_c _ _ r2 pw js k1 (o2.keep (fun i hi => ?_)) n4 hpw (by omega) (by omega)).mono2 ?_
 ·rw [hH1 i (fun h => n3 i h i (by simp [hi]) rfl)]
  have := hlt i (by simp [hi]); exact upd_ne _ _ (by omega)
 rintro nx2 H2 res hx2 ⟨k2, rfl, hk4, hk5, hH2⟩
 have hb2 : H2 nx = some [r1, r2, r3] := by rw [hH2 nx (fun h => by have := hlt nx (by simp [h]); omega), hb]
 try simp -dsimp -implicitDefEqProofs (disch := omega) only [go_sem, undef, reduceAdd, reduceSub, reduceGT, reduceEqDiff, reduceMul, u1, u2, u3]
 refine hN _ ?_
 try clear hN N
 refine AW.sr envOk (fun N hN => ?_)
 simp -dsimp -implicitDefEqProofs (disch := omega) only [go_sem, undef, reduceAdd, reduceSub, reduceGT, reduceEqDiff, reduceMul, u1, u2, u3]
 try simp -dsimp -implicitDefEqProofs (disch := omega) only [go_sem, undef, reduceAdd, reduceSub, reduceGT, reduceEqDiff, reduceMul, hb2]
 refine (laws_markInt64SSS_c _ _ r3 cj ks k2 (o3.keep (fun i hi => ?_)) n5 hcj (by omega) (by omega)).mono2 ?_
 ·rw [hH2 i (fun h => n6 i h i hi rfl), hH1 i (fun h => n3 i h i (by simp [hi]) rfl)]
  have := hlt i (by simp [hi]); exact upd_ne _ _ (by omega)
 rintro nx3 H3 res hx3 ⟨k3, rfl, hk6, hk7, hH3⟩
 try simp -dsimp -implicitDefEqProofs (disch := omega) only [go_sem, undef, reduceAdd, reduceSub, reduceGT, reduceEqDiff, reduceMul, u1, u2, u3]
 refine hN _ ?_
 try clear hN N
 refine AW.sr envOk (fun N hN => ?_)
 simp -dsimp -implicitDefEqProofs (disch := omega) only [go_sem, undef, reduceAdd, reduceSub, reduceGT, reduceEqDiff, reduceMul, u1, u2, u3]
 refine hN _ ?_
 try clear hN N
 refine AW.ret ?_
 simp -dsimp -implicitDefEqProofs (disch := omega) only [go_sem, undef, reduceAdd, reduceSub, reduceGT, reduceEqDiff, reduceMul]
 refine ⟨cut nx H3, cut_le _ _, k3, rfl, ⟨by omega, by omega⟩, fun i hi => ?_⟩
 unfold cut
 split
 ·rw [hH3 i (fun h => hi (by simp [h])), hH2 i (fun h => hi (by simp [h])), hH1 i (fun h => hi (by simp [h]))]
  exact upd_ne _ _ (by omega)
 ·rw [hfr i (by omega)]
theorem markP_g {os : List Int} {pw : List (List Int)} {cj : List (List (List Int))} (hos : os.length ≤ 1048576) (hpw : rowslen pw) (hcj : cubeslen cj) {nx : Nat} {H : HP} {r1 r2 r3 : AV} {lo hi : Nat} {k : Int} (h : Hold H lo hi (.g [r1, r2, r3]) (prs os pw cj)) (hn : hi ≤ nx) (h0 : 0 ≤ k) (h1 : k ≤ 1000000000000) :
    AC Try.prog 13 nx H [.g [r1, r2, r3], .i .i64 k] (fun _ H' res => ∃ k' : Int, res = .i .i64 k' ∧ (0 ≤ k' ∧ k' ≤ 2000000000000000000) ∧ ∀ i, (i < lo ∨ hi ≤ i) → H' i = H i) := by
  obtain ⟨ids, g1, g2, g3⟩ := h
  obtain ⟨s1, s2, s3, is, js, ks, e, rfl, o1, o2, o3⟩ := g1.prs_inv
  cases e
  refine (markP_x os pw cj hos hpw hcj r1 r2 r3 is js ks k nx H o1 o2 o3 g2 (fun i hi => by have := g3 i hi; omega) h0 h1).mono ?_
  rintro _ H' res ⟨k', rfl, w1, hH⟩
  exact ⟨k', rfl, w1, fun i hi => hH i (fun hm => by have := g3 i hm; omega)⟩
end Go.Proofs.Ytnlfbimjcabgiaa
