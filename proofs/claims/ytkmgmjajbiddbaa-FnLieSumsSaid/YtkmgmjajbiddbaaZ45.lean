import Derived.Test.YtkmgmjajbiddbaaZ30
import Derived.Test.YtkmgmjajbiddbaaZ44
set_option linter.unusedVariables false
set_option linter.unusedSimpArgs false
namespace Go.Proofs.Ytkmgmjajbiddbaa
open Nat (reduceAdd reduceSub reduceGT reduceEqDiff reduceMul)
theorem FzH.cell {H : HP} {i j n k : Nat} {cs ds : List AV} (h1 : H i = some cs) (hk : cs[k]? = some (.h j 0 n)) (h2 : H j = some ds) (hn : ds.length = n) (hij : i ≠ j) : FzH H (upd (upd H j none) i (some (cs.set k (.v n ds)))) := by
  intro l cs' hl
  by_cases e : l = i
  · subst e
    rw [upd_same] at hl; cases hl
    refine ⟨_, h1, by simp, fun q x y hx hy => ?_⟩
    rw [List.getElem?_set] at hy
    split at hy
    · rename_i hq
      subst hq
      rw [hk] at hx; cases hx
      split at hy
      · cases hy
        exact .h j 0 n ds ds h2 (by rw [upd_ne _ _ (Ne.symm hij), upd_same]) (by omega) hn (fun q x y h1 h2 => by rw [Nat.zero_add, h2] at h1; cases h1; exact .refl _)
      · cases hy
    · rw [hx] at hy; cases hy; exact .refl _
  · rw [upd_ne _ _ e] at hl
    by_cases e2 : l = j
    · subst e2; rw [upd_same] at hl; cases hl
    · rw [upd_ne _ _ e2] at hl
      exact ⟨cs', hl, rfl, fun q x y h1 h2 => by rw [h1] at h2; cases h2; exact .refl _⟩
theorem AW.fzcell {P : Program} {c : Code} {s : St} {K : Exit → St → Prop} (i j n k : Nat) (cs ds : List AV) (h1 : s.H i = some cs) (hk : cs[k]? = some (.h j 0 n)) (h2 : s.H j = some ds) (hn : ds.length = n) (hij : i ≠ j)
    (hs : AW P c ⟨s.t, upd (upd s.H j none) i (some (cs.set k (.v n ds))), s.nx⟩ K) : AW P c s K :=
  AW.fz (s' := ⟨s.t, upd (upd s.H j none) i (some (cs.set k (.v n ds))), s.nx⟩) ⟨fzs_refl, FzH.cell h1 hk h2 hn hij, Nat.le_refl _⟩ hs
theorem ints_set {X : List (List Int)} {k : Nat} {w : List Int} (h : k < X.length) : splice (X.map ints) k [ints w] = (X.set k w).map ints := by
  rw [splice_one _ _ _ (by simpa using h), List.map_set]
def rgK (p : Int) (n nx : Nat) : Nat → HP → AV → Prop := fun nx' H' r => ∃ P B q X Y, r = rgH p n P (.h B 0 n) ∧ RgD nx nx' n n P B q X Y H'
set_option maxHeartbeats 1000000 in
theorem spec_l31Flat_n (p : Int) (n : Nat) (hn : n ≤ 6) (nx : Nat) : AC Try.prog 113 nx noH [.i .i64 p, .i .i64 n] (rgK p n nx) := by
 refine AC.introx envOk Try.func113 rfl (by kernel_rfl) Try.ntmps113 Try.results113 (fun hfr => ?_)
 refine AW.sr envOk (fun N hN => ?_)
 simp -dsimp -implicitDefEqProofs (disch := omega) only [go_sem, undef, reduceAdd, reduceSub, reduceGT, reduceEqDiff, reduceMul, w64, rgH]
 refine hN _ ?_
 try clear hN N
 refine AW.sr envOk (fun N hN => ?_)
 simp -dsimp -implicitDefEqProofs (disch := omega) only [go_sem, undef, reduceAdd, reduceSub, reduceGT, reduceEqDiff, reduceMul, w64, rgH]
 refine AC.mono2 (AC.frame (spec_l31Cyclic_n p n hn _)) ?_
 rintro m1 H1 r1 hm1 ⟨H0, ⟨P, B, q, X0, Y, rfl, hR0⟩, hlow, hhigh⟩
 have hR1 := hR0.keep (fun j h1 h2 => hhigh j h1) (Nat.le_refl _)
 have h01 : H1 nx = some [.i .i64 0, .nl, .nl] := (hlow nx (by omega)).trans (upd_same _ _ _)
 clear hlow hhigh hR0
 try simp -dsimp -implicitDefEqProofs (disch := omega) only [go_sem, undef, reduceAdd, reduceSub, reduceGT, reduceEqDiff, reduceMul, w64, rgH]
 refine hN _ ?_
 try clear hN N
 refine AW.seq (fun N1 hN1 => ?_)
 refine AW.sr envOk (fun N hN => ?_)
 simp -dsimp -implicitDefEqProofs (disch := omega) only [go_sem, undef, reduceAdd, reduceSub, reduceGT, reduceEqDiff, reduceMul, w64, rgH]
 refine hN _ ?_
 try clear hN N
 refine AW.block ?_
 refine AW.freezeQ 5 (nx + 1 + 3) _ rfl (upd_same _ _ _) ?_
 simp -dsimp -implicitDefEqProofs (disch := omega) only [go_sem, undef, reduceAdd, reduceSub, reduceGT, reduceEqDiff, reduceMul]
 refine AW.loopN (α := Nat × List (List Int) × HP) (fun x => sl 22 [(1, .i .i64 n), (4, .q nx 0), (5, .p 0 [.i .i64 p, .h P 0 n, .h B 0 n]), (6, .i .i64 x.1)]) (fun x => x.2.2) (fun x m => (x.1 ≤ n ∧ m1 ≤ m) ∧ x.2.2 nx = some [.i .i64 0, .nl, .nl] ∧ RgD (nx + 1 + 5) m n n P B q x.2.1 Y x.2.2) (fun x => n - x.1) ((0, X0, upd H1 (nx + 1 + 3) none)) ?_ ?_ (by exact Le.refl _) ?_
 ·exact ⟨⟨Nat.zero_le _, by first| omega| (simp only; omega)| (dsimp only; omega)⟩, (upd_ne _ _ (by omega)).trans h01, hR1.keep (fun j h1 h2 => upd_ne _ _ (by omega)) (by first| omega| (simp only; omega)| (dsimp only; omega))⟩
 ·simp (disch := omega) [wks, wkA, sl, rgH] <;> omega
 ·skip
  rintro ⟨i, X, G⟩ m ⟨⟨hi, hm⟩, h0, hR⟩
  dsimp only at hi hm h0 hR ⊢
  simp -dsimp -implicitDefEqProofs (disch := omega) only [go_sem, undef, reduceAdd, reduceSub, reduceGT, reduceEqDiff, reduceMul]
  have hGP := hR.hp
  have hXl := hR.xl
  have hpb := hR.pb
  refine AW.seq (fun N2 hN2 => ?_)
  refine AW.sr envOk (fun N hN => ?_)
  simp -dsimp -implicitDefEqProofs (disch := omega) only [go_sem, undef, reduceAdd, reduceSub, reduceGT, reduceEqDiff, reduceMul, w64, rgH]
  refine hN _ ?_
  try clear hN N
  refine AW.cond rfl (fun h1 => ?_) (fun h1 => ?_)
  ·try simp only [cn] at h1
   refine AW.skip ?_
   simp only [thn, blk]
   refine hN2 _ ?_
   try clear hN2 N2
   refine AW.seq (fun N3 hN3 => ?_)
   refine AW.block ?_
   refine AW.drawF envOk (by kernel_rfl) [true, true, true, true, false, true, false] (by kernel_rfl) ?_
   simp -dsimp -implicitDefEqProofs (disch := omega) only [go_sem, undef, reduceAdd, reduceSub, reduceGT, reduceEqDiff, reduceMul, w64, rgH, hGP, hXl]
   refine hN3 _ ?_
   try clear hN3 N3
   refine AW.fzcell P (m + 3 + 4) n i _ (List.replicate n (.i .i64 0)) (upd_same _ _ _) ?_ ?_ (by simp) (by omega) ?_
   ·rw [splice_one _ _ _ (by simp; omega)]
    rw [List.getElem?_set_self (by rw [List.length_map]; omega)]
   ·exact (upd_ne _ _ (by omega)).trans (upd_same _ _ _)
   refine AW.nameH (fun G2 hG2 => ?_)
   dsimp only at hG2
   have hP2 : G2 P = some ((X.set i (List.replicate n 0)).map ints) := by
    rw [← hG2, upd_same, splice_one _ _ _ (by simp; omega), List.set_set, List.map_set]
    simp [ints]
   have hk2 : ∀ j, nx + 1 + 5 ≤ j → j < m → j ≠ P → G2 j = G j := fun j h1 h2 h3 => by
    rw [← hG2]; simp (disch := omega) only [upd_ne]
   have h02 : G2 nx = some [.i .i64 0, .nl, .nl] := by rw [← hG2]; simp (disch := omega) only [upd_ne]; exact h0
   clear hG2
   refine AW.regionL envOk ?_
   simp -dsimp -implicitDefEqProofs (disch := omega) only [go_sem, undef, reduceAdd, reduceSub, reduceGT, reduceEqDiff, reduceMul, w64, rgH]
   refine ⟨(i + 1, X.set i (List.replicate n 0), G2), ?_, fun _ _ h => h, ?_, ?_⟩
   ·simp (disch := omega) [wks, wkA, sl, rgH, w64] <;> omega
   ·exact ⟨⟨by first| omega| (simp only; omega)| (dsimp only; omega), by first| omega| (simp only; omega)| (dsimp only; omega)⟩, h02, hR.setP hk2 hP2 (by omega) (by simp; omega)⟩
   ·first | omega | (simp only; omega)
  ·try simp only [cn] at h1
   refine AW.exit ?_
   simp only [thn, blk, if_true]
   refine hN1 _ ?_
   try clear hN1 N1
   refine AW.sr envOk (fun N hN => ?_)
   simp -dsimp -implicitDefEqProofs (disch := omega) only [go_sem, undef, reduceAdd, reduceSub, reduceGT, reduceEqDiff, reduceMul, w64, rgH, h0]
   refine hN _ ?_
   try clear hN N
   refine AW.ret ?_
   simp -dsimp -implicitDefEqProofs (disch := omega) only [go_sem, undef, reduceAdd, reduceSub, reduceGT, reduceEqDiff, reduceMul]
   exact ⟨_, fun _ _ h => h, P, B, q, X, Y, rfl, (hR.keep (fun j h1 h2 => upd_ne _ _ (by omega)) (by omega)).lo (by omega)⟩
theorem prm_get {x : Int} (h0 : 0 ≤ x) (h1 : x < 6) : ∃ p, ([AV.i .i64 2, AV.i .i64 3, AV.i .i64 3, AV.i .i64 5, AV.i .i64 7, AV.i .i64 2] : List AV).getD x.toNat .j = .i .i64 p ∧ pr4 p := by
  rcases (show x = 0 ∨ x = 1 ∨ x = 2 ∨ x = 3 ∨ x = 4 ∨ x = 5 by omega) with rfl | rfl | rfl | rfl | rfl | rfl
  · exact ⟨2, rfl, by simp [pr4]⟩
  · exact ⟨3, rfl, by simp [pr4]⟩
  · exact ⟨3, rfl, by simp [pr4]⟩
  · exact ⟨5, rfl, by simp [pr4]⟩
  · exact ⟨7, rfl, by simp [pr4]⟩
  · exact ⟨2, rfl, by simp [pr4]⟩
theorem prm_next {p : Int} (h : pr4 p) (h2 : p ≠ 2) : ∃ p', ([AV.i .i64 2, AV.i .i64 2, AV.i .i64 2, AV.i .i64 2, AV.i .i64 3, AV.i .i64 3, AV.i .i64 5, AV.i .i64 5] : List AV).getD p.toNat .j = .i .i64 p' ∧ pr4 p' ∧ p' < p := by
  rcases h with rfl | rfl | rfl | rfl
  · exact absurd rfl h2
  · exact ⟨2, rfl, by simp [pr4], by omega⟩
  · exact ⟨3, rfl, by simp [pr4], by omega⟩
  · exact ⟨5, rfl, by simp [pr4], by omega⟩
theorem cap2 : ∀ n, n ≤ 6 → capPow 2 n ≤ 729 := by decide
theorem spec_l31Primed_o (bs : List Int) (a s : Int) (ho : srOk bs a s) (n : Nat) (hn : n ≤ 6) (nx : Nat) (H : HP) (sid : Nat) (hH : H sid = some (srB bs a s)) : AC Try.prog 114 nx H [.q sid 0, .i .i64 n] (fun nx' H' r => ∃ p a' s', r = .i .i64 p ∧ pr4 p ∧ srOk bs a' s' ∧ H' = upd H sid (some (srB bs a' s'))) := by
 refine AC.introx envOk Try.func114 rfl (by kernel_rfl) Try.ntmps114 Try.results114 (fun hfr => ?_)
 have hsn := hfr_lt hfr hH
 refine AW.sr envOk (fun N hN => ?_)
 simp -dsimp -implicitDefEqProofs (disch := omega) only [go_sem, undef, reduceAdd, reduceSub, reduceGT, reduceEqDiff, reduceMul, w64]
 refine hN _ ?_
 try clear hN N
 refine AW.sr envOk (fun N hN => ?_)
 simp -dsimp -implicitDefEqProofs (disch := omega) only [go_sem, undef, reduceAdd, reduceSub, reduceGT, reduceEqDiff, reduceMul, w64]
 refine (spec_l01Next_o bs a s ho 6 (by omega) _ _ sid ((upd_ne _ _ (by omega)).trans hH)).mono2 ?_
 rintro m1 H1 r1 hm1 ⟨x, a1, s1, rfl, hx, ho1, rfl⟩
 obtain ⟨p0, hp0, hpr0⟩ := prm_get hx.1 (show x < 6 by omega)
 try simp -dsimp -implicitDefEqProofs (disch := omega) only [go_sem, undef, reduceAdd, reduceSub, reduceGT, reduceEqDiff, reduceMul, w64, hp0]
 refine hN _ ?_
 try clear hN N
 refine AW.seq (fun N1 hN1 => ?_)
 refine AW.block ?_
 refine AW.loopN (α := Int) (fun x => sl 20 [(1, .i .i64 n), (5, .i .i64 x)]) (fun _ => upd H sid (some (srB bs a1 s1))) (fun x m => pr4 x ∧ nx ≤ m) (fun x => x.toNat) (p0) ?_ ?_ (by intro d cs hd; have hn1 := hfr (nx + 1) (by omega); simp only [upd] at hd ⊢; grind) ?_
 ·exact ⟨hpr0, by first| omega| (simp only; omega)| (dsimp only; omega)⟩
 ·simp (disch := omega) [wks, wkA, sl] <;> omega
 ·skip
  rintro p m ⟨hp, hm⟩
  have hpb := pr4_bd hp
  refine AW.seq (fun N2 hN2 => ?_)
  refine AW.sr envOk (fun N hN => ?_)
  simp -dsimp -implicitDefEqProofs (disch := omega) only [go_sem, undef, reduceAdd, reduceSub, reduceGT, reduceEqDiff, reduceMul, w64]
  refine AC.pure (.of (spec_l31Size_ok p n hp (by omega) )) ?_
  try simp -dsimp -implicitDefEqProofs (disch := omega) only [go_sem, undef, reduceAdd, reduceSub, reduceGT, reduceEqDiff, reduceMul, w64]
  refine hN _ ?_
  try clear hN N
  refine AW.cond rfl (fun h1 => ?_) (fun h1 => ?_)
  ·try simp only [cn] at h1
   have hp2 : p ≠ 2 := by rintro rfl; have := cap2 n hn; omega
   obtain ⟨p', hp', hpr', hlt⟩ := prm_next hp hp2
   refine AW.skip ?_
   simp only [thn, blk]
   refine hN2 _ ?_
   try clear hN2 N2
   refine AW.block ?_
   refine AW.regionL envOk ?_
   simp -dsimp -implicitDefEqProofs (disch := omega) only [go_sem, undef, reduceAdd, reduceSub, reduceGT, reduceEqDiff, reduceMul, w64, hp']
   refine ⟨p', ?_, by intro d cs hd; have hn1 := hfr (m + 4) (by omega); simp only [upd] at hd ⊢; grind, ?_, ?_⟩
   ·simp (disch := omega) [wks, wkA, sl, w64] <;> omega
   ·exact ⟨hpr', by first| omega| (simp only; omega)| (dsimp only; omega)⟩
   ·first | omega | (simp only; omega)
  ·try simp only [cn] at h1
   refine AW.exit ?_
   simp only [thn, blk, if_true]
   refine hN1 _ ?_
   try clear hN1 N1
   refine AW.sr envOk (fun N hN => ?_)
   simp -dsimp -implicitDefEqProofs (disch := omega) only [go_sem, undef, reduceAdd, reduceSub, reduceGT, reduceEqDiff, reduceMul, w64]
   refine hN _ ?_
   try clear hN N
   refine AW.ret ?_
   simp -dsimp -implicitDefEqProofs (disch := omega) only [go_sem, undef, reduceAdd, reduceSub, reduceGT, reduceEqDiff, reduceMul]
   exact ⟨_, fun _ _ h => h, p, a1, s1, rfl, hp, ho1, rfl⟩
end Go.Proofs.Ytkmgmjajbiddbaa
