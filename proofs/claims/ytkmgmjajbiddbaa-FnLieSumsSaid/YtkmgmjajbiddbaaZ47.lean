import Derived.Test.YtkmgmjajbiddbaaZ11
import Derived.Test.YtkmgmjajbiddbaaZ46
set_option linter.unusedVariables false
set_option linter.unusedSimpArgs false
namespace Go.Proofs.Ytkmgmjajbiddbaa
open Nat (reduceAdd reduceSub reduceGT reduceEqDiff reduceMul)
theorem RgV.vw {lo m n P o : Nat} {p : Int} {q : Nat → Nat} {X : List (List Int)} {Y : List (List (List Int))} {H : HP} (h : RgV lo m n P q X Y H) : Vw H (.g [.i .i64 p, .h P 0 n, .v (n - o) ((bcl q n n).drop o)]) (ring p X (Y.drop o)) := by
  obtain ⟨h1, h2, h4, h5, h6, h7, h8⟩ := h
  refine .g _ _ rfl fun k x y hx hy => ?_
  match k, hx, hy with
  | 0, hx, hy => cases hx; cases hy; exact .refl _
  | 1, hx, hy =>
    cases hx; cases hy
    unfold rows
    rw [h2]
    exact .h P 0 n _ _ h1 (by simp [h2]) (by simp [h2]) fun k x y g1 g2 => by rw [Nat.zero_add, g2] at g1; cases g1; exact .refl _
  | 2, hx, hy =>
    cases hx; cases hy
    unfold cubes
    rw [List.length_drop, h4]
    refine .v (n - o) _ _ (by simp [h4, bcl]) fun k x y g1 g2 => ?_
    have hk : o + k < n := by have := (List.getElem?_eq_some_iff.1 g2).1; simp [h4] at this; omega
    obtain ⟨e1, e2, e3, e4⟩ := h5 (o + k) hk
    have hx1 : x = .h (q (o + k)) 0 (n - 1 - (o + k)) := by
      rw [List.getElem?_drop, bcl, List.getElem?_map, List.getElem?_range hk] at g1
      exact (Option.some.inj g1).symm
    have hy1 : y = rows (Y.getD (o + k) []) := by
      rw [List.getElem?_map, List.getElem?_drop] at g2
      rw [List.getD_eq_getElem?_getD, List.getElem?_eq_getElem (by omega)]
      rw [List.getElem?_eq_getElem (by omega)] at g2
      exact (Option.some.inj g2).symm
    subst hx1 hy1
    unfold rows
    rw [e2]
    exact .h (q (o + k)) 0 _ _ _ e1 (by simp only [List.length_map]; omega) (by simp only [List.length_map]; omega) fun k x y g1 g2 => by rw [Nat.zero_add, g2] at g1; cases g1; exact .refl _
theorem GdI.ot {bs : List Int} {nx lo m sid n P e : Nat} {q : Nat → Nat} {X : List (List Int)} {Y : List (List (List Int))} {G H : HP} {c : Option (List AV)} (h : GdI bs nx lo m sid n P q X Y G H) (he : ((nx < e ∧ e < lo) ∨ m ≤ e) ∧ e ≠ sid) : GdI bs nx lo m sid n P q X Y (upd G e c) H := by
  obtain ⟨h1, h2, ⟨a, s, h3, h3'⟩, h4, h5⟩ := h
  have hpb := h1.pb
  exact ⟨h1.keep (fun j g1 g2 => upd_ne _ _ (by omega)) (Nat.le_refl _), h2, ⟨a, s, h3, by rw [upd_ne _ _ (by omega)]; exact h3'⟩, by rw [upd_ne _ _ (by omega)]; exact h4, fun i g1 g2 => by rw [upd_ne _ _ (by omega)]; exact h5 i g1 g2⟩
theorem GdI.nxt {bs : List Int} {nx lo m sid n P : Nat} {q : Nat → Nat} {X : List (List Int)} {Y : List (List (List Int))} {G H : HP} {a s : Int} (h : GdI bs nx lo m sid n P q X Y G H) (ho : srOk bs a s) : GdI bs nx lo m sid n P q X Y (upd G sid (some (srB bs a s))) H :=
  h.tail (Nat.le_refl _) (fun _ _ => rfl) ho
theorem prd_get {x : Int} (h0 : 0 ≤ x) (h1 : x < 5) : ∃ p, ([AV.i .i64 1, AV.i .i64 4, AV.i .i64 11, AV.i .i64 7, AV.i .i64 2] : List AV).getD x.toNat .j = .i .i64 p ∧ 1 ≤ p ∧ p ≤ 11 := by
  rcases (show x = 0 ∨ x = 1 ∨ x = 2 ∨ x = 3 ∨ x = 4 by omega) with rfl | rfl | rfl | rfl | rfl
  · exact ⟨1, rfl, by omega, by omega⟩
  · exact ⟨4, rfl, by omega, by omega⟩
  · exact ⟨11, rfl, by omega, by omega⟩
  · exact ⟨7, rfl, by omega, by omega⟩
  · exact ⟨2, rfl, by omega, by omega⟩
def rgO (p : Int) (n P o : Nat) (q : Nat → Nat) : AV := .g [.i .i64 p, .h P 0 n, .v (n - o) ((bcl q n n).drop o)]
def drwK (bs : List Int) (sid nx : Nat) (H : HP) : Nat → HP → AV → Prop := fun nx' H' r => ((∃ o n p P q X Y, o ≤ 1 ∧ (1 ≤ n ∧ n ≤ 6) ∧ (-1000 ≤ p ∧ p ≤ 1000) ∧ r = rgO p n P o q ∧ RgV nx nx' n P q X Y H') ∨ r = .g [.i .i64 3, .nl, .nl]) ∧ ∃ a' s', srOk bs a' s' ∧ H' sid = some (srB bs a' s') ∧ ∀ i, i < nx → i ≠ sid → H' i = H i
set_option maxRecDepth 100000 in
set_option maxHeartbeats 4000000 in
theorem spec_l31Draw_o (bs : List Int) (a s : Int) (ho : srOk bs a s) (nx : Nat) (H : HP) (sid : Nat) (hH : H sid = some (srB bs a s)) : AC Try.prog 73 nx H [.q sid 0] (drwK bs sid nx H) := by
 refine AC.introx envOk Try.func73 rfl (by kernel_rfl) Try.ntmps73 Try.results73 (fun hfr => ?_)
 have hsn := hfr_lt hfr hH
 refine AW.sr envOk (fun N hN => ?_)
 simp -dsimp -implicitDefEqProofs (disch := omega) only [go_sem, undef, reduceAdd, reduceSub, reduceGT, reduceEqDiff, reduceMul, w64, rgH, bcV, it1, it2]
 refine hN _ ?_
 try clear hN N
 refine AW.sr envOk (fun N hN => ?_)
 simp -dsimp -implicitDefEqProofs (disch := omega) only [go_sem, undef, reduceAdd, reduceSub, reduceGT, reduceEqDiff, reduceMul, w64, rgH, bcV, it1, it2]
 refine (spec_l31Good_o bs a s ho _ _ sid ((upd_ne _ _ (by omega)).trans hH)).mono2 ?_
 rintro m1 H1 r1 hm1 ⟨n, p, P, q, X, Y, a1, s1, hn, hp, rfl, hV, ho1, hs1, hfr1⟩
 have hpb := pr4_bd hp
 try simp -dsimp -implicitDefEqProofs (disch := omega) only [go_sem, undef, reduceAdd, reduceSub, reduceGT, reduceEqDiff, reduceMul, w64, rgH, bcV, it1, it2]
 refine hN _ ?_
 try clear hN N
 refine AW.nameH (fun G hG => ?_)
 dsimp only at hG
 have hI : GdI bs nx (nx + 4) m1 sid n P q X Y G H := ⟨(hV.keep (fun j h1 h2 => by rw [← hG, upd_ne _ _ (by omega)]) (Nat.le_refl _)).lo (by omega), ⟨⟨by omega, by omega⟩, by omega⟩, ⟨a1, s1, ho1, by rw [← hG, upd_ne _ _ (by omega)]; exact hs1⟩, by rw [← hG, upd_ne _ _ (by omega)]; exact (hfr1 nx (by omega) (by omega)).trans (upd_same _ _ _), fun i g1 g2 => by rw [← hG, upd_ne _ _ (by omega)]; exact (hfr1 i (by omega) g2).trans (upd_ne _ _ (by omega))⟩
 have hb3 : G (nx + 1 + 2) = some [.i .i64 p, .h P 0 n, .v n (bcl q n n)] := by rw [← hG, upd_same]
 clear hG hV hs1 hfr1
 refine AW.sr envOk (fun N hN => ?_)
 simp -dsimp -implicitDefEqProofs (disch := omega) only [go_sem, undef, reduceAdd, reduceSub, reduceGT, reduceEqDiff, reduceMul, w64, rgH, bcV, it1, it2, hb3]
 refine hN _ ?_
 try clear hN N
 refine AW.sr envOk (fun N hN => ?_)
 simp -dsimp -implicitDefEqProofs (disch := omega) only [go_sem, undef, reduceAdd, reduceSub, reduceGT, reduceEqDiff, reduceMul, w64, rgH, bcV, it1, it2]
 obtain ⟨a2, s2, ho2, hs2⟩ := hI.src
 refine (spec_l01Next_o bs a2 s2 ho2 (n : Int) (by omega) _ _ sid hs2).mono2 ?_
 rintro m2 H2 r2 hm2 ⟨i, a3, s3, rfl, hi, ho3, rfl⟩
 obtain ⟨i, rfl⟩ : ∃ k : Nat, i = k := ⟨i.toNat, by omega⟩
 replace hI := hI.nxt ho3
 replace hb3 := (upd_ne G (some (srB bs a3 s3)) (show nx + 1 + 2 ≠ sid by omega)).trans hb3
 try simp -dsimp -implicitDefEqProofs (disch := omega) only [go_sem, undef, reduceAdd, reduceSub, reduceGT, reduceEqDiff, reduceMul, w64, rgH, bcV, it1, it2]
 refine hN _ ?_
 try clear hN N
 refine AW.seq (fun N1 hN1 => ?_)
 refine AW.sr envOk (fun N hN => ?_)
 simp -dsimp -implicitDefEqProofs (disch := omega) only [go_sem, undef, reduceAdd, reduceSub, reduceGT, reduceEqDiff, reduceMul, w64, rgH, bcV, it1, it2]
 obtain ⟨a2, s2, ho2, hs2⟩ := hI.src
 refine (spec_l01Next_o bs a2 s2 ho2 24 (by omega) _ _ sid hs2).mono2 ?_
 rintro m3 H3 r3 hm3 ⟨x, a4, s4, rfl, hx, ho4, rfl⟩
 replace hI := hI.nxt ho4
 replace hb3 := (upd_ne (upd G sid (some (srB bs a3 s3))) (some (srB bs a4 s4)) (show nx + 1 + 2 ≠ sid by omega)).trans hb3
 try simp -dsimp -implicitDefEqProofs (disch := omega) only [go_sem, undef, reduceAdd, reduceSub, reduceGT, reduceEqDiff, reduceMul, w64, rgH, bcV, it1, it2]
 refine hN _ ?_
 try clear hN N
 refine AW.block ?_
 refine AW.nameH (fun G hG => ?_)
 dsimp only at hG
 rw [upd_upd] at hI hb3
 rw [hG] at hI hb3
 clear hG
 have hpd := hI.rg.pb
 refine AW.sr envOk (fun N hN => ?_)
 simp -dsimp -implicitDefEqProofs (disch := omega) only [go_sem, undef, reduceAdd, reduceSub, reduceGT, reduceEqDiff, reduceMul, w64, rgH, bcV, it1, it2]
 refine hN _ ?_
 try clear hN N
 refine AW.cond rfl (fun h1 => ?_) (fun h1 => ?_)
 ·try simp only [cn] at h1
  refine AW.regionL envOk ?_
  simp -dsimp -implicitDefEqProofs (disch := omega) only [go_sem, undef, reduceAdd, reduceSub, reduceGT, reduceEqDiff, reduceMul, w64, rgH, bcV, it1, it2]
  obtain ⟨a2, s2, ho2, hs2⟩ := hI.src
  refine (spec_l01Next_o bs a2 s2 ho2 5 (by omega) _ _ sid ((upd_ne _ _ (by omega)).trans hs2)).mono2 ?_
  rintro m9 H9 r9 hm9 ⟨y, a8, s8, rfl, hy, ho8, rfl⟩
  obtain ⟨p', hp', hpb'⟩ := prd_get hy.1 (show y < 5 by omega)
  try simp -dsimp -implicitDefEqProofs (disch := omega) only [go_sem, undef, reduceAdd, reduceSub, reduceGT, reduceEqDiff, reduceMul, w64, rgH, bcV, it1, it2, hp', hb3]
  refine hN1 _ ?_
  try clear hN1 N1
  first| (refine AW.nameH (fun G hG => ?_); dsimp only at hG; rw [hG] at hI; (try rw [hG] at hb3))| (refine AW.nameH (fun G hG => ?_); dsimp only at hG; obtain ⟨X, hI⟩ := hI.stP (k := i) (w := w9) (by omega) (by omega); rw [hG] at hI)| (refine AW.nameH (fun G hG => ?_); dsimp only at hG; obtain ⟨Y, hI⟩ := hI.stB (k := i) (l := 0) (w := w9) (by omega) (by omega) (by omega); rw [hG] at hI)| skip
  have hbx := hI.bx
  refine AW.sr envOk (fun N hN => ?_)
  simp -dsimp -implicitDefEqProofs (disch := omega) only [go_sem, undef, reduceAdd, reduceSub, reduceGT, reduceEqDiff, reduceMul, w64, rgH, bcV, it1, it2, hbx, hb3]
  refine hN _ ?_
  try clear hN N
  refine AW.ret ?_
  simp -dsimp -implicitDefEqProofs (disch := omega) only [go_sem, undef, reduceAdd, reduceSub, reduceGT, reduceEqDiff, reduceMul]
  obtain ⟨a7, s7, ho7, hs7⟩ := hI.src
  first
  | exact ⟨_, fun _ _ h => h, .inl ⟨0, n, p, P, q, X, Y, by omega, hn, by omega, rfl, (hI.rg.keep (fun j g1 g2 => by simp (disch := omega) only [upd_ne]) (by omega)).lo (by omega)⟩, a7, s7, ho7, by simp (disch := omega) only [upd_ne]; exact hs7, fun i g1 g2 => by simp (disch := omega) only [upd_ne]; exact hI.fr i g1 g2⟩
  | exact ⟨_, fun _ _ h => h, .inl ⟨1, n, p, P, q, X, Y, by omega, hn, by omega, rfl, (hI.rg.keep (fun j g1 g2 => by simp (disch := omega) only [upd_ne]) (by omega)).lo (by omega)⟩, a7, s7, ho7, by simp (disch := omega) only [upd_ne]; exact hs7, fun i g1 g2 => by simp (disch := omega) only [upd_ne]; exact hI.fr i g1 g2⟩
  | exact ⟨_, fun _ _ h => h, .inr rfl, a7, s7, ho7, by simp (disch := omega) only [upd_ne]; exact hs7, fun i g1 g2 => by simp (disch := omega) only [upd_ne]; exact hI.fr i g1 g2⟩
  | exact ⟨_, fun _ _ h => h, .inl ⟨0, n, p', P, q, X, Y, by omega, hn, by omega, rfl, (hI.rg.keep (fun j g1 g2 => by simp (disch := omega) only [upd_ne]) (by omega)).lo (by omega)⟩, a8, s8, ho8, by simp (disch := omega) only [upd_same, upd_ne], fun i g1 g2 => by simp (disch := omega) only [upd_ne]; exact hI.fr i g1 g2⟩
 ·try simp only [cn] at h1
  refine AW.sr envOk (fun N hN => ?_)
  simp -dsimp -implicitDefEqProofs (disch := omega) only [go_sem, undef, reduceAdd, reduceSub, reduceGT, reduceEqDiff, reduceMul, w64, rgH, bcV, it1, it2]
  refine hN _ ?_
  try clear hN N
  refine AW.cond rfl (fun h2 => ?_) (fun h2 => ?_)
  ·try simp only [cn] at h2
   refine AW.freezeQ 3 (nx + 1 + 2) _ rfl hb3 ?_
   simp -dsimp -implicitDefEqProofs (disch := omega) only [go_sem, undef, reduceAdd, reduceSub, reduceGT, reduceEqDiff, reduceMul]
   refine AW.nameH (fun G hG => ?_)
   dsimp only at hG
   replace hI := hI.ot (e := nx + 1 + 2) (c := none) ⟨.inl (by omega), by omega⟩
   rw [hG] at hI
   clear hG
   have hGP := hI.rg.hp
   have hXl := hI.rg.xl
   obtain ⟨hGq, hYl, hqm, hqP⟩ := hI.rg.hq i (by omega)
   refine AW.drawF envOk (by kernel_rfl) [true, true, true, true, true, true, true, false, true, false] (by kernel_rfl) ?_
   simp -dsimp -implicitDefEqProofs (disch := omega) only [go_sem, undef, reduceAdd, reduceSub, reduceGT, reduceEqDiff, reduceMul, w64, rgH, bcV, it1, it2, hGP, hXl]
   obtain ⟨a9, s9, ho9, hs9⟩ := hI.src
   refine (spec_l31Tail_z bs a9 s9 ho9 p (by omega) n P (bcV q n) one_bcV hn.2 ((i : Int) + 1) (by omega) (by omega) _ _ sid hs9).mono2 ?_
   rintro m9 H9 r9 hm9 ⟨w9, a8, s8, rfl, hw9, ho8, hf9⟩
   replace hI := hI.tail (by omega) hf9 ho8
   have hGP := hI.rg.hp
   have hXl := hI.rg.xl
   obtain ⟨hGq, hYl, hqm, hqP⟩ := hI.rg.hq i (by omega)
   try simp -dsimp -implicitDefEqProofs (disch := omega) only [go_sem, undef, reduceAdd, reduceSub, reduceGT, reduceEqDiff, reduceMul, w64, rgH, bcV, it1, it2, hGP, hXl, hGq, hYl]
   refine hN1 _ ?_
   try clear hN1 N1
   first| (refine AW.nameH (fun G hG => ?_); dsimp only at hG; rw [hG] at hI; (try rw [hG] at hb3))| (refine AW.nameH (fun G hG => ?_); dsimp only at hG; obtain ⟨X, hI⟩ := hI.stP (k := i) (w := w9) (by omega) (by omega); rw [hG] at hI)| (refine AW.nameH (fun G hG => ?_); dsimp only at hG; obtain ⟨Y, hI⟩ := hI.stB (k := i) (l := 0) (w := w9) (by omega) (by omega) (by omega); rw [hG] at hI)| skip
   have hbx := hI.bx
   refine AW.sr envOk (fun N hN => ?_)
   simp -dsimp -implicitDefEqProofs (disch := omega) only [go_sem, undef, reduceAdd, reduceSub, reduceGT, reduceEqDiff, reduceMul, w64, rgH, bcV, it1, it2, hbx, hb3]
   refine hN _ ?_
   try clear hN N
   refine AW.ret ?_
   simp -dsimp -implicitDefEqProofs (disch := omega) only [go_sem, undef, reduceAdd, reduceSub, reduceGT, reduceEqDiff, reduceMul]
   obtain ⟨a7, s7, ho7, hs7⟩ := hI.src
   first
   | exact ⟨_, fun _ _ h => h, .inl ⟨0, n, p, P, q, X, Y, by omega, hn, by omega, rfl, (hI.rg.keep (fun j g1 g2 => by simp (disch := omega) only [upd_ne]) (by omega)).lo (by omega)⟩, a7, s7, ho7, by simp (disch := omega) only [upd_ne]; exact hs7, fun i g1 g2 => by simp (disch := omega) only [upd_ne]; exact hI.fr i g1 g2⟩
   | exact ⟨_, fun _ _ h => h, .inl ⟨1, n, p, P, q, X, Y, by omega, hn, by omega, rfl, (hI.rg.keep (fun j g1 g2 => by simp (disch := omega) only [upd_ne]) (by omega)).lo (by omega)⟩, a7, s7, ho7, by simp (disch := omega) only [upd_ne]; exact hs7, fun i g1 g2 => by simp (disch := omega) only [upd_ne]; exact hI.fr i g1 g2⟩
   | exact ⟨_, fun _ _ h => h, .inr rfl, a7, s7, ho7, by simp (disch := omega) only [upd_ne]; exact hs7, fun i g1 g2 => by simp (disch := omega) only [upd_ne]; exact hI.fr i g1 g2⟩
   | exact ⟨_, fun _ _ h => h, .inl ⟨0, n, p', P, q, X, Y, by omega, hn, by omega, rfl, (hI.rg.keep (fun j g1 g2 => by simp (disch := omega) only [upd_ne]) (by omega)).lo (by omega)⟩, a8, s8, ho8, by simp (disch := omega) only [upd_same, upd_ne], fun i g1 g2 => by simp (disch := omega) only [upd_ne]; exact hI.fr i g1 g2⟩
  ·try simp only [cn] at h2
   refine AW.sr envOk (fun N hN => ?_)
   simp -dsimp -implicitDefEqProofs (disch := omega) only [go_sem, undef, reduceAdd, reduceSub, reduceGT, reduceEqDiff, reduceMul, w64, rgH, bcV, it1, it2]
   refine hN _ ?_
   try clear hN N
   refine AW.cond rfl (fun h3 => ?_) (fun h3 => ?_)
   ·try simp only [cn] at h3
    refine AW.freezeQ 3 (nx + 1 + 2) _ rfl hb3 ?_
    simp -dsimp -implicitDefEqProofs (disch := omega) only [go_sem, undef, reduceAdd, reduceSub, reduceGT, reduceEqDiff, reduceMul]
    refine AW.nameH (fun G hG => ?_)
    dsimp only at hG
    replace hI := hI.ot (e := nx + 1 + 2) (c := none) ⟨.inl (by omega), by omega⟩
    rw [hG] at hI
    clear hG
    have hGP := hI.rg.hp
    have hXl := hI.rg.xl
    obtain ⟨hGq, hYl, hqm, hqP⟩ := hI.rg.hq i (by omega)
    refine AW.drawF envOk (by kernel_rfl) [true, true, true, true, true, true, false, true, false] (by kernel_rfl) ?_
    simp -dsimp -implicitDefEqProofs (disch := omega) only [go_sem, undef, reduceAdd, reduceSub, reduceGT, reduceEqDiff, reduceMul, w64, rgH, bcV, it1, it2, hGP, hXl]
    obtain ⟨a9, s9, ho9, hs9⟩ := hI.src
    refine (spec_l31Tail_z bs a9 s9 ho9 p (by omega) n P (bcV q n) one_bcV hn.2 (i : Int) (by omega) (by omega) _ _ sid hs9).mono2 ?_
    rintro m9 H9 r9 hm9 ⟨w9, a8, s8, rfl, hw9, ho8, hf9⟩
    replace hI := hI.tail (by omega) hf9 ho8
    have hGP := hI.rg.hp
    have hXl := hI.rg.xl
    obtain ⟨hGq, hYl, hqm, hqP⟩ := hI.rg.hq i (by omega)
    try simp -dsimp -implicitDefEqProofs (disch := omega) only [go_sem, undef, reduceAdd, reduceSub, reduceGT, reduceEqDiff, reduceMul, w64, rgH, bcV, it1, it2, hGP, hXl, hGq, hYl]
    refine hN1 _ ?_
    try clear hN1 N1
    first| (refine AW.nameH (fun G hG => ?_); dsimp only at hG; rw [hG] at hI; (try rw [hG] at hb3))| (refine AW.nameH (fun G hG => ?_); dsimp only at hG; obtain ⟨X, hI⟩ := hI.stP (k := i) (w := w9) (by omega) (by omega); rw [hG] at hI)| (refine AW.nameH (fun G hG => ?_); dsimp only at hG; obtain ⟨Y, hI⟩ := hI.stB (k := i) (l := 0) (w := w9) (by omega) (by omega) (by omega); rw [hG] at hI)| skip
    have hbx := hI.bx
    refine AW.sr envOk (fun N hN => ?_)
    simp -dsimp -implicitDefEqProofs (disch := omega) only [go_sem, undef, reduceAdd, reduceSub, reduceGT, reduceEqDiff, reduceMul, w64, rgH, bcV, it1, it2, hbx, hb3]
    refine hN _ ?_
    try clear hN N
    refine AW.ret ?_
    simp -dsimp -implicitDefEqProofs (disch := omega) only [go_sem, undef, reduceAdd, reduceSub, reduceGT, reduceEqDiff, reduceMul]
    obtain ⟨a7, s7, ho7, hs7⟩ := hI.src
    first
    | exact ⟨_, fun _ _ h => h, .inl ⟨0, n, p, P, q, X, Y, by omega, hn, by omega, rfl, (hI.rg.keep (fun j g1 g2 => by simp (disch := omega) only [upd_ne]) (by omega)).lo (by omega)⟩, a7, s7, ho7, by simp (disch := omega) only [upd_ne]; exact hs7, fun i g1 g2 => by simp (disch := omega) only [upd_ne]; exact hI.fr i g1 g2⟩
    | exact ⟨_, fun _ _ h => h, .inl ⟨1, n, p, P, q, X, Y, by omega, hn, by omega, rfl, (hI.rg.keep (fun j g1 g2 => by simp (disch := omega) only [upd_ne]) (by omega)).lo (by omega)⟩, a7, s7, ho7, by simp (disch := omega) only [upd_ne]; exact hs7, fun i g1 g2 => by simp (disch := omega) only [upd_ne]; exact hI.fr i g1 g2⟩
    | exact ⟨_, fun _ _ h => h, .inr rfl, a7, s7, ho7, by simp (disch := omega) only [upd_ne]; exact hs7, fun i g1 g2 => by simp (disch := omega) only [upd_ne]; exact hI.fr i g1 g2⟩
    | exact ⟨_, fun _ _ h => h, .inl ⟨0, n, p', P, q, X, Y, by omega, hn, by omega, rfl, (hI.rg.keep (fun j g1 g2 => by simp (disch := omega) only [upd_ne]) (by omega)).lo (by omega)⟩, a8, s8, ho8, by simp (disch := omega) only [upd_same, upd_ne], fun i g1 g2 => by simp (disch := omega) only [upd_ne]; exact hI.fr i g1 g2⟩
   ·try simp only [cn] at h3
    refine AW.sr envOk (fun N hN => ?_)
    simp -dsimp -implicitDefEqProofs (disch := omega) only [go_sem, undef, reduceAdd, reduceSub, reduceGT, reduceEqDiff, reduceMul, w64, rgH, bcV, it1, it2]
    refine hN _ ?_
    try clear hN N
    refine AW.cond rfl (fun h4 => ?_) (fun h4 => ?_)
    ·try simp only [cn] at h4
     refine AW.freezeQ 3 (nx + 1 + 2) _ rfl hb3 ?_
     simp -dsimp -implicitDefEqProofs (disch := omega) only [go_sem, undef, reduceAdd, reduceSub, reduceGT, reduceEqDiff, reduceMul]
     refine AW.nameH (fun G hG => ?_)
     dsimp only at hG
     replace hI := hI.ot (e := nx + 1 + 2) (c := none) ⟨.inl (by omega), by omega⟩
     rw [hG] at hI
     clear hG
     have hGP := hI.rg.hp
     have hXl := hI.rg.xl
     obtain ⟨hGq, hYl, hqm, hqP⟩ := hI.rg.hq i (by omega)
     refine AW.sr envOk (fun N hN => ?_)
     simp -dsimp -implicitDefEqProofs (disch := omega) only [go_sem, undef, reduceAdd, reduceSub, reduceGT, reduceEqDiff, reduceMul, w64, rgH, bcV, it1, it2, hGq, hYl]
     refine hN _ ?_
     try clear hN N
     refine AW.cond rfl (fun h5 => ?_) (fun h5 => ?_)
     ·try simp only [cn] at h5
      refine AW.drawF envOk (by kernel_rfl) [true, true, true, true, true, true, true, true, true, false, true, false] (by kernel_rfl) ?_
      simp -dsimp -implicitDefEqProofs (disch := omega) only [go_sem, undef, reduceAdd, reduceSub, reduceGT, reduceEqDiff, reduceMul, w64, rgH, bcV, it1, it2, hGq, hYl]
      obtain ⟨a9, s9, ho9, hs9⟩ := hI.src
      refine (spec_l31Tail_z bs a9 s9 ho9 p (by omega) n P (bcV q n) one_bcV hn.2 ((i : Int) + 2) (by omega) (by omega) _ _ sid hs9).mono2 ?_
      rintro m9 H9 r9 hm9 ⟨w9, a8, s8, rfl, hw9, ho8, hf9⟩
      replace hI := hI.tail (by omega) hf9 ho8
      have hGP := hI.rg.hp
      have hXl := hI.rg.xl
      obtain ⟨hGq, hYl, hqm, hqP⟩ := hI.rg.hq i (by omega)
      try simp -dsimp -implicitDefEqProofs (disch := omega) only [go_sem, undef, reduceAdd, reduceSub, reduceGT, reduceEqDiff, reduceMul, w64, rgH, bcV, it1, it2, hGP, hXl, hGq, hYl]
      refine hN1 _ ?_
      try clear hN1 N1
      first| (refine AW.nameH (fun G hG => ?_); dsimp only at hG; rw [hG] at hI; (try rw [hG] at hb3))| (refine AW.nameH (fun G hG => ?_); dsimp only at hG; obtain ⟨X, hI⟩ := hI.stP (k := i) (w := w9) (by omega) (by omega); rw [hG] at hI)| (refine AW.nameH (fun G hG => ?_); dsimp only at hG; obtain ⟨Y, hI⟩ := hI.stB (k := i) (l := 0) (w := w9) (by omega) (by omega) (by omega); rw [hG] at hI)| skip
      have hbx := hI.bx
      refine AW.sr envOk (fun N hN => ?_)
      simp -dsimp -implicitDefEqProofs (disch := omega) only [go_sem, undef, reduceAdd, reduceSub, reduceGT, reduceEqDiff, reduceMul, w64, rgH, bcV, it1, it2, hbx, hb3]
      refine hN _ ?_
      try clear hN N
      refine AW.ret ?_
      simp -dsimp -implicitDefEqProofs (disch := omega) only [go_sem, undef, reduceAdd, reduceSub, reduceGT, reduceEqDiff, reduceMul]
      obtain ⟨a7, s7, ho7, hs7⟩ := hI.src
      first
      | exact ⟨_, fun _ _ h => h, .inl ⟨0, n, p, P, q, X, Y, by omega, hn, by omega, rfl, (hI.rg.keep (fun j g1 g2 => by simp (disch := omega) only [upd_ne]) (by omega)).lo (by omega)⟩, a7, s7, ho7, by simp (disch := omega) only [upd_ne]; exact hs7, fun i g1 g2 => by simp (disch := omega) only [upd_ne]; exact hI.fr i g1 g2⟩
      | exact ⟨_, fun _ _ h => h, .inl ⟨1, n, p, P, q, X, Y, by omega, hn, by omega, rfl, (hI.rg.keep (fun j g1 g2 => by simp (disch := omega) only [upd_ne]) (by omega)).lo (by omega)⟩, a7, s7, ho7, by simp (disch := omega) only [upd_ne]; exact hs7, fun i g1 g2 => by simp (disch := omega) only [upd_ne]; exact hI.fr i g1 g2⟩
      | exact ⟨_, fun _ _ h => h, .inr rfl, a7, s7, ho7, by simp (disch := omega) only [upd_ne]; exact hs7, fun i g1 g2 => by simp (disch := omega) only [upd_ne]; exact hI.fr i g1 g2⟩
      | exact ⟨_, fun _ _ h => h, .inl ⟨0, n, p', P, q, X, Y, by omega, hn, by omega, rfl, (hI.rg.keep (fun j g1 g2 => by simp (disch := omega) only [upd_ne]) (by omega)).lo (by omega)⟩, a8, s8, ho8, by simp (disch := omega) only [upd_same, upd_ne], fun i g1 g2 => by simp (disch := omega) only [upd_ne]; exact hI.fr i g1 g2⟩
     ·try simp only [cn] at h5
      refine AW.skip ?_
      simp only [thn, blk]
      refine hN1 _ ?_
      try clear hN1 N1
      first| (refine AW.nameH (fun G hG => ?_); dsimp only at hG; rw [hG] at hI; (try rw [hG] at hb3))| (refine AW.nameH (fun G hG => ?_); dsimp only at hG; obtain ⟨X, hI⟩ := hI.stP (k := i) (w := w9) (by omega) (by omega); rw [hG] at hI)| (refine AW.nameH (fun G hG => ?_); dsimp only at hG; obtain ⟨Y, hI⟩ := hI.stB (k := i) (l := 0) (w := w9) (by omega) (by omega) (by omega); rw [hG] at hI)| skip
      have hbx := hI.bx
      refine AW.sr envOk (fun N hN => ?_)
      simp -dsimp -implicitDefEqProofs (disch := omega) only [go_sem, undef, reduceAdd, reduceSub, reduceGT, reduceEqDiff, reduceMul, w64, rgH, bcV, it1, it2, hbx, hb3]
      refine hN _ ?_
      try clear hN N
      refine AW.ret ?_
      simp -dsimp -implicitDefEqProofs (disch := omega) only [go_sem, undef, reduceAdd, reduceSub, reduceGT, reduceEqDiff, reduceMul]
      obtain ⟨a7, s7, ho7, hs7⟩ := hI.src
      first
      | exact ⟨_, fun _ _ h => h, .inl ⟨0, n, p, P, q, X, Y, by omega, hn, by omega, rfl, (hI.rg.keep (fun j g1 g2 => by simp (disch := omega) only [upd_ne]) (by omega)).lo (by omega)⟩, a7, s7, ho7, by simp (disch := omega) only [upd_ne]; exact hs7, fun i g1 g2 => by simp (disch := omega) only [upd_ne]; exact hI.fr i g1 g2⟩
      | exact ⟨_, fun _ _ h => h, .inl ⟨1, n, p, P, q, X, Y, by omega, hn, by omega, rfl, (hI.rg.keep (fun j g1 g2 => by simp (disch := omega) only [upd_ne]) (by omega)).lo (by omega)⟩, a7, s7, ho7, by simp (disch := omega) only [upd_ne]; exact hs7, fun i g1 g2 => by simp (disch := omega) only [upd_ne]; exact hI.fr i g1 g2⟩
      | exact ⟨_, fun _ _ h => h, .inr rfl, a7, s7, ho7, by simp (disch := omega) only [upd_ne]; exact hs7, fun i g1 g2 => by simp (disch := omega) only [upd_ne]; exact hI.fr i g1 g2⟩
      | exact ⟨_, fun _ _ h => h, .inl ⟨0, n, p', P, q, X, Y, by omega, hn, by omega, rfl, (hI.rg.keep (fun j g1 g2 => by simp (disch := omega) only [upd_ne]) (by omega)).lo (by omega)⟩, a8, s8, ho8, by simp (disch := omega) only [upd_same, upd_ne], fun i g1 g2 => by simp (disch := omega) only [upd_ne]; exact hI.fr i g1 g2⟩
    ·try simp only [cn] at h4
     refine AW.sr envOk (fun N hN => ?_)
     simp -dsimp -implicitDefEqProofs (disch := omega) only [go_sem, undef, reduceAdd, reduceSub, reduceGT, reduceEqDiff, reduceMul, w64, rgH, bcV, it1, it2]
     refine hN _ ?_
     try clear hN N
     refine AW.cond rfl (fun h6 => ?_) (fun h6 => ?_)
     ·try simp only [cn] at h6
      have htk : List.take (n - 1) (List.drop 1 (bcl q n n)) = List.drop 1 (bcl q n n) := List.take_of_length_le (by rw [List.length_drop, bcl_len]; omega)
      refine AW.regionL envOk ?_
      simp -dsimp -implicitDefEqProofs (disch := omega) only [go_sem, undef, reduceAdd, reduceSub, reduceGT, reduceEqDiff, reduceMul, w64, rgH, bcV, it1, it2, hb3, htk]
      refine hN1 _ ?_
      try clear hN1 N1
      first| (refine AW.nameH (fun G hG => ?_); dsimp only at hG; rw [hG] at hI; (try rw [hG] at hb3))| (refine AW.nameH (fun G hG => ?_); dsimp only at hG; obtain ⟨X, hI⟩ := hI.stP (k := i) (w := w9) (by omega) (by omega); rw [hG] at hI)| (refine AW.nameH (fun G hG => ?_); dsimp only at hG; obtain ⟨Y, hI⟩ := hI.stB (k := i) (l := 0) (w := w9) (by omega) (by omega) (by omega); rw [hG] at hI)| skip
      have hbx := hI.bx
      refine AW.sr envOk (fun N hN => ?_)
      simp -dsimp -implicitDefEqProofs (disch := omega) only [go_sem, undef, reduceAdd, reduceSub, reduceGT, reduceEqDiff, reduceMul, w64, rgH, bcV, it1, it2, hbx, hb3]
      refine hN _ ?_
      try clear hN N
      refine AW.ret ?_
      simp -dsimp -implicitDefEqProofs (disch := omega) only [go_sem, undef, reduceAdd, reduceSub, reduceGT, reduceEqDiff, reduceMul]
      obtain ⟨a7, s7, ho7, hs7⟩ := hI.src
      first
      | exact ⟨_, fun _ _ h => h, .inl ⟨0, n, p, P, q, X, Y, by omega, hn, by omega, rfl, (hI.rg.keep (fun j g1 g2 => by simp (disch := omega) only [upd_ne]) (by omega)).lo (by omega)⟩, a7, s7, ho7, by simp (disch := omega) only [upd_ne]; exact hs7, fun i g1 g2 => by simp (disch := omega) only [upd_ne]; exact hI.fr i g1 g2⟩
      | exact ⟨_, fun _ _ h => h, .inl ⟨1, n, p, P, q, X, Y, by omega, hn, by omega, rfl, (hI.rg.keep (fun j g1 g2 => by simp (disch := omega) only [upd_ne]) (by omega)).lo (by omega)⟩, a7, s7, ho7, by simp (disch := omega) only [upd_ne]; exact hs7, fun i g1 g2 => by simp (disch := omega) only [upd_ne]; exact hI.fr i g1 g2⟩
      | exact ⟨_, fun _ _ h => h, .inr rfl, a7, s7, ho7, by simp (disch := omega) only [upd_ne]; exact hs7, fun i g1 g2 => by simp (disch := omega) only [upd_ne]; exact hI.fr i g1 g2⟩
      | exact ⟨_, fun _ _ h => h, .inl ⟨0, n, p', P, q, X, Y, by omega, hn, by omega, rfl, (hI.rg.keep (fun j g1 g2 => by simp (disch := omega) only [upd_ne]) (by omega)).lo (by omega)⟩, a8, s8, ho8, by simp (disch := omega) only [upd_same, upd_ne], fun i g1 g2 => by simp (disch := omega) only [upd_ne]; exact hI.fr i g1 g2⟩
     ·try simp only [cn] at h6
      refine AW.sr envOk (fun N hN => ?_)
      simp -dsimp -implicitDefEqProofs (disch := omega) only [go_sem, undef, reduceAdd, reduceSub, reduceGT, reduceEqDiff, reduceMul, w64, rgH, bcV, it1, it2]
      refine hN _ ?_
      try clear hN N
      refine AW.cond rfl (fun h7 => ?_) (fun h7 => ?_)
      ·try simp only [cn] at h7
       refine AW.regionL envOk ?_
       simp -dsimp -implicitDefEqProofs (disch := omega) only [go_sem, undef, reduceAdd, reduceSub, reduceGT, reduceEqDiff, reduceMul, w64, rgH, bcV, it1, it2, hb3]
       refine hN1 _ ?_
       try clear hN1 N1
       first| (refine AW.nameH (fun G hG => ?_); dsimp only at hG; rw [hG] at hI; (try rw [hG] at hb3))| (refine AW.nameH (fun G hG => ?_); dsimp only at hG; obtain ⟨X, hI⟩ := hI.stP (k := i) (w := w9) (by omega) (by omega); rw [hG] at hI)| (refine AW.nameH (fun G hG => ?_); dsimp only at hG; obtain ⟨Y, hI⟩ := hI.stB (k := i) (l := 0) (w := w9) (by omega) (by omega) (by omega); rw [hG] at hI)| skip
       have hbx := hI.bx
       refine AW.sr envOk (fun N hN => ?_)
       simp -dsimp -implicitDefEqProofs (disch := omega) only [go_sem, undef, reduceAdd, reduceSub, reduceGT, reduceEqDiff, reduceMul, w64, rgH, bcV, it1, it2, hbx, hb3]
       refine hN _ ?_
       try clear hN N
       refine AW.ret ?_
       simp -dsimp -implicitDefEqProofs (disch := omega) only [go_sem, undef, reduceAdd, reduceSub, reduceGT, reduceEqDiff, reduceMul]
       obtain ⟨a7, s7, ho7, hs7⟩ := hI.src
       first
       | exact ⟨_, fun _ _ h => h, .inl ⟨0, n, p, P, q, X, Y, by omega, hn, by omega, rfl, (hI.rg.keep (fun j g1 g2 => by simp (disch := omega) only [upd_ne]) (by omega)).lo (by omega)⟩, a7, s7, ho7, by simp (disch := omega) only [upd_ne]; exact hs7, fun i g1 g2 => by simp (disch := omega) only [upd_ne]; exact hI.fr i g1 g2⟩
       | exact ⟨_, fun _ _ h => h, .inl ⟨1, n, p, P, q, X, Y, by omega, hn, by omega, rfl, (hI.rg.keep (fun j g1 g2 => by simp (disch := omega) only [upd_ne]) (by omega)).lo (by omega)⟩, a7, s7, ho7, by simp (disch := omega) only [upd_ne]; exact hs7, fun i g1 g2 => by simp (disch := omega) only [upd_ne]; exact hI.fr i g1 g2⟩
       | exact ⟨_, fun _ _ h => h, .inr rfl, a7, s7, ho7, by simp (disch := omega) only [upd_ne]; exact hs7, fun i g1 g2 => by simp (disch := omega) only [upd_ne]; exact hI.fr i g1 g2⟩
       | exact ⟨_, fun _ _ h => h, .inl ⟨0, n, p', P, q, X, Y, by omega, hn, by omega, rfl, (hI.rg.keep (fun j g1 g2 => by simp (disch := omega) only [upd_ne]) (by omega)).lo (by omega)⟩, a8, s8, ho8, by simp (disch := omega) only [upd_same, upd_ne], fun i g1 g2 => by simp (disch := omega) only [upd_ne]; exact hI.fr i g1 g2⟩
      ·try simp only [cn] at h7
       refine AW.skip ?_
       simp only [thn, blk]
       refine hN1 _ ?_
       try clear hN1 N1
       first| (refine AW.nameH (fun G hG => ?_); dsimp only at hG; rw [hG] at hI; (try rw [hG] at hb3))| (refine AW.nameH (fun G hG => ?_); dsimp only at hG; obtain ⟨X, hI⟩ := hI.stP (k := i) (w := w9) (by omega) (by omega); rw [hG] at hI)| (refine AW.nameH (fun G hG => ?_); dsimp only at hG; obtain ⟨Y, hI⟩ := hI.stB (k := i) (l := 0) (w := w9) (by omega) (by omega) (by omega); rw [hG] at hI)| skip
       have hbx := hI.bx
       refine AW.sr envOk (fun N hN => ?_)
       simp -dsimp -implicitDefEqProofs (disch := omega) only [go_sem, undef, reduceAdd, reduceSub, reduceGT, reduceEqDiff, reduceMul, w64, rgH, bcV, it1, it2, hbx, hb3]
       refine hN _ ?_
       try clear hN N
       refine AW.ret ?_
       simp -dsimp -implicitDefEqProofs (disch := omega) only [go_sem, undef, reduceAdd, reduceSub, reduceGT, reduceEqDiff, reduceMul]
       obtain ⟨a7, s7, ho7, hs7⟩ := hI.src
       first
       | exact ⟨_, fun _ _ h => h, .inl ⟨0, n, p, P, q, X, Y, by omega, hn, by omega, rfl, (hI.rg.keep (fun j g1 g2 => by simp (disch := omega) only [upd_ne]) (by omega)).lo (by omega)⟩, a7, s7, ho7, by simp (disch := omega) only [upd_ne]; exact hs7, fun i g1 g2 => by simp (disch := omega) only [upd_ne]; exact hI.fr i g1 g2⟩
       | exact ⟨_, fun _ _ h => h, .inl ⟨1, n, p, P, q, X, Y, by omega, hn, by omega, rfl, (hI.rg.keep (fun j g1 g2 => by simp (disch := omega) only [upd_ne]) (by omega)).lo (by omega)⟩, a7, s7, ho7, by simp (disch := omega) only [upd_ne]; exact hs7, fun i g1 g2 => by simp (disch := omega) only [upd_ne]; exact hI.fr i g1 g2⟩
       | exact ⟨_, fun _ _ h => h, .inr rfl, a7, s7, ho7, by simp (disch := omega) only [upd_ne]; exact hs7, fun i g1 g2 => by simp (disch := omega) only [upd_ne]; exact hI.fr i g1 g2⟩
       | exact ⟨_, fun _ _ h => h, .inl ⟨0, n, p', P, q, X, Y, by omega, hn, by omega, rfl, (hI.rg.keep (fun j g1 g2 => by simp (disch := omega) only [upd_ne]) (by omega)).lo (by omega)⟩, a8, s8, ho8, by simp (disch := omega) only [upd_same, upd_ne], fun i g1 g2 => by simp (disch := omega) only [upd_ne]; exact hI.fr i g1 g2⟩
end Go.Proofs.Ytkmgmjajbiddbaa
