import Derived.Test.YtkmgmjajbiddbaaZ45
set_option linter.unusedVariables false
set_option linter.unusedSimpArgs false
namespace Go.Proofs.Ytkmgmjajbiddbaa
open Nat (reduceAdd reduceSub reduceGT reduceEqDiff reduceMul)
structure RgV (lo m n P : Nat) (q : Nat → Nat) (X : List (List Int)) (Y : List (List (List Int))) (H : HP) : Prop where
  hp : H P = some (X.map ints)
  xl : X.length = n
  yl : Y.length = n
  hq : ∀ k, k < n → H (q k) = some ((Y.getD k []).map ints) ∧ (Y.getD k []).length = n - 1 - k ∧ (lo ≤ q k ∧ q k < m) ∧ q k ≠ P
  inj : ∀ j k, j < n → k < n → q j = q k → j = k
  pb : lo ≤ P ∧ P < m
  le : (∀ x ∈ X, x.length ≤ 6) ∧ ∀ y ∈ Y, ∀ x ∈ y, x.length ≤ 6
theorem RgD.v {lo m n P B : Nat} {q : Nat → Nat} {X : List (List Int)} {Y : List (List (List Int))} {H H' : HP} (h : RgD lo m n n P B q X Y H) (hk : ∀ j, lo ≤ j → j < m → j ≠ B → H' j = H j) : RgV lo m n P q X Y H' := by
  obtain ⟨h1, h2, h3, h4, h5, h6, h7, h8⟩ := h
  refine ⟨(hk P h7.1.1 h7.1.2 h7.2.2).trans h1, h2, h4, fun k hi => ?_, h6, h7.1, h8⟩
  obtain ⟨g1, g2, g3, g4, g5⟩ := h5 k hi
  exact ⟨(hk _ g3.1 g3.2 g5).trans g1, g2, g3, g4⟩
theorem RgV.keep {lo m m' n P : Nat} {q : Nat → Nat} {X : List (List Int)} {Y : List (List (List Int))} {H H' : HP} (h : RgV lo m n P q X Y H) (hk : ∀ j, lo ≤ j → j < m → H' j = H j) (hm : m ≤ m') : RgV lo m' n P q X Y H' := by
  obtain ⟨h1, h2, h4, h5, h6, h7, h8⟩ := h
  refine ⟨(hk P h7.1 h7.2).trans h1, h2, h4, fun k hi => ?_, h6, by omega, h8⟩
  obtain ⟨g1, g2, g3, g4⟩ := h5 k hi
  exact ⟨(hk _ g3.1 g3.2).trans g1, g2, by omega, g4⟩
theorem RgV.lo {lo lo' m n P : Nat} {q : Nat → Nat} {X : List (List Int)} {Y : List (List (List Int))} {H : HP} (h : RgV lo' m n P q X Y H) (hl : lo ≤ lo') : RgV lo m n P q X Y H := by
  obtain ⟨h1, h2, h4, h5, h6, h7, h8⟩ := h
  refine ⟨h1, h2, h4, fun k hi => ?_, h6, by omega, h8⟩
  obtain ⟨g1, g2, g3, g4⟩ := h5 k hi
  exact ⟨g1, g2, by omega, g4⟩
theorem RgV.setP {lo m n P k : Nat} {q : Nat → Nat} {X : List (List Int)} {Y : List (List (List Int))} {H H' : HP} {w : List Int} (h : RgV lo m n P q X Y H) (hk : ∀ j, lo ≤ j → j < m → j ≠ P → H' j = H j) (hP : H' P = some ((X.set k w).map ints)) (hw : w.length ≤ 6) : RgV lo m n P q (X.set k w) Y H' := by
  obtain ⟨h1, h2, h4, h5, h6, h7, h8⟩ := h
  refine ⟨hP, by simp [h2], h4, fun k hi => ?_, h6, h7, set_le h8.1 hw, h8.2⟩
  obtain ⟨g1, g2, g3, g4⟩ := h5 k hi
  exact ⟨(hk _ g3.1 g3.2 g4).trans g1, g2, g3, g4⟩
theorem RgV.setB {lo m n P k l : Nat} {q : Nat → Nat} {X : List (List Int)} {Y : List (List (List Int))} {H H' : HP} {w : List Int} (h : RgV lo m n P q X Y H) (hki : k < n) (hk : ∀ j, lo ≤ j → j < m → j ≠ q k → H' j = H j) (hB : H' (q k) = some (((Y.getD k []).set l w).map ints)) (hw : w.length ≤ 6) : RgV lo m n P q X (Y.set k ((Y.getD k []).set l w)) H' := by
  obtain ⟨h1, h2, h4, h5, h6, h7, h8⟩ := h
  obtain ⟨e1, e2, e3, e4⟩ := h5 k hki
  refine ⟨(hk P h7.1 h7.2 (by omega)).trans h1, h2, by simp [h4], fun j hj => ?_, h6, h7, h8.1, set_le h8.2 (set_le (getDY_le h8.2 k) hw)⟩
  obtain ⟨g1, g2, g3, g4⟩ := h5 j hj
  by_cases e : j = k
  · subst e
    have : (Y.set j ((Y.getD j []).set l w)).getD j [] = (Y.getD j []).set l w := by simp [List.getD_eq_getElem?_getD, h4, hj]
    rw [this]
    exact ⟨hB, by simpa using e2, g3, g4⟩
  · have : (Y.set k ((Y.getD k []).set l w)).getD j [] = Y.getD j [] := by
      rw [List.getD_eq_getElem?_getD, List.getElem?_set_ne (by omega), ← List.getD_eq_getElem?_getD]
    rw [this]
    exact ⟨(hk _ g3.1 g3.2 (fun e9 => e (h6 j k hj hki e9))).trans g1, g2, g3, g4⟩
def bcV (q : Nat → Nat) (n : Nat) : AV := .v n (bcl q n n)
theorem one_bcV {q : Nat → Nat} {n : Nat} : one (bcV q n) = true := rfl
theorem RgV.fz {lo m n P o : Nat} {p : Int} {q : Nat → Nat} {X : List (List Int)} {Y : List (List (List Int))} {H : HP} (h : RgV lo m n P q X Y H) : ∃ H2, FzH H H2 ∧ Fz H H2 (.g [.i .i64 p, .h P 0 n, .v (n - o) ((bcl q n n).drop o)]) (ring p X (Y.drop o)) ∧ ∀ j, j < lo → H2 j = H j := by
  obtain ⟨h1, h2, h4, h5, h6, h7, h8⟩ := h
  let H2 : HP := fun j => if j < lo then H j else none
  have hn : ∀ j, lo ≤ j → H2 j = none := fun j hj => by simp only [H2]; rw [if_neg (by omega)]
  refine ⟨H2, fun j cs hj => ?_, ?_, fun j hj => by simp only [H2, hj, if_true]⟩
  · by_cases e : j < lo
    · simp only [H2, e, if_true] at hj
      exact ⟨cs, hj, rfl, fun k x y h1 h2 => by rw [h1] at h2; cases h2; exact .refl _⟩
    · rw [hn j (by omega)] at hj; cases hj
  · refine .g _ _ rfl fun k x y hx hy => ?_
    match k, hx, hy with
    | 0, hx, hy => cases hx; cases hy; exact .refl _
    | 1, hx, hy =>
      cases hx; cases hy
      unfold rows
      rw [h2]
      exact .h P 0 n _ _ h1 (hn P h7.1) (by simp [h2]) (by simp [h2]) fun k x y g1 g2 => by rw [Nat.zero_add, g2] at g1; cases g1; exact .refl _
    | 2, hx, hy =>
      cases hx; cases hy
      unfold cubes
      rw [List.length_drop, h4]
      refine .v (n - o) _ _ (by simp [h4, bcl]) fun k x y g1 g2 => ?_
      have hk : o + k < n := by have := (List.getElem?_eq_some_iff.1 g2).1; simp [h4] at this; omega
      obtain ⟨e1, e2, e3, e4⟩ := h5 (o + k) hk
      have hx1 : x = .h (q (o + k)) 0 (n - 1 - (o + k)) := by
        rw [List.getElem?_drop, bcl, List.getElem?_map, List.getElem?_range hk] at g1
        exact (Option.some.inj g1).symm
      have hy1 : y = rows (Y.getD (o + k) []) := by
        rw [List.getElem?_map, List.getElem?_drop] at g2
        rw [List.getD_eq_getElem?_getD, List.getElem?_eq_getElem (by omega)]
        rw [List.getElem?_eq_getElem (by omega)] at g2
        exact (Option.some.inj g2).symm
      subst hx1 hy1
      unfold rows
      rw [e2]
      exact .h (q (o + k)) 0 _ _ _ e1 (hn _ e3.1) (by simp only [List.length_map]; omega) (by simp only [List.length_map]; omega) fun k x y g1 g2 => by rw [Nat.zero_add, g2] at g1; cases g1; exact .refl _
theorem AW.fzbox {P : Program} {c : Code} {s : St} {K : Exit → St → Prop} (k e B n P0 : Nat) (p : Int) (q : Nat → Nat) (hk : s.t[k]? = some (.q e 0)) (hc : s.H e = some [.i .i64 p, .h P0 0 n, .h B 0 n]) (hB : s.H B = some (bcl q n n)) (hne : e ≠ B)
    (hs : AW P c ⟨s.t.set k (.p 0 [.i .i64 p, .h P0 0 n, bcV q n]), upd (upd s.H e none) B none, s.nx⟩ K) : AW P c s K := by
  refine AW.fz (s' := ⟨s.t.set k (.p 0 [.i .i64 p, .h P0 0 n, bcV q n]), upd (upd s.H e none) B none, s.nx⟩) ⟨fzs_set hk (.q e 0 _ _ hc (by dsimp only; rw [upd_ne _ _ hne, upd_same]) rfl fun j x y h1 h2 => ?_), fun i cs' h => ?_, Nat.le_refl _⟩ hs
  · match j, h1, h2 with
    | 0, h1, h2 => cases h1; cases h2; exact .refl _
    | 1, h1, h2 => cases h1; cases h2; exact .refl _
    | 2, h1, h2 =>
      cases h1; cases h2
      exact .h B 0 n _ _ hB (upd_same _ _ _) (by simp [bcl]) (by simp [bcl]) fun k x y g1 g2 => by rw [Nat.zero_add, g2] at g1; cases g1; exact .refl _
  · dsimp only at h
    by_cases e1 : i = B
    · subst e1; rw [upd_same] at h; cases h
    · rw [upd_ne _ _ e1] at h
      by_cases e2 : i = e
      · subst e2; rw [upd_same] at h; cases h
      · rw [upd_ne _ _ e2] at h
        exact ⟨cs', h, rfl, fun k x y h1 h2 => by rw [h1] at h2; cases h2; exact .refl _⟩
structure GdI (bs : List Int) (nx lo m sid n P : Nat) (q : Nat → Nat) (X : List (List Int)) (Y : List (List (List Int))) (G H : HP) : Prop where
  rg : RgV lo m n P q X Y G
  sn : (sid < lo ∧ nx < lo) ∧ sid ≠ nx
  src : ∃ a s, srOk bs a s ∧ G sid = some (srB bs a s)
  bx : G nx = some [.i .i64 0, .nl, .nl]
  fr : ∀ i, i < nx → i ≠ sid → G i = H i
theorem GdI.tail {bs : List Int} {nx lo m m2 sid n P : Nat} {q : Nat → Nat} {X : List (List Int)} {Y : List (List (List Int))} {G G2 H : HP} {a s : Int} (h : GdI bs nx lo m sid n P q X Y G H) (hm : m ≤ m2) (hf : ∀ i, i < m2 → G2 i = upd G sid (some (srB bs a s)) i) (ho : srOk bs a s) : GdI bs nx lo m sid n P q X Y G2 H := by
  obtain ⟨h1, h2, h3, h4, h5⟩ := h
  have hpb := h1.pb
  refine ⟨h1.keep (fun j g1 g2 => by rw [hf j (by omega), upd_ne _ _ (by omega)]) (Nat.le_refl _), h2, ⟨a, s, ho, by rw [hf sid (by omega), upd_same]⟩, by rw [hf nx (by omega), upd_ne _ _ (by omega)]; exact h4, fun i g1 g2 => by rw [hf i (by omega), upd_ne _ _ g2]; exact h5 i g1 g2⟩
theorem GdI.stP {bs : List Int} {nx lo m sid n P k : Nat} {q : Nat → Nat} {X : List (List Int)} {Y : List (List (List Int))} {G H : HP} {w : List Int} (h : GdI bs nx lo m sid n P q X Y G H) (hk : k < n) (hw : w.length ≤ 6) : ∃ X', GdI bs nx lo m sid n P q X' Y (upd G P (some (splice (X.map ints) k [ints w]))) H := by
  obtain ⟨h1, h2, ⟨a, s, h3, h3'⟩, h4, h5⟩ := h
  have hpb := h1.pb
  refine ⟨_, h1.setP (k := k) (w := w) (fun j g1 g2 g3 => upd_ne _ _ g3) (by rw [upd_same, ints_set (by rw [h1.xl]; exact hk)]) hw, h2, ⟨a, s, h3, by rw [upd_ne _ _ (by omega)]; exact h3'⟩, by rw [upd_ne _ _ (by omega)]; exact h4, fun i g1 g2 => by rw [upd_ne _ _ (by omega)]; exact h5 i g1 g2⟩
theorem GdI.stB {bs : List Int} {nx lo m sid n P k l : Nat} {q : Nat → Nat} {X : List (List Int)} {Y : List (List (List Int))} {G H : HP} {w : List Int} (h : GdI bs nx lo m sid n P q X Y G H) (hk : k < n) (hl : l < n - 1 - k) (hw : w.length ≤ 6) : ∃ Y', GdI bs nx lo m sid n P q X Y' (upd G (q k) (some (splice ((Y.getD k []).map ints) l [ints w]))) H := by
  obtain ⟨h1, h2, ⟨a, s, h3, h3'⟩, h4, h5⟩ := h
  have hpb := h1.pb
  obtain ⟨e1, e2, e3, e4⟩ := h1.hq k hk
  refine ⟨_, h1.setB (k := k) (l := l) (w := w) hk (fun j g1 g2 g3 => upd_ne _ _ g3) (by rw [upd_same, ints_set (by omega)]) hw, h2, ⟨a, s, h3, by rw [upd_ne _ _ (by omega)]; exact h3'⟩, by rw [upd_ne _ _ (by omega)]; exact h4, fun i g1 g2 => by rw [upd_ne _ _ (by omega)]; exact h5 i g1 g2⟩
theorem spec_l31Tail_z (bs : List Int) (a s : Int) (ho : srOk bs a s) (p : Int) (hp : p ≤ 1000) (n pid : Nat) (Z : AV) (hZ : one Z = true) (hn : n ≤ 6) (k : Int) (h0 : 0 ≤ k) (hk : k ≤ 100) (nx : Nat) (H : HP) (sid : Nat) (hH : H sid = some (srB bs a s)) : AC Try.prog 96 nx H [.q sid 0, rgH p n pid Z, .i .i64 k] (tailP bs sid n nx H) := by
  have := spec_l31Tail_p bs a s ho p hp n pid Z hZ hn k.toNat (by omega) nx H sid hH
  rwa [Int.toNat_of_nonneg h0] at this
theorem spec_l31Tail_y (bs : List Int) (a s : Int) (ho : srOk bs a s) (p : Int) (hp : p ≤ 1000) (n pid : Nat) (Z : AV) (hZ : one Z = true) (hn : n ≤ 6) (k : Int) (h0 : 0 ≤ k) (hk : k ≤ 100) (nx : Nat) (H : HP) (sid : Nat) (hH : H sid = some (srB bs a s)) : AC Try.prog 96 nx H [.q sid 0, rgH p n pid Z, .i .i64 k] (tailO bs sid n nx H) := by
  have := spec_l31Tail_o bs a s ho p hp n pid Z hZ hn k.toNat (by omega) nx H sid hH
  rwa [Int.toNat_of_nonneg h0] at this
theorem spec_l31Unit_z (p : Int) (n pid : Nat) (Z : AV) (hZ : one Z = true) (hn : n ≤ 6) (k : Int) (h0 : 0 ≤ k) (hk : k < n) : ∃ L, ACp Try.prog 84 [rgH p n pid Z, .i .i64 k] (ints L) ∧ L.length ≤ 6 := by
  have := (spec_l31Unit_h p n pid Z hZ hn k.toNat (by omega)).pure
  rw [Int.toNat_of_nonneg h0] at this
  exact ⟨_, this, by simp [unitL, vec_len]; omega⟩
theorem it1 : Int.toNat 1 = 1 := rfl
theorem it2 : Int.toNat 2 = 2 := rfl
theorem kind_get {k x : Int} (h0 : 0 ≤ k) (h1 : k < 8) (hx : 0 ≤ x ∧ x < 4) : ∃ n : Nat, ([AV.i .i64 (1 + x), AV.i .i64 3, AV.i .i64 4, AV.i .i64 4, AV.i .i64 5, AV.i .i64 5, AV.i .i64 6, AV.i .i64 3] : List AV).getD k.toNat .j = .i .i64 n ∧ (1 ≤ n ∧ n ≤ 6) ∧ (k = 1 → n = 3) ∧ (k = 2 → n = 4) ∧ (k = 3 → n = 4) ∧ (k = 4 → n = 5) ∧ (k = 5 → n = 5) ∧ (k = 6 → n = 6) ∧ (k = 7 → n = 3) := by
  rcases (show k = 0 ∨ k = 1 ∨ k = 2 ∨ k = 3 ∨ k = 4 ∨ k = 5 ∨ k = 6 ∨ k = 7 by omega) with rfl | rfl | rfl | rfl | rfl | rfl | rfl | rfl
  · exact ⟨(1 + x).toNat, by show AV.i .i64 (1 + x) = _; rw [Int.toNat_of_nonneg (by omega)], by omega, by omega, by omega, by omega, by omega, by omega, by omega, by omega⟩
  · exact ⟨3, rfl, by omega, by omega, by omega, by omega, by omega, by omega, by omega, by omega⟩
  · exact ⟨4, rfl, by omega, by omega, by omega, by omega, by omega, by omega, by omega, by omega⟩
  · exact ⟨4, rfl, by omega, by omega, by omega, by omega, by omega, by omega, by omega, by omega⟩
  · exact ⟨5, rfl, by omega, by omega, by omega, by omega, by omega, by omega, by omega, by omega⟩
  · exact ⟨5, rfl, by omega, by omega, by omega, by omega, by omega, by omega, by omega, by omega⟩
  · exact ⟨6, rfl, by omega, by omega, by omega, by omega, by omega, by omega, by omega, by omega⟩
  · exact ⟨3, rfl, by omega, by omega, by omega, by omega, by omega, by omega, by omega, by omega⟩
def goodK (bs : List Int) (sid nx : Nat) (H : HP) : Nat → HP → AV → Prop := fun nx' H' r => ∃ n p P q X Y a' s', (1 ≤ n ∧ n ≤ 6) ∧ pr4 p ∧ r = rgH p n P (bcV q n) ∧ RgV nx nx' n P q X Y H' ∧ srOk bs a' s' ∧ H' sid = some (srB bs a' s') ∧ ∀ i, i < nx → i ≠ sid → H' i = H i
set_option maxRecDepth 100000 in
set_option maxHeartbeats 4000000 in
theorem spec_l31Good_o (bs : List Int) (a s : Int) (ho : srOk bs a s) (nx : Nat) (H : HP) (sid : Nat) (hH : H sid = some (srB bs a s)) : AC Try.prog 94 nx H [.q sid 0] (goodK bs sid nx H) := by
 refine AC.introx envOk Try.func94 rfl (by kernel_rfl) Try.ntmps94 Try.results94 (fun hfr => ?_)
 have hsn := hfr_lt hfr hH
 refine AW.sr envOk (fun N hN => ?_)
 simp -dsimp -implicitDefEqProofs (disch := omega) only [go_sem, undef, reduceAdd, reduceSub, reduceGT, reduceEqDiff, reduceMul, w64, rgH, it1, it2]
 refine hN _ ?_
 try clear hN N
 refine AW.sr envOk (fun N hN => ?_)
 simp -dsimp -implicitDefEqProofs (disch := omega) only [go_sem, undef, reduceAdd, reduceSub, reduceGT, reduceEqDiff, reduceMul, w64, rgH, it1, it2]
 refine (spec_l01Next_o bs a s ho 8 (by omega) _ _ sid ((upd_ne _ _ (by omega)).trans hH)).mono2 ?_
 rintro m1 H1 r1 hm1 ⟨kd, a1, s1, rfl, hkd, ho1, rfl⟩
 try simp -dsimp -implicitDefEqProofs (disch := omega) only [go_sem, undef, reduceAdd, reduceSub, reduceGT, reduceEqDiff, reduceMul, w64, rgH, it1, it2]
 refine hN _ ?_
 try clear hN N
 refine AW.sr envOk (fun N hN => ?_)
 simp -dsimp -implicitDefEqProofs (disch := omega) only [go_sem, undef, reduceAdd, reduceSub, reduceGT, reduceEqDiff, reduceMul, w64, rgH, it1, it2]
 refine (spec_l01Next_o bs a1 s1 ho1 4 (by omega) _ _ sid (upd_same _ _ _)).mono2 ?_
 rintro m2 H2 r2 hm2 ⟨x, a2, s2, rfl, hx, ho2, rfl⟩
 obtain ⟨n, hn, hn6, hn1, hn2, hn3, hn4, hn5, hn6', hn7⟩ := kind_get hkd.1 (show kd < 8 by omega) (show 0 ≤ x ∧ x < 4 by omega)
 try simp -dsimp -implicitDefEqProofs (disch := omega) only [go_sem, undef, reduceAdd, reduceSub, reduceGT, reduceEqDiff, reduceMul, w64, rgH, hn]
 refine hN _ ?_
 try clear hN N
 refine AW.sr envOk (fun N hN => ?_)
 simp -dsimp -implicitDefEqProofs (disch := omega) only [go_sem, undef, reduceAdd, reduceSub, reduceGT, reduceEqDiff, reduceMul, w64, rgH, it1, it2]
 refine (spec_l31Primed_o bs a2 s2 ho2 n hn6.2 _ _ sid (by simp (disch := omega) only [upd_same, upd_ne])).mono2 ?_
 rintro m3 H3 r3 hm3 ⟨p, a3, s3, rfl, hp, ho3, rfl⟩
 have hpb := pr4_bd hp
 try simp -dsimp -implicitDefEqProofs (disch := omega) only [go_sem, undef, reduceAdd, reduceSub, reduceGT, reduceEqDiff, reduceMul, w64, rgH, it1, it2]
 refine AC.mono2 (AC.frame (spec_l31Flat_n p n hn6.2 _)) ?_
 rintro m4 H4 r4 hm4 ⟨H0, ⟨P, B, q, X, Y, rfl, hR0⟩, hlow, hhigh⟩
 have hR1 := hR0.keep (fun j h1 h2 => hhigh j h1) (Nat.le_refl _)
 try simp -dsimp -implicitDefEqProofs (disch := omega) only [go_sem, undef, reduceAdd, reduceSub, reduceGT, reduceEqDiff, reduceMul, w64, rgH, it1, it2]
 refine hN _ ?_
 try clear hN N
 have hpd0 := hR1.pb
 refine AW.fzbox 5 (m2 + 5) B n P p q rfl (upd_same _ _ _) ((upd_ne _ _ (by omega)).trans hR1.hb) (by omega) ?_
 simp -dsimp -implicitDefEqProofs (disch := omega) only [go_sem, undef, reduceAdd, reduceSub, reduceGT, reduceEqDiff, reduceMul]
 refine AW.nameH (fun G hG => ?_)
 dsimp only at hG
 have hI : GdI bs nx (nx + 1) m4 sid n P q X Y G H := by
  refine ⟨(hR1.v (fun j h1 h2 h3 => by rw [← hG]; simp (disch := omega) only [upd_ne])).lo (by omega), ⟨⟨by omega, by omega⟩, by omega⟩, ⟨a3, s3, ho3, ?_⟩, ?_, fun i g1 g2 => ?_⟩
  ·rw [← hG, upd_ne _ _ (by omega), upd_ne _ _ (by omega), hlow sid (by omega)]; simp (disch := omega) only [upd_same, upd_ne]
  ·rw [← hG, upd_ne _ _ (by omega), upd_ne _ _ (by omega), hlow nx (by omega)]; simp (disch := omega) only [upd_same, upd_ne]
  ·rw [← hG, upd_ne _ _ (by omega), upd_ne _ _ (by omega), hlow i (by omega)]; simp (disch := omega) only [upd_same, upd_ne]
 have hpd := hI.rg.pb
 clear hG hlow hhigh hR0 hR1
 obtain ⟨L, hU, hLl⟩ := spec_l31Unit_z p n P (bcV q n) one_bcV hn6.2 ((n : Int) - 1) (by omega) (by omega)
 refine AW.sr envOk (fun N hN => ?_)
 simp -dsimp -implicitDefEqProofs (disch := omega) only [go_sem, undef, reduceAdd, reduceSub, reduceGT, reduceEqDiff, reduceMul, w64, rgH, it1, it2]
 refine AC.pure (.of (hU )) ?_
 try simp -dsimp -implicitDefEqProofs (disch := omega) only [go_sem, undef, reduceAdd, reduceSub, reduceGT, reduceEqDiff, reduceMul, w64, rgH, it1, it2]
 refine hN _ ?_
 try clear hN N
 refine AW.seq (fun N1 hN1 => ?_)
 refine AW.sr envOk (fun N hN => ?_)
 simp -dsimp -implicitDefEqProofs (disch := omega) only [go_sem, undef, reduceAdd, reduceSub, reduceGT, reduceEqDiff, reduceMul, w64, rgH, it1, it2]
 refine hN _ ?_
 try clear hN N
 refine AW.block ?_
 refine AW.sr envOk (fun N hN => ?_)
 simp -dsimp -implicitDefEqProofs (disch := omega) only [go_sem, undef, reduceAdd, reduceSub, reduceGT, reduceEqDiff, reduceMul, w64, rgH, it1, it2]
 refine hN _ ?_
 try clear hN N
 refine AW.cond rfl (fun h1 => ?_) (fun h1 => ?_)
 ·try simp only [cn] at h1
  have hk0 : kd = 0 := by omega
  refine AW.sr envOk (fun N hN => ?_)
  simp -dsimp -implicitDefEqProofs (disch := omega) only [go_sem, undef, reduceAdd, reduceSub, reduceGT, reduceEqDiff, reduceMul, w64, rgH, it1, it2]
  refine hN _ ?_
  try clear hN N
  refine AW.block ?_
  refine AW.loopN (α := Nat × List (List Int) × HP) (fun x => sl 196 [(0, .q sid 0), (2, .q nx 0), (4, .i .i64 n), (5, .p 0 [.i .i64 p, .h P 0 n, bcV q n]), (6, .j), (7, .i .i64 x.1), (26, .j)]) (fun x => x.2.2) (fun x m => (x.1 ≤ n ∧ m4 ≤ m) ∧ GdI bs nx (nx + 1) m4 sid n P q x.2.1 Y x.2.2 H) (fun x => n - x.1) ((0, X, G)) ?_ ?_ (by exact Le.refl _) ?_
  ·exact ⟨⟨Nat.zero_le _, by first| omega| (simp only; omega)| (dsimp only; omega)⟩, hI⟩
  ·simp (disch := omega) [wks, wkA, sl, rgH] <;> omega
  ·skip
   rintro ⟨i, X, G⟩ m ⟨⟨hi, hm⟩, hI⟩
   dsimp only at hi hm hI ⊢
   simp -dsimp -implicitDefEqProofs (disch := omega) only [go_sem, undef, reduceAdd, reduceSub, reduceGT, reduceEqDiff, reduceMul]
   have hGP := hI.rg.hp
   have hXl := hI.rg.xl
   refine AW.seq (fun N2 hN2 => ?_)
   refine AW.sr envOk (fun N hN => ?_)
   simp -dsimp -implicitDefEqProofs (disch := omega) only [go_sem, undef, reduceAdd, reduceSub, reduceGT, reduceEqDiff, reduceMul, w64, rgH, it1, it2]
   refine hN _ ?_
   try clear hN N
   refine AW.cond rfl (fun h2 => ?_) (fun h2 => ?_)
   ·try simp only [cn] at h2
    refine AW.skip ?_
    simp only [thn, blk]
    refine hN2 _ ?_
    try clear hN2 N2
    refine AW.seq (fun N3 hN3 => ?_)
    refine AW.block ?_
    refine AW.drawF envOk (by kernel_rfl) [true, true, true, true, true, true, true, false, true, false] (by kernel_rfl) ?_
    simp -dsimp -implicitDefEqProofs (disch := omega) only [go_sem, undef, reduceAdd, reduceSub, reduceGT, reduceEqDiff, reduceMul, w64, rgH, it1, it2, hGP, hXl]
    obtain ⟨a9, s9, ho9, hs9⟩ := hI.src
    refine (spec_l31Tail_z bs a9 s9 ho9 p (by omega) n P (bcV q n) one_bcV hn6.2 ((i : Int) + 1) (by omega) (by omega) _ _ sid hs9).mono2 ?_
    rintro m9 H9 r9 hm9 ⟨w9, a8, s8, rfl, hw9, ho8, hf9⟩
    replace hI := hI.tail (by omega) hf9 ho8
    have hGP := hI.rg.hp
    have hXl := hI.rg.xl
    try simp -dsimp -implicitDefEqProofs (disch := omega) only [go_sem, undef, reduceAdd, reduceSub, reduceGT, reduceEqDiff, reduceMul, w64, rgH, it1, it2, hGP, hXl]
    refine hN3 _ ?_
    try clear hN3 N3
    refine AW.nameH (fun G hG => ?_)
    dsimp only at hG
    obtain ⟨X, hI⟩ := hI.stP (k := i) (w := w9) (by omega) (by omega); rw [hG] at hI
    clear hG
    refine AW.regionL envOk ?_
    simp -dsimp -implicitDefEqProofs (disch := omega) only [go_sem, undef, reduceAdd, reduceSub, reduceGT, reduceEqDiff, reduceMul, w64, rgH, it1, it2]
    refine ⟨(i + 1, X, G), ?_, fun _ _ h => h, ?_, ?_⟩
    ·simp (disch := omega) [wks, wkA, sl, rgH, w64] <;> omega
    ·exact ⟨⟨by first| omega| (simp only; omega)| (dsimp only; omega), by first| omega| (simp only; omega)| (dsimp only; omega)⟩, hI⟩
    ·first | omega | (simp only; omega)
   ·try simp only [cn] at h2
    refine AW.exit ?_
    simp only [thn, blk, if_true]
    refine hN1 _ ?_
    try clear hN1 N1
    refine AW.nameH (fun G hG => ?_)
    dsimp only at hG
    first| (rw [hG] at hI)| (obtain ⟨X, hI⟩ := hI.stP (k := 0) (w := w9) (by omega) (by omega); rw [hG] at hI)| (obtain ⟨X, hI⟩ := hI.stP (k := 1) (w := w9) (by omega) (by omega); rw [hG] at hI)| (obtain ⟨X, hI⟩ := hI.stP (k := 2) (w := w9) (by omega) (by omega); rw [hG] at hI)| (obtain ⟨Y, hI⟩ := hI.stB (k := 1) (l := 0) (w := L) (by omega) (by omega) (by omega); rw [hG] at hI)
    have hbx := hI.bx
    refine AW.sr envOk (fun N hN => ?_)
    simp -dsimp -implicitDefEqProofs (disch := omega) only [go_sem, undef, reduceAdd, reduceSub, reduceGT, reduceEqDiff, reduceMul, w64, rgH, it1, it2, hbx, one_bcV, bcV]
    refine hN _ ?_
    try clear hN N
    refine AW.ret ?_
    simp -dsimp -implicitDefEqProofs (disch := omega) only [go_sem, undef, reduceAdd, reduceSub, reduceGT, reduceEqDiff, reduceMul]
    obtain ⟨a7, s7, ho7, hs7⟩ := hI.src
    exact ⟨_, fun _ _ h => h, n, p, P, q, X, Y, a7, s7, hn6, hp, rfl, (hI.rg.keep (fun j g1 g2 => upd_ne _ _ (by omega)) (by omega)).lo (by omega), ho7, (upd_ne _ _ (by omega)).trans hs7, fun i g1 g2 => (upd_ne _ _ (by omega)).trans (hI.fr i g1 g2)⟩
 ·try simp only [cn] at h1
  refine AW.seq (fun N4 hN4 => ?_)
  refine AW.sr envOk (fun N hN => ?_)
  simp -dsimp -implicitDefEqProofs (disch := omega) only [go_sem, undef, reduceAdd, reduceSub, reduceGT, reduceEqDiff, reduceMul, w64, rgH, it1, it2]
  refine hN _ ?_
  try clear hN N
  refine AW.cond rfl (fun h3 => ?_) (fun h3 => ?_)
  ·try simp only [cn] at h3
   refine AW.skip ?_
   simp only [thn, blk]
   refine hN4 _ ?_
   try clear hN4 N4
   refine AW.cond rfl (fun h4 => ?_) (fun h4 => ?_)
   ·try simp only [cn] at h4
    have hn3' : n = 3 := by omega
    obtain ⟨hGq, hYl, hqm, hqP⟩ := hI.rg.hq 0 (by omega)
    refine AW.sr envOk (fun N hN => ?_)
    simp -dsimp -implicitDefEqProofs (disch := omega) only [go_sem, undef, reduceAdd, reduceSub, reduceGT, reduceEqDiff, reduceMul, w64, rgH, it1, it2, bcV, hGq, hYl]
    refine hN _ ?_
    try clear hN N
    refine AW.nameH (fun G hG => ?_)
    dsimp only at hG
    obtain ⟨Y, hI⟩ := hI.stB (k := 0) (l := 0) (w := L) (by omega) (by omega) (by omega); rw [hG] at hI
    clear hG
    have hGP := hI.rg.hp
    have hXl := hI.rg.xl
    refine AW.seq (fun N hN => ?_)
    refine AW.drawF envOk (by kernel_rfl) [true, true, true, true, false, true, false] (by kernel_rfl) ?_
    simp -dsimp -implicitDefEqProofs (disch := omega) only [go_sem, undef, reduceAdd, reduceSub, reduceGT, reduceEqDiff, reduceMul, w64, rgH, it1, it2, hGP, hXl]
    obtain ⟨a9, s9, ho9, hs9⟩ := hI.src
    refine (spec_l31Tail_z bs a9 s9 ho9 p (by omega) n P (bcV q n) one_bcV hn6.2 2 (by omega) (by omega) _ _ sid hs9).mono2 ?_
    rintro m9 H9 r9 hm9 ⟨w9, a8, s8, rfl, hw9, ho8, hf9⟩
    replace hI := hI.tail (by omega) hf9 ho8
    have hGP := hI.rg.hp
    have hXl := hI.rg.xl
    try simp -dsimp -implicitDefEqProofs (disch := omega) only [go_sem, undef, reduceAdd, reduceSub, reduceGT, reduceEqDiff, reduceMul, w64, rgH, it1, it2, hGP, hXl]
    refine hN _ ?_
    try clear hN N
    refine AW.nameH (fun G hG => ?_)
    dsimp only at hG
    obtain ⟨X, hI⟩ := hI.stP (k := 0) (w := w9) (by omega) (by omega); rw [hG] at hI
    clear hG
    have hGP := hI.rg.hp
    have hXl := hI.rg.xl
    refine AW.drawF envOk (by kernel_rfl) [true, true, true, true, false, true, false] (by kernel_rfl) ?_
    simp -dsimp -implicitDefEqProofs (disch := omega) only [go_sem, undef, reduceAdd, reduceSub, reduceGT, reduceEqDiff, reduceMul, w64, rgH, it1, it2, hGP, hXl]
    obtain ⟨a9, s9, ho9, hs9⟩ := hI.src
    refine (spec_l31Tail_z bs a9 s9 ho9 p (by omega) n P (bcV q n) one_bcV hn6.2 2 (by omega) (by omega) _ _ sid hs9).mono2 ?_
    rintro m9 H9 r9 hm9 ⟨w9, a8, s8, rfl, hw9, ho8, hf9⟩
    replace hI := hI.tail (by omega) hf9 ho8
    have hGP := hI.rg.hp
    have hXl := hI.rg.xl
    try simp -dsimp -implicitDefEqProofs (disch := omega) only [go_sem, undef, reduceAdd, reduceSub, reduceGT, reduceEqDiff, reduceMul, w64, rgH, it1, it2, hGP, hXl]
    refine hN1 _ ?_
    try clear hN1 N1
    refine AW.nameH (fun G hG => ?_)
    dsimp only at hG
    first| (rw [hG] at hI)| (obtain ⟨X, hI⟩ := hI.stP (k := 0) (w := w9) (by omega) (by omega); rw [hG] at hI)| (obtain ⟨X, hI⟩ := hI.stP (k := 1) (w := w9) (by omega) (by omega); rw [hG] at hI)| (obtain ⟨X, hI⟩ := hI.stP (k := 2) (w := w9) (by omega) (by omega); rw [hG] at hI)| (obtain ⟨Y, hI⟩ := hI.stB (k := 1) (l := 0) (w := L) (by omega) (by omega) (by omega); rw [hG] at hI)
    have hbx := hI.bx
    refine AW.sr envOk (fun N hN => ?_)
    simp -dsimp -implicitDefEqProofs (disch := omega) only [go_sem, undef, reduceAdd, reduceSub, reduceGT, reduceEqDiff, reduceMul, w64, rgH, it1, it2, hbx, one_bcV, bcV]
    refine hN _ ?_
    try clear hN N
    refine AW.ret ?_
    simp -dsimp -implicitDefEqProofs (disch := omega) only [go_sem, undef, reduceAdd, reduceSub, reduceGT, reduceEqDiff, reduceMul]
    obtain ⟨a7, s7, ho7, hs7⟩ := hI.src
    exact ⟨_, fun _ _ h => h, n, p, P, q, X, Y, a7, s7, hn6, hp, rfl, (hI.rg.keep (fun j g1 g2 => upd_ne _ _ (by omega)) (by omega)).lo (by omega), ho7, (upd_ne _ _ (by omega)).trans hs7, fun i g1 g2 => (upd_ne _ _ (by omega)).trans (hI.fr i g1 g2)⟩
   ·try simp only [cn] at h4
    omega
  ·try simp only [cn] at h3
   refine AW.regionL envOk ?_
   simp -dsimp -implicitDefEqProofs (disch := omega) only [go_sem, undef, reduceAdd, reduceSub, reduceGT, reduceEqDiff, reduceMul, w64, rgH, it1, it2]
   refine hN4 _ ?_
   try clear hN4 N4
   refine AW.cond rfl (fun h5 => ?_) (fun h5 => ?_)
   ·try simp only [cn] at h5
    have hn3' : n = 3 := by omega
    obtain ⟨hGq, hYl, hqm, hqP⟩ := hI.rg.hq 0 (by omega)
    refine AW.sr envOk (fun N hN => ?_)
    simp -dsimp -implicitDefEqProofs (disch := omega) only [go_sem, undef, reduceAdd, reduceSub, reduceGT, reduceEqDiff, reduceMul, w64, rgH, it1, it2, bcV, hGq, hYl]
    refine hN _ ?_
    try clear hN N
    refine AW.nameH (fun G hG => ?_)
    dsimp only at hG
    obtain ⟨Y, hI⟩ := hI.stB (k := 0) (l := 0) (w := L) (by omega) (by omega) (by omega); rw [hG] at hI
    clear hG
    have hGP := hI.rg.hp
    have hXl := hI.rg.xl
    refine AW.seq (fun N hN => ?_)
    refine AW.drawF envOk (by kernel_rfl) [true, true, true, true, false, true, false] (by kernel_rfl) ?_
    simp -dsimp -implicitDefEqProofs (disch := omega) only [go_sem, undef, reduceAdd, reduceSub, reduceGT, reduceEqDiff, reduceMul, w64, rgH, it1, it2, hGP, hXl]
    obtain ⟨a9, s9, ho9, hs9⟩ := hI.src
    refine (spec_l31Tail_z bs a9 s9 ho9 p (by omega) n P (bcV q n) one_bcV hn6.2 2 (by omega) (by omega) _ _ sid hs9).mono2 ?_
    rintro m9 H9 r9 hm9 ⟨w9, a8, s8, rfl, hw9, ho8, hf9⟩
    replace hI := hI.tail (by omega) hf9 ho8
    have hGP := hI.rg.hp
    have hXl := hI.rg.xl
    try simp -dsimp -implicitDefEqProofs (disch := omega) only [go_sem, undef, reduceAdd, reduceSub, reduceGT, reduceEqDiff, reduceMul, w64, rgH, it1, it2, hGP, hXl]
    refine hN _ ?_
    try clear hN N
    refine AW.nameH (fun G hG => ?_)
    dsimp only at hG
    obtain ⟨X, hI⟩ := hI.stP (k := 0) (w := w9) (by omega) (by omega); rw [hG] at hI
    clear hG
    have hGP := hI.rg.hp
    have hXl := hI.rg.xl
    refine AW.drawF envOk (by kernel_rfl) [true, true, true, true, false, true, false] (by kernel_rfl) ?_
    simp -dsimp -implicitDefEqProofs (disch := omega) only [go_sem, undef, reduceAdd, reduceSub, reduceGT, reduceEqDiff, reduceMul, w64, rgH, it1, it2, hGP, hXl]
    obtain ⟨a9, s9, ho9, hs9⟩ := hI.src
    refine (spec_l31Tail_z bs a9 s9 ho9 p (by omega) n P (bcV q n) one_bcV hn6.2 2 (by omega) (by omega) _ _ sid hs9).mono2 ?_
    rintro m9 H9 r9 hm9 ⟨w9, a8, s8, rfl, hw9, ho8, hf9⟩
    replace hI := hI.tail (by omega) hf9 ho8
    have hGP := hI.rg.hp
    have hXl := hI.rg.xl
    try simp -dsimp -implicitDefEqProofs (disch := omega) only [go_sem, undef, reduceAdd, reduceSub, reduceGT, reduceEqDiff, reduceMul, w64, rgH, it1, it2, hGP, hXl]
    refine hN1 _ ?_
    try clear hN1 N1
    refine AW.nameH (fun G hG => ?_)
    dsimp only at hG
    first| (rw [hG] at hI)| (obtain ⟨X, hI⟩ := hI.stP (k := 0) (w := w9) (by omega) (by omega); rw [hG] at hI)| (obtain ⟨X, hI⟩ := hI.stP (k := 1) (w := w9) (by omega) (by omega); rw [hG] at hI)| (obtain ⟨X, hI⟩ := hI.stP (k := 2) (w := w9) (by omega) (by omega); rw [hG] at hI)| (obtain ⟨Y, hI⟩ := hI.stB (k := 1) (l := 0) (w := L) (by omega) (by omega) (by omega); rw [hG] at hI)
    have hbx := hI.bx
    refine AW.sr envOk (fun N hN => ?_)
    simp -dsimp -implicitDefEqProofs (disch := omega) only [go_sem, undef, reduceAdd, reduceSub, reduceGT, reduceEqDiff, reduceMul, w64, rgH, it1, it2, hbx, one_bcV, bcV]
    refine hN _ ?_
    try clear hN N
    refine AW.ret ?_
    simp -dsimp -implicitDefEqProofs (disch := omega) only [go_sem, undef, reduceAdd, reduceSub, reduceGT, reduceEqDiff, reduceMul]
    obtain ⟨a7, s7, ho7, hs7⟩ := hI.src
    exact ⟨_, fun _ _ h => h, n, p, P, q, X, Y, a7, s7, hn6, hp, rfl, (hI.rg.keep (fun j g1 g2 => upd_ne _ _ (by omega)) (by omega)).lo (by omega), ho7, (upd_ne _ _ (by omega)).trans hs7, fun i g1 g2 => (upd_ne _ _ (by omega)).trans (hI.fr i g1 g2)⟩
   ·try simp only [cn] at h5
    refine AW.sr envOk (fun N hN => ?_)
    simp -dsimp -implicitDefEqProofs (disch := omega) only [go_sem, undef, reduceAdd, reduceSub, reduceGT, reduceEqDiff, reduceMul, w64, rgH, it1, it2]
    refine hN _ ?_
    try clear hN N
    refine AW.cond rfl (fun h6 => ?_) (fun h6 => ?_)
    ·try simp only [cn] at h6
     have hn4' : n = 4 := by omega
     obtain ⟨hGq, hYl, hqm, hqP⟩ := hI.rg.hq 0 (by omega)
     refine AW.seq (fun N hN => ?_)
     refine AW.drawF envOk (by kernel_rfl) [true, true, true, true, true, true, false, true, false] (by kernel_rfl) ?_
     simp -dsimp -implicitDefEqProofs (disch := omega) only [go_sem, undef, reduceAdd, reduceSub, reduceGT, reduceEqDiff, reduceMul, w64, rgH, it1, it2, bcV, hGq, hYl]
     obtain ⟨a9, s9, ho9, hs9⟩ := hI.src
     refine (spec_l31Tail_y bs a9 s9 ho9 p (by omega) n P (bcV q n) one_bcV hn6.2 2 (by omega) (by omega) _ _ sid hs9).mono2 ?_
     rintro m9 H9 r9 hm9 ⟨vid, f9, a8, s8, rfl, hv1, hv2, ho8, rfl⟩
     have hGq9 : upd (upd G sid (some (srB bs a8 s8))) vid (some (ivs n f9)) (q 0) = some ((Y.getD 0 []).map ints) := (upd_ne _ _ (by omega)).trans ((upd_ne _ _ (by omega)).trans hGq)
     try simp -dsimp -implicitDefEqProofs (disch := omega) only [go_sem, undef, reduceAdd, reduceSub, reduceGT, reduceEqDiff, reduceMul, w64, rgH, it1, it2, hGq9, hYl]
     refine hN _ ?_
     try clear hN N
     have hsl : (splice (List.map ints (Y.getD 0 [])) 0 [AV.h vid 0 n]).length = n - 1 := by
      rw [splice_one _ _ _ (by rw [List.length_map]; omega), List.length_set, List.length_map]; omega
     have hsg : (splice (List.map ints (Y.getD 0 [])) 0 [AV.h vid 0 n]).getD 0 .j = .h vid 0 n := by
      rw [splice_one _ _ _ (by rw [List.length_map]; omega), List.getD_eq_getElem?_getD, List.getElem?_set_self (by rw [List.length_map]; omega)]; rfl
     refine AW.sr envOk (fun N hN => ?_)
     simp -dsimp -implicitDefEqProofs (disch := omega) only [go_sem, undef, reduceAdd, reduceSub, reduceGT, reduceEqDiff, reduceMul, w64, rgH, it1, it2, bcV, hsl, hsg]
     refine hN _ ?_
     try clear hN N
     have hiv : splice (ivs n f9) 2 [AV.i .i64 1] = ivs n (fset f9 2 1) := ivs_set (by omega)
     refine AW.fzcell (q 0) vid n 0 (splice (List.map ints (Y.getD 0 [])) 0 [AV.h vid 0 n]) (ivs n (fset f9 2 1)) ?_ ?_ ?_ (by simp [ivs]) (by omega) ?_
     ·dsimp only; rw [upd_ne _ _ (by omega), upd_same]
     ·rw [splice_one _ _ _ (by rw [List.length_map]; omega), List.getElem?_set_self (by rw [List.length_map]; omega)]
     ·dsimp only; rw [upd_same]
     refine AW.nameH (fun G hG => ?_)
     dsimp only at hG
     obtain ⟨Y, hI⟩ : ∃ Y', GdI bs nx (nx + 1) m4 sid n P q X Y' G H := by
      refine ⟨_, hI.rg.setB (k := 0) (l := 0) (w := vec n (fset f9 2 1)) (by omega) (fun j g1 g2 g3 => ?_) ?_ (by rw [vec_len]; omega), hI.sn, ⟨a8, s8, ho8, ?_⟩, ?_, fun i g1 g2 => ?_⟩
      ·rw [← hG]; simp (disch := omega) only [upd_ne]
      ·rw [← hG, upd_same, splice_one _ _ _ (by rw [List.length_map]; omega), List.set_set, List.map_set]
       unfold ints; rw [vec_len, vec_map]
      ·rw [← hG]; simp (disch := omega) only [upd_same, upd_ne]
      ·rw [← hG]; simp (disch := omega) only [upd_ne]; exact hI.bx
      ·rw [← hG]; simp (disch := omega) only [upd_ne]; exact hI.fr i g1 g2
     clear hG
     obtain ⟨hGq, hYl, hqm, hqP⟩ := hI.rg.hq 0 (by omega)
     refine AW.sr envOk (fun N hN => ?_)
     simp -dsimp -implicitDefEqProofs (disch := omega) only [go_sem, undef, reduceAdd, reduceSub, reduceGT, reduceEqDiff, reduceMul, w64, rgH, it1, it2, bcV, hGq, hYl]
     refine hN _ ?_
     try clear hN N
     refine AW.nameH (fun G hG => ?_)
     dsimp only at hG
     obtain ⟨Y, hI⟩ := hI.stB (k := 0) (l := 1) (w := L) (by omega) (by omega) (by omega); rw [hG] at hI
     clear hG
     have hGP := hI.rg.hp
     have hXl := hI.rg.xl
     refine AW.seq (fun N hN => ?_)
     refine AW.drawF envOk (by kernel_rfl) [true, true, true, true, false, true, false] (by kernel_rfl) ?_
     simp -dsimp -implicitDefEqProofs (disch := omega) only [go_sem, undef, reduceAdd, reduceSub, reduceGT, reduceEqDiff, reduceMul, w64, rgH, it1, it2, hGP, hXl]
     obtain ⟨a9, s9, ho9, hs9⟩ := hI.src
     refine (spec_l31Tail_z bs a9 s9 ho9 p (by omega) n P (bcV q n) one_bcV hn6.2 3 (by omega) (by omega) _ _ sid hs9).mono2 ?_
     rintro m9 H9 r9 hm9 ⟨w9, a8, s8, rfl, hw9, ho8, hf9⟩
     replace hI := hI.tail (by omega) hf9 ho8
     have hGP := hI.rg.hp
     have hXl := hI.rg.xl
     try simp -dsimp -implicitDefEqProofs (disch := omega) only [go_sem, undef, reduceAdd, reduceSub, reduceGT, reduceEqDiff, reduceMul, w64, rgH, it1, it2, hGP, hXl]
     refine hN _ ?_
     try clear hN N
     refine AW.nameH (fun G hG => ?_)
     dsimp only at hG
     obtain ⟨X, hI⟩ := hI.stP (k := 0) (w := w9) (by omega) (by omega); rw [hG] at hI
     clear hG
     have hGP := hI.rg.hp
     have hXl := hI.rg.xl
     refine AW.drawF envOk (by kernel_rfl) [true, true, true, true, false, true, false] (by kernel_rfl) ?_
     simp -dsimp -implicitDefEqProofs (disch := omega) only [go_sem, undef, reduceAdd, reduceSub, reduceGT, reduceEqDiff, reduceMul, w64, rgH, it1, it2, hGP, hXl]
     obtain ⟨a9, s9, ho9, hs9⟩ := hI.src
     refine (spec_l31Tail_z bs a9 s9 ho9 p (by omega) n P (bcV q n) one_bcV hn6.2 3 (by omega) (by omega) _ _ sid hs9).mono2 ?_
     rintro m9 H9 r9 hm9 ⟨w9, a8, s8, rfl, hw9, ho8, hf9⟩
     replace hI := hI.tail (by omega) hf9 ho8
     have hGP := hI.rg.hp
     have hXl := hI.rg.xl
     try simp -dsimp -implicitDefEqProofs (disch := omega) only [go_sem, undef, reduceAdd, reduceSub, reduceGT, reduceEqDiff, reduceMul, w64, rgH, it1, it2, hGP, hXl]
     refine hN1 _ ?_
     try clear hN1 N1
     refine AW.nameH (fun G hG => ?_)
     dsimp only at hG
     first| (rw [hG] at hI)| (obtain ⟨X, hI⟩ := hI.stP (k := 0) (w := w9) (by omega) (by omega); rw [hG] at hI)| (obtain ⟨X, hI⟩ := hI.stP (k := 1) (w := w9) (by omega) (by omega); rw [hG] at hI)| (obtain ⟨X, hI⟩ := hI.stP (k := 2) (w := w9) (by omega) (by omega); rw [hG] at hI)| (obtain ⟨Y, hI⟩ := hI.stB (k := 1) (l := 0) (w := L) (by omega) (by omega) (by omega); rw [hG] at hI)
     have hbx := hI.bx
     refine AW.sr envOk (fun N hN => ?_)
     simp -dsimp -implicitDefEqProofs (disch := omega) only [go_sem, undef, reduceAdd, reduceSub, reduceGT, reduceEqDiff, reduceMul, w64, rgH, it1, it2, hbx, one_bcV, bcV]
     refine hN _ ?_
     try clear hN N
     refine AW.ret ?_
     simp -dsimp -implicitDefEqProofs (disch := omega) only [go_sem, undef, reduceAdd, reduceSub, reduceGT, reduceEqDiff, reduceMul]
     obtain ⟨a7, s7, ho7, hs7⟩ := hI.src
     exact ⟨_, fun _ _ h => h, n, p, P, q, X, Y, a7, s7, hn6, hp, rfl, (hI.rg.keep (fun j g1 g2 => upd_ne _ _ (by omega)) (by omega)).lo (by omega), ho7, (upd_ne _ _ (by omega)).trans hs7, fun i g1 g2 => (upd_ne _ _ (by omega)).trans (hI.fr i g1 g2)⟩
    ·try simp only [cn] at h6
     refine AW.sr envOk (fun N hN => ?_)
     simp -dsimp -implicitDefEqProofs (disch := omega) only [go_sem, undef, reduceAdd, reduceSub, reduceGT, reduceEqDiff, reduceMul, w64, rgH, it1, it2]
     refine hN _ ?_
     try clear hN N
     refine AW.cond rfl (fun h7 => ?_) (fun h7 => ?_)
     ·try simp only [cn] at h7
      have hn4' : n = 4 := by omega
      obtain ⟨hGq, hYl, hqm, hqP⟩ := hI.rg.hq 0 (by omega)
      refine AW.sr envOk (fun N hN => ?_)
      simp -dsimp -implicitDefEqProofs (disch := omega) only [go_sem, undef, reduceAdd, reduceSub, reduceGT, reduceEqDiff, reduceMul, w64, rgH, it1, it2, bcV, hGq, hYl]
      refine hN _ ?_
      try clear hN N
      refine AW.nameH (fun G hG => ?_)
      dsimp only at hG
      obtain ⟨Y, hI⟩ := hI.stB (k := 0) (l := 0) (w := L) (by omega) (by omega) (by omega); rw [hG] at hI
      clear hG
      have hGP := hI.rg.hp
      have hXl := hI.rg.xl
      refine AW.seq (fun N hN => ?_)
      refine AW.drawF envOk (by kernel_rfl) [true, true, true, true, false, true, false] (by kernel_rfl) ?_
      simp -dsimp -implicitDefEqProofs (disch := omega) only [go_sem, undef, reduceAdd, reduceSub, reduceGT, reduceEqDiff, reduceMul, w64, rgH, it1, it2, hGP, hXl]
      obtain ⟨a9, s9, ho9, hs9⟩ := hI.src
      refine (spec_l31Tail_z bs a9 s9 ho9 p (by omega) n P (bcV q n) one_bcV hn6.2 2 (by omega) (by omega) _ _ sid hs9).mono2 ?_
      rintro m9 H9 r9 hm9 ⟨w9, a8, s8, rfl, hw9, ho8, hf9⟩
      replace hI := hI.tail (by omega) hf9 ho8
      have hGP := hI.rg.hp
      have hXl := hI.rg.xl
      try simp -dsimp -implicitDefEqProofs (disch := omega) only [go_sem, undef, reduceAdd, reduceSub, reduceGT, reduceEqDiff, reduceMul, w64, rgH, it1, it2, hGP, hXl]
      refine hN _ ?_
      try clear hN N
      refine AW.nameH (fun G hG => ?_)
      dsimp only at hG
      obtain ⟨X, hI⟩ := hI.stP (k := 0) (w := w9) (by omega) (by omega); rw [hG] at hI
      clear hG
      have hGP := hI.rg.hp
      have hXl := hI.rg.xl
      refine AW.seq (fun N hN => ?_)
      refine AW.drawF envOk (by kernel_rfl) [true, true, true, true, false, true, false] (by kernel_rfl) ?_
      simp -dsimp -implicitDefEqProofs (disch := omega) only [go_sem, undef, reduceAdd, reduceSub, reduceGT, reduceEqDiff, reduceMul, w64, rgH, it1, it2, hGP, hXl]
      obtain ⟨a9, s9, ho9, hs9⟩ := hI.src
      refine (spec_l31Tail_z bs a9 s9 ho9 p (by omega) n P (bcV q n) one_bcV hn6.2 2 (by omega) (by omega) _ _ sid hs9).mono2 ?_
      rintro m9 H9 r9 hm9 ⟨w9, a8, s8, rfl, hw9, ho8, hf9⟩
      replace hI := hI.tail (by omega) hf9 ho8
      have hGP := hI.rg.hp
      have hXl := hI.rg.xl
      try simp -dsimp -implicitDefEqProofs (disch := omega) only [go_sem, undef, reduceAdd, reduceSub, reduceGT, reduceEqDiff, reduceMul, w64, rgH, it1, it2, hGP, hXl]
      refine hN _ ?_
      try clear hN N
      refine AW.nameH (fun G hG => ?_)
      dsimp only at hG
      obtain ⟨X, hI⟩ := hI.stP (k := 1) (w := w9) (by omega) (by omega); rw [hG] at hI
      clear hG
      have hGP := hI.rg.hp
      have hXl := hI.rg.xl
      refine AW.drawF envOk (by kernel_rfl) [true, true, true, true, false, true, false] (by kernel_rfl) ?_
      simp -dsimp -implicitDefEqProofs (disch := omega) only [go_sem, undef, reduceAdd, reduceSub, reduceGT, reduceEqDiff, reduceMul, w64, rgH, it1, it2, hGP, hXl]
      obtain ⟨a9, s9, ho9, hs9⟩ := hI.src
      refine (spec_l31Tail_z bs a9 s9 ho9 p (by omega) n P (bcV q n) one_bcV hn6.2 3 (by omega) (by omega) _ _ sid hs9).mono2 ?_
      rintro m9 H9 r9 hm9 ⟨w9, a8, s8, rfl, hw9, ho8, hf9⟩
      replace hI := hI.tail (by omega) hf9 ho8
      have hGP := hI.rg.hp
      have hXl := hI.rg.xl
      try simp -dsimp -implicitDefEqProofs (disch := omega) only [go_sem, undef, reduceAdd, reduceSub, reduceGT, reduceEqDiff, reduceMul, w64, rgH, it1, it2, hGP, hXl]
      refine hN1 _ ?_
      try clear hN1 N1
      refine AW.nameH (fun G hG => ?_)
      dsimp only at hG
      first| (rw [hG] at hI)| (obtain ⟨X, hI⟩ := hI.stP (k := 0) (w := w9) (by omega) (by omega); rw [hG] at hI)| (obtain ⟨X, hI⟩ := hI.stP (k := 1) (w := w9) (by omega) (by omega); rw [hG] at hI)| (obtain ⟨X, hI⟩ := hI.stP (k := 2) (w := w9) (by omega) (by omega); rw [hG] at hI)| (obtain ⟨Y, hI⟩ := hI.stB (k := 1) (l := 0) (w := L) (by omega) (by omega) (by omega); rw [hG] at hI)
      have hbx := hI.bx
      refine AW.sr envOk (fun N hN => ?_)
      simp -dsimp -implicitDefEqProofs (disch := omega) only [go_sem, undef, reduceAdd, reduceSub, reduceGT, reduceEqDiff, reduceMul, w64, rgH, it1, it2, hbx, one_bcV, bcV]
      refine hN _ ?_
      try clear hN N
      refine AW.ret ?_
      simp -dsimp -implicitDefEqProofs (disch := omega) only [go_sem, undef, reduceAdd, reduceSub, reduceGT, reduceEqDiff, reduceMul]
      obtain ⟨a7, s7, ho7, hs7⟩ := hI.src
      exact ⟨_, fun _ _ h => h, n, p, P, q, X, Y, a7, s7, hn6, hp, rfl, (hI.rg.keep (fun j g1 g2 => upd_ne _ _ (by omega)) (by omega)).lo (by omega), ho7, (upd_ne _ _ (by omega)).trans hs7, fun i g1 g2 => (upd_ne _ _ (by omega)).trans (hI.fr i g1 g2)⟩
     ·try simp only [cn] at h7
      refine AW.sr envOk (fun N hN => ?_)
      simp -dsimp -implicitDefEqProofs (disch := omega) only [go_sem, undef, reduceAdd, reduceSub, reduceGT, reduceEqDiff, reduceMul, w64, rgH, it1, it2]
      refine hN _ ?_
      try clear hN N
      refine AW.cond rfl (fun h8 => ?_) (fun h8 => ?_)
      ·try simp only [cn] at h8
       have hn5' : n = 5 := by omega
       obtain ⟨hGq, hYl, hqm, hqP⟩ := hI.rg.hq 0 (by omega)
       refine AW.sr envOk (fun N hN => ?_)
       simp -dsimp -implicitDefEqProofs (disch := omega) only [go_sem, undef, reduceAdd, reduceSub, reduceGT, reduceEqDiff, reduceMul, w64, rgH, it1, it2, bcV, hGq, hYl]
       refine hN _ ?_
       try clear hN N
       refine AW.nameH (fun G hG => ?_)
       dsimp only at hG
       obtain ⟨Y, hI⟩ := hI.stB (k := 0) (l := 0) (w := L) (by omega) (by omega) (by omega); rw [hG] at hI
       clear hG
       obtain ⟨hGq, hYl, hqm, hqP⟩ := hI.rg.hq 2 (by omega)
       refine AW.seq (fun N hN => ?_)
       refine AW.drawF envOk (by kernel_rfl) [true, true, true, true, true, false, true, false] (by kernel_rfl) ?_
       simp -dsimp -implicitDefEqProofs (disch := omega) only [go_sem, undef, reduceAdd, reduceSub, reduceGT, reduceEqDiff, reduceMul, w64, rgH, it1, it2, bcV, hGq, hYl]
       refine AC.pure (.of (spec_l01Own_p L (by omega) )) ?_
       try simp -dsimp -implicitDefEqProofs (disch := omega) only [go_sem, undef, reduceAdd, reduceSub, reduceGT, reduceEqDiff, reduceMul, w64, rgH, it1, it2, bcV, hGq, hYl]
       refine hN _ ?_
       try clear hN N
       refine AW.nameH (fun G hG => ?_)
       dsimp only at hG
       obtain ⟨Y, hI⟩ := hI.stB (k := 2) (l := 0) (w := L) (by omega) (by omega) (by omega); rw [hG] at hI
       clear hG
       have hGP := hI.rg.hp
       have hXl := hI.rg.xl
       refine AW.drawF envOk (by kernel_rfl) [true, true, true, true, false, true, false] (by kernel_rfl) ?_
       simp -dsimp -implicitDefEqProofs (disch := omega) only [go_sem, undef, reduceAdd, reduceSub, reduceGT, reduceEqDiff, reduceMul, w64, rgH, it1, it2, hGP, hXl]
       obtain ⟨a9, s9, ho9, hs9⟩ := hI.src
       refine (spec_l31Tail_z bs a9 s9 ho9 p (by omega) n P (bcV q n) one_bcV hn6.2 4 (by omega) (by omega) _ _ sid hs9).mono2 ?_
       rintro m9 H9 r9 hm9 ⟨w9, a8, s8, rfl, hw9, ho8, hf9⟩
       replace hI := hI.tail (by omega) hf9 ho8
       have hGP := hI.rg.hp
       have hXl := hI.rg.xl
       try simp -dsimp -implicitDefEqProofs (disch := omega) only [go_sem, undef, reduceAdd, reduceSub, reduceGT, reduceEqDiff, reduceMul, w64, rgH, it1, it2, hGP, hXl]
       refine hN1 _ ?_
       try clear hN1 N1
       refine AW.nameH (fun G hG => ?_)
       dsimp only at hG
       first| (rw [hG] at hI)| (obtain ⟨X, hI⟩ := hI.stP (k := 0) (w := w9) (by omega) (by omega); rw [hG] at hI)| (obtain ⟨X, hI⟩ := hI.stP (k := 1) (w := w9) (by omega) (by omega); rw [hG] at hI)| (obtain ⟨X, hI⟩ := hI.stP (k := 2) (w := w9) (by omega) (by omega); rw [hG] at hI)| (obtain ⟨Y, hI⟩ := hI.stB (k := 1) (l := 0) (w := L) (by omega) (by omega) (by omega); rw [hG] at hI)
       have hbx := hI.bx
       refine AW.sr envOk (fun N hN => ?_)
       simp -dsimp -implicitDefEqProofs (disch := omega) only [go_sem, undef, reduceAdd, reduceSub, reduceGT, reduceEqDiff, reduceMul, w64, rgH, it1, it2, hbx, one_bcV, bcV]
       refine hN _ ?_
       try clear hN N
       refine AW.ret ?_
       simp -dsimp -implicitDefEqProofs (disch := omega) only [go_sem, undef, reduceAdd, reduceSub, reduceGT, reduceEqDiff, reduceMul]
       obtain ⟨a7, s7, ho7, hs7⟩ := hI.src
       exact ⟨_, fun _ _ h => h, n, p, P, q, X, Y, a7, s7, hn6, hp, rfl, (hI.rg.keep (fun j g1 g2 => upd_ne _ _ (by omega)) (by omega)).lo (by omega), ho7, (upd_ne _ _ (by omega)).trans hs7, fun i g1 g2 => (upd_ne _ _ (by omega)).trans (hI.fr i g1 g2)⟩
      ·try simp only [cn] at h8
       refine AW.sr envOk (fun N hN => ?_)
       simp -dsimp -implicitDefEqProofs (disch := omega) only [go_sem, undef, reduceAdd, reduceSub, reduceGT, reduceEqDiff, reduceMul, w64, rgH, it1, it2]
       refine hN _ ?_
       try clear hN N
       refine AW.cond rfl (fun h9 => ?_) (fun h9 => ?_)
       ·try simp only [cn] at h9
        have hn5' : n = 5 := by omega
        obtain ⟨hGq, hYl, hqm, hqP⟩ := hI.rg.hq 0 (by omega)
        obtain ⟨L3, hU3, hL3⟩ := spec_l31Unit_z p n P (bcV q n) one_bcV hn6.2 3 (by omega) (by omega)
        refine AW.seq (fun N hN => ?_)
        refine AW.drawF envOk (by kernel_rfl) [true, true, true, true, true, false, true, false] (by kernel_rfl) ?_
        simp -dsimp -implicitDefEqProofs (disch := omega) only [go_sem, undef, reduceAdd, reduceSub, reduceGT, reduceEqDiff, reduceMul, w64, rgH, it1, it2, bcV, hGq, hYl]
        refine AC.pure (.of (hU3 )) ?_
        try simp -dsimp -implicitDefEqProofs (disch := omega) only [go_sem, undef, reduceAdd, reduceSub, reduceGT, reduceEqDiff, reduceMul, w64, rgH, it1, it2, bcV, hGq, hYl]
        refine hN _ ?_
        try clear hN N
        refine AW.nameH (fun G hG => ?_)
        dsimp only at hG
        obtain ⟨Y, hI⟩ := hI.stB (k := 0) (l := 0) (w := L3) (by omega) (by omega) (by omega); rw [hG] at hI
        clear hG
        obtain ⟨hGq, hYl, hqm, hqP⟩ := hI.rg.hq 0 (by omega)
        refine AW.sr envOk (fun N hN => ?_)
        simp -dsimp -implicitDefEqProofs (disch := omega) only [go_sem, undef, reduceAdd, reduceSub, reduceGT, reduceEqDiff, reduceMul, w64, rgH, it1, it2, bcV, hGq, hYl]
        refine hN _ ?_
        try clear hN N
        refine AW.nameH (fun G hG => ?_)
        dsimp only at hG
        obtain ⟨Y, hI⟩ := hI.stB (k := 0) (l := 1) (w := L) (by omega) (by omega) (by omega); rw [hG] at hI
        clear hG
        have hGP := hI.rg.hp
        have hXl := hI.rg.xl
        refine AW.seq (fun N hN => ?_)
        refine AW.drawF envOk (by kernel_rfl) [true, true, true, true, false, true, false] (by kernel_rfl) ?_
        simp -dsimp -implicitDefEqProofs (disch := omega) only [go_sem, undef, reduceAdd, reduceSub, reduceGT, reduceEqDiff, reduceMul, w64, rgH, it1, it2, hGP, hXl]
        obtain ⟨a9, s9, ho9, hs9⟩ := hI.src
        refine (spec_l31Tail_z bs a9 s9 ho9 p (by omega) n P (bcV q n) one_bcV hn6.2 3 (by omega) (by omega) _ _ sid hs9).mono2 ?_
        rintro m9 H9 r9 hm9 ⟨w9, a8, s8, rfl, hw9, ho8, hf9⟩
        replace hI := hI.tail (by omega) hf9 ho8
        have hGP := hI.rg.hp
        have hXl := hI.rg.xl
        try simp -dsimp -implicitDefEqProofs (disch := omega) only [go_sem, undef, reduceAdd, reduceSub, reduceGT, reduceEqDiff, reduceMul, w64, rgH, it1, it2, hGP, hXl]
        refine hN _ ?_
        try clear hN N
        refine AW.nameH (fun G hG => ?_)
        dsimp only at hG
        obtain ⟨X, hI⟩ := hI.stP (k := 1) (w := w9) (by omega) (by omega); rw [hG] at hI
        clear hG
        have hGP := hI.rg.hp
        have hXl := hI.rg.xl
        refine AW.drawF envOk (by kernel_rfl) [true, true, true, true, false, true, false] (by kernel_rfl) ?_
        simp -dsimp -implicitDefEqProofs (disch := omega) only [go_sem, undef, reduceAdd, reduceSub, reduceGT, reduceEqDiff, reduceMul, w64, rgH, it1, it2, hGP, hXl]
        obtain ⟨a9, s9, ho9, hs9⟩ := hI.src
        refine (spec_l31Tail_z bs a9 s9 ho9 p (by omega) n P (bcV q n) one_bcV hn6.2 3 (by omega) (by omega) _ _ sid hs9).mono2 ?_
        rintro m9 H9 r9 hm9 ⟨w9, a8, s8, rfl, hw9, ho8, hf9⟩
        replace hI := hI.tail (by omega) hf9 ho8
        have hGP := hI.rg.hp
        have hXl := hI.rg.xl
        try simp -dsimp -implicitDefEqProofs (disch := omega) only [go_sem, undef, reduceAdd, reduceSub, reduceGT, reduceEqDiff, reduceMul, w64, rgH, it1, it2, hGP, hXl]
        refine hN1 _ ?_
        try clear hN1 N1
        refine AW.nameH (fun G hG => ?_)
        dsimp only at hG
        first| (rw [hG] at hI)| (obtain ⟨X, hI⟩ := hI.stP (k := 0) (w := w9) (by omega) (by omega); rw [hG] at hI)| (obtain ⟨X, hI⟩ := hI.stP (k := 1) (w := w9) (by omega) (by omega); rw [hG] at hI)| (obtain ⟨X, hI⟩ := hI.stP (k := 2) (w := w9) (by omega) (by omega); rw [hG] at hI)| (obtain ⟨Y, hI⟩ := hI.stB (k := 1) (l := 0) (w := L) (by omega) (by omega) (by omega); rw [hG] at hI)
        have hbx := hI.bx
        refine AW.sr envOk (fun N hN => ?_)
        simp -dsimp -implicitDefEqProofs (disch := omega) only [go_sem, undef, reduceAdd, reduceSub, reduceGT, reduceEqDiff, reduceMul, w64, rgH, it1, it2, hbx, one_bcV, bcV]
        refine hN _ ?_
        try clear hN N
        refine AW.ret ?_
        simp -dsimp -implicitDefEqProofs (disch := omega) only [go_sem, undef, reduceAdd, reduceSub, reduceGT, reduceEqDiff, reduceMul]
        obtain ⟨a7, s7, ho7, hs7⟩ := hI.src
        exact ⟨_, fun _ _ h => h, n, p, P, q, X, Y, a7, s7, hn6, hp, rfl, (hI.rg.keep (fun j g1 g2 => upd_ne _ _ (by omega)) (by omega)).lo (by omega), ho7, (upd_ne _ _ (by omega)).trans hs7, fun i g1 g2 => (upd_ne _ _ (by omega)).trans (hI.fr i g1 g2)⟩
       ·try simp only [cn] at h9
        refine AW.sr envOk (fun N hN => ?_)
        simp -dsimp -implicitDefEqProofs (disch := omega) only [go_sem, undef, reduceAdd, reduceSub, reduceGT, reduceEqDiff, reduceMul, w64, rgH, it1, it2]
        refine hN _ ?_
        try clear hN N
        refine AW.cond rfl (fun h10 => ?_) (fun h10 => ?_)
        ·try simp only [cn] at h10
         have hn6' : n = 6 := by omega
         obtain ⟨hGq, hYl, hqm, hqP⟩ := hI.rg.hq 0 (by omega)
         obtain ⟨L3, hU3, hL3⟩ := spec_l31Unit_z p n P (bcV q n) one_bcV hn6.2 3 (by omega) (by omega)
         obtain ⟨L4, hU4, hL4⟩ := spec_l31Unit_z p n P (bcV q n) one_bcV hn6.2 4 (by omega) (by omega)
         refine AW.seq (fun N hN => ?_)
         refine AW.drawF envOk (by kernel_rfl) [true, true, true, true, true, false, true, false] (by kernel_rfl) ?_
         simp -dsimp -implicitDefEqProofs (disch := omega) only [go_sem, undef, reduceAdd, reduceSub, reduceGT, reduceEqDiff, reduceMul, w64, rgH, it1, it2, bcV, hGq, hYl]
         refine AC.pure (.of (hU3 )) ?_
         try simp -dsimp -implicitDefEqProofs (disch := omega) only [go_sem, undef, reduceAdd, reduceSub, reduceGT, reduceEqDiff, reduceMul, w64, rgH, it1, it2, bcV, hGq, hYl]
         refine hN _ ?_
         try clear hN N
         refine AW.nameH (fun G hG => ?_)
         dsimp only at hG
         obtain ⟨Y, hI⟩ := hI.stB (k := 0) (l := 0) (w := L3) (by omega) (by omega) (by omega); rw [hG] at hI
         clear hG
         obtain ⟨hGq, hYl, hqm, hqP⟩ := hI.rg.hq 0 (by omega)
         refine AW.seq (fun N hN => ?_)
         refine AW.drawF envOk (by kernel_rfl) [true, true, true, true, true, false, true, false] (by kernel_rfl) ?_
         simp -dsimp -implicitDefEqProofs (disch := omega) only [go_sem, undef, reduceAdd, reduceSub, reduceGT, reduceEqDiff, reduceMul, w64, rgH, it1, it2, bcV, hGq, hYl]
         refine AC.pure (.of (hU4 )) ?_
         try simp -dsimp -implicitDefEqProofs (disch := omega) only [go_sem, undef, reduceAdd, reduceSub, reduceGT, reduceEqDiff, reduceMul, w64, rgH, it1, it2, bcV, hGq, hYl]
         refine hN _ ?_
         try clear hN N
         refine AW.nameH (fun G hG => ?_)
         dsimp only at hG
         obtain ⟨Y, hI⟩ := hI.stB (k := 0) (l := 1) (w := L4) (by omega) (by omega) (by omega); rw [hG] at hI
         clear hG
         obtain ⟨hGq, hYl, hqm, hqP⟩ := hI.rg.hq 1 (by omega)
         refine AW.regionL envOk ?_
         simp -dsimp -implicitDefEqProofs (disch := omega) only [go_sem, undef, reduceAdd, reduceSub, reduceGT, reduceEqDiff, reduceMul, w64, rgH, it1, it2, bcV, hGq, hYl]
         refine hN1 _ ?_
         try clear hN1 N1
         refine AW.nameH (fun G hG => ?_)
         dsimp only at hG
         first| (rw [hG] at hI)| (obtain ⟨X, hI⟩ := hI.stP (k := 0) (w := w9) (by omega) (by omega); rw [hG] at hI)| (obtain ⟨X, hI⟩ := hI.stP (k := 1) (w := w9) (by omega) (by omega); rw [hG] at hI)| (obtain ⟨X, hI⟩ := hI.stP (k := 2) (w := w9) (by omega) (by omega); rw [hG] at hI)| (obtain ⟨Y, hI⟩ := hI.stB (k := 1) (l := 0) (w := L) (by omega) (by omega) (by omega); rw [hG] at hI)
         have hbx := hI.bx
         refine AW.sr envOk (fun N hN => ?_)
         simp -dsimp -implicitDefEqProofs (disch := omega) only [go_sem, undef, reduceAdd, reduceSub, reduceGT, reduceEqDiff, reduceMul, w64, rgH, it1, it2, hbx, one_bcV, bcV]
         refine hN _ ?_
         try clear hN N
         refine AW.ret ?_
         simp -dsimp -implicitDefEqProofs (disch := omega) only [go_sem, undef, reduceAdd, reduceSub, reduceGT, reduceEqDiff, reduceMul]
         obtain ⟨a7, s7, ho7, hs7⟩ := hI.src
         exact ⟨_, fun _ _ h => h, n, p, P, q, X, Y, a7, s7, hn6, hp, rfl, (hI.rg.keep (fun j g1 g2 => upd_ne _ _ (by omega)) (by omega)).lo (by omega), ho7, (upd_ne _ _ (by omega)).trans hs7, fun i g1 g2 => (upd_ne _ _ (by omega)).trans (hI.fr i g1 g2)⟩
        ·try simp only [cn] at h10
         omega
end Go.Proofs.Ytkmgmjajbiddbaa
