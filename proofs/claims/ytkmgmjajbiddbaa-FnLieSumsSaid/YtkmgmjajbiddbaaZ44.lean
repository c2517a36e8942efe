import Derived.Test.YtkmgmjajbiddbaaZ43
set_option linter.unusedVariables false
set_option linter.unusedSimpArgs false
namespace Go.Proofs.Ytkmgmjajbiddbaa
open Nat (reduceAdd reduceSub reduceGT reduceEqDiff reduceMul)
def bcl (q : Nat → Nat) (n i : Nat) : List AV := (List.range i).map fun k => .h (q k) 0 (n - 1 - k)
theorem bcl_len {q : Nat → Nat} {n i : Nat} : (bcl q n i).length = i := by simp [bcl]
theorem bcl_get {q : Nat → Nat} {n i k : Nat} (h : k < i) : (bcl q n i).getD k .j = .h (q k) 0 (n - 1 - k) := by simp [bcl, h]
attribute [go_sem] bcl_len bcl_get
theorem bcl_snoc {q : Nat → Nat} {n i R : Nat} : bcl q n i ++ [.h R 0 (n - 1 - i)] = bcl (fun k => if k = i then R else q k) n (i + 1) := by
  unfold bcl
  rw [List.range_succ, List.map_append]
  congr 1
  · refine List.map_congr_left fun k hk => ?_
    have := List.mem_range.1 hk
    show _ = AV.h (if k = i then R else q k) 0 _
    rw [if_neg (by omega)]
  · simp
structure RgD (lo m n i P B : Nat) (q : Nat → Nat) (X : List (List Int)) (Y : List (List (List Int))) (H : HP) : Prop where
  hp : H P = some (X.map ints)
  xl : X.length = i
  hb : H B = some (bcl q n i)
  yl : Y.length = i
  hq : ∀ k, k < i → H (q k) = some ((Y.getD k []).map ints) ∧ (Y.getD k []).length = n - 1 - k ∧ (lo ≤ q k ∧ q k < m) ∧ q k ≠ P ∧ q k ≠ B
  inj : ∀ j k, j < i → k < i → q j = q k → j = k
  pb : (lo ≤ P ∧ P < m) ∧ (lo ≤ B ∧ B < m) ∧ P ≠ B
  le : (∀ x ∈ X, x.length ≤ 6) ∧ ∀ y ∈ Y, ∀ x ∈ y, x.length ≤ 6
theorem RgD.keep {lo m m' n i P B : Nat} {q : Nat → Nat} {X : List (List Int)} {Y : List (List (List Int))} {H H' : HP} (h : RgD lo m n i P B q X Y H) (hk : ∀ j, lo ≤ j → j < m → H' j = H j) (hm : m ≤ m') : RgD lo m' n i P B q X Y H' := by
  obtain ⟨h1, h2, h3, h4, h5, h6, h7, h8⟩ := h
  refine ⟨(hk P h7.1.1 h7.1.2).trans h1, h2, (hk B h7.2.1.1 h7.2.1.2).trans h3, h4, fun k hi => ?_, h6, by omega, h8⟩
  obtain ⟨g1, g2, g3, g4, g5⟩ := h5 k hi
  exact ⟨(hk _ g3.1 g3.2).trans g1, g2, by omega, g4, g5⟩
theorem RgD.lo {lo lo' m n i P B : Nat} {q : Nat → Nat} {X : List (List Int)} {Y : List (List (List Int))} {H : HP} (h : RgD lo' m n i P B q X Y H) (hl : lo ≤ lo') : RgD lo m n i P B q X Y H := by
  obtain ⟨h1, h2, h3, h4, h5, h6, h7, h8⟩ := h
  refine ⟨h1, h2, h3, h4, fun k hi => ?_, h6, by omega, h8⟩
  obtain ⟨g1, g2, g3, g4, g5⟩ := h5 k hi
  exact ⟨g1, g2, by omega, g4, g5⟩
theorem app_le {α : Type} {p : α → Prop} {X : List α} {x : α} (h : ∀ z ∈ X, p z) (hx : p x) : ∀ z ∈ X ++ [x], p z := fun z hz => by
  rcases List.mem_append.1 hz with h1 | h1
  · exact h z h1
  · rw [List.mem_singleton.1 h1]; exact hx
theorem set_le {α : Type} {p : α → Prop} {X : List α} {k : Nat} {x : α} (h : ∀ z ∈ X, p z) (hx : p x) : ∀ z ∈ X.set k x, p z := fun z hz => by
  rcases List.mem_or_eq_of_mem_set hz with h1 | h1
  · exact h z h1
  · rw [h1]; exact hx
theorem getDY_le {Y : List (List (List Int))} (h : ∀ y ∈ Y, ∀ x ∈ y, x.length ≤ 6) (k : Nat) : ∀ x ∈ Y.getD k [], x.length ≤ 6 := by
  intro x hx
  by_cases hk : k < Y.length
  · rw [List.getD_eq_getElem?_getD, List.getElem?_eq_getElem hk] at hx
    exact h _ (List.getElem_mem hk) x hx
  · rw [List.getD_eq_getElem?_getD, List.getElem?_eq_none (by omega)] at hx; cases hx
theorem RgD.push {lo m m' n i P B P' B' R : Nat} {q : Nat → Nat} {X : List (List Int)} {Y : List (List (List Int))} {H H' : HP} {x : List Int} {y : List (List Int)} (h : RgD lo m n i P B q X Y H) (hk : ∀ k, k < i → H' (q k) = H (q k)) (hP : H' P' = some ((X ++ [x]).map ints)) (hB : H' B' = some (bcl q n i ++ [.h R 0 (n - 1 - i)])) (hR : H' R = some (y.map ints)) (hy : y.length = n - 1 - i) (h1 : m ≤ P' ∧ P' < m') (h2 : m ≤ B' ∧ B' < m') (h3 : m ≤ R ∧ R < m') (h4 : P' ≠ B' ∧ R ≠ P' ∧ R ≠ B') (hx6 : x.length ≤ 6) (hy6 : ∀ z ∈ y, z.length ≤ 6) : RgD lo m' n (i + 1) P' B' (fun k => if k = i then R else q k) (X ++ [x]) (Y ++ [y]) H' := by
  obtain ⟨g1, g2, g3, g4, g5, g6, g7, g8⟩ := h
  refine ⟨hP, by simp [g2], by rw [hB, bcl_snoc], by simp [g4], fun k hi => ?_, fun j k hj hk2 e => ?_, by omega, app_le g8.1 hx6, app_le g8.2 hy6⟩
  · by_cases e : k = i
    · subst e
      have : (Y ++ [y]).getD k [] = y := by simp [← g4]
      rw [this]
      simp only [if_true]
      exact ⟨hR, hy, by omega, h4.2.1, h4.2.2⟩
    · have : (Y ++ [y]).getD k [] = Y.getD k [] := by rw [List.getD_eq_getElem?_getD, List.getElem?_append_left (by omega), ← List.getD_eq_getElem?_getD]
      rw [this]
      simp only [e, if_false]
      obtain ⟨e1, e2, e3, e4, e5⟩ := g5 k (by omega)
      exact ⟨(hk k (by omega)).trans e1, e2, by omega, by omega, by omega⟩
  · try dsimp only at e
    by_cases e1 : j = i
    · by_cases e2 : k = i
      · omega
      · rw [if_pos e1, if_neg e2] at e
        have := (g5 k (by omega)).2.2.1; omega
    · by_cases e2 : k = i
      · rw [if_neg e1, if_pos e2] at e
        have := (g5 j (by omega)).2.2.1; omega
      · rw [if_neg e1, if_neg e2] at e
        exact g6 j k (by omega) (by omega) e
theorem RgD.setP {lo m m' n i P B k : Nat} {q : Nat → Nat} {X : List (List Int)} {Y : List (List (List Int))} {H H' : HP} {w : List Int} (h : RgD lo m n i P B q X Y H) (hk : ∀ j, lo ≤ j → j < m → j ≠ P → H' j = H j) (hP : H' P = some ((X.set k w).map ints)) (hm : m ≤ m') (hw : w.length ≤ 6) : RgD lo m' n i P B q (X.set k w) Y H' := by
  obtain ⟨h1, h2, h3, h4, h5, h6, h7, h8⟩ := h
  refine ⟨hP, by simp [h2], (hk B h7.2.1.1 h7.2.1.2 (by omega)).trans h3, h4, fun k hi => ?_, h6, by omega, set_le h8.1 hw, h8.2⟩
  obtain ⟨g1, g2, g3, g4, g5⟩ := h5 k hi
  exact ⟨(hk _ g3.1 g3.2 g4).trans g1, g2, by omega, g4, g5⟩
theorem RgD.setB {lo m m' n i P B k l : Nat} {q : Nat → Nat} {X : List (List Int)} {Y : List (List (List Int))} {H H' : HP} {w : List Int} (h : RgD lo m n i P B q X Y H) (hki : k < i) (hk : ∀ j, lo ≤ j → j < m → j ≠ q k → H' j = H j) (hB : H' (q k) = some (((Y.getD k []).set l w).map ints)) (hm : m ≤ m') (hw : w.length ≤ 6) : RgD lo m' n i P B q X (Y.set k ((Y.getD k []).set l w)) H' := by
  obtain ⟨h1, h2, h3, h4, h5, h6, h7, h8⟩ := h
  obtain ⟨e1, e2, e3, e4, e5⟩ := h5 k hki
  refine ⟨(hk P h7.1.1 h7.1.2 (by omega)).trans h1, h2, (hk B h7.2.1.1 h7.2.1.2 (by omega)).trans h3, by simp [h4], fun j hj => ?_, h6, by omega, h8.1, set_le h8.2 (set_le (getDY_le h8.2 k) hw)⟩
  obtain ⟨g1, g2, g3, g4, g5⟩ := h5 j hj
  by_cases e : j = k
  · subst e
    have : (Y.set j ((Y.getD j []).set l w)).getD j [] = (Y.getD j []).set l w := by simp [List.getD_eq_getElem?_getD, h4, hj]
    rw [this]
    exact ⟨hB, by simpa using e2, by omega, g4, g5⟩
  · have : (Y.set k ((Y.getD k []).set l w)).getD j [] = Y.getD j [] := by
      rw [List.getD_eq_getElem?_getD, List.getElem?_set_ne (by omega), ← List.getD_eq_getElem?_getD]
    rw [this]
    exact ⟨(hk _ g3.1 g3.2 (fun e9 => e (h6 j k hj hki e9))).trans g1, g2, by omega, g4, g5⟩
theorem RgD.fz {lo m n P B : Nat} {p : Int} {q : Nat → Nat} {X : List (List Int)} {Y : List (List (List Int))} {H : HP} (h : RgD lo m n n P B q X Y H) : ∃ H2, FzH H H2 ∧ Fz H H2 (rgH p n P (.h B 0 n)) (ring p X Y) ∧ ∀ j, j < lo → H2 j = H j := by
  obtain ⟨h1, h2, h3, h4, h5, h6, h7, h8⟩ := h
  let H2 : HP := fun j => if j < lo then H j else none
  have hn : ∀ j, lo ≤ j → H2 j = none := fun j hj => by simp only [H2]; rw [if_neg (by omega)]
  refine ⟨H2, fun j cs hj => ?_, ?_, fun j hj => by simp only [H2, hj, if_true]⟩
  · by_cases e : j < lo
    · simp only [H2, e, if_true] at hj
      exact ⟨cs, hj, rfl, fun k x y h1 h2 => by rw [h1] at h2; cases h2; exact .refl _⟩
    · rw [hn j (by omega)] at hj; cases hj
  · refine .g _ _ rfl fun k x y hx hy => ?_
    match k, hx, hy with
    | 0, hx, hy => cases hx; cases hy; exact .refl _
    | 1, hx, hy =>
      cases hx; cases hy
      unfold rows
      rw [h2]
      exact .h P 0 n _ _ h1 (hn P h7.1.1) (by simp [h2]) (by simp [h2]) fun k x y g1 g2 => by rw [Nat.zero_add, g2] at g1; cases g1; exact .refl _
    | 2, hx, hy =>
      cases hx; cases hy
      unfold cubes
      rw [h4]
      refine .h B 0 n _ _ h3 (hn B h7.2.1.1) (by simp [bcl]) (by simp [h4]) fun k x y g1 g2 => ?_
      have hk : k < n := by have := (List.getElem?_eq_some_iff.1 g2).1; simpa [h4] using this
      obtain ⟨e1, e2, e3, e4, e5⟩ := h5 k hk
      rw [Nat.zero_add] at g1
      have hx1 : x = .h (q k) 0 (n - 1 - k) := by
        rw [bcl, List.getElem?_map, List.getElem?_range hk] at g1
        exact (Option.some.inj g1).symm
      have hy1 : y = rows (Y.getD k []) := by
        rw [List.getElem?_map] at g2
        rw [List.getD_eq_getElem?_getD, List.getElem?_eq_getElem (by omega)]
        rw [List.getElem?_eq_getElem (by omega)] at g2
        exact (Option.some.inj g2).symm
      subst hx1 hy1
      unfold rows
      rw [e2]
      exact .h (q k) 0 _ _ _ e1 (hn _ e3.1) (by simp only [List.length_map]; omega) (by simp only [List.length_map]; omega) fun k x y g1 g2 => by rw [Nat.zero_add, g2] at g1; cases g1; exact .refl _
set_option maxHeartbeats 2000000 in
theorem spec_l31Cyclic_n (p : Int) (n : Nat) (hn : n ≤ 6) (nx : Nat) : AC Try.prog 121 nx noH [.i .i64 p, .i .i64 n] (fun nx' H' r => ∃ P B q X Y, r = rgH p n P (.h B 0 n) ∧ RgD nx nx' n n P B q X Y H') := by
  refine AC.introx envOk Try.func121 rfl (by kernel_rfl) Try.ntmps121 Try.results121 (fun hfr => ?_)
  refine AW.sr envOk (fun N hN => ?_)
  simp -dsimp -implicitDefEqProofs (disch := omega) only [go_sem, undef, reduceAdd, reduceSub, reduceGT, reduceEqDiff, reduceMul, ]
  refine hN _ ?_
  try clear hN N
  refine AW.sr envOk (fun N hN => ?_)
  simp -dsimp -implicitDefEqProofs (disch := omega) only [go_sem, undef, reduceAdd, reduceSub, reduceGT, reduceEqDiff, reduceMul, ]
  refine hN _ ?_
  try clear hN N
  refine AW.seq (fun N1 hN1 => ?_)
  refine AW.sr envOk (fun N hN => ?_)
  simp -dsimp -implicitDefEqProofs (disch := omega) only [go_sem, undef, reduceAdd, reduceSub, reduceGT, reduceEqDiff, reduceMul, ]
  refine hN _ ?_
  try clear hN N
  refine AW.block ?_
  refine AW.loopN (α := Nat × Nat × Nat × (Nat → Nat) × HP) (fun x => sl 55 [(1, .i .i64 n), (4, .q nx 0), (5, .q (nx + 1 + 4) 0), (6, .i .i64 x.1)])
    (fun x => x.2.2.2.2)
    (fun x m => ((x.1 ≤ n ∧ nx + 7 ≤ m) ∧ ∀ d, m ≤ d → x.2.2.2.2 d = none) ∧ (x.2.1 ≠ nx + 1 + 4 ∧ x.2.2.1 ≠ nx + 1 + 4 ∧ ∀ k, k < x.1 → x.2.2.2.1 k ≠ nx + 1 + 4) ∧ x.2.2.2.2 nx = some [.i .i64 0, .nl, .nl] ∧ x.2.2.2.2 (nx + 1 + 4) = some [.i .i64 p, .h x.2.1 0 x.1, .h x.2.2.1 0 x.1] ∧ ∃ X Y, RgD (nx + 1) m n x.1 x.2.1 x.2.2.1 x.2.2.2.1 X Y x.2.2.2.2) (fun x => n - x.1) (0, nx + 1 + 1, nx + 1 + 2, (fun _ => 0), upd (upd (upd (upd noH nx (some [.i .i64 0, .nl, .nl])) (nx + 1 + 1) (some [])) (nx + 1 + 2) (some [])) (nx + 1 + 4) (some [.i .i64 p, .h (nx + 1 + 1) 0 0, .h (nx + 1 + 2) 0 0])) ?_ ?_ ?_ ?_
  · refine ⟨⟨⟨Nat.zero_le _, by first| omega| (simp only; omega)| (dsimp only; omega)⟩, fun d hd => (by dsimp only at hd ⊢; simp (disch := omega) only [upd_ne]; rfl)⟩, ⟨by first| omega| (simp only; omega)| (dsimp only; omega), by first| omega| (simp only; omega)| (dsimp only; omega), fun k hk => (by cases hk)⟩, ?_, ?_, [], [], ?_, rfl, ?_, rfl, fun k hk => (by cases hk), fun j k hj => (by cases hj), by first| omega| (simp only; omega)| (dsimp only; omega), fun z hz => (by cases hz), fun z hz => (by cases hz)⟩ <;> dsimp only
    · simp (disch := omega) only [upd_same, upd_ne]
    · simp (disch := omega) only [upd_same, upd_ne]
    · simp (disch := omega) only [upd_same, upd_ne]; rfl
    · simp (disch := omega) only [upd_same, upd_ne]; rfl
  · simp (disch := omega) [wks, wkA, sl, w64, ints, rows, cubes, ] <;> omega
  · exact Le.refl _
  rintro ⟨i, P, B, q, G⟩ m ⟨⟨⟨hi, hm⟩, hGn⟩, ⟨hPe, hBe, hqe⟩, h0, h5, X, Y, hR⟩
  dsimp only at hi hm hGn hPe hBe hqe h0 h5 hR ⊢
  have hGP := hR.hp
  have hGB := hR.hb
  have hXl := hR.xl
  have hpb := hR.pb
  simp -dsimp -implicitDefEqProofs (disch := omega) only [go_sem, undef, reduceAdd, reduceSub, reduceGT, reduceEqDiff, reduceMul]
  refine AW.seq (fun N2 hN2 => ?_)
  refine AW.sr envOk (fun N hN => ?_)
  simp -dsimp -implicitDefEqProofs (disch := omega) only [go_sem, undef, reduceAdd, reduceSub, reduceGT, reduceEqDiff, reduceMul, ]
  refine hN _ ?_
  try clear hN N
  refine AW.cond rfl (fun h1 => ?_) (fun h1 => ?_)
  · try simp only [cn] at h1
    refine AW.skip ?_
    simp only [thn, blk]
    refine hN2 _ ?_
    try clear hN2 N2
    refine AW.seq (fun N3 hN3 => ?_)
    refine AW.block ?_
    refine AW.sr envOk (fun N hN => ?_)
    simp -dsimp -implicitDefEqProofs (disch := omega) only [go_sem, undef, reduceAdd, reduceSub, reduceGT, reduceEqDiff, reduceMul, ]
    refine hN _ ?_
    try clear hN N
    refine AW.seq (fun N4 hN4 => ?_)
    refine AW.sr envOk (fun N hN => ?_)
    simp -dsimp -implicitDefEqProofs (disch := omega) only [go_sem, undef, reduceAdd, reduceSub, reduceGT, reduceEqDiff, reduceMul, w64]
    refine hN _ ?_
    try clear hN N
    have hJ : ∀ s', Wk s' ⟨sl 55 [(1, .i .i64 n), (4, .q nx 0), (5, .q (nx + 1 + 4) 0), (6, .i .i64 i), (7, .h (m + 3 + 1) 0 n)], upd G (m + 3 + 1) (some (ivs n (fun j => if j = i + 1 then 1 else 0))), m + 30⟩ → N4 s' := by
      intro s' h
      refine hN4 s' (AW.wk h ?_)
      refine AW.freeze 7 (m + 3 + 1) n (ivs n (fun j => if j = i + 1 then 1 else 0)) rfl (upd_same _ _ _) (by simp [ivs]) ?_
      simp -dsimp -implicitDefEqProofs (disch := omega) only [go_sem, undef, reduceAdd, reduceSub, reduceGT, reduceEqDiff, reduceMul]
      refine AW.sr envOk (fun N hN => ?_)
      simp -dsimp -implicitDefEqProofs (disch := omega) only [go_sem, undef, reduceAdd, reduceSub, reduceGT, reduceEqDiff, reduceMul, one_v, h5, hGP, hXl]
      refine hN _ ?_
      try clear hN N
      refine AW.nameH (fun G1 hG1 => ?_)
      dsimp only at hG1
      have hx1 : AV.v n (ivs n fun j => if j = i + 1 then 1 else 0) = ints (vec n fun j => if j = i + 1 then 1 else 0) := by unfold ints; rw [vec_len, vec_map]
      have hP1 : G1 (m + 30 + 4) = some ((X ++ [vec n fun j => if j = i + 1 then 1 else 0]).map ints) := by
        rw [← hG1, upd_ne _ _ (by omega), upd_same, List.take_of_length_le (by simp; omega), List.map_append, List.map_cons, List.map_nil, hx1]
      have h51 : G1 (nx + 1 + 4) = some [.i .i64 p, .h (m + 30 + 4) 0 (i + 1), .h B 0 i] := by rw [← hG1, upd_same]
      have hB1 : G1 B = some (bcl q n i) := by rw [← hG1]; simp (disch := omega) only [upd_ne]; exact hGB
      have h01 : G1 nx = some [.i .i64 0, .nl, .nl] := by rw [← hG1]; simp (disch := omega) only [upd_ne]; exact h0
      have hq1 : ∀ k, k < i → G1 (q k) = G (q k) := fun k hk => by
        have e1 := (hR.hq k hk).2.2
        have e2 := hqe k hk
        rw [← hG1]; simp (disch := omega) only [upd_ne]
      have hn1 : ∀ d, m + 37 ≤ d → G1 d = none := fun d hd => by rw [← hG1]; simp (disch := omega) only [upd_ne]; exact hGn d (by omega)
      clear hG1
      simp -dsimp -implicitDefEqProofs (disch := omega) only [go_sem, undef, reduceAdd, reduceSub, reduceGT, reduceEqDiff, reduceMul]
      refine AW.sr envOk (fun N hN => ?_)
      simp -dsimp -implicitDefEqProofs (disch := omega) only [go_sem, undef, reduceAdd, reduceSub, reduceGT, reduceEqDiff, reduceMul, ]
      refine hN _ ?_
      try clear hN N
      refine AW.seq (fun N5 hN5 => ?_)
      refine AW.sr envOk (fun N hN => ?_)
      simp -dsimp -implicitDefEqProofs (disch := omega) only [go_sem, undef, reduceAdd, reduceSub, reduceGT, reduceEqDiff, reduceMul, w64]
      refine hN _ ?_
      try clear hN N
      refine AW.block ?_
      refine AW.loopN (α := Nat × Nat) (fun x => sl 55 [(1, .i .i64 n), (4, .q nx 0), (5, .q (nx + 1 + 4) 0), (6, .i .i64 i), (8, .h x.2 0 x.1), (9, .i .i64 ((i + 1 + x.1 : Nat) : Int))])
        (fun x => upd G1 x.2 (some (List.replicate x.1 (ints (vec n fun _ => 0)))))
        (fun x q => i + 1 + x.1 ≤ n ∧ m + 37 ≤ x.2 ∧ x.2 < q ∧ m + 38 ≤ q) (fun x => n - x.1) (0, m + 30 + 7) ?_ ?_ ?_ ?_
      · dsimp only; omega
      · simp (disch := omega) [wks, wkA, sl, w64, ints, rows, cubes, ] <;> omega
      · exact Le.refl _
      rintro ⟨k, R⟩ m2 ⟨hk, hR1, hR2, hm2⟩
      dsimp only at hk hR1 hR2 hm2 ⊢
      simp -dsimp -implicitDefEqProofs (disch := omega) only [go_sem, undef, reduceAdd, reduceSub, reduceGT, reduceEqDiff, reduceMul]
      refine AW.seq (fun N6 hN6 => ?_)
      refine AW.sr envOk (fun N hN => ?_)
      simp -dsimp -implicitDefEqProofs (disch := omega) only [go_sem, undef, reduceAdd, reduceSub, reduceGT, reduceEqDiff, reduceMul, w64]
      refine hN _ ?_
      try clear hN N
      refine AW.cond rfl (fun h3 => ?_) (fun h3 => ?_)
      · try simp only [cn] at h3
        refine AW.skip ?_
        simp only [thn, blk]
        refine hN6 _ ?_
        try clear hN6 N6
        refine AW.seq (fun N7 hN7 => ?_)
        refine AW.block ?_
        refine AW.regionL envOk ?_
        simp -dsimp -implicitDefEqProofs (disch := omega) only [go_sem, undef, reduceAdd, reduceSub, reduceGT, reduceEqDiff, reduceMul, one_hc]
        refine hN7 _ ?_
        try clear hN7 N7
        refine AW.fzpush (m2 + 3 + 4) (m2 + 3 + 2) n (List.replicate k (ints (vec n fun _ => 0))) (List.replicate n (.i .i64 0)) ?_ ?_ (by simp) (by omega) ?_
        · dsimp only
          rw [upd_same, List.take_of_length_le (by simp)]
        · dsimp only
          rw [upd_ne _ _ (by omega), upd_ne _ _ (by omega), upd_ne _ _ (by omega), upd_same]
        refine AW.regionL envOk ?_
        simp -dsimp -implicitDefEqProofs (disch := omega) only [go_sem, undef, reduceAdd, reduceSub, reduceGT, reduceEqDiff, reduceMul, w64]
        refine ⟨(k + 1, m2 + 3 + 4), ?_, ?_, ?_, ?_⟩
        · simp (disch := omega) [wks, wkA, sl, w64, ints, rows, cubes, ] <;> omega
        · rw [rep_snoc]
          intro d cs hd
          dsimp only at hd ⊢
          simp only [upd] at hd ⊢
          have hn1d := hn1 d
          have := List.take_of_length_le (show (List.replicate k (ints (vec n fun x => 0))).length ≤ k by simp)
          grind
        · dsimp only; omega
        · dsimp only; omega
      · try simp only [cn] at h3
        refine AW.exit ?_
        simp only [thn, blk, if_true]
        refine hN5 _ ?_
        try clear hN5 N5
        have hkn : k = n - 1 - i := by omega
        have g5 : upd G1 R (some (List.replicate k (ints (vec n fun _ => 0)))) (nx + 1 + 4) = some [.i .i64 p, .h (m + 30 + 4) 0 (i + 1), .h B 0 i] := (upd_ne _ _ (by omega)).trans h51
        have gB : upd G1 R (some (List.replicate k (ints (vec n fun _ => 0)))) B = some (bcl q n i) := (upd_ne _ _ (by omega)).trans hB1
        refine AW.nameH (fun G2 hG2 => ?_)
        dsimp only at hG2
        rw [hG2] at g5 gB
        simp -dsimp -implicitDefEqProofs (disch := omega) only [go_sem, undef, reduceAdd, reduceSub, reduceGT, reduceEqDiff, reduceMul]
        refine AW.regionL envOk ?_
        simp -dsimp -implicitDefEqProofs (disch := omega) only [go_sem, undef, reduceAdd, reduceSub, reduceGT, reduceEqDiff, reduceMul, one_hc, g5, gB]
        refine hN3 _ ?_
        try clear hN3 N3
        refine AW.nameH (fun G3 hG3 => ?_)
        dsimp only at hG3
        have hR3 : G3 R = some ((List.replicate k (vec n fun _ => 0)).map ints) := by
          rw [← hG3]; simp (disch := omega) only [upd_ne]; rw [← hG2, upd_same, List.map_replicate]
        have hP3 : G3 (m + 30 + 4) = some ((X ++ [vec n fun j => if j = i + 1 then 1 else 0]).map ints) := by
          rw [← hG3]; simp (disch := omega) only [upd_ne]; rw [← hG2, upd_ne _ _ (by omega)]; exact hP1
        have hB3 : G3 (m2 + 3 + 4) = some (bcl q n i ++ [.h R 0 (n - 1 - i)]) := by
          rw [← hG3, upd_ne _ _ (by omega), upd_same, List.take_of_length_le (by rw [bcl_len]; omega), hkn]
        have h53 : G3 (nx + 1 + 4) = some [.i .i64 p, .h (m + 30 + 4) 0 (i + 1), .h (m2 + 3 + 4) 0 (i + 1)] := by rw [← hG3, upd_same]
        have h03 : G3 nx = some [.i .i64 0, .nl, .nl] := by rw [← hG3]; simp (disch := omega) only [upd_ne]; rw [← hG2, upd_ne _ _ (by omega)]; exact h01
        have hq3 : ∀ k, k < i → G3 (q k) = G (q k) := fun k hk => by
          have e1 := (hR.hq k hk).2.2
          have e2 := hqe k hk
          rw [← hG3]; simp (disch := omega) only [upd_ne]; rw [← hG2, upd_ne _ _ (by omega)]; exact hq1 k hk
        have hn3 : ∀ d, m2 + 3 + 7 ≤ d → G3 d = none := fun d hd => by
          rw [← hG3]; simp (disch := omega) only [upd_ne]; rw [← hG2, upd_ne _ _ (by omega)]; exact hn1 d (by omega)
        clear hG3 hG2
        simp -dsimp -implicitDefEqProofs (disch := omega) only [go_sem, undef, reduceAdd, reduceSub, reduceGT, reduceEqDiff, reduceMul]
        refine AW.regionL envOk ?_
        simp -dsimp -implicitDefEqProofs (disch := omega) only [go_sem, undef, reduceAdd, reduceSub, reduceGT, reduceEqDiff, reduceMul, w64]
        refine ⟨(i + 1, m + 30 + 4, m2 + 3 + 4, (fun k => if k = i then R else q k), G3), ?_, ?_, ?_, ?_⟩
        · simp (disch := omega) [wks, wkA, sl, w64, ints, rows, cubes, ] <;> omega
        · exact Le.refl _
        · refine ⟨⟨⟨by first| omega| (simp only; omega)| (dsimp only; omega), by first| omega| (simp only; omega)| (dsimp only; omega)⟩, fun d hd => hn3 d (by first| omega| (simp only; omega)| (dsimp only; omega))⟩, ⟨by first| omega| (simp only; omega)| (dsimp only; omega), by first| omega| (simp only; omega)| (dsimp only; omega), fun j hj => ?_⟩, h03, h53, _, _, hR.push hq3 hP3 hB3 hR3 (by simp; omega) (by first| omega| (simp only; omega)| (dsimp only; omega)) (by first| omega| (simp only; omega)| (dsimp only; omega)) (by first| omega| (simp only; omega)| (dsimp only; omega)) (by first| omega| (simp only; omega)| (dsimp only; omega)) (by rw [vec_len]; exact hn) (fun z hz => by rw [List.eq_of_mem_replicate hz, vec_len]; exact hn)⟩
          dsimp only at hj ⊢
          split
          · omega
          · exact hqe j (by omega)
        · dsimp only; omega
    refine AW.cond rfl (fun h2 => ?_) (fun h2 => ?_)
    · try simp only [cn] at h2
      refine AW.regionL envOk ?_
      simp -dsimp -implicitDefEqProofs (disch := omega) only [go_sem, undef, reduceAdd, reduceSub, reduceGT, reduceEqDiff, reduceMul, w64]
      refine hJ _ ⟨?_, ?_, ?_⟩
      · simp (disch := omega) [wks, wkA, sl, w64, ints, rows, cubes, ] <;> omega
      · rw [ivs_zero, unit_set (by omega)]
        exact Le.refl _
      · dsimp only; omega
    · try simp only [cn] at h2
      refine AW.skip ?_
      simp only [thn, blk]
      refine hJ _ ⟨?_, ?_, ?_⟩
      · simp (disch := omega) [wks, wkA, sl, w64, ints, rows, cubes, ] <;> omega
      · rw [ivs_zero, ivs_ext (f := fun _ => 0) (g := fun j => if j = i + 1 then 1 else 0) (fun j hj => by rw [if_neg (by omega)])]
        exact Le.refl _
      · dsimp only; omega
  · try simp only [cn] at h1
    refine AW.exit ?_
    simp only [thn, blk, if_true]
    refine hN1 _ ?_
    try clear hN1 N1
    refine AW.sr envOk (fun N hN => ?_)
    simp -dsimp -implicitDefEqProofs (disch := omega) only [go_sem, undef, reduceAdd, reduceSub, reduceGT, reduceEqDiff, reduceMul, h5, h0]
    refine hN _ ?_
    try clear hN N
    refine AW.ret ?_
    simp -dsimp -implicitDefEqProofs (disch := omega) only [go_sem, undef, reduceAdd, reduceSub, reduceGT, reduceEqDiff, reduceMul]
    have hin : i = n := by omega
    subst hin
    exact ⟨_, fun _ _ h => h, P, B, q, X, Y, rfl, (hR.keep (fun j h1 h2 => upd_ne _ _ (by omega)) (by omega)).lo (by omega)⟩
end Go.Proofs.Ytkmgmjajbiddbaa
