import Derived.Test.YtkmgmjajbiddbaaZ13
set_option linter.unusedVariables false
set_option linter.unusedSimpArgs false
namespace Go.Proofs.Ytkmgmjajbiddbaa
open Nat (reduceAdd reduceSub reduceGT reduceEqDiff reduceMul)
theorem AW.loop1 {P : Program} {c : Code} {s : St} {K : Exit → St → Prop} (h : AW P c s (thn K fun _ => False)) : AW P (.loop c) s K :=
  AW.loopN (α := Unit) (fun _ => s.t) (fun _ => s.H) (fun _ m => m = s.nx) (fun _ => 0) () rfl (by
    have : ∀ t : List AV, wks t t := by
      intro t
      induction t with
      | nil => exact trivial
      | cons x xs ih => exact ⟨.inr (.inl rfl), ih⟩
    exact this _) (fun _ _ h => h) (fun _ m hm => by
      subst hm
      exact h.mono (fun e s' h => by cases e <;> simp only [thn] at h ⊢ <;> first | exact h.elim | exact h))
def nst (p : Int) (pw : List (List Int)) (i : Nat) (f : Nat → Int) : Nat → Int := fun j => if j = i then f i % p else f j + f i / p * (pw.getD i []).getD j 0
def nrm (p : Int) (pw : List (List Int)) : Nat → (Nat → Int) → Nat → Int
  | 0, f => f
  | i + 1, f => nst p pw i (nrm p pw i f)
theorem qx_bd {p a x C : Int} (hp : 2 ≤ p) (hp7 : p ≤ 7) (hx : 0 ≤ x) (hx2 : x ≤ p) (ha : -C ≤ a) (ha2 : a ≤ C) : -(C + 7) ≤ a / p * x ∧ a / p * x ≤ C + 7 := by
  have h1 := Int.emod_nonneg a (show p ≠ 0 by omega)
  have h2 := Int.emod_lt_of_pos a (show 0 < p by omega)
  have h3 := Int.emod_add_mul_ediv a p
  rw [Int.mul_comm] at h3
  by_cases hq : 0 ≤ a / p
  · have h4 : a / p * x ≤ a / p * p := Int.mul_le_mul_of_nonneg_left hx2 hq
    have h5 : 0 ≤ a / p * x := Int.mul_nonneg hq hx
    omega
  · have h4 : a / p * p ≤ a / p * x := Int.mul_le_mul_of_nonpos_left (show a / p ≤ 0 by omega) hx2
    have h5 : a / p * x ≤ 0 := Int.mul_nonpos_of_nonpos_of_nonneg (by omega) hx
    omega
structure Tri (p : Int) (pw : List (List Int)) : Prop where
  p2 : 2 ≤ p
  p7 : p ≤ 7
  n6 : pw.length ≤ 6
  len : ∀ i, i < pw.length → (pw.getD i []).length = pw.length
  rng : ∀ i j, i < pw.length → j < pw.length → 0 ≤ (pw.getD i []).getD j 0 ∧ (pw.getD i []).getD j 0 ≤ p - 1
  tri : ∀ i j, i < pw.length → j ≤ i → (pw.getD i []).getD j 0 = 0
theorem shapeP.tri {p : Int} {pw : List (List Int)} {br : List (List (List Int))} (h : shapeP p pw br) : Tri p pw := by
  obtain ⟨h1, h2, h3, h4, h5⟩ := h
  have h6 := pr4_bd h1
  refine ⟨h6.1, h6.2, h2, fun i hi => ?_, fun i j hi hj => ?_, fun i j hi hj => (h5 i hi).2.1 j hj⟩
  · have := (h5 i hi).1.1; omega
  · have h7 := (h5 i hi).1
    exact h7.2 j (by have := h7.1; omega)
theorem nst_bd {p : Int} {pw : List (List Int)} (t : Tri p pw) {f : Nat → Int} {C : Int} (hC : 7 ≤ C) (hf : ∀ j, j < pw.length → -C ≤ f j ∧ f j ≤ C) {i : Nat} (hi : i < pw.length) : ∀ j, j < pw.length → -(2 * C + 7) ≤ nst p pw i f j ∧ nst p pw i f j ≤ 2 * C + 7 := by
  intro j hj
  have h1 := hf i hi
  have h2 := hf j hj
  have h3 := t.rng i j hi hj
  have h4 := qx_bd t.p2 t.p7 h3.1 (by omega) h1.1 h1.2
  have h5 := Int.emod_nonneg (f i) (show p ≠ 0 by have := t.p2; omega)
  have h6 := Int.emod_lt_of_pos (f i) (show 0 < p by have := t.p2; omega)
  have h7 := t.p7
  unfold nst
  split <;> omega
theorem nrm_bd {p : Int} {pw : List (List Int)} (t : Tri p pw) {f : Nat → Int} {C : Int} (hC : 14 ≤ C) (hf : ∀ j, j < pw.length → -(C - 7) ≤ f j ∧ f j ≤ C - 7) : ∀ i, i ≤ pw.length → ∀ j, j < pw.length → -(C * 2 ^ i - 7) ≤ nrm p pw i f j ∧ nrm p pw i f j ≤ C * 2 ^ i - 7 := by
  intro i
  induction i with
  | zero => intro _ j hj; simpa [nrm] using hf j hj
  | succ i ih =>
    intro hi j hj
    have h1 : (1 : Int) ≤ 2 ^ i := by have : 0 < (2 : Int) ^ i := Int.pow_pos (by decide); omega
    have h2 : C ≤ C * 2 ^ i := by have := Int.mul_le_mul_of_nonneg_left h1 (show 0 ≤ C by omega); omega
    have h3 := nst_bd t (show 7 ≤ C * 2 ^ i - 7 by omega) (ih (by omega)) (show i < pw.length by omega) j hj
    rw [Int.pow_succ, nrm]
    have h4 : C * (2 ^ i * 2) = 2 * (C * 2 ^ i) := by rw [← Int.mul_assoc, Int.mul_comm]
    omega
theorem two_bd {i : Nat} (h : i ≤ 6) : (2 : Int) ^ i ≤ 64 := by
  have h2 : (2 : Nat) ^ i ≤ 2 ^ 6 := Nat.pow_le_pow_right (by decide) h
  have h3 : ((2 ^ i : Nat) : Int) = (2 : Int) ^ i := by simp
  omega
theorem nrm_bd' {p : Int} {pw : List (List Int)} (t : Tri p pw) {f : Nat → Int} (hf : ∀ j, j < pw.length → -1000000000000000 ≤ f j ∧ f j ≤ 1000000000000000) {i : Nat} (hi : i ≤ pw.length) {j : Nat} (hj : j < pw.length) : -100000000000000000 ≤ nrm p pw i f j ∧ nrm p pw i f j ≤ 100000000000000000 := by
  have h1 := nrm_bd t (C := 1000000000000007) (by decide) (f := f) (fun j hj => by have := hf j hj; omega) i hi j hj
  have h2 := two_bd (show i ≤ 6 by have := t.n6; omega)
  omega
def nin (p : Int) (pw : List (List Int)) (i j : Nat) (f : Nat → Int) : Nat → Int := fun t => if t = i then f i % p else if t < j then f t + f i / p * (pw.getD i []).getD t 0 else f t
theorem nin_start {p : Int} {pw : List (List Int)} (t : Tri p pw) {i : Nat} (hi : i < pw.length) (f : Nat → Int) : ivs pw.length (fset f i (f i - f i / p * p)) = ivs pw.length (nin p pw i (i + 1) f) := by
  refine ivs_ext (fun k hk => ?_)
  unfold fset nin
  have h3 := Int.emod_add_mul_ediv (f i) p
  rw [Int.mul_comm] at h3
  by_cases h : k = i
  · simp only [h, if_true]; omega
  · simp only [h, if_false]
    split
    · rw [t.tri i k hi (by omega)]; simp
    · rfl
theorem nin_start0 {p : Int} {pw : List (List Int)} {i : Nat} (f : Nat → Int) : ivs pw.length (fset f i (f i - f i / p * p)) = ivs pw.length (nin p pw i 0 f) := by
  refine ivs_ext (fun k hk => ?_)
  unfold fset nin
  have h3 := Int.emod_add_mul_ediv (f i) p
  rw [Int.mul_comm] at h3
  by_cases h : k = i
  · simp only [h, if_true]; omega
  · simp [h]
theorem nin_step {p : Int} {pw : List (List Int)} (t : Tri p pw) {i j : Nat} (hi : i < pw.length) (f : Nat → Int) : ivs pw.length (fset (nin p pw i j f) j (nin p pw i j f j + f i / p * (pw.getD i []).getD j 0)) = ivs pw.length (nin p pw i (j + 1) f) := by
  refine ivs_ext (fun k hk => ?_)
  unfold fset nin
  by_cases h : k = j
  · subst h
    simp only [if_true, Nat.lt_irrefl, if_false]
    by_cases h2 : k = i
    · subst h2; rw [t.tri k k hi (Nat.le_refl _)]; simp
    · simp [h2]
  · simp only [h, if_false]
    by_cases h2 : k < j
    · simp [h2, show k < j + 1 by omega]
    · simp [h2, show ¬ k < j + 1 by omega]
theorem nin_end {p : Int} {pw : List (List Int)} {i : Nat} (f : Nat → Int) : ivs pw.length (nin p pw i pw.length f) = ivs pw.length (nst p pw i f) := by
  refine ivs_ext (fun k hk => ?_)
  unfold nin nst
  simp [hk]
theorem nin_bd {p : Int} {pw : List (List Int)} (t : Tri p pw) {f : Nat → Int} {i j : Nat} (hj : -100000000000000000 ≤ f j ∧ f j ≤ 100000000000000000) : -100000000000000007 ≤ nin p pw i j f j ∧ nin p pw i j f j ≤ 100000000000000007 := by
  have h5 := Int.emod_nonneg (f i) (show p ≠ 0 by have := t.p2; omega)
  have h6 := Int.emod_lt_of_pos (f i) (show 0 < p by have := t.p2; omega)
  have h7 := t.p7
  unfold nin
  split
  · omega
  · simp; omega
theorem spec_l31Norm_ok (p : Int) (pw : List (List Int)) (br : List (List (List Int))) (ht : Tri p pw) (c : List Int) (hc : c.length = pw.length) (hb : ∀ j, j < pw.length → -1000000000000000 ≤ c.getD j 0 ∧ c.getD j 0 ≤ 1000000000000000) : ACo Try.prog 79 [ring p pw br, ints c] (ints (vec pw.length (nrm p pw pw.length (fun j => c.getD j 0)))) := by
 have h6 := ht.n6
 have hp2 := ht.p2
 have hp7 := ht.p7
 refine FrI.aco (fun nx => ?_)
 refine AC.introx envOk Try.func79 rfl (by kernel_rfl) Try.ntmps79 Try.results79 (fun hfr => ?_)
 refine AW.sr envOk (fun N hN => ?_)
 simp -dsimp -implicitDefEqProofs (disch := omega) only [go_sem, undef, reduceAdd, reduceSub, reduceGT, reduceEqDiff, reduceMul, ring, ints, rows, cubes, gd_i, gd_r, gd_c, w64]
 refine hN _ ?_
 try clear hN N
 refine AW.sr envOk (fun N hN => ?_)
 simp -dsimp -implicitDefEqProofs (disch := omega) only [go_sem, undef, reduceAdd, reduceSub, reduceGT, reduceEqDiff, reduceMul, ring, ints, rows, cubes, gd_i, gd_r, gd_c, w64]
 refine (spec_l01Own_ok c (by omega) _ _).mono ?_
 rintro nx1 H1 r ⟨id, rfl, hid1, hid2, rfl⟩
 rw [hc]
 try simp -dsimp -implicitDefEqProofs (disch := omega) only [go_sem, undef, reduceAdd, reduceSub, reduceGT, reduceEqDiff, reduceMul, ring, ints, rows, cubes, gd_i, gd_r, gd_c, w64]
 refine hN _ ?_
 try clear hN N
 refine AW.seq (fun N1 hN1 => ?_)
 refine AW.sr envOk (fun N hN => ?_)
 simp -dsimp -implicitDefEqProofs (disch := omega) only [go_sem, undef, reduceAdd, reduceSub, reduceGT, reduceEqDiff, reduceMul, ring, ints, rows, cubes, gd_i, gd_r, gd_c, w64]
 refine hN _ ?_
 try clear hN N
 refine AW.block ?_
 refine AW.loopN (α := Nat) (fun x => sl 63 [(2, .q nx 0), (5, .h id 0 pw.length), (6, .i .i64 x)]) (fun x => upd (upd noH nx (some [.i .i64 p, rows pw, cubes br])) id (some (ivs pw.length (nrm p pw x (fun j => c.getD j 0))))) (fun x m => x ≤ pw.length ∧ nx1 ≤ m) (fun x => pw.length - x) (0) ?_ ?_ (fun _ _ h => h) ?_
 ·exact ⟨by omega, by simp only; omega⟩
 ·simp (disch := omega) [wks, wkA, sl, w64, ints, rows, cubes, ring, ints, rows, cubes, gd_i, gd_r, gd_c, w64] <;> omega
 ·skip
  rintro k m ⟨hk, hm⟩
  simp -dsimp -implicitDefEqProofs (disch := omega) only [go_sem, undef, reduceAdd, reduceSub, reduceGT, reduceEqDiff, reduceMul]
  refine AW.seq (fun N2 hN2 => ?_)
  refine AW.sr envOk (fun N hN => ?_)
  simp -dsimp -implicitDefEqProofs (disch := omega) only [go_sem, undef, reduceAdd, reduceSub, reduceGT, reduceEqDiff, reduceMul, ring, ints, rows, cubes, gd_i, gd_r, gd_c, w64]
  refine hN _ ?_
  try clear hN N
  refine AW.cond rfl (fun h1 => ?_) (fun h1 => ?_)
  ·try simp only [cn] at h1
   obtain ⟨F, hF⟩ : ∃ F, nrm p pw k (fun j => c.getD j 0) = F := ⟨_, rfl⟩
   have hFb : ∀ j, j < pw.length → -100000000000000000 ≤ F j ∧ F j ≤ 100000000000000000 := by
    intro j hj; rw [← hF]; exact nrm_bd' ht hb (by omega) hj
   have hFk := hFb k (by omega)
   rw [hF]
   have hlen := ht.len k (by omega)
   refine AW.skip ?_
   simp only [thn, blk]
   refine hN2 _ ?_
   try clear hN2 N2
   refine AW.seq (fun N3 hN3 => ?_)
   refine AW.block ?_
   refine AW.seq (fun N hN => ?_)
   refine AW.drawL envOk (by kernel_rfl) 8 (by kernel_rfl) ?_
   simp -dsimp -implicitDefEqProofs (disch := omega) only [hr_nil, hr_one, hr_if, List.take_succ_cons, List.take_zero, List.drop_succ_cons, List.drop_zero, List.take_nil, List.drop_nil, go_sem, undef, reduceAdd, reduceSub, reduceGT, reduceEqDiff, reduceMul, ring, ints, rows, cubes, gd_i, gd_r, gd_c, w64]
   refine ⟨_, .of (spec_l04Floor_ok (F k) p (by omega) (by omega) (by omega)), ?_⟩
   try simp -dsimp -implicitDefEqProofs (disch := omega) only [go_sem, undef, reduceAdd, reduceSub, reduceGT, reduceEqDiff, reduceMul, ring, ints, rows, cubes, gd_i, gd_r, gd_c, w64]
   have hqp := qx_bd hp2 hp7 (show 0 ≤ p by omega) (Int.le_refl p) hFk.1 hFk.2
   refine hN _ ?_
   try clear hN N
   refine AW.seq (fun N hN => ?_)
   refine AW.drawL envOk (by kernel_rfl) 12 (by kernel_rfl) ?_
   simp -dsimp -implicitDefEqProofs (disch := omega) only [hr_nil, hr_one, hr_if, List.take_succ_cons, List.take_zero, List.drop_succ_cons, List.drop_zero, List.take_nil, List.drop_nil, go_sem, undef, reduceAdd, reduceSub, reduceGT, reduceEqDiff, reduceMul, ring, ints, rows, cubes, gd_i, gd_r, gd_c, w64]
   refine hN _ ?_
   try clear hN N
   refine AW.sr envOk (fun N hN => ?_)
   simp -dsimp -implicitDefEqProofs (disch := omega) only [go_sem, undef, reduceAdd, reduceSub, reduceGT, reduceEqDiff, reduceMul, ring, ints, rows, cubes, gd_i, gd_r, gd_c, w64]
   refine hN _ ?_
   try clear hN N
   refine AW.block ?_
   refine AW.loopN (α := Nat) (fun x => sl 63 [(2, .q nx 0), (5, .h id 0 pw.length), (6, .i .i64 k), (7, .i .i64 (F k / p)), (8, .i .i64 x)]) (fun x => upd (upd noH nx (some [.i .i64 p, rows pw, cubes br])) id (some (ivs pw.length (nin p pw k x F)))) (fun x m => x ≤ pw.length ∧ nx1 ≤ m) (fun x => pw.length - x) (k + 1) ?_ ?_ (by rw [nin_start ht (by omega)]; exact Le.refl _) ?_
   ·exact ⟨by omega, by simp only; omega⟩
   ·simp (disch := omega) [wks, wkA, sl, w64, ints, rows, cubes, ring, ints, rows, cubes, gd_i, gd_r, gd_c, w64] <;> omega
   ·skip
    rintro j m2 ⟨hj, hm2⟩
    simp -dsimp -implicitDefEqProofs (disch := omega) only [go_sem, undef, reduceAdd, reduceSub, reduceGT, reduceEqDiff, reduceMul]
    refine AW.seq (fun N4 hN4 => ?_)
    refine AW.sr envOk (fun N hN => ?_)
    simp -dsimp -implicitDefEqProofs (disch := omega) only [go_sem, undef, reduceAdd, reduceSub, reduceGT, reduceEqDiff, reduceMul, ring, ints, rows, cubes, gd_i, gd_r, gd_c, w64]
    refine hN _ ?_
    try clear hN N
    refine AW.cond rfl (fun h2 => ?_) (fun h2 => ?_)
    ·try simp only [cn] at h2
     have hx := ht.rng k j (by omega) (by omega)
     have hqx := qx_bd hp2 hp7 hx.1 (by omega) hFk.1 hFk.2
     have hnin := nin_bd ht (i := k) (hFb j (by omega))
     refine AW.skip ?_
     simp only [thn, blk]
     refine hN4 _ ?_
     try clear hN4 N4
     refine AW.seq (fun N5 hN5 => ?_)
     refine AW.block ?_
     refine AW.drawL envOk (by kernel_rfl) 18 (by kernel_rfl) ?_
     simp -dsimp -implicitDefEqProofs (disch := omega) only [hr_nil, hr_one, hr_if, List.take_succ_cons, List.take_zero, List.drop_succ_cons, List.drop_zero, List.take_nil, List.drop_nil, go_sem, undef, reduceAdd, reduceSub, reduceGT, reduceEqDiff, reduceMul, ring, ints, rows, cubes, gd_i, gd_r, gd_c, w64]
     refine hN5 _ ?_
     try clear hN5 N5
     refine AW.regionL envOk ?_
     simp -dsimp -implicitDefEqProofs (disch := omega) only [go_sem, undef, reduceAdd, reduceSub, reduceGT, reduceEqDiff, reduceMul, ring, ints, rows, cubes, gd_i, gd_r, gd_c, w64]
     refine ⟨j + 1, ?_, by rw [nin_step ht (by omega)]; exact Le.refl _, ?_, ?_⟩
     ·simp (disch := omega) [wks, wkA, sl, w64, ints, rows, cubes, ring, ints, rows, cubes, gd_i, gd_r, gd_c, w64] <;> omega
     ·exact ⟨by omega, by omega⟩
     ·first | omega | (simp only; omega)
    ·try simp only [cn] at h2
     refine AW.exit ?_
     simp only [thn, blk, if_true]
     refine hN3 _ ?_
     try clear hN3 N3
     refine AW.regionL envOk ?_
     simp -dsimp -implicitDefEqProofs (disch := omega) only [go_sem, undef, reduceAdd, reduceSub, reduceGT, reduceEqDiff, reduceMul, ring, ints, rows, cubes, gd_i, gd_r, gd_c, w64]
     refine ⟨k + 1, ?_, by rw [show j = pw.length by omega, nin_end, nrm, hF]; exact Le.refl _, ?_, ?_⟩
     ·simp (disch := omega) [wks, wkA, sl, w64, ints, rows, cubes, ring, ints, rows, cubes, gd_i, gd_r, gd_c, w64] <;> omega
     ·exact ⟨by omega, by omega⟩
     ·first | omega | (simp only; omega)
  ·try simp only [cn] at h1
   refine AW.exit ?_
   simp only [thn, blk, if_true]
   refine hN1 _ ?_
   try clear hN1 N1
   refine AW.sr envOk (fun N hN => ?_)
   simp -dsimp -implicitDefEqProofs (disch := omega) only [go_sem, undef, reduceAdd, reduceSub, reduceGT, reduceEqDiff, reduceMul, ring, ints, rows, cubes, gd_i, gd_r, gd_c, w64]
   refine hN _ ?_
   try clear hN N
   refine AW.ret ?_
   simp -dsimp -implicitDefEqProofs (disch := omega) only [go_sem, undef, reduceAdd, reduceSub, reduceGT, reduceEqDiff, reduceMul]
   refine ⟨_, ?_, id, rfl, by omega, by omega, rfl⟩
   rw [show k = pw.length by omega]
   refine upd_le (fun i c h1 h2 => ?_) (fun d hd => by rw [upd_same]; exact hd)
   cases h2
theorem impl_normalLie_pos (p : Int) (pw : List (List Int)) (br : List (List (List Int))) (ht : Tri p pw) (hpos : 0 < pw.length) (c : List Int) (hc : c.length = pw.length) (hb : ∀ j, j < pw.length → -1000000000000000 ≤ c.getD j 0 ∧ c.getD j 0 ≤ 1000000000000000) : ACo Try.prog 77 [ringP p pw br, ints c] (ints (vec pw.length (nrm p pw pw.length (fun j => c.getD j 0)))) := by
 have h6 := ht.n6
 have hp2 := ht.p2
 have hp7 := ht.p7
 refine FrI.aco (fun nx => ?_)
 refine AC.introx envOk Try.func77 rfl (by kernel_rfl) Try.ntmps77 Try.results77 (fun hfr => ?_)
 refine AW.sr envOk (fun N hN => ?_)
 simp -dsimp -implicitDefEqProofs (disch := omega) only [go_sem, undef, reduceAdd, reduceSub, reduceGT, reduceEqDiff, reduceMul, ringP, ints, rows, cubes, gd_i, gd_r, gd_c, w64]
 refine hN _ ?_
 try clear hN N
 refine AW.sr envOk (fun N hN => ?_)
 simp -dsimp -implicitDefEqProofs (disch := omega) only [go_sem, undef, reduceAdd, reduceSub, reduceGT, reduceEqDiff, reduceMul, ringP, ints, rows, cubes, gd_i, gd_r, gd_c, w64]
 refine (slices_Clone_int64_int64_ok c (by omega) _ _).mono ?_
 rintro nx1 H1 r (⟨id, rfl, hid1, hid2, rfl⟩ | ⟨h0, -, -⟩)
 rotate_left
 ·omega
 rw [hc]
 try simp -dsimp -implicitDefEqProofs (disch := omega) only [go_sem, undef, reduceAdd, reduceSub, reduceGT, reduceEqDiff, reduceMul, ringP, ints, rows, cubes, gd_i, gd_r, gd_c, w64]
 refine hN _ ?_
 try clear hN N
 refine AW.seq (fun N1 hN1 => ?_)
 refine AW.sr envOk (fun N hN => ?_)
 simp -dsimp -implicitDefEqProofs (disch := omega) only [go_sem, undef, reduceAdd, reduceSub, reduceGT, reduceEqDiff, reduceMul, ringP, ints, rows, cubes, gd_i, gd_r, gd_c, w64]
 refine hN _ ?_
 try clear hN N
 refine AW.block ?_
 refine AW.loopN (α := Nat) (fun x => sl 63 [(0, ringP p pw br), (5, .h id 0 pw.length), (16, rows pw), (17, .i .i64 pw.length), (18, .i .i64 x)]) (fun x => upd noH id (some (ivs pw.length (nrm p pw x (fun j => c.getD j 0))))) (fun x m => x ≤ pw.length ∧ nx1 ≤ m) (fun x => pw.length - x) (0) ?_ ?_ (fun _ _ h => h) ?_
 ·exact ⟨by omega, by simp only; omega⟩
 ·simp (disch := omega) [wks, wkA, sl, w64, ints, rows, cubes, ringP, ints, rows, cubes, gd_i, gd_r, gd_c, w64] <;> omega
 ·skip
  rintro k m ⟨hk, hm⟩
  simp -dsimp -implicitDefEqProofs (disch := omega) only [go_sem, undef, reduceAdd, reduceSub, reduceGT, reduceEqDiff, reduceMul]
  refine AW.sr envOk (fun N hN => ?_)
  simp -dsimp -implicitDefEqProofs (disch := omega) only [go_sem, undef, reduceAdd, reduceSub, reduceGT, reduceEqDiff, reduceMul, ringP, ints, rows, cubes, gd_i, gd_r, gd_c, w64]
  refine hN _ ?_
  try clear hN N
  refine AW.seq (fun N2 hN2 => ?_)
  refine AW.cond rfl (fun h1 => ?_) (fun h1 => ?_)
  ·try simp only [cn] at h1
   obtain ⟨F, hF⟩ : ∃ F, nrm p pw k (fun j => c.getD j 0) = F := ⟨_, rfl⟩
   have hFb : ∀ j, j < pw.length → -100000000000000000 ≤ F j ∧ F j ≤ 100000000000000000 := by
    intro j hj; rw [← hF]; exact nrm_bd' ht hb (by omega) hj
   have hFk := hFb k (by omega)
   rw [hF]
   have hlen := ht.len k (by omega)
   refine AW.skip ?_
   simp only [thn, blk]
   refine hN2 _ ?_
   try clear hN2 N2
   refine AW.seq (fun N3 hN3 => ?_)
   refine AW.block ?_
   refine AW.sr envOk (fun N hN => ?_)
   simp -dsimp -implicitDefEqProofs (disch := omega) only [go_sem, undef, reduceAdd, reduceSub, reduceGT, reduceEqDiff, reduceMul, ringP, ints, rows, cubes, gd_i, gd_r, gd_c, w64]
   refine hN _ ?_
   try clear hN N
   refine AW.seq (fun N hN => ?_)
   refine AW.drawL envOk (by kernel_rfl) 10 (by kernel_rfl) ?_
   simp -dsimp -implicitDefEqProofs (disch := omega) only [hr_nil, hr_one, hr_if, List.take_succ_cons, List.take_zero, List.drop_succ_cons, List.drop_zero, List.take_nil, List.drop_nil, go_sem, undef, reduceAdd, reduceSub, reduceGT, reduceEqDiff, reduceMul, ringP, ints, rows, cubes, gd_i, gd_r, gd_c, w64]
   refine ⟨_, .of (impl_floorQuotient_ok (F k) p (by omega) (by omega) (by omega)), ?_⟩
   try simp -dsimp -implicitDefEqProofs (disch := omega) only [go_sem, undef, reduceAdd, reduceSub, reduceGT, reduceEqDiff, reduceMul, ringP, ints, rows, cubes, gd_i, gd_r, gd_c, w64]
   have hqp := qx_bd hp2 hp7 (show 0 ≤ p by omega) (Int.le_refl p) hFk.1 hFk.2
   refine hN _ ?_
   try clear hN N
   refine AW.seq (fun N hN => ?_)
   refine AW.drawL envOk (by kernel_rfl) 12 (by kernel_rfl) ?_
   simp -dsimp -implicitDefEqProofs (disch := omega) only [hr_nil, hr_one, hr_if, List.take_succ_cons, List.take_zero, List.drop_succ_cons, List.drop_zero, List.take_nil, List.drop_nil, go_sem, undef, reduceAdd, reduceSub, reduceGT, reduceEqDiff, reduceMul, ringP, ints, rows, cubes, gd_i, gd_r, gd_c, w64]
   refine hN _ ?_
   try clear hN N
   refine AW.sr envOk (fun N hN => ?_)
   simp -dsimp -implicitDefEqProofs (disch := omega) only [go_sem, undef, reduceAdd, reduceSub, reduceGT, reduceEqDiff, reduceMul, ringP, ints, rows, cubes, gd_i, gd_r, gd_c, w64]
   refine hN _ ?_
   try clear hN N
   refine AW.block ?_
   refine AW.loopN (α := Nat) (fun x => sl 63 [(0, ringP p pw br), (5, .h id 0 pw.length), (8, .i .i64 (F k / p)), (16, rows pw), (17, .i .i64 pw.length), (18, .i .i64 k), (44, ints (pw.getD k [])), (45, .i .i64 (pw.getD k []).length), (46, .i .i64 x)]) (fun x => upd noH id (some (ivs pw.length (nin p pw k x F)))) (fun x m => x ≤ pw.length ∧ nx1 ≤ m) (fun x => pw.length - x) (0) ?_ ?_ (by rw [nin_start0]; exact Le.refl _) ?_
   ·exact ⟨by omega, by simp only; omega⟩
   ·simp (disch := omega) [wks, wkA, sl, w64, ints, rows, cubes, ringP, ints, rows, cubes, gd_i, gd_r, gd_c, w64] <;> omega
   ·skip
    rintro j m2 ⟨hj, hm2⟩
    simp -dsimp -implicitDefEqProofs (disch := omega) only [go_sem, undef, reduceAdd, reduceSub, reduceGT, reduceEqDiff, reduceMul]
    refine AW.sr envOk (fun N hN => ?_)
    simp -dsimp -implicitDefEqProofs (disch := omega) only [go_sem, undef, reduceAdd, reduceSub, reduceGT, reduceEqDiff, reduceMul, ringP, ints, rows, cubes, gd_i, gd_r, gd_c, w64]
    refine hN _ ?_
    try clear hN N
    refine AW.seq (fun N4 hN4 => ?_)
    refine AW.cond rfl (fun h2 => ?_) (fun h2 => ?_)
    ·try simp only [cn] at h2
     have hx := ht.rng k j (by omega) (by omega)
     have hqx := qx_bd hp2 hp7 hx.1 (by omega) hFk.1 hFk.2
     have hnin := nin_bd ht (i := k) (hFb j (by omega))
     refine AW.skip ?_
     simp only [thn, blk]
     refine hN4 _ ?_
     try clear hN4 N4
     refine AW.seq (fun N5 hN5 => ?_)
     refine AW.block ?_
     refine AW.sr envOk (fun N hN => ?_)
     simp -dsimp -implicitDefEqProofs (disch := omega) only [go_sem, undef, reduceAdd, reduceSub, reduceGT, reduceEqDiff, reduceMul, ringP, ints, rows, cubes, gd_i, gd_r, gd_c, w64]
     refine hN _ ?_
     try clear hN N
     refine AW.regionL envOk ?_
     simp -dsimp -implicitDefEqProofs (disch := omega) only [go_sem, undef, reduceAdd, reduceSub, reduceGT, reduceEqDiff, reduceMul, ringP, ints, rows, cubes, gd_i, gd_r, gd_c, w64]
     refine hN5 _ ?_
     try clear hN5 N5
     refine AW.regionL envOk ?_
     simp -dsimp -implicitDefEqProofs (disch := omega) only [go_sem, undef, reduceAdd, reduceSub, reduceGT, reduceEqDiff, reduceMul, ringP, ints, rows, cubes, gd_i, gd_r, gd_c, w64]
     refine ⟨j + 1, ?_, by rw [nin_step ht (by omega)]; exact Le.refl _, ?_, ?_⟩
     ·simp (disch := omega) [wks, wkA, sl, w64, ints, rows, cubes, ringP, ints, rows, cubes, gd_i, gd_r, gd_c, w64] <;> omega
     ·exact ⟨by omega, by omega⟩
     ·first | omega | (simp only; omega)
    ·try simp only [cn] at h2
     refine AW.exit ?_
     simp only [thn, blk, if_true]
     refine hN3 _ ?_
     try clear hN3 N3
     refine AW.regionL envOk ?_
     simp -dsimp -implicitDefEqProofs (disch := omega) only [go_sem, undef, reduceAdd, reduceSub, reduceGT, reduceEqDiff, reduceMul, ringP, ints, rows, cubes, gd_i, gd_r, gd_c, w64]
     refine ⟨k + 1, ?_, by rw [show j = pw.length by omega, nin_end, nrm, hF]; exact Le.refl _, ?_, ?_⟩
     ·simp (disch := omega) [wks, wkA, sl, w64, ints, rows, cubes, ringP, ints, rows, cubes, gd_i, gd_r, gd_c, w64] <;> omega
     ·exact ⟨by omega, by omega⟩
     ·first | omega | (simp only; omega)
  ·try simp only [cn] at h1
   refine AW.exit ?_
   simp only [thn, blk, if_true]
   refine hN1 _ ?_
   try clear hN1 N1
   refine AW.sr envOk (fun N hN => ?_)
   simp -dsimp -implicitDefEqProofs (disch := omega) only [go_sem, undef, reduceAdd, reduceSub, reduceGT, reduceEqDiff, reduceMul, ringP, ints, rows, cubes, gd_i, gd_r, gd_c, w64]
   refine hN _ ?_
   try clear hN N
   refine AW.ret ?_
   simp -dsimp -implicitDefEqProofs (disch := omega) only [go_sem, undef, reduceAdd, reduceSub, reduceGT, reduceEqDiff, reduceMul]
   refine ⟨_, ?_, id, rfl, by omega, by omega, rfl⟩
   rw [show k = pw.length by omega]
   refine upd_le (fun i c h1 h2 => ?_) (fun d hd => by rw [upd_same]; exact hd)
   cases h2
theorem impl_normalLie_zero (p : Int) (br : List (List (List Int))) : ACo Try.prog 77 [ringP p [] br, ints []] (ints []) := by
 intro nx
 refine AC.intro' envOk Try.func77 rfl (by kernel_rfl) Try.ntmps77 Try.results77 ?_
 refine AW.sr envOk (fun N hN => ?_)
 simp -dsimp -implicitDefEqProofs (disch := omega) only [go_sem, undef, reduceAdd, reduceSub, reduceGT, reduceEqDiff, reduceMul, ringP, ints, rows, cubes, List.length_nil, List.map_nil]
 refine hN _ ?_
 try clear hN N
 refine AW.sr envOk (fun N hN => ?_)
 simp -dsimp -implicitDefEqProofs (disch := omega) only [go_sem, undef, reduceAdd, reduceSub, reduceGT, reduceEqDiff, reduceMul, ringP, ints, rows, cubes, List.length_nil, List.map_nil]
 refine (CpI.zero rfl (slices_Clone_int64_int64_ok [] (by simp) _ _)).mono ?_
 rintro nx1 H1 r ⟨rfl, rfl⟩
 try simp -dsimp -implicitDefEqProofs (disch := omega) only [go_sem, undef, reduceAdd, reduceSub, reduceGT, reduceEqDiff, reduceMul, ringP, ints, rows, cubes, List.length_nil, List.map_nil]
 refine hN _ ?_
 try clear hN N
 refine AW.seq (fun N1 hN1 => ?_)
 refine AW.sr envOk (fun N hN => ?_)
 simp -dsimp -implicitDefEqProofs (disch := omega) only [go_sem, undef, reduceAdd, reduceSub, reduceGT, reduceEqDiff, reduceMul, ringP, ints, rows, cubes, List.length_nil, List.map_nil]
 refine hN _ ?_
 try clear hN N
 refine AW.block ?_
 refine AW.loop1 ?_
 refine AW.sr envOk (fun N hN => ?_)
 simp -dsimp -implicitDefEqProofs (disch := omega) only [go_sem, undef, reduceAdd, reduceSub, reduceGT, reduceEqDiff, reduceMul, ringP, ints, rows, cubes, List.length_nil, List.map_nil]
 refine hN _ ?_
 try clear hN N
 refine AW.seq (fun N2 hN2 => ?_)
 refine AW.cond rfl (fun h => absurd h (by first| (simp; done)| (simp only [decide_eq_true_eq]; omega))) (fun _ => ?_)
 refine AW.exit ?_
 simp only [thn, blk, if_true]
 refine hN1 _ ?_
 try clear hN1 N1
 refine AW.sr envOk (fun N hN => ?_)
 simp -dsimp -implicitDefEqProofs (disch := omega) only [go_sem, undef, reduceAdd, reduceSub, reduceGT, reduceEqDiff, reduceMul, ringP, ints, rows, cubes, List.length_nil, List.map_nil]
 refine hN _ ?_
 try clear hN N
 refine AW.ret ?_
 simp -dsimp -implicitDefEqProofs (disch := omega) only [go_sem, undef, reduceAdd, reduceSub, reduceGT, reduceEqDiff, reduceMul]
 exact ⟨_, .leaf _ .v0 (.v _ _ (by simp)), by simp, by simp⟩
theorem impl_normalLie_ok (p : Int) (pw : List (List Int)) (br : List (List (List Int))) (ht : Tri p pw) (c : List Int) (hc : c.length = pw.length) (hb : ∀ j, j < pw.length → -1000000000000000 ≤ c.getD j 0 ∧ c.getD j 0 ≤ 1000000000000000) : ACo Try.prog 77 [ringP p pw br, ints c] (ints (vec pw.length (nrm p pw pw.length (fun j => c.getD j 0)))) := by
  rcases Nat.eq_zero_or_pos pw.length with h | h
  · have h1 : pw = [] := List.length_eq_zero_iff.1 h
    have h2 : c = [] := List.length_eq_zero_iff.1 (by omega)
    subst h1; subst h2
    exact impl_normalLie_zero p br
  · exact impl_normalLie_pos p pw br ht h c hc hb
end Go.Proofs.Ytkmgmjajbiddbaa
