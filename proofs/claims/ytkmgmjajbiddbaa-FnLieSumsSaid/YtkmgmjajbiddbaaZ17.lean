import Derived.Test.YtkmgmjajbiddbaaZ15
set_option linter.unusedVariables false
set_option linter.unusedSimpArgs false
namespace Go.Proofs.Ytkmgmjajbiddbaa
open Nat (reduceAdd reduceSub reduceGT reduceEqDiff reduceMul)
theorem Vw.ivs {H : HP} {id n : Nat} {f : Nat → Int} (h : H id = some (ivs n f)) : Vw H (.h id 0 n) (ints (vec n f)) := by
  unfold Go.Proofs.Ytkmgmjajbiddbaa.ints
  rw [vec_len, vec_map]
  exact .h id 0 n _ _ h (by rw [ivs_len]; omega) ivs_len (fun k x y hx hy => by rw [Nat.zero_add, hy] at hx; cases hx; exact .refl _)
theorem norm_v {p : Int} {pw : List (List Int)} (t : Tri p pw) (G : Nat → Int) : vec pw.length (nrm p pw pw.length (fun j => (vec pw.length G).getD j 0)) = nf p pw G :=
  nf_ext t (fun j hj => vec_get hj)
theorem spec_l31Norm_v (p : Int) (pw : List (List Int)) (br : List (List (List Int))) (ht : Tri p pw) (G : Nat → Int) (hb : ∀ j, j < pw.length → -1000000000000000 ≤ G j ∧ G j ≤ 1000000000000000) : ACo Try.prog 79 [ring p pw br, ints (vec pw.length G)] (ints (nf p pw G)) := by
  have := spec_l31Norm_ok p pw br ht (vec pw.length G) vec_len (fun j hj => by rw [vec_get hj]; exact hb j hj)
  rwa [norm_v ht] at this
theorem impl_normalLie_v (p : Int) (pw : List (List Int)) (br : List (List (List Int))) (ht : Tri p pw) (G : Nat → Int) (hb : ∀ j, j < pw.length → -1000000000000000 ≤ G j ∧ G j ≤ 1000000000000000) : ACo Try.prog 77 [ringP p pw br, ints (vec pw.length G)] (ints (nf p pw G)) := by
  have := impl_normalLie_ok p pw br ht (vec pw.length G) vec_len (fun j hj => by rw [vec_get hj]; exact hb j hj)
  rwa [norm_v ht] at this
def mixL (p : Int) (pw : List (List Int)) (k : Int) (a : List Int) (m : Int) (b : List Int) : List Int := nf p pw (fun j => k * a.getD j 0 + m * b.getD j 0)
def Sml (n : Nat) (k : Int) (a : List Int) : Prop := ∀ j, j < n → -400000000000000 ≤ k * a.getD j 0 ∧ k * a.getD j 0 ≤ 400000000000000
theorem spec_l31Mix_ok (p : Int) (pw : List (List Int)) (br : List (List (List Int))) (ht : Tri p pw) (k : Int) (a : List Int) (m : Int) (b : List Int) (ha : a.length = pw.length) (hb : b.length = pw.length) (hka : Sml pw.length k a) (hmb : Sml pw.length m b) : ACo Try.prog 51 [ring p pw br, .i .i64 k, ints a, .i .i64 m, ints b] (ints (mixL p pw k a m b)) := by
 have h6 := ht.n6
 intro nx
 refine AC.intro' envOk Try.func51 rfl (by kernel_rfl) Try.ntmps51 Try.results51 ?_
 refine AW.sr envOk (fun N hN => ?_)
 simp -dsimp -implicitDefEqProofs (disch := omega) only [go_sem, undef, reduceAdd, reduceSub, reduceGT, reduceEqDiff, reduceMul, ring, ints, rows, cubes, gd_i, w64]
 refine hN _ ?_
 try clear hN N
 refine AW.sr envOk (fun N hN => ?_)
 simp -dsimp -implicitDefEqProofs (disch := omega) only [go_sem, undef, reduceAdd, reduceSub, reduceGT, reduceEqDiff, reduceMul, ring, ints, rows, cubes, gd_i, w64]
 refine hN _ ?_
 try clear hN N
 refine AW.seq (fun N1 hN1 => ?_)
 refine AW.sr envOk (fun N hN => ?_)
 simp -dsimp -implicitDefEqProofs (disch := omega) only [go_sem, undef, reduceAdd, reduceSub, reduceGT, reduceEqDiff, reduceMul, ring, ints, rows, cubes, gd_i, w64]
 refine hN _ ?_
 try clear hN N
 refine AW.block ?_
 refine AW.loopN (α := Nat) (fun x => sl 41 [(1, .i .i64 k), (2, ints a), (3, .i .i64 m), (4, ints b), (5, .q nx 0), (11, .h (nx + 2 + 2) 0 pw.length), (12, .i .i64 x)]) (fun x => upd (upd noH nx (some [.i .i64 p, rows pw, cubes br])) (nx + 2 + 2) (some (ivs pw.length (fun j => if j < x then k * a.getD j 0 + m * b.getD j 0 else 0)))) (fun x m => x ≤ pw.length ∧ nx + 6 ≤ m) (fun x => pw.length - x) (0) ?_ ?_ (by simp only [Nat.not_lt_zero, if_false, ← ivs_zero]; rw [ha]; exact Le.refl _) ?_
 ·exact ⟨by omega, by simp only; omega⟩
 ·simp (disch := omega) [wks, wkA, sl, w64, ints, rows, cubes, ring, ints, rows, cubes, gd_i, w64] <;> omega
 ·skip
  rintro i q ⟨hk, hq⟩
  simp -dsimp -implicitDefEqProofs (disch := omega) only [go_sem, undef, reduceAdd, reduceSub, reduceGT, reduceEqDiff, reduceMul]
  refine AW.seq (fun N2 hN2 => ?_)
  refine AW.sr envOk (fun N hN => ?_)
  simp -dsimp -implicitDefEqProofs (disch := omega) only [go_sem, undef, reduceAdd, reduceSub, reduceGT, reduceEqDiff, reduceMul, ring, ints, rows, cubes, gd_i, w64]
  refine hN _ ?_
  try clear hN N
  refine AW.cond rfl (fun h1 => ?_) (fun h1 => ?_)
  ·try simp only [cn] at h1
   have h1a := hka i (by omega)
   have h1b := hmb i (by omega)
   refine AW.skip ?_
   simp only [thn, blk]
   refine hN2 _ ?_
   try clear hN2 N2
   refine AW.seq (fun N3 hN3 => ?_)
   refine AW.block ?_
   refine AW.drawL envOk (by kernel_rfl) 16 (by kernel_rfl) ?_
   simp -dsimp -implicitDefEqProofs (disch := omega) only [hr_nil, hr_one, hr_if, List.take_succ_cons, List.take_zero, List.drop_succ_cons, List.drop_zero, List.take_nil, List.drop_nil, go_sem, undef, reduceAdd, reduceSub, reduceGT, reduceEqDiff, reduceMul, ring, ints, rows, cubes, gd_i, w64]
   refine hN3 _ ?_
   try clear hN3 N3
   refine AW.regionL envOk ?_
   simp -dsimp -implicitDefEqProofs (disch := omega) only [go_sem, undef, reduceAdd, reduceSub, reduceGT, reduceEqDiff, reduceMul, ring, ints, rows, cubes, gd_i, w64]
   refine ⟨i + 1, ?_, by rw [fset_if (g := fun j => k * a.getD j 0 + m * b.getD j 0) rfl]; exact Le.refl _, ?_, ?_⟩
   ·simp (disch := omega) [wks, wkA, sl, w64, ints, rows, cubes, ring, ints, rows, cubes, gd_i, w64] <;> omega
   ·exact ⟨by omega, by omega⟩
   ·first | omega | (simp only; omega)
  ·try simp only [cn] at h1
   refine AW.exit ?_
   simp only [thn, blk, if_true]
   refine hN1 _ ?_
   try clear hN1 N1
   refine AW.sr envOk (fun N hN => ?_)
   simp -dsimp -implicitDefEqProofs (disch := omega) only [go_sem, undef, reduceAdd, reduceSub, reduceGT, reduceEqDiff, reduceMul, ring, ints, rows, cubes, gd_i, w64]
   rw [show i = pw.length by omega, ivs_ext (g := fun j => k * a.getD j 0 + m * b.getD j 0) (fun j hj => by simp only [hj, if_true])]
   refine AC.own (spec_l31Norm_v p pw br ht (fun j => k * a.getD j 0 + m * b.getD j 0) (fun j hj => by have := hka j hj; have := hmb j hj; omega)) (.cons (.refl _) (.cons (Vw.ivs (upd_same _ _ _)) .nil)) ?_
   intro m1 H1 r ids hm1 hH1 hown1
   try simp -dsimp -implicitDefEqProofs (disch := omega) only [go_sem, undef, reduceAdd, reduceSub, reduceGT, reduceEqDiff, reduceMul, ring, ints, rows, cubes, gd_i, w64]
   refine hN _ ?_
   try clear hN N
   refine AW.ret ?_
   simp -dsimp -implicitDefEqProofs (disch := omega) only [go_sem, undef, reduceAdd, reduceSub, reduceGT, reduceEqDiff, reduceMul]
   exact ⟨ids, hown1.keep (fun _ _ _ => rfl) (by omega) (by omega)⟩
theorem spec_l31Zero_fr (p : Int) (pw : List (List Int)) (br : List (List (List Int))) (hn : pw.length ≤ 1048576) (nx : Nat) (H : HP) : AC Try.prog 85 nx H [ring p pw br] (fun nx' H' r => FrI nx nx' H H' r pw.length (fun _ => 0)) := by
 refine AC.introx envOk Try.func85 rfl (by kernel_rfl) Try.ntmps85 Try.results85 (fun hfr => ?_)
 refine AW.sr envOk (fun N hN => ?_)
 simp -dsimp -implicitDefEqProofs (disch := omega) only [go_sem, undef, reduceAdd, reduceSub, reduceGT, reduceEqDiff, reduceMul, ring, rows, cubes]
 refine hN _ ?_
 try clear hN N
 refine AW.sr envOk (fun N hN => ?_)
 simp -dsimp -implicitDefEqProofs (disch := omega) only [go_sem, undef, reduceAdd, reduceSub, reduceGT, reduceEqDiff, reduceMul, ring, rows, cubes]
 refine hN _ ?_
 try clear hN N
 refine AW.ret ?_
 simp -dsimp -implicitDefEqProofs (disch := omega) only [go_sem, undef, reduceAdd, reduceSub, reduceGT, reduceEqDiff, reduceMul]
 refine ⟨_, ?_, _, rfl, ?_, ?_, rfl⟩
 ·rw [ivs_zero]
  intro i c hi
  have hlt : H i = some c → i < nx := fun h => by apply Classical.byContradiction; intro hn; rw [hfr i (by omega)] at h; cases h
  simp only [upd] at hi ⊢
  split at hi
  ·rename_i e; subst e; cases hi; repeat (first | rw [if_pos rfl] | rw [if_neg (by omega)])
  ·have := hlt hi; repeat rw [if_neg (by omega)]
   exact hi
 ·omega
 ·omega
theorem spec_l31Zero_ok (p : Int) (pw : List (List Int)) (br : List (List (List Int))) (hn : pw.length ≤ 1048576) : ACo Try.prog 85 [ring p pw br] (ints (vec pw.length (fun _ => 0))) :=
  FrI.aco (fun nx => spec_l31Zero_fr p pw br hn nx noH)
def unitL (n k : Nat) : List Int := vec n (fun j => if j = k then 1 else 0)
theorem unit_set {n k : Nat} (h : k < n) : splice (ivs n (fun _ => 0)) k [.i .i64 1] = ivs n (fun j => if j = k then 1 else 0) := by
  rw [ivs_set h]; rfl
theorem spec_l31Unit_ok (p : Int) (pw : List (List Int)) (br : List (List (List Int))) (hn : pw.length ≤ 1048576) (k : Nat) (hk : k < pw.length) : ACo Try.prog 84 [ring p pw br, .i .i64 k] (ints (unitL pw.length k)) := by
 refine FrI.aco (fun nx => ?_)
 refine AC.introx envOk Try.func84 rfl (by kernel_rfl) Try.ntmps84 Try.results84 (fun hfr => ?_)
 refine AW.sr envOk (fun N hN => ?_)
 simp -dsimp -implicitDefEqProofs (disch := omega) only [go_sem, undef, reduceAdd, reduceSub, reduceGT, reduceEqDiff, reduceMul, ring, rows, cubes]
 refine hN _ ?_
 try clear hN N
 refine AW.sr envOk (fun N hN => ?_)
 simp -dsimp -implicitDefEqProofs (disch := omega) only [go_sem, undef, reduceAdd, reduceSub, reduceGT, reduceEqDiff, reduceMul, ring, rows, cubes]
 refine (spec_l31Zero_fr p pw br hn _ _).mono ?_
 rintro nx1 H1 r ⟨id, rfl, hid1, hid2, rfl⟩
 try simp -dsimp -implicitDefEqProofs (disch := omega) only [go_sem, undef, reduceAdd, reduceSub, reduceGT, reduceEqDiff, reduceMul, ring, rows, cubes]
 refine hN _ ?_
 try clear hN N
 refine AW.sr envOk (fun N hN => ?_)
 simp -dsimp -implicitDefEqProofs (disch := omega) only [go_sem, undef, reduceAdd, reduceSub, reduceGT, reduceEqDiff, reduceMul, ring, rows, cubes]
 refine hN _ ?_
 try clear hN N
 refine AW.sr envOk (fun N hN => ?_)
 simp -dsimp -implicitDefEqProofs (disch := omega) only [go_sem, undef, reduceAdd, reduceSub, reduceGT, reduceEqDiff, reduceMul, ring, rows, cubes]
 refine hN _ ?_
 try clear hN N
 refine AW.ret ?_
 simp -dsimp -implicitDefEqProofs (disch := omega) only [go_sem, undef, reduceAdd, reduceSub, reduceGT, reduceEqDiff, reduceMul]
 refine ⟨_, ?_, id, rfl, by omega, by omega, rfl⟩
 refine upd_le (fun i c h1 h2 => ?_) (fun d hd => by rw [upd_same]; exact hd)
 cases h2
theorem impl_unitVector_ok (n k : Nat) (hn : n ≤ 1048576) (hk : k < n) : ACo Try.prog 89 [.i .i64 n, .i .i64 k] (ints (unitL n k)) := by
 refine FrI.aco (fun nx => ?_)
 refine AC.introx envOk Try.func89 rfl (by kernel_rfl) Try.ntmps89 Try.results89 (fun hfr => ?_)
 refine AW.sr envOk (fun N hN => ?_)
 simp -dsimp -implicitDefEqProofs (disch := omega) only [go_sem, undef, reduceAdd, reduceSub, reduceGT, reduceEqDiff, reduceMul, ]
 refine hN _ ?_
 try clear hN N
 refine AW.sr envOk (fun N hN => ?_)
 simp -dsimp -implicitDefEqProofs (disch := omega) only [go_sem, undef, reduceAdd, reduceSub, reduceGT, reduceEqDiff, reduceMul, ]
 refine hN _ ?_
 try clear hN N
 refine AW.sr envOk (fun N hN => ?_)
 simp -dsimp -implicitDefEqProofs (disch := omega) only [go_sem, undef, reduceAdd, reduceSub, reduceGT, reduceEqDiff, reduceMul, ]
 refine hN _ ?_
 try clear hN N
 refine AW.sr envOk (fun N hN => ?_)
 simp -dsimp -implicitDefEqProofs (disch := omega) only [go_sem, undef, reduceAdd, reduceSub, reduceGT, reduceEqDiff, reduceMul, ]
 refine hN _ ?_
 try clear hN N
 refine AW.ret ?_
 simp -dsimp -implicitDefEqProofs (disch := omega) only [go_sem, undef, reduceAdd, reduceSub, reduceGT, reduceEqDiff, reduceMul]
 refine ⟨_, ?_, _, rfl, ?_, ?_, rfl⟩
 ·rw [ivs_zero, unit_set hk]
  refine upd_le (fun i c h1 h2 => ?_) (fun d hd => by rw [upd_same]; exact hd)
  cases h2
 ·omega
 ·omega
def MvI (H : HP) (r : AV) (n : Nat) (f : Nat → Int) : Prop := (∃ id, r = .h id 0 n ∧ H id = some (ivs n f)) ∨ (n = 0 ∧ r = .v 0 [])
theorem CpI.mv {nx nx' : Nat} {H H' : HP} {r : AV} {n : Nat} {f : Nat → Int} (h : CpI nx nx' H H' r n f) : MvI H' r n f := by
  rcases h with ⟨id, rfl, _, _, rfl⟩ | ⟨h0, rfl, rfl⟩
  · exact .inl ⟨id, rfl, upd_same _ _ _⟩
  · exact .inr ⟨h0, rfl⟩
theorem MvI.vw {H : HP} {r : AV} {n : Nat} {f : Nat → Int} (h : MvI H r n f) : Vw H r (ints (vec n f)) := by
  rcases h with ⟨id, rfl, h⟩ | ⟨rfl, rfl⟩
  · exact .ivs h
  · exact .refl _
theorem impl_subtractMultiple_zero (q : Int) (nx : Nat) (H : HP) : AC Try.prog 76 nx H [.v 0 [], .v 0 [], .i .i64 q] (fun nx' H' r => H' = H) := by
 refine AC.introx envOk Try.func76 rfl (by kernel_rfl) Try.ntmps76 Try.results76 (fun hfr => ?_)
 refine AW.sr envOk (fun N hN => ?_)
 simp -dsimp -implicitDefEqProofs (disch := omega) only [go_sem, undef, reduceAdd, reduceSub, reduceGT, reduceEqDiff, reduceMul, ]
 refine hN _ ?_
 try clear hN N
 refine AW.block ?_
 refine AW.loop1 ?_
 refine AW.sr envOk (fun N hN => ?_)
 simp -dsimp -implicitDefEqProofs (disch := omega) only [go_sem, undef, reduceAdd, reduceSub, reduceGT, reduceEqDiff, reduceMul, ]
 refine hN _ ?_
 try clear hN N
 refine AW.seq (fun N1 hN1 => ?_)
 refine AW.cond rfl (fun h => absurd h (by first| (simp; done)| (simp only [decide_eq_true_eq]; omega))) (fun _ => ?_)
 refine AW.exit ?_
 simp only [thn, blk, if_true]
 try simp -dsimp -implicitDefEqProofs (disch := omega) only [go_sem, undef, reduceAdd, reduceSub, reduceGT, reduceEqDiff, reduceMul, ]
 exact ⟨_, Le.refl _, rfl⟩
theorem impl_subtractMultiple_mv (n : Nat) (f : Nat → Int) (b : List Int) (q : Int) (nx : Nat) (H : HP) (r : AV) (hr : MvI H r n f) (hn : b.length = n) (hl : b.length ≤ 1099511627776) (hw : ∀ j, j < n → (-9000000000000000000 ≤ q * b.getD j 0 ∧ q * b.getD j 0 ≤ 9000000000000000000) ∧ -9000000000000000000 ≤ f j - q * b.getD j 0 ∧ f j - q * b.getD j 0 ≤ 9000000000000000000) :
    AC Try.prog 76 nx H [r, ints b, .i .i64 q] (fun nx' H' _ => MvI H' r n (fun j => f j - q * b.getD j 0)) := by
  rcases hr with ⟨id, rfl, h⟩ | ⟨rfl, rfl⟩
  · exact (impl_subtractMultiple_ok id n f b q nx H h (by omega) hl hw).mono (fun _ H' _ h => by subst h; exact .inl ⟨id, rfl, upd_same _ _ _⟩)
  · have : b = [] := List.length_eq_zero_iff.1 hn
    subst this
    exact (impl_subtractMultiple_zero q nx H).mono (fun _ H' _ h => .inr ⟨rfl, rfl⟩)
theorem impl_addLie_ok (p : Int) (pw : List (List Int)) (br : List (List (List Int))) (ht : Tri p pw) (a b : List Int) (ha : a.length = pw.length) (hb : b.length = pw.length) (hka : Sml pw.length 1 a) (hmb : Sml pw.length 1 b) : ACo Try.prog 49 [ringP p pw br, ints a, ints b] (ints (mixL p pw 1 a 1 b)) := by
 have h6 := ht.n6
 have heq : mixL p pw 1 a 1 b = nf p pw (fun j => a.getD j 0 - (-1) * b.getD j 0) := nf_ext ht (fun j _ => by omega)
 rw [heq]
 intro nx
 refine AC.intro' envOk Try.func49 rfl (by kernel_rfl) Try.ntmps49 Try.results49 ?_
 refine AW.sr envOk (fun N hN => ?_)
 simp -dsimp -implicitDefEqProofs (disch := omega) only [go_sem, undef, reduceAdd, reduceSub, reduceGT, reduceEqDiff, reduceMul, ]
 refine hN _ ?_
 try clear hN N
 refine AW.sr envOk (fun N hN => ?_)
 simp -dsimp -implicitDefEqProofs (disch := omega) only [go_sem, undef, reduceAdd, reduceSub, reduceGT, reduceEqDiff, reduceMul, ]
 refine (slices_Clone_int64_int64_ok a (by omega) _ _).mono2 ?_
 rintro nx1 H1 r hx1 hr
 have hr := hr.mv
 rw [ha] at hr
 try simp -dsimp -implicitDefEqProofs (disch := omega) only [go_sem, undef, reduceAdd, reduceSub, reduceGT, reduceEqDiff, reduceMul, ]
 refine hN _ ?_
 try clear hN N
 refine AW.sr envOk (fun N hN => ?_)
 simp -dsimp -implicitDefEqProofs (disch := omega) only [go_sem, undef, reduceAdd, reduceSub, reduceGT, reduceEqDiff, reduceMul, ]
 refine (impl_subtractMultiple_mv pw.length _ b (-1) _ _ r hr hb (by omega) (fun j hj => by have := hka j hj; have := hmb j hj; omega)).mono2 ?_
 rintro nx2 H2 r2 hx2 hr2
 try simp -dsimp -implicitDefEqProofs (disch := omega) only [go_sem, undef, reduceAdd, reduceSub, reduceGT, reduceEqDiff, reduceMul, ]
 refine hN _ ?_
 try clear hN N
 refine AW.sr envOk (fun N hN => ?_)
 simp -dsimp -implicitDefEqProofs (disch := omega) only [go_sem, undef, reduceAdd, reduceSub, reduceGT, reduceEqDiff, reduceMul, ]
 refine AC.own (impl_normalLie_v p pw br ht _ (fun j hj => by have := hka j hj; have := hmb j hj; omega)) (.cons (.refl _) (.cons hr2.vw .nil)) ?_
 intro m1 H3 r3 ids hm1 hH1 hown1
 try simp -dsimp -implicitDefEqProofs (disch := omega) only [go_sem, undef, reduceAdd, reduceSub, reduceGT, reduceEqDiff, reduceMul, ]
 refine hN _ ?_
 try clear hN N
 refine AW.ret ?_
 simp -dsimp -implicitDefEqProofs (disch := omega) only [go_sem, undef, reduceAdd, reduceSub, reduceGT, reduceEqDiff, reduceMul]
 exact ⟨ids, hown1.keep (fun _ _ _ => rfl) (by omega) (by omega)⟩
def mulL (p : Int) (pw : List (List Int)) (k : Int) (a : List Int) : List Int := nf p pw (fun j => k * a.getD j 0)
theorem impl_timesLie_ok (p : Int) (pw : List (List Int)) (br : List (List (List Int))) (ht : Tri p pw) (k : Int) (a : List Int) (ha : a.length = pw.length) (hka : Sml pw.length k a) (hk : -1000000000000 ≤ k ∧ k ≤ 1000000000000) : ACo Try.prog 52 [ringP p pw br, .i .i64 k, ints a] (ints (mulL p pw k a)) := by
 have h6 := ht.n6
 have heq : mulL p pw k a = nf p pw (fun j => 0 - (-k) * a.getD j 0) := nf_ext ht (fun j _ => by rw [Int.neg_mul]; omega)
 rw [heq]
 have hkn : ∀ j, j < pw.length → -400000000000000 ≤ (-k) * a.getD j 0 ∧ (-k) * a.getD j 0 ≤ 400000000000000 := fun j hj => by have := hka j hj; rw [Int.neg_mul]; omega
 intro nx
 refine AC.intro' envOk Try.func52 rfl (by kernel_rfl) Try.ntmps52 Try.results52 ?_
 refine AW.sr envOk (fun N hN => ?_)
 simp -dsimp -implicitDefEqProofs (disch := omega) only [go_sem, undef, reduceAdd, reduceSub, reduceGT, reduceEqDiff, reduceMul, w64, ints]
 refine hN _ ?_
 try clear hN N
 refine AW.sr envOk (fun N hN => ?_)
 simp -dsimp -implicitDefEqProofs (disch := omega) only [go_sem, undef, reduceAdd, reduceSub, reduceGT, reduceEqDiff, reduceMul, w64, ints]
 refine hN _ ?_
 try clear hN N
 refine AW.sr envOk (fun N hN => ?_)
 simp -dsimp -implicitDefEqProofs (disch := omega) only [go_sem, undef, reduceAdd, reduceSub, reduceGT, reduceEqDiff, reduceMul, w64, ints]
 rw [ivs_zero, show (0 : Int) - k = -k by omega]
 refine (impl_subtractMultiple_mv a.length (fun _ => 0) a (-k) _ _ _ (.inl ⟨_, rfl, upd_same _ _ _⟩) rfl (by omega) (fun j hj => by have := hkn j (by omega); omega)).mono2 ?_
 rintro nx2 H2 r2 hx2 hr2
 have hv : Vw H2 (.h (nx + 1 + 2) 0 a.length) (ints (vec pw.length fun j => 0 - -k * a.getD j 0)) := by rw [← ha]; exact hr2.vw
 try simp -dsimp -implicitDefEqProofs (disch := omega) only [go_sem, undef, reduceAdd, reduceSub, reduceGT, reduceEqDiff, reduceMul, w64, ints]
 refine hN _ ?_
 try clear hN N
 refine AW.sr envOk (fun N hN => ?_)
 simp -dsimp -implicitDefEqProofs (disch := omega) only [go_sem, undef, reduceAdd, reduceSub, reduceGT, reduceEqDiff, reduceMul, w64, ints]
 refine AC.own (impl_normalLie_v p pw br ht _ (fun j hj => by have := hkn j hj; omega)) (.cons (.refl _) (.cons hv .nil)) ?_
 intro m1 H3 r3 ids hm1 hH1 hown1
 try simp -dsimp -implicitDefEqProofs (disch := omega) only [go_sem, undef, reduceAdd, reduceSub, reduceGT, reduceEqDiff, reduceMul, w64, ints]
 refine hN _ ?_
 try clear hN N
 refine AW.ret ?_
 simp -dsimp -implicitDefEqProofs (disch := omega) only [go_sem, undef, reduceAdd, reduceSub, reduceGT, reduceEqDiff, reduceMul]
 exact ⟨ids, hown1.keep (fun _ _ _ => rfl) (by omega) (by omega)⟩
end Go.Proofs.Ytkmgmjajbiddbaa
