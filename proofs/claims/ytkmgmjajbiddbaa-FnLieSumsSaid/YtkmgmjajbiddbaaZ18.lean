import Derived.Test.YtkmgmjajbiddbaaZ17
set_option linter.unusedVariables false
set_option linter.unusedSimpArgs false
namespace Go.Proofs.Ytkmgmjajbiddbaa
open Nat (reduceAdd reduceSub reduceGT reduceEqDiff reduceMul)
structure Sh (p : Int) (pw : List (List Int)) (br : List (List (List Int))) : Prop extends Tri p pw where
  bl : br.length = pw.length
  rl : ∀ i, i < pw.length → (br.getD i []).length + 1 + i = pw.length
  el : ∀ i k, i < pw.length → k < (br.getD i []).length → El p pw.length ((br.getD i []).getD k [])
theorem shapeP.sh {p : Int} {pw : List (List Int)} {br : List (List (List Int))} (h : shapeP p pw br) : Sh p pw br :=
  ⟨h.tri, h.2.2.1, fun i hi => (h.2.2.2.2 i hi).2.2.1, fun i k hi hk => ((h.2.2.2.2 i hi).2.2.2 k hk).1.el⟩
def brc (a b : List Int) (i r : Nat) : Int := a.getD i 0 * b.getD (i + 1 + r) 0 - a.getD (i + 1 + r) 0 * b.getD i 0
def brow (a b : List Int) (bi : List (List Int)) (i q t : Nat) : Int := rsum q (fun r => brc a b i r * (bi.getD r []).getD t 0)
def bsum (a b : List Int) (br : List (List (List Int))) (k t : Nat) : Int := rsum k (fun i => brow a b (br.getD i []) i (br.getD i []).length t)
def brkL (p : Int) (pw : List (List Int)) (br : List (List (List Int))) (a b : List Int) : List Int := nf p pw (fun t => bsum a b br pw.length t)
theorem mul36 {x y p : Int} (hp : p ≤ 7) (h1 : 0 ≤ x) (h2 : x ≤ p - 1) (h3 : 0 ≤ y) (h4 : y ≤ p - 1) : 0 ≤ x * y ∧ x * y ≤ 36 := by
  have := Int.mul_le_mul (show x ≤ 6 by omega) (show y ≤ 6 by omega) h3 (by omega)
  exact ⟨Int.mul_nonneg h1 h3, by omega⟩
theorem brc_bd {p : Int} {n : Nat} (hp : p ≤ 7) {a b : List Int} (ha : El p n a) (hb : El p n b) {i r : Nat} (h : i + 1 + r < n) : (0 ≤ a.getD i 0 * b.getD (i + 1 + r) 0 ∧ a.getD i 0 * b.getD (i + 1 + r) 0 ≤ 36) ∧ (0 ≤ a.getD (i + 1 + r) 0 * b.getD i 0 ∧ a.getD (i + 1 + r) 0 * b.getD i 0 ≤ 36) ∧ -36 ≤ brc a b i r ∧ brc a b i r ≤ 36 := by
  have h1 := ha.rng i (by omega)
  have h2 := ha.rng (i + 1 + r) h
  have h3 := hb.rng i (by omega)
  have h4 := hb.rng (i + 1 + r) h
  have h5 := mul36 hp h1.1 h1.2 h4.1 h4.2
  have h6 := mul36 hp h2.1 h2.2 h3.1 h3.2
  unfold brc
  omega
theorem cv_bd {c v p : Int} (hp : p ≤ 7) (hc : -36 ≤ c ∧ c ≤ 36) (hv : 0 ≤ v) (hv2 : v ≤ p - 1) : -216 ≤ c * v ∧ c * v ≤ 216 := by
  have h1 : c * v ≤ 36 * v := Int.mul_le_mul_of_nonneg_right hc.2 hv
  have h2 : (-36) * v ≤ c * v := Int.mul_le_mul_of_nonneg_right hc.1 hv
  omega
theorem brow_bd {p : Int} {pw : List (List Int)} {br : List (List (List Int))} (s : Sh p pw br) {a b : List Int} (ha : El p pw.length a) (hb : El p pw.length b) {i q t : Nat} (hi : i < pw.length) (hq : q ≤ (br.getD i []).length) (ht : t < pw.length) : -1296 ≤ brow a b (br.getD i []) i q t ∧ brow a b (br.getD i []) i q t ≤ 1296 := by
  have hr := s.rl i hi
  have h6 := s.n6
  have h1 := rsum_bd (C := 216) (n := q) (F := fun r => brc a b i r * ((br.getD i []).getD r []).getD t 0) (fun r hr' => by
    have h2 := brc_bd s.p7 ha hb (i := i) (r := r) (by omega)
    have h3 := (s.el i r hi (by omega)).rng t ht
    exact cv_bd s.p7 h2.2.2 h3.1 h3.2)
  unfold brow
  omega
theorem bsum_bd {p : Int} {pw : List (List Int)} {br : List (List (List Int))} (s : Sh p pw br) {a b : List Int} (ha : El p pw.length a) (hb : El p pw.length b) {k t : Nat} (hk : k ≤ pw.length) (ht : t < pw.length) : -7776 ≤ bsum a b br k t ∧ bsum a b br k t ≤ 7776 := by
  have h6 := s.n6
  have h1 := rsum_bd (C := 1296) (n := k) (F := fun i => brow a b (br.getD i []) i (br.getD i []).length t) (fun i hi => brow_bd s ha hb (by omega) (Nat.le_refl _) ht)
  unfold bsum
  omega
theorem Sml.box {n : Nat} {k C : Int} {a : List Int} (h : ∀ j, j < n → -C ≤ k * a.getD j 0 ∧ k * a.getD j 0 ≤ C) (hC : C ≤ 400000000000000) : Sml n k a := fun j hj => by have := h j hj; omega
theorem El.sml1 {p : Int} {n : Nat} {a : List Int} (h : El p n a) (hp : p ≤ 7) : Sml n 1 a := fun j hj => by have := h.rng j hj; omega
theorem El.vec {p : Int} {n : Nat} {f : Nat → Int} (h : Box p n f) : El p n (vec n f) := ⟨vec_len, fun j hj => by rw [vec_get hj]; exact h j hj⟩
theorem mix_step {p : Int} {pw : List (List Int)} (t : Tri p pw) {F Pt : Nat → Int} (hc : Cg p pw F Pt) (c : Int) (v : List Int) :
    Box p pw.length (nrm p pw pw.length (fun j => 1 * (vec pw.length F).getD j 0 + c * v.getD j 0)) ∧ Cg p pw (nrm p pw pw.length (fun j => 1 * (vec pw.length F).getD j 0 + c * v.getD j 0)) (fun j => Pt j + c * v.getD j 0) := by
  refine ⟨nrm_box t _, (nrm_cg t _ _ (Nat.le_refl _)).trans ?_⟩
  exact ((hc.comb 1 c (.refl (fun j => v.getD j 0)))).ext (fun j hj => by rw [vec_get hj]) (fun j hj => by omega)
theorem spec_l31Bracket_ok (p : Int) (pw : List (List Int)) (br : List (List (List Int))) (s : Sh p pw br) (a b : List Int) (ha : El p pw.length a) (hb : El p pw.length b) : ACp Try.prog 83 [ring p pw br, ints a, ints b] (ints (brkL p pw br a b)) := by
 have h6 := s.n6
 have hp2 := s.p2
 have hp7 := s.p7
 have hbl := s.bl
 have hal := ha.len
 have hbb := hb.len
 refine ACp.intro' envOk Try.func83 rfl (by kernel_rfl) Try.ntmps83 Try.results83 (by unfold Go.Proofs.Ytkmgmjajbiddbaa.ints; exact .v _ _ (by intro k x hk; obtain ⟨y, _, rfl⟩ := List.mem_map.1 (List.mem_of_getElem? hk); exact .i _ _)) (fun nx => ?_)
 refine AW.sr envOk (fun N hN => ?_)
 simp -dsimp -implicitDefEqProofs (disch := omega) only [go_sem, undef, reduceAdd, reduceSub, reduceGT, reduceEqDiff, reduceMul, ring, ints, rows, cubes, gd_i, gd_r, gd_c, w64]
 refine hN _ ?_
 try clear hN N
 refine AW.sr envOk (fun N hN => ?_)
 simp -dsimp -implicitDefEqProofs (disch := omega) only [go_sem, undef, reduceAdd, reduceSub, reduceGT, reduceEqDiff, reduceMul, ring, ints, rows, cubes, gd_i, gd_r, gd_c, w64]
 refine AC.pure (.of ((spec_l31Zero_ok p pw br (by omega)).pure )) ?_
 try simp -dsimp -implicitDefEqProofs (disch := omega) only [go_sem, undef, reduceAdd, reduceSub, reduceGT, reduceEqDiff, reduceMul, ring, ints, rows, cubes, gd_i, gd_r, gd_c, w64]
 refine hN _ ?_
 try clear hN N
 refine AW.seq (fun N1 hN1 => ?_)
 refine AW.sr envOk (fun N hN => ?_)
 simp -dsimp -implicitDefEqProofs (disch := omega) only [go_sem, undef, reduceAdd, reduceSub, reduceGT, reduceEqDiff, reduceMul, ring, ints, rows, cubes, gd_i, gd_r, gd_c, w64]
 refine hN _ ?_
 try clear hN N
 refine AW.block ?_
 refine AW.loopN (α := Nat × (Nat → Int)) (fun x => sl 60 [(1, ints a), (2, ints b), (3, .q nx 0), (7, ints (vec pw.length x.2)), (8, .i .i64 x.1)]) (fun _ => upd noH nx (some [.i .i64 p, rows pw, cubes br])) (fun x m => x.1 ≤ pw.length ∧ Box p pw.length x.2 ∧ Cg p pw x.2 (fun t => bsum a b br x.1 t)) (fun x => pw.length - x.1) ((0, fun _ => 0)) ?_ ?_ (fun _ _ h => h) ?_
 ·exact ⟨by simp, fun j hj => by simp only; omega, .refl _⟩
 ·simp (disch := omega) [wks, wkA, sl, w64, ints, rows, cubes, ring, ints, rows, cubes, gd_i, gd_r, gd_c, w64] <;> omega
 ·skip
  rintro ⟨k, F⟩ m ⟨hk, hF, hC⟩
  simp only at hk hF hC
  simp -dsimp -implicitDefEqProofs (disch := omega) only [go_sem, undef, reduceAdd, reduceSub, reduceGT, reduceEqDiff, reduceMul]
  refine AW.seq (fun N2 hN2 => ?_)
  refine AW.sr envOk (fun N hN => ?_)
  simp -dsimp -implicitDefEqProofs (disch := omega) only [go_sem, undef, reduceAdd, reduceSub, reduceGT, reduceEqDiff, reduceMul, ring, ints, rows, cubes, gd_i, gd_r, gd_c, w64]
  refine hN _ ?_
  try clear hN N
  refine AW.cond rfl (fun h1 => ?_) (fun h1 => ?_)
  ·try simp only [cn] at h1
   have hrl := s.rl k (by omega)
   refine AW.skip ?_
   simp only [thn, blk]
   refine hN2 _ ?_
   try clear hN2 N2
   refine AW.seq (fun N3 hN3 => ?_)
   refine AW.block ?_
   refine AW.sr envOk (fun N hN => ?_)
   simp -dsimp -implicitDefEqProofs (disch := omega) only [go_sem, undef, reduceAdd, reduceSub, reduceGT, reduceEqDiff, reduceMul, ring, ints, rows, cubes, gd_i, gd_r, gd_c, w64]
   refine hN _ ?_
   try clear hN N
   refine AW.block ?_
   refine AW.loopN (α := Nat × (Nat → Int)) (fun x => sl 60 [(1, ints a), (2, ints b), (3, .q nx 0), (7, ints (vec pw.length x.2)), (8, .i .i64 k), (9, .i .i64 ((k + 1 + x.1 : Nat) : Int))]) (fun _ => upd noH nx (some [.i .i64 p, rows pw, cubes br])) (fun x m => x.1 ≤ (br.getD k []).length ∧ Box p pw.length x.2 ∧ Cg p pw x.2 (fun t => bsum a b br k t + brow a b (br.getD k []) k x.1 t)) (fun x => (br.getD k []).length - x.1) ((0, F)) ?_ ?_ (fun _ _ h => h) ?_
   ·exact ⟨by simp, hF, hC.ext (fun _ _ => rfl) (fun j hj => by simp [brow, rsum])⟩
   ·simp (disch := omega) [wks, wkA, sl, w64, ints, rows, cubes, ring, ints, rows, cubes, gd_i, gd_r, gd_c, w64] <;> omega
   ·skip
    rintro ⟨q, G⟩ m2 ⟨hq, hG, hD⟩
    simp only at hq hG hD
    simp -dsimp -implicitDefEqProofs (disch := omega) only [go_sem, undef, reduceAdd, reduceSub, reduceGT, reduceEqDiff, reduceMul]
    refine AW.seq (fun N4 hN4 => ?_)
    refine AW.sr envOk (fun N hN => ?_)
    simp -dsimp -implicitDefEqProofs (disch := omega) only [go_sem, undef, reduceAdd, reduceSub, reduceGT, reduceEqDiff, reduceMul, ring, ints, rows, cubes, gd_i, gd_r, gd_c, w64]
    refine hN _ ?_
    try clear hN N
    refine AW.cond rfl (fun h2 => ?_) (fun h2 => ?_)
    ·try simp only [cn] at h2
     have hbd := brc_bd hp7 ha hb (i := k) (r := q) (by omega)
     have hv := s.el k q (by omega) (by omega)
     refine AW.skip ?_
     simp only [thn, blk]
     refine hN4 _ ?_
     try clear hN4 N4
     refine AW.seq (fun N5 hN5 => ?_)
     refine AW.block ?_
     refine AW.drawL envOk (by kernel_rfl) 34 (by kernel_rfl) ?_
     simp -dsimp -implicitDefEqProofs (disch := omega) only [hr_nil, hr_one, hr_if, List.take_succ_cons, List.take_zero, List.drop_succ_cons, List.drop_zero, List.take_nil, List.drop_nil, go_sem, undef, reduceAdd, reduceSub, reduceGT, reduceEqDiff, reduceMul, ring, ints, rows, cubes, gd_i, gd_r, gd_c, w64]
     obtain ⟨G', hG'⟩ : ∃ G', nrm p pw pw.length (fun j => 1 * (vec pw.length G).getD j 0 + brc a b k q * ((br.getD k []).getD q []).getD j 0) = G' := ⟨_, rfl⟩
     have hmix : ACp Try.prog 51 [ring p pw br, .i .i64 1, ints (vec pw.length G), .i .i64 (brc a b k q), ints ((br.getD k []).getD q [])] (ints (vec pw.length G')) := by
      rw [← hG']
      exact (spec_l31Mix_ok p pw br s.toTri 1 (vec pw.length G) (brc a b k q) ((br.getD k []).getD q []) vec_len hv.len ((El.vec hG).sml1 hp7) (fun j hj => by have := cv_bd hp7 hbd.2.2 (hv.rng j hj).1 (hv.rng j hj).2; omega)).pure
     have hst := mix_step s.toTri hD (brc a b k q) ((br.getD k []).getD q [])
     rw [hG'] at hst
     refine ⟨_, .of (hmix ), ?_⟩
     try simp -dsimp -implicitDefEqProofs (disch := omega) only [go_sem, undef, reduceAdd, reduceSub, reduceGT, reduceEqDiff, reduceMul, ring, ints, rows, cubes, gd_i, gd_r, gd_c, w64]
     refine hN5 _ ?_
     try clear hN5 N5
     refine AW.regionL envOk ?_
     simp -dsimp -implicitDefEqProofs (disch := omega) only [go_sem, undef, reduceAdd, reduceSub, reduceGT, reduceEqDiff, reduceMul, ring, ints, rows, cubes, gd_i, gd_r, gd_c, w64]
     refine ⟨(q + 1, G'), ?_, fun _ _ h => h, ?_, ?_⟩
     ·simp (disch := omega) [wks, wkA, sl, w64, ints, rows, cubes, ring, ints, rows, cubes, gd_i, gd_r, gd_c, w64] <;> omega
     ·exact ⟨by omega, hst.1, hst.2.ext (fun _ _ => rfl) (fun j hj => by simp only [brow, rsum]; omega)⟩
     ·first | omega | (simp only; omega)
    ·try simp only [cn] at h2
     refine AW.exit ?_
     simp only [thn, blk, if_true]
     refine hN3 _ ?_
     try clear hN3 N3
     refine AW.regionL envOk ?_
     simp -dsimp -implicitDefEqProofs (disch := omega) only [go_sem, undef, reduceAdd, reduceSub, reduceGT, reduceEqDiff, reduceMul, ring, ints, rows, cubes, gd_i, gd_r, gd_c, w64]
     refine ⟨(k + 1, G), ?_, fun _ _ h => h, ?_, ?_⟩
     ·simp (disch := omega) [wks, wkA, sl, w64, ints, rows, cubes, ring, ints, rows, cubes, gd_i, gd_r, gd_c, w64] <;> omega
     ·refine ⟨by omega, hG, hD.ext (fun _ _ => rfl) (fun j hj => ?_)⟩
      rw [show q = (br.getD k []).length by omega]
      rfl
     ·first | omega | (simp only; omega)
  ·try simp only [cn] at h1
   refine AW.exit ?_
   simp only [thn, blk, if_true]
   refine hN1 _ ?_
   try clear hN1 N1
   refine AW.sr envOk (fun N hN => ?_)
   simp -dsimp -implicitDefEqProofs (disch := omega) only [go_sem, undef, reduceAdd, reduceSub, reduceGT, reduceEqDiff, reduceMul, ring, ints, rows, cubes, gd_i, gd_r, gd_c, w64]
   refine hN _ ?_
   try clear hN N
   refine AW.ret ?_
   simp -dsimp -implicitDefEqProofs (disch := omega) only [go_sem, undef, reduceAdd, reduceSub, reduceGT, reduceEqDiff, reduceMul]
   rw [show k = pw.length by omega] at hC
   exact congrArg Go.Proofs.Ytkmgmjajbiddbaa.ints (nf_box s.toTri hF hC)
theorem impl_bracket_ok (p : Int) (pw : List (List Int)) (br : List (List (List Int))) (s : Sh p pw br) (a b : List Int) (ha : El p pw.length a) (hb : El p pw.length b) : ACo Try.prog 91 [ringP p pw br, ints a, ints b] (ints (brkL p pw br a b)) := by
 have h6 := s.n6
 have hp2 := s.p2
 have hp7 := s.p7
 have hbl := s.bl
 have hal := ha.len
 have hbb := hb.len
 intro nx
 refine AC.intro' envOk Try.func91 rfl (by kernel_rfl) Try.ntmps91 Try.results91 ?_
 refine AW.sr envOk (fun N hN => ?_)
 simp -dsimp -implicitDefEqProofs (disch := omega) only [go_sem, undef, reduceAdd, reduceSub, reduceGT, reduceEqDiff, reduceMul, ringP, ints, rows, cubes, gd_i, gd_r, gd_c, w64]
 refine hN _ ?_
 try clear hN N
 refine AW.sr envOk (fun N hN => ?_)
 simp -dsimp -implicitDefEqProofs (disch := omega) only [go_sem, undef, reduceAdd, reduceSub, reduceGT, reduceEqDiff, reduceMul, ringP, ints, rows, cubes, gd_i, gd_r, gd_c, w64]
 refine hN _ ?_
 try clear hN N
 refine AW.seq (fun N1 hN1 => ?_)
 refine AW.sr envOk (fun N hN => ?_)
 simp -dsimp -implicitDefEqProofs (disch := omega) only [go_sem, undef, reduceAdd, reduceSub, reduceGT, reduceEqDiff, reduceMul, ringP, ints, rows, cubes, gd_i, gd_r, gd_c, w64]
 refine hN _ ?_
 try clear hN N
 refine AW.block ?_
 refine AW.loopN (α := Nat) (fun x => sl 67 [(0, ringP p pw br), (1, ints a), (2, ints b), (7, .h (nx + 1 + 5) 0 pw.length), (22, cubes br), (23, .i .i64 br.length), (24, .i .i64 x)]) (fun x => upd noH (nx + 1 + 5) (some (ivs pw.length (fun t => bsum a b br x t)))) (fun x m => x ≤ pw.length ∧ nx + 7 ≤ m) (fun x => pw.length - x) (0) ?_ ?_ (by rw [ivs_zero]; exact Le.refl _) ?_
 ·exact ⟨by omega, by simp only; omega⟩
 ·simp (disch := omega) [wks, wkA, sl, w64, ints, rows, cubes, ringP, ints, rows, cubes, gd_i, gd_r, gd_c, w64] <;> omega
 ·skip
  rintro k m ⟨hk, hm⟩
  simp -dsimp -implicitDefEqProofs (disch := omega) only [go_sem, undef, reduceAdd, reduceSub, reduceGT, reduceEqDiff, reduceMul]
  refine AW.sr envOk (fun N hN => ?_)
  simp -dsimp -implicitDefEqProofs (disch := omega) only [go_sem, undef, reduceAdd, reduceSub, reduceGT, reduceEqDiff, reduceMul, ringP, ints, rows, cubes, gd_i, gd_r, gd_c, w64]
  refine hN _ ?_
  try clear hN N
  refine AW.seq (fun N2 hN2 => ?_)
  refine AW.cond rfl (fun h1 => ?_) (fun h1 => ?_)
  ·try simp only [cn] at h1
   have hrl := s.rl k (by omega)
   refine AW.skip ?_
   simp only [thn, blk]
   refine hN2 _ ?_
   try clear hN2 N2
   refine AW.seq (fun N3 hN3 => ?_)
   refine AW.block ?_
   refine AW.sr envOk (fun N hN => ?_)
   simp -dsimp -implicitDefEqProofs (disch := omega) only [go_sem, undef, reduceAdd, reduceSub, reduceGT, reduceEqDiff, reduceMul, ringP, ints, rows, cubes, gd_i, gd_r, gd_c, w64]
   refine hN _ ?_
   try clear hN N
   refine AW.sr envOk (fun N hN => ?_)
   simp -dsimp -implicitDefEqProofs (disch := omega) only [go_sem, undef, reduceAdd, reduceSub, reduceGT, reduceEqDiff, reduceMul, ringP, ints, rows, cubes, gd_i, gd_r, gd_c, w64]
   refine hN _ ?_
   try clear hN N
   refine AW.block ?_
   refine AW.loopN (α := Nat) (fun x => sl 67 [(0, ringP p pw br), (1, ints a), (2, ints b), (7, .h (nx + 1 + 5) 0 pw.length), (8, .i .i64 k), (22, cubes br), (23, .i .i64 br.length), (24, .i .i64 k), (29, rows (br.getD k [])), (30, .i .i64 (br.getD k []).length), (31, .i .i64 x)]) (fun x => upd noH (nx + 1 + 5) (some (ivs pw.length (fun t => bsum a b br k t + brow a b (br.getD k []) k x t)))) (fun x m => x ≤ (br.getD k []).length ∧ nx + 7 ≤ m) (fun x => (br.getD k []).length - x) (0) ?_ ?_ (by rw [ivs_ext (g := fun t => bsum a b br k t) (fun j hj => by simp [brow, rsum])]; exact Le.refl _) ?_
   ·exact ⟨by omega, by simp only; omega⟩
   ·simp (disch := omega) [wks, wkA, sl, w64, ints, rows, cubes, ringP, ints, rows, cubes, gd_i, gd_r, gd_c, w64] <;> omega
   ·skip
    rintro q m2 ⟨hq, hm2⟩
    simp -dsimp -implicitDefEqProofs (disch := omega) only [go_sem, undef, reduceAdd, reduceSub, reduceGT, reduceEqDiff, reduceMul]
    refine AW.sr envOk (fun N hN => ?_)
    simp -dsimp -implicitDefEqProofs (disch := omega) only [go_sem, undef, reduceAdd, reduceSub, reduceGT, reduceEqDiff, reduceMul, ringP, ints, rows, cubes, gd_i, gd_r, gd_c, w64]
    refine hN _ ?_
    try clear hN N
    refine AW.seq (fun N4 hN4 => ?_)
    refine AW.cond rfl (fun h2 => ?_) (fun h2 => ?_)
    ·try simp only [cn] at h2
     have hbd := brc_bd hp7 ha hb (i := k) (r := q) (by omega)
     have hv := s.el k q (by omega) (by omega)
     refine AW.skip ?_
     simp only [thn, blk]
     refine hN4 _ ?_
     try clear hN4 N4
     refine AW.seq (fun N5 hN5 => ?_)
     refine AW.block ?_
     refine AW.sr envOk (fun N hN => ?_)
     simp -dsimp -implicitDefEqProofs (disch := omega) only [go_sem, undef, reduceAdd, reduceSub, reduceGT, reduceEqDiff, reduceMul, ringP, ints, rows, cubes, gd_i, gd_r, gd_c, w64]
     refine hN _ ?_
     try clear hN N
     refine AW.sr envOk (fun N hN => ?_)
     simp -dsimp -implicitDefEqProofs (disch := omega) only [go_sem, undef, reduceAdd, reduceSub, reduceGT, reduceEqDiff, reduceMul, ringP, ints, rows, cubes, gd_i, gd_r, gd_c, w64]
     refine hN _ ?_
     try clear hN N
     refine AW.drawL envOk (by kernel_rfl) 21 (by kernel_rfl) ?_
     simp -dsimp -implicitDefEqProofs (disch := omega) only [hr_nil, hr_one, hr_if, List.take_succ_cons, List.take_zero, List.drop_succ_cons, List.drop_zero, List.take_nil, List.drop_nil, go_sem, undef, reduceAdd, reduceSub, reduceGT, reduceEqDiff, reduceMul, ringP, ints, rows, cubes, gd_i, gd_r, gd_c, w64]
     obtain ⟨Q, hQ⟩ : ∃ Q, a.getD (k + 1 + q) 0 * b.getD k 0 - a.getD k 0 * b.getD (k + 1 + q) 0 = Q := ⟨_, rfl⟩
     have hQ2 : Q = -(brc a b k q) := by rw [← hQ, brc]; omega
     rw [hQ]
     refine (impl_subtractMultiple_ok (nx + 1 + 5) pw.length (fun t => bsum a b br k t + brow a b (br.getD k []) k q t) ((br.getD k []).getD q []) Q _ _ (upd_same _ _ _) (by have := hv.len; omega) (by have := hv.len; omega) (fun j hj => ?_)).mono2 ?_
     ·have e1 := cv_bd hp7 (c := Q) (by omega) (hv.rng j hj).1 (hv.rng j hj).2
      have e2 := bsum_bd s ha hb (k := k) (by omega) hj
      have e3 := brow_bd s ha hb (i := k) (q := q) (by omega) (by omega) hj
      omega
     rintro nx2 H2 r2 hx2 rfl
     try simp -dsimp -implicitDefEqProofs (disch := omega) only [go_sem, undef, reduceAdd, reduceSub, reduceGT, reduceEqDiff, reduceMul, ringP, ints, rows, cubes, gd_i, gd_r, gd_c, w64]
     refine hN5 _ ?_
     try clear hN5 N5
     refine AW.regionL envOk ?_
     simp -dsimp -implicitDefEqProofs (disch := omega) only [go_sem, undef, reduceAdd, reduceSub, reduceGT, reduceEqDiff, reduceMul, ringP, ints, rows, cubes, gd_i, gd_r, gd_c, w64]
     refine ⟨q + 1, ?_, by rw [ivs_ext (f := fun j => bsum a b br k j + brow a b (br.getD k []) k q j - Q * ((br.getD k []).getD q []).getD j 0) (g := fun t => bsum a b br k t + brow a b (br.getD k []) k (q + 1) t) (fun j hj => by simp only [brow, rsum, hQ2, Int.neg_mul]; omega)]; exact Le.refl _, ?_, ?_⟩
     ·simp (disch := omega) [wks, wkA, sl, w64, ints, rows, cubes, ringP, ints, rows, cubes, gd_i, gd_r, gd_c, w64] <;> omega
     ·exact ⟨by omega, by omega⟩
     ·first | omega | (simp only; omega)
    ·try simp only [cn] at h2
     refine AW.exit ?_
     simp only [thn, blk, if_true]
     refine hN3 _ ?_
     try clear hN3 N3
     refine AW.regionL envOk ?_
     simp -dsimp -implicitDefEqProofs (disch := omega) only [go_sem, undef, reduceAdd, reduceSub, reduceGT, reduceEqDiff, reduceMul, ringP, ints, rows, cubes, gd_i, gd_r, gd_c, w64]
     refine ⟨k + 1, ?_, by rw [show q = (br.getD k []).length by omega]; exact Le.refl _, ?_, ?_⟩
     ·simp (disch := omega) [wks, wkA, sl, w64, ints, rows, cubes, ringP, ints, rows, cubes, gd_i, gd_r, gd_c, w64] <;> omega
     ·exact ⟨by omega, by omega⟩
     ·first | omega | (simp only; omega)
  ·try simp only [cn] at h1
   refine AW.exit ?_
   simp only [thn, blk, if_true]
   refine hN1 _ ?_
   try clear hN1 N1
   refine AW.sr envOk (fun N hN => ?_)
   simp -dsimp -implicitDefEqProofs (disch := omega) only [go_sem, undef, reduceAdd, reduceSub, reduceGT, reduceEqDiff, reduceMul, ringP, ints, rows, cubes, gd_i, gd_r, gd_c, w64]
   rw [show k = pw.length by omega]
   refine AC.own (impl_normalLie_v p pw br s.toTri _ (fun j hj => by have := bsum_bd s ha hb (Nat.le_refl _) hj; omega)) (.cons (.refl _) (.cons (Vw.ivs (upd_same _ _ _)) .nil)) ?_
   intro m1 H3 r3 ids hm1 hH1 hown1
   try simp -dsimp -implicitDefEqProofs (disch := omega) only [go_sem, undef, reduceAdd, reduceSub, reduceGT, reduceEqDiff, reduceMul, ringP, ints, rows, cubes, gd_i, gd_r, gd_c, w64]
   refine hN _ ?_
   try clear hN N
   refine AW.ret ?_
   simp -dsimp -implicitDefEqProofs (disch := omega) only [go_sem, undef, reduceAdd, reduceSub, reduceGT, reduceEqDiff, reduceMul]
   exact ⟨ids, hown1.keep (fun _ _ _ => rfl) (by omega) (by omega)⟩
end Go.Proofs.Ytkmgmjajbiddbaa
