/-
  Cayley tables: bijections, the standard numbering, companions; the test by the reference and by the program; the law FnExactIsCayleyTable.
-/
import Derived.Test.YtimgnijlnkjamaaNa
set_option linter.unusedVariables false
set_option linter.unusedSimpArgs false
namespace Go.Proofs.Ytimgnijlnkjamaa
open Nat (reduceAdd reduceSub reduceGT reduceEqDiff reduceMul)

/-! Lists of truth values of one's own. -/
def bvs (n : Nat) (f : Nat → Bool) : List AV := (List.range n).map fun k => .b (f k)
def bset (f : Nat → Bool) (j : Nat) (x : Bool) : Nat → Bool := fun k => if k = j then x else f k
theorem bvs_len {n : Nat} {f : Nat → Bool} : (bvs n f).length = n := by simp [bvs]
theorem bvs_get {n : Nat} {f : Nat → Bool} {j : Nat} (h : j < n) : (bvs n f).getD j .j = .b (f j) := by simp [bvs, h]
theorem bvs_ext {n : Nat} {f g : Nat → Bool} (h : ∀ k, k < n → f k = g k) : bvs n f = bvs n g := by
  apply List.map_congr_left
  intro k hk
  rw [h k (List.mem_range.1 hk)]
theorem bvs_set {n : Nat} {f : Nat → Bool} {j : Nat} {x : Bool} (h : j < n) : splice (bvs n f) j [.b x] = bvs n (bset f j x) := by
  rw [splice_one _ _ _ (by rw [bvs_len]; exact h)]
  apply List.ext_getElem?
  intro i
  rw [List.getElem?_set]
  by_cases hi : j = i
  · subst hi; simp [bvs, bset, h]
  · simp only [hi, if_false, bvs, List.getElem?_map]
    by_cases hn : i < n
    · simp [hn, bset, Ne.symm hi]
    · simp [hn]
theorem bvs_zero {n : Nat} : List.replicate n (.b false) = bvs n (fun _ => false) := by
  apply List.ext_getElem?
  intro i
  by_cases h : i < n <;> simp [bvs, h]
attribute [go_sem] bvs_len bvs_get bvs_set

/-- A bijection of 0 .. length - 1. -/
def bij (a : List Int) : Prop := (∀ k, k < a.length → 0 ≤ a.getD k 0 ∧ a.getD k 0 ≤ (a.length : Int) - 1) ∧ ∀ i j, i < j → j < a.length → a.getD i 0 ≠ a.getD j 0
noncomputable def seenF (a : List Int) (k : Nat) : Nat → Bool := fun v => tf (∃ j, j < k ∧ (a.getD j 0).toNat = v)
theorem seen_zero {a : List Int} : bvs a.length (seenF a 0) = List.replicate a.length (.b false) := by
  rw [bvs_zero]
  exact bvs_ext (fun v hv => tf_f (by rintro ⟨j, h, _⟩; omega))
theorem seen_next {a : List Int} {k : Nat} : bvs a.length (bset (seenF a k) (a.getD k 0).toNat true) = bvs a.length (seenF a (k + 1)) := by
  refine bvs_ext (fun v hv => ?_)
  unfold bset seenF
  split
  · rename_i h
    exact (tf_t ⟨k, by omega, h.symm⟩).symm
  · rename_i h
    refine tf_eq ⟨fun ⟨j, h1, h2⟩ => ⟨j, by omega, h2⟩, fun ⟨j, h1, h2⟩ => ⟨j, ?_, h2⟩⟩
    by_cases e : j = k
    · subst e; exact absurd h2.symm h
    · omega

theorem bij_step {a : List Int} {k : Nat} (hJ : ∀ i j, i < j → j < k → a.getD i 0 ≠ a.getD j 0) (hI : ∀ j, j < k → 0 ≤ a.getD j 0) (h3 : 0 ≤ a.getD k 0) (h4 : ¬ seenF a k (a.getD k 0).toNat = true) : ∀ i j, i < j → j < k + 1 → a.getD i 0 ≠ a.getD j 0 := by
  intro i j hij hj he
  by_cases e : j = k
  · subst e
    exact h4 (tf_t ⟨i, hij, by rw [he]⟩)
  · exact hJ i j hij (by omega) he
theorem bij_no {a : List Int} {k : Nat} (hk : k < a.length) (h4 : seenF a k (a.getD k 0).toNat = true) : ¬ bij a := by
  obtain ⟨j, h1, h2⟩ := tf_iff.1 h4
  intro ⟨hb, hd⟩
  have q1 := hb j (by omega)
  have q2 := hb k hk
  exact hd j k h1 hk (by omega)

theorem spec_IsBijection_ok (a : List Int) (ha : a.length ≤ 1048576) : ACp Try.prog 158 [ints a] (.b (tf (a.length ≤ 128 ∧ bij a))) := by
 refine ACp.intro' envOk Try.func158 rfl (by kernel_rfl) Try.ntmps158 Try.results158 (.b _) (fun nx => ?_)
 refine AW.sr envOk (fun N hN => ?_)
 simp -dsimp -implicitDefEqProofs (disch := omega) only [go_sem, undef, reduceAdd, reduceSub, reduceGT, reduceEqDiff, reduceMul, ints, gd_i, w64]
 refine hN _ ?_
 try clear hN N
 refine AW.seq (fun N1 hN1 => ?_)
 refine AW.sr envOk (fun N hN => ?_)
 simp -dsimp -implicitDefEqProofs (disch := omega) only [go_sem, undef, reduceAdd, reduceSub, reduceGT, reduceEqDiff, reduceMul, ints, gd_i, w64]
 refine hN _ ?_
 try clear hN N
 refine AW.cond rfl (fun h1 => ?_) (fun h1 => ?_)
 ·try simp only [cn] at h1
  refine AW.sr envOk (fun N hN => ?_)
  simp -dsimp -implicitDefEqProofs (disch := omega) only [go_sem, undef, reduceAdd, reduceSub, reduceGT, reduceEqDiff, reduceMul, ints, gd_i, w64]
  refine hN _ ?_
  try clear hN N
  refine AW.ret ?_
  simp -dsimp -implicitDefEqProofs (disch := omega) only [go_sem, undef, reduceAdd, reduceSub, reduceGT, reduceEqDiff, reduceMul]
  exact bt (tf_f (fun h => by omega)).symm
 ·try simp only [cn] at h1
  refine AW.skip ?_
  simp only [thn, blk]
  refine hN1 _ ?_
  try clear hN1 N1
  refine AW.sr envOk (fun N hN => ?_)
  simp -dsimp -implicitDefEqProofs (disch := omega) only [go_sem, undef, reduceAdd, reduceSub, reduceGT, reduceEqDiff, reduceMul, ints, gd_i, w64]
  refine hN _ ?_
  try clear hN N
  refine AW.seq (fun N2 hN2 => ?_)
  refine AW.sr envOk (fun N hN => ?_)
  simp -dsimp -implicitDefEqProofs (disch := omega) only [go_sem, undef, reduceAdd, reduceSub, reduceGT, reduceEqDiff, reduceMul, ints, gd_i, w64]
  refine hN _ ?_
  try clear hN N
  refine AW.block ?_
  refine AW.loopN (α := Nat) (fun x => sl 41 [(0, ints a), (3, .h (nx + 1 + 3 + 2) 0 a.length), (4, .i .i64 x)]) (fun x => upd noH (nx + 1 + 3 + 2) (some (bvs a.length (seenF a x)))) (fun x m => x ≤ a.length ∧ (∀ k, k < x → 0 ≤ a.getD k 0 ∧ a.getD k 0 ≤ (a.length : Int) - 1) ∧ (∀ i j, i < j → j < x → a.getD i 0 ≠ a.getD j 0)) (fun x => a.length - x) (0) ?_ ?_ (by rw [seen_zero]; exact Le.refl _) ?_
  ·exact ⟨by omega, by intro j hj; omega, by intro i j h h2; omega⟩
  ·simp (disch := omega) [wks, wkA, sl, w64, ints, rows, cubes, ints, gd_i, w64] <;> omega
  ·skip
   rintro k m ⟨hk, hI, hJ⟩
   simp -dsimp -implicitDefEqProofs (disch := omega) only [go_sem, undef, reduceAdd, reduceSub, reduceGT, reduceEqDiff, reduceMul]
   refine AW.seq (fun N3 hN3 => ?_)
   refine AW.sr envOk (fun N hN => ?_)
   simp -dsimp -implicitDefEqProofs (disch := omega) only [go_sem, undef, reduceAdd, reduceSub, reduceGT, reduceEqDiff, reduceMul, ints, gd_i, w64]
   refine hN _ ?_
   try clear hN N
   refine AW.cond rfl (fun h2 => ?_) (fun h2 => ?_)
   ·try simp only [cn] at h2
    refine AW.skip ?_
    simp only [thn, blk]
    refine hN3 _ ?_
    try clear hN3 N3
    refine AW.seq (fun N4 hN4 => ?_)
    refine AW.block ?_
    refine AW.seq (fun N5 hN5 => ?_)
    refine AW.sr envOk (fun N hN => ?_)
    simp -dsimp -implicitDefEqProofs (disch := omega) only [go_sem, undef, reduceAdd, reduceSub, reduceGT, reduceEqDiff, reduceMul, ints, gd_i, w64]
    refine AC.pure (.of (spec_l01In_ok _ _ _)) ?_
    try simp -dsimp -implicitDefEqProofs (disch := omega) only [go_sem, undef, reduceAdd, reduceSub, reduceGT, reduceEqDiff, reduceMul, ints, gd_i, w64]
    refine gopB.mk' (fun h3 => ?_) (fun h3 => ?_)
    ·try simp only [cn] at h3
     try simp -dsimp -implicitDefEqProofs (disch := omega) only [go_sem, undef, reduceAdd, reduceSub, reduceGT, reduceEqDiff, reduceMul, ints, gd_i, w64]
     refine hN _ ?_
     try clear hN N
     refine AW.cond rfl (fun h4 => ?_) (fun h4 => ?_)
     ·try simp only [cn] at h4
      refine AW.sr envOk (fun N hN => ?_)
      simp -dsimp -implicitDefEqProofs (disch := omega) only [go_sem, undef, reduceAdd, reduceSub, reduceGT, reduceEqDiff, reduceMul, ints, gd_i, w64]
      refine hN _ ?_
      try clear hN N
      refine AW.ret ?_
      simp -dsimp -implicitDefEqProofs (disch := omega) only [go_sem, undef, reduceAdd, reduceSub, reduceGT, reduceEqDiff, reduceMul]
      exact bt (tf_f (bij_no (by omega) h4)).symm
     ·try simp only [cn] at h4
      refine AW.skip ?_
      simp only [thn, blk]
      refine hN5 _ ?_
      try clear hN5 N5
      refine AW.regionL envOk ?_
      simp -dsimp -implicitDefEqProofs (disch := omega) only [go_sem, undef, reduceAdd, reduceSub, reduceGT, reduceEqDiff, reduceMul, ints, gd_i, w64]
      refine hN4 _ ?_
      try clear hN4 N4
      refine AW.regionL envOk ?_
      simp -dsimp -implicitDefEqProofs (disch := omega) only [go_sem, undef, reduceAdd, reduceSub, reduceGT, reduceEqDiff, reduceMul, ints, gd_i, w64]
      refine ⟨k + 1, ?_, by rw [seen_next]; exact Le.refl _, ?_, ?_⟩
      ·simp (disch := omega) [wks, wkA, sl, w64, ints, rows, cubes, ints, gd_i, w64] <;> omega
      ·refine ⟨by omega, fun j hj => ?_, bij_step hJ (fun j hj => (hI j hj).1) h3.1 (by rw [h4]; simp)⟩
       by_cases e : j = k
       ·subst e; exact h3
       ·exact hI j (by omega)
      ·first | omega | (simp only; omega)
    ·try simp only [cn] at h3
     try simp -dsimp -implicitDefEqProofs (disch := omega) only [go_sem, undef, reduceAdd, reduceSub, reduceGT, reduceEqDiff, reduceMul, ints, gd_i, w64]
     refine hN _ ?_
     try clear hN N
     refine AW.condT rfl ?_
     refine AW.sr envOk (fun N hN => ?_)
     simp -dsimp -implicitDefEqProofs (disch := omega) only [go_sem, undef, reduceAdd, reduceSub, reduceGT, reduceEqDiff, reduceMul, ints, gd_i, w64]
     refine hN _ ?_
     try clear hN N
     refine AW.ret ?_
     simp -dsimp -implicitDefEqProofs (disch := omega) only [go_sem, undef, reduceAdd, reduceSub, reduceGT, reduceEqDiff, reduceMul]
     exact bt (tf_f (fun h => h3 (h.1 k (by omega)))).symm
   ·try simp only [cn] at h2
    refine AW.exit ?_
    simp only [thn, blk, if_true]
    refine hN2 _ ?_
    try clear hN2 N2
    refine AW.sr envOk (fun N hN => ?_)
    simp -dsimp -implicitDefEqProofs (disch := omega) only [go_sem, undef, reduceAdd, reduceSub, reduceGT, reduceEqDiff, reduceMul, ints, gd_i, w64]
    refine hN _ ?_
    try clear hN N
    refine AW.ret ?_
    simp -dsimp -implicitDefEqProofs (disch := omega) only [go_sem, undef, reduceAdd, reduceSub, reduceGT, reduceEqDiff, reduceMul]
    have hk' : k = a.length := by omega
    subst hk'
    exact bt (tf_t ⟨hI, hJ⟩).symm


theorem impl_isBijection_ok (a : List Int) (ha : a.length ≤ 1048576) : ACp Try.prog 119 [ints a] (.b (tf (bij a))) := by
 refine ACp.intro' envOk Try.func119 rfl (by kernel_rfl) Try.ntmps119 Try.results119 (.b _) (fun nx => ?_)
 refine AW.sr envOk (fun N hN => ?_)
 simp -dsimp -implicitDefEqProofs (disch := omega) only [go_sem, undef, reduceAdd, reduceSub, reduceGT, reduceEqDiff, reduceMul, ints, gd_i, w64]
 refine hN _ ?_
 try clear hN N
 refine AW.sr envOk (fun N hN => ?_)
 simp -dsimp -implicitDefEqProofs (disch := omega) only [go_sem, undef, reduceAdd, reduceSub, reduceGT, reduceEqDiff, reduceMul, ints, gd_i, w64]
 refine hN _ ?_
 try clear hN N
 refine AW.seq (fun N1 hN1 => ?_)
 refine AW.sr envOk (fun N hN => ?_)
 simp -dsimp -implicitDefEqProofs (disch := omega) only [go_sem, undef, reduceAdd, reduceSub, reduceGT, reduceEqDiff, reduceMul, ints, gd_i, w64]
 refine hN _ ?_
 try clear hN N
 refine AW.block ?_
 refine AW.loopN (α := Nat) (fun x => sl 31 [(0, ints a), (3, .h (nx + 1 + 2) 0 a.length), (9, ints a), (10, .i .i64 a.length), (11, .i .i64 x)]) (fun x => upd noH (nx + 1 + 2) (some (bvs a.length (seenF a x)))) (fun x m => x ≤ a.length ∧ (∀ k, k < x → 0 ≤ a.getD k 0 ∧ a.getD k 0 ≤ (a.length : Int) - 1) ∧ (∀ i j, i < j → j < x → a.getD i 0 ≠ a.getD j 0)) (fun x => a.length - x) (0) ?_ ?_ (by rw [seen_zero]; exact Le.refl _) ?_
 ·exact ⟨by omega, by intro j hj; omega, by intro i j h h2; omega⟩
 ·simp (disch := omega) [wks, wkA, sl, w64, ints, rows, cubes, ints, gd_i, w64] <;> omega
 ·skip
  rintro k m ⟨hk, hI, hJ⟩
  simp -dsimp -implicitDefEqProofs (disch := omega) only [go_sem, undef, reduceAdd, reduceSub, reduceGT, reduceEqDiff, reduceMul]
  refine AW.sr envOk (fun N hN => ?_)
  simp -dsimp -implicitDefEqProofs (disch := omega) only [go_sem, undef, reduceAdd, reduceSub, reduceGT, reduceEqDiff, reduceMul, ints, gd_i, w64]
  refine hN _ ?_
  try clear hN N
  refine AW.seq (fun N2 hN2 => ?_)
  refine AW.cond rfl (fun h1 => ?_) (fun h1 => ?_)
  ·try simp only [cn] at h1
   refine AW.skip ?_
   simp only [thn, blk]
   refine hN2 _ ?_
   try clear hN2 N2
   refine AW.seq (fun N3 hN3 => ?_)
   refine AW.block ?_
   refine AW.sr envOk (fun N hN => ?_)
   simp -dsimp -implicitDefEqProofs (disch := omega) only [go_sem, undef, reduceAdd, reduceSub, reduceGT, reduceEqDiff, reduceMul, ints, gd_i, w64]
   refine hN _ ?_
   try clear hN N
   refine AW.seq (fun N4 hN4 => ?_)
   refine AW.sr envOk (fun N hN => ?_)
   simp -dsimp -implicitDefEqProofs (disch := omega) only [go_sem, undef, reduceAdd, reduceSub, reduceGT, reduceEqDiff, reduceMul, ints, gd_i, w64]
   refine AC.pure (.of (impl_inside_ok _ _ _)) ?_
   try simp -dsimp -implicitDefEqProofs (disch := omega) only [go_sem, undef, reduceAdd, reduceSub, reduceGT, reduceEqDiff, reduceMul, ints, gd_i, w64]
   refine gopB.mk' (fun h2 => ?_) (fun h2 => ?_)
   ·try simp only [cn] at h2
    try simp -dsimp -implicitDefEqProofs (disch := omega) only [go_sem, undef, reduceAdd, reduceSub, reduceGT, reduceEqDiff, reduceMul, ints, gd_i, w64]
    refine hN _ ?_
    try clear hN N
    refine AW.cond rfl (fun h3 => ?_) (fun h3 => ?_)
    ·try simp only [cn] at h3
     refine AW.sr envOk (fun N hN => ?_)
     simp -dsimp -implicitDefEqProofs (disch := omega) only [go_sem, undef, reduceAdd, reduceSub, reduceGT, reduceEqDiff, reduceMul, ints, gd_i, w64]
     refine hN _ ?_
     try clear hN N
     refine AW.ret ?_
     simp -dsimp -implicitDefEqProofs (disch := omega) only [go_sem, undef, reduceAdd, reduceSub, reduceGT, reduceEqDiff, reduceMul]
     exact bt (tf_f (bij_no (by omega) h3)).symm
    ·try simp only [cn] at h3
     refine AW.skip ?_
     simp only [thn, blk]
     refine hN4 _ ?_
     try clear hN4 N4
     refine AW.regionL envOk ?_
     simp -dsimp -implicitDefEqProofs (disch := omega) only [go_sem, undef, reduceAdd, reduceSub, reduceGT, reduceEqDiff, reduceMul, ints, gd_i, w64]
     refine hN3 _ ?_
     try clear hN3 N3
     refine AW.regionL envOk ?_
     simp -dsimp -implicitDefEqProofs (disch := omega) only [go_sem, undef, reduceAdd, reduceSub, reduceGT, reduceEqDiff, reduceMul, ints, gd_i, w64]
     refine ⟨k + 1, ?_, by rw [seen_next]; exact Le.refl _, ?_, ?_⟩
     ·simp (disch := omega) [wks, wkA, sl, w64, ints, rows, cubes, ints, gd_i, w64] <;> omega
     ·refine ⟨by omega, fun j hj => ?_, bij_step hJ (fun j hj => (hI j hj).1) h2.1 (by rw [h3]; simp)⟩
      by_cases e : j = k
      ·subst e; exact h2
      ·exact hI j (by omega)
     ·first | omega | (simp only; omega)
   ·try simp only [cn] at h2
    try simp -dsimp -implicitDefEqProofs (disch := omega) only [go_sem, undef, reduceAdd, reduceSub, reduceGT, reduceEqDiff, reduceMul, ints, gd_i, w64]
    refine hN _ ?_
    try clear hN N
    refine AW.condT rfl ?_
    refine AW.sr envOk (fun N hN => ?_)
    simp -dsimp -implicitDefEqProofs (disch := omega) only [go_sem, undef, reduceAdd, reduceSub, reduceGT, reduceEqDiff, reduceMul, ints, gd_i, w64]
    refine hN _ ?_
    try clear hN N
    refine AW.ret ?_
    simp -dsimp -implicitDefEqProofs (disch := omega) only [go_sem, undef, reduceAdd, reduceSub, reduceGT, reduceEqDiff, reduceMul]
    exact bt (tf_f (fun h => h2 (h.1 k (by omega)))).symm
  ·try simp only [cn] at h1
   refine AW.exit ?_
   simp only [thn, blk, if_true]
   refine hN1 _ ?_
   try clear hN1 N1
   refine AW.sr envOk (fun N hN => ?_)
   simp -dsimp -implicitDefEqProofs (disch := omega) only [go_sem, undef, reduceAdd, reduceSub, reduceGT, reduceEqDiff, reduceMul, ints, gd_i, w64]
   refine hN _ ?_
   try clear hN N
   refine AW.ret ?_
   simp -dsimp -implicitDefEqProofs (disch := omega) only [go_sem, undef, reduceAdd, reduceSub, reduceGT, reduceEqDiff, reduceMul]
   have hk' : k = a.length := by omega
   subst hk'
   exact bt (tf_t ⟨hI, hJ⟩).symm


theorem Vw.ivq {H : HP} {id n : Nat} {f : Nat → Int} (h : H id = some (ivs n f)) : Vw H (.h id 0 n) (ints (vec n f)) := by
  unfold Go.Proofs.Ytimgnijlnkjamaa.ints
  rw [vec_len, vec_map]
  exact .h id 0 n _ _ h (by rw [ivs_len]; omega) ivs_len (fun k x y hx hy => by rw [Nat.zero_add, hy] at hx; cases hx; exact .refl _)

/-! The table: its entries, and how the numbering goes on. -/
def tab (tb : List (List Int)) (g x : Nat) : Int := (tb.getD g []).getD x 0
structure Sz (tb : List (List Int)) (n : Nat) : Prop where
  n1 : 1 ≤ n
  n128 : n ≤ 128
  G1 : 1 ≤ tb.length
  G4 : tb.length ≤ 4
  len : ∀ g, g < tb.length → (tb.getD g []).length = n
  rng : ∀ g x, g < tb.length → x < n → 0 ≤ (tb.getD g []).getD x 0 ∧ (tb.getD g []).getD x 0 ≤ (n : Int) - 1
def ninn (tb : List (List Int)) (x : Nat) : Nat → Int → Int
  | 0, v => v
  | g + 1, v => if (tb.getD g []).getD x 0 = ninn tb x g v then ninn tb x g v + 1 else ninn tb x g v
def nout (tb : List (List Int)) : Nat → Int
  | 0 => 1
  | x + 1 => ninn tb x tb.length (nout tb x)
theorem ninn_bd {tb : List (List Int)} {n x : Nat} (h : Sz tb n) (hx : x < n) {v : Int} (h1 : v ≤ n) : ∀ g, g ≤ tb.length → v ≤ ninn tb x g v ∧ ninn tb x g v ≤ n := by
  intro g
  induction g with
  | zero => intro _; exact ⟨Int.le_refl _, h1⟩
  | succ g ih =>
    intro hg
    have := ih (by omega)
    have hr := h.rng g x (by omega) hx
    rw [ninn]
    split <;> omega
theorem nout_bd {tb : List (List Int)} {n : Nat} (h : Sz tb n) : ∀ x, x ≤ n → 1 ≤ nout tb x ∧ nout tb x ≤ n := by
  intro x
  induction x with
  | zero => intro _; have := h.n1; simp only [nout]; omega
  | succ x ih =>
    intro hx
    have h1 := ih (by omega)
    have h2 := ninn_bd h (x := x) (by omega) h1.2 tb.length (Nat.le_refl _)
    rw [nout]; omega
/-- The standard numbering. -/
def numAt (tb : List (List Int)) (x : Nat) : Prop := (x : Int) < nout tb x ∧ ∀ g, g < tb.length → (tb.getD g []).getD x 0 ≤ ninn tb x g (nout tb x)
def numP (tb : List (List Int)) (n : Nat) : Prop := ∀ x, x < n → numAt tb x
theorem num_end {tb : List (List Int)} {n : Nat} (h : Sz tb n) (hn : numP tb n) : nout tb n = n := by
  have h1 := h.n1
  obtain ⟨m, rfl⟩ : ∃ m, n = m + 1 := ⟨n - 1, by omega⟩
  have h2 := (hn m (by omega)).1
  have h3 := nout_bd h m (by omega)
  have h4 := ninn_bd h (x := m) (by omega) h3.2 tb.length (Nat.le_refl _)
  rw [nout]; omega

theorem spec_l27Numbered_ok (tb : List (List Int)) (n : Nat) (h : Sz tb n) : ACp Try.prog 114 [rows tb, .i .i64 n] (.b (tf (numP tb n))) := by
 obtain ⟨hn1, hn2, hG1, hG, hlen, hrng⟩ := id h
 refine ACp.intro' envOk Try.func114 rfl (by kernel_rfl) Try.ntmps114 Try.results114 (.b _) (fun nx => ?_)
 refine AW.sr envOk (fun N hN => ?_)
 simp -dsimp -implicitDefEqProofs (disch := omega) only [go_sem, undef, reduceAdd, reduceSub, reduceGT, reduceEqDiff, reduceMul, ints, rows, gd_i, gd_r, w64]
 refine hN _ ?_
 try clear hN N
 refine AW.sr envOk (fun N hN => ?_)
 simp -dsimp -implicitDefEqProofs (disch := omega) only [go_sem, undef, reduceAdd, reduceSub, reduceGT, reduceEqDiff, reduceMul, ints, rows, gd_i, gd_r, w64]
 refine hN _ ?_
 try clear hN N
 refine AW.seq (fun N1 hN1 => ?_)
 refine AW.sr envOk (fun N hN => ?_)
 simp -dsimp -implicitDefEqProofs (disch := omega) only [go_sem, undef, reduceAdd, reduceSub, reduceGT, reduceEqDiff, reduceMul, ints, rows, gd_i, gd_r, w64]
 refine hN _ ?_
 try clear hN N
 refine AW.block ?_
 refine AW.loopN (α := Nat) (fun x => sl 43 [(0, rows tb), (1, .i .i64 n), (5, .i .i64 (nout tb x)), (6, .i .i64 x)]) (fun _ => noH) (fun x m => x ≤ n ∧ (∀ k, k < x → numAt tb k)) (fun x => n - x) (0) ?_ ?_ (fun _ _ h => h) ?_
 ·exact ⟨by omega, by intro j hj; omega⟩
 ·simp [wks, wkA, sl, nout, rows]
 ·skip
  rintro k m ⟨hk, hI⟩
  simp -dsimp -implicitDefEqProofs (disch := omega) only [go_sem, undef, reduceAdd, reduceSub, reduceGT, reduceEqDiff, reduceMul]
  have hb := nout_bd h k hk
  refine AW.seq (fun N2 hN2 => ?_)
  refine AW.sr envOk (fun N hN => ?_)
  simp -dsimp -implicitDefEqProofs (disch := omega) only [go_sem, undef, reduceAdd, reduceSub, reduceGT, reduceEqDiff, reduceMul, ints, rows, gd_i, gd_r, w64]
  refine gopB.mk' (fun h1 => ?_) (fun h1 => ?_)
  ·try simp only [cn] at h1
   try simp -dsimp -implicitDefEqProofs (disch := omega) only [go_sem, undef, reduceAdd, reduceSub, reduceGT, reduceEqDiff, reduceMul, ints, rows, gd_i, gd_r, w64]
   refine hN _ ?_
   try clear hN N
   refine AW.cond rfl (fun h2 => ?_) (fun h2 => ?_)
   ·try simp only [cn] at h2
    refine AW.skip ?_
    simp only [thn, blk]
    refine hN2 _ ?_
    try clear hN2 N2
    refine AW.seq (fun N3 hN3 => ?_)
    refine AW.block ?_
    refine AW.sr envOk (fun N hN => ?_)
    simp -dsimp -implicitDefEqProofs (disch := omega) only [go_sem, undef, reduceAdd, reduceSub, reduceGT, reduceEqDiff, reduceMul, ints, rows, gd_i, gd_r, w64]
    refine hN _ ?_
    try clear hN N
    refine AW.block ?_
    refine AW.loopN (α := Nat) (fun x => sl 43 [(0, rows tb), (1, .i .i64 n), (5, .i .i64 (ninn tb k x (nout tb k))), (6, .i .i64 k), (7, .i .i64 x)]) (fun _ => noH) (fun x m => x ≤ tb.length ∧ ∀ g, g < x → (tb.getD g []).getD k 0 ≤ ninn tb k g (nout tb k)) (fun x => tb.length - x) (0) ?_ ?_ (fun _ _ h => h) ?_
    ·exact ⟨by omega, by intro j hj; omega⟩
    ·simp [wks, wkA, sl, ninn, rows]
    ·skip
     rintro g m2 ⟨hg, hJ⟩
     simp -dsimp -implicitDefEqProofs (disch := omega) only [go_sem, undef, reduceAdd, reduceSub, reduceGT, reduceEqDiff, reduceMul]
     have hb2 := ninn_bd h (x := k) (by omega) hb.2 g hg
     refine AW.seq (fun N4 hN4 => ?_)
     refine AW.sr envOk (fun N hN => ?_)
     simp -dsimp -implicitDefEqProofs (disch := omega) only [go_sem, undef, reduceAdd, reduceSub, reduceGT, reduceEqDiff, reduceMul, ints, rows, gd_i, gd_r, w64]
     refine hN _ ?_
     try clear hN N
     refine AW.cond rfl (fun h3 => ?_) (fun h3 => ?_)
     ·try simp only [cn] at h3
      have hl := hlen g (by omega)
      have hr := hrng g k (by omega) (by omega)
      refine AW.skip ?_
      simp only [thn, blk]
      refine hN4 _ ?_
      try clear hN4 N4
      refine AW.seq (fun N5 hN5 => ?_)
      refine AW.block ?_
      refine AW.sr envOk (fun N hN => ?_)
      simp -dsimp -implicitDefEqProofs (disch := omega) only [go_sem, undef, reduceAdd, reduceSub, reduceGT, reduceEqDiff, reduceMul, ints, rows, gd_i, gd_r, w64]
      refine hN _ ?_
      try clear hN N
      refine AW.seq (fun N6 hN6 => ?_)
      refine AW.sr envOk (fun N hN => ?_)
      simp -dsimp -implicitDefEqProofs (disch := omega) only [go_sem, undef, reduceAdd, reduceSub, reduceGT, reduceEqDiff, reduceMul, ints, rows, gd_i, gd_r, w64]
      refine hN _ ?_
      try clear hN N
      refine AW.cond rfl (fun h4 => ?_) (fun h4 => ?_)
      ·try simp only [cn] at h4
       refine AW.sr envOk (fun N hN => ?_)
       simp -dsimp -implicitDefEqProofs (disch := omega) only [go_sem, undef, reduceAdd, reduceSub, reduceGT, reduceEqDiff, reduceMul, ints, rows, gd_i, gd_r, w64]
       refine hN _ ?_
       try clear hN N
       refine AW.ret ?_
       simp -dsimp -implicitDefEqProofs (disch := omega) only [go_sem, undef, reduceAdd, reduceSub, reduceGT, reduceEqDiff, reduceMul]
       exact bt (tf_f (fun hq => by have := (hq k (by omega)).2 g (by omega); omega)).symm
      ·try simp only [cn] at h4
       refine AW.skip ?_
       simp only [thn, blk]
       refine hN6 _ ?_
       try clear hN6 N6
       refine AW.sr envOk (fun N hN => ?_)
       simp -dsimp -implicitDefEqProofs (disch := omega) only [go_sem, undef, reduceAdd, reduceSub, reduceGT, reduceEqDiff, reduceMul, ints, rows, gd_i, gd_r, w64]
       refine hN _ ?_
       try clear hN N
       refine AW.cond rfl (fun h5 => ?_) (fun h5 => ?_)
       ·try simp only [cn] at h5
        have hs : ninn tb k (g + 1) (nout tb k) = ninn tb k g (nout tb k) + 1 := by rw [ninn, if_pos h5]
        refine AW.regionL envOk ?_
        simp -dsimp -implicitDefEqProofs (disch := omega) only [go_sem, undef, reduceAdd, reduceSub, reduceGT, reduceEqDiff, reduceMul, ints, rows, gd_i, gd_r, w64]
        refine hN5 _ ?_
        try clear hN5 N5
        refine AW.regionL envOk ?_
        simp -dsimp -implicitDefEqProofs (disch := omega) only [go_sem, undef, reduceAdd, reduceSub, reduceGT, reduceEqDiff, reduceMul, ints, rows, gd_i, gd_r, w64]
        refine ⟨g + 1, ?_, fun _ _ h => h, ?_, ?_⟩
        ·simp [wks, wkA, sl, rows, hs]
        ·refine ⟨by omega, fun j hj => ?_⟩
         by_cases e : j = g
         ·subst e; omega
         ·exact hJ j (by omega)
        ·first | omega | (simp only; omega)
       ·try simp only [cn] at h5
        have hs : ninn tb k (g + 1) (nout tb k) = ninn tb k g (nout tb k) := by rw [ninn, if_neg h5]
        refine AW.skip ?_
        simp only [thn, blk]
        refine hN5 _ ?_
        try clear hN5 N5
        refine AW.regionL envOk ?_
        simp -dsimp -implicitDefEqProofs (disch := omega) only [go_sem, undef, reduceAdd, reduceSub, reduceGT, reduceEqDiff, reduceMul, ints, rows, gd_i, gd_r, w64]
        refine ⟨g + 1, ?_, fun _ _ h => h, ?_, ?_⟩
        ·simp [wks, wkA, sl, rows, hs]
        ·refine ⟨by omega, fun j hj => ?_⟩
         by_cases e : j = g
         ·subst e; omega
         ·exact hJ j (by omega)
        ·first | omega | (simp only; omega)
     ·try simp only [cn] at h3
      refine AW.exit ?_
      simp only [thn, blk, if_true]
      refine hN3 _ ?_
      try clear hN3 N3
      refine AW.regionL envOk ?_
      simp -dsimp -implicitDefEqProofs (disch := omega) only [go_sem, undef, reduceAdd, reduceSub, reduceGT, reduceEqDiff, reduceMul, ints, rows, gd_i, gd_r, w64]
      have hg' : g = tb.length := by omega
      subst hg'
      refine ⟨k + 1, ?_, fun _ _ h => h, ?_, ?_⟩
      ·simp [wks, wkA, sl, rows, nout]
      ·refine ⟨by omega, fun j hj => ?_⟩
       by_cases e : j = k
       ·subst e; exact ⟨h1, fun q hq => hJ q (by omega)⟩
       ·exact hI j (by omega)
      ·first | omega | (simp only; omega)
   ·try simp only [cn] at h2
    refine AW.exit ?_
    simp only [thn, blk, if_true]
    refine hN1 _ ?_
    try clear hN1 N1
    refine AW.sr envOk (fun N hN => ?_)
    simp -dsimp -implicitDefEqProofs (disch := omega) only [go_sem, undef, reduceAdd, reduceSub, reduceGT, reduceEqDiff, reduceMul, ints, rows, gd_i, gd_r, w64]
    refine hN _ ?_
    try clear hN N
    refine AW.ret ?_
    simp -dsimp -implicitDefEqProofs (disch := omega) only [go_sem, undef, reduceAdd, reduceSub, reduceGT, reduceEqDiff, reduceMul]
    have hk' : k = n := by omega
    subst hk'
    exact bt (by rw [num_end h hI, tf_t (show numP tb k from hI)]; simp)
  ·try simp only [cn] at h1
   try simp -dsimp -implicitDefEqProofs (disch := omega) only [go_sem, undef, reduceAdd, reduceSub, reduceGT, reduceEqDiff, reduceMul, ints, rows, gd_i, gd_r, w64]
   refine hN _ ?_
   try clear hN N
   refine AW.condF rfl ?_
   refine AW.exit ?_
   simp only [thn, blk, if_true]
   refine hN1 _ ?_
   try clear hN1 N1
   refine AW.sr envOk (fun N hN => ?_)
   simp -dsimp -implicitDefEqProofs (disch := omega) only [go_sem, undef, reduceAdd, reduceSub, reduceGT, reduceEqDiff, reduceMul, ints, rows, gd_i, gd_r, w64]
   refine hN _ ?_
   try clear hN N
   refine AW.ret ?_
   simp -dsimp -implicitDefEqProofs (disch := omega) only [go_sem, undef, reduceAdd, reduceSub, reduceGT, reduceEqDiff, reduceMul]
   by_cases hk' : k = n
   ·subst hk'
    exact bt (by rw [num_end h hI, tf_t (show numP tb k from hI)]; simp)
   ·exact bt (by rw [tf_f (fun hq => by have := (hq k (by omega)).1; omega)]; simp; omega)


/-! Companions. -/
def minn (tb : List (List Int)) (x : Nat) : Nat → Int → (Nat → Int) → Nat → Int
  | 0, _, m => m
  | g + 1, v, m => if (tb.getD g []).getD x 0 = ninn tb x g v then fset (minn tb x g v m) ((tb.getD g []).getD x 0).toNat ((tb.getD g []).getD (minn tb x g v m x).toNat 0) else minn tb x g v m
def mout (tb : List (List Int)) (y : Int) : Nat → Nat → Int
  | 0 => fset (fun _ => 0) 0 y
  | x + 1 => minn tb x tb.length (nout tb x) (mout tb y x)
/-- The values so far are in range. -/
def mrg (n : Nat) (v : Int) (m : Nat → Int) : Prop := ∀ z : Nat, (z : Int) < v → 0 ≤ m z ∧ m z ≤ (n : Int) - 1
theorem minn_rg {tb : List (List Int)} {n x : Nat} (h : Sz tb n) (hx : x < n) {v : Int} (hv : (x : Int) < v) (h1 : v ≤ n) {m : Nat → Int} (hm : mrg n v m) : ∀ g, g ≤ tb.length → mrg n (ninn tb x g v) (minn tb x g v m) := by
  intro g
  induction g with
  | zero => intro _; exact hm
  | succ g ih =>
    intro hg
    have h2 := ih (by omega)
    have h3 := ninn_bd h hx h1 g (by omega)
    rw [ninn, minn]
    split
    · rename_i he
      intro z hz
      unfold fset
      split
      · have h4 := h2 x (by omega)
        have := h.rng g (minn tb x g v m x).toNat (by omega) (by omega)
        omega
      · exact h2 z (by omega)
    · exact h2
theorem mout_rg {tb : List (List Int)} {n : Nat} (h : Sz tb n) {y : Int} (hy : 0 ≤ y ∧ y < n) (hn : numP tb n) : ∀ x, x ≤ n → mrg n (nout tb x) (mout tb y x) := by
  intro x
  induction x with
  | zero =>
    intro _ z hz
    simp only [nout] at hz
    have : z = 0 := by omega
    subst this
    simp only [mout, fset, if_true]; omega
  | succ x ih =>
    intro hx
    exact minn_rg h (by omega) (hn x (by omega)).1 (nout_bd h x (by omega)).2 (ih (by omega)) tb.length (Nat.le_refl _)
def movAt (tb : List (List Int)) (y : Int) (x g : Nat) : Prop := minn tb x (g + 1) (nout tb x) (mout tb y x) ((tb.getD g []).getD x 0).toNat = (tb.getD g []).getD (minn tb x (g + 1) (nout tb x) (mout tb y x) x).toNat 0
def movP (tb : List (List Int)) (n : Nat) (y : Int) : Prop := (∀ x, x < n → ∀ g, g < tb.length → movAt tb y x g) ∧ bij (vec n (mout tb y n))

theorem spec_l27Moves_ok (tb : List (List Int)) (n : Nat) (h : Sz tb n) (hn : numP tb n) (y : Int) (hy : 0 ≤ y ∧ y < n) : ACp Try.prog 115 [rows tb, .i .i64 n, .i .i64 y] (.b (tf (movP tb n y))) := by
 obtain ⟨hn1, hn2, hG1, hG, hlen, hrng⟩ := id h
 refine ACp.intro' envOk Try.func115 rfl (by kernel_rfl) Try.ntmps115 Try.results115 (.b _) (fun nx => ?_)
 refine AW.sr envOk (fun N hN => ?_)
 simp -dsimp -implicitDefEqProofs (disch := omega) only [go_sem, undef, reduceAdd, reduceSub, reduceGT, reduceEqDiff, reduceMul, ints, rows, gd_i, gd_r, w64]
 refine hN _ ?_
 try clear hN N
 refine AW.sr envOk (fun N hN => ?_)
 simp -dsimp -implicitDefEqProofs (disch := omega) only [go_sem, undef, reduceAdd, reduceSub, reduceGT, reduceEqDiff, reduceMul, ints, rows, gd_i, gd_r, w64]
 refine hN _ ?_
 try clear hN N
 refine AW.sr envOk (fun N hN => ?_)
 simp -dsimp -implicitDefEqProofs (disch := omega) only [go_sem, undef, reduceAdd, reduceSub, reduceGT, reduceEqDiff, reduceMul, ints, rows, gd_i, gd_r, w64]
 refine hN _ ?_
 try clear hN N
 refine AW.sr envOk (fun N hN => ?_)
 simp -dsimp -implicitDefEqProofs (disch := omega) only [go_sem, undef, reduceAdd, reduceSub, reduceGT, reduceEqDiff, reduceMul, ints, rows, gd_i, gd_r, w64]
 refine hN _ ?_
 try clear hN N
 refine AW.seq (fun N1 hN1 => ?_)
 refine AW.sr envOk (fun N hN => ?_)
 simp -dsimp -implicitDefEqProofs (disch := omega) only [go_sem, undef, reduceAdd, reduceSub, reduceGT, reduceEqDiff, reduceMul, ints, rows, gd_i, gd_r, w64]
 refine hN _ ?_
 try clear hN N
 refine AW.block ?_
 refine AW.loopN (α := Nat) (fun x => sl 70 [(0, rows tb), (1, .i .i64 n), (7, .h (nx + 1 + 1) 0 n), (8, .i .i64 (nout tb x)), (9, .i .i64 x)]) (fun x => upd noH (nx + 1 + 1) (some (ivs n (mout tb y x)))) (fun x m => x ≤ n ∧ (∀ k, k < x → ∀ g, g < tb.length → movAt tb y k g)) (fun x => n - x) (0) ?_ ?_ (by rw [ivs_zero, ivs_set (by omega)]; exact Le.refl _) ?_
 ·exact ⟨by omega, by intro j hj; omega⟩
 ·simp [wks, wkA, sl, nout, rows]
 ·skip
  rintro k m ⟨hk, hI⟩
  simp -dsimp -implicitDefEqProofs (disch := omega) only [go_sem, undef, reduceAdd, reduceSub, reduceGT, reduceEqDiff, reduceMul]
  have hb := nout_bd h k hk
  refine AW.seq (fun N2 hN2 => ?_)
  refine AW.sr envOk (fun N hN => ?_)
  simp -dsimp -implicitDefEqProofs (disch := omega) only [go_sem, undef, reduceAdd, reduceSub, reduceGT, reduceEqDiff, reduceMul, ints, rows, gd_i, gd_r, w64]
  refine hN _ ?_
  try clear hN N
  refine AW.cond rfl (fun h1 => ?_) (fun h1 => ?_)
  ·try simp only [cn] at h1
   refine AW.skip ?_
   simp only [thn, blk]
   refine hN2 _ ?_
   try clear hN2 N2
   refine AW.seq (fun N3 hN3 => ?_)
   refine AW.block ?_
   refine AW.sr envOk (fun N hN => ?_)
   simp -dsimp -implicitDefEqProofs (disch := omega) only [go_sem, undef, reduceAdd, reduceSub, reduceGT, reduceEqDiff, reduceMul, ints, rows, gd_i, gd_r, w64]
   refine hN _ ?_
   try clear hN N
   refine AW.block ?_
   refine AW.loopN (α := Nat) (fun x => sl 70 [(0, rows tb), (1, .i .i64 n), (7, .h (nx + 1 + 1) 0 n), (8, .i .i64 (ninn tb k x (nout tb k))), (9, .i .i64 k), (10, .i .i64 x)]) (fun x => upd noH (nx + 1 + 1) (some (ivs n (minn tb k x (nout tb k) (mout tb y k))))) (fun x m => x ≤ tb.length ∧ ∀ g, g < x → movAt tb y k g) (fun x => tb.length - x) (0) ?_ ?_ (by rw [minn]; exact Le.refl _) ?_
   ·exact ⟨by omega, by intro j hj; omega⟩
   ·simp [wks, wkA, sl, ninn, rows]
   ·skip
    rintro g m2 ⟨hg, hJ⟩
    simp -dsimp -implicitDefEqProofs (disch := omega) only [go_sem, undef, reduceAdd, reduceSub, reduceGT, reduceEqDiff, reduceMul]
    have hb2 := ninn_bd h (x := k) (by omega) hb.2 g hg
    have hkn := hn k (by omega)
    have hkl := hkn.1
    have hrg := minn_rg h (x := k) (by omega) hkn.1 hb.2 (mout_rg h hy hn k hk) g hg
    obtain ⟨M, hM0⟩ : ∃ M, minn tb k g (nout tb k) (mout tb y k) = M := ⟨_, rfl⟩
    obtain ⟨V, hV⟩ : ∃ V, ninn tb k g (nout tb k) = V := ⟨_, rfl⟩
    rw [hM0, hV] at hrg
    rw [hV] at hb2
    rw [hM0, hV]
    have hmk := hrg k (by omega)
    refine AW.seq (fun N4 hN4 => ?_)
    refine AW.sr envOk (fun N hN => ?_)
    simp -dsimp -implicitDefEqProofs (disch := omega) only [go_sem, undef, reduceAdd, reduceSub, reduceGT, reduceEqDiff, reduceMul, ints, rows, gd_i, gd_r, w64]
    refine hN _ ?_
    try clear hN N
    refine AW.cond rfl (fun h2 => ?_) (fun h2 => ?_)
    ·try simp only [cn] at h2
     have hl := hlen g (by omega)
     have hr := hrng g k (by omega) (by omega)
     have hnum := hkn.2 g (by omega)
     rw [hV] at hnum
     have hr2 := hrng g (M k).toNat (by omega) (by omega)
     have hqq := minn_rg h (x := k) (by omega) hkn.1 hb.2 (mout_rg h hy hn k hk) (g + 1) (by omega)
     refine AW.skip ?_
     simp only [thn, blk]
     refine hN4 _ ?_
     try clear hN4 N4
     refine AW.seq (fun N5 hN5 => ?_)
     refine AW.block ?_
     refine AW.sr envOk (fun N hN => ?_)
     simp -dsimp -implicitDefEqProofs (disch := omega) only [go_sem, undef, reduceAdd, reduceSub, reduceGT, reduceEqDiff, reduceMul, ints, rows, gd_i, gd_r, w64]
     refine hN _ ?_
     try clear hN N
     refine AW.seq (fun N6 hN6 => ?_)
     refine AW.sr envOk (fun N hN => ?_)
     simp -dsimp -implicitDefEqProofs (disch := omega) only [go_sem, undef, reduceAdd, reduceSub, reduceGT, reduceEqDiff, reduceMul, ints, rows, gd_i, gd_r, w64]
     refine hN _ ?_
     try clear hN N
     refine AW.cond rfl (fun h3 => ?_) (fun h3 => ?_)
     ·try simp only [cn] at h3
      have hs : ninn tb k (g + 1) (nout tb k) = V + 1 := by rw [ninn, hV, if_pos h3]
      have hM : minn tb k (g + 1) (nout tb k) (mout tb y k) = fset M ((tb.getD g []).getD k 0).toNat ((tb.getD g []).getD (M k).toNat 0) := by rw [minn, hV, if_pos h3, hM0]
      rw [hs, hM] at hqq
      have hqk := hqq k (by omega)
      obtain ⟨M', hM'⟩ : ∃ M', fset M ((tb.getD g []).getD k 0).toNat ((tb.getD g []).getD (M k).toNat 0) = M' := ⟨_, rfl⟩
      have hr3 := hrng g (fset M ((tb.getD g []).getD k 0).toNat ((tb.getD g []).getD (M k).toNat 0) k).toNat (by omega) (by omega)
      refine AW.seq (fun N hN => ?_)
      refine AW.drawL envOk (by kernel_rfl) 13 (by kernel_rfl) ?_
      simp -dsimp -implicitDefEqProofs (disch := omega) only [hr_nil, hr_one, hr_if, List.take_succ_cons, List.take_zero, List.drop_succ_cons, List.drop_zero, List.take_nil, List.drop_nil, go_sem, undef, reduceAdd, reduceSub, reduceGT, reduceEqDiff, reduceMul, ints, rows, gd_i, gd_r, w64]
      refine hN _ ?_
      try clear hN N
      refine AW.regionL envOk ?_
      simp -dsimp -implicitDefEqProofs (disch := omega) only [go_sem, undef, reduceAdd, reduceSub, reduceGT, reduceEqDiff, reduceMul, ints, rows, gd_i, gd_r, w64]
      refine hN6 _ ?_
      try clear hN6 N6
      refine AW.seq (fun N hN => ?_)
      refine AW.drawL envOk (by kernel_rfl) 15 (by kernel_rfl) ?_
      simp -dsimp -implicitDefEqProofs (disch := omega) only [hr_nil, hr_one, hr_if, List.take_succ_cons, List.take_zero, List.drop_succ_cons, List.drop_zero, List.take_nil, List.drop_nil, go_sem, undef, reduceAdd, reduceSub, reduceGT, reduceEqDiff, reduceMul, ints, rows, gd_i, gd_r, w64]
      refine hN _ ?_
      try clear hN N
      refine AW.cond rfl (fun h4 => ?_) (fun h4 => ?_)
      ·try simp only [cn] at h4
       refine AW.sr envOk (fun N hN => ?_)
       simp -dsimp -implicitDefEqProofs (disch := omega) only [go_sem, undef, reduceAdd, reduceSub, reduceGT, reduceEqDiff, reduceMul, ints, rows, gd_i, gd_r, w64]
       refine hN _ ?_
       try clear hN N
       refine AW.ret ?_
       simp -dsimp -implicitDefEqProofs (disch := omega) only [go_sem, undef, reduceAdd, reduceSub, reduceGT, reduceEqDiff, reduceMul]
       exact bt (tf_f (fun hq => h4 (by have hq1 := hq.1 k (by omega) g (by omega); unfold movAt at hq1; rw [hM] at hq1; exact hq1))).symm
      ·try simp only [cn] at h4
       refine AW.skip ?_
       simp only [thn, blk]
       refine hN5 _ ?_
       try clear hN5 N5
       refine AW.regionL envOk ?_
       simp -dsimp -implicitDefEqProofs (disch := omega) only [go_sem, undef, reduceAdd, reduceSub, reduceGT, reduceEqDiff, reduceMul, ints, rows, gd_i, gd_r, w64]
       refine ⟨g + 1, ?_, by rw [hM]; exact Le.refl _, ?_, ?_⟩
       ·simp [wks, wkA, sl, rows, hs]
       ·refine ⟨by omega, fun j hj => ?_⟩
        by_cases e : j = g
        ·subst e; unfold movAt; rw [hM]; (try exact h4); try exact h5
        ·exact hJ j (by omega)
       ·first | omega | (simp only; omega)
     ·try simp only [cn] at h3
      have hs : ninn tb k (g + 1) (nout tb k) = V := by rw [ninn, hV, if_neg h3]
      have hM : minn tb k (g + 1) (nout tb k) (mout tb y k) = M := by rw [minn, hV, if_neg h3, hM0]
      refine AW.skip ?_
      simp only [thn, blk]
      refine hN6 _ ?_
      try clear hN6 N6
      refine AW.seq (fun N hN => ?_)
      refine AW.drawL envOk (by kernel_rfl) 15 (by kernel_rfl) ?_
      simp -dsimp -implicitDefEqProofs (disch := omega) only [hr_nil, hr_one, hr_if, List.take_succ_cons, List.take_zero, List.drop_succ_cons, List.drop_zero, List.take_nil, List.drop_nil, go_sem, undef, reduceAdd, reduceSub, reduceGT, reduceEqDiff, reduceMul, ints, rows, gd_i, gd_r, w64]
      refine hN _ ?_
      try clear hN N
      refine AW.cond rfl (fun h5 => ?_) (fun h5 => ?_)
      ·try simp only [cn] at h5
       refine AW.sr envOk (fun N hN => ?_)
       simp -dsimp -implicitDefEqProofs (disch := omega) only [go_sem, undef, reduceAdd, reduceSub, reduceGT, reduceEqDiff, reduceMul, ints, rows, gd_i, gd_r, w64]
       refine hN _ ?_
       try clear hN N
       refine AW.ret ?_
       simp -dsimp -implicitDefEqProofs (disch := omega) only [go_sem, undef, reduceAdd, reduceSub, reduceGT, reduceEqDiff, reduceMul]
       exact bt (tf_f (fun hq => h5 (by have hq1 := hq.1 k (by omega) g (by omega); unfold movAt at hq1; rw [hM] at hq1; exact hq1))).symm
      ·try simp only [cn] at h5
       refine AW.skip ?_
       simp only [thn, blk]
       refine hN5 _ ?_
       try clear hN5 N5
       refine AW.regionL envOk ?_
       simp -dsimp -implicitDefEqProofs (disch := omega) only [go_sem, undef, reduceAdd, reduceSub, reduceGT, reduceEqDiff, reduceMul, ints, rows, gd_i, gd_r, w64]
       refine ⟨g + 1, ?_, by rw [hM]; exact Le.refl _, ?_, ?_⟩
       ·simp [wks, wkA, sl, rows, hs]
       ·refine ⟨by omega, fun j hj => ?_⟩
        by_cases e : j = g
        ·subst e; unfold movAt; rw [hM]; (try exact h4); try exact h5
        ·exact hJ j (by omega)
       ·first | omega | (simp only; omega)
    ·try simp only [cn] at h2
     refine AW.exit ?_
     simp only [thn, blk, if_true]
     refine hN3 _ ?_
     try clear hN3 N3
     refine AW.regionL envOk ?_
     simp -dsimp -implicitDefEqProofs (disch := omega) only [go_sem, undef, reduceAdd, reduceSub, reduceGT, reduceEqDiff, reduceMul, ints, rows, gd_i, gd_r, w64]
     have hg' : g = tb.length := by omega
     subst hg'
     refine ⟨k + 1, ?_, by rw [mout, hM0]; exact Le.refl _, ?_, ?_⟩
     ·simp [wks, wkA, sl, rows, nout, hV]
     ·refine ⟨by omega, fun j hj => ?_⟩
      by_cases e : j = k
      ·subst e; exact hJ
      ·exact hI j (by omega)
     ·first | omega | (simp only; omega)
  ·try simp only [cn] at h1
   refine AW.exit ?_
   simp only [thn, blk, if_true]
   refine hN1 _ ?_
   try clear hN1 N1
   refine AW.sr envOk (fun N hN => ?_)
   simp -dsimp -implicitDefEqProofs (disch := omega) only [go_sem, undef, reduceAdd, reduceSub, reduceGT, reduceEqDiff, reduceMul, ints, rows, gd_i, gd_r, w64]
   have hk' : k = n := by omega
   subst hk'
   refine AC.pure (.lent (spec_IsBijection_ok (vec k (mout tb y k)) (by rw [vec_len]; omega)) (.cons (Vw.ivq (upd_same _ _ _)) .nil) (.b _)) ?_
   try simp -dsimp -implicitDefEqProofs (disch := omega) only [go_sem, undef, reduceAdd, reduceSub, reduceGT, reduceEqDiff, reduceMul, ints, rows, gd_i, gd_r, w64]
   refine hN _ ?_
   try clear hN N
   refine AW.ret ?_
   simp -dsimp -implicitDefEqProofs (disch := omega) only [go_sem, undef, reduceAdd, reduceSub, reduceGT, reduceEqDiff, reduceMul]
   exact bt (tf_eq ⟨fun hq => ⟨hI, hq.2⟩, fun hq => ⟨by rw [vec_len]; omega, hq.2⟩⟩)


/-- What is not yet known is -1. -/
def cutM (v : Int) (m : Nat → Int) : Nat → Int := fun z => if (z : Int) < v then m z else -1
theorem cut_start {tb : List (List Int)} {y : Int} {n z : Nat} (hz : z < n) : cutM (nout tb 0) (mout tb y 0) z = fset (fun j => if j < n then -1 else 0) 0 y z := by
  unfold cutM nout mout fset
  by_cases e : z = 0
  · subst e; simp
  · simp only [e, if_false, hz, if_true]; rw [if_neg (by omega)]
theorem fset_neg {x : Nat} : fset (fun j => if j < x then (-1 : Int) else 0) x (-1) = fun j => if j < x + 1 then -1 else 0 := fset_if (g := fun _ => -1) (f := fun _ => 0) rfl

theorem impl_regularAt_ok (tb : List (List Int)) (n : Nat) (h : Sz tb n) (hn : numP tb n) (y : Int) (hy : 0 ≤ y ∧ y < n) : ACp Try.prog 120 [rows tb, .i .i64 y] (.b (tf (movP tb n y))) := by
 obtain ⟨hn1, hn2, hG1, hG, hlen, hrng⟩ := id h
 have hl0 := hlen 0 (by omega)
 refine ACp.intro' envOk Try.func120 rfl (by kernel_rfl) Try.ntmps120 Try.results120 (.b _) (fun nx => ?_)
 refine AW.sr envOk (fun N hN => ?_)
 simp -dsimp -implicitDefEqProofs (disch := omega) only [go_sem, undef, reduceAdd, reduceSub, reduceGT, reduceEqDiff, reduceMul, ints, rows, gd_i, gd_r, w64, hl0]
 refine hN _ ?_
 try clear hN N
 refine AW.sr envOk (fun N hN => ?_)
 simp -dsimp -implicitDefEqProofs (disch := omega) only [go_sem, undef, reduceAdd, reduceSub, reduceGT, reduceEqDiff, reduceMul, ints, rows, gd_i, gd_r, w64, hl0]
 refine hN _ ?_
 try clear hN N
 refine AW.seq (fun N1 hN1 => ?_)
 refine AW.sr envOk (fun N hN => ?_)
 simp -dsimp -implicitDefEqProofs (disch := omega) only [go_sem, undef, reduceAdd, reduceSub, reduceGT, reduceEqDiff, reduceMul, ints, rows, gd_i, gd_r, w64, hl0]
 refine hN _ ?_
 try clear hN N
 refine AW.block ?_
 refine AW.loopN (α := Nat) (fun x => sl 78 [(0, rows tb), (1, .i .i64 y), (5, .h (nx + 1 + 4) 0 n), (16, .i .i64 n), (17, .i .i64 x)]) (fun x => upd noH (nx + 1 + 4) (some (ivs n (fun j => if j < x then -1 else 0)))) (fun x m => x ≤ n) (fun x => n - x) (0) ?_ ?_ (by rw [ivs_zero]; simp) ?_
 ·omega
 ·simp (disch := omega) [wks, wkA, sl, w64, ints, rows, cubes, ints, rows, gd_i, gd_r, w64, hl0] <;> omega
 ·skip
  rintro x m hx
  simp -dsimp -implicitDefEqProofs (disch := omega) only [go_sem, undef, reduceAdd, reduceSub, reduceGT, reduceEqDiff, reduceMul]
  refine AW.sr envOk (fun N hN => ?_)
  simp -dsimp -implicitDefEqProofs (disch := omega) only [go_sem, undef, reduceAdd, reduceSub, reduceGT, reduceEqDiff, reduceMul, ints, rows, gd_i, gd_r, w64, hl0]
  refine hN _ ?_
  try clear hN N
  refine AW.seq (fun N2 hN2 => ?_)
  refine AW.cond rfl (fun h1 => ?_) (fun h1 => ?_)
  ·try simp only [cn] at h1
   refine AW.skip ?_
   simp only [thn, blk]
   refine hN2 _ ?_
   try clear hN2 N2
   refine AW.seq (fun N3 hN3 => ?_)
   refine AW.block ?_
   refine AW.sr envOk (fun N hN => ?_)
   simp -dsimp -implicitDefEqProofs (disch := omega) only [go_sem, undef, reduceAdd, reduceSub, reduceGT, reduceEqDiff, reduceMul, ints, rows, gd_i, gd_r, w64, hl0]
   refine hN _ ?_
   try clear hN N
   refine AW.regionL envOk ?_
   simp -dsimp -implicitDefEqProofs (disch := omega) only [go_sem, undef, reduceAdd, reduceSub, reduceGT, reduceEqDiff, reduceMul, ints, rows, gd_i, gd_r, w64, hl0]
   refine hN3 _ ?_
   try clear hN3 N3
   refine AW.regionL envOk ?_
   simp -dsimp -implicitDefEqProofs (disch := omega) only [go_sem, undef, reduceAdd, reduceSub, reduceGT, reduceEqDiff, reduceMul, ints, rows, gd_i, gd_r, w64, hl0]
   refine ⟨x + 1, ?_, by rw [fset_neg]; exact Le.refl _, ?_, ?_⟩
   ·simp (disch := omega) [wks, wkA, sl, w64, ints, rows, cubes, ints, rows, gd_i, gd_r, w64, hl0] <;> omega
   ·omega
   ·first | omega | (simp only; omega)
  ·try simp only [cn] at h1
   refine AW.exit ?_
   simp only [thn, blk, if_true]
   refine hN1 _ ?_
   try clear hN1 N1
   refine AW.sr envOk (fun N hN => ?_)
   simp -dsimp -implicitDefEqProofs (disch := omega) only [go_sem, undef, reduceAdd, reduceSub, reduceGT, reduceEqDiff, reduceMul, ints, rows, gd_i, gd_r, w64, hl0]
   refine hN _ ?_
   try clear hN N
   refine AW.seq (fun N4 hN4 => ?_)
   refine AW.sr envOk (fun N hN => ?_)
   simp -dsimp -implicitDefEqProofs (disch := omega) only [go_sem, undef, reduceAdd, reduceSub, reduceGT, reduceEqDiff, reduceMul, ints, rows, gd_i, gd_r, w64, hl0]
   refine hN _ ?_
   try clear hN N
   refine AW.block ?_
   have hxn : x = n := by omega
   rw [hxn]
   refine AW.loopN (α := Nat) (fun x => sl 78 [(0, rows tb), (5, .h (nx + 1 + 4) 0 n), (28, .i .i64 n), (29, .i .i64 x)]) (fun x => upd noH (nx + 1 + 4) (some (ivs n (cutM (nout tb x) (mout tb y x))))) (fun x m => x ≤ n ∧ (∀ k, k < x → ∀ g, g < tb.length → movAt tb y k g)) (fun x => n - x) (0) ?_ ?_ (by rw [ivs_ext (f := cutM (nout tb 0) (mout tb y 0)) (g := fset (fun j => if j < n then -1 else 0) 0 y) (fun z hz => cut_start hz)]; exact Le.refl _) ?_
   ·exact ⟨by omega, by intro j hj; omega⟩
   ·simp (disch := omega) [wks, wkA, sl, w64, ints, rows, cubes, ints, rows, gd_i, gd_r, w64, hl0] <;> omega
   ·skip
    rintro k m2 ⟨hk, hI⟩
    simp -dsimp -implicitDefEqProofs (disch := omega) only [go_sem, undef, reduceAdd, reduceSub, reduceGT, reduceEqDiff, reduceMul]
    have hb := nout_bd h k hk
    refine AW.sr envOk (fun N hN => ?_)
    simp -dsimp -implicitDefEqProofs (disch := omega) only [go_sem, undef, reduceAdd, reduceSub, reduceGT, reduceEqDiff, reduceMul, ints, rows, gd_i, gd_r, w64, hl0]
    refine hN _ ?_
    try clear hN N
    refine AW.seq (fun N5 hN5 => ?_)
    refine AW.cond rfl (fun h2 => ?_) (fun h2 => ?_)
    ·try simp only [cn] at h2
     refine AW.skip ?_
     simp only [thn, blk]
     refine hN5 _ ?_
     try clear hN5 N5
     refine AW.seq (fun N6 hN6 => ?_)
     refine AW.block ?_
     refine AW.sr envOk (fun N hN => ?_)
     simp -dsimp -implicitDefEqProofs (disch := omega) only [go_sem, undef, reduceAdd, reduceSub, reduceGT, reduceEqDiff, reduceMul, ints, rows, gd_i, gd_r, w64, hl0]
     refine hN _ ?_
     try clear hN N
     refine AW.sr envOk (fun N hN => ?_)
     simp -dsimp -implicitDefEqProofs (disch := omega) only [go_sem, undef, reduceAdd, reduceSub, reduceGT, reduceEqDiff, reduceMul, ints, rows, gd_i, gd_r, w64, hl0]
     refine hN _ ?_
     try clear hN N
     refine AW.block ?_
     refine AW.loopN (α := Nat) (fun x => sl 78 [(0, rows tb), (5, .h (nx + 1 + 4) 0 n), (7, .i .i64 k), (28, .i .i64 n), (29, .i .i64 k), (32, rows tb), (33, .i .i64 tb.length), (34, .i .i64 x)]) (fun x => upd noH (nx + 1 + 4) (some (ivs n (cutM (ninn tb k x (nout tb k)) (minn tb k x (nout tb k) (mout tb y k)))))) (fun x m => x ≤ tb.length ∧ ∀ g, g < x → movAt tb y k g) (fun x => tb.length - x) (0) ?_ ?_ (by rw [minn, ninn]; exact Le.refl _) ?_
     ·exact ⟨by omega, by intro j hj; omega⟩
     ·simp (disch := omega) [wks, wkA, sl, w64, ints, rows, cubes, ints, rows, gd_i, gd_r, w64, hl0] <;> omega
     ·skip
      rintro g m3 ⟨hg, hJ⟩
      simp -dsimp -implicitDefEqProofs (disch := omega) only [go_sem, undef, reduceAdd, reduceSub, reduceGT, reduceEqDiff, reduceMul]
      have hb2 := ninn_bd h (x := k) (by omega) hb.2 g hg
      have hkn := hn k (by omega)
      have hkl := hkn.1
      have hrg := minn_rg h (x := k) (by omega) hkn.1 hb.2 (mout_rg h hy hn k hk) g hg
      obtain ⟨M, hM0⟩ : ∃ M, minn tb k g (nout tb k) (mout tb y k) = M := ⟨_, rfl⟩
      obtain ⟨V, hV⟩ : ∃ V, ninn tb k g (nout tb k) = V := ⟨_, rfl⟩
      rw [hM0, hV] at hrg
      rw [hV] at hb2
      obtain ⟨A, hA⟩ : ∃ A, cutM V M = A := ⟨_, rfl⟩
      rw [hM0, hV, hA]
      have hmk := hrg k (by omega)
      have hAk : A k = M k := by rw [← hA]; exact if_pos (by omega)
      refine AW.sr envOk (fun N hN => ?_)
      simp -dsimp -implicitDefEqProofs (disch := omega) only [go_sem, undef, reduceAdd, reduceSub, reduceGT, reduceEqDiff, reduceMul, ints, rows, gd_i, gd_r, w64, hl0]
      refine hN _ ?_
      try clear hN N
      refine AW.seq (fun N7 hN7 => ?_)
      refine AW.cond rfl (fun h3 => ?_) (fun h3 => ?_)
      ·try simp only [cn] at h3
       have hl := hlen g (by omega)
       have hr := hrng g k (by omega) (by omega)
       have hnum := hkn.2 g (by omega)
       rw [hV] at hnum
       have hqq := minn_rg h (x := k) (by omega) hkn.1 hb.2 (mout_rg h hy hn k hk) (g + 1) (by omega)
       have hAz : A ((tb.getD g []).getD k 0).toNat = if ((((tb.getD g []).getD k 0).toNat : Nat) : Int) < V then M ((tb.getD g []).getD k 0).toNat else -1 := by rw [← hA]; rfl
       refine AW.skip ?_
       simp only [thn, blk]
       refine hN7 _ ?_
       try clear hN7 N7
       refine AW.seq (fun N8 hN8 => ?_)
       refine AW.block ?_
       refine AW.sr envOk (fun N hN => ?_)
       simp -dsimp -implicitDefEqProofs (disch := omega) only [go_sem, undef, reduceAdd, reduceSub, reduceGT, reduceEqDiff, reduceMul, ints, rows, gd_i, gd_r, w64, hl0]
       refine hN _ ?_
       try clear hN N
       refine AW.seq (fun N9 hN9 => ?_)
       refine AW.sr envOk (fun N hN => ?_)
       simp -dsimp -implicitDefEqProofs (disch := omega) only [go_sem, undef, reduceAdd, reduceSub, reduceGT, reduceEqDiff, reduceMul, ints, rows, gd_i, gd_r, w64, hl0]
       refine hN _ ?_
       try clear hN N
       refine AW.cond rfl (fun h4 => ?_) (fun h4 => ?_)
       ·try simp only [cn] at h4
        have hz : (tb.getD g []).getD k 0 = V := by
         rw [hAz] at h4
         split at h4
         ·have := hrg ((tb.getD g []).getD k 0).toNat (by assumption); omega
         ·omega
        have hs : ninn tb k (g + 1) (nout tb k) = V + 1 := by rw [ninn, hV, if_pos hz]
        have hM : minn tb k (g + 1) (nout tb k) (mout tb y k) = (fset M ((tb.getD g []).getD k 0).toNat ((tb.getD g []).getD (M k).toNat 0)) := by rw [minn, hV, if_pos hz, hM0]
        rw [hs, hM] at hqq
        have hqk := hqq k (by omega)
        have hA' : (fset A ((tb.getD g []).getD k 0).toNat ((tb.getD g []).getD (A k).toNat 0)) = cutM (V + 1) ((fset M ((tb.getD g []).getD k 0).toNat ((tb.getD g []).getD (M k).toNat 0))) := by
         rw [hAk]; funext z; unfold fset cutM; rw [← hA]; unfold cutM
         by_cases e : z = ((tb.getD g []).getD k 0).toNat
         ·simp only [e, if_true]; rw [if_pos (by omega)]
         ·simp only [e, if_false]
          by_cases e2 : (z : Int) < V
          ·rw [if_pos e2, if_pos (by omega)]
          ·rw [if_neg e2, if_neg (by omega)]
        have e1 : (fset A ((tb.getD g []).getD k 0).toNat ((tb.getD g []).getD (A k).toNat 0)) ((tb.getD g []).getD k 0).toNat = (fset M ((tb.getD g []).getD k 0).toNat ((tb.getD g []).getD (M k).toNat 0)) ((tb.getD g []).getD k 0).toNat := by rw [hA']; exact if_pos (by omega)
        have e2 : (fset A ((tb.getD g []).getD k 0).toNat ((tb.getD g []).getD (A k).toNat 0)) k = (fset M ((tb.getD g []).getD k 0).toNat ((tb.getD g []).getD (M k).toNat 0)) k := by rw [hA']; exact if_pos (by omega)
        have hr3 : 0 ≤ (fset A ((tb.getD g []).getD k 0).toNat ((tb.getD g []).getD (A k).toNat 0)) k ∧ (fset A ((tb.getD g []).getD k 0).toNat ((tb.getD g []).getD (A k).toNat 0)) k ≤ (n : Int) - 1 := by rw [e2]; exact hqk
        refine AW.drawL envOk (by kernel_rfl) 13 (by kernel_rfl) ?_
        simp -dsimp -implicitDefEqProofs (disch := omega) only [hr_nil, hr_one, hr_if, List.take_succ_cons, List.take_zero, List.drop_succ_cons, List.drop_zero, List.take_nil, List.drop_nil, go_sem, undef, reduceAdd, reduceSub, reduceGT, reduceEqDiff, reduceMul, ints, rows, gd_i, gd_r, w64, hl0]
        refine hN9 _ ?_
        try clear hN9 N9
        refine AW.seq (fun N hN => ?_)
        refine AW.drawL envOk (by kernel_rfl) 15 (by kernel_rfl) ?_
        simp -dsimp -implicitDefEqProofs (disch := omega) only [hr_nil, hr_one, hr_if, List.take_succ_cons, List.take_zero, List.drop_succ_cons, List.drop_zero, List.take_nil, List.drop_nil, go_sem, undef, reduceAdd, reduceSub, reduceGT, reduceEqDiff, reduceMul, ints, rows, gd_i, gd_r, w64, hl0]
        refine hN _ ?_
        try clear hN N
        refine AW.cond rfl (fun h5 => ?_) (fun h5 => ?_)
        ·try simp only [cn] at h5
         refine AW.sr envOk (fun N hN => ?_)
         simp -dsimp -implicitDefEqProofs (disch := omega) only [go_sem, undef, reduceAdd, reduceSub, reduceGT, reduceEqDiff, reduceMul, ints, rows, gd_i, gd_r, w64, hl0]
         refine hN _ ?_
         try clear hN N
         refine AW.ret ?_
         simp -dsimp -implicitDefEqProofs (disch := omega) only [go_sem, undef, reduceAdd, reduceSub, reduceGT, reduceEqDiff, reduceMul]
         exact bt (tf_f (fun hq => h5 (by have hq1 := hq.1 k (by omega) g (by omega); unfold movAt at hq1; rw [hM, ← e1, ← e2] at hq1; exact hq1))).symm
        ·try simp only [cn] at h5
         refine AW.skip ?_
         simp only [thn, blk]
         refine hN8 _ ?_
         try clear hN8 N8
         refine AW.regionL envOk ?_
         simp -dsimp -implicitDefEqProofs (disch := omega) only [go_sem, undef, reduceAdd, reduceSub, reduceGT, reduceEqDiff, reduceMul, ints, rows, gd_i, gd_r, w64, hl0]
         refine ⟨g + 1, ?_, by rw [hs, hM, hA']; exact Le.refl _, ?_, ?_⟩
         ·simp (disch := omega) [wks, wkA, sl, w64, ints, rows, cubes, ints, rows, gd_i, gd_r, w64, hl0] <;> omega
         ·refine ⟨by omega, fun j hj => ?_⟩
          by_cases e : j = g
          ·subst e; unfold movAt; rw [hM, ← e1, ← e2]; exact h5
          ·exact hJ j (by omega)
         ·first | omega | (simp only; omega)
       ·try simp only [cn] at h4
        have hz : ¬ (tb.getD g []).getD k 0 = V := by
         intro e
         rw [hAz, if_neg (by omega)] at h4; omega
        have hs : ninn tb k (g + 1) (nout tb k) = V := by rw [ninn, hV, if_neg hz]
        have hM : minn tb k (g + 1) (nout tb k) (mout tb y k) = M := by rw [minn, hV, if_neg hz, hM0]
        have e1 : A ((tb.getD g []).getD k 0).toNat = M ((tb.getD g []).getD k 0).toNat := by rw [hAz]; exact if_pos (by omega)
        refine AW.skip ?_
        simp only [thn, blk]
        refine hN9 _ ?_
        try clear hN9 N9
        refine AW.seq (fun N hN => ?_)
        refine AW.drawL envOk (by kernel_rfl) 15 (by kernel_rfl) ?_
        simp -dsimp -implicitDefEqProofs (disch := omega) only [hr_nil, hr_one, hr_if, List.take_succ_cons, List.take_zero, List.drop_succ_cons, List.drop_zero, List.take_nil, List.drop_nil, go_sem, undef, reduceAdd, reduceSub, reduceGT, reduceEqDiff, reduceMul, ints, rows, gd_i, gd_r, w64, hl0]
        refine hN _ ?_
        try clear hN N
        refine AW.cond rfl (fun h6 => ?_) (fun h6 => ?_)
        ·try simp only [cn] at h6
         refine AW.sr envOk (fun N hN => ?_)
         simp -dsimp -implicitDefEqProofs (disch := omega) only [go_sem, undef, reduceAdd, reduceSub, reduceGT, reduceEqDiff, reduceMul, ints, rows, gd_i, gd_r, w64, hl0]
         refine hN _ ?_
         try clear hN N
         refine AW.ret ?_
         simp -dsimp -implicitDefEqProofs (disch := omega) only [go_sem, undef, reduceAdd, reduceSub, reduceGT, reduceEqDiff, reduceMul]
         exact bt (tf_f (fun hq => h6 (by have hq1 := hq.1 k (by omega) g (by omega); unfold movAt at hq1; rw [hM, ← e1, ← hAk] at hq1; exact hq1))).symm
        ·try simp only [cn] at h6
         refine AW.skip ?_
         simp only [thn, blk]
         refine hN8 _ ?_
         try clear hN8 N8
         refine AW.regionL envOk ?_
         simp -dsimp -implicitDefEqProofs (disch := omega) only [go_sem, undef, reduceAdd, reduceSub, reduceGT, reduceEqDiff, reduceMul, ints, rows, gd_i, gd_r, w64, hl0]
         refine ⟨g + 1, ?_, by rw [hs, hM, hA]; exact Le.refl _, ?_, ?_⟩
         ·simp (disch := omega) [wks, wkA, sl, w64, ints, rows, cubes, ints, rows, gd_i, gd_r, w64, hl0] <;> omega
         ·refine ⟨by omega, fun j hj => ?_⟩
          by_cases e : j = g
          ·subst e; unfold movAt; rw [hM, ← e1, ← hAk]; exact h6
          ·exact hJ j (by omega)
         ·first | omega | (simp only; omega)
      ·try simp only [cn] at h3
       refine AW.exit ?_
       simp only [thn, blk, if_true]
       refine hN6 _ ?_
       try clear hN6 N6
       refine AW.regionL envOk ?_
       simp -dsimp -implicitDefEqProofs (disch := omega) only [go_sem, undef, reduceAdd, reduceSub, reduceGT, reduceEqDiff, reduceMul, ints, rows, gd_i, gd_r, w64, hl0]
       have hg' : g = tb.length := by omega
       subst hg'
       refine ⟨k + 1, ?_, by rw [mout, nout, hM0, hV, hA]; exact Le.refl _, ?_, ?_⟩
       ·simp (disch := omega) [wks, wkA, sl, w64, ints, rows, cubes, ints, rows, gd_i, gd_r, w64, hl0] <;> omega
       ·refine ⟨by omega, fun j hj => ?_⟩
        by_cases e : j = k
        ·subst e; exact hJ
        ·exact hI j (by omega)
       ·first | omega | (simp only; omega)
    ·try simp only [cn] at h2
     refine AW.exit ?_
     simp only [thn, blk, if_true]
     refine hN4 _ ?_
     try clear hN4 N4
     refine AW.sr envOk (fun N hN => ?_)
     simp -dsimp -implicitDefEqProofs (disch := omega) only [go_sem, undef, reduceAdd, reduceSub, reduceGT, reduceEqDiff, reduceMul, ints, rows, gd_i, gd_r, w64, hl0]
     have hk' : k = n := by omega
     subst hk'
     have hv : vec k (cutM (nout tb k) (mout tb y k)) = vec k (mout tb y k) := vec_ext (fun z hz => if_pos (by rw [num_end h hn]; omega))
     refine AC.pure (.lent (impl_isBijection_ok (vec k (cutM (nout tb k) (mout tb y k))) (by rw [vec_len]; omega)) (.cons (Vw.ivq (upd_same _ _ _)) .nil) (.b _)) ?_
     try simp -dsimp -implicitDefEqProofs (disch := omega) only [go_sem, undef, reduceAdd, reduceSub, reduceGT, reduceEqDiff, reduceMul, ints, rows, gd_i, gd_r, w64, hl0]
     refine hN _ ?_
     try clear hN N
     refine AW.ret ?_
     simp -dsimp -implicitDefEqProofs (disch := omega) only [go_sem, undef, reduceAdd, reduceSub, reduceGT, reduceEqDiff, reduceMul]
     rw [hv]
     exact bt (tf_eq ⟨fun hq => ⟨hI, hq⟩, fun hq => hq.2⟩)


/-! The whole test. -/
def cayP (tb : List (List Int)) : Prop := tb.length = 0 ∨ ∃ n, Sz tb n ∧ (∀ g, g < tb.length → bij (tb.getD g [])) ∧ numP tb n ∧ ∀ y : Nat, y < n → movP tb n y
def sized (tb : List (List Int)) (n : Nat) : Prop := ∀ g, g < tb.length → (tb.getD g []).length = n ∧ bij (tb.getD g [])
theorem cay_iff {tb : List (List Int)} (h0 : 1 ≤ tb.length) {n : Nat} (hn : (tb.getD 0 []).length = n) (h4 : tb.length ≤ 4) (h1 : 1 ≤ n) (h128 : n ≤ 128) (hs : sized tb n) : Sz tb n :=
  ⟨h1, h128, h0, h4, fun g hg => (hs g hg).1, fun g x hg hx => by
    have h2 := hs g hg
    have h3 := h2.2.1 x (by omega)
    rw [h2.1] at h3; exact h3⟩
theorem cay_n {tb : List (List Int)} {n m : Nat} (h : Sz tb m) (hn : (tb.getD 0 []).length = n) : m = n := by
  have := h.len 0 h.G1; omega

theorem cayP.out {tb : List (List Int)} {n : Nat} (h : cayP tb) (h0 : 1 ≤ tb.length) (hn : (tb.getD 0 []).length = n) : Sz tb n ∧ sized tb n ∧ numP tb n ∧ ∀ y : Nat, y < n → movP tb n y := by
  rcases h with h | ⟨m, h1, h2, h3, h4⟩
  · omega
  · have := cay_n h1 hn
    subst this
    exact ⟨h1, fun g hg => ⟨h1.len g hg, h2 g hg⟩, h3, h4⟩

theorem spec_l11Sized_ok (tb : List (List Int)) (n : Nat) (hr : rowslen tb) : ACp Try.prog 113 [rows tb, .i .i64 n] (.b (tf (sized tb n ∧ (1 ≤ tb.length → n ≤ 128)))) := by
 have hn := hr.n
 refine ACp.intro' envOk Try.func113 rfl (by kernel_rfl) Try.ntmps113 Try.results113 (.b _) (fun nx => ?_)
 refine AW.sr envOk (fun N hN => ?_)
 simp -dsimp -implicitDefEqProofs (disch := omega) only [go_sem, undef, reduceAdd, reduceSub, reduceGT, reduceEqDiff, reduceMul, rows, gd_r, w64]
 refine hN _ ?_
 try clear hN N
 refine AW.seq (fun N1 hN1 => ?_)
 refine AW.sr envOk (fun N hN => ?_)
 simp -dsimp -implicitDefEqProofs (disch := omega) only [go_sem, undef, reduceAdd, reduceSub, reduceGT, reduceEqDiff, reduceMul, rows, gd_r, w64]
 refine hN _ ?_
 try clear hN N
 refine AW.block ?_
 refine AW.loopN (α := Nat) (fun x => sl 27 [(0, rows tb), (1, .i .i64 n), (5, .i .i64 x)]) (fun _ => noH) (fun x m => x ≤ tb.length ∧ (∀ g, g < x → ((tb.getD g []).length = n ∧ bij (tb.getD g [])) ∧ n ≤ 128)) (fun x => tb.length - x) (0) ?_ ?_ (fun _ _ h => h) ?_
 ·exact ⟨by omega, by intro j hj; omega⟩
 ·simp (disch := omega) [wks, wkA, sl, w64, ints, rows, cubes, rows, gd_r, w64] <;> omega
 ·skip
  rintro g m ⟨hg, hI⟩
  simp -dsimp -implicitDefEqProofs (disch := omega) only [go_sem, undef, reduceAdd, reduceSub, reduceGT, reduceEqDiff, reduceMul]
  refine AW.seq (fun N2 hN2 => ?_)
  refine AW.sr envOk (fun N hN => ?_)
  simp -dsimp -implicitDefEqProofs (disch := omega) only [go_sem, undef, reduceAdd, reduceSub, reduceGT, reduceEqDiff, reduceMul, rows, gd_r, w64]
  refine hN _ ?_
  try clear hN N
  refine AW.cond rfl (fun h1 => ?_) (fun h1 => ?_)
  ·try simp only [cn] at h1
   have hlg := hr.getD g
   refine AW.skip ?_
   simp only [thn, blk]
   refine hN2 _ ?_
   try clear hN2 N2
   refine AW.seq (fun N3 hN3 => ?_)
   refine AW.block ?_
   refine AW.sr envOk (fun N hN => ?_)
   simp -dsimp -implicitDefEqProofs (disch := omega) only [go_sem, undef, reduceAdd, reduceSub, reduceGT, reduceEqDiff, reduceMul, rows, gd_r, w64]
   refine gopB.mk' (fun h2 => ?_) (fun h2 => ?_)
   ·try simp only [cn] at h2
    try simp -dsimp -implicitDefEqProofs (disch := omega) only [go_sem, undef, reduceAdd, reduceSub, reduceGT, reduceEqDiff, reduceMul, rows, gd_r, w64]
    refine AC.pure (.of (spec_IsBijection_ok (tb.getD g []) hlg)) ?_
    try simp -dsimp -implicitDefEqProofs (disch := omega) only [go_sem, undef, reduceAdd, reduceSub, reduceGT, reduceEqDiff, reduceMul, rows, gd_r, w64]
    refine hN _ ?_
    try clear hN N
    refine AW.cond rfl (fun h3 => ?_) (fun h3 => ?_)
    ·try simp only [cn] at h3
     refine AW.sr envOk (fun N hN => ?_)
     simp -dsimp -implicitDefEqProofs (disch := omega) only [go_sem, undef, reduceAdd, reduceSub, reduceGT, reduceEqDiff, reduceMul, rows, gd_r, w64]
     refine hN _ ?_
     try clear hN N
     refine AW.ret ?_
     simp -dsimp -implicitDefEqProofs (disch := omega) only [go_sem, undef, reduceAdd, reduceSub, reduceGT, reduceEqDiff, reduceMul]
     exact bt (tf_f (fun hq => h3 ⟨by have := (hq.1 g (by omega)).1; have := hq.2 (by omega); omega, (hq.1 g (by omega)).2⟩)).symm
    ·try simp only [cn] at h3
     refine AW.skip ?_
     simp only [thn, blk]
     refine hN3 _ ?_
     try clear hN3 N3
     refine AW.regionL envOk ?_
     simp -dsimp -implicitDefEqProofs (disch := omega) only [go_sem, undef, reduceAdd, reduceSub, reduceGT, reduceEqDiff, reduceMul, rows, gd_r, w64]
     refine ⟨g + 1, ?_, fun _ _ h => h, ?_, ?_⟩
     ·simp (disch := omega) [wks, wkA, sl, w64, ints, rows, cubes, rows, gd_r, w64] <;> omega
     ·refine ⟨by omega, fun j hj => ?_⟩
      by_cases e : j = g
      ·subst e; exact ⟨⟨by omega, h3.2⟩, by have := h3.1; omega⟩
      ·exact hI j (by omega)
     ·first | omega | (simp only; omega)
   ·try simp only [cn] at h2
    try simp -dsimp -implicitDefEqProofs (disch := omega) only [go_sem, undef, reduceAdd, reduceSub, reduceGT, reduceEqDiff, reduceMul, rows, gd_r, w64]
    refine hN _ ?_
    try clear hN N
    refine AW.condT rfl ?_
    refine AW.sr envOk (fun N hN => ?_)
    simp -dsimp -implicitDefEqProofs (disch := omega) only [go_sem, undef, reduceAdd, reduceSub, reduceGT, reduceEqDiff, reduceMul, rows, gd_r, w64]
    refine hN _ ?_
    try clear hN N
    refine AW.ret ?_
    simp -dsimp -implicitDefEqProofs (disch := omega) only [go_sem, undef, reduceAdd, reduceSub, reduceGT, reduceEqDiff, reduceMul]
    exact bt (tf_f (fun hq => h2 (by have := (hq.1 g (by omega)).1; omega))).symm
  ·try simp only [cn] at h1
   refine AW.exit ?_
   simp only [thn, blk, if_true]
   refine hN1 _ ?_
   try clear hN1 N1
   refine AW.sr envOk (fun N hN => ?_)
   simp -dsimp -implicitDefEqProofs (disch := omega) only [go_sem, undef, reduceAdd, reduceSub, reduceGT, reduceEqDiff, reduceMul, rows, gd_r, w64]
   refine hN _ ?_
   try clear hN N
   refine AW.ret ?_
   simp -dsimp -implicitDefEqProofs (disch := omega) only [go_sem, undef, reduceAdd, reduceSub, reduceGT, reduceEqDiff, reduceMul]
   exact bt (tf_t ⟨fun j hj => (hI j (by omega)).1, fun h0 => (hI 0 (by omega)).2⟩).symm


theorem spec_IsCayleyTable_ok (tb : List (List Int)) (hr : rowslen tb) : ACp Try.prog 68 [rows tb] (.b (tf (cayP tb))) := by
 have hn := hr.n
 obtain ⟨n, hl0⟩ : ∃ n, (tb.getD 0 []).length = n := ⟨_, rfl⟩
 have hnn : n ≤ 1048576 := by rw [← hl0]; exact hr.getD 0
 refine ACp.intro' envOk Try.func68 rfl (by kernel_rfl) Try.ntmps68 Try.results68 (.b _) (fun nx => ?_)
 refine AW.sr envOk (fun N hN => ?_)
 simp -dsimp -implicitDefEqProofs (disch := omega) only [go_sem, undef, reduceAdd, reduceSub, reduceGT, reduceEqDiff, reduceMul, ints, rows, gd_r, w64, hl0]
 refine hN _ ?_
 try clear hN N
 refine AW.seq (fun N1 hN1 => ?_)
 refine AW.sr envOk (fun N hN => ?_)
 simp -dsimp -implicitDefEqProofs (disch := omega) only [go_sem, undef, reduceAdd, reduceSub, reduceGT, reduceEqDiff, reduceMul, ints, rows, gd_r, w64, hl0]
 refine hN _ ?_
 try clear hN N
 refine AW.cond rfl (fun h1 => ?_) (fun h1 => ?_)
 ·try simp only [cn] at h1
  refine AW.sr envOk (fun N hN => ?_)
  simp -dsimp -implicitDefEqProofs (disch := omega) only [go_sem, undef, reduceAdd, reduceSub, reduceGT, reduceEqDiff, reduceMul, ints, rows, gd_r, w64, hl0]
  refine hN _ ?_
  try clear hN N
  refine AW.ret ?_
  simp -dsimp -implicitDefEqProofs (disch := omega) only [go_sem, undef, reduceAdd, reduceSub, reduceGT, reduceEqDiff, reduceMul]
  exact bt (tf_t (Or.inl (by omega))).symm
 ·try simp only [cn] at h1
  have h1' : 1 ≤ tb.length := by omega
  refine AW.skip ?_
  simp only [thn, blk]
  refine hN1 _ ?_
  try clear hN1 N1
  refine AW.sr envOk (fun N hN => ?_)
  simp -dsimp -implicitDefEqProofs (disch := omega) only [go_sem, undef, reduceAdd, reduceSub, reduceGT, reduceEqDiff, reduceMul, ints, rows, gd_r, w64, hl0]
  refine hN _ ?_
  try clear hN N
  refine AW.seq (fun N2 hN2 => ?_)
  refine AW.sr envOk (fun N hN => ?_)
  simp -dsimp -implicitDefEqProofs (disch := omega) only [go_sem, undef, reduceAdd, reduceSub, reduceGT, reduceEqDiff, reduceMul, ints, rows, gd_r, w64, hl0]
  refine gopB.mk' (fun h2 => ?_) (fun h2 => ?_)
  ·try simp only [cn] at h2
   try simp -dsimp -implicitDefEqProofs (disch := omega) only [go_sem, undef, reduceAdd, reduceSub, reduceGT, reduceEqDiff, reduceMul, ints, rows, gd_r, w64, hl0]
   refine gopB.mk' (fun h3 => ?_) (fun h3 => ?_)
   ·try simp only [cn] at h3
    try simp -dsimp -implicitDefEqProofs (disch := omega) only [go_sem, undef, reduceAdd, reduceSub, reduceGT, reduceEqDiff, reduceMul, ints, rows, gd_r, w64, hl0]
    refine AC.pure (.of (spec_l11Sized_ok tb n hr)) ?_
    try simp -dsimp -implicitDefEqProofs (disch := omega) only [go_sem, undef, reduceAdd, reduceSub, reduceGT, reduceEqDiff, reduceMul, ints, rows, gd_r, w64, hl0]
    refine gopB.mk' (fun h4 => ?_) (fun h4 => ?_)
    ·try simp only [cn] at h4
     try simp -dsimp -implicitDefEqProofs (disch := omega) only [go_sem, undef, reduceAdd, reduceSub, reduceGT, reduceEqDiff, reduceMul, ints, rows, gd_r, w64, hl0]
     have hsz := cay_iff h1' hl0 (by omega) (by omega) (h4.2 h1') h4.1
     refine AC.pure (.of (spec_l27Numbered_ok tb n hsz)) ?_
     try simp -dsimp -implicitDefEqProofs (disch := omega) only [go_sem, undef, reduceAdd, reduceSub, reduceGT, reduceEqDiff, reduceMul, ints, rows, gd_r, w64, hl0]
     refine hN _ ?_
     try clear hN N
     refine AW.cond rfl (fun h5 => ?_) (fun h5 => ?_)
     ·try simp only [cn] at h5
      refine AW.sr envOk (fun N hN => ?_)
      simp -dsimp -implicitDefEqProofs (disch := omega) only [go_sem, undef, reduceAdd, reduceSub, reduceGT, reduceEqDiff, reduceMul, ints, rows, gd_r, w64, hl0]
      refine hN _ ?_
      try clear hN N
      refine AW.ret ?_
      simp -dsimp -implicitDefEqProofs (disch := omega) only [go_sem, undef, reduceAdd, reduceSub, reduceGT, reduceEqDiff, reduceMul]
      exact bt (tf_f (fun hq => h5 (hq.out h1' hl0).2.2.1)).symm
     ·try simp only [cn] at h5
      refine AW.skip ?_
      simp only [thn, blk]
      refine hN2 _ ?_
      try clear hN2 N2
      refine AW.seq (fun N3 hN3 => ?_)
      refine AW.sr envOk (fun N hN => ?_)
      simp -dsimp -implicitDefEqProofs (disch := omega) only [go_sem, undef, reduceAdd, reduceSub, reduceGT, reduceEqDiff, reduceMul, ints, rows, gd_r, w64, hl0]
      refine hN _ ?_
      try clear hN N
      refine AW.block ?_
      refine AW.loopN (α := Nat) (fun x => sl 41 [(0, rows tb), (3, .i .i64 n), (4, .i .i64 x)]) (fun _ => noH) (fun x m => x ≤ n ∧ ∀ y : Nat, y < x → movP tb n y) (fun x => n - x) (0) ?_ ?_ (fun _ _ h => h) ?_
      ·exact ⟨by omega, by intro j hj; omega⟩
      ·simp (disch := omega) [wks, wkA, sl, w64, ints, rows, cubes, ints, rows, gd_r, w64, hl0] <;> omega
      ·skip
       rintro k m ⟨hk, hI⟩
       simp -dsimp -implicitDefEqProofs (disch := omega) only [go_sem, undef, reduceAdd, reduceSub, reduceGT, reduceEqDiff, reduceMul]
       refine AW.seq (fun N4 hN4 => ?_)
       refine AW.sr envOk (fun N hN => ?_)
       simp -dsimp -implicitDefEqProofs (disch := omega) only [go_sem, undef, reduceAdd, reduceSub, reduceGT, reduceEqDiff, reduceMul, ints, rows, gd_r, w64, hl0]
       refine hN _ ?_
       try clear hN N
       refine AW.cond rfl (fun h6 => ?_) (fun h6 => ?_)
       ·try simp only [cn] at h6
        refine AW.skip ?_
        simp only [thn, blk]
        refine hN4 _ ?_
        try clear hN4 N4
        refine AW.seq (fun N5 hN5 => ?_)
        refine AW.block ?_
        refine AW.sr envOk (fun N hN => ?_)
        simp -dsimp -implicitDefEqProofs (disch := omega) only [go_sem, undef, reduceAdd, reduceSub, reduceGT, reduceEqDiff, reduceMul, ints, rows, gd_r, w64, hl0]
        refine AC.pure (.of (spec_l27Moves_ok tb n hsz h5 k ⟨by omega, by omega⟩)) ?_
        try simp -dsimp -implicitDefEqProofs (disch := omega) only [go_sem, undef, reduceAdd, reduceSub, reduceGT, reduceEqDiff, reduceMul, ints, rows, gd_r, w64, hl0]
        refine hN _ ?_
        try clear hN N
        refine AW.cond rfl (fun h7 => ?_) (fun h7 => ?_)
        ·try simp only [cn] at h7
         refine AW.sr envOk (fun N hN => ?_)
         simp -dsimp -implicitDefEqProofs (disch := omega) only [go_sem, undef, reduceAdd, reduceSub, reduceGT, reduceEqDiff, reduceMul, ints, rows, gd_r, w64, hl0]
         refine hN _ ?_
         try clear hN N
         refine AW.ret ?_
         simp -dsimp -implicitDefEqProofs (disch := omega) only [go_sem, undef, reduceAdd, reduceSub, reduceGT, reduceEqDiff, reduceMul]
         exact bt (tf_f (fun hq => h7 ((hq.out h1' hl0).2.2.2 k (by omega)))).symm
        ·try simp only [cn] at h7
         refine AW.skip ?_
         simp only [thn, blk]
         refine hN5 _ ?_
         try clear hN5 N5
         refine AW.regionL envOk ?_
         simp -dsimp -implicitDefEqProofs (disch := omega) only [go_sem, undef, reduceAdd, reduceSub, reduceGT, reduceEqDiff, reduceMul, ints, rows, gd_r, w64, hl0]
         refine ⟨k + 1, ?_, fun _ _ h => h, ?_, ?_⟩
         ·simp (disch := omega) [wks, wkA, sl, w64, ints, rows, cubes, ints, rows, gd_r, w64, hl0] <;> omega
         ·refine ⟨by omega, fun j hj => ?_⟩
          by_cases e : j = k
          ·subst e; exact h7
          ·exact hI j (by omega)
         ·first | omega | (simp only; omega)
       ·try simp only [cn] at h6
        refine AW.exit ?_
        simp only [thn, blk, if_true]
        refine hN3 _ ?_
        try clear hN3 N3
        refine AW.sr envOk (fun N hN => ?_)
        simp -dsimp -implicitDefEqProofs (disch := omega) only [go_sem, undef, reduceAdd, reduceSub, reduceGT, reduceEqDiff, reduceMul, ints, rows, gd_r, w64, hl0]
        refine hN _ ?_
        try clear hN N
        refine AW.ret ?_
        simp -dsimp -implicitDefEqProofs (disch := omega) only [go_sem, undef, reduceAdd, reduceSub, reduceGT, reduceEqDiff, reduceMul]
        exact bt (tf_t (Or.inr ⟨n, hsz, fun g hg => (h4.1 g hg).2, h5, fun y hy => hI y (by omega)⟩)).symm
    ·try simp only [cn] at h4
     try simp -dsimp -implicitDefEqProofs (disch := omega) only [go_sem, undef, reduceAdd, reduceSub, reduceGT, reduceEqDiff, reduceMul, ints, rows, gd_r, w64, hl0]
     refine hN _ ?_
     try clear hN N
     refine AW.condT rfl ?_
     refine AW.sr envOk (fun N hN => ?_)
     simp -dsimp -implicitDefEqProofs (disch := omega) only [go_sem, undef, reduceAdd, reduceSub, reduceGT, reduceEqDiff, reduceMul, ints, rows, gd_r, w64, hl0]
     refine hN _ ?_
     try clear hN N
     refine AW.ret ?_
     simp -dsimp -implicitDefEqProofs (disch := omega) only [go_sem, undef, reduceAdd, reduceSub, reduceGT, reduceEqDiff, reduceMul]
     exact bt (tf_f (fun hq => h4 ⟨(hq.out h1' hl0).2.1, fun _ => (hq.out h1' hl0).1.n128⟩)).symm
   ·try simp only [cn] at h3
    try simp -dsimp -implicitDefEqProofs (disch := omega) only [go_sem, undef, reduceAdd, reduceSub, reduceGT, reduceEqDiff, reduceMul, ints, rows, gd_r, w64, hl0]
    refine hN _ ?_
    try clear hN N
    refine AW.condT rfl ?_
    refine AW.sr envOk (fun N hN => ?_)
    simp -dsimp -implicitDefEqProofs (disch := omega) only [go_sem, undef, reduceAdd, reduceSub, reduceGT, reduceEqDiff, reduceMul, ints, rows, gd_r, w64, hl0]
    refine hN _ ?_
    try clear hN N
    refine AW.ret ?_
    simp -dsimp -implicitDefEqProofs (disch := omega) only [go_sem, undef, reduceAdd, reduceSub, reduceGT, reduceEqDiff, reduceMul]
    exact bt (tf_f (fun hq => by have := (hq.out h1' hl0).1.n1; omega)).symm
  ·try simp only [cn] at h2
   try simp -dsimp -implicitDefEqProofs (disch := omega) only [go_sem, undef, reduceAdd, reduceSub, reduceGT, reduceEqDiff, reduceMul, ints, rows, gd_r, w64, hl0]
   refine hN _ ?_
   try clear hN N
   refine AW.condT rfl ?_
   refine AW.sr envOk (fun N hN => ?_)
   simp -dsimp -implicitDefEqProofs (disch := omega) only [go_sem, undef, reduceAdd, reduceSub, reduceGT, reduceEqDiff, reduceMul, ints, rows, gd_r, w64, hl0]
   refine hN _ ?_
   try clear hN N
   refine AW.ret ?_
   simp -dsimp -implicitDefEqProofs (disch := omega) only [go_sem, undef, reduceAdd, reduceSub, reduceGT, reduceEqDiff, reduceMul]
   exact bt (tf_f (fun hq => by have := (hq.out h1' hl0).1.G4; omega)).symm


theorem impl_isCayleyTable_ok (tb : List (List Int)) (hr : rowslen tb) : ACp Try.prog 70 [rows tb] (.b (tf (cayP tb))) := by
 have hn := hr.n
 obtain ⟨n, hl0⟩ : ∃ n, (tb.getD 0 []).length = n := ⟨_, rfl⟩
 have hnn : n ≤ 1048576 := by rw [← hl0]; exact hr.getD 0
 refine ACp.intro' envOk Try.func70 rfl (by kernel_rfl) Try.ntmps70 Try.results70 (.b _) (fun nx => ?_)
 refine AW.sr envOk (fun N hN => ?_)
 simp -dsimp -implicitDefEqProofs (disch := omega) only [go_sem, undef, reduceAdd, reduceSub, reduceGT, reduceEqDiff, reduceMul, ints, rows, gd_i, gd_r, w64, hl0]
 refine hN _ ?_
 try clear hN N
 refine AW.seq (fun N1 hN1 => ?_)
 refine AW.sr envOk (fun N hN => ?_)
 simp -dsimp -implicitDefEqProofs (disch := omega) only [go_sem, undef, reduceAdd, reduceSub, reduceGT, reduceEqDiff, reduceMul, ints, rows, gd_i, gd_r, w64, hl0]
 refine hN _ ?_
 try clear hN N
 refine AW.cond rfl (fun h1 => ?_) (fun h1 => ?_)
 ·try simp only [cn] at h1
  refine AW.sr envOk (fun N hN => ?_)
  simp -dsimp -implicitDefEqProofs (disch := omega) only [go_sem, undef, reduceAdd, reduceSub, reduceGT, reduceEqDiff, reduceMul, ints, rows, gd_i, gd_r, w64, hl0]
  refine hN _ ?_
  try clear hN N
  refine AW.ret ?_
  simp -dsimp -implicitDefEqProofs (disch := omega) only [go_sem, undef, reduceAdd, reduceSub, reduceGT, reduceEqDiff, reduceMul]
  exact bt (tf_t (Or.inl (by omega))).symm
 ·try simp only [cn] at h1
  have h1' : 1 ≤ tb.length := by omega
  refine AW.skip ?_
  simp only [thn, blk]
  refine hN1 _ ?_
  try clear hN1 N1
  refine AW.sr envOk (fun N hN => ?_)
  simp -dsimp -implicitDefEqProofs (disch := omega) only [go_sem, undef, reduceAdd, reduceSub, reduceGT, reduceEqDiff, reduceMul, ints, rows, gd_i, gd_r, w64, hl0]
  refine hN _ ?_
  try clear hN N
  refine AW.seq (fun N2 hN2 => ?_)
  refine AW.sr envOk (fun N hN => ?_)
  simp -dsimp -implicitDefEqProofs (disch := omega) only [go_sem, undef, reduceAdd, reduceSub, reduceGT, reduceEqDiff, reduceMul, ints, rows, gd_i, gd_r, w64, hl0]
  refine gopB.mk' (fun h2 => ?_) (fun h2 => ?_)
  ·try simp only [cn] at h2
   try simp -dsimp -implicitDefEqProofs (disch := omega) only [go_sem, undef, reduceAdd, reduceSub, reduceGT, reduceEqDiff, reduceMul, ints, rows, gd_i, gd_r, w64, hl0]
   refine gopB.mk' (fun h3 => ?_) (fun h3 => ?_)
   ·try simp only [cn] at h3
    try simp -dsimp -implicitDefEqProofs (disch := omega) only [go_sem, undef, reduceAdd, reduceSub, reduceGT, reduceEqDiff, reduceMul, ints, rows, gd_i, gd_r, w64, hl0]
    refine hN _ ?_
    try clear hN N
    refine AW.cond rfl (fun h4 => ?_) (fun h4 => ?_)
    ·try simp only [cn] at h4
     refine AW.sr envOk (fun N hN => ?_)
     simp -dsimp -implicitDefEqProofs (disch := omega) only [go_sem, undef, reduceAdd, reduceSub, reduceGT, reduceEqDiff, reduceMul, ints, rows, gd_i, gd_r, w64, hl0]
     refine hN _ ?_
     try clear hN N
     refine AW.ret ?_
     simp -dsimp -implicitDefEqProofs (disch := omega) only [go_sem, undef, reduceAdd, reduceSub, reduceGT, reduceEqDiff, reduceMul]
     exact bt (tf_f (fun hq => by have := (hq.out h1' hl0).1.n128; omega)).symm
    ·try simp only [cn] at h4
     refine AW.skip ?_
     simp only [thn, blk]
     refine hN2 _ ?_
     try clear hN2 N2
     refine AW.seq (fun N3 hN3 => ?_)
     refine AW.sr envOk (fun N hN => ?_)
     simp -dsimp -implicitDefEqProofs (disch := omega) only [go_sem, undef, reduceAdd, reduceSub, reduceGT, reduceEqDiff, reduceMul, ints, rows, gd_i, gd_r, w64, hl0]
     refine hN _ ?_
     try clear hN N
     refine AW.block ?_
     refine AW.loopN (α := Nat) (fun x => sl 83 [(0, rows tb), (3, .i .i64 n), (29, rows tb), (30, .i .i64 tb.length), (31, .i .i64 x)]) (fun _ => noH) (fun x m => x ≤ tb.length ∧ (∀ g, g < x → (tb.getD g []).length = n ∧ bij (tb.getD g []))) (fun x => tb.length - x) (0) ?_ ?_ (fun _ _ h => h) ?_
     ·exact ⟨by omega, by intro j hj; omega⟩
     ·simp (disch := omega) [wks, wkA, sl, w64, ints, rows, cubes, ints, rows, gd_i, gd_r, w64, hl0] <;> omega
     ·skip
      rintro g m ⟨hg, hI⟩
      simp -dsimp -implicitDefEqProofs (disch := omega) only [go_sem, undef, reduceAdd, reduceSub, reduceGT, reduceEqDiff, reduceMul]
      refine AW.sr envOk (fun N hN => ?_)
      simp -dsimp -implicitDefEqProofs (disch := omega) only [go_sem, undef, reduceAdd, reduceSub, reduceGT, reduceEqDiff, reduceMul, ints, rows, gd_i, gd_r, w64, hl0]
      refine hN _ ?_
      try clear hN N
      refine AW.seq (fun N4 hN4 => ?_)
      refine AW.cond rfl (fun h5 => ?_) (fun h5 => ?_)
      ·try simp only [cn] at h5
       refine AW.skip ?_
       simp only [thn, blk]
       refine hN4 _ ?_
       try clear hN4 N4
       refine AW.seq (fun N5 hN5 => ?_)
       refine AW.block ?_
       refine AW.sr envOk (fun N hN => ?_)
       simp -dsimp -implicitDefEqProofs (disch := omega) only [go_sem, undef, reduceAdd, reduceSub, reduceGT, reduceEqDiff, reduceMul, ints, rows, gd_i, gd_r, w64, hl0]
       refine hN _ ?_
       try clear hN N
       refine AW.sr envOk (fun N hN => ?_)
       simp -dsimp -implicitDefEqProofs (disch := omega) only [go_sem, undef, reduceAdd, reduceSub, reduceGT, reduceEqDiff, reduceMul, ints, rows, gd_i, gd_r, w64, hl0]
       refine gopB.mk' (fun h6 => ?_) (fun h6 => ?_)
       ·try simp only [cn] at h6
        try simp -dsimp -implicitDefEqProofs (disch := omega) only [go_sem, undef, reduceAdd, reduceSub, reduceGT, reduceEqDiff, reduceMul, ints, rows, gd_i, gd_r, w64, hl0]
        refine AC.pure (.of (impl_isBijection_ok (tb.getD g []) (hr.getD g))) ?_
        try simp -dsimp -implicitDefEqProofs (disch := omega) only [go_sem, undef, reduceAdd, reduceSub, reduceGT, reduceEqDiff, reduceMul, ints, rows, gd_i, gd_r, w64, hl0]
        refine hN _ ?_
        try clear hN N
        refine AW.cond rfl (fun h7 => ?_) (fun h7 => ?_)
        ·try simp only [cn] at h7
         refine AW.sr envOk (fun N hN => ?_)
         simp -dsimp -implicitDefEqProofs (disch := omega) only [go_sem, undef, reduceAdd, reduceSub, reduceGT, reduceEqDiff, reduceMul, ints, rows, gd_i, gd_r, w64, hl0]
         refine hN _ ?_
         try clear hN N
         refine AW.ret ?_
         simp -dsimp -implicitDefEqProofs (disch := omega) only [go_sem, undef, reduceAdd, reduceSub, reduceGT, reduceEqDiff, reduceMul]
         exact bt (tf_f (fun hq => h7 ((hq.out h1' hl0).2.1 g (by omega)).2)).symm
        ·try simp only [cn] at h7
         refine AW.skip ?_
         simp only [thn, blk]
         refine hN5 _ ?_
         try clear hN5 N5
         refine AW.regionL envOk ?_
         simp -dsimp -implicitDefEqProofs (disch := omega) only [go_sem, undef, reduceAdd, reduceSub, reduceGT, reduceEqDiff, reduceMul, ints, rows, gd_i, gd_r, w64, hl0]
         refine ⟨g + 1, ?_, fun _ _ h => h, ?_, ?_⟩
         ·simp (disch := omega) [wks, wkA, sl, w64, ints, rows, cubes, ints, rows, gd_i, gd_r, w64, hl0] <;> omega
         ·refine ⟨by omega, fun j hj => ?_⟩
          by_cases e : j = g
          ·subst e; exact ⟨by omega, h7⟩
          ·exact hI j (by omega)
         ·first | omega | (simp only; omega)
       ·try simp only [cn] at h6
        try simp -dsimp -implicitDefEqProofs (disch := omega) only [go_sem, undef, reduceAdd, reduceSub, reduceGT, reduceEqDiff, reduceMul, ints, rows, gd_i, gd_r, w64, hl0]
        refine hN _ ?_
        try clear hN N
        refine AW.condT rfl ?_
        refine AW.sr envOk (fun N hN => ?_)
        simp -dsimp -implicitDefEqProofs (disch := omega) only [go_sem, undef, reduceAdd, reduceSub, reduceGT, reduceEqDiff, reduceMul, ints, rows, gd_i, gd_r, w64, hl0]
        refine hN _ ?_
        try clear hN N
        refine AW.ret ?_
        simp -dsimp -implicitDefEqProofs (disch := omega) only [go_sem, undef, reduceAdd, reduceSub, reduceGT, reduceEqDiff, reduceMul]
        exact bt (tf_f (fun hq => h6 (by have := ((hq.out h1' hl0).2.1 g (by omega)).1; omega))).symm
      ·try simp only [cn] at h5
       refine AW.exit ?_
       simp only [thn, blk, if_true]
       refine hN3 _ ?_
       try clear hN3 N3
       refine AW.sr envOk (fun N hN => ?_)
       simp -dsimp -implicitDefEqProofs (disch := omega) only [go_sem, undef, reduceAdd, reduceSub, reduceGT, reduceEqDiff, reduceMul, ints, rows, gd_i, gd_r, w64, hl0]
       refine hN _ ?_
       try clear hN N
       refine AW.seq (fun N6 hN6 => ?_)
       refine AW.sr envOk (fun N hN => ?_)
       simp -dsimp -implicitDefEqProofs (disch := omega) only [go_sem, undef, reduceAdd, reduceSub, reduceGT, reduceEqDiff, reduceMul, ints, rows, gd_i, gd_r, w64, hl0]
       refine hN _ ?_
       try clear hN N
       refine AW.block ?_
       have hsd : sized tb n := fun j hj => hI j (by omega)
       have hsz := cay_iff h1' hl0 (by omega) (by omega) (by omega) hsd
       obtain ⟨hn1, hn2, hG1, hG, hlen, hrng⟩ := id hsz
       refine AW.loopN (α := Nat) (fun x => sl 83 [(0, rows tb), (3, .i .i64 n), (6, .i .i64 (nout tb x)), (45, .i .i64 n), (46, .i .i64 x)]) (fun _ => noH) (fun x m => x ≤ n ∧ (∀ k, k < x → numAt tb k)) (fun x => n - x) (0) ?_ ?_ (fun _ _ h => h) ?_
       ·exact ⟨by omega, by intro j hj; omega⟩
       ·simp [wks, wkA, sl, nout, rows]
       ·skip
        rintro k m2 ⟨hk, hJ⟩
        simp -dsimp -implicitDefEqProofs (disch := omega) only [go_sem, undef, reduceAdd, reduceSub, reduceGT, reduceEqDiff, reduceMul]
        have hb := nout_bd hsz k hk
        refine AW.sr envOk (fun N hN => ?_)
        simp -dsimp -implicitDefEqProofs (disch := omega) only [go_sem, undef, reduceAdd, reduceSub, reduceGT, reduceEqDiff, reduceMul, ints, rows, gd_i, gd_r, w64, hl0]
        refine hN _ ?_
        try clear hN N
        refine AW.seq (fun N7 hN7 => ?_)
        refine AW.cond rfl (fun h8 => ?_) (fun h8 => ?_)
        ·try simp only [cn] at h8
         refine AW.skip ?_
         simp only [thn, blk]
         refine hN7 _ ?_
         try clear hN7 N7
         refine AW.seq (fun N8 hN8 => ?_)
         refine AW.block ?_
         refine AW.sr envOk (fun N hN => ?_)
         simp -dsimp -implicitDefEqProofs (disch := omega) only [go_sem, undef, reduceAdd, reduceSub, reduceGT, reduceEqDiff, reduceMul, ints, rows, gd_i, gd_r, w64, hl0]
         refine hN _ ?_
         try clear hN N
         refine AW.seq (fun N9 hN9 => ?_)
         refine AW.sr envOk (fun N hN => ?_)
         simp -dsimp -implicitDefEqProofs (disch := omega) only [go_sem, undef, reduceAdd, reduceSub, reduceGT, reduceEqDiff, reduceMul, ints, rows, gd_i, gd_r, w64, hl0]
         refine hN _ ?_
         try clear hN N
         refine AW.cond rfl (fun h9 => ?_) (fun h9 => ?_)
         ·try simp only [cn] at h9
          refine AW.sr envOk (fun N hN => ?_)
          simp -dsimp -implicitDefEqProofs (disch := omega) only [go_sem, undef, reduceAdd, reduceSub, reduceGT, reduceEqDiff, reduceMul, ints, rows, gd_i, gd_r, w64, hl0]
          refine hN _ ?_
          try clear hN N
          refine AW.ret ?_
          simp -dsimp -implicitDefEqProofs (disch := omega) only [go_sem, undef, reduceAdd, reduceSub, reduceGT, reduceEqDiff, reduceMul]
          exact bt (tf_f (fun hq => by have := ((hq.out h1' hl0).2.2.1 k (by omega)).1; omega)).symm
         ·try simp only [cn] at h9
          refine AW.skip ?_
          simp only [thn, blk]
          refine hN9 _ ?_
          try clear hN9 N9
          refine AW.sr envOk (fun N hN => ?_)
          simp -dsimp -implicitDefEqProofs (disch := omega) only [go_sem, undef, reduceAdd, reduceSub, reduceGT, reduceEqDiff, reduceMul, ints, rows, gd_i, gd_r, w64, hl0]
          refine hN _ ?_
          try clear hN N
          refine AW.block ?_
          refine AW.loopN (α := Nat) (fun x => sl 83 [(0, rows tb), (3, .i .i64 n), (6, .i .i64 (ninn tb k x (nout tb k))), (7, .i .i64 k), (45, .i .i64 n), (46, .i .i64 k), (52, rows tb), (53, .i .i64 tb.length), (54, .i .i64 x)]) (fun _ => noH) (fun x m => x ≤ tb.length ∧ ∀ g, g < x → (tb.getD g []).getD k 0 ≤ ninn tb k g (nout tb k)) (fun x => tb.length - x) (0) ?_ ?_ (fun _ _ h => h) ?_
          ·exact ⟨by omega, by intro j hj; omega⟩
          ·simp [wks, wkA, sl, ninn, rows]
          ·skip
           rintro q m3 ⟨hq, hK⟩
           simp -dsimp -implicitDefEqProofs (disch := omega) only [go_sem, undef, reduceAdd, reduceSub, reduceGT, reduceEqDiff, reduceMul]
           have hb2 := ninn_bd hsz (x := k) (by omega) hb.2 q hq
           refine AW.sr envOk (fun N hN => ?_)
           simp -dsimp -implicitDefEqProofs (disch := omega) only [go_sem, undef, reduceAdd, reduceSub, reduceGT, reduceEqDiff, reduceMul, ints, rows, gd_i, gd_r, w64, hl0]
           refine hN _ ?_
           try clear hN N
           refine AW.seq (fun N10 hN10 => ?_)
           refine AW.cond rfl (fun h10 => ?_) (fun h10 => ?_)
           ·try simp only [cn] at h10
            have hl := hlen q (by omega)
            have hr2 := hrng q k (by omega) (by omega)
            refine AW.skip ?_
            simp only [thn, blk]
            refine hN10 _ ?_
            try clear hN10 N10
            refine AW.seq (fun N11 hN11 => ?_)
            refine AW.block ?_
            refine AW.sr envOk (fun N hN => ?_)
            simp -dsimp -implicitDefEqProofs (disch := omega) only [go_sem, undef, reduceAdd, reduceSub, reduceGT, reduceEqDiff, reduceMul, ints, rows, gd_i, gd_r, w64, hl0]
            refine hN _ ?_
            try clear hN N
            refine AW.seq (fun N12 hN12 => ?_)
            refine AW.sr envOk (fun N hN => ?_)
            simp -dsimp -implicitDefEqProofs (disch := omega) only [go_sem, undef, reduceAdd, reduceSub, reduceGT, reduceEqDiff, reduceMul, ints, rows, gd_i, gd_r, w64, hl0]
            refine hN _ ?_
            try clear hN N
            refine AW.cond rfl (fun h11 => ?_) (fun h11 => ?_)
            ·try simp only [cn] at h11
             refine AW.sr envOk (fun N hN => ?_)
             simp -dsimp -implicitDefEqProofs (disch := omega) only [go_sem, undef, reduceAdd, reduceSub, reduceGT, reduceEqDiff, reduceMul, ints, rows, gd_i, gd_r, w64, hl0]
             refine hN _ ?_
             try clear hN N
             refine AW.ret ?_
             simp -dsimp -implicitDefEqProofs (disch := omega) only [go_sem, undef, reduceAdd, reduceSub, reduceGT, reduceEqDiff, reduceMul]
             exact bt (tf_f (fun hw => by have := ((hw.out h1' hl0).2.2.1 k (by omega)).2 q (by omega); omega)).symm
            ·try simp only [cn] at h11
             refine AW.skip ?_
             simp only [thn, blk]
             refine hN12 _ ?_
             try clear hN12 N12
             refine AW.sr envOk (fun N hN => ?_)
             simp -dsimp -implicitDefEqProofs (disch := omega) only [go_sem, undef, reduceAdd, reduceSub, reduceGT, reduceEqDiff, reduceMul, ints, rows, gd_i, gd_r, w64, hl0]
             refine hN _ ?_
             try clear hN N
             refine AW.cond rfl (fun h12 => ?_) (fun h12 => ?_)
             ·try simp only [cn] at h12
              have hs : ninn tb k (q + 1) (nout tb k) = ninn tb k q (nout tb k) + 1 := by rw [ninn, if_pos h12]
              refine AW.regionL envOk ?_
              simp -dsimp -implicitDefEqProofs (disch := omega) only [go_sem, undef, reduceAdd, reduceSub, reduceGT, reduceEqDiff, reduceMul, ints, rows, gd_i, gd_r, w64, hl0]
              refine hN11 _ ?_
              try clear hN11 N11
              refine AW.regionL envOk ?_
              simp -dsimp -implicitDefEqProofs (disch := omega) only [go_sem, undef, reduceAdd, reduceSub, reduceGT, reduceEqDiff, reduceMul, ints, rows, gd_i, gd_r, w64, hl0]
              refine ⟨q + 1, ?_, fun _ _ h => h, ?_, ?_⟩
              ·simp [wks, wkA, sl, rows, hs]
              ·refine ⟨by omega, fun j hj => ?_⟩
               by_cases e : j = q
               ·subst e; omega
               ·exact hK j (by omega)
              ·first | omega | (simp only; omega)
             ·try simp only [cn] at h12
              have hs : ninn tb k (q + 1) (nout tb k) = ninn tb k q (nout tb k) := by rw [ninn, if_neg h12]
              refine AW.skip ?_
              simp only [thn, blk]
              refine hN11 _ ?_
              try clear hN11 N11
              refine AW.regionL envOk ?_
              simp -dsimp -implicitDefEqProofs (disch := omega) only [go_sem, undef, reduceAdd, reduceSub, reduceGT, reduceEqDiff, reduceMul, ints, rows, gd_i, gd_r, w64, hl0]
              refine ⟨q + 1, ?_, fun _ _ h => h, ?_, ?_⟩
              ·simp [wks, wkA, sl, rows, hs]
              ·refine ⟨by omega, fun j hj => ?_⟩
               by_cases e : j = q
               ·subst e; omega
               ·exact hK j (by omega)
              ·first | omega | (simp only; omega)
           ·try simp only [cn] at h10
            refine AW.exit ?_
            simp only [thn, blk, if_true]
            refine hN8 _ ?_
            try clear hN8 N8
            refine AW.regionL envOk ?_
            simp -dsimp -implicitDefEqProofs (disch := omega) only [go_sem, undef, reduceAdd, reduceSub, reduceGT, reduceEqDiff, reduceMul, ints, rows, gd_i, gd_r, w64, hl0]
            have hq' : q = tb.length := by omega
            subst hq'
            refine ⟨k + 1, ?_, fun _ _ h => h, ?_, ?_⟩
            ·simp [wks, wkA, sl, rows, nout]
            ·refine ⟨by omega, fun j hj => ?_⟩
             by_cases e : j = k
             ·subst e; exact ⟨by omega, fun q hq => hK q (by omega)⟩
             ·exact hJ j (by omega)
            ·first | omega | (simp only; omega)
        ·try simp only [cn] at h8
         refine AW.exit ?_
         simp only [thn, blk, if_true]
         refine hN6 _ ?_
         try clear hN6 N6
         refine AW.seq (fun N13 hN13 => ?_)
         refine AW.sr envOk (fun N hN => ?_)
         simp -dsimp -implicitDefEqProofs (disch := omega) only [go_sem, undef, reduceAdd, reduceSub, reduceGT, reduceEqDiff, reduceMul, ints, rows, gd_i, gd_r, w64, hl0]
         refine hN _ ?_
         try clear hN N
         refine AW.block ?_
         have hnum : numP tb n := fun j hj => hJ j (by omega)
         refine AW.loopN (α := Nat) (fun x => sl 83 [(0, rows tb), (74, .i .i64 n), (75, .i .i64 x)]) (fun _ => noH) (fun x m => x ≤ n ∧ ∀ y : Nat, y < x → movP tb n y) (fun x => n - x) (0) ?_ ?_ (fun _ _ h => h) ?_
         ·exact ⟨by omega, by intro j hj; omega⟩
         ·simp (disch := omega) [wks, wkA, sl, w64, ints, rows, cubes, ints, rows, gd_i, gd_r, w64, hl0] <;> omega
         ·skip
          rintro z m4 ⟨hz, hM⟩
          simp -dsimp -implicitDefEqProofs (disch := omega) only [go_sem, undef, reduceAdd, reduceSub, reduceGT, reduceEqDiff, reduceMul]
          refine AW.sr envOk (fun N hN => ?_)
          simp -dsimp -implicitDefEqProofs (disch := omega) only [go_sem, undef, reduceAdd, reduceSub, reduceGT, reduceEqDiff, reduceMul, ints, rows, gd_i, gd_r, w64, hl0]
          refine hN _ ?_
          try clear hN N
          refine AW.seq (fun N14 hN14 => ?_)
          refine AW.cond rfl (fun h13 => ?_) (fun h13 => ?_)
          ·try simp only [cn] at h13
           refine AW.skip ?_
           simp only [thn, blk]
           refine hN14 _ ?_
           try clear hN14 N14
           refine AW.seq (fun N15 hN15 => ?_)
           refine AW.block ?_
           refine AW.sr envOk (fun N hN => ?_)
           simp -dsimp -implicitDefEqProofs (disch := omega) only [go_sem, undef, reduceAdd, reduceSub, reduceGT, reduceEqDiff, reduceMul, ints, rows, gd_i, gd_r, w64, hl0]
           refine hN _ ?_
           try clear hN N
           refine AW.sr envOk (fun N hN => ?_)
           simp -dsimp -implicitDefEqProofs (disch := omega) only [go_sem, undef, reduceAdd, reduceSub, reduceGT, reduceEqDiff, reduceMul, ints, rows, gd_i, gd_r, w64, hl0]
           refine AC.pure (.of (impl_regularAt_ok tb n hsz hnum z ⟨by omega, by omega⟩)) ?_
           try simp -dsimp -implicitDefEqProofs (disch := omega) only [go_sem, undef, reduceAdd, reduceSub, reduceGT, reduceEqDiff, reduceMul, ints, rows, gd_i, gd_r, w64, hl0]
           refine hN _ ?_
           try clear hN N
           refine AW.cond rfl (fun h14 => ?_) (fun h14 => ?_)
           ·try simp only [cn] at h14
            refine AW.sr envOk (fun N hN => ?_)
            simp -dsimp -implicitDefEqProofs (disch := omega) only [go_sem, undef, reduceAdd, reduceSub, reduceGT, reduceEqDiff, reduceMul, ints, rows, gd_i, gd_r, w64, hl0]
            refine hN _ ?_
            try clear hN N
            refine AW.ret ?_
            simp -dsimp -implicitDefEqProofs (disch := omega) only [go_sem, undef, reduceAdd, reduceSub, reduceGT, reduceEqDiff, reduceMul]
            exact bt (tf_f (fun hq => h14 ((hq.out h1' hl0).2.2.2 z (by omega)))).symm
           ·try simp only [cn] at h14
            refine AW.skip ?_
            simp only [thn, blk]
            refine hN15 _ ?_
            try clear hN15 N15
            refine AW.regionL envOk ?_
            simp -dsimp -implicitDefEqProofs (disch := omega) only [go_sem, undef, reduceAdd, reduceSub, reduceGT, reduceEqDiff, reduceMul, ints, rows, gd_i, gd_r, w64, hl0]
            refine ⟨z + 1, ?_, fun _ _ h => h, ?_, ?_⟩
            ·simp (disch := omega) [wks, wkA, sl, w64, ints, rows, cubes, ints, rows, gd_i, gd_r, w64, hl0] <;> omega
            ·refine ⟨by omega, fun j hj => ?_⟩
             by_cases e : j = z
             ·subst e; exact h14
             ·exact hM j (by omega)
            ·first | omega | (simp only; omega)
          ·try simp only [cn] at h13
           refine AW.exit ?_
           simp only [thn, blk, if_true]
           refine hN13 _ ?_
           try clear hN13 N13
           refine AW.sr envOk (fun N hN => ?_)
           simp -dsimp -implicitDefEqProofs (disch := omega) only [go_sem, undef, reduceAdd, reduceSub, reduceGT, reduceEqDiff, reduceMul, ints, rows, gd_i, gd_r, w64, hl0]
           refine hN _ ?_
           try clear hN N
           refine AW.ret ?_
           simp -dsimp -implicitDefEqProofs (disch := omega) only [go_sem, undef, reduceAdd, reduceSub, reduceGT, reduceEqDiff, reduceMul]
           exact bt (tf_t (Or.inr ⟨n, hsz, fun g hg => (hsd g hg).2, hnum, fun y hy => hM y (by omega)⟩)).symm
   ·try simp only [cn] at h3
    try simp -dsimp -implicitDefEqProofs (disch := omega) only [go_sem, undef, reduceAdd, reduceSub, reduceGT, reduceEqDiff, reduceMul, ints, rows, gd_i, gd_r, w64, hl0]
    refine hN _ ?_
    try clear hN N
    refine AW.condT rfl ?_
    refine AW.sr envOk (fun N hN => ?_)
    simp -dsimp -implicitDefEqProofs (disch := omega) only [go_sem, undef, reduceAdd, reduceSub, reduceGT, reduceEqDiff, reduceMul, ints, rows, gd_i, gd_r, w64, hl0]
    refine hN _ ?_
    try clear hN N
    refine AW.ret ?_
    simp -dsimp -implicitDefEqProofs (disch := omega) only [go_sem, undef, reduceAdd, reduceSub, reduceGT, reduceEqDiff, reduceMul]
    exact bt (tf_f (fun hq => by have := (hq.out h1' hl0).1.n1; omega)).symm
  ·try simp only [cn] at h2
   try simp -dsimp -implicitDefEqProofs (disch := omega) only [go_sem, undef, reduceAdd, reduceSub, reduceGT, reduceEqDiff, reduceMul, ints, rows, gd_i, gd_r, w64, hl0]
   refine hN _ ?_
   try clear hN N
   refine AW.condT rfl ?_
   refine AW.sr envOk (fun N hN => ?_)
   simp -dsimp -implicitDefEqProofs (disch := omega) only [go_sem, undef, reduceAdd, reduceSub, reduceGT, reduceEqDiff, reduceMul, ints, rows, gd_i, gd_r, w64, hl0]
   refine hN _ ?_
   try clear hN N
   refine AW.ret ?_
   simp -dsimp -implicitDefEqProofs (disch := omega) only [go_sem, undef, reduceAdd, reduceSub, reduceGT, reduceEqDiff, reduceMul]
   exact bt (tf_f (fun hq => by have := (hq.out h1' hl0).1.G4; omega)).symm


end Go.Proofs.Ytimgnijlnkjamaa
