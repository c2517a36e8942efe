/-
  Cayley tables: bijections, the standard numbering, companions; the test by the reference and by the program; the law FnExactIsCayleyTable.
-/
import Derived.Test.YtdghgmgppecncaaNa
set_option linter.unusedVariables false
set_option linter.unusedSimpArgs false
namespace Go.Proofs.Ytdghgmgppecncaa
open Nat (reduceAdd reduceSub reduceGT reduceEqDiff reduceMul)

/-! Lists of truth values of one's own. -/
def bvs (n : Nat) (f : Nat → Bool) : List AV := (List.range n).map fun k => .b (f k)
def bset (f : Nat → Bool) (j : Nat) (x : Bool) : Nat → Bool := fun k => if k = j then x else f k
theorem bvs_len {n : Nat} {f : Nat → Bool} : (bvs n f).length = n := by simp [bvs]
theorem bvs_get {n : Nat} {f : Nat → Bool} {j : Nat} (h : j < n) : (bvs n f).getD j .j = .b (f j) := by simp [bvs, h]
theorem bvs_ext {n : Nat} {f g : Nat → Bool} (h : ∀ k, k < n → f k = g k) : bvs n f = bvs n g := by
  apply List.map_congr_left
  intro k hk
  rw [h k (List.mem_range.1 hk)]
theorem bvs_set {n : Nat} {f : Nat → Bool} {j : Nat} {x : Bool} (h : j < n) : splice (bvs n f) j [.b x] = bvs n (bset f j x) := by
  rw [splice_one _ _ _ (by rw [bvs_len]; exact h)]
  apply List.ext_getElem?
  intro i
  rw [List.getElem?_set]
  by_cases hi : j = i
  · subst hi; simp [bvs, bset, h]
  · simp only [hi, if_false, bvs, List.getElem?_map]
    by_cases hn : i < n
    · simp [hn, bset, Ne.symm hi]
    · simp [hn]
theorem bvs_zero {n : Nat} : List.replicate n (.b false) = bvs n (fun _ => false) := by
  apply List.ext_getElem?
  intro i
  by_cases h : i < n <;> simp [bvs, h]
attribute [go_sem] bvs_len bvs_get bvs_set

/-- A bijection of 0 .. length - 1. -/
def bij (a : List Int) : Prop := (∀ k, k < a.length → 0 ≤ a.getD k 0 ∧ a.getD k 0 ≤ (a.length : Int) - 1) ∧ ∀ i j, i < j → j < a.length → a.getD i 0 ≠ a.getD j 0
noncomputable def seenF (a : List Int) (k : Nat) : Nat → Bool := fun v => tf (∃ j, j < k ∧ (a.getD j 0).toNat = v)
theorem seen_zero {a : List Int} : bvs a.length (seenF a 0) = List.replicate a.length (.b false) := by
  rw [bvs_zero]
  exact bvs_ext (fun v hv => tf_f (by rintro ⟨j, h, _⟩; omega))
theorem seen_next {a : List Int} {k : Nat} : bvs a.length (bset (seenF a k) (a.getD k 0).toNat true) = bvs a.length (seenF a (k + 1)) := by
  refine bvs_ext (fun v hv => ?_)
  unfold bset seenF
  split
  · rename_i h
    exact (tf_t ⟨k, by omega, h.symm⟩).symm
  · rename_i h
    refine tf_eq ⟨fun ⟨j, h1, h2⟩ => ⟨j, by omega, h2⟩, fun ⟨j, h1, h2⟩ => ⟨j, ?_, h2⟩⟩
    by_cases e : j = k
    · subst e; exact absurd h2.symm h
    · omega

theorem bij_step {a : List Int} {k : Nat} (hJ : ∀ i j, i < j → j < k → a.getD i 0 ≠ a.getD j 0) (hI : ∀ j, j < k → 0 ≤ a.getD j 0) (h3 : 0 ≤ a.getD k 0) (h4 : ¬ seenF a k (a.getD k 0).toNat = true) : ∀ i j, i < j → j < k + 1 → a.getD i 0 ≠ a.getD j 0 := by
  intro i j hij hj he
  by_cases e : j = k
  · subst e
    exact h4 (tf_t ⟨i, hij, by rw [he]⟩)
  · exact hJ i j hij (by omega) he
theorem bij_no {a : List Int} {k : Nat} (hk : k < a.length) (h4 : seenF a k (a.getD k 0).toNat = true) : ¬ bij a := by
  obtain ⟨j, h1, h2⟩ := tf_iff.1 h4
  intro ⟨hb, hd⟩
  have q1 := hb j (by omega)
  have q2 := hb k hk
  exact hd j k h1 hk (by omega)



theorem Vw.ivq {H : HP} {id n : Nat} {f : Nat → Int} (h : H id = some (ivs n f)) : Vw H (.h id 0 n) (ints (vec n f)) := by
  unfold Go.Proofs.Ytdghgmgppecncaa.ints
  rw [vec_len, vec_map]
  exact .h id 0 n _ _ h (by rw [ivs_len]; omega) ivs_len (fun k x y hx hy => by rw [Nat.zero_add, hy] at hx; cases hx; exact .refl _)

/-! The table: its entries, and how the numbering goes on. -/
def tab (tb : List (List Int)) (g x : Nat) : Int := (tb.getD g []).getD x 0
structure Sz (tb : List (List Int)) (n : Nat) : Prop where
  n1 : 1 ≤ n
  n128 : n ≤ 128
  G1 : 1 ≤ tb.length
  G4 : tb.length ≤ 4
  len : ∀ g, g < tb.length → (tb.getD g []).length = n
  rng : ∀ g x, g < tb.length → x < n → 0 ≤ (tb.getD g []).getD x 0 ∧ (tb.getD g []).getD x 0 ≤ (n : Int) - 1
def ninn (tb : List (List Int)) (x : Nat) : Nat → Int → Int
  | 0, v => v
  | g + 1, v => if (tb.getD g []).getD x 0 = ninn tb x g v then ninn tb x g v + 1 else ninn tb x g v
def nout (tb : List (List Int)) : Nat → Int
  | 0 => 1
  | x + 1 => ninn tb x tb.length (nout tb x)
theorem ninn_bd {tb : List (List Int)} {n x : Nat} (h : Sz tb n) (hx : x < n) {v : Int} (h1 : v ≤ n) : ∀ g, g ≤ tb.length → v ≤ ninn tb x g v ∧ ninn tb x g v ≤ n := by
  intro g
  induction g with
  | zero => intro _; exact ⟨Int.le_refl _, h1⟩
  | succ g ih =>
    intro hg
    have := ih (by omega)
    have hr := h.rng g x (by omega) hx
    rw [ninn]
    split <;> omega
theorem nout_bd {tb : List (List Int)} {n : Nat} (h : Sz tb n) : ∀ x, x ≤ n → 1 ≤ nout tb x ∧ nout tb x ≤ n := by
  intro x
  induction x with
  | zero => intro _; have := h.n1; simp only [nout]; omega
  | succ x ih =>
    intro hx
    have h1 := ih (by omega)
    have h2 := ninn_bd h (x := x) (by omega) h1.2 tb.length (Nat.le_refl _)
    rw [nout]; omega
/-- The standard numbering. -/
def numAt (tb : List (List Int)) (x : Nat) : Prop := (x : Int) < nout tb x ∧ ∀ g, g < tb.length → (tb.getD g []).getD x 0 ≤ ninn tb x g (nout tb x)
def numP (tb : List (List Int)) (n : Nat) : Prop := ∀ x, x < n → numAt tb x
theorem num_end {tb : List (List Int)} {n : Nat} (h : Sz tb n) (hn : numP tb n) : nout tb n = n := by
  have h1 := h.n1
  obtain ⟨m, rfl⟩ : ∃ m, n = m + 1 := ⟨n - 1, by omega⟩
  have h2 := (hn m (by omega)).1
  have h3 := nout_bd h m (by omega)
  have h4 := ninn_bd h (x := m) (by omega) h3.2 tb.length (Nat.le_refl _)
  rw [nout]; omega


/-! Companions. -/
def minn (tb : List (List Int)) (x : Nat) : Nat → Int → (Nat → Int) → Nat → Int
  | 0, _, m => m
  | g + 1, v, m => if (tb.getD g []).getD x 0 = ninn tb x g v then fset (minn tb x g v m) ((tb.getD g []).getD x 0).toNat ((tb.getD g []).getD (minn tb x g v m x).toNat 0) else minn tb x g v m
def mout (tb : List (List Int)) (y : Int) : Nat → Nat → Int
  | 0 => fset (fun _ => 0) 0 y
  | x + 1 => minn tb x tb.length (nout tb x) (mout tb y x)
/-- The values so far are in range. -/
def mrg (n : Nat) (v : Int) (m : Nat → Int) : Prop := ∀ z : Nat, (z : Int) < v → 0 ≤ m z ∧ m z ≤ (n : Int) - 1
theorem minn_rg {tb : List (List Int)} {n x : Nat} (h : Sz tb n) (hx : x < n) {v : Int} (hv : (x : Int) < v) (h1 : v ≤ n) {m : Nat → Int} (hm : mrg n v m) : ∀ g, g ≤ tb.length → mrg n (ninn tb x g v) (minn tb x g v m) := by
  intro g
  induction g with
  | zero => intro _; exact hm
  | succ g ih =>
    intro hg
    have h2 := ih (by omega)
    have h3 := ninn_bd h hx h1 g (by omega)
    rw [ninn, minn]
    split
    · rename_i he
      intro z hz
      unfold fset
      split
      · have h4 := h2 x (by omega)
        have := h.rng g (minn tb x g v m x).toNat (by omega) (by omega)
        omega
      · exact h2 z (by omega)
    · exact h2
theorem mout_rg {tb : List (List Int)} {n : Nat} (h : Sz tb n) {y : Int} (hy : 0 ≤ y ∧ y < n) (hn : numP tb n) : ∀ x, x ≤ n → mrg n (nout tb x) (mout tb y x) := by
  intro x
  induction x with
  | zero =>
    intro _ z hz
    simp only [nout] at hz
    have : z = 0 := by omega
    subst this
    simp only [mout, fset, if_true]; omega
  | succ x ih =>
    intro hx
    exact minn_rg h (by omega) (hn x (by omega)).1 (nout_bd h x (by omega)).2 (ih (by omega)) tb.length (Nat.le_refl _)
def movAt (tb : List (List Int)) (y : Int) (x g : Nat) : Prop := minn tb x (g + 1) (nout tb x) (mout tb y x) ((tb.getD g []).getD x 0).toNat = (tb.getD g []).getD (minn tb x (g + 1) (nout tb x) (mout tb y x) x).toNat 0
def movP (tb : List (List Int)) (n : Nat) (y : Int) : Prop := (∀ x, x < n → ∀ g, g < tb.length → movAt tb y x g) ∧ bij (vec n (mout tb y n))


/-- What is not yet known is -1. -/
def cutM (v : Int) (m : Nat → Int) : Nat → Int := fun z => if (z : Int) < v then m z else -1
theorem cut_start {tb : List (List Int)} {y : Int} {n z : Nat} (hz : z < n) : cutM (nout tb 0) (mout tb y 0) z = fset (fun j => if j < n then -1 else 0) 0 y z := by
  unfold cutM nout mout fset
  by_cases e : z = 0
  · subst e; simp
  · simp only [e, if_false, hz, if_true]; rw [if_neg (by omega)]
theorem fset_neg {x : Nat} : fset (fun j => if j < x then (-1 : Int) else 0) x (-1) = fun j => if j < x + 1 then -1 else 0 := fset_if (g := fun _ => -1) (f := fun _ => 0) rfl


/-! The whole test. -/
def cayP (tb : List (List Int)) : Prop := tb.length = 0 ∨ ∃ n, Sz tb n ∧ (∀ g, g < tb.length → bij (tb.getD g [])) ∧ numP tb n ∧ ∀ y : Nat, y < n → movP tb n y
def sized (tb : List (List Int)) (n : Nat) : Prop := ∀ g, g < tb.length → (tb.getD g []).length = n ∧ bij (tb.getD g [])
theorem cay_iff {tb : List (List Int)} (h0 : 1 ≤ tb.length) {n : Nat} (hn : (tb.getD 0 []).length = n) (h4 : tb.length ≤ 4) (h1 : 1 ≤ n) (h128 : n ≤ 128) (hs : sized tb n) : Sz tb n :=
  ⟨h1, h128, h0, h4, fun g hg => (hs g hg).1, fun g x hg hx => by
    have h2 := hs g hg
    have h3 := h2.2.1 x (by omega)
    rw [h2.1] at h3; exact h3⟩
theorem cay_n {tb : List (List Int)} {n m : Nat} (h : Sz tb m) (hn : (tb.getD 0 []).length = n) : m = n := by
  have := h.len 0 h.G1; omega

theorem cayP.out {tb : List (List Int)} {n : Nat} (h : cayP tb) (h0 : 1 ≤ tb.length) (hn : (tb.getD 0 []).length = n) : Sz tb n ∧ sized tb n ∧ numP tb n ∧ ∀ y : Nat, y < n → movP tb n y := by
  rcases h with h | ⟨m, h1, h2, h3, h4⟩
  · omega
  · have := cay_n h1 hn
    subst this
    exact ⟨h1, fun g hg => ⟨h1.len g hg, h2 g hg⟩, h3, h4⟩




end Go.Proofs.Ytdghgmgppecncaa
