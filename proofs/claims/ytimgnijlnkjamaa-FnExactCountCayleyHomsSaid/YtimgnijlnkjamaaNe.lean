/-
  Lie rings: brackets, by the reference and by the program.
-/
import Derived.Test.YtimgnijlnkjamaaNd
set_option linter.unusedVariables false
set_option linter.unusedSimpArgs false
namespace Go.Proofs.Ytimgnijlnkjamaa
open Nat (reduceAdd reduceSub reduceGT reduceEqDiff reduceMul)

/-- What the brackets of a shape are. -/
structure Sh (p : Int) (pw : List (List Int)) (br : List (List (List Int))) : Prop extends Tri p pw where
  bl : br.length = pw.length
  rl : ∀ i, i < pw.length → (br.getD i []).length + 1 + i = pw.length
  el : ∀ i k, i < pw.length → k < (br.getD i []).length → El p pw.length ((br.getD i []).getD k [])
theorem shapeP.sh {p : Int} {pw : List (List Int)} {br : List (List (List Int))} (h : shapeP p pw br) : Sh p pw br :=
  ⟨h.tri, h.2.2.1, fun i hi => (h.2.2.2.2 i hi).2.2.1, fun i k hi hk => ((h.2.2.2.2 i hi).2.2.2 k hk).1.el⟩

def brc (a b : List Int) (i r : Nat) : Int := a.getD i 0 * b.getD (i + 1 + r) 0 - a.getD (i + 1 + r) 0 * b.getD i 0
def brow (a b : List Int) (bi : List (List Int)) (i q t : Nat) : Int := rsum q (fun r => brc a b i r * (bi.getD r []).getD t 0)
def bsum (a b : List Int) (br : List (List (List Int))) (k t : Nat) : Int := rsum k (fun i => brow a b (br.getD i []) i (br.getD i []).length t)
/-- The bracket. -/
def brkL (p : Int) (pw : List (List Int)) (br : List (List (List Int))) (a b : List Int) : List Int := nf p pw (fun t => bsum a b br pw.length t)

theorem mul36 {x y p : Int} (hp : p ≤ 7) (h1 : 0 ≤ x) (h2 : x ≤ p - 1) (h3 : 0 ≤ y) (h4 : y ≤ p - 1) : 0 ≤ x * y ∧ x * y ≤ 36 := by
  have := Int.mul_le_mul (show x ≤ 6 by omega) (show y ≤ 6 by omega) h3 (by omega)
  exact ⟨Int.mul_nonneg h1 h3, by omega⟩
theorem brc_bd {p : Int} {n : Nat} (hp : p ≤ 7) {a b : List Int} (ha : El p n a) (hb : El p n b) {i r : Nat} (h : i + 1 + r < n) : (0 ≤ a.getD i 0 * b.getD (i + 1 + r) 0 ∧ a.getD i 0 * b.getD (i + 1 + r) 0 ≤ 36) ∧ (0 ≤ a.getD (i + 1 + r) 0 * b.getD i 0 ∧ a.getD (i + 1 + r) 0 * b.getD i 0 ≤ 36) ∧ -36 ≤ brc a b i r ∧ brc a b i r ≤ 36 := by
  have h1 := ha.rng i (by omega)
  have h2 := ha.rng (i + 1 + r) h
  have h3 := hb.rng i (by omega)
  have h4 := hb.rng (i + 1 + r) h
  have h5 := mul36 hp h1.1 h1.2 h4.1 h4.2
  have h6 := mul36 hp h2.1 h2.2 h3.1 h3.2
  unfold brc
  omega
theorem cv_bd {c v p : Int} (hp : p ≤ 7) (hc : -36 ≤ c ∧ c ≤ 36) (hv : 0 ≤ v) (hv2 : v ≤ p - 1) : -216 ≤ c * v ∧ c * v ≤ 216 := by
  have h1 : c * v ≤ 36 * v := Int.mul_le_mul_of_nonneg_right hc.2 hv
  have h2 : (-36) * v ≤ c * v := Int.mul_le_mul_of_nonneg_right hc.1 hv
  omega
theorem brow_bd {p : Int} {pw : List (List Int)} {br : List (List (List Int))} (s : Sh p pw br) {a b : List Int} (ha : El p pw.length a) (hb : El p pw.length b) {i q t : Nat} (hi : i < pw.length) (hq : q ≤ (br.getD i []).length) (ht : t < pw.length) : -1296 ≤ brow a b (br.getD i []) i q t ∧ brow a b (br.getD i []) i q t ≤ 1296 := by
  have hr := s.rl i hi
  have h6 := s.n6
  have h1 := rsum_bd (C := 216) (n := q) (F := fun r => brc a b i r * ((br.getD i []).getD r []).getD t 0) (fun r hr' => by
    have h2 := brc_bd s.p7 ha hb (i := i) (r := r) (by omega)
    have h3 := (s.el i r hi (by omega)).rng t ht
    exact cv_bd s.p7 h2.2.2 h3.1 h3.2)
  unfold brow
  omega
theorem bsum_bd {p : Int} {pw : List (List Int)} {br : List (List (List Int))} (s : Sh p pw br) {a b : List Int} (ha : El p pw.length a) (hb : El p pw.length b) {k t : Nat} (hk : k ≤ pw.length) (ht : t < pw.length) : -7776 ≤ bsum a b br k t ∧ bsum a b br k t ≤ 7776 := by
  have h6 := s.n6
  have h1 := rsum_bd (C := 1296) (n := k) (F := fun i => brow a b (br.getD i []) i (br.getD i []).length t) (fun i hi => brow_bd s ha hb (by omega) (Nat.le_refl _) ht)
  unfold bsum
  omega

theorem Sml.box {n : Nat} {k C : Int} {a : List Int} (h : ∀ j, j < n → -C ≤ k * a.getD j 0 ∧ k * a.getD j 0 ≤ C) (hC : C ≤ 400000000000000) : Sml n k a := fun j hj => by have := h j hj; omega
theorem El.sml1 {p : Int} {n : Nat} {a : List Int} (h : El p n a) (hp : p ≤ 7) : Sml n 1 a := fun j hj => by have := h.rng j hj; omega
theorem El.vec {p : Int} {n : Nat} {f : Nat → Int} (h : Box p n f) : El p n (vec n f) := ⟨vec_len, fun j hj => by rw [vec_get hj]; exact h j hj⟩

theorem mix_step {p : Int} {pw : List (List Int)} (t : Tri p pw) {F Pt : Nat → Int} (hc : Cg p pw F Pt) (c : Int) (v : List Int) :
    Box p pw.length (nrm p pw pw.length (fun j => 1 * (vec pw.length F).getD j 0 + c * v.getD j 0)) ∧ Cg p pw (nrm p pw pw.length (fun j => 1 * (vec pw.length F).getD j 0 + c * v.getD j 0)) (fun j => Pt j + c * v.getD j 0) := by
  refine ⟨nrm_box t _, (nrm_cg t _ _ (Nat.le_refl _)).trans ?_⟩
  exact ((hc.comb 1 c (.refl (fun j => v.getD j 0)))).ext (fun j hj => by rw [vec_get hj]) (fun j hj => by omega)


end Go.Proofs.Ytimgnijlnkjamaa
