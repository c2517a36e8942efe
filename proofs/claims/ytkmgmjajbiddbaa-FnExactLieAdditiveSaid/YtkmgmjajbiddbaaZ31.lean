import Derived.Test.YtkmgmjajbiddbaaZ30
set_option linter.unusedVariables false
set_option linter.unusedSimpArgs false
namespace Go.Proofs.Ytkmgmjajbiddbaa
open Nat (reduceAdd reduceSub reduceGT reduceEqDiff reduceMul)
theorem ACp.ofV {P : Program} {f : FuncId} {xs : List AV} {X : AV} (hX : NR X) (h : ∀ nx, AC P f nx noH xs (fun _ H' r => Vw H' r X)) : ACp P f xs X := by
  refine ⟨(h 0).1, fun L M w us hM ⟨n, hn⟩ ha => ((h n).2 L M w us (SR_noH hM) hn (by rw [MM_noH]; exact ha)).mono ?_⟩
  rintro e w' ⟨u, r, L', nx', H', h1, h2, h3, h4, h5, h6, h7, h8⟩
  exact ⟨u, h1, ⟨fun _ _ h => h, h7.os, h7.tape, h7.output, h7.size, h7.keep, fun b _ hb => absurd hb LB_noH⟩, (h2.sound h6 h8).nr hX⟩
end Go.Proofs.Ytkmgmjajbiddbaa
namespace Go.Proofs.Ytkmgmjajbiddbaa
section
variable {p : Int} {pw : List (List Int)}
def bl : Nat → (Nat → List Int) → List (List Int)
  | 0, _ => []
  | n + 1, B => if B n = [] then bl n B else bl n B ++ [B n]
theorem mem_bl {B : Nat → List Int} {b : List Int} : ∀ {n : Nat}, b ∈ bl n B ↔ ∃ d, d < n ∧ B d = b ∧ b ≠ [] := by
  intro n
  induction n with
  | zero => simp [bl]
  | succ n ih =>
    simp only [bl]
    constructor
    · intro h
      split at h
      · obtain ⟨d, h1, h2⟩ := ih.1 h
        exact ⟨d, by omega, h2⟩
      · rename_i hn
        rcases List.mem_append.1 h with h | h
        · obtain ⟨d, h1, h2⟩ := ih.1 h
          exact ⟨d, by omega, h2⟩
        · rw [List.mem_singleton.1 h]; exact ⟨n, by omega, rfl, hn⟩
    · rintro ⟨d, h1, h2, h3⟩
      by_cases e : d = n
      · subst e
        rw [if_neg (by rw [h2]; exact h3), h2]; simp
      · have := ih.2 ⟨d, by omega, h2, h3⟩
        split
        · exact this
        · exact List.mem_append_left _ this
def BOk (p : Int) (n : Nat) (B : Nat → List Int) : Prop := ∀ d, d < n → B d = [] ∨ (El p n (B d) ∧ dep (B d) = d ∧ (B d).getD d 0 = 1)
def QI (p : Int) (pw : List (List Int)) (B : Nat → List Int) (Q : List (List Int)) : Prop := ∀ b ∈ bl pw.length B, Sp p pw (deeper (bl pw.length B) (dep b + 1)) (fun j => p * fn b j) ∨ nf p pw (fun j => p * fn b j) ∈ Q
theorem QI.clo {B : Nat → List Int} (h : QI p pw B []) : Clo p pw (bl pw.length B) := fun b hb => (h b hb).resolve_right (by simp)
structure RI (p : Int) (pw : List (List Int)) (B : Nat → List Int) (x y : List Int) : Prop where
  el : El p pw.length y
  sp : Sp p pw (deeper (bl pw.length B) (dep x)) (fun j => 1 * fn x j + -1 * fn y j)
  le : dep x ≤ dep y
theorem RI.start {B : Nat → List Int} {x : List Int} (hx : El p pw.length x) : RI p pw B x x :=
  ⟨hx, (Sp.sub _).cg (Sp.sub _).zero (.of fun j _ => by omega), Nat.le_refl _⟩
theorem RI.step (t : Tri p pw) {B : Nat → List Int} {x y : List Int} (hB : BOk p pw.length B) (h : RI p pw B x y) (hd : dep y < pw.length) (hne : B (dep y) ≠ []) : RI p pw B x (stepL p pw (B (dep y)) y) ∧ dep y < dep (stepL p pw (B (dep y)) y) := by
  obtain ⟨b1, b2, b3⟩ := (hB _ hd).resolve_left hne
  have hv : (B (dep y)).getD (dep (B (dep y))) 0 = 1 := by rw [b2]; exact b3
  obtain ⟨g1, g2⟩ := stepL_get t h.el (by rw [b2]; exact hd) hv
  rw [b2] at g1 g2
  have hel := stepL_el t (B (dep y)) y
  have hdd : dep y + 1 ≤ dep (stepL p pw (B (dep y)) y) := dep_ge (by rw [hel.len]; omega) (fun j hj => by
    by_cases e : j = dep y
    · rw [e]; exact g2
    · rw [g1 j (by omega)]; exact dep_zero (by omega))
  refine ⟨⟨hel, ?_, by have := h.le; omega⟩, by omega⟩
  have h2 : Sp p pw (deeper (bl pw.length B) (dep x)) (fn (B (dep y))) := .gen (mem_deeper.2 ⟨mem_bl.2 ⟨_, hd, rfl, hne⟩, by have := h.le; omega⟩)
  have h3 : Cg p pw (fun j => 1 * fn y j + -1 * fn (stepL p pw (B (dep y)) y) j) (fun j => y.getD (dep (B (dep y))) 0 * fn (B (dep y)) j) := by
    refine ((Cg.refl (fn y)).comb 1 (-1) (nf_fn t (fun j => 1 * y.getD j 0 + -(y.getD (dep (B (dep y))) 0) * (B (dep y)).getD j 0))).trans (.of fun j _ => ?_)
    simp only [fn, Int.neg_mul]; omega
  exact (Sp.sub _).cg ((Sp.sub _).add h.sp ((Sp.sub _).cg ((Sp.sub _).mul _ h2) h3)) (.of fun j _ => by omega)
end
end Go.Proofs.Ytkmgmjajbiddbaa
namespace Go.Proofs.Ytkmgmjajbiddbaa
open Nat (reduceAdd reduceSub reduceGT reduceEqDiff reduceMul)
def CpR (nx nx' : Nat) (H H' : HP) (r : AV) (a : List (List Int)) : Prop := (∃ id, r = .h id 0 a.length ∧ nx ≤ id ∧ id < nx' ∧ H' = upd H id (some (a.map ints))) ∨ (a.length = 0 ∧ r = .v 0 [] ∧ H' = H)
def bcell (b : List Int) : AV := if b = [] then .nl else ints b
def bls (n : Nat) (B : Nat → List Int) : List AV := (List.range n).map fun d => bcell (B d)
theorem bls_len {n : Nat} {B : Nat → List Int} : (bls n B).length = n := by simp [bls]
theorem bls_get {n : Nat} {B : Nat → List Int} {d : Nat} (h : d < n) : (bls n B).getD d .j = bcell (B d) := by simp [bls, h]
theorem bls_set {n : Nat} {B : Nat → List Int} {d : Nat} {z : List Int} (h : d < n) (hz : 0 < z.length) : splice (bls n B) d [AV.v z.length (z.map (.i .i64))] = bls n (fun i => if i = d then z else B i) := by
  have hzn : z ≠ [] := by rintro rfl; simp at hz
  rw [splice_one _ _ _ (by rw [bls_len]; exact h)]
  apply List.ext_getElem?
  intro i
  rw [List.getElem?_set]
  by_cases hi : d = i
  · subst hi; simp [bls, h, bcell, hzn, ints]
  · simp only [hi, if_false, bls, List.getElem?_map]
    by_cases hn : i < n
    · simp [hn, Ne.symm hi]
    · simp [hn]
theorem nilop_bc {b : List Int} {k : AV → Prop} : nilop env .neq 27 (bcell b) .nl k = k (.b (tf (b ≠ []))) := by
  unfold bcell
  by_cases h : b = []
  · rw [if_pos h, tf_f (by simp [h])]
    simp only [nilop]
    simp only [bop, go_sem]
    try simp
  · rw [if_neg h, tf_t h]
    simp only [nilop, ints]
    refine propext ⟨fun hh => hh.2.f, fun hh => ⟨⟨_, _, rfl, rfl⟩, ⟨fun h0 => absurd (List.length_eq_zero_iff.1 h0) h, hh⟩⟩⟩
attribute [go_sem high] nilop_bc
attribute [go_sem] bls_len bls_get bls_set
end Go.Proofs.Ytkmgmjajbiddbaa
