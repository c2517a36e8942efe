/-
  Plain law: brackets lie deeper; a subgroup that is its own bracket with the ring is zero.
-/
import Derived.Test.YtbhlindlcfeppaaSy
set_option linter.unusedVariables false
set_option linter.unusedSimpArgs false
namespace Go.Proofs.Ytbhlindlcfeppaa

section
variable {p : Int} {pw : List (List Int)} {br : List (List (List Int))}
theorem el_van (t : Tri p pw) {x : List Int} (hx : El p pw.length x) {s : Nat} (h : Van p pw s (fn x)) : ∀ j, j < s → x.getD j 0 = 0 := by
  obtain ⟨g, hg, hz⟩ := h
  intro j hj
  rcases Nat.lt_or_ge j pw.length with hjn | hjn
  · have h1 : vec pw.length (fn x) = nf p pw g := nf_box t (fun k hk => hx.rng k hk) hg
    have h2 := (nf_van t hz).1 j hj
    rw [← h1, vec_get hjn] at h2
    exact h2
  · rw [List.getD_eq_getElem?_getD, List.getElem?_eq_none (by rw [hx.len]; omega)]; rfl
theorem brk_van (h : shapeP p pw br) {a b : List Int} {s : Nat} (ha : ∀ j, j < s → a.getD j 0 = 0) (hb : ∀ j, j < s → b.getD j 0 = 0 ∨ True) : Van p pw (s + 1) (fn (brkL p pw br a b)) := by
  refine (Van.sub (s + 1)).cg (Van.of (f := fun q => bsum a b br pw.length q) fun q hq => ?_) (nf_fn h.tri _)
  have key : ∀ i, i < pw.length → brow a b (br.getD i []) i (br.getD i []).length q = 0 := by
    intro i hi
    obtain ⟨h1, h2, h3, h4⟩ := h.2.2.2.2 i hi
    have : brow a b (br.getD i []) i (br.getD i []).length q = rsum (br.getD i []).length (fun _ => 0) := rsum_ext fun r hr => by
      by_cases hc : q ≤ i + 1 + r
      · rw [(h4 r hr).2 q hc, Int.mul_zero]
      · have e1 := ha i (by omega)
        have e2 := ha (i + 1 + r) (by omega)
        simp only [brc]
        rw [e1, e2]; simp
    rw [this, rsum_zero]
  have : bsum a b br pw.length q = rsum pw.length (fun _ => 0) := rsum_ext fun i hi => key i hi
  show bsum a b br pw.length q = 0
  rw [this, rsum_zero]
def CanQ (p : Int) (pw u : List (List Int)) : Prop := Ech p pw.length u
/-- The next member of the lower central series. -/
noncomputable def lowS (p : Int) (pw : List (List Int)) (br : List (List (List Int))) (u : List (List Int)) : List (List Int) := spanL p pw (brkLL p pw br u (wholeL pw.length))
theorem low_step (h : shapeP p pw br) {u : List (List Int)} {s : Nat} (hu : ∀ b ∈ u, ∀ j, j < s → b.getD j 0 = 0) : ∀ b ∈ lowS p pw br u, ∀ j, j < s + 1 → b.getD j 0 = 0 := by
  intro b hb
  have hc := span_can h.tri h.1 (brkLL_el h.sh (u := u) (v := wholeL pw.length))
  refine el_van h.tri (hc.el b hb) (hc.mem b hb _ (Van.sub (s + 1)) fun c hcm => ?_)
  obtain ⟨x, hx, h1⟩ := List.mem_flatMap.1 hcm
  obtain ⟨y, hy, rfl⟩ := List.mem_map.1 h1
  exact brk_van h (hu x hx) (fun _ _ => .inr trivial)
theorem low_fix (h : shapeP p pw br) {u : List (List Int)} {S : (Nat → Int) → Prop} (hc : Can p pw S u) (hf : lowS p pw br u = u) : u = [] := by
  have hz : ∀ s, ∀ b ∈ u, ∀ j, j < s → b.getD j 0 = 0 := by
    intro s
    induction s with
    | zero => intro b _ j hj; omega
    | succ s ih =>
      have := low_step h ih
      rwa [hf] at this
  cases u with
  | nil => rfl
  | cons b u =>
    have h1 := hz (dep b + 1) b (by simp) (dep b) (by omega)
    rw [hc.one b (by simp)] at h1
    cases h1
theorem span_nil (t : Tri p pw) : spanL p pw [] = [] := by
  refine spanL_eq t (⟨Ech.nil, fun b hb => absurd hb (by simp), fun b hb => absurd hb (by simp), fun x hx hs hd => ?_⟩ : Can p pw (Sp p pw []) [])
  have h1 : Van p pw pw.length (fn x) := hs _ (Van.sub _) (fun b hb => absurd hb (by simp))
  have h2 := el_van t hx h1 _ hd
  exact absurd h2 (dep_nz (by rw [hx.len]; exact hd))
theorem low_nil (t : Tri p pw) : lowS p pw br [] = [] := span_nil t
/-- The lower central series from a member on. -/
inductive LowC (p : Int) (pw : List (List Int)) (br : List (List (List Int))) : List (List Int) → List (List (List Int)) → Prop
  | done : LowC p pw br [] [[]]
  | step (u : List (List Int)) (K : List (List (List Int))) (h : u ≠ []) (hc : LowC p pw br (lowS p pw br u) K) : LowC p pw br u (u :: K)
theorem lowC_ex (h : shapeP p pw br) : ∀ (d s : Nat) {u : List (List Int)}, CanQ p pw u → (∀ b ∈ u, ∀ j, j < s → b.getD j 0 = 0) → pw.length - s ≤ d → ∃ K, LowC p pw br u K ∧ K.length ≤ d + 1 := by
  intro d
  induction d with
  | zero =>
    intro s u hu hz hd
    have : u = [] := by
      cases u with
      | nil => rfl
      | cons b u =>
        have h1 := hz b (by simp) (dep b) (by have := Fam.lt (Ech.toFam hu) b (by simp); omega)
        rw [Fam.one (Ech.toFam hu) b (by simp)] at h1
        cases h1
    subst this
    exact ⟨_, .done, by simp⟩
  | succ d ih =>
    intro s u hu hz hd
    by_cases e : u = []
    · subst e; exact ⟨_, .done, by simp⟩
    · have hc := span_can h.tri h.1 (brkLL_el h.sh (u := u) (v := wholeL pw.length))
      obtain ⟨K, h1, h2⟩ := ih (s + 1) (u := lowS p pw br u) (by unfold CanQ; exact hc.toEch) (low_step h hz) (by omega)
      exact ⟨_, .step u K e h1, by simp; omega⟩
end
end Go.Proofs.Ytbhlindlcfeppaa
