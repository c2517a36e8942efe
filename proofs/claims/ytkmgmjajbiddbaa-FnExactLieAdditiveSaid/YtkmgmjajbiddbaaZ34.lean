import Derived.Test.YtkmgmjajbiddbaaZ33
set_option linter.unusedVariables false
set_option linter.unusedSimpArgs false
namespace Go.Proofs.Ytkmgmjajbiddbaa
theorem nodup_le : ∀ {l1 l2 : List Nat}, l1.Nodup → (∀ x ∈ l1, x ∈ l2) → l1.length ≤ l2.length := by
  intro l1
  induction l1 with
  | nil => intro l2 _ _; simp
  | cons x l1 ih =>
    intro l2 h hs
    obtain ⟨h1, h2⟩ := List.nodup_cons.1 h
    have hx := hs x (by simp)
    have h3 := ih (l2 := l2.erase x) h2 (fun y hy => (List.mem_erase_of_ne (fun e => h1 (by rw [← e]; exact hy))).2 (hs y (by simp [hy])))
    rw [List.length_erase_of_mem hx] at h3
    have := List.length_pos_of_mem hx
    simp only [List.length_cons]; omega
section
variable {p : Int} {pw : List (List Int)}
theorem Ech.nodup {n : Nat} {u : List (List Int)} (h : Ech p n u) : (u.map dep).Nodup := by
  refine List.pairwise_iff_getElem.2 fun i j hi hj hij => ?_
  have := h.asc i j hij (by simpa using hj)
  rw [List.length_map] at hi hj
  simp only [List.getD_eq_getElem?_getD, List.getElem?_eq_getElem hi, List.getElem?_eq_getElem hj, Option.getD_some] at this
  simp only [List.getElem_map]
  omega
theorem can_deps {S S' : (Nat → Int) → Prop} {u v : List (List Int)} (hu : Can p pw S u) (hv : Can p pw S' v) (h : ∀ f, S f → S' f) : ∀ x ∈ u.map dep, x ∈ v.map dep := by
  intro x hx
  obtain ⟨b, hb, rfl⟩ := List.mem_map.1 hx
  obtain ⟨c, hc, he⟩ := hv.all b (hu.el b hb) (h _ (hu.mem b hb)) (hu.lt b hb)
  exact List.mem_map.2 ⟨c, hc, he⟩
theorem can_le {S S' : (Nat → Int) → Prop} {u v : List (List Int)} (hu : Can p pw S u) (hv : Can p pw S' v) (h : ∀ f, S f → S' f) : u.length ≤ v.length := by
  have := nodup_le hu.nodup (can_deps hu hv h)
  simpa using this
end
section
variable {p : Int} {pw : List (List Int)}
def CanU (p : Int) (pw : List (List Int)) (u : List (List Int)) : Prop := Can p pw (Sp p pw u) u
theorem spanU (t : Tri p pw) (hp : pr4 p) {G : List (List Int)} (h : ∀ b ∈ G, El p pw.length b) : CanU p pw (spanL p pw G) := by
  unfold CanU
  rw [span_sp t hp h]; exact span_can t hp h
end
end Go.Proofs.Ytkmgmjajbiddbaa
