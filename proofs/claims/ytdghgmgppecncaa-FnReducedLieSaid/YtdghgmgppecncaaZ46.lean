import Derived.Test.YtdghgmgppecncaaZ45
set_option linter.unusedVariables false
set_option linter.unusedSimpArgs false
namespace Go.Proofs.Ytdghgmgppecncaa
theorem nodup_le : ∀ {l1 l2 : List Nat}, l1.Nodup → (∀ x ∈ l1, x ∈ l2) → l1.length ≤ l2.length := by
  intro l1
  induction l1 with
  | nil => intro l2 _ _; simp
  | cons x l1 ih =>
    intro l2 h hs
    obtain ⟨h1, h2⟩ := List.nodup_cons.1 h
    have hx := hs x (by simp)
    have h3 := ih (l2 := l2.erase x) h2 (fun y hy => (List.mem_erase_of_ne (fun e => h1 (by rw [← e]; exact hy))).2 (hs y (by simp [hy])))
    rw [List.length_erase_of_mem hx] at h3
    have := List.length_pos_of_mem hx
    simp only [List.length_cons]; omega
theorem nodup_all {l1 l2 : List Nat} (h : l1.Nodup) (hs : ∀ x ∈ l1, x ∈ l2) (hl : l2.length ≤ l1.length) : ∀ x ∈ l2, x ∈ l1 := by
  intro x hx
  apply Classical.byContradiction
  intro hn
  have h3 := nodup_le (l2 := l2.erase x) h (fun y hy => (List.mem_erase_of_ne (fun e => hn (by rw [← e]; exact hy))).2 (hs y hy))
  rw [List.length_erase_of_mem hx] at h3
  have := List.length_pos_of_mem hx
  omega
section
variable {p : Int} {pw : List (List Int)}
theorem Ech.nodup {n : Nat} {u : List (List Int)} (h : Ech p n u) : (u.map dep).Nodup := by
  refine List.pairwise_iff_getElem.2 fun i j hi hj hij => ?_
  have := h.asc i j hij (by simpa using hj)
  rw [List.length_map] at hi hj
  simp only [List.getD_eq_getElem?_getD, List.getElem?_eq_getElem hi, List.getElem?_eq_getElem hj, Option.getD_some] at this
  simp only [List.getElem_map]
  omega
theorem can_deps {S S' : (Nat → Int) → Prop} {u v : List (List Int)} (hu : Can p pw S u) (hv : Can p pw S' v) (h : ∀ f, S f → S' f) : ∀ x ∈ u.map dep, x ∈ v.map dep := by
  intro x hx
  obtain ⟨b, hb, rfl⟩ := List.mem_map.1 hx
  obtain ⟨c, hc, he⟩ := hv.all b (hu.el b hb) (h _ (hu.mem b hb)) (hu.lt b hb)
  exact List.mem_map.2 ⟨c, hc, he⟩
theorem can_le {S S' : (Nat → Int) → Prop} {u v : List (List Int)} (hu : Can p pw S u) (hv : Can p pw S' v) (h : ∀ f, S f → S' f) : u.length ≤ v.length := by
  have := nodup_le hu.nodup (can_deps hu hv h)
  simpa using this
theorem can_same (t : Tri p pw) {S S' : (Nat → Int) → Prop} (hS : Sub p pw S) (hS' : Sub p pw S') {u v : List (List Int)} (hu : Can p pw S u) (hv : Can p pw S' v) (h : ∀ f, S f → S' f) (hl : v.length ≤ u.length) : v = u := by
  have hd := nodup_all hu.nodup (can_deps hu hv h) (by simpa using hl)
  have hSS : S = S' := by
    funext f
    refine propext ⟨h f, fun hf => ?_⟩
    have hx := nf_el t f
    have hfx : S' (fn (nf p pw f)) := hS'.cg hf (nf_fn t f)
    have hre := redL_el t u hx
    have h1 := (redL_sp t (d := 0) (u := u) (x := nf p pw f) (fun b hb => ⟨hu.lt b hb, hu.one b hb⟩) hx (fun j hj => by omega)).1
    have h2 : S (fun j => 1 * fn (nf p pw f) j + -1 * fn (redL p pw u (nf p pw f)) j) := h1 S hS (fun b hb => hu.mem b (mem_deeper.1 hb).1)
    have h3 : S' (fn (redL p pw u (nf p pw f))) := hS'.cg (hS'.comb 1 (-1) hfx (h _ h2)) (.of fun j _ => by omega)
    have hz : zeros (redL p pw u (nf p pw f)) := by
      refine dep_all.1 ?_
      rcases Nat.lt_or_ge (dep (redL p pw u (nf p pw f))) pw.length with hd2 | hd2
      · obtain ⟨c, hc, hcd⟩ := hv.all _ hre h3 hd2
        obtain ⟨b, hb, hbd⟩ := List.mem_map.1 (hd (dep c) (List.mem_map.2 ⟨c, hc, rfl⟩))
        have h4 := redL_zero t hu.toEch hx b hb
        rw [hbd, hcd] at h4
        exact absurd h4 (dep_nz (by rw [hre.len]; exact hd2))
      · have := dep_le (redL p pw u (nf p pw f))
        rw [hre.len] at this ⊢; omega
    have h5 : S (fn (nf p pw f)) := hS.cg h2 (.of fun j hj => by have := hz j (by rw [hre.len]; exact hj); simp only [fn] at this ⊢; rw [this]; omega)
    exact hS.cg h5 (nf_fn t f).symm
  subst hSS
  exact can_uniq t hS hv hu
end
section
variable {p : Int} {pw : List (List Int)}
def CanU (p : Int) (pw : List (List Int)) (u : List (List Int)) : Prop := Can p pw (Sp p pw u) u
theorem app_el {n : Nat} {u v : List (List Int)} (hu : ∀ b ∈ u, El p n b) (hv : ∀ b ∈ v, El p n b) : ∀ b ∈ u ++ v, El p n b := by
  intro b hb
  rcases List.mem_append.1 hb with hb | hb
  · exact hu b hb
  · exact hv b hb
theorem spanU (t : Tri p pw) (hp : pr4 p) {G : List (List Int)} (h : ∀ b ∈ G, El p pw.length b) : CanU p pw (spanL p pw G) := by
  unfold CanU
  rw [span_sp t hp h]; exact span_can t hp h
theorem spanL_sp (t : Tri p pw) (hp : pr4 p) {G G' : List (List Int)} (h : ∀ b ∈ G, El p pw.length b) (h' : ∀ b ∈ G', El p pw.length b) (he : Sp p pw G = Sp p pw G') : spanL p pw G = spanL p pw G' := by
  have h1 := span_can t hp h
  rw [he] at h1
  exact can_uniq t (Sp.sub _) h1 (span_can t hp h')
end
end Go.Proofs.Ytdghgmgppecncaa
