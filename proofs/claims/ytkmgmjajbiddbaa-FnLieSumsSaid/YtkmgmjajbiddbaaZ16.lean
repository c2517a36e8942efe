import Derived.Test.YtkmgmjajbiddbaaZ15
set_option linter.unusedVariables false
set_option linter.unusedSimpArgs false
namespace Go.Proofs.Ytkmgmjajbiddbaa
def dep : List Int → Nat
  | [] => 0
  | x :: xs => if x = 0 then dep xs + 1 else 0
theorem dep_le : ∀ a : List Int, dep a ≤ a.length := by
  intro a
  induction a with
  | nil => exact Nat.le_refl _
  | cons x xs ih => simp only [dep, List.length_cons]; split <;> omega
theorem dep_zero : ∀ {a : List Int} {j : Nat}, j < dep a → a.getD j 0 = 0 := by
  intro a
  induction a with
  | nil => intro j h; simp [dep] at h
  | cons x xs ih =>
    intro j h
    simp only [dep] at h
    split at h
    · rename_i hx
      cases j with
      | zero => simp [hx]
      | succ j => simpa using ih (j := j) (by omega)
    · omega
theorem dep_nz : ∀ {a : List Int}, dep a < a.length → a.getD (dep a) 0 ≠ 0 := by
  intro a
  induction a with
  | nil => intro h; simp at h
  | cons x xs ih =>
    intro h
    simp only [dep, List.length_cons] at h ⊢
    split
    · rename_i hx
      rw [if_pos hx] at h
      simpa using ih (by omega)
    · rename_i hx; simpa using hx
theorem dep_eq {a : List Int} {d : Nat} (hd : d ≤ a.length) (h0 : ∀ j, j < d → a.getD j 0 = 0) (h1 : d < a.length → a.getD d 0 ≠ 0) : dep a = d := by
  rcases Nat.lt_trichotomy (dep a) d with h | h | h
  · exact absurd (h0 _ h) (dep_nz (by omega))
  · exact h
  · have := dep_le a
    exact absurd (dep_zero h) (h1 (by omega))
theorem dep_all {a : List Int} : dep a = a.length ↔ zeros a := by
  constructor
  · intro h j hj; exact dep_zero (by omega)
  · intro h; exact dep_eq (Nat.le_refl _) h (fun h => by omega)
def fn (a : List Int) : Nat → Int := fun j => a.getD j 0
theorem list_eq {n : Nat} {a b : List Int} (ha : a.length = n) (hb : b.length = n) (h : ∀ j, j < n → a.getD j 0 = b.getD j 0) : a = b := by
  apply List.ext_getElem?
  intro i
  by_cases hi : i < n
  · have := h i hi
    simp only [List.getD_eq_getElem?_getD, List.getElem?_eq_getElem (show i < a.length by omega), List.getElem?_eq_getElem (show i < b.length by omega), Option.getD_some] at this
    rw [List.getElem?_eq_getElem (by omega), List.getElem?_eq_getElem (by omega), this]
  · rw [List.getElem?_eq_none (by omega), List.getElem?_eq_none (by omega)]
section
variable {p : Int} {pw : List (List Int)}
structure Sub (p : Int) (pw : List (List Int)) (S : (Nat → Int) → Prop) : Prop where
  cg : ∀ {f g}, S f → Cg p pw g f → S g
  zero : S (fun _ => 0)
  comb : ∀ {f g} (k m : Int), S f → S g → S (fun j => k * f j + m * g j)
theorem Sub.mul {S : (Nat → Int) → Prop} (s : Sub p pw S) {f : Nat → Int} (k : Int) (h : S f) : S (fun j => k * f j) :=
  s.cg (s.comb k 0 h s.zero) (.of fun j _ => by simp)
theorem Sub.add {S : (Nat → Int) → Prop} (s : Sub p pw S) {f g : Nat → Int} (hf : S f) (hg : S g) : S (fun j => f j + g j) :=
  s.cg (s.comb 1 1 hf hg) (.of fun j _ => by simp)
def Sp (p : Int) (pw : List (List Int)) (G : List (List Int)) (f : Nat → Int) : Prop := ∀ S, Sub p pw S → (∀ b ∈ G, S (fn b)) → S f
theorem Sp.sub (G : List (List Int)) : Sub p pw (Sp p pw G) :=
  ⟨fun h hc S hS hG => hS.cg (h S hS hG) hc, fun S hS _ => hS.zero, fun k m h1 h2 S hS hG => hS.comb k m (h1 S hS hG) (h2 S hS hG)⟩
theorem Sp.gen {G : List (List Int)} {b : List Int} (h : b ∈ G) : Sp p pw G (fn b) := fun S _ hG => hG b h
theorem Sp.le {G G' : List (List Int)} (h : ∀ b ∈ G, Sp p pw G' (fn b)) {f : Nat → Int} (hf : Sp p pw G f) : Sp p pw G' f := hf _ (Sp.sub G') h
theorem Sp.mono {G G' : List (List Int)} (h : ∀ b ∈ G, b ∈ G') {f : Nat → Int} (hf : Sp p pw G f) : Sp p pw G' f := hf.le fun b hb => .gen (h b hb)
theorem Sp.eqv {G G' : List (List Int)} (h : ∀ b ∈ G, Sp p pw G' (fn b)) (h' : ∀ b ∈ G', Sp p pw G (fn b)) : Sp p pw G = Sp p pw G' := by
  funext f; exact propext ⟨fun hf => hf.le h, fun hf => hf.le h'⟩
def Van (p : Int) (pw : List (List Int)) (s : Nat) (f : Nat → Int) : Prop := ∃ g, Cg p pw f g ∧ ∀ j, j < s → g j = 0
theorem Van.sub (s : Nat) : Sub p pw (Van p pw s) := by
  refine ⟨fun ⟨g, h1, h2⟩ hc => ⟨g, hc.trans h1, h2⟩, ⟨_, .refl _, fun _ _ => rfl⟩, ?_⟩
  rintro f g k m ⟨f', h1, h2⟩ ⟨g', h3, h4⟩
  exact ⟨_, h1.comb k m h3, fun j hj => by simp [h2 j hj, h4 j hj]⟩
theorem Van.all {f : Nat → Int} (h : Van p pw pw.length f) : Cg p pw f (fun _ => 0) := by
  obtain ⟨g, h1, h2⟩ := h
  exact h1.trans (.of fun j hj => h2 j hj)
theorem Van.of {s : Nat} {f : Nat → Int} (h : ∀ j, j < s → f j = 0) : Van p pw s f := ⟨f, .refl _, h⟩
theorem Van.le {s s' : Nat} {f : Nat → Int} (h : Van p pw s f) (hs : s' ≤ s) : Van p pw s' f := by
  obtain ⟨g, h1, h2⟩ := h
  exact ⟨g, h1, fun j hj => h2 j (by omega)⟩
theorem Van.up (t : Tri p pw) {s : Nat} {f : Nat → Int} (h : Van p pw s f) : Van p pw (s + 1) (fun j => p * f j) := by
  obtain ⟨g, h1, h2⟩ := h
  refine ⟨fun j => if j < pw.length then rsum pw.length (fun i => g i * (pw.getD i []).getD j 0) else 0, ?_, ?_⟩
  · have h3 : Cg p pw (fun j => p * f j) (fun j => p * g j) := (h1.comb p 0 (.refl (fun _ => 0))).ext (fun j _ => by simp) (fun j _ => by simp)
    refine h3.trans ⟨g, fun j hj => ?_⟩
    dsimp only
    rw [if_pos hj]
  · intro j hj
    dsimp only
    split
    · rename_i hjn
      rw [rsum_ext (G := fun _ => 0) (fun i hi => ?_), rsum_zero]
      by_cases hij : i < s
      · rw [h2 i hij]; simp
      · rw [t.tri i j hi (by omega)]; simp
    · rfl
theorem nrm_van (t : Tri p pw) {s : Nat} {g : Nat → Int} (h : ∀ j, j < s → g j = 0) : ∀ i, i ≤ pw.length → (∀ j, j < s → nrm p pw i g j = 0) ∧ (s < pw.length → nrm p pw i g s = if s < i then g s % p else g s) := by
  intro i
  induction i with
  | zero => intro _; exact ⟨h, fun _ => by simp [nrm]⟩
  | succ i ih =>
    intro hi
    obtain ⟨h1, h2⟩ := ih (by omega)
    refine ⟨fun j hj => ?_, fun hs => ?_⟩
    · rw [nrm, nst]
      by_cases e : j = i
      · subst e; rw [if_pos rfl, h1 j hj]; simp
      · rw [if_neg e, h1 j hj]
        by_cases hij : i < s
        · rw [h1 i hij]; simp
        · rw [t.tri i j (by omega) (by omega)]; simp
    · rw [nrm, nst]
      by_cases e : s = i
      · subst e; rw [if_pos rfl, h2 hs, if_neg (by omega), if_pos (by omega)]
      · rw [if_neg e, h2 hs]
        by_cases hij : i < s
        · rw [h1 i hij, if_neg (by omega), if_neg (by omega)]; simp
        · rw [t.tri i s (by omega) (by omega), if_pos (by omega), if_pos (by omega)]; simp
theorem nf_van (t : Tri p pw) {s : Nat} {g : Nat → Int} (h : ∀ j, j < s → g j = 0) : (∀ j, j < s → (nf p pw g).getD j 0 = 0) ∧ (s < pw.length → (nf p pw g).getD s 0 = g s % p) := by
  obtain ⟨h1, h2⟩ := nrm_van t h pw.length (Nat.le_refl _)
  refine ⟨fun j hj => ?_, fun hs => ?_⟩
  · by_cases hn : j < pw.length
    · rw [nf, vec_get hn]; exact h1 j hj
    · rw [List.getD_eq_getElem?_getD, List.getElem?_eq_none (by rw [nf, vec_len]; omega)]; rfl
  · rw [nf, vec_get hs, h2 hs, if_pos hs]
theorem nf_len {f : Nat → Int} : (nf p pw f).length = pw.length := vec_len
theorem nf_dep (t : Tri p pw) {s : Nat} {g : Nat → Int} (h : ∀ j, j < s → g j = 0) (hs : s < pw.length) (h1 : g s % p ≠ 0) : dep (nf p pw g) = s := by
  obtain ⟨h2, h3⟩ := nf_van t h
  exact dep_eq (by rw [nf_len]; omega) h2 (fun _ => by rw [h3 hs]; exact h1)
theorem El.self (t : Tri p pw) {a : List Int} (h : El p pw.length a) {f : Nat → Int} (hc : Cg p pw (fn a) f) : a = nf p pw f := by
  have h1 := nf_box t (f := fn a) (fun j hj => h.rng j hj) hc
  rw [← h1, ← h.len]
  exact vec_of a
theorem nf_fn (t : Tri p pw) (f : Nat → Int) : Cg p pw (fn (nf p pw f)) f := nf_get t f
theorem El.uniq (t : Tri p pw) {a b : List Int} (ha : El p pw.length a) (hb : El p pw.length b) (hc : Cg p pw (fn a) (fn b)) : a = b :=
  list_eq ha.len hb.len (Cg.eq t hc (fun j hj => ha.rng j hj) (fun j hj => hb.rng j hj))
theorem unit_back (t : Tri p pw) {i l m : Int} (hi : i * l = 1 + m * p) : ∀ d s, d + s = pw.length → ∀ f : Nat → Int, Van p pw s f → ∃ k : Int, Cg p pw f (fun j => k * (i * f j)) := by
  intro d
  induction d with
  | zero =>
    intro s hs f hf
    have hs' : s = pw.length := by omega
    subst hs'
    exact ⟨0, hf.all.trans (.of fun j _ => by simp)⟩
  | succ d ih =>
    intro s hs f hf
    obtain ⟨k, hk⟩ := ih (s + 1) (by omega) _ (hf.up t)
    refine ⟨l - m * k * p, ?_⟩
    have h1 : Cg p pw f (fun j => 1 * (i * l * f j) + (-m) * (p * f j)) := .of fun j _ => by
      rw [hi, Int.add_mul, Int.neg_mul, Int.mul_assoc]; omega
    refine h1.trans (((Cg.refl _).comb 1 (-m) hk).trans (.of fun j _ => ?_))
    rw [Int.sub_mul, Int.one_mul, Int.neg_mul]
    have e1 : i * l * f j = l * (i * f j) := by rw [Int.mul_comm i l, Int.mul_assoc]
    have e2 : m * (k * (i * (p * f j))) = m * k * p * (i * f j) := by
      rw [Int.mul_assoc (m * k), Int.mul_assoc m k, Int.mul_left_comm i p]
    rw [e1, e2]; omega
structure Fam (p : Int) (n : Nat) (u : List (List Int)) : Prop where
  el : ∀ b ∈ u, El p n b
  lt : ∀ b ∈ u, dep b < n
  one : ∀ b ∈ u, b.getD (dep b) 0 = 1
  dif : ∀ b ∈ u, ∀ c ∈ u, dep b = dep c → b = c
def deeper (u : List (List Int)) (s : Nat) : List (List Int) := u.filter fun b => decide (s ≤ dep b)
theorem mem_deeper {u : List (List Int)} {s : Nat} {b : List Int} : b ∈ deeper u s ↔ b ∈ u ∧ s ≤ dep b := by simp [deeper]
def Clo (p : Int) (pw : List (List Int)) (u : List (List Int)) : Prop := ∀ b ∈ u, Sp p pw (deeper u (dep b + 1)) (fun j => p * fn b j)
theorem deep_van {u : List (List Int)} {s : Nat} {f : Nat → Int} (h : Sp p pw (deeper u s) f) : Van p pw s f :=
  h _ (Van.sub s) fun b hb => .of fun j hj => dep_zero (by have := (mem_deeper.1 hb).2; omega)
theorem fam_form (t : Tri p pw) {u : List (List Int)} (hu : Fam p pw.length u) (hc : Clo p pw u) : ∀ d s, d + s = pw.length → ∀ f, Sp p pw (deeper u s) f →
    Cg p pw f (fun _ => 0) ∨ ∃ b ∈ u, ∃ r : Int, 1 ≤ r ∧ r < p ∧ ∃ g, Cg p pw f g ∧ (∀ j, j < dep b → g j = 0) ∧ g (dep b) = r := by
  intro d
  induction d with
  | zero =>
    intro s hs f hf
    have hs' : s = pw.length := by omega
    subst hs'
    exact .inl (deep_van hf).all
  | succ d ih =>
    intro s hs f hf
    by_cases hex : ∃ b ∈ u, dep b = s
    · obtain ⟨b, hb, hbs⟩ := hex
      -- f is c b and something deeper
      have hT : Sub p pw (fun f => ∃ (c : Int) (g : Nat → Int), Sp p pw (deeper u (s + 1)) g ∧ Cg p pw f (fun j => c * fn b j + g j)) := by
        refine ⟨?_, ?_, ?_⟩
        · rintro f g ⟨c, q, h1, h2⟩ h3
          exact ⟨c, q, h1, h3.trans h2⟩
        · exact ⟨0, _, (Sp.sub _).zero, .of fun j _ => by simp⟩
        · rintro f g k m ⟨c, q, h1, h2⟩ ⟨c', q', h1', h2'⟩
          refine ⟨k * c + m * c', _, (Sp.sub _).comb k m h1 h1', (h2.comb k m h2').trans (.of fun j _ => ?_)⟩
          rw [Int.mul_add, Int.mul_add, Int.add_mul, Int.mul_assoc, Int.mul_assoc]; omega
      obtain ⟨c, g, h1, h2⟩ := hf _ hT (fun x hx => by
        obtain ⟨hx1, hx2⟩ := mem_deeper.1 hx
        by_cases e : dep x = s
        · have : x = b := hu.dif x hx1 b hb (by omega)
          subst this
          exact ⟨1, _, (Sp.sub _).zero, .of fun j _ => by simp⟩
        · exact ⟨0, _, .gen (mem_deeper.2 ⟨hx1, by omega⟩), .of fun j _ => by simp⟩)
      have hp := t.p2
      have h3 := Int.emod_nonneg c (show p ≠ 0 by omega)
      have h4 := Int.emod_lt_of_pos c (show 0 < p by omega)
      have h5 := Int.emod_add_mul_ediv c p
      have hclo := hc b hb
      rw [hbs] at hclo
      have h6 : Sp p pw (deeper u (s + 1)) (fun j => c / p * (p * fn b j) + 1 * g j) := (Sp.sub _).comb _ _ hclo h1
      have h7 : Cg p pw f (fun j => c % p * fn b j + (c / p * (p * fn b j) + 1 * g j)) := h2.trans (.of fun j _ => by
        have : c * fn b j = c % p * fn b j + c / p * (p * fn b j) := by
          rw [← Int.mul_assoc, ← Int.add_mul, Int.mul_comm (c / p) p, h5]
        omega)
      by_cases hr : c % p = 0
      · exact (ih (s + 1) (by omega) _ h6).imp (fun h => (h7.trans (.of fun j _ => by rw [hr]; simp)).trans h)
          (fun ⟨b', hb', r, q1, q2, g', q3, q4, q5⟩ => ⟨b', hb', r, q1, q2, g', (h7.trans (.of fun j _ => by rw [hr]; simp)).trans q3, q4, q5⟩)
      · obtain ⟨v, h8, h9⟩ := deep_van h6
        refine .inr ⟨b, hb, c % p, by omega, h4, fun j => c % p * fn b j + 1 * v j, h7.trans (((Cg.refl (fn b)).comb (c % p) 1 h8).ext (fun j _ => by simp) (fun j _ => rfl)), ?_, ?_⟩
        · intro j hj
          simp only [fn]
          rw [dep_zero hj, h9 j (by omega)]; simp
        · have h10 : fn b (dep b) = 1 := hu.one b hb
          show c % p * fn b (dep b) + 1 * v (dep b) = c % p
          rw [h10, h9 (dep b) (by omega)]; simp
    · refine ih (s + 1) (by omega) f (hf.mono fun x hx => ?_)
      obtain ⟨hx1, hx2⟩ := mem_deeper.1 hx
      exact mem_deeper.2 ⟨hx1, by
        rcases Nat.lt_or_ge s (dep x) with h | h
        · exact h
        · exact absurd ⟨x, hx1, by omega⟩ hex⟩
theorem fam_dep (t : Tri p pw) {u : List (List Int)} (hu : Fam p pw.length u) (hc : Clo p pw u) {x : List Int} (hx : El p pw.length x) (hs : Sp p pw u (fn x)) (hd : dep x < pw.length) : ∃ b ∈ u, dep b = dep x := by
  have h0 : Sp p pw (deeper u 0) (fn x) := hs.mono fun b hb => mem_deeper.2 ⟨hb, Nat.zero_le _⟩
  rcases fam_form t hu hc pw.length 0 rfl _ h0 with h | ⟨b, hb, r, h1, h2, g, h3, h4, h5⟩
  · have h1 := El.self t hx h
    obtain ⟨h2, h3⟩ := nf_van t (s := pw.length) (g := fun _ => 0) (fun _ _ => rfl)
    rw [← h1] at h2
    exact absurd (h2 _ hd) (dep_nz (by rw [hx.len]; exact hd))
  · refine ⟨b, hb, ?_⟩
    have h6 := El.self t hx h3
    rw [h6]
    exact (nf_dep t h4 (hu.lt b hb) (by rw [h5, Int.emod_eq_of_lt (by omega) h2]; omega)).symm
structure Ech (p : Int) (n : Nat) (u : List (List Int)) : Prop extends Fam p n u where
  asc : ∀ k l, k < l → l < u.length → dep (u.getD k []) < dep (u.getD l [])
structure Can (p : Int) (pw : List (List Int)) (S : (Nat → Int) → Prop) (u : List (List Int)) : Prop extends Ech p pw.length u where
  mem : ∀ b ∈ u, S (fn b)
  red : ∀ b ∈ u, ∀ c ∈ u, b ≠ c → b.getD (dep c) 0 = 0
  all : ∀ x, El p pw.length x → S (fn x) → dep x < pw.length → ∃ b ∈ u, dep b = dep x
theorem mem_ix {α : Type} {u : List α} {d x : α} (h : x ∈ u) : ∃ k, k < u.length ∧ u.getD k d = x := by
  obtain ⟨k, h1, h2⟩ := List.mem_iff_getElem.1 h
  exact ⟨k, h1, by simp [h1, h2]⟩
theorem ix_mem {α : Type} {u : List α} {d : α} {k : Nat} (h : k < u.length) : u.getD k d ∈ u := by simp [h]
theorem can_dep {S : (Nat → Int) → Prop} {u v : List (List Int)} (hu : Can p pw S u) (hv : Can p pw S v) : ∀ k, k < u.length → k < v.length ∧ dep (u.getD k []) = dep (v.getD k []) := by
  have go : ∀ {u v : List (List Int)}, Can p pw S u → Can p pw S v → ∀ k, k < u.length → ∃ l, l < v.length ∧ dep (v.getD l []) = dep (u.getD k []) := by
    intro u v hu hv k hk
    have hm := ix_mem (d := []) hk
    obtain ⟨b, hb, h2⟩ := hv.all _ (hu.el _ hm) (hu.mem _ hm) (hu.lt _ hm)
    obtain ⟨l, hl, rfl⟩ := mem_ix (d := []) hb
    exact ⟨l, hl, h2⟩
  intro k
  induction k using Nat.strongRecOn with
  | _ k ih =>
    intro hk
    obtain ⟨l, hl, h1⟩ := go hu hv k hk
    rcases Nat.lt_trichotomy l k with h | h | h
    · have h2 := (ih l h (by omega)).2
      have h3 := hu.asc l k h hk
      omega
    · subst h; exact ⟨hl, h1.symm⟩
    · obtain ⟨m, hm, h2⟩ := go hv hu k (by omega)
      have h3 := hv.asc k l h hl
      rcases Nat.lt_trichotomy m k with hmk | hmk | hmk
      · have h4 := ih m hmk hm
        have h5 := hv.asc m k hmk (by omega)
        omega
      · subst hmk; omega
      · have := hu.asc k m hmk hm; omega
theorem can_uniq (t : Tri p pw) {S : (Nat → Int) → Prop} (hS : Sub p pw S) {u v : List (List Int)} (hu : Can p pw S u) (hv : Can p pw S v) : u = v := by
  have hlen : u.length = v.length := by
    have h1 : ∀ k, k < u.length → k < v.length := fun k hk => (can_dep hu hv k hk).1
    have h2 : ∀ k, k < v.length → k < u.length := fun k hk => (can_dep hv hu k hk).1
    rcases Nat.lt_trichotomy u.length v.length with h | h | h
    · have := h2 _ h; omega
    · exact h
    · have := h1 _ h; omega
  have hrow : ∀ k, k < u.length → u.getD k [] = v.getD k [] := by
    intro k hk
    have hmu := ix_mem (d := []) hk
    have hmv : v.getD k [] ∈ v := ix_mem (by omega)
    have hdk := (can_dep hu hv k hk).2
    obtain ⟨a, ha⟩ : ∃ a, u.getD k [] = a := ⟨_, rfl⟩
    obtain ⟨b, hb⟩ : ∃ b, v.getD k [] = b := ⟨_, rfl⟩
    rw [ha, hb] at hdk ⊢
    rw [ha] at hmu
    rw [hb] at hmv
    have ea := hu.el a hmu
    have eb := hv.el b hmv
    apply Classical.byContradiction
    intro hne
    obtain ⟨D, hD⟩ : ∃ D : List Int, vec pw.length (fun j => a.getD j 0 - b.getD j 0) = D := ⟨_, rfl⟩
    have hDl : D.length = pw.length := by rw [← hD]; exact vec_len
    have hDg : ∀ j, j < pw.length → D.getD j 0 = a.getD j 0 - b.getD j 0 := fun j hj => by rw [← hD]; exact vec_get hj
    have hd0 : dep D < pw.length := by
      have := dep_le D
      rcases Nat.lt_or_ge (dep D) pw.length with h | h
      · exact h
      · refine absurd (list_eq ea.len eb.len (fun j hj => ?_)) hne
        have h1 := dep_zero (a := D) (j := j) (by omega)
        rw [hDg j hj] at h1; omega
    have hnz := dep_nz (a := D) (by omega)
    have h0 : ∀ j, j < dep D → (fn a j + -1 * fn b j) = 0 := fun j hj => by
      have h1 := dep_zero (a := D) hj
      rw [hDg j (by omega)] at h1
      simp only [fn]; omega
    have hx : S (fn (nf p pw (fun j => 1 * fn a j + -1 * fn b j))) := hS.cg (hS.comb 1 (-1) (hu.mem a hmu) (hv.mem b hmv)) (nf_fn t _)
    have hdx : dep (nf p pw (fun j => 1 * fn a j + -1 * fn b j)) = dep D := by
      refine nf_dep t (fun j hj => by have := h0 j hj; omega) hd0 ?_
      rw [hDg _ hd0] at hnz
      have r1 := ea.rng (dep D) hd0
      have r2 := eb.rng (dep D) hd0
      have hp := t.p2
      simp only [fn]
      intro he
      obtain ⟨q, hq⟩ := Int.dvd_of_emod_eq_zero he
      have : q = 0 := by
        rcases Int.lt_trichotomy q 0 with h | h | h
        · have : p * q ≤ p * (-1) := Int.mul_le_mul_of_nonneg_left (by omega) (by omega)
          omega
        · exact h
        · have : p * 1 ≤ p * q := Int.mul_le_mul_of_nonneg_left (by omega) (by omega)
          omega
      rw [this, Int.mul_zero] at hq
      omega
    obtain ⟨c, hc, hcd⟩ := hu.all _ (nf_el t _) hx (by rw [hdx]; exact hd0)
    rw [hdx] at hcd
    rw [hDg _ hd0] at hnz
    by_cases e : c = a
    · subst e
      have h1 := hu.one c hmu
      have h2 := hv.one b hmv
      rw [← hdk] at h2
      rw [hcd] at h1 h2
      omega
    · have h1 := hu.red a hmu c hc (fun h => e h.symm)
      obtain ⟨l, hl, rfl⟩ := mem_ix (d := []) hc
      have hdl := (can_dep hu hv l hl).2
      have hlk : l ≠ k := by rintro rfl; exact e ha
      have hml : v.getD l [] ∈ v := ix_mem (by omega)
      have hbl : b ≠ v.getD l [] := by
        intro h
        have : dep b = dep (v.getD l []) := by rw [h]
        rw [← hb] at this
        rcases Nat.lt_or_gt_of_ne hlk with q | q
        · have := hv.asc l k q (by omega); omega
        · have := hv.asc k l q (by omega); omega
      have h2 := hv.red b hmv _ hml hbl
      rw [← hdl, hcd] at h2
      rw [hcd] at h1
      omega
  apply List.ext_getElem?
  intro i
  by_cases hi : i < u.length
  · have := hrow i hi
    simp only [List.getD_eq_getElem?_getD, List.getElem?_eq_getElem hi, List.getElem?_eq_getElem (show i < v.length by omega), Option.getD_some] at this
    rw [List.getElem?_eq_getElem hi, List.getElem?_eq_getElem (by omega), this]
  · rw [List.getElem?_eq_none (by omega), List.getElem?_eq_none (by omega)]
noncomputable def spanL (p : Int) (pw : List (List Int)) (G : List (List Int)) : List (List Int) := Classical.epsilon (Can p pw (Sp p pw G))
theorem spanL_eq (t : Tri p pw) {G u : List (List Int)} (h : Can p pw (Sp p pw G) u) : spanL p pw G = u :=
  can_uniq t (Sp.sub G) (Classical.epsilon_spec ⟨u, h⟩) h
def stepL (p : Int) (pw : List (List Int)) (v x : List Int) : List Int := nf p pw (fun j => 1 * x.getD j 0 + -(x.getD (dep v) 0) * v.getD j 0)
def redL (p : Int) (pw : List (List Int)) : List (List Int) → List Int → List Int
  | [], x => x
  | v :: u, x => redL p pw u (stepL p pw v x)
theorem stepL_el (t : Tri p pw) (v x : List Int) : El p pw.length (stepL p pw v x) := nf_el t _
theorem redL_el (t : Tri p pw) : ∀ (u : List (List Int)) {x : List Int}, El p pw.length x → El p pw.length (redL p pw u x) := by
  intro u
  induction u with
  | nil => intro x h; exact h
  | cons v u ih => intro x h; exact ih (stepL_el t v x)
theorem stepL_id (t : Tri p pw) {v x : List Int} (hx : El p pw.length x) (h : x.getD (dep v) 0 = 0) : stepL p pw v x = x :=
  (El.self t hx (.of fun j _ => by simp only [fn]; rw [h]; simp)).symm
theorem stepL_get (t : Tri p pw) {v x : List Int} (hx : El p pw.length x) (hv : dep v < pw.length) (h1 : v.getD (dep v) 0 = 1) : (∀ j, j < dep v → (stepL p pw v x).getD j 0 = x.getD j 0) ∧ (stepL p pw v x).getD (dep v) 0 = 0 := by
  have key : ∀ s, s ≤ dep v → ∀ i, i ≤ pw.length → (∀ j, j < s → nrm p pw i (fun j => 1 * x.getD j 0 + -(x.getD (dep v) 0) * v.getD j 0) j = x.getD j 0) := by
    intro s hs i
    induction i with
    | zero =>
      intro _ j hj
      simp only [nrm]
      rw [dep_zero (a := v) (by omega)]; simp
    | succ i ih =>
      intro hi j hj
      have h2 := ih (by omega)
      rw [nrm, nst]
      by_cases e : j = i
      · subst e
        rw [if_pos rfl, h2 j hj]
        have := hx.rng j (by omega)
        exact Int.emod_eq_of_lt (by omega) (by omega)
      · rw [if_neg e, h2 j hj]
        by_cases hij : i < s
        · rw [h2 i hij]
          have := hx.rng i (by omega)
          rw [Int.ediv_eq_zero_of_lt (by omega) (by omega)]; simp
        · rw [t.tri i j (by omega) (by omega)]; simp
  have key2 : ∀ i, i ≤ pw.length → nrm p pw i (fun j => 1 * x.getD j 0 + -(x.getD (dep v) 0) * v.getD j 0) (dep v) = 0 := by
    intro i
    induction i with
    | zero => intro _; simp only [nrm]; rw [h1]; omega
    | succ i ih =>
      intro hi
      have h2 := ih (by omega)
      rw [nrm, nst]
      by_cases e : dep v = i
      · rw [if_pos e]
        rw [e] at h2 ⊢
        rw [h2]; simp
      · rw [if_neg e, h2]
        by_cases hij : i < dep v
        · rw [key (dep v) (Nat.le_refl _) i (by omega) i hij]
          have := hx.rng i (by omega)
          rw [Int.ediv_eq_zero_of_lt (by omega) (by omega)]; simp
        · rw [t.tri i (dep v) (by omega) (by omega)]; simp
  refine ⟨fun j hj => ?_, ?_⟩
  · rw [stepL, nf, vec_get (by omega)]; exact key (dep v) (Nat.le_refl _) _ (Nat.le_refl _) j hj
  · rw [stepL, nf, vec_get hv]; exact key2 _ (Nat.le_refl _)
theorem redL_keep (t : Tri p pw) : ∀ {u : List (List Int)} {x : List Int}, (∀ b ∈ u, dep b < pw.length ∧ b.getD (dep b) 0 = 1) → El p pw.length x → ∀ j, (∀ b ∈ u, j < dep b) → (redL p pw u x).getD j 0 = x.getD j 0 := by
  intro u
  induction u with
  | nil => intro x _ _ j _; rfl
  | cons v u ih =>
    intro x hu hx j hj
    have h1 := hu v (by simp)
    rw [redL, ih (fun b hb => hu b (by simp [hb])) (stepL_el t v x) j (fun b hb => hj b (by simp [hb]))]
    exact (stepL_get t hx h1.1 h1.2).1 j (hj v (by simp))
theorem Ech.tail {n : Nat} {v : List Int} {u : List (List Int)} (h : Ech p n (v :: u)) : Ech p n u ∧ ∀ b ∈ u, dep v < dep b := by
  refine ⟨⟨⟨fun b hb => h.el b (by simp [hb]), fun b hb => h.lt b (by simp [hb]), fun b hb => h.one b (by simp [hb]), fun b hb c hc => h.dif b (by simp [hb]) c (by simp [hc])⟩, ?_⟩, ?_⟩
  · intro k l hkl hl
    have := h.asc (k + 1) (l + 1) (by omega) (by simpa using hl)
    simpa using this
  · intro b hb
    obtain ⟨k, hk, rfl⟩ := mem_ix (d := []) hb
    have := h.asc 0 (k + 1) (by omega) (by simpa using hk)
    simpa using this
theorem redL_zero (t : Tri p pw) : ∀ {u : List (List Int)} {x : List Int}, Ech p pw.length u → El p pw.length x → ∀ b ∈ u, (redL p pw u x).getD (dep b) 0 = 0 := by
  intro u
  induction u with
  | nil => intro x _ _ b hb; cases hb
  | cons v u ih =>
    intro x hu hx b hb
    obtain ⟨h1, h2⟩ := hu.tail
    rw [redL]
    rcases List.mem_cons.1 hb with rfl | hb
    · rw [redL_keep t (fun c hc => ⟨h1.lt c hc, h1.one c hc⟩) (stepL_el t b x) (dep b) h2]
      exact (stepL_get t hx (hu.lt b (by simp)) (hu.one b (by simp))).2
    · exact ih h1 (stepL_el t v x) b hb
theorem redL_sp (t : Tri p pw) {d : Nat} : ∀ {u : List (List Int)} {x : List Int}, (∀ b ∈ u, dep b < pw.length ∧ b.getD (dep b) 0 = 1) → El p pw.length x → (∀ j, j < d → x.getD j 0 = 0) →
    Sp p pw (deeper u d) (fun j => 1 * fn x j + -1 * fn (redL p pw u x) j) ∧ ∀ j, j < d → (redL p pw u x).getD j 0 = 0 := by
  intro u
  induction u with
  | nil => intro x _ _ h; exact ⟨(Sp.sub _).cg (Sp.sub _).zero (.of fun j _ => by simp only [redL]; omega), h⟩
  | cons v u ih =>
    intro x hu hx h
    have h1 := hu v (by simp)
    have hstep : (∀ j, j < d → (stepL p pw v x).getD j 0 = 0) ∧ Sp p pw (deeper (v :: u) d) (fun j => 1 * fn x j + -1 * fn (stepL p pw v x) j) := by
      by_cases hvd : dep v < d
      · rw [stepL_id t hx (h _ hvd)]
        exact ⟨h, (Sp.sub _).cg (Sp.sub _).zero (.of fun j _ => by omega)⟩
      · refine ⟨fun j hj => by rw [(stepL_get t hx h1.1 h1.2).1 j (by omega)]; exact h j hj, ?_⟩
        refine (Sp.sub _).cg ((Sp.sub _).mul (x.getD (dep v) 0) (.gen (b := v) (mem_deeper.2 ⟨by simp, by omega⟩))) ?_
        refine ((Cg.refl (fn x)).comb 1 (-1) (nf_fn t (fun j => 1 * x.getD j 0 + -(x.getD (dep v) 0) * v.getD j 0))).trans (.of fun j _ => ?_)
        simp only [fn, Int.neg_mul]; omega
    obtain ⟨h2, h3⟩ := ih (fun b hb => hu b (by simp [hb])) (stepL_el t v x) hstep.1
    refine ⟨?_, h3⟩
    have h4 : Sp p pw (deeper (v :: u) d) (fun j => 1 * fn (stepL p pw v x) j + -1 * fn (redL p pw u (stepL p pw v x)) j) := h2.mono fun b hb => by
      obtain ⟨q1, q2⟩ := mem_deeper.1 hb
      exact mem_deeper.2 ⟨by simp [q1], q2⟩
    exact (Sp.sub _).cg ((Sp.sub _).add hstep.2 h4) (.of fun j _ => by rw [redL]; omega)
theorem can_of (t : Tri p pw) {u w : List (List Int)} (hu : Ech p pw.length u) (hc : Clo p pw u) (hl : w.length = u.length) (hel : ∀ k, k < u.length → El p pw.length (w.getD k []))
    (hkeep : ∀ k, k < u.length → ∀ j, j ≤ dep (u.getD k []) → (w.getD k []).getD j 0 = (u.getD k []).getD j 0)
    (hz : ∀ k l, k < l → l < u.length → (w.getD k []).getD (dep (u.getD l [])) 0 = 0) (hm : ∀ k, k < u.length → Sp p pw u (fn (w.getD k []))) : Can p pw (Sp p pw u) w := by
  have hd : ∀ k, k < u.length → dep (w.getD k []) = dep (u.getD k []) := by
    intro k hk
    have hmu := ix_mem (d := []) hk
    have h1 := hu.lt _ hmu
    refine dep_eq (by rw [(hel k hk).len]; omega) (fun j hj => by rw [hkeep k hk j (by omega)]; exact dep_zero hj) (fun _ => ?_)
    rw [hkeep k hk _ (Nat.le_refl _), hu.one _ hmu]; omega
  have hin : ∀ {b : List Int}, b ∈ w → ∃ k, k < u.length ∧ w.getD k [] = b := fun hb => by
    obtain ⟨k, h1, h2⟩ := mem_ix (d := []) hb
    exact ⟨k, by omega, h2⟩
  have hasc : ∀ k l, k < l → l < w.length → dep (w.getD k []) < dep (w.getD l []) := fun k l h1 h2 => by
    rw [hd k (by omega), hd l (by omega)]; exact hu.asc k l h1 (by omega)
  refine ⟨⟨⟨?_, ?_, ?_, ?_⟩, hasc⟩, ?_, ?_, ?_⟩
  · intro b hb; obtain ⟨k, hk, rfl⟩ := hin hb; exact hel k hk
  · intro b hb; obtain ⟨k, hk, rfl⟩ := hin hb; rw [hd k hk]; exact hu.lt _ (ix_mem hk)
  · intro b hb; obtain ⟨k, hk, rfl⟩ := hin hb
    rw [hd k hk, hkeep k hk _ (Nat.le_refl _)]; exact hu.one _ (ix_mem hk)
  · intro b hb c hc' he
    obtain ⟨k, hk, rfl⟩ := hin hb
    obtain ⟨l, hl', rfl⟩ := hin hc'
    rcases Nat.lt_trichotomy k l with h | h | h
    · have := hasc k l h (by omega); omega
    · rw [h]
    · have := hasc l k h (by omega); omega
  · intro b hb; obtain ⟨k, hk, rfl⟩ := hin hb; exact hm k hk
  · intro b hb c hc' hne
    obtain ⟨k, hk, rfl⟩ := hin hb
    obtain ⟨l, hl', rfl⟩ := hin hc'
    rcases Nat.lt_trichotomy k l with h | h | h
    · rw [hd l hl']; exact hz k l h hl'
    · rw [h] at hne; exact absurd rfl hne
    · exact dep_zero (hasc l k h (by omega))
  · intro x hx hs hdx
    obtain ⟨b, hb, h1⟩ := fam_dep t hu.toFam hc hx hs hdx
    obtain ⟨k, hk, rfl⟩ := mem_ix (d := []) hb
    exact ⟨w.getD k [], ix_mem (by omega), by rw [hd k hk, h1]⟩
end
end Go.Proofs.Ytkmgmjajbiddbaa
