import Derived.Test.YtkmgmjajbiddbaaZ14
set_option linter.unusedVariables false
set_option linter.unusedSimpArgs false
namespace Go.Proofs.Ytkmgmjajbiddbaa
def rsum : Nat → (Nat → Int) → Int
  | 0, _ => 0
  | n + 1, F => rsum n F + F n
theorem rsum_ext {F G : Nat → Int} : ∀ {n : Nat}, (∀ i, i < n → F i = G i) → rsum n F = rsum n G := by
  intro n
  induction n with
  | zero => intro _; rfl
  | succ n ih => intro h; rw [rsum, rsum, ih (fun i hi => h i (by omega)), h n (by omega)]
theorem rsum_add (F G : Nat → Int) : ∀ n, rsum n (fun i => F i + G i) = rsum n F + rsum n G := by
  intro n
  induction n with
  | zero => rfl
  | succ n ih => rw [rsum, rsum, rsum, ih]; omega
theorem rsum_mul (c : Int) (F : Nat → Int) : ∀ n, rsum n (fun i => c * F i) = c * rsum n F := by
  intro n
  induction n with
  | zero => simp [rsum]
  | succ n ih => rw [rsum, rsum, ih, Int.mul_add]
theorem rsum_zero : ∀ n, rsum n (fun _ => 0) = 0 := by
  intro n
  induction n with
  | zero => rfl
  | succ n ih => rw [rsum, ih]; rfl
theorem rsum_one {F : Nat → Int} {k : Nat} : ∀ {n : Nat}, k < n → (∀ i, i < n → i ≠ k → F i = 0) → rsum n F = F k := by
  intro n
  induction n with
  | zero => intro h; omega
  | succ n ih =>
    intro hk h
    rw [rsum]
    by_cases e : k = n
    · subst e
      rw [rsum_ext (G := fun _ => 0) (fun i hi => h i (by omega) (by omega)), rsum_zero]; omega
    · rw [ih (by omega) (fun i hi => h i (by omega)), h n (by omega) (by omega)]; omega
theorem rsum_bd {F : Nat → Int} {C : Int} : ∀ {n : Nat}, (∀ i, i < n → -C ≤ F i ∧ F i ≤ C) → -(n * C) ≤ rsum n F ∧ rsum n F ≤ n * C := by
  intro n
  induction n with
  | zero => intro _; simp [rsum]
  | succ n ih =>
    intro h
    have h1 := ih (fun i hi => h i (by omega))
    have h2 := h n (by omega)
    have h3 : ((n + 1 : Nat) : Int) * C = n * C + C := by rw [Int.natCast_add, Int.add_mul]; simp
    rw [rsum, h3]; omega
def Cg (p : Int) (pw : List (List Int)) (f g : Nat → Int) : Prop := ∃ c : Nat → Int, ∀ j, j < pw.length → f j - g j = p * c j - rsum pw.length (fun i => c i * (pw.getD i []).getD j 0)
theorem Cg.of {p : Int} {pw : List (List Int)} {f g : Nat → Int} (h : ∀ j, j < pw.length → f j = g j) : Cg p pw f g :=
  ⟨fun _ => 0, fun j hj => by simp [h j hj, rsum_zero]⟩
theorem Cg.refl {p : Int} {pw : List (List Int)} (f : Nat → Int) : Cg p pw f f := .of fun _ _ => rfl
theorem Cg.comb {p : Int} {pw : List (List Int)} {f g f' g' : Nat → Int} (k m : Int) (h : Cg p pw f g) (h' : Cg p pw f' g') : Cg p pw (fun j => k * f j + m * f' j) (fun j => k * g j + m * g' j) := by
  obtain ⟨c, hc⟩ := h
  obtain ⟨c', hc'⟩ := h'
  refine ⟨fun i => k * c i + m * c' i, fun j hj => ?_⟩
  have h1 := hc j hj
  have h2 := hc' j hj
  have h3 : rsum pw.length (fun i => (k * c i + m * c' i) * (pw.getD i []).getD j 0) = k * rsum pw.length (fun i => c i * (pw.getD i []).getD j 0) + m * rsum pw.length (fun i => c' i * (pw.getD i []).getD j 0) := by
    rw [← rsum_mul, ← rsum_mul, ← rsum_add]
    refine rsum_ext (fun i _ => ?_)
    rw [Int.add_mul, Int.mul_assoc, Int.mul_assoc]
  rw [h3]
  have h4 : k * (f j - g j) = k * (p * c j) - k * rsum pw.length (fun i => c i * (pw.getD i []).getD j 0) := by rw [h1, Int.mul_sub]
  have h5 : m * (f' j - g' j) = m * (p * c' j) - m * rsum pw.length (fun i => c' i * (pw.getD i []).getD j 0) := by rw [h2, Int.mul_sub]
  rw [Int.mul_sub] at h4 h5
  have h6 : p * (k * c j + m * c' j) = k * (p * c j) + m * (p * c' j) := by
    rw [Int.mul_add, Int.mul_left_comm, Int.mul_left_comm p m]
  rw [h6]; dsimp only; omega
theorem Cg.trans {p : Int} {pw : List (List Int)} {f g h : Nat → Int} (a : Cg p pw f g) (b : Cg p pw g h) : Cg p pw f h := by
  obtain ⟨c, hc⟩ := a
  obtain ⟨c', hc'⟩ := b
  refine ⟨fun i => c i + c' i, fun j hj => ?_⟩
  have h1 := hc j hj
  have h2 := hc' j hj
  have h3 : rsum pw.length (fun i => (c i + c' i) * (pw.getD i []).getD j 0) = rsum pw.length (fun i => c i * (pw.getD i []).getD j 0) + rsum pw.length (fun i => c' i * (pw.getD i []).getD j 0) := by
    rw [← rsum_add]
    exact rsum_ext (fun i _ => Int.add_mul _ _ _)
  rw [h3, Int.mul_add]; omega
theorem Cg.symm {p : Int} {pw : List (List Int)} {f g : Nat → Int} (a : Cg p pw f g) : Cg p pw g f := by
  obtain ⟨c, hc⟩ := a
  refine ⟨fun i => (-1) * c i, fun j hj => ?_⟩
  have h1 := hc j hj
  have h3 : rsum pw.length (fun i => (-1) * c i * (pw.getD i []).getD j 0) = (-1) * rsum pw.length (fun i => c i * (pw.getD i []).getD j 0) := by
    rw [← rsum_mul]
    exact rsum_ext (fun i _ => Int.mul_assoc _ _ _)
  have h4 : p * (-1 * c j) = -(p * c j) := by rw [Int.mul_left_comm]; omega
  rw [h3, h4]; omega
theorem Cg.ext {p : Int} {pw : List (List Int)} {f g f' g' : Nat → Int} (a : Cg p pw f g) (h : ∀ j, j < pw.length → f j = f' j) (h' : ∀ j, j < pw.length → g j = g' j) : Cg p pw f' g' :=
  (Cg.of (fun j hj => (h j hj).symm)).trans (a.trans (.of h'))
theorem nst_cg {p : Int} {pw : List (List Int)} (t : Tri p pw) {i : Nat} (hi : i < pw.length) (f : Nat → Int) : Cg p pw (nst p pw i f) f := by
  refine ⟨fun k => if k = i then -(f i / p) else 0, fun j hj => ?_⟩
  have h1 : rsum pw.length (fun k => (if k = i then -(f i / p) else 0) * (pw.getD k []).getD j 0) = -(f i / p) * (pw.getD i []).getD j 0 := by
    rw [rsum_one (k := i) hi (fun k hk hne => by simp [hne])]
    simp
  rw [h1]
  unfold nst
  have h3 := Int.emod_add_mul_ediv (f i) p
  rw [Int.neg_mul]
  by_cases h : j = i
  · subst h
    rw [t.tri j j hi (Nat.le_refl _)]
    simp only [if_true, Int.mul_neg, Int.mul_zero]; omega
  · simp only [h, if_false]; omega
theorem nrm_cg {p : Int} {pw : List (List Int)} (t : Tri p pw) (f : Nat → Int) : ∀ i, i ≤ pw.length → Cg p pw (nrm p pw i f) f := by
  intro i
  induction i with
  | zero => intro _; exact .refl _
  | succ i ih => intro hi; exact (nst_cg t (by omega) _).trans (ih (by omega))
def Box (p : Int) (n : Nat) (f : Nat → Int) : Prop := ∀ j, j < n → 0 ≤ f j ∧ f j ≤ p - 1
theorem nrm_box' {p : Int} {pw : List (List Int)} (t : Tri p pw) (f : Nat → Int) : ∀ i, i ≤ pw.length → ∀ j, j < i → 0 ≤ nrm p pw i f j ∧ nrm p pw i f j ≤ p - 1 := by
  intro i
  induction i with
  | zero => intro _ j hj; omega
  | succ i ih =>
    intro hi j hj
    rw [nrm, nst]
    have hp := t.p2
    have h5 := Int.emod_nonneg (nrm p pw i f i) (show p ≠ 0 by omega)
    have h6 := Int.emod_lt_of_pos (nrm p pw i f i) (show 0 < p by omega)
    split
    · omega
    · rw [t.tri i j (by omega) (by omega)]
      have := ih (by omega) j (by omega)
      simpa using this
theorem nrm_box {p : Int} {pw : List (List Int)} (t : Tri p pw) (f : Nat → Int) : Box p pw.length (nrm p pw pw.length f) := nrm_box' t f _ (Nat.le_refl _)
theorem Cg.eq {p : Int} {pw : List (List Int)} (t : Tri p pw) {f g : Nat → Int} (h : Cg p pw f g) (hf : Box p pw.length f) (hg : Box p pw.length g) : ∀ j, j < pw.length → f j = g j := by
  obtain ⟨c, hc⟩ := h
  have hp := t.p2
  have key : ∀ j, j < pw.length → c j = 0 := by
    intro j
    induction j using Nat.strongRecOn with
    | _ j ih =>
      intro hj
      have h1 := hc j hj
      have h2 : rsum pw.length (fun i => c i * (pw.getD i []).getD j 0) = 0 := by
        rw [rsum_ext (G := fun _ => 0) (fun i hi => ?_), rsum_zero]
        by_cases hij : i < j
        · rw [ih i hij hi]; simp
        · rw [t.tri i j hi (by omega)]; simp
      rw [h2] at h1
      have h3 := hf j hj
      have h4 := hg j hj
      apply Classical.byContradiction
      intro hne
      rcases Int.lt_or_gt_of_ne hne with hlt | hgt
      · have : p * c j ≤ p * (-1) := Int.mul_le_mul_of_nonneg_left (by omega) (by omega)
        omega
      · have : p * 1 ≤ p * c j := Int.mul_le_mul_of_nonneg_left (by omega) (by omega)
        omega
  intro j hj
  have h1 := hc j hj
  rw [key j hj, rsum_ext (G := fun _ => 0) (fun i hi => by rw [key i hi]; simp), rsum_zero] at h1
  omega
def nf (p : Int) (pw : List (List Int)) (f : Nat → Int) : List Int := vec pw.length (nrm p pw pw.length f)
theorem nf_eq {p : Int} {pw : List (List Int)} (t : Tri p pw) {f g : Nat → Int} (h : Cg p pw f g) : nf p pw f = nf p pw g :=
  vec_ext (Cg.eq t (((nrm_cg t f _ (Nat.le_refl _)).trans h).trans (nrm_cg t g _ (Nat.le_refl _)).symm) (nrm_box t f) (nrm_box t g))
theorem nf_box {p : Int} {pw : List (List Int)} (t : Tri p pw) {f g : Nat → Int} (hf : Box p pw.length f) (h : Cg p pw f g) : vec pw.length f = nf p pw g :=
  vec_ext (Cg.eq t (h.trans (nrm_cg t g _ (Nat.le_refl _)).symm) hf (nrm_box t g))
structure El (p : Int) (n : Nat) (a : List Int) : Prop where
  len : a.length = n
  rng : ∀ j, j < n → 0 ≤ a.getD j 0 ∧ a.getD j 0 ≤ p - 1
theorem isEl.el {p : Int} {n : Nat} {a : List Int} (h : isEl p n a) : El p n a := ⟨by have := h.1; omega, fun j hj => h.2 j (by have := h.1; omega)⟩
theorem El.is {p : Int} {n : Nat} {a : List Int} (h : El p n a) : isEl p n a := ⟨by rw [h.len], fun j hj => h.rng j (by rw [← h.len]; exact hj)⟩
theorem nf_el {p : Int} {pw : List (List Int)} (t : Tri p pw) (f : Nat → Int) : El p pw.length (nf p pw f) :=
  ⟨vec_len, fun j hj => by rw [nf, vec_get hj]; exact nrm_box t f j hj⟩
theorem nf_get {p : Int} {pw : List (List Int)} (t : Tri p pw) (f : Nat → Int) : Cg p pw (fun j => (nf p pw f).getD j 0) f :=
  (nrm_cg t f _ (Nat.le_refl _)).ext (fun j hj => by rw [nf, vec_get hj]) (fun _ _ => rfl)
theorem nf_ext {p : Int} {pw : List (List Int)} (t : Tri p pw) {f g : Nat → Int} (h : ∀ j, j < pw.length → f j = g j) : nf p pw f = nf p pw g := nf_eq t (.of h)
end Go.Proofs.Ytkmgmjajbiddbaa
