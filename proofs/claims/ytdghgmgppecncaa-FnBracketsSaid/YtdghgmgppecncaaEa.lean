/-
  Plain law: in a Lie ring the bracket is additive, zero for equal elements, and satisfies the Jacobi identity.
-/
import Derived.Test.YtdghgmgppecncaaNg
import Derived.Test.YtdghgmgppecncaaSa
set_option linter.unusedVariables false
set_option linter.unusedSimpArgs false
namespace Go.Proofs.Ytdghgmgppecncaa

section
variable {p : Int} {pw : List (List Int)} {br : List (List (List Int))}
theorem rsum_comb (k m : Int) (F G : Nat → Int) (n : Nat) : rsum n (fun i => k * F i + m * G i) = k * rsum n F + m * rsum n G := by rw [rsum_add, rsum_mul, rsum_mul]
/-- The bracket before it is brought to its form. -/
def BS (br : List (List (List Int))) (n : Nat) (f g : Nat → Int) (t : Nat) : Int := rsum n (fun i => rsum (br.getD i []).length (fun r => (f i * g (i + 1 + r) - f (i + 1 + r) * g i) * ((br.getD i []).getD r []).getD t 0))
theorem brkL_BS {a b : List Int} : brkL p pw br a b = nf p pw (BS br pw.length (fn a) (fn b)) := rfl
theorem brk_cg (t : Tri p pw) (a b : List Int) : Cg p pw (fn (brkL p pw br a b)) (BS br pw.length (fn a) (fn b)) := nf_fn t _
theorem BS_lin {n : Nat} (k m : Int) (f f' g : Nat → Int) (t : Nat) : BS br n (fun x => k * f x + m * f' x) g t = k * BS br n f g t + m * BS br n f' g t := by
  unfold BS
  rw [← rsum_comb]
  refine rsum_ext fun i _ => ?_
  rw [← rsum_comb]
  refine rsum_ext fun r _ => ?_
  grind
theorem BS_alt {n : Nat} (f g : Nat → Int) (t : Nat) : BS br n f g t = -1 * BS br n g f t := by
  unfold BS
  rw [← rsum_mul]
  refine rsum_ext fun i _ => ?_
  rw [← rsum_mul]
  refine rsum_ext fun r _ => ?_
  grind
theorem BS_self {n : Nat} (f : Nat → Int) (t : Nat) : BS br n f f t = 0 := by have := BS_alt (br := br) (n := n) f f t; omega
theorem BS_ext (s : Sh p pw br) {f f' g : Nat → Int} (h : ∀ x, x < pw.length → f x = f' x) (t : Nat) : BS br pw.length f g t = BS br pw.length f' g t := by
  unfold BS
  refine rsum_ext fun i hi => ?_
  have := s.rl i hi
  refine rsum_ext fun r hr => ?_
  rw [h i hi, h (i + 1 + r) (by omega)]
theorem BS_ext2 (s : Sh p pw br) {f g g' : Nat → Int} (h : ∀ x, x < pw.length → g x = g' x) (t : Nat) : BS br pw.length f g t = BS br pw.length f g' t := by
  rw [BS_alt, BS_ext s h, ← BS_alt]
def ee (m : Nat) : Nat → Int := fun x => if x = m then 1 else 0
theorem lin_sum {Φ : (Nat → Int) → Int} (h : ∀ (k m : Int) (f f' : Nat → Int), Φ (fun x => k * f x + m * f' x) = k * Φ f + m * Φ f') (c : Nat → Int) (E : Nat → Nat → Int) : ∀ q, Φ (fun x => rsum q (fun m => c m * E m x)) = rsum q (fun m => c m * Φ (E m)) := by
  intro q
  induction q with
  | zero =>
    have := h 0 0 (fun _ => 0) (fun _ => 0)
    simpa [rsum] using this
  | succ q ih =>
    have := h 1 (c q) (fun x => rsum q (fun m => c m * E m x)) (E q)
    simp only [Int.one_mul] at this
    simp only [rsum]
    rw [this, ih]
theorem exp_at {n x : Nat} {f : Nat → Int} (hx : x < n) : rsum n (fun m => f m * ee m x) = f x := by
  rw [rsum_one hx (fun i hi hne => by simp only [ee]; rw [if_neg (fun e => hne e.symm)]; omega)]
  simp [ee]
theorem BS_exp (s : Sh p pw br) (f g : Nat → Int) (t : Nat) : BS br pw.length f g t = rsum pw.length (fun m => f m * BS br pw.length (ee m) g t) := by
  rw [← lin_sum (Φ := fun F => BS br pw.length F g t) (fun k m f f' => BS_lin k m f f' g t)]
  exact BS_ext s (fun x hx => (exp_at hx).symm) t
theorem z_sum {q : Nat} {c : Nat → Int} {F : Nat → Nat → Int} (h : ∀ m, m < q → Cg p pw (F m) (fun _ => 0)) : Cg p pw (fun t => rsum q (fun m => c m * F m t)) (fun _ => 0) := by
  induction q with
  | zero => exact .of fun _ _ => rfl
  | succ q ih => exact ((ih fun m hm => h m (by omega)).comb 1 (c q) (h q (by omega))).ext (fun j _ => by simp only [rsum, Int.one_mul]) (fun j _ => by simp)
theorem unit_fn {n k x : Nat} (hx : x < n) : fn (unitL n k) x = ee k x := by
  simp only [fn, unitL, vec_get hx, ee]

/-- No fault. -/
structure NoF (p : Int) (pw : List (List Int)) (br : List (List (List Int))) : Prop extends Sh p pw br where
  r : ∀ i j, i < pw.length → j < pw.length → ¬pf p pw br i j
  j : ∀ a b c, a < b → b < c → c < pw.length → ¬jf p pw br a b c
theorem LieR.nof (h : LieR p pw br) : NoF p pw br := by
  obtain ⟨h1, h2⟩ := h
  rcases h2 with ⟨a, b, e, _⟩ | ⟨hn, ⟨a, b, c, e, _⟩ | ⟨_, hz⟩⟩
  · simp at e
  · simp at e
  · exact ⟨h1.sh, hn, hz⟩
theorem NoF.rel (h : NoF p pw br) {i k : Nat} (hi : i < pw.length) (hk : k < pw.length) : Cg p pw (fun t => 1 * (p * BS br pw.length (ee i) (ee k) t) + -1 * BS br pw.length (fn (pw.getD i [])) (ee k) t) (fun _ => 0) := by
  have t := h.toTri
  have s := h.toSh
  have h1 : mulL p pw p (brkL p pw br (unitL pw.length i) (unitL pw.length k)) = brkL p pw br (pw.getD i []) (unitL pw.length k) := Classical.byContradiction fun q => h.r i k hi hk q
  have h2 : Cg p pw (fn (mulL p pw p (brkL p pw br (unitL pw.length i) (unitL pw.length k)))) (fun t => p * BS br pw.length (ee i) (ee k) t) := by
    refine (nf_fn t _).trans ?_
    have h3 := (brk_cg (br := br) t (unitL pw.length i) (unitL pw.length k)).comb p 0 (Cg.refl (fun _ => 0))
    refine h3.ext (fun j _ => by simp [fn]) (fun j _ => ?_)
    rw [BS_ext s (fun x hx => unit_fn hx), BS_ext2 s (fun x hx => unit_fn hx)]; simp
  have h4 : Cg p pw (fn (brkL p pw br (pw.getD i []) (unitL pw.length k))) (BS br pw.length (fn (pw.getD i [])) (ee k)) := (brk_cg t _ _).ext (fun _ _ => rfl) (fun j _ => BS_ext2 s (fun x hx => unit_fn hx) j)
  rw [h1] at h2
  exact ((h2.symm.trans h4).comb 1 (-1) (Cg.refl (BS br pw.length (fn (pw.getD i [])) (ee k)))).ext (fun j _ => rfl) (fun j _ => by omega)
theorem NoF.rel2 (h : NoF p pw br) {i : Nat} (hi : i < pw.length) (w : Nat → Int) : Cg p pw (fun t => BS br pw.length (fun x => p * ee i x + -1 * fn (pw.getD i []) x) w t) (fun _ => 0) := by
  have s := h.toSh
  refine (z_sum (c := w) (F := fun k t => 1 * (p * BS br pw.length (ee i) (ee k) t) + -1 * BS br pw.length (fn (pw.getD i [])) (ee k) t) (q := pw.length) fun k hk => h.rel hi hk).ext (fun j _ => ?_) (fun _ _ => rfl)
  rw [BS_alt, BS_exp s w, ← rsum_mul]
  refine rsum_ext fun k _ => ?_
  rw [BS_alt (ee k), BS_lin]
  grind
/-- What differs by relations has brackets that do. -/
theorem NoF.cg (h : NoF p pw br) {f g : Nat → Int} (hc : Cg p pw f g) (w : Nat → Int) : Cg p pw (BS br pw.length f w) (BS br pw.length g w) := by
  have s := h.toSh
  obtain ⟨c, hc⟩ := hc
  have h1 : ∀ t, BS br pw.length (fun x => 1 * f x + -1 * g x) w t = rsum pw.length (fun i => c i * BS br pw.length (fun x => p * ee i x + -1 * fn (pw.getD i []) x) w t) := by
    intro t
    rw [← lin_sum (Φ := fun F => BS br pw.length F w t) (fun k m f f' => BS_lin k m f f' w t)]
    refine BS_ext s (fun x hx => ?_) t
    have e1 := hc x hx
    have e2 : rsum pw.length (fun m => c m * (p * ee m x + -1 * fn (pw.getD m []) x)) = p * rsum pw.length (fun m => c m * ee m x) + -1 * rsum pw.length (fun i => c i * (pw.getD i []).getD x 0) := by
      rw [← rsum_comb]
      refine rsum_ext fun m _ => ?_
      simp only [fn]
      grind
    rw [e2, exp_at hx]
    omega
  have h2 : Cg p pw (fun t => BS br pw.length (fun x => 1 * f x + -1 * g x) w t) (fun _ => 0) := (z_sum (c := c) (q := pw.length) fun i hi => h.rel2 hi w).ext (fun j _ => (h1 j).symm) (fun _ _ => rfl)
  refine (h2.comb 1 1 (Cg.refl (BS br pw.length g w))).ext (fun j _ => ?_) (fun j _ => by omega)
  rw [BS_lin]; omega
theorem NoF.cg2 (h : NoF p pw br) {f g : Nat → Int} (hc : Cg p pw f g) (w : Nat → Int) : Cg p pw (BS br pw.length w f) (BS br pw.length w g) :=
  ((h.cg hc w).comb (-1) 0 (Cg.refl fun _ => 0)).ext (fun j _ => by rw [BS_alt w f]; omega) (fun j _ => by rw [BS_alt w g]; omega)
/-- Brackets of elements. -/
theorem NoF.brk (h : NoF p pw br) {a b : List Int} {f g : Nat → Int} (ha : Cg p pw (fn a) f) (hb : Cg p pw (fn b) g) : Cg p pw (fn (brkL p pw br a b)) (BS br pw.length f g) :=
  (brk_cg h.toTri a b).trans ((h.cg ha _).trans (h.cg2 hb _))

/-- The Jacobi sum. -/
def JS (br : List (List (List Int))) (n : Nat) (f g w : Nat → Int) (t : Nat) : Int := BS br n (BS br n f g) w t + (BS br n (BS br n g w) f t + BS br n (BS br n w f) g t)
theorem JS_rot {n : Nat} (f g w : Nat → Int) (t : Nat) : JS br n f g w t = JS br n g w f t := by unfold JS; omega
theorem JS_lin (s : Sh p pw br) (k m : Int) (f f' g w : Nat → Int) (t : Nat) : JS br pw.length (fun x => k * f x + m * f' x) g w t = k * JS br pw.length f g w t + m * JS br pw.length f' g w t := by
  unfold JS
  have e1 : BS br pw.length (BS br pw.length (fun x => k * f x + m * f' x) g) w t = k * BS br pw.length (BS br pw.length f g) w t + m * BS br pw.length (BS br pw.length f' g) w t := by
    rw [← BS_lin]
    exact BS_ext s (fun x _ => BS_lin k m f f' g x) t
  have e2 : BS br pw.length (BS br pw.length g w) (fun x => k * f x + m * f' x) t = k * BS br pw.length (BS br pw.length g w) f t + m * BS br pw.length (BS br pw.length g w) f' t := by
    rw [BS_alt, BS_lin, BS_alt f, BS_alt f']; grind
  have e3 : BS br pw.length (BS br pw.length w (fun x => k * f x + m * f' x)) g t = k * BS br pw.length (BS br pw.length w f) g t + m * BS br pw.length (BS br pw.length w f') g t := by
    rw [← BS_lin]
    refine BS_ext s (fun x _ => ?_) t
    rw [BS_alt, BS_lin, BS_alt f, BS_alt f']; grind
  rw [e1, e2, e3]; grind
theorem JS_exp (s : Sh p pw br) (f g w : Nat → Int) (t : Nat) : JS br pw.length f g w t = rsum pw.length (fun m => f m * JS br pw.length (ee m) g w t) := by
  rw [← lin_sum (Φ := fun F => JS br pw.length F g w t) (fun k m f f' => JS_lin s k m f f' g w t)]
  have hx : ∀ x, x < pw.length → f x = rsum pw.length (fun m => f m * ee m x) := fun x hx => (exp_at hx).symm
  unfold JS
  rw [BS_ext s (f := BS br pw.length f g) (fun x _ => BS_ext s hx x), BS_ext2 s hx, BS_ext s (f := BS br pw.length w f) (fun x _ => BS_ext2 s hx x)]
theorem JS_swap (s : Sh p pw br) (f g w : Nat → Int) (t : Nat) : JS br pw.length f g w t = -1 * JS br pw.length g f w t := by
  have e : ∀ f g w : Nat → Int, BS br pw.length (BS br pw.length f g) w t = -1 * BS br pw.length (BS br pw.length g f) w t := fun f g w => by
    have := BS_lin (br := br) (n := pw.length) (-1) 0 (BS br pw.length g f) (fun _ => 0) w t
    rw [BS_ext s (f' := fun x => -1 * BS br pw.length g f x + 0 * 0) (fun x _ => by rw [BS_alt]; omega), this]
    omega
  unfold JS
  rw [e f g w, e g w f, e w f g]
  omega
theorem JS_two (s : Sh p pw br) (f w : Nat → Int) (t : Nat) : JS br pw.length f f w t = 0 := by have := JS_swap s f f w t; omega
theorem NoF.jac3 (h : NoF p pw br) {a b c : Nat} (h1 : a < b) (h2 : b < c) (h3 : c < pw.length) : Cg p pw (JS br pw.length (ee a) (ee b) (ee c)) (fun _ => 0) := by
  have t := h.toTri
  have u : ∀ k, Cg p pw (fn (unitL pw.length k)) (ee k) := fun k => .of fun x hx => unit_fn hx
  have hz : zeros (jsum p pw br (unitL pw.length a) (unitL pw.length b) (unitL pw.length c)) := Classical.byContradiction fun q => h.j a b c h1 h2 h3 q
  have e1 := h.brk (h.brk (u a) (u b)) (u c)
  have e2 := h.brk (h.brk (u b) (u c)) (u a)
  have e3 := h.brk (h.brk (u c) (u a)) (u b)
  have e4 := (nf_fn t (fun j => 1 * (brkL p pw br (brkL p pw br (unitL pw.length a) (unitL pw.length b)) (unitL pw.length c)).getD j 0 + 1 * (brkL p pw br (brkL p pw br (unitL pw.length b) (unitL pw.length c)) (unitL pw.length a)).getD j 0)).trans (e1.comb 1 1 e2)
  have e5 := (nf_fn t (fun j => 1 * (mixL p pw 1 (brkL p pw br (brkL p pw br (unitL pw.length a) (unitL pw.length b)) (unitL pw.length c)) 1 (brkL p pw br (brkL p pw br (unitL pw.length b) (unitL pw.length c)) (unitL pw.length a))).getD j 0 + 1 * (brkL p pw br (brkL p pw br (unitL pw.length c) (unitL pw.length a)) (unitL pw.length b)).getD j 0)).trans (e4.comb 1 1 e3)
  have e6 : Cg p pw (fn (jsum p pw br (unitL pw.length a) (unitL pw.length b) (unitL pw.length c))) (fun _ => 0) := .of fun j hj => hz j (by show j < (mixL _ _ _ _ _ _).length; rw [(mix_el t _ _ _ _).len]; exact hj)
  refine (e5.symm.trans e6).ext (fun j _ => ?_) (fun _ _ => rfl)
  simp only [JS, Int.one_mul]
  omega
theorem NoF.jacE (h : NoF p pw br) {a b c : Nat} (ha : a < pw.length) (hb : b < pw.length) (hc : c < pw.length) : Cg p pw (JS br pw.length (ee a) (ee b) (ee c)) (fun _ => 0) := by
  have s := h.toSh
  have rot : ∀ {f g w : Nat → Int}, Cg p pw (JS br pw.length f g w) (fun _ => 0) → Cg p pw (JS br pw.length g w f) (fun _ => 0) := fun q => q.ext (fun j _ => JS_rot _ _ _ j) (fun _ _ => rfl)
  have swp : ∀ {f g w : Nat → Int}, Cg p pw (JS br pw.length f g w) (fun _ => 0) → Cg p pw (JS br pw.length g f w) (fun _ => 0) := fun {f g w} q => (q.comb (-1) 0 (Cg.refl fun _ => 0)).ext (fun j _ => by rw [JS_swap s g f w]; omega) (fun j _ => by simp)
  have two : ∀ (f w : Nat → Int), Cg p pw (JS br pw.length f f w) (fun _ => 0) := fun f w => .of fun j _ => JS_two s f w j
  rcases Nat.lt_trichotomy a b with q1 | rfl | q1
  · rcases Nat.lt_trichotomy b c with q2 | rfl | q2
    · exact h.jac3 q1 q2 hc
    · exact rot (rot (two (ee b) (ee a)))
    · rcases Nat.lt_trichotomy a c with q3 | rfl | q3
      · exact rot (swp (h.jac3 q3 q2 hb))
      · exact rot (two (ee a) (ee b))
      · exact rot (h.jac3 q3 q1 hb)
  · exact two _ _
  · rcases Nat.lt_trichotomy a c with q2 | rfl | q2
    · exact swp (h.jac3 q1 q2 hc)
    · exact rot (two (ee a) (ee b))
    · rcases Nat.lt_trichotomy b c with q3 | rfl | q3
      · exact rot (rot (h.jac3 q3 q2 ha))
      · exact rot (rot (two (ee b) (ee a)))
      · exact rot (rot (swp (h.jac3 q3 q1 ha)))
theorem NoF.jac (h : NoF p pw br) (f g w : Nat → Int) : Cg p pw (JS br pw.length f g w) (fun _ => 0) := by
  have s := h.toSh
  refine (z_sum (c := f) (F := fun a => JS br pw.length (ee a) g w) (q := pw.length) fun a ha => ?_).ext (fun j _ => (JS_exp s f g w j).symm) (fun _ _ => rfl)
  refine (z_sum (c := g) (F := fun b => JS br pw.length (ee b) w (ee a)) (q := pw.length) fun b hb => ?_).ext (fun j _ => ((JS_rot _ _ _ j).trans (JS_exp s g w (ee a) j)).symm) (fun _ _ => rfl)
  refine (z_sum (c := w) (F := fun c => JS br pw.length (ee c) (ee a) (ee b)) (q := pw.length) fun c hc => ?_).ext (fun j _ => ((JS_rot _ _ _ j).trans (JS_exp s w (ee a) (ee b) j)).symm) (fun _ _ => rfl)
  exact h.jacE hc ha hb
end
end Go.Proofs.Ytdghgmgppecncaa
