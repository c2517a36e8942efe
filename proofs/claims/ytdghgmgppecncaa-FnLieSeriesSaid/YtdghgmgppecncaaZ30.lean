import Derived.Test.YtdghgmgppecncaaZ18
import Derived.Test.YtdghgmgppecncaaZ29
set_option linter.unusedVariables false
set_option linter.unusedSimpArgs false
namespace Go.Proofs.Ytdghgmgppecncaa
section
variable {p : Int} {pw : List (List Int)} {br : List (List (List Int))}
theorem rsum_comb (k m : Int) (F G : Nat → Int) (n : Nat) : rsum n (fun i => k * F i + m * G i) = k * rsum n F + m * rsum n G := by rw [rsum_add, rsum_mul, rsum_mul]
def BS (br : List (List (List Int))) (n : Nat) (f g : Nat → Int) (t : Nat) : Int := rsum n (fun i => rsum (br.getD i []).length (fun r => (f i * g (i + 1 + r) - f (i + 1 + r) * g i) * ((br.getD i []).getD r []).getD t 0))
theorem brk_cg (t : Tri p pw) (a b : List Int) : Cg p pw (fn (brkL p pw br a b)) (BS br pw.length (fn a) (fn b)) := nf_fn t _
theorem BS_lin {n : Nat} (k m : Int) (f f' g : Nat → Int) (t : Nat) : BS br n (fun x => k * f x + m * f' x) g t = k * BS br n f g t + m * BS br n f' g t := by
  unfold BS
  rw [← rsum_comb]
  refine rsum_ext fun i _ => ?_
  rw [← rsum_comb]
  refine rsum_ext fun r _ => ?_
  grind
theorem BS_alt {n : Nat} (f g : Nat → Int) (t : Nat) : BS br n f g t = -1 * BS br n g f t := by
  unfold BS
  rw [← rsum_mul]
  refine rsum_ext fun i _ => ?_
  rw [← rsum_mul]
  refine rsum_ext fun r _ => ?_
  grind
theorem BS_ext (s : Sh p pw br) {f f' g : Nat → Int} (h : ∀ x, x < pw.length → f x = f' x) (t : Nat) : BS br pw.length f g t = BS br pw.length f' g t := by
  unfold BS
  refine rsum_ext fun i hi => ?_
  have := s.rl i hi
  refine rsum_ext fun r hr => ?_
  rw [h i hi, h (i + 1 + r) (by omega)]
theorem BS_ext2 (s : Sh p pw br) {f g g' : Nat → Int} (h : ∀ x, x < pw.length → g x = g' x) (t : Nat) : BS br pw.length f g t = BS br pw.length f g' t := by
  rw [BS_alt, BS_ext s h, ← BS_alt]
def ee (m : Nat) : Nat → Int := fun x => if x = m then 1 else 0
theorem lin_sum {Φ : (Nat → Int) → Int} (h : ∀ (k m : Int) (f f' : Nat → Int), Φ (fun x => k * f x + m * f' x) = k * Φ f + m * Φ f') (c : Nat → Int) (E : Nat → Nat → Int) : ∀ q, Φ (fun x => rsum q (fun m => c m * E m x)) = rsum q (fun m => c m * Φ (E m)) := by
  intro q
  induction q with
  | zero =>
    have := h 0 0 (fun _ => 0) (fun _ => 0)
    simpa [rsum] using this
  | succ q ih =>
    have := h 1 (c q) (fun x => rsum q (fun m => c m * E m x)) (E q)
    simp only [Int.one_mul] at this
    simp only [rsum]
    rw [this, ih]
theorem exp_at {n x : Nat} {f : Nat → Int} (hx : x < n) : rsum n (fun m => f m * ee m x) = f x := by
  rw [rsum_one hx (fun i hi hne => by simp only [ee]; rw [if_neg (fun e => hne e.symm)]; omega)]
  simp [ee]
theorem BS_exp (s : Sh p pw br) (f g : Nat → Int) (t : Nat) : BS br pw.length f g t = rsum pw.length (fun m => f m * BS br pw.length (ee m) g t) := by
  rw [← lin_sum (Φ := fun F => BS br pw.length F g t) (fun k m f f' => BS_lin k m f f' g t)]
  exact BS_ext s (fun x hx => (exp_at hx).symm) t
theorem z_sum {q : Nat} {c : Nat → Int} {F : Nat → Nat → Int} (h : ∀ m, m < q → Cg p pw (F m) (fun _ => 0)) : Cg p pw (fun t => rsum q (fun m => c m * F m t)) (fun _ => 0) := by
  induction q with
  | zero => exact .of fun _ _ => rfl
  | succ q ih => exact ((ih fun m hm => h m (by omega)).comb 1 (c q) (h q (by omega))).ext (fun j _ => by simp only [rsum, Int.one_mul]) (fun j _ => by simp)
theorem unit_fn {n k x : Nat} (hx : x < n) : fn (unitL n k) x = ee k x := by
  simp only [fn, unitL, vec_get hx, ee]
structure NoF (p : Int) (pw : List (List Int)) (br : List (List (List Int))) : Prop extends Sh p pw br where
  r : ∀ i j, i < pw.length → j < pw.length → ¬pf p pw br i j
  j : ∀ a b c, a < b → b < c → c < pw.length → ¬jf p pw br a b c
theorem LieR.nof (h : LieR p pw br) : NoF p pw br := by
  obtain ⟨h1, h2⟩ := h
  rcases h2 with ⟨a, b, e, _⟩ | ⟨hn, ⟨a, b, c, e, _⟩ | ⟨_, hz⟩⟩
  · simp at e
  · simp at e
  · exact ⟨h1.sh, hn, hz⟩
theorem NoF.rel (h : NoF p pw br) {i k : Nat} (hi : i < pw.length) (hk : k < pw.length) : Cg p pw (fun t => 1 * (p * BS br pw.length (ee i) (ee k) t) + -1 * BS br pw.length (fn (pw.getD i [])) (ee k) t) (fun _ => 0) := by
  have t := h.toTri
  have s := h.toSh
  have h1 : mulL p pw p (brkL p pw br (unitL pw.length i) (unitL pw.length k)) = brkL p pw br (pw.getD i []) (unitL pw.length k) := Classical.byContradiction fun q => h.r i k hi hk q
  have h2 : Cg p pw (fn (mulL p pw p (brkL p pw br (unitL pw.length i) (unitL pw.length k)))) (fun t => p * BS br pw.length (ee i) (ee k) t) := by
    refine (nf_fn t _).trans ?_
    have h3 := (brk_cg (br := br) t (unitL pw.length i) (unitL pw.length k)).comb p 0 (Cg.refl (fun _ => 0))
    refine h3.ext (fun j _ => by simp [fn]) (fun j _ => ?_)
    rw [BS_ext s (fun x hx => unit_fn hx), BS_ext2 s (fun x hx => unit_fn hx)]; simp
  have h4 : Cg p pw (fn (brkL p pw br (pw.getD i []) (unitL pw.length k))) (BS br pw.length (fn (pw.getD i [])) (ee k)) := (brk_cg t _ _).ext (fun _ _ => rfl) (fun j _ => BS_ext2 s (fun x hx => unit_fn hx) j)
  rw [h1] at h2
  exact ((h2.symm.trans h4).comb 1 (-1) (Cg.refl (BS br pw.length (fn (pw.getD i [])) (ee k)))).ext (fun j _ => rfl) (fun j _ => by omega)
theorem NoF.rel2 (h : NoF p pw br) {i : Nat} (hi : i < pw.length) (w : Nat → Int) : Cg p pw (fun t => BS br pw.length (fun x => p * ee i x + -1 * fn (pw.getD i []) x) w t) (fun _ => 0) := by
  have s := h.toSh
  refine (z_sum (c := w) (F := fun k t => 1 * (p * BS br pw.length (ee i) (ee k) t) + -1 * BS br pw.length (fn (pw.getD i [])) (ee k) t) (q := pw.length) fun k hk => h.rel hi hk).ext (fun j _ => ?_) (fun _ _ => rfl)
  rw [BS_alt, BS_exp s w, ← rsum_mul]
  refine rsum_ext fun k _ => ?_
  rw [BS_alt (ee k), BS_lin]
  grind
theorem NoF.cg (h : NoF p pw br) {f g : Nat → Int} (hc : Cg p pw f g) (w : Nat → Int) : Cg p pw (BS br pw.length f w) (BS br pw.length g w) := by
  have s := h.toSh
  obtain ⟨c, hc⟩ := hc
  have h1 : ∀ t, BS br pw.length (fun x => 1 * f x + -1 * g x) w t = rsum pw.length (fun i => c i * BS br pw.length (fun x => p * ee i x + -1 * fn (pw.getD i []) x) w t) := by
    intro t
    rw [← lin_sum (Φ := fun F => BS br pw.length F w t) (fun k m f f' => BS_lin k m f f' w t)]
    refine BS_ext s (fun x hx => ?_) t
    have e1 := hc x hx
    have e2 : rsum pw.length (fun m => c m * (p * ee m x + -1 * fn (pw.getD m []) x)) = p * rsum pw.length (fun m => c m * ee m x) + -1 * rsum pw.length (fun i => c i * (pw.getD i []).getD x 0) := by
      rw [← rsum_comb]
      refine rsum_ext fun m _ => ?_
      simp only [fn]
      grind
    rw [e2, exp_at hx]
    omega
  have h2 : Cg p pw (fun t => BS br pw.length (fun x => 1 * f x + -1 * g x) w t) (fun _ => 0) := (z_sum (c := c) (q := pw.length) fun i hi => h.rel2 hi w).ext (fun j _ => (h1 j).symm) (fun _ _ => rfl)
  refine (h2.comb 1 1 (Cg.refl (BS br pw.length g w))).ext (fun j _ => ?_) (fun j _ => by omega)
  rw [BS_lin]; omega
end
end Go.Proofs.Ytdghgmgppecncaa
