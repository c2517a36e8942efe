import Derived.Test.YtdghgmgppecncaaZ30
import Derived.Test.YtdghgmgppecncaaZ49
set_option linter.unusedVariables false
set_option linter.unusedSimpArgs false
namespace Go.Proofs.Ytdghgmgppecncaa
section
variable {p : Int} {pw : List (List Int)} {br : List (List (List Int))}
def Inc (p : Int) (pw u w : List (List Int)) : Prop := ∀ f, Sp p pw u f → Sp p pw w f
theorem Inc.refl {u : List (List Int)} : Inc p pw u u := fun _ h => h
theorem Inc.trans {u v w : List (List Int)} (h : Inc p pw u v) (h' : Inc p pw v w) : Inc p pw u w := fun f hf => h' f (h f hf)
theorem Inc.nil {w : List (List Int)} : Inc p pw [] w := fun f hf => hf.le fun b hb => absurd hb (by simp)
theorem inc_gen {u w : List (List Int)} : Inc p pw u w ↔ ∀ b ∈ u, Sp p pw w (fn b) := ⟨fun h b hb => h _ (.gen hb), fun h f hf => hf.le h⟩
theorem brkLL_mem {u v : List (List Int)} {c : List Int} : c ∈ brkLL p pw br u v ↔ ∃ a ∈ u, ∃ b ∈ v, brkL p pw br a b = c := by
  simp only [brkLL, List.mem_flatMap, List.mem_map]
theorem mem_whole {n : Nat} {b : List Int} : b ∈ wholeL n ↔ ∃ k, k < n ∧ unitL n k = b := by simp [wholeL]
theorem brkW_inc {u w : List (List Int)} : Inc p pw (brkLL p pw br u (wholeL pw.length)) w ↔ ∀ b ∈ u, ∀ j, j < pw.length → Sp p pw w (fn (brkL p pw br b (unitL pw.length j))) := by
  rw [inc_gen]
  constructor
  · exact fun h b hb j hj => h _ (brkLL_mem.2 ⟨b, hb, _, mem_whole.2 ⟨j, hj, rfl⟩, rfl⟩)
  · intro h c hc
    obtain ⟨a, ha, b, hb, rfl⟩ := brkLL_mem.1 hc
    obtain ⟨j, hj, rfl⟩ := mem_whole.1 hb
    exact h a ha j hj
theorem low_sp (h : shapeP p pw br) {u : List (List Int)} : Sp p pw (lowS p pw br u) = Sp p pw (brkLL p pw br u (wholeL pw.length)) := span_sp h.tri h.1 (brkLL_el h.sh)
theorem low_inc (h : shapeP p pw br) {u w : List (List Int)} : Inc p pw (lowS p pw br u) w ↔ ∀ b ∈ u, ∀ j, j < pw.length → Sp p pw w (fn (brkL p pw br b (unitL pw.length j))) := by
  rw [← brkW_inc]; unfold Inc; rw [low_sp h]
theorem low_can (h : shapeP p pw br) {u : List (List Int)} : CanU p pw (lowS p pw br u) := spanU h.tri h.1 (brkLL_el h.sh)
theorem brk_ee (h : NoF p pw br) {b : List Int} {j : Nat} {S : (Nat → Int) → Prop} (hS : Sub p pw S) : S (fn (brkL p pw br b (unitL pw.length j))) ↔ S (BS br pw.length (fn b) (ee j)) := by
  have e : BS br pw.length (fn b) (fn (unitL pw.length j)) = BS br pw.length (fn b) (ee j) := funext fun t => BS_ext2 h.toSh (fun x hx => unit_fn hx) t
  have c := brk_cg (br := br) h.toSh.toTri b (unitL pw.length j)
  rw [e] at c
  exact ⟨fun g => hS.cg g c.symm, fun g => hS.cg g c⟩
theorem up_iff (h : LieR p pw br) {w : List (List Int)} (hw : CanU p pw w) {f : Nat → Int} : Sp p pw (upS p pw br w) f ↔ ∀ j, j < pw.length → Sp p pw w (BS br pw.length f (ee j)) := by
  have hn := h.nof
  have ht := h.1.tri
  constructor
  · intro hf
    have hs : Sp p pw (filt (AbvP p pw br w (wholeL pw.length)) (allL p pw.length)) f := by
      have := hf
      unfold upS aboveL withL at this
      rwa [span_sp ht h.1.1 (filta_el ht.p2)] at this
    refine hs (fun f => ∀ j, j < pw.length → Sp p pw w (BS br pw.length f (ee j))) ⟨fun {f g} hf hc j hj => (Sp.sub w).cg (hf j hj) (hn.cg hc _), fun j hj => ?_, fun {f g} k m hf hg j hj => ?_⟩ (fun b hb j hj => ?_)
    · have h0 : Sp p pw w (fun t => BS br pw.length (fun _ => 0) (ee j) t) := (Sp.sub w).cg (Sp.sub w).zero (.of fun t _ => by
        have := BS_lin (br := br) (n := pw.length) 0 0 (fun _ => 0) (fun _ => 0) (ee j) t
        simp only [Int.zero_mul, Int.add_zero] at this
        exact this)
      exact h0
    · have h1 := (Sp.sub w).comb k m (hf j hj) (hg j hj)
      refine (Sp.sub w).cg h1 (.of fun t _ => BS_lin k m f g (ee j) t)
    · obtain ⟨hb1, hb2⟩ := mem_filt.1 hb
      have h3 := abv_iff.1 hb2 j (by rw [whole_len]; exact hj)
      rw [whole_get hj] at h3
      exact (brk_ee hn (Sp.sub w)).1 ((zero_iff ht hw (brk_el h.1.sh _ _)).1 h3)
  · intro hf
    have hx := nf_el ht f
    refine (Sp.sub _).cg (with_sp ht h.1.1 hx (abv_iff.2 fun i hi => ?_)) (nf_fn ht f).symm
    rw [whole_len] at hi
    rw [whole_get hi]
    refine (zero_iff ht hw (brk_el h.1.sh _ _)).2 ((brk_ee hn (Sp.sub w)).2 ?_)
    exact (Sp.sub w).cg (hf i hi) (hn.cg (nf_fn ht f) _)
theorem adj (h : LieR p pw br) {u w : List (List Int)} (hw : CanU p pw w) : Inc p pw (lowS p pw br u) w ↔ Inc p pw u (upS p pw br w) := by
  rw [low_inc h.1, inc_gen]
  constructor
  · exact fun g b hb => (up_iff h hw).2 fun j hj => (brk_ee h.nof (Sp.sub w)).1 (g b hb j hj)
  · exact fun g b hb j hj => (brk_ee h.nof (Sp.sub w)).2 ((up_iff h hw).1 (g b hb) j hj)
theorem low_mono (h : LieR p pw br) {u v : List (List Int)} (g : Inc p pw u v) : Inc p pw (lowS p pw br u) (lowS p pw br v) :=
  (adj h (low_can h.1)).2 (g.trans ((adj h (low_can h.1)).1 .refl))
theorem up_mono (h : LieR p pw br) {u v : List (List Int)} (hu : CanU p pw u) (hv : CanU p pw v) (g : Inc p pw u v) : Inc p pw (upS p pw br u) (upS p pw br v) :=
  (adj h hv).1 (((adj h hu).2 .refl).trans g)
theorem inc_whole (t : Tri p pw) (hp : pr4 p) {u : List (List Int)} : Inc p pw u (wholeL pw.length) := fun f _ => len_full t (wholeU t hp) whole_len f
def tms {α : Type} (F : α → α) : Nat → α → α
  | 0, u => u
  | k + 1, u => tms F k (F u)
theorem tms_out {α : Type} (F : α → α) : ∀ (k : Nat) (u : α), tms F (k + 1) u = F (tms F k u) := by
  intro k
  induction k with
  | zero => exact fun u => rfl
  | succ k ih => exact fun u => ih (F u)
theorem tms_add {α : Type} (F : α → α) : ∀ (k m : Nat) (u : α), tms F k (tms F m u) = tms F (m + k) u := by
  intro k m
  induction m with
  | zero => intro u; rw [Nat.zero_add]; rfl
  | succ m ih => intro u; rw [show m + 1 + k = (m + k) + 1 by omega]; exact ih (F u)
theorem SerC.at {F : List (List Int) → List (List Int)} {u : List (List Int)} {K : List (List (List Int))} (h : SerC F u K) : (∀ k, k < K.length → K.getD k [] = tms F k u) ∧ (∀ k, k + 1 < K.length → tms F (k + 1) u ≠ tms F k u) ∧ F (tms F (K.length - 1) u) = tms F (K.length - 1) u := by
  induction h with
  | done u h => exact ⟨fun k hk => by simp at hk; subst hk; rfl, fun k hk => by simp at hk, h⟩
  | step u K h hc ih =>
    obtain ⟨h1, h2, h3⟩ := ih
    have hpos := hc.pos
    refine ⟨fun k hk => ?_, fun k hk => ?_, ?_⟩
    · cases k with
      | zero => rfl
      | succ k => exact h1 k (by simpa using hk)
    · cases k with
      | zero => exact h
      | succ k => exact h2 k (by simpa using hk)
    · have e : (u :: K).length - 1 = (K.length - 1) + 1 := by simp; omega
      rw [e]; exact h3
theorem itU {k : Nat} {w : List (List Int)} (h : shapeP p pw br) (hw : CanU p pw w) : CanU p pw (tms (upS p pw br) k w) := by
  induction k with
  | zero => exact hw
  | succ k ih => rw [tms_out]; exact up_can h.tri h.1
theorem itL {k : Nat} {u : List (List Int)} (h : shapeP p pw br) (hu : CanU p pw u) : CanU p pw (tms (lowS p pw br) k u) := by
  induction k with
  | zero => exact hu
  | succ k ih => rw [tms_out]; exact low_can h
theorem adj_it (h : LieR p pw br) {w : List (List Int)} (hw : CanU p pw w) : ∀ (k : Nat) (u : List (List Int)), Inc p pw (tms (lowS p pw br) k u) w ↔ Inc p pw u (tms (upS p pw br) k w) := by
  intro k
  induction k with
  | zero => exact fun u => Iff.rfl
  | succ k ih => intro u; rw [tms_out (upS p pw br)]; exact (ih _).trans (adj h (itU h.1 hw))
noncomputable def gam (p : Int) (pw : List (List Int)) (br : List (List (List Int))) (k : Nat) : List (List Int) := tms (lowS p pw br) k (wholeL pw.length)
noncomputable def zet (p : Int) (pw : List (List Int)) (br : List (List (List Int))) (k : Nat) : List (List Int) := tms (upS p pw br) k []
theorem gamU (h : shapeP p pw br) (k : Nat) : CanU p pw (gam p pw br k) := itL h (wholeU h.tri h.1)
theorem zetU (h : shapeP p pw br) (k : Nat) : CanU p pw (zet p pw br k) := itU h (nil_can h.tri h.1)
theorem nil_of (h : shapeP p pw br) {u : List (List Int)} (hu : CanU p pw u) (hi : Inc p pw u []) : u = [] := by
  have := can_le hu (nil_can h.tri h.1) hi
  exact List.length_eq_zero_iff.1 (by simpa using this)
theorem gz (h : LieR p pw br) (k m : Nat) : Inc p pw (gam p pw br k) (zet p pw br m) ↔ Inc p pw (wholeL pw.length) (zet p pw br (m + k)) := by
  unfold gam; rw [adj_it h (zetU h.1 m)]; unfold zet; rw [tms_add]
theorem gam_nil (h : LieR p pw br) (k : Nat) : gam p pw br k = [] ↔ Inc p pw (wholeL pw.length) (zet p pw br k) := by
  have := gz h k 0
  rw [Nat.zero_add] at this
  rw [← this]
  exact ⟨fun e => by rw [e]; exact .nil, fun g => nil_of h.1 (gamU h.1 k) g⟩
theorem lowK_ser (h : shapeP p pw br) : SerC (lowS p pw br) (wholeL pw.length) (lowK p pw br) := (lowK_ok h).1.ser h.tri h.1 h (wholeU h.tri h.1)
theorem low_at (h : shapeP p pw br) {k : Nat} (hk : k < (lowK p pw br).length) : (lowK p pw br).getD k [] = gam p pw br k := (lowK_ser h).at.1 k hk
theorem up_at (h : shapeP p pw br) {k : Nat} (hk : k < (upK p pw br).length) : (upK p pw br).getD k [] = zet p pw br k := (upK_ok h).1.at.1 k hk
theorem low_last (h : shapeP p pw br) : gam p pw br ((lowK p pw br).length - 1) = [] := low_fix h (gamU h _) (lowK_ser h).at.2.2
theorem up_last (h : shapeP p pw br) : Inc p pw (wholeL pw.length) (zet p pw br ((upK p pw br).length - 1)) := fun f _ => len_full h.tri (zetU h _) (up_fix h (zetU h _) (upK_ok h).1.at.2.2) f
theorem full_of (h : shapeP p pw br) {u : List (List Int)} (hu : CanU p pw u) (hi : Inc p pw (wholeL pw.length) u) : u.length = pw.length := full_len h.tri h.1 hu fun f => hi f (len_full h.tri (wholeU h.tri h.1) whole_len f)
theorem one_len (h : LieR p pw br) : (lowK p pw br).length = (upK p pw br).length := by
  have p1 := (lowK_ser h.1).pos
  have p2 := (upK_ok h.1).1.pos
  have a1 : ¬ (lowK p pw br).length - 1 + 1 < (upK p pw br).length := fun hlt => by
    have h1 := (gam_nil h _).1 (low_last h.1)
    refine (upK_ok h.1).1.at.2.1 _ hlt ?_
    rw [tms_out]
    exact up_full h.1 (zetU h.1 _) (full_of h.1 (zetU h.1 _) h1)
  have a2 : ¬ (upK p pw br).length - 1 + 1 < (lowK p pw br).length := fun hlt => by
    have h1 : gam p pw br ((upK p pw br).length - 1) = [] := (gam_nil h _).2 (up_last h.1)
    refine (lowK_ser h.1).at.2.1 _ hlt ?_
    rw [tms_out]
    show lowS p pw br (gam p pw br _) = gam p pw br _
    rw [h1]; exact low_nil h.1.tri
  omega
theorem gam_down (h : LieR p pw br) : ∀ k, Inc p pw (lowS p pw br (gam p pw br k)) (gam p pw br k) := by
  intro k
  induction k with
  | zero => exact inc_whole h.1.tri h.1.1
  | succ k ih => unfold gam at ih ⊢; rw [tms_out]; exact low_mono h ih
theorem zet_up (h : LieR p pw br) : ∀ k, Inc p pw (zet p pw br k) (upS p pw br (zet p pw br k)) := by
  intro k
  induction k with
  | zero => exact .nil
  | succ k ih =>
    have e : zet p pw br (k + 1) = upS p pw br (zet p pw br k) := tms_out _ _ _
    rw [e]; exact up_mono h (zetU h.1 k) (up_can h.1.tri h.1.1) ih
theorem zet_down (h : LieR p pw br) (k : Nat) : Inc p pw (lowS p pw br (zet p pw br k)) (zet p pw br k) := (adj h (zetU h.1 k)).2 (zet_up h k)
theorem ideal_of (h : shapeP p pw br) {u : List (List Int)} (hu : CanU p pw u) (hi : Inc p pw (lowS p pw br u) u) : within p pw u (brkLL p pw br u (wholeL pw.length)) := by
  refine (within_iff h.tri hu (brkLL_el h.sh)).2 fun f hf => hi f ?_
  rw [low_sp h]; exact hf
theorem spn_of (h : LieR p pw br) {u : List (List Int)} (hu : CanU p pw u) : SpnP p pw br u :=
  ⟨h, hu.toEch.len, fun k hk => (hu.el _ (ix_mem hk)).is, (spanL_eq h.1.tri hu).symm⟩
theorem gam_less (h : LieR p pw br) {k : Nat} (hk : k + 1 < (lowK p pw br).length) : (gam p pw br (k + 1)).length < (gam p pw br k).length := by
  have hne := (lowK_ser h.1).at.2.1 k hk
  have e : gam p pw br (k + 1) = lowS p pw br (gam p pw br k) := tms_out _ _ _
  rcases Nat.lt_or_ge (gam p pw br (k + 1)).length (gam p pw br k).length with hl | hl
  · exact hl
  · have hi := gam_down h k
    rw [← e] at hi
    exact absurd (can_same h.1.tri (Sp.sub _) (Sp.sub _) (gamU h.1 (k + 1)) (gamU h.1 k) hi hl).symm hne
theorem gz_sum (h : LieR p pw br) {k m : Nat} (hm : m + k = (upK p pw br).length - 1) : spanL p pw (gam p pw br k ++ zet p pw br m) = zet p pw br m := by
  have hi := (gz h k m).2 (by rw [hm]; exact up_last h.1)
  have e : Sp p pw (gam p pw br k ++ zet p pw br m) = Sp p pw (zet p pw br m) := Sp.eqv (fun b hb => by
    rcases List.mem_append.1 hb with hb | hb
    · exact hi _ (.gen hb)
    · exact .gen hb) (fun b hb => .gen (by simp [hb]))
  refine spanL_eq h.1.tri ?_
  rw [e]; exact zetU h.1 m
end
end Go.Proofs.Ytdghgmgppecncaa
