import Derived.Test.YtnlfbimjcabgiaaGreatZ41
import Derived.Test.YtnlfbimjcabgiaaGreatZ44
set_option linter.unusedVariables false
set_option linter.unusedSimpArgs false
namespace Go.Proofs.YtnlfbimjcabgiaaGreat
noncomputable def rdS (P : Pc) (d : Nat) (y x : V) : V := M P 0 x (pwV P y (0 - x d))
section
variable {P : Pc} (hv : Val P) (hc : Con P 0)
theorem strF_sft {t : Nat → Option V} : ∀ f d x, d + f = P.n → strF P t f d x = sft (rdS P) t P.n f x := by
  intro f
  induction f with
  | zero => intro d x hd; rw [strF, sft, show d = P.n by omega]
  | succ f ih =>
    intro d x hd
    have e : P.n - (f + 1) = d := by omega
    rw [strF, sft, e]
    split
    · exact ih _ _ (by omega)
    · cases t d with
      | none => rfl
      | some y => exact ih _ _ (by omega)
theorem T_top : ∀ x, T P P.n x → x = z0 := fun x hx => hx.ge (Nat.le_refl _)
theorem comL_mem {t : Nat → Option V} {d : Nat} {y : V} : ∀ k v, v ∈ comL P t d y k ↔ ∃ e z, e < k ∧ e ≠ d ∧ t e = some z ∧ v = cmV P y z := by
  intro k
  induction k with
  | zero => intro v; rw [comL]; exact ⟨fun h => (by cases h), fun ⟨e, z, h, _⟩ => (by omega)⟩
  | succ k ih =>
    intro v
    rw [comL]
    split
    · rename_i hk
      rw [ih v]
      constructor
      · rintro ⟨e, z, h1, h2, h3, h4⟩; exact ⟨e, z, by omega, h2, h3, h4⟩
      · rintro ⟨e, z, h1, h2, h3, h4⟩
        refine ⟨e, z, ?_, h2, h3, h4⟩
        rcases Nat.lt_or_ge e k with q | q
        · exact q
        · rw [show e = k by omega, hk] at h3; cases h3
    · rename_i w hk
      split
      · rename_i q0
        rw [ih v]
        constructor
        · rintro ⟨e, z, h1, h2, h3, h4⟩; exact ⟨e, z, by omega, h2, h3, h4⟩
        · rintro ⟨e, z, h1, h2, h3, h4⟩; exact ⟨e, z, by omega, h2, h3, h4⟩
      · rename_i q0
        rw [List.mem_append, ih v, List.mem_singleton]
        constructor
        · rintro (⟨e, z, h1, h2, h3, h4⟩ | h)
          · exact ⟨e, z, by omega, h2, h3, h4⟩
          · exact ⟨k, w, by omega, q0, hk, h⟩
        · rintro ⟨e, z, h1, h2, h3, h4⟩
          rcases Nat.lt_or_ge e k with q | q
          · exact .inl ⟨e, z, q, h2, h3, h4⟩
          · obtain rfl : e = k := by omega
            rw [hk] at h3; cases h3
            exact .inr h4
include hv hc
theorem Cy.pw {y : V} (hy : T P 0 y) (k : Int) : Cy (T P 0) (M P 0) y (pwV P y k) := by
  have hg := con_grp hv hc
  unfold pwV
  split
  · exact Cy.irep (inv_T hg hy).1 (inv_T hg hy).2 _
  · exact Cy.rep y _
theorem rdS_rk : ∀ d y x, d < P.n → T P d y → y d = 1 → T P d x → Sm (T P 0) (M P 0) y x (rdS P d y x) ∧ T P (d + 1) (rdS P d y x) :=
  fun d y x hd hy h1 hx => ⟨Sm.right (con_grp hv hc) (hx.mono hv (Nat.zero_le d)) (Cy.pw hv hc (hy.mono hv (Nat.zero_le d)) _), down_lead hv hc hd hx hy h1⟩
theorem cmV_Cm {y z : V} (hy : T P 0 y) (hz : T P 0 z) : Cm (M P 0) y z (cmV P y z) := by
  have g := con_grp hv hc
  left
  obtain ⟨h1, h2⟩ := inv_T g (g.cl hz hy)
  unfold cmV
  rw [← g.ac (g.cl hz hy) h1 (g.cl hy hz), h2, g.l1 (g.cl hy hz)]
variable (hp : ∀ d, d < P.n → pr4 (P.o d)) {us : V → Prop}
include hp
theorem clR_inv {t : Nat → Option V} {w : List V} {x : V} (hG : tbG P t) (h : Inv P.n P.o (T P) (M P 0) (rdS P) us t (fun v => v ∈ w ++ [x])) :
    Inv P.n P.o (T P) (M P 0) (rdS P) us (clR P t w (strF P t P.n 0 x)).1 (fun v => v ∈ (clR P t w (strF P t P.n 0 x)).2) := by
  have l := lvl hv hc
  have hx0 : x ∈ w ++ [x] := List.mem_append.2 (.inr (List.mem_singleton.2 rfl))
  have hx : T P 0 x := h.wn x hx0
  obtain ⟨i1, i2, i3, i4⟩ := str_sp hv hc hG P.n 0 x (by omega) hx
  have hsf := strF_sft (P := P) (t := t) P.n 0 x (by omega)
  obtain ⟨s, hs⟩ : ∃ s, strF P t P.n 0 x = s := ⟨_, rfl⟩
  rw [hs] at i1 i2 i3 i4 hsf ⊢
  unfold clR
  split
  · rename_i h1
    refine h.drop l T_top (rdS_rk hv hc) hx0 (by rw [← hsf]; exact h1) (fun v hw => ?_) (fun v hw => List.mem_append.2 (.inl hw))
    rcases List.mem_append.1 hw with q | q
    · exact .inr q
    · exact .inl (List.mem_singleton.1 q)
  · rename_i hne
    have hd : s.1 < P.n := by omega
    obtain ⟨j1, j2⟩ := i4 hd
    obtain ⟨y1, y2⟩ := clY_sp hv hc hp hd i3 j2
    have hy0 := y1.mono hv (Nat.zero_le _)
    have hs0 := i3.mono hv (Nat.zero_le _)
    have ho := l.op hd
    have hpw : pwV P (clY P s) (P.o s.1) = rep (M P 0) (clY P s) (P.o s.1).toNat := by unfold pwV; rw [if_neg (by omega)]
    have hos : ∀ e, e ≠ s.1 → oset t s.1 (clY P s) e = t e := fun e he => by unfold oset; rw [if_neg he]
    dsimp only
    rw [hpw]
    refine Inv.add l (rdS_rk hv hc) h hx0 (d := s.1) (r := s.2) (y := clY P s) (by rw [← hsf]) hd y1 y2 (Cy.pw hv hc hs0 _) (fun v hw => ?_) ?_ ?_ (fun e z h1 h2 => ?_) (fun v hw => ?_)
    · rcases List.mem_append.1 hw with q | q
      · exact .inr (by simp [q])
      · exact .inl (List.mem_singleton.1 q)
    · simp
    · simp
    · refine ⟨cmV P (clY P s) z, ?_, cmV_Cm hv hc hy0 ((hG e z h2).2.1.mono hv (Nat.zero_le _))⟩
      refine List.mem_append.2 (.inr ((comL_mem _ _).2 ⟨e, z, (hG e z h2).1, h1, by rw [hos e h1]; exact h2, rfl⟩))
    · rcases List.mem_append.1 hw with q | q
      · rcases List.mem_append.1 q with q | q
        · rcases List.mem_append.1 q with q | q
          · exact .inl (List.mem_append.2 (.inl q))
          · exact .inr (.inl (List.mem_singleton.1 q))
        · exact .inr (.inr (.inl (List.mem_singleton.1 q)))
      · obtain ⟨e, z, e1, e2, e3, rfl⟩ := (comL_mem _ _).1 q
        rw [hos e e2] at e3
        have hz := (hG e z e3).2.1.mono hv (Nat.zero_le _)
        exact .inr (.inr (.inr ⟨e, z, e3, cmV_Cm hv hc hy0 hz, cmV_T hv hc hy0 hz⟩))
theorem cloF_inv : ∀ (f : Nat) (t : Nat → Option V) (w : List V), tbG P t → Inv P.n P.o (T P) (M P 0) (rdS P) us t (fun v => v ∈ w) → clM P t w ≤ f →
    Inv P.n P.o (T P) (M P 0) (rdS P) us (cloF P f t w) (fun _ => False) := by
  have nl : ∀ (t : Nat → Option V) (w : List V), w.length = 0 → Inv P.n P.o (T P) (M P 0) (rdS P) us t (fun v => v ∈ w) → Inv P.n P.o (T P) (M P 0) (rdS P) us t (fun _ => False) := by
    intro t w hw h
    have e : w = [] := List.eq_nil_of_length_eq_zero hw
    subst e
    have e2 : (fun v : V => v ∈ ([] : List V)) = fun _ => False := by funext v; simp
    rw [e2] at h
    exact h
  intro f
  induction f with
  | zero =>
    intro t w hG h hM
    rw [cloF]
    refine nl t w ?_ h
    unfold clM at hM; omega
  | succ f ih =>
    intro t w hG h hM
    rw [cloF]
    split
    · rename_i hw; exact nl t w hw h
    · rename_i hw
      have hwe : w = w.take (w.length - 1) ++ [w.getD (w.length - 1) z0] := by
        have h1 := List.take_succ_eq_append_getElem (l := w) (i := w.length - 1) (by omega)
        rw [show w.length - 1 + 1 = w.length by omega, List.take_length] at h1
        rw [List.getD_eq_getElem?_getD, List.getElem?_eq_getElem (show w.length - 1 < w.length by omega)]
        exact h1
      have hxT : T P 0 (w.getD (w.length - 1) z0) := h.wn _ (by rw [List.getD_eq_getElem?_getD, List.getElem?_eq_getElem (show w.length - 1 < w.length by omega)]; exact List.getElem_mem _)
      have hdec := clM_dec hv hc hG hw hxT
      obtain ⟨x, hx⟩ : ∃ x, w.getD (w.length - 1) z0 = x := ⟨_, rfl⟩
      obtain ⟨v, hvv⟩ : ∃ v, w.take (w.length - 1) = v := ⟨_, rfl⟩
      unfold clS at hdec ⊢
      rw [hx] at hdec hxT ⊢
      rw [hvv] at hdec ⊢
      rw [hx, hvv] at hwe
      rw [hwe] at h
      have hi := clR_inv hv hc hp hG h
      refine ih _ _ (clR_G hv hc hp hG (w := v) (fun z hz => h.wn z (List.mem_append.2 (.inl hz))) hxT).1 hi (by omega)
noncomputable def tbS (P : Pc) (us : List V) : Nat → Option V := cloF P (clM P (fun _ => none) us) (fun _ => none) us
theorem tbS_tbl {us : List V} (hu : ∀ x ∈ us, T P 0 x) : Tbl P.n P.o (T P) (M P 0) (tbS P us) ∧ ∀ x, Sg (T P 0) (M P 0) (tbS P us) P.n P.n x ↔ Gen (T P 0) (M P 0) (fun v => v ∈ us) x :=
  (cloF_inv hv hc hp _ _ us (fun d y h => by cases h) (Inv.start (W := fun v => v ∈ us) hu) (Nat.le_refl _)).fin (lvl hv hc) T_top (rdS_rk hv hc)
omit hp in
theorem rdS_rk2 : ∀ e w x, e < P.n → T P e w → w e = 1 → T P 0 x → ∃ u, Cy (T P 0) (M P 0) w u ∧ T P e u ∧ rdS P e w x = M P 0 x u ∧ (x e + u e) % P.o e = 0 := by
  intro e w x he hw h1 hx
  obtain ⟨p1, p2⟩ := pw_lead hv hc he hw (0 - x e)
  refine ⟨pwV P w (0 - x e), Cy.pw hv hc (hw.mono hv (Nat.zero_le e)) _, p1, rfl, ?_⟩
  rw [p2, h1, Int.mul_one, Int.add_emod_emod, show x e + (0 - x e) = 0 by omega, Int.zero_emod]
omit hv hc hp in
theorem redF_rdn {dn : Nat → Option V} : ∀ f e x, redF P dn f e x = rdn (rdS P) dn f e x := by
  intro f
  induction f with
  | zero => intro e x; rfl
  | succ f ih => intro e x; rw [redF, rdn, ih]; rfl
omit hv hc hp in
theorem dnS_dnG {n : Nat} {t : Nat → Option V} : ∀ j, dnS P n t j = dnG (rdS P) t n j := by
  intro j
  induction j with
  | zero => rfl
  | succ j ih =>
    rw [dnS, dnG, ih]
    cases t (n - 1 - j) with
    | none => rfl
    | some y => dsimp only; rw [redF_rdn]; rfl
theorem dnS_can {us : List V} (hu : ∀ x ∈ us, T P 0 x) : Can2 P (Gen (T P 0) (M P 0) (fun v => v ∈ us)) (dnS P P.n (tbS P us) P.n) := by
  obtain ⟨c, hs⟩ := tbS_tbl hv hc hp hu
  have l := lvl hv hc
  have e : Sg (T P 0) (M P 0) (tbS P us) P.n P.n = Gen (T P 0) (M P 0) (fun v => v ∈ us) := funext fun x => propext (hs x)
  have h := dnG_can hv hc (rdS_rk2 hv hc) l c (c.sub l (Nat.le_refl _))
  rw [e, ← dnS_dnG] at h
  exact h
end
theorem outS_congr {dn dn' : Nat → Option V} {k : Nat} (h : ∀ d, d < k → dn d = dn' d) : outS dn k = outS dn' k := by
  induction k with
  | zero => rfl
  | succ k ih =>
    have ih := ih (fun d hd => h d (by omega))
    cases hk : dn k with
    | none => rw [outS_none hk, outS_none (by rw [← h k (by omega)]; exact hk)]; exact ih
    | some y => rw [outS_some hk, outS_some (y := y) (by rw [← h k (by omega)]; exact hk), ih]
end Go.Proofs.YtnlfbimjcabgiaaGreat
