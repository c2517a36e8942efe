import Derived.Test.YtnlfbimjcabgiaaGreatZ35
set_option linter.unusedVariables false
set_option linter.unusedSimpArgs false
namespace Go.Proofs.YtnlfbimjcabgiaaGreat
noncomputable def cmI (P : Pc) (z y : V) : V := M P 0 (inv P 0 z) (M P 0 (inv P 0 y) (M P 0 z y))
noncomputable def comI (P : Pc) (t : Nat → Option V) (y : V) : Nat → List V
  | 0 => []
  | e + 1 => match t e with
    | none => comI P t y e
    | some z => comI P t y e ++ [cmI P z y]
noncomputable def siS (P : Pc) (t : Nat → Option V) (x : V) : Nat × V := sft (rdI P) t P.n P.n x
noncomputable def adR (P : Pc) (t : Nat → Option V) (q : List V) (s : Nat × V) : (Nat → Option V) × List V :=
  if s.1 = P.n then (t, q) else (oset t s.1 (clY P s), q ++ [s.2] ++ [pwV P (clY P s) (P.o s.1)] ++ comI P t (clY P s) P.n)
noncomputable def adF (P : Pc) : Nat → (Nat → Option V) → List V → Nat → Option V
  | 0, t, _ => t
  | f + 1, t, w => if w.length = 0 then t else adF P f (adR P t (w.drop 1) (siS P t (w.getD 0 z0))).1 (adR P t (w.drop 1) (siS P t (w.getD 0 z0))).2
section
variable {P : Pc} (hv : Val P) (hc : Con P 0)
theorem comI_len {t : Nat → Option V} {y : V} : ∀ e, (comI P t y e).length ≤ e := by
  intro e
  induction e with
  | zero => exact Nat.le_refl _
  | succ e ih =>
    rw [comI]
    split
    · omega
    · rw [List.length_append]; simp; omega
theorem comI_mem {t : Nat → Option V} {y : V} : ∀ k v, v ∈ comI P t y k ↔ ∃ e z, e < k ∧ t e = some z ∧ v = cmI P z y := by
  intro k
  induction k with
  | zero => intro v; rw [comI]; exact ⟨fun h => (by cases h), fun ⟨e, z, h, _⟩ => (by omega)⟩
  | succ k ih =>
    intro v
    rw [comI]
    split
    · rename_i hk
      rw [ih v]
      constructor
      · rintro ⟨e, z, h1, h3, h4⟩; exact ⟨e, z, by omega, h3, h4⟩
      · rintro ⟨e, z, h1, h3, h4⟩
        refine ⟨e, z, ?_, h3, h4⟩
        rcases Nat.lt_or_ge e k with q | q
        · exact q
        · rw [show e = k by omega, hk] at h3; cases h3
    · rename_i w hk
      rw [List.mem_append, ih v, List.mem_singleton]
      constructor
      · rintro (⟨e, z, h1, h3, h4⟩ | h)
        · exact ⟨e, z, by omega, h3, h4⟩
        · exact ⟨k, w, by omega, hk, h⟩
      · rintro ⟨e, z, h1, h3, h4⟩
        rcases Nat.lt_or_ge e k with q | q
        · exact .inl ⟨e, z, q, h3, h4⟩
        · obtain rfl : e = k := by omega
          rw [hk] at h3; cases h3
          exact .inr h4
include hv hc
theorem cmI_T {y z : V} (hy : T P 0 y) (hz : T P 0 z) : T P 0 (cmI P z y) := by
  have g := con_grp hv hc
  exact g.cl (inv_T g hz).1 (g.cl (inv_T g hy).1 (g.cl hz hy))
theorem cmI_Cm {y z : V} (hy : T P 0 y) (hz : T P 0 z) : Cm (M P 0) y z (cmI P z y) := by
  have g := con_grp hv hc
  right
  obtain ⟨y1, y2⟩ := inv_T g hy
  obtain ⟨z1, z2⟩ := inv_T g hz
  have n1 := g.cl hz hy
  unfold cmI
  rw [g.ac hy hz (g.cl z1 (g.cl y1 n1)), ← g.ac hz z1 (g.cl y1 n1), z2, g.l1 (g.cl y1 n1), ← g.ac hy y1 n1, y2, g.l1 n1]
theorem siS_sp {t : Nat → Option V} (hG : tbG P t) {x : V} (hx : T P 0 x) : (siS P t x).1 ≤ P.n ∧ T P (siS P t x).1 (siS P t x).2 ∧ ((siS P t x).1 < P.n → t (siS P t x).1 = none ∧ (siS P t x).2 (siS P t x).1 ≠ 0) := by
  have l := lvl hv hc
  have h1 := sft_stop (rd := rdI P) (t := t) P.n (Nat.le_refl _) x
  have h2 := sft_in l (t := t) (rd := rdI P) (fun d y x h1 h2 h3 => rdI_rk hv hc d y x h1 (hG d y h2).2.1 (hG d y h2).2.2 h3) P.n (Nat.le_refl _) x (by rw [Nat.sub_self]; exact hx)
  unfold siS
  rcases h1 with h1 | ⟨h3, h4, h5, h6⟩
  · exact ⟨by omega, h2, fun h => by omega⟩
  · exact ⟨by omega, h2, fun _ => ⟨h5, h6⟩⟩
theorem adR_dec {t : Nat → Option V} (hG : tbG P t) {q : List V} {x : V} (hx : T P 0 x) : clM P (adR P t q (siS P t x)).1 (adR P t q (siS P t x)).2 < frN t P.n * (P.n + 3) + (q.length + 1) := by
  obtain ⟨i2, i3, i4⟩ := siS_sp hv hc hG hx
  obtain ⟨s, hs⟩ : ∃ s, siS P t x = s := ⟨_, rfl⟩
  rw [hs] at i2 i3 i4 ⊢
  unfold clM adR
  split
  · dsimp only; omega
  · rename_i hne
    obtain ⟨j1, j2⟩ := i4 (by omega)
    have h2 := (frN_set (y := clY P s) j1 P.n).2 (by omega)
    have h3 := comI_len (P := P) (t := t) (y := clY P s) P.n
    dsimp only
    rw [← h2, Nat.add_mul, Nat.one_mul]
    simp only [List.length_append, List.length_cons, List.length_nil]
    omega
variable (hp : ∀ d, d < P.n → pr4 (P.o d)) {us : V → Prop}
include hp
theorem adR_G {t : Nat → Option V} (hG : tbG P t) {q : List V} (hq : ∀ x ∈ q, T P 0 x) {x : V} (hx : T P 0 x) : tbG P (adR P t q (siS P t x)).1 ∧ ∀ z ∈ (adR P t q (siS P t x)).2, T P 0 z := by
  obtain ⟨i2, i3, i4⟩ := siS_sp hv hc hG hx
  obtain ⟨s, hs⟩ : ∃ s, siS P t x = s := ⟨_, rfl⟩
  rw [hs] at i2 i3 i4 ⊢
  unfold adR
  split
  · exact ⟨hG, hq⟩
  · rename_i hne
    obtain ⟨j1, j2⟩ := i4 (by omega)
    obtain ⟨y1, y2⟩ := clY_sp hv hc hp (by omega) i3 j2
    have hy0 := y1.mono hv (Nat.zero_le _)
    refine ⟨fun d z hz => ?_, fun z hz => ?_⟩
    · dsimp only at hz
      unfold oset at hz
      split at hz
      · rename_i e
        subst e; cases hz
        exact ⟨by omega, y1, y2⟩
      · exact hG d z hz
    · dsimp only at hz
      rcases List.mem_append.1 hz with h | h
      · rcases List.mem_append.1 h with h | h
        · rcases List.mem_append.1 h with h | h
          · exact hq z h
          · rw [List.mem_singleton.1 h]; exact i3.mono hv (Nat.zero_le _)
        · rw [List.mem_singleton.1 h]; exact pwV_T hv hc hy0 _
      · obtain ⟨e, w, _, e3, rfl⟩ := (comI_mem _ _).1 h
        exact cmI_T hv hc hy0 ((hG e w e3).2.1.mono hv (Nat.zero_le _))
theorem adR_inv {t : Nat → Option V} {q : List V} {x : V} (hG : tbG P t) (h : Inv P.n P.o (T P) (M P 0) (rdI P) us t (fun v => v ∈ x :: q)) :
    Inv P.n P.o (T P) (M P 0) (rdI P) us (adR P t q (siS P t x)).1 (fun v => v ∈ (adR P t q (siS P t x)).2) := by
  have l := lvl hv hc
  have hx0 : x ∈ x :: q := List.mem_cons_self
  have hx : T P 0 x := h.wn x hx0
  obtain ⟨i2, i3, i4⟩ := siS_sp hv hc hG hx
  obtain ⟨s, hs⟩ : ∃ s, siS P t x = s := ⟨_, rfl⟩
  have hsf : s = sft (rdI P) t P.n P.n x := hs.symm
  rw [hs] at i2 i3 i4 ⊢
  unfold adR
  split
  · rename_i h1
    refine h.drop l T_top (rdI_rk hv hc) hx0 (by rw [← hsf]; exact h1) (fun v hw => ?_) (fun v hw => List.mem_cons_of_mem _ hw)
    exact List.mem_cons.1 hw
  · rename_i hne
    have hd : s.1 < P.n := by omega
    obtain ⟨j1, j2⟩ := i4 hd
    obtain ⟨y1, y2⟩ := clY_sp hv hc hp hd i3 j2
    have hy0 := y1.mono hv (Nat.zero_le _)
    have hs0 := i3.mono hv (Nat.zero_le _)
    have ho := l.op hd
    have hpw : pwV P (clY P s) (P.o s.1) = rep (M P 0) (clY P s) (P.o s.1).toNat := by unfold pwV; rw [if_neg (by omega)]
    dsimp only
    rw [hpw]
    refine Inv.add l (rdI_rk hv hc) h hx0 (d := s.1) (r := s.2) (y := clY P s) (by rw [← hsf]) hd y1 y2 (Cy.pw hv hc hs0 _) (fun v hw => ?_) ?_ ?_ (fun e z h1 h2 => ?_) (fun v hw => ?_)
    · rcases List.mem_cons.1 hw with q | q
      · exact .inl q
      · exact .inr (by simp [q])
    · simp
    · simp
    · refine ⟨cmI P z (clY P s), ?_, cmI_Cm hv hc hy0 ((hG e z h2).2.1.mono hv (Nat.zero_le _))⟩
      exact List.mem_append.2 (.inr ((comI_mem _ _).2 ⟨e, z, (hG e z h2).1, h2, rfl⟩))
    · rcases List.mem_append.1 hw with q | q
      · rcases List.mem_append.1 q with q | q
        · rcases List.mem_append.1 q with q | q
          · exact .inl (List.mem_cons_of_mem _ q)
          · exact .inr (.inl (List.mem_singleton.1 q))
        · exact .inr (.inr (.inl (List.mem_singleton.1 q)))
      · obtain ⟨e, z, e1, e3, rfl⟩ := (comI_mem _ _).1 q
        have hz := (hG e z e3).2.1.mono hv (Nat.zero_le _)
        exact .inr (.inr (.inr ⟨e, z, e3, cmI_Cm hv hc hy0 hz, cmI_T hv hc hy0 hz⟩))
theorem adF_inv : ∀ (f : Nat) (t : Nat → Option V) (w : List V), tbG P t → Inv P.n P.o (T P) (M P 0) (rdI P) us t (fun v => v ∈ w) → clM P t w ≤ f →
    Inv P.n P.o (T P) (M P 0) (rdI P) us (adF P f t w) (fun _ => False) := by
  have nl : ∀ (t : Nat → Option V) (w : List V), w.length = 0 → Inv P.n P.o (T P) (M P 0) (rdI P) us t (fun v => v ∈ w) → Inv P.n P.o (T P) (M P 0) (rdI P) us t (fun _ => False) := by
    intro t w hw h
    have e : w = [] := List.eq_nil_of_length_eq_zero hw
    subst e
    have e2 : (fun v : V => v ∈ ([] : List V)) = fun _ => False := by funext v; simp
    rw [e2] at h
    exact h
  intro f
  induction f with
  | zero =>
    intro t w hG h hM
    rw [adF]
    refine nl t w ?_ h
    unfold clM at hM; omega
  | succ f ih =>
    intro t w hG h hM
    rw [adF]
    split
    · rename_i hw; exact nl t w hw h
    · rename_i hw
      cases w with
      | nil => exact absurd rfl hw
      | cons x q =>
        have hxT : T P 0 x := h.wn _ List.mem_cons_self
        have hdec := adR_dec hv hc hG (q := q) hxT
        show Inv P.n P.o (T P) (M P 0) (rdI P) us (adF P f (adR P t q (siS P t x)).1 (adR P t q (siS P t x)).2) _
        refine ih _ _ (adR_G hv hc hp hG (fun z hz => h.wn z (List.mem_cons_of_mem _ hz)) hxT).1 (adR_inv hv hc hp hG h) ?_
        unfold clM at hM
        rw [List.length_cons] at hM
        omega
theorem adF_G : ∀ (f : Nat) (t : Nat → Option V) (w : List V), tbG P t → (∀ x ∈ w, T P 0 x) → tbG P (adF P f t w) := by
  intro f
  induction f with
  | zero => intro t w hG _; exact hG
  | succ f ih =>
    intro t w hG hw
    rw [adF]
    split
    · exact hG
    · rename_i hne
      cases w with
      | nil => exact absurd rfl hne
      | cons x q =>
        obtain ⟨g1, g2⟩ := adR_G hv hc hp hG (fun z hz => hw z (List.mem_cons_of_mem _ hz)) (hw x List.mem_cons_self)
        exact ih _ _ g1 g2
noncomputable def tbI (P : Pc) (us : List V) : Nat → Option V := adF P (clM P (fun _ => none) us) (fun _ => none) us
theorem tbI_G {us : List V} (hu : ∀ x ∈ us, T P 0 x) : tbG P (tbI P us) := adF_G hv hc hp _ _ us (fun d y h => by cases h) hu
theorem tbI_tbl {us : List V} (hu : ∀ x ∈ us, T P 0 x) : Tbl P.n P.o (T P) (M P 0) (tbI P us) ∧ ∀ x, Sg (T P 0) (M P 0) (tbI P us) P.n P.n x ↔ Gen (T P 0) (M P 0) (fun v => v ∈ us) x :=
  (adF_inv hv hc hp _ _ us (fun d y h => by cases h) (Inv.start (W := fun v => v ∈ us) hu) (Nat.le_refl _)).fin (lvl hv hc) T_top (rdI_rk hv hc)
noncomputable def rdR (P : Pc) (e : Nat) (w x : V) : V := M P 0 x (rep (M P 0) w (P.o e - x e).toNat)
omit hp in
theorem rdR_rk2 : ∀ e w x, e < P.n → T P e w → w e = 1 → T P 0 x → ∃ u, Cy (T P 0) (M P 0) w u ∧ T P e u ∧ rdR P e w x = M P 0 x u ∧ (x e + u e) % P.o e = 0 := by
  intro e w x he hw h1 hx
  have l := lvl hv hc
  have hr := hx.r e (Nat.zero_le e) he
  refine ⟨rep (M P 0) w (P.o e - x e).toNat, Cy.rep w _, (l.g e).rep hw _, rfl, ?_⟩
  rw [l.rep_lead he hw h1, Int.toNat_of_nonneg (by omega), Int.add_emod_emod, show x e + (P.o e - x e) = P.o e by omega, Int.emod_self]
noncomputable def dnI (P : Pc) (us : List V) (j : Nat) : Nat → Option V := dnG (rdR P) (tbI P us) P.n j
theorem dnI_can {us : List V} (hu : ∀ x ∈ us, T P 0 x) : Can2 P (Gen (T P 0) (M P 0) (fun v => v ∈ us)) (dnI P us P.n) := by
  obtain ⟨c, hs⟩ := tbI_tbl hv hc hp hu
  have l := lvl hv hc
  have e : Sg (T P 0) (M P 0) (tbI P us) P.n P.n = Gen (T P 0) (M P 0) (fun v => v ∈ us) := funext fun x => propext (hs x)
  have h := dnG_can hv hc (rdR_rk2 hv hc) l c (c.sub l (Nat.le_refl _))
  rw [e] at h
  exact h
theorem gen_sbg {us : List V} (hu : ∀ x ∈ us, T P 0 x) : Sbg (T P 0) (M P 0) (Gen (T P 0) (M P 0) (fun v => v ∈ us)) := by
  obtain ⟨c, hs⟩ := tbI_tbl hv hc hp hu
  have e : Sg (T P 0) (M P 0) (tbI P us) P.n P.n = Gen (T P 0) (M P 0) (fun v => v ∈ us) := funext fun x => propext (hs x)
  rw [← e]
  exact c.sub (lvl hv hc) (Nat.le_refl _)
theorem out_same {us : List V} (hu : ∀ x ∈ us, T P 0 x) : outS (dnI P us P.n) P.n = cloU P us :=
  outS_congr fun d hd => Can2.uniq hv hc (gen_sbg hv hc hp hu) (dnI_can hv hc hp hu) (dnS_can hv hc hp hu) hd
end
end Go.Proofs.YtnlfbimjcabgiaaGreat
namespace Go.Proofs.YtnlfbimjcabgiaaGreat
theorem ldV_eq {n : Nat} {P : Pc} {d : Nat} {y : V} (hd : d < n) (hT : T P d y) (h1 : y d = 1) : ldV n y = d := by
  obtain ⟨a1, a2, a3, a4⟩ := ldG_sp (x := y) n 0
  unfold ldV
  rcases Nat.lt_trichotomy (ldG y n 0) d with h | h | h
  · exact absurd (hT.z _ h) (a4 (by omega))
  · exact h
  · have := a3 d (Nat.zero_le d) h; omega
section
variable (os : List Int) (pw : List (List Int)) (cj : List (List (List Int)))
end
end Go.Proofs.YtnlfbimjcabgiaaGreat
