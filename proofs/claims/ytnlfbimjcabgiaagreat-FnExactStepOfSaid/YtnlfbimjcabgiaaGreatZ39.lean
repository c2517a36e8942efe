import Derived.Test.YtnlfbimjcabgiaaGreatZ36
set_option linter.unusedVariables false
set_option linter.unusedSimpArgs false
namespace Go.Proofs.YtnlfbimjcabgiaaGreat
def Cnl (P : Pc) (S : V → Prop) (l : List V) : Prop := ∃ dn, Can2 P S dn ∧ l = outS dn P.n
def GL (P : Pc) (us : List V) : V → Prop := Gen (T P 0) (M P 0) (fun v => v ∈ us)
theorem GL.le {P : Pc} {us : List V} {A : V → Prop} (hA : Sbg (T P 0) (M P 0) A) (h : ∀ u ∈ us, A u) {x : V} (hx : GL P us x) : A x := hx A hA h
theorem GL.of {P : Pc} {us : List V} {u : V} (h : u ∈ us) : GL P us u := fun A hA hu => hu u h
theorem outS_memd {dn : Nat → Option V} {n : Nat} {y : V} : y ∈ outS dn n ↔ ∃ d, d < n ∧ dn d = some y := by
  unfold outS
  rw [List.mem_filterMap]
  exact ⟨fun ⟨d, h1, h2⟩ => ⟨d, List.mem_range.1 h1, h2⟩, fun ⟨d, h1, h2⟩ => ⟨d, List.mem_range.2 h1, h2⟩⟩
theorem outS_cmp {dn dn' : Nat → Option V} {n : Nat} (h : ∀ d, d < n → dn d ≠ none → dn' d ≠ none) : ∀ k, k ≤ n → (outS dn k).length ≤ (outS dn' k).length ∧ ((outS dn k).length = (outS dn' k).length → ∀ d, d < k → dn' d ≠ none → dn d ≠ none) := by
  intro k
  induction k with
  | zero => intro _; exact ⟨Nat.le_refl _, fun _ d hd => by omega⟩
  | succ k ih =>
    intro hk
    obtain ⟨i1, i2⟩ := ih (by omega)
    have hkk := h k (by omega)
    cases h1 : dn k with
    | none =>
      rw [outS_none h1]
      cases h2 : dn' k with
      | none =>
        rw [outS_none h2]
        refine ⟨i1, fun e d hd => ?_⟩
        rcases Nat.lt_or_ge d k with q | q
        · exact i2 e d q
        · obtain rfl : d = k := by omega
          rw [h2]; exact fun q => absurd rfl q
      | some z =>
        rw [outS_some h2, List.length_append]
        exact ⟨by omega, fun e => by simp at e; omega⟩
    | some y =>
      rw [h1] at hkk
      cases h2 : dn' k with
      | none => exact absurd h2 (hkk (by simp))
      | some z =>
        rw [outS_some h1, outS_some h2, List.length_append, List.length_append]
        refine ⟨by simp; omega, fun e d hd => ?_⟩
        rcases Nat.lt_or_ge d k with q | q
        · exact i2 (by simp at e; omega) d q
        · obtain rfl : d = k := by omega
          rw [h1]; exact fun _ => by simp
section
variable {P : Pc} (hv : Val P) (hc : Con P 0)
include hv hc
theorem T_sbg : Sbg (T P 0) (M P 0) (T P 0) := (lvl hv hc).sbg 0
theorem sb_all {S A : V → Prop} (hS : Sbg (T P 0) (M P 0) S) (hA : Sbg (T P 0) (M P 0) A) (key : ∀ d, d < P.n → ∀ x, S x → T P d x → x d ≠ 0 → ∃ z, A z ∧ S z ∧ T P d z ∧ z d = 1) : ∀ x, S x → A x := by
  have l := lvl hv hc
  have go : ∀ f, f ≤ P.n → ∀ x, S x → T P (P.n - f) x → A x := by
    intro f
    induction f with
    | zero => intro _ x _ hx; rw [T_top x hx]; exact hA.e
    | succ f ih =>
      intro hf x hx hT
      have e : P.n - f = P.n - (f + 1) + 1 := by omega
      by_cases h0 : x (P.n - (f + 1)) = 0
      · exact ih (by omega) x hx (by rw [e]; exact l.up hT h0)
      · obtain ⟨z, z1, z2, z3, z4⟩ := key _ (by omega) x hx hT h0
        obtain ⟨u, u1, u2, u3, u4⟩ := rdR_rk2 hv hc _ z x (by omega) z3 z4 (hS.n hx)
        have hm : S (M P 0 x u) := hS.mu hx (u1 S hS z2)
        have hmT : T P (P.n - (f + 1)) (M P 0 x u) := (l.g _).cl hT u2
        have hz : M P 0 x u (P.n - (f + 1)) = 0 := by rw [l.lead (by omega) hT u2, u4]
        have := ih (by omega) _ hm (by rw [e]; exact l.up hmT hz)
        exact hA.r (l.g 0) (u1 A hA z1) (hS.n hx) this
  intro x hx
  exact go P.n (Nat.le_refl _) x hx (by rw [Nat.sub_self]; exact hS.n hx)
theorem Cnl.uniq {S : V → Prop} {l l' : List V} (hS : Sbg (T P 0) (M P 0) S) (h : Cnl P S l) (h' : Cnl P S l') : l = l' := by
  obtain ⟨dn, h1, rfl⟩ := h
  obtain ⟨dn', h2, rfl⟩ := h'
  exact outS_congr fun d hd => Can2.uniq hv hc hS h1 h2 hd
theorem Cnl.gen {S : V → Prop} {l : List V} (hS : Sbg (T P 0) (M P 0) S) (h : Cnl P S l) : S = GL P l := by
  obtain ⟨dn, h1, rfl⟩ := h
  funext x
  refine propext ⟨fun hx A hA hu => ?_, fun hx => hx S hS (fun u hu => ?_)⟩
  · refine sb_all hv hc hS hA (fun d hd x hx hT h0 => ?_) x hx
    cases hz : dn d with
    | none => exact absurd ⟨x, hx, hT, h0⟩ (h1.no d hd hz)
    | some z =>
      obtain ⟨_, a1, a2, a3, _⟩ := h1.el d z hz
      exact ⟨z, hu z (outS_memd.2 ⟨d, hd, hz⟩), a1, a2, a3⟩
  · obtain ⟨d, hd, hz⟩ := outS_memd.1 hu
    exact (h1.el d u hz).2.1
omit hv hc in
theorem Cnl.len {S : V → Prop} {l : List V} (h : Cnl P S l) : l.length ≤ P.n := by
  obtain ⟨dn, h1, rfl⟩ := h; exact outS_len
omit hv hc in
theorem Cnl.S {S : V → Prop} {l : List V} (h : Cnl P S l) {u : V} (hu : u ∈ l) : S u := by
  obtain ⟨dn, h1, rfl⟩ := h
  obtain ⟨d, hd, hz⟩ := outS_memd.1 hu
  exact (h1.el d u hz).2.1
omit hv hc in
theorem Cnl.at {S : V → Prop} {l : List V} (h : Cnl P S l) {u : V} (hu : u ∈ l) : ldV P.n u < P.n ∧ T P (ldV P.n u) u ∧ u (ldV P.n u) = 1 := by
  obtain ⟨dn, h1, rfl⟩ := h
  obtain ⟨d, hd, hz⟩ := outS_memd.1 hu
  obtain ⟨_, a1, a2, a3, _⟩ := h1.el d u hz
  rw [ldV_eq (P := P) hd a2 a3]
  exact ⟨hd, a2, a3⟩
theorem Cnl.cmp {S S' : V → Prop} {l l' : List V} (hS : Sbg (T P 0) (M P 0) S) (hS' : Sbg (T P 0) (M P 0) S') (h : Cnl P S l) (h' : Cnl P S' l') (hs : ∀ x, S x → S' x) : l.length ≤ l'.length ∧ (l.length = l'.length → S = S') := by
  obtain ⟨dn, h1, rfl⟩ := h
  obtain ⟨dn', h2, rfl⟩ := h'
  have hd : ∀ d, d < P.n → dn d ≠ none → dn' d ≠ none := fun d hd hz hz' => by
    cases hq : dn d with
    | none => exact hz hq
    | some z =>
      obtain ⟨_, a1, a2, a3, _⟩ := h1.el d z hq
      exact h2.no d hd hz' ⟨z, hs z a1, a2, by rw [a3]; omega⟩
  obtain ⟨c1, c2⟩ := outS_cmp hd P.n (Nat.le_refl _)
  refine ⟨c1, fun e => funext fun x => propext ⟨hs x, fun hx => ?_⟩⟩
  refine sb_all hv hc hS' hS (fun d hd x hx hT h0 => ?_) x hx
  have hd' : dn' d ≠ none := fun hz => h2.no d hd hz ⟨x, hx, hT, h0⟩
  have hdd := c2 e d hd hd'
  cases hz : dn d with
  | none => exact absurd hz hdd
  | some z =>
    obtain ⟨_, a1, a2, a3, _⟩ := h1.el d z hz
    exact ⟨z, a1, hs z a1, a2, a3⟩
theorem rep_inv {x : V} (hx : T P 0 x) : ∃ k, M P 0 (rep (M P 0) x k) x = z0 := by
  have l := lvl hv hc
  have g := l.g 0
  have go : ∀ f, f ≤ P.n → ∀ x, T P (P.n - f) x → ∃ k, rep (M P 0) x (k + 1) = z0 := by
    intro f
    induction f with
    | zero => intro _ x hx; exact ⟨0, by rw [T_top x hx]; exact g.rep_one g.e0⟩
    | succ f ih =>
      intro hf x hx
      obtain ⟨q1, q2⟩ := rep_lead hv (show P.n - (f + 1) < P.n by omega) hx (P.o (P.n - (f + 1))).toNat
      have ho := hv.o (P.n - (f + 1)) (by omega)
      have hz : rep (M P 0) x (P.o (P.n - (f + 1))).toNat (P.n - (f + 1)) = 0 := by
        rw [q2, Int.toNat_of_nonneg (by omega), Int.mul_emod_right]
      obtain ⟨k, hk⟩ := ih (by omega) _ (by rw [show P.n - f = P.n - (f + 1) + 1 by omega]; exact l.up q1 hz)
      have hx0 := hx.mono hv (Nat.zero_le _)
      have hm : ∀ j, rep (M P 0) (rep (M P 0) x (P.o (P.n - (f + 1))).toNat) j = rep (M P 0) x ((P.o (P.n - (f + 1))).toNat * j) := by
        intro j
        induction j with
        | zero => rfl
        | succ j ihj =>
          show M P 0 (rep (M P 0) (rep (M P 0) x (P.o (P.n - (f + 1))).toNat) j) _ = _
          rw [ihj, ← g.rep_add hx0]; rfl
      rw [hm] at hk
      obtain ⟨w, hw⟩ : ∃ w, (P.o (P.n - (f + 1))).toNat * (k + 1) = w + 1 := by
        have : 1 * 1 ≤ (P.o (P.n - (f + 1))).toNat * (k + 1) := Nat.mul_le_mul (by omega) (by omega)
        exact ⟨_, (Nat.sub_add_cancel (by omega)).symm⟩
      exact ⟨w, by rw [← hw]; exact hk⟩
  obtain ⟨k, hk⟩ := go P.n (Nat.le_refl _) x (by rw [Nat.sub_self]; exact hx)
  exact ⟨k, hk⟩
end
noncomputable def cjE (P : Pc) (a b : V) : V := M P 0 (inv P 0 b) (M P 0 a b)
def NG (P : Pc) (us bs : List V) (x : V) : Prop := ∀ A, Sbg (T P 0) (M P 0) A → (∀ u ∈ us, A u) → (∀ a b, A a → b ∈ bs → A (cjE P a b)) → A x
def CjB (P : Pc) (S : V → Prop) (b : V) : Prop := ∀ a, S a → S (cjE P a b)
section
variable {P : Pc} (hv : Val P) (hc : Con P 0)
include hv hc
theorem cjE_T {a b : V} (ha : T P 0 a) (hb : T P 0 b) : T P 0 (cjE P a b) ∧ M P 0 b (cjE P a b) = M P 0 a b := by
  have g := con_grp hv hc
  obtain ⟨i1, i2⟩ := inv_T g hb
  have h1 := g.cl i1 (g.cl ha hb)
  exact ⟨h1, ((conj_iff g ha hb h1).1 rfl).symm⟩
theorem cjE_eq {a b c : V} (ha : T P 0 a) (hb : T P 0 b) (hcT : T P 0 c) (h : M P 0 b c = M P 0 a b) : cjE P a b = c := by
  have g := con_grp hv hc
  exact (conj_iff g ha hb hcT).2 h.symm
theorem cjE_mul {a a' b : V} (ha : T P 0 a) (ha' : T P 0 a') (hb : T P 0 b) : cjE P (M P 0 a a') b = M P 0 (cjE P a b) (cjE P a' b) := by
  have g := con_grp hv hc
  obtain ⟨c1, c2⟩ := cjE_T hv hc ha hb
  obtain ⟨d1, d2⟩ := cjE_T hv hc ha' hb
  refine cjE_eq hv hc (g.cl ha ha') hb (g.cl c1 d1) ?_
  rw [← g.ac hb c1 d1, c2, g.ac ha hb d1, d2, g.ac ha ha' hb]
theorem cjE_e {b : V} (hb : T P 0 b) : cjE P z0 b = z0 := by
  have g := con_grp hv hc
  exact cjE_eq hv hc g.e0 hb g.e0 (by rw [g.r1 hb, g.l1 hb])
theorem cjE_id {a : V} (ha : T P 0 a) : cjE P a z0 = a := by
  have g := con_grp hv hc
  exact cjE_eq hv hc ha g.e0 ha (by rw [g.r1 ha, g.l1 ha])
theorem cjE_cj {a b c : V} (ha : T P 0 a) (hb : T P 0 b) (hcT : T P 0 c) : cjE P a (M P 0 b c) = cjE P (cjE P a b) c := by
  have g := con_grp hv hc
  obtain ⟨c1, c2⟩ := cjE_T hv hc ha hb
  obtain ⟨d1, d2⟩ := cjE_T hv hc c1 hcT
  refine cjE_eq hv hc ha (g.cl hb hcT) d1 ?_
  rw [g.ac hb hcT d1, d2, ← g.ac hb c1 hcT, c2, g.ac ha hb hcT]
theorem cj_sbg {S : V → Prop} (hS : Sbg (T P 0) (M P 0) S) {b : V} (hb : T P 0 b) : Sbg (T P 0) (M P 0) (fun a => T P 0 a ∧ S (cjE P a b)) := by
  have g := con_grp hv hc
  refine ⟨fun h => h.1, ⟨g.e0, by rw [cjE_e hv hc hb]; exact hS.e⟩, fun ⟨h1, h2⟩ ⟨h3, h4⟩ => ⟨g.cl h1 h3, by rw [cjE_mul hv hc h1 h3 hb]; exact hS.mu h2 h4⟩, fun {a a'} ⟨h1, h2⟩ h3 h4 => ⟨h3, ?_⟩⟩
  refine hS.iv h2 (cjE_T hv hc h3 hb).1 ?_
  rw [← cjE_mul hv hc h1 h3 hb, h4, cjE_e hv hc hb]
theorem CjB.of {S : V → Prop} (hS : Sbg (T P 0) (M P 0) S) {us : List V} (hu : S = GL P us) {b : V} (hb : T P 0 b) (h : ∀ u ∈ us, S (cjE P u b)) : CjB P S b := by
  intro a ha
  have ha' : GL P us a := by rw [← hu]; exact ha
  exact (ha' _ (cj_sbg hv hc hS hb) (fun u hu2 => ⟨hS.n (by rw [hu]; exact GL.of hu2), h u hu2⟩)).2
theorem CjB.sbg {S : V → Prop} (hS : Sbg (T P 0) (M P 0) S) : Sbg (T P 0) (M P 0) (fun b => T P 0 b ∧ CjB P S b) := by
  have g := con_grp hv hc
  have mu : ∀ {b c : V}, T P 0 b ∧ CjB P S b → T P 0 c ∧ CjB P S c → T P 0 (M P 0 b c) ∧ CjB P S (M P 0 b c) := fun {b c} ⟨h1, h2⟩ ⟨h3, h4⟩ => ⟨g.cl h1 h3, fun a ha => by rw [cjE_cj hv hc (hS.n ha) h1 h3]; exact h4 _ (h2 a ha)⟩
  have e : T P 0 z0 ∧ CjB P S z0 := ⟨g.e0, fun a ha => by rw [cjE_id hv hc (hS.n ha)]; exact ha⟩
  refine ⟨fun h => h.1, e, mu, fun {b b'} h h3 h4 => ?_⟩
  obtain ⟨k, hk⟩ := rep_inv hv hc h.1
  have hr : ∀ j, T P 0 (rep (M P 0) b j) ∧ CjB P S (rep (M P 0) b j) := by
    intro j
    induction j with
    | zero => exact e
    | succ j ih => exact mu ih h
  have : b' = rep (M P 0) b k := by
    obtain ⟨w, w1, w2, w3⟩ := g.iv h.1
    have e1 : b' = w := g.lc h.1 h3 w1 (by rw [h4, w3])
    rw [e1]
    exact g.rc h.1 w1 (g.rep h.1 k) (by rw [w2, hk])
  rw [this]
  exact hr k
theorem CjB.all {S : V → Prop} (hS : Sbg (T P 0) (M P 0) S) {bs : List V} (hb : ∀ b ∈ bs, T P 0 b ∧ CjB P S b) {b : V} (h : GL P bs b) : CjB P S b := (h _ (CjB.sbg hv hc hS) hb).2
theorem NG.sbg {us bs : List V} (hu : ∀ u ∈ us, T P 0 u) (hb : ∀ b ∈ bs, T P 0 b) : Sbg (T P 0) (M P 0) (NG P us bs) := by
  refine ⟨fun h => h _ (T_sbg hv hc) hu (fun a b ha hbb => (cjE_T hv hc ha (hb b hbb)).1), fun A hA _ _ => hA.e, fun h1 h2 A hA q1 q2 => hA.mu (h1 A hA q1 q2) (h2 A hA q1 q2), fun h1 h2 h3 A hA q1 q2 => hA.iv (h1 A hA q1 q2) h2 h3⟩
omit hv hc in
theorem NG.cj {us bs : List V} {b : V} (hb : b ∈ bs) : CjB P (NG P us bs) b := fun a ha A hA q1 q2 => q2 a b (ha A hA q1 q2) hb
omit hv hc in
theorem NG.of {us bs : List V} {u : V} (h : u ∈ us) : NG P us bs u := fun A hA q1 _ => q1 u h
omit hv hc in
theorem NG.eq {us bs : List V} {S : V → Prop} (hS : Sbg (T P 0) (M P 0) S) (h1 : ∀ u ∈ us, S u) (h2 : ∀ b ∈ bs, CjB P S b) (h3 : ∀ x, S x → NG P us bs x) : S = NG P us bs :=
  funext fun x => propext ⟨h3 x, fun h => h S hS h1 (fun a b ha hb => h2 b hb a ha)⟩
omit hv hc in
theorem NG.same {us us' bs : List V} (h1 : ∀ u ∈ us, NG P us' bs u) (h2 : ∀ u ∈ us', NG P us bs u) : NG P us bs = NG P us' bs :=
  funext fun x => propext ⟨fun h A hA q1 q2 => h A hA (fun u hu => h1 u hu A hA q1 q2) q2, fun h A hA q1 q2 => h A hA (fun u hu => h2 u hu A hA q1 q2) q2⟩
end
noncomputable def cjL (P : Pc) (us bs : List V) : List V := bs.flatMap fun b => us.map fun a => cjE P a b
theorem cjL_mem {P : Pc} {us bs : List V} {x : V} : x ∈ cjL P us bs ↔ ∃ b ∈ bs, ∃ a ∈ us, cjE P a b = x := by
  unfold cjL
  rw [List.mem_flatMap]
  exact ⟨fun ⟨b, h1, h2⟩ => ⟨b, h1, by obtain ⟨a, h3, h4⟩ := List.mem_map.1 h2; exact ⟨a, h3, h4⟩⟩, fun ⟨b, h1, a, h3, h4⟩ => ⟨b, h1, List.mem_map.2 ⟨a, h3, h4⟩⟩⟩
noncomputable def stF (P : Pc) (bs : List V) : Nat → List V → List V
  | 0, us => us
  | f + 1, us => if (cloU P (us ++ cjL P us bs)).length = us.length then cloU P (us ++ cjL P us bs) else stF P bs f (cloU P (us ++ cjL P us bs))
section
variable {P : Pc} (hv : Val P) (hc : Con P 0) (hp : ∀ d, d < P.n → pr4 (P.o d))
include hv hc hp
theorem GL_sbg {us : List V} (hu : ∀ x ∈ us, T P 0 x) : Sbg (T P 0) (M P 0) (GL P us) := gen_sbg hv hc hp hu
theorem clo_cn {us : List V} (hu : ∀ x ∈ us, T P 0 x) : Cnl P (GL P us) (cloU P us) := ⟨_, dnS_can hv hc hp hu, rfl⟩
theorem clo_T {us : List V} (hu : ∀ x ∈ us, T P 0 x) : ∀ x ∈ cloU P us, T P 0 x := fun x hx => (GL_sbg hv hc hp hu).n ((clo_cn hv hc hp hu).S hx)
theorem stF_cn {bs : List V} (hb : ∀ b ∈ bs, T P 0 b) : ∀ f us, (∀ x ∈ us, T P 0 x) → Cnl P (GL P us) us → P.n < us.length + f → Cnl P (NG P us bs) (stF P bs f us) := by
  intro f
  induction f with
  | zero => intro us hu h hl; have := h.len; omega
  | succ f ih =>
    intro us hu h hl
    rw [stF]
    have hL : ∀ x ∈ us ++ cjL P us bs, T P 0 x := fun x hx => by
      rcases List.mem_append.1 hx with q | q
      · exact hu x q
      · obtain ⟨b, h1, a, h2, rfl⟩ := cjL_mem.1 q
        exact (cjE_T hv hc (hu a h2) (hb b h1)).1
    have cn := clo_cn hv hc hp hL
    have s1 := GL_sbg hv hc hp hu
    have s2 := GL_sbg hv hc hp hL
    have hsub : ∀ x, GL P us x → GL P (us ++ cjL P us bs) x := fun x hx => hx.le s2 (fun u hu => GL.of (List.mem_append.2 (.inl hu)))
    obtain ⟨c1, c2⟩ := Cnl.cmp hv hc s1 s2 h cn hsub
    have hin : ∀ u ∈ us ++ cjL P us bs, NG P us bs u := fun u hq => by
      rcases List.mem_append.1 hq with q | q
      · exact NG.of q
      · obtain ⟨b, h1, a, h2, rfl⟩ := cjL_mem.1 q
        exact NG.cj h1 a (NG.of h2)
    split
    · rename_i he
      have e := c2 he.symm
      have : GL P us = NG P us bs := by
        refine NG.eq s1 (fun u hu => GL.of hu) (fun b hbb => ?_) (fun x hx => hx.le (NG.sbg hv hc hu hb) (fun u hu => NG.of hu))
        refine CjB.of hv hc s1 rfl (hb b hbb) (fun u hu2 => ?_)
        rw [e]
        exact GL.of (List.mem_append.2 (.inr (cjL_mem.2 ⟨b, hbb, u, hu2, rfl⟩)))
      rw [← this, e]
      exact cn
    · rename_i he
      have hT := clo_T hv hc hp hL
      have e := Cnl.gen hv hc s2 cn
      have cn2 := cn
      rw [e] at cn2
      have := ih _ hT cn2 (by omega)
      rw [NG.same (us := us) (us' := cloU P (us ++ cjL P us bs)) (bs := bs)]
      · exact this
      · intro u hu2
        have h3 : GL P (cloU P (us ++ cjL P us bs)) u := by rw [← e]; exact GL.of (List.mem_append.2 (.inl hu2))
        exact h3.le (NG.sbg hv hc hT hb) (fun v hv2 => NG.of hv2)
      · intro u hu2
        exact (cn.S hu2).le (NG.sbg hv hc hu hb) hin
end
end Go.Proofs.YtnlfbimjcabgiaaGreat
