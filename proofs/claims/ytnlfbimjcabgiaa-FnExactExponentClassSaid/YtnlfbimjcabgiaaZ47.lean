import Derived.Test.YtnlfbimjcabgiaaZ44
import Derived.Test.YtnlfbimjcabgiaaZ46
set_option linter.unusedVariables false
set_option linter.unusedSimpArgs false
namespace Go.Proofs.Ytnlfbimjcabgiaa
def unL (n : Nat) : List V := (List.range n).map un
theorem unL_len {n : Nat} : (unL n).length = n := by simp [unL]
theorem unL_get {n k : Nat} (h : k < n) : (unL n).getD k z0 = un k := by simp [unL, h]
def Cmt (P : Pc) (N : V → Prop) (x y : V) : Prop := ∃ c, N c ∧ M P 0 (M P 0 y x) c = M P 0 x y
section
variable {P : Pc} (hv : Val P) (hc : Con P 0)
include hv hc
theorem cmI_sp {x y : V} (hx : T P 0 x) (hy : T P 0 y) : T P 0 (cmI P x y) ∧ M P 0 (M P 0 y x) (cmI P x y) = M P 0 x y := by
  have g := con_grp hv hc
  obtain ⟨i1, i2⟩ := inv_T g hx
  obtain ⟨j1, j2⟩ := inv_T g hy
  have h1 := g.cl hx hy
  have h2 := g.cl j1 h1
  refine ⟨g.cl i1 h2, ?_⟩
  unfold cmI
  rw [g.ac hy hx (g.cl i1 h2), ← g.ac hx i1 h2, i2, g.l1 h2, ← g.ac hy j1 h1, j2, g.l1 h1]
omit hc in
theorem unV_T {j : Nat} (hj : j < P.n) : T P j (un j) ∧ un j j = 1 := by
  refine ⟨⟨fun k hk => ?_, fun k h1 h2 => ?_, fun k hk => ?_⟩, by simp [un, fset]⟩
  · have : k ≠ j := by omega
    simp [un, fset, z0, this]
  · have ho := hv.o k h2
    by_cases e : k = j
    · subst e; simp [un, fset]; omega
    · simp [un, fset, z0, e]; omega
  · have : k ≠ j := by omega
    simp [un, fset, z0, this]
omit hc in
theorem unL_T : ∀ x ∈ unL P.n, T P 0 x := by
  intro x hx
  unfold unL at hx
  obtain ⟨j, hj, rfl⟩ := List.mem_map.1 hx
  exact (unV_T hv (List.mem_range.1 hj)).1.mono hv (Nat.zero_le j)
omit hc in
theorem unL_cn : Cnl P (T P 0) (unL P.n) := by
  refine ⟨fun d => if d < P.n then some (un d) else none, ⟨fun d z hz => ?_, fun d hd hz => ?_⟩, ?_⟩
  · split at hz
    · rename_i hd
      cases hz
      obtain ⟨a1, a2⟩ := unV_T hv hd
      refine ⟨hd, a1.mono hv (Nat.zero_le d), a1, a2, fun e h1 h2 _ => ?_⟩
      have : e ≠ d := by omega
      simp [un, fset, z0, this]
    · cases hz
  · simp [hd] at hz
  · have : ∀ k, k ≤ P.n → (List.range k).map un = outS (fun d => if d < P.n then some (un d) else none) k := by
      intro k
      induction k with
      | zero => intro _; rfl
      | succ k ih => intro hk; rw [outS_some (y := un k) (by simp; omega), ← ih (by omega), List.range_succ, List.map_append]; rfl
    exact this P.n (Nat.le_refl _)
theorem unL_gen : T P 0 = GL P (unL P.n) := Cnl.gen hv hc (T_sbg hv hc) (unL_cn hv)
theorem nrm_of {S : V → Prop} (hS : Sbg (T P 0) (M P 0) S) (h : ∀ b ∈ unL P.n, CjB P S b) {b : V} (hb : T P 0 b) : CjB P S b :=
  CjB.all hv hc hS (bs := unL P.n) (fun b hbb => ⟨unL_T hv b hbb, h b hbb⟩) (by rw [← unL_gen hv hc]; exact hb)
section
variable {N : V → Prop} (hN : Sbg (T P 0) (M P 0) N)
include hN
theorem Cmt.sy {x y : V} (hx : T P 0 x) (hy : T P 0 y) (h : Cmt P N x y) : Cmt P N y x := by
  have g := con_grp hv hc
  obtain ⟨c, c1, c2⟩ := h
  obtain ⟨w, w1, w2, w3⟩ := g.iv (hN.n c1)
  refine ⟨w, hN.iv c1 w1 w3, ?_⟩
  rw [← c2, g.ac (g.cl hy hx) (hN.n c1) w1, w3, g.r1 (g.cl hy hx)]
theorem Cmt.sbg (hn : ∀ b, T P 0 b → CjB P N b) {u : V} (hu : T P 0 u) : Sbg (T P 0) (M P 0) (fun a => T P 0 a ∧ Cmt P N u a) := by
  have g := con_grp hv hc
  refine ⟨fun h => h.1, ⟨g.e0, z0, hN.e, by rw [g.l1 hu, g.r1 hu]⟩, ?_, ?_⟩
  · rintro a b ⟨ha, c, c1, c2⟩ ⟨hb, d, d1, d2⟩
    have c3 := hN.n c1
    have d3 := hN.n d1
    obtain ⟨e1, e2⟩ := cjE_T hv hc c3 hb
    refine ⟨g.cl ha hb, M P 0 d (cjE P c b), hN.mu d1 (hn b hb c c1), ?_⟩
    have hau := g.cl ha hu
    calc M P 0 (M P 0 (M P 0 a b) u) (M P 0 d (cjE P c b))
        = M P 0 (M P 0 a (M P 0 b u)) (M P 0 d (cjE P c b)) := by rw [g.ac ha hb hu]
      _ = M P 0 a (M P 0 (M P 0 b u) (M P 0 d (cjE P c b))) := by rw [g.ac ha (g.cl hb hu) (g.cl d3 e1)]
      _ = M P 0 a (M P 0 (M P 0 u b) (cjE P c b)) := by rw [← g.ac (g.cl hb hu) d3 e1, d2]
      _ = M P 0 a (M P 0 u (M P 0 c b)) := by rw [g.ac hu hb e1, e2]
      _ = M P 0 (M P 0 (M P 0 a u) c) b := by rw [← g.ac ha hu (g.cl c3 hb), ← g.ac hau c3 hb]
      _ = M P 0 u (M P 0 a b) := by rw [c2, g.ac hu ha hb]
  · rintro a b ⟨ha, c, c1, c2⟩ hb h0
    have c3 := hN.n c1
    obtain ⟨e1, e2⟩ := cjE_T hv hc c3 hb
    have e3 := hn b hb c c1
    have hba : M P 0 b a = z0 := by
      obtain ⟨w, w1, w2, w3⟩ := g.iv ha
      have : b = w := g.lc ha hb w1 (by rw [h0, w3])
      rw [this, w2]
    -- b u = u b c'
    have h1 : M P 0 b u = M P 0 (M P 0 u b) (cjE P c b) := by
      have h2 : M P 0 (M P 0 b u) a = M P 0 u c := by
        rw [g.ac hb hu ha, ← c2, ← g.ac hb (g.cl ha hu) c3, ← g.ac hb ha hu, hba, g.l1 hu]
      have h3 := congrArg (fun z => M P 0 z b) h2
      rw [g.ac (g.cl hb hu) ha hb, h0, g.r1 (g.cl hb hu), g.ac hu c3 hb, ← e2, ← g.ac hu hb e1] at h3
      exact h3
    obtain ⟨w, w1, w2, w3⟩ := g.iv e1
    refine ⟨hb, w, hN.iv e3 w1 w3, ?_⟩
    rw [h1, g.ac (g.cl hu hb) e1 w1, w3, g.r1 (g.cl hu hb)]
theorem Cmt.all (hn : ∀ b, T P 0 b → CjB P N b) {us vs : List V} (hus : ∀ x ∈ us, T P 0 x) (hvs : ∀ x ∈ vs, T P 0 x) (h : ∀ x ∈ us, ∀ y ∈ vs, Cmt P N x y) {a b : V} (ha : GL P us a) (hb : GL P vs b) : Cmt P N a b := by
  have h1 : ∀ x ∈ us, T P 0 b ∧ Cmt P N x b := fun x hx => hb _ (Cmt.sbg hv hc hN hn (hus x hx)) (fun y hy => ⟨hvs y hy, h x hx y hy⟩)
  have hbT := hb _ (T_sbg hv hc) hvs
  obtain ⟨h2, h3⟩ := ha _ (Cmt.sbg hv hc hN hn hbT) (fun x hx => ⟨hus x hx, Cmt.sy hv hc hN (hus x hx) hbT (h1 x hx).2⟩)
  exact Cmt.sy hv hc hN hbT h2 h3
end
end
noncomputable def coL (P : Pc) (us vs : List V) : List V := us.flatMap fun x => vs.map fun y => cmI P x y
theorem coL_mem {P : Pc} {us vs : List V} {z : V} : z ∈ coL P us vs ↔ ∃ x ∈ us, ∃ y ∈ vs, cmI P x y = z := by
  unfold coL
  rw [List.mem_flatMap]
  exact ⟨fun ⟨x, h1, h2⟩ => ⟨x, h1, by obtain ⟨y, h3, h4⟩ := List.mem_map.1 h2; exact ⟨y, h3, h4⟩⟩, fun ⟨x, h1, y, h3, h4⟩ => ⟨x, h1, List.mem_map.2 ⟨y, h3, h4⟩⟩⟩
noncomputable def ccL (P : Pc) (us bs : List V) : List V := stF P bs (P.n + 1) (cloU P us)
noncomputable def cmL (P : Pc) (us vs : List V) : List V := ccL P (coL P us vs) (us ++ vs)
noncomputable def exG (P : Pc) (q : Int) (us : List V) : List V := cmL P us (unL P.n) ++ us.map fun x => pwV P x q
noncomputable def exN (P : Pc) (q : Int) (us : List V) : List V := cloU P (exG P q us)
noncomputable def exK (P : Pc) (q : Int) : Nat → List V → List (List V)
  | 0, us => [us]
  | f + 1, us => if (exN P q us).length = us.length then [us] else us :: exK P q f (exN P q us)
section
variable {P : Pc} (hv : Val P) (hc : Con P 0) (hp : ∀ d, d < P.n → pr4 (P.o d))
include hv hc hp
theorem ccL_cn {us bs : List V} (hu : ∀ x ∈ us, T P 0 x) (hb : ∀ b ∈ bs, T P 0 b) : Cnl P (NG P us bs) (ccL P us bs) := by
  have cn := clo_cn hv hc hp hu
  have s1 := GL_sbg hv hc hp hu
  have e := Cnl.gen hv hc s1 cn
  have hT := clo_T hv hc hp hu
  have cn2 := cn
  rw [e] at cn2
  have := stF_cn hv hc hp hb (P.n + 1) (cloU P us) hT cn2 (by omega)
  rw [NG.same (us := us) (us' := cloU P us) (bs := bs)]
  · exact this
  · intro u hu2
    have h3 : GL P (cloU P us) u := by rw [← e]; exact GL.of hu2
    exact h3.le (NG.sbg hv hc hT hb) (fun v hv2 => NG.of hv2)
  · intro u hu2
    exact (cn.S hu2).le (NG.sbg hv hc hu hb) (fun v hv2 => NG.of hv2)
omit hp in
theorem coL_T {us vs : List V} (hu : ∀ x ∈ us, T P 0 x) (hw : ∀ x ∈ vs, T P 0 x) : ∀ z ∈ coL P us vs, T P 0 z := by
  intro z hz
  obtain ⟨x, hx, y, hy, rfl⟩ := coL_mem.1 hz
  exact (cmI_sp hv hc (hu x hx) (hw y hy)).1
omit hv hc hp in
theorem apL_T {us vs : List V} (hu : ∀ x ∈ us, T P 0 x) (hw : ∀ x ∈ vs, T P 0 x) : ∀ z ∈ us ++ vs, T P 0 z := fun z hz => by
  rcases List.mem_append.1 hz with q | q
  · exact hu z q
  · exact hw z q
theorem cmL_cn {us vs : List V} (hu : ∀ x ∈ us, T P 0 x) (hw : ∀ x ∈ vs, T P 0 x) : Cnl P (NG P (coL P us vs) (us ++ vs)) (cmL P us vs) :=
  ccL_cn hv hc hp (coL_T hv hc hu hw) (apL_T hu hw)
theorem cmL_T {us vs : List V} (hu : ∀ x ∈ us, T P 0 x) (hw : ∀ x ∈ vs, T P 0 x) : ∀ z ∈ cmL P us vs, T P 0 z :=
  fun z hz => (NG.sbg hv hc (coL_T hv hc hu hw) (apL_T hu hw)).n ((cmL_cn hv hc hp hu hw).S hz)
theorem exG_T {q : Int} {us : List V} (hu : ∀ x ∈ us, T P 0 x) : ∀ z ∈ exG P q us, T P 0 z := by
  refine apL_T (cmL_T hv hc hp hu (unL_T hv)) (fun z hz => ?_)
  obtain ⟨x, hx, rfl⟩ := List.mem_map.1 hz
  exact (Cy.pw hv hc (hu x hx) q _ (T_sbg hv hc) (hu x hx))
theorem exN_T {q : Int} {us : List V} (hu : ∀ x ∈ us, T P 0 x) : ∀ z ∈ exN P q us, T P 0 z := clo_T hv hc hp (exG_T hv hc hp hu)
theorem exN_sp {q : Int} {us : List V} (hu : ∀ x ∈ us, T P 0 x) (hn : ∀ b, T P 0 b → CjB P (GL P us) b) :
    Cnl P (GL P (exN P q us)) (exN P q us) ∧ (∀ x, GL P (exN P q us) x → GL P us x) ∧ ∀ b, T P 0 b → CjB P (GL P (exN P q us)) b := by
  have g := con_grp hv hc
  have hU := unL_T hv
  have hG := exG_T hv hc hp hu (q := q)
  have hco := coL_T hv hc hu hU
  have hap := apL_T hu hU
  have s1 := GL_sbg hv hc hp hu
  have s2 := GL_sbg hv hc hp hG
  have s3 := NG.sbg hv hc hco hap
  have cn := clo_cn hv hc hp hG
  have e : GL P (exG P q us) = GL P (exN P q us) := Cnl.gen hv hc s2 cn
  have e3 := Cnl.gen hv hc s3 (cmL_cn hv hc hp hu hU)
  have hN : ∀ x, NG P (coL P us (unL P.n)) (us ++ unL P.n) x → GL P (exG P q us) x := fun x hx => by
    rw [e3] at hx
    exact hx.le s2 (fun u hu => GL.of (List.mem_append.2 (.inl hu)))
  have hNn : ∀ b, T P 0 b → CjB P (NG P (coL P us (unL P.n)) (us ++ unL P.n)) b := fun b hb => nrm_of hv hc s3 (fun b hbb => NG.cj (List.mem_append.2 (.inr hbb))) hb
  rw [← e]
  refine ⟨cn, fun x hx => ?_, fun b hb => nrm_of hv hc s2 (fun b hbb => CjB.of hv hc s2 rfl (hU b hbb) (fun u hu2 => ?_)) hb⟩
  · refine hx.le s1 (fun u hu2 => ?_)
    rcases List.mem_append.1 hu2 with h | h
    · have h3 : NG P (coL P us (unL P.n)) (us ++ unL P.n) u := (cmL_cn hv hc hp hu hU).S h
      refine h3 _ s1 (fun z hz => ?_) (fun a b ha hb => hn b (hap b hb) a ha)
      obtain ⟨x, hx, y, hy, rfl⟩ := coL_mem.1 hz
      have hxT := hu x hx
      have hyT := hU y hy
      obtain ⟨d1, d2⟩ := cmI_sp hv hc hxT hyT
      have hxS : GL P us x := GL.of hx
      -- y (x c) = x y = y (x^y)
      obtain ⟨f1, f2⟩ := cjE_T hv hc hxT hyT
      have h5 : M P 0 x (cmI P x y) = cjE P x y := g.lc hyT (g.cl hxT d1) f1 (by rw [← g.ac hyT hxT d1, d2, f2])
      exact s1.l g hxS d1 (by rw [h5]; exact hn y hyT x hxS)
    · obtain ⟨x, hx, rfl⟩ := List.mem_map.1 h
      exact Cy.pw hv hc (hu x hx) q _ s1 (GL.of hx)
  · have hbT := hU b hbb
    rcases List.mem_append.1 hu2 with h | h
    · exact hN _ (hNn b hbT u ((cmL_cn hv hc hp hu hU).S h))
    · obtain ⟨x, hx, rfl⟩ := List.mem_map.1 h
      have hxT := hu x hx
      have hpT := Cy.pw hv hc hxT q _ (T_sbg hv hc) hxT
      have hpS : GL P us (pwV P x q) := Cy.pw hv hc hxT q _ s1 (GL.of hx)
      obtain ⟨c, c1, c2⟩ := Cmt.all hv hc s3 hNn hu hU (fun x hx y hy => ⟨cmI P x y, NG.of (coL_mem.2 ⟨x, hx, y, hy, rfl⟩), (cmI_sp hv hc (hu x hx) (hU y hy)).2⟩) hpS (show GL P (unL P.n) b from GL.of hbb)
      have h5 : cjE P (pwV P x q) b = M P 0 (pwV P x q) c := cjE_eq hv hc hpT hbT (g.cl hpT (s3.n c1)) (by rw [← c2, g.ac hbT hpT (s3.n c1)])
      rw [h5]
      exact s2.mu (GL.of (List.mem_append.2 (.inr (List.mem_map.2 ⟨x, hx, rfl⟩)))) (hN c c1)
def ExP (P : Pc) (us : List V) : Prop := (∀ x ∈ us, T P 0 x) ∧ Cnl P (GL P us) us ∧ ∀ b, T P 0 b → CjB P (GL P us) b
omit hp in
theorem ExP.first : ExP P (unL P.n) := by
  refine ⟨unL_T hv, ?_, ?_⟩
  · rw [← unL_gen hv hc]; exact unL_cn hv
  · rw [← unL_gen hv hc]; exact fun b hb a ha => (cjE_T hv hc ha hb).1
theorem ExP.next {q : Int} {us : List V} (h : ExP P us) : ExP P (exN P q us) ∧ (exN P q us).length ≤ us.length ∧ ((exN P q us).length = us.length → exN P q us = us) := by
  obtain ⟨h1, h2, h3⟩ := h
  obtain ⟨n1, n2, n3⟩ := exN_sp hv hc hp h1 h3 (q := q)
  have hT := exN_T hv hc hp h1 (q := q)
  have s1 := GL_sbg hv hc hp h1
  have s2 := GL_sbg hv hc hp hT
  obtain ⟨c1, c2⟩ := Cnl.cmp hv hc s2 s1 n1 h2 n2
  refine ⟨⟨hT, n1, n3⟩, c1, fun e => ?_⟩
  have e2 := c2 e
  rw [e2] at n1
  exact Cnl.uniq hv hc s1 n1 h2
end
end Go.Proofs.Ytnlfbimjcabgiaa
namespace Go.Proofs.Ytnlfbimjcabgiaa
def SpT (P : Pc) (t : Nat → Option V) : V → Prop := Sg (T P 0) (M P 0) t P.n P.n
theorem frN_ext {t t' : Nat → Option V} (h : ∀ d y, t d = some y → t' d = some y) : ∀ k, frN t' k ≤ frN t k ∧ ∀ d, d < k → t d = none → t' d ≠ none → frN t' k < frN t k := by
  intro k
  induction k with
  | zero => exact ⟨Nat.le_refl _, fun d hd => by omega⟩
  | succ k ih =>
    obtain ⟨i1, i2⟩ := ih
    cases hk : t k with
    | none =>
      by_cases hk2 : t' k = none
      · have e1 : frN t (k + 1) = frN t k + 1 := by rw [frN, hk]
        have e2 : frN t' (k + 1) = frN t' k + 1 := by rw [frN, hk2]
        rw [e1, e2]
        refine ⟨by omega, fun d hd h1 h2 => ?_⟩
        rcases Nat.lt_or_ge d k with q | q
        · have := i2 d q h1 h2; omega
        · obtain rfl : d = k := by omega
          exact absurd hk2 h2
      · obtain ⟨y, hy⟩ : ∃ y, t' k = some y := by
          cases hq : t' k with
          | none => exact absurd hq hk2
          | some y => exact ⟨y, rfl⟩
        have e1 : frN t (k + 1) = frN t k + 1 := by rw [frN, hk]
        have e2 : frN t' (k + 1) = frN t' k := by rw [frN, hy]
        rw [e1, e2]
        exact ⟨by omega, fun d hd h1 h2 => by omega⟩
    | some y =>
      have hy := h k y hk
      have e1 : frN t (k + 1) = frN t k := by rw [frN, hk]
      have e2 : frN t' (k + 1) = frN t' k := by rw [frN, hy]
      rw [e1, e2]
      refine ⟨i1, fun d hd h1 h2 => ?_⟩
      rcases Nat.lt_or_ge d k with q | q
      · exact i2 d q h1 h2
      · obtain rfl : d = k := by omega
        rw [hk] at h1; cases h1
section
variable {P : Pc} (hv : Val P) (hc : Con P 0) (hp : ∀ d, d < P.n → pr4 (P.o d))
include hv hc
theorem sft_mem {t : Nat → Option V} (c : Tbl P.n P.o (T P) (M P 0) t) {x : V} (hx : SpT P t x) : (sft (rdI P) t P.n P.n x).1 = P.n := by
  have l := lvl hv hc
  have rk : ∀ d y x, d < P.n → t d = some y → T P d x → Sm (T P 0) (M P 0) y x (rdI P d y x) ∧ T P (d + 1) (rdI P d y x) := fun d y x h1 h2 h3 => rdI_rk hv hc d y x h1 (c.tb d y h2).2.1 (c.tb d y h2).2.2 h3
  have hS := c.sub l (Nat.le_refl _)
  have hxT : T P (P.n - P.n) x := by rw [Nat.sub_self]; exact hS.n hx
  rcases sft_stop (rd := rdI P) (t := t) P.n (Nat.le_refl _) x with h | ⟨h1, h2, h3, h4⟩
  · exact h
  · have hm : ∀ d y, t d = some y → SpT P t y := fun d y hy => by
      have := c.down l (Nat.zero_le d) (Nat.le_of_lt (c.tb d y hy).1) (c.mem l hy)
      rwa [Nat.sub_zero] at this
    have hg := (sft_gen l rk hS hm P.n (Nat.le_refl _) x hxT).1 hx
    have hN := sft_in l rk P.n (Nat.le_refl _) x hxT
    exact absurd h3 ((c.depth l h2).2 ⟨_, hg, hN, h4⟩)
theorem tbl_spm {t : Nat → Option V} (c : Tbl P.n P.o (T P) (M P 0) t) {d : Nat} {y : V} (hy : t d = some y) : SpT P t y := by
  have l := lvl hv hc
  have := c.down l (Nat.zero_le d) (Nat.le_of_lt (c.tb d y hy).1) (c.mem l hy)
  rwa [Nat.sub_zero] at this
theorem spT_sbg {t : Nat → Option V} (c : Tbl P.n P.o (T P) (M P 0) t) : Sbg (T P 0) (M P 0) (SpT P t) := c.sub (lvl hv hc) (Nat.le_refl _)
theorem inv_again {t : Nat → Option V} (c : Tbl P.n P.o (T P) (M P 0) t) {us : List V} (hu : ∀ x ∈ us, T P 0 x) :
    Inv P.n P.o (T P) (M P 0) (rdI P) (fun v => SpT P t v ∨ v ∈ us) t (fun v => v ∈ us) := by
  have l := lvl hv hc
  have hS := spT_sbg hv hc c
  have dn : ∀ {d x}, d < P.n → Sg (T P 0) (M P 0) t P.n (P.n - (d + 1)) x → SpT P t x := fun {d x} hd hx => by
    have := c.down l (Nat.zero_le (d + 1)) (by omega) hx
    rwa [Nat.sub_zero] at this
  refine ⟨c.tb, hu, fun d e y z h1 h2 h3 => ?_, fun d y h => ?_, fun d y h A hA q => q y (.inl (tbl_spm hv hc c h)), fun v h A hA q => q v (.inr h), fun u h => ?_⟩
  · obtain ⟨w, w1, w2⟩ := c.cm d e y z h1 h2 h3
    have := dn (c.tb d y h1).1 w1
    exact ⟨w, hS.n this, .inl w2, .inl (sft_mem hv hc c this)⟩
  · exact .inl (sft_mem hv hc c (dn (c.tb d y h).1 (c.pw d y h)))
  · rcases h with h | h
    · exact fun A hA q => Sg.least (l.g 0) hA (fun d y hy => q y (.inr ⟨d, hy⟩)) P.n u h
    · exact fun A hA q => q u (.inl h)
include hp
theorem adF_ext : ∀ (f : Nat) (t : Nat → Option V) (w : List V), tbG P t → (∀ x ∈ w, T P 0 x) → ∀ d y, t d = some y → adF P f t w d = some y := by
  intro f
  induction f with
  | zero => intro t w _ _ d y h; exact h
  | succ f ih =>
    intro t w hG hw d y hy
    rw [adF]
    split
    · exact hy
    · rename_i hne
      cases w with
      | nil => exact absurd rfl hne
      | cons x q =>
        have hx := hw x List.mem_cons_self
        obtain ⟨g1, g2⟩ := adR_G hv hc hp hG (fun z hz => hw z (List.mem_cons_of_mem _ hz)) hx
        refine ih _ _ g1 g2 d y ?_
        show (adR P t q (siS P t x)).1 d = some y
        obtain ⟨s1, s2, s3⟩ := siS_sp hv hc hG hx
        unfold adR
        split
        · exact hy
        · rename_i hs
          show oset t (siS P t x).1 _ d = some y
          unfold oset
          split
          · rename_i e
            have := (s3 (by omega)).1
            rw [← e, hy] at this; cases this
          · exact hy
theorem adT_sp {t : Nat → Option V} (hG : tbG P t) (c : Tbl P.n P.o (T P) (M P 0) t) {us : List V} (hu : ∀ x ∈ us, T P 0 x) :
    tbG P (adT P t us) ∧ Tbl P.n P.o (T P) (M P 0) (adT P t us) ∧ (∀ x, SpT P (adT P t us) x ↔ Gen (T P 0) (M P 0) (fun v => SpT P t v ∨ v ∈ us) x) ∧ (∀ d y, t d = some y → adT P t us d = some y) ∧ (adT P t us ≠ t → frN (adT P t us) P.n < frN t P.n) := by
  have h1 := adF_G hv hc hp (clM P t us) t us hG hu
  have h2 := (adF_inv hv hc hp _ _ us hG (inv_again hv hc c hu) (Nat.le_refl _)).fin (lvl hv hc) T_top (rdI_rk hv hc)
  have h3 := adF_ext hv hc hp (clM P t us) t us hG hu
  refine ⟨h1, h2.1, h2.2, h3, fun hne => ?_⟩
  have : ∃ d, adT P t us d ≠ t d := Classical.byContradiction fun q => hne (funext fun d => Classical.byContradiction fun q2 => q ⟨d, q2⟩)
  obtain ⟨d, hd⟩ := this
  have ht : t d = none := by
    cases hq : t d with
    | none => rfl
    | some y => exact absurd ((h3 d y hq).trans hq.symm) hd
  rw [ht] at hd
  have hdn : d < P.n := by
    cases hq : adT P t us d with
    | none => exact absurd hq hd
    | some y => exact (h1 d y hq).1
  exact (frN_ext h3 P.n).2 d hdn ht hd
omit hp in
theorem outR_cn {t : Nat → Option V} (c : Tbl P.n P.o (T P) (M P 0) t) : Cnl P (SpT P t) (outR P t 0) :=
  ⟨_, dnG_can hv hc (rdR_rk2 hv hc) (lvl hv hc) c (spT_sbg hv hc c), rfl⟩
structure ClI (P : Pc) (us bs : List V) (t : Nat → Option V) : Prop where
  G : tbG P t
  c : Tbl P.n P.o (T P) (M P 0) t
  a : ∀ u ∈ us, SpT P t u
  b : ∀ x, SpT P t x → NG P us bs x
theorem ClI.start {us bs : List V} (hu : ∀ x ∈ us, T P 0 x) (hb : ∀ x ∈ bs, T P 0 x) : ClI P us bs (adT P (fun _ => none) us) := by
  obtain ⟨c, hs⟩ := tbI_tbl hv hc hp hu
  exact ⟨tbI_G hv hc hp hu, c, fun u h => (hs u).2 (GL.of h), fun x hx => ((hs x).1 hx) _ (NG.sbg hv hc hu hb) (fun u h => NG.of h)⟩
theorem ClI.next {us bs : List V} {t : Nat → Option V} (h : ClI P us bs t) (hu : ∀ x ∈ us, T P 0 x) (hb : ∀ x ∈ bs, T P 0 x) {ws : List V} {b : V} (hbb : b ∈ bs) (hw : ∀ w ∈ ws, SpT P t w) :
    ClI P us bs (adT P t (ws.map fun a => cjE P a b)) ∧ (∀ x, SpT P t x → SpT P (adT P t (ws.map fun a => cjE P a b)) x) ∧ (∀ w ∈ ws, SpT P (adT P t (ws.map fun a => cjE P a b)) (cjE P w b)) ∧ (adT P t (ws.map fun a => cjE P a b) = t ∨ frN (adT P t (ws.map fun a => cjE P a b)) P.n < frN t P.n) ∧ ∀ d y, t d = some y → adT P t (ws.map fun a => cjE P a b) d = some y := by
  have hS := spT_sbg hv hc h.c
  have hT : ∀ x ∈ ws.map (fun a => cjE P a b), T P 0 x := fun x hx => by
    obtain ⟨a, ha, rfl⟩ := List.mem_map.1 hx
    exact (cjE_T hv hc (hS.n (hw a ha)) (hb b hbb)).1
  obtain ⟨g1, g2, g3, g4, g5⟩ := adT_sp hv hc hp h.G h.c hT
  have up : ∀ x, SpT P t x → SpT P (adT P t (ws.map fun a => cjE P a b)) x := fun x hx => (g3 x).2 (fun A hA q => q x (.inl hx))
  refine ⟨⟨g1, g2, fun u hu2 => up u (h.a u hu2), fun x hx => (g3 x).1 hx _ (NG.sbg hv hc hu hb) (fun v hv2 => ?_)⟩, up, fun w hw2 => (g3 _).2 (fun A hA q => q _ (.inr (List.mem_map.2 ⟨w, hw2, rfl⟩))), (Classical.em _).imp id g5, g4⟩
  rcases hv2 with h1 | h1
  · exact h.b v h1
  · obtain ⟨a, ha, rfl⟩ := List.mem_map.1 h1
    exact NG.cj hbb a (h.b a (hw a ha))
theorem ClI.fin {us bs : List V} {t : Nat → Option V} (h : ClI P us bs t) (hu : ∀ x ∈ us, T P 0 x) (hb : ∀ x ∈ bs, T P 0 x) (hcl : ∀ b ∈ bs, ∀ a ∈ outR P t 0, SpT P t (cjE P a b)) : outR P t 0 = ccL P us bs := by
  have hS := spT_sbg hv hc h.c
  have cn := outR_cn hv hc h.c
  have e := Cnl.gen hv hc hS cn
  have : SpT P t = NG P us bs := NG.eq hS h.a (fun b hbb => CjB.of hv hc hS e (hb b hbb) (hcl b hbb)) h.b
  refine Cnl.uniq hv hc (NG.sbg hv hc hu hb) ?_ (ccL_cn hv hc hp hu hb)
  rw [← this]
  exact cn
end
end Go.Proofs.Ytnlfbimjcabgiaa
