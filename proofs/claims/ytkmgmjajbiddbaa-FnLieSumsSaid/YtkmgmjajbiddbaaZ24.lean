import Derived.Test.YtkmgmjajbiddbaaZ16
import Derived.Test.YtkmgmjajbiddbaaZ21
import Derived.Test.YtkmgmjajbiddbaaZ23
set_option linter.unusedVariables false
set_option linter.unusedSimpArgs false
namespace Go.Proofs.Ytkmgmjajbiddbaa
open Nat (reduceAdd reduceSub reduceGT reduceEqDiff reduceMul)
def isInv (p a y : Int) : Prop := 1 ≤ y ∧ y < p ∧ a * y % p = 1
theorem inv_ex {p a : Int} (hp : pr4 p) (h1 : 1 ≤ a) (h2 : a < p) : ∃ y, isInv p a y := by
  rcases hp with rfl | rfl | rfl | rfl
  · exact ⟨1, by omega, by omega, by omega⟩
  · rcases (show a = 1 ∨ a = 2 by omega) with rfl | rfl
    · exact ⟨1, by decide, by decide, by decide⟩
    · exact ⟨2, by decide, by decide, by decide⟩
  · rcases (show a = 1 ∨ a = 2 ∨ a = 3 ∨ a = 4 by omega) with rfl | rfl | rfl | rfl
    · exact ⟨1, by decide, by decide, by decide⟩
    · exact ⟨3, by decide, by decide, by decide⟩
    · exact ⟨2, by decide, by decide, by decide⟩
    · exact ⟨4, by decide, by decide, by decide⟩
  · rcases (show a = 1 ∨ a = 2 ∨ a = 3 ∨ a = 4 ∨ a = 5 ∨ a = 6 by omega) with rfl | rfl | rfl | rfl | rfl | rfl
    · exact ⟨1, by decide, by decide, by decide⟩
    · exact ⟨4, by decide, by decide, by decide⟩
    · exact ⟨5, by decide, by decide, by decide⟩
    · exact ⟨2, by decide, by decide, by decide⟩
    · exact ⟨3, by decide, by decide, by decide⟩
    · exact ⟨6, by decide, by decide, by decide⟩
noncomputable def invP (p a : Int) : Int := Classical.epsilon (isInv p a)
theorem invP_ok {p a : Int} (hp : pr4 p) (h1 : 1 ≤ a) (h2 : a < p) : isInv p a (invP p a) := Classical.epsilon_spec (inv_ex hp h1 h2)
end Go.Proofs.Ytkmgmjajbiddbaa
namespace Go.Proofs.Ytkmgmjajbiddbaa
section
variable {p : Int} {pw : List (List Int)}
theorem dep_ge {a : List Int} {d : Nat} (hd : d ≤ a.length) (h : ∀ j, j < d → a.getD j 0 = 0) : d ≤ dep a := by
  rcases Nat.lt_or_ge (dep a) d with hlt | hge
  · exact absurd (h _ hlt) (dep_nz (by omega))
  · exact hge
def insL (x : List Int) : List (List Int) → List (List Int)
  | [] => [x]
  | v :: u => if dep v < dep x then v :: insL x u else x :: v :: u
theorem mem_ins {x b : List Int} : ∀ {u : List (List Int)}, b ∈ insL x u ↔ b = x ∨ b ∈ u := by
  intro u
  induction u with
  | nil => simp [insL]
  | cons v u ih =>
    simp only [insL]
    split
    · simp only [List.mem_cons, ih]
      constructor
      · rintro (h | h | h)
        · exact .inr (.inl h)
        · exact .inl h
        · exact .inr (.inr h)
      · rintro (h | h | h)
        · exact .inr (.inl h)
        · exact .inl h
        · exact .inr (.inr h)
    · simp only [List.mem_cons]
def Asc (u : List (List Int)) : Prop := ∀ k l, k < l → l < u.length → dep (u.getD k []) < dep (u.getD l [])
theorem Asc.cons {v : List Int} {u : List (List Int)} : Asc (v :: u) ↔ (∀ b ∈ u, dep v < dep b) ∧ Asc u := by
  constructor
  · intro h
    refine ⟨fun b hb => ?_, fun k l h1 h2 => by simpa using h (k + 1) (l + 1) (by omega) (by simpa using h2)⟩
    obtain ⟨k, hk, rfl⟩ := mem_ix (d := []) hb
    simpa using h 0 (k + 1) (by omega) (by simpa using hk)
  · rintro ⟨h1, h2⟩ k l hkl hl
    cases l with
    | zero => omega
    | succ l =>
      cases k with
      | zero => simpa using h1 _ (ix_mem (d := []) (by simpa using hl))
      | succ k => simpa using h2 k l (by omega) (by simpa using hl)
theorem Asc.ins {x : List Int} : ∀ {u : List (List Int)}, Asc u → (∀ b ∈ u, dep b ≠ dep x) → Asc (insL x u) := by
  intro u
  induction u with
  | nil => intro _ _; exact Asc.cons.2 ⟨by simp, fun k l h1 h2 => by simp at h2⟩
  | cons v u ih =>
    intro h hne
    obtain ⟨h1, h2⟩ := Asc.cons.1 h
    simp only [insL]
    split
    · rename_i hlt
      refine Asc.cons.2 ⟨fun b hb => ?_, ih h2 (fun b hb => hne b (by simp [hb]))⟩
      rcases mem_ins.1 hb with rfl | hb
      · exact hlt
      · exact h1 b hb
    · rename_i hge
      have := hne v (by simp)
      refine Asc.cons.2 ⟨fun b hb => ?_, h⟩
      rcases List.mem_cons.1 hb with rfl | hb
      · omega
      · have := h1 b hb; omega
theorem Asc.drop {u : List (List Int)} (h : Asc u) (k : Nat) : Asc (u.drop k) := by
  intro i j hij hj
  simp only [List.length_drop] at hj
  have := h (k + i) (k + j) (by omega) (by omega)
  simpa using this
theorem Ech.mk' {n : Nat} {u : List (List Int)} (h1 : ∀ b ∈ u, El p n b) (h2 : ∀ b ∈ u, dep b < n) (h3 : ∀ b ∈ u, b.getD (dep b) 0 = 1) (h4 : Asc u) : Ech p n u := by
  refine ⟨⟨h1, h2, h3, ?_⟩, h4⟩
  intro b hb c hc he
  obtain ⟨k, hk, rfl⟩ := mem_ix (d := []) hb
  obtain ⟨l, hl, rfl⟩ := mem_ix (d := []) hc
  rcases Nat.lt_trichotomy k l with h | h | h
  · have := h4 k l h hl; omega
  · rw [h]
  · have := h4 l k h hk; omega
theorem Ech.drop {n : Nat} {u : List (List Int)} (h : Ech p n u) (k : Nat) : Ech p n (u.drop k) :=
  Ech.mk' (fun b hb => h.el b (List.mem_of_mem_drop hb)) (fun b hb => h.lt b (List.mem_of_mem_drop hb)) (fun b hb => h.one b (List.mem_of_mem_drop hb)) (Asc.drop h.asc k)
theorem Ech.nil {n : Nat} : Ech p n [] := Ech.mk' (by simp) (by simp) (by simp) (fun k l h1 h2 => by simp at h2)
theorem Ech.len {n : Nat} {u : List (List Int)} (h : Ech p n u) : u.length ≤ n := by
  have key : ∀ k, k < u.length → k ≤ dep (u.getD k []) := by
    intro k
    induction k with
    | zero => intro _; omega
    | succ k ih => intro hk; have := ih (by omega); have := h.asc k (k + 1) (by omega) hk; omega
  rcases Nat.eq_zero_or_pos u.length with h0 | h0
  · omega
  · have h1 := key (u.length - 1) (by omega)
    have h2 := h.lt (u.getD (u.length - 1) []) (ix_mem (by omega))
    omega
def PClo (p : Int) (pw : List (List Int)) (u : List (List Int)) (x : List Int) : Prop := ∀ b ∈ u, ∃ c : Int, Sp p pw (deeper u (dep b + 1)) (fun j => 1 * (p * fn b j) + c * fn x j) ∧ (c ≠ 0 → dep b < dep x)
theorem Clo.pclo {u : List (List Int)} (h : Clo p pw u) (x : List Int) : PClo p pw u x := fun b hb =>
  ⟨0, (Sp.sub _).cg (h b hb) (.of fun j _ => by omega), fun h => absurd rfl h⟩
theorem PClo.clo {u : List (List Int)} {x : List Int} (h : PClo p pw u x) (hx : ∀ j, j < pw.length → x.getD j 0 = 0) : Clo p pw u := fun b hb => by
  obtain ⟨c, h1, _⟩ := h b hb
  exact (Sp.sub _).cg h1 (.of fun j hj => by simp only [fn]; rw [hx j hj]; omega)
theorem sp_cons {G : List (List Int)} {x : List Int} (h : Sp p pw G (fn x)) : Sp p pw (x :: G) = Sp p pw G :=
  Sp.eqv (fun b hb => by
    rcases List.mem_cons.1 hb with rfl | hb
    · exact h
    · exact .gen hb) (fun b hb => .gen (by simp [hb]))
theorem sp_zero {G : List (List Int)} {x : List Int} (hx : ∀ j, j < pw.length → x.getD j 0 = 0) : Sp p pw (x :: G) = Sp p pw G :=
  sp_cons ((Sp.sub _).cg (Sp.sub _).zero (.of fun j hj => hx j hj))
theorem red_start (t : Tri p pw) {u : List (List Int)} (hu : Ech p pw.length u) {g : List Int} (hg : El p pw.length g) :
    El p pw.length (redL p pw u g) ∧ (∀ b ∈ u, (redL p pw u g).getD (dep b) 0 = 0) ∧ Sp p pw (redL p pw u g :: u) = Sp p pw (g :: u) := by
  refine ⟨redL_el t u hg, redL_zero t hu hg, ?_⟩
  have h1 := (redL_sp t (d := 0) (u := u) (x := g) (fun b hb => ⟨hu.lt b hb, hu.one b hb⟩) hg (fun j hj => by omega)).1
  have h2 : Sp p pw u (fun j => 1 * fn g j + -1 * fn (redL p pw u g) j) := h1.mono fun b hb => (mem_deeper.1 hb).1
  refine Sp.eqv (fun b hb => ?_) (fun b hb => ?_)
  · rcases List.mem_cons.1 hb with rfl | hb
    · exact (Sp.sub _).cg ((Sp.sub _).comb 1 (-1) (.gen (b := g) (by simp)) (h2.mono fun b hb => by simp [hb])) (.of fun j _ => by omega)
    · exact .gen (by simp [hb])
  · rcases List.mem_cons.1 hb with rfl | hb
    · exact (Sp.sub _).cg ((Sp.sub _).comb 1 1 (.gen (b := redL p pw u b) (by simp)) (h2.mono fun b hb => by simp [hb])) (.of fun j _ => by omega)
    · exact .gen (by simp [hb])
theorem lead_one (t : Tri p pw) (hp : pr4 p) {x : List Int} (hx : El p pw.length x) (hd : dep x < pw.length) {i : Int} (hi : isInv p (x.getD (dep x) 0) i) {y : List Int} (hy : y = nf p pw (fun j => i * fn x j)) :
    El p pw.length y ∧ dep y = dep x ∧ y.getD (dep y) 0 = 1 ∧ Sp p pw [x] (fn y) ∧ Sp p pw [y] (fn x) := by
  have hp2 := t.p2
  have hyl : El p pw.length y := by rw [hy]; exact nf_el t _
  have h0 : ∀ j, j < dep x → i * fn x j = 0 := fun j hj => by simp only [fn]; rw [dep_zero hj]; simp
  have hm : i * fn x (dep x) % p = 1 := by simp only [fn]; rw [Int.mul_comm]; exact hi.2.2
  have hdy : dep y = dep x := by rw [hy]; exact nf_dep t h0 hd (by rw [hm]; omega)
  have hcg : Cg p pw (fn y) (fun j => i * fn x j) := by rw [hy]; exact nf_fn t _
  refine ⟨hyl, hdy, ?_, ?_, ?_⟩
  · rw [hdy, hy, (nf_van t h0).2 hd]; exact hm
  · exact (Sp.sub _).cg ((Sp.sub _).mul i (.gen (b := x) (by simp))) hcg
  · have e := Int.emod_add_mul_ediv (i * x.getD (dep x) 0) p
    have hil : i * x.getD (dep x) 0 = 1 + i * x.getD (dep x) 0 / p * p := by
      have hm' : i * x.getD (dep x) 0 % p = 1 := hm
      rw [hm'] at e; rw [Int.mul_comm (i * x.getD (dep x) 0 / p) p]; omega
    obtain ⟨k, hk⟩ := unit_back t hil pw.length 0 rfl (fn x) (.of fun j hj => by omega)
    refine (Sp.sub _).cg ((Sp.sub _).mul k (.gen (b := y) (by simp))) (hk.trans ?_)
    exact ((hcg.symm).comb k 0 (.refl fun _ => 0)).ext (fun j _ => by simp) (fun j _ => by simp)
theorem close_step (t : Tri p pw) (hp : pr4 p) {u : List (List Int)} (hu : Ech p pw.length u) {x : List Int} (hx : El p pw.length x) (hd : dep x < pw.length) (h0 : ∀ b ∈ u, x.getD (dep b) 0 = 0) (hc : PClo p pw u x)
    {i : Int} (hi : isInv p (x.getD (dep x) 0) i) {y z : List Int} (hy : y = nf p pw (fun j => i * fn x j)) (hz : z = redL p pw (insL y u) (nf p pw (fun j => p * fn y j))) :
    Ech p pw.length (insL y u) ∧ El p pw.length z ∧ (∀ b ∈ insL y u, z.getD (dep b) 0 = 0) ∧ PClo p pw (insL y u) z ∧ Sp p pw (z :: insL y u) = Sp p pw (x :: u) := by
  obtain ⟨hyl, hdy, hy1, hyx, hxy⟩ := lead_one t hp hx hd hi hy
  have hne : ∀ b ∈ u, dep b ≠ dep y := by
    intro b hb he
    have h1 := h0 b hb
    rw [he, hdy] at h1
    exact dep_nz (by rw [hx.len]; exact hd) h1
  have hu' : Ech p pw.length (insL y u) := by
    refine Ech.mk' ?_ ?_ ?_ (Asc.ins hu.asc hne)
    · intro b hb; rcases mem_ins.1 hb with rfl | hb
      · exact hyl
      · exact hu.el b hb
    · intro b hb; rcases mem_ins.1 hb with rfl | hb
      · omega
      · exact hu.lt b hb
    · intro b hb; rcases mem_ins.1 hb with rfl | hb
      · exact hy1
      · exact hu.one b hb
  have hpy : El p pw.length (nf p pw (fun j => p * fn y j)) := nf_el t _
  have hpv : ∀ j, j < dep y + 1 → (nf p pw (fun j => p * fn y j)).getD j 0 = 0 := by
    obtain ⟨g, g1, g2⟩ := Van.up t (s := dep y) (f := fn y) (.of fun j hj => dep_zero hj)
    have h1 := El.self t hpy ((nf_fn t (fun j => p * fn y j)).trans g1)
    intro j hj
    rw [h1]
    exact (nf_van t g2).1 j hj
  obtain ⟨r1, r2⟩ := redL_sp t (d := dep y + 1) (u := insL y u) (fun b hb => ⟨hu'.lt b hb, hu'.one b hb⟩) hpy hpv
  have hzl : El p pw.length z := by rw [hz]; exact redL_el t _ hpy
  rw [← hz] at r1 r2
  have hsub : ∀ {s : Nat} {b : List Int}, b ∈ deeper u s → b ∈ deeper (insL y u) s := fun hb => by
    obtain ⟨q1, q2⟩ := mem_deeper.1 hb
    exact mem_deeper.2 ⟨mem_ins.2 (.inr q1), q2⟩
  refine ⟨hu', hzl, by rw [hz]; exact redL_zero t hu' hpy, ?_, ?_⟩
  · intro b hb
    rcases mem_ins.1 hb with rfl | hb
    · refine ⟨-1, (Sp.sub _).cg r1 ?_, fun _ => ?_⟩
      · exact ((nf_fn t (fun j => p * fn b j)).symm).comb 1 (-1) (.refl (fn z))
      · have := dep_ge (a := z) (d := dep b + 1) (by rw [hzl.len]; omega) r2; omega
    · obtain ⟨c, h1, h2⟩ := hc b hb
      refine ⟨0, ?_, fun h => absurd rfl h⟩
      by_cases hc0 : c = 0
      · subst hc0
        exact (Sp.sub _).cg (h1.mono fun b hb => hsub hb) (.of fun j _ => by omega)
      · have h3 : Sp p pw (deeper (insL y u) (dep b + 1)) (fn x) := hxy.mono fun w hw => by
          rw [List.mem_singleton.1 hw]
          exact mem_deeper.2 ⟨mem_ins.2 (.inl rfl), by have := h2 hc0; omega⟩
        exact (Sp.sub _).cg ((Sp.sub _).comb 1 (-c) (h1.mono fun b hb => hsub hb) h3) (.of fun j _ => by rw [Int.neg_mul]; omega)
  · have hz' : Sp p pw (insL y u) (fn z) := by
      refine (Sp.sub _).cg ((Sp.sub _).comb p (-1) (.gen (b := y) (mem_ins.2 (.inl rfl))) (r1.mono fun b hb => (mem_deeper.1 hb).1)) ?_
      refine (Cg.of (g := fun j => p * fn y j + -1 * (1 * (p * fn y j) + -1 * fn z j)) fun j _ => by omega).trans ?_
      exact (((Cg.refl (fn y)).comb p (-1) (((nf_fn t (fun j => p * fn y j)).symm).comb 1 (-1) (.refl (fn z)))).ext (fun _ _ => rfl) (fun _ _ => rfl))
    rw [sp_cons hz']
    refine Sp.eqv (fun b hb => ?_) (fun b hb => ?_)
    · rcases mem_ins.1 hb with rfl | hb
      · exact hyx.mono fun w hw => by simp [List.mem_singleton.1 hw]
      · exact .gen (by simp [hb])
    · rcases List.mem_cons.1 hb with rfl | hb
      · exact hxy.mono fun w hw => by rw [List.mem_singleton.1 hw]; exact mem_ins.2 (.inl rfl)
      · exact .gen (mem_ins.2 (.inr hb))
def wL (p : Int) (pw : List (List Int)) (u : List (List Int)) : List (List Int) := (List.range u.length).map fun k => redL p pw (u.drop (k + 1)) (u.getD k [])
theorem wL_len {u : List (List Int)} : (wL p pw u).length = u.length := by simp [wL]
theorem wL_get {u : List (List Int)} {k : Nat} (h : k < u.length) : (wL p pw u).getD k [] = redL p pw (u.drop (k + 1)) (u.getD k []) := by simp [wL, h]
theorem drop_dep {u : List (List Int)} (h : Asc u) {k : Nat} (hk : k < u.length) {b : List Int} (hb : b ∈ u.drop (k + 1)) : dep (u.getD k []) < dep b := by
  obtain ⟨l, hl, rfl⟩ := mem_ix (d := []) hb
  simp only [List.length_drop] at hl
  have := h k (k + 1 + l) (by omega) (by omega)
  simpa using this
theorem wL_can (t : Tri p pw) {u : List (List Int)} (hu : Ech p pw.length u) (hc : Clo p pw u) : Can p pw (Sp p pw u) (wL p pw u) := by
  have hlo : ∀ {k : Nat} {b : List Int}, b ∈ u.drop (k + 1) → dep b < pw.length ∧ b.getD (dep b) 0 = 1 := fun hb => ⟨hu.lt _ (List.mem_of_mem_drop hb), hu.one _ (List.mem_of_mem_drop hb)⟩
  refine can_of t hu hc wL_len (fun k hk => ?_) (fun k hk j hj => ?_) (fun k l hkl hl => ?_) (fun k hk => ?_)
  · rw [wL_get hk]; exact redL_el t _ (hu.el _ (ix_mem hk))
  · rw [wL_get hk]
    exact redL_keep t (fun b hb => hlo hb) (hu.el _ (ix_mem hk)) j (fun b hb => by have := drop_dep hu.asc hk hb; omega)
  · rw [wL_get (by omega)]
    refine redL_zero t (hu.drop (k + 1)) (hu.el _ (ix_mem (by omega))) _ ?_
    rw [show u.getD l [] = (u.drop (k + 1)).getD (l - (k + 1)) [] by simp [show k + 1 + (l - (k + 1)) = l by omega]]
    exact ix_mem (by simp; omega)
  · rw [wL_get hk]
    have h1 := (redL_sp t (d := 0) (u := u.drop (k + 1)) (x := u.getD k []) (fun b hb => hlo hb) (hu.el _ (ix_mem hk)) (fun j hj => by omega)).1
    have h2 : Sp p pw u (fun j => 1 * fn (u.getD k []) j + -1 * fn (redL p pw (u.drop (k + 1)) (u.getD k [])) j) := h1.mono fun b hb => List.mem_of_mem_drop (mem_deeper.1 hb).1
    exact (Sp.sub _).cg ((Sp.sub _).comb 1 (-1) (.gen (ix_mem (d := []) hk)) h2) (.of fun j _ => by omega)
end
end Go.Proofs.Ytkmgmjajbiddbaa
