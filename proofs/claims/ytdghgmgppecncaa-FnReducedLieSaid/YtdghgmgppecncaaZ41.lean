import Derived.Test.YtdghgmgppecncaaZ40
set_option linter.unusedVariables false
set_option linter.unusedSimpArgs false
namespace Go.Proofs.Ytdghgmgppecncaa
section
variable {p : Int} {pw : List (List Int)}
def bl : Nat → (Nat → List Int) → List (List Int)
  | 0, _ => []
  | n + 1, B => if B n = [] then bl n B else bl n B ++ [B n]
def nilc : Nat → (Nat → List Int) → Nat
  | 0, _ => 0
  | n + 1, B => nilc n B + if B n = [] then 1 else 0
theorem mem_bl {B : Nat → List Int} {b : List Int} : ∀ {n : Nat}, b ∈ bl n B ↔ ∃ d, d < n ∧ B d = b ∧ b ≠ [] := by
  intro n
  induction n with
  | zero => simp [bl]
  | succ n ih =>
    simp only [bl]
    constructor
    · intro h
      split at h
      · obtain ⟨d, h1, h2⟩ := ih.1 h
        exact ⟨d, by omega, h2⟩
      · rename_i hn
        rcases List.mem_append.1 h with h | h
        · obtain ⟨d, h1, h2⟩ := ih.1 h
          exact ⟨d, by omega, h2⟩
        · rw [List.mem_singleton.1 h]; exact ⟨n, by omega, rfl, hn⟩
    · rintro ⟨d, h1, h2, h3⟩
      by_cases e : d = n
      · subst e
        rw [if_neg (by rw [h2]; exact h3), h2]; simp
      · have := ih.2 ⟨d, by omega, h2, h3⟩
        split
        · exact this
        · exact List.mem_append_left _ this
theorem nilc_set {B : Nat → List Int} {y : List Int} {d : Nat} (hy : y ≠ []) (hB : B d = []) : ∀ {n : Nat}, nilc n (fun i => if i = d then y else B i) + (if d < n then 1 else 0) = nilc n B := by
  intro n
  induction n with
  | zero => simp [nilc]
  | succ n ih =>
    simp only [nilc]
    by_cases e : n = d
    · subst e
      simp only [if_true, if_neg hy, hB, Nat.lt_irrefl, if_false] at ih ⊢
      rw [if_pos (by omega)]; omega
    · simp only [if_neg e]
      by_cases h : d < n
      · simp only [h, show d < n + 1 by omega, if_true] at ih ⊢; omega
      · simp only [h, show ¬ d < n + 1 by omega, if_false] at ih ⊢; omega
def BOk (p : Int) (n : Nat) (B : Nat → List Int) : Prop := ∀ d, d < n → B d = [] ∨ (El p n (B d) ∧ dep (B d) = d ∧ (B d).getD d 0 = 1)
theorem Asc.snoc {x : List Int} : ∀ {u : List (List Int)}, Asc u → (∀ b ∈ u, dep b < dep x) → Asc (u ++ [x]) := by
  intro u
  induction u with
  | nil => intro _ _; exact Asc.cons.2 ⟨by simp, fun k l h1 h2 => by simp at h2⟩
  | cons v u ih =>
    intro h hx
    obtain ⟨h1, h2⟩ := Asc.cons.1 h
    refine Asc.cons.2 ⟨fun b hb => ?_, ih h2 (fun b hb => hx b (by simp [hb]))⟩
    rcases List.mem_append.1 hb with hb | hb
    · exact h1 b hb
    · rw [List.mem_singleton.1 hb]; exact hx v (by simp)
theorem bl_asc {n : Nat} {B : Nat → List Int} (h : BOk p n B) : ∀ m, m ≤ n → Asc (bl m B) := by
  intro m
  induction m with
  | zero => intro _ k l h1 h2; simp [bl] at h2
  | succ m ih =>
    intro hm
    simp only [bl]
    split
    · exact ih (by omega)
    · rename_i hne
      refine Asc.snoc (ih (by omega)) (fun b hb => ?_)
      obtain ⟨d, h1, h2, h3⟩ := mem_bl.1 hb
      have hd := (h d (by omega)).resolve_left (by rw [h2]; exact h3)
      have hmm := (h m (by omega)).resolve_left hne
      rw [h2] at hd
      omega
theorem BOk.ech {n : Nat} {B : Nat → List Int} (h : BOk p n B) : Ech p n (bl n B) := by
  have key : ∀ b ∈ bl n B, El p n b ∧ dep b < n ∧ b.getD (dep b) 0 = 1 := by
    intro b hb
    obtain ⟨d, h1, h2, h3⟩ := mem_bl.1 hb
    have hd := (h d h1).resolve_left (by rw [h2]; exact h3)
    rw [h2] at hd
    exact ⟨hd.1, by omega, by rw [hd.2.1]; exact hd.2.2⟩
  exact Ech.mk' (fun b hb => (key b hb).1) (fun b hb => (key b hb).2.1) (fun b hb => (key b hb).2.2) (bl_asc h n (Nat.le_refl _))
def QI (p : Int) (pw : List (List Int)) (B : Nat → List Int) (Q : List (List Int)) : Prop := ∀ b ∈ bl pw.length B, Sp p pw (deeper (bl pw.length B) (dep b + 1)) (fun j => p * fn b j) ∨ nf p pw (fun j => p * fn b j) ∈ Q
theorem QI.clo {B : Nat → List Int} (h : QI p pw B []) : Clo p pw (bl pw.length B) := fun b hb => (h b hb).resolve_right (by simp)
structure RI (p : Int) (pw : List (List Int)) (B : Nat → List Int) (x y : List Int) : Prop where
  el : El p pw.length y
  sp : Sp p pw (deeper (bl pw.length B) (dep x)) (fun j => 1 * fn x j + -1 * fn y j)
  le : dep x ≤ dep y
theorem RI.start {B : Nat → List Int} {x : List Int} (hx : El p pw.length x) : RI p pw B x x :=
  ⟨hx, (Sp.sub _).cg (Sp.sub _).zero (.of fun j _ => by omega), Nat.le_refl _⟩
theorem RI.step (t : Tri p pw) {B : Nat → List Int} {x y : List Int} (hB : BOk p pw.length B) (h : RI p pw B x y) (hd : dep y < pw.length) (hne : B (dep y) ≠ []) : RI p pw B x (stepL p pw (B (dep y)) y) ∧ dep y < dep (stepL p pw (B (dep y)) y) := by
  obtain ⟨b1, b2, b3⟩ := (hB _ hd).resolve_left hne
  have hv : (B (dep y)).getD (dep (B (dep y))) 0 = 1 := by rw [b2]; exact b3
  obtain ⟨g1, g2⟩ := stepL_get t h.el (by rw [b2]; exact hd) hv
  rw [b2] at g1 g2
  have hel := stepL_el t (B (dep y)) y
  have hdd : dep y + 1 ≤ dep (stepL p pw (B (dep y)) y) := dep_ge (by rw [hel.len]; omega) (fun j hj => by
    by_cases e : j = dep y
    · rw [e]; exact g2
    · rw [g1 j (by omega)]; exact dep_zero (by omega))
  refine ⟨⟨hel, ?_, by have := h.le; omega⟩, by omega⟩
  have h2 : Sp p pw (deeper (bl pw.length B) (dep x)) (fn (B (dep y))) := .gen (mem_deeper.2 ⟨mem_bl.2 ⟨_, hd, rfl, hne⟩, by have := h.le; omega⟩)
  have h3 : Cg p pw (fun j => 1 * fn y j + -1 * fn (stepL p pw (B (dep y)) y) j) (fun j => y.getD (dep (B (dep y))) 0 * fn (B (dep y)) j) := by
    refine ((Cg.refl (fn y)).comb 1 (-1) (nf_fn t (fun j => 1 * y.getD j 0 + -(y.getD (dep (B (dep y))) 0) * (B (dep y)).getD j 0))).trans (.of fun j _ => ?_)
    simp only [fn, Int.neg_mul]; omega
  exact (Sp.sub _).cg ((Sp.sub _).add h.sp ((Sp.sub _).cg ((Sp.sub _).mul _ h2) h3)) (.of fun j _ => by omega)
theorem pb_deep (t : Tri p pw) {b : List Int} (hb : El p pw.length b) (hd : dep b < pw.length) : dep b + 1 ≤ dep (nf p pw (fun j => p * fn b j)) := by
  obtain ⟨g, g1, g2⟩ := Van.up t (s := dep b) (f := fn b) (.of fun j hj => dep_zero hj)
  have he := nf_el t (fun j => p * fn b j)
  have h1 := El.self t he ((nf_fn t (fun j => p * fn b j)).trans g1)
  refine dep_ge (by rw [he.len]; omega) (fun j hj => ?_)
  rw [h1]
  exact (nf_van t g2).1 j hj
theorem queue_zero (t : Tri p pw) {B : Nat → List Int} {x y : List Int} {Q : List (List Int)} (hB : BOk p pw.length B) (hQ : QI p pw B (x :: Q)) (h : RI p pw B x y) (hz : ∀ j, j < pw.length → y.getD j 0 = 0) :
    QI p pw B Q ∧ Sp p pw (bl pw.length B ++ Q) = Sp p pw (bl pw.length B ++ x :: Q) := by
  have hx : Sp p pw (deeper (bl pw.length B) (dep x)) (fn x) := (Sp.sub _).cg h.sp (.of fun j hj => by simp only [fn]; rw [hz j hj]; omega)
  refine ⟨fun b hb => ?_, ?_⟩
  · rcases hQ b hb with h1 | h1
    · exact .inl h1
    · rcases List.mem_cons.1 h1 with h1 | h1
      · refine .inl ?_
        have hbe := hB.ech
        have hdeep := pb_deep t (hbe.el b hb) (hbe.lt b hb)
        rw [h1] at hdeep
        refine (Sp.sub _).cg (hx.mono fun c hc => ?_) (by rw [← h1]; exact (nf_fn t _).symm)
        obtain ⟨q1, q2⟩ := mem_deeper.1 hc
        exact mem_deeper.2 ⟨q1, by omega⟩
      · exact .inr h1
  · refine Sp.eqv (fun b hb => ?_) (fun b hb => ?_)
    · rcases List.mem_append.1 hb with hb | hb
      · exact .gen (List.mem_append_left _ hb)
      · exact .gen (List.mem_append_right _ (by simp [hb]))
    · rcases List.mem_append.1 hb with hb | hb
      · exact .gen (List.mem_append_left _ hb)
      · rcases List.mem_cons.1 hb with rfl | hb
        · exact hx.mono fun c hc => List.mem_append_left _ (mem_deeper.1 hc).1
        · exact .gen (List.mem_append_right _ hb)
theorem queue_new (t : Tri p pw) (hp : pr4 p) {B : Nat → List Int} {x y z : List Int} {Q : List (List Int)} (hB : BOk p pw.length B) (hQ : QI p pw B (x :: Q)) (h : RI p pw B x y) (hd : dep y < pw.length) (hn : B (dep y) = [])
    {i : Int} (hi : isInv p (y.getD (dep y) 0) i) (hz : z = nf p pw (fun j => i * fn y j)) :
    BOk p pw.length (fun d => if d = dep y then z else B d) ∧ QI p pw (fun d => if d = dep y then z else B d) (Q ++ [nf p pw (fun j => p * fn z j)]) ∧
    Sp p pw (bl pw.length (fun d => if d = dep y then z else B d) ++ (Q ++ [nf p pw (fun j => p * fn z j)])) = Sp p pw (bl pw.length B ++ x :: Q) ∧ z ≠ [] := by
  obtain ⟨hzl, hdz, hz1, hzy, hyz⟩ := lead_one t hp h.el hd hi hz
  have hzne : z ≠ [] := by rintro rfl; have := hzl.len; simp at this; omega
  obtain ⟨B', hB'⟩ : ∃ B' : Nat → List Int, (fun d => if d = dep y then z else B d) = B' := ⟨_, rfl⟩
  rw [hB']
  have e1 : B' (dep y) = z := by rw [← hB']; simp
  have e2 : ∀ d, d ≠ dep y → B' d = B d := fun d hd => by rw [← hB']; simp [hd]
  have hsub : ∀ {b : List Int}, b ∈ bl pw.length B → b ∈ bl pw.length B' := fun {b} hb => by
    obtain ⟨d, q1, q2, q3⟩ := mem_bl.1 hb
    refine mem_bl.2 ⟨d, q1, ?_, q3⟩
    rw [e2 d (fun e => by rw [e, hn] at q2; exact q3 q2.symm)]; exact q2
  have hzin : z ∈ bl pw.length B' := mem_bl.2 ⟨_, hd, e1, hzne⟩
  have hsup : ∀ {b : List Int}, b ∈ bl pw.length B' → b = z ∨ b ∈ bl pw.length B := fun {b} hb => by
    obtain ⟨d, q1, q2, q3⟩ := mem_bl.1 hb
    by_cases e : d = dep y
    · rw [e, e1] at q2; exact .inl q2.symm
    · rw [e2 d e] at q2; exact .inr (mem_bl.2 ⟨d, q1, q2, q3⟩)
  have hok : BOk p pw.length B' := by
    intro d hdn
    by_cases e : d = dep y
    · rw [e, e1]; exact .inr ⟨hzl, hdz, by rw [← hdz]; exact hz1⟩
    · rw [e2 d e]; exact hB d hdn
  -- x lies in the span of the new family, from its depth on
  have hx : Sp p pw (deeper (bl pw.length B') (dep x)) (fn x) := by
    have h1 : Sp p pw (deeper (bl pw.length B') (dep x)) (fn y) := hyz.mono fun c hc => by
      rw [List.mem_singleton.1 hc]
      exact mem_deeper.2 ⟨hzin, by have := h.le; omega⟩
    have h2 : Sp p pw (deeper (bl pw.length B') (dep x)) (fun j => 1 * fn x j + -1 * fn y j) := h.sp.mono fun c hc => by
      obtain ⟨q1, q2⟩ := mem_deeper.1 hc
      exact mem_deeper.2 ⟨hsub q1, q2⟩
    exact (Sp.sub _).cg ((Sp.sub _).add h2 h1) (.of fun j _ => by omega)
  refine ⟨hok, ?_, ?_, hzne⟩
  · intro b hb
    rcases hsup hb with rfl | hb'
    · exact .inr (by simp)
    · rcases hQ b hb' with h1 | h1
      · exact .inl (h1.mono fun c hc => by
          obtain ⟨q1, q2⟩ := mem_deeper.1 hc
          exact mem_deeper.2 ⟨hsub q1, q2⟩)
      · rcases List.mem_cons.1 h1 with h1 | h1
        · refine .inl ?_
          have hbe := hB.ech
          have hdeep := pb_deep t (hbe.el b hb') (hbe.lt b hb')
          rw [h1] at hdeep
          refine (Sp.sub _).cg (hx.mono fun c hc => ?_) (by rw [← h1]; exact (nf_fn t _).symm)
          obtain ⟨q1, q2⟩ := mem_deeper.1 hc
          exact mem_deeper.2 ⟨q1, by omega⟩
        · exact .inr (by simp [h1])
  · refine Sp.eqv (fun b hb => ?_) (fun b hb => ?_)
    · have hzx : Sp p pw (bl pw.length B ++ x :: Q) (fn z) := by
        have h1 : Sp p pw (bl pw.length B ++ x :: Q) (fn y) := by
          have h2 : Sp p pw (bl pw.length B ++ x :: Q) (fun j => 1 * fn x j + -1 * fn y j) := h.sp.mono fun c hc => List.mem_append_left _ (mem_deeper.1 hc).1
          exact (Sp.sub _).cg ((Sp.sub _).comb 1 (-1) (.gen (b := x) (by simp)) h2) (.of fun j _ => by omega)
        exact hzy.le fun c hc => by rw [List.mem_singleton.1 hc]; exact h1
      rcases List.mem_append.1 hb with hb | hb
      · rcases hsup hb with rfl | hb
        · exact hzx
        · exact .gen (List.mem_append_left _ hb)
      · rcases List.mem_append.1 hb with hb | hb
        · exact .gen (List.mem_append_right _ (by simp [hb]))
        · rw [List.mem_singleton.1 hb]
          exact (Sp.sub _).cg ((Sp.sub _).mul p hzx) (nf_fn t _)
    · rcases List.mem_append.1 hb with hb | hb
      · exact .gen (List.mem_append_left _ (hsub hb))
      · rcases List.mem_cons.1 hb with rfl | hb
        · exact hx.mono fun c hc => List.mem_append_left _ (mem_deeper.1 hc).1
        · exact .gen (List.mem_append_right _ (by simp [hb]))
def outF (p : Int) (pw : List (List Int)) : List (List Int) → List (List Int)
  | [] => []
  | b :: u => redL p pw (outF p pw u) b :: outF p pw u
structure OutOk (p : Int) (pw : List (List Int)) (u w : List (List Int)) : Prop where
  len : w.length = u.length
  el : ∀ k, k < u.length → El p pw.length (w.getD k [])
  keep : ∀ k, k < u.length → ∀ j, j ≤ dep (u.getD k []) → (w.getD k []).getD j 0 = (u.getD k []).getD j 0
  z : ∀ k l, k < l → l < u.length → (w.getD k []).getD (dep (u.getD l [])) 0 = 0
  m : ∀ k, k < u.length → Sp p pw u (fn (w.getD k []))
theorem OutOk.deps {u w : List (List Int)} (h : OutOk p pw u w) (hu : Ech p pw.length u) : ∀ k, k < u.length → dep (w.getD k []) = dep (u.getD k []) := fun k hk => by
  have hmu := ix_mem (d := []) hk
  have h1 := hu.lt _ hmu
  refine dep_eq (by rw [(h.el k hk).len]; omega) (fun j hj => by rw [h.keep k hk j (by omega)]; exact dep_zero hj) (fun _ => ?_)
  rw [h.keep k hk _ (Nat.le_refl _), hu.one _ hmu]; omega
theorem OutOk.ech {u w : List (List Int)} (h : OutOk p pw u w) (hu : Ech p pw.length u) : Ech p pw.length w := by
  have hin : ∀ {b : List Int}, b ∈ w → ∃ k, k < u.length ∧ w.getD k [] = b := fun hb => by
    obtain ⟨k, h1, h2⟩ := mem_ix (d := []) hb
    exact ⟨k, by have := h.len; omega, h2⟩
  refine Ech.mk' ?_ ?_ ?_ ?_
  · intro b hb; obtain ⟨k, hk, rfl⟩ := hin hb; exact h.el k hk
  · intro b hb; obtain ⟨k, hk, rfl⟩ := hin hb; rw [h.deps hu k hk]; exact hu.lt _ (ix_mem hk)
  · intro b hb; obtain ⟨k, hk, rfl⟩ := hin hb
    rw [h.deps hu k hk, h.keep k hk _ (Nat.le_refl _)]; exact hu.one _ (ix_mem hk)
  · intro k l h1 h2
    have := h.len
    rw [h.deps hu k (by omega), h.deps hu l (by omega)]; exact hu.asc k l h1 (by omega)
theorem outF_ok (t : Tri p pw) : ∀ {u : List (List Int)}, Ech p pw.length u → OutOk p pw u (outF p pw u) := by
  intro u
  induction u with
  | nil => intro _; exact ⟨rfl, fun k hk => by simp at hk, fun k hk => by simp at hk, fun k l h1 h2 => by simp at h2, fun k hk => by simp at hk⟩
  | cons b u ih =>
    intro hu
    obtain ⟨hu1, hu2⟩ := hu.tail
    have ho := ih hu1
    have he := ho.ech hu1
    have hdw : ∀ c ∈ outF p pw u, dep b < dep c := fun c hc => by
      obtain ⟨k, hk, rfl⟩ := mem_ix (d := []) hc
      have hk' : k < u.length := by have := ho.len; omega
      rw [ho.deps hu1 k hk']
      exact hu2 _ (ix_mem hk')
    have hb : El p pw.length b := hu.el b (by simp)
    have hlo : ∀ c ∈ outF p pw u, dep c < pw.length ∧ c.getD (dep c) 0 = 1 := fun c hc => ⟨he.lt c hc, he.one c hc⟩
    refine ⟨by simp [outF, ho.len], ?_, ?_, ?_, ?_⟩
    · intro k hk
      cases k with
      | zero => exact redL_el t _ hb
      | succ k => exact ho.el k (by simpa using hk)
    · intro k hk j hj
      cases k with
      | zero => exact redL_keep t hlo hb j (fun c hc => by have := hdw c hc; simp only [List.getD_cons_zero] at hj; omega)
      | succ k => exact ho.keep k (by simpa using hk) j (by simpa using hj)
    · intro k l hkl hl
      cases l with
      | zero => omega
      | succ l =>
        have hl' : l < u.length := by simpa using hl
        cases k with
        | zero =>
          have h1 := ho.deps hu1 l hl'
          have := redL_zero t he hb _ (ix_mem (d := []) (show l < (outF p pw u).length by have := ho.len; omega))
          rw [h1] at this
          exact this
        | succ k => exact ho.z k l (by omega) hl'
    · intro k hk
      cases k with
      | zero =>
        have h1 := (redL_sp t (d := 0) (u := outF p pw u) (x := b) hlo hb (fun j hj => by omega)).1
        have h2 : Sp p pw (b :: u) (fun j => 1 * fn b j + -1 * fn (redL p pw (outF p pw u) b) j) := h1.le fun c hc => by
          obtain ⟨l, hl, rfl⟩ := mem_ix (d := []) (mem_deeper.1 hc).1
          exact (ho.m l (by have := ho.len; omega)).mono fun w hw => by simp [hw]
        exact (Sp.sub _).cg ((Sp.sub _).comb 1 (-1) (.gen (b := b) (by simp)) h2) (.of fun j _ => by simp only [outF, List.getD_cons_zero]; omega)
      | succ k => exact (ho.m k (by simpa using hk)).mono fun w hw => by simp [hw]
theorem outF_can (t : Tri p pw) {u : List (List Int)} (hu : Ech p pw.length u) (hc : Clo p pw u) : Can p pw (Sp p pw u) (outF p pw u) :=
  let h := outF_ok t hu
  can_of t hu hc h.len h.el h.keep h.z h.m
theorem span_out (t : Tri p pw) {B : Nat → List Int} {G : List (List Int)} (hB : BOk p pw.length B) (hQ : QI p pw B []) (hs : Sp p pw (bl pw.length B ++ []) = Sp p pw G) : spanL p pw G = outF p pw (bl pw.length B) := by
  have := outF_can t hB.ech hQ.clo
  rw [List.append_nil] at hs
  rw [hs] at this
  exact spanL_eq t this
def blf (n : Nat) (B : Nat → List Int) : Nat → List (List Int)
  | 0 => []
  | q + 1 => if B (n - (q + 1)) = [] then blf n B q else B (n - (q + 1)) :: blf n B q
theorem bl_split {n : Nat} {B : Nat → List Int} : ∀ q, q ≤ n → bl n B = bl (n - q) B ++ blf n B q := by
  intro q
  induction q with
  | zero => intro _; simp [blf]
  | succ q ih =>
    intro hq
    rw [ih (by omega), show n - q = n - (q + 1) + 1 by omega, bl, blf]
    split <;> simp
theorem blf_all {n : Nat} {B : Nat → List Int} : blf n B n = bl n B := by
  have := bl_split (n := n) (B := B) n (Nat.le_refl _)
  rw [Nat.sub_self] at this
  simpa [bl] using this.symm
end
end Go.Proofs.Ytdghgmgppecncaa
