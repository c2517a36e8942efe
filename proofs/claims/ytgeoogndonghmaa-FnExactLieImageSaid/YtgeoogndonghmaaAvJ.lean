/-
  Own layer, part J: regions: the operations one behind the other, in the text's order; and where the order is left open.
-/
import Derived.Test.YtgeoogndonghmaaAvI
import Derived.Orders
set_option linter.unusedVariables false
set_option linter.unusedSimpArgs false
namespace Go.Proofs.Ytgeoogndonghmaa

/-- Whether a guarded operation runs. -/
def gop (ops : List Oper) (g : Option (Nat × Bool)) (t : List AV) (yes no : List AV → Prop) : Prop :=
  match g with
  | none => yes t
  | some (j, want) => match (ops[j]?).bind (·.dst) with
    | some d => match t[d]? with
      | some (.b x) => gopB x want (yes (t.set d (.b want))) (no (t.set d (.b (!want)))) (.mk _) (.mk _)
      | some (.c (.tuple _)) => no t
      | _ => False
    | none => False

/-- A slice of which it is open whether it is nil, held against nil: both ways. -/
structure nilB (n : Nat) (t f : Prop) : Prop where
  t : n = 0 → t
  f : f
def nilop (Γ : TEnv) (op : BinOp) (ty : TypeId) (x y : AV) (k : AV → Prop) : Prop :=
  match op, x, y with
  | .eql, .v n _, .nl => (∃ e el, Γ ty = some e ∧ e.d = .slice el) ∧ nilB n (k (.b true)) (k (.b false))
  | .neq, .v n _, .nl => (∃ e el, Γ ty = some e ∧ e.d = .slice el) ∧ nilB n (k (.b false)) (k (.b true))
  | op, x, y => bop Γ op ty x y k

theorem nilop_ok {P : Program} {Γ : TEnv} (hG : GOk P Γ) {o : Oper} {ev : Operand → AV} {H : HP} {id : Nat} {op : BinOp} {ty ty2 : TypeId} {x y : Operand} (ho : o.op = .binOp op ty x y ty2) {k : AV → Prop} (h : nilop Γ op ty (ev x) (ev y) k) :
    OpS P o ev H id fun r H' => k r ∧ H' = H := by
  intro L Av w ρ hs hfn hL hi hops
  have fin : ∀ {z : Value} {r : AV}, k r → (do eqGuard op ty x y (ρ x) (ρ y); binOp op ty (ρ x) (ρ y) : Sem Value).run P w = .ok z w → R L w (MM L H Av) r z →
      QV P o ρ w fun u w' => ∃ r H' L', (k r ∧ H' = H) ∧ (∀ i, i ≠ id → L' i = L i) ∧ SR L' H' Av w' ∧ Step L H w L' H' w' ∧ R L' w' (MM L' H' Av) r u := by
    intro z r hk h3 h4
    refine .of_value (u := z) ?_ ⟨r, H, L, ⟨hk, rfl⟩, fun _ _ => rfl, hs, Step.refl _ _ _, h4⟩
    simp only [execOp, ho, Sem.run_bind, Sem.run_pure] at h3 ⊢
    rw [h3]; rfl
  unfold nilop at h
  split at h
  · rename_i n cs hx hy
    obtain ⟨⟨e, el, he, hd⟩, h⟩ := h
    have hu' := ((hG ty e he).slice hd).1
    have h1 := hops x (by simp [ho, Op.operands])
    have h2 := hops y (by simp [ho, Op.operands])
    rw [hx] at h1
    rw [hy] at h2
    have h2' := h2.nl_inv
    obtain ⟨u, hval⟩ : ∃ u, ρ x = u := ⟨_, rfl⟩
    rw [hval] at h1
    cases h1 with
    | v0 ad cp =>
      cases ad with
      | none =>
        refine fin (h.t rfl) (z := .bool true) ?_ (.b _)
        rw [hval, h2']
        simp [eqGuard, Lib.run_eql_slice_nil w ty el _ _ _ _ _ hu']
      | some ad =>
        refine fin h.f (z := .bool false) ?_ (.b _)
        rw [hval, h2']
        simp [eqGuard, Lib.run_eql_slice_nil w ty el _ _ _ _ _ hu']
    | v _ _ b off cp arr et ff us hM hb hn hu hr =>
      refine fin h.f (z := .bool false) ?_ (.b _)
      rw [hval, h2']
      simp [eqGuard, Lib.run_eql_slice_nil w ty el _ _ _ _ _ hu']
  · rename_i n cs hx hy
    obtain ⟨⟨e, el, he, hd⟩, h⟩ := h
    have hu' := ((hG ty e he).slice hd).1
    have h1 := hops x (by simp [ho, Op.operands])
    have h2 := hops y (by simp [ho, Op.operands])
    rw [hx] at h1
    rw [hy] at h2
    have h2' := h2.nl_inv
    obtain ⟨u, hval⟩ : ∃ u, ρ x = u := ⟨_, rfl⟩
    rw [hval] at h1
    cases h1 with
    | v0 ad cp =>
      cases ad with
      | none =>
        refine fin (h.t rfl) (z := .bool false) ?_ (.b _)
        rw [hval, h2']
        simp [eqGuard, Go.run_neq_slice_nil_any w ty el _ _ _ _ _ hu']
      | some ad =>
        refine fin h.f (z := .bool true) ?_ (.b _)
        rw [hval, h2']
        simp [eqGuard, Go.run_neq_slice_nil_any w ty el _ _ _ _ _ hu']
    | v _ _ b off cp arr et ff us hM hb hn hu hr =>
      refine fin h.f (z := .bool true) ?_ (.b _)
      rw [hval, h2']
      simp [eqGuard, Go.run_neq_slice_nil_any w ty el _ _ _ _ _ hu']
  · obtain ⟨r, h1, h2⟩ := bop_run hG h x y
    obtain ⟨z, h3, h4⟩ := h2 L w _ _ _ (hops x (by simp [ho, Op.operands])) (hops y (by simp [ho, Op.operands]))
    exact fin h1 h3 h4

/-- One operation that may do anything to the state. -/
def aop (Γ : TEnv) (P : Program) (dst : Option Nat) (op : Op) (id : Nat) (s : St) (K : St → Prop) : Prop :=
  match op with
  | .binOp op ty x y _ => nilop Γ op ty (evo s.t x) (evo s.t y) fun r => K ⟨putA s.t dst r, s.H, s.nx⟩
  | .store ty x y => stop Γ s.H ty (evo s.t x) (evo s.t y) fun r H' => K ⟨putA s.t dst r, H', s.nx⟩
  | .call ⟨.builtin .append, args, tys⟩ => match args.toList, tys.toList with
    | [x, y], [t1, t2] => apop Γ s.H t1 t2 (evo s.t x) (evo s.t y) id fun r H' => K ⟨putA s.t dst r, H', s.nx⟩
    | _, _ => False
  | .call ⟨.value (.func f), args, _⟩ => AC P f s.nx s.H (args.toList.map (evo s.t)) fun nx' H' r => K ⟨putA s.t dst r, H', nx'⟩
  | .call ⟨.value (.tmp n), args, _⟩ => fnV (evo s.t (.tmp n)) fun f cs => AC P f s.nx s.H (args.toList.map (evo s.t) ++ cs) fun nx' H' r => K ⟨putA s.t dst r, H', nx'⟩
  | op => qop Γ P op s.t s.H id fun r d => K ⟨putA s.t dst r, updo s.H id d, s.nx⟩

def arun (Γ : TEnv) (P : Program) (ops : List Oper) (base : Nat) : List Oper → Nat → St → (St → Prop) → Prop
  | [], _, s, K => K s
  | o :: rest, i, s, K => gop ops o.guard s.t (fun t => aop Γ P o.dst o.op (base + i) ⟨t, s.H, s.nx⟩ fun s' => arun Γ P ops base rest (i + 1) s' K) (fun t => arun Γ P ops base rest (i + 1) ⟨putA t o.dst (.c undef), s.H, s.nx⟩ K)

section
variable {P : Program} {Γ : TEnv} {nx0 : Nat} {L0 : LM} {H0 : HP} {w0 : World} {Av : Nat → Prop} {s : St} {L : LM} {a : Act} {w : World}

/-- A state of a region's inside: the numbers of the blocks to come are free. -/
structure Cr (nx0 : Nat) (L0 : LM) (H0 : HP) (w0 : World) (Av : Nat → Prop) (fa fb : Nat) (s : St) (L : LM) (a : Act) (w : World) : Prop extends Cn nx0 L0 H0 w0 Av s L a w where
  free : ∀ i, fa ≤ i → i < fb → L i = none
  hi : fb ≤ s.nx
  nlo : nx0 ≤ fa

theorem gop_wanted {ops : List Oper} {g : Option (Nat × Bool)} (c : Cn nx0 L0 H0 w0 Av s L a w) {yes no : List AV → Prop} (h : gop ops g s.t yes no) (o : Oper) (ho : o.guard = g) :
    (Region.wanted o (yielded ops.toArray a.tmps) = true ∧ yes s.t) ∨ (Region.wanted o (yielded ops.toArray a.tmps) = false ∧ no s.t) := by
  unfold gop at h
  split at h
  · exact .inl ⟨by simp [Region.wanted, ho], h⟩
  · rename_i j want
    split at h
    · rename_i d hd
      have hy : yielded ops.toArray a.tmps j = match a.tmps[d]? with | some (.bool b) => some b | _ => none := by
        unfold yielded
        simp only [List.getElem?_toArray, hd, Option.bind_some]
        rfl
      split at h
      · rename_i x hx
        have h1 := c.sl d _ hx
        have hlt : d < a.tmps.size := by rw [c.sz]; exact (List.getElem?_eq_some_iff.1 hx).1
        have h2 : a.tmps[d]? = some (.bool x) := by
          have := h1.b_inv
          simp [hlt] at this ⊢
          exact this
        rw [h2] at hy
        simp only at hy
        have hset : s.t.set d (.b x) = s.t := by
          apply List.ext_getElem?
          intro i
          rw [List.getElem?_set]
          split
          · rename_i hi; subst hi
            rw [if_pos (List.getElem?_eq_some_iff.1 hx).1, hx]
          · rfl
        by_cases hxw : x = want
        · exact .inl ⟨by simp [Region.wanted, ho, hy, hxw], by have := h.1 hxw; rwa [← hxw, hset] at this⟩
        · have hxn : x = !want := by cases x <;> cases want <;> simp at hxw ⊢
          exact .inr ⟨by simp [Region.wanted, ho, hy, hxw], by have := h.2 hxn; rwa [← hxn, hset] at this⟩
      · rename_i vs hx
        have h1 := c.sl d _ hx
        have hlt : d < a.tmps.size := by rw [c.sz]; exact (List.getElem?_eq_some_iff.1 hx).1
        have h2 : a.tmps[d]? = some (.tuple vs) := by
          have := h1.c_inv
          simp [hlt] at this ⊢
          exact this
        rw [h2] at hy
        simp only at hy
        exact .inr ⟨by simp [Region.wanted, ho, hy], h⟩
      · exact h.elim
    · exact h.elim

theorem Cr.put {lo hi : Nat} (c : Cr nx0 L0 H0 w0 Av lo hi s L a w) (d : Option Nat) {x : AV} {u : Value} (hx : R L w (MM L s.H Av) x u) : Cr nx0 L0 H0 w0 Av lo hi ⟨putA s.t d x, s.H, s.nx⟩ L (a.put d u) w := by
  obtain ⟨h1, h2, h3⟩ := put_fits c.sz c.sl d hx
  exact ⟨⟨h1.trans c.df, h2, h3, c.sr, c.fr, c.nx, c.lo, c.st⟩, c.free, c.hi, c.nlo⟩

/-- The state behind a step of memory. -/
theorem Cr.next {lo hi : Nat} (c : Cr nx0 L0 H0 w0 Av lo hi s L a w) (d : Option Nat) {x : AV} {u : Value} {L' : LM} {H' : HP} {w' : World} (hlo : lo < hi) (hL : ∀ i, i ≠ lo → L' i = L i) (hs : SR L' H' Av w') (st : Step L s.H w L' H' w')
    (hx : R L' w' (MM L' H' Av) x u) : Cr nx0 L0 H0 w0 Av (lo + 1) hi ⟨putA s.t d x, H', s.nx⟩ L' (a.put d u) w' := by
  obtain ⟨h1, h2, h3⟩ := put_fits (a := a) c.sz (fun k y hk => (c.sl k y hk).step st) d hx
  have h4 := c.hi
  have h5 := c.nlo
  refine ⟨⟨h1.trans c.df, h2, h3, hs, ?_, c.nx, ?_, c.st.trans st⟩, ?_, c.hi, by omega⟩
  · intro i hi'; simp only at hi'; rw [hL i (by omega)]; exact c.fr i hi'
  · intro i hi'; rw [hL i (by omega)]; exact c.lo i hi'
  · intro i h1 h2; rw [hL i (by omega)]; exact c.free i (by omega) h2

theorem Cr.skip {lo hi : Nat} (c : Cr nx0 L0 H0 w0 Av lo hi s L a w) : Cr nx0 L0 H0 w0 Av (lo + 1) hi s L a w :=
  ⟨c.toCn, fun i h1 h2 => c.free i (by omega) h2, c.hi, by have := c.nlo; omega⟩

theorem qv_of_ops {o : Oper} {id hi : Nat} {k : AV → HP → Prop} (h : OpS P o (evo s.t) s.H id k) (c : Cr nx0 L0 H0 w0 Av id hi s L a w) (hlo : id < hi) {K : Act → World → Prop} {Q : Exit → Act → World → Prop}
    (hK : ∀ r H' L' u w', k r H' → Cr nx0 L0 H0 w0 Av (id + 1) hi ⟨putA s.t o.dst r, H', s.nx⟩ L' (a.put o.dst u) w' → K (a.put o.dst u) w') : o.wp P a w K Q := by
  have hL := c.free id (Nat.le_refl _) hlo
  have hH : s.H id = none := by
    cases hh : s.H id with
    | none => rfl
    | some cs => obtain ⟨l, h1, _⟩ := c.sr.node id cs hh; rw [hL] at h1; cases h1
  refine (h L Av w a.eval c.sr ⟨_, c.fr⟩ hL hH (fun x _ => c.ev x)).wp ?_
  rintro u w' ⟨r, H', L', h1, h2, h3, h4, h5⟩
  exact hK r H' L' u w' h1 (c.next o.dst hlo h2 h3 h4 h5)

/-- One operation, in the text's order. -/
theorem aop_sound (hG : GOk P Γ) {o : Oper} {id hi : Nat} {K' : St → Prop} (h : aop Γ P o.dst o.op id s K') (c : Cr nx0 L0 H0 w0 Av id hi s L a w) (hlo : id < hi) {K : Act → World → Prop} {Q : Exit → Act → World → Prop}
    (hK : ∀ s' L' a' w', K' s' → Cr nx0 L0 H0 w0 Av (id + 1) hi s' L' a' w' → K a' w') : o.wp P a w K Q := by
  have gen : ∀ {K' : St → Prop}, (qop Γ P o.op s.t s.H id fun r d => K' ⟨putA s.t o.dst r, updo s.H id d, s.nx⟩) → (∀ s' L' a' w', K' s' → Cr nx0 L0 H0 w0 Av (id + 1) hi s' L' a' w' → K a' w') → o.wp P a w K Q := by
    intro K' h hK
    obtain ⟨r, d, h1, h2⟩ := qop_ok hG h
    refine qv_of_ops (h2 s.H (fun _ _ h => h)) c hlo ?_
    rintro r' H' L' u w' ⟨rfl, rfl⟩ hc
    exact hK _ _ _ _ h1 hc
  have callgo : ∀ (f : FuncId) (xs : List AV) (us : Array Value), AC P f s.nx s.H xs (fun nx' H' r => K' ⟨putA s.t o.dst r, H', nx'⟩) → ArgsR L w (MM L s.H Av) xs us → (execOp a.eval o).run P w = .ok (.enter f us) w → o.wp P a w K Q := by
    rintro f xs us ⟨he, hrun⟩ ha h1
    have h2 := hrun L Av w _ c.sr c.fr ha
    have h3 : QV P o a.eval w fun u w' => ∃ r L' nx' H', K' ⟨putA s.t o.dst r, H', nx'⟩ ∧ s.nx ≤ nx' ∧ (∀ i, nx' ≤ i → L' i = none) ∧ (∀ i, i < s.nx → L' i = L i) ∧ SR L' H' Av w' ∧ Step L s.H w L' H' w' ∧ R L' w' (MM L' H' Av) r u := by
      unfold QV
      rw [h1]
      exact h2.mono fun e w' ⟨u, r, L', nx', H', g1, g2, g3, g4, g5, g6, g7, g8⟩ => ⟨u, g1, r, L', nx', H', g2, g3, g4, g5, g6, g7, g8⟩
    refine h3.wp ?_
    rintro u w' ⟨r, L', nx', H', g1, g2, g3, g4, g5, g6, g7⟩
    obtain ⟨q1, q2, q3⟩ := put_fits (a := a) c.sz (fun k y hk => (c.sl k y hk).step g6) o.dst g7
    have h4 := c.hi
    have h5 := c.nlo
    have h6 := c.nx
    refine hK _ L' _ w' g1 ⟨⟨q1.trans c.df, q2, q3, g5, g3, by simp only; omega, ?_, c.st.trans g6⟩, ?_, by simp only; omega, by omega⟩
    · intro i hi'; rw [g4 i (by omega)]; exact c.lo i hi'
    · intro i h7 h8; rw [g4 i (by omega)]; exact c.free i (by omega) h8
  unfold aop at h
  split at h
  · rename_i op ty x y ty2 ho
    refine qv_of_ops (nilop_ok hG ho h) c hlo ?_
    rintro r H' L' u w' ⟨hk, rfl⟩ hc
    exact hK _ _ _ _ hk hc
  · rename_i ty x y ho
    refine qv_of_ops (stop_ok hG ho h) c hlo ?_
    intro r H' L' u w' hk hc
    exact hK _ _ _ _ hk hc
  · rename_i args tys ho
    split at h
    · rename_i x y t1 t2 ha ht
      have ha' : args = #[x, y] := by apply Array.ext'; simpa using ha
      subst ha'
      refine qv_of_ops (apop_ok hG ho (by rw [← Array.getElem?_toList, ht]; rfl) (by rw [← Array.getElem?_toList, ht]; rfl) h) c hlo ?_
      intro r H' L' u w' hk hc
      exact hK _ _ _ _ hk hc
    · exact h.elim
  · rename_i f args tys ho
    have h1 := run_enter h.1 ho (show a.eval (.func f) = .func (.func f) #[] #[] from rfl) w
    exact callgo f _ _ h (args_of ho (fun x _ => c.ev x)) h1
  · rename_i n args tys ho
    unfold fnV at h
    split at h
    · rename_i f cs hv
      have hx := c.ev (.tmp n)
      rw [hv] at hx
      obtain ⟨us, hf, hus⟩ := hx.f_inv
      have h1 := run_enterV h.1 ho hf w
      exact callgo f _ _ h ((args_ofV ho (fun x _ => c.ev x)).append hus) h1
    · exact h.elim
  · exact gen h hK

theorem arun_sound (hG : GOk P Γ) {ops : List Oper} {base hi : Nat} {Q : Exit → Act → World → Prop} {K' : St → Prop} : ∀ (rest : List Oper) (i : Nat) (s : St) (L : LM) (a : Act) (w : World), arun Γ P ops base rest i s K' →
    Cr nx0 L0 H0 w0 Av (base + i) hi s L a w → base + i + rest.length ≤ hi → (∀ s' L' a' w', K' s' → Cn nx0 L0 H0 w0 Av s' L' a' w' → Q .normal a' w') → wpList P ops.toArray Q rest a w := by
  intro rest
  induction rest with
  | nil => intro i s L a w h c _ hQ; exact hQ s L a w h c.toCn
  | cons o rest ih =>
    intro i s L a w h c hlen hQ
    simp only [List.length_cons] at hlen
    simp only [arun] at h
    unfold wpList
    rcases gop_wanted c.toCn h o rfl with ⟨hw, hy⟩ | ⟨hw, hn⟩
    · rw [if_pos hw]
      refine .inl (aop_sound hG hy c (by omega) ?_)
      intro s' L' a' w' hk hc
      exact ih (i + 1) s' L' a' w' hk hc (by omega) hQ
    · rw [if_neg (by simp [hw])]
      exact ih (i + 1) _ L _ w hn (c.put o.dst (.c _)).skip (by omega) hQ

theorem AW.region (hG : GOk P Γ) {n : Nat} {ops : Array Oper} {K : Exit → St → Prop} (h : arun Γ P ops.toList s.nx ops.toList 0 ⟨s.t, s.H, s.nx + ops.toList.length⟩ (K .normal)) : AW P (.region n ops false) s K := by
  intro nx0 L0 H0 w0 Av L a w Q hc hQ
  refine wp_region_list ?_
  have hcr : Cr nx0 L0 H0 w0 Av (s.nx + 0) (s.nx + ops.toList.length) ⟨s.t, s.H, s.nx + ops.toList.length⟩ L a w :=
    ⟨⟨hc.df, hc.sz, hc.sl, hc.sr, fun i hi => hc.fr i (by simp only at hi; omega), by have := hc.nx; simp only; omega, hc.lo, hc.st⟩, fun i h1 _ => hc.fr i (by omega), by simp only; omega, by have := hc.nx; omega⟩
  have := arun_sound (Q := Q) hG ops.toList 0 _ L a w h hcr (by omega) (fun s' L' a' w' hk hc' => hQ _ _ _ _ _ hk hc')
  simpa using this

end
end Go.Proofs.Ytgeoogndonghmaa
