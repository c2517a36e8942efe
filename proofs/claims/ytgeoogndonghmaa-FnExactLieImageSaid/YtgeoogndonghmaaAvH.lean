/-
  Own layer, part H: contracts of functions, the abstract weakest precondition of a piece of code, and its rules.
-/
import Derived.Test.YtgeoogndonghmaaAvG
set_option linter.unusedVariables false
set_option linter.unusedSimpArgs false
namespace Go.Proofs.Ytgeoogndonghmaa

/-- A function with a body, entered by a call. -/
def Ent (P : Program) (f : FuncId) : Prop := ∃ fn, P.funcs[f]? = some fn ∧ fn.body.isNone = false ∧ (fn.name == "runtime.NumGoroutine") = false

def ArgsR (L : LM) (w : World) (M : Nat → Prop) (as : List AV) (us : Array Value) : Prop :=
  us.size = as.length ∧ ∀ (k : Nat) (x : AV), as[k]? = some x → R L w M x (us.getD k undef)

/-- What a call does to the abstract state. -/
def AC (P : Program) (f : FuncId) (nx : Nat) (H : HP) (as : List AV) (Q : Nat → HP → AV → Prop) : Prop :=
  Ent P f ∧ ∀ (L : LM) (Av : Nat → Prop) (w : World) (us : Array Value), SR L H Av w → (∀ i, nx ≤ i → L i = none) → ArgsR L w (MM L H Av) as us →
    Calls P f us w fun e w' => ∃ u r L' nx' H', e = .returned u ∧ Q nx' H' r ∧ nx ≤ nx' ∧ (∀ i, nx' ≤ i → L' i = none) ∧ (∀ i, i < nx → L' i = L i) ∧ SR L' H' Av w' ∧ Step L H w L' H' w' ∧ R L' w' (MM L' H' Av) r u

theorem AC.mono {P : Program} {f : FuncId} {nx : Nat} {H : HP} {as : List AV} {Q Q' : Nat → HP → AV → Prop} (h : AC P f nx H as Q) (hq : ∀ n H r, Q n H r → Q' n H r) : AC P f nx H as Q' :=
  ⟨h.1, fun L Av w us a b c => (h.2 L Av w us a b c).mono fun e w' ⟨u, r, L', nx', H', h1, h2, h3⟩ => ⟨u, r, L', nx', H', h1, hq _ _ _ h2, h3⟩⟩

def noH : HP := fun _ => none

/-- A call that yields the value r and leaves all else as it was. -/
def ACp (P : Program) (f : FuncId) (as : List AV) (r : AV) : Prop :=
  Ent P f ∧ ∀ (L : LM) (M : Nat → Prop) (w : World) (us : Array Value), (∀ b, M b → b < w.heap.size) → (∃ n, ∀ i, n ≤ i → L i = none) → ArgsR L w M as us →
    Calls P f us w fun e w' => ∃ u, e = .returned u ∧ Step L noH w L noH w' ∧ R L w' M r u

theorem LB_noH {L : LM} {b : Nat} : ¬ LB L noH b := by rintro ⟨id, cs, l, h, _⟩; cases h
theorem SR_noH {L : LM} {M : Nat → Prop} {w : World} (h : ∀ b, M b → b < w.heap.size) : SR L noH M w :=
  ⟨fun id cs h => (by cases h), fun id id' cs cs' l l' h => (by cases h), fun id cs l h => (by cases h), h⟩
theorem MM_noH {L : LM} {M : Nat → Prop} : MM L noH M = M := by
  funext b; apply propext
  exact ⟨fun h => h.elim id (fun h => absurd h LB_noH), .inl⟩

theorem MM_lt {L : LM} {H : HP} {Av : Nat → Prop} {w : World} (s : SR L H Av w) : ∀ b, MM L H Av b → b < w.heap.size :=
  fun b h => h.elim (s.avlt b) (LB_lt s)

/-- Nothing that was there has changed: the owned blocks stand as they were. -/
theorem SR.kept {L : LM} {H : HP} {Av : Nat → Prop} {w w' : World} (s : SR L H Av w) (st : Step L noH w L noH w') : SR L H Av w' ∧ Step L H w L H w' := by
  have hk : ∀ b, b < w.heap.size → w'.heap[b]? = w.heap[b]? := fun b hb => st.keep b hb LB_noH
  have hst : Step L H w L H w' := ⟨fun _ _ h => h, st.os, st.tape, st.output, st.size, fun b hb _ => hk b hb, fun _ _ h => h⟩
  refine ⟨⟨?_, s.inj, s.av, fun b hb => Nat.lt_of_lt_of_le (s.avlt b hb) st.size⟩, hst⟩
  intro id cs h
  obtain ⟨l, h1, ⟨arr, e, h2, h3, h4, h5⟩⟩ := s.node id cs h
  exact ⟨l, h1, ⟨arr, e, by rw [hk _ (getElem?_lt h2)]; exact h2, h3, h4, fun k x hx => by
    obtain ⟨u, h6, h7⟩ := h5 k x hx
    exact ⟨u, h6, h7.step hst⟩⟩⟩

/-- An owned piece, looked at as read-only data for the time of a call. -/
inductive Vw (H : HP) : AV → AV → Prop
  | refl (a : AV) : Vw H a a
  | nl : Vw H .nl (.v 0 [])
  | h (id o n : Nat) (cs ts : List AV) (h1 : H id = some cs) (h2 : o + n ≤ cs.length) (h3 : ts.length = n) (h4 : ∀ (k : Nat) (x y : AV), cs[o + k]? = some x → ts[k]? = some y → Vw H x y) : Vw H (.h id o n) (.v n ts)
  | q (id o : Nat) (cs ts : List AV) (h1 : H id = some cs) (h3 : ts.length = cs.length) (h4 : ∀ (k : Nat) (x y : AV), cs[k]? = some x → ts[k]? = some y → Vw H x y) : Vw H (.q id o) (.p o ts)
  | g (cs ts : List AV) (h3 : ts.length = cs.length) (h4 : ∀ (k : Nat) (x y : AV), cs[k]? = some x → ts[k]? = some y → Vw H x y) : Vw H (.g cs) (.g ts)
  | t (cs ts : List AV) (h3 : ts.length = cs.length) (h4 : ∀ (k : Nat) (x y : AV), cs[k]? = some x → ts[k]? = some y → Vw H x y) : Vw H (.t cs) (.t ts)
  | v (n : Nat) (cs ts : List AV) (h3 : ts.length = cs.length) (h4 : ∀ (k : Nat) (x y : AV), cs[k]? = some x → ts[k]? = some y → Vw H x y) : Vw H (.v n cs) (.v n ts)
  | p (n : Nat) (cs ts : List AV) (h3 : ts.length = cs.length) (h4 : ∀ (k : Nat) (x y : AV), cs[k]? = some x → ts[k]? = some y → Vw H x y) : Vw H (.p n cs) (.p n ts)
  | f (n : Nat) (cs ts : List AV) (h3 : ts.length = cs.length) (h4 : ∀ (k : Nat) (x y : AV), cs[k]? = some x → ts[k]? = some y → Vw H x y) : Vw H (.f n cs) (.f n ts)

theorem Vw.sound {L : LM} {H : HP} {Av : Nat → Prop} {w : World} (s : SR L H Av w) {a t : AV} (v : Vw H a t) : ∀ {u : Value}, R L w (MM L H Av) a u → R L w Av t u := by
  have hM : ∀ {x : AV} {u : Value}, R L w (MM L H Av) x u → R L w Av x u := fun h => h.mono (fun _ _ h => h) (fun _ _ _ => rfl) (fun _ _ h => .inl h)
  induction v with
  | refl a => intro u h; exact hM h
  | nl => intro u h; rw [h.nl_inv]; exact .v0 _ _
  | h id o n cs ts h1 h2 h3 h4 ih =>
    intro u h
    obtain ⟨l, hl, ⟨arr, e, e2, e3, e4, e5⟩⟩ := s.node id cs h1
    cases h with
    | h _ _ _ l' ad cp hl' hn hc ha =>
      rw [hl] at hl'; cases hl'
      by_cases hn0 : n = 0
      · subst hn0
        have : ts = [] := List.length_eq_zero_iff.1 h3
        subst this
        exact .v0 _ _
      · rw [ha.resolve_left (by omega)]
        have hcell : ∀ k, k < n → ∃ u, arr[l.off + o + k]? = some u ∧ R L w (MM L H Av) (cs.getD (o + k) .j) u := by
          intro j hj
          have hlt : o + j < cs.length := by omega
          obtain ⟨u, h3, h4⟩ := e5 (o + j) cs[o + j] (List.getElem?_eq_getElem hlt)
          exact ⟨u, by rw [Nat.add_assoc]; exact h3, by simpa [hlt] using h4⟩
        refine .v n ts l.blk (l.off + o) cp arr e _ (fun k => arr.getD (l.off + o + k) undef) (s.av id cs l h1 hl) e2 hn ?_ ?_
        · intro k hk
          obtain ⟨u, h6, _⟩ := hcell k (by omega)
          rw [h6]; simp [h6]
        · intro k y hy
          have hk := (List.getElem?_eq_some_iff.1 hy).1
          obtain ⟨u, h6, h7⟩ := hcell k (by omega)
          have hlt : o + k < cs.length := by omega
          have hx : cs[o + k]? = some (cs.getD (o + k) .j) := by simp [hlt]
          have := ih k _ y hx hy h7
          rw [show arr.getD (l.off + o + k) undef = u by simp [h6]]
          exact this
  | q id o cs ts h1 h3 h4 ih =>
    intro u h
    obtain ⟨l, hl, ⟨arr, e, e2, e3, e4, e5⟩⟩ := s.node id cs h1
    obtain ⟨l', hl', hu⟩ := h.q_inv
    rw [hl] at hl'; cases hl'
    rw [hu]
    refine .p o ts l.blk l.off arr e _ (fun k => arr.getD (l.off + k) undef) (s.av id cs l h1 hl) e2 ?_ ?_
    · intro k hk
      obtain ⟨u, h6, _⟩ := e5 k cs[k] (List.getElem?_eq_getElem (by omega))
      rw [h6]; simp [h6]
    · intro k y hy
      have hk := (List.getElem?_eq_some_iff.1 hy).1
      obtain ⟨u, h6, h7⟩ := e5 k cs[k] (List.getElem?_eq_getElem (by omega))
      have := ih k _ y (List.getElem?_eq_getElem (by omega)) hy h7
      rw [show arr.getD (l.off + k) undef = u by simp [h6]]
      exact this
  | g cs ts h3 h4 ih =>
    intro u h
    cases h with
    | g _ us hs hr =>
      refine .g ts us (by omega) ?_
      intro k y hy
      have hk := (List.getElem?_eq_some_iff.1 hy).1
      have hx : cs[k]? = some cs[k] := List.getElem?_eq_getElem (by omega)
      exact ih k _ y hx hy (hr k _ hx)
  | t cs ts h3 h4 ih =>
    intro u h
    cases h with
    | t _ us hs hr =>
      refine .t ts us (by omega) ?_
      intro k y hy
      have hk := (List.getElem?_eq_some_iff.1 hy).1
      have hx : cs[k]? = some cs[k] := List.getElem?_eq_getElem (by omega)
      exact ih k _ y hx hy (hr k _ hx)
  | f n cs ts h3 h4 ih =>
    intro u h
    cases h with
    | f _ _ us hs hr =>
      refine .f n ts us (by omega) ?_
      intro k y hy
      have hk := (List.getElem?_eq_some_iff.1 hy).1
      have hx : cs[k]? = some cs[k] := List.getElem?_eq_getElem (by omega)
      exact ih k _ y hx hy (hr k _ hx)
  | v n cs ts h3 h4 ih =>
    intro u h
    cases h with
    | v0 a cp =>
      have : ts = [] := List.length_eq_zero_iff.1 (by simpa using h3)
      subst this; exact .v0 _ _
    | v _ _ b off cp arr e f us hm hb hn hu hr =>
      refine .v n ts b off cp arr e f us (fun h => hm (.inl h)) hb hn (fun k hk => hu k (by omega)) ?_
      intro k y hy
      have hk := (List.getElem?_eq_some_iff.1 hy).1
      have hx : cs[k]? = some cs[k] := List.getElem?_eq_getElem (by omega)
      exact ih k _ y hx hy (hr k _ hx)
  | p n cs ts h3 h4 ih =>
    intro u h
    cases h with
    | p _ _ b off arr e f us hm hb hu hr =>
      refine .p n ts b off arr e f us (fun h => hm (.inl h)) hb (fun k hk => hu k (by omega)) ?_
      intro k y hy
      have hk := (List.getElem?_eq_some_iff.1 hy).1
      have hx : cs[k]? = some cs[k] := List.getElem?_eq_getElem (by omega)
      exact ih k _ y hx hy (hr k _ hx)

inductive Vws (H : HP) : List AV → List AV → Prop
  | nil : Vws H [] []
  | cons {a t : AV} {as ts : List AV} (h : Vw H a t) (hs : Vws H as ts) : Vws H (a :: as) (t :: ts)

theorem Vws.get {H : HP} {as ts : List AV} (h : Vws H as ts) : ts.length = as.length ∧ ∀ (k : Nat) (t : AV), ts[k]? = some t → ∃ a, as[k]? = some a ∧ Vw H a t := by
  induction h with
  | nil => exact ⟨rfl, by simp⟩
  | cons h hs ih =>
    refine ⟨by simp [ih.1], ?_⟩
    intro k t hk
    cases k with
    | zero => simp at hk; subst hk; exact ⟨_, rfl, h⟩
    | succ k => exact ih.2 k t (by simpa using hk)

theorem ArgsR.view {L : LM} {H : HP} {Av : Nat → Prop} {w : World} (s : SR L H Av w) {as ts : List AV} {us : Array Value} (h : ArgsR L w (MM L H Av) as us) (v : Vws H as ts) : ArgsR L w Av ts us := by
  obtain ⟨h1, h2⟩ := v.get
  refine ⟨by rw [h.1, h1], ?_⟩
  intro k t hk
  obtain ⟨a, h3, h4⟩ := h2 k t hk
  exact h4.sound s (h.2 k a h3)

/-- The two ways in which a call that only reads is used: with arguments as they are; or with owned pieces lent for the time of the call, the result holding no memory. -/
def RC (P : Program) (f : FuncId) (H : HP) (as : List AV) (r : AV) : Prop :=
  ACp P f as r ∨ ∃ ts, Vws H as ts ∧ ACp P f ts r ∧ Fl r

theorem RC.run {P : Program} {f : FuncId} {H H' : HP} {as : List AV} {r : AV} (h : RC P f H as r) (hH : ∀ i c, H i = some c → H' i = some c) : Ent P f ∧ ∀ (L : LM) (Av : Nat → Prop) (w : World) (us : Array Value), SR L H' Av w → (∃ n, ∀ i, n ≤ i → L i = none) → ArgsR L w (MM L H' Av) as us →
    Calls P f us w fun e w' => ∃ u, e = .returned u ∧ SR L H' Av w' ∧ Step L H' w L H' w' ∧ R L w' (MM L H' Av) r u := by
  rcases h with h | ⟨ts, hv, h, hf⟩
  · refine ⟨h.1, fun L Av w us s hn a => (h.2 L _ w us (MM_lt s) hn a).mono ?_⟩
    rintro e w' ⟨u, h1, h2, h3⟩
    exact ⟨u, h1, (s.kept h2).1, (s.kept h2).2, h3⟩
  · refine ⟨h.1, fun L Av w us s hn a => (h.2 L _ w us s.avlt hn (a.view s ?_)).mono ?_⟩
    · have mono : ∀ {a t : AV}, Vw H a t → Vw H' a t := by
        intro a t v
        induction v with
        | refl a => exact .refl a
        | nl => exact .nl
        | h id o n cs ts h1 h2 h3 h4 ih => exact .h id o n cs ts (hH _ _ h1) h2 h3 ih
        | q id o cs ts h1 h3 h4 ih => exact .q id o cs ts (hH _ _ h1) h3 ih
        | g cs ts h3 h4 ih => exact .g cs ts h3 ih
        | t cs ts h3 h4 ih => exact .t cs ts h3 ih
        | v n cs ts h3 h4 ih => exact .v n cs ts h3 ih
        | p n cs ts h3 h4 ih => exact .p n cs ts h3 ih
        | f n cs ts h3 h4 ih => exact .f n cs ts h3 ih
      clear a h
      induction hv with
      | nil => exact .nil
      | cons h hs ih => exact .cons (mono h) ih
    · rintro e w' ⟨u, h1, h2, h3⟩
      exact ⟨u, h1, (s.kept h2).1, (s.kept h2).2, h3.fl (fun _ _ h => h) hf⟩

theorem run_enter {P : Program} {f : FuncId} (he : Ent P f) {o : Oper} {ρ : Operand → Value} {args : Array Operand} {tys : Array TypeId} (ho : o.op = .call ⟨.value (.func f), args, tys⟩) (hρ : ρ (.func f) = .func (.func f) #[] #[]) (w : World) :
    (execOp ρ o).run P w = .ok (.enter f (args.map ρ)) w := by
  obtain ⟨fn, h1, h2, h3⟩ := he
  have h2' : ¬ fn.body = none := by intro hn; rw [hn] at h2; cases h2
  have h3' : ¬ fn.name = "runtime.NumGoroutine" := by simpa using h3
  simp [execOp, ho, resolve, Deferred.ofValue, hρ, invoke, callFunc, h1, h2', h3']

theorem args_of {L : LM} {w : World} {M : Nat → Prop} {o : Oper} {ev : Operand → AV} {ρ : Operand → Value} {f : FuncId} {args : Array Operand} {tys : Array TypeId} (ho : o.op = .call ⟨.value (.func f), args, tys⟩)
    (hops : ∀ x ∈ o.op.operands, R L w M (ev x) (ρ x)) : ArgsR L w M (args.toList.map ev) (args.map ρ) := by
  refine ⟨by simp, ?_⟩
  intro k x hk
  simp only [List.getElem?_map, Option.map_eq_some_iff, Array.getElem?_toList] at hk
  obtain ⟨y, h1, h2⟩ := hk
  have hm : y ∈ o.op.operands := by
    rw [ho]; simp only [Op.operands, Call.operands, Array.mem_append]
    exact .inr (Array.mem_of_getElem? h1)
  have := hops y hm
  rw [← h2]
  simpa [h1] using this

theorem R.f_inv {L : LM} {w : World} {M : Nat → Prop} {f : Nat} {cs : List AV} {u : Value} (h : R L w M (.f f cs) u) : ∃ us, u = .func (.func f) #[] us ∧ ArgsR L w M cs us := by
  cases h with
  | f _ _ us hs hr => exact ⟨us, rfl, hs, hr⟩
theorem R.f0_inv {L : LM} {w : World} {M : Nat → Prop} {f : Nat} {u : Value} (h : R L w M (.f f []) u) : u = .func (.func f) #[] #[] := by
  obtain ⟨us, h1, h2, _⟩ := h.f_inv
  have : us = #[] := by simpa using h2
  rw [h1, this]
theorem ArgsR.append {L : LM} {w : World} {M : Nat → Prop} {xs cs : List AV} {us vs : Array Value} (h1 : ArgsR L w M xs us) (h2 : ArgsR L w M cs vs) : ArgsR L w M (xs ++ cs) (us ++ vs) := by
  refine ⟨by simp [h1.1, h2.1], ?_⟩
  intro k x hk
  rw [List.getElem?_append] at hk
  rw [Array.getD_eq_getD_getElem?, Array.getElem?_append]
  split at hk
  · rename_i hlt
    rw [if_pos (by rw [h1.1]; exact hlt)]
    have := h1.2 k x hk
    rwa [Array.getD_eq_getD_getElem?] at this
  · rename_i hlt
    rw [if_neg (by rw [h1.1]; exact hlt), h1.1]
    have := h2.2 _ x hk
    rwa [Array.getD_eq_getD_getElem?] at this
theorem run_enterV {P : Program} {f : FuncId} (he : Ent P f) {o : Oper} {ρ : Operand → Value} {x : Operand} {args : Array Operand} {tys : Array TypeId} {us : Array Value} (ho : o.op = .call ⟨.value x, args, tys⟩) (hρ : ρ x = .func (.func f) #[] us) (w : World) :
    (execOp ρ o).run P w = .ok (.enter f (args.map ρ ++ us)) w := by
  obtain ⟨fn, h1, h2, h3⟩ := he
  have h2' : ¬ fn.body = none := by intro hn; rw [hn] at h2; cases h2
  have h3' : ¬ fn.name = "runtime.NumGoroutine" := by simpa using h3
  simp [execOp, ho, resolve, Deferred.ofValue, hρ, invoke, callFunc, h1, h2', h3']
theorem args_ofV {L : LM} {w : World} {M : Nat → Prop} {o : Oper} {ev : Operand → AV} {ρ : Operand → Value} {x : Operand} {args : Array Operand} {tys : Array TypeId} (ho : o.op = .call ⟨.value x, args, tys⟩)
    (hops : ∀ x ∈ o.op.operands, R L w M (ev x) (ρ x)) : ArgsR L w M (args.toList.map ev) (args.map ρ) := by
  refine ⟨by simp, ?_⟩
  intro k x hk
  simp only [List.getElem?_map, Option.map_eq_some_iff, Array.getElem?_toList] at hk
  obtain ⟨y, h1, h2⟩ := hk
  have hm : y ∈ o.op.operands := by
    rw [ho]; simp only [Op.operands, Call.operands, Array.mem_append]
    exact .inr (Array.mem_of_getElem? h1)
  have := hops y hm
  rw [← h2]
  simpa [h1] using this

theorem R.c_inv {L : LM} {w : World} {M : Nat → Prop} {x u : Value} (h : R L w M (.c x) u) : u = x := by cases h; rfl

/-- A mark that keeps simp out of a proposition (with 'dsimp := false'). -/
inductive Tg : Prop → Type
  | mk (p : Prop) : Tg p
/-- Two ways, by a truth value. -/
structure gopB (x want : Bool) (yes no : Prop) (a : Tg yes) (b : Tg no) : Prop where
  y : x = want → yes
  n : x = (!want) → no
structure pickB (z : Bool) (yes no : Prop) (a : Tg yes) (b : Tg no) : Prop where
  y : z = true → yes
  n : z = false → no
theorem gB1 {y n : Prop} {a : Tg y} {b : Tg n} : gopB true true y n a b = y := propext ⟨fun h => h.1 rfl, fun h => ⟨fun _ => h, (fun e => by cases e)⟩⟩
theorem gB2 {y n : Prop} {a : Tg y} {b : Tg n} : gopB false false y n a b = y := propext ⟨fun h => h.1 rfl, fun h => ⟨fun _ => h, (fun e => by cases e)⟩⟩
theorem gB3 {y n : Prop} {a : Tg y} {b : Tg n} : gopB true false y n a b = n := propext ⟨fun h => h.2 rfl, fun h => ⟨(fun e => by cases e), fun _ => h⟩⟩
theorem gB4 {y n : Prop} {a : Tg y} {b : Tg n} : gopB false true y n a b = n := propext ⟨fun h => h.2 rfl, fun h => ⟨(fun e => by cases e), fun _ => h⟩⟩
theorem pB1 {y n : Prop} {a : Tg y} {b : Tg n} : pickB true y n a b = y := propext ⟨fun h => h.1 rfl, fun h => ⟨fun _ => h, (fun e => by cases e)⟩⟩
theorem pB2 {y n : Prop} {a : Tg y} {b : Tg n} : pickB false y n a b = n := propext ⟨fun h => h.2 rfl, fun h => ⟨(fun e => by cases e), fun _ => h⟩⟩
/-- A region's guard on a value that is not known: both ways. -/
theorem gopB.mk' {x want : Bool} {yes no : Prop} {a : Tg yes} {b : Tg no} (y : x = want → yes) (n : x = (!want) → no) : gopB x want yes no a b := ⟨y, n⟩

/-- A function as a value: made, and used. -/
def mfop (fn : Fn) (first : List Operand) (cs : List AV) (k : AV → Prop) : Prop := match fn, first with
  | .func f, [] => k (.f f cs)
  | _, _ => False
def fnV (v : AV) (k : Nat → List AV → Prop) : Prop := match v with
  | .f f cs => k f cs
  | _ => False

/-! All operations that only yield a value or lay one new block. -/
def qop (Γ : TEnv) (P : Program) (op : Op) (t : List AV) (H : HP) (id : Nat) (k : AV → Option (List AV) → Prop) : Prop :=
  match op with
  | .move x => k (evo t x) none
  | .assign x => k (evo t x) none
  | .pick c a b => match evo t c with
    | .b z => pickB z (k (evo t a) none) (k (evo t b) none) (.mk _) (.mk _)
    | _ => False
  | .binOp op ty x y _ => bop Γ op ty (evo t x) (evo t y) fun r => k r none
  | .unOp op _ x => uop op (evo t x) fun r => k r none
  | .convert src dst x => cop Γ src dst (evo t x) fun r => k r none
  | .load ty x => lop Γ H ty (evo t x) fun r => k r none
  | .fieldAddr ty x f => fop Γ ty f fun off => padd (evo t x) off fun r => k r none
  | .indexAddr ty x i => iop Γ ty (evo t x) (evo t i) fun r => k r none
  | .slice ty x lo hi none => sop Γ ty (evo t x) (lo.map (evo t)) (hi.map (evo t)) fun r => k r none
  | .extract x n => eop (evo t x) n fun r => k r none
  | .nilCheck x => nop (evo t x) fun r => k r none
  | .build ty parts => buop Γ ty (parts.toList.map fun (i, x) => (i, evo t x)) fun r => k r none
  | .buildSlice ty len parts => bsop Γ ty len (parts.toList.map fun (i, x) => (i, evo t x)) id k
  | .makeSlice ty x y => mkop Γ ty (evo t x) (evo t y) id k
  | .alloc ty => match Γ ty with
    | some e => k (.q id 0) (some (zcells e))
    | none => False
  | .box ty x => okA (evo t x) = true ∧ k (.q id 0) (some (cellsA (evo t x)))
  | .call ⟨.builtin .len, args, tys⟩ => match args.toList, tys.toList with
    | [x], ty :: _ => lenop Γ ty (evo t x) fun r => k r none
    | _, _ => False
  | .call ⟨.builtin .cap, args, tys⟩ => match args.toList, tys.toList with
    | [x], ty :: _ => capop Γ ty (evo t x) fun r => k r none
    | _, _ => False
  | .call ⟨.value (.func f), args, _⟩ => ex2 (fun r => RC P f H (args.toList.map (evo t)) r) fun r => k r none
  | .call ⟨.value (.tmp n), args, _⟩ => fnV (evo t (.tmp n)) fun f cs => ex2 (fun r => RC P f H (args.toList.map (evo t) ++ cs) r) fun r => k r none
  | .makeFunc fn first cap => mfop fn first.toList (cap.toList.map (evo t)) fun r => k r none
  | _ => False

/-- Does the operation lay a block? -/
def lays : Op → Bool
  | .alloc _ | .box .. | .makeSlice .. | .buildSlice .. => true
  | _ => false

theorem qop_ok' {P : Program} {Γ : TEnv} (hG : GOk P Γ) {o : Oper} {t : List AV} {H : HP} {id : Nat} {k : AV → Option (List AV) → Prop} (h : qop Γ P o.op t H id k) : ∃ r d, k r d ∧ QOk P o (evo t) H id r d ∧ (lays o.op = false → d = none) := by
  have val : ∀ x, (∀ ρ : Operand → Value, ∀ w, (execOp ρ o).run P w = .ok (.value (ρ x)) w) → x ∈ o.op.operands → QOk P o (evo t) H id (evo t x) none :=
    fun x hx hm => QOk.pure fun H' hH L Av w ρ hs hops => ⟨ρ x, hx ρ w, hops x hm⟩
  have lift : ∀ {K : AV → Prop}, (∃ r, K r ∧ QOk P o (evo t) H id r none) → (∀ r, K r → k r none) → ∃ r d, k r d ∧ QOk P o (evo t) H id r d ∧ (lays o.op = false → d = none) :=
    fun ⟨r, h1, h2⟩ h3 => ⟨r, none, h3 r h1, h2, fun _ => rfl⟩
  cases ho : o.op <;> rw [ho] at h lift <;> simp only [qop] at h
  case move x => exact ⟨_, _, h, val x (fun ρ w => by simp [execOp, ho]) (by simp [ho, Op.operands]), fun _ => rfl⟩
  case assign x => exact ⟨_, _, h, val x (fun ρ w => by simp [execOp, ho]) (by simp [ho, Op.operands]), fun _ => rfl⟩
  case pick c a b =>
    split at h
    · rename_i z hz
      cases z with
      | true =>
        refine ⟨_, _, h.1 rfl, QOk.pure fun H' hH L Av w ρ hs hops => ⟨ρ a, ?_, hops a (by simp [ho, Op.operands])⟩, fun _ => rfl⟩
        have hc := hops c (by simp [ho, Op.operands])
        rw [hz] at hc
        simp [execOp, ho, hc.b_inv, asBool]
      | false =>
        refine ⟨_, _, h.2 rfl, QOk.pure fun H' hH L Av w ρ hs hops => ⟨ρ b, ?_, hops b (by simp [ho, Op.operands])⟩, fun _ => rfl⟩
        have hc := hops c (by simp [ho, Op.operands])
        rw [hz] at hc
        simp [execOp, ho, hc.b_inv, asBool]
    · exact h.elim
  case binOp op ty x y ty2 =>
    obtain ⟨r, h1, h2⟩ := bop_run hG h x y
    refine ⟨r, none, h1, QOk.pure fun H' hH L Av w ρ hs hops => ?_, fun _ => rfl⟩
    obtain ⟨z, h3, h4⟩ := h2 L w _ _ _ (hops x (by simp [ho, Op.operands])) (hops y (by simp [ho, Op.operands]))
    exact ⟨z, by simp only [execOp, ho, Sem.run_bind, Sem.run_pure] at h3 ⊢; rw [h3]; rfl, h4⟩
  case unOp op ty x =>
    obtain ⟨r, h1, h2⟩ := uop_run (P := P) h
    refine ⟨r, none, h1, QOk.pure fun H' hH L Av w ρ hs hops => ?_, fun _ => rfl⟩
    obtain ⟨z, h3, h4⟩ := h2 L w _ _ (hops x (by simp [ho, Op.operands]))
    exact ⟨z, by simp [execOp, ho, h3], h4⟩
  case convert s d x =>
    obtain ⟨r, h1, h2⟩ := cop_run hG h
    refine ⟨r, none, h1, QOk.pure fun H' hH L Av w ρ hs hops => ?_, fun _ => rfl⟩
    obtain ⟨z, h3, h4⟩ := h2 L w _ _ (hops x (by simp [ho, Op.operands]))
    exact ⟨z, by simp [execOp, ho, h3], h4⟩
  case load ty x => exact lift (lop_ok hG ho h) (fun _ h => h)
  case fieldAddr ty x f => exact lift (fop_ok hG ho h) (fun _ h => h)
  case indexAddr ty x i => exact lift (iop_ok hG ho h) (fun _ h => h)
  case slice ty x lo hi mx =>
    cases mx with
    | none => exact lift (sop_ok hG ho h) (fun _ h => h)
    | some _ => exact h.elim
  case extract x n => exact lift (eop_ok ho h) (fun _ h => h)
  case nilCheck x => exact lift (nop_ok ho h) (fun _ h => h)
  case build ty parts => exact lift (buop_ok hG ho h) (fun _ h => h)
  case buildSlice ty len parts => obtain ⟨r, d, h1, h2⟩ := bsop_ok hG ho h; exact ⟨r, d, h1, h2, fun h => by cases h⟩
  case makeSlice ty x y => obtain ⟨r, d, h1, h2⟩ := mkop_ok hG ho h; exact ⟨r, d, h1, h2, fun h => by cases h⟩
  case alloc ty =>
    split at h
    · rename_i e he
      exact ⟨_, _, h, alloc_ok hG ho he, fun h => by cases h⟩
    · exact h.elim
  case box ty x => exact ⟨_, _, h.2, box_ok ho h.1, fun h => by cases h⟩
  case makeFunc fn first cap =>
    unfold mfop at h
    split at h
    · rename_i f hfirst
      refine ⟨_, none, h, QOk.pure fun H' hH L Av w ρ hs hops => ?_, fun _ => rfl⟩
      have h0 : first = #[] := by apply Array.ext'; simpa using hfirst
      subst h0
      refine ⟨.func (.func f) #[] (cap.map ρ), by simp [execOp, ho, Instr.makeFunc], .f _ _ _ (by simp) ?_⟩
      intro k x hk
      simp only [List.getElem?_map, Option.map_eq_some_iff, Array.getElem?_toList] at hk
      obtain ⟨y, h1, h2⟩ := hk
      have hm : y ∈ o.op.operands := by
        rw [ho]; simp only [Op.operands, Array.mem_append]
        exact .inr (Array.mem_of_getElem? h1)
      have := hops y hm
      rw [← h2]
      simpa [h1] using this
    · exact h.elim
  case call c =>
    obtain ⟨callee, args, tys⟩ := c
    cases callee with
    | builtin b =>
      cases b <;> simp only at h <;> try exact h.elim
      · split at h
        · rename_i x ty tl ha htl
          have ha' : args = #[x] := by apply Array.ext'; simpa using ha
          subst ha'
          have hty : tys[0]? = some ty := by rw [← Array.getElem?_toList, htl]; rfl
          exact lift (capop_ok hG ho hty h) (fun _ h => h)
        · exact h.elim
      split at h
      · rename_i x ty tl ha htl
        have ha' : args = #[x] := by apply Array.ext'; simpa using ha
        subst ha'
        have hty : tys[0]? = some ty := by rw [← Array.getElem?_toList, htl]; rfl
        exact lift (lenop_ok hG ho hty h) (fun _ h => h)
      · exact h.elim
    | invoke r m => exact h.elim
    | value fo =>
      cases fo <;> simp only at h <;> try exact h.elim
      · rename_i n
        unfold fnV at h
        split at h
        · rename_i f cs hv
          obtain ⟨r, hr, hk⟩ := h
          refine ⟨r, none, hk, ?_, fun _ => rfl⟩
          intro H' hH L Av w ρ hs hfn hL hi hops
          obtain ⟨he, hrun⟩ := hr.run hH
          have hx := hops (.tmp n) (by rw [ho]; simp [Op.operands, Call.operands])
          rw [hv] at hx
          obtain ⟨us, hf, hus⟩ := hx.f_inv
          have h1 := run_enterV he ho hf w
          have h2 := hrun L Av w _ hs hfn ((args_ofV ho hops).append hus)
          unfold QV
          rw [h1]
          exact h2.mono fun e w' ⟨u, h3, h4, h5, h6⟩ => ⟨u, h3, r, H', L, ⟨rfl, rfl⟩, fun _ _ => rfl, h4, h5, h6⟩
        · exact h.elim
      rename_i f
      obtain ⟨r, hr, hk⟩ := h
      refine ⟨r, none, hk, ?_, fun _ => rfl⟩
      intro H' hH L Av w ρ hs hfn hL hi hops
      obtain ⟨he, hrun⟩ := hr.run hH
      have hf : ρ (.func f) = .func (.func f) #[] #[] := (hops (.func f) (by rw [ho]; simp [Op.operands, Call.operands])).f0_inv
      have h1 := run_enter he ho hf w
      have h2 := hrun L Av w _ hs hfn (args_of ho hops)
      unfold QV
      rw [h1]
      exact h2.mono fun e w' ⟨u, h3, h4, h5, h6⟩ => ⟨u, h3, r, H', L, ⟨rfl, rfl⟩, fun _ _ => rfl, h4, h5, h6⟩

theorem qop_ok {P : Program} {Γ : TEnv} (hG : GOk P Γ) {o : Oper} {t : List AV} {H : HP} {id : Nat} {k : AV → Option (List AV) → Prop} (h : qop Γ P o.op t H id k) : ∃ r d, k r d ∧ QOk P o (evo t) H id r d :=
  let ⟨r, d, h1, h2, _⟩ := qop_ok' hG h
  ⟨r, d, h1, h2⟩

end Go.Proofs.Ytgeoogndonghmaa
