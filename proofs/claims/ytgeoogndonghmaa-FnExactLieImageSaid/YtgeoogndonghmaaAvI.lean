/-
  Own layer, part I: the abstract weakest precondition of a piece of code, and its rules.
-/
import Derived.Test.YtgeoogndonghmaaAvH
set_option linter.unusedVariables false
set_option linter.unusedSimpArgs false
namespace Go.Proofs.Ytgeoogndonghmaa

/-- An abstract state fits a frame and a world; all that has happened since (nx0, L0, H0, w0) is a step. -/
structure Cn (nx0 : Nat) (L0 : LM) (H0 : HP) (w0 : World) (Av : Nat → Prop) (s : St) (L : LM) (a : Act) (w : World) : Prop where
  df : a.defers = []
  sz : a.tmps.size = s.t.length
  sl : ∀ (k : Nat) (x : AV), s.t[k]? = some x → R L w (MM L s.H Av) x (a.tmps.getD k undef)
  sr : SR L s.H Av w
  fr : ∀ i, s.nx ≤ i → L i = none
  nx : nx0 ≤ s.nx
  lo : ∀ i, i < nx0 → L i = L0 i
  st : Step L0 H0 w0 L s.H w

theorem Cn.ev {nx0 : Nat} {L0 : LM} {H0 : HP} {w0 : World} {Av : Nat → Prop} {s : St} {L : LM} {a : Act} {w : World} (c : Cn nx0 L0 H0 w0 Av s L a w) (x : Operand) : R L w (MM L s.H Av) (evo s.t x) (a.eval x) := by
  cases x with
  | tmp n =>
    simp only [evo, Act.eval]
    by_cases hn : n < s.t.length
    · have := c.sl n s.t[n] (List.getElem?_eq_getElem hn)
      simpa [hn] using this
    · have hle : s.t.length ≤ n := Nat.le_of_not_lt hn
      have : s.t.getD n .j = .j := by rw [List.getD_eq_getElem?_getD, List.getElem?_eq_none hle]; rfl
      rw [this]
      exact .j _
  | const v => exact R.ofV _ _ _ _
  | global g => exact .c _
  | func f => exact .f _ _ #[] rfl (by simp)

def putA (t : List AV) (d : Option Nat) (x : AV) : List AV :=
  match d with
  | some d => t.set d x
  | none => t

theorem put_fits {L : LM} {w : World} {M : Nat → Prop} {t : List AV} {a : Act} (hs : a.tmps.size = t.length) (hr : ∀ (k : Nat) (x : AV), t[k]? = some x → R L w M x (a.tmps.getD k undef)) (d : Option Nat) {x : AV} {u : Value} (hx : R L w M x u) :
    (a.put d u).defers = a.defers ∧ (a.put d u).tmps.size = (putA t d x).length ∧ ∀ (k : Nat) (y : AV), (putA t d x)[k]? = some y → R L w M y ((a.put d u).tmps.getD k undef) := by
  cases d with
  | none => exact ⟨rfl, hs, hr⟩
  | some d =>
    refine ⟨rfl, by simp [Act.put, putA, hs], ?_⟩
    intro k y hk
    simp only [putA, List.getElem?_set] at hk
    simp only [Act.put, Array.getD_eq_getD_getElem?, Array.getElem?_setIfInBounds]
    split at hk
    · rename_i hdk
      subst hdk
      split at hk
      · rename_i hlt
        cases hk
        simp [hs, hlt, hx]
      · cases hk
    · rename_i hdk
      simp only [hdk, if_false]
      have := hr k y hk
      simpa using this

/-- The abstract weakest precondition, by what it is good for. -/
def AW (P : Program) (c : Code) (s : St) (K : Exit → St → Prop) : Prop :=
  ∀ (nx0 : Nat) (L0 : LM) (H0 : HP) (w0 : World) (Av : Nat → Prop) (L : LM) (a : Act) (w : World) (Q : Exit → Act → World → Prop), Cn nx0 L0 H0 w0 Av s L a w →
    (∀ e s' L' a' w', K e s' → Cn nx0 L0 H0 w0 Av s' L' a' w' → Q e a' w') → c.wp P Q a w

theorem AW.mono {P : Program} {c : Code} {s : St} {K K' : Exit → St → Prop} (h : AW P c s K) (hk : ∀ e s', K e s' → K' e s') : AW P c s K' :=
  fun nx0 L0 H0 w0 Av L a w Q hc hQ => h nx0 L0 H0 w0 Av L a w Q hc (fun e s' L' a' w' k => hQ e s' L' a' w' (hk e s' k))

theorem AW.skip {P : Program} {s : St} {K : Exit → St → Prop} (h : K .normal s) : AW P .skip s K := fun _ _ _ _ _ _ _ _ _ hc hQ => wp_skip (hQ _ _ _ _ _ h hc)
theorem AW.ret {P : Program} {s : St} {K : Exit → St → Prop} (h : K .ret s) : AW P .ret s K := fun _ _ _ _ _ _ _ _ _ hc hQ => wp_ret (hQ _ _ _ _ _ h hc)
theorem AW.exit {P : Program} {s : St} {n : Nat} {K : Exit → St → Prop} (h : K (.exit n) s) : AW P (.exit n) s K := fun _ _ _ _ _ _ _ _ _ hc hQ => wp_exit (hQ _ _ _ _ _ h hc)
theorem AW.label {P : Program} {s : St} {n : Nat} {K : Exit → St → Prop} (h : K .normal s) : AW P (.label n) s K := fun _ _ _ _ _ _ _ _ _ hc hQ => wp_label (hQ _ _ _ _ _ h hc)

/-- What follows: the next piece of code, on the normal way. -/
def thn (K : Exit → St → Prop) (next : St → Prop) : Exit → St → Prop
  | .normal, s => next s
  | e, s => K e s

theorem AW.seq {P : Program} {x y : Code} {s : St} {K : Exit → St → Prop} (h : ∀ N : St → Prop, (∀ s', AW P y s' K → N s') → AW P x s (thn K N)) : AW P (.seq x y) s K := by
  intro nx0 L0 H0 w0 Av L a w Q hc hQ
  refine wp_seq (h _ (fun _ h => h) nx0 L0 H0 w0 Av L a w _ hc ?_)
  intro e s' L' a' w' hk hc'
  cases e <;> simp only [thn, Exit.then] at hk ⊢
  case normal => exact hk nx0 L0 H0 w0 Av L' a' w' Q hc' hQ
  all_goals exact hQ _ _ _ _ _ hk hc'

theorem AW.cond {P : Program} {c : Operand} {x y : Code} {s : St} {z : Bool} {K : Exit → St → Prop} (hc : evo s.t c = .b z) (ht : z = true → AW P x s K) (hf : z = false → AW P y s K) : AW P (.cond c x y) s K := by
  intro nx0 L0 H0 w0 Av L a w Q hcn hQ
  have := hcn.ev c
  rw [hc] at this
  exact wp_cond_split this.b_inv (fun h => ht h nx0 L0 H0 w0 Av L a w Q hcn hQ) (fun h => hf h nx0 L0 H0 w0 Av L a w Q hcn hQ)

def blk (K : Exit → St → Prop) (id : Nat) : Exit → St → Prop
  | .exit id', s => if id' = id then K .normal s else K (.exit id') s
  | e, s => K e s

theorem AW.block {P : Program} {id : Nat} {c : Code} {s : St} {K : Exit → St → Prop} (h : AW P c s (blk K id)) : AW P (.block id c) s K := by
  intro nx0 L0 H0 w0 Av L a w Q hc hQ
  refine wp_block (h nx0 L0 H0 w0 Av L a w _ hc ?_)
  intro e s' L' a' w' hk hc'
  cases e <;> simp only [blk, Exit.inBlock] at hk ⊢
  case exit id' =>
    split at hk
    · rename_i hid; rw [if_pos hid]; exact hQ _ _ _ _ _ hk hc'
    · rename_i hid; rw [if_neg hid]; exact hQ _ _ _ _ _ hk hc'
  all_goals exact hQ _ _ _ _ _ hk hc'

/-- What may be forgotten of a state. -/
def wkA (x y : AV) : Prop := y = .j ∨ x = y ∨ (x = .nl ∧ y = .v 0 [])
def wks : List AV → List AV → Prop
  | [], [] => True
  | x :: xs, y :: ys => wkA x y ∧ wks xs ys
  | _, _ => False
def Wk (s s' : St) : Prop := wks s.t s'.t ∧ (∀ id cs, s'.H id = some cs → s.H id = some cs) ∧ s.nx ≤ s'.nx

theorem wks_get : ∀ {xs ys : List AV}, wks xs ys → ys.length = xs.length ∧ ∀ (k : Nat) (y : AV), ys[k]? = some y → ∃ x, xs[k]? = some x ∧ wkA x y := by
  intro xs
  induction xs with
  | nil => intro ys h; cases ys with | nil => exact ⟨rfl, by simp⟩ | cons => exact h.elim
  | cons x xs ih =>
    intro ys h
    cases ys with
    | nil => exact h.elim
    | cons y ys =>
      obtain ⟨h1, h2⟩ := ih h.2
      refine ⟨by simp [h1], ?_⟩
      intro k z hk
      cases k with
      | zero => simp at hk; subst hk; exact ⟨x, rfl, h.1⟩
      | succ k => exact h2 k z (by simpa using hk)

theorem LB_sub {L : LM} {H H' : HP} (h : ∀ id cs, H' id = some cs → H id = some cs) {b : Nat} : LB L H' b → LB L H b :=
  fun ⟨id, cs, l, h1, h2, h3⟩ => ⟨id, cs, l, h id cs h1, h2, h3⟩

theorem SR.sub {L : LM} {H H' : HP} {Av : Nat → Prop} {w : World} (s : SR L H Av w) (h : ∀ id cs, H' id = some cs → H id = some cs) : SR L H' Av w := by
  refine ⟨?_, fun i i' c c' l l' h1 h2 => s.inj i i' c c' l l' (h _ _ h1) (h _ _ h2), fun i c l h1 => s.av i c l (h _ _ h1), s.avlt⟩
  intro id cs hid
  obtain ⟨l, h1, ⟨arr, e, h2, h3, h4, h5⟩⟩ := s.node id cs (h _ _ hid)
  exact ⟨l, h1, ⟨arr, e, h2, h3, h4, fun k x hk => by
    obtain ⟨u, h6, h7⟩ := h5 k x hk
    exact ⟨u, h6, h7.mono (fun _ _ h => h) (fun _ _ _ => rfl) (fun b _ hb => Or.elim hb .inl (fun hl => .inr (LB_sub h hl)))⟩⟩⟩

theorem Cn.wk {nx0 : Nat} {L0 : LM} {H0 : HP} {w0 : World} {Av : Nat → Prop} {s s' : St} {L : LM} {a : Act} {w : World} (c : Cn nx0 L0 H0 w0 Av s L a w) (h : Wk s s') : Cn nx0 L0 H0 w0 Av s' L a w := by
  obtain ⟨h1, h2, h3⟩ := h
  obtain ⟨h4, h5⟩ := wks_get h1
  have hm : ∀ {x : AV} {u : Value}, R L w (MM L s.H Av) x u → R L w (MM L s'.H Av) x u :=
    fun hr => hr.mono (fun _ _ h => h) (fun _ _ _ => rfl) (fun b _ hb => Or.elim hb .inl (fun hl => .inr (LB_sub h2 hl)))
  refine ⟨c.df, by rw [c.sz, h4], ?_, c.sr.sub h2, fun i hi => c.fr i (by omega), by have := c.nx; omega, c.lo, ?_⟩
  · intro k y hk
    obtain ⟨x, h6, h7⟩ := h5 k y hk
    have h8 := c.sl k x h6
    rcases h7 with rfl | rfl | ⟨rfl, rfl⟩
    · exact .j _
    · exact hm h8
    · rw [h8.nl_inv]; exact .v0 _ _
  · exact ⟨c.st.le, c.st.os, c.st.tape, c.st.output, c.st.size, c.st.keep, fun b hb hl => c.st.old b hb (LB_sub h2 hl)⟩

theorem AW.wk {P : Program} {c : Code} {s s' : St} {K : Exit → St → Prop} (h : Wk s s') (hs : AW P c s' K) : AW P c s K :=
  fun nx0 L0 H0 w0 Av L a w Q hc hQ => hs nx0 L0 H0 w0 Av L a w Q (hc.wk h) hQ

/-- A loop, by a number of rounds that goes down. -/
theorem wp_loop_rounds' {P : Program} {c : Code} {Q : Exit → Act → World → Prop} (I : Nat → Act → World → Prop)
    (round : ∀ n a w, I n a w → c.wp P (Exit.then (fun a' w' => ∃ m, m < n ∧ I m a' w') Q) a w) : ∀ n a w, I n a w → (Code.loop c).wp P Q a w := by
  intro n a w hI b k cs
  have key : ∀ n a w, I n a w → ∃ e a' w', Q e a' w' ∧ Arrives P (lone (b.at a (.code c :: .inLoop c :: k)) cs w) b k cs e a' w' := by
    intro n
    induction n using Nat.strongRecOn with
    | _ n ih =>
      intro a w hI
      obtain ⟨e, a1, w1, hq, harr⟩ := round n a w hI b (.inLoop c :: k) cs
      cases e with
      | normal =>
        obtain ⟨m, hm, hI1⟩ := hq
        obtain ⟨e2, a2, w2, hq2, harr2⟩ := ih m hm a1 w1 hI1
        exact ⟨e2, a2, w2, hq2, .of_steps (Steps.trans harr (.one step_inLoop)) harr2⟩
      | exit id => exact ⟨_, a1, w1, hq, .pass (x := .inLoop c) rfl (fun _ _ => .inl (by simp)) harr⟩
      | goto l => exact ⟨_, a1, w1, hq, .pass (x := .inLoop c) rfl (fun _ _ => .inl (by simp)) harr⟩
      | ret => exact ⟨_, a1, w1, hq, .pass (x := .inLoop c) rfl (fun _ _ => .inl (by simp)) harr⟩
      | panic ch => exact ⟨_, a1, w1, hq, .pass (x := .inLoop c) rfl (fun _ _ => .inl (by simp)) harr⟩
      | outgrown => exact ⟨_, a1, w1, hq, .pass (x := .inLoop c) rfl (fun _ _ => .inl (by simp)) harr⟩
  obtain ⟨e, a', w', hq, harr⟩ := key n a w hI
  exact ⟨e, a', w', hq, .of_steps (.one step_loop) harr⟩

/-- THE LOOP RULE: states S x, x running through a type of one's own; I holds at each head; μ goes down. -/
theorem AW.loop {P : Program} {c : Code} {s : St} {K : Exit → St → Prop} {α : Type} (S : α → St) (I : α → Prop) (μ : α → Nat) (x0 : α) (h0 : I x0) (hw : Wk s (S x0))
    (round : ∀ x, I x → AW P c (S x) (thn K fun s' => ∃ y, Wk s' (S y) ∧ I y ∧ μ y < μ x)) : AW P (.loop c) s K := by
  intro nx0 L0 H0 w0 Av L a w Q hc hQ
  refine wp_loop_rounds' (fun n a w => ∃ x L, μ x = n ∧ I x ∧ Cn nx0 L0 H0 w0 Av (S x) L a w) ?_ (μ x0) a w ⟨x0, L, rfl, h0, hc.wk hw⟩
  rintro n a w ⟨x, L, rfl, hI, hcn⟩
  refine round x hI nx0 L0 H0 w0 Av L a w _ hcn ?_
  intro e s' L' a' w' hk hc'
  cases e <;> simp only [thn, Exit.then] at hk ⊢
  case normal =>
    obtain ⟨y, h1, h2, h3⟩ := hk
    exact ⟨μ y, h3, y, L', rfl, h2, hc'.wk h1⟩
  all_goals exact hQ _ _ _ _ _ hk hc'

end Go.Proofs.Ytgeoogndonghmaa
