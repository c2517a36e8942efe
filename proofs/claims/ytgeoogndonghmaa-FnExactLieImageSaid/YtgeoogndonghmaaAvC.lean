/-
  Own layer, part C: what it means that an operation does something to the abstract state, and the rules for the operations that only yield a value or lay a new block.
-/
import Derived.Test.YtgeoogndonghmaaAvB
set_option linter.unusedVariables false
set_option linter.unusedSimpArgs false
namespace Go.Proofs.Ytgeoogndonghmaa

theorem updL_id (L : LM) {id : Nat} {l : Loc} (h : L id = some l) : updL L id l = L := by
  funext i; unfold updL; split
  · rename_i hi; rw [hi, h]
  · rfl
theorem upd_upd (H : HP) (id : Nat) (a b : Option (List AV)) : upd (upd H id a) id b = upd H id b := by
  funext i; unfold upd; split <;> rfl
theorem upd_none (H : HP) {id : Nat} (h : H id = none) : upd H id none = H := by
  funext i; unfold upd; split
  · rename_i hi; rw [hi, h]
  · rfl

/-- An operation, run over operands' values: a value, nothing, or a call. -/
def QV (P : Program) (o : Oper) (ρ : Operand → Value) (w : World) (post : Value → World → Prop) : Prop :=
  match (execOp ρ o).run P w with
  | .ok (.value u) w' => post u w'
  | .ok .skip w' => post undef w'
  | .ok (.enter f args) w' => Calls P f args w' fun e w'' => ∃ u, e = .returned u ∧ post u w''
  | _ => False

theorem QV.wp {P : Program} {o : Oper} {a : Act} {w : World} {post : Value → World → Prop} {K : Act → World → Prop} {Q : Exit → Act → World → Prop} (h : QV P o a.eval w post)
    (hk : ∀ u w', post u w' → K (a.put o.dst u) w') : o.wp P a w K Q := by
  unfold QV at h
  unfold Oper.wp
  generalize (execOp a.eval o).run P w = r at h
  cases r with
  | halt x w' => exact h.elim
  | ok n w' =>
    cases n <;> try exact h.elim
    · exact hk _ _ h
    · exact hk _ _ h
    · exact Calls.mono h (fun e w'' ⟨u, he, hp⟩ => by subst he; exact hk _ _ hp)

theorem QV.mono {P : Program} {o : Oper} {ρ : Operand → Value} {w : World} {post post' : Value → World → Prop} (h : QV P o ρ w post) (hp : ∀ u w', post u w' → post' u w') : QV P o ρ w post' := by
  unfold QV at *
  generalize (execOp ρ o).run P w = r at *
  cases r with
  | halt x w' => exact h.elim
  | ok n w' =>
    cases n <;> try exact h.elim
    · exact hp _ _ h
    · exact hp _ _ h
    · exact Calls.mono h (fun e w'' ⟨u, he, hq⟩ => ⟨u, he, hp _ _ hq⟩)

theorem QV.of_value {P : Program} {o : Oper} {ρ : Operand → Value} {w w' : World} {post : Value → World → Prop} {u : Value} (h : (execOp ρ o).run P w = .ok (.value u) w') (hp : post u w') : QV P o ρ w post := by
  unfold QV; rw [h]; exact hp
theorem QV.of_skip {P : Program} {o : Oper} {ρ : Operand → Value} {w w' : World} {post : Value → World → Prop} (h : (execOp ρ o).run P w = .ok .skip w') (hp : post undef w') : QV P o ρ w post := by
  unfold QV; rw [h]; exact hp

/-- The abstract effect of an operation: the fresh block, if any, gets the number id. -/
def OpS (P : Program) (o : Oper) (ev : Operand → AV) (H : HP) (id : Nat) (k : AV → HP → Prop) : Prop :=
  ∀ (L : LM) (Av : Nat → Prop) (w : World) (ρ : Operand → Value), SR L H Av w → (∃ n, ∀ i, n ≤ i → L i = none) → L id = none → H id = none → (∀ x ∈ o.op.operands, R L w (MM L H Av) (ev x) (ρ x)) →
    QV P o ρ w fun u w' => ∃ r H' L', k r H' ∧ (∀ i, i ≠ id → L' i = L i) ∧ SR L' H' Av w' ∧ Step L H w L' H' w' ∧ R L' w' (MM L' H' Av) r u

def updo (H : HP) (id : Nat) : Option (List AV) → HP
  | none => H
  | some cs => upd H id (some cs)

/-- The same result, whatever blocks have come to be meanwhile. -/
def QOk (P : Program) (o : Oper) (ev : Operand → AV) (H : HP) (id : Nat) (r : AV) (d : Option (List AV)) : Prop :=
  ∀ H', (∀ i c, H i = some c → H' i = some c) → OpS P o ev H' id fun r' H'' => r' = r ∧ H'' = updo H' id d

theorem QOk.pure {P : Program} {o : Oper} {ev : Operand → AV} {H : HP} {id : Nat} {r : AV}
    (h : ∀ (H' : HP), (∀ i c, H i = some c → H' i = some c) → ∀ (L : LM) (Av : Nat → Prop) (w : World) (ρ : Operand → Value), SR L H' Av w → (∀ x ∈ o.op.operands, R L w (MM L H' Av) (ev x) (ρ x)) →
      ∃ u, (execOp ρ o).run P w = .ok (.value u) w ∧ R L w (MM L H' Av) r u) : QOk P o ev H id r none := by
  intro H' hH L Av w ρ hs hfn hL hi hr
  obtain ⟨u, h1, h2⟩ := h H' hH L Av w ρ hs hr
  exact .of_value h1 ⟨r, H', L, ⟨rfl, rfl⟩, fun _ _ => rfl, hs, Step.refl _ _ _, h2⟩

theorem QOk.new {P : Program} {o : Oper} {ev : Operand → AV} {H : HP} {id : Nat} {r : AV} {cs : List AV}
    (h : ∀ (H' : HP), (∀ i c, H i = some c → H' i = some c) → ∀ (L : LM) (Av : Nat → Prop) (w : World) (ρ : Operand → Value), SR L H' Av w → (∀ x ∈ o.op.operands, R L w (MM L H' Av) (ev x) (ρ x)) →
      ∃ u arr e cp, (execOp ρ o).run P w = .ok (.value u) (w.alloc (.cells arr e (0, 0))) ∧ cp ≤ arr.size ∧ cs.length ≤ cp ∧ (∀ (k : Nat) (x : AV), cs[k]? = some x → ∃ u, arr[k]? = some u ∧ R L w (MM L H' Av) x u) ∧
        ∀ L' w' M', L' id = some ⟨w.heap.size, 0, cp⟩ → R L' w' M' r u) : QOk P o ev H id r (some cs) := by
  intro H' hH L Av w ρ hs hfn hL hi hr
  obtain ⟨u, arr, e, cp, h1, h2, h3, h4, h5⟩ := h H' hH L Av w ρ hs hr
  obtain ⟨h6, h7⟩ := alloc_step hs hL hi arr e cp cs h2 h3 h4
  exact .of_value h1 ⟨r, _, _, ⟨rfl, rfl⟩, fun i hi => updL_ne _ _ hi, h6, h7, h5 _ _ _ (updL_same _ _ _)⟩

/-! Constants. -/
def ofV1 : Value → AV
  | .int k n => .i k n
  | .bool b => .b b
  | .string s => .s s
  | .slice none 0 0 => .nl
  | x => .c x
def ofV : Value → AV
  | .agg cs => .g (cs.toList.map ofV1)
  | x => ofV1 x

theorem R.ofV1 (L : LM) (w : World) (M : Nat → Prop) (x : Value) : R L w M (ofV1 x) x := by
  unfold Go.Proofs.Ytgeoogndonghmaa.ofV1
  split <;> constructor
theorem R.ofV (L : LM) (w : World) (M : Nat → Prop) (x : Value) : R L w M (ofV x) x := by
  unfold Go.Proofs.Ytgeoogndonghmaa.ofV
  split
  · rename_i cs
    refine .g _ _ (by simp) ?_
    intro k x hk
    simp only [List.getElem?_map, Option.map_eq_some_iff, Array.getElem?_toList] at hk
    obtain ⟨u, h1, h2⟩ := hk
    rw [← h2]
    simp [h1, R.ofV1]
  · exact R.ofV1 _ _ _ _

structure St where
  t : List AV
  H : HP
  nx : Nat

def evo (t : List AV) : Operand → AV
  | .tmp n => t.getD n .j
  | .const x => ofV x
  | .global g => .c (.pointer (some ⟨g, 0, none⟩))
  | .func f => .f f []

end Go.Proofs.Ytgeoogndonghmaa
