/-
  Own layer, part A: abstract values, how they are read in a world, and what a step of the machine may do to that reading.
  A slice or pointer is either read-only data (a tree, constructor v or p) or a reference (h, q) to an owned block, whose contents an abstract heap holds.
-/
import Derived.WalkKit
import Derived.WalkSpells
set_option linter.unusedVariables false
set_option linter.unusedSimpArgs false
namespace Go.Proofs.Ytgeoogndonghmaa

inductive AV where
  | j
  | i (k : IntKind) (n : Int)
  | b (x : Bool)
  | s (x : ByteArray)
  | c (x : Value)
  | nl
  | v (n : Nat) (cs : List AV)
  | p (o : Nat) (cs : List AV)
  | h (id o n : Nat)
  | q (id o : Nat)
  | g (cs : List AV)
  | t (vs : List AV)
  | f (fn : Nat) (cs : List AV)

structure Loc where
  blk : Nat
  off : Nat
  cap : Nat

abbrev LM := Nat → Option Loc
abbrev HP := Nat → Option (List AV)

/-- The block of a live owned piece. -/
def LB (L : LM) (H : HP) (b : Nat) : Prop := ∃ id cs l, H id = some cs ∧ L id = some l ∧ l.blk = b
/-- What read-only data must keep away from. -/
def MM (L : LM) (H : HP) (Av : Nat → Prop) (b : Nat) : Prop := Av b ∨ LB L H b

inductive R (L : LM) (w : World) (M : Nat → Prop) : AV → Value → Prop
  | j (u : Value) : R L w M .j u
  | i (k : IntKind) (n : Int) : R L w M (.i k n) (.int k n)
  | b (x : Bool) : R L w M (.b x) (.bool x)
  | s (x : ByteArray) : R L w M (.s x) (.string x)
  | c (x : Value) : R L w M (.c x) x
  | nl : R L w M .nl (.slice none 0 0)
  | v0 (a : Option Addr) (cp : Nat) : R L w M (.v 0 []) (.slice a 0 cp)
  | v (n : Nat) (cs : List AV) (b off cp : Nat) (arr : Array Value) (e : TypeId) (f : Nat × Nat) (us : Nat → Value) (hM : ¬ M b) (hb : w.heap[b]? = some (.cells arr e f))
      (hn : n ≤ cp) (hu : ∀ k, k < cs.length → arr[off + k]? = some (us k)) (hr : ∀ k x, cs[k]? = some x → R L w M x (us k)) : R L w M (.v n cs) (.slice (some ⟨b, off, none⟩) n cp)
  | p (o : Nat) (cs : List AV) (b off : Nat) (arr : Array Value) (e : TypeId) (f : Nat × Nat) (us : Nat → Value) (hM : ¬ M b) (hb : w.heap[b]? = some (.cells arr e f))
      (hu : ∀ k, k < cs.length → arr[off + k]? = some (us k)) (hr : ∀ k x, cs[k]? = some x → R L w M x (us k)) : R L w M (.p o cs) (.pointer (some ⟨b, off + o, none⟩))
  | h (id o n : Nat) (l : Loc) (a : Addr) (cp : Nat) (hl : L id = some l) (hn : n ≤ cp) (hc : o + cp ≤ l.cap) (ha : cp = 0 ∨ a = ⟨l.blk, l.off + o, none⟩) : R L w M (.h id o n) (.slice (some a) n cp)
  | q (id o : Nat) (l : Loc) (hl : L id = some l) : R L w M (.q id o) (.pointer (some ⟨l.blk, l.off + o, none⟩))
  | g (cs : List AV) (us : Array Value) (hs : us.size = cs.length) (hr : ∀ k x, cs[k]? = some x → R L w M x (us.getD k undef)) : R L w M (.g cs) (.agg us)
  | t (vs : List AV) (us : Array Value) (hs : us.size = vs.length) (hr : ∀ k x, vs[k]? = some x → R L w M x (us.getD k undef)) : R L w M (.t vs) (.tuple us)
  | f (fn : Nat) (cs : List AV) (us : Array Value) (hs : us.size = cs.length) (hr : ∀ k x, cs[k]? = some x → R L w M x (us.getD k undef)) : R L w M (.f fn cs) (.func (.func fn) #[] us)

/-- One owned block. -/
structure Node (L : LM) (w : World) (M : Nat → Prop) (l : Loc) (cs : List AV) : Prop where
  ex : ∃ (arr : Array Value) (e : TypeId), w.heap[l.blk]? = some (.cells arr e (0, 0)) ∧ l.off + l.cap ≤ arr.size ∧ cs.length ≤ l.cap ∧
    ∀ k x, cs[k]? = some x → ∃ u, arr[l.off + k]? = some u ∧ R L w M x u

structure SR (L : LM) (H : HP) (Av : Nat → Prop) (w : World) : Prop where
  node : ∀ id cs, H id = some cs → ∃ l, L id = some l ∧ Node L w (MM L H Av) l cs
  inj : ∀ id id' cs cs' l l', H id = some cs → H id' = some cs' → L id = some l → L id' = some l' → l.blk = l'.blk → id = id'
  av : ∀ id cs l, H id = some cs → L id = some l → ¬ Av l.blk
  avlt : ∀ b, Av b → b < w.heap.size

/-- What steps may do. -/
structure Step (L : LM) (H : HP) (w : World) (L' : LM) (H' : HP) (w' : World) : Prop where
  le : ∀ id l, L id = some l → L' id = some l
  os : w'.os = w.os
  tape : w'.tape = w.tape
  output : w'.output = w.output
  size : w.heap.size ≤ w'.heap.size
  keep : ∀ b, b < w.heap.size → ¬ LB L H b → w'.heap[b]? = w.heap[b]?
  old : ∀ b, b < w.heap.size → LB L' H' b → LB L H b

theorem Step.refl (L : LM) (H : HP) (w : World) : Step L H w L H w :=
  ⟨fun _ _ h => h, rfl, rfl, rfl, Nat.le_refl _, fun _ _ _ => rfl, fun _ _ h => h⟩

theorem Step.trans {L L' L'' : LM} {H H' H'' : HP} {w w' w'' : World} (a : Step L H w L' H' w') (b : Step L' H' w' L'' H'' w'') : Step L H w L'' H'' w'' :=
  ⟨fun id l h => b.le _ _ (a.le _ _ h), b.os.trans a.os, b.tape.trans a.tape, b.output.trans a.output, Nat.le_trans a.size b.size,
   fun k hk hn => (b.keep k (Nat.lt_of_lt_of_le hk a.size) (fun h => hn (a.old k hk h))).trans (a.keep k hk hn),
   fun k hk h => a.old k hk (b.old k (Nat.lt_of_lt_of_le hk a.size) h)⟩

theorem getElem?_lt {α : Type} {arr : Array α} {k : Nat} {x : α} (h : arr[k]? = some x) : k < arr.size := by
  rcases Nat.lt_or_ge k arr.size with h' | h'
  · exact h'
  · rw [Array.getElem?_eq_none h'] at h; cases h

/-- A reading goes on to be one. -/
theorem R.mono {L L' : LM} {w w' : World} {M M' : Nat → Prop} (hL : ∀ id l, L id = some l → L' id = some l)
    (hw : ∀ b, b < w.heap.size → ¬ M b → w'.heap[b]? = w.heap[b]?) (hM : ∀ b, b < w.heap.size → M' b → M b) {x : AV} {u : Value} (h : R L w M x u) : R L' w' M' x u := by
  induction h with
  | j u => exact .j u
  | i k n => exact .i k n
  | b x => exact .b x
  | s x => exact .s x
  | c x => exact .c x
  | nl => exact .nl
  | v0 a cp => exact .v0 a cp
  | v n cs b off cp arr e f us hM' hb hn hu hr ih =>
    have hlt := getElem?_lt hb
    exact .v n cs b off cp arr e f us (fun h => hM' (hM b hlt h)) ((hw b hlt hM').trans hb) hn hu ih
  | p o cs b off arr e f us hM' hb hu hr ih =>
    have hlt := getElem?_lt hb
    exact .p o cs b off arr e f us (fun h => hM' (hM b hlt h)) ((hw b hlt hM').trans hb) hu ih
  | h id o n l a cp hl hn hc ha => exact .h id o n l a cp (hL _ _ hl) hn hc ha
  | q id o l hl => exact .q id o l (hL _ _ hl)
  | g cs us hs hr ih => exact .g cs us hs ih
  | t vs us hs hr ih => exact .t vs us hs ih
  | f fn cs us hs hr ih => exact .f fn cs us hs ih

theorem R.step {L L' : LM} {H H' : HP} {w w' : World} {Av : Nat → Prop} (s : Step L H w L' H' w') {x : AV} {u : Value} (h : R L w (MM L H Av) x u) : R L' w' (MM L' H' Av) x u :=
  h.mono s.le (fun b hb hn => s.keep b hb (fun hl => hn (.inr hl))) (fun b hb hm => hm.imp id (s.old b hb))

/-- Such a thing there is, and it goes on so. -/
def ex1 {α : Type} (o : Option α) (f : α → Prop) : Prop := ∃ a, o = some a ∧ f a
def ex2 {α : Type} (p f : α → Prop) : Prop := ∃ a, p a ∧ f a

/-- Values without read-only memory in them. -/
inductive Fl : AV → Prop
  | j : Fl .j
  | i (k : IntKind) (n : Int) : Fl (.i k n)
  | b (x : Bool) : Fl (.b x)
  | s (x : ByteArray) : Fl (.s x)
  | c (x : Value) : Fl (.c x)
  | nl : Fl .nl
  | v0 : Fl (.v 0 [])
  | h (id o n : Nat) : Fl (.h id o n)
  | q (id o : Nat) : Fl (.q id o)
  | g (cs : List AV) (hr : ∀ (k : Nat) (x : AV), cs[k]? = some x → Fl x) : Fl (.g cs)
  | t (cs : List AV) (hr : ∀ (k : Nat) (x : AV), cs[k]? = some x → Fl x) : Fl (.t cs)
  | f (fn : Nat) (cs : List AV) (hr : ∀ (k : Nat) (x : AV), cs[k]? = some x → Fl x) : Fl (.f fn cs)

theorem R.fl {L L' : LM} {w w' : World} {M M' : Nat → Prop} (hL : ∀ id l, L id = some l → L' id = some l) {x : AV} (hf : Fl x) {u : Value} (h : R L w M x u) : R L' w' M' x u := by
  induction h with
  | j u => exact .j u
  | i k n => exact .i k n
  | b x => exact .b x
  | s x => exact .s x
  | c x => exact .c x
  | nl => exact .nl
  | v0 a cp => exact .v0 a cp
  | v n cs b off cp arr e f us hM' hb hn hu hr ih =>
    cases hf
    exact .v0 _ _
  | p o cs b off arr e f us hM' hb hu hr ih => cases hf
  | h id o n l a cp hl hn hc ha => exact .h id o n l a cp (hL _ _ hl) hn hc ha
  | q id o l hl => exact .q id o l (hL _ _ hl)
  | g cs us hs hr ih => cases hf with | g _ hf => exact .g cs us hs (fun k x hx => ih k x hx (hf k x hx))
  | t vs us hs hr ih => cases hf with | t _ hf => exact .t vs us hs (fun k x hx => ih k x hx (hf k x hx))
  | f fn cs us hs hr ih => cases hf with | f _ _ hf => exact .f fn cs us hs (fun k x hx => ih k x hx (hf k x hx))

/-- Values without references in them. -/
inductive NR : AV → Prop
  | j : NR .j
  | i (k : IntKind) (n : Int) : NR (.i k n)
  | b (x : Bool) : NR (.b x)
  | s (x : ByteArray) : NR (.s x)
  | c (x : Value) : NR (.c x)
  | nl : NR .nl
  | v (n : Nat) (cs : List AV) (hr : ∀ (k : Nat) (x : AV), cs[k]? = some x → NR x) : NR (.v n cs)
  | p (n : Nat) (cs : List AV) (hr : ∀ (k : Nat) (x : AV), cs[k]? = some x → NR x) : NR (.p n cs)
  | g (cs : List AV) (hr : ∀ (k : Nat) (x : AV), cs[k]? = some x → NR x) : NR (.g cs)
  | t (cs : List AV) (hr : ∀ (k : Nat) (x : AV), cs[k]? = some x → NR x) : NR (.t cs)
  | f (fn : Nat) (cs : List AV) (hr : ∀ (k : Nat) (x : AV), cs[k]? = some x → NR x) : NR (.f fn cs)

theorem R.nr {L L' : LM} {w : World} {M : Nat → Prop} {x : AV} (hf : NR x) {u : Value} (h : R L w M x u) : R L' w M x u := by
  induction h with
  | j u => exact .j u
  | i k n => exact .i k n
  | b x => exact .b x
  | s x => exact .s x
  | c x => exact .c x
  | nl => exact .nl
  | v0 a cp => exact .v0 a cp
  | v n cs b off cp arr e f us hM' hb hn hu hr ih =>
    cases hf with | v _ _ hf => exact .v n cs b off cp arr e f us hM' hb hn hu (fun k x hx => ih k x hx (hf k x hx))
  | p o cs b off arr e f us hM' hb hu hr ih =>
    cases hf with | p _ _ hf => exact .p o cs b off arr e f us hM' hb hu (fun k x hx => ih k x hx (hf k x hx))
  | h id o n l a cp hl hn hc ha => cases hf
  | q id o l hl => cases hf
  | g cs us hs hr ih => cases hf with | g _ hf => exact .g cs us hs (fun k x hx => ih k x hx (hf k x hx))
  | t vs us hs hr ih => cases hf with | t _ hf => exact .t vs us hs (fun k x hx => ih k x hx (hf k x hx))
  | f fn cs us hs hr ih => cases hf with | f _ _ hf => exact .f fn cs us hs (fun k x hx => ih k x hx (hf k x hx))

def upd (H : HP) (id : Nat) (d : Option (List AV)) : HP := fun id' => if id' = id then d else H id'
def updL (L : LM) (id : Nat) (l : Loc) : LM := fun id' => if id' = id then some l else L id'

@[simp] theorem upd_same (H : HP) (id : Nat) (d : Option (List AV)) : upd H id d id = d := by simp [upd]
theorem upd_ne (H : HP) {id id' : Nat} (d : Option (List AV)) (h : id' ≠ id) : upd H id d id' = H id' := by simp [upd, h]
@[simp] theorem updL_same (L : LM) (id : Nat) (l : Loc) : updL L id l id = some l := by simp [updL]
theorem updL_ne (L : LM) {id id' : Nat} (l : Loc) (h : id' ≠ id) : updL L id l id' = L id' := by simp [updL, h]

theorem updL_le {L : LM} {id : Nat} (h : L id = none) (l : Loc) : ∀ id' l', L id' = some l' → updL L id l id' = some l' := by
  intro id' l' h'
  by_cases e : id' = id
  · subst e; rw [h] at h'; cases h'
  · rw [updL_ne _ _ e]; exact h'

end Go.Proofs.Ytgeoogndonghmaa
