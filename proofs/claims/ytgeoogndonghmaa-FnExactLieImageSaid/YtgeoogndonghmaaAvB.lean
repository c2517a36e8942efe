/-
  Own layer, part B: the operations of the machine, run on values of which the reading is known.
-/
import Derived.Test.YtgeoogndonghmaaAvA
set_option linter.unusedVariables false
set_option linter.unusedSimpArgs false
namespace Go.Proofs.Ytgeoogndonghmaa

/-! Types: what of a type an operation asks. -/
inductive TD where
  | bool
  | int (k : IntKind)
  | str
  | slice (el : TypeId)
  | struct (fs : List (TypeId × Nat))
  | array (n : Nat) (el : TypeId)
  | other

def tdOf : TypeDesc → TD
  | .bool => .bool
  | .int k => .int k
  | .string => .str
  | .slice el => .slice el
  | .struct fs => .struct (fs.toList.map fun f => (f.type, f.offset))
  | .array n el => .array n el
  | _ => .other

structure TE where
  d : TD
  size : Nat
  bytes : Nat
  zero : Value

def TE.agg (x : TE) : Bool := match x.d with | .struct _ => true | .array _ _ => true | _ => false

structure TOk (P : Program) (ty : TypeId) (x : TE) : Prop where
  und : (P.underlying ty).map tdOf = some x.d
  inf : (P.info? ty).map (fun i => (i.size, i.bytes, i.zero)) = some (x.size, x.bytes, some x.zero)

theorem TOk.info {P : Program} {ty : TypeId} {x : TE} (h : TOk P ty x) : ∃ i, P.info? ty = some i ∧ i.size = x.size ∧ i.bytes = x.bytes ∧ i.zero = some x.zero := by
  have := h.inf
  cases hi : P.info? ty with
  | none => rw [hi] at this; cases this
  | some i =>
    rw [hi] at this
    simp only [Option.map_some, Option.some.injEq, Prod.mk.injEq] at this
    exact ⟨i, rfl, this.1, this.2.1, this.2.2⟩

theorem TOk.run_und {P : Program} {ty : TypeId} {x : TE} (h : TOk P ty x) : ∃ d, tdOf d = x.d ∧ P.underlying ty = some d ∧ ∀ w, (underlying ty).run P w = .ok d w := by
  have := h.und
  cases hd : P.underlying ty with
  | none => rw [hd] at this; cases this
  | some d =>
    rw [hd] at this
    exact ⟨d, by simpa using this, rfl, fun w => by simp [go_sem, underlying, hd]⟩
theorem td_bool {d : TypeDesc} (h : tdOf d = .bool) : d = .bool := by cases d <;> simp [tdOf] at h; rfl
theorem td_str {d : TypeDesc} (h : tdOf d = .str) : d = .string := by cases d <;> simp [tdOf] at h; rfl
theorem td_int {d : TypeDesc} {k : IntKind} (h : tdOf d = .int k) : d = .int k := by cases d <;> simp [tdOf] at h; rw [h]
theorem td_slice {d : TypeDesc} {el : TypeId} (h : tdOf d = .slice el) : d = .slice el := by cases d <;> simp [tdOf] at h; rw [h]
theorem td_struct {d : TypeDesc} {l : List (TypeId × Nat)} (h : tdOf d = .struct l) : ∃ fs, d = .struct fs ∧ fs.toList.map (fun f => (f.type, f.offset)) = l := by
  cases d <;> simp [tdOf] at h
  exact ⟨_, rfl, h⟩
theorem TOk.slice {P : Program} {ty el : TypeId} {x : TE} (h : TOk P ty x) (hd : x.d = .slice el) : P.underlying ty = some (.slice el) ∧ ∀ w, (underlying ty).run P w = .ok (.slice el) w := by
  obtain ⟨d, h1, h2, h3⟩ := h.run_und
  have := td_slice (h1.trans hd)
  subst this
  exact ⟨h2, h3⟩
theorem TOk.struct {P : Program} {ty : TypeId} {l : List (TypeId × Nat)} {x : TE} (h : TOk P ty x) (hd : x.d = .struct l) : ∃ fs : Array Field, fs.toList.map (fun f => (f.type, f.offset)) = l ∧ ∀ w, (underlying ty).run P w = .ok (.struct fs) w := by
  obtain ⟨d, h1, h2, h3⟩ := h.run_und
  obtain ⟨fs, rfl, h4⟩ := td_struct (h1.trans hd)
  exact ⟨fs, h4, h3⟩
theorem TOk.run_info {P : Program} {ty : TypeId} {x : TE} (h : TOk P ty x) (w : World) : ∃ i, (typeInfo ty).run P w = .ok i w ∧ i.size = x.size ∧ i.bytes = x.bytes ∧ i.zero = some x.zero := by
  obtain ⟨i, h1, h2⟩ := h.info
  exact ⟨i, by simp [go_sem, typeInfo, h1], h2⟩
theorem TOk.run_size {P : Program} {ty : TypeId} {x : TE} (h : TOk P ty x) (w : World) : (sizeOf ty).run P w = .ok x.size w := by
  obtain ⟨i, h1, h2, h3⟩ := h.run_info w
  simp [go_sem, sizeOf, h1, h2]
theorem TOk.run_zero {P : Program} {ty : TypeId} {x : TE} (h : TOk P ty x) (w : World) : (zeroValue ty).run P w = .ok x.zero w := by
  obtain ⟨i, h1, h2, h3, h4⟩ := h.run_info w
  simp [go_sem, zeroValue, h1, h4]
theorem TOk.run_agg {P : Program} {ty : TypeId} {x : TE} (h : TOk P ty x) (w : World) : (isAgg ty).run P w = .ok x.agg w := by
  obtain ⟨d, h1, h2, h3⟩ := h.run_und
  unfold isAgg TE.agg
  simp only [Sem.run_bind, h3 w, Result.andThen]
  rw [← h1]
  cases d <;> simp [go_sem, tdOf]


/-! Steps of memory. -/

theorem heap_alloc_lt (w : World) (o : Obj) {b : Nat} (h : b < w.heap.size) : (w.alloc o).heap[b]? = w.heap[b]? := by
  show (w.heap.push o)[b]? = _
  rw [Array.getElem?_push, if_neg (by omega)]
theorem heap_alloc_new (w : World) (o : Obj) : (w.alloc o).heap[w.heap.size]? = some o := by
  show (w.heap.push o)[w.heap.size]? = _
  simp

theorem Step.of_alloc {L L' : LM} {H H' : HP} {w : World} (o : Obj) (hL : ∀ id l, L id = some l → L' id = some l) (hold : ∀ b, b < w.heap.size → LB L' H' b → LB L H b) : Step L H w L' H' (w.alloc o) :=
  ⟨hL, rfl, rfl, rfl, by simp, fun b hb _ => heap_alloc_lt w o hb, hold⟩

theorem LB_lt {L : LM} {H : HP} {Av : Nat → Prop} {w : World} (s : SR L H Av w) {b : Nat} (h : LB L H b) : b < w.heap.size := by
  obtain ⟨id, cs, l, h1, h2, h3⟩ := h
  obtain ⟨l', h4, ⟨arr, e, h5, _⟩⟩ := s.node id cs h1
  rw [h2] at h4; cases h4
  exact h3 ▸ getElem?_lt h5

theorem alloc_step {L : LM} {H : HP} {Av : Nat → Prop} {w : World} (s : SR L H Av w) {id : Nat} (hL : L id = none) (hH : H id = none) (arr : Array Value) (e : TypeId) (cp : Nat) (cs : List AV)
    (hcp : cp ≤ arr.size) (hlen : cs.length ≤ cp) (hcs : ∀ (k : Nat) (x : AV), cs[k]? = some x → ∃ u, arr[k]? = some u ∧ R L w (MM L H Av) x u) :
    SR (updL L id ⟨w.heap.size, 0, cp⟩) (upd H id (some cs)) Av (w.alloc (.cells arr e (0, 0))) ∧ Step L H w (updL L id ⟨w.heap.size, 0, cp⟩) (upd H id (some cs)) (w.alloc (.cells arr e (0, 0))) := by
  have hst : Step L H w (updL L id ⟨w.heap.size, 0, cp⟩) (upd H id (some cs)) (w.alloc (.cells arr e (0, 0))) := by
    refine Step.of_alloc _ (updL_le hL _) ?_
    rintro b hb ⟨id', cs', l', h1, h2, h3⟩
    by_cases hid : id' = id
    · subst hid
      rw [updL_same] at h2; cases h2
      simp only at h3; omega
    · rw [upd_ne _ _ hid] at h1; rw [updL_ne _ _ hid] at h2
      exact ⟨id', cs', l', h1, h2, h3⟩
  refine ⟨⟨?_, ?_, ?_, ?_⟩, hst⟩
  · intro id' cs' h
    by_cases hid : id' = id
    · subst hid
      rw [upd_same] at h; cases h
      refine ⟨_, updL_same _ _ _, ⟨arr, e, heap_alloc_new _ _, by simpa using hcp, hlen, ?_⟩⟩
      intro k x hk
      obtain ⟨u, h1, h2⟩ := hcs k x hk
      exact ⟨u, by simpa using h1, h2.step hst⟩
    · rw [upd_ne _ _ hid] at h
      obtain ⟨l, h1, ⟨arr', e', h2, h3, h4, h5⟩⟩ := s.node id' cs' h
      refine ⟨l, by rw [updL_ne _ _ hid]; exact h1, ⟨arr', e', ?_, h3, h4, ?_⟩⟩
      · rw [heap_alloc_lt _ _ (getElem?_lt h2)]; exact h2
      · intro k x hk
        obtain ⟨u, h6, h7⟩ := h5 k x hk
        exact ⟨u, h6, h7.step hst⟩
  · intro i i' c c' l l' h1 h2 h3 h4 h5
    by_cases hi : i = id <;> by_cases hi' : i' = id
    · omega
    · subst hi
      rw [updL_same] at h3; cases h3
      rw [upd_ne _ _ hi'] at h2; rw [updL_ne _ _ hi'] at h4
      have := LB_lt s ⟨i', c', l', h2, h4, rfl⟩
      simp only at h5; omega
    · subst hi'
      rw [updL_same] at h4; cases h4
      rw [upd_ne _ _ hi] at h1; rw [updL_ne _ _ hi] at h3
      have := LB_lt s ⟨i, c, l, h1, h3, rfl⟩
      simp only at h5; omega
    · rw [upd_ne _ _ hi] at h1; rw [updL_ne _ _ hi] at h3
      rw [upd_ne _ _ hi'] at h2; rw [updL_ne _ _ hi'] at h4
      exact s.inj i i' c c' l l' h1 h2 h3 h4 h5
  · intro i c l h1 h2
    by_cases hi : i = id
    · subst hi
      rw [updL_same] at h2; cases h2
      intro h; have := s.avlt _ h; simp only at this; omega
    · rw [upd_ne _ _ hi] at h1; rw [updL_ne _ _ hi] at h2
      exact s.av i c l h1 h2
  · intro b hb; have := s.avlt b hb; simp; omega

/-- The world with one block laid anew. -/
def setBlk (w : World) (b : Nat) (o : Obj) : World := { w with heap := w.heap.setIfInBounds b o }
theorem setBlk_size (w : World) (b : Nat) (o : Obj) : (setBlk w b o).heap.size = w.heap.size := by simp [setBlk]
theorem setBlk_ne (w : World) {b b' : Nat} (o : Obj) (h : b' ≠ b) : (setBlk w b o).heap[b']? = w.heap[b']? := by
  simp only [setBlk]; rw [Array.getElem?_setIfInBounds_ne (by omega)]
theorem setBlk_same (w : World) {b : Nat} (o : Obj) (h : b < w.heap.size) : (setBlk w b o).heap[b]? = some o := by
  simp only [setBlk]; rw [Array.getElem?_setIfInBounds_self_of_lt h]

/-- A live block is written: in place, or as a new piece over the same block, the elder one being given up. -/
theorem move_step {L : LM} {H : HP} {Av : Nat → Prop} {w : World} (s : SR L H Av w) {id id' : Nat} {cs : List AV} {l l' : Loc} (hH : H id = some cs) (hl : L id = some l) (hid : (id' = id ∧ l' = l) ∨ (L id' = none ∧ H id' = none))
    (hb' : l'.blk = l.blk) (arr : Array Value) (e : TypeId) (cs' : List AV) (hcap : l'.off + l'.cap ≤ arr.size) (hlen : cs'.length ≤ l'.cap)
    (hcs : ∀ (k : Nat) (x : AV), cs'[k]? = some x → ∃ u, arr[l'.off + k]? = some u ∧ R L w (MM L H Av) x u) :
    SR (updL L id' l') (upd (upd H id none) id' (some cs')) Av (setBlk w l.blk (.cells arr e (0, 0))) ∧ Step L H w (updL L id' l') (upd (upd H id none) id' (some cs')) (setBlk w l.blk (.cells arr e (0, 0))) := by
  have hle : ∀ i m, L i = some m → updL L id' l' i = some m := by
    rcases hid with ⟨rfl, rfl⟩ | ⟨h, _⟩
    · intro i m hm
      by_cases hi : i = id'
      · subst hi; rw [updL_same, ← hm, hl]
      · rw [updL_ne _ _ hi]; exact hm
    · exact updL_le h _
  have hlb : LB L H l.blk := ⟨id, cs, l, hH, hl, rfl⟩
  have hlt := LB_lt s hlb
  have hlive : ∀ i c, i ≠ id' → upd (upd H id none) id' (some cs') i = some c → i ≠ id ∧ H i = some c := by
    intro i c hi h
    rw [upd_ne _ _ hi] at h
    by_cases hii : i = id
    · subst hii; rw [upd_same] at h; cases h
    · rw [upd_ne _ _ hii] at h; exact ⟨hii, h⟩
  have hst : Step L H w (updL L id' l') (upd (upd H id none) id' (some cs')) (setBlk w l.blk (.cells arr e (0, 0))) := by
    refine ⟨hle, rfl, rfl, rfl, by rw [setBlk_size]; exact Nat.le_refl _, ?_, ?_⟩
    · intro b hb hn
      exact setBlk_ne _ _ (fun h => hn (h ▸ hlb))
    · rintro b hb ⟨i, c, m, h1, h2, h3⟩
      by_cases hi : i = id'
      · subst hi
        rw [updL_same] at h2; cases h2
        rw [← h3, hb']; exact hlb
      · rw [updL_ne _ _ hi] at h2
        exact ⟨i, c, m, (hlive i c hi h1).2, h2, h3⟩
  refine ⟨⟨?_, ?_, ?_, ?_⟩, hst⟩
  · intro i c h
    by_cases hi : i = id'
    · subst hi
      rw [upd_same] at h; cases h
      refine ⟨_, updL_same _ _ _, ⟨arr, e, by rw [hb']; exact setBlk_same _ _ hlt, hcap, hlen, ?_⟩⟩
      intro k x hk
      obtain ⟨u, h1, h2⟩ := hcs k x hk
      exact ⟨u, h1, h2.step hst⟩
    · obtain ⟨hii, hh⟩ := hlive i c hi h
      obtain ⟨m, h1, ⟨arr', e', h2, h3, h4, h5⟩⟩ := s.node i c hh
      have hne : m.blk ≠ l.blk := fun he => hii (s.inj i id c cs m l hh hH h1 hl he)
      refine ⟨m, by rw [updL_ne _ _ hi]; exact h1, ⟨arr', e', by rw [setBlk_ne _ _ hne]; exact h2, h3, h4, ?_⟩⟩
      intro k x hk
      obtain ⟨u, h6, h7⟩ := h5 k x hk
      exact ⟨u, h6, h7.step hst⟩
  · intro i i' c c' m m' h1 h2 h3 h4 h5
    by_cases hi : i = id' <;> by_cases hi' : i' = id'
    · omega
    · subst hi
      rw [updL_same] at h3; cases h3
      obtain ⟨hii, hh⟩ := hlive i' c' hi' h2
      rw [updL_ne _ _ hi'] at h4
      exact absurd (s.inj i' id c' cs m' l hh hH h4 hl (by rw [← h5, hb'])) hii
    · subst hi'
      rw [updL_same] at h4; cases h4
      obtain ⟨hii, hh⟩ := hlive i c hi h1
      rw [updL_ne _ _ hi] at h3
      exact absurd (s.inj i id c cs m l hh hH h3 hl (by rw [h5, hb'])) hii
    · obtain ⟨_, hh⟩ := hlive i c hi h1
      obtain ⟨_, hh'⟩ := hlive i' c' hi' h2
      rw [updL_ne _ _ hi] at h3; rw [updL_ne _ _ hi'] at h4
      exact s.inj i i' c c' m m' hh hh' h3 h4 h5
  · intro i c m h1 h2
    by_cases hi : i = id'
    · subst hi
      rw [updL_same] at h2; cases h2
      rw [hb']; exact s.av id cs l hH hl
    · obtain ⟨_, hh⟩ := hlive i c hi h1
      rw [updL_ne _ _ hi] at h2
      exact s.av i c m hh h2
  · intro b hb; rw [setBlk_size]; exact s.avlt b hb

end Go.Proofs.Ytgeoogndonghmaa
