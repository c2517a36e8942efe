/-
  Own layer, part G: the operations that write: a store, an append.
-/
import Derived.Test.YtgeoogndonghmaaAvF
set_option linter.unusedVariables false
set_option linter.unusedSimpArgs false
namespace Go.Proofs.Ytgeoogndonghmaa

theorem setRow_eq (w : World) (g : Nat) (old cs : Array Value) (t : TypeId) (fr : Nat × Nat) (hg : w.heap[g]? = some (.cells old t fr)) : w.setRow g cs = setBlk w g (.cells cs t fr) := by
  have hlt := getElem?_lt hg
  unfold World.setRow setBlk
  congr 1
  apply Array.ext
  · simp
  · intro i h1 h2
    rw [Array.getElem_modify, Array.getElem_setIfInBounds]
    · split
      · rename_i h; subst h
        have : w.heap[g] = .cells old t fr := by rw [Array.getElem?_eq_getElem hlt] at hg; simpa using hg
        simp [this]
      · rfl

theorem run_stores {P : Program} {w : World} {g o : Nat} {cur : Array Value} {t : TypeId} (vs : List Value) (hg : w.heap[g]? = some (.cells cur t (0, 0))) (hf : o + vs.length ≤ cur.size) (h1 : ∀ v ∈ vs, v.oneCell' = true) :
    (storeCells ⟨g, o, none⟩ vs).run P w = .ok () (setBlk w g (.cells (cur.toList.take o ++ vs ++ cur.toList.drop (o + vs.length)).toArray t (0, 0))) := by
  have h := run_storeCells_at P g o t vs 0 cur w hg (by simpa using hf) h1
  rw [setRow_eq w g cur _ t _ hg] at h
  simpa using h

theorem splice_get {α : Type} (cur : Array α) (o : Nat) (vs : List α) (h : o + vs.length ≤ cur.size) (k : Nat) :
    (cur.toList.take o ++ vs ++ cur.toList.drop (o + vs.length)).toArray[k]? = if o ≤ k ∧ k < o + vs.length then vs[k - o]? else cur[k]? := by
  simp only [List.getElem?_toArray]
  rw [List.append_assoc, List.getElem?_append]
  have hl : (cur.toList.take o).length = o := by simp; omega
  rw [hl]
  split
  · rename_i hk
    rw [if_neg (by omega), List.getElem?_take, if_pos hk]; simp
  · rename_i hk
    rw [List.getElem?_append]
    split
    · rename_i hk2
      rw [if_pos ⟨by omega, by omega⟩]
    · rename_i hk2
      rw [if_neg (by omega), List.getElem?_drop]
      rw [show o + vs.length + (k - o - vs.length) = k by omega]; simp

/-- Contents with some cells laid anew. -/
def splice (cs : List AV) (o : Nat) (xs : List AV) : List AV := cs.take o ++ xs ++ cs.drop (o + xs.length)

theorem splice_len {cs : List AV} {o : Nat} {xs : List AV} (h : o + xs.length ≤ cs.length) : (splice cs o xs).length = cs.length := by
  simp [splice]; omega

theorem splice_getE (cs : List AV) (o : Nat) (xs : List AV) (h : o + xs.length ≤ cs.length) (k : Nat) :
    (splice cs o xs)[k]? = if o ≤ k ∧ k < o + xs.length then xs[k - o]? else cs[k]? := by
  unfold splice
  rw [List.append_assoc, List.getElem?_append]
  have hl : (cs.take o).length = o := by simp; omega
  rw [hl]
  split
  · rename_i hk
    rw [if_neg (by omega), List.getElem?_take, if_pos hk]
  · rename_i hk
    rw [List.getElem?_append]
    split
    · rename_i hk2
      rw [if_pos ⟨by omega, by omega⟩]
    · rename_i hk2
      rw [if_neg (by omega), List.getElem?_drop]
      rw [show o + xs.length + (k - o - xs.length) = k by omega]

section
variable {P : Program} {Γ : TEnv} {o : Oper} {ev : Operand → AV} {H : HP} {id : Nat}

def stop (Γ : TEnv) (H : HP) (ty : TypeId) (x y : AV) (k : AV → HP → Prop) : Prop :=
  match Γ ty, x with
  | some e, .q i off => ex1 (H i) fun cs => okA y = true ∧ (cellsA y).length = e.size ∧ off + e.size ≤ cs.length ∧ k .j (upd H i (some (splice cs off (cellsA y))))
  | _, _ => False

theorem stop_ok (hG : GOk P Γ) {ty : TypeId} {x y : Operand} (ho : o.op = .store ty x y) {k : AV → HP → Prop} (h : stop Γ H ty (ev x) (ev y) k) : OpS P o ev H id k := by
  unfold stop at h
  split at h
  · rename_i e i off he hx
    obtain ⟨cs, hcs, h1, h2, h3, h⟩ := h
    intro L Av w ρ hs hfn hL hi hops
    have hu := hops x (by rw [ho]; simp [Op.operands])
    have hv := hops y (by rw [ho]; simp [Op.operands])
    rw [hx] at hu
    obtain ⟨l, hl, e1⟩ := hu.q_inv
    obtain ⟨l', hl', ⟨arr, et, e2, e3, e4, e5⟩⟩ := hs.node i cs hcs
    rw [hl] at hl'; cases hl'
    obtain ⟨e6, e7⟩ := okA_cells hv h1
    have e8 := (hG ty e he).run_size w
    have hlen : (ρ y).cells.toList.length = e.size := by simp [e6, h2]
    have hone : ∀ v ∈ (ρ y).cells.toList, v.oneCell' = true := by
      intro v hv
      obtain ⟨j, hj, hjv⟩ := List.getElem_of_mem hv
      have hj' : j < (cellsA (ev y)).length := by rw [← e6]; simpa using hj
      obtain ⟨c, e9, _, e10⟩ := e7 j _ (List.getElem?_eq_getElem hj')
      have : c = v := by
        rw [← hjv]
        have : (ρ y).cells.toList[j]? = some c := by simpa using e9
        rw [List.getElem?_eq_getElem hj] at this
        exact (Option.some.inj this).symm
      rw [← this]; exact e10
    have e11 := run_stores (P := P) (w := w) (g := l.blk) (o := l.off + off) (ρ y).cells.toList e2 (by rw [hlen]; omega) hone
    obtain ⟨e12, e13⟩ := move_step hs hcs hl (.inl ⟨rfl, rfl⟩) rfl (arr.toList.take (l.off + off) ++ (ρ y).cells.toList ++ arr.toList.drop (l.off + off + (ρ y).cells.toList.length)).toArray et (splice cs off (cellsA (ev y))) (by simp; omega) (by rw [splice_len (by omega)]; exact e4) (by
      intro k x hk
      rw [splice_getE cs off _ (by omega)] at hk
      rw [splice_get arr _ _ (by rw [hlen]; omega), hlen]
      split at hk
      · rename_i hc
        rw [if_pos ⟨by omega, by omega⟩]
        obtain ⟨c, e14, e15, _⟩ := e7 (k - off) x hk
        exact ⟨c, by rw [show l.off + k - (l.off + off) = k - off by omega]; simpa using e14, e15⟩
      · rename_i hc
        rw [if_neg (by omega)]
        exact e5 k x hk)
    rw [updL_id L hl, upd_upd] at e12 e13
    refine .of_skip ?_ ⟨_, _, L, h, fun _ _ => rfl, e12, e13, .j _⟩
    have a1 : ¬ ((ρ y).cells.size ≠ e.size) := by rw [e6, h2]; simp
    simp only [execOp, ho, e1, Instr.storeAt, Instr.sureAddr, Sem.run_bind, Sem.run_pure, Result.andThen_ok, storeVar, e8]
    simp only [e6, h2]
    simp [e11]
  · exact h.elim

/-- The cells that a slice shows. -/
def vw (H : HP) : AV → Option (List AV)
  | .v n cs => if cs.length = n then some cs else none
  | .h i off n => match H i with
    | some cs => if off + n ≤ cs.length then some ((cs.drop off).take n) else none
    | none => none
  | .nl => some []
  | _ => none

theorem vw_run {L : LM} {Av : Nat → Prop} {w : World} (hs : SR L H Av w) {x : AV} {u : Value} (hu : R L w (MM L H Av) x u) {xs : List AV} (hx : vw H x = some xs) :
    ∃ a n cp, u = .slice a n cp ∧ n = xs.length ∧ ∃ us : List Value, us.length = xs.length ∧ (∀ w' : World, w'.heap = w.heap → (Builtin.firstCells 1 n u).run P w' = .ok us.toArray w') ∧ ∀ (k : Nat) (y : AV), xs[k]? = some y → ∃ c, us[k]? = some c ∧ R L w (MM L H Av) y c := by
  unfold vw at hx
  split at hx
  · rename_i n cs
    split at hx
    · rename_i hlen
      cases hx
      cases hu with
      | v0 a cp =>
        refine ⟨a, 0, cp, rfl, rfl, [], rfl, ?_, by simp⟩
        intro w' _
        cases a <;> simp [Builtin.firstCells, loadCells, loadCellsFrom]
      | v _ _ b off cp arr e f us hM hb hn hu hr =>
        refine ⟨_, n, cp, rfl, hlen.symm, (List.range' 0 n).map us, by simp [hlen], ?_, ?_⟩
        · intro w' hw'
          have := run_loadCells (P := P) (w := w') (b := b) (off := off) (us := us) n 0 #[] (fun k hk => by
            rw [Nat.zero_add]; exact cell_of (by rw [hw']; exact hb) (hu k (by omega)))
          simp [Builtin.firstCells, loadCells, this]
        · intro k y hk
          have hlt := (List.getElem?_eq_some_iff.1 hk).1
          exact ⟨us k, by simp [show k < n by omega], hr k y hk⟩
    · cases hx
  · rename_i i off n
    split at hx
    · rename_i cs hcs
      split at hx
      · rename_i hlen
        cases hx
        obtain ⟨l, hl, ⟨arr, et, e2, e3, e4, e5⟩⟩ := hs.node i cs hcs
        cases hu with
        | h _ _ _ l' a cp hl' hn hc ha =>
          rw [hl] at hl'; cases hl'
          let us : Nat → Value := fun j => arr.getD (l.off + off + j) undef
          have hcell : ∀ j, j < n → ∃ u, arr[l.off + off + j]? = some u ∧ R L w (MM L H Av) (cs.getD (off + j) .j) u := by
            intro j hj
            have hlt : off + j < cs.length := by omega
            obtain ⟨u, h3, h4⟩ := e5 (off + j) cs[off + j] (List.getElem?_eq_getElem hlt)
            exact ⟨u, by rw [Nat.add_assoc]; exact h3, by simpa [hlt] using h4⟩
          refine ⟨_, n, cp, rfl, by simp; omega, (List.range' 0 n).map us, by simp; omega, ?_, ?_⟩
          · intro w' hw'
            by_cases hn0 : n = 0
            · subst hn0; simp [Builtin.firstCells, loadCells, loadCellsFrom]
            · have ha' := ha.resolve_left (by omega)
              have := run_loadCells (P := P) (w := w') (b := l.blk) (off := l.off + off) (us := us) n 0 #[] (fun k hk => by
                rw [Nat.zero_add]
                obtain ⟨u, h6, _⟩ := hcell k hk
                exact cell_of (by rw [hw']; exact e2) (by rw [h6]; simp [us, h6]))
              simp [Builtin.firstCells, loadCells, ha', this]
          · intro k y hk
            simp only [List.getElem?_take, List.getElem?_drop] at hk
            split at hk
            · rename_i hkn
              obtain ⟨u, h6, h7⟩ := hcell k hkn
              refine ⟨u, by simp [hkn, us, h6], ?_⟩
              rw [show cs.getD (off + k) .j = y by simp [hk]] at h7
              exact h7
            · cases hk
      · cases hx
    · cases hx
  · cases hx
    rw [hu.nl_inv]
    exact ⟨none, 0, 0, rfl, rfl, [], rfl, by intro w' _; simp [Builtin.firstCells], by simp⟩
  · cases hx

/-- append(s, xs..), cells of one. -/
def apst (H : HP) (x : AV) (xs : List AV) (id : Nat) (k : AV → HP → Prop) : Prop :=
  match x with
  | .nl => (xs = [] → k .nl H) ∧ (xs ≠ [] → k (.h id 0 xs.length) (upd H id (some xs)))
  | .h i off n => ex1 (H i) fun cs => off + n ≤ cs.length ∧ k (.h id 0 (n + xs.length)) (upd (upd H i none) id (some ((cs.drop off).take n ++ xs)))
  | _ => False

def lenA : AV → Nat
  | .h _ _ n => n
  | _ => 0

def isIntT : TypeDesc → Bool
  | .int _ => true
  | _ => false
def isIntD : TD → Bool
  | .int _ => true
  | _ => false
theorem isInt_of {d : TypeDesc} : isIntT d = isIntD (tdOf d) := by cases d <;> rfl

def apop (Γ : TEnv) (H : HP) (t1 t2 : TypeId) (x y : AV) (id : Nat) (k : AV → HP → Prop) : Prop :=
  match Γ t1, Γ t2 with
  | some e1, some e2 => match e1.d with
    | .slice el => match Γ el with
      | some ee => ee.size = 1 ∧ ee.zero.cells.size = 1 ∧ (match y with
        | .i _ n => isIntD e2.d = true ∧ 0 ≤ n ∧ n ≤ 9223372036854775807 ∧ (lenA x + n.toNat) * ee.bytes ≤ 140737488355328 ∧ (lenA x + n.toNat ≤ 9223372036854775807) ∧ one (ofV1 (ee.zero.cells.getD 0 undef)) = true ∧ apst H x (List.replicate n.toNat (ofV1 (ee.zero.cells.getD 0 undef))) id k
        | _ => isIntD e2.d = false ∧ ex1 (vw H y) fun xs => (∀ z ∈ xs, one z = true) ∧ (lenA x + xs.length) * ee.bytes ≤ 140737488355328 ∧ (lenA x + xs.length ≤ 9223372036854775807) ∧ apst H x xs id k)
      | none => False
    | _ => False
  | _, _ => False


/-! The machine's append, its two arms, for slices of cells of one. -/
section
variable {tys : Array TypeId} {ty t1 t2 el : TypeId} {d2 : TypeDesc} {ee : TE} {w w' : World} {base : Option Addr} {sLen sCap n : Nat} {v : Value} {us : List Value}

theorem ap_room (h0 : tys[0]? = some t1) (h1 : tys[1]? = some t2) (und1 : ∀ w, (underlying t1).run P w = .ok (.slice el) w) (und2 : ∀ w, (underlying t2).run P w = .ok d2 w) (hd2 : isIntT d2 = false)
    (hsz : ∀ w, (sizeOf el).run P w = .ok 1 w) (hv : (Builtin.lenOf v).run P w = .ok n w) (hfc : (Builtin.firstCells 1 n v).run P w = .ok us.toArray w) (hroom : sLen + n ≤ sCap)
    (hst : (match base with | some a => storeCells (a.add sLen) us | none => pure () : Sem Unit).run P w = .ok () w') :
    (Builtin.append_ tys ty #[.slice base sLen sCap, v]).run P w = .ok (.slice base (sLen + n) sCap) w' := by
  cases d2 <;> simp only [isIntT, reduceCtorEq] at hd2
  all_goals
    unfold Builtin.append_
    simp only [h0, h1, List.getElem?_toArray, List.getElem?_cons_zero, List.getElem?_cons_succ, Sem.run_bind, und1, und2, Result.andThen_ok, hsz, Sem.run_pure, Bool.false_eq_true, if_false, hv, hroom, if_true, Bool.not_false, hfc, Nat.mul_one]
    cases base with
    | none =>
      simp only [Sem.run_pure] at hst
      cases hst
      simp
    | some a => simp at hst; simp [hst]

theorem ap_roomz (h0 : tys[0]? = some t1) (h1 : tys[1]? = some t2) (und1 : ∀ w, (underlying t1).run P w = .ok (.slice el) w) (und2 : ∀ w, (underlying t2).run P w = .ok d2 w) (hd2 : isIntT d2 = true) (hE : TOk P el ee)
    (hsz : ee.size = 1) {k : IntKind} {m : Int} (hm0 : 0 ≤ m) (hm1 : m ≤ 9223372036854775807) (hmb : m * ee.bytes ≤ 281474976710656) {z : Value} (hz : ee.zero.cells = #[z]) (hroom : sLen + m.toNat ≤ sCap)
    (hst : (match base with | some a => storeCells (a.add sLen) (List.replicate m.toNat z) | none => pure () : Sem Unit).run P w = .ok () w') :
    (Builtin.append_ tys ty #[.slice base sLen sCap, .int k m]).run P w = .ok (.slice base (sLen + m.toNat) sCap) w' := by
  have hs := fun w => hE.run_size w
  rw [hsz] at hs
  have hzr := fun w => hE.run_zero w
  obtain ⟨ii, h9, h10, h11, h12⟩ := hE.run_info w
  have w1 := wrap_i64 (n := m) (by omega) (by omega)
  have a1 : ¬ m < 0 := by omega
  have a2 : ¬ (281474976710656 : Int) < m * ee.bytes := by omega
  have hzc : ∀ n, Builtin.zeroCells #[z] n = (List.replicate n z).toArray := by
    intro n
    apply Array.ext
    · simp [Builtin.zeroCells]
    · intro i h1 h2
      simp [Builtin.zeroCells, Nat.mod_one]
  cases d2 <;> simp only [isIntT, Bool.false_eq_true] at hd2
  unfold Builtin.append_
  simp only [h0, h1, List.getElem?_toArray, List.getElem?_cons_zero, List.getElem?_cons_succ, Sem.run_bind, und1, und2, Result.andThen_ok, hs, Sem.run_pure, if_true, asInt, asIntOf, w1, h9, h11]
  by_cases hm : m.toNat = 0
  · cases base with
    | none =>
      simp only [Sem.run_pure] at hst
      cases hst
      simp [a1, a2, h9, h11, hm, show sLen ≤ sCap by omega]
    | some a =>
      simp [hm, storeCells] at hst
      cases hst
      simp [a1, a2, h9, h11, hm, storeCells, show sLen ≤ sCap by omega]
  · cases base with
    | none =>
      simp only [Sem.run_pure] at hst
      cases hst
      simp [a1, a2, h9, h11, hm, hroom, hzr, hz, hzc]
    | some a =>
      simp at hst
      simp [a1, a2, h9, h11, hm, hroom, hzr, hz, hzc, hst]

theorem ap_grow (h0 : tys[0]? = some t1) (h1 : tys[1]? = some t2) (und1 : ∀ w, (underlying t1).run P w = .ok (.slice el) w) (und2 : ∀ w, (underlying t2).run P w = .ok d2 w) (hd2 : isIntT d2 = false) (hE : TOk P el ee)
    (hsz : ee.size = 1) (hv : (Builtin.lenOf v).run P w = .ok n w) (hfc : (Builtin.firstCells 1 n v).run P w.drew = .ok us.toArray w.drew) {os : List Value} (hold : (Builtin.firstCells 1 sLen (.slice base sLen sCap)).run P w.drew = .ok os.toArray w.drew)
    (hroom : ¬ sLen + n ≤ sCap) (hneed : sLen + n ≤ 9223372036854775807) (hb : (sLen + n) * ee.bytes ≤ 140737488355328) (hb0 : ee.bytes ≠ 0 ∨ sLen + n ≤ 9223372036854775807) :
    ∃ cap rest, sLen + n ≤ cap ∧ (os ++ us).length + rest.length = (os ++ us).length + (cap - (sLen + n)) * ee.zero.cells.size ∧
    (Builtin.append_ tys ty #[.slice base sLen sCap, v]).run P w = .ok (.slice (some ⟨w.heap.size, 0, none⟩) (sLen + n) cap) (w.drew.alloc (.cells (os ++ us ++ rest).toArray el (0, 0))) := by
  have hs := fun w => hE.run_size w
  rw [hsz] at hs
  have hzr := fun w => hE.run_zero w
  obtain ⟨ii, h9, h10, h11, h12⟩ := hE.run_info w
  obtain ⟨ij, g9, g10, g11, g12⟩ := hE.run_info w.drew
  have hf := growslice_fits (need := sLen + n) (old := sCap) (bytes := ee.bytes) (by omega) hb
  have a2 : ¬ (281474976710656 < Builtin.nextslicecap (sLen + n) sCap * ee.bytes) := by omega
  have a3 : ¬ (((sLen + n : Nat) : Int) > IntKind.i64.max) := by
    have : IntKind.i64.max = 9223372036854775807 := rfl
    rw [this]; omega
  refine ⟨(Question.appendCap (sLen + n) sCap el).cut (w.tape w.drawn (.appendCap (sLen + n) sCap el)), (Builtin.zeroCells ee.zero.cells ((Question.appendCap (sLen + n) sCap el).cut (w.tape w.drawn (.appendCap (sLen + n) sCap el)) - (sLen + n))).toList, by simp [Question.cut], by simp [Builtin.zeroCells], ?_⟩
  clear hb0
  cases d2 <;> simp only [isIntT, reduceCtorEq] at hd2
  all_goals
    unfold Builtin.append_
    simp only [h0, h1, List.getElem?_toArray, List.getElem?_cons_zero, List.getElem?_cons_succ, Sem.run_bind, und1, und2, Result.andThen_ok, hs, Sem.run_pure, Bool.false_eq_true, if_false, hv, hroom, Bool.not_false, if_true, h9, h11]
    rw [if_neg (by intro hc; exact a3 hc.1)]
    simp only [Sem.run_bind, h9, Result.andThen_ok, h11]
    rw [if_neg (by simpa using a2)]
    simp [Question.forced, hs, g9, g11, hold, hfc, hzr, newRow]
    congr 2
    apply Array.ext'
    simp

theorem ap_growz (h0 : tys[0]? = some t1) (h1 : tys[1]? = some t2) (und1 : ∀ w, (underlying t1).run P w = .ok (.slice el) w) (und2 : ∀ w, (underlying t2).run P w = .ok d2 w) (hd2 : isIntT d2 = true) (hE : TOk P el ee)
    (hsz : ee.size = 1) {k : IntKind} {m : Int} (hm0 : 0 ≤ m) (hm1 : m ≤ 9223372036854775807) (hmb : m * ee.bytes ≤ 281474976710656) {z : Value} (hz : ee.zero.cells = #[z]) {os : List Value} (hold : (Builtin.firstCells 1 sLen (.slice base sLen sCap)).run P w.drew = .ok os.toArray w.drew)
    (hroom : ¬ sLen + m.toNat ≤ sCap) (hneed : sLen + m.toNat ≤ 9223372036854775807) (hb : (sLen + m.toNat) * ee.bytes ≤ 140737488355328) :
    ∃ cap rest, sLen + m.toNat ≤ cap ∧ (os ++ List.replicate m.toNat z).length + rest.length = (os ++ List.replicate m.toNat z).length + (cap - (sLen + m.toNat)) * ee.zero.cells.size ∧
    (Builtin.append_ tys ty #[.slice base sLen sCap, .int k m]).run P w = .ok (.slice (some ⟨w.heap.size, 0, none⟩) (sLen + m.toNat) cap) (w.drew.alloc (.cells (os ++ List.replicate m.toNat z ++ rest).toArray el (0, 0))) := by
  have hs := fun w => hE.run_size w
  rw [hsz] at hs
  have hzr := fun w => hE.run_zero w
  obtain ⟨ii, h9, h10, h11, h12⟩ := hE.run_info w
  obtain ⟨ij, g9, g10, g11, g12⟩ := hE.run_info w.drew
  have hf := growslice_fits (need := sLen + m.toNat) (old := sCap) (bytes := ee.bytes) (by omega) hb
  have a0 : ¬ m < 0 := by omega
  have a1 : ¬ (281474976710656 : Int) < m * ee.bytes := by omega
  have a2 : ¬ (281474976710656 < Builtin.nextslicecap (sLen + m.toNat) sCap * ee.bytes) := by omega
  have a3 : ¬ (((sLen + m.toNat : Nat) : Int) > IntKind.i64.max) := by
    have : IntKind.i64.max = 9223372036854775807 := rfl
    rw [this]; omega
  have w1 := wrap_i64 (n := m) (by omega) (by omega)
  have hzc : ∀ n, Builtin.zeroCells #[z] n = (List.replicate n z).toArray := by
    intro n
    apply Array.ext
    · simp [Builtin.zeroCells]
    · intro i h1 h2
      simp [Builtin.zeroCells, Nat.mod_one]
  refine ⟨(Question.appendCap (sLen + m.toNat) sCap el).cut (w.tape w.drawn (.appendCap (sLen + m.toNat) sCap el)), (Builtin.zeroCells ee.zero.cells ((Question.appendCap (sLen + m.toNat) sCap el).cut (w.tape w.drawn (.appendCap (sLen + m.toNat) sCap el)) - (sLen + m.toNat))).toList, by simp [Question.cut], by simp [Builtin.zeroCells], ?_⟩
  cases d2 <;> simp only [isIntT, Bool.false_eq_true] at hd2
  unfold Builtin.append_
  simp only [h0, h1, List.getElem?_toArray, List.getElem?_cons_zero, List.getElem?_cons_succ, Sem.run_bind, und1, und2, Result.andThen_ok, hs, Sem.run_pure, if_true, asInt, asIntOf, w1, h9, h11]
  rw [if_neg a0]
  simp only [Sem.run_bind, h9, Result.andThen_ok, h11]
  rw [if_neg (by simpa using a1)]
  simp only [Sem.run_pure, Result.andThen_ok, hroom, if_false, Sem.run_bind, h9, h11]
  rw [if_neg (by intro hc; exact a3 hc.1)]
  simp only [Sem.run_bind, h9, Result.andThen_ok, h11]
  rw [if_neg (by simpa using a2)]
  by_cases hm : m.toNat = 0
  · simp only [hm, List.replicate_zero, List.append_nil, Nat.add_zero] at *
    simp [Question.forced, hs, g9, g11, hold, hzr, newRow, hm]
    congr 2
    apply Array.ext'
    simp
  · simp [Question.forced, hs, g9, g11, hold, hzr, newRow, hm, hz, hzc]
    congr 2
    apply Array.ext'
    simp

end

theorem R.drew {L : LM} {M : Nat → Prop} {w : World} {x : AV} {u : Value} (h : R L w M x u) : R L w.drew M x u := R.mono (w := w) (w' := w.drew) (M := M) (M' := M) (fun _ _ h => h) (fun _ _ _ => rfl) (fun _ _ h => h) h
theorem R.undrew {L : LM} {M : Nat → Prop} {w : World} {x : AV} {u : Value} (h : R L w.drew M x u) : R L w M x u := R.mono (w := w.drew) (w' := w) (M := M) (M' := M) (fun _ _ h => h) (fun _ _ _ => rfl) (fun _ _ h => h) h
theorem SR.drew {L : LM} {Av : Nat → Prop} {w : World} (s : SR L H Av w) : SR L H Av w.drew :=
  ⟨fun id cs h => by
    obtain ⟨l, h1, ⟨arr, e, h2, h3, h4, h5⟩⟩ := s.node id cs h
    exact ⟨l, h1, ⟨arr, e, h2, h3, h4, fun k x hk => by
      obtain ⟨u, h6, h7⟩ := h5 k x hk
      exact ⟨u, h6, h7.drew⟩⟩⟩,
   s.inj, s.av, s.avlt⟩
theorem Step.drew (L : LM) (H : HP) (w : World) : Step L H w L H w.drew := ⟨fun _ _ h => h, rfl, rfl, rfl, Nat.le_refl _, fun _ _ _ => rfl, fun _ _ h => h⟩

theorem setBlk_id {w : World} {b : Nat} {o : Obj} (h : w.heap[b]? = some o) : setBlk w b o = w := by
  have hlt := getElem?_lt h
  unfold setBlk
  have : w.heap.setIfInBounds b o = w.heap := by
    apply Array.ext
    · simp
    · intro i h1 h2
      rw [Array.getElem_setIfInBounds]
      split
      · rename_i hi; subst hi
        rw [Array.getElem?_eq_getElem hlt] at h
        simpa using h.symm
      · rfl
  rw [this]

theorem append_fin {L : LM} {Av : Nat → Prop} {w : World} (hs : SR L H Av w) (hL : L id = none) (hi : H id = none) {x : AV} {u : Value} (hu : R L w (MM L H Av) x u) {el : TypeId}
    {xs : List AV} {us : List Value} (hl : us.length = xs.length) (hr : ∀ (k : Nat) (y : AV), xs[k]? = some y → ∃ c, us[k]? = some c ∧ R L w (MM L H Av) y c) (hone : ∀ v ∈ us, v.oneCell' = true)
    {k : AV → HP → Prop} (h : apst H x xs id k) (run : Sem Value)
    (hroom : ∀ base sLen sCap w', u = .slice base sLen sCap → sLen + us.length ≤ sCap → (match base with | some a => storeCells (a.add sLen) us | none => pure () : Sem Unit).run P w = .ok () w' → run.run P w = .ok (.slice base (sLen + us.length) sCap) w')
    (hgrow : ∀ base sLen sCap os, u = .slice base sLen sCap → ¬ sLen + us.length ≤ sCap → (Builtin.firstCells 1 sLen u).run P w.drew = .ok (List.toArray os) w.drew → ∃ cap rest, sLen + us.length ≤ cap ∧ (rest : List Value).length = cap - (sLen + us.length) ∧
      run.run P w = .ok (.slice (some ⟨w.heap.size, 0, none⟩) (sLen + us.length) cap) (w.drew.alloc (.cells (os ++ us ++ rest).toArray el (0, 0)))) :
    ∃ z w', run.run P w = .ok z w' ∧ ∃ r H' L', k r H' ∧ (∀ i, i ≠ id → L' i = L i) ∧ SR L' H' Av w' ∧ Step L H w L' H' w' ∧ R L' w' (MM L' H' Av) r z := by
  unfold apst at h
  split at h
  · have hu' := hu.nl_inv
    by_cases hx : xs = []
    · have h0 : us = [] := by rw [← List.length_eq_zero_iff, hl, hx]; rfl
      have := hroom none 0 0 w hu' (by simp [h0]) rfl
      refine ⟨_, _, this, .nl, H, L, h.1 hx, fun _ _ => rfl, hs, Step.refl _ _ _, ?_⟩
      rw [h0]; exact .nl
    · have hpos : 0 < us.length := by rw [hl]; exact List.length_pos_iff.2 hx
      obtain ⟨cap, rest, h1, h2, h3⟩ := hgrow none 0 0 [] hu' (by omega) (by rw [hu']; simp [Builtin.firstCells])
      obtain ⟨h4, h5⟩ := alloc_step hs.drew hL hi ([] ++ us ++ rest).toArray el cap xs (by simp; omega) (by omega) (by
        intro k y hk
        obtain ⟨c, h6, h7⟩ := hr k y hk
        have hlt := (List.getElem?_eq_some_iff.1 h6).1
        exact ⟨c, by rw [List.getElem?_toArray, List.nil_append, List.getElem?_append_left hlt]; exact h6, h7.drew⟩)
      refine ⟨_, _, h3, _, _, _, h.2 hx, fun i hne => updL_ne _ _ hne, h4, (Step.drew _ _ _).trans h5, ?_⟩
      rw [Nat.zero_add, hl]
      exact .h _ _ _ _ _ _ (updL_same _ _ _) (by omega) (by simp) (.inr (by simp))
  · rename_i i off n
    obtain ⟨cs, hcs, hlen, h⟩ := h
    cases hu with
    | h _ _ _ l a cp hli hn hc ha =>
      obtain ⟨l', hl', ⟨arr, et, e2, e3, e4, e5⟩⟩ := hs.node i cs hcs
      rw [hli] at hl'; cases hl'
      by_cases hro : n + us.length ≤ cp
      · have hst : (storeCells (a.add n) us).run P w = .ok () (setBlk w l.blk (.cells (arr.toList.take (l.off + off + n) ++ us ++ arr.toList.drop (l.off + off + n + us.length)).toArray et (0, 0))) := by
          by_cases hcp : cp = 0
          · have h0 : us = [] := by rw [← List.length_eq_zero_iff]; omega
            subst h0
            have : (arr.toList.take (l.off + off + n) ++ [] ++ arr.toList.drop (l.off + off + n + ([] : List Value).length)).toArray = arr := by simp
            rw [this, setBlk_id e2]
            simp [storeCells]
          · have := run_stores (P := P) (w := w) (g := l.blk) (o := l.off + off + n) us e2 (by omega) hone
            rw [ha.resolve_left hcp, addr_add]
            exact this
        have h1 := hroom (some a) n cp _ rfl hro hst
        obtain ⟨h2, h3⟩ := move_step (l' := ⟨l.blk, l.off + off, cp⟩) (id' := id) hs hcs hli (.inr ⟨hL, hi⟩) rfl (arr.toList.take (l.off + off + n) ++ us ++ arr.toList.drop (l.off + off + n + us.length)).toArray et ((cs.drop off).take n ++ xs) (by simp; omega) (by simp; omega) (by
          intro k y hk
          simp only
          rw [splice_get arr _ _ (by omega)]
          rw [List.getElem?_append] at hk
          have hl1 : ((cs.drop off).take n).length = n := by simp; omega
          rw [hl1] at hk
          split at hk
          · rename_i hkn
            rw [if_neg (by omega)]
            simp only [List.getElem?_take, List.getElem?_drop, hkn, if_true] at hk
            obtain ⟨c, h6, h7⟩ := e5 (off + k) y hk
            exact ⟨c, by rw [Nat.add_assoc]; exact h6, h7⟩
          · rename_i hkn
            have hlt := (List.getElem?_eq_some_iff.1 hk).1
            rw [if_pos ⟨by omega, by omega⟩]
            obtain ⟨c, h6, h7⟩ := hr (k - n) y hk
            exact ⟨c, by rw [show l.off + off + k - (l.off + off + n) = k - n by omega]; exact h6, h7⟩)
        refine ⟨_, _, h1, _, _, _, h, fun j hne => updL_ne _ _ hne, h2, h3, ?_⟩
        rw [← hl]
        exact .h _ _ _ _ _ _ (updL_same _ _ _) (by omega) (by simp) (by simpa using ha)
      · obtain ⟨a', n', cp', f1, f2, os, f3, f4, f5⟩ := vw_run (P := P) hs.drew (x := .h i off n) (u := .slice (some a) n cp) (.h _ _ _ l a cp hli hn hc ha) (xs := (cs.drop off).take n) (by simp [vw, hcs, hlen])
        cases f1
        obtain ⟨cap, rest, h1, h2, h3⟩ := hgrow (some a) n cp os rfl hro (f4 _ rfl)
        have hol : os.length = n := by rw [f3]; simp; omega
        -- the elder block is given up
        have hs' : SR L (upd H i none) Av w := by
          have hsub : ∀ b, LB L (upd H i none) b → LB L H b := by
            rintro b ⟨j, c, m, g1, g2, g3⟩
            unfold upd at g1
            split at g1
            · cases g1
            · exact ⟨j, c, m, g1, g2, g3⟩
          have hlv : ∀ j c, upd H i none j = some c → H j = some c := by
            intro j c g
            unfold upd at g
            split at g
            · cases g
            · exact g
          refine ⟨?_, fun j j' c c' m m' g1 g2 => hs.inj j j' c c' m m' (hlv _ _ g1) (hlv _ _ g2), fun j c m g => hs.av j c m (hlv _ _ g), hs.avlt⟩
          intro j c g
          obtain ⟨m, g1, ⟨arr', et', g2, g3, g4, g5⟩⟩ := hs.node j c (hlv _ _ g)
          exact ⟨m, g1, ⟨arr', et', g2, g3, g4, fun k y hk => by
            obtain ⟨c', g6, g7⟩ := g5 k y hk
            exact ⟨c', g6, R.mono (w := w) (w' := w) (M := MM L H Av) (M' := MM L (upd H i none) Av) (fun _ _ h => h) (fun _ _ _ => rfl) (fun b _ hb => Or.elim hb .inl (fun h => .inr (hsub b h))) g7⟩⟩⟩
        have hi' : upd H i none id = none := by unfold upd; split; rfl; exact hi
        have hdn : ∀ {y : AV} {c : Value}, R L w (MM L H Av) y c → R L w.drew (MM L (upd H i none) Av) y c := by
          intro y c g
          refine R.mono (w := w) (w' := w.drew) (M := MM L H Av) (M' := MM L (upd H i none) Av) (fun _ _ h => h) (fun _ _ _ => rfl) ?_ g
          rintro b _ (hb | ⟨j, c, m, g1, g2, g3⟩)
          · exact .inl hb
          · unfold upd at g1
            split at g1
            · cases g1
            · exact .inr ⟨j, c, m, g1, g2, g3⟩
        obtain ⟨h4, h5⟩ := alloc_step hs'.drew hL hi' (os ++ us ++ rest).toArray el cap ((cs.drop off).take n ++ xs) (by simp; omega) (by simp; omega) (by
          intro k y hk
          rw [List.getElem?_append] at hk
          have hl1 : ((cs.drop off).take n).length = n := by simp; omega
          rw [hl1] at hk
          split at hk
          · rename_i hkn
            obtain ⟨c, h6, h7⟩ := f5 k y hk
            refine ⟨c, ?_, hdn h7.undrew⟩
            rw [List.getElem?_toArray, List.append_assoc, List.getElem?_append_left (by omega)]; exact h6
          · rename_i hkn
            have hlt := (List.getElem?_eq_some_iff.1 hk).1
            obtain ⟨c, h6, h7⟩ := hr (k - n) y hk
            refine ⟨c, ?_, hdn h7⟩
            rw [List.getElem?_toArray, List.append_assoc, List.getElem?_append_right (by omega), hol, List.getElem?_append_left (by omega)]; exact h6)
        have h6 : Step L H w L (upd H i none) w := by
          refine ⟨fun _ _ h => h, rfl, rfl, rfl, Nat.le_refl _, fun _ _ _ => rfl, ?_⟩
          rintro b _ ⟨j, c, m, g1, g2, g3⟩
          unfold upd at g1
          split at g1
          · cases g1
          · exact ⟨j, c, m, g1, g2, g3⟩
        refine ⟨_, _, h3, _, _, _, h, fun j hne => updL_ne _ _ hne, h4, (h6.trans (Step.drew _ _ _)).trans h5, ?_⟩
        rw [← hl]
        exact .h _ _ _ _ _ _ (updL_same _ _ _) (by omega) (by simp) (.inr (by simp))
  · exact h.elim

theorem apop_ok (hG : GOk P Γ) {x y : Operand} {t1 t2 : TypeId} {tys : Array TypeId} (ho : o.op = .call ⟨.builtin .append, #[x, y], tys⟩) (ht1 : tys[0]? = some t1) (ht2 : tys[1]? = some t2) {k : AV → HP → Prop}
    (h : apop Γ H t1 t2 (ev x) (ev y) id k) : OpS P o ev H id k := by
  unfold apop at h
  split at h
  · rename_i e1 e2 he1 he2
    split at h
    · rename_i el hd
      split at h
      · rename_i ee hee
        obtain ⟨h1, h2, h⟩ := h
        intro L Av w ρ hs hfn hL hi hops
        have hu := hops x (by rw [ho]; simp [Op.operands, Call.operands])
        have hv := hops y (by rw [ho]; simp [Op.operands, Call.operands])
        have und1 := ((hG t1 e1 he1).slice hd).2
        obtain ⟨d2, hd2, _, und2⟩ := (hG t2 e2 he2).run_und
        rw [← hd2, ← isInt_of] at h
        have hE := hG el ee hee
        have hsz := fun w => hE.run_size w
        rw [h1] at hsz
        obtain ⟨z, hz⟩ : ∃ z, ee.zero.cells = #[z] := by
          cases hzc : ee.zero.cells with
          | mk l => rw [hzc] at h2; match l, h2 with | [z], _ => exact ⟨z, rfl⟩
        have hex : ∀ z w' , (Builtin.append_ tys o.type #[ρ x, ρ y]).run P w = .ok z w' → (execOp ρ o).run P w = .ok (.value z) w' := by
          intro z w' hz
          simp only [execOp, ho, resolve, invoke, builtin, Sem.run_bind, Sem.run_pure, Result.andThen_ok, List.map_toArray, List.map_cons, List.map_nil, hz]
        split at h
        · rename_i kk m hy
          obtain ⟨c1, c2, c3, c4, c5, c6, h⟩ := h
          have hmb : m * ee.bytes ≤ 281474976710656 := by
            have h6 : (m.toNat : Int) * (ee.bytes : Int) ≤ 140737488355328 := by
              have : m.toNat * ee.bytes ≤ (lenA (ev x) + m.toNat) * ee.bytes := Nat.mul_le_mul_right _ (by omega)
              have h7 : m.toNat * ee.bytes ≤ 140737488355328 := by omega
              rw [← Int.natCast_mul]
              generalize m.toNat * ee.bytes = q at h7
              omega
            rw [Int.toNat_of_nonneg c2] at h6
            omega
          rw [hy] at hv
          have hlen : ∀ base sLen sCap, ρ x = .slice base sLen sCap → sLen = lenA (ev x) := by
            intro base sLen sCap hρ
            unfold apst at h
            split at h
            · rename_i hxn
              rw [hxn] at hu; have := hu.nl_inv; rw [hρ] at this; cases this; rw [hxn]; rfl
            · rename_i i off n hxn
              rw [hxn] at hu; rw [hρ] at hu; cases hu; rw [hxn]; rfl
            · exact h.elim
          have hz0 : ee.zero.cells.getD 0 undef = z := by rw [hz]; rfl
          rw [hz0] at c6 h
          have hone1 : z.oneCell' = true := (one_cells (R.ofV1 L w (MM L H Av) z) c6).2
          obtain ⟨zz, w', hrun, r, H', L', q1, q2, q3, q4, q5⟩ := append_fin (P := P) (el := el) hs hL hi hu (xs := List.replicate m.toNat (ofV1 z)) (us := List.replicate m.toNat z) (by simp) (by
              intro k y hk
              simp only [List.getElem?_replicate] at hk
              split at hk
              · rename_i hlt
                cases hk
                exact ⟨z, by simp [hlt], R.ofV1 _ _ _ _⟩
              · cases hk) (by intro v hv; rw [(List.mem_replicate.1 hv).2]; exact hone1) h (Builtin.append_ tys o.type #[ρ x, ρ y])
            (by
              intro base sLen sCap w' hρ hro hst
              rw [hρ, hv.i_inv]
              simp only [List.length_replicate] at hro ⊢
              exact ap_roomz ht1 ht2 und1 und2 c1 hE h1 c2 c3 hmb hz hro hst)
            (by
              intro base sLen sCap os hρ hro hold
              have := hlen _ _ _ hρ
              rw [hρ] at hold
              rw [hρ, hv.i_inv]
              simp only [List.length_replicate] at hro ⊢
              obtain ⟨cap, rest, g1, g2, g3⟩ := ap_growz (ty := o.type) ht1 ht2 und1 und2 c1 hE h1 (k := kk) c2 c3 hmb hz hold hro (by omega) (by rw [this]; exact c4)
              refine ⟨cap, rest, g1, ?_, g3⟩
              rw [h2] at g2; omega)
          exact .of_value (hex _ _ hrun) ⟨r, H', L', q1, q2, q3, q4, q5⟩
        · obtain ⟨c1, xs, hxs, c6, c4, c5, h⟩ := h
          obtain ⟨a, n, cp, f1, f2, us, f3, f4, f5⟩ := vw_run (P := P) hs hv hxs
          have hlen : ∀ base sLen sCap, ρ x = .slice base sLen sCap → sLen = lenA (ev x) := by
            intro base sLen sCap hρ
            unfold apst at h
            split at h
            · rename_i hxn
              rw [hxn] at hu; have := hu.nl_inv; rw [hρ] at this; cases this; rw [hxn]; rfl
            · rename_i i off n hxn
              rw [hxn] at hu; rw [hρ] at hu; cases hu; rw [hxn]; rfl
            · exact h.elim
          have hone1 : ∀ v ∈ us, v.oneCell' = true := by
            intro v hv
            obtain ⟨j, hj, hjv⟩ := List.getElem_of_mem hv
            have hj' : j < xs.length := by omega
            obtain ⟨c, e9, e10⟩ := f5 j _ (List.getElem?_eq_getElem hj')
            have hcv : c = v := by
              rw [List.getElem?_eq_getElem hj, hjv] at e9
              exact (Option.some.inj e9).symm
            rw [← hcv]
            exact (one_cells e10 (c6 _ (List.getElem_mem hj'))).2
          have hlo : ∀ w, (Builtin.lenOf (ρ y)).run P w = .ok us.length w := by
            intro w; rw [f1]; simp only [Builtin.lenOf, Sem.run_pure]; rw [show us.length = n by omega]
          have hf4 : (Builtin.firstCells 1 us.length (ρ y)).run P w = .ok us.toArray w := by
            rw [show us.length = n by omega]; exact f4 _ rfl
          have hf4' : (Builtin.firstCells 1 us.length (ρ y)).run P w.drew = .ok us.toArray w.drew := by
            rw [show us.length = n by omega]; exact f4 _ rfl
          obtain ⟨zz, w', hrun, r, H', L', q1, q2, q3, q4, q5⟩ := append_fin (P := P) (el := el) hs hL hi hu (xs := xs) (us := us) f3 f5 hone1 h (Builtin.append_ tys o.type #[ρ x, ρ y])
            (by
              intro base sLen sCap w' hρ hro hst
              rw [hρ]
              exact ap_room ht1 ht2 und1 und2 c1 hsz (hlo w) hf4 hro hst)
            (by
              intro base sLen sCap os hρ hro hold
              have := hlen _ _ _ hρ
              rw [hρ] at hold
              rw [hρ]
              obtain ⟨cap, rest, g1, g2, g3⟩ := ap_grow (ty := o.type) ht1 ht2 und1 und2 c1 hE h1 (hlo w) hf4' hold hro (by omega) (by rw [this, f3]; exact c4) (.inr (by omega))
              refine ⟨cap, rest, g1, ?_, g3⟩
              rw [h2] at g2; omega)
          exact .of_value (hex _ _ hrun) ⟨r, H', L', q1, q2, q3, q4, q5⟩
      · exact h.elim
    · exact h.elim
  · exact h.elim

end
end Go.Proofs.Ytgeoogndonghmaa
