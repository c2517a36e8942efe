/-
  Own layer, part E: the rules of part D hold of the machine.
-/
import Derived.Test.YtgeoogndonghmaaAvD
import Derived.Lib.SliceRun
set_option linter.unusedVariables false
set_option linter.unusedSimpArgs false
namespace Go.Proofs.Ytgeoogndonghmaa

theorem R.i_inv {L : LM} {w : World} {M : Nat → Prop} {k : IntKind} {n : Int} {u : Value} (h : R L w M (.i k n) u) : u = .int k n := by cases h; rfl
theorem R.b_inv {L : LM} {w : World} {M : Nat → Prop} {x : Bool} {u : Value} (h : R L w M (.b x) u) : u = .bool x := by cases h; rfl
theorem R.s_inv {L : LM} {w : World} {M : Nat → Prop} {x : ByteArray} {u : Value} (h : R L w M (.s x) u) : u = .string x := by cases h; rfl
theorem R.nl_inv {L : LM} {w : World} {M : Nat → Prop} {u : Value} (h : R L w M .nl u) : u = .slice none 0 0 := by cases h; rfl

set_option maxHeartbeats 1000000 in
theorem bop_run {P : Program} {Γ : TEnv} (hG : GOk P Γ) {op : BinOp} {ty : TypeId} {x y : AV} {k : AV → Prop} (h : bop Γ op ty x y k) (xo yo : Operand) :
    ∃ r, k r ∧ ∀ (L : LM) (w : World) (M : Nat → Prop) (u v : Value), R L w M x u → R L w M y v →
      ∃ z, (do eqGuard op ty xo yo u v; binOp op ty u v : Sem Value).run P w = .ok z w ∧ R L w M r z := by
  unfold bop at h
  split at h
  · rename_i ka a kb b
    obtain ⟨rfl, h⟩ := h
    cases op <;> simp only at h <;> first
      | exact h.elim
      | (obtain ⟨h1, h2⟩ := h
         refine ⟨_, h2, fun L w M u v hu hv => ?_⟩
         rw [hu.i_inv, hv.i_inv]
         refine ⟨_, ?_, .i _ _⟩
         first
          | (simp [eqGuard, binOp, Op.intDiv, h1]; done)
          | (have h1' : ¬ b < 0 := by omega
             simp [eqGuard, binOp, Op.shift, h1']; done))
      | (refine ⟨_, h, fun L w M u v hu hv => ?_⟩
         rw [hu.i_inv, hv.i_inv]
         first
          | (refine ⟨_, ?_, .i _ _⟩; simp [eqGuard, binOp, Op.intArith, Op.intCmp]; done)
          | (refine ⟨_, ?_, .b _⟩; simp [eqGuard, binOp, Op.intArith, Op.intCmp]; done)
          | (refine ⟨_, ?_, .i _ _⟩; simp [eqGuard, binOp, Op.intBits]; done))
  · rename_i a b
    cases op <;> simp only at h <;> first
      | exact h.elim
      | (obtain ⟨h1, h2⟩ := h
         refine ⟨_, h2, fun L w M u v hu hv => ?_⟩
         rw [hu.s_inv, hv.s_inv]
         have h1' : ¬ ((a.size + b.size : Nat) : Int) > IntKind.i64.max := by
           have : IntKind.i64.max = 9223372036854775807 := rfl
           rw [this]; push_cast; omega
         (refine ⟨_, ?_, .s _⟩; simp [eqGuard, binOp, Op.stringOp]; omega))
      | (refine ⟨_, h, fun L w M u v hu hv => ?_⟩
         rw [hu.s_inv, hv.s_inv]
         (refine ⟨_, ?_, .b _⟩; simp [eqGuard, binOp, Op.stringOp]; done))
  · rename_i a b
    obtain ⟨⟨e, he, hd⟩, h⟩ := h
    obtain ⟨dd, hd1, hd2, hr⟩ := (hG ty e he).run_und
    have := td_bool (hd1.trans hd)
    subst this
    have hq : ∀ w (d : Nat), (Op.equalIn (d + 1) ty (.bool a) (.bool b)).run P w = .ok (a == b) w := by
      intro w d; simp [Op.equalIn, hr w]
    cases op <;> simp only at h <;> first
      | exact h.elim
      | (refine ⟨_, h, fun L w M u v hu hv => ?_⟩
         rw [hu.b_inv, hv.b_inv]
         (refine ⟨_, ?_, .b _⟩; simp [eqGuard, binOp, Op.equal, Op.maxDepth, hq w 9999]; done))
  · obtain ⟨⟨e, el, he, hd⟩, h⟩ := h
    have hu' := ((hG ty e he).slice hd).1
    cases op <;> simp only at h <;> first
      | exact h.elim
      | (refine ⟨_, h, fun L w M u v hu hv => ?_⟩
         rw [hu.nl_inv, hv.nl_inv]
         first
          | (refine ⟨_, ?_, .b _⟩; simp [eqGuard, Lib.run_eql_slice_nil w ty el _ _ _ _ _ hu']; done)
          | (refine ⟨_, ?_, .b _⟩; simp [eqGuard, Go.run_neq_slice_nil_any w ty el _ _ _ _ _ hu']; done))
  · obtain ⟨⟨e, el, he, hd⟩, h⟩ := h
    have hu' := ((hG ty e he).slice hd).1
    cases op <;> simp only at h <;> first
      | exact h.elim
      | (refine ⟨_, h, fun L w M u v hu hv => ?_⟩
         rw [hv.nl_inv]
         cases hu
         first
          | (refine ⟨_, ?_, .b _⟩; simp [eqGuard, Lib.run_eql_slice_nil w ty el _ _ _ _ _ hu']; done)
          | (refine ⟨_, ?_, .b _⟩; simp [eqGuard, Go.run_neq_slice_nil_any w ty el _ _ _ _ _ hu']; done))
  · obtain ⟨hne, ⟨e, el, he, hd⟩, h⟩ := h
    have hu' := ((hG ty e he).slice hd).1
    cases op <;> simp only at h <;> first
      | exact h.elim
      | (refine ⟨_, h, fun L w M u v hu hv => ?_⟩
         rw [hv.nl_inv]
         cases hu with
         | v0 => exact absurd rfl hne
         | v =>
          first
          | (refine ⟨_, ?_, .b _⟩; simp [eqGuard, Lib.run_eql_slice_nil w ty el _ _ _ _ _ hu']; done)
          | (refine ⟨_, ?_, .b _⟩; simp [eqGuard, Go.run_neq_slice_nil_any w ty el _ _ _ _ _ hu']; done))
  · exact h.elim

theorem uop_run {P : Program} {op : UnOp} {x : AV} {k : AV → Prop} (h : uop op x k) :
    ∃ r, k r ∧ ∀ (L : LM) (w : World) (M : Nat → Prop) (u : Value), R L w M x u → ∃ z, (Op.unary op u).run P w = .ok z w ∧ R L w M r z := by
  unfold uop at h
  split at h
  · refine ⟨_, h, fun L w M u hu => ?_⟩
    rw [hu.i_inv]
    (refine ⟨_, ?_, .i _ _⟩; simp [Op.unary, Op.intArith]; done)
  · refine ⟨_, h, fun L w M u hu => ?_⟩
    rw [hu.b_inv]
    (refine ⟨_, ?_, .b _⟩; simp [Op.unary]; done)
  · exact h.elim

theorem cop_run {P : Program} {Γ : TEnv} (hG : GOk P Γ) {src dst : TypeId} {x : AV} {k : AV → Prop} (h : cop Γ src dst x k) :
    ∃ r, k r ∧ ∀ (L : LM) (w : World) (M : Nat → Prop) (u : Value), R L w M x u → ∃ z, (convert src dst u).run P w = .ok z w ∧ R L w M r z := by
  unfold cop at h
  split at h
  · rename_i ka n es ed hs hd
    split at h
    · rename_i kd he
      refine ⟨_, h, fun L w M u hu => ?_⟩
      rw [hu.i_inv]
      obtain ⟨d1, _, _, h1⟩ := (hG src es hs).run_und
      obtain ⟨d2, h21, _, h2⟩ := (hG dst ed hd).run_und
      have := td_int (h21.trans he)
      subst this
      refine ⟨_, ?_, .i _ _⟩
      unfold convert
      simp only [Sem.run_bind, h1 w, h2 w, Result.andThen_ok]
      simp [Conv.intToInt]
    · exact h.elim
  · exact h.elim

/-! Reading memory. -/

theorem run_loadCells {P : Program} {w : World} {b off : Nat} {us : Nat → Value} : ∀ (n i : Nat) (acc : Array Value), (∀ k, k < n → w.cell? ⟨b, off + (i + k), none⟩ = some (us (i + k))) →
    (loadCellsFrom ⟨b, off, none⟩ i n acc).run P w = .ok (acc ++ ((List.range' i n).map us).toArray) w := by
  intro n
  induction n with
  | zero => intro i acc _; simp [loadCellsFrom]
  | succ n ih =>
    intro i acc h
    have h0 := h 0 (by omega)
    have ha : (Addr.add ⟨b, off, none⟩ i) = ⟨b, off + i, none⟩ := by unfold Addr.add; split <;> simp_all
    simp only [Nat.add_zero] at h0
    have ih' := ih (i + 1) (acc.push (us i)) (fun k hk => by have := h (k + 1) (by omega); rwa [show i + 1 + k = i + (k + 1) by omega])
    simp only [loadCellsFrom, Sem.run_bind, run_load, ha, h0, Result.andThen_ok]
    rw [ih']
    simp [List.range'_succ]

theorem cell_of {w : World} {b o : Nat} {arr : Array Value} {e : TypeId} {f : Nat × Nat} {u : Value} (h : w.heap[b]? = some (.cells arr e f)) (hu : arr[o]? = some u) : w.cell? ⟨b, o, none⟩ = some u := by
  simp [World.cell?, h, hu]

/-- Cells of a block, read as a value of a type. -/
theorem rdc_run {P : Program} {e : TE} {ty : TypeId} (hT : TOk P ty e) {o : Nat} {cs : List AV} {k : AV → Prop} (h : rdc e o cs k) :
    ∃ r, k r ∧ ∀ (L : LM) (w : World) (M : Nat → Prop) (b off : Nat) (arr : Array Value) (et : TypeId) (f : Nat × Nat), w.heap[b]? = some (.cells arr et f) →
      (∀ (j : Nat) (x : AV), cs[j]? = some x → ∃ u, arr[off + j]? = some u ∧ R L w M x u) → ∃ z, (Instr.loadAt ty (.pointer (some ⟨b, off + o, none⟩))).run P w = .ok z w ∧ R L w M r z := by
  unfold rdc at h
  split at h
  · rename_i ha
    obtain ⟨h1, h2⟩ := h
    refine ⟨_, h2, fun L w M b off arr et f hb hc => ?_⟩
    let us : Nat → Value := fun j => arr.getD (off + o + j) undef
    have hcell : ∀ j, j < e.size → w.cell? ⟨b, off + o + (0 + j), none⟩ = some (us (0 + j)) := by
      intro j hj
      have hlt : o + j < cs.length := by omega
      obtain ⟨u, h3, h4⟩ := hc (o + j) cs[o + j] (List.getElem?_eq_getElem hlt)
      have h5 : arr[off + o + j]? = some u := by rw [show off + o + j = off + (o + j) by omega]; exact h3
      rw [Nat.zero_add]
      exact cell_of hb (by rw [h5]; simp [us, h5])
    refine ⟨.agg ((List.range' 0 e.size).map us).toArray, ?_, ?_⟩
    · have h3 := hT.run_agg w
      have h4 := hT.run_size w
      rw [ha] at h3
      have h5 := run_loadCells (P := P) (w := w) (b := b) (off := off + o) (us := us) e.size 0 #[] hcell
      simp only [Instr.loadAt, Instr.sureAddr, Sem.run_bind, Sem.run_pure, Result.andThen_ok, loadVar, h3, if_true, h4, loadCells, h5]
      simp
    · refine .g _ _ (by simp; omega) ?_
      intro j x hj
      simp only [List.getElem?_take, List.getElem?_drop] at hj
      split at hj
      · rename_i hlt
        obtain ⟨u, h6, h7⟩ := hc (o + j) x hj
        have h8 : arr[off + o + j]? = some u := by rw [show off + o + j = off + (o + j) by omega]; exact h6
        have : (((List.range' 0 e.size).map us).toArray).getD j undef = u := by
          simp [hlt, us, h8]
        rw [this]; exact h7
      · cases hj
  · rename_i ha
    obtain ⟨h1, h2⟩ := h
    refine ⟨_, h2, fun L w M b off arr et f hb hc => ?_⟩
    have hg : cs[o]? = some (cs.getD o .j) := by simp [List.getElem?_eq_getElem h1]
    obtain ⟨u, h3, h4⟩ := hc o _ hg
    refine ⟨u, ?_, h4⟩
    have h5 := hT.run_agg w
    have h6 : e.agg = false := by simpa using ha
    rw [h6] at h5
    simp only [Instr.loadAt, Instr.sureAddr, Sem.run_bind, Sem.run_pure, Result.andThen_ok, loadVar, h5, Bool.false_eq_true, if_false, run_load, cell_of hb h3]

theorem R.p_inv {L : LM} {w : World} {M : Nat → Prop} {o : Nat} {cs : List AV} {u : Value} (h : R L w M (.p o cs) u) :
    ∃ b off arr e f, u = .pointer (some ⟨b, off + o, none⟩) ∧ ¬ M b ∧ w.heap[b]? = some (.cells arr e f) ∧ (∀ (j : Nat) (x : AV), cs[j]? = some x → ∃ u, arr[off + j]? = some u ∧ R L w M x u) := by
  cases h with
  | p _ _ b off arr e f us hM hb hu hr =>
    exact ⟨b, off, arr, e, f, rfl, hM, hb, fun j x hj => ⟨us j, hu j (List.getElem?_eq_some_iff.1 hj).1, hr j x hj⟩⟩

theorem R.q_inv {L : LM} {w : World} {M : Nat → Prop} {id o : Nat} {u : Value} (h : R L w M (.q id o) u) : ∃ l, L id = some l ∧ u = .pointer (some ⟨l.blk, l.off + o, none⟩) := by
  cases h with | q _ _ l hl => exact ⟨l, hl, rfl⟩

theorem lop_ok {P : Program} {Γ : TEnv} (hG : GOk P Γ) {o : Oper} {ev : Operand → AV} {H : HP} {id : Nat} {ty : TypeId} {x : Operand} (ho : o.op = .load ty x) {k : AV → Prop} (h : lop Γ H ty (ev x) k) :
    ∃ r, k r ∧ QOk P o ev H id r none := by
  unfold lop at h
  split at h
  · rename_i e oo cs he hx
    obtain ⟨r, hk, hr⟩ := rdc_run (hG ty e he) h
    refine ⟨r, hk, QOk.pure fun H' hH L Av w ρ hs hops => ?_⟩
    have hu := hops x (by simp [ho, Op.operands])
    rw [hx] at hu
    obtain ⟨b, off, arr, et, f, h1, _, h2, h3⟩ := hu.p_inv
    obtain ⟨z, h4, h5⟩ := hr L w (MM L H' Av) b off arr et f h2 h3
    exact ⟨z, by simp [execOp, ho, h1, h4], h5⟩
  · rename_i e id' oo he hx
    obtain ⟨cs, hcs, h⟩ := h
    obtain ⟨r, hk, hr⟩ := rdc_run (hG ty e he) h
    refine ⟨r, hk, QOk.pure fun H' hH L Av w ρ hs hops => ?_⟩
    have hu := hops x (by simp [ho, Op.operands])
    rw [hx] at hu
    obtain ⟨l, hl, h1⟩ := hu.q_inv
    obtain ⟨l', hl', ⟨arr, et, h2, _, _, h3⟩⟩ := hs.node id' cs (hH _ _ hcs)
    rw [hl] at hl'; cases hl'
    obtain ⟨z, h4, h5⟩ := hr L w (MM L H' Av) l.blk l.off arr et _ h2 h3
    exact ⟨z, by simp [execOp, ho, h1, h4], h5⟩
  · exact h.elim

theorem addr_add (b off n : Nat) : Addr.add ⟨b, off, none⟩ n = ⟨b, off + n, none⟩ := by unfold Addr.add; split <;> simp_all

/-- A pointer, some cells on. -/
def padd (x : AV) (n : Nat) (k : AV → Prop) : Prop :=
  match x with
  | .p o cs => k (.p (o + n) cs)
  | .q id o => k (.q id (o + n))
  | _ => False

theorem padd_run {x : AV} {n : Nat} {k : AV → Prop} (h : padd x n k) : ∃ r, k r ∧ ∀ (L : LM) (w : World) (M : Nat → Prop) (u : Value), R L w M x u →
    ∃ b off, u = .pointer (some ⟨b, off, none⟩) ∧ R L w M r (.pointer (some ⟨b, off + n, none⟩)) := by
  unfold padd at h
  split at h
  · refine ⟨_, h, fun L w M u hu => ?_⟩
    cases hu with
    | p o cs b off arr e f us hM hb hu hr =>
      exact ⟨_, _, rfl, by rw [Nat.add_assoc]; exact .p _ _ b off arr e f us hM hb hu hr⟩
  · refine ⟨_, h, fun L w M u hu => ?_⟩
    cases hu with
    | q id o l hl => exact ⟨_, _, rfl, by rw [Nat.add_assoc]; exact .q _ _ l hl⟩
  · exact h.elim

theorem fop_ok {P : Program} {Γ : TEnv} (hG : GOk P Γ) {o : Oper} {ev : Operand → AV} {H : HP} {id : Nat} {ty : TypeId} {x : Operand} {f : Nat} (ho : o.op = .fieldAddr ty x f) {k : AV → Prop}
    (h : fop Γ ty f fun off => padd (ev x) off k) : ∃ r, k r ∧ QOk P o ev H id r none := by
  unfold fop at h
  split at h
  · rename_i e he
    split at h
    · rename_i fs hd
      split at h
      · rename_i ft off' hf
        split at h
        · rename_i fe hfe
          obtain ⟨h0, h⟩ := h
          obtain ⟨r, hk, hr⟩ := padd_run h
          refine ⟨r, hk, QOk.pure fun H' hH L Av w ρ hs hops => ?_⟩
          have hu := hops x (by simp [ho, Op.operands])
          obtain ⟨b, off, h1, h2⟩ := hr _ _ _ _ hu
          obtain ⟨fs', hfs, h3⟩ := (hG ty e he).struct hd
          have h4 := (hG ft fe hfe).run_size w
          rw [← hfs, List.getElem?_map, Option.map_eq_some_iff] at hf
          obtain ⟨fd, hfd, hfe'⟩ := hf
          have hfd' : fs'[f]? = some fd := by simpa using hfd
          have e1 : fd.type = ft := congrArg Prod.fst hfe'
          have e2 : fd.offset = off' := congrArg Prod.snd hfe'
          refine ⟨_, ?_, h2⟩
          simp only [execOp, ho, Instr.fieldAt, Instr.sureAddr, h1, Sem.run_bind, h3 w, Result.andThen_ok, hfd', Sem.run_pure, fieldPlace, e1, h4]
          simp [h0, addr_add, e2]
        · exact h.elim
      · exact h.elim
    · exact h.elim
  · exact h.elim

theorem iop_ok {P : Program} {Γ : TEnv} (hG : GOk P Γ) {o : Oper} {ev : Operand → AV} {H : HP} {id : Nat} {ty : TypeId} {x ix : Operand} (ho : o.op = .indexAddr ty x ix) {k : AV → Prop}
    (h : iop Γ ty (ev x) (ev ix) k) : ∃ r, k r ∧ QOk P o ev H id r none := by
  unfold iop at h
  split at h
  · rename_i e he
    split at h
    · rename_i el hd
      split at h
      · rename_i ee hee
        split at h
        · rename_i n cs ki a hx hi
          obtain ⟨h0, h1, h⟩ := h
          refine ⟨_, h, QOk.pure fun H' hH L Av w ρ hs hops => ?_⟩
          have hu := hops x (by simp [ho, Op.operands])
          have hv := hops ix (by simp [ho, Op.operands])
          rw [hx] at hu; rw [hi] at hv
          have h3 := ((hG ty e he).slice hd).2 w
          have h4 := (hG el ee hee).run_size w
          generalize hρ : ρ x = ux at hu
          cases hu with
          | v0 => omega
          | v _ _ b off cp arr et f us hM hb hn hu hr =>
            refine ⟨_, ?_, .p _ _ b off arr et f us hM hb hu hr⟩
            simp only [execOp, ho, hv.i_inv, hρ]
            simp [Instr.indexAt, asIntOf, h3, h4, h0, h1, addr_add]
        · rename_i id' oo n ki a hx hi
          obtain ⟨h0, h1, h⟩ := h
          refine ⟨_, h, QOk.pure fun H' hH L Av w ρ hs hops => ?_⟩
          have hu := hops x (by simp [ho, Op.operands])
          have hv := hops ix (by simp [ho, Op.operands])
          rw [hx] at hu; rw [hi] at hv
          have h3 := ((hG ty e he).slice hd).2 w
          have h4 := (hG el ee hee).run_size w
          generalize hρ : ρ x = ux at hu
          cases hu with
          | h _ _ _ l ad cp hl hn hc ha =>
            have hcp : cp ≠ 0 := by omega
            have ha' := ha.resolve_left hcp
            refine ⟨_, ?_, .q _ _ l hl⟩
            simp only [execOp, ho, hv.i_inv, hρ]
            simp [Instr.indexAt, asIntOf, h3, h4, h0, h1, ha', addr_add, Nat.add_assoc]
        · exact h.elim
      · exact h.elim
    · exact h.elim
  · exact h.elim

end Go.Proofs.Ytgeoogndonghmaa
