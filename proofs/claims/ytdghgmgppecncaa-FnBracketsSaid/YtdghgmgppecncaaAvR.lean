/-
  Own layer, part R: drawn regions whose head holds an append: all that reads or lays memory comes before it; what is free to come before or behind it looks at no memory.
  Own layer, part S: a region that draws its order, some of whose operations look at no memory that may change and may run whenever they like; the others have one order only.
-/
import Derived.Test.YtdghgmgppecncaaAvP
set_option linter.unusedVariables false
set_option linter.unusedSimpArgs false
namespace Go.Proofs.Ytdghgmgppecncaa

theorem Waits.lt {ops : List Oper} (hlt : ∀ j o, ops[j]? = some o → ∀ e ∈ o.after.toList, Region.binds .any e = true → e.on < j) {i j : Nat} (h : Waits ops i j) : i < j := by
  induction h with
  | one o e ho he hb hi => rw [← hi]; exact hlt _ o ho e he hb
  | step a b iha ihb => omega

def dok2 (ops : List Oper) (m b : Nat) : Bool :=
  let cl := cls ops []
  dok ops m && decide (b < m) && (match ops[b]? with | some o => o.guard.isNone | none => true) && ops.zipIdx.all fun (o, i) => !(decide (i < m) && i != b && (hdep o.op || lays o.op)) || wt ops cl i b

theorem dok2_parts {ops : List Oper} {m b : Nat} (h : dok2 ops m b = true) : dok ops m = true ∧ b < m ∧ (∀ o, ops[b]? = some o → o.guard = none) ∧
    ∀ i o, i < m → i ≠ b → ops[i]? = some o → (hdep o.op = true ∨ lays o.op = true) → Waits ops i b := by
  unfold dok2 at h
  simp only [Bool.and_eq_true, decide_eq_true_eq, List.all_eq_true] at h
  obtain ⟨⟨⟨h1, h2⟩, h3⟩, h4⟩ := h
  refine ⟨h1, h2, ?_, ?_⟩
  · intro o ho
    rw [ho] at h3
    simpa using h3
  · intro i o hi hib ho hq
    have := h4 (o, i) (by rw [List.mem_zipIdx_iff_getElem?]; exact ho)
    have hne : (i != b) = true := by simpa using hib
    simp only [hi, hne, decide_true, Bool.true_and] at this
    refine wt_waits ?_
    rcases hq with hq | hq <;> simpa [hq] using this

section
variable {P : Program} {Γ : TEnv}

/-- What an append yields is told by the state alone. -/
theorem apst_det {H : HP} {x : AV} {xs : List AV} {id : Nat} {k : AV → HP → Prop} (h : apst H x xs id k) : ∃ r H', k r H' ∧ apst H x xs id (fun r' H'' => r' = r ∧ H'' = H') := by
  unfold apst at h ⊢
  split at h
  · by_cases hx : xs = []
    · exact ⟨_, _, h.1 hx, fun _ => ⟨rfl, rfl⟩, fun h => absurd hx h⟩
    · exact ⟨_, _, h.2 hx, fun h => absurd h hx, fun _ => ⟨rfl, rfl⟩⟩
  · obtain ⟨cs, h1, h2, h3⟩ := h
    exact ⟨_, _, h3, cs, h1, h2, rfl, rfl⟩
  · exact h.elim
theorem apop_det {H : HP} {t1 t2 : TypeId} {x y : AV} {id : Nat} {k : AV → HP → Prop} (h : apop Γ H t1 t2 x y id k) : ∃ r H', k r H' ∧ apop Γ H t1 t2 x y id (fun r' H'' => r' = r ∧ H'' = H') := by
  unfold apop at h ⊢
  split at h
  · rename_i e1 e2 he1 he2
    split at h
    · rename_i el hd
      split at h
      · rename_i ee hee
        obtain ⟨h1, h2, h⟩ := h
        split at h
        · obtain ⟨g1, g2, g3, g4, g5, g6, g7⟩ := h
          obtain ⟨r, H', k1, k2⟩ := apst_det g7
          exact ⟨r, H', k1, h1, h2, g1, g2, g3, g4, g5, g6, k2⟩
        · obtain ⟨g1, xs, g2, g3, g4, g5, g6⟩ := h
          obtain ⟨r, H', k1, k2⟩ := apst_det g6
          refine ⟨r, H', k1, h1, h2, ?_⟩
          first
            | exact ⟨g1, xs, g2, g3, g4, g5, k2⟩
            | (split
               · rename_i hno _ _ ; exact absurd rfl (hno _ _)
               · exact ⟨g1, xs, g2, g3, g4, g5, k2⟩)
      · exact h.elim
    · exact h.elim
  · exact h.elim

def apH (Γ : TEnv) (op : Op) (t : List AV) (H : HP) (id : Nat) (k : AV → HP → Prop) : Prop :=
  match op with
  | .call ⟨.builtin .append, args, tys⟩ => match args.toList, tys.toList with
    | [x, y], [t1, t2] => apop Γ H t1 t2 (evo t x) (evo t y) id k
    | _, _ => False
  | _ => False
theorem apH_ok (hG : GOk P Γ) {o : Oper} {t : List AV} {H : HP} {id : Nat} {k : AV → HP → Prop} (h : apH Γ o.op t H id k) : ∃ r H', k r H' ∧ OpS P o (evo t) H id (fun r' H'' => r' = r ∧ H'' = H') := by
  unfold apH at h
  split at h
  · rename_i args tys ho
    split at h
    · rename_i x y t1 t2 ha ht
      have ha' : args = #[x, y] := by apply Array.ext'; simpa using ha
      subst ha'
      obtain ⟨r, H', h1, h2⟩ := apop_det h
      exact ⟨r, H', h1, apop_ok hG ho (by rw [← Array.getElem?_toList, ht]; rfl) (by rw [← Array.getElem?_toList, ht]; rfl) h2⟩
    · exact h.elim
  · exact h.elim

/-- A head's state behind some of its operations, one of which is a barrier. -/
structure Part2 (ops : List Oper) (base m b : Nat) (s : St) (HE : HP) (res : Nat → AV) (dd : Nat → Option (List AV)) (listed : Array Bool) (s' : St) : Prop where
  len : s'.t.length = s.t.length
  done : ∀ i o u, i < m → listed.getD i true = true → ops[i]? = some o → o.dst = some u → u < s.t.length → s'.t[u]? = some (res i)
  rest : ∀ u, (∀ i o, i < m → listed.getD i true = true → ops[i]? = some o → o.dst ≠ some u) → s'.t[u]? = s.t[u]?
  nx : s'.nx = s.nx
  h0 : listed.getD b true = false → ∀ id, s'.H id = if base ≤ id ∧ id < base + m ∧ listed.getD (id - base) true = true then dd (id - base) else s.H id
  h1 : listed.getD b true = true → s'.H = HE

section
variable {nx0 : Nat} {L0 : LM} {H0 : HP} {w0 : World} {Av : Nat → Prop}

theorem head_any2 (hG : GOk P Γ) {ops : List Oper} {base m b : Nat} {HE : HP} {Q : Exit → Act → World → Prop} {s : St} {T : Nat → List AV} {HH : Nat → HP} {res : Nat → AV} {dd : Nat → Option (List AV)} (hdk : dok2 ops m b = true)
    (hT0 : T 0 = s.t) (hT : ∀ j o, j < m → ops[j]? = some o → T (j + 1) = putA (T j) o.dst (res j)) (hH0 : HH 0 = s.H) (hH : ∀ j, j < b → HH (j + 1) = updo (HH j) (base + j) (dd j)) (hfree : ∀ j, j < m → s.H (base + j) = none)
    (hop : ∀ j o, j < m → j ≠ b → ops[j]? = some o → (wan ops o.guard (T j) = some true ∧ (j < b → QOk P o (evo (T j)) (HH j) (base + j) (res j) (dd j)) ∧ (hdep o.op = false → ∀ H', QOk P o (evo (T j)) H' (base + j) (res j) (dd j)) ∧ (lays o.op = false → dd j = none)) ∨
        (wan ops o.guard (T j) = some false ∧ res j = .c undef ∧ dd j = none))
    (hopb : ∀ o, ops[b]? = some o → OpS P o (evo (T b)) (HH b) (base + b) fun r H' => r = res b ∧ H' = HE) (hddb : dd b = none)
    (htail : ∀ (fuel : Nat) (listed : Array Bool) (L : LM) (a : Act) (w : World), ops.length ≤ fuel + m → listed.size = ops.length → (∀ i, i < ops.length → listed.getD i true = decide (i < m)) → Shut ops listed →
      Cn nx0 L0 H0 w0 Av ⟨T m, HE, s.nx⟩ L a w → (∀ i, m ≤ i → i < ops.length → L (base + i) = none) → wpAny P .any ops.toArray Q fuel listed a w) (hnx : base + ops.length ≤ s.nx) (hb0 : nx0 ≤ base) :
    ∀ (fuel : Nat) (listed : Array Bool) (s' : St) (L : LM) (a : Act) (w : World), unl ops.length listed ≤ fuel → listed.size = ops.length → Shut ops listed → (∀ i, m ≤ i → i < ops.length → listed.getD i true = false) → Part2 ops base m b s HE res dd listed s' →
      Cn nx0 L0 H0 w0 Av s' L a w → (∀ i, i < ops.length → listed.getD i true = false → L (base + i) = none) → wpAny P .any ops.toArray Q fuel listed a w := by
  obtain ⟨hdk1, hbm, hbg, hbw⟩ := dok2_parts hdk
  obtain ⟨d1, d2, d3, d4⟩ := dok_parts hdk1
  have wlt : ∀ i j, Waits ops i j → i < j := fun i j h => h.lt d2
  have hdst : ∀ j o, j < m → ops[j]? = some o → ∃ d, o.dst = some d ∧ ∀ i o', i < m → i ≠ j → ops[i]? = some o' → o'.dst ≠ some d := fun j o hj ho => (d3 j o hj ho).1
  have tch := T_char d1 hT0 hT hdst
  have hch := HH_char (m := b) hH0 hH (fun j hj => hfree j (by omega))
  have ddn : ∀ k, k < m → (∀ o, ops[k]? = some o → k ≠ b → lays o.op = false) → dd k = none := by
    intro k hk hl
    by_cases hkb : k = b
    · rw [hkb]; exact hddb
    · have hkl : k < ops.length := by omega
      rcases hop k _ hk hkb (List.getElem?_eq_getElem hkl) with ⟨_, _, _, h9⟩ | ⟨_, _, h9⟩
      · exact h9 (hl _ (List.getElem?_eq_getElem hkl) hkb)
      · exact h9
  -- all of the head has run
  have fin : ∀ (fuel : Nat) (listed : Array Bool) (s' : St) (L : LM) (a : Act) (w : World), unl ops.length listed ≤ fuel → listed.size = ops.length → Shut ops listed → (∀ i, m ≤ i → i < ops.length → listed.getD i true = false) → Part2 ops base m b s HE res dd listed s' →
      Cn nx0 L0 H0 w0 Av s' L a w → (∀ i, i < ops.length → listed.getD i true = false → L (base + i) = none) → (∀ i, i < m → listed.getD i true = true) → wpAny P .any ops.toArray Q fuel listed a w := by
    intro fuel listed s' L a w hf hsz hs htl hp c hfr hdone
    obtain ⟨t1, t2, t3⟩ := tch m (Nat.le_refl _)
    have e1 : s'.t = T m := by
      apply List.ext_getElem?
      intro u
      by_cases hu : u < s.t.length
      · by_cases hex : ∃ i o, i < m ∧ ops[i]? = some o ∧ o.dst = some u
        · obtain ⟨i, o, hi, ho, hou⟩ := hex
          rw [hp.done i o u hi (hdone i hi) ho hou hu, t2 i o u hi ho hou hu]
        · rw [hp.rest u (fun i o hi _ ho hou => hex ⟨i, o, hi, ho, hou⟩), t3 u (fun i o hi ho hou => hex ⟨i, o, hi, ho, hou⟩)]
      · rw [List.getElem?_eq_none (by have := hp.len; omega), List.getElem?_eq_none (by omega)]
    have e2 : s'.H = HE := hp.h1 (hdone b hbm)
    have e3 : s' = ⟨T m, HE, s.nx⟩ := by
      have := hp.nx
      cases s'; simp only at e1 e2 this; rw [e1, e2, this]
    have hge := unl_ge ops.length htl
    refine htail fuel listed L a w (by omega) hsz ?_ hs (e3 ▸ c) (fun i h1 h2 => hfr i h2 (htl i h1 h2))
    intro i hi
    by_cases him : i < m
    · rw [hdone i him]; simp [him]
    · rw [htl i (by omega) hi]; simp [him]
  intro fuel
  induction fuel with
  | zero =>
    intro listed s' L a w hf hsz hs htl hp c hfr
    refine fin 0 listed s' L a w hf hsz hs htl hp c hfr ?_
    intro i hi
    cases hc : listed.getD i true with
    | true => rfl
    | false =>
      have : 0 < unl ops.length listed := by
        unfold unl
        exact List.length_pos_of_mem (List.mem_filter.2 ⟨List.mem_range.2 (show i < ops.length by omega), by rw [hc]; rfl⟩)
      omega
  | succ fuel ih =>
    intro listed s' L a w hf hsz hs htl hp c hfr
    by_cases hdone : ∀ i, i < m → listed.getD i true = true
    · exact fin _ listed s' L a w hf hsz hs htl hp c hfr hdone
    · -- the first that has not run
      have hex : ∃ i, i < m ∧ listed.getD i true = false := by
        apply Classical.byContradiction
        intro hno
        apply hdone
        intro i hi
        cases hc : listed.getD i true with
        | true => rfl
        | false => exact absurd ⟨i, hi, hc⟩ hno
      obtain ⟨i0, hi0, hu0, hmin⟩ : ∃ i, i < m ∧ listed.getD i true = false ∧ ∀ k, k < i → listed.getD k true = true := by
        obtain ⟨i, hi, hu⟩ := hex
        induction i using Nat.strongRecOn with
        | _ i ihh =>
          by_cases hk : ∃ k, k < i ∧ listed.getD k true = false
          · obtain ⟨k, hk1, hk2⟩ := hk
            exact ihh k hk1 (by omega) hk2
          · refine ⟨i, hi, hu, ?_⟩
            intro k hk1
            cases hc : listed.getD k true with
            | true => rfl
            | false => exact absurd ⟨k, hk1, hc⟩ hk
      have hrd := first_ready d2 (show i0 < ops.length by omega) hsz hmin hu0
      refine ⟨(fun h0 => by rw [h0] at hrd; cases hrd), ?_⟩
      intro j hj
      obtain ⟨hjl, hju, _⟩ := ready_iff.1 hj
      have hjm : j < m := by
        apply Classical.byContradiction
        intro hjm
        have := ready_waits hs hj (d4 j ops[j] (by omega) (List.getElem?_eq_getElem hjl) i0 (by omega))
        rw [this] at hu0; cases hu0
      have ho : ops[j]? = some ops[j] := List.getElem?_eq_getElem hjl
      obtain ⟨⟨d, hd1, hd2⟩, hlk, hhd⟩ := d3 j ops[j] hjm ho
      -- what it looks at is as in the text's order
      have hsame : ∀ u ∈ looks ops ops[j], s'.t[u]? = (T j)[u]? := by
        intro u hu
        obtain ⟨t1, t2, t3⟩ := tch j (by omega)
        by_cases hul : u < s.t.length
        · by_cases hex : ∃ i o, i < m ∧ i ≠ j ∧ ops[i]? = some o ∧ o.dst = some u
          · obtain ⟨i, o, hi, hij, hoi, hou⟩ := hex
            have hw := hlk u hu i o hi hij hoi hou
            by_cases hlt : i < j
            · rw [if_pos hlt] at hw
              rw [hp.done i o u hi (ready_waits hs hj hw) hoi hou hul, t2 i o u hlt hoi hou hul]
            · rw [if_neg hlt] at hw
              obtain ⟨d', hd1', hd2'⟩ := hdst i o hi hoi
              rw [hou] at hd1'; cases hd1'
              have hiu : listed.getD i true = false := by
                cases hc : listed.getD i true with
                | false => rfl
                | true => have := hs _ _ hw hc; rw [this] at hju; cases hju
              have q1 : s'.t[u]? = s.t[u]? := by
                refine hp.rest u (fun k o' hk hkl hko hku => ?_)
                by_cases hki : k = i
                · subst hki; rw [hiu] at hkl; cases hkl
                · exact hd2' k o' hk hki hko hku
              have q2 : (T j)[u]? = s.t[u]? := t3 u (fun k o' hk hko hku => hd2' k o' (by omega) (by omega) hko hku)
              rw [q1, q2]
          · have q1 : s'.t[u]? = s.t[u]? := by
              refine hp.rest u (fun k o' hk hkl hko hku => ?_)
              by_cases hkj : k = j
              · subst hkj; rw [hju] at hkl; cases hkl
              · exact hex ⟨k, o', hk, hkj, hko, hku⟩
            have q2 : (T j)[u]? = s.t[u]? := t3 u (fun k o' hk hko hku => hex ⟨k, o', by omega, by omega, hko, hku⟩)
            rw [q1, q2]
        · rw [List.getElem?_eq_none (by have := hp.len; omega), List.getElem?_eq_none (by omega)]
      have hev : ∀ x ∈ ops[j].op.operands, evo (T j) x = evo s'.t x := by
        refine ev_same (fun u hu => (hsame u ?_).symm)
        unfold looks
        refine List.mem_append_left _ (List.mem_filterMap.2 ⟨.tmp u, by simpa using hu, rfl⟩)
      have hwan : wan ops ops[j].guard s'.t = wan ops ops[j].guard (T j) := by
        unfold wan
        cases hg : ops[j].guard with
        | none => rfl
        | some gw =>
          obtain ⟨g, want⟩ := gw
          simp only
          cases hb : (ops[g]?).bind (·.dst) with
          | none => rfl
          | some dg =>
            simp only
            rw [hsame dg]
            unfold looks
            rw [hg]
            simp only
            exact List.mem_append_right _ (by rw [hb]; simp)
      -- the state behind it
      have hnext : ∀ (H'' : HP) (L' : LM) (u : Value) (w' : World), ((listed.setIfInBounds j true).getD b true = false → ∀ id, H'' id = if base ≤ id ∧ id < base + m ∧ (listed.setIfInBounds j true).getD (id - base) true = true then dd (id - base) else s.H id) → ((listed.setIfInBounds j true).getD b true = true → H'' = HE) →
          Cn nx0 L0 H0 w0 Av ⟨putA s'.t ops[j].dst (res j), H'', s'.nx⟩ L' (a.put ops[j].dst u) w' → (∀ i, i ≠ base + j → L' i = L i) → wpAny P .any ops.toArray Q fuel (listed.setIfInBounds j true) (a.put ops[j].dst u) w' := by
        intro H'' L' u w' g0 g1 hc hL
        refine ih _ _ L' _ w' (by have := unl_set hju hjl; omega) (by simpa using hsz) (hs.set hj) (fun i h1 h2 => by rw [get_set hju, if_neg (by omega)]; exact htl i h1 h2) ?_ hc ?_
        · rw [hd1]
          simp only [putA]
          refine ⟨by simpa using hp.len, ?_, ?_, hp.nx, g0, g1⟩
          · intro i o u' hi hil hoi hou hul
            rw [get_set hju] at hil
            simp only [List.getElem?_set]
            by_cases hij : i = j
            · subst hij
              rw [ho] at hoi; cases hoi
              rw [hd1] at hou; cases hou
              have := hp.len
              simp [this, hul]
            · rw [if_neg hij] at hil
              have hne : d ≠ u' := by rintro rfl; exact hd2 i o hi hij hoi hou
              rw [if_neg hne]
              exact hp.done i o u' hi hil hoi hou hul
          · intro u' hu'
            have hne : d ≠ u' := by
              rintro rfl
              exact hu' j ops[j] hjm (by rw [get_set hju, if_pos rfl]) ho hd1
            simp only [List.getElem?_set]
            rw [if_neg hne]
            refine hp.rest u' (fun i o hi hil hoi => hu' i o hi ?_ hoi)
            rw [get_set hju]; split
            · rfl
            · exact hil
        · intro i hi hil
          rw [get_set hju] at hil
          by_cases hij : i = j
          · rw [if_pos hij] at hil; cases hil
          · rw [if_neg hij] at hil
            rw [hL _ (by omega)]
            exact hfr i hi hil
      have hnx' := hp.nx
      have hLj := hfr j hjl hju
      have hHj : s'.H (base + j) = none := by
        cases hh : s'.H (base + j) with
        | none => rfl
        | some cs => obtain ⟨l, h1, _⟩ := c.sr.node _ cs hh; rw [hLj] at h1; cases h1
      have fin2 : ∀ (H'' : HP) (L' : LM) (u : Value) (w' : World), (∀ i, i ≠ base + j → L' i = L i) → SR L' H'' Av w' → Step L s'.H w L' H'' w' → R L' w' (MM L' H'' Av) (res j) u → Cn nx0 L0 H0 w0 Av ⟨putA s'.t ops[j].dst (res j), H'', s'.nx⟩ L' (a.put ops[j].dst u) w' := by
        intro H'' L' u w' h2 h3 h4 h5
        obtain ⟨p1, p2, p3⟩ := put_fits (a := a) c.sz (fun k y hk => (c.sl k y hk).step h4) ops[j].dst h5
        refine ⟨p1.trans c.df, p2, p3, h3, ?_, c.nx, ?_, c.st.trans h4⟩
        · intro i hi'; simp only at hi'; rw [h2 i (by omega)]; exact c.fr i hi'
        · intro i hi'; rw [h2 i (by omega)]; exact c.lo i hi'
      by_cases hjb : j = b
      · -- the barrier itself
        subst hjb
        have hsH : s'.H = HH j := by
          funext id
          rw [hp.h0 hju id, hch j (Nat.le_refl _) id]
          by_cases hc1 : base ≤ id ∧ id < base + j
          · rw [if_pos hc1]
            by_cases hc2 : listed.getD (id - base) true = true
            · rw [if_pos ⟨hc1.1, by omega, hc2⟩]
            · rw [if_neg (fun h => hc2 h.2.2)]
              rw [ddn (id - base) (by omega) ?_]
              · have := hfree (id - base) (by omega)
                rwa [show base + (id - base) = id by omega] at this
              · intro o hoo hne
                cases hly : lays o.op with
                | false => rfl
                | true => exact absurd (ready_waits hs hj (hbw (id - base) o (by omega) hne hoo (.inr hly))) hc2
          · rw [if_neg hc1]
            by_cases hc2 : base ≤ id ∧ id < base + m ∧ listed.getD (id - base) true = true
            · rw [if_pos hc2]
              rw [ddn (id - base) (by omega) ?_]
              · have := hfree (id - base) (by omega)
                rw [show base + (id - base) = id by omega] at this
                exact this.symm
              · intro o hoo hne
                cases hly : lays o.op with
                | false => rfl
                | true => have := wlt _ _ (hbw (id - base) o (by omega) hne hoo (.inr hly)); omega
            · rw [if_neg hc2]
        unfold wpOp
        simp only [List.getElem?_toArray, ho]
        have hgn := hbg ops[j] ho
        rw [if_pos (by simp [Region.wanted, hgn])]
        left
        have hos := ((hopb ops[j] ho).ev hev)
        rw [← hsH] at hos
        refine (hos L Av w a.eval c.sr ⟨_, c.fr⟩ hLj hHj (fun x _ => c.ev x)).wp ?_
        rintro u w' ⟨r, H', L', ⟨rfl, rfl⟩, h2, h3, h4, h5⟩
        exact hnext H' L' u w' (fun hf => by rw [get_set hju, if_pos rfl] at hf; cases hf) (fun _ => rfl) (fin2 H' L' u w' h2 h3 h4 h5) h2
      -- the others
      have hbset : (listed.setIfInBounds j true).getD b true = listed.getD b true := by rw [get_set hju, if_neg (fun e => hjb e.symm)]
      have hfree2 : listed.getD b true = true → hdep ops[j].op = false ∧ lays ops[j].op = false := by
        intro hbl
        refine ⟨?_, ?_⟩
        · cases hq : hdep ops[j].op with
          | false => rfl
          | true => have := hs _ _ (hbw j _ hjm hjb ho (.inl hq)) hbl; rw [this] at hju; cases hju
        · cases hq : lays ops[j].op with
          | false => rfl
          | true => have := hs _ _ (hbw j _ hjm hjb ho (.inr hq)) hbl; rw [this] at hju; cases hju
      have hafter : (listed.getD b true = true → dd j = none) → ((listed.setIfInBounds j true).getD b true = false → ∀ id, updo s'.H (base + j) (dd j) id = if base ≤ id ∧ id < base + m ∧ (listed.setIfInBounds j true).getD (id - base) true = true then dd (id - base) else s.H id) ∧ ((listed.setIfInBounds j true).getD b true = true → updo s'.H (base + j) (dd j) = HE) := by
        intro hdn
        rw [hbset]
        refine ⟨fun hbl id => ?_, fun hbl => ?_⟩
        · have hheap := hp.h0 hbl
          have hidx : (base ≤ id ∧ id < base + m ∧ (listed.setIfInBounds j true).getD (id - base) true = true) ↔ (id = base + j ∨ (base ≤ id ∧ id < base + m ∧ listed.getD (id - base) true = true)) := by
            rw [get_set hju]
            constructor
            · rintro ⟨h1, h2, h3⟩
              split at h3
              · exact .inl (by omega)
              · exact .inr ⟨h1, h2, h3⟩
            · rintro (h1 | ⟨h1, h2, h3⟩)
              · exact ⟨by omega, by omega, by rw [if_pos (by omega)]⟩
              · refine ⟨h1, h2, ?_⟩
                split
                · rfl
                · exact h3
          by_cases hid : id = base + j
          · rw [if_pos (hidx.2 (.inl hid))]
            subst hid
            rw [show base + j - base = j by omega]
            cases hdd : dd j with
            | none => simp only [updo]; exact hHj
            | some cs => simp [updo]
          · have hu : updo s'.H (base + j) (dd j) id = s'.H id := by
              cases dd j with
              | none => rfl
              | some cs => exact upd_ne _ _ hid
            rw [hu, hheap id]
            by_cases hc2 : base ≤ id ∧ id < base + m ∧ listed.getD (id - base) true = true
            · rw [if_pos hc2, if_pos (hidx.2 (.inr hc2))]
            · rw [if_neg hc2, if_neg (fun h => (hidx.1 h).elim hid hc2)]
        · rw [hdn hbl]; exact hp.h1 hbl
      unfold wpOp
      simp only [List.getElem?_toArray, ho]
      rcases hop j ops[j] hjm hjb ho with ⟨hw, hq, hq2, hq3⟩ | ⟨hw, hr, hdn⟩
      · rw [← hwan] at hw
        rcases gop_wanted c (wan_gop hw) ops[j] rfl with ⟨hwt, _⟩ | ⟨_, hf'⟩
        · rw [if_pos hwt]
          left
          have hos : OpS P ops[j] (evo s'.t) s'.H (base + j) fun r' H'' => r' = res j ∧ H'' = updo s'.H (base + j) (dd j) := by
            cases hdp : hdep ops[j].op with
            | false => exact ((hq2 hdp noH) s'.H (fun i c hc => by cases hc)).ev hev
            | true =>
              have hjltb : j < b := wlt _ _ (hbw j _ hjm hjb ho (.inl hdp))
              have hbl : listed.getD b true = false := by
                cases hq : listed.getD b true with
                | false => rfl
                | true => have := (hfree2 hq).1; rw [this] at hdp; cases hdp
              refine ((hq hjltb) s'.H ?_).ev hev
              intro id cs hid
              rw [hch j (by omega) id] at hid
              rw [hp.h0 hbl id]
              by_cases hc2 : base ≤ id ∧ id < base + j
              · rw [if_pos hc2] at hid
                have hki : id - base < ops.length := by omega
                have hok : ops[id - base]? = some ops[id - base] := List.getElem?_eq_getElem hki
                have hlk' : lays ops[id - base].op = true := by
                  cases hly : lays ops[id - base].op with
                  | true => rfl
                  | false =>
                    rw [ddn (id - base) (by omega) (fun o hoo _ => by rw [hok] at hoo; cases hoo; exact hly)] at hid
                    cases hid
                have hwt2 := ready_waits hs hj (hhd hdp (id - base) _ (by omega) hok hlk')
                rw [if_pos ⟨hc2.1, by omega, hwt2⟩]; exact hid
              · rw [if_neg hc2] at hid
                rw [if_neg]
                · exact hid
                · rintro ⟨h1, h2, _⟩
                  have := hfree (id - base) (by omega)
                  rw [show base + (id - base) = id by omega, hid] at this; cases this
          refine (hos L Av w a.eval c.sr ⟨_, c.fr⟩ hLj hHj (fun x _ => c.ev x)).wp ?_
          rintro u w' ⟨r, H', L', ⟨rfl, rfl⟩, h2, h3, h4, h5⟩
          obtain ⟨q1, q2⟩ := hafter (fun hbl => hq3 (hfree2 hbl).2)
          exact hnext _ L' u w' q1 q2 (fin2 _ L' u w' h2 h3 h4 h5) h2
        · cases hf'
      · rw [← hwan] at hw
        rcases gop_wanted c (wan_gop hw) ops[j] rfl with ⟨_, hf'⟩ | ⟨hwt, _⟩
        · cases hf'
        · rw [if_neg (by simp [hwt])]
          obtain ⟨q1, q2⟩ := hafter (fun _ => hdn)
          refine hnext _ L _ w q1 q2 ?_ (fun _ _ => rfl)
          rw [hr, hdn]
          obtain ⟨p1, p2, p3⟩ := put_fits (a := a) c.sz c.sl ops[j].dst (R.c undef)
          exact ⟨p1.trans c.df, p2, p3, c.sr, c.fr, c.nx, c.lo, c.st⟩


/-- The head behind the barrier: nothing of it looks at memory. -/
def hfree (ops : List Oper) (m b : Nat) : Bool := ops.zipIdx.all fun (o, i) => !(decide (b < i) && decide (i < m)) || !(hdep o.op || lays o.op)
theorem dok2_free {ops : List Oper} {m b : Nat} (h : dok2 ops m b = true) : ∀ i o, b < i → i < m → ops[i]? = some o → hdep o.op = false ∧ lays o.op = false := by
  obtain ⟨h1, h2, h3, h4⟩ := dok2_parts h
  obtain ⟨d1, d2, d3, d4⟩ := dok_parts h1
  intro i o hi him ho
  refine ⟨?_, ?_⟩
  · cases hq : hdep o.op with
    | false => rfl
    | true => have := (h4 i o him (by omega) ho (.inl hq)).lt d2; omega
  · cases hq : lays o.op with
    | false => rfl
    | true => have := (h4 i o him (by omega) ho (.inr hq)).lt d2; omega

/-- The tail of a head, behind its barrier. -/
theorem hrun_free (hG : GOk P Γ) {ops : List Oper} {base m b : Nat} (hd : dok2 ops m b = true) {k : List AV → HP → Prop} : ∀ (rest : List Oper) (i : Nat) (t : List AV) (H : HP), b < i → rest = (ops.take m).drop i → i ≤ m → hrun Γ P ops base rest i t H k →
    ∃ (T : Nat → List AV) (res : Nat → AV) (dd : Nat → Option (List AV)), T i = t ∧ k (T (min m ops.length)) H ∧
      (∀ j o, i ≤ j → j < m → ops[j]? = some o → T (j + 1) = putA (T j) o.dst (res j)) ∧
      (∀ j o, i ≤ j → j < m → ops[j]? = some o → (wan ops o.guard (T j) = some true ∧ (hdep o.op = false → ∀ H', QOk P o (evo (T j)) H' (base + j) (res j) (dd j)) ∧ dd j = none) ∨
        (wan ops o.guard (T j) = some false ∧ res j = .c undef ∧ dd j = none)) := by
  intro rest i t H hbi hr hi h
  obtain ⟨T, HH, res, dd, h1, h2, h3, h4, h5, h6⟩ := hrun_head hG rest i t H hr hi h
  have hdn : ∀ j, i ≤ j → j < m → j < ops.length → dd j = none := by
    intro j h7 h8 h9
    have ho : ops[j]? = some ops[j] := List.getElem?_eq_getElem h9
    rcases h6 j _ h7 h8 ho with ⟨_, _, _, g⟩ | ⟨_, _, g⟩
    · exact g (dok2_free hd j _ (by omega) h8 ho).2
    · exact g
  have hHH : ∀ j, i ≤ j → j ≤ m → j ≤ ops.length → HH j = H := by
    intro j
    induction j with
    | zero => intro h7 _ _; rw [show 0 = i by omega]; exact h2
    | succ j ih =>
      intro h7 h8 h9
      by_cases e : j + 1 = i
      · rw [e]; exact h2
      · rw [h5 j (by omega) (by omega) (by omega), hdn j (by omega) (by omega) (by omega)]
        exact ih (by omega) (by omega) (by omega)
  refine ⟨T, res, dd, h1, ?_, h4, ?_⟩
  · by_cases hm : i ≤ min m ops.length
    · rw [hHH _ hm (by omega) (by omega)] at h3; exact h3
    · have : rest = [] := by
        rw [hr]; exact List.drop_eq_nil_of_le (by simp; omega)
      subst this
      have e := (dok_parts (dok2_parts hd).1).1
      have : min m ops.length = m := by omega
      omega
  · intro j o h7 h8 h9
    have hlt := (List.getElem?_eq_some_iff.1 h9).1
    rcases h6 j o h7 h8 h9 with ⟨g1, _, g3, _⟩ | ⟨g1, g2, g3⟩
    · exact .inl ⟨g1, g3, hdn j h7 h8 hlt⟩
    · exact .inr ⟨g1, g2, g3⟩

/-- THE RULE: as AW.draw, with an append (the b-th operation) in the head. -/
theorem AW.draw2 (hG : GOk P Γ) (hmx : P.follows .mixedOrders = true) {n : Nat} {ops : Array Oper} {s : St} {K : Exit → St → Prop} (m b : Nat) (hd : dok2 ops.toList m b = true) (dst : Option Nat) (op : Op) (hb : (ops.toList[b]?).map (fun o => (o.dst, o.op)) = some (dst, op))
    (h : hrun Γ P ops.toList s.nx (ops.toList.take b) 0 s.t s.H fun t H => apH Γ op t H (s.nx + b) fun r H' => hrun Γ P ops.toList s.nx ((ops.toList.take m).drop (b + 1)) (b + 1) (putA t dst r) H' fun t H => arun Γ P ops.toList s.nx (ops.toList.drop m) m ⟨t, H, s.nx + ops.toList.length⟩ (K .normal)) : AW P (.region n ops true) s K := by
  intro nx0 L0 H0 w0 Av L a w Q hc hQ
  obtain ⟨hdk1, hbm, hbg, hbw⟩ := dok2_parts hd
  obtain ⟨d1, d2, d3, d4⟩ := dok_parts hdk1
  refine wp_region_any hmx ?_
  obtain ⟨T1, HH, res1, dd1, h1, h2, h3, h4, h5, h6⟩ := hrun_head (m := b) hG _ 0 s.t s.H (by simp) (by omega) h
  rw [show min b ops.toList.length = b by omega] at h3
  obtain ⟨o, hbo, hbe⟩ := Option.map_eq_some_iff.1 hb
  obtain ⟨rfl, rfl⟩ := Prod.mk.inj hbe
  obtain ⟨rb, HE, h7, h8⟩ := apH_ok (P := P) hG h3
  obtain ⟨T2, res2, dd2, g1, g2, g3, g4⟩ := hrun_free hG hd _ (b + 1) _ _ (by omega) rfl (by omega) h7
  rw [show min m ops.toList.length = m by omega] at g2
  have hHn : ∀ j, s.H (s.nx + j) = none := by
    intro j
    cases hh : s.H (s.nx + j) with
    | none => rfl
    | some cs => obtain ⟨l, q1, _⟩ := hc.sr.node _ cs hh; rw [hc.fr _ (by omega)] at q1; cases q1
  have hdr : Cn nx0 L0 H0 w0 Av ⟨s.t, s.H, s.nx + ops.toList.length⟩ L a { w with drawn := w.drawn + 1 } :=
    ⟨hc.df, hc.sz, fun k x hk => (hc.sl k x hk).drew, hc.sr.drew, fun i hi => hc.fr i (by simp only at hi; omega), by have := hc.nx; simp only; omega, hc.lo, hc.st.trans (Step.drew _ _ _)⟩
  have := head_any2 (Q := Q) (s := ⟨s.t, s.H, s.nx + ops.toList.length⟩) (base := s.nx) (b := b) (HE := HE) (T := fun j => if j ≤ b then T1 j else T2 j) (HH := HH) (res := fun j => if j < b then res1 j else if j = b then rb else res2 j) (dd := fun j => if j < b then dd1 j else if j = b then none else dd2 j) hG hd (by simpa using h1)
    (fun j o' hj ho' => by
      by_cases c1 : j < b
      · simp only [show j + 1 ≤ b by omega, show j ≤ b by omega, c1, if_true]
        exact h4 j o' (by omega) c1 ho'
      · by_cases c2 : j = b
        · subst c2
          rw [hbo] at ho'; cases ho'
          simp only [show ¬ j + 1 ≤ j by omega, Nat.le_refl, Nat.lt_irrefl, if_true, if_false]
          exact g1
        · simp only [show ¬ j + 1 ≤ b by omega, show ¬ j ≤ b by omega, c1, c2, if_false]
          exact g3 j o' (by omega) hj ho')
    h2 (fun j hj => by simp only [hj, if_true]; exact h5 j (by omega) hj (by omega)) (fun j hj => hHn j)
    (fun j o' hj hjb ho' => by
      by_cases c1 : j < b
      · simp only [show j ≤ b by omega, c1, if_true]
        rcases h6 j o' (by omega) c1 ho' with ⟨q1, q2, q3, q4⟩ | q
        · exact .inl ⟨q1, fun _ => q2, q3, q4⟩
        · exact .inr q
      · simp only [show ¬ j ≤ b by omega, c1, hjb, if_false]
        rcases g4 j o' (by omega) hj ho' with ⟨q1, q2, q3⟩ | q
        · exact .inl ⟨q1, fun hlt => by first | exact hlt.elim | omega, q2, fun _ => q3⟩
        · exact .inr q)
    (fun o' ho' => by
      rw [hbo] at ho'; cases ho'
      simp only [Nat.le_refl, Nat.lt_irrefl, if_true, if_false]
      exact h8) (by simp)
    (fun fuel listed L' a' w' q1 q2 q3 q4 q5 q6 => tail_any (m := m) (hi := s.nx + ops.toList.length) (base := s.nx) hG d2 d4 (Nat.le_refl _) (fun s' L' a' w' hk hc' => hQ _ _ _ _ _ hk hc') fuel m listed _ L' a' w' (Nat.le_refl _) d1 q1 q2 q3 q4 g2
      ⟨by simpa [show ¬ m ≤ b by omega] using q5, fun i h1 h2 => by have := q6 (i - s.nx) (by omega) (by omega); rwa [show s.nx + (i - s.nx) = i by omega] at this, by simp only; omega, by have := hc.nx; omega⟩) (by simp only; omega) hc.nx
    ops.size (Array.replicate ops.size false) ⟨s.t, s.H, s.nx + ops.toList.length⟩ L a { w with drawn := w.drawn + 1 } (by
      unfold unl
      exact Nat.le_trans (List.length_filter_le _ _) (by simp)) (by simp) (by
      intro i j hw hj
      have := hw.len
      simp only [Array.length_toList] at this
      simp [Array.getD_eq_getD_getElem?, this] at hj) (by
      intro i _ hi
      simp only [Array.length_toList] at hi
      simp [Array.getD_eq_getD_getElem?, hi]) ⟨rfl, by
        intro i o u hi hl ho
        have := (List.getElem?_eq_some_iff.1 ho).1
        simp only [Array.length_toList] at this
        simp [Array.getD_eq_getD_getElem?, this] at hl, fun u _ => rfl, rfl, by
        intro _ id
        rw [if_neg]
        rintro ⟨g1, g2, g3⟩
        have : id - s.nx < ops.size := by simp only [Array.length_toList] at d1; omega
        simp [Array.getD_eq_getD_getElem?, this] at g3, by
        intro hbl
        have : b < ops.size := by simp only [Array.length_toList] at d1; omega
        simp [Array.getD_eq_getD_getElem?, this] at hbl⟩ hdr (fun i hi _ => hc.fr _ (by omega))
  simpa using this

theorem AW.drawL2 (hG : GOk P Γ) (hmx : P.follows .mixedOrders = true) {n : Nat} {ops : List Oper} {s : St} {K : Exit → St → Prop} (m b : Nat) (hd : dok2 ops m b = true) (dst : Option Nat) (op : Op) (hb : (ops[b]?).map (fun o => (o.dst, o.op)) = some (dst, op))
    (h : hrun Γ P ops s.nx (ops.take b) 0 s.t s.H fun t H => apH Γ op t H (s.nx + b) fun r H' => hrun Γ P ops s.nx ((ops.take m).drop (b + 1)) (b + 1) (putA t dst r) H' fun t H => arun Γ P ops s.nx (ops.drop m) m ⟨t, H, s.nx + ops.length⟩ (K .normal)) : AW P (.region n ops.toArray true) s K :=
  AW.draw2 hG hmx m b hd dst op hb h
theorem apH_a {x y : Operand} {t1 t2 : TypeId} {t : List AV} {H : HP} {id : Nat} {k : AV → HP → Prop} : apH Γ (.call ⟨.builtin .append, [x, y].toArray, [t1, t2].toArray⟩) t H id k = apop Γ H t1 t2 (evo t x) (evo t y) id k := rfl
@[congr] theorem apH_cg {op : Op} {t t' : List AV} {H H' : HP} {id : Nat} {k : AV → HP → Prop} (h : t = t') (h2 : H = H') : apH Γ op t H id k = apH Γ op t' H' id k := by rw [h, h2]
attribute [go_sem ↓] apH_a

end
end
end Go.Proofs.Ytdghgmgppecncaa

set_option linter.unusedVariables false
set_option linter.unusedSimpArgs false
namespace Go.Proofs.Ytdghgmgppecncaa

section
variable {P : Program} {Γ : TEnv}

/-- The tmps that an operation looks at. -/
def opT (o : Oper) : List Nat := o.op.operands.toList.filterMap fun | .tmp t => some t | _ => none
def dokF (ops : List Oper) (m : List Bool) : Bool :=
  let cl := cls ops []
  (ops.zipIdx.all fun (o, j) => o.after.toList.all fun e => !Region.binds .any e || e.on < j) &&
  (ops.all fun o => o.guard.isNone) &&
  (ops.zipIdx.all fun (o, j) =>
    if m.getD j false = true then
      !lays o.op &&
      (match o.dst with | some d => ops.zipIdx.all fun (o', i) => i == j || !(o'.dst == some d) | none => false) &&
      ((opT o).all fun u => ops.zipIdx.all fun (o', i) => !(o'.dst == some u) || (if m.getD i false = true then decide (i < j) && wt ops cl i j else wt ops cl j i))
    else
      ((List.range j).all fun i => m.getD i false || wt ops cl i j) &&
      ((opT o).all fun u => ops.zipIdx.all fun (o', i) => !(m.getD i false && o'.dst == some u) || wt ops cl i j))

structure DokF (ops : List Oper) (m : List Bool) : Prop where
  lt : ∀ j o, ops[j]? = some o → ∀ e ∈ o.after.toList, Region.binds .any e = true → e.on < j
  g : ∀ (j : Nat) (o : Oper), ops[j]? = some o → o.guard = none
  fl : ∀ j o, ops[j]? = some o → m.getD j false = true → lays o.op = false ∧ (∃ d, o.dst = some d ∧ ∀ i o', ops[i]? = some o' → i ≠ j → o'.dst ≠ some d) ∧
    ∀ u, u ∈ opT o → ∀ i o', ops[i]? = some o' → o'.dst = some u → (m.getD i false = true ∧ i < j ∧ Waits ops i j) ∨ (m.getD i false = false ∧ Waits ops j i)
  sp : ∀ j o, ops[j]? = some o → m.getD j false = false → (∀ i, i < j → m.getD i false = false → Waits ops i j) ∧
    ∀ u, u ∈ opT o → ∀ i o', ops[i]? = some o' → m.getD i false = true → o'.dst = some u → Waits ops i j

theorem zip_all {ops : List Oper} {f : Oper × Nat → Bool} (h : ops.zipIdx.all f = true) {j : Nat} {o : Oper} (ho : ops[j]? = some o) : f (o, j) = true :=
  List.all_eq_true.1 h (o, j) (List.mem_iff_getElem?.2 ⟨j, by rw [List.getElem?_zipIdx, ho]; simp⟩)

theorem dokF_parts {ops : List Oper} {m : List Bool} (h : dokF ops m = true) : DokF ops m := by
  unfold dokF at h
  simp only [Bool.and_eq_true] at h
  obtain ⟨⟨h1, h2⟩, h3⟩ := h
  refine ⟨?_, ?_, ?_, ?_⟩
  · intro j o ho e he hb
    have := List.all_eq_true.1 (zip_all h1 ho) e he
    simpa [hb] using this
  · intro j o ho
    have := List.all_eq_true.1 h2 o (List.mem_of_getElem? ho)
    simpa using this
  · intro j o ho hm
    have h4 := zip_all h3 ho
    simp only [hm, if_true, Bool.and_eq_true] at h4
    obtain ⟨⟨h5, h6⟩, h7⟩ := h4
    refine ⟨by simpa using h5, ?_, ?_⟩
    · cases hd : o.dst with
      | none => rw [hd] at h6; cases h6
      | some d =>
        rw [hd] at h6
        refine ⟨d, rfl, fun i o' hi hij he => ?_⟩
        have := zip_all h6 hi
        simp [hij, he] at this
    · intro u hu i o' hi he
      have h8 := zip_all (List.all_eq_true.1 h7 u hu) hi
      simp only [he, beq_self_eq_true, Bool.not_true, Bool.false_or] at h8
      split at h8
      · rename_i hmi
        simp only [Bool.and_eq_true, decide_eq_true_eq] at h8
        exact .inl ⟨hmi, h8.1, wt_waits h8.2⟩
      · rename_i hmi
        exact .inr ⟨by simpa using hmi, wt_waits h8⟩
  · intro j o ho hm
    have h4 := zip_all h3 ho
    simp only [hm, Bool.false_eq_true, if_false, Bool.and_eq_true] at h4
    obtain ⟨h5, h6⟩ := h4
    refine ⟨?_, ?_⟩
    · intro i hij hmi
      have := List.all_eq_true.1 h5 i (List.mem_range.2 hij)
      simp only [hmi, Bool.false_or] at this
      exact wt_waits this
    · intro u hu i o' hi hmi he
      have h8 := zip_all (List.all_eq_true.1 h6 u hu) hi
      simp only [hmi, he, beq_self_eq_true, Bool.and_self, Bool.not_true, Bool.false_or] at h8
      exact wt_waits h8

/-- The free ones, over no memory of one's own. -/
def hrunF (Γ : TEnv) (P : Program) (base : Nat) : List Bool → List Oper → Nat → List AV → (List AV → Prop) → Prop
  | true :: m, o :: rest, i, t, k => qop Γ P o.op t noH (base + i) fun r _ => hrunF Γ P base m rest (i + 1) (putA t o.dst r) k
  | false :: m, _ :: rest, i, t, k => hrunF Γ P base m rest (i + 1) t k
  | [], _, _, t, k => k t
  | _ :: _, [], _, t, k => k t
/-- The others. -/
def arunF (Γ : TEnv) (P : Program) (base : Nat) : List Bool → List Oper → Nat → St → (St → Prop) → Prop
  | true :: m, _ :: rest, i, s, K => arunF Γ P base m rest (i + 1) s K
  | false :: m, o :: rest, i, s, K => aop Γ P o.dst o.op (base + i) s fun s' => arunF Γ P base m rest (i + 1) s' K
  | [], o :: rest, i, s, K => aop Γ P o.dst o.op (base + i) s fun s' => arunF Γ P base [] rest (i + 1) s' K
  | _, [], _, s, K => K s

theorem arunF_nil {base i : Nat} {m : List Bool} {s : St} {K : St → Prop} (h : arunF Γ P base m [] i s K) : K s := by
  cases m with
  | nil => simpa [arunF] using h
  | cons b m => cases b <;> simpa [arunF] using h
theorem arunF_fl {base i : Nat} {m : List Bool} {o : Oper} {rest : List Oper} {s : St} {K : St → Prop} (hm : m.getD 0 false = true) (h : arunF Γ P base m (o :: rest) i s K) : arunF Γ P base (m.drop 1) rest (i + 1) s K := by
  cases m with
  | nil => simp at hm
  | cons b m =>
    simp at hm; subst hm
    simpa [arunF] using h
theorem arunF_sp {base i : Nat} {m : List Bool} {o : Oper} {rest : List Oper} {s : St} {K : St → Prop} (hm : m.getD 0 false = false) (h : arunF Γ P base m (o :: rest) i s K) : aop Γ P o.dst o.op (base + i) s fun s' => arunF Γ P base (m.drop 1) rest (i + 1) s' K := by
  cases m with
  | nil => simpa [arunF] using h
  | cons b m =>
    simp at hm; subst hm
    simpa [arunF] using h

theorem hrunF_head (hG : GOk P Γ) {ops : List Oper} {base : Nat} {m : List Bool} {k : List AV → Prop} : ∀ (rest : List Oper) (mr : List Bool) (i : Nat) (t : List AV), rest = ops.drop i → mr = m.drop i → hrunF Γ P base mr rest i t k →
    ∃ (T : Nat → List AV) (res : Nat → AV), T i = t ∧ k (T ops.length) ∧ (∀ j o, i ≤ j → ops[j]? = some o → m.getD j false = true → T (j + 1) = putA (T j) o.dst (res j) ∧ ∃ d, QOk P o (evo (T j)) noH (base + j) (res j) d ∧ (lays o.op = false → d = none)) ∧
      (∀ j, i ≤ j → j < ops.length → m.getD j false = false → T (j + 1) = T j) := by
  intro rest
  induction rest with
  | nil =>
    intro mr i t hr hm h
    have hlen : ops.length ≤ i := by
      have := congrArg List.length hr
      simp at this; omega
    refine ⟨fun _ => t, fun _ => .j, rfl, ?_, ?_, fun j h1 h2 => by omega⟩
    · cases mr with
      | nil => simpa [hrunF] using h
      | cons b mr => cases b <;> simpa [hrunF] using h
    · intro j o h1 h2
      have := (List.getElem?_eq_some_iff.1 h2).1; omega
  | cons o rest ih =>
    intro mr i t hr hm h
    have hi : i < ops.length := by
      apply Classical.byContradiction
      intro hn
      rw [List.drop_eq_nil_of_le (by omega)] at hr; cases hr
    rw [List.drop_eq_getElem_cons hi] at hr
    obtain ⟨ho, hr'⟩ := List.cons.inj hr
    have hoi : ops[i]? = some o := by rw [List.getElem?_eq_getElem hi, ho]
    by_cases hmi : m.getD i false = true
    · have hil : i < m.length := by
        apply Classical.byContradiction
        intro hn
        rw [List.getD_eq_getElem?_getD, List.getElem?_eq_none (by omega)] at hmi; simp at hmi
      rw [List.drop_eq_getElem_cons hil] at hm
      have hb : m[i] = true := by simpa [hil] using hmi
      rw [hb] at hm
      subst hm
      simp only [hrunF] at h
      obtain ⟨r, d, h1, h2, h3⟩ := qop_ok' hG h
      obtain ⟨T, res, g1, g2, g3, g4⟩ := ih _ (i + 1) _ hr' rfl h1
      refine ⟨fun j => if j = i then t else T j, fun j => if j = i then r else res j, by simp, by simp only; rw [if_neg (by omega)]; exact g2, ?_, ?_⟩
      · intro j o' hj ho' hmj
        by_cases e : j = i
        · subst e
          rw [hoi] at ho'; cases ho'
          simp only [if_true]
          rw [if_neg (by omega)]
          exact ⟨g1, d, h2, h3⟩
        · simp only [e, if_false]
          rw [if_neg (by omega)]
          exact g3 j o' (by omega) ho' hmj
      · intro j hj hjl hmj
        by_cases e : j = i
        · subst e; rw [hmi] at hmj; cases hmj
        · simp only [e, if_false]
          rw [if_neg (by omega)]
          exact g4 j (by omega) hjl hmj
    · have hmf : m.getD i false = false := by simpa using hmi
      have h' : ∃ mr', mr' = m.drop (i + 1) ∧ hrunF Γ P base mr' rest (i + 1) t k := by
        by_cases hil : i < m.length
        · rw [List.drop_eq_getElem_cons hil] at hm
          have hb : m[i] = false := by simpa [hil] using hmf
          rw [hb] at hm
          subst hm
          simp only [hrunF] at h
          exact ⟨_, rfl, h⟩
        · rw [List.drop_eq_nil_of_le (by omega)] at hm
          subst hm
          simp only [hrunF] at h
          refine ⟨[], by rw [List.drop_eq_nil_of_le (by omega)], ?_⟩
          cases rest <;> simpa [hrunF] using h
      obtain ⟨mr', e1, h'⟩ := h'
      obtain ⟨T, res, g1, g2, g3, g4⟩ := ih mr' (i + 1) t hr' e1 h'
      refine ⟨fun j => if j = i then t else T j, res, by simp, by simp only; rw [if_neg (by omega)]; exact g2, ?_, ?_⟩
      · intro j o' hj ho' hmj
        by_cases e : j = i
        · subst e; rw [hmf] at hmj; cases hmj
        · simp only [e, if_false]
          rw [if_neg (by omega)]
          exact g3 j o' (by omega) ho' hmj
      · intro j hj hjl hmj
        by_cases e : j = i
        · subst e
          simp only [if_true]
          rw [if_neg (by omega)]
          exact g1
        · simp only [e, if_false]
          rw [if_neg (by omega)]
          exact g4 j (by omega) hjl hmj

section
variable {nx0 : Nat} {L0 : LM} {H0 : HP} {w0 : World} {Av : Nat → Prop}

/-- One operation over slots that are told otherwise elsewhere. -/
theorem aop_soundM (hG : GOk P Γ) {o : Oper} {s : St} {t' : List AV} {L : LM} {a : Act} {w : World} {id : Nat} {K' : St → Prop} (h : aop Γ P o.dst o.op id s K') (he : ∀ x ∈ o.op.operands, evo s.t x = evo t' x) (c : Cn nx0 L0 H0 w0 Av ⟨t', s.H, s.nx⟩ L a w) (hid : L id = none) (hlo : id < s.nx) (hn0 : nx0 ≤ id)
    {K : Act → World → Prop} {Q : Exit → Act → World → Prop}
    (hK : ∀ r H' nx' L' a' w', K' ⟨putA s.t o.dst r, H', nx'⟩ → s.nx ≤ nx' → (∀ i, i ≠ id → i < s.nx → L' i = L i) → Cn nx0 L0 H0 w0 Av ⟨putA t' o.dst r, H', nx'⟩ L' a' w' → K a' w') : o.wp P a w K Q := by
  have hH : s.H id = none := by
    cases hh : s.H id with
    | none => rfl
    | some cs => obtain ⟨l, h1, _⟩ := c.sr.node id cs hh; rw [hid] at h1; cases h1
  have oops : ∀ {k : AV → HP → Prop}, OpS P o (evo s.t) s.H id k → (∀ r H', k r H' → K' ⟨putA s.t o.dst r, H', s.nx⟩) → o.wp P a w K Q := by
    intro k hk hkk
    have hk' := hk.ev he
    refine (hk' L Av w a.eval c.sr ⟨_, c.fr⟩ hid hH (fun x _ => c.ev x)).wp ?_
    rintro u w' ⟨r, H', L', h1, h2, h3, h4, h5⟩
    obtain ⟨q1, q2, q3⟩ := put_fits (a := a) c.sz (fun k y hk => (c.sl k y hk).step h4) o.dst h5
    refine hK r H' s.nx L' _ w' (hkk r H' h1) (Nat.le_refl _) (fun i hi _ => h2 i hi) ⟨q1.trans c.df, q2, q3, h3, ?_, c.nx, ?_, c.st.trans h4⟩
    · intro i hi; rw [h2 i (by simp only at hi; omega)]; exact c.fr i hi
    · intro i hi; rw [h2 i (by omega)]; exact c.lo i hi
  have callgo : ∀ (f : FuncId) (xs : List AV) (us : Array Value), AC P f s.nx s.H xs (fun nx' H' r => K' ⟨putA s.t o.dst r, H', nx'⟩) → ArgsR L w (MM L s.H Av) xs us → (execOp a.eval o).run P w = .ok (.enter f us) w → o.wp P a w K Q := by
    rintro f xs us ⟨hen, hrun⟩ ha h1
    have h2 := hrun L Av w _ c.sr c.fr ha
    have h3 : QV P o a.eval w fun u w' => ∃ r L' nx' H', K' ⟨putA s.t o.dst r, H', nx'⟩ ∧ s.nx ≤ nx' ∧ (∀ i, nx' ≤ i → L' i = none) ∧ (∀ i, i < s.nx → L' i = L i) ∧ SR L' H' Av w' ∧ Step L s.H w L' H' w' ∧ R L' w' (MM L' H' Av) r u := by
      unfold QV
      rw [h1]
      exact h2.mono fun e w' ⟨u, r, L', nx', H', g1, g2, g3, g4, g5, g6, g7, g8⟩ => ⟨u, g1, r, L', nx', H', g2, g3, g4, g5, g6, g7, g8⟩
    refine h3.wp ?_
    rintro u w' ⟨r, L', nx', H', g1, g2, g3, g4, g5, g6, g7⟩
    obtain ⟨q1, q2, q3⟩ := put_fits (a := a) c.sz (fun k y hk => (c.sl k y hk).step g6) o.dst g7
    have h6 := c.nx
    refine hK r H' nx' L' _ w' g1 g2 (fun i _ hi => g4 i hi) ⟨q1.trans c.df, q2, q3, g5, g3, by simp only at h6 ⊢; omega, ?_, c.st.trans g6⟩
    intro i hi; simp only at h6; rw [g4 i (by omega)]; exact c.lo i hi
  unfold aop at h
  split at h
  · rename_i op ty x y ty2 ho
    exact oops (nilop_ok hG ho h) (by rintro r H' ⟨hk, rfl⟩; exact hk)
  · rename_i ty x y ho
    exact oops (stop_ok hG ho h) (fun r H' hk => hk)
  · rename_i args tys ho
    split at h
    · rename_i x y t1 t2 ha ht
      have ha' : args = #[x, y] := by apply Array.ext'; simpa using ha
      subst ha'
      exact oops (apop_ok hG ho (by rw [← Array.getElem?_toList, ht]; rfl) (by rw [← Array.getElem?_toList, ht]; rfl) h) (fun r H' hk => hk)
    · exact h.elim
  · rename_i f args tys ho
    have h1 := run_enter h.1 ho (show a.eval (.func f) = .func (.func f) #[] #[] from rfl) w
    have hmap : args.toList.map (evo s.t) = args.toList.map (evo t') := List.map_congr_left fun x hx => he x (by rw [ho]; simp only [Op.operands, Call.operands, Array.mem_append]; right; simpa using hx)
    rw [hmap] at h
    exact callgo f _ _ h (args_of ho (fun x _ => c.ev x)) h1
  · rename_i n args tys ho
    have hmap : args.toList.map (evo s.t) = args.toList.map (evo t') := List.map_congr_left fun x hx => he x (by rw [ho]; simp only [Op.operands, Call.operands, Array.mem_append]; right; simpa using hx)
    have hn : evo s.t (.tmp n) = evo t' (.tmp n) := he _ (by rw [ho]; simp [Op.operands, Call.operands])
    rw [hmap, hn] at h
    unfold fnV at h
    split at h
    · rename_i f cs hv
      have hx := c.ev (.tmp n)
      rw [hv] at hx
      obtain ⟨us, hf, hus⟩ := hx.f_inv
      have h1 := run_enterV h.1 ho hf w
      exact callgo f _ _ h ((args_ofV ho (fun x _ => c.ev x)).append hus) h1
    · exact h.elim
  · obtain ⟨r, d, h1, h2⟩ := qop_ok hG h
    exact oops (h2 s.H (fun _ _ h => h)) (by rintro r' H' ⟨rfl, rfl⟩; exact h1)

theorem op_step {o : Oper} {t' : List AV} {H : HP} {nx : Nat} {L : LM} {a : Act} {w : World} {id : Nat} {k : AV → HP → Prop} (h : OpS P o (evo t') H id k) (c : Cn nx0 L0 H0 w0 Av ⟨t', H, nx⟩ L a w) (hid : L id = none) (hlo : id < nx) (hn0 : nx0 ≤ id)
    {K : Act → World → Prop} {Q : Exit → Act → World → Prop}
    (hK : ∀ r H' L' a' w', k r H' → (∀ i, i ≠ id → L' i = L i) → Cn nx0 L0 H0 w0 Av ⟨putA t' o.dst r, H', nx⟩ L' a' w' → K a' w') : o.wp P a w K Q := by
  have hH : H id = none := by
    cases hh : H id with
    | none => rfl
    | some cs => obtain ⟨l, h1, _⟩ := c.sr.node id cs hh; rw [hid] at h1; cases h1
  refine (h L Av w a.eval c.sr ⟨_, c.fr⟩ hid hH (fun x _ => c.ev x)).wp ?_
  rintro u w' ⟨r, H', L', h1, h2, h3, h4, h5⟩
  obtain ⟨q1, q2, q3⟩ := put_fits (a := a) c.sz (fun k y hk => (c.sl k y hk).step h4) o.dst h5
  refine hK r H' L' _ w' h1 h2 ⟨q1.trans c.df, q2, q3, h3, ?_, c.nx, ?_, c.st.trans h4⟩
  · intro i hi; rw [h2 i (by simp only at hi; omega)]; exact c.fr i hi
  · intro i hi; rw [h2 i (by omega)]; exact c.lo i hi

theorem putA_len {t : List AV} {d : Option Nat} {x : AV} : (putA t d x).length = t.length := by
  cases d <;> simp [putA]
theorem putA_ne {t : List AV} {d : Option Nat} {x : AV} {u : Nat} (h : d ≠ some u) : (putA t d x)[u]? = t[u]? := by
  cases d with
  | none => rfl
  | some d => simp only [putA]; exact List.getElem?_set_ne (fun e => h (by rw [e]))
theorem putA_eq {t t' : List AV} {d : Option Nat} {x : AV} {u : Nat} (h : t.length = t'.length) (he : d = some u ∨ t[u]? = t'[u]?) : (putA t d x)[u]? = (putA t' d x)[u]? := by
  by_cases e : d = some u
  · subst e
    simp only [putA]
    rw [List.getElem?_set, List.getElem?_set, if_pos rfl, if_pos rfl, h]
  · rw [putA_ne e, putA_ne e]
    exact he.resolve_left e

theorem arunF_skip {ops : List Oper} {m : List Bool} {base : Nat} {s : St} {K : St → Prop} : ∀ (d q : Nat), q + d ≤ ops.length → (∀ i, q ≤ i → i < q + d → m.getD i false = true) → arunF Γ P base (m.drop q) (ops.drop q) q s K → arunF Γ P base (m.drop (q + d)) (ops.drop (q + d)) (q + d) s K := by
  intro d
  induction d with
  | zero => intro q _ _ h; exact h
  | succ d ih =>
    intro q hq hm h
    have hql : q < ops.length := by omega
    rw [List.drop_eq_getElem_cons hql] at h
    have h1 := arunF_fl (by have := hm q (Nat.le_refl _) (by omega); simpa [List.getD_eq_getElem?_getD, List.getElem?_drop] using this) h
    rw [List.drop_drop] at h1
    have := ih (q + 1) (by omega) (fun i h1 h2 => hm i (by omega) (by omega)) h1
    rwa [show q + 1 + d = q + (d + 1) by omega] at this

theorem ready_ex {ops : List Oper} {listed : Array Bool} (hlt : ∀ j o, ops[j]? = some o → ∀ e ∈ o.after.toList, Region.binds .any e = true → e.on < j) (hsz : listed.size = ops.length) : ∀ i, i < ops.length → listed.getD i true = false → Region.ready .any ops.toArray listed ≠ [] := by
  intro i
  induction i using Nat.strongRecOn with
  | _ i ih =>
    intro hi hn
    by_cases hall : ∀ j, j < i → listed.getD j true = true
    · intro he
      have := first_ready hlt hi hsz hall hn
      rw [he] at this; cases this
    · obtain ⟨j, hj⟩ := Classical.not_forall.1 hall
      obtain ⟨h1, h2⟩ := Classical.not_imp.1 hj
      exact ih j h1 (by omega) (by simpa using h2)

theorem T_len {ops : List Oper} {m : List Bool} {T : Nat → List AV} {res : Nat → AV} (hT : ∀ (j : Nat) (o : Oper), ops[j]? = some o → m.getD j false = true → T (j + 1) = putA (T j) o.dst (res j)) (hS : ∀ j, j < ops.length → m.getD j false = false → T (j + 1) = T j) : ∀ j, j ≤ ops.length → (T j).length = (T 0).length := by
  intro j
  induction j with
  | zero => intro _; rfl
  | succ j ih =>
    intro hj
    have hjl : j < ops.length := by omega
    cases hm : m.getD j false with
    | true => rw [hT j _ (List.getElem?_eq_getElem hjl) hm, putA_len]; exact ih (by omega)
    | false => rw [hS j hjl hm]; exact ih (by omega)

theorem T_keep {ops : List Oper} {m : List Bool} {T : Nat → List AV} {res : Nat → AV} (hT : ∀ (j : Nat) (o : Oper), ops[j]? = some o → m.getD j false = true → T (j + 1) = putA (T j) o.dst (res j)) (hS : ∀ j, j < ops.length → m.getD j false = false → T (j + 1) = T j) : ∀ (u i d : Nat), i + d ≤ ops.length → (∀ g o, i ≤ g → g < i + d → ops[g]? = some o → m.getD g false = true → o.dst ≠ some u) → (T (i + d))[u]? = (T i)[u]? := by
  intro u i d
  induction d with
  | zero => intro _ _; rfl
  | succ d ih =>
    intro hl hk
    have h1 := ih (by omega) (fun g o a b => hk g o a (by omega))
    have hjl : i + d < ops.length := by omega
    have ho := List.getElem?_eq_getElem hjl
    rw [← Nat.add_assoc]
    cases hm : m.getD (i + d) false with
    | true => rw [hT _ _ ho hm, putA_ne (hk _ _ (by omega) (by omega) ho hm)]; exact h1
    | false => rw [hS _ hjl hm]; exact h1

theorem flt_any (hG : GOk P Γ) {ops : List Oper} {m : List Bool} (hd : DokF ops m) {base : Nat} {T : Nat → List AV} {res : Nat → AV} {Q : Exit → Act → World → Prop} {K' : St → Prop}
    (hT : ∀ j o, ops[j]? = some o → m.getD j false = true → T (j + 1) = putA (T j) o.dst (res j) ∧ ∃ d, QOk P o (evo (T j)) noH (base + j) (res j) d ∧ (lays o.op = false → d = none))
    (hS : ∀ j, j < ops.length → m.getD j false = false → T (j + 1) = T j) (hn0 : nx0 ≤ base)
    (hQ : ∀ s' L' a' w', K' s' → Cn nx0 L0 H0 w0 Av s' L' a' w' → Q .normal a' w') :
    ∀ (fuel q : Nat) (listed : Array Bool) (s : St) (t' : List AV) (L : LM) (a : Act) (w : World), unl ops.length listed ≤ fuel → listed.size = ops.length → Shut ops listed → q ≤ ops.length →
      (∀ i, i < q → m.getD i false = false → listed.getD i true = true) → (∀ i, q ≤ i → i < ops.length → m.getD i false = false → listed.getD i true = false) →
      arunF Γ P base (m.drop q) (ops.drop q) q s K' →
      (∀ u, (∀ (j : Nat) (o : Oper), ops[j]? = some o → m.getD j false = false → listed.getD j true = true → o.dst ≠ some u) → s.t[u]? = (T ops.length)[u]?) → s.t.length = (T ops.length).length → t'.length = s.t.length →
      (∀ u, (∀ (j : Nat) (o : Oper), ops[j]? = some o → m.getD j false = true → listed.getD j true = false → o.dst ≠ some u) → t'[u]? = s.t[u]?) →
      Cn nx0 L0 H0 w0 Av ⟨t', s.H, s.nx⟩ L a w → (∀ i, i < ops.length → listed.getD i true = false → L (base + i) = none) → base + ops.length ≤ s.nx →
      wpAny P .any ops.toArray Q fuel listed a w := by
  have hT' := fun j o ho hm => (hT j o ho hm).1
  have Tlen := T_len hT' hS
  have Tkeep := T_keep hT' hS
  have evT : ∀ {o : Oper} {t1 t2 : List AV}, (∀ u ∈ opT o, t1[u]? = t2[u]?) → ∀ x ∈ o.op.operands, evo t1 x = evo t2 x := by
    intro o t1 t2 h x hx
    cases x with
    | tmp u =>
      have := h u (by unfold opT; exact List.mem_filterMap.2 ⟨.tmp u, by simpa using hx, rfl⟩)
      simp only [evo, List.getD_eq_getElem?_getD, this]
    | _ => simp [evo]
  intro fuel
  induction fuel with
  | zero =>
    intro q listed s t' L a w hf hsz hs hq hq1 hq2 h ha hl1 hl2 hmk hc hfr hnx
    have hall : ∀ i, i < ops.length → listed.getD i true = true := by
      intro i hi
      cases hb : listed.getD i true with
      | true => rfl
      | false => have := unl_set hb hi; omega
    have h1 := arunF_skip (ops.length - q) q (by omega) (fun i g1 g2 => by
      cases hb : m.getD i false with
      | true => rfl
      | false => have := hq2 i g1 (by omega) hb; rw [hall i (by omega)] at this; cases this) h
    rw [show q + (ops.length - q) = ops.length by omega, List.drop_length] at h1
    have ht : t' = s.t := List.ext_getElem? fun u => hmk u fun j o ho _ hb => by
      rw [hall j (List.getElem?_eq_some_iff.1 ho).1] at hb; cases hb
    subst ht
    refine ⟨?_, hQ _ _ _ _ (arunF_nil h1) hc⟩
    rw [List.eq_nil_iff_forall_not_mem]
    intro i hi'
    obtain ⟨h1, h2, _⟩ := ready_iff.1 hi'
    rw [hall i h1] at h2; cases h2
  | succ fuel ih =>
    intro q listed s t' L a w hf hsz hs hq hq1 hq2 h ha hl1 hl2 hmk hc hfr hnx
    refine ⟨fun h0 => ?_, ?_⟩
    · have hall : ∀ i, i < ops.length → listed.getD i true = true := by
        intro i hi
        cases hb : listed.getD i true with
        | true => rfl
        | false => exact absurd h0 (ready_ex hd.lt hsz i hi hb)
      have h1 := arunF_skip (ops.length - q) q (by omega) (fun i g1 g2 => by
        cases hb : m.getD i false with
        | true => rfl
        | false => have := hq2 i g1 (by omega) hb; rw [hall i (by omega)] at this; cases this) h
      rw [show q + (ops.length - q) = ops.length by omega, List.drop_length] at h1
      have ht : t' = s.t := List.ext_getElem? fun u => hmk u fun j o ho _ hb => by
        rw [hall j (List.getElem?_eq_some_iff.1 ho).1] at hb; cases hb
      subst ht
      exact hQ _ _ _ _ (arunF_nil h1) hc
    · intro i hi'
      obtain ⟨h1, h2, _⟩ := ready_iff.1 hi'
      have ho : ops[i]? = some ops[i] := List.getElem?_eq_getElem h1
      have hgd := hd.g i _ ho
      have hset : ∀ k, (listed.setIfInBounds i true).getD k true = false ↔ k ≠ i ∧ listed.getD k true = false := by
        intro k
        rw [get_set h2]
        by_cases e : k = i
        · simp [e]
        · simp [e]
      have hun := unl_set h2 h1
      unfold wpOp
      simp only [List.getElem?_toArray, ho]
      rw [if_pos (by simp [Region.wanted, hgd])]
      refine .inl ?_
      cases hm : m.getD i false with
      | true =>
        obtain ⟨f1, ⟨d, f2, f3⟩, f4⟩ := hd.fl i _ ho hm
        obtain ⟨g1, dd, g2, g3⟩ := hT i _ ho hm
        have g3 := g3 f1
        subst g3
        have hev : ∀ u ∈ opT ops[i], (T i)[u]? = t'[u]? := by
          intro u hu
          have hw := f4 u hu
          have e1 : t'[u]? = s.t[u]? := hmk u fun j o hj hmj hlj he => by
            rcases hw j o hj he with ⟨_, _, hwt⟩ | ⟨hmf, _⟩
            · rw [ready_waits hs hi' hwt] at hlj; cases hlj
            · rw [hmf] at hmj; cases hmj
          have e2 : s.t[u]? = (T ops.length)[u]? := ha u fun j o hj hmj hlj he => by
            rcases hw j o hj he with ⟨k1, _, _⟩ | ⟨_, hwt⟩
            · rw [k1] at hmj; cases hmj
            · rw [hs i j hwt hlj] at h2; cases h2
          have e3 := Tkeep u i (ops.length - i) (by omega) (fun g o k1 k2 hg hmg he => by
            rcases hw g o hg he with ⟨_, k3, _⟩ | ⟨k3, _⟩
            · omega
            · rw [hmg] at k3; cases k3)
          rw [show i + (ops.length - i) = ops.length by omega] at e3
          rw [e1, e2, e3]
        have hop := (g2 s.H (fun _ _ h => by cases h)).ev (evT hev)
        refine op_step hop hc (hfr i h1 h2) (by omega) (by omega) ?_
        rintro r H' L' a' w' ⟨rfl, rfl⟩ hL hc'
        refine ih q _ s (putA t' ops[i].dst (res i)) L' a' w' (by omega) (by simpa using hsz) (hs.set hi') hq (fun k hk hmk2 => ?_) (fun k k1 k2 hmk2 => ?_) h (fun u hu => ha u fun j o hj hmj hlj => hu j o hj hmj (by rw [get_set h2]; split <;> first | rfl | exact hlj)) hl1 (by rw [putA_len]; exact hl2) (fun u hu => ?_) hc' (fun k hk hlk => ?_) hnx
        · rw [get_set h2]; split
          · rfl
          · exact hq1 k hk hmk2
        · exact (hset k).2 ⟨fun e => (by rw [e, hm] at hmk2; cases hmk2), hq2 k k1 k2 hmk2⟩
        · by_cases e : u = d
          · subst e
            have e2 : s.t[u]? = (T ops.length)[u]? := ha u fun j o hj hmj _ he => f3 j o hj (fun e => by rw [e, hm] at hmj; cases hmj) he
            have e3 := Tkeep u (i + 1) (ops.length - (i + 1)) (by omega) (fun g o k1 k2 hg hmg he => f3 g o hg (by omega) he)
            rw [show i + 1 + (ops.length - (i + 1)) = ops.length by omega] at e3
            rw [e2, e3, g1, f2]
            exact putA_eq (by rw [hl2, hl1, Tlen _ (Nat.le_refl _), Tlen i (by omega)]) (.inl rfl)
          · rw [putA_ne (by rw [f2]; intro e2; cases e2; exact e rfl)]
            refine hmk u fun j o hj hmj hlj he => ?_
            by_cases ej : j = i
            · subst ej; rw [ho] at hj; cases hj; rw [f2] at he; cases he; exact e rfl
            · exact hu j o hj hmj ((hset j).2 ⟨ej, hlj⟩) he
        · obtain ⟨k1, k2⟩ := (hset k).1 hlk
          rw [hL _ (by omega)]; exact hfr k hk k2
      | false =>
        obtain ⟨f1, f2⟩ := hd.sp i _ ho hm
        have hqi : q ≤ i := by
          apply Classical.byContradiction
          intro hn
          rw [hq1 i (by omega) hm] at h2; cases h2
        have hsk : ∀ k, q ≤ k → k < q + (i - q) → m.getD k false = true := by
          intro k k1 k2
          cases hb : m.getD k false with
          | true => rfl
          | false =>
            have := ready_waits hs hi' (f1 k (by omega) hb)
            rw [hq2 k k1 (by omega) hb] at this; cases this
        have h3 := arunF_skip (i - q) q (by omega) hsk h
        rw [show q + (i - q) = i by omega, List.drop_eq_getElem_cons h1] at h3
        have h4 := arunF_sp (by simpa [List.getD_eq_getElem?_getD, List.getElem?_drop] using hm) h3
        rw [List.drop_drop] at h4
        have hev : ∀ u ∈ opT ops[i], s.t[u]? = t'[u]? := by
          intro u hu
          exact (hmk u fun j o hj hmj hlj he => by
            rw [ready_waits hs hi' (f2 u hu j o hj hmj he)] at hlj; cases hlj).symm
        refine aop_soundM hG h4 (evT hev) hc (hfr i h1 h2) (by omega) (by omega) ?_
        intro r H' nx' L' a' w' hk hnx' hL hc'
        refine ih (i + 1) _ ⟨putA s.t ops[i].dst r, H', nx'⟩ (putA t' ops[i].dst r) L' a' w' (by omega) (by simpa using hsz) (hs.set hi') (by omega) (fun k hk hmk2 => ?_) (fun k k1 k2 hmk2 => ?_) (by simpa [Nat.add_comm] using hk) (fun u hu => ?_) (by simp only [putA_len]; exact hl1) (by simp only [putA_len]; exact hl2) (fun u hu => ?_) hc' (fun k hk hlk => ?_) (by simp only; omega)
        · rw [get_set h2]; split
          · rfl
          · rename_i e
            rcases Nat.lt_or_ge k q with hkq | hkq
            · exact hq1 k hkq hmk2
            · rw [hsk k hkq (by omega)] at hmk2; cases hmk2
        · exact (hset k).2 ⟨by omega, hq2 k (by omega) k2 hmk2⟩
        · simp only
          rw [putA_ne (hu i _ ho hm (by rw [get_set h2, if_pos rfl]))]
          exact ha u fun j o hj hmj hlj => hu j o hj hmj (by rw [get_set h2]; split <;> first | rfl | exact hlj)
        · simp only
          refine putA_eq hl2 (.inr (hmk u fun j o hj hmj hlj he => ?_))
          exact hu j o hj hmj ((hset j).2 ⟨fun e => (by rw [e, hm] at hmj; cases hmj), hlj⟩) he
        · obtain ⟨k1, k2⟩ := (hset k).1 hlk
          rw [hL _ (by omega) (by omega)]; exact hfr k hk k2
end

/-- THE RULE: a region that draws its order: the free operations (those of m) first, over no memory of one's own, then the others in the text's order. -/
theorem AW.drawF (hG : GOk P Γ) (hmx : P.follows .mixedOrders = true) {n : Nat} {ops : List Oper} {s : St} {K : Exit → St → Prop} (m : List Bool) (hdk : dokF ops m = true)
    (h : hrunF Γ P s.nx m ops 0 s.t fun t => arunF Γ P s.nx m ops 0 ⟨t, s.H, s.nx + ops.length⟩ (K .normal)) : AW P (.region n ops.toArray true) s K := by
  intro nx0 L0 H0 w0 Av L a w Q hc hQ
  have hd := dokF_parts hdk
  refine wp_region_any hmx ?_
  obtain ⟨T, res, h1, h2, h3, h4⟩ := hrunF_head hG (ops := ops) (m := m) ops m 0 s.t (by simp) (by simp) h
  have hdr : Cn nx0 L0 H0 w0 Av ⟨s.t, s.H, s.nx + ops.length⟩ L a { w with drawn := w.drawn + 1 } :=
    ⟨hc.df, hc.sz, fun k x hk => (hc.sl k x hk).drew, hc.sr.drew, fun i hi => hc.fr i (by simp only at hi; omega), by have := hc.nx; simp only; omega, hc.lo, hc.st.trans (Step.drew _ _ _)⟩
  have := flt_any (Q := Q) hG hd (base := s.nx) (T := T) (res := res) (fun j o ho hm => h3 j o (Nat.zero_le _) ho hm) (fun j hj hm => h4 j (Nat.zero_le _) hj hm) hc.nx (fun s' L' a' w' hk hc' => hQ _ _ _ _ _ hk hc')
    ops.length 0 (Array.replicate ops.length false) ⟨T ops.length, s.H, s.nx + ops.length⟩ s.t L a { w with drawn := w.drawn + 1 } (by
      unfold unl
      exact Nat.le_trans (List.length_filter_le _ _) (by simp)) (by simp) (by
      intro i j hw hj
      have := hw.len
      simp [Array.getD_eq_getD_getElem?, this] at hj) (Nat.zero_le _) (fun i hi => by omega) (fun i _ hi _ => by
      simp [Array.getD_eq_getD_getElem?, hi]) (by simpa using h2) (fun u _ => rfl) rfl ?_ ?_ hdr (fun i hi _ => hc.fr _ (by omega)) (by simp only; omega)
  · simpa using this
  · simp only
    rw [T_len (fun j o ho hm => (h3 j o (Nat.zero_le _) ho hm).1) (fun j hj hm => h4 j (Nat.zero_le _) hj hm) _ (Nat.le_refl _), h1]
  · intro u hu
    have := T_keep (fun j o ho hm => (h3 j o (Nat.zero_le _) ho hm).1) (fun j hj hm => h4 j (Nat.zero_le _) hj hm) u 0 ops.length (by omega) (fun g o _ hg ho hm => hu g o ho hm (by
      have := (List.getElem?_eq_some_iff.1 ho).1
      simp [Array.getD_eq_getD_getElem?, this]))
    rw [Nat.zero_add] at this
    simp only
    rw [this, h1]

@[congr] theorem hrunF_cg {base i : Nat} {m : List Bool} {rest : List Oper} {t t' : List AV} {k : List AV → Prop} (h : t = t') : hrunF Γ P base m rest i t k = hrunF Γ P base m rest i t' k := by rw [h]
@[congr] theorem arunF_cg {base i : Nat} {m : List Bool} {rest : List Oper} {s s' : St} {K : St → Prop} (h : s = s') : arunF Γ P base m rest i s K = arunF Γ P base m rest i s' K := by rw [h]
theorem hrF_t {base i : Nat} {m : List Bool} {rest : List Oper} {t : List AV} {k : List AV → Prop} {dst : Option Nat} {op : Op} {ty : TypeId} {pos : String} {after : Array Edge} {g : Option (Nat × Bool)} :
    hrunF Γ P base (true :: m) (⟨dst, op, ty, pos, after, g⟩ :: rest) i t k = qop Γ P op t noH (base + i) fun r _ => hrunF Γ P base m rest (i + 1) (putA t dst r) k := by rw [hrunF]
theorem hrF_f {base i : Nat} {m : List Bool} {o : Oper} {rest : List Oper} {t : List AV} {k : List AV → Prop} : hrunF Γ P base (false :: m) (o :: rest) i t k = hrunF Γ P base m rest (i + 1) t k := by rw [hrunF]
theorem hrF_n {base i : Nat} {rest : List Oper} {t : List AV} {k : List AV → Prop} : hrunF Γ P base [] rest i t k = k t := by cases rest <;> rw [hrunF]
theorem arF_t {base i : Nat} {m : List Bool} {o : Oper} {rest : List Oper} {s : St} {K : St → Prop} : arunF Γ P base (true :: m) (o :: rest) i s K = arunF Γ P base m rest (i + 1) s K := by rw [arunF]
theorem arF_f {base i : Nat} {m : List Bool} {rest : List Oper} {s : St} {K : St → Prop} {dst : Option Nat} {op : Op} {ty : TypeId} {pos : String} {after : Array Edge} {g : Option (Nat × Bool)} :
    arunF Γ P base (false :: m) (⟨dst, op, ty, pos, after, g⟩ :: rest) i s K = aop Γ P dst op (base + i) s fun s' => arunF Γ P base m rest (i + 1) s' K := by rw [arunF]
theorem arF_n {base i : Nat} {s : St} {K : St → Prop} : arunF Γ P base [] [] i s K = K s := by rw [arunF]
end
attribute [go_sem] hrF_t hrF_f hrF_n arF_t arF_f arF_n
end Go.Proofs.Ytdghgmgppecncaa

