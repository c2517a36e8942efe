/-
  Own layer, part K: from a function's body to its contract; and the uses of contracts.
-/
import Derived.Test.YtgeoogndonghmaaAvJ
set_option linter.unusedVariables false
set_option linter.unusedSimpArgs false
namespace Go.Proofs.Ytgeoogndonghmaa

section
variable {P : Program} {Γ : TEnv}

theorem lop_run (hG : GOk P Γ) {H : HP} {ty : TypeId} {x : AV} {k : AV → Prop} (h : lop Γ H ty x k) :
    ∃ r, k r ∧ ∀ (L : LM) (Av : Nat → Prop) (w : World) (u : Value), SR L H Av w → R L w (MM L H Av) x u → ∃ z ad, u = .pointer (some ad) ∧ (Instr.loadAt ty u).run P w = .ok z w ∧ R L w (MM L H Av) r z := by
  unfold lop at h
  split at h
  · rename_i e oo cs he
    obtain ⟨r, hk, hr⟩ := rdc_run (hG ty e he) h
    refine ⟨r, hk, fun L Av w u hs hu => ?_⟩
    obtain ⟨b, off, arr, et, f, h1, _, h2, h3⟩ := hu.p_inv
    obtain ⟨z, h4, h5⟩ := hr L w (MM L H Av) b off arr et f h2 h3
    exact ⟨z, _, h1, by rw [h1]; exact h4, h5⟩
  · rename_i e id' oo he
    obtain ⟨cs, hcs, h⟩ := h
    obtain ⟨r, hk, hr⟩ := rdc_run (hG ty e he) h
    refine ⟨r, hk, fun L Av w u hs hu => ?_⟩
    obtain ⟨l, hl, h1⟩ := hu.q_inv
    obtain ⟨l', hl', ⟨arr, et, h2, _, _, h3⟩⟩ := hs.node id' cs hcs
    rw [hl] at hl'; cases hl'
    obtain ⟨z, h4, h5⟩ := hr L w (MM L H Av) l.blk l.off arr et _ h2 h3
    exact ⟨z, _, h1, by rw [h1]; exact h4, h5⟩
  · exact h.elim

/-- The results, read off a state at the end of a body. -/
def resop (Γ : TEnv) (s : St) : List ResultVar → (List AV → Prop) → Prop
  | [], k => k []
  | .tmp t :: r, k => resop Γ s r fun rs => k (s.t.getD t .j :: rs)
  | .cell a ty :: r, k => lop Γ s.H ty (s.t.getD a .j) fun x => resop Γ s r fun rs => k (x :: rs)

def oneOr : List AV → AV
  | [x] => x
  | rs => .t rs

def finK (Γ : TEnv) (res : List ResultVar) (K : Nat → HP → AV → Prop) : Exit → St → Prop
  | .normal, s => resop Γ s res fun rs => K s.nx s.H (oneOr rs)
  | .ret, s => resop Γ s res fun rs => K s.nx s.H (oneOr rs)
  | _, _ => False

/-- One result, read off a frame. -/
def rv (tmps : Array Value) : ResultVar → Sem Value
  | .tmp t => pure (tmps.getD t undef)
  | .cell b t => do loadVar t (← asAddr (tmps.getD b undef))

theorem results_rv (fn : Func) (tmps : Array Value) : results fn tmps = (do let vs ← fn.results.mapM (rv tmps); pure (if h : vs.size = 1 then vs[0] else .tuple vs)) := rfl

theorem resop_run (hG : GOk P Γ) {nx0 : Nat} {L0 : LM} {H0 : HP} {w0 : World} {Av : Nat → Prop} {s : St} {L : LM} {a : Act} {w : World} (c : Cn nx0 L0 H0 w0 Av s L a w) : ∀ (res : List ResultVar) (k : List AV → Prop), resop Γ s res k →
    ∃ rs us, k rs ∧ (res.mapM (rv a.tmps)).run P w = .ok us w ∧ us.length = rs.length ∧
      ∀ (i : Nat) (x : AV), rs[i]? = some x → R L w (MM L s.H Av) x (us.getD i undef) := by
  intro res
  induction res with
  | nil => intro k h; exact ⟨[], [], h, by simp, rfl, by simp⟩
  | cons x res ih =>
    intro k h
    cases x with
    | tmp t =>
      simp only [resop] at h
      obtain ⟨rs, us, h1, h2, h3, h4⟩ := ih _ h
      refine ⟨_, a.tmps.getD t undef :: us, h1, ?_, by simp [h3], ?_⟩
      · simp only [List.mapM_cons, rv, Sem.run_bind, Sem.run_pure, Result.andThen_ok, h2]
      · intro i y hi
        cases i with
        | zero =>
          simp only [List.getElem?_cons_zero, Option.some.injEq] at hi
          subst hi
          exact c.ev (.tmp t)
        | succ i => exact h4 i y (by simpa using hi)
    | cell b ty =>
      simp only [resop] at h
      obtain ⟨r, h1, h2⟩ := lop_run (P := P) hG h
      obtain ⟨rs, us, h3, h4, h5, h6⟩ := ih _ h1
      obtain ⟨z, ad, g1, g2, g3⟩ := h2 L Av w _ c.sr (c.ev (.tmp b))
      refine ⟨_, z :: us, h3, ?_, by simp [h5], ?_⟩
      · have g1' : a.tmps.getD b undef = .pointer (some ad) := g1
        have g2' : (Instr.loadAt ty (a.tmps.getD b undef)).run P w = .ok z w := g2
        rw [g1'] at g2'
        simp only [Instr.loadAt, Instr.sureAddr, Sem.run_bind, Sem.run_pure, Result.andThen_ok] at g2'
        have g3' : (rv a.tmps (.cell b ty)).run P w = .ok z w := by
          simp only [rv, g1', asAddr, Sem.run_bind, Sem.run_pure, Result.andThen_ok, g2']
        simp only [List.mapM_cons, Sem.run_bind, Sem.run_pure, Result.andThen_ok, h4, g3']
      · intro i y hi
        cases i with
        | zero =>
          simp only [List.getElem?_cons_zero, Option.some.injEq] at hi
          subst hi
          exact g3
        | succ i => exact h6 i y (by simpa using hi)

theorem AC.intro (hG : GOk P Γ) {f : FuncId} {fn : Func} {c : Code} {n : Nat} (hf : P.funcs[f]? = some fn) (hb : fn.body = some c) (hn : (fn.name == "runtime.NumGoroutine") = false) {as : List AV} (hnt : fn.ntmps - as.length = n) {nx : Nat} {H : HP} {Q : Nat → HP → AV → Prop}
    (h : AW P c ⟨as ++ List.replicate n .j, H, nx⟩ (finK Γ fn.results.toList Q)) : AC P f nx H as Q := by
  refine ⟨⟨fn, hf, by rw [hb]; rfl, hn⟩, ?_⟩
  intro L Av w us hs hfr ⟨hsz, hr⟩
  refine calls_of_wp hf hb (h nx L H w Av L _ w _ ⟨rfl, ?_, ?_, hs, hfr, Nat.le_refl _, fun _ _ => rfl, Step.refl _ _ _⟩ ?_)
  · simp [hsz, hnt]
  · intro k x hk
    rw [List.getElem?_append] at hk
    split at hk
    · rename_i hlt
      have := hr k x hk
      have hlt' : k < us.size := by omega
      simpa [Array.getElem?_append, hlt'] using this
    · rw [List.getElem?_replicate] at hk
      split at hk
      · cases hk; exact .j _
      · cases hk
  · intro e s' L' a' w' hk hc
    have fin : (resop Γ s' fn.results.toList fun rs => Q s'.nx s'.H (oneOr rs)) → a'.defers = [] ∧ ∃ v, (results fn a'.tmps).run P w' = .ok v w' ∧ ∃ u r L' nx' H', Ending.returned v = .returned u ∧ Q nx' H' r ∧ nx ≤ nx' ∧ (∀ i, nx' ≤ i → L' i = none) ∧ (∀ i, i < nx → L' i = L i) ∧ SR L' H' Av w' ∧ Step L H w L' H' w' ∧ R L' w' (MM L' H' Av) r u := by
      intro hk
      obtain ⟨rs, vs, h1, h2, h3, h4⟩ := resop_run hG hc fn.results.toList _ hk
      refine ⟨hc.df, ?_⟩
      have hm : (fn.results.mapM (rv a'.tmps)).run P w' = .ok vs.toArray w' := by
        rw [Array.mapM_eq_mapM_toList]
        simp only [Sem.run_map, h2, Result.andThen_ok]
      have hres : (results fn a'.tmps).run P w' = .ok (if h : vs.toArray.size = 1 then vs.toArray[0] else .tuple vs.toArray) w' := by
        rw [results_rv]
        simp only [Sem.run_bind]
        rw [hm]
        simp only [Result.andThen_ok, Sem.run_pure]
      refine ⟨_, hres, _, oneOr rs, L', s'.nx, s'.H, rfl, h1, hc.nx, hc.fr, hc.lo, hc.sr, hc.st, ?_⟩
      match rs, vs, h3, h4 with
      | [], [], _, _ => exact .t _ _ rfl (by simp)
      | [x], [v], _, h4 => simpa [oneOr] using h4 0 x rfl
      | x :: y :: rs, v :: v' :: vs, h3, h4 =>
        have : ¬ (v :: v' :: vs).toArray.size = 1 := by simp
        rw [dif_neg this]
        refine .t _ _ (by simpa using h3) ?_
        intro k z hk
        have := h4 k z hk
        simpa using this
    cases e <;> simp only [finK, bodyPost] at hk ⊢
    · exact fin hk
    · exact fin hk

theorem AC.pure {f : FuncId} {nx : Nat} {H : HP} {as : List AV} {r : AV} {K : Nat → HP → AV → Prop} (h : RC P f H as r) (hk : K nx H r) : AC P f nx H as K := by
  obtain ⟨h1, h2⟩ := h.run (fun _ _ h => h)
  refine ⟨h1, fun L Av w us hs hfr ha => (h2 L Av w us hs ⟨_, hfr⟩ ha).mono ?_⟩
  rintro e w' ⟨u, g1, g2, g3, g4⟩
  exact ⟨u, r, L, nx, H, g1, hk, Nat.le_refl _, hfr, fun _ _ => rfl, g2, g3, g4⟩

theorem ACp.intro (hG : GOk P Γ) {f : FuncId} {fn : Func} {c : Code} {n : Nat} (hf : P.funcs[f]? = some fn) (hb : fn.body = some c) (hn : (fn.name == "runtime.NumGoroutine") = false) {as : List AV} (hnt : fn.ntmps - as.length = n) {r : AV} (hr : NR r)
    (h : ∀ nx, AW P c ⟨as ++ List.replicate n .j, noH, nx⟩ (finK Γ fn.results.toList fun _ _ r' => r' = r)) : ACp P f as r := by
  refine ⟨⟨fn, hf, by rw [hb]; rfl, hn⟩, ?_⟩
  rintro L M w us hM ⟨nx, hfr⟩ ha
  have hac := AC.intro (Q := fun _ _ r' => r' = r) hG hf hb hn hnt (h nx)
  refine (hac.2 L M w us (SR_noH hM) hfr (by rw [MM_noH]; exact ha)).mono ?_
  rintro e w' ⟨u, r', L', nx', H', g1, rfl, g2, g3, g4, g5, g6, g7⟩
  refine ⟨u, g1, ⟨fun _ _ h => h, g6.os, g6.tape, g6.output, g6.size, g6.keep, fun b _ hl => hl⟩, ?_⟩
  exact R.mono (L := L) (M := MM L' H' M) (w := w') (fun _ _ h => h) (fun _ _ _ => rfl) (fun b _ hb => .inl hb) (g7.nr hr)

/-- A contract, used under another function's number only. -/
theorem RC.of {f : FuncId} {H : HP} {as : List AV} {r : AV} (h : ACp P f as r) : RC P f H as r := .inl h
theorem RC.lent {f : FuncId} {H : HP} {as ts : List AV} {r : AV} (h : ACp P f ts r) (hv : Vws H as ts) (hf : Fl r) : RC P f H as r := .inr ⟨ts, hv, h, hf⟩

end
end Go.Proofs.Ytgeoogndonghmaa
