/-
  Own layer, part N: arguments of a law that are read as data are read by our abstract values.
-/
import Derived.Test.YtgeoogndonghmaaAvM
import Derived.Deep.Slices
import Derived.Lib.SmallJoins
import Derived.ProofKit
set_option linter.unusedVariables false
set_option linter.unusedSimpArgs false
namespace Go.Proofs.Ytgeoogndonghmaa
open Go.Deep Go.ChangeShapes Go.WideShapes

def noL : LM := fun _ => none
def noM : Nat → Prop := fun _ => False

section
variable {T : Type} {enc : TypeId × Value → T} {P : Program} {w : World} {sp : Nat → Bool} {held : Bool}

/-- A slice of elements of one cell, from a reading of it as data. -/
theorem rd_slice {α : Type} [Inhabited α] {f : α → AV} {ok : α → Prop} {t e : TypeId} {fuel : Nat} {v : Value} {x : DataW T × List MemPlace} (ht : P.underlying t = some (.slice e)) (hc : P.cellsOf e = 1)
    (hel : ∀ n u y, DataW.trod enc P w 0 sp held n e [u] = some y → ∃ z : α, R noL w noM (f z) u ∧ ok z) (h : DataW.trod enc P w 0 sp held fuel t [v] = some x) :
    ∃ xs : List α, R noL w noM (.v xs.length (xs.map f)) v ∧ xs.length ≤ maxLen ∧ ∀ y ∈ xs, ok y := by
  rcases open_slice1 ht hc h with ⟨h1, _⟩ | ⟨a, len, cap, m, n, V, D, Pl, h1, _, hl, hcm, hm, _, hx⟩
  · simp only [List.cons.injEq, and_true] at h1
    subst h1
    exact ⟨[], .v0 _ _, Nat.zero_le _, by simp⟩
  · simp only [List.cons.injEq, and_true] at h1
    subst h1
    have hlm : len ≤ m := by rw [hm]; split <;> omega
    have hz : ∀ i, i < len → ∃ z : α, R noL w noM (f z) (V i) ∧ ok z := fun i hi => hel n _ _ (hx i (by omega)).2
    obtain ⟨Z, hZ⟩ := choose_lt (α := α) (p := fun i z => R noL w noM (f z) (V i) ∧ ok z) hz
    refine ⟨(List.range len).map Z, ?_, by simp; omega, ?_⟩
    · simp only [List.length_map, List.length_range]
      by_cases h0 : len = 0
      · subst h0; exact .v0 _ _
      · obtain ⟨b, off, spot⟩ := a
        have hc0 := (hx 0 (by omega)).1
        have hspot : spot = none := by simpa [Addr.add] using World.cell?_spot hc0
        subst hspot
        have hcell : ∀ i, i < len → w.cell? ⟨b, off + i, none⟩ = some (V i) := fun i hi => by
          have := (hx i (by omega)).1
          rwa [addr_add] at this
        have hb := hcell 0 (by omega)
        unfold World.cell? at hb
        simp only at hb
        cases hbk : w.heap[b]? with
        | none => rw [hbk] at hb; cases hb
        | some o =>
          rw [hbk] at hb
          cases o with
          | cells arr et fr =>
            refine .v len _ b off cap arr et fr V (fun h => h) hbk hl ?_ ?_
            · intro k hk
              simp only [List.length_map, List.length_range] at hk
              have := hcell k hk
              unfold World.cell? at this
              simp only [hbk] at this
              simpa using this
            · intro k y hk
              simp only [List.map_map, List.getElem?_map, Option.map_eq_some_iff, List.getElem?_range, Function.comp] at hk
              obtain ⟨i, h5, h6⟩ := hk
              have hi := List.getElem?_eq_some_iff.1 h5
              simp only [List.getElem_range, List.length_range] at hi
              obtain ⟨h7, h8⟩ := hi
              subst h8
              rw [← h6]
              exact (hZ k h7).1
          | _ => cases hb
    · intro y hy
      obtain ⟨i, h5, h6⟩ := List.mem_map.1 hy
      rw [← h6]
      exact (hZ i (List.mem_range.1 h5)).2

def i64ok (n : Int) : Prop := -9223372036854775808 ≤ n ∧ n ≤ 9223372036854775807
def intsok (xs : List Int) : Prop := xs.length ≤ 9223372036854775807 ∧ ∀ n ∈ xs, i64ok n
def rowsok (xs : List (List Int)) : Prop := xs.length ≤ 9223372036854775807 ∧ ∀ n ∈ xs, intsok n
def cubesok (xs : List (List (List Int))) : Prop := xs.length ≤ 9223372036854775807 ∧ ∀ n ∈ xs, rowsok n

theorem rd_int {t : TypeId} {fuel : Nat} {v : Value} {x : DataW T × List MemPlace} (ht : P.underlying t = some (.int .i64)) (h : DataW.trod enc P w 0 sp held fuel t [v] = some x) : ∃ n : Int, R noL w noM (.i .i64 n) v ∧ i64ok n := by
  cases fuel with
  | zero => cases h
  | succ fuel =>
    obtain ⟨n, h1, _, h2⟩ := DataW.trod_int ht h
    simp only [List.cons.injEq, and_true] at h1
    subst h1
    refine ⟨n, .i _ _, ?_⟩
    simpa [i64ok, Lit.wf, IntKind.min, IntKind.max, IntKind.signed, IntKind.bits] using h2

theorem rd_ints {t e : TypeId} {fuel : Nat} {v : Value} {x : DataW T × List MemPlace} (ht : P.underlying t = some (.slice e)) (he : P.underlying e = some (.int .i64)) (hc : P.cellsOf e = 1) (h : DataW.trod enc P w 0 sp held fuel t [v] = some x) :
    ∃ xs : List Int, R noL w noM (ints xs) v ∧ intsok xs := by
  obtain ⟨xs, h1, h2, h3⟩ := rd_slice (ok := i64ok) ht hc (fun n u y hy => rd_int he hy) h
  exact ⟨xs, h1, by simpa [maxLen] using h2, h3⟩

theorem rd_rows {t t1 e : TypeId} {fuel : Nat} {v : Value} {x : DataW T × List MemPlace} (ht : P.underlying t = some (.slice t1)) (ht1 : P.underlying t1 = some (.slice e)) (he : P.underlying e = some (.int .i64)) (hc1 : P.cellsOf t1 = 1) (hc : P.cellsOf e = 1)
    (h : DataW.trod enc P w 0 sp held fuel t [v] = some x) : ∃ xs : List (List Int), R noL w noM (rows xs) v ∧ rowsok xs := by
  obtain ⟨xs, h1, h2, h3⟩ := rd_slice (ok := intsok) ht hc1 (fun n u y hy => rd_ints ht1 he hc hy) h
  exact ⟨xs, h1, by simpa [maxLen] using h2, h3⟩

theorem rd_cubes {t t2 t1 e : TypeId} {fuel : Nat} {v : Value} {x : DataW T × List MemPlace} (ht : P.underlying t = some (.slice t2)) (ht2 : P.underlying t2 = some (.slice t1)) (ht1 : P.underlying t1 = some (.slice e)) (he : P.underlying e = some (.int .i64))
    (hc2 : P.cellsOf t2 = 1) (hc1 : P.cellsOf t1 = 1) (hc : P.cellsOf e = 1) (h : DataW.trod enc P w 0 sp held fuel t [v] = some x) : ∃ xs : List (List (List Int)), R noL w noM (cubes xs) v ∧ cubesok xs := by
  obtain ⟨xs, h1, h2, h3⟩ := rd_slice (ok := rowsok) ht hc2 (fun n u y hy => rd_rows ht2 ht1 he hc1 hc hy) h
  exact ⟨xs, h1, by simpa [maxLen] using h2, h3⟩

/-- From a law's contract to a run of the machine. -/
theorem law_run {f : FuncId} {as : List AV} {us : Array Value} (h : ACp P f as (.b true)) (ha : ArgsR noL w noM as us) : Calls P f us w fun e w' => e = .returned (.bool true) ∧ RowKit.Below w.heap.size w w' := by
  refine (h.2 noL noM w us (fun _ h => h.elim) ⟨0, fun _ _ => rfl⟩ ha).mono ?_
  rintro e w' ⟨u, h1, h2, h3⟩
  rw [h3.b_inv] at h1
  exact ⟨h1, h2.os, h2.tape, h2.output, h2.size, fun k hk => h2.keep k hk LB_noH⟩

end
end Go.Proofs.Ytgeoogndonghmaa
