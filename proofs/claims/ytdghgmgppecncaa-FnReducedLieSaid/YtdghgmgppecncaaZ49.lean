import Derived.Test.YtdghgmgppecncaaZ26
import Derived.Test.YtdghgmgppecncaaZ46
set_option linter.unusedVariables false
set_option linter.unusedSimpArgs false
namespace Go.Proofs.Ytdghgmgppecncaa
section
variable {p : Int} {pw : List (List Int)} {br : List (List (List Int))}
noncomputable def lowS (p : Int) (pw : List (List Int)) (br : List (List (List Int))) (u : List (List Int)) : List (List Int) := spanL p pw (brkLL p pw br u (wholeL pw.length))
inductive LowC (p : Int) (pw : List (List Int)) (br : List (List (List Int))) : List (List Int) → List (List (List Int)) → Prop
  | done : LowC p pw br [] [[]]
  | step (u : List (List Int)) (K : List (List (List Int))) (h : u ≠ []) (hc : LowC p pw br (lowS p pw br u) K) : LowC p pw br u (u :: K)
end
end Go.Proofs.Ytdghgmgppecncaa
namespace Go.Proofs.Ytdghgmgppecncaa
inductive SerC (F : List (List Int) → List (List Int)) : List (List Int) → List (List (List Int)) → Prop
  | done (u : List (List Int)) (h : F u = u) : SerC F u [u]
  | step (u : List (List Int)) (K : List (List (List Int))) (h : F u ≠ u) (hc : SerC F (F u) K) : SerC F u (u :: K)
theorem SerC.eq {F : List (List Int) → List (List Int)} {u : List (List Int)} {K : List (List (List Int))} (h : SerC F u K) (he : F u = u) : K = [u] := by
  cases h with
  | done => rfl
  | step _ _ h => exact absurd he h
theorem SerC.next {F : List (List Int) → List (List Int)} {u : List (List Int)} {K : List (List (List Int))} (h : SerC F u K) (he : F u ≠ u) : ∃ K', K = u :: K' ∧ SerC F (F u) K' := by
  cases h with
  | done _ h => exact absurd h he
  | step _ K h hc => exact ⟨K, rfl, hc⟩
theorem SerC.pos {F : List (List Int) → List (List Int)} {u : List (List Int)} {K : List (List (List Int))} (h : SerC F u K) : 0 < K.length := by
  cases h <;> simp
section
variable {p : Int} {pw : List (List Int)}
end
section
variable {p : Int} {pw : List (List Int)} {br : List (List (List Int))}
end
end Go.Proofs.Ytdghgmgppecncaa
namespace Go.Proofs.Ytdghgmgppecncaa
open Nat (reduceAdd reduceSub reduceGT reduceEqDiff reduceMul)
theorem wholeU {p : Int} {pw : List (List Int)} (t : Tri p pw) (hp : pr4 p) : CanU p pw (wholeL pw.length) := by
  have hu : ∀ k, k < pw.length → dep (unitL pw.length k) = k := fun k hk => dep_eq (by rw [(wunit_el (p := p) t.p2 (n := pw.length) (k := k)).len]; omega) (fun j hj => by rw [unitL, vec_get (by omega), if_neg (by omega)]) (fun _ => by rw [unitL, vec_get (by omega), if_pos rfl]; omega)
  have hg : ∀ {b : List Int}, b ∈ wholeL pw.length → ∃ k, k < pw.length ∧ b = unitL pw.length k := fun hb => by
    obtain ⟨k, hk, rfl⟩ := List.mem_map.1 hb
    exact ⟨k, List.mem_range.1 hk, rfl⟩
  refine ⟨⟨⟨whole_el t.p2, fun b hb => ?_, fun b hb => ?_, fun b hb c hc e => ?_⟩, fun k l hkl hl => ?_⟩, fun b hb => .gen hb, fun b hb c hc e => ?_, fun x hx _ hd => ⟨unitL pw.length (dep x), List.mem_map.2 ⟨_, List.mem_range.2 hd, rfl⟩, hu _ hd⟩⟩
  · obtain ⟨k, hk, rfl⟩ := hg hb; rw [hu k hk]; exact hk
  · obtain ⟨k, hk, rfl⟩ := hg hb; rw [hu k hk, unitL, vec_get hk, if_pos rfl]
  · obtain ⟨k, hk, rfl⟩ := hg hb
    obtain ⟨l, hl, rfl⟩ := hg hc
    rw [hu k hk, hu l hl] at e; rw [e]
  · rw [whole_len] at hl
    rw [whole_get (by omega), whole_get hl, hu k (by omega), hu l hl]; exact hkl
  · obtain ⟨k, hk, rfl⟩ := hg hb
    obtain ⟨l, hl, rfl⟩ := hg hc
    rw [hu l hl, unitL, vec_get hl, if_neg]
    intro e2; subst e2; exact e rfl
theorem LowC.pos {p : Int} {pw : List (List Int)} {br : List (List (List Int))} {u : List (List Int)} {K : List (List (List Int))} (h : LowC p pw br u K) : 0 < K.length := by cases h <;> simp
end Go.Proofs.Ytdghgmgppecncaa
