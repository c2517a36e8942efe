/-
  Lie rings: FirstLieFault, IsLieRing, LieOrder, by the reference and by the program; and their laws.
-/
import Derived.Test.YtimgnijlnkjamaaNf
set_option linter.unusedVariables false
set_option linter.unusedSimpArgs false
namespace Go.Proofs.Ytimgnijlnkjamaa
open Nat (reduceAdd reduceSub reduceGT reduceEqDiff reduceMul)

theorem i4_fl (t : Int × Int × Int × Int) : Fl (i4 t) := .t _ (fun k x hk => by
  match k, hk with
  | 0, hk => cases hk; exact .i _ _
  | 1, hk => cases hk; exact .i _ _
  | 2, hk => cases hk; exact .i _ _
  | 3, hk => cases hk; exact .i _ _)
def ff5 (b : Bool) (t : Int × Int × Int × Int) : Int × Int × Int × Int × Int := match b with
  | true => (t.1, t.2.1, t.2.2.1, t.2.2.2, 0)
  | false => (0, 0, 0, 0, 1)
def ffR (b : Bool) (t : Int × Int × Int × Int) : AV := .t [.i .i64 (ff5 b t).1, .i .i64 (ff5 b t).2.1, .i .i64 (ff5 b t).2.2.1, .i .i64 (ff5 b t).2.2.2.1, .i .i64 (ff5 b t).2.2.2.2]
theorem NR.ts {xs : List AV} (h : ∀ x ∈ xs, NR x) : NR (.t xs) := .t _ (fun k x hk => h x (List.mem_of_getElem? hk))
theorem ffR_nr (b : Bool) (t : Int × Int × Int × Int) : NR (ffR b t) := by
  refine NR.ts (fun x hx => ?_)
  simp at hx
  rcases hx with rfl | rfl | rfl | rfl | rfl <;> exact .i _ _

/-- A Lie ring: the shape and no fault. -/
def LieR (p : Int) (pw : List (List Int)) (br : List (List (List Int))) : Prop := shapeP p pw br ∧ isFault p pw br (0, 0, 0, 0)
theorem Flt.zero {n : Nat} {P : Nat → Nat → Prop} {J : Nat → Nat → Nat → Prop} {t : Int × Int × Int × Int} (h : Flt n P J t) : t.1 = 0 ↔ Flt n P J (0, 0, 0, 0) := by
  constructor
  · intro h0
    rcases h with ⟨a, b, rfl, _⟩ | ⟨hn, ⟨a, b, c, rfl, _⟩ | ⟨rfl, hz⟩⟩
    · simp at h0
    · simp at h0
    · exact .inr ⟨hn, .inr ⟨rfl, hz⟩⟩
  · intro h0
    rw [h.uniq h0]

/-- A number, or an error. -/
def in2 (b : Bool) (m e : Int) : Int × Int := match b with
  | true => (m, 0)
  | false => (0, e)
def inR (b : Bool) (m e : Int) : AV := .t [.i .i64 (in2 b m e).1, .i .i64 (in2 b m e).2]
theorem inR_nr (b : Bool) (m e : Int) : NR (inR b m e) := by
  refine NR.ts (fun x hx => ?_)
  simp at hx
  rcases hx with rfl | rfl <;> exact .i _ _
end Go.Proofs.Ytimgnijlnkjamaa
