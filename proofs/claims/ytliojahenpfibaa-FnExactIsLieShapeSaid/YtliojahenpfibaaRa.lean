/-
  FnExactIsLieShape, as the row says it: for every ring the law answers true, and the ring reads afterwards as it read before. No condition.
-/
import Derived.Test.YtliojahenpfibaaRows
import Derived.Test.YtliojahenpfibaaMa
import Derived.WalkKit
import Derived.ProofKit
import Derived.OpenShut
import Derived.ShutString
import Derived.ChangeOld
import Derived.Below
set_option linter.unusedVariables false
set_option linter.unusedSimpArgs false
namespace Go.Proofs.Ytliojahenpfibaa
open Go.ChangeShapes Go.WideShapes Go.ChangeAt Go.RowKit

theorem own : ownKnob Try.prog.godebug = none := by kernel_rfl
theorem laidOut : laidOutB Try.prog = true := by kernel_rfl

set_option maxRecDepth 100000 in
theorem lifted (os : Os) (started : os.Started) (H : Type) (enc : TypeId × Value → H) :
    ReturnsInHanded {} Try.checked os 3 .any (Rows.fnExactIsLieShapeSpec.pre6 enc Try.prog Try.f3 Rows.fnExactIsLieShapeRow.domain false) (Rows.fnExactIsLieShapeSpec.post enc Try.prog Try.f3 false true false false) := by
  refine returnsInHanded_of_change (C := Try.checked) own started (by kernel_rfl) Try.func3
    (ChangeSpec.witness6 (enc := enc) (C := Try.checked) false ⟨#[], #[.agg #[.int .i64 0, .slice none 0 0, .slice none 0 0]], []⟩ 8 (by kernel_rfl) (by kernel_rfl) (by kernel_rfl) (by kernel_rfl)) ?_
  intro W base args ds gs before hval0 hW hcnd _
  have hval : ∀ (j : Nat) t v, Try.f3.params[j]? = some t → args[j]? = some v → Value.okWide Try.prog W .any base t v := hval0
  have hW' := hW
  obtain ⟨p, q, hA0, hV, rfl, hfz, hnd⟩ := hW
  have hA : DataW.TrodAll enc Try.prog W 0 (fun _ => true) true Try.f3.params.toList args.toList ds p := hA0
  rw [Try.params3] at hA hval
  obtain ⟨v0, vs0, d0, ds0, p0, q0, hargs, rfl, rfl, h0, r0⟩ := trodAll_cons hA
  obtain ⟨rfl, rfl, rfl⟩ := trodAll_nil r0
  obtain rfl : args = #[v0] := by cases args; simp_all
  obtain ⟨rfl, rfl⟩ := trodVars_none hV
  have k0 := h0
  have lt0 : ∀ x ∈ p0, x.block < W.heap.size := by obtain ⟨m, hm⟩ := k0; exact DataW.trod_lt m _ _ _ hm
  obtain ⟨x0, x1, x2, y0, y1, y2, n, rfl, _, _, g0, g1, g2⟩ := Joins.open_agg3 Try.underlying25 (by kernel_rfl) (by kernel_rfl) (hval 0 25 v0 rfl rfl) h0
  obtain ⟨a0, R0, ok0⟩ := rd_int Try.underlying2 g0
  obtain ⟨a1, R1, ok1⟩ := rd_rows Try.underlying22 Try.underlying32 Try.underlying2 (by kernel_rfl) (by kernel_rfl) g1
  obtain ⟨a2, R2, ok2⟩ := rd_cubes Try.underlying23 Try.underlying22 Try.underlying32 Try.underlying2 (by kernel_rfl) (by kernel_rfl) (by kernel_rfl) g2
  have hR : R noL W noM (ring a0 a1 a2) (.agg #[x0, x1, x2]) := by
    refine .g _ _ rfl ?_
    intro k x hk
    match k, hk with
    | 0, hk => cases hk; exact R0
    | 1, hk => cases hk; exact R1
    | 2, hk => cases hk; exact R2
  clear hA0 hval0
  refine (law_run (law_IsLieShape a0 a1 a2 ok0 ok1 ok2) (us := #[.agg #[x0, x1, x2]]) ⟨rfl, fun k x hk => by
    match k, hk with
    | 0, hk => cases hk; exact hR⟩).mono fun e W' ⟨he, bel⟩ => ?_
  subst he
  exact ⟨_, rfl, _, _, _, [], _, [], hW', trodAll_mk1 (shut_bool Try.underlying4 _), (trodAll_cons_mk (Below.trod laidOut (by kernel_rfl) (of_decide_eq_true (by kernel_rfl)) k0 bel lt0) trodAll_mk0), rfl, bel.frame _, fun h => by cases h⟩

theorem over : Rows.fnExactIsLieShapeRow.holds Try.pinned (OpenSpec.ofChange Rows.fnExactIsLieShapeSpec) :=
  OpenClaim.holds_of_wide 3 Try.f3 rfl rfl rfl rfl rfl rfl rfl ⟨rfl, rfl, rfl, rfl, rfl⟩ rfl rfl rfl rfl rfl (by kernel_rfl) Try.func3 (by kernel_rfl)
    (of_decide_eq_true (by kernel_rfl)) (by unfold Func.isWrapper; first | (rw [if_pos (by decide +kernel)]; kernel_rfl) | (rw [if_neg (by decide +kernel)]; exact ⟨rfl, rfl⟩))
    (fun os started H enc _ => lifted os started H enc)

theorem proved : Rows.FnExactIsLieShapeSaid := over

end Go.Proofs.Ytliojahenpfibaa
