import Derived.Test.YtnlfbimjcabgiaaRows
import Derived.WalkKit
import Derived.ProofKit
import Derived.OpenShut
import Derived.ShutString
import Derived.ChangeOld
import Derived.Below
import Derived.Test.YtnlfbimjcabgiaaZ52
set_option linter.unusedVariables false
set_option linter.unusedSimpArgs false
namespace Go.Proofs.Ytnlfbimjcabgiaa
open Go.ChangeShapes Go.WideShapes Go.ChangeAt Go.RowKit
theorem own : ownKnob Try.prog.godebug = none := by kernel_rfl
theorem laidOut : laidOutB Try.prog = true := by kernel_rfl
set_option maxRecDepth 100000 in
theorem lifted (os : Os) (started : os.Started) (H : Type) (enc : TypeId × Value → H) :
    ReturnsInHanded {} Try.checked os 3 .any (Rows.fnExactCayleyTableSpec.pre6 enc Try.prog Try.f3 Rows.fnExactCayleyTableRow.domain false) (Rows.fnExactCayleyTableSpec.post enc Try.prog Try.f3 false true false false) := by
  refine returnsInHanded_of_change (C := Try.checked) own started (by kernel_rfl) Try.func3
    (ChangeSpec.witness6 (enc := enc) (C := Try.checked) false ⟨#[], #[.agg #[.slice none 0 0, .slice none 0 0, .slice none 0 0], .slice none 0 0], []⟩ 8 (by kernel_rfl) (by kernel_rfl) (by kernel_rfl) (by kernel_rfl)) ?_
  intro W base args ds gs before hval0 hW hcnd _
  have hval : ∀ (j : Nat) t v, Try.f3.params[j]? = some t → args[j]? = some v → Value.okWide Try.prog W .any base t v := hval0
  have hW' := hW
  obtain ⟨p, q, hA0, hV, rfl, hfz, hnd⟩ := hW
  have hA : DataW.TrodAll enc Try.prog W 0 (fun _ => true) true Try.f3.params.toList args.toList ds p := hA0
  rw [Try.params3] at hA hval
  obtain ⟨v0, vs0, d0, ds0, p0, q0, hargs, rfl, rfl, h0, r0⟩ := trodAll_cons hA
  obtain ⟨v1, vs1, d1, ds1, p1, q1, rfl, rfl, rfl, h1, r1⟩ := trodAll_cons r0
  obtain ⟨rfl, rfl, rfl⟩ := trodAll_nil r1
  obtain rfl : args = #[v0, v1] := by cases args; simp_all
  obtain ⟨rfl, rfl⟩ := trodVars_none hV
  have k0 := h0
  have lt0 : ∀ x ∈ p0, x.block < W.heap.size := by obtain ⟨m, hm⟩ := k0; exact DataW.trod_lt m _ _ _ hm
  have k1 := h1
  have lt1 : ∀ x ∈ p1, x.block < W.heap.size := by obtain ⟨m, hm⟩ := k1; exact DataW.trod_lt m _ _ _ hm
  obtain ⟨x00, x01, x02, y00, y01, y02, n0, rfl, _, _, g00, g01, g02⟩ := Joins.open_agg3 Try.underlying26 (by kernel_rfl) (by kernel_rfl) (hval 0 26 v0 rfl rfl) h0
  obtain ⟨a00, R00, ok00⟩ := rd_ints Try.underlying22 Try.underlying2 (by kernel_rfl) g00
  obtain ⟨a01, R01, ok01⟩ := rd_rows Try.underlying23 Try.underlying22 Try.underlying2 (by kernel_rfl) (by kernel_rfl) g01
  obtain ⟨a02, R02, ok02⟩ := rd_cubes Try.underlying24 Try.underlying23 Try.underlying22 Try.underlying2 (by kernel_rfl) (by kernel_rfl) (by kernel_rfl) g02
  have hR0 : R noL W noM (prs a00 a01 a02) (.agg #[x00, x01, x02]) := by
    refine .g _ _ rfl ?_
    intro k x hk
    match k, hk with
    | 0, hk => cases hk; exact R00
    | 1, hk => cases hk; exact R01
    | 2, hk => cases hk; exact R02
  obtain ⟨s1, l1, e1, rfl⟩ := okWide_slice Try.underlying23 (hval 1 23 v1 rfl rfl)
  obtain ⟨n1, g1⟩ := h1
  obtain ⟨a1, R1, ok1⟩ := rd_rows Try.underlying23 Try.underlying22 Try.underlying2 (by kernel_rfl) (by kernel_rfl) g1
  clear hA0 hval0
  refine (law_run (law_CayleyTable a00 a01 a02 a1 ok00 ok01 ok02 ok1) (us := #[.agg #[x00, x01, x02], .slice s1 l1 e1]) ⟨rfl, fun k x hk => by
    match k, hk with
    | 0, hk => cases hk; exact hR0
    | 1, hk => cases hk; exact R1⟩).mono fun e W' ⟨he, bel⟩ => ?_
  subst he
  exact ⟨_, rfl, _, _, _, [], _, [], hW', trodAll_mk1 (shut_bool Try.underlying4 _), (trodAll_cons_mk (Below.trod laidOut (by kernel_rfl) (of_decide_eq_true (by kernel_rfl)) k0 bel lt0) (trodAll_cons_mk (Below.trod laidOut (by kernel_rfl) (of_decide_eq_true (by kernel_rfl)) k1 bel lt1) trodAll_mk0)), rfl, bel.frame _, fun h => by cases h⟩
theorem jfa : laidOutB Try.pinned.checked.prog = true := by kernel_rfl
theorem jfb : mapsRowed Try.pinned.checked.prog = true := by kernel_rfl
theorem jfc : (Rows.fnExactCayleyTableRow.inPlace == Program.inPlace Try.pinned.checked.prog 3) = true := by kernel_rfl
theorem jfd : (Rows.fnExactCayleyTableRow.unfollowed == Program.unfollowed Try.pinned.checked.prog 3) = true := by kernel_rfl
theorem jfe : (Rows.fnExactCayleyTableRow.recurses == Program.recurses Try.pinned.checked.prog 3) = true := by kernel_rfl
theorem jfg : (Rows.fnExactCayleyTableRow.named == Program.varsNamed Try.pinned.checked.prog 3) = true := by kernel_rfl
theorem jfh : Program.stopsHeard Try.pinned.checked.prog = true := by kernel_rfl
theorem jfi : Program.mayEnter Try.pinned.checked.prog = true := by kernel_rfl
theorem jfk : (Rows.fnExactCayleyTableRow.plainKeys == Program.plainKeys Try.pinned.checked.prog) = true := by kernel_rfl
theorem jfl : (Rows.fnExactCayleyTableRow.lifted == Program.liftsFinal Try.pinned.checked.prog) = true := by kernel_rfl
theorem closed : joinedFacts Try.pinned.checked.prog 3 Try.f3 Rows.fnExactCayleyTableSpec Rows.fnExactCayleyTableRow = true := by
  unfold joinedFacts
  rw [jfa, jfb, jfc, jfd, jfe, jfg, jfh, jfi, jfk, jfl]
  kernel_rfl
theorem over : Rows.fnExactCayleyTableRow.holds Try.pinned (OpenSpec.ofChange Rows.fnExactCayleyTableSpec) :=
  OpenClaim.holds_of_wide 3 Try.f3 rfl rfl rfl rfl rfl rfl rfl ⟨rfl, rfl, rfl, rfl, rfl⟩ rfl rfl rfl rfl rfl (by kernel_rfl) Try.func3 closed
    (of_decide_eq_true (by kernel_rfl)) (by unfold Func.isWrapper; first | (rw [if_pos (by decide +kernel)]; kernel_rfl) | (rw [if_neg (by decide +kernel)]; exact ⟨rfl, rfl⟩))
    (fun os started H enc _ => lifted os started H enc)
theorem proved : Rows.FnExactCayleyTableSaid := over
end Go.Proofs.Ytnlfbimjcabgiaa
