/-
  No cell of these rows narrows 'for every input' (looked for: loops, veiled, ifaces, maps, wideKeys, modest, calm, conditions, laid).
  DERIVED. THE GIVEN ROWS OF THIS SEAT. 12 by the template 'for every input the law returns true; each argument reads behind the call as it read before'; 0 by the template 'total and deterministic' (their statements: YtdjpljnpaidfcaaTotals.lean).
  GIVEN WITH THE SEED: the statements are not yours to turn. If you find one false, say at which input.
  Laid BY PROGRAM, IN A SANDBOX (cutbox-rows.mjs): the forced cells as the released guide's own fill.sh prints them over the translation 916d21375fd42368… (all of the seat's roots in one cut). By AI agents, Wed Nov 11 2026. No macro, syntax, notation, axiom, sorry.
-/
import Derived.Test.YtdjpljnpaidfcaaChecked
import GoSem.Claim
import GoSem.ClaimJoined
import GoSem.ClaimMapViews
import Derived.JoinedTies
import Derived.KernelRfl
namespace Go.Proofs.Ytdjpljnpaidfcaa
/- THE CELL 'sum', in the pinned program and in every row, IS THE sha256 OF THE DUMP (.gsa) THAT YtdjpljnpaidfcaaProg.lean LOADS. Nothing in Lean hashes anything: it is a label: what it is worth is what the hold of that sum in a sandbox is worth. -/
noncomputable def Try.pinned : Pinned := { name := "ytdjpljnpaidfcaa", sum := "916d21375fd423686271f1bf2550fcca15bd62ec49a6ed9f9fa523b47fec5fce", checked := Try.checked }
namespace Rows
def none {H : Type} : Left H := { results := [], args := [] }

/-- 'laws.FnExactIsFpGroup': WHATEVER THE INPUT: true; the input reads as it did. -/
def fnExactIsFpGroupSpec : ChangeSpec := { name := "fnExactIsFpGroup", fn := fun _ => fun
  | [d] => { results := [.lit (.bool true)], args := [d] }
  | _ => none }
def fnExactIsFpGroupRow : OpenClaim := { program := "ytdjpljnpaidfcaa", sum := "916d21375fd423686271f1bf2550fcca15bd62ec49a6ed9f9fa523b47fec5fce", func := "loop.example/g01076/laws.FnExactIsFpGroup", spec := "fnExactIsFpGroup", apart := false }
def FnExactIsFpGroupSaid : Prop := fnExactIsFpGroupRow.holds Try.pinned (OpenSpec.ofChange fnExactIsFpGroupSpec)

/-- ITS FALSE NEIGHBOUR: 'it returns false'. Refute it at one input. -/
def fnExactIsFpGroupWrong : ChangeSpec := { name := "fnExactIsFpGroup", fn := fun _ => fun
  | [d] => { results := [.lit (.bool false)], args := [d] }
  | _ => none }
def FnExactIsFpGroupWrongFalsely : Prop := fnExactIsFpGroupRow.holds Try.pinned (OpenSpec.ofChange fnExactIsFpGroupWrong)

/-- 'laws.FnExactIsCayleyTable': WHATEVER THE INPUT: true; the input reads as it did. -/
def fnExactIsCayleyTableSpec : ChangeSpec := { name := "fnExactIsCayleyTable", fn := fun _ => fun
  | [d] => { results := [.lit (.bool true)], args := [d] }
  | _ => none }
def fnExactIsCayleyTableRow : OpenClaim := { program := "ytdjpljnpaidfcaa", sum := "916d21375fd423686271f1bf2550fcca15bd62ec49a6ed9f9fa523b47fec5fce", func := "loop.example/g01076/laws.FnExactIsCayleyTable", spec := "fnExactIsCayleyTable", apart := false }
def FnExactIsCayleyTableSaid : Prop := fnExactIsCayleyTableRow.holds Try.pinned (OpenSpec.ofChange fnExactIsCayleyTableSpec)

/-- ITS FALSE NEIGHBOUR: 'it returns false'. Refute it at one input. -/
def fnExactIsCayleyTableWrong : ChangeSpec := { name := "fnExactIsCayleyTable", fn := fun _ => fun
  | [d] => { results := [.lit (.bool false)], args := [d] }
  | _ => none }
def FnExactIsCayleyTableWrongFalsely : Prop := fnExactIsCayleyTableRow.holds Try.pinned (OpenSpec.ofChange fnExactIsCayleyTableWrong)

/-- 'laws.FnExactRelationTable': WHATEVER THE INPUT: true; the input reads as it did. -/
def fnExactRelationTableSpec : ChangeSpec := { name := "fnExactRelationTable", fn := fun _ => fun
  | [d] => { results := [.lit (.bool true)], args := [d] }
  | _ => none }
def fnExactRelationTableRow : OpenClaim := { program := "ytdjpljnpaidfcaa", sum := "916d21375fd423686271f1bf2550fcca15bd62ec49a6ed9f9fa523b47fec5fce", func := "loop.example/g01076/laws.FnExactRelationTable", spec := "fnExactRelationTable", apart := false }
def FnExactRelationTableSaid : Prop := fnExactRelationTableRow.holds Try.pinned (OpenSpec.ofChange fnExactRelationTableSpec)

/-- ITS FALSE NEIGHBOUR: 'it returns false'. Refute it at one input. -/
def fnExactRelationTableWrong : ChangeSpec := { name := "fnExactRelationTable", fn := fun _ => fun
  | [d] => { results := [.lit (.bool false)], args := [d] }
  | _ => none }
def FnExactRelationTableWrongFalsely : Prop := fnExactRelationTableRow.holds Try.pinned (OpenSpec.ofChange fnExactRelationTableWrong)

/-- 'laws.FnExactAbelianRing': WHATEVER THE INPUT: true; the input reads as it did. -/
def fnExactAbelianRingSpec : ChangeSpec := { name := "fnExactAbelianRing", fn := fun _ => fun
  | [d1, d2] => { results := [.lit (.bool true)], args := [d1, d2] }
  | _ => none }
def fnExactAbelianRingRow : OpenClaim := { program := "ytdjpljnpaidfcaa", sum := "916d21375fd423686271f1bf2550fcca15bd62ec49a6ed9f9fa523b47fec5fce", func := "loop.example/g01076/laws.FnExactAbelianRing", spec := "fnExactAbelianRing", apart := false }
def FnExactAbelianRingSaid : Prop := fnExactAbelianRingRow.holds Try.pinned (OpenSpec.ofChange fnExactAbelianRingSpec)

/-- ITS FALSE NEIGHBOUR: 'it returns false'. Refute it at one input. -/
def fnExactAbelianRingWrong : ChangeSpec := { name := "fnExactAbelianRing", fn := fun _ => fun
  | [d1, d2] => { results := [.lit (.bool false)], args := [d1, d2] }
  | _ => none }
def FnExactAbelianRingWrongFalsely : Prop := fnExactAbelianRingRow.holds Try.pinned (OpenSpec.ofChange fnExactAbelianRingWrong)

/-- 'laws.FnExactSumRings': WHATEVER THE INPUT: true; the input reads as it did. -/
def fnExactSumRingsSpec : ChangeSpec := { name := "fnExactSumRings", fn := fun _ => fun
  | [d1, d2] => { results := [.lit (.bool true)], args := [d1, d2] }
  | _ => none }
def fnExactSumRingsRow : OpenClaim := { program := "ytdjpljnpaidfcaa", sum := "916d21375fd423686271f1bf2550fcca15bd62ec49a6ed9f9fa523b47fec5fce", func := "loop.example/g01076/laws.FnExactSumRings", spec := "fnExactSumRings", apart := false }
def FnExactSumRingsSaid : Prop := fnExactSumRingsRow.holds Try.pinned (OpenSpec.ofChange fnExactSumRingsSpec)

/-- ITS FALSE NEIGHBOUR: 'it returns false'. Refute it at one input. -/
def fnExactSumRingsWrong : ChangeSpec := { name := "fnExactSumRings", fn := fun _ => fun
  | [d1, d2] => { results := [.lit (.bool false)], args := [d1, d2] }
  | _ => none }
def FnExactSumRingsWrongFalsely : Prop := fnExactSumRingsRow.holds Try.pinned (OpenSpec.ofChange fnExactSumRingsWrong)

/-- 'laws.FnExactIsLieSpan': WHATEVER THE INPUT: true; the input reads as it did. -/
def fnExactIsLieSpanSpec : ChangeSpec := { name := "fnExactIsLieSpan", fn := fun _ => fun
  | [d1, d2] => { results := [.lit (.bool true)], args := [d1, d2] }
  | _ => none }
def fnExactIsLieSpanRow : OpenClaim := { program := "ytdjpljnpaidfcaa", sum := "916d21375fd423686271f1bf2550fcca15bd62ec49a6ed9f9fa523b47fec5fce", func := "loop.example/g01076/laws.FnExactIsLieSpan", spec := "fnExactIsLieSpan", unfollowed := true, recurses := true, apart := false }
def FnExactIsLieSpanSaid : Prop := fnExactIsLieSpanRow.holds Try.pinned (OpenSpec.ofChange fnExactIsLieSpanSpec)

/-- ITS FALSE NEIGHBOUR: 'it returns false'. Refute it at one input. -/
def fnExactIsLieSpanWrong : ChangeSpec := { name := "fnExactIsLieSpan", fn := fun _ => fun
  | [d1, d2] => { results := [.lit (.bool false)], args := [d1, d2] }
  | _ => none }
def FnExactIsLieSpanWrongFalsely : Prop := fnExactIsLieSpanRow.holds Try.pinned (OpenSpec.ofChange fnExactIsLieSpanWrong)

/-- 'laws.FnExactIsInLie': WHATEVER THE INPUT: true; the input reads as it did. -/
def fnExactIsInLieSpec : ChangeSpec := { name := "fnExactIsInLie", fn := fun _ => fun
  | [d1, d2, d3] => { results := [.lit (.bool true)], args := [d1, d2, d3] }
  | _ => none }
def fnExactIsInLieRow : OpenClaim := { program := "ytdjpljnpaidfcaa", sum := "916d21375fd423686271f1bf2550fcca15bd62ec49a6ed9f9fa523b47fec5fce", func := "loop.example/g01076/laws.FnExactIsInLie", spec := "fnExactIsInLie", unfollowed := true, recurses := true, apart := false }
def FnExactIsInLieSaid : Prop := fnExactIsInLieRow.holds Try.pinned (OpenSpec.ofChange fnExactIsInLieSpec)

/-- ITS FALSE NEIGHBOUR: 'it returns false'. Refute it at one input. -/
def fnExactIsInLieWrong : ChangeSpec := { name := "fnExactIsInLie", fn := fun _ => fun
  | [d1, d2, d3] => { results := [.lit (.bool false)], args := [d1, d2, d3] }
  | _ => none }
def FnExactIsInLieWrongFalsely : Prop := fnExactIsInLieRow.holds Try.pinned (OpenSpec.ofChange fnExactIsInLieWrong)

/-- 'laws.FnExactLieSpan': WHATEVER THE INPUT: true; the input reads as it did. -/
def fnExactLieSpanSpec : ChangeSpec := { name := "fnExactLieSpan", fn := fun _ => fun
  | [d1, d2] => { results := [.lit (.bool true)], args := [d1, d2] }
  | _ => none }
def fnExactLieSpanRow : OpenClaim := { program := "ytdjpljnpaidfcaa", sum := "916d21375fd423686271f1bf2550fcca15bd62ec49a6ed9f9fa523b47fec5fce", func := "loop.example/g01076/laws.FnExactLieSpan", spec := "fnExactLieSpan", unfollowed := true, recurses := true, apart := false }
def FnExactLieSpanSaid : Prop := fnExactLieSpanRow.holds Try.pinned (OpenSpec.ofChange fnExactLieSpanSpec)

/-- ITS FALSE NEIGHBOUR: 'it returns false'. Refute it at one input. -/
def fnExactLieSpanWrong : ChangeSpec := { name := "fnExactLieSpan", fn := fun _ => fun
  | [d1, d2] => { results := [.lit (.bool false)], args := [d1, d2] }
  | _ => none }
def FnExactLieSpanWrongFalsely : Prop := fnExactLieSpanRow.holds Try.pinned (OpenSpec.ofChange fnExactLieSpanWrong)

/-- 'laws.FnExactReduceLie': WHATEVER THE INPUT: true; the input reads as it did. -/
def fnExactReduceLieSpec : ChangeSpec := { name := "fnExactReduceLie", fn := fun _ => fun
  | [d1, d2, d3] => { results := [.lit (.bool true)], args := [d1, d2, d3] }
  | _ => none }
def fnExactReduceLieRow : OpenClaim := { program := "ytdjpljnpaidfcaa", sum := "916d21375fd423686271f1bf2550fcca15bd62ec49a6ed9f9fa523b47fec5fce", func := "loop.example/g01076/laws.FnExactReduceLie", spec := "fnExactReduceLie", unfollowed := true, recurses := true, apart := false }
def FnExactReduceLieSaid : Prop := fnExactReduceLieRow.holds Try.pinned (OpenSpec.ofChange fnExactReduceLieSpec)

/-- ITS FALSE NEIGHBOUR: 'it returns false'. Refute it at one input. -/
def fnExactReduceLieWrong : ChangeSpec := { name := "fnExactReduceLie", fn := fun _ => fun
  | [d1, d2, d3] => { results := [.lit (.bool false)], args := [d1, d2, d3] }
  | _ => none }
def FnExactReduceLieWrongFalsely : Prop := fnExactReduceLieRow.holds Try.pinned (OpenSpec.ofChange fnExactReduceLieWrong)

/-- 'laws.FnExactIsSubring': WHATEVER THE INPUT: true; the input reads as it did. -/
def fnExactIsSubringSpec : ChangeSpec := { name := "fnExactIsSubring", fn := fun _ => fun
  | [d1, d2] => { results := [.lit (.bool true)], args := [d1, d2] }
  | _ => none }
def fnExactIsSubringRow : OpenClaim := { program := "ytdjpljnpaidfcaa", sum := "916d21375fd423686271f1bf2550fcca15bd62ec49a6ed9f9fa523b47fec5fce", func := "loop.example/g01076/laws.FnExactIsSubring", spec := "fnExactIsSubring", unfollowed := true, recurses := true, apart := false }
def FnExactIsSubringSaid : Prop := fnExactIsSubringRow.holds Try.pinned (OpenSpec.ofChange fnExactIsSubringSpec)

/-- ITS FALSE NEIGHBOUR: 'it returns false'. Refute it at one input. -/
def fnExactIsSubringWrong : ChangeSpec := { name := "fnExactIsSubring", fn := fun _ => fun
  | [d1, d2] => { results := [.lit (.bool false)], args := [d1, d2] }
  | _ => none }
def FnExactIsSubringWrongFalsely : Prop := fnExactIsSubringRow.holds Try.pinned (OpenSpec.ofChange fnExactIsSubringWrong)

/-- 'laws.FnExactIsIdeal': WHATEVER THE INPUT: true; the input reads as it did. -/
def fnExactIsIdealSpec : ChangeSpec := { name := "fnExactIsIdeal", fn := fun _ => fun
  | [d1, d2] => { results := [.lit (.bool true)], args := [d1, d2] }
  | _ => none }
def fnExactIsIdealRow : OpenClaim := { program := "ytdjpljnpaidfcaa", sum := "916d21375fd423686271f1bf2550fcca15bd62ec49a6ed9f9fa523b47fec5fce", func := "loop.example/g01076/laws.FnExactIsIdeal", spec := "fnExactIsIdeal", unfollowed := true, recurses := true, apart := false }
def FnExactIsIdealSaid : Prop := fnExactIsIdealRow.holds Try.pinned (OpenSpec.ofChange fnExactIsIdealSpec)

/-- ITS FALSE NEIGHBOUR: 'it returns false'. Refute it at one input. -/
def fnExactIsIdealWrong : ChangeSpec := { name := "fnExactIsIdeal", fn := fun _ => fun
  | [d1, d2] => { results := [.lit (.bool false)], args := [d1, d2] }
  | _ => none }
def FnExactIsIdealWrongFalsely : Prop := fnExactIsIdealRow.holds Try.pinned (OpenSpec.ofChange fnExactIsIdealWrong)

/-- 'laws.FnExactBracketLie': WHATEVER THE INPUT: true; the input reads as it did. -/
def fnExactBracketLieSpec : ChangeSpec := { name := "fnExactBracketLie", fn := fun _ => fun
  | [d1, d2, d3] => { results := [.lit (.bool true)], args := [d1, d2, d3] }
  | _ => none }
def fnExactBracketLieRow : OpenClaim := { program := "ytdjpljnpaidfcaa", sum := "916d21375fd423686271f1bf2550fcca15bd62ec49a6ed9f9fa523b47fec5fce", func := "loop.example/g01076/laws.FnExactBracketLie", spec := "fnExactBracketLie", unfollowed := true, recurses := true, apart := false }
def FnExactBracketLieSaid : Prop := fnExactBracketLieRow.holds Try.pinned (OpenSpec.ofChange fnExactBracketLieSpec)

/-- ITS FALSE NEIGHBOUR: 'it returns false'. Refute it at one input. -/
def fnExactBracketLieWrong : ChangeSpec := { name := "fnExactBracketLie", fn := fun _ => fun
  | [d1, d2, d3] => { results := [.lit (.bool false)], args := [d1, d2, d3] }
  | _ => none }
def FnExactBracketLieWrongFalsely : Prop := fnExactBracketLieRow.holds Try.pinned (OpenSpec.ofChange fnExactBracketLieWrong)

/- THE SECOND FORM. 'bulk': how many values and letters a reading holds, each counted each time it is reached (what is shared counts as often as it is met; a slice's spare places count too). A statement '..UptoSaid' is the law's where the arguments, and the package variables that the reading takes, are together of bulk at most 1048576: NARROWER than '..Said'. Prove '..Said' where nothing that the law and all that it calls make is longer than what came in: it says more and counts as full. Else prove '..UptoSaid'. A law counts once. -/
mutual
def uptoBulk {H : Type} : DataW H → Nat
  | .lit (.string bytes) => bytes.length + 1
  | .lit _ => 1
  | .nil => 1
  | .ptr d => uptoBulk d + 1
  | .slice elems spare => uptoBulkAll elems + uptoBulkAll spare + 1
  | .agg parts => uptoBulkAll parts + 1
  | .iface _ d => uptoBulk d + 1
  | .map entries => uptoBulkEntries entries + 1
  | .held _ => 1
def uptoBulkAll {H : Type} : List (DataW H) → Nat
  | [] => 0
  | d :: r => uptoBulk d + uptoBulkAll r
def uptoBulkEntries {H : Type} : List (Lit × DataW H) → Nat
  | [] => 0
  | x :: r => uptoBulkEntry x + uptoBulkEntries r
def uptoBulkEntry {H : Type} : Lit × DataW H → Nat
  | (.string bytes, d) => bytes.length + uptoBulk d + 1
  | (_, d) => uptoBulk d + 1
 end
def uptoSmall : (H : Type) → List (DataW H) → Bool := fun _ ds => decide (uptoBulkAll ds ≤ 1048576)
def OpenSpec.upto (s : _root_.Go.ChangeSpec) : _root_.Go.OpenSpec := { _root_.Go.OpenSpec.ofChange s with cond := some uptoSmall }

/-- 'laws.FnExactIsFpGroup', WHERE WHAT IT READS IS OF BULK AT MOST 1048576: true; the input reads as it did. -/
def fnExactIsFpGroupUptoRow : OpenClaim := { program := "ytdjpljnpaidfcaa", sum := "916d21375fd423686271f1bf2550fcca15bd62ec49a6ed9f9fa523b47fec5fce", func := "loop.example/g01076/laws.FnExactIsFpGroup", spec := "fnExactIsFpGroup", apart := false, narrowed := true }
def FnExactIsFpGroupUptoSaid : Prop := fnExactIsFpGroupUptoRow.holds Try.pinned (OpenSpec.upto fnExactIsFpGroupSpec)

/-- 'laws.FnExactIsCayleyTable', WHERE WHAT IT READS IS OF BULK AT MOST 1048576: true; the input reads as it did. -/
def fnExactIsCayleyTableUptoRow : OpenClaim := { program := "ytdjpljnpaidfcaa", sum := "916d21375fd423686271f1bf2550fcca15bd62ec49a6ed9f9fa523b47fec5fce", func := "loop.example/g01076/laws.FnExactIsCayleyTable", spec := "fnExactIsCayleyTable", apart := false, narrowed := true }
def FnExactIsCayleyTableUptoSaid : Prop := fnExactIsCayleyTableUptoRow.holds Try.pinned (OpenSpec.upto fnExactIsCayleyTableSpec)

/-- 'laws.FnExactRelationTable', WHERE WHAT IT READS IS OF BULK AT MOST 1048576: true; the input reads as it did. -/
def fnExactRelationTableUptoRow : OpenClaim := { program := "ytdjpljnpaidfcaa", sum := "916d21375fd423686271f1bf2550fcca15bd62ec49a6ed9f9fa523b47fec5fce", func := "loop.example/g01076/laws.FnExactRelationTable", spec := "fnExactRelationTable", apart := false, narrowed := true }
def FnExactRelationTableUptoSaid : Prop := fnExactRelationTableUptoRow.holds Try.pinned (OpenSpec.upto fnExactRelationTableSpec)

/-- 'laws.FnExactAbelianRing', WHERE WHAT IT READS IS OF BULK AT MOST 1048576: true; the input reads as it did. -/
def fnExactAbelianRingUptoRow : OpenClaim := { program := "ytdjpljnpaidfcaa", sum := "916d21375fd423686271f1bf2550fcca15bd62ec49a6ed9f9fa523b47fec5fce", func := "loop.example/g01076/laws.FnExactAbelianRing", spec := "fnExactAbelianRing", apart := false, narrowed := true }
def FnExactAbelianRingUptoSaid : Prop := fnExactAbelianRingUptoRow.holds Try.pinned (OpenSpec.upto fnExactAbelianRingSpec)

/-- 'laws.FnExactSumRings', WHERE WHAT IT READS IS OF BULK AT MOST 1048576: true; the input reads as it did. -/
def fnExactSumRingsUptoRow : OpenClaim := { program := "ytdjpljnpaidfcaa", sum := "916d21375fd423686271f1bf2550fcca15bd62ec49a6ed9f9fa523b47fec5fce", func := "loop.example/g01076/laws.FnExactSumRings", spec := "fnExactSumRings", apart := false, narrowed := true }
def FnExactSumRingsUptoSaid : Prop := fnExactSumRingsUptoRow.holds Try.pinned (OpenSpec.upto fnExactSumRingsSpec)

/-- 'laws.FnExactIsLieSpan', WHERE WHAT IT READS IS OF BULK AT MOST 1048576: true; the input reads as it did. -/
def fnExactIsLieSpanUptoRow : OpenClaim := { program := "ytdjpljnpaidfcaa", sum := "916d21375fd423686271f1bf2550fcca15bd62ec49a6ed9f9fa523b47fec5fce", func := "loop.example/g01076/laws.FnExactIsLieSpan", spec := "fnExactIsLieSpan", unfollowed := true, recurses := true, apart := false, narrowed := true }
def FnExactIsLieSpanUptoSaid : Prop := fnExactIsLieSpanUptoRow.holds Try.pinned (OpenSpec.upto fnExactIsLieSpanSpec)

/-- 'laws.FnExactIsInLie', WHERE WHAT IT READS IS OF BULK AT MOST 1048576: true; the input reads as it did. -/
def fnExactIsInLieUptoRow : OpenClaim := { program := "ytdjpljnpaidfcaa", sum := "916d21375fd423686271f1bf2550fcca15bd62ec49a6ed9f9fa523b47fec5fce", func := "loop.example/g01076/laws.FnExactIsInLie", spec := "fnExactIsInLie", unfollowed := true, recurses := true, apart := false, narrowed := true }
def FnExactIsInLieUptoSaid : Prop := fnExactIsInLieUptoRow.holds Try.pinned (OpenSpec.upto fnExactIsInLieSpec)

/-- 'laws.FnExactLieSpan', WHERE WHAT IT READS IS OF BULK AT MOST 1048576: true; the input reads as it did. -/
def fnExactLieSpanUptoRow : OpenClaim := { program := "ytdjpljnpaidfcaa", sum := "916d21375fd423686271f1bf2550fcca15bd62ec49a6ed9f9fa523b47fec5fce", func := "loop.example/g01076/laws.FnExactLieSpan", spec := "fnExactLieSpan", unfollowed := true, recurses := true, apart := false, narrowed := true }
def FnExactLieSpanUptoSaid : Prop := fnExactLieSpanUptoRow.holds Try.pinned (OpenSpec.upto fnExactLieSpanSpec)

/-- 'laws.FnExactReduceLie', WHERE WHAT IT READS IS OF BULK AT MOST 1048576: true; the input reads as it did. -/
def fnExactReduceLieUptoRow : OpenClaim := { program := "ytdjpljnpaidfcaa", sum := "916d21375fd423686271f1bf2550fcca15bd62ec49a6ed9f9fa523b47fec5fce", func := "loop.example/g01076/laws.FnExactReduceLie", spec := "fnExactReduceLie", unfollowed := true, recurses := true, apart := false, narrowed := true }
def FnExactReduceLieUptoSaid : Prop := fnExactReduceLieUptoRow.holds Try.pinned (OpenSpec.upto fnExactReduceLieSpec)

/-- 'laws.FnExactIsSubring', WHERE WHAT IT READS IS OF BULK AT MOST 1048576: true; the input reads as it did. -/
def fnExactIsSubringUptoRow : OpenClaim := { program := "ytdjpljnpaidfcaa", sum := "916d21375fd423686271f1bf2550fcca15bd62ec49a6ed9f9fa523b47fec5fce", func := "loop.example/g01076/laws.FnExactIsSubring", spec := "fnExactIsSubring", unfollowed := true, recurses := true, apart := false, narrowed := true }
def FnExactIsSubringUptoSaid : Prop := fnExactIsSubringUptoRow.holds Try.pinned (OpenSpec.upto fnExactIsSubringSpec)

/-- 'laws.FnExactIsIdeal', WHERE WHAT IT READS IS OF BULK AT MOST 1048576: true; the input reads as it did. -/
def fnExactIsIdealUptoRow : OpenClaim := { program := "ytdjpljnpaidfcaa", sum := "916d21375fd423686271f1bf2550fcca15bd62ec49a6ed9f9fa523b47fec5fce", func := "loop.example/g01076/laws.FnExactIsIdeal", spec := "fnExactIsIdeal", unfollowed := true, recurses := true, apart := false, narrowed := true }
def FnExactIsIdealUptoSaid : Prop := fnExactIsIdealUptoRow.holds Try.pinned (OpenSpec.upto fnExactIsIdealSpec)

/-- 'laws.FnExactBracketLie', WHERE WHAT IT READS IS OF BULK AT MOST 1048576: true; the input reads as it did. -/
def fnExactBracketLieUptoRow : OpenClaim := { program := "ytdjpljnpaidfcaa", sum := "916d21375fd423686271f1bf2550fcca15bd62ec49a6ed9f9fa523b47fec5fce", func := "loop.example/g01076/laws.FnExactBracketLie", spec := "fnExactBracketLie", unfollowed := true, recurses := true, apart := false, narrowed := true }
def FnExactBracketLieUptoSaid : Prop := fnExactBracketLieUptoRow.holds Try.pinned (OpenSpec.upto fnExactBracketLieSpec)

end Rows
end Go.Proofs.Ytdjpljnpaidfcaa
