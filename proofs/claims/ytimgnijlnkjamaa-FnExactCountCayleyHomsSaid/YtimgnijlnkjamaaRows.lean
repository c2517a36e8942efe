/-
  No cell of these rows narrows 'for every input' (looked for: loops, veiled, ifaces, maps, wideKeys, modest, calm, conditions, laid).
  DERIVED. THE GIVEN ROWS OF THIS SEAT. 9 by the template 'for every input the law returns true; each argument reads behind the call as it read before'; 0 by the template 'total and deterministic' (their statements: YtimgnijlnkjamaaTotals.lean).
  GIVEN WITH THE SEED: the statements are not yours to turn. If you find one false, say at which input.
  Laid BY PROGRAM, IN A SANDBOX (cutbox-rows.mjs): the forced cells as the released guide's own fill.sh prints them over the translation f23ce8f300066909… (all of the seat's roots in one cut). By AI agents, Wed Nov 11 2026. No macro, syntax, notation, axiom, sorry.
-/
import Derived.Test.YtimgnijlnkjamaaChecked
import GoSem.Claim
import GoSem.ClaimJoined
import GoSem.ClaimMapViews
import Derived.JoinedTies
import Derived.KernelRfl
namespace Go.Proofs.Ytimgnijlnkjamaa
/- THE CELL 'sum', in the pinned program and in every row, IS THE sha256 OF THE DUMP (.gsa) THAT YtimgnijlnkjamaaProg.lean LOADS. Nothing in Lean hashes anything: it is a label: what it is worth is what the hold of that sum in a sandbox is worth. -/
noncomputable def Try.pinned : Pinned := { name := "ytimgnijlnkjamaa", sum := "f23ce8f300066909abe106a36445daba2d57c9b81506f0e361b400a1f02fad16", checked := Try.checked }
namespace Rows
def none {H : Type} : Left H := { results := [], args := [] }

/-- 'laws.FnExactRelationTable': WHATEVER THE INPUT: true; the input reads as it did. -/
def fnExactRelationTableSpec : ChangeSpec := { name := "fnExactRelationTable", fn := fun _ => fun
  | [d] => { results := [.lit (.bool true)], args := [d] }
  | _ => none }
def fnExactRelationTableRow : OpenClaim := { program := "ytimgnijlnkjamaa", sum := "f23ce8f300066909abe106a36445daba2d57c9b81506f0e361b400a1f02fad16", func := "loop.example/g01076/laws.FnExactRelationTable", spec := "fnExactRelationTable", apart := false }
def FnExactRelationTableSaid : Prop := fnExactRelationTableRow.holds Try.pinned (OpenSpec.ofChange fnExactRelationTableSpec)

/-- ITS FALSE NEIGHBOUR: 'it returns false'. Refute it at one input. -/
def fnExactRelationTableWrong : ChangeSpec := { name := "fnExactRelationTable", fn := fun _ => fun
  | [d] => { results := [.lit (.bool false)], args := [d] }
  | _ => none }
def FnExactRelationTableWrongFalsely : Prop := fnExactRelationTableRow.holds Try.pinned (OpenSpec.ofChange fnExactRelationTableWrong)

/-- 'laws.FnExactFpOfPresentation': WHATEVER THE INPUT: true; the input reads as it did. -/
def fnExactFpOfPresentationSpec : ChangeSpec := { name := "fnExactFpOfPresentation", fn := fun _ => fun
  | [d] => { results := [.lit (.bool true)], args := [d] }
  | _ => none }
def fnExactFpOfPresentationRow : OpenClaim := { program := "ytimgnijlnkjamaa", sum := "f23ce8f300066909abe106a36445daba2d57c9b81506f0e361b400a1f02fad16", func := "loop.example/g01076/laws.FnExactFpOfPresentation", spec := "fnExactFpOfPresentation", apart := false }
def FnExactFpOfPresentationSaid : Prop := fnExactFpOfPresentationRow.holds Try.pinned (OpenSpec.ofChange fnExactFpOfPresentationSpec)

/-- ITS FALSE NEIGHBOUR: 'it returns false'. Refute it at one input. -/
def fnExactFpOfPresentationWrong : ChangeSpec := { name := "fnExactFpOfPresentation", fn := fun _ => fun
  | [d] => { results := [.lit (.bool false)], args := [d] }
  | _ => none }
def FnExactFpOfPresentationWrongFalsely : Prop := fnExactFpOfPresentationRow.holds Try.pinned (OpenSpec.ofChange fnExactFpOfPresentationWrong)

/-- 'laws.FnExactIsPGroup': WHATEVER THE INPUT: true; the input reads as it did. -/
def fnExactIsPGroupSpec : ChangeSpec := { name := "fnExactIsPGroup", fn := fun _ => fun
  | [d] => { results := [.lit (.bool true)], args := [d] }
  | _ => none }
def fnExactIsPGroupRow : OpenClaim := { program := "ytimgnijlnkjamaa", sum := "f23ce8f300066909abe106a36445daba2d57c9b81506f0e361b400a1f02fad16", func := "loop.example/g01076/laws.FnExactIsPGroup", spec := "fnExactIsPGroup", recurses := true, apart := false }
def FnExactIsPGroupSaid : Prop := fnExactIsPGroupRow.holds Try.pinned (OpenSpec.ofChange fnExactIsPGroupSpec)

/-- ITS FALSE NEIGHBOUR: 'it returns false'. Refute it at one input. -/
def fnExactIsPGroupWrong : ChangeSpec := { name := "fnExactIsPGroup", fn := fun _ => fun
  | [d] => { results := [.lit (.bool false)], args := [d] }
  | _ => none }
def FnExactIsPGroupWrongFalsely : Prop := fnExactIsPGroupRow.holds Try.pinned (OpenSpec.ofChange fnExactIsPGroupWrong)

/-- 'laws.FnExactIsFpHom': WHATEVER THE INPUT: true; the input reads as it did. -/
def fnExactIsFpHomSpec : ChangeSpec := { name := "fnExactIsFpHom", fn := fun _ => fun
  | [d1, d2, d3] => { results := [.lit (.bool true)], args := [d1, d2, d3] }
  | _ => none }
def fnExactIsFpHomRow : OpenClaim := { program := "ytimgnijlnkjamaa", sum := "f23ce8f300066909abe106a36445daba2d57c9b81506f0e361b400a1f02fad16", func := "loop.example/g01076/laws.FnExactIsFpHom", spec := "fnExactIsFpHom", recurses := true, apart := false }
def FnExactIsFpHomSaid : Prop := fnExactIsFpHomRow.holds Try.pinned (OpenSpec.ofChange fnExactIsFpHomSpec)

/-- ITS FALSE NEIGHBOUR: 'it returns false'. Refute it at one input. -/
def fnExactIsFpHomWrong : ChangeSpec := { name := "fnExactIsFpHom", fn := fun _ => fun
  | [d1, d2, d3] => { results := [.lit (.bool false)], args := [d1, d2, d3] }
  | _ => none }
def FnExactIsFpHomWrongFalsely : Prop := fnExactIsFpHomRow.holds Try.pinned (OpenSpec.ofChange fnExactIsFpHomWrong)

/-- 'laws.FnExactIsCayleyHom': WHATEVER THE INPUT: true; the input reads as it did. -/
def fnExactIsCayleyHomSpec : ChangeSpec := { name := "fnExactIsCayleyHom", fn := fun _ => fun
  | [d1, d2, d3] => { results := [.lit (.bool true)], args := [d1, d2, d3] }
  | _ => none }
def fnExactIsCayleyHomRow : OpenClaim := { program := "ytimgnijlnkjamaa", sum := "f23ce8f300066909abe106a36445daba2d57c9b81506f0e361b400a1f02fad16", func := "loop.example/g01076/laws.FnExactIsCayleyHom", spec := "fnExactIsCayleyHom", recurses := true, apart := false }
def FnExactIsCayleyHomSaid : Prop := fnExactIsCayleyHomRow.holds Try.pinned (OpenSpec.ofChange fnExactIsCayleyHomSpec)

/-- ITS FALSE NEIGHBOUR: 'it returns false'. Refute it at one input. -/
def fnExactIsCayleyHomWrong : ChangeSpec := { name := "fnExactIsCayleyHom", fn := fun _ => fun
  | [d1, d2, d3] => { results := [.lit (.bool false)], args := [d1, d2, d3] }
  | _ => none }
def FnExactIsCayleyHomWrongFalsely : Prop := fnExactIsCayleyHomRow.holds Try.pinned (OpenSpec.ofChange fnExactIsCayleyHomWrong)

/-- 'laws.FnExactCountFpHoms': WHATEVER THE INPUT: true; the input reads as it did. -/
def fnExactCountFpHomsSpec : ChangeSpec := { name := "fnExactCountFpHoms", fn := fun _ => fun
  | [d1, d2] => { results := [.lit (.bool true)], args := [d1, d2] }
  | _ => none }
def fnExactCountFpHomsRow : OpenClaim := { program := "ytimgnijlnkjamaa", sum := "f23ce8f300066909abe106a36445daba2d57c9b81506f0e361b400a1f02fad16", func := "loop.example/g01076/laws.FnExactCountFpHoms", spec := "fnExactCountFpHoms", unfollowed := true, recurses := true, apart := false }
def FnExactCountFpHomsSaid : Prop := fnExactCountFpHomsRow.holds Try.pinned (OpenSpec.ofChange fnExactCountFpHomsSpec)

/-- ITS FALSE NEIGHBOUR: 'it returns false'. Refute it at one input. -/
def fnExactCountFpHomsWrong : ChangeSpec := { name := "fnExactCountFpHoms", fn := fun _ => fun
  | [d1, d2] => { results := [.lit (.bool false)], args := [d1, d2] }
  | _ => none }
def FnExactCountFpHomsWrongFalsely : Prop := fnExactCountFpHomsRow.holds Try.pinned (OpenSpec.ofChange fnExactCountFpHomsWrong)

/-- 'laws.FnExactCountCayleyHoms': WHATEVER THE INPUT: true; the input reads as it did. -/
def fnExactCountCayleyHomsSpec : ChangeSpec := { name := "fnExactCountCayleyHoms", fn := fun _ => fun
  | [d1, d2] => { results := [.lit (.bool true)], args := [d1, d2] }
  | _ => none }
def fnExactCountCayleyHomsRow : OpenClaim := { program := "ytimgnijlnkjamaa", sum := "f23ce8f300066909abe106a36445daba2d57c9b81506f0e361b400a1f02fad16", func := "loop.example/g01076/laws.FnExactCountCayleyHoms", spec := "fnExactCountCayleyHoms", unfollowed := true, recurses := true, apart := false }
def FnExactCountCayleyHomsSaid : Prop := fnExactCountCayleyHomsRow.holds Try.pinned (OpenSpec.ofChange fnExactCountCayleyHomsSpec)

/-- ITS FALSE NEIGHBOUR: 'it returns false'. Refute it at one input. -/
def fnExactCountCayleyHomsWrong : ChangeSpec := { name := "fnExactCountCayleyHoms", fn := fun _ => fun
  | [d1, d2] => { results := [.lit (.bool false)], args := [d1, d2] }
  | _ => none }
def FnExactCountCayleyHomsWrongFalsely : Prop := fnExactCountCayleyHomsRow.holds Try.pinned (OpenSpec.ofChange fnExactCountCayleyHomsWrong)

/-- 'laws.FnExactCayleyTable': WHATEVER THE INPUT: true; the input reads as it did. -/
def fnExactCayleyTableSpec : ChangeSpec := { name := "fnExactCayleyTable", fn := fun _ => fun
  | [d1, d2] => { results := [.lit (.bool true)], args := [d1, d2] }
  | _ => none }
def fnExactCayleyTableRow : OpenClaim := { program := "ytimgnijlnkjamaa", sum := "f23ce8f300066909abe106a36445daba2d57c9b81506f0e361b400a1f02fad16", func := "loop.example/g01076/laws.FnExactCayleyTable", spec := "fnExactCayleyTable", unfollowed := true, recurses := true, apart := false }
def FnExactCayleyTableSaid : Prop := fnExactCayleyTableRow.holds Try.pinned (OpenSpec.ofChange fnExactCayleyTableSpec)

/-- ITS FALSE NEIGHBOUR: 'it returns false'. Refute it at one input. -/
def fnExactCayleyTableWrong : ChangeSpec := { name := "fnExactCayleyTable", fn := fun _ => fun
  | [d1, d2] => { results := [.lit (.bool false)], args := [d1, d2] }
  | _ => none }
def FnExactCayleyTableWrongFalsely : Prop := fnExactCayleyTableRow.holds Try.pinned (OpenSpec.ofChange fnExactCayleyTableWrong)

/-- 'laws.FnExactExponentClass': WHATEVER THE INPUT: true; the input reads as it did. -/
def fnExactExponentClassSpec : ChangeSpec := { name := "fnExactExponentClass", fn := fun _ => fun
  | [d] => { results := [.lit (.bool true)], args := [d] }
  | _ => none }
def fnExactExponentClassRow : OpenClaim := { program := "ytimgnijlnkjamaa", sum := "f23ce8f300066909abe106a36445daba2d57c9b81506f0e361b400a1f02fad16", func := "loop.example/g01076/laws.FnExactExponentClass", spec := "fnExactExponentClass", unfollowed := true, recurses := true, apart := false }
def FnExactExponentClassSaid : Prop := fnExactExponentClassRow.holds Try.pinned (OpenSpec.ofChange fnExactExponentClassSpec)

/-- ITS FALSE NEIGHBOUR: 'it returns false'. Refute it at one input. -/
def fnExactExponentClassWrong : ChangeSpec := { name := "fnExactExponentClass", fn := fun _ => fun
  | [d] => { results := [.lit (.bool false)], args := [d] }
  | _ => none }
def FnExactExponentClassWrongFalsely : Prop := fnExactExponentClassRow.holds Try.pinned (OpenSpec.ofChange fnExactExponentClassWrong)

/- THE SECOND FORM. 'bulk': how many values and letters a reading holds, each counted each time it is reached (what is shared counts as often as it is met; a slice's spare places count too). A statement '..UptoSaid' is the law's where the arguments, and the package variables that the reading takes, are together of bulk at most 1048576: NARROWER than '..Said'. Prove '..Said' where nothing that the law and all that it calls make is longer than what came in: it says more and counts as full. Else prove '..UptoSaid'. A law counts once. -/
mutual
def uptoBulk {H : Type} : DataW H → Nat
  | .lit (.string bytes) => bytes.length + 1
  | .lit _ => 1
  | .nil => 1
  | .ptr d => uptoBulk d + 1
  | .slice elems spare => uptoBulkAll elems + uptoBulkAll spare + 1
  | .agg parts => uptoBulkAll parts + 1
  | .iface _ d => uptoBulk d + 1
  | .map entries => uptoBulkEntries entries + 1
  | .held _ => 1
def uptoBulkAll {H : Type} : List (DataW H) → Nat
  | [] => 0
  | d :: r => uptoBulk d + uptoBulkAll r
def uptoBulkEntries {H : Type} : List (Lit × DataW H) → Nat
  | [] => 0
  | x :: r => uptoBulkEntry x + uptoBulkEntries r
def uptoBulkEntry {H : Type} : Lit × DataW H → Nat
  | (.string bytes, d) => bytes.length + uptoBulk d + 1
  | (_, d) => uptoBulk d + 1
 end
def uptoSmall : (H : Type) → List (DataW H) → Bool := fun _ ds => decide (uptoBulkAll ds ≤ 1048576)
def OpenSpec.upto (s : _root_.Go.ChangeSpec) : _root_.Go.OpenSpec := { _root_.Go.OpenSpec.ofChange s with cond := some uptoSmall }

/-- 'laws.FnExactRelationTable', WHERE WHAT IT READS IS OF BULK AT MOST 1048576: true; the input reads as it did. -/
def fnExactRelationTableUptoRow : OpenClaim := { program := "ytimgnijlnkjamaa", sum := "f23ce8f300066909abe106a36445daba2d57c9b81506f0e361b400a1f02fad16", func := "loop.example/g01076/laws.FnExactRelationTable", spec := "fnExactRelationTable", apart := false, narrowed := true }
def FnExactRelationTableUptoSaid : Prop := fnExactRelationTableUptoRow.holds Try.pinned (OpenSpec.upto fnExactRelationTableSpec)

/-- 'laws.FnExactFpOfPresentation', WHERE WHAT IT READS IS OF BULK AT MOST 1048576: true; the input reads as it did. -/
def fnExactFpOfPresentationUptoRow : OpenClaim := { program := "ytimgnijlnkjamaa", sum := "f23ce8f300066909abe106a36445daba2d57c9b81506f0e361b400a1f02fad16", func := "loop.example/g01076/laws.FnExactFpOfPresentation", spec := "fnExactFpOfPresentation", apart := false, narrowed := true }
def FnExactFpOfPresentationUptoSaid : Prop := fnExactFpOfPresentationUptoRow.holds Try.pinned (OpenSpec.upto fnExactFpOfPresentationSpec)

/-- 'laws.FnExactIsPGroup', WHERE WHAT IT READS IS OF BULK AT MOST 1048576: true; the input reads as it did. -/
def fnExactIsPGroupUptoRow : OpenClaim := { program := "ytimgnijlnkjamaa", sum := "f23ce8f300066909abe106a36445daba2d57c9b81506f0e361b400a1f02fad16", func := "loop.example/g01076/laws.FnExactIsPGroup", spec := "fnExactIsPGroup", recurses := true, apart := false, narrowed := true }
def FnExactIsPGroupUptoSaid : Prop := fnExactIsPGroupUptoRow.holds Try.pinned (OpenSpec.upto fnExactIsPGroupSpec)

/-- 'laws.FnExactIsFpHom', WHERE WHAT IT READS IS OF BULK AT MOST 1048576: true; the input reads as it did. -/
def fnExactIsFpHomUptoRow : OpenClaim := { program := "ytimgnijlnkjamaa", sum := "f23ce8f300066909abe106a36445daba2d57c9b81506f0e361b400a1f02fad16", func := "loop.example/g01076/laws.FnExactIsFpHom", spec := "fnExactIsFpHom", recurses := true, apart := false, narrowed := true }
def FnExactIsFpHomUptoSaid : Prop := fnExactIsFpHomUptoRow.holds Try.pinned (OpenSpec.upto fnExactIsFpHomSpec)

/-- 'laws.FnExactIsCayleyHom', WHERE WHAT IT READS IS OF BULK AT MOST 1048576: true; the input reads as it did. -/
def fnExactIsCayleyHomUptoRow : OpenClaim := { program := "ytimgnijlnkjamaa", sum := "f23ce8f300066909abe106a36445daba2d57c9b81506f0e361b400a1f02fad16", func := "loop.example/g01076/laws.FnExactIsCayleyHom", spec := "fnExactIsCayleyHom", recurses := true, apart := false, narrowed := true }
def FnExactIsCayleyHomUptoSaid : Prop := fnExactIsCayleyHomUptoRow.holds Try.pinned (OpenSpec.upto fnExactIsCayleyHomSpec)

/-- 'laws.FnExactCountFpHoms', WHERE WHAT IT READS IS OF BULK AT MOST 1048576: true; the input reads as it did. -/
def fnExactCountFpHomsUptoRow : OpenClaim := { program := "ytimgnijlnkjamaa", sum := "f23ce8f300066909abe106a36445daba2d57c9b81506f0e361b400a1f02fad16", func := "loop.example/g01076/laws.FnExactCountFpHoms", spec := "fnExactCountFpHoms", unfollowed := true, recurses := true, apart := false, narrowed := true }
def FnExactCountFpHomsUptoSaid : Prop := fnExactCountFpHomsUptoRow.holds Try.pinned (OpenSpec.upto fnExactCountFpHomsSpec)

/-- 'laws.FnExactCountCayleyHoms', WHERE WHAT IT READS IS OF BULK AT MOST 1048576: true; the input reads as it did. -/
def fnExactCountCayleyHomsUptoRow : OpenClaim := { program := "ytimgnijlnkjamaa", sum := "f23ce8f300066909abe106a36445daba2d57c9b81506f0e361b400a1f02fad16", func := "loop.example/g01076/laws.FnExactCountCayleyHoms", spec := "fnExactCountCayleyHoms", unfollowed := true, recurses := true, apart := false, narrowed := true }
def FnExactCountCayleyHomsUptoSaid : Prop := fnExactCountCayleyHomsUptoRow.holds Try.pinned (OpenSpec.upto fnExactCountCayleyHomsSpec)

/-- 'laws.FnExactCayleyTable', WHERE WHAT IT READS IS OF BULK AT MOST 1048576: true; the input reads as it did. -/
def fnExactCayleyTableUptoRow : OpenClaim := { program := "ytimgnijlnkjamaa", sum := "f23ce8f300066909abe106a36445daba2d57c9b81506f0e361b400a1f02fad16", func := "loop.example/g01076/laws.FnExactCayleyTable", spec := "fnExactCayleyTable", unfollowed := true, recurses := true, apart := false, narrowed := true }
def FnExactCayleyTableUptoSaid : Prop := fnExactCayleyTableUptoRow.holds Try.pinned (OpenSpec.upto fnExactCayleyTableSpec)

/-- 'laws.FnExactExponentClass', WHERE WHAT IT READS IS OF BULK AT MOST 1048576: true; the input reads as it did. -/
def fnExactExponentClassUptoRow : OpenClaim := { program := "ytimgnijlnkjamaa", sum := "f23ce8f300066909abe106a36445daba2d57c9b81506f0e361b400a1f02fad16", func := "loop.example/g01076/laws.FnExactExponentClass", spec := "fnExactExponentClass", unfollowed := true, recurses := true, apart := false, narrowed := true }
def FnExactExponentClassUptoSaid : Prop := fnExactExponentClassUptoRow.holds Try.pinned (OpenSpec.upto fnExactExponentClassSpec)

end Rows
end Go.Proofs.Ytimgnijlnkjamaa
