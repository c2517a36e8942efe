/-
  No cell of these rows narrows 'for every input' (looked for: loops, veiled, ifaces, maps, wideKeys, modest, calm, conditions, laid).
  DERIVED. THE GIVEN ROWS OF THIS SEAT. 12 by the template 'for every input the law returns true; each argument reads behind the call as it read before'; 0 by the template 'total and deterministic' (their statements: YtgeoogndonghmaaTotals.lean).
  GIVEN WITH THE SEED: the statements are not yours to turn. If you find one false, say at which input.
  Laid BY PROGRAM, IN A SANDBOX (cutbox-rows.mjs): the forced cells as the released guide's own fill.sh prints them over the translation 1e27bf69f8825c3a… (all of the seat's roots in one cut). By AI agents, Wed Nov 11 2026. No macro, syntax, notation, axiom, sorry.
-/
import Derived.Test.YtgeoogndonghmaaChecked
import GoSem.Claim
import GoSem.ClaimJoined
import GoSem.ClaimMapViews
import Derived.JoinedTies
import Derived.KernelRfl
namespace Go.Proofs.Ytgeoogndonghmaa
/- THE CELL 'sum', in the pinned program and in every row, IS THE sha256 OF THE DUMP (.gsa) THAT YtgeoogndonghmaaProg.lean LOADS. Nothing in Lean hashes anything: it is a label: what it is worth is what the hold of that sum in a sandbox is worth. -/
noncomputable def Try.pinned : Pinned := { name := "ytgeoogndonghmaa", sum := "1e27bf69f8825c3a7ad76ae0025c585b9d1ccfa241aa740d9b5b7ff56bb8e08c", checked := Try.checked }
namespace Rows
def none {H : Type} : Left H := { results := [], args := [] }

/-- 'laws.FnExactSumLie': WHATEVER THE INPUT: true; the input reads as it did. -/
def fnExactSumLieSpec : ChangeSpec := { name := "fnExactSumLie", fn := fun _ => fun
  | [d1, d2, d3] => { results := [.lit (.bool true)], args := [d1, d2, d3] }
  | _ => none }
def fnExactSumLieRow : OpenClaim := { program := "ytgeoogndonghmaa", sum := "1e27bf69f8825c3a7ad76ae0025c585b9d1ccfa241aa740d9b5b7ff56bb8e08c", func := "loop.example/g01076/laws.FnExactSumLie", spec := "fnExactSumLie", unfollowed := true, recurses := true, apart := false }
def FnExactSumLieSaid : Prop := fnExactSumLieRow.holds Try.pinned (OpenSpec.ofChange fnExactSumLieSpec)

/-- ITS FALSE NEIGHBOUR: 'it returns false'. Refute it at one input. -/
def fnExactSumLieWrong : ChangeSpec := { name := "fnExactSumLie", fn := fun _ => fun
  | [d1, d2, d3] => { results := [.lit (.bool false)], args := [d1, d2, d3] }
  | _ => none }
def FnExactSumLieWrongFalsely : Prop := fnExactSumLieRow.holds Try.pinned (OpenSpec.ofChange fnExactSumLieWrong)

/-- 'laws.FnExactSubringOf': WHATEVER THE INPUT: true; the input reads as it did. -/
def fnExactSubringOfSpec : ChangeSpec := { name := "fnExactSubringOf", fn := fun _ => fun
  | [d1, d2] => { results := [.lit (.bool true)], args := [d1, d2] }
  | _ => none }
def fnExactSubringOfRow : OpenClaim := { program := "ytgeoogndonghmaa", sum := "1e27bf69f8825c3a7ad76ae0025c585b9d1ccfa241aa740d9b5b7ff56bb8e08c", func := "loop.example/g01076/laws.FnExactSubringOf", spec := "fnExactSubringOf", unfollowed := true, recurses := true, apart := false }
def FnExactSubringOfSaid : Prop := fnExactSubringOfRow.holds Try.pinned (OpenSpec.ofChange fnExactSubringOfSpec)

/-- ITS FALSE NEIGHBOUR: 'it returns false'. Refute it at one input. -/
def fnExactSubringOfWrong : ChangeSpec := { name := "fnExactSubringOf", fn := fun _ => fun
  | [d1, d2] => { results := [.lit (.bool false)], args := [d1, d2] }
  | _ => none }
def FnExactSubringOfWrongFalsely : Prop := fnExactSubringOfRow.holds Try.pinned (OpenSpec.ofChange fnExactSubringOfWrong)

/-- 'laws.FnExactIdealOf': WHATEVER THE INPUT: true; the input reads as it did. -/
def fnExactIdealOfSpec : ChangeSpec := { name := "fnExactIdealOf", fn := fun _ => fun
  | [d1, d2] => { results := [.lit (.bool true)], args := [d1, d2] }
  | _ => none }
def fnExactIdealOfRow : OpenClaim := { program := "ytgeoogndonghmaa", sum := "1e27bf69f8825c3a7ad76ae0025c585b9d1ccfa241aa740d9b5b7ff56bb8e08c", func := "loop.example/g01076/laws.FnExactIdealOf", spec := "fnExactIdealOf", unfollowed := true, recurses := true, apart := false }
def FnExactIdealOfSaid : Prop := fnExactIdealOfRow.holds Try.pinned (OpenSpec.ofChange fnExactIdealOfSpec)

/-- ITS FALSE NEIGHBOUR: 'it returns false'. Refute it at one input. -/
def fnExactIdealOfWrong : ChangeSpec := { name := "fnExactIdealOf", fn := fun _ => fun
  | [d1, d2] => { results := [.lit (.bool false)], args := [d1, d2] }
  | _ => none }
def FnExactIdealOfWrongFalsely : Prop := fnExactIdealOfRow.holds Try.pinned (OpenSpec.ofChange fnExactIdealOfWrong)

/-- 'laws.FnExactLieImage': WHATEVER THE INPUT: true; the input reads as it did. -/
def fnExactLieImageSpec : ChangeSpec := { name := "fnExactLieImage", fn := fun _ => fun
  | [d1, d2, d3] => { results := [.lit (.bool true)], args := [d1, d2, d3] }
  | _ => none }
def fnExactLieImageRow : OpenClaim := { program := "ytgeoogndonghmaa", sum := "1e27bf69f8825c3a7ad76ae0025c585b9d1ccfa241aa740d9b5b7ff56bb8e08c", func := "loop.example/g01076/laws.FnExactLieImage", spec := "fnExactLieImage", unfollowed := true, recurses := true, apart := false }
def FnExactLieImageSaid : Prop := fnExactLieImageRow.holds Try.pinned (OpenSpec.ofChange fnExactLieImageSpec)

/-- ITS FALSE NEIGHBOUR: 'it returns false'. Refute it at one input. -/
def fnExactLieImageWrong : ChangeSpec := { name := "fnExactLieImage", fn := fun _ => fun
  | [d1, d2, d3] => { results := [.lit (.bool false)], args := [d1, d2, d3] }
  | _ => none }
def FnExactLieImageWrongFalsely : Prop := fnExactLieImageRow.holds Try.pinned (OpenSpec.ofChange fnExactLieImageWrong)

/-- 'laws.FnExactLieQuotient': WHATEVER THE INPUT: true; the input reads as it did. -/
def fnExactLieQuotientSpec : ChangeSpec := { name := "fnExactLieQuotient", fn := fun _ => fun
  | [d1, d2] => { results := [.lit (.bool true)], args := [d1, d2] }
  | _ => none }
def fnExactLieQuotientRow : OpenClaim := { program := "ytgeoogndonghmaa", sum := "1e27bf69f8825c3a7ad76ae0025c585b9d1ccfa241aa740d9b5b7ff56bb8e08c", func := "loop.example/g01076/laws.FnExactLieQuotient", spec := "fnExactLieQuotient", unfollowed := true, recurses := true, apart := false }
def FnExactLieQuotientSaid : Prop := fnExactLieQuotientRow.holds Try.pinned (OpenSpec.ofChange fnExactLieQuotientSpec)

/-- ITS FALSE NEIGHBOUR: 'it returns false'. Refute it at one input. -/
def fnExactLieQuotientWrong : ChangeSpec := { name := "fnExactLieQuotient", fn := fun _ => fun
  | [d1, d2] => { results := [.lit (.bool false)], args := [d1, d2] }
  | _ => none }
def FnExactLieQuotientWrongFalsely : Prop := fnExactLieQuotientRow.holds Try.pinned (OpenSpec.ofChange fnExactLieQuotientWrong)

/-- 'laws.FnExactMeetLie': WHATEVER THE INPUT: true; the input reads as it did. -/
def fnExactMeetLieSpec : ChangeSpec := { name := "fnExactMeetLie", fn := fun _ => fun
  | [d1, d2, d3] => { results := [.lit (.bool true)], args := [d1, d2, d3] }
  | _ => none }
def fnExactMeetLieRow : OpenClaim := { program := "ytgeoogndonghmaa", sum := "1e27bf69f8825c3a7ad76ae0025c585b9d1ccfa241aa740d9b5b7ff56bb8e08c", func := "loop.example/g01076/laws.FnExactMeetLie", spec := "fnExactMeetLie", unfollowed := true, recurses := true, apart := false }
def FnExactMeetLieSaid : Prop := fnExactMeetLieRow.holds Try.pinned (OpenSpec.ofChange fnExactMeetLieSpec)

/-- ITS FALSE NEIGHBOUR: 'it returns false'. Refute it at one input. -/
def fnExactMeetLieWrong : ChangeSpec := { name := "fnExactMeetLie", fn := fun _ => fun
  | [d1, d2, d3] => { results := [.lit (.bool false)], args := [d1, d2, d3] }
  | _ => none }
def FnExactMeetLieWrongFalsely : Prop := fnExactMeetLieRow.holds Try.pinned (OpenSpec.ofChange fnExactMeetLieWrong)

/-- 'laws.FnExactLieCentralizer': WHATEVER THE INPUT: true; the input reads as it did. -/
def fnExactLieCentralizerSpec : ChangeSpec := { name := "fnExactLieCentralizer", fn := fun _ => fun
  | [d1, d2] => { results := [.lit (.bool true)], args := [d1, d2] }
  | _ => none }
def fnExactLieCentralizerRow : OpenClaim := { program := "ytgeoogndonghmaa", sum := "1e27bf69f8825c3a7ad76ae0025c585b9d1ccfa241aa740d9b5b7ff56bb8e08c", func := "loop.example/g01076/laws.FnExactLieCentralizer", spec := "fnExactLieCentralizer", unfollowed := true, recurses := true, apart := false }
def FnExactLieCentralizerSaid : Prop := fnExactLieCentralizerRow.holds Try.pinned (OpenSpec.ofChange fnExactLieCentralizerSpec)

/-- ITS FALSE NEIGHBOUR: 'it returns false'. Refute it at one input. -/
def fnExactLieCentralizerWrong : ChangeSpec := { name := "fnExactLieCentralizer", fn := fun _ => fun
  | [d1, d2] => { results := [.lit (.bool false)], args := [d1, d2] }
  | _ => none }
def FnExactLieCentralizerWrongFalsely : Prop := fnExactLieCentralizerRow.holds Try.pinned (OpenSpec.ofChange fnExactLieCentralizerWrong)

/-- 'laws.FnExactLieCentre': WHATEVER THE INPUT: true; the input reads as it did. -/
def fnExactLieCentreSpec : ChangeSpec := { name := "fnExactLieCentre", fn := fun _ => fun
  | [d] => { results := [.lit (.bool true)], args := [d] }
  | _ => none }
def fnExactLieCentreRow : OpenClaim := { program := "ytgeoogndonghmaa", sum := "1e27bf69f8825c3a7ad76ae0025c585b9d1ccfa241aa740d9b5b7ff56bb8e08c", func := "loop.example/g01076/laws.FnExactLieCentre", spec := "fnExactLieCentre", unfollowed := true, recurses := true, apart := false }
def FnExactLieCentreSaid : Prop := fnExactLieCentreRow.holds Try.pinned (OpenSpec.ofChange fnExactLieCentreSpec)

/-- ITS FALSE NEIGHBOUR: 'it returns false'. Refute it at one input. -/
def fnExactLieCentreWrong : ChangeSpec := { name := "fnExactLieCentre", fn := fun _ => fun
  | [d] => { results := [.lit (.bool false)], args := [d] }
  | _ => none }
def FnExactLieCentreWrongFalsely : Prop := fnExactLieCentreRow.holds Try.pinned (OpenSpec.ofChange fnExactLieCentreWrong)

/-- 'laws.FnExactLieClass': WHATEVER THE INPUT: true; the input reads as it did. -/
def fnExactLieClassSpec : ChangeSpec := { name := "fnExactLieClass", fn := fun _ => fun
  | [d] => { results := [.lit (.bool true)], args := [d] }
  | _ => none }
def fnExactLieClassRow : OpenClaim := { program := "ytgeoogndonghmaa", sum := "1e27bf69f8825c3a7ad76ae0025c585b9d1ccfa241aa740d9b5b7ff56bb8e08c", func := "loop.example/g01076/laws.FnExactLieClass", spec := "fnExactLieClass", unfollowed := true, recurses := true, apart := false }
def FnExactLieClassSaid : Prop := fnExactLieClassRow.holds Try.pinned (OpenSpec.ofChange fnExactLieClassSpec)

/-- ITS FALSE NEIGHBOUR: 'it returns false'. Refute it at one input. -/
def fnExactLieClassWrong : ChangeSpec := { name := "fnExactLieClass", fn := fun _ => fun
  | [d] => { results := [.lit (.bool false)], args := [d] }
  | _ => none }
def FnExactLieClassWrongFalsely : Prop := fnExactLieClassRow.holds Try.pinned (OpenSpec.ofChange fnExactLieClassWrong)

/-- 'laws.FnExactLowerLieSeries': WHATEVER THE INPUT: true; the input reads as it did. -/
def fnExactLowerLieSeriesSpec : ChangeSpec := { name := "fnExactLowerLieSeries", fn := fun _ => fun
  | [d] => { results := [.lit (.bool true)], args := [d] }
  | _ => none }
def fnExactLowerLieSeriesRow : OpenClaim := { program := "ytgeoogndonghmaa", sum := "1e27bf69f8825c3a7ad76ae0025c585b9d1ccfa241aa740d9b5b7ff56bb8e08c", func := "loop.example/g01076/laws.FnExactLowerLieSeries", spec := "fnExactLowerLieSeries", unfollowed := true, recurses := true, apart := false }
def FnExactLowerLieSeriesSaid : Prop := fnExactLowerLieSeriesRow.holds Try.pinned (OpenSpec.ofChange fnExactLowerLieSeriesSpec)

/-- ITS FALSE NEIGHBOUR: 'it returns false'. Refute it at one input. -/
def fnExactLowerLieSeriesWrong : ChangeSpec := { name := "fnExactLowerLieSeries", fn := fun _ => fun
  | [d] => { results := [.lit (.bool false)], args := [d] }
  | _ => none }
def FnExactLowerLieSeriesWrongFalsely : Prop := fnExactLowerLieSeriesRow.holds Try.pinned (OpenSpec.ofChange fnExactLowerLieSeriesWrong)

/-- 'laws.FnExactUpperLieSeries': WHATEVER THE INPUT: true; the input reads as it did. -/
def fnExactUpperLieSeriesSpec : ChangeSpec := { name := "fnExactUpperLieSeries", fn := fun _ => fun
  | [d] => { results := [.lit (.bool true)], args := [d] }
  | _ => none }
def fnExactUpperLieSeriesRow : OpenClaim := { program := "ytgeoogndonghmaa", sum := "1e27bf69f8825c3a7ad76ae0025c585b9d1ccfa241aa740d9b5b7ff56bb8e08c", func := "loop.example/g01076/laws.FnExactUpperLieSeries", spec := "fnExactUpperLieSeries", unfollowed := true, recurses := true, apart := false }
def FnExactUpperLieSeriesSaid : Prop := fnExactUpperLieSeriesRow.holds Try.pinned (OpenSpec.ofChange fnExactUpperLieSeriesSpec)

/-- ITS FALSE NEIGHBOUR: 'it returns false'. Refute it at one input. -/
def fnExactUpperLieSeriesWrong : ChangeSpec := { name := "fnExactUpperLieSeries", fn := fun _ => fun
  | [d] => { results := [.lit (.bool false)], args := [d] }
  | _ => none }
def FnExactUpperLieSeriesWrongFalsely : Prop := fnExactUpperLieSeriesRow.holds Try.pinned (OpenSpec.ofChange fnExactUpperLieSeriesWrong)

/-- 'laws.FnExactLieAdditive': WHATEVER THE INPUT: true; the input reads as it did. -/
def fnExactLieAdditiveSpec : ChangeSpec := { name := "fnExactLieAdditive", fn := fun _ => fun
  | [d] => { results := [.lit (.bool true)], args := [d] }
  | _ => none }
def fnExactLieAdditiveRow : OpenClaim := { program := "ytgeoogndonghmaa", sum := "1e27bf69f8825c3a7ad76ae0025c585b9d1ccfa241aa740d9b5b7ff56bb8e08c", func := "loop.example/g01076/laws.FnExactLieAdditive", spec := "fnExactLieAdditive", recurses := true, apart := false }
def FnExactLieAdditiveSaid : Prop := fnExactLieAdditiveRow.holds Try.pinned (OpenSpec.ofChange fnExactLieAdditiveSpec)

/-- ITS FALSE NEIGHBOUR: 'it returns false'. Refute it at one input. -/
def fnExactLieAdditiveWrong : ChangeSpec := { name := "fnExactLieAdditive", fn := fun _ => fun
  | [d] => { results := [.lit (.bool false)], args := [d] }
  | _ => none }
def FnExactLieAdditiveWrongFalsely : Prop := fnExactLieAdditiveRow.holds Try.pinned (OpenSpec.ofChange fnExactLieAdditiveWrong)

/- THE SECOND FORM. 'bulk': how many values and letters a reading holds, each counted each time it is reached (what is shared counts as often as it is met; a slice's spare places count too). A statement '..UptoSaid' is the law's where the arguments, and the package variables that the reading takes, are together of bulk at most 1048576: NARROWER than '..Said'. Prove '..Said' where nothing that the law and all that it calls make is longer than what came in: it says more and counts as full. Else prove '..UptoSaid'. A law counts once. -/
mutual
def uptoBulk {H : Type} : DataW H → Nat
  | .lit (.string bytes) => bytes.length + 1
  | .lit _ => 1
  | .nil => 1
  | .ptr d => uptoBulk d + 1
  | .slice elems spare => uptoBulkAll elems + uptoBulkAll spare + 1
  | .agg parts => uptoBulkAll parts + 1
  | .iface _ d => uptoBulk d + 1
  | .map entries => uptoBulkEntries entries + 1
  | .held _ => 1
def uptoBulkAll {H : Type} : List (DataW H) → Nat
  | [] => 0
  | d :: r => uptoBulk d + uptoBulkAll r
def uptoBulkEntries {H : Type} : List (Lit × DataW H) → Nat
  | [] => 0
  | x :: r => uptoBulkEntry x + uptoBulkEntries r
def uptoBulkEntry {H : Type} : Lit × DataW H → Nat
  | (.string bytes, d) => bytes.length + uptoBulk d + 1
  | (_, d) => uptoBulk d + 1
 end
def uptoSmall : (H : Type) → List (DataW H) → Bool := fun _ ds => decide (uptoBulkAll ds ≤ 1048576)
def OpenSpec.upto (s : _root_.Go.ChangeSpec) : _root_.Go.OpenSpec := { _root_.Go.OpenSpec.ofChange s with cond := some uptoSmall }

/-- 'laws.FnExactSumLie', WHERE WHAT IT READS IS OF BULK AT MOST 1048576: true; the input reads as it did. -/
def fnExactSumLieUptoRow : OpenClaim := { program := "ytgeoogndonghmaa", sum := "1e27bf69f8825c3a7ad76ae0025c585b9d1ccfa241aa740d9b5b7ff56bb8e08c", func := "loop.example/g01076/laws.FnExactSumLie", spec := "fnExactSumLie", unfollowed := true, recurses := true, apart := false, narrowed := true }
def FnExactSumLieUptoSaid : Prop := fnExactSumLieUptoRow.holds Try.pinned (OpenSpec.upto fnExactSumLieSpec)

/-- 'laws.FnExactSubringOf', WHERE WHAT IT READS IS OF BULK AT MOST 1048576: true; the input reads as it did. -/
def fnExactSubringOfUptoRow : OpenClaim := { program := "ytgeoogndonghmaa", sum := "1e27bf69f8825c3a7ad76ae0025c585b9d1ccfa241aa740d9b5b7ff56bb8e08c", func := "loop.example/g01076/laws.FnExactSubringOf", spec := "fnExactSubringOf", unfollowed := true, recurses := true, apart := false, narrowed := true }
def FnExactSubringOfUptoSaid : Prop := fnExactSubringOfUptoRow.holds Try.pinned (OpenSpec.upto fnExactSubringOfSpec)

/-- 'laws.FnExactIdealOf', WHERE WHAT IT READS IS OF BULK AT MOST 1048576: true; the input reads as it did. -/
def fnExactIdealOfUptoRow : OpenClaim := { program := "ytgeoogndonghmaa", sum := "1e27bf69f8825c3a7ad76ae0025c585b9d1ccfa241aa740d9b5b7ff56bb8e08c", func := "loop.example/g01076/laws.FnExactIdealOf", spec := "fnExactIdealOf", unfollowed := true, recurses := true, apart := false, narrowed := true }
def FnExactIdealOfUptoSaid : Prop := fnExactIdealOfUptoRow.holds Try.pinned (OpenSpec.upto fnExactIdealOfSpec)

/-- 'laws.FnExactLieImage', WHERE WHAT IT READS IS OF BULK AT MOST 1048576: true; the input reads as it did. -/
def fnExactLieImageUptoRow : OpenClaim := { program := "ytgeoogndonghmaa", sum := "1e27bf69f8825c3a7ad76ae0025c585b9d1ccfa241aa740d9b5b7ff56bb8e08c", func := "loop.example/g01076/laws.FnExactLieImage", spec := "fnExactLieImage", unfollowed := true, recurses := true, apart := false, narrowed := true }
def FnExactLieImageUptoSaid : Prop := fnExactLieImageUptoRow.holds Try.pinned (OpenSpec.upto fnExactLieImageSpec)

/-- 'laws.FnExactLieQuotient', WHERE WHAT IT READS IS OF BULK AT MOST 1048576: true; the input reads as it did. -/
def fnExactLieQuotientUptoRow : OpenClaim := { program := "ytgeoogndonghmaa", sum := "1e27bf69f8825c3a7ad76ae0025c585b9d1ccfa241aa740d9b5b7ff56bb8e08c", func := "loop.example/g01076/laws.FnExactLieQuotient", spec := "fnExactLieQuotient", unfollowed := true, recurses := true, apart := false, narrowed := true }
def FnExactLieQuotientUptoSaid : Prop := fnExactLieQuotientUptoRow.holds Try.pinned (OpenSpec.upto fnExactLieQuotientSpec)

/-- 'laws.FnExactMeetLie', WHERE WHAT IT READS IS OF BULK AT MOST 1048576: true; the input reads as it did. -/
def fnExactMeetLieUptoRow : OpenClaim := { program := "ytgeoogndonghmaa", sum := "1e27bf69f8825c3a7ad76ae0025c585b9d1ccfa241aa740d9b5b7ff56bb8e08c", func := "loop.example/g01076/laws.FnExactMeetLie", spec := "fnExactMeetLie", unfollowed := true, recurses := true, apart := false, narrowed := true }
def FnExactMeetLieUptoSaid : Prop := fnExactMeetLieUptoRow.holds Try.pinned (OpenSpec.upto fnExactMeetLieSpec)

/-- 'laws.FnExactLieCentralizer', WHERE WHAT IT READS IS OF BULK AT MOST 1048576: true; the input reads as it did. -/
def fnExactLieCentralizerUptoRow : OpenClaim := { program := "ytgeoogndonghmaa", sum := "1e27bf69f8825c3a7ad76ae0025c585b9d1ccfa241aa740d9b5b7ff56bb8e08c", func := "loop.example/g01076/laws.FnExactLieCentralizer", spec := "fnExactLieCentralizer", unfollowed := true, recurses := true, apart := false, narrowed := true }
def FnExactLieCentralizerUptoSaid : Prop := fnExactLieCentralizerUptoRow.holds Try.pinned (OpenSpec.upto fnExactLieCentralizerSpec)

/-- 'laws.FnExactLieCentre', WHERE WHAT IT READS IS OF BULK AT MOST 1048576: true; the input reads as it did. -/
def fnExactLieCentreUptoRow : OpenClaim := { program := "ytgeoogndonghmaa", sum := "1e27bf69f8825c3a7ad76ae0025c585b9d1ccfa241aa740d9b5b7ff56bb8e08c", func := "loop.example/g01076/laws.FnExactLieCentre", spec := "fnExactLieCentre", unfollowed := true, recurses := true, apart := false, narrowed := true }
def FnExactLieCentreUptoSaid : Prop := fnExactLieCentreUptoRow.holds Try.pinned (OpenSpec.upto fnExactLieCentreSpec)

/-- 'laws.FnExactLieClass', WHERE WHAT IT READS IS OF BULK AT MOST 1048576: true; the input reads as it did. -/
def fnExactLieClassUptoRow : OpenClaim := { program := "ytgeoogndonghmaa", sum := "1e27bf69f8825c3a7ad76ae0025c585b9d1ccfa241aa740d9b5b7ff56bb8e08c", func := "loop.example/g01076/laws.FnExactLieClass", spec := "fnExactLieClass", unfollowed := true, recurses := true, apart := false, narrowed := true }
def FnExactLieClassUptoSaid : Prop := fnExactLieClassUptoRow.holds Try.pinned (OpenSpec.upto fnExactLieClassSpec)

/-- 'laws.FnExactLowerLieSeries', WHERE WHAT IT READS IS OF BULK AT MOST 1048576: true; the input reads as it did. -/
def fnExactLowerLieSeriesUptoRow : OpenClaim := { program := "ytgeoogndonghmaa", sum := "1e27bf69f8825c3a7ad76ae0025c585b9d1ccfa241aa740d9b5b7ff56bb8e08c", func := "loop.example/g01076/laws.FnExactLowerLieSeries", spec := "fnExactLowerLieSeries", unfollowed := true, recurses := true, apart := false, narrowed := true }
def FnExactLowerLieSeriesUptoSaid : Prop := fnExactLowerLieSeriesUptoRow.holds Try.pinned (OpenSpec.upto fnExactLowerLieSeriesSpec)

/-- 'laws.FnExactUpperLieSeries', WHERE WHAT IT READS IS OF BULK AT MOST 1048576: true; the input reads as it did. -/
def fnExactUpperLieSeriesUptoRow : OpenClaim := { program := "ytgeoogndonghmaa", sum := "1e27bf69f8825c3a7ad76ae0025c585b9d1ccfa241aa740d9b5b7ff56bb8e08c", func := "loop.example/g01076/laws.FnExactUpperLieSeries", spec := "fnExactUpperLieSeries", unfollowed := true, recurses := true, apart := false, narrowed := true }
def FnExactUpperLieSeriesUptoSaid : Prop := fnExactUpperLieSeriesUptoRow.holds Try.pinned (OpenSpec.upto fnExactUpperLieSeriesSpec)

/-- 'laws.FnExactLieAdditive', WHERE WHAT IT READS IS OF BULK AT MOST 1048576: true; the input reads as it did. -/
def fnExactLieAdditiveUptoRow : OpenClaim := { program := "ytgeoogndonghmaa", sum := "1e27bf69f8825c3a7ad76ae0025c585b9d1ccfa241aa740d9b5b7ff56bb8e08c", func := "loop.example/g01076/laws.FnExactLieAdditive", spec := "fnExactLieAdditive", recurses := true, apart := false, narrowed := true }
def FnExactLieAdditiveUptoSaid : Prop := fnExactLieAdditiveUptoRow.holds Try.pinned (OpenSpec.upto fnExactLieAdditiveSpec)

end Rows
end Go.Proofs.Ytgeoogndonghmaa
