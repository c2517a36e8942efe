/-
  No cell of these rows narrows 'for every input' (looked for: loops, veiled, ifaces, maps, wideKeys, modest, calm, conditions, laid).
  DERIVED. THE GIVEN ROWS OF THIS SEAT. 12 by the template 'for every input the law returns true; each argument reads behind the call as it read before'; 0 by the template 'total and deterministic' (their statements: YtbhlindlcfeppaaTotals.lean).
  GIVEN WITH THE SEED: the statements are not yours to turn. If you find one false, say at which input.
  Laid BY PROGRAM, IN A SANDBOX (cutbox-rows.mjs): the forced cells as the released guide's own fill.sh prints them over the translation 2dafa08bfe1fed91… (all of the seat's roots in one cut). By AI agents, Wed Nov 11 2026. No macro, syntax, notation, axiom, sorry.
-/
import Derived.Test.YtbhlindlcfeppaaChecked
import GoSem.Claim
import GoSem.ClaimJoined
import GoSem.ClaimMapViews
import Derived.JoinedTies
import Derived.KernelRfl
namespace Go.Proofs.Ytbhlindlcfeppaa
/- THE CELL 'sum', in the pinned program and in every row, IS THE sha256 OF THE DUMP (.gsa) THAT YtbhlindlcfeppaaProg.lean LOADS. Nothing in Lean hashes anything: it is a label: what it is worth is what the hold of that sum in a sandbox is worth. -/
noncomputable def Try.pinned : Pinned := { name := "ytbhlindlcfeppaa", sum := "2dafa08bfe1fed9105aeadcdd9baee3fd41d124de6b7bf16d2f9522840a629df", checked := Try.checked }
namespace Rows
def none {H : Type} : Left H := { results := [], args := [] }

/-- 'laws.FnExactLieClass': WHATEVER THE INPUT: true; the input reads as it did. -/
def fnExactLieClassSpec : ChangeSpec := { name := "fnExactLieClass", fn := fun _ => fun
  | [d] => { results := [.lit (.bool true)], args := [d] }
  | _ => none }
def fnExactLieClassRow : OpenClaim := { program := "ytbhlindlcfeppaa", sum := "2dafa08bfe1fed9105aeadcdd9baee3fd41d124de6b7bf16d2f9522840a629df", func := "loop.example/g01076/laws.FnExactLieClass", spec := "fnExactLieClass", unfollowed := true, recurses := true, apart := false }
def FnExactLieClassSaid : Prop := fnExactLieClassRow.holds Try.pinned (OpenSpec.ofChange fnExactLieClassSpec)

/-- ITS FALSE NEIGHBOUR: 'it returns false'. Refute it at one input. -/
def fnExactLieClassWrong : ChangeSpec := { name := "fnExactLieClass", fn := fun _ => fun
  | [d] => { results := [.lit (.bool false)], args := [d] }
  | _ => none }
def FnExactLieClassWrongFalsely : Prop := fnExactLieClassRow.holds Try.pinned (OpenSpec.ofChange fnExactLieClassWrong)

/-- 'laws.FnExactLowerLieSeries': WHATEVER THE INPUT: true; the input reads as it did. -/
def fnExactLowerLieSeriesSpec : ChangeSpec := { name := "fnExactLowerLieSeries", fn := fun _ => fun
  | [d] => { results := [.lit (.bool true)], args := [d] }
  | _ => none }
def fnExactLowerLieSeriesRow : OpenClaim := { program := "ytbhlindlcfeppaa", sum := "2dafa08bfe1fed9105aeadcdd9baee3fd41d124de6b7bf16d2f9522840a629df", func := "loop.example/g01076/laws.FnExactLowerLieSeries", spec := "fnExactLowerLieSeries", unfollowed := true, recurses := true, apart := false }
def FnExactLowerLieSeriesSaid : Prop := fnExactLowerLieSeriesRow.holds Try.pinned (OpenSpec.ofChange fnExactLowerLieSeriesSpec)

/-- ITS FALSE NEIGHBOUR: 'it returns false'. Refute it at one input. -/
def fnExactLowerLieSeriesWrong : ChangeSpec := { name := "fnExactLowerLieSeries", fn := fun _ => fun
  | [d] => { results := [.lit (.bool false)], args := [d] }
  | _ => none }
def FnExactLowerLieSeriesWrongFalsely : Prop := fnExactLowerLieSeriesRow.holds Try.pinned (OpenSpec.ofChange fnExactLowerLieSeriesWrong)

/-- 'laws.FnExactMeetLie': WHATEVER THE INPUT: true; the input reads as it did. -/
def fnExactMeetLieSpec : ChangeSpec := { name := "fnExactMeetLie", fn := fun _ => fun
  | [d1, d2, d3] => { results := [.lit (.bool true)], args := [d1, d2, d3] }
  | _ => none }
def fnExactMeetLieRow : OpenClaim := { program := "ytbhlindlcfeppaa", sum := "2dafa08bfe1fed9105aeadcdd9baee3fd41d124de6b7bf16d2f9522840a629df", func := "loop.example/g01076/laws.FnExactMeetLie", spec := "fnExactMeetLie", unfollowed := true, recurses := true, apart := false }
def FnExactMeetLieSaid : Prop := fnExactMeetLieRow.holds Try.pinned (OpenSpec.ofChange fnExactMeetLieSpec)

/-- ITS FALSE NEIGHBOUR: 'it returns false'. Refute it at one input. -/
def fnExactMeetLieWrong : ChangeSpec := { name := "fnExactMeetLie", fn := fun _ => fun
  | [d1, d2, d3] => { results := [.lit (.bool false)], args := [d1, d2, d3] }
  | _ => none }
def FnExactMeetLieWrongFalsely : Prop := fnExactMeetLieRow.holds Try.pinned (OpenSpec.ofChange fnExactMeetLieWrong)

/-- 'laws.FnExactLieCentralizer': WHATEVER THE INPUT: true; the input reads as it did. -/
def fnExactLieCentralizerSpec : ChangeSpec := { name := "fnExactLieCentralizer", fn := fun _ => fun
  | [d1, d2] => { results := [.lit (.bool true)], args := [d1, d2] }
  | _ => none }
def fnExactLieCentralizerRow : OpenClaim := { program := "ytbhlindlcfeppaa", sum := "2dafa08bfe1fed9105aeadcdd9baee3fd41d124de6b7bf16d2f9522840a629df", func := "loop.example/g01076/laws.FnExactLieCentralizer", spec := "fnExactLieCentralizer", unfollowed := true, recurses := true, apart := false }
def FnExactLieCentralizerSaid : Prop := fnExactLieCentralizerRow.holds Try.pinned (OpenSpec.ofChange fnExactLieCentralizerSpec)

/-- ITS FALSE NEIGHBOUR: 'it returns false'. Refute it at one input. -/
def fnExactLieCentralizerWrong : ChangeSpec := { name := "fnExactLieCentralizer", fn := fun _ => fun
  | [d1, d2] => { results := [.lit (.bool false)], args := [d1, d2] }
  | _ => none }
def FnExactLieCentralizerWrongFalsely : Prop := fnExactLieCentralizerRow.holds Try.pinned (OpenSpec.ofChange fnExactLieCentralizerWrong)

/-- 'laws.FnExactLieCentre': WHATEVER THE INPUT: true; the input reads as it did. -/
def fnExactLieCentreSpec : ChangeSpec := { name := "fnExactLieCentre", fn := fun _ => fun
  | [d] => { results := [.lit (.bool true)], args := [d] }
  | _ => none }
def fnExactLieCentreRow : OpenClaim := { program := "ytbhlindlcfeppaa", sum := "2dafa08bfe1fed9105aeadcdd9baee3fd41d124de6b7bf16d2f9522840a629df", func := "loop.example/g01076/laws.FnExactLieCentre", spec := "fnExactLieCentre", unfollowed := true, recurses := true, apart := false }
def FnExactLieCentreSaid : Prop := fnExactLieCentreRow.holds Try.pinned (OpenSpec.ofChange fnExactLieCentreSpec)

/-- ITS FALSE NEIGHBOUR: 'it returns false'. Refute it at one input. -/
def fnExactLieCentreWrong : ChangeSpec := { name := "fnExactLieCentre", fn := fun _ => fun
  | [d] => { results := [.lit (.bool false)], args := [d] }
  | _ => none }
def FnExactLieCentreWrongFalsely : Prop := fnExactLieCentreRow.holds Try.pinned (OpenSpec.ofChange fnExactLieCentreWrong)

/-- 'laws.FnExactUpperLieSeries': WHATEVER THE INPUT: true; the input reads as it did. -/
def fnExactUpperLieSeriesSpec : ChangeSpec := { name := "fnExactUpperLieSeries", fn := fun _ => fun
  | [d] => { results := [.lit (.bool true)], args := [d] }
  | _ => none }
def fnExactUpperLieSeriesRow : OpenClaim := { program := "ytbhlindlcfeppaa", sum := "2dafa08bfe1fed9105aeadcdd9baee3fd41d124de6b7bf16d2f9522840a629df", func := "loop.example/g01076/laws.FnExactUpperLieSeries", spec := "fnExactUpperLieSeries", unfollowed := true, recurses := true, apart := false }
def FnExactUpperLieSeriesSaid : Prop := fnExactUpperLieSeriesRow.holds Try.pinned (OpenSpec.ofChange fnExactUpperLieSeriesSpec)

/-- ITS FALSE NEIGHBOUR: 'it returns false'. Refute it at one input. -/
def fnExactUpperLieSeriesWrong : ChangeSpec := { name := "fnExactUpperLieSeries", fn := fun _ => fun
  | [d] => { results := [.lit (.bool false)], args := [d] }
  | _ => none }
def FnExactUpperLieSeriesWrongFalsely : Prop := fnExactUpperLieSeriesRow.holds Try.pinned (OpenSpec.ofChange fnExactUpperLieSeriesWrong)

/-- 'laws.FnExactLieQuotient': WHATEVER THE INPUT: true; the input reads as it did. -/
def fnExactLieQuotientSpec : ChangeSpec := { name := "fnExactLieQuotient", fn := fun _ => fun
  | [d1, d2] => { results := [.lit (.bool true)], args := [d1, d2] }
  | _ => none }
def fnExactLieQuotientRow : OpenClaim := { program := "ytbhlindlcfeppaa", sum := "2dafa08bfe1fed9105aeadcdd9baee3fd41d124de6b7bf16d2f9522840a629df", func := "loop.example/g01076/laws.FnExactLieQuotient", spec := "fnExactLieQuotient", unfollowed := true, recurses := true, apart := false }
def FnExactLieQuotientSaid : Prop := fnExactLieQuotientRow.holds Try.pinned (OpenSpec.ofChange fnExactLieQuotientSpec)

/-- ITS FALSE NEIGHBOUR: 'it returns false'. Refute it at one input. -/
def fnExactLieQuotientWrong : ChangeSpec := { name := "fnExactLieQuotient", fn := fun _ => fun
  | [d1, d2] => { results := [.lit (.bool false)], args := [d1, d2] }
  | _ => none }
def FnExactLieQuotientWrongFalsely : Prop := fnExactLieQuotientRow.holds Try.pinned (OpenSpec.ofChange fnExactLieQuotientWrong)

/-- 'laws.FnExactAbelianRing': WHATEVER THE INPUT: true; the input reads as it did. -/
def fnExactAbelianRingSpec : ChangeSpec := { name := "fnExactAbelianRing", fn := fun _ => fun
  | [d1, d2] => { results := [.lit (.bool true)], args := [d1, d2] }
  | _ => none }
def fnExactAbelianRingRow : OpenClaim := { program := "ytbhlindlcfeppaa", sum := "2dafa08bfe1fed9105aeadcdd9baee3fd41d124de6b7bf16d2f9522840a629df", func := "loop.example/g01076/laws.FnExactAbelianRing", spec := "fnExactAbelianRing", apart := false }
def FnExactAbelianRingSaid : Prop := fnExactAbelianRingRow.holds Try.pinned (OpenSpec.ofChange fnExactAbelianRingSpec)

/-- ITS FALSE NEIGHBOUR: 'it returns false'. Refute it at one input. -/
def fnExactAbelianRingWrong : ChangeSpec := { name := "fnExactAbelianRing", fn := fun _ => fun
  | [d1, d2] => { results := [.lit (.bool false)], args := [d1, d2] }
  | _ => none }
def FnExactAbelianRingWrongFalsely : Prop := fnExactAbelianRingRow.holds Try.pinned (OpenSpec.ofChange fnExactAbelianRingWrong)

/-- 'laws.FnExactSumRings': WHATEVER THE INPUT: true; the input reads as it did. -/
def fnExactSumRingsSpec : ChangeSpec := { name := "fnExactSumRings", fn := fun _ => fun
  | [d1, d2] => { results := [.lit (.bool true)], args := [d1, d2] }
  | _ => none }
def fnExactSumRingsRow : OpenClaim := { program := "ytbhlindlcfeppaa", sum := "2dafa08bfe1fed9105aeadcdd9baee3fd41d124de6b7bf16d2f9522840a629df", func := "loop.example/g01076/laws.FnExactSumRings", spec := "fnExactSumRings", apart := false }
def FnExactSumRingsSaid : Prop := fnExactSumRingsRow.holds Try.pinned (OpenSpec.ofChange fnExactSumRingsSpec)

/-- ITS FALSE NEIGHBOUR: 'it returns false'. Refute it at one input. -/
def fnExactSumRingsWrong : ChangeSpec := { name := "fnExactSumRings", fn := fun _ => fun
  | [d1, d2] => { results := [.lit (.bool false)], args := [d1, d2] }
  | _ => none }
def FnExactSumRingsWrongFalsely : Prop := fnExactSumRingsRow.holds Try.pinned (OpenSpec.ofChange fnExactSumRingsWrong)

/-- 'laws.FnLieFaults': WHATEVER THE INPUT: true; the input reads as it did. -/
def fnLieFaultsSpec : ChangeSpec := { name := "fnLieFaults", fn := fun _ => fun
  | [d] => { results := [.lit (.bool true)], args := [d] }
  | _ => none }
def fnLieFaultsRow : OpenClaim := { program := "ytbhlindlcfeppaa", sum := "2dafa08bfe1fed9105aeadcdd9baee3fd41d124de6b7bf16d2f9522840a629df", func := "loop.example/g01076/laws.FnLieFaults", spec := "fnLieFaults", apart := false }
def FnLieFaultsSaid : Prop := fnLieFaultsRow.holds Try.pinned (OpenSpec.ofChange fnLieFaultsSpec)

/-- ITS FALSE NEIGHBOUR: 'it returns false'. Refute it at one input. -/
def fnLieFaultsWrong : ChangeSpec := { name := "fnLieFaults", fn := fun _ => fun
  | [d] => { results := [.lit (.bool false)], args := [d] }
  | _ => none }
def FnLieFaultsWrongFalsely : Prop := fnLieFaultsRow.holds Try.pinned (OpenSpec.ofChange fnLieFaultsWrong)

/-- 'laws.FnReducedLie': WHATEVER THE INPUT: true; the input reads as it did. -/
def fnReducedLieSpec : ChangeSpec := { name := "fnReducedLie", fn := fun _ => fun
  | [d] => { results := [.lit (.bool true)], args := [d] }
  | _ => none }
def fnReducedLieRow : OpenClaim := { program := "ytbhlindlcfeppaa", sum := "2dafa08bfe1fed9105aeadcdd9baee3fd41d124de6b7bf16d2f9522840a629df", func := "loop.example/g01076/laws.FnReducedLie", spec := "fnReducedLie", unfollowed := true, recurses := true, apart := false }
def FnReducedLieSaid : Prop := fnReducedLieRow.holds Try.pinned (OpenSpec.ofChange fnReducedLieSpec)

/-- ITS FALSE NEIGHBOUR: 'it returns false'. Refute it at one input. -/
def fnReducedLieWrong : ChangeSpec := { name := "fnReducedLie", fn := fun _ => fun
  | [d] => { results := [.lit (.bool false)], args := [d] }
  | _ => none }
def FnReducedLieWrongFalsely : Prop := fnReducedLieRow.holds Try.pinned (OpenSpec.ofChange fnReducedLieWrong)

/-- 'laws.FnLieSeries': WHATEVER THE INPUT: true; the input reads as it did. -/
def fnLieSeriesSpec : ChangeSpec := { name := "fnLieSeries", fn := fun _ => fun
  | [d] => { results := [.lit (.bool true)], args := [d] }
  | _ => none }
def fnLieSeriesRow : OpenClaim := { program := "ytbhlindlcfeppaa", sum := "2dafa08bfe1fed9105aeadcdd9baee3fd41d124de6b7bf16d2f9522840a629df", func := "loop.example/g01076/laws.FnLieSeries", spec := "fnLieSeries", unfollowed := true, recurses := true, apart := false }
def FnLieSeriesSaid : Prop := fnLieSeriesRow.holds Try.pinned (OpenSpec.ofChange fnLieSeriesSpec)

/-- ITS FALSE NEIGHBOUR: 'it returns false'. Refute it at one input. -/
def fnLieSeriesWrong : ChangeSpec := { name := "fnLieSeries", fn := fun _ => fun
  | [d] => { results := [.lit (.bool false)], args := [d] }
  | _ => none }
def FnLieSeriesWrongFalsely : Prop := fnLieSeriesRow.holds Try.pinned (OpenSpec.ofChange fnLieSeriesWrong)

/- THE SECOND FORM. 'bulk': how many values and letters a reading holds, each counted each time it is reached (what is shared counts as often as it is met; a slice's spare places count too). A statement '..UptoSaid' is the law's where the arguments, and the package variables that the reading takes, are together of bulk at most 1048576: NARROWER than '..Said'. Prove '..Said' where nothing that the law and all that it calls make is longer than what came in: it says more and counts as full. Else prove '..UptoSaid'. A law counts once. -/
mutual
def uptoBulk {H : Type} : DataW H → Nat
  | .lit (.string bytes) => bytes.length + 1
  | .lit _ => 1
  | .nil => 1
  | .ptr d => uptoBulk d + 1
  | .slice elems spare => uptoBulkAll elems + uptoBulkAll spare + 1
  | .agg parts => uptoBulkAll parts + 1
  | .iface _ d => uptoBulk d + 1
  | .map entries => uptoBulkEntries entries + 1
  | .held _ => 1
def uptoBulkAll {H : Type} : List (DataW H) → Nat
  | [] => 0
  | d :: r => uptoBulk d + uptoBulkAll r
def uptoBulkEntries {H : Type} : List (Lit × DataW H) → Nat
  | [] => 0
  | x :: r => uptoBulkEntry x + uptoBulkEntries r
def uptoBulkEntry {H : Type} : Lit × DataW H → Nat
  | (.string bytes, d) => bytes.length + uptoBulk d + 1
  | (_, d) => uptoBulk d + 1
 end
def uptoSmall : (H : Type) → List (DataW H) → Bool := fun _ ds => decide (uptoBulkAll ds ≤ 1048576)
def OpenSpec.upto (s : _root_.Go.ChangeSpec) : _root_.Go.OpenSpec := { _root_.Go.OpenSpec.ofChange s with cond := some uptoSmall }

/-- 'laws.FnExactLieClass', WHERE WHAT IT READS IS OF BULK AT MOST 1048576: true; the input reads as it did. -/
def fnExactLieClassUptoRow : OpenClaim := { program := "ytbhlindlcfeppaa", sum := "2dafa08bfe1fed9105aeadcdd9baee3fd41d124de6b7bf16d2f9522840a629df", func := "loop.example/g01076/laws.FnExactLieClass", spec := "fnExactLieClass", unfollowed := true, recurses := true, apart := false, narrowed := true }
def FnExactLieClassUptoSaid : Prop := fnExactLieClassUptoRow.holds Try.pinned (OpenSpec.upto fnExactLieClassSpec)

/-- 'laws.FnExactLowerLieSeries', WHERE WHAT IT READS IS OF BULK AT MOST 1048576: true; the input reads as it did. -/
def fnExactLowerLieSeriesUptoRow : OpenClaim := { program := "ytbhlindlcfeppaa", sum := "2dafa08bfe1fed9105aeadcdd9baee3fd41d124de6b7bf16d2f9522840a629df", func := "loop.example/g01076/laws.FnExactLowerLieSeries", spec := "fnExactLowerLieSeries", unfollowed := true, recurses := true, apart := false, narrowed := true }
def FnExactLowerLieSeriesUptoSaid : Prop := fnExactLowerLieSeriesUptoRow.holds Try.pinned (OpenSpec.upto fnExactLowerLieSeriesSpec)

/-- 'laws.FnExactMeetLie', WHERE WHAT IT READS IS OF BULK AT MOST 1048576: true; the input reads as it did. -/
def fnExactMeetLieUptoRow : OpenClaim := { program := "ytbhlindlcfeppaa", sum := "2dafa08bfe1fed9105aeadcdd9baee3fd41d124de6b7bf16d2f9522840a629df", func := "loop.example/g01076/laws.FnExactMeetLie", spec := "fnExactMeetLie", unfollowed := true, recurses := true, apart := false, narrowed := true }
def FnExactMeetLieUptoSaid : Prop := fnExactMeetLieUptoRow.holds Try.pinned (OpenSpec.upto fnExactMeetLieSpec)

/-- 'laws.FnExactLieCentralizer', WHERE WHAT IT READS IS OF BULK AT MOST 1048576: true; the input reads as it did. -/
def fnExactLieCentralizerUptoRow : OpenClaim := { program := "ytbhlindlcfeppaa", sum := "2dafa08bfe1fed9105aeadcdd9baee3fd41d124de6b7bf16d2f9522840a629df", func := "loop.example/g01076/laws.FnExactLieCentralizer", spec := "fnExactLieCentralizer", unfollowed := true, recurses := true, apart := false, narrowed := true }
def FnExactLieCentralizerUptoSaid : Prop := fnExactLieCentralizerUptoRow.holds Try.pinned (OpenSpec.upto fnExactLieCentralizerSpec)

/-- 'laws.FnExactLieCentre', WHERE WHAT IT READS IS OF BULK AT MOST 1048576: true; the input reads as it did. -/
def fnExactLieCentreUptoRow : OpenClaim := { program := "ytbhlindlcfeppaa", sum := "2dafa08bfe1fed9105aeadcdd9baee3fd41d124de6b7bf16d2f9522840a629df", func := "loop.example/g01076/laws.FnExactLieCentre", spec := "fnExactLieCentre", unfollowed := true, recurses := true, apart := false, narrowed := true }
def FnExactLieCentreUptoSaid : Prop := fnExactLieCentreUptoRow.holds Try.pinned (OpenSpec.upto fnExactLieCentreSpec)

/-- 'laws.FnExactUpperLieSeries', WHERE WHAT IT READS IS OF BULK AT MOST 1048576: true; the input reads as it did. -/
def fnExactUpperLieSeriesUptoRow : OpenClaim := { program := "ytbhlindlcfeppaa", sum := "2dafa08bfe1fed9105aeadcdd9baee3fd41d124de6b7bf16d2f9522840a629df", func := "loop.example/g01076/laws.FnExactUpperLieSeries", spec := "fnExactUpperLieSeries", unfollowed := true, recurses := true, apart := false, narrowed := true }
def FnExactUpperLieSeriesUptoSaid : Prop := fnExactUpperLieSeriesUptoRow.holds Try.pinned (OpenSpec.upto fnExactUpperLieSeriesSpec)

/-- 'laws.FnExactLieQuotient', WHERE WHAT IT READS IS OF BULK AT MOST 1048576: true; the input reads as it did. -/
def fnExactLieQuotientUptoRow : OpenClaim := { program := "ytbhlindlcfeppaa", sum := "2dafa08bfe1fed9105aeadcdd9baee3fd41d124de6b7bf16d2f9522840a629df", func := "loop.example/g01076/laws.FnExactLieQuotient", spec := "fnExactLieQuotient", unfollowed := true, recurses := true, apart := false, narrowed := true }
def FnExactLieQuotientUptoSaid : Prop := fnExactLieQuotientUptoRow.holds Try.pinned (OpenSpec.upto fnExactLieQuotientSpec)

/-- 'laws.FnExactAbelianRing', WHERE WHAT IT READS IS OF BULK AT MOST 1048576: true; the input reads as it did. -/
def fnExactAbelianRingUptoRow : OpenClaim := { program := "ytbhlindlcfeppaa", sum := "2dafa08bfe1fed9105aeadcdd9baee3fd41d124de6b7bf16d2f9522840a629df", func := "loop.example/g01076/laws.FnExactAbelianRing", spec := "fnExactAbelianRing", apart := false, narrowed := true }
def FnExactAbelianRingUptoSaid : Prop := fnExactAbelianRingUptoRow.holds Try.pinned (OpenSpec.upto fnExactAbelianRingSpec)

/-- 'laws.FnExactSumRings', WHERE WHAT IT READS IS OF BULK AT MOST 1048576: true; the input reads as it did. -/
def fnExactSumRingsUptoRow : OpenClaim := { program := "ytbhlindlcfeppaa", sum := "2dafa08bfe1fed9105aeadcdd9baee3fd41d124de6b7bf16d2f9522840a629df", func := "loop.example/g01076/laws.FnExactSumRings", spec := "fnExactSumRings", apart := false, narrowed := true }
def FnExactSumRingsUptoSaid : Prop := fnExactSumRingsUptoRow.holds Try.pinned (OpenSpec.upto fnExactSumRingsSpec)

/-- 'laws.FnLieFaults', WHERE WHAT IT READS IS OF BULK AT MOST 1048576: true; the input reads as it did. -/
def fnLieFaultsUptoRow : OpenClaim := { program := "ytbhlindlcfeppaa", sum := "2dafa08bfe1fed9105aeadcdd9baee3fd41d124de6b7bf16d2f9522840a629df", func := "loop.example/g01076/laws.FnLieFaults", spec := "fnLieFaults", apart := false, narrowed := true }
def FnLieFaultsUptoSaid : Prop := fnLieFaultsUptoRow.holds Try.pinned (OpenSpec.upto fnLieFaultsSpec)

/-- 'laws.FnReducedLie', WHERE WHAT IT READS IS OF BULK AT MOST 1048576: true; the input reads as it did. -/
def fnReducedLieUptoRow : OpenClaim := { program := "ytbhlindlcfeppaa", sum := "2dafa08bfe1fed9105aeadcdd9baee3fd41d124de6b7bf16d2f9522840a629df", func := "loop.example/g01076/laws.FnReducedLie", spec := "fnReducedLie", unfollowed := true, recurses := true, apart := false, narrowed := true }
def FnReducedLieUptoSaid : Prop := fnReducedLieUptoRow.holds Try.pinned (OpenSpec.upto fnReducedLieSpec)

/-- 'laws.FnLieSeries', WHERE WHAT IT READS IS OF BULK AT MOST 1048576: true; the input reads as it did. -/
def fnLieSeriesUptoRow : OpenClaim := { program := "ytbhlindlcfeppaa", sum := "2dafa08bfe1fed9105aeadcdd9baee3fd41d124de6b7bf16d2f9522840a629df", func := "loop.example/g01076/laws.FnLieSeries", spec := "fnLieSeries", unfollowed := true, recurses := true, apart := false, narrowed := true }
def FnLieSeriesUptoSaid : Prop := fnLieSeriesUptoRow.holds Try.pinned (OpenSpec.upto fnLieSeriesSpec)

end Rows
end Go.Proofs.Ytbhlindlcfeppaa
