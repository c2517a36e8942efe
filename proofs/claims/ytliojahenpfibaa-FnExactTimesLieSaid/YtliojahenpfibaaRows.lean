/-
  No cell of these rows narrows 'for every input' (looked for: loops, veiled, ifaces, maps, wideKeys, modest, calm, conditions, laid).
  DERIVED. THE GIVEN ROWS OF THIS SEAT. 12 by the template 'for every input the law returns true; each argument reads behind the call as it read before'; 0 by the template 'total and deterministic' (their statements: YtliojahenpfibaaTotals.lean).
  GIVEN WITH THE SEED: the statements are not yours to turn. If you find one false, say at which input.
  Laid BY PROGRAM, IN A SANDBOX (cutbox-rows.mjs): the forced cells as the released guide's own fill.sh prints them over the translation f78b70f0466b350c… (all of the seat's roots in one cut). By AI agents, Wed Nov 11 2026. No macro, syntax, notation, axiom, sorry.
-/
import Derived.Test.YtliojahenpfibaaChecked
import GoSem.Claim
import GoSem.ClaimJoined
import GoSem.ClaimMapViews
import Derived.JoinedTies
import Derived.KernelRfl
namespace Go.Proofs.Ytliojahenpfibaa
/- THE CELL 'sum', in the pinned program and in every row, IS THE sha256 OF THE DUMP (.gsa) THAT YtliojahenpfibaaProg.lean LOADS. Nothing in Lean hashes anything: it is a label: what it is worth is what the hold of that sum in a sandbox is worth. -/
noncomputable def Try.pinned : Pinned := { name := "ytliojahenpfibaa", sum := "f78b70f0466b350c7cb2754e9f5d8c2e3cd6fbe1fbd3b2cdd25b7401f14ee17e", checked := Try.checked }
namespace Rows
def none {H : Type} : Left H := { results := [], args := [] }

/-- 'laws.FnExactIsLieShape': WHATEVER THE INPUT: true; the input reads as it did. -/
def fnExactIsLieShapeSpec : ChangeSpec := { name := "fnExactIsLieShape", fn := fun _ => fun
  | [d] => { results := [.lit (.bool true)], args := [d] }
  | _ => none }
def fnExactIsLieShapeRow : OpenClaim := { program := "ytliojahenpfibaa", sum := "f78b70f0466b350c7cb2754e9f5d8c2e3cd6fbe1fbd3b2cdd25b7401f14ee17e", func := "loop.example/g01076/laws.FnExactIsLieShape", spec := "fnExactIsLieShape", apart := false }
def FnExactIsLieShapeSaid : Prop := fnExactIsLieShapeRow.holds Try.pinned (OpenSpec.ofChange fnExactIsLieShapeSpec)

/-- ITS FALSE NEIGHBOUR: 'it returns false'. Refute it at one input. -/
def fnExactIsLieShapeWrong : ChangeSpec := { name := "fnExactIsLieShape", fn := fun _ => fun
  | [d] => { results := [.lit (.bool false)], args := [d] }
  | _ => none }
def FnExactIsLieShapeWrongFalsely : Prop := fnExactIsLieShapeRow.holds Try.pinned (OpenSpec.ofChange fnExactIsLieShapeWrong)

/-- 'laws.FnExactAbelianRing': WHATEVER THE INPUT: true; the input reads as it did. -/
def fnExactAbelianRingSpec : ChangeSpec := { name := "fnExactAbelianRing", fn := fun _ => fun
  | [d1, d2] => { results := [.lit (.bool true)], args := [d1, d2] }
  | _ => none }
def fnExactAbelianRingRow : OpenClaim := { program := "ytliojahenpfibaa", sum := "f78b70f0466b350c7cb2754e9f5d8c2e3cd6fbe1fbd3b2cdd25b7401f14ee17e", func := "loop.example/g01076/laws.FnExactAbelianRing", spec := "fnExactAbelianRing", apart := false }
def FnExactAbelianRingSaid : Prop := fnExactAbelianRingRow.holds Try.pinned (OpenSpec.ofChange fnExactAbelianRingSpec)

/-- ITS FALSE NEIGHBOUR: 'it returns false'. Refute it at one input. -/
def fnExactAbelianRingWrong : ChangeSpec := { name := "fnExactAbelianRing", fn := fun _ => fun
  | [d1, d2] => { results := [.lit (.bool false)], args := [d1, d2] }
  | _ => none }
def FnExactAbelianRingWrongFalsely : Prop := fnExactAbelianRingRow.holds Try.pinned (OpenSpec.ofChange fnExactAbelianRingWrong)

/-- 'laws.FnExactFirstLieFault': WHATEVER THE INPUT: true; the input reads as it did. -/
def fnExactFirstLieFaultSpec : ChangeSpec := { name := "fnExactFirstLieFault", fn := fun _ => fun
  | [d] => { results := [.lit (.bool true)], args := [d] }
  | _ => none }
def fnExactFirstLieFaultRow : OpenClaim := { program := "ytliojahenpfibaa", sum := "f78b70f0466b350c7cb2754e9f5d8c2e3cd6fbe1fbd3b2cdd25b7401f14ee17e", func := "loop.example/g01076/laws.FnExactFirstLieFault", spec := "fnExactFirstLieFault", apart := false }
def FnExactFirstLieFaultSaid : Prop := fnExactFirstLieFaultRow.holds Try.pinned (OpenSpec.ofChange fnExactFirstLieFaultSpec)

/-- ITS FALSE NEIGHBOUR: 'it returns false'. Refute it at one input. -/
def fnExactFirstLieFaultWrong : ChangeSpec := { name := "fnExactFirstLieFault", fn := fun _ => fun
  | [d] => { results := [.lit (.bool false)], args := [d] }
  | _ => none }
def FnExactFirstLieFaultWrongFalsely : Prop := fnExactFirstLieFaultRow.holds Try.pinned (OpenSpec.ofChange fnExactFirstLieFaultWrong)

/-- 'laws.FnExactIsLieRing': WHATEVER THE INPUT: true; the input reads as it did. -/
def fnExactIsLieRingSpec : ChangeSpec := { name := "fnExactIsLieRing", fn := fun _ => fun
  | [d] => { results := [.lit (.bool true)], args := [d] }
  | _ => none }
def fnExactIsLieRingRow : OpenClaim := { program := "ytliojahenpfibaa", sum := "f78b70f0466b350c7cb2754e9f5d8c2e3cd6fbe1fbd3b2cdd25b7401f14ee17e", func := "loop.example/g01076/laws.FnExactIsLieRing", spec := "fnExactIsLieRing", apart := false }
def FnExactIsLieRingSaid : Prop := fnExactIsLieRingRow.holds Try.pinned (OpenSpec.ofChange fnExactIsLieRingSpec)

/-- ITS FALSE NEIGHBOUR: 'it returns false'. Refute it at one input. -/
def fnExactIsLieRingWrong : ChangeSpec := { name := "fnExactIsLieRing", fn := fun _ => fun
  | [d] => { results := [.lit (.bool false)], args := [d] }
  | _ => none }
def FnExactIsLieRingWrongFalsely : Prop := fnExactIsLieRingRow.holds Try.pinned (OpenSpec.ofChange fnExactIsLieRingWrong)

/-- 'laws.FnExactLieOrder': WHATEVER THE INPUT: true; the input reads as it did. -/
def fnExactLieOrderSpec : ChangeSpec := { name := "fnExactLieOrder", fn := fun _ => fun
  | [d] => { results := [.lit (.bool true)], args := [d] }
  | _ => none }
def fnExactLieOrderRow : OpenClaim := { program := "ytliojahenpfibaa", sum := "f78b70f0466b350c7cb2754e9f5d8c2e3cd6fbe1fbd3b2cdd25b7401f14ee17e", func := "loop.example/g01076/laws.FnExactLieOrder", spec := "fnExactLieOrder", apart := false }
def FnExactLieOrderSaid : Prop := fnExactLieOrderRow.holds Try.pinned (OpenSpec.ofChange fnExactLieOrderSpec)

/-- ITS FALSE NEIGHBOUR: 'it returns false'. Refute it at one input. -/
def fnExactLieOrderWrong : ChangeSpec := { name := "fnExactLieOrder", fn := fun _ => fun
  | [d] => { results := [.lit (.bool false)], args := [d] }
  | _ => none }
def FnExactLieOrderWrongFalsely : Prop := fnExactLieOrderRow.holds Try.pinned (OpenSpec.ofChange fnExactLieOrderWrong)

/-- 'laws.FnLieFaults': WHATEVER THE INPUT: true; the input reads as it did. -/
def fnLieFaultsSpec : ChangeSpec := { name := "fnLieFaults", fn := fun _ => fun
  | [d] => { results := [.lit (.bool true)], args := [d] }
  | _ => none }
def fnLieFaultsRow : OpenClaim := { program := "ytliojahenpfibaa", sum := "f78b70f0466b350c7cb2754e9f5d8c2e3cd6fbe1fbd3b2cdd25b7401f14ee17e", func := "loop.example/g01076/laws.FnLieFaults", spec := "fnLieFaults", apart := false }
def FnLieFaultsSaid : Prop := fnLieFaultsRow.holds Try.pinned (OpenSpec.ofChange fnLieFaultsSpec)

/-- ITS FALSE NEIGHBOUR: 'it returns false'. Refute it at one input. -/
def fnLieFaultsWrong : ChangeSpec := { name := "fnLieFaults", fn := fun _ => fun
  | [d] => { results := [.lit (.bool false)], args := [d] }
  | _ => none }
def FnLieFaultsWrongFalsely : Prop := fnLieFaultsRow.holds Try.pinned (OpenSpec.ofChange fnLieFaultsWrong)

/-- 'laws.FnExactLieElementOrder': WHATEVER THE INPUT: true; the input reads as it did. -/
def fnExactLieElementOrderSpec : ChangeSpec := { name := "fnExactLieElementOrder", fn := fun _ => fun
  | [d1, d2] => { results := [.lit (.bool true)], args := [d1, d2] }
  | _ => none }
def fnExactLieElementOrderRow : OpenClaim := { program := "ytliojahenpfibaa", sum := "f78b70f0466b350c7cb2754e9f5d8c2e3cd6fbe1fbd3b2cdd25b7401f14ee17e", func := "loop.example/g01076/laws.FnExactLieElementOrder", spec := "fnExactLieElementOrder", apart := false }
def FnExactLieElementOrderSaid : Prop := fnExactLieElementOrderRow.holds Try.pinned (OpenSpec.ofChange fnExactLieElementOrderSpec)

/-- ITS FALSE NEIGHBOUR: 'it returns false'. Refute it at one input. -/
def fnExactLieElementOrderWrong : ChangeSpec := { name := "fnExactLieElementOrder", fn := fun _ => fun
  | [d1, d2] => { results := [.lit (.bool false)], args := [d1, d2] }
  | _ => none }
def FnExactLieElementOrderWrongFalsely : Prop := fnExactLieElementOrderRow.holds Try.pinned (OpenSpec.ofChange fnExactLieElementOrderWrong)

/-- 'laws.FnExactAddLie': WHATEVER THE INPUT: true; the input reads as it did. -/
def fnExactAddLieSpec : ChangeSpec := { name := "fnExactAddLie", fn := fun _ => fun
  | [d1, d2, d3] => { results := [.lit (.bool true)], args := [d1, d2, d3] }
  | _ => none }
def fnExactAddLieRow : OpenClaim := { program := "ytliojahenpfibaa", sum := "f78b70f0466b350c7cb2754e9f5d8c2e3cd6fbe1fbd3b2cdd25b7401f14ee17e", func := "loop.example/g01076/laws.FnExactAddLie", spec := "fnExactAddLie", apart := false }
def FnExactAddLieSaid : Prop := fnExactAddLieRow.holds Try.pinned (OpenSpec.ofChange fnExactAddLieSpec)

/-- ITS FALSE NEIGHBOUR: 'it returns false'. Refute it at one input. -/
def fnExactAddLieWrong : ChangeSpec := { name := "fnExactAddLie", fn := fun _ => fun
  | [d1, d2, d3] => { results := [.lit (.bool false)], args := [d1, d2, d3] }
  | _ => none }
def FnExactAddLieWrongFalsely : Prop := fnExactAddLieRow.holds Try.pinned (OpenSpec.ofChange fnExactAddLieWrong)

/-- 'laws.FnExactBracket': WHATEVER THE INPUT: true; the input reads as it did. -/
def fnExactBracketSpec : ChangeSpec := { name := "fnExactBracket", fn := fun _ => fun
  | [d1, d2, d3] => { results := [.lit (.bool true)], args := [d1, d2, d3] }
  | _ => none }
def fnExactBracketRow : OpenClaim := { program := "ytliojahenpfibaa", sum := "f78b70f0466b350c7cb2754e9f5d8c2e3cd6fbe1fbd3b2cdd25b7401f14ee17e", func := "loop.example/g01076/laws.FnExactBracket", spec := "fnExactBracket", apart := false }
def FnExactBracketSaid : Prop := fnExactBracketRow.holds Try.pinned (OpenSpec.ofChange fnExactBracketSpec)

/-- ITS FALSE NEIGHBOUR: 'it returns false'. Refute it at one input. -/
def fnExactBracketWrong : ChangeSpec := { name := "fnExactBracket", fn := fun _ => fun
  | [d1, d2, d3] => { results := [.lit (.bool false)], args := [d1, d2, d3] }
  | _ => none }
def FnExactBracketWrongFalsely : Prop := fnExactBracketRow.holds Try.pinned (OpenSpec.ofChange fnExactBracketWrong)

/-- 'laws.FnExactNegateLie': WHATEVER THE INPUT: true; the input reads as it did. -/
def fnExactNegateLieSpec : ChangeSpec := { name := "fnExactNegateLie", fn := fun _ => fun
  | [d1, d2] => { results := [.lit (.bool true)], args := [d1, d2] }
  | _ => none }
def fnExactNegateLieRow : OpenClaim := { program := "ytliojahenpfibaa", sum := "f78b70f0466b350c7cb2754e9f5d8c2e3cd6fbe1fbd3b2cdd25b7401f14ee17e", func := "loop.example/g01076/laws.FnExactNegateLie", spec := "fnExactNegateLie", apart := false }
def FnExactNegateLieSaid : Prop := fnExactNegateLieRow.holds Try.pinned (OpenSpec.ofChange fnExactNegateLieSpec)

/-- ITS FALSE NEIGHBOUR: 'it returns false'. Refute it at one input. -/
def fnExactNegateLieWrong : ChangeSpec := { name := "fnExactNegateLie", fn := fun _ => fun
  | [d1, d2] => { results := [.lit (.bool false)], args := [d1, d2] }
  | _ => none }
def FnExactNegateLieWrongFalsely : Prop := fnExactNegateLieRow.holds Try.pinned (OpenSpec.ofChange fnExactNegateLieWrong)

/-- 'laws.FnExactTimesLie': WHATEVER THE INPUT: true; the input reads as it did. -/
def fnExactTimesLieSpec : ChangeSpec := { name := "fnExactTimesLie", fn := fun _ => fun
  | [d1, d2, d3] => { results := [.lit (.bool true)], args := [d1, d2, d3] }
  | _ => none }
def fnExactTimesLieRow : OpenClaim := { program := "ytliojahenpfibaa", sum := "f78b70f0466b350c7cb2754e9f5d8c2e3cd6fbe1fbd3b2cdd25b7401f14ee17e", func := "loop.example/g01076/laws.FnExactTimesLie", spec := "fnExactTimesLie", apart := false }
def FnExactTimesLieSaid : Prop := fnExactTimesLieRow.holds Try.pinned (OpenSpec.ofChange fnExactTimesLieSpec)

/-- ITS FALSE NEIGHBOUR: 'it returns false'. Refute it at one input. -/
def fnExactTimesLieWrong : ChangeSpec := { name := "fnExactTimesLie", fn := fun _ => fun
  | [d1, d2, d3] => { results := [.lit (.bool false)], args := [d1, d2, d3] }
  | _ => none }
def FnExactTimesLieWrongFalsely : Prop := fnExactTimesLieRow.holds Try.pinned (OpenSpec.ofChange fnExactTimesLieWrong)

/-- 'laws.FnBrackets': WHATEVER THE INPUT: true; the input reads as it did. -/
def fnBracketsSpec : ChangeSpec := { name := "fnBrackets", fn := fun _ => fun
  | [d] => { results := [.lit (.bool true)], args := [d] }
  | _ => none }
def fnBracketsRow : OpenClaim := { program := "ytliojahenpfibaa", sum := "f78b70f0466b350c7cb2754e9f5d8c2e3cd6fbe1fbd3b2cdd25b7401f14ee17e", func := "loop.example/g01076/laws.FnBrackets", spec := "fnBrackets", apart := false }
def FnBracketsSaid : Prop := fnBracketsRow.holds Try.pinned (OpenSpec.ofChange fnBracketsSpec)

/-- ITS FALSE NEIGHBOUR: 'it returns false'. Refute it at one input. -/
def fnBracketsWrong : ChangeSpec := { name := "fnBrackets", fn := fun _ => fun
  | [d] => { results := [.lit (.bool false)], args := [d] }
  | _ => none }
def FnBracketsWrongFalsely : Prop := fnBracketsRow.holds Try.pinned (OpenSpec.ofChange fnBracketsWrong)

/- THE SECOND FORM. 'bulk': how many values and letters a reading holds, each counted each time it is reached (what is shared counts as often as it is met; a slice's spare places count too). A statement '..UptoSaid' is the law's where the arguments, and the package variables that the reading takes, are together of bulk at most 1048576: NARROWER than '..Said'. Prove '..Said' where nothing that the law and all that it calls make is longer than what came in: it says more and counts as full. Else prove '..UptoSaid'. A law counts once. -/
mutual
def uptoBulk {H : Type} : DataW H → Nat
  | .lit (.string bytes) => bytes.length + 1
  | .lit _ => 1
  | .nil => 1
  | .ptr d => uptoBulk d + 1
  | .slice elems spare => uptoBulkAll elems + uptoBulkAll spare + 1
  | .agg parts => uptoBulkAll parts + 1
  | .iface _ d => uptoBulk d + 1
  | .map entries => uptoBulkEntries entries + 1
  | .held _ => 1
def uptoBulkAll {H : Type} : List (DataW H) → Nat
  | [] => 0
  | d :: r => uptoBulk d + uptoBulkAll r
def uptoBulkEntries {H : Type} : List (Lit × DataW H) → Nat
  | [] => 0
  | x :: r => uptoBulkEntry x + uptoBulkEntries r
def uptoBulkEntry {H : Type} : Lit × DataW H → Nat
  | (.string bytes, d) => bytes.length + uptoBulk d + 1
  | (_, d) => uptoBulk d + 1
 end
def uptoSmall : (H : Type) → List (DataW H) → Bool := fun _ ds => decide (uptoBulkAll ds ≤ 1048576)
def OpenSpec.upto (s : _root_.Go.ChangeSpec) : _root_.Go.OpenSpec := { _root_.Go.OpenSpec.ofChange s with cond := some uptoSmall }

/-- 'laws.FnExactIsLieShape', WHERE WHAT IT READS IS OF BULK AT MOST 1048576: true; the input reads as it did. -/
def fnExactIsLieShapeUptoRow : OpenClaim := { program := "ytliojahenpfibaa", sum := "f78b70f0466b350c7cb2754e9f5d8c2e3cd6fbe1fbd3b2cdd25b7401f14ee17e", func := "loop.example/g01076/laws.FnExactIsLieShape", spec := "fnExactIsLieShape", apart := false, narrowed := true }
def FnExactIsLieShapeUptoSaid : Prop := fnExactIsLieShapeUptoRow.holds Try.pinned (OpenSpec.upto fnExactIsLieShapeSpec)

/-- 'laws.FnExactAbelianRing', WHERE WHAT IT READS IS OF BULK AT MOST 1048576: true; the input reads as it did. -/
def fnExactAbelianRingUptoRow : OpenClaim := { program := "ytliojahenpfibaa", sum := "f78b70f0466b350c7cb2754e9f5d8c2e3cd6fbe1fbd3b2cdd25b7401f14ee17e", func := "loop.example/g01076/laws.FnExactAbelianRing", spec := "fnExactAbelianRing", apart := false, narrowed := true }
def FnExactAbelianRingUptoSaid : Prop := fnExactAbelianRingUptoRow.holds Try.pinned (OpenSpec.upto fnExactAbelianRingSpec)

/-- 'laws.FnExactFirstLieFault', WHERE WHAT IT READS IS OF BULK AT MOST 1048576: true; the input reads as it did. -/
def fnExactFirstLieFaultUptoRow : OpenClaim := { program := "ytliojahenpfibaa", sum := "f78b70f0466b350c7cb2754e9f5d8c2e3cd6fbe1fbd3b2cdd25b7401f14ee17e", func := "loop.example/g01076/laws.FnExactFirstLieFault", spec := "fnExactFirstLieFault", apart := false, narrowed := true }
def FnExactFirstLieFaultUptoSaid : Prop := fnExactFirstLieFaultUptoRow.holds Try.pinned (OpenSpec.upto fnExactFirstLieFaultSpec)

/-- 'laws.FnExactIsLieRing', WHERE WHAT IT READS IS OF BULK AT MOST 1048576: true; the input reads as it did. -/
def fnExactIsLieRingUptoRow : OpenClaim := { program := "ytliojahenpfibaa", sum := "f78b70f0466b350c7cb2754e9f5d8c2e3cd6fbe1fbd3b2cdd25b7401f14ee17e", func := "loop.example/g01076/laws.FnExactIsLieRing", spec := "fnExactIsLieRing", apart := false, narrowed := true }
def FnExactIsLieRingUptoSaid : Prop := fnExactIsLieRingUptoRow.holds Try.pinned (OpenSpec.upto fnExactIsLieRingSpec)

/-- 'laws.FnExactLieOrder', WHERE WHAT IT READS IS OF BULK AT MOST 1048576: true; the input reads as it did. -/
def fnExactLieOrderUptoRow : OpenClaim := { program := "ytliojahenpfibaa", sum := "f78b70f0466b350c7cb2754e9f5d8c2e3cd6fbe1fbd3b2cdd25b7401f14ee17e", func := "loop.example/g01076/laws.FnExactLieOrder", spec := "fnExactLieOrder", apart := false, narrowed := true }
def FnExactLieOrderUptoSaid : Prop := fnExactLieOrderUptoRow.holds Try.pinned (OpenSpec.upto fnExactLieOrderSpec)

/-- 'laws.FnLieFaults', WHERE WHAT IT READS IS OF BULK AT MOST 1048576: true; the input reads as it did. -/
def fnLieFaultsUptoRow : OpenClaim := { program := "ytliojahenpfibaa", sum := "f78b70f0466b350c7cb2754e9f5d8c2e3cd6fbe1fbd3b2cdd25b7401f14ee17e", func := "loop.example/g01076/laws.FnLieFaults", spec := "fnLieFaults", apart := false, narrowed := true }
def FnLieFaultsUptoSaid : Prop := fnLieFaultsUptoRow.holds Try.pinned (OpenSpec.upto fnLieFaultsSpec)

/-- 'laws.FnExactLieElementOrder', WHERE WHAT IT READS IS OF BULK AT MOST 1048576: true; the input reads as it did. -/
def fnExactLieElementOrderUptoRow : OpenClaim := { program := "ytliojahenpfibaa", sum := "f78b70f0466b350c7cb2754e9f5d8c2e3cd6fbe1fbd3b2cdd25b7401f14ee17e", func := "loop.example/g01076/laws.FnExactLieElementOrder", spec := "fnExactLieElementOrder", apart := false, narrowed := true }
def FnExactLieElementOrderUptoSaid : Prop := fnExactLieElementOrderUptoRow.holds Try.pinned (OpenSpec.upto fnExactLieElementOrderSpec)

/-- 'laws.FnExactAddLie', WHERE WHAT IT READS IS OF BULK AT MOST 1048576: true; the input reads as it did. -/
def fnExactAddLieUptoRow : OpenClaim := { program := "ytliojahenpfibaa", sum := "f78b70f0466b350c7cb2754e9f5d8c2e3cd6fbe1fbd3b2cdd25b7401f14ee17e", func := "loop.example/g01076/laws.FnExactAddLie", spec := "fnExactAddLie", apart := false, narrowed := true }
def FnExactAddLieUptoSaid : Prop := fnExactAddLieUptoRow.holds Try.pinned (OpenSpec.upto fnExactAddLieSpec)

/-- 'laws.FnExactBracket', WHERE WHAT IT READS IS OF BULK AT MOST 1048576: true; the input reads as it did. -/
def fnExactBracketUptoRow : OpenClaim := { program := "ytliojahenpfibaa", sum := "f78b70f0466b350c7cb2754e9f5d8c2e3cd6fbe1fbd3b2cdd25b7401f14ee17e", func := "loop.example/g01076/laws.FnExactBracket", spec := "fnExactBracket", apart := false, narrowed := true }
def FnExactBracketUptoSaid : Prop := fnExactBracketUptoRow.holds Try.pinned (OpenSpec.upto fnExactBracketSpec)

/-- 'laws.FnExactNegateLie', WHERE WHAT IT READS IS OF BULK AT MOST 1048576: true; the input reads as it did. -/
def fnExactNegateLieUptoRow : OpenClaim := { program := "ytliojahenpfibaa", sum := "f78b70f0466b350c7cb2754e9f5d8c2e3cd6fbe1fbd3b2cdd25b7401f14ee17e", func := "loop.example/g01076/laws.FnExactNegateLie", spec := "fnExactNegateLie", apart := false, narrowed := true }
def FnExactNegateLieUptoSaid : Prop := fnExactNegateLieUptoRow.holds Try.pinned (OpenSpec.upto fnExactNegateLieSpec)

/-- 'laws.FnExactTimesLie', WHERE WHAT IT READS IS OF BULK AT MOST 1048576: true; the input reads as it did. -/
def fnExactTimesLieUptoRow : OpenClaim := { program := "ytliojahenpfibaa", sum := "f78b70f0466b350c7cb2754e9f5d8c2e3cd6fbe1fbd3b2cdd25b7401f14ee17e", func := "loop.example/g01076/laws.FnExactTimesLie", spec := "fnExactTimesLie", apart := false, narrowed := true }
def FnExactTimesLieUptoSaid : Prop := fnExactTimesLieUptoRow.holds Try.pinned (OpenSpec.upto fnExactTimesLieSpec)

/-- 'laws.FnBrackets', WHERE WHAT IT READS IS OF BULK AT MOST 1048576: true; the input reads as it did. -/
def fnBracketsUptoRow : OpenClaim := { program := "ytliojahenpfibaa", sum := "f78b70f0466b350c7cb2754e9f5d8c2e3cd6fbe1fbd3b2cdd25b7401f14ee17e", func := "loop.example/g01076/laws.FnBrackets", spec := "fnBrackets", apart := false, narrowed := true }
def FnBracketsUptoSaid : Prop := fnBracketsUptoRow.holds Try.pinned (OpenSpec.upto fnBracketsSpec)

end Rows
end Go.Proofs.Ytliojahenpfibaa
