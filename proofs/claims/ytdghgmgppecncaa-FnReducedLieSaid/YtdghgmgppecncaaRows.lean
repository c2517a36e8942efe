/-
  No cell of these rows narrows 'for every input' (looked for: loops, veiled, ifaces, maps, wideKeys, modest, calm, conditions, laid).
  DERIVED. THE GIVEN ROWS OF THIS SEAT. 10 by the template 'for every input the law returns true; each argument reads behind the call as it read before'; 0 by the template 'total and deterministic' (their statements: YtdghgmgppecncaaTotals.lean).
  GIVEN WITH THE SEED: the statements are not yours to turn. If you find one false, say at which input.
  Laid BY PROGRAM, IN A SANDBOX (cutbox-rows.mjs): the forced cells as the released guide's own fill.sh prints them over the translation 9ac00eda0f891f9c… (all of the seat's roots in one cut). By AI agents, Wed Nov 11 2026. No macro, syntax, notation, axiom, sorry.
-/
import Derived.Test.YtdghgmgppecncaaChecked
import GoSem.Claim
import GoSem.ClaimJoined
import GoSem.ClaimMapViews
import Derived.JoinedTies
import Derived.KernelRfl
namespace Go.Proofs.Ytdghgmgppecncaa
/- THE CELL 'sum', in the pinned program and in every row, IS THE sha256 OF THE DUMP (.gsa) THAT YtdghgmgppecncaaProg.lean LOADS. Nothing in Lean hashes anything: it is a label: what it is worth is what the hold of that sum in a sandbox is worth. -/
noncomputable def Try.pinned : Pinned := { name := "ytdghgmgppecncaa", sum := "9ac00eda0f891f9c46a16946d1234030f5172d692f73add1a1962c835c9bc14e", checked := Try.checked }
namespace Rows
def none {H : Type} : Left H := { results := [], args := [] }

/-- 'laws.FnExactFpOfPresentation': WHATEVER THE INPUT: true; the input reads as it did. -/
def fnExactFpOfPresentationSpec : ChangeSpec := { name := "fnExactFpOfPresentation", fn := fun _ => fun
  | [d] => { results := [.lit (.bool true)], args := [d] }
  | _ => none }
def fnExactFpOfPresentationRow : OpenClaim := { program := "ytdghgmgppecncaa", sum := "9ac00eda0f891f9c46a16946d1234030f5172d692f73add1a1962c835c9bc14e", func := "loop.example/g01076/laws.FnExactFpOfPresentation", spec := "fnExactFpOfPresentation", apart := false }
def FnExactFpOfPresentationSaid : Prop := fnExactFpOfPresentationRow.holds Try.pinned (OpenSpec.ofChange fnExactFpOfPresentationSpec)

/-- ITS FALSE NEIGHBOUR: 'it returns false'. Refute it at one input. -/
def fnExactFpOfPresentationWrong : ChangeSpec := { name := "fnExactFpOfPresentation", fn := fun _ => fun
  | [d] => { results := [.lit (.bool false)], args := [d] }
  | _ => none }
def FnExactFpOfPresentationWrongFalsely : Prop := fnExactFpOfPresentationRow.holds Try.pinned (OpenSpec.ofChange fnExactFpOfPresentationWrong)

/-- 'laws.FnExactCountFpHoms': WHATEVER THE INPUT: true; the input reads as it did. -/
def fnExactCountFpHomsSpec : ChangeSpec := { name := "fnExactCountFpHoms", fn := fun _ => fun
  | [d1, d2] => { results := [.lit (.bool true)], args := [d1, d2] }
  | _ => none }
def fnExactCountFpHomsRow : OpenClaim := { program := "ytdghgmgppecncaa", sum := "9ac00eda0f891f9c46a16946d1234030f5172d692f73add1a1962c835c9bc14e", func := "loop.example/g01076/laws.FnExactCountFpHoms", spec := "fnExactCountFpHoms", unfollowed := true, recurses := true, apart := false }
def FnExactCountFpHomsSaid : Prop := fnExactCountFpHomsRow.holds Try.pinned (OpenSpec.ofChange fnExactCountFpHomsSpec)

/-- ITS FALSE NEIGHBOUR: 'it returns false'. Refute it at one input. -/
def fnExactCountFpHomsWrong : ChangeSpec := { name := "fnExactCountFpHoms", fn := fun _ => fun
  | [d1, d2] => { results := [.lit (.bool false)], args := [d1, d2] }
  | _ => none }
def FnExactCountFpHomsWrongFalsely : Prop := fnExactCountFpHomsRow.holds Try.pinned (OpenSpec.ofChange fnExactCountFpHomsWrong)

/-- 'laws.FnExactCayleyTable': WHATEVER THE INPUT: true; the input reads as it did. -/
def fnExactCayleyTableSpec : ChangeSpec := { name := "fnExactCayleyTable", fn := fun _ => fun
  | [d1, d2] => { results := [.lit (.bool true)], args := [d1, d2] }
  | _ => none }
def fnExactCayleyTableRow : OpenClaim := { program := "ytdghgmgppecncaa", sum := "9ac00eda0f891f9c46a16946d1234030f5172d692f73add1a1962c835c9bc14e", func := "loop.example/g01076/laws.FnExactCayleyTable", spec := "fnExactCayleyTable", unfollowed := true, recurses := true, apart := false }
def FnExactCayleyTableSaid : Prop := fnExactCayleyTableRow.holds Try.pinned (OpenSpec.ofChange fnExactCayleyTableSpec)

/-- ITS FALSE NEIGHBOUR: 'it returns false'. Refute it at one input. -/
def fnExactCayleyTableWrong : ChangeSpec := { name := "fnExactCayleyTable", fn := fun _ => fun
  | [d1, d2] => { results := [.lit (.bool false)], args := [d1, d2] }
  | _ => none }
def FnExactCayleyTableWrongFalsely : Prop := fnExactCayleyTableRow.holds Try.pinned (OpenSpec.ofChange fnExactCayleyTableWrong)

/-- 'laws.FnExactExponentClass': WHATEVER THE INPUT: true; the input reads as it did. -/
def fnExactExponentClassSpec : ChangeSpec := { name := "fnExactExponentClass", fn := fun _ => fun
  | [d] => { results := [.lit (.bool true)], args := [d] }
  | _ => none }
def fnExactExponentClassRow : OpenClaim := { program := "ytdghgmgppecncaa", sum := "9ac00eda0f891f9c46a16946d1234030f5172d692f73add1a1962c835c9bc14e", func := "loop.example/g01076/laws.FnExactExponentClass", spec := "fnExactExponentClass", unfollowed := true, recurses := true, apart := false }
def FnExactExponentClassSaid : Prop := fnExactExponentClassRow.holds Try.pinned (OpenSpec.ofChange fnExactExponentClassSpec)

/-- ITS FALSE NEIGHBOUR: 'it returns false'. Refute it at one input. -/
def fnExactExponentClassWrong : ChangeSpec := { name := "fnExactExponentClass", fn := fun _ => fun
  | [d] => { results := [.lit (.bool false)], args := [d] }
  | _ => none }
def FnExactExponentClassWrongFalsely : Prop := fnExactExponentClassRow.holds Try.pinned (OpenSpec.ofChange fnExactExponentClassWrong)

/-- 'laws.FnLieFaults': WHATEVER THE INPUT: true; the input reads as it did. -/
def fnLieFaultsSpec : ChangeSpec := { name := "fnLieFaults", fn := fun _ => fun
  | [d] => { results := [.lit (.bool true)], args := [d] }
  | _ => none }
def fnLieFaultsRow : OpenClaim := { program := "ytdghgmgppecncaa", sum := "9ac00eda0f891f9c46a16946d1234030f5172d692f73add1a1962c835c9bc14e", func := "loop.example/g01076/laws.FnLieFaults", spec := "fnLieFaults", apart := false }
def FnLieFaultsSaid : Prop := fnLieFaultsRow.holds Try.pinned (OpenSpec.ofChange fnLieFaultsSpec)

/-- ITS FALSE NEIGHBOUR: 'it returns false'. Refute it at one input. -/
def fnLieFaultsWrong : ChangeSpec := { name := "fnLieFaults", fn := fun _ => fun
  | [d] => { results := [.lit (.bool false)], args := [d] }
  | _ => none }
def FnLieFaultsWrongFalsely : Prop := fnLieFaultsRow.holds Try.pinned (OpenSpec.ofChange fnLieFaultsWrong)

/-- 'laws.FnBrackets': WHATEVER THE INPUT: true; the input reads as it did. -/
def fnBracketsSpec : ChangeSpec := { name := "fnBrackets", fn := fun _ => fun
  | [d] => { results := [.lit (.bool true)], args := [d] }
  | _ => none }
def fnBracketsRow : OpenClaim := { program := "ytdghgmgppecncaa", sum := "9ac00eda0f891f9c46a16946d1234030f5172d692f73add1a1962c835c9bc14e", func := "loop.example/g01076/laws.FnBrackets", spec := "fnBrackets", apart := false }
def FnBracketsSaid : Prop := fnBracketsRow.holds Try.pinned (OpenSpec.ofChange fnBracketsSpec)

/-- ITS FALSE NEIGHBOUR: 'it returns false'. Refute it at one input. -/
def fnBracketsWrong : ChangeSpec := { name := "fnBrackets", fn := fun _ => fun
  | [d] => { results := [.lit (.bool false)], args := [d] }
  | _ => none }
def FnBracketsWrongFalsely : Prop := fnBracketsRow.holds Try.pinned (OpenSpec.ofChange fnBracketsWrong)

/-- 'laws.FnLieSums': WHATEVER THE INPUT: true; the input reads as it did. -/
def fnLieSumsSpec : ChangeSpec := { name := "fnLieSums", fn := fun _ => fun
  | [d] => { results := [.lit (.bool true)], args := [d] }
  | _ => none }
def fnLieSumsRow : OpenClaim := { program := "ytdghgmgppecncaa", sum := "9ac00eda0f891f9c46a16946d1234030f5172d692f73add1a1962c835c9bc14e", func := "loop.example/g01076/laws.FnLieSums", spec := "fnLieSums", recurses := true, apart := false }
def FnLieSumsSaid : Prop := fnLieSumsRow.holds Try.pinned (OpenSpec.ofChange fnLieSumsSpec)

/-- ITS FALSE NEIGHBOUR: 'it returns false'. Refute it at one input. -/
def fnLieSumsWrong : ChangeSpec := { name := "fnLieSums", fn := fun _ => fun
  | [d] => { results := [.lit (.bool false)], args := [d] }
  | _ => none }
def FnLieSumsWrongFalsely : Prop := fnLieSumsRow.holds Try.pinned (OpenSpec.ofChange fnLieSumsWrong)

/-- 'laws.FnExactLieAdditive': WHATEVER THE INPUT: true; the input reads as it did. -/
def fnExactLieAdditiveSpec : ChangeSpec := { name := "fnExactLieAdditive", fn := fun _ => fun
  | [d] => { results := [.lit (.bool true)], args := [d] }
  | _ => none }
def fnExactLieAdditiveRow : OpenClaim := { program := "ytdghgmgppecncaa", sum := "9ac00eda0f891f9c46a16946d1234030f5172d692f73add1a1962c835c9bc14e", func := "loop.example/g01076/laws.FnExactLieAdditive", spec := "fnExactLieAdditive", recurses := true, apart := false }
def FnExactLieAdditiveSaid : Prop := fnExactLieAdditiveRow.holds Try.pinned (OpenSpec.ofChange fnExactLieAdditiveSpec)

/-- ITS FALSE NEIGHBOUR: 'it returns false'. Refute it at one input. -/
def fnExactLieAdditiveWrong : ChangeSpec := { name := "fnExactLieAdditive", fn := fun _ => fun
  | [d] => { results := [.lit (.bool false)], args := [d] }
  | _ => none }
def FnExactLieAdditiveWrongFalsely : Prop := fnExactLieAdditiveRow.holds Try.pinned (OpenSpec.ofChange fnExactLieAdditiveWrong)

/-- 'laws.FnReducedLie': WHATEVER THE INPUT: true; the input reads as it did. -/
def fnReducedLieSpec : ChangeSpec := { name := "fnReducedLie", fn := fun _ => fun
  | [d] => { results := [.lit (.bool true)], args := [d] }
  | _ => none }
def fnReducedLieRow : OpenClaim := { program := "ytdghgmgppecncaa", sum := "9ac00eda0f891f9c46a16946d1234030f5172d692f73add1a1962c835c9bc14e", func := "loop.example/g01076/laws.FnReducedLie", spec := "fnReducedLie", unfollowed := true, recurses := true, apart := false }
def FnReducedLieSaid : Prop := fnReducedLieRow.holds Try.pinned (OpenSpec.ofChange fnReducedLieSpec)

/-- ITS FALSE NEIGHBOUR: 'it returns false'. Refute it at one input. -/
def fnReducedLieWrong : ChangeSpec := { name := "fnReducedLie", fn := fun _ => fun
  | [d] => { results := [.lit (.bool false)], args := [d] }
  | _ => none }
def FnReducedLieWrongFalsely : Prop := fnReducedLieRow.holds Try.pinned (OpenSpec.ofChange fnReducedLieWrong)

/-- 'laws.FnLieSeries': WHATEVER THE INPUT: true; the input reads as it did. -/
def fnLieSeriesSpec : ChangeSpec := { name := "fnLieSeries", fn := fun _ => fun
  | [d] => { results := [.lit (.bool true)], args := [d] }
  | _ => none }
def fnLieSeriesRow : OpenClaim := { program := "ytdghgmgppecncaa", sum := "9ac00eda0f891f9c46a16946d1234030f5172d692f73add1a1962c835c9bc14e", func := "loop.example/g01076/laws.FnLieSeries", spec := "fnLieSeries", unfollowed := true, recurses := true, apart := false }
def FnLieSeriesSaid : Prop := fnLieSeriesRow.holds Try.pinned (OpenSpec.ofChange fnLieSeriesSpec)

/-- ITS FALSE NEIGHBOUR: 'it returns false'. Refute it at one input. -/
def fnLieSeriesWrong : ChangeSpec := { name := "fnLieSeries", fn := fun _ => fun
  | [d] => { results := [.lit (.bool false)], args := [d] }
  | _ => none }
def FnLieSeriesWrongFalsely : Prop := fnLieSeriesRow.holds Try.pinned (OpenSpec.ofChange fnLieSeriesWrong)

/- THE SECOND FORM. 'bulk': how many values and letters a reading holds, each counted each time it is reached (what is shared counts as often as it is met; a slice's spare places count too). A statement '..UptoSaid' is the law's where the arguments, and the package variables that the reading takes, are together of bulk at most 1048576: NARROWER than '..Said'. Prove '..Said' where nothing that the law and all that it calls make is longer than what came in: it says more and counts as full. Else prove '..UptoSaid'. A law counts once. -/
mutual
def uptoBulk {H : Type} : DataW H → Nat
  | .lit (.string bytes) => bytes.length + 1
  | .lit _ => 1
  | .nil => 1
  | .ptr d => uptoBulk d + 1
  | .slice elems spare => uptoBulkAll elems + uptoBulkAll spare + 1
  | .agg parts => uptoBulkAll parts + 1
  | .iface _ d => uptoBulk d + 1
  | .map entries => uptoBulkEntries entries + 1
  | .held _ => 1
def uptoBulkAll {H : Type} : List (DataW H) → Nat
  | [] => 0
  | d :: r => uptoBulk d + uptoBulkAll r
def uptoBulkEntries {H : Type} : List (Lit × DataW H) → Nat
  | [] => 0
  | x :: r => uptoBulkEntry x + uptoBulkEntries r
def uptoBulkEntry {H : Type} : Lit × DataW H → Nat
  | (.string bytes, d) => bytes.length + uptoBulk d + 1
  | (_, d) => uptoBulk d + 1
 end
def uptoSmall : (H : Type) → List (DataW H) → Bool := fun _ ds => decide (uptoBulkAll ds ≤ 1048576)
def OpenSpec.upto (s : _root_.Go.ChangeSpec) : _root_.Go.OpenSpec := { _root_.Go.OpenSpec.ofChange s with cond := some uptoSmall }

/-- 'laws.FnExactFpOfPresentation', WHERE WHAT IT READS IS OF BULK AT MOST 1048576: true; the input reads as it did. -/
def fnExactFpOfPresentationUptoRow : OpenClaim := { program := "ytdghgmgppecncaa", sum := "9ac00eda0f891f9c46a16946d1234030f5172d692f73add1a1962c835c9bc14e", func := "loop.example/g01076/laws.FnExactFpOfPresentation", spec := "fnExactFpOfPresentation", apart := false, narrowed := true }
def FnExactFpOfPresentationUptoSaid : Prop := fnExactFpOfPresentationUptoRow.holds Try.pinned (OpenSpec.upto fnExactFpOfPresentationSpec)

/-- 'laws.FnExactCountFpHoms', WHERE WHAT IT READS IS OF BULK AT MOST 1048576: true; the input reads as it did. -/
def fnExactCountFpHomsUptoRow : OpenClaim := { program := "ytdghgmgppecncaa", sum := "9ac00eda0f891f9c46a16946d1234030f5172d692f73add1a1962c835c9bc14e", func := "loop.example/g01076/laws.FnExactCountFpHoms", spec := "fnExactCountFpHoms", unfollowed := true, recurses := true, apart := false, narrowed := true }
def FnExactCountFpHomsUptoSaid : Prop := fnExactCountFpHomsUptoRow.holds Try.pinned (OpenSpec.upto fnExactCountFpHomsSpec)

/-- 'laws.FnExactCayleyTable', WHERE WHAT IT READS IS OF BULK AT MOST 1048576: true; the input reads as it did. -/
def fnExactCayleyTableUptoRow : OpenClaim := { program := "ytdghgmgppecncaa", sum := "9ac00eda0f891f9c46a16946d1234030f5172d692f73add1a1962c835c9bc14e", func := "loop.example/g01076/laws.FnExactCayleyTable", spec := "fnExactCayleyTable", unfollowed := true, recurses := true, apart := false, narrowed := true }
def FnExactCayleyTableUptoSaid : Prop := fnExactCayleyTableUptoRow.holds Try.pinned (OpenSpec.upto fnExactCayleyTableSpec)

/-- 'laws.FnExactExponentClass', WHERE WHAT IT READS IS OF BULK AT MOST 1048576: true; the input reads as it did. -/
def fnExactExponentClassUptoRow : OpenClaim := { program := "ytdghgmgppecncaa", sum := "9ac00eda0f891f9c46a16946d1234030f5172d692f73add1a1962c835c9bc14e", func := "loop.example/g01076/laws.FnExactExponentClass", spec := "fnExactExponentClass", unfollowed := true, recurses := true, apart := false, narrowed := true }
def FnExactExponentClassUptoSaid : Prop := fnExactExponentClassUptoRow.holds Try.pinned (OpenSpec.upto fnExactExponentClassSpec)

/-- 'laws.FnLieFaults', WHERE WHAT IT READS IS OF BULK AT MOST 1048576: true; the input reads as it did. -/
def fnLieFaultsUptoRow : OpenClaim := { program := "ytdghgmgppecncaa", sum := "9ac00eda0f891f9c46a16946d1234030f5172d692f73add1a1962c835c9bc14e", func := "loop.example/g01076/laws.FnLieFaults", spec := "fnLieFaults", apart := false, narrowed := true }
def FnLieFaultsUptoSaid : Prop := fnLieFaultsUptoRow.holds Try.pinned (OpenSpec.upto fnLieFaultsSpec)

/-- 'laws.FnBrackets', WHERE WHAT IT READS IS OF BULK AT MOST 1048576: true; the input reads as it did. -/
def fnBracketsUptoRow : OpenClaim := { program := "ytdghgmgppecncaa", sum := "9ac00eda0f891f9c46a16946d1234030f5172d692f73add1a1962c835c9bc14e", func := "loop.example/g01076/laws.FnBrackets", spec := "fnBrackets", apart := false, narrowed := true }
def FnBracketsUptoSaid : Prop := fnBracketsUptoRow.holds Try.pinned (OpenSpec.upto fnBracketsSpec)

/-- 'laws.FnLieSums', WHERE WHAT IT READS IS OF BULK AT MOST 1048576: true; the input reads as it did. -/
def fnLieSumsUptoRow : OpenClaim := { program := "ytdghgmgppecncaa", sum := "9ac00eda0f891f9c46a16946d1234030f5172d692f73add1a1962c835c9bc14e", func := "loop.example/g01076/laws.FnLieSums", spec := "fnLieSums", recurses := true, apart := false, narrowed := true }
def FnLieSumsUptoSaid : Prop := fnLieSumsUptoRow.holds Try.pinned (OpenSpec.upto fnLieSumsSpec)

/-- 'laws.FnExactLieAdditive', WHERE WHAT IT READS IS OF BULK AT MOST 1048576: true; the input reads as it did. -/
def fnExactLieAdditiveUptoRow : OpenClaim := { program := "ytdghgmgppecncaa", sum := "9ac00eda0f891f9c46a16946d1234030f5172d692f73add1a1962c835c9bc14e", func := "loop.example/g01076/laws.FnExactLieAdditive", spec := "fnExactLieAdditive", recurses := true, apart := false, narrowed := true }
def FnExactLieAdditiveUptoSaid : Prop := fnExactLieAdditiveUptoRow.holds Try.pinned (OpenSpec.upto fnExactLieAdditiveSpec)

/-- 'laws.FnReducedLie', WHERE WHAT IT READS IS OF BULK AT MOST 1048576: true; the input reads as it did. -/
def fnReducedLieUptoRow : OpenClaim := { program := "ytdghgmgppecncaa", sum := "9ac00eda0f891f9c46a16946d1234030f5172d692f73add1a1962c835c9bc14e", func := "loop.example/g01076/laws.FnReducedLie", spec := "fnReducedLie", unfollowed := true, recurses := true, apart := false, narrowed := true }
def FnReducedLieUptoSaid : Prop := fnReducedLieUptoRow.holds Try.pinned (OpenSpec.upto fnReducedLieSpec)

/-- 'laws.FnLieSeries', WHERE WHAT IT READS IS OF BULK AT MOST 1048576: true; the input reads as it did. -/
def fnLieSeriesUptoRow : OpenClaim := { program := "ytdghgmgppecncaa", sum := "9ac00eda0f891f9c46a16946d1234030f5172d692f73add1a1962c835c9bc14e", func := "loop.example/g01076/laws.FnLieSeries", spec := "fnLieSeries", unfollowed := true, recurses := true, apart := false, narrowed := true }
def FnLieSeriesUptoSaid : Prop := fnLieSeriesUptoRow.holds Try.pinned (OpenSpec.upto fnLieSeriesSpec)

end Rows
end Go.Proofs.Ytdghgmgppecncaa
