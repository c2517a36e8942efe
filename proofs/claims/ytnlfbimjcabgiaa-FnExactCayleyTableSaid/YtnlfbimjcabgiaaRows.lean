/-
  No cell of these rows narrows 'for every input' (looked for: loops, veiled, ifaces, maps, wideKeys, modest, calm, conditions, laid).
  DERIVED. THE GIVEN ROWS OF THIS SEAT. 2 by the template 'for every input the law returns true; each argument reads behind the call as it read before'; 0 by the template 'total and deterministic' (their statements: YtnlfbimjcabgiaaTotals.lean).
  GIVEN WITH THE SEED: the statements are not yours to turn. If you find one false, say at which input.
  Laid BY PROGRAM, IN A SANDBOX (cutbox-rows.mjs): the forced cells as the released guide's own fill.sh prints them over the translation 011efd110420f7d5… (all of the seat's roots in one cut). By AI agents, Wed Nov 11 2026. No macro, syntax, notation, axiom, sorry.
-/
import Derived.Test.YtnlfbimjcabgiaaChecked
import GoSem.Claim
import GoSem.ClaimJoined
import GoSem.ClaimMapViews
import Derived.JoinedTies
import Derived.KernelRfl
namespace Go.Proofs.Ytnlfbimjcabgiaa
/- THE CELL 'sum', in the pinned program and in every row, IS THE sha256 OF THE DUMP (.gsa) THAT YtnlfbimjcabgiaaProg.lean LOADS. Nothing in Lean hashes anything: it is a label: what it is worth is what the hold of that sum in a sandbox is worth. -/
noncomputable def Try.pinned : Pinned := { name := "ytnlfbimjcabgiaa", sum := "011efd110420f7d5a825364f555016088b096149c67f3bd1b49a4a8b67701dc6", checked := Try.checked }
namespace Rows
def none {H : Type} : Left H := { results := [], args := [] }

/-- 'laws.FnExactCayleyTable': WHATEVER THE INPUT: true; the input reads as it did. -/
def fnExactCayleyTableSpec : ChangeSpec := { name := "fnExactCayleyTable", fn := fun _ => fun
  | [d1, d2] => { results := [.lit (.bool true)], args := [d1, d2] }
  | _ => none }
def fnExactCayleyTableRow : OpenClaim := { program := "ytnlfbimjcabgiaa", sum := "011efd110420f7d5a825364f555016088b096149c67f3bd1b49a4a8b67701dc6", func := "loop.example/g01076/laws.FnExactCayleyTable", spec := "fnExactCayleyTable", unfollowed := true, recurses := true, apart := false }
def FnExactCayleyTableSaid : Prop := fnExactCayleyTableRow.holds Try.pinned (OpenSpec.ofChange fnExactCayleyTableSpec)

/-- ITS FALSE NEIGHBOUR: 'it returns false'. Refute it at one input. -/
def fnExactCayleyTableWrong : ChangeSpec := { name := "fnExactCayleyTable", fn := fun _ => fun
  | [d1, d2] => { results := [.lit (.bool false)], args := [d1, d2] }
  | _ => none }
def FnExactCayleyTableWrongFalsely : Prop := fnExactCayleyTableRow.holds Try.pinned (OpenSpec.ofChange fnExactCayleyTableWrong)

/-- 'laws.FnExactExponentClass': WHATEVER THE INPUT: true; the input reads as it did. -/
def fnExactExponentClassSpec : ChangeSpec := { name := "fnExactExponentClass", fn := fun _ => fun
  | [d] => { results := [.lit (.bool true)], args := [d] }
  | _ => none }
def fnExactExponentClassRow : OpenClaim := { program := "ytnlfbimjcabgiaa", sum := "011efd110420f7d5a825364f555016088b096149c67f3bd1b49a4a8b67701dc6", func := "loop.example/g01076/laws.FnExactExponentClass", spec := "fnExactExponentClass", unfollowed := true, recurses := true, apart := false }
def FnExactExponentClassSaid : Prop := fnExactExponentClassRow.holds Try.pinned (OpenSpec.ofChange fnExactExponentClassSpec)

/-- ITS FALSE NEIGHBOUR: 'it returns false'. Refute it at one input. -/
def fnExactExponentClassWrong : ChangeSpec := { name := "fnExactExponentClass", fn := fun _ => fun
  | [d] => { results := [.lit (.bool false)], args := [d] }
  | _ => none }
def FnExactExponentClassWrongFalsely : Prop := fnExactExponentClassRow.holds Try.pinned (OpenSpec.ofChange fnExactExponentClassWrong)

/- THE SECOND FORM. 'bulk': how many values and letters a reading holds, each counted each time it is reached (what is shared counts as often as it is met; a slice's spare places count too). A statement '..UptoSaid' is the law's where the arguments, and the package variables that the reading takes, are together of bulk at most 1048576: NARROWER than '..Said'. Prove '..Said' where nothing that the law and all that it calls make is longer than what came in: it says more and counts as full. Else prove '..UptoSaid'. A law counts once. -/
mutual
def uptoBulk {H : Type} : DataW H → Nat
  | .lit (.string bytes) => bytes.length + 1
  | .lit _ => 1
  | .nil => 1
  | .ptr d => uptoBulk d + 1
  | .slice elems spare => uptoBulkAll elems + uptoBulkAll spare + 1
  | .agg parts => uptoBulkAll parts + 1
  | .iface _ d => uptoBulk d + 1
  | .map entries => uptoBulkEntries entries + 1
  | .held _ => 1
def uptoBulkAll {H : Type} : List (DataW H) → Nat
  | [] => 0
  | d :: r => uptoBulk d + uptoBulkAll r
def uptoBulkEntries {H : Type} : List (Lit × DataW H) → Nat
  | [] => 0
  | x :: r => uptoBulkEntry x + uptoBulkEntries r
def uptoBulkEntry {H : Type} : Lit × DataW H → Nat
  | (.string bytes, d) => bytes.length + uptoBulk d + 1
  | (_, d) => uptoBulk d + 1
 end
def uptoSmall : (H : Type) → List (DataW H) → Bool := fun _ ds => decide (uptoBulkAll ds ≤ 1048576)
def OpenSpec.upto (s : _root_.Go.ChangeSpec) : _root_.Go.OpenSpec := { _root_.Go.OpenSpec.ofChange s with cond := some uptoSmall }

/-- 'laws.FnExactCayleyTable', WHERE WHAT IT READS IS OF BULK AT MOST 1048576: true; the input reads as it did. -/
def fnExactCayleyTableUptoRow : OpenClaim := { program := "ytnlfbimjcabgiaa", sum := "011efd110420f7d5a825364f555016088b096149c67f3bd1b49a4a8b67701dc6", func := "loop.example/g01076/laws.FnExactCayleyTable", spec := "fnExactCayleyTable", unfollowed := true, recurses := true, apart := false, narrowed := true }
def FnExactCayleyTableUptoSaid : Prop := fnExactCayleyTableUptoRow.holds Try.pinned (OpenSpec.upto fnExactCayleyTableSpec)

/-- 'laws.FnExactExponentClass', WHERE WHAT IT READS IS OF BULK AT MOST 1048576: true; the input reads as it did. -/
def fnExactExponentClassUptoRow : OpenClaim := { program := "ytnlfbimjcabgiaa", sum := "011efd110420f7d5a825364f555016088b096149c67f3bd1b49a4a8b67701dc6", func := "loop.example/g01076/laws.FnExactExponentClass", spec := "fnExactExponentClass", unfollowed := true, recurses := true, apart := false, narrowed := true }
def FnExactExponentClassUptoSaid : Prop := fnExactExponentClassUptoRow.holds Try.pinned (OpenSpec.upto fnExactExponentClassSpec)

end Rows
end Go.Proofs.Ytnlfbimjcabgiaa
