/-
  Homomorphisms from the groups of Cayley tables by the program; the law FnExactIsCayleyHom.
-/
import Derived.Test.YtdghgmgppecncaaGs
import Derived.Test.YtdghgmgppecncaaGj
import Derived.Test.YtdghgmgppecncaaGm
set_option linter.unusedVariables false
set_option linter.unusedSimpArgs false
namespace Go.Proofs.Ytdghgmgppecncaa
open Nat (reduceAdd reduceSub reduceGT reduceEqDiff reduceMul)
attribute [go_sem] cvs_len
theorem ex_slT {t : TypeId} {s b : Nat} {z : Value} {q : Bool} : (∃ e el, (⟨.slice t, s, b, z, q⟩ : TE) = e ∧ e.d = TD.slice el) = True := eq_true ⟨_, _, rfl, rfl⟩

theorem T_nil {os : List Int} {pw : List (List Int)} {cj : List (List (List Int))} {i : Nat} {f g : V} (h0 : os.length = 0) (hf : T (pc os pw cj) i f) (hg : T (pc os pw cj) i g) : f = g := by
  funext k
  have hn : (pc os pw cj).n = os.length := rfl
  rw [hf.t k (by omega), hg.t k (by omega)]


end Go.Proofs.Ytdghgmgppecncaa
