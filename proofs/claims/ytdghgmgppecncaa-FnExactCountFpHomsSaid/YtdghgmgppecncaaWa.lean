/-
  Exponent sums of a word, by the reference and by the program.
-/
import Derived.Test.YtdghgmgppecncaaPb
import Derived.Test.YtdghgmgppecncaaQa
set_option linter.unusedVariables false
set_option linter.unusedSimpArgs false
namespace Go.Proofs.Ytdghgmgppecncaa
open Nat (reduceAdd reduceSub reduceGT reduceEqDiff reduceMul)

/-- The place of a letter, less 1; its sign; the sums after some letters. -/
def lab (l : Int) : Int := if 0 < l then l else -l
def lid (l : Int) : Nat := (lab l - 1).toNat
def lsg (l : Int) : Int := if 0 < l then 1 else -1
def eS (w : List Int) : Nat → Nat → Int
  | 0 => fun _ => 0
  | k + 1 => fset (eS w k) (lid (w.getD k 0)) (eS w k (lid (w.getD k 0)) + lsg (w.getD k 0))
theorem eS_bd {w : List Int} : ∀ (k j : Nat), -(k : Int) ≤ eS w k j ∧ eS w k j ≤ k := by
  intro k
  induction k with
  | zero => intro j; simp [eS]
  | succ k ih =>
    intro j
    have h1 := ih j
    have h2 := ih (lid (w.getD k 0))
    simp only [eS, fset]
    unfold lsg
    repeat' split
    all_goals omega
theorem wordP.get {n : Nat} {w : List Int} (h : wordP n w) {k : Nat} (hk : k < w.length) : lid (w.getD k 0) < n ∧ lab (w.getD k 0) - 1 = lid (w.getD k 0) ∧ 1 ≤ lab (w.getD k 0) ∧ lab (w.getD k 0) ≤ n := by
  have := h.2 k hk
  unfold lid lab
  split <;> omega
def exS (n : Nat) (w : List Int) : List Int := vec n (eS w w.length)
theorem exS_len {n : Nat} {w : List Int} : (exS n w).length = n := vec_len
theorem Vw.ivW {H : HP} {id n : Nat} {f : Nat → Int} (h : H id = some (Go.Proofs.Ytdghgmgppecncaa.ivs n f)) : Vw H (.h id 0 n) (Go.Proofs.Ytdghgmgppecncaa.ints (vec n f)) := by
  unfold Go.Proofs.Ytdghgmgppecncaa.ints
  rw [vec_len, vec_map]
  exact .h id 0 n _ _ h (by rw [ivs_len]; omega) ivs_len (fun k x y hx hy => by rw [Nat.zero_add, hy] at hx; cases hx; exact .refl _)


theorem impl_abs_ok (l : Int) (hl : -1000 ≤ l ∧ l ≤ 1000) : ACp Try.prog 255 [.i .i64 l] (.i .i64 (lab l)) := by
 refine ACp.intro' envOk Try.func255 rfl (by kernel_rfl) Try.ntmps255 Try.results255 (.i _ _) (fun nx => ?_)
 refine AW.sr envOk (fun N hN => ?_)
 simp -dsimp -implicitDefEqProofs (disch := omega) only [go_sem, undef, reduceAdd, reduceSub, reduceGT, reduceEqDiff, reduceMul, w64]
 refine hN _ ?_
 try clear hN N
 refine AW.sr envOk (fun N hN => ?_)
 simp -dsimp -implicitDefEqProofs (disch := omega) only [go_sem, undef, reduceAdd, reduceSub, reduceGT, reduceEqDiff, reduceMul, w64]
 refine hN _ ?_
 try clear hN N
 refine AW.ret ?_
 simp -dsimp -implicitDefEqProofs (disch := omega) only [go_sem, undef, reduceAdd, reduceSub, reduceGT, reduceEqDiff, reduceMul]
 refine it ?_
 unfold lab
 split <;> split <;> omega

theorem cmp_isNaN_ok (a : Int) : ACp Try.prog 316 [.i .i64 a] (.b false) := by
 refine ACp.intro' envOk Try.func316 rfl (by kernel_rfl) Try.ntmps316 Try.results316 (.b _) (fun nx => ?_)
 refine AW.sr envOk (fun N hN => ?_)
 simp -dsimp -implicitDefEqProofs (disch := omega) only [go_sem, undef, reduceAdd, reduceSub, reduceGT, reduceEqDiff, reduceMul, ]
 refine hN _ ?_
 try clear hN N
 refine AW.sr envOk (fun N hN => ?_)
 simp -dsimp -implicitDefEqProofs (disch := omega) only [go_sem, undef, reduceAdd, reduceSub, reduceGT, reduceEqDiff, reduceMul, ]
 refine hN _ ?_
 try clear hN N
 refine AW.ret ?_
 simp -dsimp -implicitDefEqProofs (disch := omega) only [go_sem, undef, reduceAdd, reduceSub, reduceGT, reduceEqDiff, reduceMul]
 simp

def cmp (a b : Int) : Int := if a < b then -1 else if b < a then 1 else 0


theorem codeW_one {n : Nat} {w : List Int} (h : wordP n w) : codeW n [w] = 0 := by
  unfold codeW
  rw [tf_t (fun k hk => by
    have : k = 0 := by simp at hk; omega
    subst this; exact h)]; rfl

/-- The table of relations. -/
def tblP (c : Int) (rs : List (List Int)) : AV := .g [.i .i64 c, rows rs]

end Go.Proofs.Ytdghgmgppecncaa
