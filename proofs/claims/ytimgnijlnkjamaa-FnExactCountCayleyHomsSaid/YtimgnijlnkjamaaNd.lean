/-
  Lie rings: sums, multiples, generators and brackets, by the reference and by the program.
-/
import Derived.Test.YtimgnijlnkjamaaNc
set_option linter.unusedVariables false
set_option linter.unusedSimpArgs false
namespace Go.Proofs.Ytimgnijlnkjamaa
open Nat (reduceAdd reduceSub reduceGT reduceEqDiff reduceMul)

theorem Vw.ivs {H : HP} {id n : Nat} {f : Nat → Int} (h : H id = some (ivs n f)) : Vw H (.h id 0 n) (ints (vec n f)) := by
  unfold Go.Proofs.Ytimgnijlnkjamaa.ints
  rw [vec_len, vec_map]
  exact .h id 0 n _ _ h (by rw [ivs_len]; omega) ivs_len (fun k x y hx hy => by rw [Nat.zero_add, hy] at hx; cases hx; exact .refl _)

theorem norm_v {p : Int} {pw : List (List Int)} (t : Tri p pw) (G : Nat → Int) : vec pw.length (nrm p pw pw.length (fun j => (vec pw.length G).getD j 0)) = nf p pw G :=
  nf_ext t (fun j hj => vec_get hj)
/-- k a + m b -/
def mixL (p : Int) (pw : List (List Int)) (k : Int) (a : List Int) (m : Int) (b : List Int) : List Int := nf p pw (fun j => k * a.getD j 0 + m * b.getD j 0)
def Sml (n : Nat) (k : Int) (a : List Int) : Prop := ∀ j, j < n → -400000000000000 ≤ k * a.getD j 0 ∧ k * a.getD j 0 ≤ 400000000000000

/-- A generator. -/
def unitL (n k : Nat) : List Int := vec n (fun j => if j = k then 1 else 0)
theorem unit_set {n k : Nat} (h : k < n) : splice (ivs n (fun _ => 0)) k [.i .i64 1] = ivs n (fun j => if j = k then 1 else 0) := by
  rw [ivs_set h]; rfl

theorem impl_unitVector_ok (n k : Nat) (hn : n ≤ 1048576) (hk : k < n) : ACo Try.prog 189 [.i .i64 n, .i .i64 k] (ints (unitL n k)) := by
 refine FrI.aco (fun nx => ?_)
 refine AC.introx envOk Try.func189 rfl (by kernel_rfl) Try.ntmps189 Try.results189 (fun hfr => ?_)
 refine AW.sr envOk (fun N hN => ?_)
 simp -dsimp -implicitDefEqProofs (disch := omega) only [go_sem, undef, reduceAdd, reduceSub, reduceGT, reduceEqDiff, reduceMul, ]
 refine hN _ ?_
 try clear hN N
 refine AW.sr envOk (fun N hN => ?_)
 simp -dsimp -implicitDefEqProofs (disch := omega) only [go_sem, undef, reduceAdd, reduceSub, reduceGT, reduceEqDiff, reduceMul, ]
 refine hN _ ?_
 try clear hN N
 refine AW.sr envOk (fun N hN => ?_)
 simp -dsimp -implicitDefEqProofs (disch := omega) only [go_sem, undef, reduceAdd, reduceSub, reduceGT, reduceEqDiff, reduceMul, ]
 refine hN _ ?_
 try clear hN N
 refine AW.sr envOk (fun N hN => ?_)
 simp -dsimp -implicitDefEqProofs (disch := omega) only [go_sem, undef, reduceAdd, reduceSub, reduceGT, reduceEqDiff, reduceMul, ]
 refine hN _ ?_
 try clear hN N
 refine AW.ret ?_
 simp -dsimp -implicitDefEqProofs (disch := omega) only [go_sem, undef, reduceAdd, reduceSub, reduceGT, reduceEqDiff, reduceMul]
 refine ⟨_, ?_, _, rfl, ?_, ?_, rfl⟩
 ·rw [ivs_zero, unit_set hk]
  refine upd_le (fun i c h1 h2 => ?_) (fun d hd => by rw [upd_same]; exact hd)
  cases h2
 ·omega
 ·omega


/-- A copied list, lent. -/
def MvI (H : HP) (r : AV) (n : Nat) (f : Nat → Int) : Prop := (∃ id, r = .h id 0 n ∧ H id = some (ivs n f)) ∨ (n = 0 ∧ r = .v 0 [])
theorem CpI.mv {nx nx' : Nat} {H H' : HP} {r : AV} {n : Nat} {f : Nat → Int} (h : CpI nx nx' H H' r n f) : MvI H' r n f := by
  rcases h with ⟨id, rfl, _, _, rfl⟩ | ⟨h0, rfl, rfl⟩
  · exact .inl ⟨id, rfl, upd_same _ _ _⟩
  · exact .inr ⟨h0, rfl⟩
theorem MvI.vw {H : HP} {r : AV} {n : Nat} {f : Nat → Int} (h : MvI H r n f) : Vw H r (ints (vec n f)) := by
  rcases h with ⟨id, rfl, h⟩ | ⟨rfl, rfl⟩
  · exact .ivs h
  · exact .refl _
/-- k a -/
def mulL (p : Int) (pw : List (List Int)) (k : Int) (a : List Int) : List Int := nf p pw (fun j => k * a.getD j 0)
end Go.Proofs.Ytimgnijlnkjamaa
