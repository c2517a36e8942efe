/-
  Exponent sums of a word, by the reference and by the program.
-/
import Derived.Test.YtimgnijlnkjamaaPb
import Derived.Test.YtimgnijlnkjamaaQa
set_option linter.unusedVariables false
set_option linter.unusedSimpArgs false
namespace Go.Proofs.Ytimgnijlnkjamaa
open Nat (reduceAdd reduceSub reduceGT reduceEqDiff reduceMul)

/-- The place of a letter, less 1; its sign; the sums after some letters. -/
def lab (l : Int) : Int := if 0 < l then l else -l
def lid (l : Int) : Nat := (lab l - 1).toNat
def lsg (l : Int) : Int := if 0 < l then 1 else -1
def eS (w : List Int) : Nat → Nat → Int
  | 0 => fun _ => 0
  | k + 1 => fset (eS w k) (lid (w.getD k 0)) (eS w k (lid (w.getD k 0)) + lsg (w.getD k 0))
theorem eS_bd {w : List Int} : ∀ (k j : Nat), -(k : Int) ≤ eS w k j ∧ eS w k j ≤ k := by
  intro k
  induction k with
  | zero => intro j; simp [eS]
  | succ k ih =>
    intro j
    have h1 := ih j
    have h2 := ih (lid (w.getD k 0))
    simp only [eS, fset]
    unfold lsg
    repeat' split
    all_goals omega
theorem wordP.get {n : Nat} {w : List Int} (h : wordP n w) {k : Nat} (hk : k < w.length) : lid (w.getD k 0) < n ∧ lab (w.getD k 0) - 1 = lid (w.getD k 0) ∧ 1 ≤ lab (w.getD k 0) ∧ lab (w.getD k 0) ≤ n := by
  have := h.2 k hk
  unfold lid lab
  split <;> omega
def exS (n : Nat) (w : List Int) : List Int := vec n (eS w w.length)
theorem exS_len {n : Nat} {w : List Int} : (exS n w).length = n := vec_len
theorem Vw.ivW {H : HP} {id n : Nat} {f : Nat → Int} (h : H id = some (Go.Proofs.Ytimgnijlnkjamaa.ivs n f)) : Vw H (.h id 0 n) (Go.Proofs.Ytimgnijlnkjamaa.ints (vec n f)) := by
  unfold Go.Proofs.Ytimgnijlnkjamaa.ints
  rw [vec_len, vec_map]
  exact .h id 0 n _ _ h (by rw [ivs_len]; omega) ivs_len (fun k x y hx hy => by rw [Nat.zero_add, hy] at hx; cases hx; exact .refl _)

theorem spec_l06Sums_ok (n : Nat) (w : List Int) (hn : n ≤ 4) (hw : wordP n w) : ACp Try.prog 48 [.i .i64 n, ints w] (ints (exS n w)) := by
 have hwl := hw.1
 refine ACp.introV envOk Try.func48 rfl (by kernel_rfl) Try.ntmps48 Try.results48 ((ints_nr _)) (fun nx => ?_)
 refine AW.sr envOk (fun N hN => ?_)
 simp -dsimp -implicitDefEqProofs (disch := omega) only [go_sem, undef, reduceAdd, reduceSub, reduceGT, reduceEqDiff, reduceMul, ints, gd_i, w64]
 refine hN _ ?_
 try clear hN N
 refine AW.sr envOk (fun N hN => ?_)
 simp -dsimp -implicitDefEqProofs (disch := omega) only [go_sem, undef, reduceAdd, reduceSub, reduceGT, reduceEqDiff, reduceMul, ints, gd_i, w64]
 refine hN _ ?_
 try clear hN N
 refine AW.seq (fun N1 hN1 => ?_)
 refine AW.sr envOk (fun N hN => ?_)
 simp -dsimp -implicitDefEqProofs (disch := omega) only [go_sem, undef, reduceAdd, reduceSub, reduceGT, reduceEqDiff, reduceMul, ints, gd_i, w64]
 refine hN _ ?_
 try clear hN N
 refine AW.block ?_
 refine AW.loopN (α := Nat) (fun x => sl 55 [(1, ints w), (5, .h (nx + 1 + 1) 0 n), (6, .i .i64 x)]) (fun x => upd noH (nx + 1 + 1) (some (ivs n (eS w x)))) (fun x m => x ≤ w.length) (fun x => w.length - x) (0) ?_ ?_ (by simp; rw [ivs_zero]; exact Le.refl _) ?_
 ·omega
 ·simp (disch := omega) [wks, wkA, sl, w64, ints, rows, cubes, ints, gd_i, w64] <;> omega
 ·skip
  rintro k m hk
  simp -dsimp -implicitDefEqProofs (disch := omega) only [go_sem, undef, reduceAdd, reduceSub, reduceGT, reduceEqDiff, reduceMul]
  refine AW.seq (fun N2 hN2 => ?_)
  refine AW.sr envOk (fun N hN => ?_)
  simp -dsimp -implicitDefEqProofs (disch := omega) only [go_sem, undef, reduceAdd, reduceSub, reduceGT, reduceEqDiff, reduceMul, ints, gd_i, w64]
  refine hN _ ?_
  try clear hN N
  refine AW.cond rfl (fun h1 => ?_) (fun h1 => ?_)
  ·try simp only [cn] at h1
   obtain ⟨q1, q2, q3, q4⟩ := hw.get (k := k) (by omega)
   obtain ⟨q5, q6⟩ := eS_bd (w := w) k (lid (w.getD k 0))
   have q7 := (hw.2 k (by omega)).1
   refine AW.skip ?_
   simp only [thn, blk]
   refine hN2 _ ?_
   try clear hN2 N2
   refine AW.seq (fun N3 hN3 => ?_)
   refine AW.block ?_
   refine AW.sr envOk (fun N hN => ?_)
   simp -dsimp -implicitDefEqProofs (disch := omega) only [go_sem, undef, reduceAdd, reduceSub, reduceGT, reduceEqDiff, reduceMul, ints, gd_i, w64]
   refine hN _ ?_
   try clear hN N
   refine AW.cond rfl (fun h2 => ?_) (fun h2 => ?_)
   ·try simp only [cn] at h2
    have e1 : lab (w.getD k 0) = w.getD k 0 := by unfold lab; rw [if_pos (by omega)]
    have e2 : lsg (w.getD k 0) = 1 := by unfold lsg; rw [if_pos (by omega)]
    have e3 : (w.getD k 0 - 1).toNat = lid (w.getD k 0) := by unfold lid; rw [e1]
    refine AW.drawL envOk (by kernel_rfl) 16 (by kernel_rfl) ?_
    simp -dsimp -implicitDefEqProofs (disch := omega) only [hr_nil, hr_one, hr_if, List.take_succ_cons, List.take_zero, List.drop_succ_cons, List.drop_zero, List.take_nil, List.drop_nil, go_sem, undef, reduceAdd, reduceSub, reduceGT, reduceEqDiff, reduceMul, ints, gd_i, w64, e1, e2, e3]
    refine hN3 _ ?_
    try clear hN3 N3
    refine AW.regionL envOk ?_
    simp -dsimp -implicitDefEqProofs (disch := omega) only [go_sem, undef, reduceAdd, reduceSub, reduceGT, reduceEqDiff, reduceMul, ints, gd_i, w64]
    refine ⟨k + 1, ?_, (by simp only [eS]; rw [e2]; exact Le.refl _), ?_, ?_⟩
    ·simp (disch := omega) [wks, wkA, sl, w64, ints, rows, cubes, ints, gd_i, w64] <;> omega
    ·omega
    ·first | omega | (simp only; omega)
   ·try simp only [cn] at h2
    have e1 : lab (w.getD k 0) = -w.getD k 0 := by unfold lab; rw [if_neg (by omega)]
    have e2 : lsg (w.getD k 0) = -1 := by unfold lsg; rw [if_neg (by omega)]
    have e3 : (0 - w.getD k 0 - 1).toNat = lid (w.getD k 0) := by unfold lid; rw [e1, Int.zero_sub]
    refine AW.drawL envOk (by kernel_rfl) 18 (by kernel_rfl) ?_
    simp -dsimp -implicitDefEqProofs (disch := omega) only [hr_nil, hr_one, hr_if, List.take_succ_cons, List.take_zero, List.drop_succ_cons, List.drop_zero, List.take_nil, List.drop_nil, go_sem, undef, reduceAdd, reduceSub, reduceGT, reduceEqDiff, reduceMul, ints, gd_i, w64, e1, e2, e3]
    refine hN3 _ ?_
    try clear hN3 N3
    refine AW.regionL envOk ?_
    simp -dsimp -implicitDefEqProofs (disch := omega) only [go_sem, undef, reduceAdd, reduceSub, reduceGT, reduceEqDiff, reduceMul, ints, gd_i, w64]
    refine ⟨k + 1, ?_, (by simp only [eS]; rw [e2, ← Int.sub_eq_add_neg]; exact Le.refl _), ?_, ?_⟩
    ·simp (disch := omega) [wks, wkA, sl, w64, ints, rows, cubes, ints, gd_i, w64] <;> omega
    ·omega
    ·first | omega | (simp only; omega)
  ·try simp only [cn] at h1
   refine AW.exit ?_
   simp only [thn, blk, if_true]
   refine hN1 _ ?_
   try clear hN1 N1
   refine AW.sr envOk (fun N hN => ?_)
   simp -dsimp -implicitDefEqProofs (disch := omega) only [go_sem, undef, reduceAdd, reduceSub, reduceGT, reduceEqDiff, reduceMul, ints, gd_i, w64]
   refine hN _ ?_
   try clear hN N
   refine AW.ret ?_
   simp -dsimp -implicitDefEqProofs (disch := omega) only [go_sem, undef, reduceAdd, reduceSub, reduceGT, reduceEqDiff, reduceMul]
   exact Vw.ivW (by simp; congr 2; rw [show k = w.length by omega])


theorem impl_abs_ok (l : Int) (hl : -1000 ≤ l ∧ l ≤ 1000) : ACp Try.prog 95 [.i .i64 l] (.i .i64 (lab l)) := by
 refine ACp.intro' envOk Try.func95 rfl (by kernel_rfl) Try.ntmps95 Try.results95 (.i _ _) (fun nx => ?_)
 refine AW.sr envOk (fun N hN => ?_)
 simp -dsimp -implicitDefEqProofs (disch := omega) only [go_sem, undef, reduceAdd, reduceSub, reduceGT, reduceEqDiff, reduceMul, w64]
 refine hN _ ?_
 try clear hN N
 refine AW.sr envOk (fun N hN => ?_)
 simp -dsimp -implicitDefEqProofs (disch := omega) only [go_sem, undef, reduceAdd, reduceSub, reduceGT, reduceEqDiff, reduceMul, w64]
 refine hN _ ?_
 try clear hN N
 refine AW.ret ?_
 simp -dsimp -implicitDefEqProofs (disch := omega) only [go_sem, undef, reduceAdd, reduceSub, reduceGT, reduceEqDiff, reduceMul]
 refine it ?_
 unfold lab
 split <;> split <;> omega

theorem cmp_isNaN_ok (a : Int) : ACp Try.prog 180 [.i .i64 a] (.b false) := by
 refine ACp.intro' envOk Try.func180 rfl (by kernel_rfl) Try.ntmps180 Try.results180 (.b _) (fun nx => ?_)
 refine AW.sr envOk (fun N hN => ?_)
 simp -dsimp -implicitDefEqProofs (disch := omega) only [go_sem, undef, reduceAdd, reduceSub, reduceGT, reduceEqDiff, reduceMul, ]
 refine hN _ ?_
 try clear hN N
 refine AW.sr envOk (fun N hN => ?_)
 simp -dsimp -implicitDefEqProofs (disch := omega) only [go_sem, undef, reduceAdd, reduceSub, reduceGT, reduceEqDiff, reduceMul, ]
 refine hN _ ?_
 try clear hN N
 refine AW.ret ?_
 simp -dsimp -implicitDefEqProofs (disch := omega) only [go_sem, undef, reduceAdd, reduceSub, reduceGT, reduceEqDiff, reduceMul]
 simp

def cmp (a b : Int) : Int := if a < b then -1 else if b < a then 1 else 0
theorem cmp_Compare_ok (a b : Int) : ACp Try.prog 149 [.i .i64 a, .i .i64 b] (.i .i64 (cmp a b)) := by
 refine ACp.intro' envOk Try.func149 rfl (by kernel_rfl) Try.ntmps149 Try.results149 (.i _ _) (fun nx => ?_)
 refine AW.sr envOk (fun N hN => ?_)
 simp -dsimp -implicitDefEqProofs (disch := omega) only [go_sem, undef, reduceAdd, reduceSub, reduceGT, reduceEqDiff, reduceMul, ]
 refine hN _ ?_
 try clear hN N
 refine AW.sr envOk (fun N hN => ?_)
 simp -dsimp -implicitDefEqProofs (disch := omega) only [go_sem, undef, reduceAdd, reduceSub, reduceGT, reduceEqDiff, reduceMul, ]
 refine AC.pure (.of (cmp_isNaN_ok a )) ?_
 try simp -dsimp -implicitDefEqProofs (disch := omega) only [go_sem, undef, reduceAdd, reduceSub, reduceGT, reduceEqDiff, reduceMul, ]
 refine hN _ ?_
 try clear hN N
 refine AW.sr envOk (fun N hN => ?_)
 simp -dsimp -implicitDefEqProofs (disch := omega) only [go_sem, undef, reduceAdd, reduceSub, reduceGT, reduceEqDiff, reduceMul, ]
 refine AC.pure (.of (cmp_isNaN_ok b )) ?_
 try simp -dsimp -implicitDefEqProofs (disch := omega) only [go_sem, undef, reduceAdd, reduceSub, reduceGT, reduceEqDiff, reduceMul, ]
 refine hN _ ?_
 try clear hN N
 refine AW.seq (fun N1 hN1 => ?_)
 refine AW.sr envOk (fun N hN => ?_)
 simp -dsimp -implicitDefEqProofs (disch := omega) only [go_sem, undef, reduceAdd, reduceSub, reduceGT, reduceEqDiff, reduceMul, ]
 refine hN _ ?_
 try clear hN N
 refine AW.cond rfl (fun h1 => ?_) (fun h1 => ?_)
 ·try simp only [cn] at h1
  refine AW.seq (fun N2 hN2 => ?_)
  refine AW.sr envOk (fun N hN => ?_)
  simp -dsimp -implicitDefEqProofs (disch := omega) only [go_sem, undef, reduceAdd, reduceSub, reduceGT, reduceEqDiff, reduceMul, ]
  refine hN _ ?_
  try clear hN N
  refine AW.cond rfl (fun h2 => ?_) (fun h2 => ?_)
  ·try simp only [cn] at h2
   refine AW.sr envOk (fun N hN => ?_)
   simp -dsimp -implicitDefEqProofs (disch := omega) only [go_sem, undef, reduceAdd, reduceSub, reduceGT, reduceEqDiff, reduceMul, ]
   refine hN _ ?_
   try clear hN N
   refine AW.ret ?_
   simp -dsimp -implicitDefEqProofs (disch := omega) only [go_sem, undef, reduceAdd, reduceSub, reduceGT, reduceEqDiff, reduceMul]
   first| contradiction| skip
   all_goals refine it ?_
   all_goals unfold cmp
   all_goals repeat' split
   all_goals omega
  ·try simp only [cn] at h2
   refine AW.skip ?_
   simp only [thn, blk]
   refine hN2 _ ?_
   try clear hN2 N2
   refine AW.sr envOk (fun N hN => ?_)
   simp -dsimp -implicitDefEqProofs (disch := omega) only [go_sem, undef, reduceAdd, reduceSub, reduceGT, reduceEqDiff, reduceMul, ]
   refine hN _ ?_
   try clear hN N
   refine AW.ret ?_
   simp -dsimp -implicitDefEqProofs (disch := omega) only [go_sem, undef, reduceAdd, reduceSub, reduceGT, reduceEqDiff, reduceMul]
   first| contradiction| skip
   all_goals refine it ?_
   all_goals unfold cmp
   all_goals repeat' split
   all_goals omega
 ·try simp only [cn] at h1
  refine AW.skip ?_
  simp only [thn, blk]
  refine hN1 _ ?_
  try clear hN1 N1
  refine AW.seq (fun N3 hN3 => ?_)
  refine AW.sr envOk (fun N hN => ?_)
  simp -dsimp -implicitDefEqProofs (disch := omega) only [go_sem, undef, reduceAdd, reduceSub, reduceGT, reduceEqDiff, reduceMul, ]
  refine hN _ ?_
  try clear hN N
  refine AW.cond rfl (fun h3 => ?_) (fun h3 => ?_)
  ·try simp only [cn] at h3
   refine AW.sr envOk (fun N hN => ?_)
   simp -dsimp -implicitDefEqProofs (disch := omega) only [go_sem, undef, reduceAdd, reduceSub, reduceGT, reduceEqDiff, reduceMul, ]
   refine hN _ ?_
   try clear hN N
   refine AW.ret ?_
   simp -dsimp -implicitDefEqProofs (disch := omega) only [go_sem, undef, reduceAdd, reduceSub, reduceGT, reduceEqDiff, reduceMul]
   first| contradiction| skip
   all_goals refine it ?_
   all_goals unfold cmp
   all_goals repeat' split
   all_goals omega
  ·try simp only [cn] at h3
   refine AW.skip ?_
   simp only [thn, blk]
   refine hN3 _ ?_
   try clear hN3 N3
   refine AW.seq (fun N4 hN4 => ?_)
   refine AW.sr envOk (fun N hN => ?_)
   simp -dsimp -implicitDefEqProofs (disch := omega) only [go_sem, undef, reduceAdd, reduceSub, reduceGT, reduceEqDiff, reduceMul, ]
   refine hN _ ?_
   try clear hN N
   refine AW.cond rfl (fun h4 => ?_) (fun h4 => ?_)
   ·try simp only [cn] at h4
    refine AW.sr envOk (fun N hN => ?_)
    simp -dsimp -implicitDefEqProofs (disch := omega) only [go_sem, undef, reduceAdd, reduceSub, reduceGT, reduceEqDiff, reduceMul, ]
    refine hN _ ?_
    try clear hN N
    refine AW.ret ?_
    simp -dsimp -implicitDefEqProofs (disch := omega) only [go_sem, undef, reduceAdd, reduceSub, reduceGT, reduceEqDiff, reduceMul]
    first| contradiction| skip
    all_goals refine it ?_
    all_goals unfold cmp
    all_goals repeat' split
    all_goals omega
   ·try simp only [cn] at h4
    refine AW.skip ?_
    simp only [thn, blk]
    refine hN4 _ ?_
    try clear hN4 N4
    refine AW.seq (fun N5 hN5 => ?_)
    refine AW.sr envOk (fun N hN => ?_)
    simp -dsimp -implicitDefEqProofs (disch := omega) only [go_sem, undef, reduceAdd, reduceSub, reduceGT, reduceEqDiff, reduceMul, ]
    refine hN _ ?_
    try clear hN N
    refine AW.cond rfl (fun h5 => ?_) (fun h5 => ?_)
    ·try simp only [cn] at h5
     refine AW.sr envOk (fun N hN => ?_)
     simp -dsimp -implicitDefEqProofs (disch := omega) only [go_sem, undef, reduceAdd, reduceSub, reduceGT, reduceEqDiff, reduceMul, ]
     refine hN _ ?_
     try clear hN N
     refine AW.ret ?_
     simp -dsimp -implicitDefEqProofs (disch := omega) only [go_sem, undef, reduceAdd, reduceSub, reduceGT, reduceEqDiff, reduceMul]
     first| contradiction| skip
     all_goals refine it ?_
     all_goals unfold cmp
     all_goals repeat' split
     all_goals omega
    ·try simp only [cn] at h5
     refine AW.skip ?_
     simp only [thn, blk]
     refine hN5 _ ?_
     try clear hN5 N5
     refine AW.sr envOk (fun N hN => ?_)
     simp -dsimp -implicitDefEqProofs (disch := omega) only [go_sem, undef, reduceAdd, reduceSub, reduceGT, reduceEqDiff, reduceMul, ]
     refine hN _ ?_
     try clear hN N
     refine AW.ret ?_
     simp -dsimp -implicitDefEqProofs (disch := omega) only [go_sem, undef, reduceAdd, reduceSub, reduceGT, reduceEqDiff, reduceMul]
     first| contradiction| skip
     all_goals refine it ?_
     all_goals unfold cmp
     all_goals repeat' split
     all_goals omega

theorem impl_sign_ok (l : Int) (hl : l ≠ 0) : ACp Try.prog 96 [.i .i64 l] (.i .i64 (lsg l)) := by
 refine ACp.intro' envOk Try.func96 rfl (by kernel_rfl) Try.ntmps96 Try.results96 (.i _ _) (fun nx => ?_)
 refine AW.sr envOk (fun N hN => ?_)
 simp -dsimp -implicitDefEqProofs (disch := omega) only [go_sem, undef, reduceAdd, reduceSub, reduceGT, reduceEqDiff, reduceMul, ]
 refine hN _ ?_
 try clear hN N
 refine AW.sr envOk (fun N hN => ?_)
 simp -dsimp -implicitDefEqProofs (disch := omega) only [go_sem, undef, reduceAdd, reduceSub, reduceGT, reduceEqDiff, reduceMul, ]
 refine AC.pure (.of (cmp_Compare_ok l 0 )) ?_
 try simp -dsimp -implicitDefEqProofs (disch := omega) only [go_sem, undef, reduceAdd, reduceSub, reduceGT, reduceEqDiff, reduceMul, ]
 refine hN _ ?_
 try clear hN N
 refine AW.ret ?_
 simp -dsimp -implicitDefEqProofs (disch := omega) only [go_sem, undef, reduceAdd, reduceSub, reduceGT, reduceEqDiff, reduceMul]
 refine it ?_
 unfold cmp lsg
 repeat' split
 all_goals omega



theorem codeW_one {n : Nat} {w : List Int} (h : wordP n w) : codeW n [w] = 0 := by
  unfold codeW
  rw [tf_t (fun k hk => by
    have : k = 0 := by simp at hk; omega
    subst this; exact h)]; rfl

/-- The table of relations. -/
def tblP (c : Int) (rs : List (List Int)) : AV := .g [.i .i64 c, rows rs]

theorem impl_ExponentSums_ok (n : Nat) (w : List Int) (hn : n ≤ 4) (hw : wordP n w) : ACo Try.prog 50 [.i .i64 n, ints w] (.t [ints (exS n w), .i .i64 0]) := by
 have hwl := hw.1
 intro nx
 refine AC.intro' envOk Try.func50 rfl (by kernel_rfl) Try.ntmps50 Try.results50 ?_
 refine AW.sr envOk (fun N hN => ?_)
 simp -dsimp -implicitDefEqProofs (disch := omega) only [go_sem, undef, reduceAdd, reduceSub, reduceGT, reduceEqDiff, reduceMul, ints, gd_i, w64]
 refine hN _ ?_
 try clear hN N
 refine AW.seq (fun N1 hN1 => ?_)
 refine AW.sr envOk (fun N hN => ?_)
 simp -dsimp -implicitDefEqProofs (disch := omega) only [go_sem, undef, reduceAdd, reduceSub, reduceGT, reduceEqDiff, reduceMul, ints, gd_i, w64]
 refine AC.pure (.lent (impl_wordCode_ok n [w] (by omega) ⟨by simp, by simp; omega⟩) (.cons (.refl _) (.cons (Vw.rws rfl (upd_same _ _ _)) .nil)) (.i _ _)) ?_
 try simp -dsimp -implicitDefEqProofs (disch := omega) only [go_sem, undef, reduceAdd, reduceSub, reduceGT, reduceEqDiff, reduceMul, ints, gd_i, w64]
 rw [codeW_one hw]
 refine hN _ ?_
 try clear hN N
 refine AW.sr envOk (fun N hN => ?_)
 simp -dsimp -implicitDefEqProofs (disch := omega) only [go_sem, undef, reduceAdd, reduceSub, reduceGT, reduceEqDiff, reduceMul, ints, gd_i, w64]
 refine hN _ ?_
 try clear hN N
 refine AW.cond rfl (fun h1 => ?_) (fun h1 => ?_)
 ·try simp only [cn] at h1
  simp at h1
 ·try simp only [cn] at h1
  refine AW.skip ?_
  simp only [thn, blk]
  refine hN1 _ ?_
  try clear hN1 N1
  refine AW.sr envOk (fun N hN => ?_)
  simp -dsimp -implicitDefEqProofs (disch := omega) only [go_sem, undef, reduceAdd, reduceSub, reduceGT, reduceEqDiff, reduceMul, ints, gd_i, w64]
  refine hN _ ?_
  try clear hN N
  refine AW.seq (fun N2 hN2 => ?_)
  refine AW.sr envOk (fun N hN => ?_)
  simp -dsimp -implicitDefEqProofs (disch := omega) only [go_sem, undef, reduceAdd, reduceSub, reduceGT, reduceEqDiff, reduceMul, ints, gd_i, w64]
  refine hN _ ?_
  try clear hN N
  refine AW.block ?_
  refine AW.loopN (α := Nat) (fun x => sl 37 [(4, .nl), (5, .i .i64 0), (7, .h (nx + 2 + 5 + 2 + 1) 0 n), (19, ints w), (20, .i .i64 w.length), (21, .i .i64 x)]) (fun x => upd noH (nx + 2 + 5 + 2 + 1) (some (ivs n (eS w x)))) (fun x m => x ≤ w.length ∧ nx + 11 ≤ m) (fun x => w.length - x) (0) ?_ ?_ (by intro d cs hd; simp only [upd, noH, ivs_zero, eS] at hd ⊢; grind) ?_
  ·exact ⟨by omega, by first| omega| (simp only; omega)| (dsimp only; omega)⟩
  ·simp (disch := omega) [wks, wkA, sl, w64, ints, rows, cubes, ints, gd_i, w64] <;> omega
  ·skip
   rintro k m ⟨hk, hm⟩
   simp -dsimp -implicitDefEqProofs (disch := omega) only [go_sem, undef, reduceAdd, reduceSub, reduceGT, reduceEqDiff, reduceMul]
   refine AW.sr envOk (fun N hN => ?_)
   simp -dsimp -implicitDefEqProofs (disch := omega) only [go_sem, undef, reduceAdd, reduceSub, reduceGT, reduceEqDiff, reduceMul, ints, gd_i, w64]
   refine hN _ ?_
   try clear hN N
   refine AW.seq (fun N3 hN3 => ?_)
   refine AW.cond rfl (fun h2 => ?_) (fun h2 => ?_)
   ·try simp only [cn] at h2
    obtain ⟨q1, q2, q3, q4⟩ := hw.get (k := k) (by omega)
    obtain ⟨q5, q6⟩ := eS_bd (w := w) k (lid (w.getD k 0))
    have q7 := hw.2 k (by omega)
    have q8 : -1 ≤ lsg (w.getD k 0) ∧ lsg (w.getD k 0) ≤ 1 := by unfold lsg; split <;> omega
    have q9 : (lab (w.getD k 0) - 1).toNat = lid (w.getD k 0) := rfl
    refine AW.skip ?_
    simp only [thn, blk]
    refine hN3 _ ?_
    try clear hN3 N3
    refine AW.seq (fun N4 hN4 => ?_)
    refine AW.block ?_
    refine AW.sr envOk (fun N hN => ?_)
    simp -dsimp -implicitDefEqProofs (disch := omega) only [go_sem, undef, reduceAdd, reduceSub, reduceGT, reduceEqDiff, reduceMul, ints, gd_i, w64]
    refine hN _ ?_
    try clear hN N
    refine AW.drawL envOk (by kernel_rfl) 10 (by kernel_rfl) ?_
    simp -dsimp -implicitDefEqProofs (disch := omega) only [hr_nil, hr_one, hr_if, List.take_succ_cons, List.take_zero, List.drop_succ_cons, List.drop_zero, List.take_nil, List.drop_nil, go_sem, undef, reduceAdd, reduceSub, reduceGT, reduceEqDiff, reduceMul, ints, gd_i, w64]
    refine ⟨_, .of (impl_abs_ok (w.getD k 0) (by omega) ), ?_⟩
    try simp -dsimp -implicitDefEqProofs (disch := omega) only [go_sem, undef, reduceAdd, reduceSub, reduceGT, reduceEqDiff, reduceMul, ints, gd_i, w64]
    refine ⟨_, .of (impl_sign_ok (w.getD k 0) q7.1 ), ?_⟩
    try simp -dsimp -implicitDefEqProofs (disch := omega) only [go_sem, undef, reduceAdd, reduceSub, reduceGT, reduceEqDiff, reduceMul, ints, gd_i, w64, q9]
    refine hN4 _ ?_
    try clear hN4 N4
    refine AW.regionL envOk ?_
    simp -dsimp -implicitDefEqProofs (disch := omega) only [go_sem, undef, reduceAdd, reduceSub, reduceGT, reduceEqDiff, reduceMul, ints, gd_i, w64]
    refine ⟨k + 1, ?_, fun _ _ h => h, ?_, ?_⟩
    ·simp (disch := omega) [wks, wkA, sl, w64, ints, rows, cubes, ints, gd_i, w64] <;> omega
    ·exact ⟨by omega, by first| omega| (simp only; omega)| (dsimp only; omega)⟩
    ·first | omega | (simp only; omega)
   ·try simp only [cn] at h2
    refine AW.exit ?_
    simp only [thn, blk, if_true]
    refine hN2 _ ?_
    try clear hN2 N2
    refine AW.sr envOk (fun N hN => ?_)
    simp -dsimp -implicitDefEqProofs (disch := omega) only [go_sem, undef, reduceAdd, reduceSub, reduceGT, reduceEqDiff, reduceMul, ints, gd_i, w64]
    refine hN _ ?_
    try clear hN N
    refine AW.ret ?_
    simp -dsimp -implicitDefEqProofs (disch := omega) only [go_sem, undef, reduceAdd, reduceSub, reduceGT, reduceEqDiff, reduceMul]
    refine ⟨_, OwnL.t (.cons (b := m) (Own.ints (by rw [upd_same, show k = w.length by omega, exS, vec_map]) exS_len.symm (by omega) (by omega)) (.leaf (.i _ _) (.i _ _) .nil) (by omega) (by omega))⟩

end Go.Proofs.Ytimgnijlnkjamaa
