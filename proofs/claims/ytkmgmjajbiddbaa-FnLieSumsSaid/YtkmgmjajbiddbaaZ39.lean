import Derived.Test.YtkmgmjajbiddbaaZ34
import Derived.Test.YtkmgmjajbiddbaaZ38
set_option linter.unusedVariables false
set_option linter.unusedSimpArgs false
namespace Go.Proofs.Ytkmgmjajbiddbaa
open Nat (reduceAdd reduceSub reduceGT reduceEqDiff reduceMul)
theorem fc_small : (∀ e : Nat, e < 10 → ∀ q : Nat, 2 ≤ q → q < 2 → 2 ^ e % q ≠ 0) ∧ (∀ e : Nat, e < 10 → ∀ q : Nat, q < 3 → 2 ≤ q → 3 ^ e % q ≠ 0) ∧ (∀ e : Nat, e < 10 → ∀ q : Nat, q < 5 → 2 ≤ q → 5 ^ e % q ≠ 0) ∧ (∀ e : Nat, e < 10 → ∀ q : Nat, q < 7 → 2 ≤ q → 7 ^ e % q ≠ 0) := by
  refine ⟨fun e _ q h1 h2 => by omega, ?_, ?_, ?_⟩ <;> decide
theorem fc_ne {p : Int} (hp : pr4 p) {e : Nat} (he : e < 10) {q : Nat} (h2 : 2 ≤ q) (hq : (q : Int) < p) : p ^ e % (q : Int) ≠ 0 := by
  obtain ⟨_, h3, h5, h7⟩ := fc_small
  rcases hp with rfl | rfl | rfl | rfl
  · omega
  · have := h3 e he q (by omega) h2
    intro h; apply this; exact Int.ofNat_inj.1 (by simpa using h)
  · have := h5 e he q (by omega) h2
    intro h; apply this; exact Int.ofNat_inj.1 (by simpa using h)
  · have := h7 e he q (by omega) h2
    intro h; apply this; exact Int.ofNat_inj.1 (by simpa using h)
theorem fc_e {p : Int} (hp : 2 ≤ p) {e : Nat} (h9 : p ^ e ≤ 729) : e < 10 := by
  apply Classical.byContradiction
  intro hn
  have h1 : p ^ e = p ^ (e - 10) * p ^ 10 := by rw [← Int.pow_add]; congr 1; omega
  have h2 := pow_gt hp (e - 10)
  have h3 : ∀ k : Nat, (2 : Int) ^ k ≤ p ^ k := by
    intro k
    induction k with
    | zero => simp
    | succ k ih => rw [Int.pow_succ, Int.pow_succ]; exact Int.mul_le_mul ih hp (by omega) (by have := pow_gt hp k; omega)
  have h4 := h3 10
  have h5 := Int.mul_le_mul h2 (Int.le_refl (p ^ 10)) (by omega) (by omega)
  omega
structure FcE (p : Int) (e : Nat) (q : Int) (E : Nat) : Prop where
  le : E ≤ e
  q2 : 2 ≤ q
  q7 : q ≤ 7
  pos : 0 < E → q = p
  go : ∀ d, d ≤ E → ((p ^ (e - d)).tmod q = 0 ↔ d < E)
theorem FcE.eq {p : Int} (hp : pr4 p) (h7 : 2 ≤ p ∧ p ≤ 7) {e : Nat} : FcE p e p e := by
  refine ⟨Nat.le_refl _, h7.1, h7.2, fun _ => rfl, fun d hd => ?_⟩
  have h1 := pow_gt h7.1 (e - d)
  rw [Int.tmod_eq_emod_of_nonneg (by omega)]
  constructor
  · intro h
    apply Classical.byContradiction
    intro hn
    rw [show e - d = 0 by omega, Int.pow_zero, Int.emod_eq_of_lt (by omega) (by omega)] at h
    omega
  · intro h
    rw [show e - d = (e - d - 1) + 1 by omega, Int.pow_succ]
    exact Int.mul_emod_left _ _
theorem FcE.no {p : Int} (hp : pr4 p) (h7 : 2 ≤ p ∧ p ≤ 7) {e : Nat} (h9 : p ^ e ≤ 729) {q : Nat} (h2 : 2 ≤ q) (hq : (q : Int) < p) : FcE p e q 0 := by
  refine ⟨by omega, by omega, by omega, fun h => by omega, fun d hd => ?_⟩
  obtain rfl : d = 0 := by omega
  have h1 := pow_gt h7.1 (e - 0)
  rw [Int.tmod_eq_emod_of_nonneg (by omega)]
  exact ⟨fun h => absurd h (fc_ne hp (fc_e h7.1 h9) h2 hq), fun h => by omega⟩
def fcN (p : Int) (e : Nat) : Option (Nat × Nat) → Int
  | none => p ^ e
  | some _ => 1
def fcA : Option (Nat × Nat) → AV
  | none => .nl
  | some (a, _) => .h a 0 1
def fcB : Option (Nat × Nat) → AV
  | none => .nl
  | some (_, b) => .h b 0 1
def fcH (p : Int) (e : Nat) : Option (Nat × Nat) → HP
  | none => noH
  | some (a, b) => upd (upd noH a (some [.i .i64 p])) b (some [.i .i64 (e : Int)])
theorem nr_t2i (a b : List Int) : NR (.t [ints a, ints b]) := NR.t _ fun k x hx => by
  match k, hx with
  | 0, hx => cases hx; exact ints_nr _
  | 1, hx => cases hx; exact ints_nr _
set_option maxHeartbeats 1000000 in
theorem impl_factors_ok (p : Int) (hp : pr4 p) (e : Nat) (he : 1 ≤ e) (h9 : p ^ e ≤ 729) : ACp Try.prog 68 [.i .i64 (p ^ e)] (.t [ints [p], ints [(e : Int)]]) := by
 have h7 := pr4_bd hp
 have hpe := pow_gt h7.1 e
 have hpp := pw_le h7.1 he
 have he9 := fc_e h7.1 h9
 rw [Int.pow_one] at hpp
 refine ACp.introV envOk Try.func68 rfl (by kernel_rfl) Try.ntmps68 Try.results68 ((nr_t2i _ _)) (fun nx => ?_)
 refine AW.sr envOk (fun N hN => ?_)
 simp -dsimp -implicitDefEqProofs (disch := omega) only [go_sem, undef, reduceAdd, reduceSub, reduceGT, reduceEqDiff, reduceMul, w64]
 refine hN _ ?_
 try clear hN N
 refine AW.sr envOk (fun N hN => ?_)
 simp -dsimp -implicitDefEqProofs (disch := omega) only [go_sem, undef, reduceAdd, reduceSub, reduceGT, reduceEqDiff, reduceMul, w64]
 refine hN _ ?_
 try clear hN N
 refine AW.seq (fun N1 hN1 => ?_)
 refine AW.sr envOk (fun N hN => ?_)
 simp -dsimp -implicitDefEqProofs (disch := omega) only [go_sem, undef, reduceAdd, reduceSub, reduceGT, reduceEqDiff, reduceMul, w64]
 refine hN _ ?_
 try clear hN N
 refine AW.block ?_
 refine AW.loopN (α := Nat × Option (Nat × Nat)) (fun x => sl 39 [(0, .i .i64 (fcN p e x.2)), (4, fcA x.2), (5, fcB x.2), (6, .i .i64 x.1)]) (fun x => fcH p e x.2) (fun x m => x.1 ≤ 1000 ∧ (x.2 = none → 2 ≤ x.1 ∧ (x.1 : Int) ≤ p) ∧ (∀ a b, x.2 = some (a, b) → a < b ∧ b < m)) (fun x => if x.2 = none then 10 - x.1 else 0) ((2, none)) ?_ ?_ (by intro d cs hd; cases hd) ?_
 ·exact ⟨by simp, fun _ => ⟨by simp, by simp; omega⟩, fun a b h => (by cases h)⟩
 ·simp (disch := omega) [wks, wkA, sl, fcN, fcA, fcB]
 ·skip
  rintro ⟨q, (_ | ⟨a, b⟩)⟩ m ⟨hq1, hq2, hq3⟩
  ·skip
   obtain ⟨hq4, hq5⟩ := hq2 rfl
   clear hq2 hq3
   simp only [fcN, fcA, fcB, fcH] at hq4 hq5 ⊢
   have hqq : (q : Int) * q ≤ 7 * 7 := Int.mul_le_mul (by omega) (by omega) (by omega) (by omega)
   have hqq0 : 0 ≤ (q : Int) * q := Int.mul_nonneg (by omega) (by omega)
   simp -dsimp -implicitDefEqProofs (disch := omega) only [go_sem, undef, reduceAdd, reduceSub, reduceGT, reduceEqDiff, reduceMul]
   refine AW.seq (fun N2 hN2 => ?_)
   refine AW.sr envOk (fun N hN => ?_)
   simp -dsimp -implicitDefEqProofs (disch := omega) only [go_sem, undef, reduceAdd, reduceSub, reduceGT, reduceEqDiff, reduceMul, w64]
   refine hN _ ?_
   try clear hN N
   refine AW.cond rfl (fun h1 => ?_) (fun h1 => ?_)
   ·try simp only [cn] at h1
    refine AW.skip ?_
    simp only [thn, blk]
    refine hN2 _ ?_
    try clear hN2 N2
    refine AW.seq (fun N3 hN3 => ?_)
    refine AW.block ?_
    refine AW.seq (fun N4 hN4 => ?_)
    refine AW.sr envOk (fun N hN => ?_)
    simp -dsimp -implicitDefEqProofs (disch := omega) only [go_sem, undef, reduceAdd, reduceSub, reduceGT, reduceEqDiff, reduceMul, w64]
    refine hN _ ?_
    try clear hN N
    refine AW.cond rfl (fun h2 => ?_) (fun h2 => ?_)
    ·try simp only [cn] at h2
     obtain rfl : e = 1 := by
      rcases Nat.lt_or_ge e 2 with h | h
      ·omega
      ·have := pw_le h7.1 h
       have h3 : p ^ 2 = p * p := by rw [Int.pow_succ, Int.pow_one]
       have h4 : (q : Int) * q ≤ p * p := Int.mul_le_mul hq5 hq5 (by omega) (by omega)
       omega
     have hF : FcE p 1 p 1 := FcE.eq hp h7
     rw [Int.pow_one] at h9 hpe
     refine AW.regionL envOk ?_
     simp -dsimp -implicitDefEqProofs (disch := omega) only [go_sem, undef, reduceAdd, reduceSub, reduceGT, reduceEqDiff, reduceMul, w64]
     refine hN4 _ ?_
     try clear hN4 N4
     refine AW.sr envOk (fun N hN => ?_)
     simp -dsimp -implicitDefEqProofs (disch := omega) only [go_sem, undef, reduceAdd, reduceSub, reduceGT, reduceEqDiff, reduceMul, w64]
     refine hN _ ?_
     try clear hN N
     refine AW.seq (fun N5 hN5 => ?_)
     refine AW.block ?_
     refine AW.loopN (α := Nat) (fun x => sl 39 [(0, .i .i64 (p ^ (1 - x))), (4, .nl), (5, .nl), (6, .i .i64 p), (7, .i .i64 x)]) (fun _ => noH) (fun x m => x ≤ 1) (fun x => 1 - x) (0) ?_ ?_ (fun _ _ h => h) ?_
     ·simp
     ·simp (disch := omega) [wks, wkA, sl, Int.pow_one]
     ·skip
      rintro d m2 hd
      have hb1 := pow_gt h7.1 (1 - d)
      have hb2 := pw_le h7.1 (show 1 - d ≤ 1 by omega)
      rw [Int.pow_one] at hb2
      have hgo := hF.go d hd
      simp -dsimp -implicitDefEqProofs (disch := omega) only [go_sem, undef, reduceAdd, reduceSub, reduceGT, reduceEqDiff, reduceMul]
      refine AW.seq (fun N6 hN6 => ?_)
      refine AW.sr envOk (fun N hN => ?_)
      simp -dsimp -implicitDefEqProofs (disch := omega) only [go_sem, undef, reduceAdd, reduceSub, reduceGT, reduceEqDiff, reduceMul, w64]
      refine hN _ ?_
      try clear hN N
      refine AW.cond rfl (fun h3 => ?_) (fun h3 => ?_)
      ·try simp only [cn] at h3
       have hlt := hgo.1 h3
       have hdv : (p ^ (1 - d)).tdiv p = p ^ (1 - (d + 1)) := by rw [Int.tdiv_eq_ediv_of_nonneg (by omega), show 1 - d = (1 - (d + 1)) + 1 by omega, pow_div h7.1]
       have hb3 := pow_gt h7.1 (1 - (d + 1))
       have hb4 := pw_le h7.1 (show 1 - (d + 1) ≤ 1 by omega)
       refine AW.skip ?_
       simp only [thn, blk]
       refine hN6 _ ?_
       try clear hN6 N6
       refine AW.block ?_
       refine AW.sr envOk (fun N hN => ?_)
       simp -dsimp -implicitDefEqProofs (disch := omega) only [go_sem, undef, reduceAdd, reduceSub, reduceGT, reduceEqDiff, reduceMul, w64, hdv]
       refine hN _ ?_
       try clear hN N
       refine AW.regionL envOk ?_
       simp -dsimp -implicitDefEqProofs (disch := omega) only [go_sem, undef, reduceAdd, reduceSub, reduceGT, reduceEqDiff, reduceMul, w64]
       refine ⟨d + 1, ?_, fun _ _ h => h, ?_, ?_⟩
       ·simp (disch := omega) [wks, wkA, sl, w64] <;> omega
       ·omega
       ·first | omega | (simp only; omega)
      ·try simp only [cn] at h3
       have hde : d = 1 := by
        apply Classical.byContradiction
        intro hn
        exact h3 (hgo.2 (by omega))
       subst hde
       refine AW.exit ?_
       simp only [thn, blk, if_true]
       refine hN5 _ ?_
       try clear hN5 N5
       refine AW.sr envOk (fun N hN => ?_)
       simp -dsimp -implicitDefEqProofs (disch := omega) only [go_sem, undef, reduceAdd, reduceSub, reduceGT, reduceEqDiff, reduceMul, w64]
       refine hN _ ?_
       try clear hN N
       refine AW.cond rfl (fun h4 => ?_) (fun h4 => ?_)
       ·try simp only [cn] at h4
        skip
        refine AW.sr envOk (fun N hN => ?_)
        simp -dsimp -implicitDefEqProofs (disch := omega) only [go_sem, undef, reduceAdd, reduceSub, reduceGT, reduceEqDiff, reduceMul, w64]
        refine hN _ ?_
        try clear hN N
        refine AW.regionL envOk ?_
        simp -dsimp -implicitDefEqProofs (disch := omega) only [go_sem, undef, reduceAdd, reduceSub, reduceGT, reduceEqDiff, reduceMul, w64]
        refine hN3 _ ?_
        try clear hN3 N3
        refine AW.regionL envOk ?_
        simp -dsimp -implicitDefEqProofs (disch := omega) only [go_sem, undef, reduceAdd, reduceSub, reduceGT, reduceEqDiff, reduceMul, w64]
        refine ⟨(p.toNat + 1, some (m2 + 9, m2 + 14)), ?_, (by intro d cs hd; simp only [fcH, upd, noH, List.nil_append] at hd ⊢; grind), ?_, ?_⟩
        ·simp (disch := omega) [wks, wkA, sl, w64, fcN, fcA, fcB, Nat.sub_self, Int.pow_zero] <;> omega
        ·exact ⟨by first| omega| (simp only; omega)| (dsimp only; omega), fun h => (by cases h), fun a b h => (by cases h; exact ⟨by omega, by omega⟩)⟩
        ·(simp only [reduceCtorEq, if_false, if_true]; omega)
       ·try simp only [cn] at h4
        exact absurd h4 (by omega)
    ·try simp only [cn] at h2
     obtain ⟨E, hF, hE⟩ : ∃ E, FcE p e q E ∧ (E = e ∧ (q : Int) = p ∨ E = 0 ∧ (q : Int) < p) := by
      rcases Int.lt_or_eq_of_le hq5 with h | h
      ·exact ⟨0, FcE.no hp h7 h9 hq4 h, .inr ⟨rfl, h⟩⟩
      ·exact ⟨e, by rw [h]; exact FcE.eq hp h7, .inl ⟨rfl, h⟩⟩
     refine AW.skip ?_
     simp only [thn, blk]
     refine hN4 _ ?_
     try clear hN4 N4
     refine AW.sr envOk (fun N hN => ?_)
     simp -dsimp -implicitDefEqProofs (disch := omega) only [go_sem, undef, reduceAdd, reduceSub, reduceGT, reduceEqDiff, reduceMul, w64]
     refine hN _ ?_
     try clear hN N
     refine AW.seq (fun N7 hN7 => ?_)
     refine AW.block ?_
     refine AW.loopN (α := Nat) (fun x => sl 39 [(0, .i .i64 (p ^ (e - x))), (4, .nl), (5, .nl), (6, .i .i64 q), (7, .i .i64 x)]) (fun _ => noH) (fun x m => x ≤ E) (fun x => E - x) (0) ?_ ?_ (fun _ _ h => h) ?_
     ·simp
     ·simp (disch := omega) [wks, wkA, sl, w64, ints, rows, cubes, w64] <;> omega
     ·skip
      rintro d m2 hd
      have hb1 := pow_gt h7.1 (e - d)
      have hb2 := pw_le h7.1 (show e - d ≤ e by omega)
      have hgo := hF.go d hd
      simp -dsimp -implicitDefEqProofs (disch := omega) only [go_sem, undef, reduceAdd, reduceSub, reduceGT, reduceEqDiff, reduceMul]
      refine AW.seq (fun N8 hN8 => ?_)
      refine AW.sr envOk (fun N hN => ?_)
      simp -dsimp -implicitDefEqProofs (disch := omega) only [go_sem, undef, reduceAdd, reduceSub, reduceGT, reduceEqDiff, reduceMul, w64]
      refine hN _ ?_
      try clear hN N
      refine AW.cond rfl (fun h5 => ?_) (fun h5 => ?_)
      ·try simp only [cn] at h5
       have hlt := hgo.1 h5
       have hqp := hF.pos (by omega)
       have hEe := hF.le
       have hdv : (p ^ (e - d)).tdiv q = p ^ (e - (d + 1)) := by rw [hqp, Int.tdiv_eq_ediv_of_nonneg (by omega), show e - d = (e - (d + 1)) + 1 by omega, pow_div h7.1]
       have hb3 := pow_gt h7.1 (e - (d + 1))
       have hb4 := pw_le h7.1 (show e - (d + 1) ≤ e by omega)
       refine AW.skip ?_
       simp only [thn, blk]
       refine hN8 _ ?_
       try clear hN8 N8
       refine AW.block ?_
       refine AW.sr envOk (fun N hN => ?_)
       simp -dsimp -implicitDefEqProofs (disch := omega) only [go_sem, undef, reduceAdd, reduceSub, reduceGT, reduceEqDiff, reduceMul, w64, hdv]
       refine hN _ ?_
       try clear hN N
       refine AW.regionL envOk ?_
       simp -dsimp -implicitDefEqProofs (disch := omega) only [go_sem, undef, reduceAdd, reduceSub, reduceGT, reduceEqDiff, reduceMul, w64]
       refine ⟨d + 1, ?_, fun _ _ h => h, ?_, ?_⟩
       ·simp (disch := omega) [wks, wkA, sl, w64] <;> omega
       ·omega
       ·first | omega | (simp only; omega)
      ·try simp only [cn] at h5
       have hde : d = E := by
        apply Classical.byContradiction
        intro hn
        exact h5 (hgo.2 (by omega))
       subst hde
       refine AW.exit ?_
       simp only [thn, blk, if_true]
       refine hN7 _ ?_
       try clear hN7 N7
       refine AW.sr envOk (fun N hN => ?_)
       simp -dsimp -implicitDefEqProofs (disch := omega) only [go_sem, undef, reduceAdd, reduceSub, reduceGT, reduceEqDiff, reduceMul, w64]
       refine hN _ ?_
       try clear hN N
       refine AW.cond rfl (fun h6 => ?_) (fun h6 => ?_)
       ·try simp only [cn] at h6
        obtain ⟨rfl, hqp⟩ : d = e ∧ (q : Int) = p := by omega
        refine AW.sr envOk (fun N hN => ?_)
        simp -dsimp -implicitDefEqProofs (disch := omega) only [go_sem, undef, reduceAdd, reduceSub, reduceGT, reduceEqDiff, reduceMul, w64]
        refine hN _ ?_
        try clear hN N
        refine AW.regionL envOk ?_
        simp -dsimp -implicitDefEqProofs (disch := omega) only [go_sem, undef, reduceAdd, reduceSub, reduceGT, reduceEqDiff, reduceMul, w64]
        refine hN3 _ ?_
        try clear hN3 N3
        refine AW.regionL envOk ?_
        simp -dsimp -implicitDefEqProofs (disch := omega) only [go_sem, undef, reduceAdd, reduceSub, reduceGT, reduceEqDiff, reduceMul, w64]
        refine ⟨(q + 1, some (m2 + 9, m2 + 14)), ?_, (by intro d cs hd; simp only [fcH, upd, noH, List.nil_append] at hd ⊢; grind), ?_, ?_⟩
        ·simp (disch := omega) [wks, wkA, sl, w64, fcN, fcA, fcB, Nat.sub_self, Int.pow_zero] <;> omega
        ·exact ⟨by first| omega| (simp only; omega)| (dsimp only; omega), fun h => (by cases h), fun a b h => (by cases h; exact ⟨by omega, by omega⟩)⟩
        ·(simp only [reduceCtorEq, if_false, if_true]; omega)
       ·try simp only [cn] at h6
        obtain rfl : d = 0 := by omega
        refine AW.skip ?_
        simp only [thn, blk]
        refine hN3 _ ?_
        try clear hN3 N3
        refine AW.regionL envOk ?_
        simp -dsimp -implicitDefEqProofs (disch := omega) only [go_sem, undef, reduceAdd, reduceSub, reduceGT, reduceEqDiff, reduceMul, w64]
        refine ⟨(q + 1, none), ?_, (by intro d cs hd; cases hd), ?_, ?_⟩
        ·simp (disch := omega) [wks, wkA, sl, w64, fcN, fcA, fcB, Nat.sub_self, Int.pow_zero] <;> omega
        ·exact ⟨by first| omega| (simp only; omega)| (dsimp only; omega), fun _ => ⟨by first| omega| (simp only; omega)| (dsimp only; omega), by first| omega| (simp only; omega)| (dsimp only; omega)⟩, fun a b h => (by cases h)⟩
        ·(simp only [reduceCtorEq, if_false, if_true]; omega)
   ·try simp only [cn] at h1
    exact absurd h1 (by omega)
  ·skip
   obtain ⟨hab, hbm⟩ := hq3 a b rfl
   clear hq2 hq3
   simp only [fcN, fcA, fcB, fcH]
   simp -dsimp -implicitDefEqProofs (disch := omega) only [go_sem, undef, reduceAdd, reduceSub, reduceGT, reduceEqDiff, reduceMul]
   refine AW.seq (fun N9 hN9 => ?_)
   refine AW.sr envOk (fun N hN => ?_)
   simp -dsimp -implicitDefEqProofs (disch := omega) only [go_sem, undef, reduceAdd, reduceSub, reduceGT, reduceEqDiff, reduceMul, w64]
   refine hN _ ?_
   try clear hN N
   refine AW.cond rfl (fun h7 => ?_) (fun h7 => ?_)
   ·try simp only [cn] at h7
    exact absurd h7 (by omega)
   ·try simp only [cn] at h7
    refine AW.exit ?_
    simp only [thn, blk, if_true]
    refine hN1 _ ?_
    try clear hN1 N1
    refine AW.sr envOk (fun N hN => ?_)
    simp -dsimp -implicitDefEqProofs (disch := omega) only [go_sem, undef, reduceAdd, reduceSub, reduceGT, reduceEqDiff, reduceMul, w64]
    refine hN _ ?_
    try clear hN N
    refine AW.ret ?_
    simp -dsimp -implicitDefEqProofs (disch := omega) only [go_sem, undef, reduceAdd, reduceSub, reduceGT, reduceEqDiff, reduceMul]
    refine .t _ _ rfl fun k x y hx hy => ?_
    match k, hx, hy with
    | 0, hx, hy =>
     cases hx
     cases hy
     exact Vw.blk (by simp (disch := omega) only [upd_same, upd_ne]; rfl) rfl
    | 1, hx, hy =>
     cases hx
     cases hy
     exact Vw.blk (upd_same _ _ _) rfl
end Go.Proofs.Ytkmgmjajbiddbaa
