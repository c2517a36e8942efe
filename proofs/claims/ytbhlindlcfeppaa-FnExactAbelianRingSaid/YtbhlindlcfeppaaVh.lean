/-
  AbelianRing, by the program and by the reference.
-/
import Derived.Test.YtbhlindlcfeppaaVg
set_option linter.unusedVariables false
set_option linter.unusedSimpArgs false
namespace Go.Proofs.Ytbhlindlcfeppaa
open Nat (reduceAdd reduceSub reduceGT reduceEqDiff reduceMul)

theorem pr4_pos {p : Int} (h : pr4 p) : 1 ≤ p := by unfold pr4 at h; omega
theorem lk_le_of {p : Int} {es : List Int} {i : Nat} (hp : pr4 p) (h : i ≤ es.length) (hc : (lk es).1 ≤ 6 ∧ p ^ (lk es).1 ≤ 729) : (lk (es.take i)).1 ≤ 6 ∧ p ^ (lk (es.take i)).1 ≤ 729 :=
  ⟨Nat.le_trans (lk_le h) hc.1, Int.le_trans (pw_mono (pr4_pos hp) (lk_le h)) hc.2⟩
theorem lk_one {es : List Int} {i : Nat} (h : i < es.length) (h1 : 1 ≤ es.getD i 0) : ((lk (es.take i)).1 : Int) + es.getD i 0 = ((lk (es.take (i + 1))).1 : Nat) := by
  rw [lk_snoc h]; simp only [lkS]; omega
theorem all_get {es : List Int} (h : ∀ j, j < es.length → 1 ≤ es.getD j 0) : ∀ e ∈ es, 1 ≤ e := fun e he => by
  obtain ⟨i, hi, rfl⟩ := mem_ix (d := 0) he
  exact h i hi
theorem get_all {es : List Int} (h : ∀ e ∈ es, 1 ≤ e) {j : Nat} (hj : j < es.length) : 1 ≤ es.getD j 0 := h _ (by
  rw [List.getD_eq_getElem?_getD, List.getElem?_eq_getElem hj]
  exact List.getElem_mem hj)

theorem lkk_step {s : Nat → Bool} {n k r : Nat} : (s r || (decide (n ≤ r) && decide (r < n + (k + 1)))) = ((s r || (decide (n ≤ r) && decide (r < n + k))) || r == n + k) := by
  rw [Bool.eq_iff_iff]
  simp only [Bool.or_eq_true, Bool.and_eq_true, decide_eq_true_eq, beq_iff_eq]
  by_cases h : s r = true
  · simp only [h, true_or]
  · simp only [h, Bool.false_eq_true, false_or]
    omega
theorem lkk_end {s : Nat → Bool} {n k r m : Nat} (hm : k + 1 = m) : lkN n m s r = (s r || (decide (n ≤ r) && decide (r < n + k))) := by
  unfold lkN
  rw [Bool.eq_iff_iff]
  simp only [Bool.or_eq_true, Bool.and_eq_true, decide_eq_true_eq]
  by_cases h : s r = true
  · simp only [h, true_or]
  · simp only [h, Bool.false_eq_true, false_or]
    omega

set_option maxRecDepth 100000 in
set_option maxHeartbeats 8000000 in
theorem impl_AbelianRing_ok (p : Int) (es : List Int) (hel : es.length ≤ 1048576) : ACo Try.prog 44 [.i .i64 p, ints es] (resG (abM p es (tf (pr4 p)) (tf (∀ e ∈ es, 1 ≤ e)) (tf ((lk es).1 ≤ 6 ∧ p ^ (lk es).1 ≤ 729)))) := by
 obtain ⟨b1, hb1⟩ : ∃ b, tf (pr4 p) = b := ⟨_, rfl⟩
 obtain ⟨b2, hb2⟩ : ∃ b, tf (∀ e ∈ es, 1 ≤ e) = b := ⟨_, rfl⟩
 obtain ⟨b3, hb3⟩ : ∃ b, tf ((lk es).1 ≤ 6 ∧ p ^ (lk es).1 ≤ 729) = b := ⟨_, rfl⟩
 rw [hb2, hb3]
 obtain ⟨NN, hNN⟩ : ∃ N, (lk es).1 = N := ⟨_, rfl⟩
 have hl0 : (lk []).1 = 0 := rfl
 rw [hNN] at hb3
 intro nx
 refine AC.intro' envOk Try.func44 rfl (by kernel_rfl) Try.ntmps44 Try.results44 ?_
 refine AW.sr envOk (fun N hN => ?_)
 simp -dsimp -implicitDefEqProofs (disch := omega) only [go_sem, reduceAdd, reduceSub, reduceGT, reduceEqDiff, reduceMul, w64]
 refine hN _ ?_
 try clear hN N
 refine AW.seq (fun N1 hN1 => ?_)
 refine AW.sr envOk (fun N hN => ?_)
 simp -dsimp -implicitDefEqProofs (disch := omega) only [go_sem, reduceAdd, reduceSub, reduceGT, reduceEqDiff, reduceMul, w64]
 refine AC.pure (.of (impl_IsGroupPrime_ok p)) ?_
 try simp -dsimp -implicitDefEqProofs (disch := omega) only [go_sem, reduceAdd, reduceSub, reduceGT, reduceEqDiff, reduceMul, w64]
 refine hN _ ?_
 try clear hN N
 refine AW.cond rfl (fun h1 => ?_) (fun h1 => ?_)
 ·try simp only [cn] at h1
  refine AW.sr envOk (fun N hN => ?_)
  simp -dsimp -implicitDefEqProofs (disch := omega) only [go_sem, reduceAdd, reduceSub, reduceGT, reduceEqDiff, reduceMul, w64]
  refine hN _ ?_
  try clear hN N
  refine AW.ret ?_
  simp -dsimp -implicitDefEqProofs (disch := omega) only [go_sem, reduceAdd, reduceSub, reduceGT, reduceEqDiff, reduceMul]
  rw [hb1, show b1 = false from hb1.symm.trans (tf_f h1)]
  exact Own.nilG
 ·try simp only [cn] at h1
  have e1 : b1 = true := hb1.symm.trans (tf_t h1)
  have hpp := pr4_pos h1
  refine AW.skip ?_
  simp only [thn, blk]
  refine hN1 _ ?_
  try clear hN1 N1
  refine AW.seq (fun N2 hN2 => ?_)
  refine AW.nameH (fun G0 hG0 => ?_)
  dsimp only at hG0
  have hc0 : G0 nx = some [.i .i64 0, .nl, .nl] := by rw [← hG0]; exact upd_same _ _ _
  simp -dsimp -implicitDefEqProofs (disch := omega) only [go_sem, reduceAdd, reduceSub, reduceGT, reduceEqDiff, reduceMul]
  refine AW.sr envOk (fun N hN => ?_)
  simp -dsimp -implicitDefEqProofs (disch := omega) only [go_sem, reduceAdd, reduceSub, reduceGT, reduceEqDiff, reduceMul, w64]
  refine hN _ ?_
  try clear hN N
  refine AW.block ?_
  refine AW.loopN (α := Nat) (fun x => sl 82 [(0, .i .i64 p), (1, ints es), (4, .q nx 0), (20, ints es), (21, .i .i64 es.length), (22, .i .i64 x)]) (fun _ => G0) (fun x m => x ≤ es.length ∧ nx < m ∧ ∀ j, j < x → 1 ≤ es.getD j 0) (fun x => es.length - x) (0) ?_ ?_ (fun _ _ h => h) ?_
  ·exact ⟨by simp, by first| omega| (simp only; omega)| (dsimp only; omega), fun j hj => by omega⟩
  ·simp (disch := omega) [wks, wkA, sl, ints]
  ·skip
   rintro i m1 ⟨hi, hnm1, hal⟩
   simp -dsimp -implicitDefEqProofs (disch := omega) only [go_sem, reduceAdd, reduceSub, reduceGT, reduceEqDiff, reduceMul]
   refine AW.sr envOk (fun N hN => ?_)
   simp -dsimp -implicitDefEqProofs (disch := omega) only [go_sem, reduceAdd, reduceSub, reduceGT, reduceEqDiff, reduceMul, w64]
   refine hN _ ?_
   try clear hN N
   refine AW.seq (fun N3 hN3 => ?_)
   refine AW.cond rfl (fun h2 => ?_) (fun h2 => ?_)
   ·try simp only [cn] at h2
    refine AW.skip ?_
    simp only [thn, blk]
    refine hN3 _ ?_
    try clear hN3 N3
    refine AW.seq (fun N4 hN4 => ?_)
    refine AW.block ?_
    refine AW.sr envOk (fun N hN => ?_)
    simp -dsimp -implicitDefEqProofs (disch := omega) only [go_sem, reduceAdd, reduceSub, reduceGT, reduceEqDiff, reduceMul, w64, ints]
    refine hN _ ?_
    try clear hN N
    refine AW.sr envOk (fun N hN => ?_)
    simp -dsimp -implicitDefEqProofs (disch := omega) only [go_sem, reduceAdd, reduceSub, reduceGT, reduceEqDiff, reduceMul, w64]
    refine hN _ ?_
    try clear hN N
    refine AW.cond rfl (fun h3 => ?_) (fun h3 => ?_)
    ·try simp only [cn] at h3
     have e2 : b2 = false := hb2.symm.trans (tf_f (fun h => by have := get_all h (j := i) (by omega); omega))
     refine AW.sr envOk (fun N hN => ?_)
     simp -dsimp -implicitDefEqProofs (disch := omega) only [go_sem, reduceAdd, reduceSub, reduceGT, reduceEqDiff, reduceMul, w64, hc0]
     refine hN _ ?_
     try clear hN N
     refine AW.ret ?_
     simp -dsimp -implicitDefEqProofs (disch := omega) only [go_sem, reduceAdd, reduceSub, reduceGT, reduceEqDiff, reduceMul]
     rw [hb1, e1, e2]
     exact Own.nilG
    ·try simp only [cn] at h3
     refine AW.skip ?_
     simp only [thn, blk]
     refine hN4 _ ?_
     try clear hN4 N4
     refine AW.regionL envOk ?_
     simp -dsimp -implicitDefEqProofs (disch := omega) only [go_sem, reduceAdd, reduceSub, reduceGT, reduceEqDiff, reduceMul, w64]
     have hal2 : ∀ j, j < i + 1 → 1 ≤ es.getD j 0 := fun j hj => by
      rcases Nat.lt_or_ge j i with hji | hji
      ·exact hal j hji
      ·rw [show j = i by omega]; omega
     refine ⟨i + 1, ?_, fun _ _ h => h, ?_, ?_⟩
     ·simp (disch := omega) [wks, wkA, sl, w64, ints, rows, cubes, w64] <;> omega
     ·first| exact ⟨by first| omega| (simp only; omega)| (dsimp only; omega), by first| omega| (simp only; omega)| (dsimp only; omega), hal2⟩| exact hal2| exact ⟨by first| omega| (simp only; omega)| (dsimp only; omega), hal2⟩
     ·first | omega | (simp only; omega)
   ·try simp only [cn] at h2
    have e2 : b2 = true := hb2.symm.trans (tf_t (all_get (fun j hj => hal j (by omega))))
    replace hal : ∀ j, j < es.length → 1 ≤ es.getD j 0 := fun j hj => hal j (by omega)
    refine AW.exit ?_
    simp only [thn, blk, if_true]
    refine hN2 _ ?_
    try clear hN2 N2
    refine AW.sr envOk (fun N hN => ?_)
    simp -dsimp -implicitDefEqProofs (disch := omega) only [go_sem, reduceAdd, reduceSub, reduceGT, reduceEqDiff, reduceMul, w64]
    refine hN _ ?_
    try clear hN N
    refine AW.seq (fun N5 hN5 => ?_)
    refine AW.sr envOk (fun N hN => ?_)
    simp -dsimp -implicitDefEqProofs (disch := omega) only [go_sem, reduceAdd, reduceSub, reduceGT, reduceEqDiff, reduceMul, w64]
    refine hN _ ?_
    try clear hN N
    refine AW.block ?_
    refine AW.loopN (α := Nat) (fun x => sl 82 [(0, .i .i64 p), (1, ints es), (4, .q nx 0), (8, .i .i64 (lk (es.take x)).1), (30, ints es), (31, .i .i64 es.length), (32, .i .i64 x)]) (fun _ => G0) (fun x m => x ≤ es.length ∧ nx < m ∧ (lk (es.take x)).1 ≤ 6) (fun x => es.length - x) (0) ?_ ?_ (fun _ _ h => h) ?_
    ·exact ⟨by simp, by first| omega| (simp only; omega)| (dsimp only; omega), by rw [List.take_zero, hl0]; omega⟩
    ·simp (disch := omega) [wks, wkA, sl, ints, hl0]
    ·skip
     rintro a m2 ⟨ha, hnm2, h6⟩
     simp -dsimp -implicitDefEqProofs (disch := omega) only [go_sem, reduceAdd, reduceSub, reduceGT, reduceEqDiff, reduceMul]
     refine AW.sr envOk (fun N hN => ?_)
     simp -dsimp -implicitDefEqProofs (disch := omega) only [go_sem, reduceAdd, reduceSub, reduceGT, reduceEqDiff, reduceMul, w64]
     refine hN _ ?_
     try clear hN N
     refine AW.seq (fun N6 hN6 => ?_)
     refine AW.cond rfl (fun h4 => ?_) (fun h4 => ?_)
     ·try simp only [cn] at h4
      have hst := lk_one (show a < es.length by omega) (hal a (by omega))
      have hle := lk_le (es := es) (i := a + 1) (by omega)
      rw [hNN] at hle
      obtain ⟨e, he⟩ : ∃ e, es.getD a 0 = e := ⟨_, rfl⟩
      rw [he] at hst
      refine AW.skip ?_
      simp only [thn, blk]
      refine hN6 _ ?_
      try clear hN6 N6
      refine AW.seq (fun N7 hN7 => ?_)
      refine AW.block ?_
      refine AW.sr envOk (fun N hN => ?_)
      simp -dsimp -implicitDefEqProofs (disch := omega) only [go_sem, reduceAdd, reduceSub, reduceGT, reduceEqDiff, reduceMul, w64, ints, he]
      refine hN _ ?_
      try clear hN N
      refine AW.seq (fun N8 hN8 => ?_)
      refine AW.sr envOk (fun N hN => ?_)
      simp -dsimp -implicitDefEqProofs (disch := omega) only [go_sem, reduceAdd, reduceSub, reduceGT, reduceEqDiff, reduceMul, w64]
      refine hN _ ?_
      try clear hN N
      refine AW.cond rfl (fun h5 => ?_) (fun h5 => ?_)
      ·try simp only [cn] at h5
       refine AW.sr envOk (fun N hN => ?_)
       simp -dsimp -implicitDefEqProofs (disch := omega) only [go_sem, reduceAdd, reduceSub, reduceGT, reduceEqDiff, reduceMul, w64, hc0]
       refine hN _ ?_
       try clear hN N
       refine AW.ret ?_
       simp -dsimp -implicitDefEqProofs (disch := omega) only [go_sem, reduceAdd, reduceSub, reduceGT, reduceEqDiff, reduceMul]
       rw [hb1, e1, e2, show b3 = false from hb3.symm.trans (tf_f (fun h => by omega))]
       exact Own.nilG
      ·try simp only [cn] at h5
       refine AW.skip ?_
       simp only [thn, blk]
       refine hN8 _ ?_
       try clear hN8 N8
       refine AW.regionL envOk ?_
       simp -dsimp -implicitDefEqProofs (disch := omega) only [go_sem, reduceAdd, reduceSub, reduceGT, reduceEqDiff, reduceMul, w64]
       refine hN7 _ ?_
       try clear hN7 N7
       refine AW.regionL envOk ?_
       simp -dsimp -implicitDefEqProofs (disch := omega) only [go_sem, reduceAdd, reduceSub, reduceGT, reduceEqDiff, reduceMul, w64]
       refine ⟨a + 1, ?_, fun _ _ h => h, ?_, ?_⟩
       ·simp (disch := omega) [wks, wkA, sl, w64, ints] <;> omega
       ·first| exact ⟨by first| omega| (simp only; omega)| (dsimp only; omega), by first| omega| (simp only; omega)| (dsimp only; omega), by first| omega| (simp only; omega)| (dsimp only; omega)⟩| exact ⟨by first| omega| (simp only; omega)| (dsimp only; omega), by first| omega| (simp only; omega)| (dsimp only; omega)⟩
       ·first | omega | (simp only; omega)
     ·try simp only [cn] at h4
      have hae : a = es.length := by omega
      subst hae
      rw [List.take_length, hNN] at h6
      refine AW.exit ?_
      simp only [thn, blk, if_true]
      refine hN5 _ ?_
      try clear hN5 N5
      refine AW.seq (fun N9 hN9 => ?_)
      refine AW.sr envOk (fun N hN => ?_)
      simp -dsimp -implicitDefEqProofs (disch := omega) only [go_sem, reduceAdd, reduceSub, reduceGT, reduceEqDiff, reduceMul, w64, List.take_length, hNN]
      refine AC.pure (.of (impl_integerPower_ok p NN h1 (by omega))) ?_
      try simp -dsimp -implicitDefEqProofs (disch := omega) only [go_sem, reduceAdd, reduceSub, reduceGT, reduceEqDiff, reduceMul, w64]
      refine hN _ ?_
      try clear hN N
      refine AW.cond rfl (fun h6 => ?_) (fun h6 => ?_)
      ·try simp only [cn] at h6
       refine AW.sr envOk (fun N hN => ?_)
       simp -dsimp -implicitDefEqProofs (disch := omega) only [go_sem, reduceAdd, reduceSub, reduceGT, reduceEqDiff, reduceMul, w64, hc0]
       refine hN _ ?_
       try clear hN N
       refine AW.ret ?_
       simp -dsimp -implicitDefEqProofs (disch := omega) only [go_sem, reduceAdd, reduceSub, reduceGT, reduceEqDiff, reduceMul]
       rw [hb1, e1, e2, show b3 = false from hb3.symm.trans (tf_f (fun h => by omega))]
       exact Own.nilG
      ·try simp only [cn] at h6
       have e3 : b3 = true := hb3.symm.trans (tf_t ⟨by omega, by omega⟩)
       refine AW.skip ?_
       simp only [thn, blk]
       refine hN9 _ ?_
       try clear hN9 N9
       refine AW.sr envOk (fun N hN => ?_)
       simp -dsimp -implicitDefEqProofs (disch := omega) only [go_sem, reduceAdd, reduceSub, reduceGT, reduceEqDiff, reduceMul, w64]
       refine AC.own (impl_zeroRing_ok p NN (by omega)) (.cons (.refl _) (.cons (.refl _) .nil)) ?_
       intro m3 H3 r3 ids3 hm3 hH3 hown3
       obtain ⟨P, B, rfl, hP1, hB1, hR⟩ := RgO.of hown3
       try simp -dsimp -implicitDefEqProofs (disch := omega) only [go_sem, reduceAdd, reduceSub, reduceGT, reduceEqDiff, reduceMul, hP1, hB1]
       refine hN _ ?_
       try clear hN N
       refine AW.freezeQ 11 (m2 + 1 + 4 + 3) _ rfl (upd_same _ _ _) ?_
       refine AW.nameH (fun G3 hG3 => ?_)
       dsimp only at hG3
       obtain ⟨A0, hA0⟩ : ∃ A0, m2 + 1 + 4 + 5 = A0 := ⟨_, rfl⟩
       have hc3 : G3 nx = some [.i .i64 0, .nl, .nl] := by rw [← hG3]; simp (disch := omega) only [upd_ne, hH3, hc0]
       have hR3 : RgO A0 m3 G3 P B (genP NN (lk (es.take 0)).2) (zB NN) := by
        rw [show genP NN (lk (es.take 0)).2 = zP NN from genP_zero.symm, ← hA0]
        exact hR.keep (fun i q1 q2 => by rw [← hG3]; simp (disch := omega) only [upd_ne]) (Nat.le_refl _)
       simp -dsimp -implicitDefEqProofs (disch := omega) only [go_sem, reduceAdd, reduceSub, reduceGT, reduceEqDiff, reduceMul]
       refine AW.sr envOk (fun N hN => ?_)
       simp -dsimp -implicitDefEqProofs (disch := omega) only [go_sem, reduceAdd, reduceSub, reduceGT, reduceEqDiff, reduceMul, w64]
       refine hN _ ?_
       try clear hN N
       refine AW.seq (fun N10 hN10 => ?_)
       refine AW.sr envOk (fun N hN => ?_)
       simp -dsimp -implicitDefEqProofs (disch := omega) only [go_sem, reduceAdd, reduceSub, reduceGT, reduceEqDiff, reduceMul, w64]
       refine hN _ ?_
       try clear hN N
       refine AW.block ?_
       refine AW.loopN (α := Nat × HP) (fun x => sl 82 [(4, .q nx 0), (11, .p 0 [.i .i64 p, P, B]), (12, .i .i64 (lk (es.take x.1)).1), (53, ints es), (54, .i .i64 es.length), (55, .i .i64 x.1)]) (fun x => x.2) (fun x m => x.1 ≤ es.length ∧ m3 ≤ m ∧ RgO A0 m x.2 P B (genP NN (lk (es.take x.1)).2) (zB NN) ∧ x.2 nx = some [.i .i64 0, .nl, .nl]) (fun x => es.length - x.1) ((0, G3)) ?_ ?_ (fun _ _ h => h) ?_
       ·exact ⟨by simp, by first| omega| (simp only; omega)| (dsimp only; omega), hR3.keep (fun _ _ _ => rfl) (by first| omega| (simp only; omega)| (dsimp only; omega)), hc3⟩
       ·simp (disch := omega) [wks, wkA, sl, ints, hl0]
       ·skip
        rintro ⟨a, G⟩ m4 ⟨ha, hm34, hR4, hc4⟩
        dsimp only at ha hm34 hR4 hc4
        simp -dsimp -implicitDefEqProofs (disch := omega) only [go_sem, reduceAdd, reduceSub, reduceGT, reduceEqDiff, reduceMul]
        refine AW.sr envOk (fun N hN => ?_)
        simp -dsimp -implicitDefEqProofs (disch := omega) only [go_sem, reduceAdd, reduceSub, reduceGT, reduceEqDiff, reduceMul, w64]
        refine hN _ ?_
        try clear hN N
        refine AW.seq (fun N11 hN11 => ?_)
        refine AW.cond rfl (fun h7 => ?_) (fun h7 => ?_)
        ·try simp only [cn] at h7
         have hst := lk_one (show a < es.length by omega) (hal a (by omega))
         have hle := lk_le (es := es) (i := a + 1) (by omega)
         rw [hNN] at hle
         have he1 := hal a (by omega)
         have hsn := lk_snoc (es := es) (i := a) (by omega)
         obtain ⟨s, hs⟩ : ∃ s, (lk (es.take a)).2 = s := ⟨_, rfl⟩
         obtain ⟨n, hn⟩ : ∃ n, (lk (es.take a)).1 = n := ⟨_, rfl⟩
         obtain ⟨e, he⟩ : ∃ e, es.getD a 0 = e := ⟨_, rfl⟩
         rw [hs] at hR4
         rw [hn] at hst
         rw [he] at hst he1 hsn
         refine AW.skip ?_
         simp only [thn, blk]
         refine hN11 _ ?_
         try clear hN11 N11
         refine AW.seq (fun N12 hN12 => ?_)
         refine AW.block ?_
         refine AW.sr envOk (fun N hN => ?_)
         simp -dsimp -implicitDefEqProofs (disch := omega) only [go_sem, reduceAdd, reduceSub, reduceGT, reduceEqDiff, reduceMul, w64, ints, hn, he]
         refine hN _ ?_
         try clear hN N
         refine AW.seq (fun N13 hN13 => ?_)
         refine AW.sr envOk (fun N hN => ?_)
         simp -dsimp -implicitDefEqProofs (disch := omega) only [go_sem, reduceAdd, reduceSub, reduceGT, reduceEqDiff, reduceMul, w64]
         refine hN _ ?_
         try clear hN N
         refine AW.block ?_
         refine AW.loopN (α := Nat × HP) (fun x => sl 82 [(4, .q nx 0), (11, .p 0 [.i .i64 p, P, B]), (12, .i .i64 n), (14, .i .i64 e), (53, ints es), (54, .i .i64 es.length), (55, .i .i64 a), (60, .i .i64 (e - 1)), (61, .i .i64 x.1)]) (fun x => x.2) (fun x m => (x.1 : Int) ≤ e - 1 ∧ m3 ≤ m ∧ RgO A0 m x.2 P B (genP NN (fun r => s r || (decide (n ≤ r) && decide (r < n + x.1)))) (zB NN) ∧ x.2 nx = some [.i .i64 0, .nl, .nl]) (fun x => (e - 1).toNat - x.1) ((0, G)) ?_ ?_ (fun _ _ h => h) ?_
         ·exact ⟨by first| omega| (simp only; omega)| (dsimp only; omega), by first| omega| (simp only; omega)| (dsimp only; omega), by rw [genP_congr (s' := s) (fun r _ => by by_cases q1 : n ≤ r <;> simp [q1]; omega)]; exact hR4.keep (fun _ _ _ => rfl) (by first| omega| (simp only; omega)| (dsimp only; omega)), hc4⟩
         ·simp (disch := omega) [wks, wkA, sl, ints, hn, he]
         ·skip
          rintro ⟨k, K⟩ m5 ⟨hk, hm35, hR5, hc5⟩
          dsimp only at hk hm35 hR5 hc5
          simp -dsimp -implicitDefEqProofs (disch := omega) only [go_sem, reduceAdd, reduceSub, reduceGT, reduceEqDiff, reduceMul]
          refine AW.sr envOk (fun N hN => ?_)
          simp -dsimp -implicitDefEqProofs (disch := omega) only [go_sem, reduceAdd, reduceSub, reduceGT, reduceEqDiff, reduceMul, w64]
          refine hN _ ?_
          try clear hN N
          refine AW.seq (fun N14 hN14 => ?_)
          refine AW.cond rfl (fun h8 => ?_) (fun h8 => ?_)
          ·try simp only [cn] at h8
           have hkn : n + k + 1 < NN := by omega
           have hrl : ((genP NN (fun r => s r || (decide (n ≤ r) && decide (r < n + k)))).getD (n + k) []).length = NN := by rw [genP_get (by omega), vec_len]
           obtain ⟨Pid, rs, qq, cs, hPe, hPid, hrsl, hrq, hq, hcl, ⟨hb1', hb2'⟩, hq3, hq4⟩ := hR5.r (k := n + k) (by rw [genP_len]; omega) (by rw [hrl]; omega)
           rw [genP_len] at hPe hrsl
           rw [hrl] at hrq hcl
           subst hPe
           have hR6 := (genP_len ▸ hR5 : RgO A0 m5 K (.h Pid 0 (genP NN (fun r => s r || (decide (n ≤ r) && decide (r < n + k)))).length) B _ (zB NN)).setC (k := n + k) (l := n + k + 1) (x := 1) hPid (by rw [genP_len]; omega) (by rw [hrl]; omega) (by rw [hrl]; exact hrq) hq
           rw [genP_set, genP_len] at hR6
           have htn : ((n : Int) + k + 1).toNat = n + k + 1 := by omega
           have htn2 : ((n : Int) + k).toNat = n + k := by omega
           refine AW.skip ?_
           simp only [thn, blk]
           refine hN14 _ ?_
           try clear hN14 N14
           refine AW.seq (fun N15 hN15 => ?_)
           refine AW.block ?_
           refine AW.sr envOk (fun N hN => ?_)
           simp -dsimp -implicitDefEqProofs (disch := omega) only [go_sem, reduceAdd, reduceSub, reduceGT, reduceEqDiff, reduceMul, w64]
           refine hN _ ?_
           try clear hN N
           refine AW.regionL envOk ?_
           simp -dsimp -implicitDefEqProofs (disch := omega) only [go_sem, reduceAdd, reduceSub, reduceGT, reduceEqDiff, reduceMul, w64, htn, htn2, hPid, hrsl, hrq, hq, hcl, splice_one]
           refine hN15 _ ?_
           try clear hN15 N15
           refine AW.nameH (fun K2 hK2 => ?_)
           dsimp only at hK2
           have hR7 : RgO A0 m5 K2 (.h Pid 0 NN) B (genP NN (fun r => s r || (decide (n ≤ r) && decide (r < n + (k + 1))))) (zB NN) := by
            rw [← hK2, genP_congr (s' := fun r => (s r || (decide (n ≤ r) && decide (r < n + k))) || r == n + k) (fun r _ => lkk_step)]
            exact hR6
           have hc7 : K2 nx = some [.i .i64 0, .nl, .nl] := by rw [← hK2]; simp (disch := omega) only [upd_ne, hc5]
           simp -dsimp -implicitDefEqProofs (disch := omega) only [go_sem, reduceAdd, reduceSub, reduceGT, reduceEqDiff, reduceMul]
           refine AW.regionL envOk ?_
           simp -dsimp -implicitDefEqProofs (disch := omega) only [go_sem, reduceAdd, reduceSub, reduceGT, reduceEqDiff, reduceMul, w64]
           have hR9 := hR7.keep (m' := m5 + 1 + 2 + 13 + 2) (fun _ _ _ => rfl) (by omega)
           refine ⟨(k + 1, K2), ?_, fun _ _ h => h, ?_, ?_⟩
           ·simp (disch := omega) [wks, wkA, sl, w64, ints] <;> omega
           ·first| exact ⟨by first| omega| (simp only; omega)| (dsimp only; omega), by first| omega| (simp only; omega)| (dsimp only; omega), hR9, hc7⟩| exact ⟨by first| omega| (simp only; omega)| (dsimp only; omega), hR9, hc7⟩| exact ⟨hR9, hc7⟩
           ·first | omega | (simp only; omega)
          ·try simp only [cn] at h8
           have hR8 : RgO A0 m5 K P B (genP NN (lk (es.take (a + 1))).2) (zB NN) := by
            rw [hsn]
            simp only [lkS, hs, hn]
            rw [genP_congr (s' := fun r => s r || (decide (n ≤ r) && decide (r < n + k))) (fun r _ => lkk_end (by omega))]
            exact hR5
           refine AW.exit ?_
           simp only [thn, blk, if_true]
           refine hN13 _ ?_
           try clear hN13 N13
           refine AW.regionL envOk ?_
           simp -dsimp -implicitDefEqProofs (disch := omega) only [go_sem, reduceAdd, reduceSub, reduceGT, reduceEqDiff, reduceMul, w64]
           refine hN12 _ ?_
           try clear hN12 N12
           refine AW.regionL envOk ?_
           simp -dsimp -implicitDefEqProofs (disch := omega) only [go_sem, reduceAdd, reduceSub, reduceGT, reduceEqDiff, reduceMul, w64]
           refine ⟨(a + 1, K), ?_, fun _ _ h => h, ?_, ?_⟩
           ·simp (disch := omega) [wks, wkA, sl, w64, ints] <;> omega
           ·first| exact ⟨by first| omega| (simp only; omega)| (dsimp only; omega), by first| omega| (simp only; omega)| (dsimp only; omega), hR8.keep (fun _ _ _ => rfl) (by first| omega| (simp only; omega)| (dsimp only; omega)), hc5⟩| exact ⟨by first| omega| (simp only; omega)| (dsimp only; omega), hR8.keep (fun _ _ _ => rfl) (by first| omega| (simp only; omega)| (dsimp only; omega)), hc5⟩| exact ⟨hR8.keep (fun _ _ _ => rfl) (by first| omega| (simp only; omega)| (dsimp only; omega)), hc5⟩
           ·first | omega | (simp only; omega)
        ·try simp only [cn] at h7
         have hae : a = es.length := by omega
         subst hae
         rw [List.take_length] at hR4
         refine AW.exit ?_
         simp only [thn, blk, if_true]
         refine hN10 _ ?_
         try clear hN10 N10
         refine AW.sr envOk (fun N hN => ?_)
         simp -dsimp -implicitDefEqProofs (disch := omega) only [go_sem, reduceAdd, reduceSub, reduceGT, reduceEqDiff, reduceMul, w64, hc4, hP1, hB1, Bool.and_self]
         refine hN _ ?_
         try clear hN N
         refine AW.ret ?_
         simp -dsimp -implicitDefEqProofs (disch := omega) only [go_sem, reduceAdd, reduceSub, reduceGT, reduceEqDiff, reduceMul]
         rw [hb1, e1, e2, e3]
         subst hNN
         obtain ⟨ids, hown⟩ := (hR4.keep (H' := upd G nx (some [.i .i64 p, P, B])) (fun i q1 q2 => upd_ne _ _ (by omega)) (Nat.le_refl _)).own (p := p)
         exact (hown.keep (fun _ _ _ => rfl) (by omega) (by omega)).pair

end Go.Proofs.Ytbhlindlcfeppaa
