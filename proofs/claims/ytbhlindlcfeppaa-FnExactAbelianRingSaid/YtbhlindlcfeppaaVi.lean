/-
  The law FnExactAbelianRing: it answers true, whatever it is given.
-/
import Derived.Test.YtbhlindlcfeppaaVh
import Derived.Test.YtbhlindlcfeppaaUd
set_option linter.unusedVariables false
set_option linter.unusedSimpArgs false
namespace Go.Proofs.Ytbhlindlcfeppaa
open Nat (reduceAdd reduceSub reduceGT reduceEqDiff reduceMul)

theorem l31Sum_ab (p : Int) {n m : Nat} {s : Nat → Bool} (h : n + m ≤ 6) (hs : ∀ r, s r = true → r + 1 < n) : ACp Try.prog 102 [ring p (genP n s) (zB n), ring p (cycP m) (cycB m)] (ring p (genP (n + m) (lkN n m s)) (zB (n + m))) := by
  rw [← sum_gen hs, ← sum_z]
  have := spec_l31Sum_ok p (genP n s) (zB n) p (cycP m) (cycB m) (by rw [genP_len, cycP_len]; exact h)
    (fun i hi => by rw [genP_len] at hi ⊢; rw [genP_get hi, vec_len])
    (fun i hi => by rw [cycP_len] at hi ⊢; rw [show (cycP m).getD i [] = vec m (fun j => if j = i + 1 then 1 else 0) from by simp [cycP, hi], vec_len])
    (by rw [zB_len, genP_len]) (by rw [cycB_len, cycP_len])
    (fun i hi => by rw [genP_len] at hi ⊢; rw [zB_get hi, List.length_replicate]; omega)
    (fun i hi => by rw [cycP_len] at hi ⊢; rw [cycB_z, zB_get hi, List.length_replicate]; omega)
    (fun i k hi hk => by
      rw [genP_len] at hi ⊢
      rw [zB_get hi] at hk ⊢
      rw [List.length_replicate] at hk
      simp [hk, zrow_len])
    (fun i k hi hk => by
      rw [cycP_len] at hi ⊢
      rw [cycB_z, zB_get hi] at hk ⊢
      rw [List.length_replicate] at hk
      simp [hk, zrow_len])
  rw [genP_len, cycP_len] at this
  exact this

set_option maxRecDepth 100000 in
set_option maxHeartbeats 8000000 in
theorem spec_AbelianRing_ok (p : Int) (es : List Int) (hel : es.length ≤ 1048576) : ACp Try.prog 42 [.i .i64 p, ints es] (resG (abM p es (tf (pr4 p)) (tf (∀ e ∈ es, 1 ≤ e)) (tf ((lk es).1 ≤ 6 ∧ p ^ (lk es).1 ≤ 729)))) := by
 obtain ⟨b1, hb1⟩ : ∃ b, tf (pr4 p) = b := ⟨_, rfl⟩
 obtain ⟨b2, hb2⟩ : ∃ b, tf (∀ e ∈ es, 1 ≤ e) = b := ⟨_, rfl⟩
 obtain ⟨b3, hb3⟩ : ∃ b, tf ((lk es).1 ≤ 6 ∧ p ^ (lk es).1 ≤ 729) = b := ⟨_, rfl⟩
 rw [hb2, hb3]
 have hl0 : (lk []).1 = 0 := rfl
 refine ACp.introR envOk Try.func42 rfl (by kernel_rfl) Try.ntmps42 Try.results42 (resG_nr _) (fun nx => ?_)
 refine AW.sr envOk (fun N hN => ?_)
 simp -dsimp -implicitDefEqProofs (disch := omega) only [go_sem, reduceAdd, reduceSub, reduceGT, reduceEqDiff, reduceMul, ring, w64]
 refine hN _ ?_
 try clear hN N
 refine AW.seq (fun N1 hN1 => ?_)
 refine AW.sr envOk (fun N hN => ?_)
 simp -dsimp -implicitDefEqProofs (disch := omega) only [go_sem, reduceAdd, reduceSub, reduceGT, reduceEqDiff, reduceMul, ring, w64]
 refine AC.pure (.of (spec_l01Prime_ok p)) ?_
 try simp -dsimp -implicitDefEqProofs (disch := omega) only [go_sem, reduceAdd, reduceSub, reduceGT, reduceEqDiff, reduceMul, ring, w64]
 refine hN _ ?_
 try clear hN N
 refine AW.cond rfl (fun h1 => ?_) (fun h1 => ?_)
 ·try simp only [cn] at h1
  refine AW.sr envOk (fun N hN => ?_)
  simp -dsimp -implicitDefEqProofs (disch := omega) only [go_sem, reduceAdd, reduceSub, reduceGT, reduceEqDiff, reduceMul, ring, w64]
  refine hN _ ?_
  try clear hN N
  refine AW.ret ?_
  simp -dsimp -implicitDefEqProofs (disch := omega) only [go_sem, reduceAdd, reduceSub, reduceGT, reduceEqDiff, reduceMul]
  rw [hb1, show b1 = false from hb1.symm.trans (tf_f h1)]
  exact rd_nilG
 ·try simp only [cn] at h1
  have e1 : b1 = true := hb1.symm.trans (tf_t h1)
  have hpp := pr4_pos h1
  refine AW.skip ?_
  simp only [thn, blk]
  refine hN1 _ ?_
  try clear hN1 N1
  refine AW.seq (fun N2 hN2 => ?_)
  refine AW.nameH (fun G0 hG0 => ?_)
  dsimp only at hG0
  have hc0 : G0 nx = some [.i .i64 0, .nl, .nl] := by rw [← hG0]; exact upd_same _ _ _
  simp -dsimp -implicitDefEqProofs (disch := omega) only [go_sem, reduceAdd, reduceSub, reduceGT, reduceEqDiff, reduceMul]
  refine AW.sr envOk (fun N hN => ?_)
  simp -dsimp -implicitDefEqProofs (disch := omega) only [go_sem, reduceAdd, reduceSub, reduceGT, reduceEqDiff, reduceMul, ring, w64]
  refine hN _ ?_
  try clear hN N
  refine AW.block ?_
  refine AW.loopN (α := Nat) (fun x => sl 65 [(0, .i .i64 p), (1, ints es), (4, .q nx 0), (6, .i .i64 x)]) (fun _ => G0) (fun x m => x ≤ es.length ∧ nx < m ∧ ∀ j, j < x → 1 ≤ es.getD j 0) (fun x => es.length - x) (0) ?_ ?_ (fun _ _ h => h) ?_
  ·exact ⟨by simp, by first| omega| (simp only; omega)| (dsimp only; omega), fun j hj => by omega⟩
  ·simp (disch := omega) [wks, wkA, sl, ints]
  ·skip
   rintro i m1 ⟨hi, hnm1, hal⟩
   simp -dsimp -implicitDefEqProofs (disch := omega) only [go_sem, reduceAdd, reduceSub, reduceGT, reduceEqDiff, reduceMul]
   refine AW.seq (fun N3 hN3 => ?_)
   refine AW.sr envOk (fun N hN => ?_)
   simp -dsimp -implicitDefEqProofs (disch := omega) only [go_sem, reduceAdd, reduceSub, reduceGT, reduceEqDiff, reduceMul, ring, w64, ints]
   refine hN _ ?_
   try clear hN N
   refine AW.cond rfl (fun h2 => ?_) (fun h2 => ?_)
   ·try simp only [cn] at h2
    refine AW.skip ?_
    simp only [thn, blk]
    refine hN3 _ ?_
    try clear hN3 N3
    refine AW.seq (fun N4 hN4 => ?_)
    refine AW.block ?_
    refine AW.sr envOk (fun N hN => ?_)
    simp -dsimp -implicitDefEqProofs (disch := omega) only [go_sem, reduceAdd, reduceSub, reduceGT, reduceEqDiff, reduceMul, ring, w64, ints]
    refine hN _ ?_
    try clear hN N
    refine AW.cond rfl (fun h3 => ?_) (fun h3 => ?_)
    ·try simp only [cn] at h3
     have e2 : b2 = false := hb2.symm.trans (tf_f (fun h => by have := get_all h (j := i) (by omega); omega))
     refine AW.sr envOk (fun N hN => ?_)
     simp -dsimp -implicitDefEqProofs (disch := omega) only [go_sem, reduceAdd, reduceSub, reduceGT, reduceEqDiff, reduceMul, ring, w64, hc0]
     refine hN _ ?_
     try clear hN N
     refine AW.ret ?_
     simp -dsimp -implicitDefEqProofs (disch := omega) only [go_sem, reduceAdd, reduceSub, reduceGT, reduceEqDiff, reduceMul]
     rw [hb1, e1, e2]
     exact rd_nilG
    ·try simp only [cn] at h3
     refine AW.skip ?_
     simp only [thn, blk]
     refine hN4 _ ?_
     try clear hN4 N4
     refine AW.regionL envOk ?_
     simp -dsimp -implicitDefEqProofs (disch := omega) only [go_sem, reduceAdd, reduceSub, reduceGT, reduceEqDiff, reduceMul, ring, w64]
     have hal2 : ∀ j, j < i + 1 → 1 ≤ es.getD j 0 := fun j hj => by
      rcases Nat.lt_or_ge j i with hji | hji
      ·exact hal j hji
      ·rw [show j = i by omega]; omega
     refine ⟨i + 1, ?_, fun _ _ h => h, ?_, ?_⟩
     ·simp (disch := omega) [wks, wkA, sl, w64, ints, rows, cubes, ring, w64] <;> omega
     ·first| exact ⟨by first| omega| (simp only; omega)| (dsimp only; omega), by first| omega| (simp only; omega)| (dsimp only; omega), hal2⟩| exact hal2| exact ⟨by first| omega| (simp only; omega)| (dsimp only; omega), hal2⟩
     ·first | omega | (simp only; omega)
   ·try simp only [cn] at h2
    have e2 : b2 = true := hb2.symm.trans (tf_t (all_get (fun j hj => hal j (by omega))))
    replace hal : ∀ j, j < es.length → 1 ≤ es.getD j 0 := fun j hj => hal j (by omega)
    have hcy0 : ACp Try.prog 101 [.i .i64 p, .i .i64 0] (ring p (cycP 0) (cycB 0)) := spec_l31Cyclic_ok p 0 (by omega)
    refine AW.exit ?_
    simp only [thn, blk, if_true]
    refine hN2 _ ?_
    try clear hN2 N2
    refine AW.sr envOk (fun N hN => ?_)
    simp -dsimp -implicitDefEqProofs (disch := omega) only [go_sem, reduceAdd, reduceSub, reduceGT, reduceEqDiff, reduceMul, ring, w64]
    refine AC.pure (.of (hcy0 )) ?_
    try simp -dsimp -implicitDefEqProofs (disch := omega) only [go_sem, reduceAdd, reduceSub, reduceGT, reduceEqDiff, reduceMul, ring, w64]
    refine hN _ ?_
    try clear hN N
    refine AW.seq (fun N5 hN5 => ?_)
    refine AW.nameH (fun G1 hG1 => ?_)
    dsimp only at hG1
    have hc1 : G1 nx = some [.i .i64 0, .nl, .nl] := by rw [← hG1]; simp (disch := omega) only [upd_ne, hc0]
    have hq1 : G1 (m1 + 4 + 2) = some [.i .i64 p, rows (genP (lk (es.take 0)).1 (lk (es.take 0)).2), cubes (zB (lk (es.take 0)).1)] := by rw [← hG1]; exact upd_same _ _ _
    simp -dsimp -implicitDefEqProofs (disch := omega) only [go_sem, reduceAdd, reduceSub, reduceGT, reduceEqDiff, reduceMul]
    refine AW.sr envOk (fun N hN => ?_)
    simp -dsimp -implicitDefEqProofs (disch := omega) only [go_sem, reduceAdd, reduceSub, reduceGT, reduceEqDiff, reduceMul, ring, w64]
    refine hN _ ?_
    try clear hN N
    refine AW.block ?_
    refine AW.loopN (α := Nat × HP) (fun x => sl 65 [(0, .i .i64 p), (1, ints es), (4, .q nx 0), (7, .q (m1 + 4 + 2) 0), (8, .i .i64 x.1)]) (fun x => x.2) (fun x m => x.1 ≤ es.length ∧ m1 + 7 ≤ m ∧ ((lk (es.take x.1)).1 ≤ 6 ∧ p ^ (lk (es.take x.1)).1 ≤ 729) ∧ x.2 nx = some [.i .i64 0, .nl, .nl] ∧ x.2 (m1 + 4 + 2) = some [.i .i64 p, rows (genP (lk (es.take x.1)).1 (lk (es.take x.1)).2), cubes (zB (lk (es.take x.1)).1)]) (fun x => es.length - x.1) ((0, G1)) ?_ ?_ (fun _ _ h => h) ?_
    ·exact ⟨by simp, by first| omega| (simp only; omega)| (dsimp only; omega), by simp only [List.take_zero, hl0]; exact ⟨by omega, by simp⟩, hc1, hq1⟩
    ·simp (disch := omega) [wks, wkA, sl, ints]
    ·skip
     rintro ⟨a, G⟩ m2 ⟨ha, hm2, h6, hcn, hqb⟩
     dsimp only at ha hm2 h6 hcn hqb
     simp -dsimp -implicitDefEqProofs (disch := omega) only [go_sem, reduceAdd, reduceSub, reduceGT, reduceEqDiff, reduceMul]
     refine AW.seq (fun N6 hN6 => ?_)
     refine AW.sr envOk (fun N hN => ?_)
     simp -dsimp -implicitDefEqProofs (disch := omega) only [go_sem, reduceAdd, reduceSub, reduceGT, reduceEqDiff, reduceMul, ring, w64]
     refine hN _ ?_
     try clear hN N
     refine AW.cond rfl (fun h4 => ?_) (fun h4 => ?_)
     ·try simp only [cn] at h4
      have hst := lk_one (show a < es.length by omega) (hal a (by omega))
      have hle := lk_le (es := es) (i := a + 1) (by omega)
      have hlim := fun h => lk_le_of (es := es) h1 (i := a + 1) (by omega) h
      have hsn := lk_snoc (es := es) (i := a) (by omega)
      have hlt := lk_lt (es := es) a (by omega)
      have he1 := hal a (by omega)
      obtain ⟨e, he⟩ : ∃ e, es.getD a 0 = e := ⟨_, rfl⟩
      obtain ⟨s, hs⟩ : ∃ s, (lk (es.take a)).2 = s := ⟨_, rfl⟩
      obtain ⟨n, hn⟩ : ∃ n, (lk (es.take a)).1 = n := ⟨_, rfl⟩
      obtain ⟨q, hq⟩ : ∃ q, (lk (es.take (a + 1))).1 = q := ⟨_, rfl⟩
      rw [he] at hst he1 hsn
      rw [hn] at hst h6
      rw [hq] at hst hle hlim
      rw [hn, hs] at hqb hlt
      refine AW.skip ?_
      simp only [thn, blk]
      refine hN6 _ ?_
      try clear hN6 N6
      refine AW.seq (fun N7 hN7 => ?_)
      refine AW.block ?_
      refine AW.sr envOk (fun N hN => ?_)
      simp -dsimp -implicitDefEqProofs (disch := omega) only [go_sem, reduceAdd, reduceSub, reduceGT, reduceEqDiff, reduceMul, ring, w64, ints, hqb, rows, genP_len]
      refine hN _ ?_
      try clear hN N
      refine AW.seq (fun N8 hN8 => ?_)
      refine AW.sr envOk (fun N hN => ?_)
      simp -dsimp -implicitDefEqProofs (disch := omega) only [go_sem, reduceAdd, reduceSub, reduceGT, reduceEqDiff, reduceMul, ring, w64, ints, he]
      refine gopB.mk' (fun h5 => ?_) (fun h5 => ?_)
      ·try simp only [cn] at h5
       have hsz := spec_l31Size_ok p q h1 (by omega)
       rw [← hst, ← he] at hsz
       have hcp := capPow_eq h1 q
       try simp -dsimp -implicitDefEqProofs (disch := omega) only [go_sem, reduceAdd, reduceSub, reduceGT, reduceEqDiff, reduceMul, ring, w64]
       refine AC.pure (.of (hsz )) ?_
       try simp -dsimp -implicitDefEqProofs (disch := omega) only [go_sem, reduceAdd, reduceSub, reduceGT, reduceEqDiff, reduceMul, ring, w64]
       refine hN _ ?_
       try clear hN N
       refine AW.cond rfl (fun h6 => ?_) (fun h6 => ?_)
       ·try simp only [cn] at h6
        refine AW.sr envOk (fun N hN => ?_)
        simp -dsimp -implicitDefEqProofs (disch := omega) only [go_sem, reduceAdd, reduceSub, reduceGT, reduceEqDiff, reduceMul, ring, w64, hcn]
        refine hN _ ?_
        try clear hN N
        refine AW.ret ?_
        simp -dsimp -implicitDefEqProofs (disch := omega) only [go_sem, reduceAdd, reduceSub, reduceGT, reduceEqDiff, reduceMul]
        rw [hb1, e1, e2, show b3 = false from hb3.symm.trans (tf_f (fun h => by have := hlim h; omega))]
        exact rd_nilG
       ·try simp only [cn] at h6
        have hcy := spec_l31Cyclic_ok p e.toNat (by omega)
        rw [show ((e.toNat : Nat) : Int) = e by omega] at hcy
        have hsum := l31Sum_ab p (n := n) (m := e.toNat) (s := s) (by omega) hlt
        have h62 : (lk (es.take (a + 1))).1 ≤ 6 ∧ p ^ (lk (es.take (a + 1))).1 ≤ 729 := by rw [hq]; exact ⟨by omega, by omega⟩
        refine AW.skip ?_
        simp only [thn, blk]
        refine hN8 _ ?_
        try clear hN8 N8
        refine AW.drawL envOk (by kernel_rfl) 8 (by kernel_rfl) ?_
        simp -dsimp -implicitDefEqProofs (disch := omega) only [hr_nil, hr_one, hr_if, List.take_succ_cons, List.take_zero, List.drop_succ_cons, List.drop_zero, List.take_nil, List.drop_nil, go_sem, reduceAdd, reduceSub, reduceGT, reduceEqDiff, reduceMul, ring, w64, ints, hqb, he]
        refine ⟨_, .of (hcy ), ?_⟩
        try simp -dsimp -implicitDefEqProofs (disch := omega) only [go_sem, reduceAdd, reduceSub, reduceGT, reduceEqDiff, reduceMul, ring, w64]
        refine ⟨_, .of (hsum ), ?_⟩
        try simp -dsimp -implicitDefEqProofs (disch := omega) only [go_sem, reduceAdd, reduceSub, reduceGT, reduceEqDiff, reduceMul, hqb, ring]
        refine hN7 _ ?_
        try clear hN7 N7
        refine AW.nameH (fun G2 hG2 => ?_)
        dsimp only at hG2
        have hc2 : G2 nx = some [.i .i64 0, .nl, .nl] := by rw [← hG2]; simp (disch := omega) only [upd_ne, hcn]
        have hq2 : G2 (m1 + 4 + 2) = some [.i .i64 p, rows (genP (lk (es.take (a + 1))).1 (lk (es.take (a + 1))).2), cubes (zB (lk (es.take (a + 1))).1)] := by
         rw [← hG2, hsn]; simp only [lkS, hn, hs]; exact upd_same _ _ _
        simp -dsimp -implicitDefEqProofs (disch := omega) only [go_sem, reduceAdd, reduceSub, reduceGT, reduceEqDiff, reduceMul]
        refine AW.regionL envOk ?_
        simp -dsimp -implicitDefEqProofs (disch := omega) only [go_sem, reduceAdd, reduceSub, reduceGT, reduceEqDiff, reduceMul, ring, w64]
        refine ⟨(a + 1, G2), ?_, fun _ _ h => h, ?_, ?_⟩
        ·simp (disch := omega) [wks, wkA, sl, w64, ints, rows, cubes, ring, w64] <;> omega
        ·exact ⟨by first| omega| (simp only; omega)| (dsimp only; omega), by first| omega| (simp only; omega)| (dsimp only; omega), hc2, hq2⟩
        ·first | omega | (simp only; omega)
      ·try simp only [cn] at h5
       try simp -dsimp -implicitDefEqProofs (disch := omega) only [go_sem, reduceAdd, reduceSub, reduceGT, reduceEqDiff, reduceMul, ring, w64]
       refine hN _ ?_
       try clear hN N
       refine AW.condT rfl ?_
       refine AW.sr envOk (fun N hN => ?_)
       simp -dsimp -implicitDefEqProofs (disch := omega) only [go_sem, reduceAdd, reduceSub, reduceGT, reduceEqDiff, reduceMul, ring, w64, hcn]
       refine hN _ ?_
       try clear hN N
       refine AW.ret ?_
       simp -dsimp -implicitDefEqProofs (disch := omega) only [go_sem, reduceAdd, reduceSub, reduceGT, reduceEqDiff, reduceMul]
       rw [hb1, e1, e2, show b3 = false from hb3.symm.trans (tf_f (fun h => by have := hlim h; omega))]
       exact rd_nilG
     ·try simp only [cn] at h4
      have hae : a = es.length := by omega
      subst hae
      rw [List.take_length] at h6 hqb
      refine AW.exit ?_
      simp only [thn, blk, if_true]
      refine hN5 _ ?_
      try clear hN5 N5
      refine AW.sr envOk (fun N hN => ?_)
      simp -dsimp -implicitDefEqProofs (disch := omega) only [go_sem, reduceAdd, reduceSub, reduceGT, reduceEqDiff, reduceMul, ring, w64, hcn, hqb]
      refine hN _ ?_
      try clear hN N
      refine AW.ret ?_
      simp -dsimp -implicitDefEqProofs (disch := omega) only [go_sem, reduceAdd, reduceSub, reduceGT, reduceEqDiff, reduceMul]
      rw [hb1, e1, e2, show b3 = true from hb3.symm.trans (tf_t h6)]
      exact .refl _

theorem tot_le2 {xs : List (List Int)} {n : Nat} (h : ∀ x ∈ xs, x.length ≤ n) : tot xs ≤ n * xs.length := by
  induction xs with
  | nil => simp [tot]
  | cons x xs ih =>
    have h1 := h x (by simp)
    have h2 := ih (fun y hy => h y (by simp [hy]))
    simp only [tot, List.length_cons, Nat.mul_succ]; omega
/-- A small ring. -/
structure ringsml (X : List (List Int)) (Y : List (List (List Int))) : Prop where
  x : rowslen X
  t : tot X ≤ 1000000000000
  y : cubesml Y
theorem ringsml.nil : ringsml [] [] := ⟨.nil, by simp [tot], .nil⟩
theorem ab_sml {p : Int} {es : List Int} {a b c : Bool} (hc : c = true → (lk es).1 ≤ 6) : ringsml (abM p es a b c).1.2.1 (abM p es a b c).1.2.2 := by
  cases a with
  | false => exact .nil
  | true =>
  cases b with
  | false => exact .nil
  | true =>
  cases c with
  | false => exact .nil
  | true =>
  have h6 := hc rfl
  obtain ⟨n, hn⟩ : ∃ n, (lk es).1 = n := ⟨_, rfl⟩
  simp only [abM, hn]
  rw [hn] at h6
  have e1 : ∀ x ∈ genP n (lk es).2, x.length ≤ 6 := fun x hx => by
    obtain ⟨r, _, rfl⟩ := List.mem_map.1 hx
    rw [vec_len]; exact h6
  have hl := genP_len (N := n) (s := (lk es).2)
  refine ⟨⟨by omega, fun x hx => by have := e1 x hx; omega⟩, ?_, ⟨by rw [zB_len]; omega, fun x hx => ?_⟩⟩
  · have := tot_le2 e1; omega
  · obtain ⟨i, hi, rfl⟩ := List.mem_map.1 hx
    refine ⟨by rw [List.length_replicate]; omega, fun y hy => ?_⟩
    rw [(List.mem_replicate.1 hy).2, zrow_len]; omega

set_option maxRecDepth 100000 in
set_option maxHeartbeats 4000000 in
theorem law_AbelianRing (p : Int) (es : List Int) (h0 : i64ok p) (hi : intsok es) : ACp Try.prog 10 [.i .i64 p, ints es] (.b true) := by
 obtain ⟨M, hM⟩ : ∃ M, abM p es (tf (pr4 p)) (tf (∀ e ∈ es, 1 ≤ e)) (tf ((lk es).1 ≤ 6 ∧ p ^ (lk es).1 ≤ 729)) = M := ⟨_, rfl⟩
 refine ACp.intro' envOk Try.func10 rfl (by kernel_rfl) Try.ntmps10 Try.results10 (.b _) (fun nx => ?_)
 refine AW.sr envOk (fun N hN => ?_)
 simp -dsimp -implicitDefEqProofs (disch := omega) only [go_sem, reduceAdd, reduceSub, reduceGT, reduceEqDiff, reduceMul, ring, w64, resG]
 refine hN _ ?_
 try clear hN N
 refine AW.seq (fun N1 hN1 => ?_)
 refine AW.sr envOk (fun N hN => ?_)
 simp -dsimp -implicitDefEqProofs (disch := omega) only [go_sem, reduceAdd, reduceSub, reduceGT, reduceEqDiff, reduceMul, ring, w64, resG, ints]
 refine hN _ ?_
 try clear hN N
 refine AW.cond rfl (fun h1 => ?_) (fun h1 => ?_)
 ·try simp only [cn] at h1
  refine AW.sr envOk (fun N hN => ?_)
  simp -dsimp -implicitDefEqProofs (disch := omega) only [go_sem, reduceAdd, reduceSub, reduceGT, reduceEqDiff, reduceMul, ring, w64, resG]
  refine hN _ ?_
  try clear hN N
  refine AW.ret ?_
  simp -dsimp -implicitDefEqProofs (disch := omega) only [go_sem, reduceAdd, reduceSub, reduceGT, reduceEqDiff, reduceMul]
  try (exfalso; first | omega | (simp_all; done))
 ·try simp only [cn] at h1
  have hel : es.length ≤ 1048576 := by omega
  have hta := toS_ok es (by omega)
  have hML : ringsml M.1.2.1 M.1.2.2 := by
   rw [← hM]
   refine ab_sml (fun h => ?_)
   apply Classical.byContradiction
   intro hn
   rw [tf_f (fun h => hn h.1)] at h
   cases h
  have hspec := spec_AbelianRing_ok p es hel
  have himpl := impl_AbelianRing_ok p es hel
  rw [hM] at hspec himpl
  have heq := laws_eqLieRing_r M.1.1 M.1.2.1 M.1.2.2 hML.x hML.y.len
  refine AW.skip ?_
  simp only [thn, blk]
  refine hN1 _ ?_
  try clear hN1 N1
  refine AW.sr envOk (fun N hN => ?_)
  simp -dsimp -implicitDefEqProofs (disch := omega) only [go_sem, reduceAdd, reduceSub, reduceGT, reduceEqDiff, reduceMul, ring, w64, resG]
  refine AC.pure (.of (hta.pure )) ?_
  try simp -dsimp -implicitDefEqProofs (disch := omega) only [go_sem, reduceAdd, reduceSub, reduceGT, reduceEqDiff, reduceMul, ring, w64, resG]
  refine AC.pure (.of (hspec )) ?_
  try simp -dsimp -implicitDefEqProofs (disch := omega) only [go_sem, reduceAdd, reduceSub, reduceGT, reduceEqDiff, reduceMul, ring, w64, resG]
  refine hN _ ?_
  try clear hN N
  refine AW.freezeQ 5 (nx + 1 + 3 + 7) _ rfl (upd_same _ _ _) ?_
  simp -dsimp -implicitDefEqProofs (disch := omega) only [go_sem, reduceAdd, reduceSub, reduceGT, reduceEqDiff, reduceMul]
  refine AW.sr envOk (fun N hN => ?_)
  simp -dsimp -implicitDefEqProofs (disch := omega) only [go_sem, reduceAdd, reduceSub, reduceGT, reduceEqDiff, reduceMul, ring, w64, resG]
  refine AC.hold hta (.cons (.refl _) .nil) ?_
  intro m3 H3 r_r hm3 hH3 ho_r
  try simp -dsimp -implicitDefEqProofs (disch := omega) only [go_sem, reduceAdd, reduceSub, reduceGT, reduceEqDiff, reduceMul, ring, w64, resG]
  refine hN _ ?_
  try clear hN N
  refine AW.sr envOk (fun N hN => ?_)
  simp -dsimp -implicitDefEqProofs (disch := omega) only [go_sem, reduceAdd, reduceSub, reduceGT, reduceEqDiff, reduceMul, ring, w64, resG]
  refine AC.hold himpl (.cons (.refl _) (.cons ho_r.vw .nil)) ?_
  intro m4 H4 r_z hm4 hH4 ho_z
  replace ho_r := ho_r.keep (fun i q1 q2 => hH4 i (by omega))
  obtain ⟨g0, rfl, hg⟩ := ho_z.pair
  obtain ⟨s1, s2, rfl, v1, v2, hg⟩ := hg.ring
  clear ho_z
  try simp -dsimp -implicitDefEqProofs (disch := omega) only [go_sem, reduceAdd, reduceSub, reduceGT, reduceEqDiff, reduceMul, v1, v2]
  refine hN _ ?_
  try clear hN N
  refine AW.seq (fun N2 hN2 => ?_)
  refine AW.freezeQ 8 (m3 + 6) _ rfl (upd_same _ _ _) ?_
  refine AW.nameH (fun G4 hG4 => ?_)
  dsimp only at hG4
  replace ho_r := ho_r.keep (H' := G4) (fun i q1 q2 => by rw [← hG4]; simp (disch := omega) only [upd_ne])
  replace hg := hg.keep (H' := G4) (fun i q1 q2 => by rw [← hG4]; simp (disch := omega) only [upd_ne])
  simp -dsimp -implicitDefEqProofs (disch := omega) only [go_sem, reduceAdd, reduceSub, reduceGT, reduceEqDiff, reduceMul]
  refine AW.sr envOk (fun N hN => ?_)
  simp -dsimp -implicitDefEqProofs (disch := omega) only [go_sem, reduceAdd, reduceSub, reduceGT, reduceEqDiff, reduceMul, ring, w64, resG]
  refine AC.pure (.lent (heq) (.cons hg.vw (.cons (.refl _) .nil)) (.b _)) ?_
  try simp -dsimp -implicitDefEqProofs (disch := omega) only [go_sem, reduceAdd, reduceSub, reduceGT, reduceEqDiff, reduceMul, ring, w64, resG]
  refine gopB.mk' (fun h2 => ?_) (fun h2 => ?_)
  ·try simp only [cn] at h2
   try simp -dsimp -implicitDefEqProofs (disch := omega) only [go_sem, reduceAdd, reduceSub, reduceGT, reduceEqDiff, reduceMul, ring, w64, resG]
   refine hN _ ?_
   try clear hN N
   refine AW.cond rfl (fun h3 => ?_) (fun h3 => ?_)
   ·try simp only [cn] at h3
    refine AW.sr envOk (fun N hN => ?_)
    simp -dsimp -implicitDefEqProofs (disch := omega) only [go_sem, reduceAdd, reduceSub, reduceGT, reduceEqDiff, reduceMul, ring, w64, resG]
    refine hN _ ?_
    try clear hN N
    refine AW.ret ?_
    simp -dsimp -implicitDefEqProofs (disch := omega) only [go_sem, reduceAdd, reduceSub, reduceGT, reduceEqDiff, reduceMul]
    try (exfalso; first | omega | (simp_all; done))
   ·try simp only [cn] at h3
    refine AW.skip ?_
    simp only [thn, blk]
    refine hN2 _ ?_
    try clear hN2 N2
    refine AW.seq (fun N3 hN3 => ?_)
    refine AW.sr envOk (fun N hN => ?_)
    simp -dsimp -implicitDefEqProofs (disch := omega) only [go_sem, reduceAdd, reduceSub, reduceGT, reduceEqDiff, reduceMul, ring, w64, resG]
    refine AC.pure (.of (hta.pure )) ?_
    try simp -dsimp -implicitDefEqProofs (disch := omega) only [go_sem, reduceAdd, reduceSub, reduceGT, reduceEqDiff, reduceMul, ring, w64, resG]
    refine AC.pure (.lent (laws_eqInt64S_ok es es (by omega) (by omega)) (.cons ho_r.vw (.cons (.refl _) .nil)) (.b _)) ?_
    try simp -dsimp -implicitDefEqProofs (disch := omega) only [go_sem, reduceAdd, reduceSub, reduceGT, reduceEqDiff, reduceMul, ring, w64, resG]
    refine hN _ ?_
    try clear hN N
    refine AW.cond rfl (fun h4 => ?_) (fun h4 => ?_)
    ·try simp only [cn] at h4
     refine AW.sr envOk (fun N hN => ?_)
     simp -dsimp -implicitDefEqProofs (disch := omega) only [go_sem, reduceAdd, reduceSub, reduceGT, reduceEqDiff, reduceMul, ring, w64, resG]
     refine hN _ ?_
     try clear hN N
     refine AW.ret ?_
     simp -dsimp -implicitDefEqProofs (disch := omega) only [go_sem, reduceAdd, reduceSub, reduceGT, reduceEqDiff, reduceMul]
     try (exfalso; first | omega | (simp_all; done))
    ·try simp only [cn] at h4
     refine AW.skip ?_
     simp only [thn, blk]
     refine hN3 _ ?_
     try clear hN3 N3
     refine AW.sr envOk (fun N hN => ?_)
     simp -dsimp -implicitDefEqProofs (disch := omega) only [go_sem, reduceAdd, reduceSub, reduceGT, reduceEqDiff, reduceMul, ring, w64, resG]
     refine hN _ ?_
     try clear hN N
     refine AW.sr envOk (fun N hN => ?_)
     simp -dsimp -implicitDefEqProofs (disch := omega) only [go_sem, reduceAdd, reduceSub, reduceGT, reduceEqDiff, reduceMul, ring, w64, resG]
     refine (laws_markInt64S_c.h _ _ _ es _ _ 1 ho_r (by omega) hel (by omega) (by omega)).mono2 ?_
     rintro m8 H8 res hm8 ⟨k8, rfl, hk8, hk8', hH8⟩
     replace hg := hg.keep (fun i q1 q2 => hH8 i (by omega))
     try simp -dsimp -implicitDefEqProofs (disch := omega) only [go_sem, reduceAdd, reduceSub, reduceGT, reduceEqDiff, reduceMul, ring, w64, resG]
     refine hN _ ?_
     try clear hN N
     refine AW.seq (fun N4 hN4 => ?_)
     refine AW.sr envOk (fun N hN => ?_)
     simp -dsimp -implicitDefEqProofs (disch := omega) only [go_sem, reduceAdd, reduceSub, reduceGT, reduceEqDiff, reduceMul, ring, w64, resG]
     refine gopB.mk' (fun h5 => ?_) (fun h5 => ?_)
     ·try simp only [cn] at h5
      try simp -dsimp -implicitDefEqProofs (disch := omega) only [go_sem, reduceAdd, reduceSub, reduceGT, reduceEqDiff, reduceMul, ring, w64, resG]
      refine AC.pure (.lent (heq) (.cons hg.vw (.cons (.refl _) .nil)) (.b _)) ?_
      try simp -dsimp -implicitDefEqProofs (disch := omega) only [go_sem, reduceAdd, reduceSub, reduceGT, reduceEqDiff, reduceMul, ring, w64, resG]
      refine gopB.mk' (fun h6 => ?_) (fun h6 => ?_)
      ·try simp only [cn] at h6
       try simp -dsimp -implicitDefEqProofs (disch := omega) only [go_sem, reduceAdd, reduceSub, reduceGT, reduceEqDiff, reduceMul, ring, w64, resG]
       refine hN _ ?_
       try clear hN N
       refine AW.cond rfl (fun h7 => ?_) (fun h7 => ?_)
       ·try simp only [cn] at h7
        refine AW.sr envOk (fun N hN => ?_)
        simp -dsimp -implicitDefEqProofs (disch := omega) only [go_sem, reduceAdd, reduceSub, reduceGT, reduceEqDiff, reduceMul, ring, w64, resG]
        refine hN _ ?_
        try clear hN N
        refine AW.ret ?_
        simp -dsimp -implicitDefEqProofs (disch := omega) only [go_sem, reduceAdd, reduceSub, reduceGT, reduceEqDiff, reduceMul]
        try (exfalso; first | omega | (simp_all; done))
       ·try simp only [cn] at h7
        refine AW.skip ?_
        simp only [thn, blk]
        refine hN4 _ ?_
        try clear hN4 N4
        refine AW.sr envOk (fun N hN => ?_)
        simp -dsimp -implicitDefEqProofs (disch := omega) only [go_sem, reduceAdd, reduceSub, reduceGT, reduceEqDiff, reduceMul, ring, w64, resG]
        refine hN _ ?_
        try clear hN N
        refine AW.sr envOk (fun N hN => ?_)
        simp -dsimp -implicitDefEqProofs (disch := omega) only [go_sem, reduceAdd, reduceSub, reduceGT, reduceEqDiff, reduceMul, ring, w64, resG]
        refine (markG_g hML.x hML.y hML.t hg (by omega) (by omega) (by omega)).mono2 ?_
        rintro m10 H10 res hm10 ⟨rfl, hg2, hH10⟩
        try simp -dsimp -implicitDefEqProofs (disch := omega) only [go_sem, reduceAdd, reduceSub, reduceGT, reduceEqDiff, reduceMul, ring, w64, resG]
        refine hN _ ?_
        try clear hN N
        refine AW.sr envOk (fun N hN => ?_)
        simp -dsimp -implicitDefEqProofs (disch := omega) only [go_sem, reduceAdd, reduceSub, reduceGT, reduceEqDiff, reduceMul, ring, w64, resG]
        refine hN _ ?_
        try clear hN N
        refine AW.sr envOk (fun N hN => ?_)
        simp -dsimp -implicitDefEqProofs (disch := omega) only [go_sem, reduceAdd, reduceSub, reduceGT, reduceEqDiff, reduceMul, ring, w64, resG]
        refine AC.pure (.lent (heldG_g hML.x hML.y hML.t (by omega) (by omega)) (.cons hg2.vw (.cons (.refl _) .nil)) (.i _ _)) ?_
        try simp -dsimp -implicitDefEqProofs (disch := omega) only [go_sem, reduceAdd, reduceSub, reduceGT, reduceEqDiff, reduceMul, ring, w64, resG]
        refine hN _ ?_
        try clear hN N
        refine AW.seq (fun N5 hN5 => ?_)
        refine AW.sr envOk (fun N hN => ?_)
        simp -dsimp -implicitDefEqProofs (disch := omega) only [go_sem, reduceAdd, reduceSub, reduceGT, reduceEqDiff, reduceMul, ring, w64, resG]
        refine hN _ ?_
        try clear hN N
        refine AW.cond rfl (fun h8 => ?_) (fun h8 => ?_)
        ·try simp only [cn] at h8
         refine AW.sr envOk (fun N hN => ?_)
         simp -dsimp -implicitDefEqProofs (disch := omega) only [go_sem, reduceAdd, reduceSub, reduceGT, reduceEqDiff, reduceMul, ring, w64, resG]
         refine hN _ ?_
         try clear hN N
         refine AW.ret ?_
         simp -dsimp -implicitDefEqProofs (disch := omega) only [go_sem, reduceAdd, reduceSub, reduceGT, reduceEqDiff, reduceMul]
         try (exfalso; first | omega | (simp_all; done))
        ·try simp only [cn] at h8
         refine AW.skip ?_
         simp only [thn, blk]
         refine hN5 _ ?_
         try clear hN5 N5
         refine AW.seq (fun N6 hN6 => ?_)
         refine AW.sr envOk (fun N hN => ?_)
         simp -dsimp -implicitDefEqProofs (disch := omega) only [go_sem, reduceAdd, reduceSub, reduceGT, reduceEqDiff, reduceMul, ring, w64, resG]
         refine hN _ ?_
         try clear hN N
         refine AW.cond rfl (fun h9 => ?_) (fun h9 => ?_)
         ·try simp only [cn] at h9
          refine AW.sr envOk (fun N hN => ?_)
          simp -dsimp -implicitDefEqProofs (disch := omega) only [go_sem, reduceAdd, reduceSub, reduceGT, reduceEqDiff, reduceMul, ring, w64, resG]
          refine hN _ ?_
          try clear hN N
          refine AW.ret ?_
          simp -dsimp -implicitDefEqProofs (disch := omega) only [go_sem, reduceAdd, reduceSub, reduceGT, reduceEqDiff, reduceMul]
          try (exfalso; first | omega | (simp_all; done))
         ·try simp only [cn] at h9
          refine AW.skip ?_
          simp only [thn, blk]
          refine hN6 _ ?_
          try clear hN6 N6
          refine AW.sr envOk (fun N hN => ?_)
          simp -dsimp -implicitDefEqProofs (disch := omega) only [go_sem, reduceAdd, reduceSub, reduceGT, reduceEqDiff, reduceMul, ring, w64, resG]
          refine AC.pure (.of (hta.pure )) ?_
          try simp -dsimp -implicitDefEqProofs (disch := omega) only [go_sem, reduceAdd, reduceSub, reduceGT, reduceEqDiff, reduceMul, ring, w64, resG]
          refine AC.pure (.of (himpl.pure )) ?_
          try simp -dsimp -implicitDefEqProofs (disch := omega) only [go_sem, reduceAdd, reduceSub, reduceGT, reduceEqDiff, reduceMul, ring, w64, resG]
          refine hN _ ?_
          try clear hN N
          refine AW.seq (fun N7 hN7 => ?_)
          refine AW.freezeQ 13 (m10 + 1 + 4 + 2 + 3 + 7) _ rfl (upd_same _ _ _) ?_
          refine AW.nameH (fun G9 hG9 => ?_)
          dsimp only at hG9
          replace hg2 := hg2.keep (H' := G9) (fun i q1 q2 => by rw [← hG9]; simp (disch := omega) only [upd_ne])
          simp -dsimp -implicitDefEqProofs (disch := omega) only [go_sem, reduceAdd, reduceSub, reduceGT, reduceEqDiff, reduceMul]
          refine AW.sr envOk (fun N hN => ?_)
          simp -dsimp -implicitDefEqProofs (disch := omega) only [go_sem, reduceAdd, reduceSub, reduceGT, reduceEqDiff, reduceMul, ring, w64, resG]
          refine AC.pure (.of (heq )) ?_
          try simp -dsimp -implicitDefEqProofs (disch := omega) only [go_sem, reduceAdd, reduceSub, reduceGT, reduceEqDiff, reduceMul, ring, w64, resG]
          refine gopB.mk' (fun h10 => ?_) (fun h10 => ?_)
          ·try simp only [cn] at h10
           try simp -dsimp -implicitDefEqProofs (disch := omega) only [go_sem, reduceAdd, reduceSub, reduceGT, reduceEqDiff, reduceMul, ring, w64, resG]
           refine hN _ ?_
           try clear hN N
           refine AW.cond rfl (fun h11 => ?_) (fun h11 => ?_)
           ·try simp only [cn] at h11
            refine AW.sr envOk (fun N hN => ?_)
            simp -dsimp -implicitDefEqProofs (disch := omega) only [go_sem, reduceAdd, reduceSub, reduceGT, reduceEqDiff, reduceMul, ring, w64, resG]
            refine hN _ ?_
            try clear hN N
            refine AW.ret ?_
            simp -dsimp -implicitDefEqProofs (disch := omega) only [go_sem, reduceAdd, reduceSub, reduceGT, reduceEqDiff, reduceMul]
            try (exfalso; first | omega | (simp_all; done))
           ·try simp only [cn] at h11
            refine AW.skip ?_
            simp only [thn, blk]
            refine hN7 _ ?_
            try clear hN7 N7
            refine AW.sr envOk (fun N hN => ?_)
            simp -dsimp -implicitDefEqProofs (disch := omega) only [go_sem, reduceAdd, reduceSub, reduceGT, reduceEqDiff, reduceMul, ring, w64, resG]
            refine hN _ ?_
            try clear hN N
            refine AW.sr envOk (fun N hN => ?_)
            simp -dsimp -implicitDefEqProofs (disch := omega) only [go_sem, reduceAdd, reduceSub, reduceGT, reduceEqDiff, reduceMul, ring, w64, resG]
            refine AC.pure (.lent (heldG_g hML.x hML.y hML.t (by omega) (by omega)) (.cons hg2.vw (.cons (.refl _) .nil)) (.i _ _)) ?_
            try simp -dsimp -implicitDefEqProofs (disch := omega) only [go_sem, reduceAdd, reduceSub, reduceGT, reduceEqDiff, reduceMul, ring, w64, resG]
            refine hN _ ?_
            try clear hN N
            refine AW.seq (fun N8 hN8 => ?_)
            refine AW.sr envOk (fun N hN => ?_)
            simp -dsimp -implicitDefEqProofs (disch := omega) only [go_sem, reduceAdd, reduceSub, reduceGT, reduceEqDiff, reduceMul, ring, w64, resG]
            refine hN _ ?_
            try clear hN N
            refine AW.cond rfl (fun h12 => ?_) (fun h12 => ?_)
            ·try simp only [cn] at h12
             refine AW.sr envOk (fun N hN => ?_)
             simp -dsimp -implicitDefEqProofs (disch := omega) only [go_sem, reduceAdd, reduceSub, reduceGT, reduceEqDiff, reduceMul, ring, w64, resG]
             refine hN _ ?_
             try clear hN N
             refine AW.ret ?_
             simp -dsimp -implicitDefEqProofs (disch := omega) only [go_sem, reduceAdd, reduceSub, reduceGT, reduceEqDiff, reduceMul]
             try (exfalso; first | omega | (simp_all; done))
            ·try simp only [cn] at h12
             refine AW.skip ?_
             simp only [thn, blk]
             refine hN8 _ ?_
             try clear hN8 N8
             refine AW.seq (fun N9 hN9 => ?_)
             refine AW.sr envOk (fun N hN => ?_)
             simp -dsimp -implicitDefEqProofs (disch := omega) only [go_sem, reduceAdd, reduceSub, reduceGT, reduceEqDiff, reduceMul, ring, w64, resG]
             refine hN _ ?_
             try clear hN N
             refine AW.cond rfl (fun h13 => ?_) (fun h13 => ?_)
             ·try simp only [cn] at h13
              refine AW.sr envOk (fun N hN => ?_)
              simp -dsimp -implicitDefEqProofs (disch := omega) only [go_sem, reduceAdd, reduceSub, reduceGT, reduceEqDiff, reduceMul, ring, w64, resG]
              refine hN _ ?_
              try clear hN N
              refine AW.ret ?_
              simp -dsimp -implicitDefEqProofs (disch := omega) only [go_sem, reduceAdd, reduceSub, reduceGT, reduceEqDiff, reduceMul]
              try (exfalso; first | omega | (simp_all; done))
             ·try simp only [cn] at h13
              refine AW.skip ?_
              simp only [thn, blk]
              refine hN9 _ ?_
              try clear hN9 N9
              refine AW.sr envOk (fun N hN => ?_)
              simp -dsimp -implicitDefEqProofs (disch := omega) only [go_sem, reduceAdd, reduceSub, reduceGT, reduceEqDiff, reduceMul, ring, w64, resG]
              refine hN _ ?_
              try clear hN N
              refine AW.ret ?_
              simp -dsimp -implicitDefEqProofs (disch := omega) only [go_sem, reduceAdd, reduceSub, reduceGT, reduceEqDiff, reduceMul]
              try (exfalso; first | omega | (simp_all; done))
          ·try simp only [cn] at h10
           try simp -dsimp -implicitDefEqProofs (disch := omega) only [go_sem, reduceAdd, reduceSub, reduceGT, reduceEqDiff, reduceMul, ring, w64, resG]
           refine hN _ ?_
           try clear hN N
           refine AW.condT rfl ?_
           refine AW.sr envOk (fun N hN => ?_)
           simp -dsimp -implicitDefEqProofs (disch := omega) only [go_sem, reduceAdd, reduceSub, reduceGT, reduceEqDiff, reduceMul, ring, w64, resG]
           refine hN _ ?_
           try clear hN N
           refine AW.ret ?_
           simp -dsimp -implicitDefEqProofs (disch := omega) only [go_sem, reduceAdd, reduceSub, reduceGT, reduceEqDiff, reduceMul]
           try (exfalso; first | omega | (simp_all; done))
      ·try simp only [cn] at h6
       try simp -dsimp -implicitDefEqProofs (disch := omega) only [go_sem, reduceAdd, reduceSub, reduceGT, reduceEqDiff, reduceMul, ring, w64, resG]
       refine hN _ ?_
       try clear hN N
       refine AW.condT rfl ?_
       refine AW.sr envOk (fun N hN => ?_)
       simp -dsimp -implicitDefEqProofs (disch := omega) only [go_sem, reduceAdd, reduceSub, reduceGT, reduceEqDiff, reduceMul, ring, w64, resG]
       refine hN _ ?_
       try clear hN N
       refine AW.ret ?_
       simp -dsimp -implicitDefEqProofs (disch := omega) only [go_sem, reduceAdd, reduceSub, reduceGT, reduceEqDiff, reduceMul]
       try (exfalso; first | omega | (simp_all; done))
     ·try simp only [cn] at h5
      try simp -dsimp -implicitDefEqProofs (disch := omega) only [go_sem, reduceAdd, reduceSub, reduceGT, reduceEqDiff, reduceMul, ring, w64, resG]
      refine hN _ ?_
      try clear hN N
      refine AW.condT rfl ?_
      refine AW.sr envOk (fun N hN => ?_)
      simp -dsimp -implicitDefEqProofs (disch := omega) only [go_sem, reduceAdd, reduceSub, reduceGT, reduceEqDiff, reduceMul, ring, w64, resG]
      refine hN _ ?_
      try clear hN N
      refine AW.ret ?_
      simp -dsimp -implicitDefEqProofs (disch := omega) only [go_sem, reduceAdd, reduceSub, reduceGT, reduceEqDiff, reduceMul]
      try (exfalso; first | omega | (simp_all; done))
  ·try simp only [cn] at h2
   try simp -dsimp -implicitDefEqProofs (disch := omega) only [go_sem, reduceAdd, reduceSub, reduceGT, reduceEqDiff, reduceMul, ring, w64, resG]
   refine hN _ ?_
   try clear hN N
   refine AW.condT rfl ?_
   refine AW.sr envOk (fun N hN => ?_)
   simp -dsimp -implicitDefEqProofs (disch := omega) only [go_sem, reduceAdd, reduceSub, reduceGT, reduceEqDiff, reduceMul, ring, w64, resG]
   refine hN _ ?_
   try clear hN N
   refine AW.ret ?_
   simp -dsimp -implicitDefEqProofs (disch := omega) only [go_sem, reduceAdd, reduceSub, reduceGT, reduceEqDiff, reduceMul]
   try (exfalso; first | omega | (simp_all; done))

end Go.Proofs.Ytbhlindlcfeppaa
