/-
  Tables of relations of finitely presented groups, by the reference and by the program; the laws' helpers for such pairs; the law FnExactRelationTable.
-/
import Derived.Test.YtimgnijlnkjamaaWa
import Derived.Test.YtimgnijlnkjamaaKa
set_option linter.unusedVariables false
set_option linter.unusedSimpArgs false
namespace Go.Proofs.Ytimgnijlnkjamaa
open Nat (reduceAdd reduceSub reduceGT reduceEqDiff reduceMul)

/-- The rows of exponent sums. -/
def exR (n : Nat) (rs : List (List Int)) : List (List Int) := rs.map (exS n)
theorem exR_len {n : Nat} {rs : List (List Int)} : (exR n rs).length = rs.length := by simp [exR]
theorem exR_take {n : Nat} {rs : List (List Int)} {k : Nat} (h : k < rs.length) : (exR n rs).take (k + 1) = (exR n rs).take k ++ [exS n (rs.getD k [])] := by
  rw [take_snoc_getD (d := []) (by rw [exR_len]; exact h)]
  congr 2
  simp [exR, h]
def relM (b : Bool) (g : Int) (rs : List (List Int)) : (Int × List (List Int)) × Int := match b with
  | false => ((0, []), 1)
  | true => if g = 0 then ((0, []), 5) else ((g, exR g.toNat rs), 0)
def resF (m : (Int × List (List Int)) × Int) : AV := .t [fp m.1.1 m.1.2, .i .i64 m.2]
theorem fp_nr (g : Int) (rs : List (List Int)) : NR (fp g rs) := .g _ (fun k x hk => by
  match k, hk with
  | 0, hk => cases hk; exact .i _ _
  | 1, hk => cases hk; exact rows_nr _)
theorem resF_nr (m : (Int × List (List Int)) × Int) : NR (resF m) := .t _ (fun k x hk => by
  match k, hk with
  | 0, hk => cases hk; exact fp_nr _ _
  | 1, hk => cases hk; exact .i _ _)
theorem Vw.fp {H : HP} {a : AV} {g : Int} {rs : List (List Int)} (h : Vw H a (rows rs)) : Vw H (.g [.i .i64 g, a]) (Go.Proofs.Ytimgnijlnkjamaa.fp g rs) := by
  refine .g _ _ rfl (fun k x y hx hy => ?_)
  match k, hx, hy with
  | 0, hx, hy => cases hx; cases hy; exact .refl _
  | 1, hx, hy => cases hx; cases hy; exact h
theorem Own.fp {a b : Nat} {H : HP} {r : AV} {ids : List Nat} {g : Int} {rs : List (List Int)} (h : Own a b H r (rows rs) ids) : ∃ ids, Own a b H (.g [.i .i64 g, r]) (Go.Proofs.Ytimgnijlnkjamaa.fp g rs) ids := by
  obtain ⟨h1, h2, h3⟩ := h
  exact ⟨[] ++ (ids ++ []), .g _ _ _ (.cons _ _ _ _ [] _ (.leaf _ (.i _ _) (.i _ _)) (.cons _ _ _ _ _ _ h1 .nil)), by simpa using h2, fun i hi => h3 i (by simpa using hi)⟩
theorem OutB.keep {a m : Nat} {o : Option Nat} {rs : List AV} {H H' : HP} {W : List (List Int)} (h : OutB a m o rs H W) (hk : ∀ i, a ≤ i → i < m → H' i = H i) (hd : ∀ i, m ≤ i → H' i = none) : OutB a m o rs H' W := by
  obtain ⟨⟨ids, h1, h2, h3, h4⟩, h5, _⟩ := h
  exact ⟨⟨ids, h1.keep fun i hi => hk i (h3 i hi).1 (h3 i hi).2, h2, h3, h4⟩, h5, hd⟩
theorem OutB.push2 {a m m0 m1 m2 id2 : Nat} {o : Option Nat} {rs : List AV} {H H1 H2 : HP} {W : List (List Int)} {r1 : AV} {X : List Int} {ids1 : List Nat} (h : OutB a m o rs H W) (ho : Own m0 m1 H1 r1 (ints X) ids1)
    (hk : ∀ i, a ≤ i → i < m → o ≠ some i → H2 i = H i) (hk1 : ∀ i, m0 ≤ i → i < m1 → H2 i = H1 i) (hd : ∀ i, m2 ≤ i → H2 i = none) (h0 : m ≤ m0) (h1 : m1 ≤ id2) (h2 : id2 < m2) (h01 : m0 ≤ m1) (ha : a ≤ m) :
    OutB a m2 (some id2) (rs ++ [r1]) H2 (W ++ [X]) := by
  obtain ⟨⟨ids, g1, g2, g3, g4⟩, g5, _⟩ := h
  obtain ⟨o1, o2, o3⟩ := ho
  refine ⟨⟨ids ++ (ids1 ++ []), ?_, ?_, ?_, ?_⟩, (fun e => by cases e), hd⟩
  · rw [List.map_append]
    exact OwL.append (g1.keep fun i hi => hk i (g3 i hi).1 (g3 i hi).2 (fun e => (g4 i e).1 hi)) (.cons _ _ _ _ _ _ (o1.keep fun i hi => hk1 i (o3 i hi).1 (o3 i hi).2) .nil)
  · rw [List.append_nil, List.nodup_append]
    exact ⟨g2, o2, fun x hx y hy e => by have := g3 x hx; have := o3 y hy; omega⟩
  · intro i hi
    rw [List.append_nil] at hi
    rcases List.mem_append.1 hi with hi | hi
    · have := g3 i hi; omega
    · have := o3 i hi; omega
  · rintro id e
    cases e
    refine ⟨fun hi => ?_, by omega, h2⟩
    rw [List.append_nil] at hi
    rcases List.mem_append.1 hi with hi | hi
    · have := g3 _ hi; omega
    · have := o3 _ hi; omega
theorem Own.nilF {a b : Nat} {H : HP} {e : Int} : ∃ ids, Own a b H (.t [.g [.i .i64 0, .nl], .i .i64 e]) (resF ((0, []), e)) ids := by
  obtain ⟨ids, h⟩ := Own.fp (a := a) (b := b) (H := H) (g := 0) (rs := []) (ids := []) (r := .nl) ⟨.nl, by simp, by simp⟩
  exact h.pair

theorem spec_RelationTable_ok (g : Int) (rs : List (List Int)) (hr : rowslen rs) : ACp Try.prog 13 [fp g rs] (resF (relM (tf (fpP g rs)) g rs)) := by
 have hrn := hr.n
 refine ACp.introV envOk Try.func13 rfl (by kernel_rfl) Try.ntmps13 Try.results13 ((resF_nr _)) (fun nx => ?_)
 refine AW.sr envOk (fun N hN => ?_)
 simp -dsimp -implicitDefEqProofs (disch := omega) only [go_sem, reduceAdd, reduceSub, reduceGT, reduceEqDiff, reduceMul, fp, rows, gd_r, w64]
 refine hN _ ?_
 try clear hN N
 refine AW.seq (fun N1 hN1 => ?_)
 refine AW.freezeQ 1 nx _ rfl ((upd_ne _ _ (by omega)).trans (upd_same _ _ _)) ?_
 simp -dsimp -implicitDefEqProofs (disch := omega) only [go_sem, reduceAdd, reduceSub, reduceGT, reduceEqDiff, reduceMul]
 refine AW.sr envOk (fun N hN => ?_)
 simp -dsimp -implicitDefEqProofs (disch := omega) only [go_sem, reduceAdd, reduceSub, reduceGT, reduceEqDiff, reduceMul, fp, rows, gd_r, w64]
 refine AC.pure (.of (spec_IsFpGroup_ok g rs hr)) ?_
 try simp -dsimp -implicitDefEqProofs (disch := omega) only [go_sem, reduceAdd, reduceSub, reduceGT, reduceEqDiff, reduceMul, fp, rows, gd_r, w64]
 refine hN _ ?_
 try clear hN N
 refine AW.cond rfl (fun h1 => ?_) (fun h1 => ?_)
 ·try simp only [cn] at h1
  refine AW.sr envOk (fun N hN => ?_)
  simp -dsimp -implicitDefEqProofs (disch := omega) only [go_sem, reduceAdd, reduceSub, reduceGT, reduceEqDiff, reduceMul, fp, rows, gd_r, w64]
  refine hN _ ?_
  try clear hN N
  refine AW.ret ?_
  simp -dsimp -implicitDefEqProofs (disch := omega) only [go_sem, reduceAdd, reduceSub, reduceGT, reduceEqDiff, reduceMul]
  rw [tf_f h1]
  exact Vw.t2 (Vw.fp .nl)
 ·try simp only [cn] at h1
  obtain ⟨n, rfl⟩ : ∃ n : Nat, g = n := ⟨g.toNat, by have := h1.1; omega⟩
  have hn4 : n ≤ 4 := by have := h1.1; omega
  refine AW.skip ?_
  simp only [thn, blk]
  refine hN1 _ ?_
  try clear hN1 N1
  refine AW.seq (fun N2 hN2 => ?_)
  refine AW.sr envOk (fun N hN => ?_)
  simp -dsimp -implicitDefEqProofs (disch := omega) only [go_sem, reduceAdd, reduceSub, reduceGT, reduceEqDiff, reduceMul, fp, rows, gd_r, w64]
  refine hN _ ?_
  try clear hN N
  refine AW.cond rfl (fun h2 => ?_) (fun h2 => ?_)
  ·try simp only [cn] at h2
   refine AW.sr envOk (fun N hN => ?_)
   simp -dsimp -implicitDefEqProofs (disch := omega) only [go_sem, reduceAdd, reduceSub, reduceGT, reduceEqDiff, reduceMul, fp, rows, gd_r, w64]
   refine hN _ ?_
   try clear hN N
   refine AW.ret ?_
   simp -dsimp -implicitDefEqProofs (disch := omega) only [go_sem, reduceAdd, reduceSub, reduceGT, reduceEqDiff, reduceMul]
   rw [tf_t h1, relM, if_pos h2]
   exact Vw.t2 (Vw.fp .nl)
  ·try simp only [cn] at h2
   refine AW.skip ?_
   simp only [thn, blk]
   refine hN2 _ ?_
   try clear hN2 N2
   refine AW.sr envOk (fun N hN => ?_)
   simp -dsimp -implicitDefEqProofs (disch := omega) only [go_sem, reduceAdd, reduceSub, reduceGT, reduceEqDiff, reduceMul, fp, rows, gd_r, w64]
   refine hN _ ?_
   try clear hN N
   refine AW.seq (fun N3 hN3 => ?_)
   refine AW.sr envOk (fun N hN => ?_)
   simp -dsimp -implicitDefEqProofs (disch := omega) only [go_sem, reduceAdd, reduceSub, reduceGT, reduceEqDiff, reduceMul, fp, rows, gd_r, w64]
   refine hN _ ?_
   try clear hN N
   refine AW.block ?_
   refine AW.loopN (α := Nat × Nat) (fun x => sl 37 [(1, .p 0 [.i .i64 n, rows rs]), (2, .q (nx + 1) 0), (3, .i .i64 0), (4, .h x.2 0 x.1), (5, .i .i64 x.1)]) (fun x => upd (upd noH (nx + 1) (some [.i .i64 0, .nl])) x.2 (some (((exR n rs).take x.1).map ints))) (fun x m => x.1 ≤ rs.length ∧ nx + 1 < x.2 ∧ x.2 < m) (fun x => rs.length - x.1) ((0, nx + 3 + 3 + 3 + 0)) ?_ ?_ (by intro d cs hd; simp only [upd, noH, List.take_zero, List.map_nil] at hd ⊢; grind) ?_
   ·exact ⟨by omega, by first| omega| (simp only; omega)| (dsimp only; omega), by first| omega| (simp only; omega)| (dsimp only; omega)⟩
   ·simp (disch := omega) [wks, wkA, sl, w64, ints, rows, cubes, fp, rows, gd_r, w64] <;> omega
   ·skip
    rintro ⟨k, id⟩ m ⟨hk, hid, hidm⟩
    dsimp only at hk hid hidm ⊢
    simp -dsimp -implicitDefEqProofs (disch := omega) only [go_sem, reduceAdd, reduceSub, reduceGT, reduceEqDiff, reduceMul]
    refine AW.seq (fun N4 hN4 => ?_)
    refine AW.sr envOk (fun N hN => ?_)
    simp -dsimp -implicitDefEqProofs (disch := omega) only [go_sem, reduceAdd, reduceSub, reduceGT, reduceEqDiff, reduceMul, fp, rows, gd_r, w64]
    refine hN _ ?_
    try clear hN N
    refine AW.cond rfl (fun h3 => ?_) (fun h3 => ?_)
    ·try simp only [cn] at h3
     have hkl : ((exR n rs).take k).length = k := by rw [List.length_take, exR_len]; omega
     have hmt : List.take k (List.map ints (List.take k (exR n rs))) = List.map ints (List.take k (exR n rs)) := List.take_of_length_le (by rw [List.length_map]; omega)
     refine AW.skip ?_
     simp only [thn, blk]
     refine hN4 _ ?_
     try clear hN4 N4
     refine AW.seq (fun N5 hN5 => ?_)
     refine AW.block ?_
     refine AW.drawL envOk (by kernel_rfl) 10 (by kernel_rfl) ?_
     simp -dsimp -implicitDefEqProofs (disch := omega) only [hr_nil, hr_one, hr_if, List.take_succ_cons, List.take_zero, List.drop_succ_cons, List.drop_zero, List.take_nil, List.drop_nil, go_sem, reduceAdd, reduceSub, reduceGT, reduceEqDiff, reduceMul, fp, rows, gd_r, w64]
     refine ⟨_, .of (spec_l06Sums_ok n (rs.getD k []) (by omega) (h1.2.2 k (by omega)) ), ?_⟩
     try simp -dsimp -implicitDefEqProofs (disch := omega) only [go_sem, reduceAdd, reduceSub, reduceGT, reduceEqDiff, reduceMul, fp, rows, gd_r, w64]
     refine ⟨by rw [exR_len]; omega, ?_⟩
     refine hN5 _ ?_
     try clear hN5 N5
     refine AW.regionL envOk ?_
     simp -dsimp -implicitDefEqProofs (disch := omega) only [go_sem, reduceAdd, reduceSub, reduceGT, reduceEqDiff, reduceMul, fp, rows, gd_r, w64]
     refine ⟨(k + 1, m + 5 + 10), ?_, by rw [exR_take (by omega)]; intro d cs hd; simp only [upd, noH, List.map_append, List.map_cons, List.map_nil] at hd ⊢; grind, ?_, ?_⟩
     ·simp (disch := omega) [wks, wkA, sl, w64, ints, rows, cubes, fp, rows, gd_r, w64] <;> omega
     ·exact ⟨by first| omega| (simp only; omega)| (dsimp only; omega), by first| omega| (simp only; omega)| (dsimp only; omega), by first| omega| (simp only; omega)| (dsimp only; omega)⟩
     ·first | omega | (simp only; omega)
    ·try simp only [cn] at h3
     refine AW.exit ?_
     simp only [thn, blk, if_true]
     refine hN3 _ ?_
     try clear hN3 N3
     refine AW.sr envOk (fun N hN => ?_)
     simp -dsimp -implicitDefEqProofs (disch := omega) only [go_sem, reduceAdd, reduceSub, reduceGT, reduceEqDiff, reduceMul, fp, rows, gd_r, w64]
     refine hN _ ?_
     try clear hN N
     refine AW.ret ?_
     simp -dsimp -implicitDefEqProofs (disch := omega) only [go_sem, reduceAdd, reduceSub, reduceGT, reduceEqDiff, reduceMul]
     rw [tf_t h1, relM, if_neg h2]
     exact Vw.t2 (Vw.fp (Vw.rws (by rw [exR_len]; omega) (by rw [upd_ne _ _ (by omega), upd_same, List.take_of_length_le (by rw [exR_len]; omega)]; rfl)))


theorem impl_RelationTable_ok (g : Int) (rs : List (List Int)) (hr : rowslen rs) : ACo Try.prog 15 [fp g rs] (resF (relM (tf (fpP g rs)) g rs)) := by
 have hrn := hr.n
 intro nx
 refine AC.intro' envOk Try.func15 rfl (by kernel_rfl) Try.ntmps15 Try.results15 ?_
 refine AW.sr envOk (fun N hN => ?_)
 simp -dsimp -implicitDefEqProofs (disch := omega) only [go_sem, reduceAdd, reduceSub, reduceGT, reduceEqDiff, reduceMul, fp, rows, gd_r, w64]
 refine hN _ ?_
 try clear hN N
 refine AW.seq (fun N1 hN1 => ?_)
 refine AW.freezeQ 1 nx _ rfl ((upd_ne _ _ (by omega)).trans (upd_same _ _ _)) ?_
 simp -dsimp -implicitDefEqProofs (disch := omega) only [go_sem, reduceAdd, reduceSub, reduceGT, reduceEqDiff, reduceMul]
 refine AW.sr envOk (fun N hN => ?_)
 simp -dsimp -implicitDefEqProofs (disch := omega) only [go_sem, reduceAdd, reduceSub, reduceGT, reduceEqDiff, reduceMul, fp, rows, gd_r, w64]
 refine AC.pure (.of (impl_IsFpGroup_ok g rs hr)) ?_
 try simp -dsimp -implicitDefEqProofs (disch := omega) only [go_sem, reduceAdd, reduceSub, reduceGT, reduceEqDiff, reduceMul, fp, rows, gd_r, w64]
 refine hN _ ?_
 try clear hN N
 refine AW.cond rfl (fun h1 => ?_) (fun h1 => ?_)
 ·try simp only [cn] at h1
  refine AW.sr envOk (fun N hN => ?_)
  simp -dsimp -implicitDefEqProofs (disch := omega) only [go_sem, reduceAdd, reduceSub, reduceGT, reduceEqDiff, reduceMul, fp, rows, gd_r, w64]
  refine hN _ ?_
  try clear hN N
  refine AW.ret ?_
  simp -dsimp -implicitDefEqProofs (disch := omega) only [go_sem, reduceAdd, reduceSub, reduceGT, reduceEqDiff, reduceMul]
  rw [tf_f h1]
  exact Own.nilF
 ·try simp only [cn] at h1
  obtain ⟨n, rfl⟩ : ∃ n : Nat, g = n := ⟨g.toNat, by have := h1.1; omega⟩
  have hn4 : n ≤ 4 := by have := h1.1; omega
  refine AW.skip ?_
  simp only [thn, blk]
  refine hN1 _ ?_
  try clear hN1 N1
  refine AW.seq (fun N2 hN2 => ?_)
  refine AW.sr envOk (fun N hN => ?_)
  simp -dsimp -implicitDefEqProofs (disch := omega) only [go_sem, reduceAdd, reduceSub, reduceGT, reduceEqDiff, reduceMul, fp, rows, gd_r, w64]
  refine hN _ ?_
  try clear hN N
  refine AW.cond rfl (fun h2 => ?_) (fun h2 => ?_)
  ·try simp only [cn] at h2
   refine AW.sr envOk (fun N hN => ?_)
   simp -dsimp -implicitDefEqProofs (disch := omega) only [go_sem, reduceAdd, reduceSub, reduceGT, reduceEqDiff, reduceMul, fp, rows, gd_r, w64]
   refine hN _ ?_
   try clear hN N
   refine AW.ret ?_
   simp -dsimp -implicitDefEqProofs (disch := omega) only [go_sem, reduceAdd, reduceSub, reduceGT, reduceEqDiff, reduceMul]
   rw [tf_t h1, relM, if_pos h2]
   exact Own.nilF
  ·try simp only [cn] at h2
   refine AW.skip ?_
   simp only [thn, blk]
   refine hN2 _ ?_
   try clear hN2 N2
   refine AW.sr envOk (fun N hN => ?_)
   simp -dsimp -implicitDefEqProofs (disch := omega) only [go_sem, reduceAdd, reduceSub, reduceGT, reduceEqDiff, reduceMul, fp, rows, gd_r, w64]
   refine hN _ ?_
   try clear hN N
   refine AW.seq (fun N3 hN3 => ?_)
   refine AW.sr envOk (fun N hN => ?_)
   simp -dsimp -implicitDefEqProofs (disch := omega) only [go_sem, reduceAdd, reduceSub, reduceGT, reduceEqDiff, reduceMul, fp, rows, gd_r, w64]
   refine hN _ ?_
   try clear hN N
   refine AW.block ?_
   refine AW.loopN (α := Nat × Option Nat × List AV × HP) (fun x => sl 42 [(1, .p 0 [.i .i64 n, rows rs]), (2, .q (nx + 1) 0), (3, .i .i64 0), (4, .q (nx + 3 + 3 + 3 + 3) 0), (21, rows rs), (22, .i .i64 rs.length), (23, .i .i64 x.1)]) (fun x => oH x.2.2.2 x.2.1 x.2.2.1) (fun x m => (x.1 ≤ rs.length ∧ nx + 3 + 3 + 3 + 5 ≤ m) ∧ OutB (nx + 3 + 3 + 3 + 5) m x.2.1 x.2.2.1 x.2.2.2 ((exR n rs).take x.1) ∧ x.2.2.2 (nx + 1) = some [.i .i64 0, .nl] ∧ x.2.2.2 (nx + 3 + 3 + 3 + 3) = some [.i .i64 n, oA x.2.1 x.2.2.1.length]) (fun x => rs.length - x.1) ((0, none, [], upd (upd noH (nx + 1) (some [.i .i64 0, .nl])) (nx + 3 + 3 + 3 + 3) (some [.i .i64 n, .nl]))) ?_ ?_ (by intro d cs hd; simp only [upd, noH, oH, oA] at hd ⊢; grind) ?_
   ·exact ⟨⟨by omega, by first| omega| (simp only; omega)| (dsimp only; omega)⟩, by dsimp only; rw [List.take_zero]; exact OutB.start.keep (fun i q1 q2 => by rw [upd_ne _ _ (by omega), upd_ne _ _ (by omega)]) (fun i hi => by rw [upd_ne _ _ (by omega), upd_ne _ _ (by omega)]; rfl), (upd_ne _ _ (by omega)).trans (upd_same _ _ _), upd_same _ _ _⟩
   ·simp (disch := omega) [wks, wkA, sl, w64, ints, rows, cubes, fp, rows, gd_r, w64] <;> omega
   ·skip
    rintro ⟨k, (_ | id), rw, Hx⟩ m ⟨⟨hk, hm⟩, hB, hb1, hb2⟩
    ·skip
     simp -dsimp -implicitDefEqProofs (disch := omega) only [go_sem, reduceAdd, reduceSub, reduceGT, reduceEqDiff, reduceMul]
     dsimp only [oA, oH] at hk hm hB hb1 hb2 ⊢
     obtain rfl := hB.no rfl
     refine AW.sr envOk (fun N hN => ?_)
     simp -dsimp -implicitDefEqProofs (disch := omega) only [go_sem, reduceAdd, reduceSub, reduceGT, reduceEqDiff, reduceMul, fp, rows, gd_r, w64]
     refine hN _ ?_
     try clear hN N
     refine AW.seq (fun N4 hN4 => ?_)
     refine AW.cond rfl (fun h3 => ?_) (fun h3 => ?_)
     ·try simp only [cn] at h3
      have hd1 : ∀ H1 : HP, ∀ m1, m ≤ m1 → ∀ i, m1 + 7 + 2 ≤ i → lim m1 H1 i = none := fun H1 m1 _ i hi => if_neg (by omega)
      refine AW.skip ?_
      simp only [thn, blk]
      refine hN4 _ ?_
      try clear hN4 N4
      refine AW.seq (fun N5 hN5 => ?_)
      refine AW.block ?_
      refine AW.sr envOk (fun N hN => ?_)
      simp -dsimp -implicitDefEqProofs (disch := omega) only [go_sem, reduceAdd, reduceSub, reduceGT, reduceEqDiff, reduceMul, fp, rows, gd_r, w64]
      refine hN _ ?_
      try clear hN N
      refine AW.sr envOk (fun N hN => ?_)
      simp -dsimp -implicitDefEqProofs (disch := omega) only [go_sem, reduceAdd, reduceSub, reduceGT, reduceEqDiff, reduceMul, fp, rows, gd_r, w64]
      refine AC.own (impl_ExponentSums_ok n (rs.getD k []) (by omega) (h1.2.2 k (by omega))) (.cons (.refl _) (.cons (.refl _) .nil)) ?_
      intro m1 H1 r0 ids1 hm1 hH1 hown0
      obtain ⟨r1, rfl, hown1⟩ := hown0.1.pair_inv
      obtain ⟨q1, q2, q3⟩ := hown1.slice
      have hr1 := one_list q2
      have hc2 : H1 (nx + 3 + 3 + 3 + 3) = _ := (hH1 _ (by omega)).trans hb2
      have hc3 := hc2
      try simp -dsimp -implicitDefEqProofs (disch := omega) only [go_sem, reduceAdd, reduceSub, reduceGT, reduceEqDiff, reduceMul, q1, q2, q3, hr1, hc2, rows, w64]
      refine hN _ ?_
      try clear hN N
      refine AW.regionL envOk ?_
      simp -dsimp -implicitDefEqProofs (disch := omega) only [go_sem, reduceAdd, reduceSub, reduceGT, reduceEqDiff, reduceMul, fp, rows, gd_r, w64, q1, q2, q3, hr1, hc2, hc3, List.take_length]
      refine hN5 _ ?_
      try clear hN5 N5
      refine AW.regionL envOk ?_
      simp -dsimp -implicitDefEqProofs (disch := omega) only [go_sem, reduceAdd, reduceSub, reduceGT, reduceEqDiff, reduceMul, fp, rows, gd_r, w64]
      refine ⟨(k + 1, some (m1 + 3 + 1), [] ++ [r1], upd (lim m1 H1) (nx + 3 + 3 + 3 + 3) (some [.i .i64 n, .h (m1 + 3 + 1) 0 1])), ?_, by intro d cs hd; dsimp only [oH] at hd; simp only [upd, lim] at hd ⊢; grind, ?_, ?_⟩
      ·simp (disch := omega) [wks, wkA, sl, rows, oA, w64]
      ·dsimp only [oA]
       rw [exR_take (by omega)]
       refine ⟨⟨by omega, by omega⟩, hB.push2 ⟨hown1, hown0.2⟩ (fun i q4 q5 _ => ?_) (fun i q4 q5 => ?_) (fun i hi => ?_) (by omega) (by omega) (by omega) (by omega) (by omega), ?_, ?_⟩
       ·rw [upd_ne _ _ (by omega), lim, if_pos (by omega)]; exact hH1 i (by omega)
       ·rw [upd_ne _ _ (by omega), lim, if_pos (by omega)]
       ·rw [upd_ne _ _ (by omega)]; exact hd1 _ _ (by omega) i hi
       ·rw [upd_ne _ _ (by omega), lim, if_pos (by omega)]; exact (hH1 _ (by omega)).trans hb1
       ·exact upd_same _ _ _
      ·first | omega | (simp only; omega)
     ·try simp only [cn] at h3
      refine AW.exit ?_
      simp only [thn, blk, if_true]
      refine hN3 _ ?_
      try clear hN3 N3
      refine AW.sr envOk (fun N hN => ?_)
      simp -dsimp -implicitDefEqProofs (disch := omega) only [go_sem, reduceAdd, reduceSub, reduceGT, reduceEqDiff, reduceMul, fp, rows, gd_r, w64, hb1, hb2]
      refine hN _ ?_
      try clear hN N
      refine AW.ret ?_
      simp -dsimp -implicitDefEqProofs (disch := omega) only [go_sem, reduceAdd, reduceSub, reduceGT, reduceEqDiff, reduceMul]
      rw [tf_t h1, relM, if_neg h2, Int.toNat_natCast]
      rw [show (exR n rs).take k = exR n rs from List.take_of_length_le (by rw [exR_len]; omega)] at hB
      obtain ⟨ids, h⟩ := Own.fp (g := n) (hB.nil (a := nx) (b := m + 1 + 3) (H' := upd Hx (nx + 1) (some [AV.i IntKind.i64 n, AV.nl])))
      exact h.pair
    ·skip
     simp -dsimp -implicitDefEqProofs (disch := omega) only [go_sem, reduceAdd, reduceSub, reduceGT, reduceEqDiff, reduceMul]
     dsimp only [oA, oH] at hk hm hB hb1 hb2 ⊢
     obtain ⟨i2, i3⟩ := hB.id rfl
     have hlen := hB.len
     have hkl : ((exR n rs).take k).length = k := by rw [List.length_take, exR_len]; omega
     refine AW.sr envOk (fun N hN => ?_)
     simp -dsimp -implicitDefEqProofs (disch := omega) only [go_sem, reduceAdd, reduceSub, reduceGT, reduceEqDiff, reduceMul, fp, rows, gd_r, w64]
     refine hN _ ?_
     try clear hN N
     refine AW.seq (fun N6 hN6 => ?_)
     refine AW.cond rfl (fun h4 => ?_) (fun h4 => ?_)
     ·try simp only [cn] at h4
      have hd1 : ∀ H1 : HP, ∀ m1, m ≤ m1 → ∀ i, m1 + 7 + 2 ≤ i → lim m1 H1 i = none := fun H1 m1 _ i hi => if_neg (by omega)
      refine AW.skip ?_
      simp only [thn, blk]
      refine hN6 _ ?_
      try clear hN6 N6
      refine AW.seq (fun N7 hN7 => ?_)
      refine AW.block ?_
      refine AW.sr envOk (fun N hN => ?_)
      simp -dsimp -implicitDefEqProofs (disch := omega) only [go_sem, reduceAdd, reduceSub, reduceGT, reduceEqDiff, reduceMul, fp, rows, gd_r, w64]
      refine hN _ ?_
      try clear hN N
      refine AW.sr envOk (fun N hN => ?_)
      simp -dsimp -implicitDefEqProofs (disch := omega) only [go_sem, reduceAdd, reduceSub, reduceGT, reduceEqDiff, reduceMul, fp, rows, gd_r, w64]
      refine AC.own (impl_ExponentSums_ok n (rs.getD k []) (by omega) (h1.2.2 k (by omega))) (.cons (.refl _) (.cons (.refl _) .nil)) ?_
      intro m1 H1 r0 ids1 hm1 hH1 hown0
      obtain ⟨r1, rfl, hown1⟩ := hown0.1.pair_inv
      obtain ⟨q1, q2, q3⟩ := hown1.slice
      have hr1 := one_list q2
      have hc2 : H1 (nx + 3 + 3 + 3 + 3) = _ := (hH1 _ (by omega)).trans ((upd_ne _ _ (by omega)).trans hb2)
      have hc3 : H1 id = some rw := (hH1 _ (by omega)).trans (upd_same _ _ _)
      try simp -dsimp -implicitDefEqProofs (disch := omega) only [go_sem, reduceAdd, reduceSub, reduceGT, reduceEqDiff, reduceMul, q1, q2, q3, hr1, hc2, hc3, rows, w64, List.take_length]
      refine hN _ ?_
      try clear hN N
      refine AW.regionL envOk ?_
      simp -dsimp -implicitDefEqProofs (disch := omega) only [go_sem, reduceAdd, reduceSub, reduceGT, reduceEqDiff, reduceMul, fp, rows, gd_r, w64, q1, q2, q3, hr1, hc2, hc3, List.take_length]
      refine hN7 _ ?_
      try clear hN7 N7
      refine AW.regionL envOk ?_
      simp -dsimp -implicitDefEqProofs (disch := omega) only [go_sem, reduceAdd, reduceSub, reduceGT, reduceEqDiff, reduceMul, fp, rows, gd_r, w64]
      refine ⟨(k + 1, some (m1 + 3 + 1), rw ++ [r1], upd (lim m1 (upd H1 id none)) (nx + 3 + 3 + 3 + 3) (some [.i .i64 n, .h (m1 + 3 + 1) 0 (rw.length + 1)])), ?_, by intro d cs hd; dsimp only [oH] at hd; simp only [upd, lim] at hd ⊢; grind, ?_, ?_⟩
      ·simp (disch := omega) [wks, wkA, sl, rows, oA, w64]
      ·dsimp only [oA]
       rw [exR_take (by omega)]
       refine ⟨⟨by omega, by omega⟩, hB.push2 ⟨hown1, hown0.2⟩ (fun i q4 q5 q6 => ?_) (fun i q4 q5 => ?_) (fun i hi => ?_) (by omega) (by omega) (by omega) (by omega) (by omega), ?_, ?_⟩
       ·have q7 : i ≠ id := fun e => q6 (by rw [e])
        rw [upd_ne _ _ (by omega), lim, if_pos (by omega), upd_ne _ _ q7]; exact (hH1 i (by omega)).trans (upd_ne _ _ q7)
       ·rw [upd_ne _ _ (by omega), lim, if_pos (by omega), upd_ne _ _ (by omega)]
       ·rw [upd_ne _ _ (by omega)]; exact hd1 _ _ (by omega) i hi
       ·rw [upd_ne _ _ (by omega), lim, if_pos (by omega), upd_ne _ _ (by omega)]; exact (hH1 _ (by omega)).trans ((upd_ne _ _ (by omega)).trans hb1)
       ·rw [upd_same]; simp
      ·first | omega | (simp only; omega)
     ·try simp only [cn] at h4
      refine AW.exit ?_
      simp only [thn, blk, if_true]
      refine hN3 _ ?_
      try clear hN3 N3
      refine AW.sr envOk (fun N hN => ?_)
      simp -dsimp -implicitDefEqProofs (disch := omega) only [go_sem, reduceAdd, reduceSub, reduceGT, reduceEqDiff, reduceMul, fp, rows, gd_r, w64, hb1, hb2]
      refine hN _ ?_
      try clear hN N
      refine AW.ret ?_
      simp -dsimp -implicitDefEqProofs (disch := omega) only [go_sem, reduceAdd, reduceSub, reduceGT, reduceEqDiff, reduceMul]
      rw [tf_t h1, relM, if_neg h2, Int.toNat_natCast]
      rw [show (exR n rs).take k = exR n rs from List.take_of_length_le (by rw [exR_len]; omega)] at hB
      obtain ⟨ids, hown⟩ := hB.own
      obtain ⟨ids, h⟩ := Own.fp (g := n) (hown.keep (H' := upd (upd Hx id (some rw)) (nx + 1) (some [AV.i IntKind.i64 n, AV.h id 0 rw.length])) (fun i q1 q2 => upd_ne _ _ (by omega)) (a' := nx) (b' := m + 1 + 3) (by omega) (by omega))
      exact h.pair


end Go.Proofs.Ytimgnijlnkjamaa
