import Derived.Test.YtdghgmgppecncaaZ42
set_option linter.unusedVariables false
set_option linter.unusedSimpArgs false
namespace Go.Proofs.Ytdghgmgppecncaa
open Nat (reduceAdd reduceSub reduceGT reduceEqDiff reduceMul)
theorem ring_cell {p : Int} {pw : List (List Int)} {br : List (List (List Int))} : cellsA (ringP p pw br) = [ringP p pw br] := rfl
theorem ring_ok {p : Int} {pw : List (List Int)} {br : List (List (List Int))} : okA (ringP p pw br) = true := rfl
theorem impl_series_ok (F : FuncId) (cs : List AV) (G : List (List Int) → List (List Int)) (P : List (List Int) → Prop) (hP : ∀ u, P u → P (G u)) (hl : ∀ u, P u → rowslen u) (hF : ∀ u, P u → ACo Try.prog F ([rows u] ++ cs) (rows (G u))) (u0 : List (List Int)) (K : List (List (List Int))) (h0 : P u0) (hK : SerC G u0 K) (hn : K.length ≤ 1000) (a nx : Nat) (H : HP) (r0 : AV) (ids0 : List Nat) (hr0 : Own a nx H r0 (rows u0) ids0) (han : a ≤ nx) : AC Try.prog 150 nx H [r0, .f F cs] (fun nx' H' r => ∃ ids, Own a nx' H' r (cubes K) ids) := by
 obtain ⟨q1, q2, q3⟩ := hr0.1.slice
 have hr1 := one_list q2
 refine AC.introx envOk Try.func150 rfl (by kernel_rfl) Try.ntmps150 Try.results150 (fun hfr => ?_)
 refine AW.sr envOk (fun N hN => ?_)
 simp -dsimp -implicitDefEqProofs (disch := omega) only [go_sem, undef, reduceAdd, reduceSub, reduceGT, reduceEqDiff, reduceMul, w64]
 refine hN _ ?_
 try clear hN N
 refine AW.sr envOk (fun N hN => ?_)
 simp -dsimp -implicitDefEqProofs (disch := omega) only [go_sem, undef, reduceAdd, reduceSub, reduceGT, reduceEqDiff, reduceMul, w64, hr1, q1, q2, q3]
 refine hN _ ?_
 try clear hN N
 refine AW.block ?_
 refine AW.loopN (α := Nat × List AV × AV × HP × List (List (List Int)) × List (List Int)) (fun x => sl 30 [(1, .f F cs), (5, .h x.1 0 (x.2.1.length + 1))]) (fun x => x.2.2.2.1) (fun x m => (nx ≤ m ∧ OutG a m x.1 (x.2.1 ++ [x.2.2.1]) x.2.2.2.1 (x.2.2.2.2.1.map rows ++ [rows x.2.2.2.2.2])) ∧ P x.2.2.2.2.2 ∧ ∃ K', SerC G x.2.2.2.2.2 K' ∧ K = x.2.2.2.2.1 ++ K') (fun x => K.length - x.2.2.2.2.1.length) ((nx + 2, [], r0, upd H (nx + 2) (some [r0]), [], u0)) ?_ ?_ (fun _ _ h => h) ?_
 ·exact ⟨⟨by first| omega| (simp only; omega)| (dsimp only; omega), OutG.one hr0 (fun i _ hi => upd_ne _ _ (by omega)) (upd_same _ _ _) (by omega) (by first| omega| (simp only; omega)| (dsimp only; omega)) han⟩, h0, K, hK, rfl⟩
 ·simp (disch := omega) [wks, wkA, sl, w64, ints, rows, cubes, w64] <;> omega
 ·skip
  rintro ⟨id, rs, z, Hx, K0, u⟩ m ⟨⟨hm, hO⟩, hu, K', hS, hKK⟩
  dsimp only at hm hO hu hS hKK
  simp -dsimp -implicitDefEqProofs (disch := omega) only [go_sem, undef, reduceAdd, reduceSub, reduceGT, reduceEqDiff, reduceMul]
  have hid := hO.at'
  have hidm := hO.hi
  obtain ⟨is, hz, his⟩ := hO.last
  obtain ⟨q4, q5, q6⟩ := hz.slice
  have hlen := hO.len
  have hKl := congrArg List.length hKK
  have hKp := hS.pos
  simp only [List.length_append, List.length_cons, List.length_nil, List.length_map] at hlen hKl
  refine AW.block ?_
  refine AW.sr envOk (fun N hN => ?_)
  simp -dsimp -implicitDefEqProofs (disch := omega) only [go_sem, undef, reduceAdd, reduceSub, reduceGT, reduceEqDiff, reduceMul, w64, hid, q4, q5, q6, last_get]
  refine AC.own (hF u hu) (.cons hz.vw Vws.rfl) ?_
  intro m1 H1 r1 ids1 hm1 hH1 hown1
  obtain ⟨q7, q8, q9⟩ := hown1.1.slice
  have hr2 := one_list q8
  have hid1 : H1 id = some (rs ++ [z]) := (hH1 id (by omega)).trans hid
  try simp -dsimp -implicitDefEqProofs (disch := omega) only [go_sem, undef, reduceAdd, reduceSub, reduceGT, reduceEqDiff, reduceMul, q7, q8, q9, hr2, hid1, w64]
  refine hN _ ?_
  try clear hN N
  refine AW.seq (fun N1 hN1 => ?_)
  refine AW.sr envOk (fun N hN => ?_)
  simp -dsimp -implicitDefEqProofs (disch := omega) only [go_sem, undef, reduceAdd, reduceSub, reduceGT, reduceEqDiff, reduceMul, w64, hid1, q4, q5, q6, q7, q8, q9, last_get]
  refine AC.pure (.lent (impl_sameRows_ok (G u) u (hl _ (hP u hu)) (hl _ hu)) (.cons hown1.1.vw (.cons (hz.keep fun i hi => hH1 i (by have := (his i hi).2; omega)).vw .nil)) (.b _)) ?_
  try simp -dsimp -implicitDefEqProofs (disch := omega) only [go_sem, undef, reduceAdd, reduceSub, reduceGT, reduceEqDiff, reduceMul, w64]
  refine hN _ ?_
  try clear hN N
  refine AW.cond rfl (fun h1 => ?_) (fun h1 => ?_)
  ·try simp only [cn] at h1
   refine AW.sr envOk (fun N hN => ?_)
   simp -dsimp -implicitDefEqProofs (disch := omega) only [go_sem, undef, reduceAdd, reduceSub, reduceGT, reduceEqDiff, reduceMul, w64]
   refine hN _ ?_
   try clear hN N
   refine AW.ret ?_
   simp -dsimp -implicitDefEqProofs (disch := omega) only [go_sem, undef, reduceAdd, reduceSub, reduceGT, reduceEqDiff, reduceMul]
   rw [hS.eq h1] at hKK
   subst hKK
   obtain ⟨ids, hown⟩ := hO.own (n := rs.length + 1) (by simp)
   refine ⟨_, Le.refl _, ids, ?_⟩
   have := hown.keep (a' := a) (b' := m1 + 8 + 2) (H' := H1) (fun i _ hi => hH1 i (by omega)) (Nat.le_refl _) (by omega)
   simpa [cubes] using this
  ·try simp only [cn] at h1
   refine AW.skip ?_
   simp only [thn, blk]
   refine hN1 _ ?_
   try clear hN1 N1
   refine AW.regionL envOk ?_
   simp -dsimp -implicitDefEqProofs (disch := omega) only [go_sem, undef, reduceAdd, reduceSub, reduceGT, reduceEqDiff, reduceMul, w64, hid1, q7, q8, q9, hr2, ex_sl, List.take_length, List.length_append, List.length_cons, List.length_nil]
   refine ⟨(m1 + 8 + 3, rs ++ [z], r1, upd (upd (upd H1 (m1 + 8 + 2) (some [r1])) id none) (m1 + 8 + 3) (some (List.take (rs.length + 1) (rs ++ [z]) ++ [r1])), K0 ++ [u], G u), ?_, Le.refl _, ?_, ?_⟩
   ·simp (disch := omega) [wks, wkA, sl, w64, ints, rows, cubes, w64] <;> omega
   ·refine ⟨?_, hP u hu, ?_⟩
    ·have := OutG.push (m2 := m1 + 8 + 5) (id2 := m1 + 8 + 3) (H2 := upd (upd (upd H1 (m1 + 8 + 2) (some [r1])) id none) (m1 + 8 + 3) (some (List.take (rs.length + 1) (rs ++ [z]) ++ [r1]))) (hO.more (m' := m + 9) (by omega)) hown1 (fun i h2 h3 => by rw [upd_ne _ _ (by omega), upd_ne _ _ h3, upd_ne _ _ (by omega)]; exact hH1 i h2) (fun i h2 h3 => by rw [upd_ne _ _ (by omega), upd_ne _ _ (by omega), upd_ne _ _ (by omega)]) (by rw [upd_same, List.take_of_length_le (by simp)]) (by omega) (by omega) (by omega)
     simpa using this
    ·obtain ⟨K2, rfl, hS2⟩ := hS.next h1
     exact ⟨K2, hS2, by rw [hKK]; simp⟩
   ·simp only [List.length_append, List.length_cons, List.length_nil]; omega
def WhO (n i nx m : Nat) (o : Option Nat) (rs : List AV) (H : HP) : Prop := nx ≤ m ∧ OutB nx m o rs H ((wholeL n).take i)
theorem impl_wholeLie_own (p : Int) (pw : List (List Int)) (br : List (List (List Int))) (hn : pw.length ≤ 1048576) : ACo Try.prog 153 [ringP p pw br] (rows (wholeL pw.length)) := by
 intro nx
 refine AC.intro' envOk Try.func153 rfl (by kernel_rfl) Try.ntmps153 Try.results153 ?_
 refine AW.sr envOk (fun N hN => ?_)
 simp -dsimp -implicitDefEqProofs (disch := omega) only [go_sem, undef, reduceAdd, reduceSub, reduceGT, reduceEqDiff, reduceMul, ringP, rows, w64]
 refine hN _ ?_
 try clear hN N
 refine AW.sr envOk (fun N hN => ?_)
 simp -dsimp -implicitDefEqProofs (disch := omega) only [go_sem, undef, reduceAdd, reduceSub, reduceGT, reduceEqDiff, reduceMul, ringP, rows, w64]
 refine hN _ ?_
 try clear hN N
 refine AW.seq (fun N1 hN1 => ?_)
 refine AW.sr envOk (fun N hN => ?_)
 simp -dsimp -implicitDefEqProofs (disch := omega) only [go_sem, undef, reduceAdd, reduceSub, reduceGT, reduceEqDiff, reduceMul, ringP, rows, w64]
 refine hN _ ?_
 try clear hN N
 refine AW.block ?_
 refine AW.loopN (α := Nat × Option Nat × List AV × HP) (fun x => sl 25 [(0, ringP p pw br), (3, oA x.2.1 x.2.2.1.length), (9, .i .i64 pw.length), (10, .i .i64 x.1)]) (fun x => oH x.2.2.2 x.2.1 x.2.2.1) (fun x m => x.1 ≤ pw.length ∧ WhO pw.length x.1 nx m x.2.1 x.2.2.1 x.2.2.2) (fun x => pw.length - x.1) ((0, none, [], noH)) ?_ ?_ (fun _ _ h => h) ?_
 ·exact ⟨by simp, by first| omega| (simp only; omega)| (dsimp only; omega), by simpa using OutB.start⟩
 ·simp [wks, wkA, sl, rows, ringP, oA]
 ·skip
  rintro ⟨i, (_ | id), rs, Hx⟩ m ⟨hi, hnx, hB⟩
  ·skip
   simp -dsimp -implicitDefEqProofs (disch := omega) only [go_sem, undef, reduceAdd, reduceSub, reduceGT, reduceEqDiff, reduceMul]
   dsimp only [oA, oH] at hi hnx hB ⊢
   obtain rfl := hB.no rfl
   refine AW.sr envOk (fun N hN => ?_)
   simp -dsimp -implicitDefEqProofs (disch := omega) only [go_sem, undef, reduceAdd, reduceSub, reduceGT, reduceEqDiff, reduceMul, ringP, rows, w64]
   refine hN _ ?_
   try clear hN N
   refine AW.seq (fun N2 hN2 => ?_)
   refine AW.cond rfl (fun h1 => ?_) (fun h1 => ?_)
   ·try simp only [cn] at h1
    refine AW.skip ?_
    simp only [thn, blk]
    refine hN2 _ ?_
    try clear hN2 N2
    refine AW.seq (fun N3 hN3 => ?_)
    refine AW.block ?_
    refine AW.sr envOk (fun N hN => ?_)
    simp -dsimp -implicitDefEqProofs (disch := omega) only [go_sem, undef, reduceAdd, reduceSub, reduceGT, reduceEqDiff, reduceMul, ringP, rows, w64]
    refine hN _ ?_
    try clear hN N
    refine AW.regionL envOk ?_
    simp -dsimp -implicitDefEqProofs (disch := omega) only [go_sem, undef, reduceAdd, reduceSub, reduceGT, reduceEqDiff, reduceMul, ringP, rows, w64]
    refine AC.own (impl_unitVector_ok pw.length i hn (by omega)) (.cons (.refl _) (.cons (.refl _) .nil)) ?_
    intro m1 H1 r1 ids1 hm1 hH1 hown1
    obtain ⟨q1, q2, q3⟩ := hown1.1.slice
    have hr1 := one_list q2
    try simp -dsimp -implicitDefEqProofs (disch := omega) only [go_sem, undef, reduceAdd, reduceSub, reduceGT, reduceEqDiff, reduceMul, q1, q2, q3, hr1, rows, w64]
    refine hN3 _ ?_
    try clear hN3 N3
    refine AW.regionL envOk ?_
    simp -dsimp -implicitDefEqProofs (disch := omega) only [go_sem, undef, reduceAdd, reduceSub, reduceGT, reduceEqDiff, reduceMul, ringP, rows, w64]
    refine ⟨(i + 1, some (m + 1 + 3 + 8), [] ++ [r1], lim m1 (oN H1 none)), ?_, by have := hB.le (o := none) (m1 := m1) (c := some [r1]) (xs := [r1]) (id2 := m + 1 + 3 + 8) (idb := m + 1 + 3 + 7) hH1 (by omega) (by omega); exact this, ?_, ?_⟩
    ·simp (disch := omega) [wks, wkA, sl, rows, ringP, oA, w64]
    ·exact ⟨by first| omega| (simp only; omega)| (dsimp only; omega), by first| omega| (simp only; omega)| (dsimp only; omega), by dsimp only; rw [whole_take (by omega)]; exact hB.push hH1 hown1 (by omega) (by omega) (by omega) (by first| omega| (simp only; omega)| (dsimp only; omega)) hnx⟩
    ·first | omega | (simp only; omega)
   ·try simp only [cn] at h1
    refine AW.exit ?_
    simp only [thn, blk, if_true]
    refine hN1 _ ?_
    try clear hN1 N1
    refine AW.sr envOk (fun N hN => ?_)
    simp -dsimp -implicitDefEqProofs (disch := omega) only [go_sem, undef, reduceAdd, reduceSub, reduceGT, reduceEqDiff, reduceMul, ringP, rows, w64]
    refine hN _ ?_
    try clear hN N
    refine AW.ret ?_
    simp -dsimp -implicitDefEqProofs (disch := omega) only [go_sem, undef, reduceAdd, reduceSub, reduceGT, reduceEqDiff, reduceMul]
    obtain rfl : i = pw.length := by omega
    rw [show (wholeL pw.length).take pw.length = wholeL pw.length from List.take_of_length_le (by rw [whole_len]; omega)] at hB
    exact ⟨[], hB.nil⟩
  ·skip
   simp -dsimp -implicitDefEqProofs (disch := omega) only [go_sem, undef, reduceAdd, reduceSub, reduceGT, reduceEqDiff, reduceMul]
   dsimp only [oA, oH] at hi hnx hB ⊢
   obtain ⟨i2, i3⟩ := hB.id rfl
   have hlen := hB.len
   have hlt : ((wholeL pw.length).take i).length ≤ pw.length := by rw [List.length_take, whole_len]; omega
   refine AW.sr envOk (fun N hN => ?_)
   simp -dsimp -implicitDefEqProofs (disch := omega) only [go_sem, undef, reduceAdd, reduceSub, reduceGT, reduceEqDiff, reduceMul, ringP, rows, w64]
   refine hN _ ?_
   try clear hN N
   refine AW.seq (fun N4 hN4 => ?_)
   refine AW.cond rfl (fun h2 => ?_) (fun h2 => ?_)
   ·try simp only [cn] at h2
    refine AW.skip ?_
    simp only [thn, blk]
    refine hN4 _ ?_
    try clear hN4 N4
    refine AW.seq (fun N5 hN5 => ?_)
    refine AW.block ?_
    refine AW.sr envOk (fun N hN => ?_)
    simp -dsimp -implicitDefEqProofs (disch := omega) only [go_sem, undef, reduceAdd, reduceSub, reduceGT, reduceEqDiff, reduceMul, ringP, rows, w64]
    refine hN _ ?_
    try clear hN N
    refine AW.regionL envOk ?_
    simp -dsimp -implicitDefEqProofs (disch := omega) only [go_sem, undef, reduceAdd, reduceSub, reduceGT, reduceEqDiff, reduceMul, ringP, rows, w64]
    refine AC.own (impl_unitVector_ok pw.length i hn (by omega)) (.cons (.refl _) (.cons (.refl _) .nil)) ?_
    intro m1 H1 r1 ids1 hm1 hH1 hown1
    obtain ⟨q1, q2, q3⟩ := hown1.1.slice
    have hr1 := one_list q2
    have hidm : H1 id = some rs := (hH1 id (by omega)).trans (upd_same _ _ _)
    try simp -dsimp -implicitDefEqProofs (disch := omega) only [go_sem, undef, reduceAdd, reduceSub, reduceGT, reduceEqDiff, reduceMul, q1, q2, q3, hr1, hidm, rows, w64, List.take_length]
    refine hN5 _ ?_
    try clear hN5 N5
    refine AW.regionL envOk ?_
    simp -dsimp -implicitDefEqProofs (disch := omega) only [go_sem, undef, reduceAdd, reduceSub, reduceGT, reduceEqDiff, reduceMul, ringP, rows, w64]
    refine ⟨(i + 1, some (m + 1 + 3 + 8), rs ++ [r1], lim m1 (oN H1 (some id))), ?_, by have := hB.le (o := some id) (m1 := m1) (c := some [r1]) (xs := rs ++ [r1]) (id2 := m + 1 + 3 + 8) (idb := m + 1 + 3 + 7) hH1 (by omega) (by omega); exact this, ?_, ?_⟩
    ·simp (disch := omega) [wks, wkA, sl, rows, ringP, oA, w64]
    ·exact ⟨by first| omega| (simp only; omega)| (dsimp only; omega), by first| omega| (simp only; omega)| (dsimp only; omega), by dsimp only; rw [whole_take (by omega)]; exact hB.push hH1 hown1 (by omega) (by omega) (by omega) (by first| omega| (simp only; omega)| (dsimp only; omega)) hnx⟩
    ·first | omega | (simp only; omega)
   ·try simp only [cn] at h2
    refine AW.exit ?_
    simp only [thn, blk, if_true]
    refine hN1 _ ?_
    try clear hN1 N1
    refine AW.sr envOk (fun N hN => ?_)
    simp -dsimp -implicitDefEqProofs (disch := omega) only [go_sem, undef, reduceAdd, reduceSub, reduceGT, reduceEqDiff, reduceMul, ringP, rows, w64]
    refine hN _ ?_
    try clear hN N
    refine AW.ret ?_
    simp -dsimp -implicitDefEqProofs (disch := omega) only [go_sem, undef, reduceAdd, reduceSub, reduceGT, reduceEqDiff, reduceMul]
    obtain rfl : i = pw.length := by omega
    rw [show (wholeL pw.length).take pw.length = wholeL pw.length from List.take_of_length_le (by rw [whole_len]; omega)] at hB
    obtain ⟨ids, hown⟩ := hB.own
    exact ⟨ids, hown.keep (fun _ _ _ => rfl) (by omega) (by omega)⟩
end Go.Proofs.Ytdghgmgppecncaa
