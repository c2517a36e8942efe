/-
  LieQuotient, by the reference.
-/
import Derived.Test.YtbhlindlcfeppaaUb
set_option linter.unusedVariables false
set_option linter.unusedSimpArgs false
namespace Go.Proofs.Ytbhlindlcfeppaa
open Nat (reduceAdd reduceSub reduceGT reduceEqDiff reduceMul)

theorem nr_ring (p : Int) (pw : List (List Int)) (br : List (List (List Int))) : NR (ring p pw br) := .g _ (fun k y hk => by
  have := List.mem_of_getElem? hk
  simp only [List.mem_cons, List.not_mem_nil, or_false] at this
  rcases this with rfl | rfl | rfl
  · exact .i _ _
  · exact rows_nr _
  · exact cubes_nr _)
theorem resG_nr (m : (Int × List (List Int) × List (List (List Int))) × Int) : NR (resG m) := NR.ts (fun x hx => by
  simp at hx
  rcases hx with rfl | rfl
  · exact nr_ring _ _ _
  · exact .i _ _)
theorem vw_ring {H : HP} {p : Int} {a b : AV} {pw : List (List Int)} {br : List (List (List Int))} (h1 : Vw H a (rows pw)) (h2 : Vw H b (cubes br)) : Vw H (.g [.i .i64 p, a, b]) (ring p pw br) := by
  refine .g _ _ rfl (fun k x y hx hy => ?_)
  match k, hx, hy with
  | 0, hx, hy => cases hx; cases hy; exact .refl _
  | 1, hx, hy => cases hx; cases hy; exact h1
  | 2, hx, hy => cases hx; cases hy; exact h2
theorem take_sn {α : Type} {L : List α} {d : α} {a : Nat} (h : a < L.length) : L.take (a + 1) = L.take a ++ [L.getD a d] := by
  rw [List.take_add_one]; simp [h]

theorem one_ints2 {x : List Int} : (∀ z ∈ [ints x], one z = true) = True := one_list rfl
theorem one_v2 {n : Nat} {cs : List AV} : (∀ z ∈ [AV.v n cs], one z = true) = True := one_list rfl
/-- The lists under construction. -/
structure SqI (p : Int) (pw : List (List Int)) (br : List (List (List Int))) (u : List (List Int)) (nx m a b P B : Nat) (G : HP) : Prop where
  hm : nx + 12 ≤ m
  c : G (nx + 1) = some [.i .i64 0, .nl, .nl]
  o : G (nx + 11) = some [.i .i64 p, .h P 0 a, .h B 0 b]
  gP : G P = some (((qP p pw u).take a).map ints)
  gB : G B = some (((qB p pw br u).take b).map rows)
  lP : nx + 1 < P ∧ P < m ∧ P ≠ nx + 11
  lB : nx + 1 < B ∧ B < m ∧ B ≠ nx + 11
  ne : P ≠ B
theorem SqI.mm {p : Int} {pw : List (List Int)} {br : List (List (List Int))} {u : List (List Int)} {nx m m' a b P B : Nat} {G : HP} (h : SqI p pw br u nx m a b P B G) (hm : m ≤ m') : SqI p pw br u nx m' a b P B G :=
  ⟨by have := h.hm; omega, h.c, h.o, h.gP, h.gB, by have := h.lP; omega, by have := h.lB; omega, h.ne⟩

set_option maxHeartbeats 4000000 in
theorem spec_l32Quotient_ok (p : Int) (pw : List (List Int)) (br : List (List (List Int))) (u : List (List Int)) (hs : SpnP p pw br u) : ACp Try.prog 95 [ring p pw br, rows u] (ring p (qP p pw u) (qB p pw br u)) := by
 obtain ⟨O, hO⟩ : ∃ O, othK u pw.length = O := ⟨_, rfl⟩
 have hM : qM pw u = O.length := by rw [← hO]; rfl
 have ht := hs.1.1.tri
 have h6 := ht.n6
 have hu6 := hs.2.1
 have hM6 : O.length ≤ pw.length := by rw [← hM]; exact qM_le
 have hOg : ∀ a, a < O.length → O.getD a 0 = (oN' pw u a : Int) ∧ oN' pw u a < pw.length := fun a ha => by
  have := oN_ok (pw := pw) (u := u) (a := a) (by omega)
  rwa [hO] at this
 have hul : ∀ k, (u.getD k []).length ≤ 1048576 := (hs.can.rl h6).getD
 have hPl := qP_len (p := p) (pw := pw) (u := u)
 have hBl := qB_len (p := p) (pw := pw) (br := br) (u := u)
 refine ACp.introV envOk Try.func95 rfl (by kernel_rfl) Try.ntmps95 Try.results95 ((nr_ring _ _ _)) (fun nx => ?_)
 refine AW.sr envOk (fun N hN => ?_)
 simp -dsimp -implicitDefEqProofs (disch := omega) only [go_sem, reduceAdd, reduceSub, reduceGT, reduceEqDiff, reduceMul, ring, w64]
 refine hN _ ?_
 try clear hN N
 refine AW.freezeQ 2 nx _ rfl ((upd_ne _ _ (by omega)).trans (upd_same _ _ _)) ?_
 simp -dsimp -implicitDefEqProofs (disch := omega) only [go_sem, reduceAdd, reduceSub, reduceGT, reduceEqDiff, reduceMul]
 refine AW.sr envOk (fun N hN => ?_)
 simp -dsimp -implicitDefEqProofs (disch := omega) only [go_sem, reduceAdd, reduceSub, reduceGT, reduceEqDiff, reduceMul, ring, w64]
 refine AC.pure (.of (spec_l32Left_ok p pw br u h6 (by omega) hul)) ?_
 try simp -dsimp -implicitDefEqProofs (disch := omega) only [go_sem, reduceAdd, reduceSub, reduceGT, reduceEqDiff, reduceMul, ring, w64]
 rw [hO]
 try simp -dsimp -implicitDefEqProofs (disch := omega) only [go_sem, reduceAdd, reduceSub, reduceGT, reduceEqDiff, reduceMul, ring, w64]
 refine hN _ ?_
 try clear hN N
 refine AW.sr envOk (fun N hN => ?_)
 simp -dsimp -implicitDefEqProofs (disch := omega) only [go_sem, reduceAdd, reduceSub, reduceGT, reduceEqDiff, reduceMul, ring, w64]
 refine hN _ ?_
 try clear hN N
 refine AW.seq (fun N1 hN1 => ?_)
 refine AW.nameH (fun G0 hG0 => ?_)
 dsimp only at hG0
 have hQ0 : SqI p pw br u nx (nx + 14) 0 0 (nx + 8) (nx + 9) G0 := by
  refine ⟨by omega, ?_, ?_, ?_, ?_, by omega, by omega, by omega⟩
  ·rw [← hG0]; simp (disch := omega) only [upd_same, upd_ne]
  ·rw [← hG0]; simp (disch := omega) only [upd_same, upd_ne]
  ·rw [← hG0]; simp (disch := omega) only [upd_same, upd_ne]; rfl
  ·rw [← hG0]; simp (disch := omega) only [upd_same, upd_ne]; rfl
 simp -dsimp -implicitDefEqProofs (disch := omega) only [go_sem, reduceAdd, reduceSub, reduceGT, reduceEqDiff, reduceMul]
 refine AW.sr envOk (fun N hN => ?_)
 simp -dsimp -implicitDefEqProofs (disch := omega) only [go_sem, reduceAdd, reduceSub, reduceGT, reduceEqDiff, reduceMul, ring, w64]
 refine hN _ ?_
 try clear hN N
 refine AW.block ?_
 refine AW.loopN (α := Nat × Nat × Nat × HP) (fun x => sl 78 [(1, rows u), (2, ringP p pw br), (4, .q (nx + 1) 0), (5, ints O), (6, .q (nx + 11) 0), (7, .i .i64 x.1)]) (fun x => x.2.2.2) (fun x m => x.1 ≤ O.length ∧ SqI p pw br u nx m x.1 x.1 x.2.1 x.2.2.1 x.2.2.2) (fun x => O.length - x.1) ((0, nx + 8, nx + 9, G0)) ?_ ?_ (fun _ _ h => h) ?_
 ·exact ⟨by simp, hQ0.mm (by first| omega| (simp only; omega)| (dsimp only; omega))⟩
 ·simp (disch := omega) [wks, wkA, sl, rows, ringP, ints]
 ·skip
  rintro ⟨a, P, B, G⟩ m1 ⟨ha, hQ⟩
  dsimp only at ha hQ
  obtain ⟨hm, hc, ho, hgP, hgB, hlP, hlB, hne⟩ := hQ
  simp -dsimp -implicitDefEqProofs (disch := omega) only [go_sem, reduceAdd, reduceSub, reduceGT, reduceEqDiff, reduceMul]
  refine AW.seq (fun N2 hN2 => ?_)
  refine AW.sr envOk (fun N hN => ?_)
  simp -dsimp -implicitDefEqProofs (disch := omega) only [go_sem, reduceAdd, reduceSub, reduceGT, reduceEqDiff, reduceMul, ring, w64]
  refine hN _ ?_
  try clear hN N
  refine AW.cond rfl (fun h1 => ?_) (fun h1 => ?_)
  ·try simp only [cn] at h1
   obtain ⟨ho1, ho2⟩ := hOg a (by omega)
   have hpe : El p pw.length (pw.getD (oN' pw u a) []) := ((hs.1.1.2.2.2.2 _ ho2).1).el
   have himg := spec_l32Image_ok p pw br ht u (hs.can.rws h6) hul _ hpe
   rw [← qP_get (p := p) (show a < qM pw u by omega)] at himg
   have hRl := qR_len (p := p) (pw := pw) (br := br) (u := u) (a := a)
   have hrow := hs.1.1.sh.rl _ ho2
   have hbrl := hs.1.1.sh.bl
   refine AW.skip ?_
   simp only [thn, blk]
   refine hN2 _ ?_
   try clear hN2 N2
   refine AW.seq (fun N3 hN3 => ?_)
   refine AW.block ?_
   refine AW.sr envOk (fun N hN => ?_)
   simp -dsimp -implicitDefEqProofs (disch := omega) only [go_sem, reduceAdd, reduceSub, reduceGT, reduceEqDiff, reduceMul, ring, w64, ints, gd_i, ho1]
   refine hN _ ?_
   try clear hN N
   refine AW.seq (fun N hN => ?_)
   refine AW.drawL2 envOk (by kernel_rfl) 13 11 (by kernel_rfl) _ _ rfl ?_
   simp -dsimp -implicitDefEqProofs (disch := omega) only [hr_nil, hr_one, hr_if, List.take_succ_cons, List.take_zero, List.drop_succ_cons, List.drop_zero, List.take_nil, List.drop_nil, go_sem, reduceAdd, reduceSub, reduceGT, reduceEqDiff, reduceMul, ring, w64, ringP, rows, gd_r, one_ints2, List.length_map, List.length_take, ho, hgP]
   refine ⟨_, .of (himg ), ?_⟩
   try simp -dsimp -implicitDefEqProofs (disch := omega) only [go_sem, reduceAdd, reduceSub, reduceGT, reduceEqDiff, reduceMul, ring, w64]
   try simp -dsimp -implicitDefEqProofs (disch := omega) only [go_sem, reduceAdd, reduceSub, reduceGT, reduceEqDiff, reduceMul, ho, hgP, one_ints2, List.length_map, List.length_take, hPl]
   refine hN _ ?_
   try clear hN N
   refine AW.nameH (fun G1 hG1 => ?_)
   dsimp only at hG1
   have hQ1 : SqI p pw br u nx (m1 + 23) (a + 1) a (m1 + 4 + 5 + 11) B G1 := by
    refine ⟨by omega, ?_, ?_, ?_, ?_, by omega, by omega, by omega⟩
    ·rw [← hG1]; simp (disch := omega) only [upd_same, upd_ne, hc]
    ·rw [← hG1]; simp (disch := omega) only [upd_same, upd_ne]
    ·rw [← hG1, take_sn (d := []) (show a < (qP p pw u).length by omega), List.map_append]; simp (disch := omega) only [upd_same, upd_ne]
     rfl
    ·rw [← hG1]; simp (disch := omega) only [upd_same, upd_ne, hgB]
   simp -dsimp -implicitDefEqProofs (disch := omega) only [go_sem, reduceAdd, reduceSub, reduceGT, reduceEqDiff, reduceMul]
   refine AW.sr envOk (fun N hN => ?_)
   simp -dsimp -implicitDefEqProofs (disch := omega) only [go_sem, reduceAdd, reduceSub, reduceGT, reduceEqDiff, reduceMul, ring, w64]
   refine hN _ ?_
   try clear hN N
   refine AW.seq (fun N4 hN4 => ?_)
   refine AW.sr envOk (fun N hN => ?_)
   simp -dsimp -implicitDefEqProofs (disch := omega) only [go_sem, reduceAdd, reduceSub, reduceGT, reduceEqDiff, reduceMul, ring, w64]
   refine hN _ ?_
   try clear hN N
   refine AW.block ?_
   refine AW.loopN (α := Nat × Nat × HP) (fun x => sl 78 [(1, rows u), (2, ringP p pw br), (4, .q (nx + 1) 0), (5, ints O), (6, .q (nx + 11) 0), (7, .i .i64 a), (8, .i .i64 (oN' pw u a)), (9, .h x.2.1 0 x.1), (10, .i .i64 (a + 1 + x.1 : Nat))]) (fun x => x.2.2) (fun x m => x.1 ≤ O.length - 1 - a ∧ (∀ j, j < m1 + 23 → x.2.2 j = G1 j) ∧ x.2.2 x.2.1 = some (((qR p pw br u a).take x.1).map ints) ∧ m1 + 23 ≤ x.2.1 ∧ x.2.1 < m) (fun x => O.length - x.1) ((0, m1 + 23, upd G1 (m1 + 23) (some []))) ?_ ?_ (fun _ _ h => h) ?_
   ·exact ⟨by simp, fun j hj => upd_ne _ _ (by omega), upd_same _ _ _, by first| omega| (simp only; omega)| (dsimp only; omega), by first| omega| (simp only; omega)| (dsimp only; omega)⟩
   ·simp (disch := omega) [wks, wkA, sl, rows, ringP, ints]
   ·skip
    rintro ⟨k, R, G2⟩ m2 ⟨hk, hG2, hR, hR1, hR2⟩
    dsimp only at hk hG2 hR hR1 hR2
    simp -dsimp -implicitDefEqProofs (disch := omega) only [go_sem, reduceAdd, reduceSub, reduceGT, reduceEqDiff, reduceMul]
    refine AW.seq (fun N5 hN5 => ?_)
    refine AW.sr envOk (fun N hN => ?_)
    simp -dsimp -implicitDefEqProofs (disch := omega) only [go_sem, reduceAdd, reduceSub, reduceGT, reduceEqDiff, reduceMul, ring, w64]
    refine hN _ ?_
    try clear hN N
    refine AW.cond rfl (fun h2 => ?_) (fun h2 => ?_)
    ·try simp only [cn] at h2
     obtain ⟨hp1, hp2⟩ := hOg (a + 1 + k) (by omega)
     have hasc := oN_asc (pw := pw) (u := u) (show a < a + 1 + k by omega) (by omega)
     have hbe := hs.1.1.sh.el (oN' pw u a) (oN' pw u (a + 1 + k) - oN' pw u a - 1) ho2 (by omega)
     have himg2 := spec_l32Image_ok p pw br ht u (hs.can.rws h6) hul _ hbe
     rw [← qR_get (p := p) (pw := pw) (br := br) (u := u) (show k < qM pw u - 1 - a by omega)] at himg2
     refine AW.skip ?_
     simp only [thn, blk]
     refine hN5 _ ?_
     try clear hN5 N5
     refine AW.seq (fun N6 hN6 => ?_)
     refine AW.block ?_
     refine AW.drawL2 envOk (by kernel_rfl) 20 19 (by kernel_rfl) _ _ rfl ?_
     simp -dsimp -implicitDefEqProofs (disch := omega) only [hr_nil, hr_one, hr_if, List.take_succ_cons, List.take_zero, List.drop_succ_cons, List.drop_zero, List.take_nil, List.drop_nil, go_sem, reduceAdd, reduceSub, reduceGT, reduceEqDiff, reduceMul, ring, w64, ringP, rows, cubes, ints, gd_i, gd_r, gd_c, one_ints2, hp1, tn_sub, List.length_map, List.length_take, hR]
     refine ⟨_, .of (himg2 ), ?_⟩
     try simp -dsimp -implicitDefEqProofs (disch := omega) only [go_sem, reduceAdd, reduceSub, reduceGT, reduceEqDiff, reduceMul, ring, w64]
     try simp -dsimp -implicitDefEqProofs (disch := omega) only [go_sem, reduceAdd, reduceSub, reduceGT, reduceEqDiff, reduceMul, hR, one_ints2, List.length_map, List.length_take, hRl]
     refine hN6 _ ?_
     try clear hN6 N6
     refine AW.nameH (fun G3 hG3 => ?_)
     dsimp only at hG3
     have hR3 : G3 (m2 + 4 + 19) = some (((qR p pw br u a).take (k + 1)).map ints) := by
      rw [← hG3, take_sn (d := []) (show k < (qR p pw br u a).length by omega), List.map_append]; simp (disch := omega) only [upd_same, upd_ne]
      rfl
     have hk3 : ∀ j, j < m1 + 23 → G3 j = G1 j := fun j hj => by rw [← hG3]; simp (disch := omega) only [upd_ne]; exact hG2 j hj
     simp -dsimp -implicitDefEqProofs (disch := omega) only [go_sem, reduceAdd, reduceSub, reduceGT, reduceEqDiff, reduceMul]
     refine AW.regionL envOk ?_
     simp -dsimp -implicitDefEqProofs (disch := omega) only [go_sem, reduceAdd, reduceSub, reduceGT, reduceEqDiff, reduceMul, ring, w64]
     refine ⟨(k + 1, m2 + 4 + 19, G3), ?_, fun _ _ h => h, ?_, ?_⟩
     ·simp (disch := omega) [wks, wkA, sl, rows, cubes, ringP, ints, w64] <;> omega
     ·exact ⟨by first| omega| (simp only; omega)| (dsimp only; omega), hk3, hR3, by first| omega| (simp only; omega)| (dsimp only; omega), by first| omega| (simp only; omega)| (dsimp only; omega)⟩
     ·first | omega | (simp only; omega)
    ·try simp only [cn] at h2
     refine AW.exit ?_
     simp only [thn, blk, if_true]
     refine hN4 _ ?_
     try clear hN4 N4
     refine AW.freeze 9 R k (((qR p pw br u a).take k).map ints) rfl hR (by simp; omega) ?_
     have hO2 := (hG2 (nx + 11) (by omega)).trans hQ1.o
     have hB2 := (hG2 B (by omega)).trans hQ1.gB
     simp -dsimp -implicitDefEqProofs (disch := omega) only [go_sem, reduceAdd, reduceSub, reduceGT, reduceEqDiff, reduceMul]
     refine AW.regionL envOk ?_
     simp -dsimp -implicitDefEqProofs (disch := omega) only [go_sem, reduceAdd, reduceSub, reduceGT, reduceEqDiff, reduceMul, ring, w64, hO2, hB2, one_v2, List.length_map, List.length_take, hBl]
     refine hN3 _ ?_
     try clear hN3 N3
     refine AW.nameH (fun G4 hG4 => ?_)
     dsimp only at hG4
     have hkk : k = (qR p pw br u a).length := by omega
     have hQ4 : SqI p pw br u nx (m2 + 4 + 7) (a + 1) (a + 1) (m1 + 4 + 5 + 11) (m2 + 4 + 4) G4 := by
      refine ⟨by omega, ?_, ?_, ?_, ?_, by omega, by omega, by omega⟩
      ·rw [← hG4]; simp (disch := omega) only [upd_same, upd_ne]; exact (hG2 _ (by omega)).trans hQ1.c
      ·rw [← hG4]; simp (disch := omega) only [upd_same, upd_ne]
      ·rw [← hG4]; simp (disch := omega) only [upd_same, upd_ne]; exact (hG2 _ (by omega)).trans hQ1.gP
      ·rw [← hG4, take_sn (d := []) (show a < (qB p pw br u).length by omega), List.map_append]; simp (disch := omega) only [upd_same, upd_ne]
       have e : rows ((qB p pw br u).getD a []) = AV.v k (List.map ints (List.take k (qR p pw br u a))) := by rw [qB_get (by omega), hkk, List.take_length]; rfl
       rw [List.map_cons, List.map_nil, e]
     simp -dsimp -implicitDefEqProofs (disch := omega) only [go_sem, reduceAdd, reduceSub, reduceGT, reduceEqDiff, reduceMul]
     refine AW.regionL envOk ?_
     simp -dsimp -implicitDefEqProofs (disch := omega) only [go_sem, reduceAdd, reduceSub, reduceGT, reduceEqDiff, reduceMul, ring, w64]
     refine ⟨(a + 1, m1 + 4 + 5 + 11, m2 + 4 + 4, G4), ?_, fun _ _ h => h, ?_, ?_⟩
     ·simp (disch := omega) [wks, wkA, sl, rows, cubes, ringP, ints, w64] <;> omega
     ·exact ⟨by first| omega| (simp only; omega)| (dsimp only; omega), hQ4.mm (by first| omega| (simp only; omega)| (dsimp only; omega))⟩
     ·first | omega | (simp only; omega)
  ·try simp only [cn] at h1
   refine AW.exit ?_
   simp only [thn, blk, if_true]
   refine hN1 _ ?_
   try clear hN1 N1
   refine AW.sr envOk (fun N hN => ?_)
   simp -dsimp -implicitDefEqProofs (disch := omega) only [go_sem, reduceAdd, reduceSub, reduceGT, reduceEqDiff, reduceMul, ring, w64, ho, hc]
   refine hN _ ?_
   try clear hN N
   refine AW.ret ?_
   simp -dsimp -implicitDefEqProofs (disch := omega) only [go_sem, reduceAdd, reduceSub, reduceGT, reduceEqDiff, reduceMul]
   have haP : (qP p pw u).take a = qP p pw u := List.take_of_length_le (by omega)
   have haB : (qB p pw br u).take a = qB p pw br u := List.take_of_length_le (by omega)
   rw [haP] at hgP
   rw [haB] at hgB
   exact vw_ring (Vw.rws (by omega) ((upd_ne _ _ (by omega)).trans hgP)) (Vw.cb (by omega) ((upd_ne _ _ (by omega)).trans hgB))

theorem rd_nilG {e : Int} : Rd (.t [.g [.i .i64 0, .nl, .nl], .i .i64 e]) (resG ((0, [], []), e)) := Rd.t2 (fun L w M u h => by
  cases h with
  | g _ us hs hr =>
    refine .g _ us hs ?_
    intro k z hk
    match k, hk with
    | 0, hk => cases hk; exact hr 0 _ rfl
    | 1, hk => cases hk; exact Rd.nl _ _ _ _ (hr 1 _ rfl)
    | 2, hk => cases hk; exact Rd.nl _ _ _ _ (hr 2 _ rfl)) (.refl _)
theorem spec_LieQuotient_ok (p : Int) (pw : List (List Int)) (br : List (List (List Int))) (hl : ringlen pw br) (u : List (List Int)) (hu : rowslen u) : ACp Try.prog 39 [ring p pw br, rows u] (resG (quoM p pw br u (tf (SpnP p pw br u)) (tf (within p pw u (brkLL p pw br u (wholeL pw.length)))))) := by
 have hln := hl.n
 refine ACp.introR envOk Try.func39 rfl (by kernel_rfl) Try.ntmps39 Try.results39 (resG_nr _) (fun nx => ?_)
 refine AW.sr envOk (fun N hN => ?_)
 simp -dsimp -implicitDefEqProofs (disch := omega) only [go_sem, reduceAdd, reduceSub, reduceGT, reduceEqDiff, reduceMul, ring, w64]
 refine hN _ ?_
 try clear hN N
 refine AW.seq (fun N1 hN1 => ?_)
 refine AW.freezeQ 2 nx _ rfl ((upd_ne _ _ (by omega)).trans (upd_same _ _ _)) ?_
 simp -dsimp -implicitDefEqProofs (disch := omega) only [go_sem, reduceAdd, reduceSub, reduceGT, reduceEqDiff, reduceMul]
 refine AW.sr envOk (fun N hN => ?_)
 simp -dsimp -implicitDefEqProofs (disch := omega) only [go_sem, reduceAdd, reduceSub, reduceGT, reduceEqDiff, reduceMul, ring, w64]
 refine AC.pure (.of (spec_IsLieSpan_ok p pw br hl u hu)) ?_
 try simp -dsimp -implicitDefEqProofs (disch := omega) only [go_sem, reduceAdd, reduceSub, reduceGT, reduceEqDiff, reduceMul, ring, w64]
 refine hN _ ?_
 try clear hN N
 refine AW.cond rfl (fun h1 => ?_) (fun h1 => ?_)
 ·try simp only [cn] at h1
  refine AW.sr envOk (fun N hN => ?_)
  simp -dsimp -implicitDefEqProofs (disch := omega) only [go_sem, reduceAdd, reduceSub, reduceGT, reduceEqDiff, reduceMul, ring, w64]
  refine hN _ ?_
  try clear hN N
  refine AW.ret ?_
  simp -dsimp -implicitDefEqProofs (disch := omega) only [go_sem, reduceAdd, reduceSub, reduceGT, reduceEqDiff, reduceMul]
  rw [tf_f h1]
  exact rd_nilG
 ·try simp only [cn] at h1
  refine AW.skip ?_
  simp only [thn, blk]
  refine hN1 _ ?_
  try clear hN1 N1
  refine AW.seq (fun N2 hN2 => ?_)
  refine AW.sr envOk (fun N hN => ?_)
  simp -dsimp -implicitDefEqProofs (disch := omega) only [go_sem, reduceAdd, reduceSub, reduceGT, reduceEqDiff, reduceMul, ring, w64]
  refine AC.pure (.of (spec_l32IsIdeal_ok p pw br u h1)) ?_
  try simp -dsimp -implicitDefEqProofs (disch := omega) only [go_sem, reduceAdd, reduceSub, reduceGT, reduceEqDiff, reduceMul, ring, w64]
  refine hN _ ?_
  try clear hN N
  refine AW.cond rfl (fun h2 => ?_) (fun h2 => ?_)
  ·try simp only [cn] at h2
   refine AW.sr envOk (fun N hN => ?_)
   simp -dsimp -implicitDefEqProofs (disch := omega) only [go_sem, reduceAdd, reduceSub, reduceGT, reduceEqDiff, reduceMul, ring, w64]
   refine hN _ ?_
   try clear hN N
   refine AW.ret ?_
   simp -dsimp -implicitDefEqProofs (disch := omega) only [go_sem, reduceAdd, reduceSub, reduceGT, reduceEqDiff, reduceMul]
   first| rw [tf_t h1, tf_f h2]| rw [tf_t h1]
   exact rd_nilG
  ·try simp only [cn] at h2
   refine AW.skip ?_
   simp only [thn, blk]
   refine hN2 _ ?_
   try clear hN2 N2
   refine AW.sr envOk (fun N hN => ?_)
   simp -dsimp -implicitDefEqProofs (disch := omega) only [go_sem, reduceAdd, reduceSub, reduceGT, reduceEqDiff, reduceMul, ring, w64]
   refine AC.pure (.of (spec_l32Quotient_ok p pw br u h1)) ?_
   try simp -dsimp -implicitDefEqProofs (disch := omega) only [go_sem, reduceAdd, reduceSub, reduceGT, reduceEqDiff, reduceMul, ring, w64]
   refine hN _ ?_
   try clear hN N
   refine AW.ret ?_
   simp -dsimp -implicitDefEqProofs (disch := omega) only [go_sem, reduceAdd, reduceSub, reduceGT, reduceEqDiff, reduceMul]
   rw [tf_t h1, tf_t h2]
   exact .refl _

end Go.Proofs.Ytbhlindlcfeppaa
