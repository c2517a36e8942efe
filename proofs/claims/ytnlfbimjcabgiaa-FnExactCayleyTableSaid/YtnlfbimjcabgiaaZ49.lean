import Derived.Test.YtnlfbimjcabgiaaZ48
set_option linter.unusedVariables false
set_option linter.unusedSimpArgs false
namespace Go.Proofs.Ytnlfbimjcabgiaa
open Nat (reduceAdd reduceSub reduceGT reduceEqDiff reduceMul)
theorem otF_ge {P : Pc} {xs : List V} {i : Nat} (h : ∀ i', i' < i → i' < (otF P xs i').1.length) : i ≤ (otF P xs i).1.length := by
  cases i with
  | zero => exact Nat.zero_le _
  | succ i =>
    have h1 := h i (by omega)
    rw [otF]
    obtain ⟨e, he⟩ := inF_pre (P := P) (xs := xs) (x := (otF P xs i).1.getD i z0) (pts := (otF P xs i).1) xs.length
    dsimp only
    rw [he, List.length_append]
    omega
theorem nmV_z0 {os : List Int} : ∀ k, nmV os z0 k = 0 := by
  intro k
  induction k with
  | zero => rfl
  | succ k ih => rw [nmV, ih, Int.zero_mul]; rfl
section
variable (os : List Int) (pw : List (List Int)) (cj : List (List (List Int)))
set_option maxRecDepth 20000 in
set_option maxHeartbeats 2000000 in
theorem impl_cayleyTable_ok (h : presOk os pw cj) (hc : Con (pc os pw cj) 0) (xs : List V) (hl : xs.length ≤ 4) (hxs : ∀ x ∈ xs, T (pc os pw cj) 0 x) : ACo Try.prog 30 [prsP os pw cj, vls os.length xs] (rows (tabL (pc os pw cj) xs)) := by
 have hn6 := h.1.1
 have hv := h.val
 have hg := con_grp hv hc
 have hpr := h.2.1
 have h729 := h.2.2.1
 intro nx
 refine AC.intro' envOk Try.func30 rfl (by kernel_rfl) Try.ntmps30 Try.results30 ?_
 refine AW.sr envOk (fun N hN => ?_)
 simp -dsimp -implicitDefEqProofs (maxSteps := 800000) (disch := omega) only [go_sem, undef, reduceAdd, reduceSub, reduceGT, reduceEqDiff, reduceMul, prsP, vls, w64]
 refine hN _ ?_
 try clear hN N
 refine AW.sr envOk (fun N hN => ?_)
 simp -dsimp -implicitDefEqProofs (maxSteps := 800000) (disch := omega) only [go_sem, undef, reduceAdd, reduceSub, reduceGT, reduceEqDiff, reduceMul, prsP, vls, w64, ints]
 refine hN _ ?_
 try clear hN N
 refine AW.fzpush (nx + 1 + 6) (nx + 1 + 5) os.length [] (ivs os.length z0) ?_ ?_ ivs_len (by omega) ?_
 ·simp only [upd_same, List.nil_append]
 ·simp (disch := omega) only [upd_ne, upd_same, ivs_zero]; rfl
 simp -dsimp -implicitDefEqProofs (maxSteps := 800000) (disch := omega) only [go_sem, undef, reduceAdd, reduceSub, reduceGT, reduceEqDiff, reduceMul]
 refine AW.sr envOk (fun N hN => ?_)
 simp -dsimp -implicitDefEqProofs (maxSteps := 800000) (disch := omega) only [go_sem, undef, reduceAdd, reduceSub, reduceGT, reduceEqDiff, reduceMul, prsP, vls, w64]
 refine hN _ ?_
 try clear hN N
 refine AW.sr envOk (fun N hN => ?_)
 simp -dsimp -implicitDefEqProofs (maxSteps := 800000) (disch := omega) only [go_sem, undef, reduceAdd, reduceSub, reduceGT, reduceEqDiff, reduceMul, prsP, vls, w64]
 refine hN _ ?_
 try clear hN N
 refine AW.seq (fun N1 hN1 => ?_)
 refine AW.sr envOk (fun N hN => ?_)
 simp -dsimp -implicitDefEqProofs (maxSteps := 800000) (disch := omega) only [go_sem, undef, reduceAdd, reduceSub, reduceGT, reduceEqDiff, reduceMul, prsP, vls, w64]
 refine hN _ ?_
 try clear hN N
 refine AW.block ?_
 refine AW.nameH (fun G0 hG0 => ?_)
 dsimp only at hG0
 have hS0 : ∀ m, nx + 17 ≤ m → CsI os nx m (nx + 13 + 2) (nx + 9) (nx + 1 + 6) G0 xs.length (otF (pc os pw cj) xs 0).1 (colJ (pc os pw cj) xs 0 0) (List.replicate xs.length .nl) (fun _ => 0) := by
  intro m hm
  refine ⟨CtI.start ?_ (by omega) (by omega) (fun g hg => by rw [colJ_0]; rfl), ?_, ?_, by omega, by omega, by omega, by omega, by omega⟩
  ·rw [← hG0]; simp (disch := omega) only [upd_ne, upd_same]
  ·rw [← hG0]; simp (disch := omega) only [upd_ne, upd_same]; rfl
  ·rw [← hG0]; simp (disch := omega) only [upd_ne, upd_same]; simp only [otF, mpF, nmV_z0]; rfl
 refine AW.loopN (α := Nat × HP × Nat × List AV × (Nat → Nat)) (fun x => sl 79 [(0, prsP os pw cj), (1, vls os.length xs), (5, .h x.2.2.1 0 (otF (pc os pw cj) xs x.1).1.length), (6, .m (nx + 9)), (7, .h (nx + 13 + 2) 0 xs.length), (8, .i .i64 x.1)]) (fun x => x.2.1) (fun x m => (∀ i', i' < x.1 → i' < (otF (pc os pw cj) xs i').1.length) ∧ CsI os nx m (nx + 13 + 2) (nx + 9) x.2.2.1 x.2.1 xs.length (otF (pc os pw cj) xs x.1).1 (colJ (pc os pw cj) xs x.1 0) x.2.2.2.1 x.2.2.2.2) (fun x => 729 - x.1) ((0, G0, nx + 1 + 6, List.replicate xs.length .nl, fun _ => 0)) ?_ ?_ (fun _ _ h => h) ?_
 ·exact ⟨by simp, hS0 _ (by first| omega| (simp only; omega)| (dsimp only; omega))⟩
 ·simp (disch := omega) [wks, wkA, sl, prsP, ints, rows, cubes, vls, otF]
 ·skip
  rintro ⟨i, G, idf, rs, ids⟩ m ⟨hbef, hS⟩
  dsimp only at hbef hS
  have hPt := PtI.otF hv hc hxs i hbef
  have hPl := hPt.len h
  simp -dsimp -implicitDefEqProofs (maxSteps := 800000) (disch := omega) only [go_sem, undef, reduceAdd, reduceSub, reduceGT, reduceEqDiff, reduceMul]
  refine AW.seq (fun N2 hN2 => ?_)
  refine AW.sr envOk (fun N hN => ?_)
  simp -dsimp -implicitDefEqProofs (maxSteps := 800000) (disch := omega) only [go_sem, undef, reduceAdd, reduceSub, reduceGT, reduceEqDiff, reduceMul, prsP, vls, w64]
  refine hN _ ?_
  try clear hN N
  refine AW.cond rfl (fun h1 => ?_) (fun h1 => ?_)
  ·try simp only [cn] at h1
   have hil : i < (otF (pc os pw cj) xs i).1.length := by omega
   obtain ⟨x0, hx0⟩ : ∃ x, (otF (pc os pw cj) xs i).1.getD i z0 = x := ⟨_, rfl⟩
   have hxT : T (pc os pw cj) 0 x0 := by rw [← hx0]; exact hPt.1 _ (by rw [List.getD_eq_getElem?_getD, List.getElem?_eq_getElem hil]; exact List.getElem_mem _)
   have hcs := fun j g => colJ_s (P := (pc os pw cj)) (xs := xs) (i := i) (j := j) (g := g)
   rw [hx0] at hcs
   have hbef2 : ∀ i', i' < i + 1 → i' < (otF (pc os pw cj) xs i').1.length := fun i' hi' => by
    rcases Nat.lt_or_ge i' i with q | q
    ·exact hbef i' q
    ·obtain rfl : i' = i := by omega
     exact hil
   refine AW.skip ?_
   simp only [thn, blk]
   refine hN2 _ ?_
   try clear hN2 N2
   refine AW.seq (fun N3 hN3 => ?_)
   refine AW.block ?_
   refine AW.sr envOk (fun N hN => ?_)
   simp -dsimp -implicitDefEqProofs (maxSteps := 800000) (disch := omega) only [go_sem, undef, reduceAdd, reduceSub, reduceGT, reduceEqDiff, reduceMul, prsP, vls, w64]
   refine hN _ ?_
   try clear hN N
   refine AW.block ?_
   refine AW.loopN (α := Nat × HP × Nat × List AV × (Nat → Nat)) (fun x => sl 79 [(0, prsP os pw cj), (1, vls os.length xs), (5, .h x.2.2.1 0 (inF (pc os pw cj) xs x0 x.1 (otF (pc os pw cj) xs i).1).1.length), (6, .m (nx + 9)), (7, .h (nx + 13 + 2) 0 xs.length), (8, .i .i64 i), (32, vls os.length xs), (33, .i .i64 xs.length), (34, .i .i64 x.1)]) (fun x => x.2.1) (fun x m => x.1 ≤ xs.length ∧ CsI os nx m (nx + 13 + 2) (nx + 9) x.2.2.1 x.2.1 xs.length (inF (pc os pw cj) xs x0 x.1 (otF (pc os pw cj) xs i).1).1 (colJ (pc os pw cj) xs i x.1) x.2.2.2.1 x.2.2.2.2) (fun x => xs.length - x.1) ((0, G, idf, rs, ids)) ?_ ?_ (fun _ _ h => h) ?_
   ·exact ⟨by simp, hS.mm (by first| omega| (simp only; omega)| (dsimp only; omega))⟩
   ·simp (disch := omega) [wks, wkA, sl, prsP, ints, rows, cubes, vls, inF]
   ·skip
    rintro ⟨j, G2, idf2, rs2, ids2⟩ m2 ⟨hj, hS2⟩
    dsimp only at hj hS2
    have hPi := fun hj2 => PtI.inF hv hc hxs hxT hPt j hj2
    have hgi := inF_get (P := (pc os pw cj)) (xs := xs) (x := x0) (pts := (otF (pc os pw cj) xs i).1) (j := j) hil
    rw [hx0] at hgi
    obtain ⟨pts, hpts⟩ : ∃ p, (inF (pc os pw cj) xs x0 j (otF (pc os pw cj) xs i).1).1 = p := ⟨_, rfl⟩
    obtain ⟨y, hy⟩ : ∃ y, M (pc os pw cj) 0 x0 (xs.getD j z0) = y := ⟨_, rfl⟩
    have hnx2 : (inF (pc os pw cj) xs x0 (j + 1) (otF (pc os pw cj) xs i).1).1 = psI pts y := by rw [inF, hpts, hy]
    have hcsj := hcs j
    rw [hpts, hy] at hcsj
    dsimp only
    rw [hpts] at hS2 hPi hgi ⊢
    have hPl2 := (hPi hj).len h
    have hF := hS2.f
    have hMp := hS2.p
    have hAt := hS2.t.at'
    have hLn := hS2.t.len
    have hn1 := hS2.n1
    have hn3 := hS2.n3
    have hb1 := hS2.b1
    have hb2 := hS2.b2
    have hhi := hS2.t.hi
    have hgf : (pts.map (vi os.length)).getD i .j = vi os.length x0 := by rw [vls_get (by omega), hgi.1]
    have hcl := colJ_len (P := (pc os pw cj)) (xs := xs) (i := i) (j := j) (g := j)
    rw [if_neg (by omega)] at hcl
    by_cases hnew : fsI pts y = pts.length
    all_goals by_cases hi0 : i = 0
    ·skip
     simp -dsimp -implicitDefEqProofs (maxSteps := 800000) (disch := omega) only [go_sem, undef, reduceAdd, reduceSub, reduceGT, reduceEqDiff, reduceMul]
     refine AW.sr envOk (fun N hN => ?_)
     simp -dsimp -implicitDefEqProofs (maxSteps := 800000) (disch := omega) only [go_sem, undef, reduceAdd, reduceSub, reduceGT, reduceEqDiff, reduceMul, prsP, vls, w64]
     refine hN _ ?_
     try clear hN N
     refine AW.seq (fun N4 hN4 => ?_)
     refine AW.cond rfl (fun h2 => ?_) (fun h2 => ?_)
     ·try simp only [cn] at h2
      have hxj : T (pc os pw cj) 0 (xs.getD j z0) := xs_T hxs (by omega)
      have hyT : T (pc os pw cj) 0 y := by rw [← hy]; exact hg.cl hxT hxj
      have hGet := mget_mp hpr hyT pts 0 (hPi hj).1
      have hmu := (impl_multiply_ok os pw cj h 0 hc x0 (xs.getD j z0) hxT hxj).pure
      rw [hy] at hmu
      have hnu := impl_numberOf_ok os pw cj h y hyT
      rw [if_neg (by omega)] at hGet
      have hSet := fun v => mset_mp hpr hyT (v := v) pts 0 (hPi hj).1 hnew
      have hln2 : (inF (pc os pw cj) xs x0 (j + 1) (otF (pc os pw cj) xs i).1).1.length = pts.length + 1 := by rw [hnx2]; unfold psI; rw [if_pos hnew]; simp
      have hRw : rs2.getD j .j = .nl := by
       rcases hS2.t.row j (by omega) with q | q
       ·exact q.2
       ·have := q.1; omega
      have hId := hF
      refine AW.skip ?_
      simp only [thn, blk]
      refine hN4 _ ?_
      try clear hN4 N4
      refine AW.seq (fun N5 hN5 => ?_)
      refine AW.block ?_
      refine AW.sr envOk (fun N hN => ?_)
      simp -dsimp -implicitDefEqProofs (maxSteps := 800000) (disch := omega) only [go_sem, undef, reduceAdd, reduceSub, reduceGT, reduceEqDiff, reduceMul, prsP, vls, w64]
      refine hN _ ?_
      try clear hN N
      refine AW.sr envOk (fun N hN => ?_)
      simp -dsimp -implicitDefEqProofs (maxSteps := 800000) (disch := omega) only [go_sem, undef, reduceAdd, reduceSub, reduceGT, reduceEqDiff, reduceMul, prsP, vls, w64, hF, hgf]
      refine AC.pure (.of (hmu )) ?_
      try simp -dsimp -implicitDefEqProofs (maxSteps := 800000) (disch := omega) only [go_sem, undef, reduceAdd, reduceSub, reduceGT, reduceEqDiff, reduceMul, prsP, vls, w64]
      refine hN _ ?_
      try clear hN N
      refine AW.sr envOk (fun N hN => ?_)
      simp -dsimp -implicitDefEqProofs (maxSteps := 800000) (disch := omega) only [go_sem, undef, reduceAdd, reduceSub, reduceGT, reduceEqDiff, reduceMul, prsP, vls, w64, hMp, hGet]
      refine AC.pure (.of (hnu )) ?_
      try simp -dsimp -implicitDefEqProofs (maxSteps := 800000) (disch := omega) only [go_sem, undef, reduceAdd, reduceSub, reduceGT, reduceEqDiff, reduceMul, prsP, vls, w64, hMp, hGet]
      refine hN _ ?_
      try clear hN N
      refine AW.seq (fun N6 hN6 => ?_)
      refine AW.sr envOk (fun N hN => ?_)
      simp -dsimp -implicitDefEqProofs (maxSteps := 800000) (disch := omega) only [go_sem, undef, reduceAdd, reduceSub, reduceGT, reduceEqDiff, reduceMul, prsP, vls, w64]
      refine hN _ ?_
      try clear hN N
      refine AW.cond rfl (fun h3 => ?_) (fun h3 => ?_)
      ·try simp only [cn] at h3
       refine AW.sr envOk (fun N hN => ?_)
       simp -dsimp -implicitDefEqProofs (maxSteps := 800000) (disch := omega) only [go_sem, undef, reduceAdd, reduceSub, reduceGT, reduceEqDiff, reduceMul, prsP, vls, w64, hF]
       refine hN _ ?_
       try clear hN N
       refine AW.sr envOk (fun N hN => ?_)
       simp -dsimp -implicitDefEqProofs (maxSteps := 800000) (disch := omega) only [go_sem, undef, reduceAdd, reduceSub, reduceGT, reduceEqDiff, reduceMul, prsP, vls, w64, hMp, hSet]
       refine AC.pure (.of (hnu )) ?_
       try simp -dsimp -implicitDefEqProofs (maxSteps := 800000) (disch := omega) only [go_sem, undef, reduceAdd, reduceSub, reduceGT, reduceEqDiff, reduceMul, prsP, vls, w64, hMp, hSet]
       refine hN _ ?_
       try clear hN N
       refine AW.regionL envOk ?_
       simp -dsimp -implicitDefEqProofs (maxSteps := 800000) (disch := omega) only [go_sem, undef, reduceAdd, reduceSub, reduceGT, reduceEqDiff, reduceMul, prsP, vls, w64, hF, one_viT, vi, tk_map]
       refine hN6 _ ?_
       try clear hN6 N6
       refine AW.regionL envOk ?_
       simp -dsimp -implicitDefEqProofs (maxSteps := 800000) (disch := omega) only [go_sem, undef, reduceAdd, reduceSub, reduceGT, reduceEqDiff, reduceMul, prsP, vls, w64, hAt, hLn, hRw, hId, hcl, List.take_length, List.length_map, splice_one]
       refine hN5 _ ?_
       try clear hN5 N5
       refine AW.nameH (fun G5 hG5 => ?_)
       dsimp only at hG5
       refine AW.regionL envOk ?_
       simp -dsimp -implicitDefEqProofs (maxSteps := 800000) (disch := omega) only [go_sem, undef, reduceAdd, reduceSub, reduceGT, reduceEqDiff, reduceMul, prsP, vls, w64]
       refine ⟨(j + 1, G5, m2 + 1 + 5 + 8 + 10 + 2 + 3 + 6 + 3, rs2.set j (.h (m2 + 1 + 5 + 8 + 10 + 2 + 3 + 6 + 5 + 8) 0 (0 + 1)), fun k => if k = j then m2 + 1 + 5 + 8 + 10 + 2 + 3 + 6 + 5 + 8 else ids2 k), ?_, fun _ _ h => h, ?_, ?_⟩
       ·simp (disch := omega) [wks, wkA, sl, w64, ints, rows, cubes, prsP, vls, w64] <;> omega
       ·refine ⟨by first| omega| (simp only; omega)| (dsimp only; omega), ?_⟩
        dsimp only
        rw [hnx2]
        rw [show psI pts y = pts ++ [y] from by unfold psI; rw [if_pos hnew]]
        refine hS2.next (g := j) (v := (fsI pts y : Int)) (cells := [.i .i64 (pts.length : Int)]) (k := 0) (by omega) (by omega) (by omega) (by omega) (hcl.trans hi0) ?_ ?_ ?_ (.inr (by omega)) (by omega) ?_ ?_ ?_ (fun k' _ => hcsj k')
        rotate_left 1
        ·rw [← hG5]; simp (disch := omega) only [upd_ne, upd_same]
        ·rw [← hG5]; simp (disch := omega) only [upd_ne, upd_same]
        ·rw [← hG5, List.map_append]; simp (disch := omega) only [upd_ne, upd_same]; rfl
        ·rw [← hG5, mpF_app, Nat.zero_add]; simp (disch := omega) only [upd_ne, upd_same]
        ·intro i5 h51 h52 h53 h54 h55; rw [← hG5]; simp (disch := omega) only [upd_ne]
        ·rw [List.length_eq_zero_iff.1 (hcl.trans hi0), hnew]; rfl
       ·first | omega | (simp only; omega)
      ·try simp only [cn] at h3
       first| done| (cases h3)| (exact absurd h3 (by simp))
     ·try simp only [cn] at h2
      have hjc : j = xs.length := by omega
      subst hjc
      have hlo2 : (otF (pc os pw cj) xs (i + 1)).1.length = pts.length := by rw [otF, hx0, ← hpts]
      refine AW.exit ?_
      simp only [thn, blk, if_true]
      refine hN3 _ ?_
      try clear hN3 N3
      refine AW.regionL envOk ?_
      simp -dsimp -implicitDefEqProofs (maxSteps := 800000) (disch := omega) only [go_sem, undef, reduceAdd, reduceSub, reduceGT, reduceEqDiff, reduceMul, prsP, vls, w64]
      refine ⟨(i + 1, G2, idf2, rs2, ids2), ?_, fun _ _ h => h, ?_, ?_⟩
      ·simp (disch := omega) [wks, wkA, sl, w64, ints, rows, cubes, prsP, vls, w64] <;> omega
      ·refine ⟨hbef2, ?_⟩
       ·have e : (otF (pc os pw cj) xs (i + 1)).1 = pts := by rw [otF, hx0]; exact hpts
        dsimp only
        rw [e]
        refine ⟨(hS2.t.mm (by first| omega| (simp only; omega)| (dsimp only; omega))).cong (fun g hg => (colJ_end hg).symm), hS2.f, hS2.p, hS2.n1, hS2.n2, hS2.n3, by first| omega| (simp only; omega)| (dsimp only; omega), by first| omega| (simp only; omega)| (dsimp only; omega)⟩
      ·first | omega | (simp only; omega)
    ·skip
     simp -dsimp -implicitDefEqProofs (maxSteps := 800000) (disch := omega) only [go_sem, undef, reduceAdd, reduceSub, reduceGT, reduceEqDiff, reduceMul]
     refine AW.sr envOk (fun N hN => ?_)
     simp -dsimp -implicitDefEqProofs (maxSteps := 800000) (disch := omega) only [go_sem, undef, reduceAdd, reduceSub, reduceGT, reduceEqDiff, reduceMul, prsP, vls, w64]
     refine hN _ ?_
     try clear hN N
     refine AW.seq (fun N7 hN7 => ?_)
     refine AW.cond rfl (fun h4 => ?_) (fun h4 => ?_)
     ·try simp only [cn] at h4
      have hxj : T (pc os pw cj) 0 (xs.getD j z0) := xs_T hxs (by omega)
      have hyT : T (pc os pw cj) 0 y := by rw [← hy]; exact hg.cl hxT hxj
      have hGet := mget_mp hpr hyT pts 0 (hPi hj).1
      have hmu := (impl_multiply_ok os pw cj h 0 hc x0 (xs.getD j z0) hxT hxj).pure
      rw [hy] at hmu
      have hnu := impl_numberOf_ok os pw cj h y hyT
      rw [if_neg (by omega)] at hGet
      have hSet := fun v => mset_mp hpr hyT (v := v) pts 0 (hPi hj).1 hnew
      have hln2 : (inF (pc os pw cj) xs x0 (j + 1) (otF (pc os pw cj) xs i).1).1.length = pts.length + 1 := by rw [hnx2]; unfold psI; rw [if_pos hnew]; simp
      obtain ⟨-, hRw, hId, hIb, hIc⟩ : 0 < (colJ (pc os pw cj) xs i j j).length ∧ rs2.getD j .j = .h (ids2 j) 0 (colJ (pc os pw cj) xs i j j).length ∧ G2 (ids2 j) = some ((colJ (pc os pw cj) xs i j j).map (.i .i64)) ∧ (nx ≤ ids2 j ∧ ids2 j < m2) ∧ ids2 j ≠ nx + 13 + 2 ∧ ids2 j ≠ idf2 ∧ ids2 j ≠ nx + 9 := by
       rcases hS2.t.row j (by omega) with q | q
       ·have := congrArg List.length q.1; rw [hcl] at this; exact absurd this hi0
       ·exact q
      refine AW.skip ?_
      simp only [thn, blk]
      refine hN7 _ ?_
      try clear hN7 N7
      refine AW.seq (fun N8 hN8 => ?_)
      refine AW.block ?_
      refine AW.sr envOk (fun N hN => ?_)
      simp -dsimp -implicitDefEqProofs (maxSteps := 800000) (disch := omega) only [go_sem, undef, reduceAdd, reduceSub, reduceGT, reduceEqDiff, reduceMul, prsP, vls, w64]
      refine hN _ ?_
      try clear hN N
      refine AW.sr envOk (fun N hN => ?_)
      simp -dsimp -implicitDefEqProofs (maxSteps := 800000) (disch := omega) only [go_sem, undef, reduceAdd, reduceSub, reduceGT, reduceEqDiff, reduceMul, prsP, vls, w64, hF, hgf]
      refine AC.pure (.of (hmu )) ?_
      try simp -dsimp -implicitDefEqProofs (maxSteps := 800000) (disch := omega) only [go_sem, undef, reduceAdd, reduceSub, reduceGT, reduceEqDiff, reduceMul, prsP, vls, w64]
      refine hN _ ?_
      try clear hN N
      refine AW.sr envOk (fun N hN => ?_)
      simp -dsimp -implicitDefEqProofs (maxSteps := 800000) (disch := omega) only [go_sem, undef, reduceAdd, reduceSub, reduceGT, reduceEqDiff, reduceMul, prsP, vls, w64, hMp, hGet]
      refine AC.pure (.of (hnu )) ?_
      try simp -dsimp -implicitDefEqProofs (maxSteps := 800000) (disch := omega) only [go_sem, undef, reduceAdd, reduceSub, reduceGT, reduceEqDiff, reduceMul, prsP, vls, w64, hMp, hGet]
      refine hN _ ?_
      try clear hN N
      refine AW.seq (fun N9 hN9 => ?_)
      refine AW.sr envOk (fun N hN => ?_)
      simp -dsimp -implicitDefEqProofs (maxSteps := 800000) (disch := omega) only [go_sem, undef, reduceAdd, reduceSub, reduceGT, reduceEqDiff, reduceMul, prsP, vls, w64]
      refine hN _ ?_
      try clear hN N
      refine AW.cond rfl (fun h5 => ?_) (fun h5 => ?_)
      ·try simp only [cn] at h5
       refine AW.sr envOk (fun N hN => ?_)
       simp -dsimp -implicitDefEqProofs (maxSteps := 800000) (disch := omega) only [go_sem, undef, reduceAdd, reduceSub, reduceGT, reduceEqDiff, reduceMul, prsP, vls, w64, hF]
       refine hN _ ?_
       try clear hN N
       refine AW.sr envOk (fun N hN => ?_)
       simp -dsimp -implicitDefEqProofs (maxSteps := 800000) (disch := omega) only [go_sem, undef, reduceAdd, reduceSub, reduceGT, reduceEqDiff, reduceMul, prsP, vls, w64, hMp, hSet]
       refine AC.pure (.of (hnu )) ?_
       try simp -dsimp -implicitDefEqProofs (maxSteps := 800000) (disch := omega) only [go_sem, undef, reduceAdd, reduceSub, reduceGT, reduceEqDiff, reduceMul, prsP, vls, w64, hMp, hSet]
       refine hN _ ?_
       try clear hN N
       refine AW.regionL envOk ?_
       simp -dsimp -implicitDefEqProofs (maxSteps := 800000) (disch := omega) only [go_sem, undef, reduceAdd, reduceSub, reduceGT, reduceEqDiff, reduceMul, prsP, vls, w64, hF, one_viT, vi, tk_map]
       refine hN9 _ ?_
       try clear hN9 N9
       refine AW.regionL envOk ?_
       simp -dsimp -implicitDefEqProofs (maxSteps := 800000) (disch := omega) only [go_sem, undef, reduceAdd, reduceSub, reduceGT, reduceEqDiff, reduceMul, prsP, vls, w64, hAt, hLn, hRw, hId, hcl, List.take_length, List.length_map, splice_one]
       refine hN8 _ ?_
       try clear hN8 N8
       refine AW.nameH (fun G5 hG5 => ?_)
       dsimp only at hG5
       refine AW.regionL envOk ?_
       simp -dsimp -implicitDefEqProofs (maxSteps := 800000) (disch := omega) only [go_sem, undef, reduceAdd, reduceSub, reduceGT, reduceEqDiff, reduceMul, prsP, vls, w64]
       refine ⟨(j + 1, G5, m2 + 1 + 5 + 8 + 10 + 2 + 3 + 6 + 3, rs2.set j (.h (m2 + 1 + 5 + 8 + 10 + 2 + 3 + 6 + 5 + 8) 0 (i + 1)), fun k => if k = j then m2 + 1 + 5 + 8 + 10 + 2 + 3 + 6 + 5 + 8 else ids2 k), ?_, fun _ _ h => h, ?_, ?_⟩
       ·simp (disch := omega) [wks, wkA, sl, w64, ints, rows, cubes, prsP, vls, w64] <;> omega
       ·refine ⟨by first| omega| (simp only; omega)| (dsimp only; omega), ?_⟩
        dsimp only
        rw [hnx2]
        rw [show psI pts y = pts ++ [y] from by unfold psI; rw [if_pos hnew]]
        refine hS2.next (g := j) (v := (fsI pts y : Int)) (cells := (colJ (pc os pw cj) xs i j j).map (AV.i .i64) ++ [.i .i64 (pts.length : Int)]) (k := i) (by omega) (by omega) (by omega) (by omega) hcl ?_ ?_ ?_ (.inr (by omega)) (by omega) ?_ ?_ ?_ (fun k' _ => hcsj k')
        rotate_left 1
        ·rw [← hG5]; simp (disch := omega) only [upd_ne, upd_same]; rw [List.take_of_length_le (by rw [List.length_map]; omega)]
        ·rw [← hG5]; simp (disch := omega) only [upd_ne, upd_same]
        ·rw [← hG5, List.map_append]; simp (disch := omega) only [upd_ne, upd_same]; rfl
        ·rw [← hG5, mpF_app, Nat.zero_add]; simp (disch := omega) only [upd_ne, upd_same]
        ·intro i5 h51 h52 h53 h54 h55; rw [← hG5]; simp (disch := omega) only [upd_ne]
        ·rw [hnew]; simp
       ·first | omega | (simp only; omega)
      ·try simp only [cn] at h5
       first| done| (cases h5)| (exact absurd h5 (by simp))
     ·try simp only [cn] at h4
      have hjc : j = xs.length := by omega
      subst hjc
      have hlo2 : (otF (pc os pw cj) xs (i + 1)).1.length = pts.length := by rw [otF, hx0, ← hpts]
      refine AW.exit ?_
      simp only [thn, blk, if_true]
      refine hN3 _ ?_
      try clear hN3 N3
      refine AW.regionL envOk ?_
      simp -dsimp -implicitDefEqProofs (maxSteps := 800000) (disch := omega) only [go_sem, undef, reduceAdd, reduceSub, reduceGT, reduceEqDiff, reduceMul, prsP, vls, w64]
      refine ⟨(i + 1, G2, idf2, rs2, ids2), ?_, fun _ _ h => h, ?_, ?_⟩
      ·simp (disch := omega) [wks, wkA, sl, w64, ints, rows, cubes, prsP, vls, w64] <;> omega
      ·refine ⟨hbef2, ?_⟩
       ·have e : (otF (pc os pw cj) xs (i + 1)).1 = pts := by rw [otF, hx0]; exact hpts
        dsimp only
        rw [e]
        refine ⟨(hS2.t.mm (by first| omega| (simp only; omega)| (dsimp only; omega))).cong (fun g hg => (colJ_end hg).symm), hS2.f, hS2.p, hS2.n1, hS2.n2, hS2.n3, by first| omega| (simp only; omega)| (dsimp only; omega), by first| omega| (simp only; omega)| (dsimp only; omega)⟩
      ·first | omega | (simp only; omega)
    ·skip
     simp -dsimp -implicitDefEqProofs (maxSteps := 800000) (disch := omega) only [go_sem, undef, reduceAdd, reduceSub, reduceGT, reduceEqDiff, reduceMul]
     refine AW.sr envOk (fun N hN => ?_)
     simp -dsimp -implicitDefEqProofs (maxSteps := 800000) (disch := omega) only [go_sem, undef, reduceAdd, reduceSub, reduceGT, reduceEqDiff, reduceMul, prsP, vls, w64]
     refine hN _ ?_
     try clear hN N
     refine AW.seq (fun N10 hN10 => ?_)
     refine AW.cond rfl (fun h6 => ?_) (fun h6 => ?_)
     ·try simp only [cn] at h6
      have hxj : T (pc os pw cj) 0 (xs.getD j z0) := xs_T hxs (by omega)
      have hyT : T (pc os pw cj) 0 y := by rw [← hy]; exact hg.cl hxT hxj
      have hGet := mget_mp hpr hyT pts 0 (hPi hj).1
      have hmu := (impl_multiply_ok os pw cj h 0 hc x0 (xs.getD j z0) hxT hxj).pure
      rw [hy] at hmu
      have hnu := impl_numberOf_ok os pw cj h y hyT
      have hlt : fsI pts y < pts.length := by have := (fsI_sp (y := y) pts).1; omega
      rw [if_pos hlt, Nat.zero_add] at hGet
      have hSet := hGet
      have hln2 : (inF (pc os pw cj) xs x0 (j + 1) (otF (pc os pw cj) xs i).1).1.length = pts.length := by rw [hnx2]; unfold psI; rw [if_neg hnew]
      have hRw : rs2.getD j .j = .nl := by
       rcases hS2.t.row j (by omega) with q | q
       ·exact q.2
       ·have := q.1; omega
      have hId := hF
      refine AW.skip ?_
      simp only [thn, blk]
      refine hN10 _ ?_
      try clear hN10 N10
      refine AW.seq (fun N11 hN11 => ?_)
      refine AW.block ?_
      refine AW.sr envOk (fun N hN => ?_)
      simp -dsimp -implicitDefEqProofs (maxSteps := 800000) (disch := omega) only [go_sem, undef, reduceAdd, reduceSub, reduceGT, reduceEqDiff, reduceMul, prsP, vls, w64]
      refine hN _ ?_
      try clear hN N
      refine AW.sr envOk (fun N hN => ?_)
      simp -dsimp -implicitDefEqProofs (maxSteps := 800000) (disch := omega) only [go_sem, undef, reduceAdd, reduceSub, reduceGT, reduceEqDiff, reduceMul, prsP, vls, w64, hF, hgf]
      refine AC.pure (.of (hmu )) ?_
      try simp -dsimp -implicitDefEqProofs (maxSteps := 800000) (disch := omega) only [go_sem, undef, reduceAdd, reduceSub, reduceGT, reduceEqDiff, reduceMul, prsP, vls, w64]
      refine hN _ ?_
      try clear hN N
      refine AW.sr envOk (fun N hN => ?_)
      simp -dsimp -implicitDefEqProofs (maxSteps := 800000) (disch := omega) only [go_sem, undef, reduceAdd, reduceSub, reduceGT, reduceEqDiff, reduceMul, prsP, vls, w64, hMp, hGet]
      refine AC.pure (.of (hnu )) ?_
      try simp -dsimp -implicitDefEqProofs (maxSteps := 800000) (disch := omega) only [go_sem, undef, reduceAdd, reduceSub, reduceGT, reduceEqDiff, reduceMul, prsP, vls, w64, hMp, hGet]
      refine hN _ ?_
      try clear hN N
      refine AW.seq (fun N12 hN12 => ?_)
      refine AW.sr envOk (fun N hN => ?_)
      simp -dsimp -implicitDefEqProofs (maxSteps := 800000) (disch := omega) only [go_sem, undef, reduceAdd, reduceSub, reduceGT, reduceEqDiff, reduceMul, prsP, vls, w64]
      refine hN _ ?_
      try clear hN N
      refine AW.cond rfl (fun h7 => ?_) (fun h7 => ?_)
      ·try simp only [cn] at h7
       first| done| (cases h7)| (exact absurd h7 (by simp))
      ·try simp only [cn] at h7
       refine AW.skip ?_
       simp only [thn, blk]
       refine hN12 _ ?_
       try clear hN12 N12
       refine AW.regionL envOk ?_
       simp -dsimp -implicitDefEqProofs (maxSteps := 800000) (disch := omega) only [go_sem, undef, reduceAdd, reduceSub, reduceGT, reduceEqDiff, reduceMul, prsP, vls, w64, hAt, hLn, hRw, hId, hcl, List.take_length, List.length_map, splice_one]
       refine hN11 _ ?_
       try clear hN11 N11
       refine AW.nameH (fun G5 hG5 => ?_)
       dsimp only at hG5
       refine AW.regionL envOk ?_
       simp -dsimp -implicitDefEqProofs (maxSteps := 800000) (disch := omega) only [go_sem, undef, reduceAdd, reduceSub, reduceGT, reduceEqDiff, reduceMul, prsP, vls, w64]
       refine ⟨(j + 1, G5, idf2, rs2.set j (.h (m2 + 1 + 5 + 8 + 10 + 2 + 8) 0 (0 + 1)), fun k => if k = j then m2 + 1 + 5 + 8 + 10 + 2 + 8 else ids2 k), ?_, fun _ _ h => h, ?_, ?_⟩
       ·simp (disch := omega) [wks, wkA, sl, w64, ints, rows, cubes, prsP, vls, w64] <;> omega
       ·refine ⟨by first| omega| (simp only; omega)| (dsimp only; omega), ?_⟩
        dsimp only
        rw [hnx2]
        rw [show psI pts y = pts from by unfold psI; rw [if_neg hnew]]
        refine hS2.next (g := j) (v := (fsI pts y : Int)) (cells := [.i .i64 (fsI pts y : Int)]) (k := 0) (by omega) (by omega) (by omega) (by omega) (hcl.trans hi0) ?_ ?_ ?_ (.inl rfl) (by omega) ?_ ?_ ?_ (fun k' _ => hcsj k')
        rotate_left 1
        ·rw [← hG5]; simp (disch := omega) only [upd_ne, upd_same]
        ·rw [← hG5]; simp (disch := omega) only [upd_ne, upd_same]
        ·rw [← hG5]; simp (disch := omega) only [upd_ne, upd_same]; exact hF
        ·rw [← hG5]; simp (disch := omega) only [upd_ne, upd_same]; exact hMp
        ·intro i5 h51 h52 h53 h54 h55; rw [← hG5]; simp (disch := omega) only [upd_ne]
        ·rw [List.length_eq_zero_iff.1 (hcl.trans hi0)]; rfl
       ·first | omega | (simp only; omega)
     ·try simp only [cn] at h6
      have hjc : j = xs.length := by omega
      subst hjc
      have hlo2 : (otF (pc os pw cj) xs (i + 1)).1.length = pts.length := by rw [otF, hx0, ← hpts]
      refine AW.exit ?_
      simp only [thn, blk, if_true]
      refine hN3 _ ?_
      try clear hN3 N3
      refine AW.regionL envOk ?_
      simp -dsimp -implicitDefEqProofs (maxSteps := 800000) (disch := omega) only [go_sem, undef, reduceAdd, reduceSub, reduceGT, reduceEqDiff, reduceMul, prsP, vls, w64]
      refine ⟨(i + 1, G2, idf2, rs2, ids2), ?_, fun _ _ h => h, ?_, ?_⟩
      ·simp (disch := omega) [wks, wkA, sl, w64, ints, rows, cubes, prsP, vls, w64] <;> omega
      ·refine ⟨hbef2, ?_⟩
       ·have e : (otF (pc os pw cj) xs (i + 1)).1 = pts := by rw [otF, hx0]; exact hpts
        dsimp only
        rw [e]
        refine ⟨(hS2.t.mm (by first| omega| (simp only; omega)| (dsimp only; omega))).cong (fun g hg => (colJ_end hg).symm), hS2.f, hS2.p, hS2.n1, hS2.n2, hS2.n3, by first| omega| (simp only; omega)| (dsimp only; omega), by first| omega| (simp only; omega)| (dsimp only; omega)⟩
      ·first | omega | (simp only; omega)
    ·skip
     simp -dsimp -implicitDefEqProofs (maxSteps := 800000) (disch := omega) only [go_sem, undef, reduceAdd, reduceSub, reduceGT, reduceEqDiff, reduceMul]
     refine AW.sr envOk (fun N hN => ?_)
     simp -dsimp -implicitDefEqProofs (maxSteps := 800000) (disch := omega) only [go_sem, undef, reduceAdd, reduceSub, reduceGT, reduceEqDiff, reduceMul, prsP, vls, w64]
     refine hN _ ?_
     try clear hN N
     refine AW.seq (fun N13 hN13 => ?_)
     refine AW.cond rfl (fun h8 => ?_) (fun h8 => ?_)
     ·try simp only [cn] at h8
      have hxj : T (pc os pw cj) 0 (xs.getD j z0) := xs_T hxs (by omega)
      have hyT : T (pc os pw cj) 0 y := by rw [← hy]; exact hg.cl hxT hxj
      have hGet := mget_mp hpr hyT pts 0 (hPi hj).1
      have hmu := (impl_multiply_ok os pw cj h 0 hc x0 (xs.getD j z0) hxT hxj).pure
      rw [hy] at hmu
      have hnu := impl_numberOf_ok os pw cj h y hyT
      have hlt : fsI pts y < pts.length := by have := (fsI_sp (y := y) pts).1; omega
      rw [if_pos hlt, Nat.zero_add] at hGet
      have hSet := hGet
      have hln2 : (inF (pc os pw cj) xs x0 (j + 1) (otF (pc os pw cj) xs i).1).1.length = pts.length := by rw [hnx2]; unfold psI; rw [if_neg hnew]
      obtain ⟨-, hRw, hId, hIb, hIc⟩ : 0 < (colJ (pc os pw cj) xs i j j).length ∧ rs2.getD j .j = .h (ids2 j) 0 (colJ (pc os pw cj) xs i j j).length ∧ G2 (ids2 j) = some ((colJ (pc os pw cj) xs i j j).map (.i .i64)) ∧ (nx ≤ ids2 j ∧ ids2 j < m2) ∧ ids2 j ≠ nx + 13 + 2 ∧ ids2 j ≠ idf2 ∧ ids2 j ≠ nx + 9 := by
       rcases hS2.t.row j (by omega) with q | q
       ·have := congrArg List.length q.1; rw [hcl] at this; exact absurd this hi0
       ·exact q
      refine AW.skip ?_
      simp only [thn, blk]
      refine hN13 _ ?_
      try clear hN13 N13
      refine AW.seq (fun N14 hN14 => ?_)
      refine AW.block ?_
      refine AW.sr envOk (fun N hN => ?_)
      simp -dsimp -implicitDefEqProofs (maxSteps := 800000) (disch := omega) only [go_sem, undef, reduceAdd, reduceSub, reduceGT, reduceEqDiff, reduceMul, prsP, vls, w64]
      refine hN _ ?_
      try clear hN N
      refine AW.sr envOk (fun N hN => ?_)
      simp -dsimp -implicitDefEqProofs (maxSteps := 800000) (disch := omega) only [go_sem, undef, reduceAdd, reduceSub, reduceGT, reduceEqDiff, reduceMul, prsP, vls, w64, hF, hgf]
      refine AC.pure (.of (hmu )) ?_
      try simp -dsimp -implicitDefEqProofs (maxSteps := 800000) (disch := omega) only [go_sem, undef, reduceAdd, reduceSub, reduceGT, reduceEqDiff, reduceMul, prsP, vls, w64]
      refine hN _ ?_
      try clear hN N
      refine AW.sr envOk (fun N hN => ?_)
      simp -dsimp -implicitDefEqProofs (maxSteps := 800000) (disch := omega) only [go_sem, undef, reduceAdd, reduceSub, reduceGT, reduceEqDiff, reduceMul, prsP, vls, w64, hMp, hGet]
      refine AC.pure (.of (hnu )) ?_
      try simp -dsimp -implicitDefEqProofs (maxSteps := 800000) (disch := omega) only [go_sem, undef, reduceAdd, reduceSub, reduceGT, reduceEqDiff, reduceMul, prsP, vls, w64, hMp, hGet]
      refine hN _ ?_
      try clear hN N
      refine AW.seq (fun N15 hN15 => ?_)
      refine AW.sr envOk (fun N hN => ?_)
      simp -dsimp -implicitDefEqProofs (maxSteps := 800000) (disch := omega) only [go_sem, undef, reduceAdd, reduceSub, reduceGT, reduceEqDiff, reduceMul, prsP, vls, w64]
      refine hN _ ?_
      try clear hN N
      refine AW.cond rfl (fun h9 => ?_) (fun h9 => ?_)
      ·try simp only [cn] at h9
       first| done| (cases h9)| (exact absurd h9 (by simp))
      ·try simp only [cn] at h9
       refine AW.skip ?_
       simp only [thn, blk]
       refine hN15 _ ?_
       try clear hN15 N15
       refine AW.regionL envOk ?_
       simp -dsimp -implicitDefEqProofs (maxSteps := 800000) (disch := omega) only [go_sem, undef, reduceAdd, reduceSub, reduceGT, reduceEqDiff, reduceMul, prsP, vls, w64, hAt, hLn, hRw, hId, hcl, List.take_length, List.length_map, splice_one]
       refine hN14 _ ?_
       try clear hN14 N14
       refine AW.nameH (fun G5 hG5 => ?_)
       dsimp only at hG5
       refine AW.regionL envOk ?_
       simp -dsimp -implicitDefEqProofs (maxSteps := 800000) (disch := omega) only [go_sem, undef, reduceAdd, reduceSub, reduceGT, reduceEqDiff, reduceMul, prsP, vls, w64]
       refine ⟨(j + 1, G5, idf2, rs2.set j (.h (m2 + 1 + 5 + 8 + 10 + 2 + 8) 0 (i + 1)), fun k => if k = j then m2 + 1 + 5 + 8 + 10 + 2 + 8 else ids2 k), ?_, fun _ _ h => h, ?_, ?_⟩
       ·simp (disch := omega) [wks, wkA, sl, w64, ints, rows, cubes, prsP, vls, w64] <;> omega
       ·refine ⟨by first| omega| (simp only; omega)| (dsimp only; omega), ?_⟩
        dsimp only
        rw [hnx2]
        rw [show psI pts y = pts from by unfold psI; rw [if_neg hnew]]
        refine hS2.next (g := j) (v := (fsI pts y : Int)) (cells := (colJ (pc os pw cj) xs i j j).map (AV.i .i64) ++ [.i .i64 (fsI pts y : Int)]) (k := i) (by omega) (by omega) (by omega) (by omega) hcl ?_ ?_ ?_ (.inl rfl) (by omega) ?_ ?_ ?_ (fun k' _ => hcsj k')
        rotate_left 1
        ·rw [← hG5]; simp (disch := omega) only [upd_ne, upd_same]; rw [List.take_of_length_le (by rw [List.length_map]; omega)]
        ·rw [← hG5]; simp (disch := omega) only [upd_ne, upd_same]
        ·rw [← hG5]; simp (disch := omega) only [upd_ne, upd_same]; exact hF
        ·rw [← hG5]; simp (disch := omega) only [upd_ne, upd_same]; exact hMp
        ·intro i5 h51 h52 h53 h54 h55; rw [← hG5]; simp (disch := omega) only [upd_ne]
        ·simp
       ·first | omega | (simp only; omega)
     ·try simp only [cn] at h8
      have hjc : j = xs.length := by omega
      subst hjc
      have hlo2 : (otF (pc os pw cj) xs (i + 1)).1.length = pts.length := by rw [otF, hx0, ← hpts]
      refine AW.exit ?_
      simp only [thn, blk, if_true]
      refine hN3 _ ?_
      try clear hN3 N3
      refine AW.regionL envOk ?_
      simp -dsimp -implicitDefEqProofs (maxSteps := 800000) (disch := omega) only [go_sem, undef, reduceAdd, reduceSub, reduceGT, reduceEqDiff, reduceMul, prsP, vls, w64]
      refine ⟨(i + 1, G2, idf2, rs2, ids2), ?_, fun _ _ h => h, ?_, ?_⟩
      ·simp (disch := omega) [wks, wkA, sl, w64, ints, rows, cubes, prsP, vls, w64] <;> omega
      ·refine ⟨hbef2, ?_⟩
       ·have e : (otF (pc os pw cj) xs (i + 1)).1 = pts := by rw [otF, hx0]; exact hpts
        dsimp only
        rw [e]
        refine ⟨(hS2.t.mm (by first| omega| (simp only; omega)| (dsimp only; omega))).cong (fun g hg => (colJ_end hg).symm), hS2.f, hS2.p, hS2.n1, hS2.n2, hS2.n3, by first| omega| (simp only; omega)| (dsimp only; omega), by first| omega| (simp only; omega)| (dsimp only; omega)⟩
      ·first | omega | (simp only; omega)
  ·try simp only [cn] at h1
   refine AW.exit ?_
   simp only [thn, blk, if_true]
   refine hN1 _ ?_
   try clear hN1 N1
   refine AW.sr envOk (fun N hN => ?_)
   simp -dsimp -implicitDefEqProofs (maxSteps := 800000) (disch := omega) only [go_sem, undef, reduceAdd, reduceSub, reduceGT, reduceEqDiff, reduceMul, prsP, vls, w64]
   refine hN _ ?_
   try clear hN N
   refine AW.ret ?_
   simp -dsimp -implicitDefEqProofs (maxSteps := 800000) (disch := omega) only [go_sem, undef, reduceAdd, reduceSub, reduceGT, reduceEqDiff, reduceMul]
   have hq : CyQ (pc os pw cj) xs i := ⟨by have := otF_ge (P := pc os pw cj) (xs := xs) hbef; omega, hbef⟩
   rw [tabL, cyN_eq hq]
   obtain ⟨is, ho⟩ := hS.t.own
   exact ⟨is, ho.keep (fun _ _ _ => rfl) (Nat.le_refl _) (by omega)⟩
end
end Go.Proofs.Ytnlfbimjcabgiaa
