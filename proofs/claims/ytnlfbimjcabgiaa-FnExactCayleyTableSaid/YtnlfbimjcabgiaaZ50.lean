import Derived.Test.YtnlfbimjcabgiaaZ49
set_option linter.unusedVariables false
set_option linter.unusedSimpArgs false
namespace Go.Proofs.Ytnlfbimjcabgiaa
open Nat (reduceAdd reduceSub reduceGT reduceEqDiff reduceMul)
structure CsJ (os : List Int) (a m ob idf : Nat) (G : HP) (c : Nat) (pts : List V) (col : Nat → List Int) (rs : List AV) (ids : Nat → Nat) : Prop where
  t : CtI a m ob idf ob G c col rs ids
  f : G idf = some (pts.map (vi os.length))
  n1 : idf ≠ ob
  b1 : a ≤ idf ∧ idf < m
theorem CsJ.mm {os : List Int} {a m m' ob idf : Nat} {G : HP} {c : Nat} {pts : List V} {col : Nat → List Int} {rs : List AV} {ids : Nat → Nat} (h : CsJ os a m ob idf G c pts col rs ids) (hm : m ≤ m') : CsJ os a m' ob idf G c pts col rs ids :=
  ⟨h.t.mm hm, h.f, h.n1, by have := h.b1; omega⟩
theorem CsJ.next {os : List Int} {a m m' ob idf idf' : Nat} {G G' : HP} {c : Nat} {pts pts' : List V} {col col' : Nat → List Int} {rs : List AV} {ids : Nat → Nat} (h : CsJ os a m ob idf G c pts col rs ids) {g : Nat} (hg : g < c) {v : Int} {nid k : Nat} {cells : List AV}
    (hn : m ≤ nid) (hn' : nid < m') (hm : m ≤ m') (hk : (col g).length = k) (hcell : cells = (col g ++ [v]).map (.i .i64)) (hG1 : G' nid = some cells) (hG2 : G' ob = some (rs.set g (.h nid 0 (k + 1)))) (hf' : idf' = idf ∨ (m ≤ idf' ∧ idf' < m')) (hne : nid ≠ idf')
    (hF : G' idf' = some (pts'.map (vi os.length))) (hG3 : ∀ i, i < m → i ≠ ob → i ≠ idf → (0 < k → i ≠ ids g) → G' i = G i) (hcol : ∀ k', k' < c → col' k' = if k' = g then col g ++ [v] else col k') :
    CsJ os a m' ob idf' G' c pts' col' (rs.set g (.h nid 0 (k + 1))) (fun k => if k = g then nid else ids k) := by
  subst hcell
  have b1 := h.b1
  have hhi := h.t.hi
  have n1 := h.n1
  have ht := h.t.set (m' := m') (f1' := idf') (G' := G') (v := v) hg hn hn' hm hG1 (by rw [hk]; exact hG2) (hf'.imp id fun q => q.1) hhi hne (by rw [hk]; exact fun i q1 q2 q3 _ q5 => hG3 i q1 q2 q3 q5) b1.2
  rw [hk] at ht
  refine ⟨ht.cong hcol, hF, ?_, ?_⟩
  · rcases hf' with q | q
    · rw [q]; exact n1
    · omega
  · rcases hf' with q | q
    · rw [q]; omega
    · have := h.t.lo; omega
section
variable (os : List Int) (pw : List (List Int)) (cj : List (List (List Int)))
set_option maxRecDepth 20000 in
set_option maxHeartbeats 2000000 in
theorem spec_l27Table_ok (h : presOk os pw cj) (hc : Con (pc os pw cj) 0) (xs : List V) (hl : xs.length ≤ 4) (hxs : ∀ x ∈ xs, T (pc os pw cj) 0 x) : ACp Try.prog 24 [prs os pw cj, vls os.length xs] (rows (tabL (pc os pw cj) xs)) := by
 have hn6 := h.1.1
 have hv := h.val
 have hg := con_grp hv hc
 have hpr := h.2.1
 have h729 := h.2.2.1
 refine ACp.introV envOk Try.func24 rfl (by kernel_rfl) Try.ntmps24 Try.results24 ((rows_nr _)) (fun nx => ?_)
 refine AW.sr envOk (fun N hN => ?_)
 simp -dsimp -implicitDefEqProofs (maxSteps := 800000) (disch := omega) only [go_sem, undef, reduceAdd, reduceSub, reduceGT, reduceEqDiff, reduceMul, prs, prsP, vls, w64, vi]
 refine hN _ ?_
 try clear hN N
 refine AW.freezeQ 2 nx _ rfl (upd_same _ _ _) ?_
 simp -dsimp -implicitDefEqProofs (maxSteps := 800000) (disch := omega) only [go_sem, undef, reduceAdd, reduceSub, reduceGT, reduceEqDiff, reduceMul]
 refine AW.sr envOk (fun N hN => ?_)
 simp -dsimp -implicitDefEqProofs (maxSteps := 800000) (disch := omega) only [go_sem, undef, reduceAdd, reduceSub, reduceGT, reduceEqDiff, reduceMul, prs, prsP, vls, w64, vi]
 refine hN _ ?_
 try clear hN N
 refine AW.sr envOk (fun N hN => ?_)
 simp -dsimp -implicitDefEqProofs (maxSteps := 800000) (disch := omega) only [go_sem, undef, reduceAdd, reduceSub, reduceGT, reduceEqDiff, reduceMul, prs, prsP, vls, w64, vi]
 refine AC.pure (.of (spec_l10One_ok os pw cj (by omega) )) ?_
 try simp -dsimp -implicitDefEqProofs (maxSteps := 800000) (disch := omega) only [go_sem, undef, reduceAdd, reduceSub, reduceGT, reduceEqDiff, reduceMul, prs, prsP, vls, w64, vi]
 refine hN _ ?_
 try clear hN N
 refine AW.seq (fun N1 hN1 => ?_)
 refine AW.sr envOk (fun N hN => ?_)
 simp -dsimp -implicitDefEqProofs (maxSteps := 800000) (disch := omega) only [go_sem, undef, reduceAdd, reduceSub, reduceGT, reduceEqDiff, reduceMul, prs, prsP, vls, w64, vi]
 refine hN _ ?_
 try clear hN N
 refine AW.block ?_
 refine AW.nameH (fun G0 hG0 => ?_)
 dsimp only at hG0
 have hS0 : ∀ m, nx + 10 ≤ m → CsJ os nx m (nx + 4) (nx + 8) G0 xs.length (otF (pc os pw cj) xs 0).1 (colJ (pc os pw cj) xs 0 0) (List.replicate xs.length .nl) (fun _ => 0) := by
  intro m hm
  refine ⟨CtI.start ?_ (by omega) (by omega) (fun g hg => by rw [colJ_0]; rfl), ?_, by omega, by omega⟩
  ·rw [← hG0]; simp (disch := omega) only [upd_ne, upd_same]
  ·rw [← hG0]; simp (disch := omega) only [upd_ne, upd_same]; rfl
 refine AW.loopN (α := Nat × HP × Nat × List AV × (Nat → Nat)) (fun x => sl 73 [(1, vls os.length xs), (2, prsP os pw cj), (5, .h (nx + 4) 0 xs.length), (6, .h x.2.2.1 0 (otF (pc os pw cj) xs x.1).1.length), (7, .i .i64 x.1)]) (fun x => x.2.1) (fun x m => (∀ i', i' < x.1 → i' < (otF (pc os pw cj) xs i').1.length) ∧ CsJ os nx m (nx + 4) x.2.2.1 x.2.1 xs.length (otF (pc os pw cj) xs x.1).1 (colJ (pc os pw cj) xs x.1 0) x.2.2.2.1 x.2.2.2.2) (fun x => 729 - x.1) ((0, G0, nx + 8, List.replicate xs.length .nl, fun _ => 0)) ?_ ?_ (fun _ _ h => h) ?_
 ·exact ⟨by simp, hS0 _ (by first| omega| (simp only; omega)| (dsimp only; omega))⟩
 ·simp (disch := omega) [wks, wkA, sl, prsP, ints, rows, cubes, vls, otF]
 ·skip
  rintro ⟨i, G, idf, rs, ids⟩ m ⟨hbef, hS⟩
  dsimp only at hbef hS
  have hPt := PtI.otF hv hc hxs i hbef
  have hPl := hPt.len h
  simp only [prsP]
  simp -dsimp -implicitDefEqProofs (maxSteps := 800000) (disch := omega) only [go_sem, undef, reduceAdd, reduceSub, reduceGT, reduceEqDiff, reduceMul]
  refine AW.seq (fun N2 hN2 => ?_)
  refine AW.sr envOk (fun N hN => ?_)
  simp -dsimp -implicitDefEqProofs (maxSteps := 800000) (disch := omega) only [go_sem, undef, reduceAdd, reduceSub, reduceGT, reduceEqDiff, reduceMul, prs, prsP, vls, w64, vi]
  refine hN _ ?_
  try clear hN N
  refine AW.cond rfl (fun h1 => ?_) (fun h1 => ?_)
  ·try simp only [cn] at h1
   have hil : i < (otF (pc os pw cj) xs i).1.length := by omega
   obtain ⟨x0, hx0⟩ : ∃ x, (otF (pc os pw cj) xs i).1.getD i z0 = x := ⟨_, rfl⟩
   have hxT : T (pc os pw cj) 0 x0 := by rw [← hx0]; exact hPt.1 _ (by rw [List.getD_eq_getElem?_getD, List.getElem?_eq_getElem hil]; exact List.getElem_mem _)
   have hcs := fun j g => colJ_s (P := (pc os pw cj)) (xs := xs) (i := i) (j := j) (g := g)
   rw [hx0] at hcs
   have hbef2 : ∀ i', i' < i + 1 → i' < (otF (pc os pw cj) xs i').1.length := fun i' hi' => by
    rcases Nat.lt_or_ge i' i with q | q
    ·exact hbef i' q
    ·obtain rfl : i' = i := by omega
     exact hil
   refine AW.skip ?_
   simp only [thn, blk]
   refine hN2 _ ?_
   try clear hN2 N2
   refine AW.seq (fun N3 hN3 => ?_)
   refine AW.block ?_
   refine AW.sr envOk (fun N hN => ?_)
   simp -dsimp -implicitDefEqProofs (maxSteps := 800000) (disch := omega) only [go_sem, undef, reduceAdd, reduceSub, reduceGT, reduceEqDiff, reduceMul, prs, prsP, vls, w64, vi]
   refine hN _ ?_
   try clear hN N
   refine AW.block ?_
   refine AW.loopN (α := Nat × HP × Nat × List AV × (Nat → Nat)) (fun x => sl 73 [(1, vls os.length xs), (2, prsP os pw cj), (5, .h (nx + 4) 0 xs.length), (6, .h x.2.2.1 0 (inF (pc os pw cj) xs x0 x.1 (otF (pc os pw cj) xs i).1).1.length), (7, .i .i64 i), (8, .i .i64 x.1)]) (fun x => x.2.1) (fun x m => x.1 ≤ xs.length ∧ CsJ os nx m (nx + 4) x.2.2.1 x.2.1 xs.length (inF (pc os pw cj) xs x0 x.1 (otF (pc os pw cj) xs i).1).1 (colJ (pc os pw cj) xs i x.1) x.2.2.2.1 x.2.2.2.2) (fun x => xs.length - x.1) ((0, G, idf, rs, ids)) ?_ ?_ (fun _ _ h => h) ?_
   ·exact ⟨by simp, hS.mm (by first| omega| (simp only; omega)| (dsimp only; omega))⟩
   ·simp (disch := omega) [wks, wkA, sl, prsP, ints, rows, cubes, vls, inF]
   ·skip
    rintro ⟨j, G2, idf2, rs2, ids2⟩ m2 ⟨hj, hS2⟩
    dsimp only at hj hS2
    have hPi := fun hj2 => PtI.inF hv hc hxs hxT hPt j hj2
    have hgi := inF_get (P := (pc os pw cj)) (xs := xs) (x := x0) (pts := (otF (pc os pw cj) xs i).1) (j := j) hil
    rw [hx0] at hgi
    obtain ⟨pts, hpts⟩ : ∃ p, (inF (pc os pw cj) xs x0 j (otF (pc os pw cj) xs i).1).1 = p := ⟨_, rfl⟩
    obtain ⟨y, hy⟩ : ∃ y, M (pc os pw cj) 0 x0 (xs.getD j z0) = y := ⟨_, rfl⟩
    have hnx2 : (inF (pc os pw cj) xs x0 (j + 1) (otF (pc os pw cj) xs i).1).1 = psI pts y := by rw [inF, hpts, hy]
    have hcsj := hcs j
    rw [hpts, hy] at hcsj
    dsimp only
    rw [hpts] at hS2 hPi hgi ⊢
    have hPl2 := (hPi hj).len h
    have hF := hS2.f
    have hAt := hS2.t.at'
    have hLn := hS2.t.len
    have hn1 := hS2.n1
    have hb1 := hS2.b1
    have hhi := hS2.t.hi
    have hgf : (pts.map (vi os.length)).getD i .j = vi os.length x0 := by rw [vls_get (by omega), hgi.1]
    have hcl := colJ_len (P := (pc os pw cj)) (xs := xs) (i := i) (j := j) (g := j)
    rw [if_neg (by omega)] at hcl
    by_cases hi0 : i = 0
    ·skip
     simp only [prsP]
     simp -dsimp -implicitDefEqProofs (maxSteps := 800000) (disch := omega) only [go_sem, undef, reduceAdd, reduceSub, reduceGT, reduceEqDiff, reduceMul]
     refine AW.seq (fun N4 hN4 => ?_)
     refine AW.sr envOk (fun N hN => ?_)
     simp -dsimp -implicitDefEqProofs (maxSteps := 800000) (disch := omega) only [go_sem, undef, reduceAdd, reduceSub, reduceGT, reduceEqDiff, reduceMul, prs, prsP, vls, w64, vi]
     refine hN _ ?_
     try clear hN N
     refine AW.cond rfl (fun h2 => ?_) (fun h2 => ?_)
     ·try simp only [cn] at h2
      have hxj : T (pc os pw cj) 0 (xs.getD j z0) := xs_T hxs (by omega)
      have hyT : T (pc os pw cj) 0 y := by rw [← hy]; exact hg.cl hxT hxj
      have hmu := spec_l08Mul_ok os pw cj h x0 (xs.getD j z0) hxT hxj
      rw [hy] at hmu
      have hRw : rs2.getD j .j = .nl := by
       rcases hS2.t.row j (by omega) with q | q
       ·exact q.2
       ·have := q.1; omega
      have hId := hF
      refine AW.skip ?_
      simp only [thn, blk]
      refine hN4 _ ?_
      try clear hN4 N4
      refine AW.seq (fun N5 hN5 => ?_)
      refine AW.block ?_
      refine AW.seq (fun N hN => ?_)
      refine AW.drawL envOk (by kernel_rfl) 11 (by kernel_rfl) ?_
      simp -dsimp -implicitDefEqProofs (maxSteps := 800000) (disch := omega) only [hr_nil, hr_one, hr_if, List.take_succ_cons, List.take_zero, List.drop_succ_cons, List.drop_zero, List.take_nil, List.drop_nil, go_sem, undef, reduceAdd, reduceSub, reduceGT, reduceEqDiff, reduceMul, prs, prsP, vls, w64, vi, hF, hgf]
      refine ⟨_, .of (hmu ), ?_⟩
      try simp -dsimp -implicitDefEqProofs (maxSteps := 800000) (disch := omega) only [go_sem, undef, reduceAdd, reduceSub, reduceGT, reduceEqDiff, reduceMul, prs, prsP, vls, w64, vi]
      refine hN _ ?_
      try clear hN N
      refine AW.sr envOk (fun N hN => ?_)
      simp -dsimp -implicitDefEqProofs (maxSteps := 800000) (disch := omega) only [go_sem, undef, reduceAdd, reduceSub, reduceGT, reduceEqDiff, reduceMul, prs, prsP, vls, w64, vi]
      refine hN _ ?_
      try clear hN N
      refine AW.seq (fun N6 hN6 => ?_)
      refine AW.block ?_
      refine AW.loopN (α := Nat) (fun x => sl 73 [(1, vls os.length xs), (2, prsP os pw cj), (5, .h (nx + 4) 0 xs.length), (6, .h idf2 0 pts.length), (7, .i .i64 i), (8, .i .i64 j), (9, vi os.length y), (10, .i .i64 x)]) (fun _ => G2) (fun x m => x ≤ pts.length ∧ m2 + 5 ≤ m ∧ ∀ k', k' < x → pts.getD k' z0 ≠ y) (fun x => pts.length - x) (0) ?_ ?_ (fun _ _ h => h) ?_
      ·exact ⟨by simp, by first| omega| (simp only; omega)| (dsimp only; omega), by simp⟩
      ·simp (disch := omega) [wks, wkA, sl, prsP, ints, rows, cubes, vls, vi]
      ·skip
       rintro k m3 ⟨hk, hm3, hbk⟩
       try dsimp only at hk hbk ⊢
       simp only [prsP, vi]
       simp -dsimp -implicitDefEqProofs (maxSteps := 800000) (disch := omega) only [go_sem, undef, reduceAdd, reduceSub, reduceGT, reduceEqDiff, reduceMul]
       refine AW.seq (fun N7 hN7 => ?_)
       refine AW.sr envOk (fun N hN => ?_)
       simp -dsimp -implicitDefEqProofs (maxSteps := 800000) (disch := omega) only [go_sem, undef, reduceAdd, reduceSub, reduceGT, reduceEqDiff, reduceMul, prs, prsP, vls, w64, vi, hF]
       refine gopB.mk' (fun h3 => ?_) (fun h3 => ?_)
       ·try simp only [cn] at h3
        have hkT : T (pc os pw cj) 0 (pts.getD k z0) := (hPi hj).1 _ (by rw [List.getD_eq_getElem?_getD, List.getElem?_eq_getElem (show k < pts.length by omega)]; exact List.getElem_mem _)
        try simp -dsimp -implicitDefEqProofs (maxSteps := 800000) (disch := omega) only [go_sem, undef, reduceAdd, reduceSub, reduceGT, reduceEqDiff, reduceMul, prs, prsP, vls, w64, vi]
        try simp -dsimp -implicitDefEqProofs (maxSteps := 800000) (disch := omega) only [go_sem, undef, reduceAdd, reduceSub, reduceGT, reduceEqDiff, reduceMul, prs, prsP, vls, w64, vi, hF]
        refine AC.pure (.of (spec_l01Same_T (by omega) hkT hyT )) ?_
        try simp -dsimp -implicitDefEqProofs (maxSteps := 800000) (disch := omega) only [go_sem, undef, reduceAdd, reduceSub, reduceGT, reduceEqDiff, reduceMul, prs, prsP, vls, w64, vi]
        refine hN _ ?_
        try clear hN N
        refine AW.cond rfl (fun h4 => ?_) (fun h4 => ?_)
        ·try simp only [cn] at h4
         have hbk9 : ∀ k', k' < k + 1 → pts.getD k' z0 ≠ y := fun k' hk' => by
          rcases Nat.lt_or_ge k' k with q1 | q1
          ·exact hbk k' q1
          ·obtain rfl : k' = k := by omega
           exact h4
         refine AW.skip ?_
         simp only [thn, blk]
         refine hN7 _ ?_
         try clear hN7 N7
         refine AW.block ?_
         refine AW.regionL envOk ?_
         simp -dsimp -implicitDefEqProofs (maxSteps := 800000) (disch := omega) only [go_sem, undef, reduceAdd, reduceSub, reduceGT, reduceEqDiff, reduceMul, prs, prsP, vls, w64, vi]
         refine ⟨k + 1, ?_, fun _ _ h => h, ?_, ?_⟩
         ·simp (disch := omega) [wks, wkA, sl, w64, ints, rows, cubes, prs, prsP, vls, w64, vi] <;> omega
         ·first| exact hbk9| exact ⟨by first| omega| (simp only; omega)| (dsimp only; omega), hbk9⟩| exact ⟨by first| omega| (simp only; omega)| (dsimp only; omega), by first| omega| (simp only; omega)| (dsimp only; omega), hbk9⟩
         ·first | omega | (simp only; omega)
        ·try simp only [cn] at h4
         refine AW.exit ?_
         simp only [thn, blk, if_true]
         refine hN6 _ ?_
         try clear hN6 N6
         refine AW.seq (fun N8 hN8 => ?_)
         refine AW.sr envOk (fun N hN => ?_)
         simp -dsimp -implicitDefEqProofs (maxSteps := 800000) (disch := omega) only [go_sem, undef, reduceAdd, reduceSub, reduceGT, reduceEqDiff, reduceMul, prs, prsP, vls, w64, vi]
         refine hN _ ?_
         try clear hN N
         refine AW.cond rfl (fun h5 => ?_) (fun h5 => ?_)
         ·try simp only [cn] at h5
          exfalso; omega
         ·try simp only [cn] at h5
          have hfs : fsI pts y = k := fsI_of (by omega) hbk (fun _ => h4)
          have hnew : ¬fsI pts y = pts.length := by omega
          have hln2 : (inF (pc os pw cj) xs x0 (j + 1) (otF (pc os pw cj) xs i).1).1.length = pts.length := by rw [hnx2]; unfold psI; rw [if_neg hnew]
          refine AW.skip ?_
          simp only [thn, blk]
          refine hN8 _ ?_
          try clear hN8 N8
          refine AW.regionL envOk ?_
          simp -dsimp -implicitDefEqProofs (maxSteps := 800000) (disch := omega) only [go_sem, undef, reduceAdd, reduceSub, reduceGT, reduceEqDiff, reduceMul, prs, prsP, vls, w64, vi, hAt, hLn, hRw, hId, hcl, List.take_length, List.length_map, splice_one]
          refine hN5 _ ?_
          try clear hN5 N5
          refine AW.nameH (fun G5 hG5 => ?_)
          dsimp only at hG5
          refine AW.regionL envOk ?_
          simp -dsimp -implicitDefEqProofs (maxSteps := 800000) (disch := omega) only [go_sem, undef, reduceAdd, reduceSub, reduceGT, reduceEqDiff, reduceMul, prs, prsP, vls, w64, vi]
          refine ⟨(j + 1, G5, idf2, rs2.set j (.h (m3 + 13 + 4 + 8) 0 (0 + 1)), fun k => if k = j then m3 + 13 + 4 + 8 else ids2 k), ?_, fun _ _ h => h, ?_, ?_⟩
          ·simp (disch := omega) [wks, wkA, sl, w64, ints, rows, cubes, prs, prsP, vls, w64, vi] <;> omega
          ·refine ⟨by first| omega| (simp only; omega)| (dsimp only; omega), ?_⟩
           dsimp only
           rw [hnx2]
           rw [show psI pts y = pts from by unfold psI; rw [if_neg hnew]]
           refine hS2.next (g := j) (v := (fsI pts y : Int)) (cells := [.i .i64 (k : Int)]) (k := 0) (by omega) (by omega) (by omega) (by omega) (hcl.trans hi0) ?_ ?_ ?_ (.inl rfl) (by omega) ?_ ?_ (fun k' _ => hcsj k')
           rotate_left 1
           ·rw [← hG5]; simp (disch := omega) only [upd_ne, upd_same]
           ·rw [← hG5]; simp (disch := omega) only [upd_ne, upd_same]
           ·rw [← hG5]; simp (disch := omega) only [upd_ne, upd_same]; exact hF
           ·intro i5 h51 h52 h53 h55; rw [← hG5]; simp (disch := omega) only [upd_ne]
           ·rw [List.length_eq_zero_iff.1 (hcl.trans hi0), hfs]; rfl
          ·first | omega | (simp only; omega)
       ·try simp only [cn] at h3
        try simp -dsimp -implicitDefEqProofs (maxSteps := 800000) (disch := omega) only [go_sem, undef, reduceAdd, reduceSub, reduceGT, reduceEqDiff, reduceMul, prs, prsP, vls, w64, vi]
        refine hN _ ?_
        try clear hN N
        refine AW.condF rfl ?_
        refine AW.exit ?_
        simp only [thn, blk, if_true]
        refine hN6 _ ?_
        try clear hN6 N6
        refine AW.seq (fun N9 hN9 => ?_)
        refine AW.sr envOk (fun N hN => ?_)
        simp -dsimp -implicitDefEqProofs (maxSteps := 800000) (disch := omega) only [go_sem, undef, reduceAdd, reduceSub, reduceGT, reduceEqDiff, reduceMul, prs, prsP, vls, w64, vi]
        refine hN _ ?_
        try clear hN N
        refine AW.cond rfl (fun h6 => ?_) (fun h6 => ?_)
        ·try simp only [cn] at h6
         have hkl : k = pts.length := by omega
         subst hkl
         have hnew : fsI pts y = pts.length := fsI_of (Nat.le_refl _) hbk (fun q => absurd q (by omega))
         have hln2 : (inF (pc os pw cj) xs x0 (j + 1) (otF (pc os pw cj) xs i).1).1.length = pts.length + 1 := by rw [hnx2]; unfold psI; rw [if_pos hnew]; simp
         refine AW.regionL envOk ?_
         simp -dsimp -implicitDefEqProofs (maxSteps := 800000) (disch := omega) only [go_sem, undef, reduceAdd, reduceSub, reduceGT, reduceEqDiff, reduceMul, prs, prsP, vls, w64, vi, hF, one_viT, tk_map]
         refine hN9 _ ?_
         try clear hN9 N9
         refine AW.regionL envOk ?_
         simp -dsimp -implicitDefEqProofs (maxSteps := 800000) (disch := omega) only [go_sem, undef, reduceAdd, reduceSub, reduceGT, reduceEqDiff, reduceMul, prs, prsP, vls, w64, vi, hAt, hLn, hRw, hId, hcl, List.take_length, List.length_map, splice_one]
         refine hN5 _ ?_
         try clear hN5 N5
         refine AW.nameH (fun G5 hG5 => ?_)
         dsimp only at hG5
         refine AW.regionL envOk ?_
         simp -dsimp -implicitDefEqProofs (maxSteps := 800000) (disch := omega) only [go_sem, undef, reduceAdd, reduceSub, reduceGT, reduceEqDiff, reduceMul, prs, prsP, vls, w64, vi]
         refine ⟨(j + 1, G5, m3 + 13 + 4 + 3, rs2.set j (.h (m3 + 13 + 4 + 5 + 8) 0 (0 + 1)), fun k => if k = j then m3 + 13 + 4 + 5 + 8 else ids2 k), ?_, fun _ _ h => h, ?_, ?_⟩
         ·simp (disch := omega) [wks, wkA, sl, w64, ints, rows, cubes, prs, prsP, vls, w64, vi] <;> omega
         ·refine ⟨by first| omega| (simp only; omega)| (dsimp only; omega), ?_⟩
          dsimp only
          rw [hnx2]
          rw [show psI pts y = pts ++ [y] from by unfold psI; rw [if_pos hnew]]
          refine hS2.next (g := j) (v := (fsI pts y : Int)) (cells := [.i .i64 (pts.length : Int)]) (k := 0) (by omega) (by omega) (by omega) (by omega) (hcl.trans hi0) ?_ ?_ ?_ (.inr (by omega)) (by omega) ?_ ?_ (fun k' _ => hcsj k')
          rotate_left 1
          ·rw [← hG5]; simp (disch := omega) only [upd_ne, upd_same]
          ·rw [← hG5]; simp (disch := omega) only [upd_ne, upd_same]
          ·rw [← hG5, List.map_append]; simp (disch := omega) only [upd_ne, upd_same]; rfl
          ·intro i5 h51 h52 h53 h55; rw [← hG5]; simp (disch := omega) only [upd_ne]
          ·rw [List.length_eq_zero_iff.1 (hcl.trans hi0), hnew]; rfl
         ·first | omega | (simp only; omega)
        ·try simp only [cn] at h6
         exfalso; omega
     ·try simp only [cn] at h2
      have hjc : j = xs.length := by omega
      subst hjc
      have hlo2 : (otF (pc os pw cj) xs (i + 1)).1.length = pts.length := by rw [otF, hx0, ← hpts]
      refine AW.exit ?_
      simp only [thn, blk, if_true]
      refine hN3 _ ?_
      try clear hN3 N3
      refine AW.regionL envOk ?_
      simp -dsimp -implicitDefEqProofs (maxSteps := 800000) (disch := omega) only [go_sem, undef, reduceAdd, reduceSub, reduceGT, reduceEqDiff, reduceMul, prs, prsP, vls, w64, vi]
      refine ⟨(i + 1, G2, idf2, rs2, ids2), ?_, fun _ _ h => h, ?_, ?_⟩
      ·simp (disch := omega) [wks, wkA, sl, w64, ints, rows, cubes, prs, prsP, vls, w64, vi] <;> omega
      ·refine ⟨hbef2, ?_⟩
       ·have e : (otF (pc os pw cj) xs (i + 1)).1 = pts := by rw [otF, hx0]; exact hpts
        dsimp only
        rw [e]
        refine ⟨(hS2.t.mm (by first| omega| (simp only; omega)| (dsimp only; omega))).cong (fun g hg => (colJ_end hg).symm), hS2.f, hS2.n1, by first| omega| (simp only; omega)| (dsimp only; omega)⟩
      ·first | omega | (simp only; omega)
    ·skip
     simp only [prsP]
     simp -dsimp -implicitDefEqProofs (maxSteps := 800000) (disch := omega) only [go_sem, undef, reduceAdd, reduceSub, reduceGT, reduceEqDiff, reduceMul]
     refine AW.seq (fun N10 hN10 => ?_)
     refine AW.sr envOk (fun N hN => ?_)
     simp -dsimp -implicitDefEqProofs (maxSteps := 800000) (disch := omega) only [go_sem, undef, reduceAdd, reduceSub, reduceGT, reduceEqDiff, reduceMul, prs, prsP, vls, w64, vi]
     refine hN _ ?_
     try clear hN N
     refine AW.cond rfl (fun h7 => ?_) (fun h7 => ?_)
     ·try simp only [cn] at h7
      have hxj : T (pc os pw cj) 0 (xs.getD j z0) := xs_T hxs (by omega)
      have hyT : T (pc os pw cj) 0 y := by rw [← hy]; exact hg.cl hxT hxj
      have hmu := spec_l08Mul_ok os pw cj h x0 (xs.getD j z0) hxT hxj
      rw [hy] at hmu
      obtain ⟨-, hRw, hId, hIb, hIc⟩ : 0 < (colJ (pc os pw cj) xs i j j).length ∧ rs2.getD j .j = .h (ids2 j) 0 (colJ (pc os pw cj) xs i j j).length ∧ G2 (ids2 j) = some ((colJ (pc os pw cj) xs i j j).map (.i .i64)) ∧ (nx ≤ ids2 j ∧ ids2 j < m2) ∧ ids2 j ≠ nx + 4 ∧ ids2 j ≠ idf2 ∧ ids2 j ≠ nx + 4 := by
       rcases hS2.t.row j (by omega) with q | q
       ·have := congrArg List.length q.1; rw [hcl] at this; exact absurd this hi0
       ·exact q
      refine AW.skip ?_
      simp only [thn, blk]
      refine hN10 _ ?_
      try clear hN10 N10
      refine AW.seq (fun N11 hN11 => ?_)
      refine AW.block ?_
      refine AW.seq (fun N hN => ?_)
      refine AW.drawL envOk (by kernel_rfl) 11 (by kernel_rfl) ?_
      simp -dsimp -implicitDefEqProofs (maxSteps := 800000) (disch := omega) only [hr_nil, hr_one, hr_if, List.take_succ_cons, List.take_zero, List.drop_succ_cons, List.drop_zero, List.take_nil, List.drop_nil, go_sem, undef, reduceAdd, reduceSub, reduceGT, reduceEqDiff, reduceMul, prs, prsP, vls, w64, vi, hF, hgf]
      refine ⟨_, .of (hmu ), ?_⟩
      try simp -dsimp -implicitDefEqProofs (maxSteps := 800000) (disch := omega) only [go_sem, undef, reduceAdd, reduceSub, reduceGT, reduceEqDiff, reduceMul, prs, prsP, vls, w64, vi]
      refine hN _ ?_
      try clear hN N
      refine AW.sr envOk (fun N hN => ?_)
      simp -dsimp -implicitDefEqProofs (maxSteps := 800000) (disch := omega) only [go_sem, undef, reduceAdd, reduceSub, reduceGT, reduceEqDiff, reduceMul, prs, prsP, vls, w64, vi]
      refine hN _ ?_
      try clear hN N
      refine AW.seq (fun N12 hN12 => ?_)
      refine AW.block ?_
      refine AW.loopN (α := Nat) (fun x => sl 73 [(1, vls os.length xs), (2, prsP os pw cj), (5, .h (nx + 4) 0 xs.length), (6, .h idf2 0 pts.length), (7, .i .i64 i), (8, .i .i64 j), (9, vi os.length y), (10, .i .i64 x)]) (fun _ => G2) (fun x m => x ≤ pts.length ∧ m2 + 5 ≤ m ∧ ∀ k', k' < x → pts.getD k' z0 ≠ y) (fun x => pts.length - x) (0) ?_ ?_ (fun _ _ h => h) ?_
      ·exact ⟨by simp, by first| omega| (simp only; omega)| (dsimp only; omega), by simp⟩
      ·simp (disch := omega) [wks, wkA, sl, prsP, ints, rows, cubes, vls, vi]
      ·skip
       rintro k m3 ⟨hk, hm3, hbk⟩
       try dsimp only at hk hbk ⊢
       simp only [prsP, vi]
       simp -dsimp -implicitDefEqProofs (maxSteps := 800000) (disch := omega) only [go_sem, undef, reduceAdd, reduceSub, reduceGT, reduceEqDiff, reduceMul]
       refine AW.seq (fun N13 hN13 => ?_)
       refine AW.sr envOk (fun N hN => ?_)
       simp -dsimp -implicitDefEqProofs (maxSteps := 800000) (disch := omega) only [go_sem, undef, reduceAdd, reduceSub, reduceGT, reduceEqDiff, reduceMul, prs, prsP, vls, w64, vi, hF]
       refine gopB.mk' (fun h8 => ?_) (fun h8 => ?_)
       ·try simp only [cn] at h8
        have hkT : T (pc os pw cj) 0 (pts.getD k z0) := (hPi hj).1 _ (by rw [List.getD_eq_getElem?_getD, List.getElem?_eq_getElem (show k < pts.length by omega)]; exact List.getElem_mem _)
        try simp -dsimp -implicitDefEqProofs (maxSteps := 800000) (disch := omega) only [go_sem, undef, reduceAdd, reduceSub, reduceGT, reduceEqDiff, reduceMul, prs, prsP, vls, w64, vi]
        try simp -dsimp -implicitDefEqProofs (maxSteps := 800000) (disch := omega) only [go_sem, undef, reduceAdd, reduceSub, reduceGT, reduceEqDiff, reduceMul, prs, prsP, vls, w64, vi, hF]
        refine AC.pure (.of (spec_l01Same_T (by omega) hkT hyT )) ?_
        try simp -dsimp -implicitDefEqProofs (maxSteps := 800000) (disch := omega) only [go_sem, undef, reduceAdd, reduceSub, reduceGT, reduceEqDiff, reduceMul, prs, prsP, vls, w64, vi]
        refine hN _ ?_
        try clear hN N
        refine AW.cond rfl (fun h9 => ?_) (fun h9 => ?_)
        ·try simp only [cn] at h9
         have hbk9 : ∀ k', k' < k + 1 → pts.getD k' z0 ≠ y := fun k' hk' => by
          rcases Nat.lt_or_ge k' k with q1 | q1
          ·exact hbk k' q1
          ·obtain rfl : k' = k := by omega
           exact h9
         refine AW.skip ?_
         simp only [thn, blk]
         refine hN13 _ ?_
         try clear hN13 N13
         refine AW.block ?_
         refine AW.regionL envOk ?_
         simp -dsimp -implicitDefEqProofs (maxSteps := 800000) (disch := omega) only [go_sem, undef, reduceAdd, reduceSub, reduceGT, reduceEqDiff, reduceMul, prs, prsP, vls, w64, vi]
         refine ⟨k + 1, ?_, fun _ _ h => h, ?_, ?_⟩
         ·simp (disch := omega) [wks, wkA, sl, w64, ints, rows, cubes, prs, prsP, vls, w64, vi] <;> omega
         ·first| exact hbk9| exact ⟨by first| omega| (simp only; omega)| (dsimp only; omega), hbk9⟩| exact ⟨by first| omega| (simp only; omega)| (dsimp only; omega), by first| omega| (simp only; omega)| (dsimp only; omega), hbk9⟩
         ·first | omega | (simp only; omega)
        ·try simp only [cn] at h9
         refine AW.exit ?_
         simp only [thn, blk, if_true]
         refine hN12 _ ?_
         try clear hN12 N12
         refine AW.seq (fun N14 hN14 => ?_)
         refine AW.sr envOk (fun N hN => ?_)
         simp -dsimp -implicitDefEqProofs (maxSteps := 800000) (disch := omega) only [go_sem, undef, reduceAdd, reduceSub, reduceGT, reduceEqDiff, reduceMul, prs, prsP, vls, w64, vi]
         refine hN _ ?_
         try clear hN N
         refine AW.cond rfl (fun h10 => ?_) (fun h10 => ?_)
         ·try simp only [cn] at h10
          exfalso; omega
         ·try simp only [cn] at h10
          have hfs : fsI pts y = k := fsI_of (by omega) hbk (fun _ => h9)
          have hnew : ¬fsI pts y = pts.length := by omega
          have hln2 : (inF (pc os pw cj) xs x0 (j + 1) (otF (pc os pw cj) xs i).1).1.length = pts.length := by rw [hnx2]; unfold psI; rw [if_neg hnew]
          refine AW.skip ?_
          simp only [thn, blk]
          refine hN14 _ ?_
          try clear hN14 N14
          refine AW.regionL envOk ?_
          simp -dsimp -implicitDefEqProofs (maxSteps := 800000) (disch := omega) only [go_sem, undef, reduceAdd, reduceSub, reduceGT, reduceEqDiff, reduceMul, prs, prsP, vls, w64, vi, hAt, hLn, hRw, hId, hcl, List.take_length, List.length_map, splice_one]
          refine hN11 _ ?_
          try clear hN11 N11
          refine AW.nameH (fun G5 hG5 => ?_)
          dsimp only at hG5
          refine AW.regionL envOk ?_
          simp -dsimp -implicitDefEqProofs (maxSteps := 800000) (disch := omega) only [go_sem, undef, reduceAdd, reduceSub, reduceGT, reduceEqDiff, reduceMul, prs, prsP, vls, w64, vi]
          refine ⟨(j + 1, G5, idf2, rs2.set j (.h (m3 + 13 + 4 + 8) 0 (i + 1)), fun k => if k = j then m3 + 13 + 4 + 8 else ids2 k), ?_, fun _ _ h => h, ?_, ?_⟩
          ·simp (disch := omega) [wks, wkA, sl, w64, ints, rows, cubes, prs, prsP, vls, w64, vi] <;> omega
          ·refine ⟨by first| omega| (simp only; omega)| (dsimp only; omega), ?_⟩
           dsimp only
           rw [hnx2]
           rw [show psI pts y = pts from by unfold psI; rw [if_neg hnew]]
           refine hS2.next (g := j) (v := (fsI pts y : Int)) (cells := (colJ (pc os pw cj) xs i j j).map (AV.i .i64) ++ [.i .i64 (k : Int)]) (k := i) (by omega) (by omega) (by omega) (by omega) hcl ?_ ?_ ?_ (.inl rfl) (by omega) ?_ ?_ (fun k' _ => hcsj k')
           rotate_left 1
           ·rw [← hG5]; simp (disch := omega) only [upd_ne, upd_same]; rw [List.take_of_length_le (by rw [List.length_map]; omega)]
           ·rw [← hG5]; simp (disch := omega) only [upd_ne, upd_same]
           ·rw [← hG5]; simp (disch := omega) only [upd_ne, upd_same]; exact hF
           ·intro i5 h51 h52 h53 h55; rw [← hG5]; simp (disch := omega) only [upd_ne]
           ·rw [hfs]; simp
          ·first | omega | (simp only; omega)
       ·try simp only [cn] at h8
        try simp -dsimp -implicitDefEqProofs (maxSteps := 800000) (disch := omega) only [go_sem, undef, reduceAdd, reduceSub, reduceGT, reduceEqDiff, reduceMul, prs, prsP, vls, w64, vi]
        refine hN _ ?_
        try clear hN N
        refine AW.condF rfl ?_
        refine AW.exit ?_
        simp only [thn, blk, if_true]
        refine hN12 _ ?_
        try clear hN12 N12
        refine AW.seq (fun N15 hN15 => ?_)
        refine AW.sr envOk (fun N hN => ?_)
        simp -dsimp -implicitDefEqProofs (maxSteps := 800000) (disch := omega) only [go_sem, undef, reduceAdd, reduceSub, reduceGT, reduceEqDiff, reduceMul, prs, prsP, vls, w64, vi]
        refine hN _ ?_
        try clear hN N
        refine AW.cond rfl (fun h11 => ?_) (fun h11 => ?_)
        ·try simp only [cn] at h11
         have hkl : k = pts.length := by omega
         subst hkl
         have hnew : fsI pts y = pts.length := fsI_of (Nat.le_refl _) hbk (fun q => absurd q (by omega))
         have hln2 : (inF (pc os pw cj) xs x0 (j + 1) (otF (pc os pw cj) xs i).1).1.length = pts.length + 1 := by rw [hnx2]; unfold psI; rw [if_pos hnew]; simp
         refine AW.regionL envOk ?_
         simp -dsimp -implicitDefEqProofs (maxSteps := 800000) (disch := omega) only [go_sem, undef, reduceAdd, reduceSub, reduceGT, reduceEqDiff, reduceMul, prs, prsP, vls, w64, vi, hF, one_viT, tk_map]
         refine hN15 _ ?_
         try clear hN15 N15
         refine AW.regionL envOk ?_
         simp -dsimp -implicitDefEqProofs (maxSteps := 800000) (disch := omega) only [go_sem, undef, reduceAdd, reduceSub, reduceGT, reduceEqDiff, reduceMul, prs, prsP, vls, w64, vi, hAt, hLn, hRw, hId, hcl, List.take_length, List.length_map, splice_one]
         refine hN11 _ ?_
         try clear hN11 N11
         refine AW.nameH (fun G5 hG5 => ?_)
         dsimp only at hG5
         refine AW.regionL envOk ?_
         simp -dsimp -implicitDefEqProofs (maxSteps := 800000) (disch := omega) only [go_sem, undef, reduceAdd, reduceSub, reduceGT, reduceEqDiff, reduceMul, prs, prsP, vls, w64, vi]
         refine ⟨(j + 1, G5, m3 + 13 + 4 + 3, rs2.set j (.h (m3 + 13 + 4 + 5 + 8) 0 (i + 1)), fun k => if k = j then m3 + 13 + 4 + 5 + 8 else ids2 k), ?_, fun _ _ h => h, ?_, ?_⟩
         ·simp (disch := omega) [wks, wkA, sl, w64, ints, rows, cubes, prs, prsP, vls, w64, vi] <;> omega
         ·refine ⟨by first| omega| (simp only; omega)| (dsimp only; omega), ?_⟩
          dsimp only
          rw [hnx2]
          rw [show psI pts y = pts ++ [y] from by unfold psI; rw [if_pos hnew]]
          refine hS2.next (g := j) (v := (fsI pts y : Int)) (cells := (colJ (pc os pw cj) xs i j j).map (AV.i .i64) ++ [.i .i64 (pts.length : Int)]) (k := i) (by omega) (by omega) (by omega) (by omega) hcl ?_ ?_ ?_ (.inr (by omega)) (by omega) ?_ ?_ (fun k' _ => hcsj k')
          rotate_left 1
          ·rw [← hG5]; simp (disch := omega) only [upd_ne, upd_same]; rw [List.take_of_length_le (by rw [List.length_map]; omega)]
          ·rw [← hG5]; simp (disch := omega) only [upd_ne, upd_same]
          ·rw [← hG5, List.map_append]; simp (disch := omega) only [upd_ne, upd_same]; rfl
          ·intro i5 h51 h52 h53 h55; rw [← hG5]; simp (disch := omega) only [upd_ne]
          ·rw [hnew]; simp
         ·first | omega | (simp only; omega)
        ·try simp only [cn] at h11
         exfalso; omega
     ·try simp only [cn] at h7
      have hjc : j = xs.length := by omega
      subst hjc
      have hlo2 : (otF (pc os pw cj) xs (i + 1)).1.length = pts.length := by rw [otF, hx0, ← hpts]
      refine AW.exit ?_
      simp only [thn, blk, if_true]
      refine hN3 _ ?_
      try clear hN3 N3
      refine AW.regionL envOk ?_
      simp -dsimp -implicitDefEqProofs (maxSteps := 800000) (disch := omega) only [go_sem, undef, reduceAdd, reduceSub, reduceGT, reduceEqDiff, reduceMul, prs, prsP, vls, w64, vi]
      refine ⟨(i + 1, G2, idf2, rs2, ids2), ?_, fun _ _ h => h, ?_, ?_⟩
      ·simp (disch := omega) [wks, wkA, sl, w64, ints, rows, cubes, prs, prsP, vls, w64, vi] <;> omega
      ·refine ⟨hbef2, ?_⟩
       ·have e : (otF (pc os pw cj) xs (i + 1)).1 = pts := by rw [otF, hx0]; exact hpts
        dsimp only
        rw [e]
        refine ⟨(hS2.t.mm (by first| omega| (simp only; omega)| (dsimp only; omega))).cong (fun g hg => (colJ_end hg).symm), hS2.f, hS2.n1, by first| omega| (simp only; omega)| (dsimp only; omega)⟩
      ·first | omega | (simp only; omega)
  ·try simp only [cn] at h1
   refine AW.exit ?_
   simp only [thn, blk, if_true]
   refine hN1 _ ?_
   try clear hN1 N1
   refine AW.sr envOk (fun N hN => ?_)
   simp -dsimp -implicitDefEqProofs (maxSteps := 800000) (disch := omega) only [go_sem, undef, reduceAdd, reduceSub, reduceGT, reduceEqDiff, reduceMul, prs, prsP, vls, w64, vi]
   refine hN _ ?_
   try clear hN N
   refine AW.ret ?_
   simp -dsimp -implicitDefEqProofs (maxSteps := 800000) (disch := omega) only [go_sem, undef, reduceAdd, reduceSub, reduceGT, reduceEqDiff, reduceMul]
   have hq : CyQ (pc os pw cj) xs i := ⟨by have := otF_ge (P := (pc os pw cj)) (xs := xs) hbef; omega, hbef⟩
   rw [tabL, cyN_eq hq]
   obtain ⟨is, ho⟩ := hS.t.own
   exact ho.1.vw
end
end Go.Proofs.Ytnlfbimjcabgiaa
