import Derived.Test.YtdghgmgppecncaaZ24
import Derived.Test.YtdghgmgppecncaaZ43
set_option linter.unusedVariables false
set_option linter.unusedSimpArgs false
namespace Go.Proofs.Ytdghgmgppecncaa
open Nat (reduceAdd reduceSub reduceGT reduceEqDiff reduceMul)
theorem spec_l32Span_h (p : Int) (pw : List (List Int)) (br : List (List (List Int))) (ht : Tri p pw) (hp : pr4 p) (G : List (List Int)) (hG : G.length ≤ 1048576) (hel : ∀ k, k < G.length → El p pw.length (G.getD k [])) : ∀ nx, AC Try.prog 231 nx noH [ring p pw br, rows G] (fun nx' H' r => ∃ id, nx ≤ id ∧ id < nx' ∧ r = .h id 0 (spanL p pw G).length ∧ H' id = some ((spanL p pw G).map ints)) := by
 have h6 := ht.n6
 have hp7 := ht.p7
 have hp2 := ht.p2
 intro nx
 refine AC.intro' envOk Try.func231 rfl (by kernel_rfl) Try.ntmps231 Try.results231 ?_
 refine AW.sr envOk (fun N hN => ?_)
 simp -dsimp -implicitDefEqProofs (disch := omega) only [go_sem, undef, reduceAdd, reduceSub, reduceGT, reduceEqDiff, reduceMul, ring, rows, ints, gd_i, gd_r, w64, Nat.min_eq_left, wL_len, rows_drop]
 refine hN _ ?_
 try clear hN N
 refine AW.sr envOk (fun N hN => ?_)
 simp -dsimp -implicitDefEqProofs (disch := omega) only [go_sem, undef, reduceAdd, reduceSub, reduceGT, reduceEqDiff, reduceMul, ring, rows, ints, gd_i, gd_r, w64, Nat.min_eq_left, wL_len, rows_drop]
 refine hN _ ?_
 try clear hN N
 refine AW.seq (fun N1 hN1 => ?_)
 refine AW.sr envOk (fun N hN => ?_)
 simp -dsimp -implicitDefEqProofs (disch := omega) only [go_sem, undef, reduceAdd, reduceSub, reduceGT, reduceEqDiff, reduceMul, ring, rows, ints, gd_i, gd_r, w64, Nat.min_eq_left, wL_len, rows_drop]
 refine hN _ ?_
 try clear hN N
 refine AW.block ?_
 refine AW.freeze 5 (nx + 2) 0 [] rfl (by simp (disch := omega) only [upd_same, upd_ne]) rfl ?_
 simp -dsimp -implicitDefEqProofs (disch := omega) only [go_sem, undef, reduceAdd, reduceSub, reduceGT, reduceEqDiff, reduceMul]
 refine AW.loopN (α := Nat × List (List Int)) (fun x => sl 72 [(1, rows G), (2, .q nx 0), (5, rows x.2), (6, .i .i64 x.1)]) (fun _ => upd noH nx (some [.i .i64 p, rows pw, cubes br])) (fun x m => (x.1 ≤ G.length ∧ nx + 5 ≤ m) ∧ Ech p pw.length x.2 ∧ Clo p pw x.2 ∧ Sp p pw x.2 = Sp p pw (G.take x.1)) (fun x => G.length - x.1) ((0, [])) ?_ ?_ (Le.del (by simp (disch := omega) only [upd_ne, noH])) ?_
 ·exact ⟨⟨by simp, by simp only; omega⟩, Ech.nil, fun b hb => absurd hb (by simp), rfl⟩
 ·simp (disch := omega) [wks, wkA, sl, w64, ints, rows, cubes, ring, rows, ints, gd_i, gd_r, w64, Nat.min_eq_left, wL_len, rows_drop] <;> omega
 ·skip
  rintro ⟨k, u⟩ m ⟨⟨hk, hm⟩, hu, hc, hs⟩
  dsimp only at hk hu hc hs
  simp -dsimp -implicitDefEqProofs (disch := omega) only [go_sem, undef, reduceAdd, reduceSub, reduceGT, reduceEqDiff, reduceMul]
  refine AW.seq (fun N2 hN2 => ?_)
  refine AW.sr envOk (fun N hN => ?_)
  simp -dsimp -implicitDefEqProofs (disch := omega) only [go_sem, undef, reduceAdd, reduceSub, reduceGT, reduceEqDiff, reduceMul, ring, rows, ints, gd_i, gd_r, w64, Nat.min_eq_left, wL_len, rows_drop]
  refine hN _ ?_
  try clear hN N
  refine AW.cond rfl (fun h1 => ?_) (fun h1 => ?_)
  ·try simp only [cn] at h1
   have hgk := hel k (by omega)
   obtain ⟨q1, q2, q3⟩ := red_start ht hu hgk
   refine AW.skip ?_
   simp only [thn, blk]
   refine hN2 _ ?_
   try clear hN2 N2
   refine AW.seq (fun N3 hN3 => ?_)
   refine AW.block ?_
   refine AW.seq (fun N hN => ?_)
   refine AW.drawL envOk (by kernel_rfl) 8 (by kernel_rfl) ?_
   simp -dsimp -implicitDefEqProofs (disch := omega) only [hr_nil, hr_one, hr_if, List.take_succ_cons, List.take_zero, List.drop_succ_cons, List.drop_zero, List.take_nil, List.drop_nil, go_sem, undef, reduceAdd, reduceSub, reduceGT, reduceEqDiff, reduceMul, ring, rows, ints, gd_i, gd_r, w64, Nat.min_eq_left, wL_len, rows_drop]
   refine ⟨_, .of (spec_l32Reduce_ok p pw br ht u (hu.rws h6) (G.getD k []) hgk), ?_⟩
   try simp -dsimp -implicitDefEqProofs (disch := omega) only [go_sem, undef, reduceAdd, reduceSub, reduceGT, reduceEqDiff, reduceMul, ring, rows, ints, gd_i, gd_r, w64, Nat.min_eq_left, wL_len, rows_drop]
   refine hN _ ?_
   try clear hN N
   refine AW.block ?_
   refine AW.loopN (α := List (List Int) × List Int) (fun x => sl 72 [(1, rows G), (2, .q nx 0), (5, rows x.1), (6, .i .i64 k), (7, ints x.2)]) (fun _ => upd noH nx (some [.i .i64 p, rows pw, cubes br])) (fun x m => nx + 5 ≤ m ∧ Ech p pw.length x.1 ∧ El p pw.length x.2 ∧ (∀ b ∈ x.1, x.2.getD (dep b) 0 = 0) ∧ PClo p pw x.1 x.2 ∧ Sp p pw (x.2 :: x.1) = Sp p pw (G.take (k + 1))) (fun x => pw.length - x.1.length) ((u, redL p pw u (G.getD k []))) ?_ ?_ (fun _ _ h => h) ?_
   ·exact ⟨by simp only; omega, hu, q1, q2, hc.pclo _, by rw [q3]; exact take_sp (by omega) hs⟩
   ·simp (disch := omega) [wks, wkA, sl, w64, ints, rows, cubes, ring, rows, ints, gd_i, gd_r, w64, Nat.min_eq_left, wL_len, rows_drop] <;> omega
   ·skip
    rintro ⟨v, a⟩ m2 ⟨hm2, hv, ha, hz, hpc, hsp⟩
    dsimp only at hv ha hz hpc hsp
    have hal := ha.len
    have hvr := hv.rws h6
    simp -dsimp -implicitDefEqProofs (disch := omega) only [go_sem, undef, reduceAdd, reduceSub, reduceGT, reduceEqDiff, reduceMul]
    refine AW.seq (fun N4 hN4 => ?_)
    refine AW.sr envOk (fun N hN => ?_)
    simp -dsimp -implicitDefEqProofs (disch := omega) only [go_sem, undef, reduceAdd, reduceSub, reduceGT, reduceEqDiff, reduceMul, ring, rows, ints, gd_i, gd_r, w64, Nat.min_eq_left, wL_len, rows_drop]
    refine AC.pure (.of (spec_l01Zero_ok a (by omega))) ?_
    try simp -dsimp -implicitDefEqProofs (disch := omega) only [go_sem, undef, reduceAdd, reduceSub, reduceGT, reduceEqDiff, reduceMul, ring, rows, ints, gd_i, gd_r, w64, Nat.min_eq_left, wL_len, rows_drop]
    refine hN _ ?_
    try clear hN N
    refine AW.cond rfl (fun h2 => ?_) (fun h2 => ?_)
    ·try simp only [cn] at h2
     have hda : dep a < pw.length := by
      have := dep_le a
      rcases Nat.lt_or_ge (dep a) pw.length with h | h
      ·exact h
      ·exact absurd (dep_all.1 (by omega)) h2
     have hlead := ha.rng (dep a) hda
     have hlnz := dep_nz (a := a) (by omega)
     have hii := invP_ok hp (a := a.getD (dep a) 0) (by omega) (by omega)
     obtain ⟨y, hy⟩ : ∃ y, nf p pw (fun j => invP p (a.getD (dep a) 0) * fn a j) = y := ⟨_, rfl⟩
     obtain ⟨e1, e2, e3, e4, e5⟩ := close_step ht hp hv ha hda hz hpc hii hy.symm rfl
     have hye : El p pw.length y := by rw [← hy]; exact nf_el ht _
     have hyl := hye.len
     have hlen := e1.len
     have hinl := ins_len (x := y) (u := v)
     have hmx := (spec_l31Mix_ok p pw br ht (invP p (a.getD (dep a) 0)) a 0 a hal hal (ha.smlk hp7 (by have := hii.1; omega) (by have := hii.2.1; omega)) (ha.smlk hp7 (by omega) (by omega))).pure
     rw [mix_lead ht, hy] at hmx
     have hmp := (spec_l31Mix_ok p pw br ht p y 0 y hyl hyl (hye.smlk hp7 (by omega) (by omega)) (hye.smlk hp7 (by omega) (by omega))).pure
     rw [mix_lead ht] at hmp
     refine AW.skip ?_
     simp only [thn, blk]
     refine hN4 _ ?_
     try clear hN4 N4
     refine AW.block ?_
     refine AW.seq (fun N hN => ?_)
     refine AW.drawL envOk (by kernel_rfl) 13 (by kernel_rfl) ?_
     simp -dsimp -implicitDefEqProofs (disch := omega) only [hr_nil, hr_one, hr_if, List.take_succ_cons, List.take_zero, List.drop_succ_cons, List.drop_zero, List.take_nil, List.drop_nil, go_sem, undef, reduceAdd, reduceSub, reduceGT, reduceEqDiff, reduceMul, ring, rows, ints, gd_i, gd_r, w64, Nat.min_eq_left, wL_len, rows_drop]
     refine ⟨_, .of (spec_l32Depth_ok a (by omega) ), ?_⟩
     try simp -dsimp -implicitDefEqProofs (disch := omega) only [go_sem, undef, reduceAdd, reduceSub, reduceGT, reduceEqDiff, reduceMul, ring, rows, ints, gd_i, gd_r, w64, Nat.min_eq_left, wL_len, rows_drop]
     refine ⟨_, .of (spec_l01Inv_ok (a.getD (dep a) 0) p hp (by omega) (by omega) ), ?_⟩
     try simp -dsimp -implicitDefEqProofs (disch := omega) only [go_sem, undef, reduceAdd, reduceSub, reduceGT, reduceEqDiff, reduceMul, ring, rows, ints, gd_i, gd_r, w64, Nat.min_eq_left, wL_len, rows_drop]
     refine ⟨_, .of (hmx ), ?_⟩
     try simp -dsimp -implicitDefEqProofs (disch := omega) only [go_sem, undef, reduceAdd, reduceSub, reduceGT, reduceEqDiff, reduceMul, ring, rows, ints, gd_i, gd_r, w64, Nat.min_eq_left, wL_len, rows_drop]
     refine hN _ ?_
     try clear hN N
     refine AW.sr envOk (fun N hN => ?_)
     simp -dsimp -implicitDefEqProofs (disch := omega) only [go_sem, undef, reduceAdd, reduceSub, reduceGT, reduceEqDiff, reduceMul, ring, rows, ints, gd_i, gd_r, w64, Nat.min_eq_left, wL_len, rows_drop]
     refine AC.pure (.of (spec_l32Insert_ok v (by have := hv.len; omega) y (hv.glen h6) (by omega) )) ?_
     try simp -dsimp -implicitDefEqProofs (disch := omega) only [go_sem, undef, reduceAdd, reduceSub, reduceGT, reduceEqDiff, reduceMul, ring, rows, ints, gd_i, gd_r, w64, Nat.min_eq_left, wL_len, rows_drop]
     refine hN _ ?_
     try clear hN N
     refine AW.drawL envOk (by kernel_rfl) 10 (by kernel_rfl) ?_
     simp -dsimp -implicitDefEqProofs (disch := omega) only [hr_nil, hr_one, hr_if, List.take_succ_cons, List.take_zero, List.drop_succ_cons, List.drop_zero, List.take_nil, List.drop_nil, go_sem, undef, reduceAdd, reduceSub, reduceGT, reduceEqDiff, reduceMul, ring, rows, ints, gd_i, gd_r, w64, Nat.min_eq_left, wL_len, rows_drop]
     refine ⟨_, .of (hmp ), ?_⟩
     try simp -dsimp -implicitDefEqProofs (disch := omega) only [go_sem, undef, reduceAdd, reduceSub, reduceGT, reduceEqDiff, reduceMul, ring, rows, ints, gd_i, gd_r, w64, Nat.min_eq_left, wL_len, rows_drop]
     refine ⟨_, .of (spec_l32Reduce_ok p pw br ht (insL y v) (e1.rws h6) (nf p pw (fun j => p * fn y j)) (nf_el ht _) ), ?_⟩
     try simp -dsimp -implicitDefEqProofs (disch := omega) only [go_sem, undef, reduceAdd, reduceSub, reduceGT, reduceEqDiff, reduceMul, ring, rows, ints, gd_i, gd_r, w64, Nat.min_eq_left, wL_len, rows_drop]
     refine ⟨(insL y v, redL p pw (insL y v) (nf p pw (fun j => p * fn y j))), ?_, fun _ _ h => h, ?_, ?_⟩
     ·simp (disch := omega) [wks, wkA, sl, w64, ints, rows, cubes, ring, rows, ints, gd_i, gd_r, w64, Nat.min_eq_left, wL_len, rows_drop] <;> omega
     ·first| exact ⟨e1, e2, e3, e4, by rw [e5]; exact hsp⟩| exact ⟨by first| omega| (simp only; omega)| (dsimp only; omega), e1, e2, e3, e4, by rw [e5]; exact hsp⟩
     ·first | omega | (simp only; omega)
    ·try simp only [cn] at h2
     have hz0 : ∀ j, j < pw.length → a.getD j 0 = 0 := fun j hj => h2 j (by omega)
     refine AW.exit ?_
     simp only [thn, blk, if_true]
     refine hN3 _ ?_
     try clear hN3 N3
     refine AW.regionL envOk ?_
     simp -dsimp -implicitDefEqProofs (disch := omega) only [go_sem, undef, reduceAdd, reduceSub, reduceGT, reduceEqDiff, reduceMul, ring, rows, ints, gd_i, gd_r, w64, Nat.min_eq_left, wL_len, rows_drop]
     refine ⟨(k + 1, v), ?_, fun _ _ h => h, ?_, ?_⟩
     ·simp (disch := omega) [wks, wkA, sl, w64, ints, rows, cubes, ring, rows, ints, gd_i, gd_r, w64, Nat.min_eq_left, wL_len, rows_drop] <;> omega
     ·exact ⟨⟨by first| omega| (simp only; omega)| (dsimp only; omega), by first| omega| (simp only; omega)| (dsimp only; omega)⟩, hv, hpc.clo hz0, by rw [← sp_zero hz0]; exact hsp⟩
     ·first | omega | (simp only; omega)
  ·try simp only [cn] at h1
   refine AW.exit ?_
   simp only [thn, blk, if_true]
   refine hN1 _ ?_
   try clear hN1 N1
   refine AW.sr envOk (fun N hN => ?_)
   simp -dsimp -implicitDefEqProofs (disch := omega) only [go_sem, undef, reduceAdd, reduceSub, reduceGT, reduceEqDiff, reduceMul, ring, rows, ints, gd_i, gd_r, w64, Nat.min_eq_left, wL_len, rows_drop]
   refine hN _ ?_
   try clear hN N
   refine AW.seq (fun N5 hN5 => ?_)
   refine AW.sr envOk (fun N hN => ?_)
   simp -dsimp -implicitDefEqProofs (disch := omega) only [go_sem, undef, reduceAdd, reduceSub, reduceGT, reduceEqDiff, reduceMul, ring, rows, ints, gd_i, gd_r, w64, Nat.min_eq_left, wL_len, rows_drop]
   refine hN _ ?_
   try clear hN N
   refine AW.block ?_
   have hul := hu.len
   have hcan := wL_can ht hu hc
   rw [hs, show k = G.length by omega, List.take_length] at hcan
   refine AW.loopN (α := Nat × Nat) (fun x => sl 72 [(2, .q nx 0), (5, rows u), (8, .h x.2 0 x.1), (9, .i .i64 x.1)]) (fun x => upd (upd noH nx (some [.i .i64 p, rows pw, cubes br])) x.2 (some (((wL p pw u).take x.1).map ints))) (fun x m => x.1 ≤ u.length ∧ nx < x.2 ∧ x.2 < m) (fun x => u.length - x.1) ((0, m + 4)) ?_ ?_ (fun _ _ h => h) ?_
   ·exact ⟨by simp, by simp only; omega, by simp only; omega⟩
   ·simp (disch := omega) [wks, wkA, sl, w64, ints, rows, cubes, ring, rows, ints, gd_i, gd_r, w64, Nat.min_eq_left, wL_len, rows_drop] <;> omega
   ·skip
    rintro ⟨q, id⟩ m3 ⟨hq, hid, hid2⟩
    dsimp only at hq hid hid2
    simp -dsimp -implicitDefEqProofs (disch := omega) only [go_sem, undef, reduceAdd, reduceSub, reduceGT, reduceEqDiff, reduceMul]
    refine AW.seq (fun N6 hN6 => ?_)
    refine AW.sr envOk (fun N hN => ?_)
    simp -dsimp -implicitDefEqProofs (disch := omega) only [go_sem, undef, reduceAdd, reduceSub, reduceGT, reduceEqDiff, reduceMul, ring, rows, ints, gd_i, gd_r, w64, Nat.min_eq_left, wL_len, rows_drop]
    refine hN _ ?_
    try clear hN N
    refine AW.cond rfl (fun h3 => ?_) (fun h3 => ?_)
    ·try simp only [cn] at h3
     have hel2 := (hu.el _ (ix_mem (d := []) (show q < u.length by omega)))
     refine AW.skip ?_
     simp only [thn, blk]
     refine hN6 _ ?_
     try clear hN6 N6
     refine AW.seq (fun N7 hN7 => ?_)
     refine AW.block ?_
     refine AW.drawL envOk (by kernel_rfl) 12 (by kernel_rfl) ?_
     simp -dsimp -implicitDefEqProofs (disch := omega) only [hr_nil, hr_one, hr_if, List.take_succ_cons, List.take_zero, List.drop_succ_cons, List.drop_zero, List.take_nil, List.drop_nil, go_sem, undef, reduceAdd, reduceSub, reduceGT, reduceEqDiff, reduceMul, ring, rows, ints, gd_i, gd_r, w64, Nat.min_eq_left, wL_len, rows_drop]
     refine ⟨_, .of (spec_l32Reduce_ok p pw br ht (u.drop (q + 1)) ((hu.drop (q + 1)).rws h6) (u.getD q []) hel2), ?_⟩
     try simp -dsimp -implicitDefEqProofs (disch := omega) only [go_sem, undef, reduceAdd, reduceSub, reduceGT, reduceEqDiff, reduceMul, ring, rows, ints, gd_i, gd_r, w64, Nat.min_eq_left, wL_len, rows_drop]
     refine hN7 _ ?_
     try clear hN7 N7
     refine AW.regionL envOk ?_
     simp -dsimp -implicitDefEqProofs (disch := omega) only [go_sem, undef, reduceAdd, reduceSub, reduceGT, reduceEqDiff, reduceMul, ring, rows, ints, gd_i, gd_r, w64, Nat.min_eq_left, wL_len, rows_drop]
     refine ⟨(q + 1, m3 + 4 + 12), ?_, by rw [← wL_snoc (by omega)]; intro d cs hd; dsimp only at hd ⊢; simp only [upd, noH, rows, ints] at hd ⊢; grind, ?_, ?_⟩
     ·simp (disch := omega) [wks, wkA, sl, w64, ints, rows, cubes, ring, rows, ints, gd_i, gd_r, w64, Nat.min_eq_left, wL_len, rows_drop] <;> omega
     ·exact ⟨by omega, by simp only; omega, by simp only; omega⟩
     ·first | omega | (simp only; omega)
    ·try simp only [cn] at h3
     refine AW.exit ?_
     simp only [thn, blk, if_true]
     refine hN5 _ ?_
     try clear hN5 N5
     refine AW.sr envOk (fun N hN => ?_)
     simp -dsimp -implicitDefEqProofs (disch := omega) only [go_sem, undef, reduceAdd, reduceSub, reduceGT, reduceEqDiff, reduceMul, ring, rows, ints, gd_i, gd_r, w64, Nat.min_eq_left, wL_len, rows_drop]
     refine hN _ ?_
     try clear hN N
     refine AW.ret ?_
     simp -dsimp -implicitDefEqProofs (disch := omega) only [go_sem, undef, reduceAdd, reduceSub, reduceGT, reduceEqDiff, reduceMul]
     rw [spanL_eq ht hcan, show q = u.length by omega]
     refine ⟨id, by omega, by omega, by rw [wL_len], ?_⟩
     rw [List.take_of_length_le (by rw [wL_len]; omega), upd_same]
theorem at_get {p : Int} {n : Nat} {k : Int} {j : Nat} : (atL p (n + 1) k).getD j 0 = if j < n then (atL p n (k / p)).getD j 0 else if j = n then k % p else 0 := by
  have hl : ∀ {n : Nat} {k : Int}, (atL p n k).length = n := by
    intro n
    induction n with
    | zero => intro k; rfl
    | succ n ih => intro k; simp only [atL, List.length_append, ih]; rfl
  exact app_get1 hl
def AtI (p : Int) (A : List Int) (n i : Nat) (k : Int) (f : Nat → Int) : Prop := (∀ j, i ≤ j → j < n → f j = A.getD j 0) ∧ ∀ j, j < i → A.getD j 0 = (atL p i k).getD j 0
theorem AtI.start {p : Int} {n : Nat} {k : Int} {f : Nat → Int} : AtI p (atL p n k) n n k f := ⟨fun j h1 h2 => by omega, fun _ _ => rfl⟩
theorem AtI.next {p : Int} {A : List Int} {n i : Nat} {k : Int} {f : Nat → Int} (h : AtI p A n (i + 1) k f) : AtI p A n i (k / p) (fset f i (k % p)) := by
  refine ⟨fun j h1 h2 => ?_, fun j hj => ?_⟩
  · simp only [fset]
    by_cases e : j = i
    · subst e
      rw [if_pos rfl, h.2 j (by omega), at_get, if_neg (by omega), if_pos rfl]
    · rw [if_neg e]; exact h.1 j (by omega) h2
  · rw [h.2 j (by omega), at_get, if_pos hj]
theorem AtI.fin {p : Int} {A : List Int} {n : Nat} {k : Int} {f : Nat → Int} (h : AtI p A n 0 k f) (hA : A.length = n) : ivs n f = A.map (.i .i64) := by
  subst hA
  rw [map_ivs]
  exact ivs_ext fun j hj => h.1 j (by omega) hj
theorem spec_l31At_ok (p : Int) (pw : List (List Int)) (br : List (List (List Int))) (hp : 2 ≤ p) (hp7 : p ≤ 7) (hn : pw.length ≤ 6) (k : Int) (hk0 : 0 ≤ k) (hk : k ≤ 1000) : ACp Try.prog 240 [ring p pw br, .i .i64 k] (ints (atL p pw.length k)) := by
 have hAl := (at_el hp (n := pw.length) (k := k)).len
 refine ACp.introV envOk Try.func240 rfl (by kernel_rfl) Try.ntmps240 Try.results240 ((ints_nr _)) (fun nx => ?_)
 refine AW.sr envOk (fun N hN => ?_)
 simp -dsimp -implicitDefEqProofs (disch := omega) only [go_sem, undef, reduceAdd, reduceSub, reduceGT, reduceEqDiff, reduceMul, ring, w64]
 refine hN _ ?_
 try clear hN N
 refine AW.freezeQ 2 nx _ rfl (upd_same _ _ _) ?_
 simp -dsimp -implicitDefEqProofs (disch := omega) only [go_sem, undef, reduceAdd, reduceSub, reduceGT, reduceEqDiff, reduceMul]
 refine AW.sr envOk (fun N hN => ?_)
 simp -dsimp -implicitDefEqProofs (disch := omega) only [go_sem, undef, reduceAdd, reduceSub, reduceGT, reduceEqDiff, reduceMul, ring, w64]
 refine (spec_l31Zero_fr p pw br (by omega) _ _).mono2 ?_
 rintro m1 H1 r1 hm1 ⟨id, rfl, hid1, hid2, rfl⟩
 try simp -dsimp -implicitDefEqProofs (disch := omega) only [go_sem, undef, reduceAdd, reduceSub, reduceGT, reduceEqDiff, reduceMul, ring, w64]
 refine hN _ ?_
 try clear hN N
 refine AW.seq (fun N1 hN1 => ?_)
 refine AW.sr envOk (fun N hN => ?_)
 simp -dsimp -implicitDefEqProofs (disch := omega) only [go_sem, undef, reduceAdd, reduceSub, reduceGT, reduceEqDiff, reduceMul, ring, w64]
 refine hN _ ?_
 try clear hN N
 refine AW.block ?_
 refine AW.loopN (α := Nat × Int × (Nat → Int)) (fun x => sl 28 [(1, .i .i64 x.2.1), (2, ringP p pw br), (5, .h id 0 pw.length), (6, .i .i64 ((x.1 : Int) - 1))]) (fun x => upd noH id (some (ivs pw.length x.2.2))) (fun x m => (x.1 ≤ pw.length ∧ 0 ≤ x.2.1 ∧ x.2.1 ≤ 1000) ∧ AtI p (atL p pw.length k) pw.length x.1 x.2.1 x.2.2) (fun x => x.1) ((pw.length, k, fun _ => 0)) ?_ ?_ (Le.only) ?_
 ·exact ⟨⟨by simp, hk0, hk⟩, .start⟩
 ·simp (disch := omega) [wks, wkA, sl, rows, ringP, w64]
 ·skip
  rintro ⟨i, q, f⟩ m ⟨⟨hi, hq0, hq⟩, hA⟩
  dsimp only at hi hq0 hq hA
  have hid : ∀ f : Nat → Int, upd noH id (some (ivs pw.length f)) id = some (ivs pw.length f) := fun f => upd_same _ _ _
  simp -dsimp -implicitDefEqProofs (disch := omega) only [go_sem, undef, reduceAdd, reduceSub, reduceGT, reduceEqDiff, reduceMul]
  refine AW.seq (fun N2 hN2 => ?_)
  refine AW.sr envOk (fun N hN => ?_)
  simp -dsimp -implicitDefEqProofs (disch := omega) only [go_sem, undef, reduceAdd, reduceSub, reduceGT, reduceEqDiff, reduceMul, ring, w64, ringP]
  refine hN _ ?_
  try clear hN N
  refine AW.cond rfl (fun h1 => ?_) (fun h1 => ?_)
  ·try simp only [cn] at h1
   obtain ⟨i', rfl⟩ : ∃ i', i = i' + 1 := ⟨i - 1, by omega⟩
   have e1 : q.tmod p = q % p := Int.tmod_eq_emod_of_nonneg hq0
   have e2 : q.tdiv p = q / p := Int.tdiv_eq_ediv_of_nonneg hq0
   have e3 : 0 ≤ q / p := Int.ediv_nonneg hq0 (by omega)
   have e4 : q / p ≤ q := Int.ediv_le_self _ hq0
   have e7 : (((i' + 1 : Nat) : Int) - 1).toNat = i' := by omega
   have e5 := Int.emod_nonneg q (show p ≠ 0 by omega)
   have e6 := Int.emod_lt_of_pos q (show 0 < p by omega)
   refine AW.skip ?_
   simp only [thn, blk]
   refine hN2 _ ?_
   try clear hN2 N2
   refine AW.seq (fun N3 hN3 => ?_)
   refine AW.block ?_
   refine AW.sr envOk (fun N hN => ?_)
   simp -dsimp -implicitDefEqProofs (disch := omega) only [go_sem, undef, reduceAdd, reduceSub, reduceGT, reduceEqDiff, reduceMul, ring, w64, ringP, e1, e7]
   refine hN _ ?_
   try clear hN N
   refine AW.regionL envOk ?_
   simp -dsimp -implicitDefEqProofs (disch := omega) only [go_sem, undef, reduceAdd, reduceSub, reduceGT, reduceEqDiff, reduceMul, ring, w64, ringP, e2]
   refine hN3 _ ?_
   try clear hN3 N3
   refine AW.regionL envOk ?_
   simp -dsimp -implicitDefEqProofs (disch := omega) only [go_sem, undef, reduceAdd, reduceSub, reduceGT, reduceEqDiff, reduceMul, ring, w64]
   refine ⟨(i', q / p, fset f i' (q % p)), ?_, fun _ _ h => h, ?_, ?_⟩
   ·simp (disch := omega) [wks, wkA, sl, w64, rows, ringP] <;> omega
   ·exact ⟨⟨by first| omega| (simp only; omega)| (dsimp only; omega), e3, by first| omega| (simp only; omega)| (dsimp only; omega)⟩, hA.next⟩
   ·first | omega | (simp only; omega)
  ·try simp only [cn] at h1
   refine AW.exit ?_
   simp only [thn, blk, if_true]
   refine hN1 _ ?_
   try clear hN1 N1
   refine AW.sr envOk (fun N hN => ?_)
   simp -dsimp -implicitDefEqProofs (disch := omega) only [go_sem, undef, reduceAdd, reduceSub, reduceGT, reduceEqDiff, reduceMul, ring, w64]
   refine hN _ ?_
   try clear hN N
   refine AW.ret ?_
   simp -dsimp -implicitDefEqProofs (disch := omega) only [go_sem, undef, reduceAdd, reduceSub, reduceGT, reduceEqDiff, reduceMul]
   obtain rfl : i = 0 := by omega
   have hfin := hA.fin hAl
   have := Vw.blk (H := upd noH id (some (ivs pw.length f))) (upd_same _ _ _) (show pw.length = (ivs pw.length f).length by rw [ivs_len])
   rw [hfin] at this ⊢
   unfold ints
   rw [hAl]; exact this
theorem Le.at {H : HP} {id : Nat} {c : List AV} (h : H id = some c) : Le (upd noH id (some c)) H := by
  intro i d hi
  by_cases e : i = id
  · subst e; rw [upd_same] at hi; rw [h]; exact hi
  · rw [upd_ne _ _ e] at hi; cases hi
def GdP (p : Int) (pw : List (List Int)) (br : List (List (List Int))) (u v : List (List Int)) (x : List Int) (n : Nat) (b : Prop) : Prop := b ∧ ∀ i, i < n → zeros (redL p pw u (brkL p pw br x (v.getD i [])))
theorem GdP.z {p : Int} {pw : List (List Int)} {br : List (List (List Int))} {u v : List (List Int)} {x : List Int} {b : Prop} : GdP p pw br u v x 0 b = b := propext ⟨fun h => h.1, fun h => ⟨h, fun i hi => by omega⟩⟩
theorem GdP.s {p : Int} {pw : List (List Int)} {br : List (List (List Int))} {u v : List (List Int)} {x : List Int} {n : Nat} {b : Prop} (h : GdP p pw br u v x n b) : zeros (redL p pw u (brkL p pw br x (v.getD n []))) = GdP p pw br u v x (n + 1) b := propext ⟨fun hz => ⟨h.1, fun i hi => by
  by_cases e : i = n
  · subst e; exact hz
  · exact h.2 i (by omega)⟩, fun h => h.2 n (by omega)⟩
theorem GdP.abv {p : Int} {pw : List (List Int)} {br : List (List (List Int))} {u v : List (List Int)} {x : List Int} {b : Prop} (h : GdP p pw br u v x v.length b) : AbvP p pw br u v x := abv_iff.2 h.2
theorem GdP.not {p : Int} {pw : List (List Int)} {br : List (List (List Int))} {u v : List (List Int)} {x : List Int} {n : Nat} {b : Prop} (h : ¬ GdP p pw br u v x n b) (hn : n ≤ v.length) : ¬ b ∨ ¬ AbvP p pw br u v x := by
  by_cases hb : b
  · exact .inr fun ha => h ⟨hb, fun i hi => abv_iff.1 ha i (by omega)⟩
  · exact .inl hb
theorem tf_not {q : Prop} : (!tf q) = tf (¬ q) := by
  by_cases h : q
  · rw [tf_t h, tf_f (fun hn => hn h)]; rfl
  · rw [tf_f h, tf_t h]; rfl
theorem upTo_skip {p : Int} {pw : List (List Int)} {P : List Int → Prop} {k : Nat} {A : List Int} (t : Tri p pw) (hp : pr4 p) (hA : atL p pw.length (k : Int) = A) (h : ¬ ¬ zeros (redL p pw (upTo p pw P k) A) ∨ ¬ P A) : upTo p pw P (k + 1) = upTo p pw P k := by
  subst hA
  rcases h with h | h
  · exact upTo_in t hp (Classical.not_not.1 h)
  · exact upTo_no h
set_option maxHeartbeats 2000000 in
theorem spec_l32Above_ok (p : Int) (pw : List (List Int)) (br : List (List (List Int))) (h : shapeP p pw br) (u v : List (List Int)) (hu : Rws p pw.length u) (hv : v.length ≤ 1000) (hve : ∀ b ∈ v, El p pw.length b) : ACp Try.prog 154 [ring p pw br, rows v, rows u] (rows (aboveL p pw br u v)) := by
 have ht := h.tri
 have hp := h.1
 have h6 := ht.n6
 have hsz : capPow p pw.length = p ^ pw.length := by have h1 := capPow_eq h.1 pw.length; have h2 := h.2.2.2.1; omega
 have h9 := h.2.2.2.1
 have hpos : 0 < p ^ pw.length := Int.pow_pos (by have := ht.p2; omega)
 have hsize := spec_l31Size_ok p pw.length h.1 (by omega)
 rw [hsz] at hsize
 refine ACp.introV envOk Try.func154 rfl (by kernel_rfl) Try.ntmps154 Try.results154 ((rows_nr _)) (fun nx => ?_)
 refine AW.sr envOk (fun N hN => ?_)
 simp -dsimp -implicitDefEqProofs (disch := omega) only [go_sem, undef, reduceAdd, reduceSub, reduceGT, reduceEqDiff, reduceMul, ring, ringP, rows, gd_r, w64]
 refine hN _ ?_
 try clear hN N
 refine AW.freezeQ 3 nx _ rfl (upd_same _ _ _) ?_
 simp -dsimp -implicitDefEqProofs (disch := omega) only [go_sem, undef, reduceAdd, reduceSub, reduceGT, reduceEqDiff, reduceMul]
 refine AW.sr envOk (fun N hN => ?_)
 simp -dsimp -implicitDefEqProofs (disch := omega) only [go_sem, undef, reduceAdd, reduceSub, reduceGT, reduceEqDiff, reduceMul, ring, ringP, rows, gd_r, w64]
 refine hN _ ?_
 try clear hN N
 refine AW.seq (fun N1 hN1 => ?_)
 refine AW.sr envOk (fun N hN => ?_)
 simp -dsimp -implicitDefEqProofs (disch := omega) only [go_sem, undef, reduceAdd, reduceSub, reduceGT, reduceEqDiff, reduceMul, ring, ringP, rows, gd_r, w64]
 refine hN _ ?_
 try clear hN N
 refine AW.block ?_
 refine AW.loopN (α := Nat × Nat) (fun x => sl 58 [(1, rows v), (2, rows u), (3, ringP p pw br), (7, .h x.2 0 (upTo p pw (AbvP p pw br u v) x.1).length), (8, .i .i64 x.1)]) (fun x => upd noH x.2 (some ((upTo p pw (AbvP p pw br u v) x.1).map ints))) (fun x m => ((x.1 : Int) ≤ p ^ pw.length ∧ nx ≤ x.2 ∧ x.2 < m)) (fun x => (p ^ pw.length).toNat - x.1) ((0, nx + 2)) ?_ ?_ (by show Le (upd noH _ _) _; rw [upTo_z ht]; exact Le.only) ?_
 ·exact ⟨by simp; omega, by first| omega| (simp only; omega)| (dsimp only; omega), by first| omega| (simp only; omega)| (dsimp only; omega)⟩
 ·simp (disch := omega) [wks, wkA, sl, rows, ringP, upTo_z ht]
 ·skip
  rintro ⟨k, id⟩ m ⟨hk, hid1, hid2⟩
  dsimp only at hk hid1 hid2
  have hUc : CanU p pw (upTo p pw (AbvP p pw br u v) k) := upTo_can ht hp
  have hUl := hUc.toEch.len
  obtain ⟨A, hA⟩ : ∃ A, atL p pw.length k = A := ⟨_, rfl⟩
  have hAe : El p pw.length A := hA ▸ at_el ht.p2
  have hAt := spec_l31At_ok p pw br ht.p2 (pr4_bd hp).2 h6 k
  rw [hA] at hAt
  simp -dsimp -implicitDefEqProofs (disch := omega) only [go_sem, undef, reduceAdd, reduceSub, reduceGT, reduceEqDiff, reduceMul]
  refine AW.seq (fun N2 hN2 => ?_)
  refine AW.sr envOk (fun N hN => ?_)
  simp -dsimp -implicitDefEqProofs (disch := omega) only [go_sem, undef, reduceAdd, reduceSub, reduceGT, reduceEqDiff, reduceMul, ring, ringP, rows, gd_r, w64]
  refine AC.pure (.of (hsize )) ?_
  try simp -dsimp -implicitDefEqProofs (disch := omega) only [go_sem, undef, reduceAdd, reduceSub, reduceGT, reduceEqDiff, reduceMul, ring, ringP, rows, gd_r, w64]
  refine hN _ ?_
  try clear hN N
  refine AW.cond rfl (fun h1 => ?_) (fun h1 => ?_)
  ·try simp only [cn] at h1
   refine AW.skip ?_
   simp only [thn, blk]
   refine hN2 _ ?_
   try clear hN2 N2
   refine AW.seq (fun N3 hN3 => ?_)
   refine AW.block ?_
   refine AW.sr envOk (fun N hN => ?_)
   simp -dsimp -implicitDefEqProofs (disch := omega) only [go_sem, undef, reduceAdd, reduceSub, reduceGT, reduceEqDiff, reduceMul, ring, ringP, rows, gd_r, w64]
   refine AC.pure (.of (hAt (by omega) (by omega) )) ?_
   try simp -dsimp -implicitDefEqProofs (disch := omega) only [go_sem, undef, reduceAdd, reduceSub, reduceGT, reduceEqDiff, reduceMul, ring, ringP, rows, gd_r, w64]
   refine hN _ ?_
   try clear hN N
   refine AW.sr envOk (fun N hN => ?_)
   simp -dsimp -implicitDefEqProofs (disch := omega) only [go_sem, undef, reduceAdd, reduceSub, reduceGT, reduceEqDiff, reduceMul, ring, ringP, rows, gd_r, w64]
   refine AC.pure (.lent (spec_l32In_ok p pw br ht (upTo p pw (AbvP p pw br u v) k) (hUc.rws h6) A hAe) (.cons (.refl _) (.cons (Vw.rws rfl (upd_same _ _ _)) (.cons (.refl _) .nil))) (.b _)) ?_
   try simp -dsimp -implicitDefEqProofs (disch := omega) only [go_sem, undef, reduceAdd, reduceSub, reduceGT, reduceEqDiff, reduceMul, ring, ringP, rows, gd_r, w64]
   refine hN _ ?_
   try clear hN N
   refine AW.seq (fun N4 hN4 => ?_)
   refine AW.sr envOk (fun N hN => ?_)
   simp -dsimp -implicitDefEqProofs (disch := omega) only [go_sem, undef, reduceAdd, reduceSub, reduceGT, reduceEqDiff, reduceMul, ring, ringP, rows, gd_r, w64]
   refine hN _ ?_
   try clear hN N
   refine AW.block ?_
   refine AW.loopN (α := Nat × Bool) (fun x => sl 58 [(1, rows v), (2, rows u), (3, ringP p pw br), (7, .h id 0 (upTo p pw (AbvP p pw br u v) k).length), (8, .i .i64 k), (9, ints A), (10, .b x.2), (11, .i .i64 x.1)]) (fun x => upd noH id (some ((upTo p pw (AbvP p pw br u v) k).map ints))) (fun x m => x.1 ≤ v.length ∧ nx ≤ m ∧ id < m ∧ x.2 = tf (GdP p pw br u v A x.1 (¬ zeros (redL p pw (upTo p pw (AbvP p pw br u v) k) A)))) (fun x => v.length - x.1) ((0, !tf (zeros (redL p pw (upTo p pw (AbvP p pw br u v) k) A)))) ?_ ?_ (fun _ _ h => h) ?_
   ·exact ⟨by simp, by first| omega| (simp only; omega)| (dsimp only; omega), by first| omega| (simp only; omega)| (dsimp only; omega), by rw [GdP.z]; exact tf_not⟩
   ·simp (disch := omega) [wks, wkA, sl, w64, ints, rows, cubes, ring, ringP, rows, gd_r, w64] <;> omega
   ·skip
    rintro ⟨i, g⟩ m2 ⟨hi, hm2, hid3, hg⟩
    simp -dsimp -implicitDefEqProofs (disch := omega) only [go_sem, undef, reduceAdd, reduceSub, reduceGT, reduceEqDiff, reduceMul]
    dsimp only at hi hm2 hid3 hg
    subst hg
    refine AW.seq (fun N5 hN5 => ?_)
    refine AW.sr envOk (fun N hN => ?_)
    simp -dsimp -implicitDefEqProofs (disch := omega) only [go_sem, undef, reduceAdd, reduceSub, reduceGT, reduceEqDiff, reduceMul, ring, ringP, rows, gd_r, w64]
    refine gopB.mk' (fun h2 => ?_) (fun h2 => ?_)
    ·try simp only [cn] at h2
     have hve' := hve _ (ix_mem (d := []) (show i < v.length by omega))
     try simp -dsimp -implicitDefEqProofs (disch := omega) only [go_sem, undef, reduceAdd, reduceSub, reduceGT, reduceEqDiff, reduceMul, ring, ringP, rows, gd_r, w64]
     refine hN _ ?_
     try clear hN N
     refine AW.cond rfl (fun h3 => ?_) (fun h3 => ?_)
     ·try simp only [cn] at h3
      refine AW.skip ?_
      simp only [thn, blk]
      refine hN5 _ ?_
      try clear hN5 N5
      refine AW.seq (fun N6 hN6 => ?_)
      refine AW.block ?_
      refine AW.drawL envOk (by kernel_rfl) 11 (by kernel_rfl) ?_
      simp -dsimp -implicitDefEqProofs (disch := omega) only [hr_nil, hr_one, hr_if, List.take_succ_cons, List.take_zero, List.drop_succ_cons, List.drop_zero, List.take_nil, List.drop_nil, go_sem, undef, reduceAdd, reduceSub, reduceGT, reduceEqDiff, reduceMul, ring, ringP, rows, gd_r, w64]
      refine ⟨_, .of ((spec_l31Bracket_ok p pw br h.sh A (v.getD i []) hAe hve') ), ?_⟩
      try simp -dsimp -implicitDefEqProofs (disch := omega) only [go_sem, undef, reduceAdd, reduceSub, reduceGT, reduceEqDiff, reduceMul, ring, ringP, rows, gd_r, w64]
      refine ⟨_, .of (spec_l32In_ok p pw br ht u hu (brkL p pw br A (v.getD i [])) (brk_el h.sh _ _)), ?_⟩
      try simp -dsimp -implicitDefEqProofs (disch := omega) only [go_sem, undef, reduceAdd, reduceSub, reduceGT, reduceEqDiff, reduceMul, ring, ringP, rows, gd_r, w64]
      refine hN6 _ ?_
      try clear hN6 N6
      refine AW.regionL envOk ?_
      simp -dsimp -implicitDefEqProofs (disch := omega) only [go_sem, undef, reduceAdd, reduceSub, reduceGT, reduceEqDiff, reduceMul, ring, ringP, rows, gd_r, w64]
      refine ⟨(i + 1, tf (zeros (redL p pw u (brkL p pw br A (v.getD i []))))), ?_, fun _ _ h => h, ?_, ?_⟩
      ·simp (disch := omega) [wks, wkA, sl, w64, ints, rows, cubes, ring, ringP, rows, gd_r, w64] <;> omega
      ·exact ⟨by first| omega| (simp only; omega)| (dsimp only; omega), by rw [GdP.s h3]⟩
      ·first | omega | (simp only; omega)
     ·try simp only [cn] at h3
      refine AW.exit ?_
      simp only [thn, blk, if_true]
      refine hN4 _ ?_
      try clear hN4 N4
      refine AW.sr envOk (fun N hN => ?_)
      simp -dsimp -implicitDefEqProofs (disch := omega) only [go_sem, undef, reduceAdd, reduceSub, reduceGT, reduceEqDiff, reduceMul, ring, ringP, rows, gd_r, w64]
      refine hN _ ?_
      try clear hN N
      refine AW.cond rfl (fun h4 => ?_) (fun h4 => ?_)
      ·try simp only [cn] at h4
       exact absurd h4 h3
      ·try simp only [cn] at h4
       have hup := upTo_skip ht hp hA (GdP.not h4 (by omega))
       refine AW.skip ?_
       simp only [thn, blk]
       refine hN3 _ ?_
       try clear hN3 N3
       refine AW.regionL envOk ?_
       simp -dsimp -implicitDefEqProofs (disch := omega) only [go_sem, undef, reduceAdd, reduceSub, reduceGT, reduceEqDiff, reduceMul, ring, ringP, rows, gd_r, w64]
       refine ⟨(k + 1, id), ?_, by show Le (upd noH id _) _; rw [hup]; exact Le.refl _, ?_, ?_⟩
       ·simp (disch := omega) [wks, wkA, sl, w64, rows, ringP, hup]
       ·exact ⟨by first| omega| (simp only; omega)| (dsimp only; omega), by first| omega| (simp only; omega)| (dsimp only; omega), by first| omega| (simp only; omega)| (dsimp only; omega)⟩
       ·first | omega | (simp only; omega)
    ·try simp only [cn] at h2
     try simp -dsimp -implicitDefEqProofs (disch := omega) only [go_sem, undef, reduceAdd, reduceSub, reduceGT, reduceEqDiff, reduceMul, ring, ringP, rows, gd_r, w64]
     refine hN _ ?_
     try clear hN N
     refine AW.condF rfl ?_
     refine AW.exit ?_
     simp only [thn, blk, if_true]
     refine hN4 _ ?_
     try clear hN4 N4
     refine AW.sr envOk (fun N hN => ?_)
     simp -dsimp -implicitDefEqProofs (disch := omega) only [go_sem, undef, reduceAdd, reduceSub, reduceGT, reduceEqDiff, reduceMul, ring, ringP, rows, gd_r, w64]
     refine hN _ ?_
     try clear hN N
     refine AW.cond rfl (fun h5 => ?_) (fun h5 => ?_)
     ·try simp only [cn] at h5
      have hup : upTo p pw (AbvP p pw br u v) (k + 1) = spanL p pw (upTo p pw (AbvP p pw br u v) k ++ [A]) := by
       obtain rfl : i = v.length := by omega
       have := upTo_yes ht hp (P := AbvP p pw br u v) (k := k) (by rw [hA]; exact h5.abv)
       rwa [hA] at this
      refine AW.drawF envOk (by kernel_rfl) [true, true, true, false, false, false, false] (by kernel_rfl) ?_
      simp -dsimp -implicitDefEqProofs (disch := omega) only [go_sem, undef, reduceAdd, reduceSub, reduceGT, reduceEqDiff, reduceMul, ring, ringP, rows, gd_r, w64]
      refine AC.fz (ts := [ring p pw br, rows (upTo p pw (AbvP p pw br u v) k ++ [A])]) FzH.del ⟨.refl _, Fz.rws (upd_same _ _ _) (by rw [List.take_of_length_le (by simp), List.map_append]; rfl) (by simp), trivial⟩ ((AC.frame (spec_l32Span_h p pw br ht hp (upTo p pw (AbvP p pw br u v) k ++ [A]) (by simp; omega) (fun j hj => app_el hUc.el (fun b hb => by rw [List.mem_singleton.1 hb]; exact hAe) _ (ix_mem hj)) _)).mono2 ?_)
      rintro m1 H1 r1 hm1 ⟨H0, ⟨id2, g1, g2, rfl, g3⟩, g4, g5⟩
      rw [← hup] at g3 ⊢
      have g6 := (g5 id2 g1).trans g3
      try simp -dsimp -implicitDefEqProofs (disch := omega) only [go_sem, undef, reduceAdd, reduceSub, reduceGT, reduceEqDiff, reduceMul, ring, ringP, rows, gd_r, w64]
      refine hN3 _ ?_
      try clear hN3 N3
      refine AW.regionL envOk ?_
      simp -dsimp -implicitDefEqProofs (disch := omega) only [go_sem, undef, reduceAdd, reduceSub, reduceGT, reduceEqDiff, reduceMul, ring, ringP, rows, gd_r, w64]
      refine ⟨(k + 1, id2), ?_, Le.at g6, ?_, ?_⟩
      ·simp (disch := omega) [wks, wkA, sl, w64, rows, ringP, hup]
      ·exact ⟨by first| omega| (simp only; omega)| (dsimp only; omega), by first| omega| (simp only; omega)| (dsimp only; omega), by first| omega| (simp only; omega)| (dsimp only; omega)⟩
      ·first | omega | (simp only; omega)
     ·try simp only [cn] at h5
      have hup := upTo_skip ht hp hA (GdP.not h5 (by omega))
      refine AW.skip ?_
      simp only [thn, blk]
      refine hN3 _ ?_
      try clear hN3 N3
      refine AW.regionL envOk ?_
      simp -dsimp -implicitDefEqProofs (disch := omega) only [go_sem, undef, reduceAdd, reduceSub, reduceGT, reduceEqDiff, reduceMul, ring, ringP, rows, gd_r, w64]
      refine ⟨(k + 1, id), ?_, by show Le (upd noH id _) _; rw [hup]; exact Le.refl _, ?_, ?_⟩
      ·simp (disch := omega) [wks, wkA, sl, w64, rows, ringP, hup]
      ·exact ⟨by first| omega| (simp only; omega)| (dsimp only; omega), by first| omega| (simp only; omega)| (dsimp only; omega), by first| omega| (simp only; omega)| (dsimp only; omega)⟩
      ·first | omega | (simp only; omega)
  ·try simp only [cn] at h1
   refine AW.exit ?_
   simp only [thn, blk, if_true]
   refine hN1 _ ?_
   try clear hN1 N1
   refine AW.sr envOk (fun N hN => ?_)
   simp -dsimp -implicitDefEqProofs (disch := omega) only [go_sem, undef, reduceAdd, reduceSub, reduceGT, reduceEqDiff, reduceMul, ring, ringP, rows, gd_r, w64]
   refine hN _ ?_
   try clear hN N
   refine AW.ret ?_
   simp -dsimp -implicitDefEqProofs (disch := omega) only [go_sem, undef, reduceAdd, reduceSub, reduceGT, reduceEqDiff, reduceMul]
   have hk2 := upTo_all ht hp (P := AbvP p pw br u v) (k := k) (by omega)
   unfold aboveL
   rw [← hk2]
   exact Vw.rws rfl (upd_same _ _ _)
end Go.Proofs.Ytdghgmgppecncaa
