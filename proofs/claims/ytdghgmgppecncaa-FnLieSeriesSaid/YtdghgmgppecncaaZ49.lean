import Derived.Test.YtdghgmgppecncaaZ48
set_option linter.unusedVariables false
set_option linter.unusedSimpArgs false
namespace Go.Proofs.Ytdghgmgppecncaa
open Nat (reduceAdd reduceSub reduceGT reduceEqDiff reduceMul)
noncomputable def upK (p : Int) (pw : List (List Int)) (br : List (List (List Int))) : List (List (List Int)) := open Classical in if h : ∃ K, SerC (upS p pw br) [] K ∧ K.length ≤ pw.length + 1 then Classical.choose h else []
theorem upK_ok {p : Int} {pw : List (List Int)} {br : List (List (List Int))} (h : shapeP p pw br) : SerC (upS p pw br) [] (upK p pw br) ∧ (upK p pw br).length ≤ pw.length + 1 := by
  have hex := up_ex h pw.length (nil_can h.tri h.1) van_n
  unfold upK
  rw [dif_pos hex]
  exact Classical.choose_spec hex
theorem upK_sml {p : Int} {pw : List (List Int)} {br : List (List (List Int))} (h : shapeP p pw br) : cubesml (upK p pw br) := by
  obtain ⟨g1, g2⟩ := upK_ok h
  have h6 := h.tri.n6
  exact ⟨by omega, ser_sml h6 (fun u hu => up_can h.tri h.1) g1 (nil_can h.tri h.1)⟩
theorem impl_UpperLieSeries_1_ok (p : Int) (pw : List (List Int)) (br : List (List (List Int))) (h : shapeP p pw br) (u : List (List Int)) (hu : CanU p pw u) : ACo Try.prog 151 [rows u, ringP p pw br] (rows (upS p pw br u)) := by
 have ht := h.tri
 have h6 := ht.n6
 intro nx
 refine AC.intro' envOk Try.func151 rfl (by kernel_rfl) Try.ntmps151 Try.results151 ?_
 refine AW.sr envOk (fun N hN => ?_)
 simp -dsimp -implicitDefEqProofs (disch := omega) only [go_sem, undef, reduceAdd, reduceSub, reduceGT, reduceEqDiff, reduceMul, w64]
 refine hN _ ?_
 try clear hN N
 refine AW.sr envOk (fun N hN => ?_)
 simp -dsimp -implicitDefEqProofs (disch := omega) only [go_sem, undef, reduceAdd, reduceSub, reduceGT, reduceEqDiff, reduceMul, w64]
 refine AC.pure (.of (impl_wholeLie_ok p pw br (by omega))) ?_
 try simp -dsimp -implicitDefEqProofs (disch := omega) only [go_sem, undef, reduceAdd, reduceSub, reduceGT, reduceEqDiff, reduceMul, w64]
 refine AC.own (impl_lieAbove_ok p pw br h.sh ht h.1 h.2.2.2.1 u (wholeL pw.length) (hu.rws h6) (by rw [whole_len]; omega) (whole_el ht.p2)) (.cons (.refl _) (.cons (.refl _) (.cons (.refl _) .nil))) ?_
 intro m1 H1 r1 ids1 hm1 hH1 hown1
 try simp -dsimp -implicitDefEqProofs (disch := omega) only [go_sem, undef, reduceAdd, reduceSub, reduceGT, reduceEqDiff, reduceMul, w64]
 refine hN _ ?_
 try clear hN N
 refine AW.ret ?_
 simp -dsimp -implicitDefEqProofs (disch := omega) only [go_sem, undef, reduceAdd, reduceSub, reduceGT, reduceEqDiff, reduceMul]
 exact ⟨ids1, hown1.keep (fun _ _ _ => rfl) (by omega) (by omega)⟩
theorem impl_UpperLieSeries_ok (p : Int) (pw : List (List Int)) (br : List (List (List Int))) (hl : ringlen pw br) : ACo Try.prog 76 [ring p pw br] (resCC (orCC (tf (LieR p pw br)) (upK p pw br, 0))) := by
 intro nx
 refine AC.intro' envOk Try.func76 rfl (by kernel_rfl) Try.ntmps76 Try.results76 ?_
 refine AW.sr envOk (fun N hN => ?_)
 simp -dsimp -implicitDefEqProofs (disch := omega) only [go_sem, undef, reduceAdd, reduceSub, reduceGT, reduceEqDiff, reduceMul, ring, w64]
 refine hN _ ?_
 try clear hN N
 refine AW.freezeQ 1 nx _ rfl (upd_same _ _ _) ?_
 simp -dsimp -implicitDefEqProofs (disch := omega) only [go_sem, undef, reduceAdd, reduceSub, reduceGT, reduceEqDiff, reduceMul]
 refine AW.seq (fun N1 hN1 => ?_)
 refine AW.sr envOk (fun N hN => ?_)
 simp -dsimp -implicitDefEqProofs (disch := omega) only [go_sem, undef, reduceAdd, reduceSub, reduceGT, reduceEqDiff, reduceMul, ring, w64]
 refine AC.pure (.of (impl_IsLieRing_ok p pw br hl)) ?_
 try simp -dsimp -implicitDefEqProofs (disch := omega) only [go_sem, undef, reduceAdd, reduceSub, reduceGT, reduceEqDiff, reduceMul, ring, w64]
 refine hN _ ?_
 try clear hN N
 refine AW.cond rfl (fun h1 => ?_) (fun h1 => ?_)
 ·try simp only [cn] at h1
  refine AW.sr envOk (fun N hN => ?_)
  simp -dsimp -implicitDefEqProofs (disch := omega) only [go_sem, undef, reduceAdd, reduceSub, reduceGT, reduceEqDiff, reduceMul, ring, w64]
  refine hN _ ?_
  try clear hN N
  refine AW.ret ?_
  simp -dsimp -implicitDefEqProofs (disch := omega) only [go_sem, undef, reduceAdd, reduceSub, reduceGT, reduceEqDiff, reduceMul]
  rw [tf_f h1]
  exact Own.nilCC
 ·try simp only [cn] at h1
  obtain ⟨g1, g2⟩ := upK_ok h1.1
  have ht := h1.1.tri
  have h6 := ht.n6
  refine AW.skip ?_
  simp only [thn, blk]
  refine hN1 _ ?_
  try clear hN1 N1
  refine AW.sr envOk (fun N hN => ?_)
  simp -dsimp -implicitDefEqProofs (disch := omega) only [go_sem, undef, reduceAdd, reduceSub, reduceGT, reduceEqDiff, reduceMul, ring, w64]
  refine (impl_series_ok 151 [ringP p pw br] (upS p pw br) (CanU p pw) (fun u hu => up_can ht h1.1.1) (fun u hu => hu.rl h6) (fun u hu => impl_UpperLieSeries_1_ok p pw br h1.1 u hu) [] (upK p pw br) (nil_can ht h1.1.1) g1 (by omega) _ _ _ .nl [] ⟨.nl, by simp, by simp⟩ (Nat.le_refl _)).mono2 ?_
  rintro m2 H2 r2 hm2 ⟨ids2, hown2⟩
  try simp -dsimp -implicitDefEqProofs (disch := omega) only [go_sem, undef, reduceAdd, reduceSub, reduceGT, reduceEqDiff, reduceMul, ring, w64]
  refine hN _ ?_
  try clear hN N
  refine AW.ret ?_
  simp -dsimp -implicitDefEqProofs (disch := omega) only [go_sem, undef, reduceAdd, reduceSub, reduceGT, reduceEqDiff, reduceMul]
  rw [tf_t h1]
  exact (hown2.keep (fun _ _ _ => rfl) (by omega) (by omega)).pair
theorem spec_UpperLieSeries_ok (p : Int) (pw : List (List Int)) (br : List (List (List Int))) (hl : ringlen pw br) : ACp Try.prog 77 [ring p pw br] (resCC (orCC (tf (LieR p pw br)) (upK p pw br, 0))) := by
 obtain ⟨K, hK⟩ : ∃ K, upK p pw br = K := ⟨_, rfl⟩
 refine ACp.introV envOk Try.func77 rfl (by kernel_rfl) Try.ntmps77 Try.results77 ((resCC_nr _)) (fun nx => ?_)
 refine AW.sr envOk (fun N hN => ?_)
 simp -dsimp -implicitDefEqProofs (disch := omega) only [go_sem, undef, reduceAdd, reduceSub, reduceGT, reduceEqDiff, reduceMul, ring, ringP, w64, one_rows, rows_one]
 refine hN _ ?_
 try clear hN N
 refine AW.freezeQ 1 nx _ rfl (upd_same _ _ _) ?_
 simp -dsimp -implicitDefEqProofs (disch := omega) only [go_sem, undef, reduceAdd, reduceSub, reduceGT, reduceEqDiff, reduceMul]
 refine AW.seq (fun N1 hN1 => ?_)
 refine AW.sr envOk (fun N hN => ?_)
 simp -dsimp -implicitDefEqProofs (disch := omega) only [go_sem, undef, reduceAdd, reduceSub, reduceGT, reduceEqDiff, reduceMul, ring, ringP, w64, one_rows, rows_one]
 refine AC.pure (.of (spec_IsLieRing_ok p pw br hl)) ?_
 try simp -dsimp -implicitDefEqProofs (disch := omega) only [go_sem, undef, reduceAdd, reduceSub, reduceGT, reduceEqDiff, reduceMul, ring, ringP, w64, one_rows, rows_one]
 refine hN _ ?_
 try clear hN N
 refine AW.cond rfl (fun h1 => ?_) (fun h1 => ?_)
 ·try simp only [cn] at h1
  refine AW.sr envOk (fun N hN => ?_)
  simp -dsimp -implicitDefEqProofs (disch := omega) only [go_sem, undef, reduceAdd, reduceSub, reduceGT, reduceEqDiff, reduceMul, ring, ringP, w64, one_rows, rows_one]
  refine hN _ ?_
  try clear hN N
  refine AW.ret ?_
  simp -dsimp -implicitDefEqProofs (disch := omega) only [go_sem, undef, reduceAdd, reduceSub, reduceGT, reduceEqDiff, reduceMul]
  rw [tf_f h1]
  exact Vw.t2 .nl
 ·try simp only [cn] at h1
  obtain ⟨g1, g2⟩ := upK_ok h1.1
  rw [hK] at g1 g2
  have ht := h1.1.tri
  have h6 := ht.n6
  have hwl := whole_len (n := pw.length)
  refine AW.skip ?_
  simp only [thn, blk]
  refine hN1 _ ?_
  try clear hN1 N1
  refine AW.sr envOk (fun N hN => ?_)
  simp -dsimp -implicitDefEqProofs (disch := omega) only [go_sem, undef, reduceAdd, reduceSub, reduceGT, reduceEqDiff, reduceMul, ring, ringP, w64, one_rows, rows_one]
  refine hN _ ?_
  try clear hN N
  refine AW.freeze 4 (nx + 3 + 3) 0 [] rfl (upd_same _ _ _) rfl ?_
  simp -dsimp -implicitDefEqProofs (disch := omega) only [go_sem, undef, reduceAdd, reduceSub, reduceGT, reduceEqDiff, reduceMul]
  refine AW.sr envOk (fun N hN => ?_)
  simp -dsimp -implicitDefEqProofs (disch := omega) only [go_sem, undef, reduceAdd, reduceSub, reduceGT, reduceEqDiff, reduceMul, ring, ringP, w64, one_rows, rows_one]
  refine hN _ ?_
  try clear hN N
  refine AW.seq (fun N2 hN2 => ?_)
  refine AW.block ?_
  refine AW.loopN (α := Nat × List (List (List Int)) × List (List Int)) (fun x => sl 28 [(1, ringP p pw br), (4, rows x.2.2), (5, .h x.1 0 (x.2.1.length + 1))]) (fun x => upd noH x.1 (some (x.2.1.map rows ++ [rows x.2.2]))) (fun x m => (nx ≤ m ∧ nx ≤ x.1 ∧ x.1 < m) ∧ CanU p pw x.2.2 ∧ ∃ K', SerC (upS p pw br) x.2.2 K' ∧ K = x.2.1 ++ K') (fun x => K.length - x.2.1.length) ((nx + 3 + 3 + 2 + 1, [], [])) ?_ ?_ (Le.only) ?_
  ·exact ⟨by first| omega| (simp only; omega)| (dsimp only; omega), nil_can ht h1.1.1, K, g1, rfl⟩
  ·simp (disch := omega) [wks, wkA, sl, w64, ints, rows, cubes, ring, ringP, w64, one_rows, rows_one] <;> omega
  ·skip
   rintro ⟨id, K0, u⟩ m ⟨⟨hm, hid1, hid2⟩, hu, K', hS, hKK⟩
   dsimp only at hm hid1 hid2 hu hS hKK
   have hKl2 := congrArg List.length hKK
   have hul := hu.toEch.len
   simp -dsimp -implicitDefEqProofs (disch := omega) only [go_sem, undef, reduceAdd, reduceSub, reduceGT, reduceEqDiff, reduceMul]
   refine AW.seq (fun N3 hN3 => ?_)
   refine AW.sr envOk (fun N hN => ?_)
   simp -dsimp -implicitDefEqProofs (disch := omega) only [go_sem, undef, reduceAdd, reduceSub, reduceGT, reduceEqDiff, reduceMul, ring, ringP, w64, one_rows, rows_one]
   refine hN _ ?_
   try clear hN N
   refine AW.cond rfl (fun h2 => ?_) (fun h2 => ?_)
   ·try simp only [cn] at h2
    obtain ⟨K2, rfl, hS2⟩ := hS.next (fun e => by have := up_fix h1.1 hu e; omega)
    simp only [List.length_append, List.length_cons] at hKl2
    refine AW.skip ?_
    simp only [thn, blk]
    refine hN3 _ ?_
    try clear hN3 N3
    refine AW.block ?_
    refine AW.seq (fun N hN => ?_)
    refine AW.drawL envOk (by kernel_rfl) 6 (by kernel_rfl) ?_
    simp -dsimp -implicitDefEqProofs (disch := omega) only [hr_nil, hr_one, hr_if, List.take_succ_cons, List.take_zero, List.drop_succ_cons, List.drop_zero, List.take_nil, List.drop_nil, go_sem, undef, reduceAdd, reduceSub, reduceGT, reduceEqDiff, reduceMul, ring, ringP, w64, one_rows, rows_one]
    refine ⟨_, .of (spec_l32Whole_ok p pw br (by omega)), ?_⟩
    try simp -dsimp -implicitDefEqProofs (disch := omega) only [go_sem, undef, reduceAdd, reduceSub, reduceGT, reduceEqDiff, reduceMul, ring, ringP, w64, one_rows, rows_one]
    refine ⟨_, .of (spec_l32Above_ok p pw br h1.1 u (wholeL pw.length) (hu.rws h6) (by omega) (whole_el ht.p2)), ?_⟩
    try simp -dsimp -implicitDefEqProofs (disch := omega) only [go_sem, undef, reduceAdd, reduceSub, reduceGT, reduceEqDiff, reduceMul, ring, ringP, w64, one_rows, rows_one]
    refine hN _ ?_
    try clear hN N
    refine AW.regionL envOk ?_
    simp -dsimp -implicitDefEqProofs (disch := omega) only [go_sem, undef, reduceAdd, reduceSub, reduceGT, reduceEqDiff, reduceMul, ring, ringP, w64, one_rows, rows_one]
    refine ⟨(m + 6 + 6 + 3, K0 ++ [u], upS p pw br u), ?_, by rw [List.take_of_length_le (by simp), List.map_append]; exact Le.only, ?_, ?_⟩
    ·simp (disch := omega) [wks, wkA, sl, rows, ringP, upS]
    ·refine ⟨by first| omega| (simp only; omega)| (dsimp only; omega), up_can ht h1.1.1, K2, hS2, by rw [hKK]; simp⟩
    ·simp only [List.length_append, List.length_cons, List.length_nil]; omega
   ·try simp only [cn] at h2
    refine AW.exit ?_
    simp only [thn, blk, if_true]
    refine hN2 _ ?_
    try clear hN2 N2
    refine AW.sr envOk (fun N hN => ?_)
    simp -dsimp -implicitDefEqProofs (disch := omega) only [go_sem, undef, reduceAdd, reduceSub, reduceGT, reduceEqDiff, reduceMul, ring, ringP, w64, one_rows, rows_one]
    refine hN _ ?_
    try clear hN N
    refine AW.ret ?_
    simp -dsimp -implicitDefEqProofs (disch := omega) only [go_sem, undef, reduceAdd, reduceSub, reduceGT, reduceEqDiff, reduceMul]
    rw [tf_t h1, hK]
    have hKe := hS.eq (up_full h1.1 hu (by omega))
    subst hKe
    refine Vw.t2 ?_
    have := Vw.blk (id := id) (H := upd noH id (some (K0.map rows ++ [rows u]))) (upd_same _ _ _) (show K0.length + 1 = (K0.map rows ++ [rows u]).length by simp)
    rw [hKK]
    simpa [cubes, orCC] using this
end Go.Proofs.Ytdghgmgppecncaa
