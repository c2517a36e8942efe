import Derived.Test.YtdghgmgppecncaaZ24
import Derived.Test.YtdghgmgppecncaaZ43
set_option linter.unusedVariables false
set_option linter.unusedSimpArgs false
namespace Go.Proofs.Ytdghgmgppecncaa
open Nat (reduceAdd reduceSub reduceGT reduceEqDiff reduceMul)
noncomputable def lowK (p : Int) (pw : List (List Int)) (br : List (List (List Int))) : List (List (List Int)) := open Classical in if h : ∃ K, LowC p pw br (wholeL pw.length) K ∧ K.length ≤ pw.length + 1 then Classical.choose h else []
theorem wholeU {p : Int} {pw : List (List Int)} (t : Tri p pw) (hp : pr4 p) : CanU p pw (wholeL pw.length) := by
  have hu : ∀ k, k < pw.length → dep (unitL pw.length k) = k := fun k hk => dep_eq (by rw [(wunit_el (p := p) t.p2 (n := pw.length) (k := k)).len]; omega) (fun j hj => by rw [unitL, vec_get (by omega), if_neg (by omega)]) (fun _ => by rw [unitL, vec_get (by omega), if_pos rfl]; omega)
  have hg : ∀ {b : List Int}, b ∈ wholeL pw.length → ∃ k, k < pw.length ∧ b = unitL pw.length k := fun hb => by
    obtain ⟨k, hk, rfl⟩ := List.mem_map.1 hb
    exact ⟨k, List.mem_range.1 hk, rfl⟩
  refine ⟨⟨⟨whole_el t.p2, fun b hb => ?_, fun b hb => ?_, fun b hb c hc e => ?_⟩, fun k l hkl hl => ?_⟩, fun b hb => .gen hb, fun b hb c hc e => ?_, fun x hx _ hd => ⟨unitL pw.length (dep x), List.mem_map.2 ⟨_, List.mem_range.2 hd, rfl⟩, hu _ hd⟩⟩
  · obtain ⟨k, hk, rfl⟩ := hg hb; rw [hu k hk]; exact hk
  · obtain ⟨k, hk, rfl⟩ := hg hb; rw [hu k hk, unitL, vec_get hk, if_pos rfl]
  · obtain ⟨k, hk, rfl⟩ := hg hb
    obtain ⟨l, hl, rfl⟩ := hg hc
    rw [hu k hk, hu l hl] at e; rw [e]
  · rw [whole_len] at hl
    rw [whole_get (by omega), whole_get hl, hu k (by omega), hu l hl]; exact hkl
  · obtain ⟨k, hk, rfl⟩ := hg hb
    obtain ⟨l, hl, rfl⟩ := hg hc
    rw [hu l hl, unitL, vec_get hl, if_neg]
    intro e2; subst e2; exact e rfl
theorem lowK_ok {p : Int} {pw : List (List Int)} {br : List (List (List Int))} (h : shapeP p pw br) : LowC p pw br (wholeL pw.length) (lowK p pw br) ∧ (lowK p pw br).length ≤ pw.length + 1 := by
  have hw := wholeU h.tri h.1
  have hex : ∃ K, LowC p pw br (wholeL pw.length) K ∧ K.length ≤ pw.length + 1 := by
    obtain ⟨K, h1, h2⟩ := lowC_ex h pw.length 0 (u := wholeL pw.length) hw.toEch (fun b hb j hj => by omega) (by omega)
    exact ⟨K, h1, h2⟩
  unfold lowK
  rw [dif_pos hex]
  exact Classical.choose_spec hex
theorem LowC.pos {p : Int} {pw : List (List Int)} {br : List (List (List Int))} {u : List (List Int)} {K : List (List (List Int))} (h : LowC p pw br u K) : 0 < K.length := by cases h <;> simp
theorem impl_lowerLie_1_ok (p : Int) (pw : List (List Int)) (br : List (List (List Int))) (s : Sh p pw br) (ht : Tri p pw) (hp : pr4 p) (u : List (List Int)) (hu : CanU p pw u) : ACo Try.prog 235 [rows u, .p 0 [ringP p pw br]] (rows (lowS p pw br u)) := by
 have h6 := ht.n6
 have hul := hu.toEch.len
 have hwl := whole_len (n := pw.length)
 have hB : (brkLL p pw br u (wholeL pw.length)).length ≤ 1000 * 1000 := by rw [brkLL_len]; exact Nat.mul_le_mul (by omega) (by omega)
 intro nx
 refine AC.intro' envOk Try.func235 rfl (by kernel_rfl) Try.ntmps235 Try.results235 ?_
 refine AW.sr envOk (fun N hN => ?_)
 simp -dsimp -implicitDefEqProofs (disch := omega) only [go_sem, undef, reduceAdd, reduceSub, reduceGT, reduceEqDiff, reduceMul, w64]
 refine hN _ ?_
 try clear hN N
 refine AW.seq (fun N hN => ?_)
 refine AW.drawF envOk (by kernel_rfl) [true, true, true, true, false, false, false, false] (by kernel_rfl) ?_
 simp -dsimp -implicitDefEqProofs (disch := omega) only [go_sem, undef, reduceAdd, reduceSub, reduceGT, reduceEqDiff, reduceMul, w64]
 refine AC.pure (.of (impl_wholeLie_ok p pw br (by omega))) ?_
 try simp -dsimp -implicitDefEqProofs (disch := omega) only [go_sem, undef, reduceAdd, reduceSub, reduceGT, reduceEqDiff, reduceMul, w64]
 refine AC.pure (.of (impl_brackets_ok p pw br s u (wholeL pw.length) (by omega) (by omega) hu.el (whole_el ht.p2))) ?_
 try simp -dsimp -implicitDefEqProofs (disch := omega) only [go_sem, undef, reduceAdd, reduceSub, reduceGT, reduceEqDiff, reduceMul, w64]
 refine AC.own (impl_lieSpan_ok p pw br ht hp (brkLL p pw br u (wholeL pw.length)) (by omega) (fun k hk => brkLL_el s _ (ix_mem hk))) (.cons (.refl _) (.cons (.refl _) .nil)) ?_
 intro m1 H1 r1 ids1 hm1 hH1 hown1
 try simp -dsimp -implicitDefEqProofs (disch := omega) only [go_sem, undef, reduceAdd, reduceSub, reduceGT, reduceEqDiff, reduceMul, w64]
 refine hN _ ?_
 try clear hN N
 refine AW.ret ?_
 simp -dsimp -implicitDefEqProofs (disch := omega) only [go_sem, undef, reduceAdd, reduceSub, reduceGT, reduceEqDiff, reduceMul]
 exact ⟨ids1, hown1.keep (fun _ _ _ => rfl) (by omega) (by omega)⟩
theorem impl_lowerLie_ok (p : Int) (pw : List (List Int)) (br : List (List (List Int))) (h : shapeP p pw br) (K : List (List (List Int))) (hK : LowC p pw br (wholeL pw.length) K) (hKl : K.length ≤ 1000) : ACo Try.prog 148 [ringP p pw br] (cubes K) := by
 have ht := h.tri
 have h6 := ht.n6
 intro nx
 refine AC.intro' envOk Try.func148 rfl (by kernel_rfl) Try.ntmps148 Try.results148 ?_
 refine AW.sr envOk (fun N hN => ?_)
 simp -dsimp -implicitDefEqProofs (disch := omega) only [go_sem, undef, reduceAdd, reduceSub, reduceGT, reduceEqDiff, reduceMul, w64, ring_cell, ring_ok]
 refine hN _ ?_
 try clear hN N
 refine AW.freezeQ 1 nx _ rfl (upd_same _ _ _) ?_
 simp -dsimp -implicitDefEqProofs (disch := omega) only [go_sem, undef, reduceAdd, reduceSub, reduceGT, reduceEqDiff, reduceMul]
 refine AW.sr envOk (fun N hN => ?_)
 simp -dsimp -implicitDefEqProofs (disch := omega) only [go_sem, undef, reduceAdd, reduceSub, reduceGT, reduceEqDiff, reduceMul, w64, ring_cell, ring_ok]
 refine AC.own (impl_wholeLie_own p pw br (by omega)) (.cons (.refl _) .nil) ?_
 intro m1 H1 r1 ids1 hm1 hH1 hown1
 try simp -dsimp -implicitDefEqProofs (disch := omega) only [go_sem, undef, reduceAdd, reduceSub, reduceGT, reduceEqDiff, reduceMul, w64, ring_cell, ring_ok]
 refine (impl_series_ok 235 [.p 0 [ringP p pw br]] (lowS p pw br) (CanU p pw) (fun u hu => spanU ht h.1 (brkLL_el h.sh)) (fun u hu => hu.rl h6) (fun u hu => impl_lowerLie_1_ok p pw br h.sh ht h.1 u hu) (wholeL pw.length) K (wholeU ht h.1) (hK.ser ht h.1 h (wholeU ht h.1)) hKl _ _ _ r1 ids1 hown1 (by omega)).mono2 ?_
 rintro m2 H2 r2 hm2 ⟨ids2, hown2⟩
 try simp -dsimp -implicitDefEqProofs (disch := omega) only [go_sem, undef, reduceAdd, reduceSub, reduceGT, reduceEqDiff, reduceMul, w64, ring_cell, ring_ok]
 refine hN _ ?_
 try clear hN N
 refine AW.ret ?_
 simp -dsimp -implicitDefEqProofs (disch := omega) only [go_sem, undef, reduceAdd, reduceSub, reduceGT, reduceEqDiff, reduceMul]
 exact ⟨ids2, hown2.keep (fun _ _ _ => rfl) (by omega) (by omega)⟩
theorem impl_LieClass_ok (p : Int) (pw : List (List Int)) (br : List (List (List Int))) (hl : ringlen pw br) : ACp Try.prog 79 [ring p pw br] (inR (tf (LieR p pw br)) ((lowK p pw br).length - 1) 1) := by
 refine ACp.intro' envOk Try.func79 rfl (by kernel_rfl) Try.ntmps79 Try.results79 (inR_nr _ _ _) (fun nx => ?_)
 refine AW.sr envOk (fun N hN => ?_)
 simp -dsimp -implicitDefEqProofs (disch := omega) only [go_sem, undef, reduceAdd, reduceSub, reduceGT, reduceEqDiff, reduceMul, ring, w64]
 refine hN _ ?_
 try clear hN N
 refine AW.freezeQ 1 nx _ rfl (upd_same _ _ _) ?_
 simp -dsimp -implicitDefEqProofs (disch := omega) only [go_sem, undef, reduceAdd, reduceSub, reduceGT, reduceEqDiff, reduceMul]
 refine AW.seq (fun N1 hN1 => ?_)
 refine AW.sr envOk (fun N hN => ?_)
 simp -dsimp -implicitDefEqProofs (disch := omega) only [go_sem, undef, reduceAdd, reduceSub, reduceGT, reduceEqDiff, reduceMul, ring, w64]
 refine AC.pure (.of (impl_IsLieRing_ok p pw br hl)) ?_
 try simp -dsimp -implicitDefEqProofs (disch := omega) only [go_sem, undef, reduceAdd, reduceSub, reduceGT, reduceEqDiff, reduceMul, ring, w64]
 refine hN _ ?_
 try clear hN N
 refine AW.cond rfl (fun h1 => ?_) (fun h1 => ?_)
 ·try simp only [cn] at h1
  refine AW.sr envOk (fun N hN => ?_)
  simp -dsimp -implicitDefEqProofs (disch := omega) only [go_sem, undef, reduceAdd, reduceSub, reduceGT, reduceEqDiff, reduceMul, ring, w64]
  refine hN _ ?_
  try clear hN N
  refine AW.ret ?_
  simp -dsimp -implicitDefEqProofs (disch := omega) only [go_sem, undef, reduceAdd, reduceSub, reduceGT, reduceEqDiff, reduceMul]
  rw [tf_f h1]; rfl
 ·try simp only [cn] at h1
  obtain ⟨g1, g2⟩ := lowK_ok h1.1
  have h6 := h1.1.tri.n6
  refine AW.skip ?_
  simp only [thn, blk]
  refine hN1 _ ?_
  try clear hN1 N1
  refine AW.sr envOk (fun N hN => ?_)
  simp -dsimp -implicitDefEqProofs (disch := omega) only [go_sem, undef, reduceAdd, reduceSub, reduceGT, reduceEqDiff, reduceMul, ring, w64]
  refine AC.pure (.of ((impl_lowerLie_ok p pw br h1.1 _ g1 (by omega)).pure )) ?_
  try simp -dsimp -implicitDefEqProofs (disch := omega) only [go_sem, undef, reduceAdd, reduceSub, reduceGT, reduceEqDiff, reduceMul, ring, w64]
  refine hN _ ?_
  try clear hN N
  refine AW.ret ?_
  simp -dsimp -implicitDefEqProofs (disch := omega) only [go_sem, undef, reduceAdd, reduceSub, reduceGT, reduceEqDiff, reduceMul]
  rw [tf_t h1]
  simp (disch := omega) only [w64]
  rfl
theorem spec_l32Lower_ok (p : Int) (pw : List (List Int)) (br : List (List (List Int))) (h : shapeP p pw br) (K : List (List (List Int))) (hK : LowC p pw br (wholeL pw.length) K) (hKl : K.length ≤ 1000) : ACp Try.prog 149 [ring p pw br] (cubes K) := by
 have ht := h.tri
 have h6 := ht.n6
 have hwl := whole_len (n := pw.length)
 refine ACp.introV envOk Try.func149 rfl (by kernel_rfl) Try.ntmps149 Try.results149 ((cubes_nr _)) (fun nx => ?_)
 refine AW.sr envOk (fun N hN => ?_)
 simp -dsimp -implicitDefEqProofs (disch := omega) only [go_sem, undef, reduceAdd, reduceSub, reduceGT, reduceEqDiff, reduceMul, ringP, ring, w64, one_rows, rows_one]
 refine hN _ ?_
 try clear hN N
 refine AW.freezeQ 1 nx _ rfl (upd_same _ _ _) ?_
 simp -dsimp -implicitDefEqProofs (disch := omega) only [go_sem, undef, reduceAdd, reduceSub, reduceGT, reduceEqDiff, reduceMul]
 refine AW.sr envOk (fun N hN => ?_)
 simp -dsimp -implicitDefEqProofs (disch := omega) only [go_sem, undef, reduceAdd, reduceSub, reduceGT, reduceEqDiff, reduceMul, ringP, ring, w64, one_rows, rows_one]
 refine AC.pure (.of (spec_l32Whole_ok p pw br (by omega))) ?_
 try simp -dsimp -implicitDefEqProofs (disch := omega) only [go_sem, undef, reduceAdd, reduceSub, reduceGT, reduceEqDiff, reduceMul, ringP, ring, w64, one_rows, rows_one]
 refine hN _ ?_
 try clear hN N
 refine AW.sr envOk (fun N hN => ?_)
 simp -dsimp -implicitDefEqProofs (disch := omega) only [go_sem, undef, reduceAdd, reduceSub, reduceGT, reduceEqDiff, reduceMul, ringP, ring, w64, one_rows, rows_one]
 refine hN _ ?_
 try clear hN N
 refine AW.seq (fun N1 hN1 => ?_)
 refine AW.block ?_
 refine AW.loopN (α := Nat × List (List (List Int)) × List (List Int)) (fun x => sl 22 [(1, ringP p pw br), (3, rows x.2.2), (4, .h x.1 0 (x.2.1.length + 1))]) (fun x => upd noH x.1 (some (x.2.1.map rows ++ [rows x.2.2]))) (fun x m => (nx ≤ m ∧ nx ≤ x.1 ∧ x.1 < m) ∧ CanU p pw x.2.2 ∧ ∃ K', LowC p pw br x.2.2 K' ∧ K = x.2.1 ++ K') (fun x => K.length - x.2.1.length) ((nx + 2 + 3 + 1, [], wholeL pw.length)) ?_ ?_ (by rw [upd_none _ rfl]; exact Le.refl _) ?_
 ·exact ⟨by first| omega| (simp only; omega)| (dsimp only; omega), wholeU ht h.1, K, hK, rfl⟩
 ·simp (disch := omega) [wks, wkA, sl, w64, ints, rows, cubes, ringP, ring, w64, one_rows, rows_one] <;> omega
 ·skip
  rintro ⟨id, K0, u⟩ m ⟨⟨hm, hid1, hid2⟩, hu, K', hS, hKK⟩
  dsimp only at hm hid1 hid2 hu hS hKK
  have hKl2 := congrArg List.length hKK
  have hul := hu.toEch.len
  simp -dsimp -implicitDefEqProofs (disch := omega) only [go_sem, undef, reduceAdd, reduceSub, reduceGT, reduceEqDiff, reduceMul]
  refine AW.seq (fun N2 hN2 => ?_)
  refine AW.sr envOk (fun N hN => ?_)
  simp -dsimp -implicitDefEqProofs (disch := omega) only [go_sem, undef, reduceAdd, reduceSub, reduceGT, reduceEqDiff, reduceMul, ringP, ring, w64, one_rows, rows_one]
  refine hN _ ?_
  try clear hN N
  refine AW.cond rfl (fun h1 => ?_) (fun h1 => ?_)
  ·try simp only [cn] at h1
   obtain ⟨K2, rfl, hS2⟩ : ∃ K2, K' = u :: K2 ∧ LowC p pw br (lowS p pw br u) K2 := by
    cases hS with
    | done => simp at h1
    | step _ K2 _ hc => exact ⟨K2, rfl, hc⟩
   simp only [List.length_append, List.length_cons] at hKl2
   refine AW.skip ?_
   simp only [thn, blk]
   refine hN2 _ ?_
   try clear hN2 N2
   refine AW.block ?_
   refine AW.seq (fun N hN => ?_)
   refine AW.drawL envOk (by kernel_rfl) 6 (by kernel_rfl) ?_
   simp -dsimp -implicitDefEqProofs (disch := omega) only [hr_nil, hr_one, hr_if, List.take_succ_cons, List.take_zero, List.drop_succ_cons, List.drop_zero, List.take_nil, List.drop_nil, go_sem, undef, reduceAdd, reduceSub, reduceGT, reduceEqDiff, reduceMul, ringP, ring, w64, one_rows, rows_one]
   refine ⟨_, .of (spec_l32Whole_ok p pw br (by omega)), ?_⟩
   try simp -dsimp -implicitDefEqProofs (disch := omega) only [go_sem, undef, reduceAdd, reduceSub, reduceGT, reduceEqDiff, reduceMul, ringP, ring, w64, one_rows, rows_one]
   refine ⟨_, .of (spec_l32Brackets_ok p pw br h.sh ht h.1 u (wholeL pw.length) (by omega) (by omega) hu.el (whole_el ht.p2)), ?_⟩
   try simp -dsimp -implicitDefEqProofs (disch := omega) only [go_sem, undef, reduceAdd, reduceSub, reduceGT, reduceEqDiff, reduceMul, ringP, ring, w64, one_rows, rows_one]
   refine hN _ ?_
   try clear hN N
   refine AW.regionL envOk ?_
   simp -dsimp -implicitDefEqProofs (disch := omega) only [go_sem, undef, reduceAdd, reduceSub, reduceGT, reduceEqDiff, reduceMul, ringP, ring, w64, one_rows, rows_one]
   refine ⟨(m + 3 + 6 + 3, K0 ++ [u], lowS p pw br u), ?_, by rw [List.take_of_length_le (by simp), List.map_append]; exact Le.only, ?_, ?_⟩
   ·simp (disch := omega) [wks, wkA, sl, rows, ringP, lowS]
   ·refine ⟨by first| omega| (simp only; omega)| (dsimp only; omega), spanU ht h.1 (brkLL_el h.sh), K2, hS2, by rw [hKK]; simp⟩
   ·simp only [List.length_append, List.length_cons, List.length_nil]; omega
  ·try simp only [cn] at h1
   refine AW.exit ?_
   simp only [thn, blk, if_true]
   refine hN1 _ ?_
   try clear hN1 N1
   refine AW.sr envOk (fun N hN => ?_)
   simp -dsimp -implicitDefEqProofs (disch := omega) only [go_sem, undef, reduceAdd, reduceSub, reduceGT, reduceEqDiff, reduceMul, ringP, ring, w64, one_rows, rows_one]
   refine hN _ ?_
   try clear hN N
   refine AW.ret ?_
   simp -dsimp -implicitDefEqProofs (disch := omega) only [go_sem, undef, reduceAdd, reduceSub, reduceGT, reduceEqDiff, reduceMul]
   cases hS with
   | done =>
    subst hKK
    have := Vw.blk (id := id) (H := upd noH id (some (K0.map rows ++ [rows []]))) (upd_same _ _ _) (show K0.length + 1 = (K0.map rows ++ [rows []]).length by simp)
    simpa [cubes] using this
   | step _ K2 hne _ => exact absurd (List.length_eq_zero_iff.1 (show u.length = 0 by omega)) hne
end Go.Proofs.Ytdghgmgppecncaa
