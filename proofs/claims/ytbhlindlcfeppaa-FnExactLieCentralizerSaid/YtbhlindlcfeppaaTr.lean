/-
  Centre and centralizers, by the reference and by the program.
-/
import Derived.Test.YtbhlindlcfeppaaTp
import Derived.Test.YtbhlindlcfeppaaTq
import Derived.Test.YtbhlindlcfeppaaTj
set_option linter.unusedVariables false
set_option linter.unusedSimpArgs false
namespace Go.Proofs.Ytbhlindlcfeppaa
open Nat (reduceAdd reduceSub reduceGT reduceEqDiff reduceMul)

theorem rws_nil {p : Int} {n : Nat} (h6 : n ≤ 6) : Rws p n [] := (Ech.nil (p := p) (n := n)).rws h6

theorem spec_LieCentre_ok (p : Int) (pw : List (List Int)) (br : List (List (List Int))) (hl : ringlen pw br) : ACp Try.prog 35 [ring p pw br] (resRR (orRR (tf (LieR p pw br)) (aboveL p pw br [] (wholeL pw.length), 0))) := by
 refine ACp.introR envOk Try.func35 rfl (by kernel_rfl) Try.ntmps35 Try.results35 (resRR_nr _) (fun nx => ?_)
 refine AW.sr envOk (fun N hN => ?_)
 simp -dsimp -implicitDefEqProofs (disch := omega) only [go_sem, reduceAdd, reduceSub, reduceGT, reduceEqDiff, reduceMul, ring, w64]
 refine hN _ ?_
 try clear hN N
 refine AW.freezeQ 1 nx _ rfl (upd_same _ _ _) ?_
 simp -dsimp -implicitDefEqProofs (disch := omega) only [go_sem, reduceAdd, reduceSub, reduceGT, reduceEqDiff, reduceMul]
 refine AW.seq (fun N1 hN1 => ?_)
 refine AW.sr envOk (fun N hN => ?_)
 simp -dsimp -implicitDefEqProofs (disch := omega) only [go_sem, reduceAdd, reduceSub, reduceGT, reduceEqDiff, reduceMul, ring, w64]
 refine AC.pure (.of (spec_IsLieRing_ok p pw br hl)) ?_
 try simp -dsimp -implicitDefEqProofs (disch := omega) only [go_sem, reduceAdd, reduceSub, reduceGT, reduceEqDiff, reduceMul, ring, w64]
 refine hN _ ?_
 try clear hN N
 refine AW.cond rfl (fun h1 => ?_) (fun h1 => ?_)
 ·try simp only [cn] at h1
  refine AW.sr envOk (fun N hN => ?_)
  simp -dsimp -implicitDefEqProofs (disch := omega) only [go_sem, reduceAdd, reduceSub, reduceGT, reduceEqDiff, reduceMul, ring, w64]
  refine hN _ ?_
  try clear hN N
  refine AW.ret ?_
  simp -dsimp -implicitDefEqProofs (disch := omega) only [go_sem, reduceAdd, reduceSub, reduceGT, reduceEqDiff, reduceMul]
  rw [tf_f h1]
  exact resRR_nl
 ·try simp only [cn] at h1
  have ht := h1.1.tri
  have h6 := ht.n6
  refine AW.skip ?_
  simp only [thn, blk]
  refine hN1 _ ?_
  try clear hN1 N1
  refine AW.seq (fun N hN => ?_)
  refine AW.drawL envOk (by kernel_rfl) 4 (by kernel_rfl) ?_
  simp -dsimp -implicitDefEqProofs (disch := omega) only [hr_nil, hr_one, hr_if, List.take_succ_cons, List.take_zero, List.drop_succ_cons, List.drop_zero, List.take_nil, List.drop_nil, go_sem, reduceAdd, reduceSub, reduceGT, reduceEqDiff, reduceMul, ring, w64]
  refine ⟨_, .of (spec_l32Whole_ok p pw br (by omega)), ?_⟩
  try simp -dsimp -implicitDefEqProofs (disch := omega) only [go_sem, reduceAdd, reduceSub, reduceGT, reduceEqDiff, reduceMul, ring, w64]
  refine AC.fz (ts := [ring p pw br, rows (wholeL pw.length), rows []]) FzH.del ⟨.refl _, .refl _, Fz.rws (upd_same _ _ _) rfl rfl, trivial⟩ (AC.pure (.of (spec_l32Above_ok p pw br h1.1 [] (wholeL pw.length) (rws_nil h6) (by rw [whole_len]; omega) (whole_el ht.p2))) ?_)
  try simp -dsimp -implicitDefEqProofs (disch := omega) only [go_sem, reduceAdd, reduceSub, reduceGT, reduceEqDiff, reduceMul, ring, w64]
  refine hN _ ?_
  try clear hN N
  refine AW.ret ?_
  simp -dsimp -implicitDefEqProofs (disch := omega) only [go_sem, reduceAdd, reduceSub, reduceGT, reduceEqDiff, reduceMul]
  rw [tf_t h1]
  exact .refl _

theorem impl_LieCentre_ok (p : Int) (pw : List (List Int)) (br : List (List (List Int))) (hl : ringlen pw br) : ACo Try.prog 36 [ring p pw br] (resRR (orRR (tf (LieR p pw br)) (aboveL p pw br [] (wholeL pw.length), 0))) := by
 intro nx
 refine AC.intro' envOk Try.func36 rfl (by kernel_rfl) Try.ntmps36 Try.results36 ?_
 refine AW.sr envOk (fun N hN => ?_)
 simp -dsimp -implicitDefEqProofs (disch := omega) only [go_sem, reduceAdd, reduceSub, reduceGT, reduceEqDiff, reduceMul, ring, w64]
 refine hN _ ?_
 try clear hN N
 refine AW.freezeQ 1 nx _ rfl (upd_same _ _ _) ?_
 simp -dsimp -implicitDefEqProofs (disch := omega) only [go_sem, reduceAdd, reduceSub, reduceGT, reduceEqDiff, reduceMul]
 refine AW.seq (fun N1 hN1 => ?_)
 refine AW.sr envOk (fun N hN => ?_)
 simp -dsimp -implicitDefEqProofs (disch := omega) only [go_sem, reduceAdd, reduceSub, reduceGT, reduceEqDiff, reduceMul, ring, w64]
 refine AC.pure (.of (impl_IsLieRing_ok p pw br hl)) ?_
 try simp -dsimp -implicitDefEqProofs (disch := omega) only [go_sem, reduceAdd, reduceSub, reduceGT, reduceEqDiff, reduceMul, ring, w64]
 refine hN _ ?_
 try clear hN N
 refine AW.cond rfl (fun h1 => ?_) (fun h1 => ?_)
 ·try simp only [cn] at h1
  refine AW.sr envOk (fun N hN => ?_)
  simp -dsimp -implicitDefEqProofs (disch := omega) only [go_sem, reduceAdd, reduceSub, reduceGT, reduceEqDiff, reduceMul, ring, w64]
  refine hN _ ?_
  try clear hN N
  refine AW.ret ?_
  simp -dsimp -implicitDefEqProofs (disch := omega) only [go_sem, reduceAdd, reduceSub, reduceGT, reduceEqDiff, reduceMul]
  rw [tf_f h1]
  exact Own.nilRR
 ·try simp only [cn] at h1
  have ht := h1.1.tri
  have h6 := ht.n6
  refine AW.skip ?_
  simp only [thn, blk]
  refine hN1 _ ?_
  try clear hN1 N1
  refine AW.sr envOk (fun N hN => ?_)
  simp -dsimp -implicitDefEqProofs (disch := omega) only [go_sem, reduceAdd, reduceSub, reduceGT, reduceEqDiff, reduceMul, ring, w64]
  refine AC.pure (.of (impl_wholeLie_ok p pw br (by omega))) ?_
  try simp -dsimp -implicitDefEqProofs (disch := omega) only [go_sem, reduceAdd, reduceSub, reduceGT, reduceEqDiff, reduceMul, ring, w64]
  refine AC.own (impl_lieAbove_ok p pw br h1.1.sh ht h1.1.1 h1.1.2.2.2.1 [] (wholeL pw.length) (rws_nil h6) (by rw [whole_len]; omega) (whole_el ht.p2)) (.cons (.refl _) (.cons .nl (.cons (.refl _) .nil))) ?_
  intro m1 H3 r3 ids hm1 hH1 hown1
  try simp -dsimp -implicitDefEqProofs (disch := omega) only [go_sem, reduceAdd, reduceSub, reduceGT, reduceEqDiff, reduceMul, ring, w64]
  refine hN _ ?_
  try clear hN N
  refine AW.ret ?_
  simp -dsimp -implicitDefEqProofs (disch := omega) only [go_sem, reduceAdd, reduceSub, reduceGT, reduceEqDiff, reduceMul]
  rw [tf_t h1]
  exact (hown1.keep (fun _ _ _ => rfl) (by omega) (by omega)).pair

theorem spec_LieCentralizer_ok (p : Int) (pw : List (List Int)) (br : List (List (List Int))) (hl : ringlen pw br) (u : List (List Int)) (hu : rowslen u) : ACp Try.prog 33 [ring p pw br, rows u] (resRR (orRR (tf (SpnP p pw br u)) (aboveL p pw br [] u, 0))) := by
 have hln := hl.n
 refine ACp.introR envOk Try.func33 rfl (by kernel_rfl) Try.ntmps33 Try.results33 (resRR_nr _) (fun nx => ?_)
 refine AW.sr envOk (fun N hN => ?_)
 simp -dsimp -implicitDefEqProofs (disch := omega) only [go_sem, reduceAdd, reduceSub, reduceGT, reduceEqDiff, reduceMul, ring, w64]
 refine hN _ ?_
 try clear hN N
 refine AW.freezeQ 2 nx _ rfl (upd_same _ _ _) ?_
 simp -dsimp -implicitDefEqProofs (disch := omega) only [go_sem, reduceAdd, reduceSub, reduceGT, reduceEqDiff, reduceMul]
 refine AW.seq (fun N1 hN1 => ?_)
 refine AW.sr envOk (fun N hN => ?_)
 simp -dsimp -implicitDefEqProofs (disch := omega) only [go_sem, reduceAdd, reduceSub, reduceGT, reduceEqDiff, reduceMul, ring, w64]
 refine AC.pure (.of (spec_IsLieSpan_ok p pw br hl u hu)) ?_
 try simp -dsimp -implicitDefEqProofs (disch := omega) only [go_sem, reduceAdd, reduceSub, reduceGT, reduceEqDiff, reduceMul, ring, w64]
 refine hN _ ?_
 try clear hN N
 refine AW.cond rfl (fun h1 => ?_) (fun h1 => ?_)
 ·try simp only [cn] at h1
  refine AW.sr envOk (fun N hN => ?_)
  simp -dsimp -implicitDefEqProofs (disch := omega) only [go_sem, reduceAdd, reduceSub, reduceGT, reduceEqDiff, reduceMul, ring, w64]
  refine hN _ ?_
  try clear hN N
  refine AW.ret ?_
  simp -dsimp -implicitDefEqProofs (disch := omega) only [go_sem, reduceAdd, reduceSub, reduceGT, reduceEqDiff, reduceMul]
  rw [tf_f h1]
  exact resRR_nl
 ·try simp only [cn] at h1
  have ht := h1.1.1.tri
  have h6 := ht.n6
  have hu6 := h1.2.1
  refine AW.skip ?_
  simp only [thn, blk]
  refine hN1 _ ?_
  try clear hN1 N1
  refine AW.sr envOk (fun N hN => ?_)
  simp -dsimp -implicitDefEqProofs (disch := omega) only [go_sem, reduceAdd, reduceSub, reduceGT, reduceEqDiff, reduceMul, ring, w64]
  refine AC.fz (ts := [ring p pw br, rows u, rows []]) FzH.del ⟨.refl _, .refl _, Fz.rws (upd_same _ _ _) rfl rfl, trivial⟩ (AC.pure (.of (spec_l32Above_ok p pw br h1.1.1 [] u (rws_nil h6) (by omega) h1.2.2.1.mem)) ?_)
  try simp -dsimp -implicitDefEqProofs (disch := omega) only [go_sem, reduceAdd, reduceSub, reduceGT, reduceEqDiff, reduceMul, ring, w64]
  refine hN _ ?_
  try clear hN N
  refine AW.ret ?_
  simp -dsimp -implicitDefEqProofs (disch := omega) only [go_sem, reduceAdd, reduceSub, reduceGT, reduceEqDiff, reduceMul]
  rw [tf_t h1]
  exact .refl _

theorem impl_LieCentralizer_ok (p : Int) (pw : List (List Int)) (br : List (List (List Int))) (hl : ringlen pw br) (u : List (List Int)) (hu : rowslen u) : ACo Try.prog 34 [ring p pw br, rows u] (resRR (orRR (tf (SpnP p pw br u)) (aboveL p pw br [] u, 0))) := by
 have hln := hl.n
 intro nx
 refine AC.intro' envOk Try.func34 rfl (by kernel_rfl) Try.ntmps34 Try.results34 ?_
 refine AW.sr envOk (fun N hN => ?_)
 simp -dsimp -implicitDefEqProofs (disch := omega) only [go_sem, reduceAdd, reduceSub, reduceGT, reduceEqDiff, reduceMul, ring]
 refine hN _ ?_
 try clear hN N
 refine AW.freezeQ 2 nx _ rfl (upd_same _ _ _) ?_
 simp -dsimp -implicitDefEqProofs (disch := omega) only [go_sem, reduceAdd, reduceSub, reduceGT, reduceEqDiff, reduceMul]
 refine AW.seq (fun N1 hN1 => ?_)
 refine AW.sr envOk (fun N hN => ?_)
 simp -dsimp -implicitDefEqProofs (disch := omega) only [go_sem, reduceAdd, reduceSub, reduceGT, reduceEqDiff, reduceMul, ring]
 refine AC.pure (.lent (impl_areLieSpans_ok p pw br hl [u] (.one hu)) (.cons (.refl _) (.cons (Vw.cb rfl (upd_same _ _ _)) .nil)) (.b _)) ?_
 try simp -dsimp -implicitDefEqProofs (disch := omega) only [go_sem, reduceAdd, reduceSub, reduceGT, reduceEqDiff, reduceMul, ring]
 refine hN _ ?_
 try clear hN N
 refine AW.cond rfl (fun h1 => ?_) (fun h1 => ?_)
 ·try simp only [cn] at h1
  refine AW.sr envOk (fun N hN => ?_)
  simp -dsimp -implicitDefEqProofs (disch := omega) only [go_sem, reduceAdd, reduceSub, reduceGT, reduceEqDiff, reduceMul, ring]
  refine hN _ ?_
  try clear hN N
  refine AW.ret ?_
  simp -dsimp -implicitDefEqProofs (disch := omega) only [go_sem, reduceAdd, reduceSub, reduceGT, reduceEqDiff, reduceMul]
  rw [tf_f (fun h => h1 (spansP.one.2 h))]
  exact Own.nilRR
 ·try simp only [cn] at h1
  have hs := spansP.one.1 h1
  have ht := hs.1.1.tri
  have h6 := ht.n6
  have hu6 := hs.2.1
  refine AW.skip ?_
  simp only [thn, blk]
  refine hN1 _ ?_
  try clear hN1 N1
  refine AW.sr envOk (fun N hN => ?_)
  simp -dsimp -implicitDefEqProofs (disch := omega) only [go_sem, reduceAdd, reduceSub, reduceGT, reduceEqDiff, reduceMul, ring]
  refine AC.own (impl_lieAbove_ok p pw br hs.1.1.sh ht hs.1.1.1 hs.1.1.2.2.2.1 [] u (rws_nil h6) (by omega) hs.2.2.1.mem) (.cons (.refl _) (.cons .nl (.cons (.refl _) .nil))) ?_
  intro m1 H3 r3 ids hm1 hH1 hown1
  try simp -dsimp -implicitDefEqProofs (disch := omega) only [go_sem, reduceAdd, reduceSub, reduceGT, reduceEqDiff, reduceMul, ring]
  refine hN _ ?_
  try clear hN N
  refine AW.ret ?_
  simp -dsimp -implicitDefEqProofs (disch := omega) only [go_sem, reduceAdd, reduceSub, reduceGT, reduceEqDiff, reduceMul]
  rw [tf_t hs]
  exact (hown1.keep (fun _ _ _ => rfl) (by omega) (by omega)).pair

end Go.Proofs.Ytbhlindlcfeppaa
