/-
  Intersections of subgroups, by the reference and by the program.
-/
import Derived.Test.YtbhlindlcfeppaaTp
import Derived.Test.YtbhlindlcfeppaaTq
set_option linter.unusedVariables false
set_option linter.unusedSimpArgs false
namespace Go.Proofs.Ytbhlindlcfeppaa
open Nat (reduceAdd reduceSub reduceGT reduceEqDiff reduceMul)

def MeetP (p : Int) (pw u v : List (List Int)) (x : List Int) : Prop := zeros (redL p pw u x) ∧ zeros (redL p pw v x)
theorem impl_MeetLie_1_ok (p : Int) (pw : List (List Int)) (br : List (List (List Int))) (ht : Tri p pw) (u v : List (List Int)) (hu : Rws p pw.length u) (hv : Rws p pw.length v) (x : List Int) (hx : El p pw.length x) : ACp Try.prog 84 [ints x, ringP p pw br, .p 0 [rows u], .p 0 [rows v]] (.b (tf (MeetP p pw u v x))) := by
 have h6 := ht.n6
 have h1l := (redL_el ht u hx).len
 have h2l := (redL_el ht v hx).len
 refine ACp.intro' envOk Try.func84 rfl (by kernel_rfl) Try.ntmps84 Try.results84 (.b _) (fun nx => ?_)
 refine AW.sr envOk (fun N hN => ?_)
 simp -dsimp -implicitDefEqProofs (disch := omega) only [go_sem, reduceAdd, reduceSub, reduceGT, reduceEqDiff, reduceMul, w64]
 refine hN _ ?_
 try clear hN N
 refine AW.sr envOk (fun N hN => ?_)
 simp -dsimp -implicitDefEqProofs (disch := omega) only [go_sem, reduceAdd, reduceSub, reduceGT, reduceEqDiff, reduceMul, w64]
 refine AC.pure (.of (impl_reduceLie_p p pw br ht u hu x hx )) ?_
 try simp -dsimp -implicitDefEqProofs (disch := omega) only [go_sem, reduceAdd, reduceSub, reduceGT, reduceEqDiff, reduceMul, w64]
 refine AC.pure (.of (impl_isZero_ok (redL p pw u x) (by omega))) ?_
 try simp -dsimp -implicitDefEqProofs (disch := omega) only [go_sem, reduceAdd, reduceSub, reduceGT, reduceEqDiff, reduceMul, w64]
 refine gopB.mk' (fun h1 => ?_) (fun h1 => ?_)
 ·try simp only [cn] at h1
  try simp -dsimp -implicitDefEqProofs (disch := omega) only [go_sem, reduceAdd, reduceSub, reduceGT, reduceEqDiff, reduceMul, w64]
  refine AC.pure (.of (impl_reduceLie_p p pw br ht v hv x hx )) ?_
  try simp -dsimp -implicitDefEqProofs (disch := omega) only [go_sem, reduceAdd, reduceSub, reduceGT, reduceEqDiff, reduceMul, w64]
  refine AC.pure (.of (impl_isZero_ok (redL p pw v x) (by omega))) ?_
  try simp -dsimp -implicitDefEqProofs (disch := omega) only [go_sem, reduceAdd, reduceSub, reduceGT, reduceEqDiff, reduceMul, w64]
  refine hN _ ?_
  try clear hN N
  refine AW.ret ?_
  simp -dsimp -implicitDefEqProofs (disch := omega) only [go_sem, reduceAdd, reduceSub, reduceGT, reduceEqDiff, reduceMul]
  exact bt (tf_eq ⟨fun h => ⟨h1, h⟩, fun h => h.2⟩)
 ·try simp only [cn] at h1
  try simp -dsimp -implicitDefEqProofs (disch := omega) only [go_sem, reduceAdd, reduceSub, reduceGT, reduceEqDiff, reduceMul, w64]
  refine hN _ ?_
  try clear hN N
  refine AW.ret ?_
  simp -dsimp -implicitDefEqProofs (disch := omega) only [go_sem, reduceAdd, reduceSub, reduceGT, reduceEqDiff, reduceMul]
  exact bt (tf_f (fun h => h1 h.1)).symm

theorem impl_MeetLie_ok (p : Int) (pw : List (List Int)) (br : List (List (List Int))) (hl : ringlen pw br) (u v : List (List Int)) (hu : rowslen u) (hv : rowslen v) : ACo Try.prog 29 [ring p pw br, rows u, rows v] (resRR (orRR (tf (SpnP p pw br u ∧ SpnP p pw br v)) (withL p pw (MeetP p pw u v), 0))) := by
 have hln := hl.n
 intro nx
 refine AC.intro' envOk Try.func29 rfl (by kernel_rfl) Try.ntmps29 Try.results29 ?_
 refine AW.sr envOk (fun N hN => ?_)
 simp -dsimp -implicitDefEqProofs (disch := omega) only [go_sem, reduceAdd, reduceSub, reduceGT, reduceEqDiff, reduceMul, ring, rows_cell, rows_ok]
 refine hN _ ?_
 try clear hN N
 refine AW.seq (fun N1 hN1 => ?_)
 refine AW.freezeQ 3 nx [.i .i64 p, rows pw, cubes br] rfl ((upd_ne _ _ (by omega)).trans ((upd_ne _ _ (by omega)).trans (upd_same _ _ _))) ?_
 refine AW.freezeQ 4 (nx + 1) [rows u] rfl ((upd_ne _ _ (by omega)).trans ((upd_ne _ _ (by omega)).trans (upd_same _ _ _))) ?_
 refine AW.freezeQ 5 (nx + 2) [rows v] rfl ((upd_ne _ _ (by omega)).trans ((upd_ne _ _ (by omega)).trans (upd_same _ _ _))) ?_
 simp -dsimp -implicitDefEqProofs (disch := omega) only [go_sem, reduceAdd, reduceSub, reduceGT, reduceEqDiff, reduceMul]
 refine AW.sr envOk (fun N hN => ?_)
 simp -dsimp -implicitDefEqProofs (disch := omega) only [go_sem, reduceAdd, reduceSub, reduceGT, reduceEqDiff, reduceMul, ring, rows_cell, rows_ok]
 refine AC.pure (.lent (impl_areLieSpans_ok p pw br hl [u, v] (.two hu hv)) (.cons (.refl _) (.cons (Vw.cb rfl (upd_same _ _ _)) .nil)) (.b _)) ?_
 try simp -dsimp -implicitDefEqProofs (disch := omega) only [go_sem, reduceAdd, reduceSub, reduceGT, reduceEqDiff, reduceMul, ring, rows_cell, rows_ok]
 refine hN _ ?_
 try clear hN N
 refine AW.cond rfl (fun h1 => ?_) (fun h1 => ?_)
 ·try simp only [cn] at h1
  refine AW.sr envOk (fun N hN => ?_)
  simp -dsimp -implicitDefEqProofs (disch := omega) only [go_sem, reduceAdd, reduceSub, reduceGT, reduceEqDiff, reduceMul, ring, rows_cell, rows_ok]
  refine hN _ ?_
  try clear hN N
  refine AW.ret ?_
  simp -dsimp -implicitDefEqProofs (disch := omega) only [go_sem, reduceAdd, reduceSub, reduceGT, reduceEqDiff, reduceMul]
  rw [tf_f (fun h => h1 (spansP.two.2 h))]
  exact Own.nilRR
 ·try simp only [cn] at h1
  obtain ⟨hs, hsv⟩ := spansP.two.1 h1
  have ht := hs.1.1.tri
  have h6 := ht.n6
  refine AW.skip ?_
  simp only [thn, blk]
  refine hN1 _ ?_
  try clear hN1 N1
  refine AW.sr envOk (fun N hN => ?_)
  simp -dsimp -implicitDefEqProofs (disch := omega) only [go_sem, reduceAdd, reduceSub, reduceGT, reduceEqDiff, reduceMul, ring, rows_cell, rows_ok]
  refine AC.own (impl_lieWith_ok p pw br ht hs.1.1.1 hs.1.1.2.2.2.1 84 [ringP p pw br, .p 0 [rows u], .p 0 [rows v]] (MeetP p pw u v) (fun x hx => impl_MeetLie_1_ok p pw br ht u v (hs.can.rws h6) (hsv.can.rws h6) x hx)) (.cons (.refl _) (.cons (.refl _) .nil)) ?_
  intro m1 H3 r3 ids hm1 hH1 hown1
  try simp -dsimp -implicitDefEqProofs (disch := omega) only [go_sem, reduceAdd, reduceSub, reduceGT, reduceEqDiff, reduceMul, ring, rows_cell, rows_ok]
  refine hN _ ?_
  try clear hN N
  refine AW.ret ?_
  simp -dsimp -implicitDefEqProofs (disch := omega) only [go_sem, reduceAdd, reduceSub, reduceGT, reduceEqDiff, reduceMul]
  first| rw [tf_t (show SpnP p pw br u ∧ SpnP p pw br v from ⟨hs, hsv⟩)]| rw [tf_t hsv]
  exact (hown1.keep (fun _ _ _ => rfl) (by omega) (by omega)).pair


set_option maxHeartbeats 2000000 in
theorem spec_MeetLie_ok (p : Int) (pw : List (List Int)) (br : List (List (List Int))) (hl : ringlen pw br) (u v : List (List Int)) (hu : rowslen u) (hv : rowslen v) : ACp Try.prog 27 [ring p pw br, rows u, rows v] (resRR (orRR (tf (SpnP p pw br u ∧ SpnP p pw br v)) (withL p pw (MeetP p pw u v), 0))) := by
 have hln := hl.n
 refine ACp.introV envOk Try.func27 rfl (by kernel_rfl) Try.ntmps27 Try.results27 ((resRR_nr _)) (fun nx => ?_)
 refine AW.sr envOk (fun N hN => ?_)
 simp -dsimp -implicitDefEqProofs (disch := omega) only [go_sem, reduceAdd, reduceSub, reduceGT, reduceEqDiff, reduceMul, ring, ringP, rows, w64]
 refine hN _ ?_
 try clear hN N
 refine AW.freezeQ 3 nx _ rfl (upd_same _ _ _) ?_
 simp -dsimp -implicitDefEqProofs (disch := omega) only [go_sem, reduceAdd, reduceSub, reduceGT, reduceEqDiff, reduceMul]
 refine AW.seq (fun N1 hN1 => ?_)
 refine AW.sr envOk (fun N hN => ?_)
 simp -dsimp -implicitDefEqProofs (disch := omega) only [go_sem, reduceAdd, reduceSub, reduceGT, reduceEqDiff, reduceMul, ring, ringP, rows, w64]
 refine AC.pure (.of (spec_IsLieSpan_ok p pw br hl u hu)) ?_
 try simp -dsimp -implicitDefEqProofs (disch := omega) only [go_sem, reduceAdd, reduceSub, reduceGT, reduceEqDiff, reduceMul, ring, ringP, rows, w64]
 refine gopB.mk' (fun h1 => ?_) (fun h1 => ?_)
 ·try simp only [cn] at h1
  try simp -dsimp -implicitDefEqProofs (disch := omega) only [go_sem, reduceAdd, reduceSub, reduceGT, reduceEqDiff, reduceMul, ring, ringP, rows, w64]
  refine AC.pure (.of (spec_IsLieSpan_ok p pw br hl v hv)) ?_
  try simp -dsimp -implicitDefEqProofs (disch := omega) only [go_sem, reduceAdd, reduceSub, reduceGT, reduceEqDiff, reduceMul, ring, ringP, rows, w64]
  refine hN _ ?_
  try clear hN N
  refine AW.cond rfl (fun h2 => ?_) (fun h2 => ?_)
  ·try simp only [cn] at h2
   refine AW.sr envOk (fun N hN => ?_)
   simp -dsimp -implicitDefEqProofs (disch := omega) only [go_sem, reduceAdd, reduceSub, reduceGT, reduceEqDiff, reduceMul, ring, ringP, rows, w64]
   refine hN _ ?_
   try clear hN N
   refine AW.ret ?_
   simp -dsimp -implicitDefEqProofs (disch := omega) only [go_sem, reduceAdd, reduceSub, reduceGT, reduceEqDiff, reduceMul]
   first| rw [tf_f (show ¬(SpnP p pw br u ∧ SpnP p pw br v) from fun h => h2 h.2)]| rw [tf_f h2]
   exact Vw.t2 .nl
  ·try simp only [cn] at h2
   have ht := h1.1.1.tri
   have hp := h1.1.1.1
   have hn6 := ht.n6
   have hsz : capPow p pw.length = p ^ pw.length := by have h1' := capPow_eq hp pw.length; have h2' := h1.1.1.2.2.2.1; omega
   have h9 := h1.1.1.2.2.2.1
   have hpos : 0 < p ^ pw.length := Int.pow_pos (by have := ht.p2; omega)
   have hsize := spec_l31Size_ok p pw.length hp (by omega)
   rw [hsz] at hsize
   refine AW.skip ?_
   simp only [thn, blk]
   refine hN1 _ ?_
   try clear hN1 N1
   refine AW.sr envOk (fun N hN => ?_)
   simp -dsimp -implicitDefEqProofs (disch := omega) only [go_sem, reduceAdd, reduceSub, reduceGT, reduceEqDiff, reduceMul, ring, ringP, rows, w64]
   refine hN _ ?_
   try clear hN N
   refine AW.seq (fun N2 hN2 => ?_)
   refine AW.sr envOk (fun N hN => ?_)
   simp -dsimp -implicitDefEqProofs (disch := omega) only [go_sem, reduceAdd, reduceSub, reduceGT, reduceEqDiff, reduceMul, ring, ringP, rows, w64]
   refine hN _ ?_
   try clear hN N
   refine AW.block ?_
   refine AW.loopN (α := Nat × Nat) (fun x => sl 59 [(1, rows u), (2, rows v), (3, ringP p pw br), (8, .h x.2 0 (upTo p pw (MeetP p pw u v) x.1).length), (9, .i .i64 x.1)]) (fun x => upd noH x.2 (some ((upTo p pw (MeetP p pw u v) x.1).map ints))) (fun x m => ((x.1 : Int) ≤ p ^ pw.length ∧ nx ≤ x.2 ∧ x.2 < m)) (fun x => (p ^ pw.length).toNat - x.1) ((0, nx + 3 + 10)) ?_ ?_ (by show Le (upd noH _ _) _; rw [upTo_z ht]; exact Le.only) ?_
   ·exact ⟨by simp; omega, by first| omega| (simp only; omega)| (dsimp only; omega), by first| omega| (simp only; omega)| (dsimp only; omega)⟩
   ·simp (disch := omega) [wks, wkA, sl, rows, ringP, upTo_z ht]
   ·skip
    rintro ⟨k, id⟩ m ⟨hk, hid1, hid2⟩
    dsimp only at hk hid1 hid2
    have hUc : CanU p pw (upTo p pw (MeetP p pw u v) k) := upTo_can ht hp
    have hUl := hUc.toEch.len
    obtain ⟨A, hA⟩ : ∃ A, atL p pw.length k = A := ⟨_, rfl⟩
    have hAe : El p pw.length A := hA ▸ at_el ht.p2
    have hAt := spec_l31At_ok p pw br ht.p2 (pr4_bd hp).2 hn6 k
    rw [hA] at hAt
    simp -dsimp -implicitDefEqProofs (disch := omega) only [go_sem, reduceAdd, reduceSub, reduceGT, reduceEqDiff, reduceMul]
    refine AW.seq (fun N3 hN3 => ?_)
    refine AW.sr envOk (fun N hN => ?_)
    simp -dsimp -implicitDefEqProofs (disch := omega) only [go_sem, reduceAdd, reduceSub, reduceGT, reduceEqDiff, reduceMul, ring, ringP, rows, w64]
    refine AC.pure (.of (hsize )) ?_
    try simp -dsimp -implicitDefEqProofs (disch := omega) only [go_sem, reduceAdd, reduceSub, reduceGT, reduceEqDiff, reduceMul, ring, ringP, rows, w64]
    refine hN _ ?_
    try clear hN N
    refine AW.cond rfl (fun h3 => ?_) (fun h3 => ?_)
    ·try simp only [cn] at h3
     refine AW.skip ?_
     simp only [thn, blk]
     refine hN3 _ ?_
     try clear hN3 N3
     refine AW.seq (fun N4 hN4 => ?_)
     refine AW.block ?_
     refine AW.sr envOk (fun N hN => ?_)
     simp -dsimp -implicitDefEqProofs (disch := omega) only [go_sem, reduceAdd, reduceSub, reduceGT, reduceEqDiff, reduceMul, ring, ringP, rows, w64]
     refine AC.pure (.of (hAt (by omega) (by omega) )) ?_
     try simp -dsimp -implicitDefEqProofs (disch := omega) only [go_sem, reduceAdd, reduceSub, reduceGT, reduceEqDiff, reduceMul, ring, ringP, rows, w64]
     refine hN _ ?_
     try clear hN N
     refine AW.sr envOk (fun N hN => ?_)
     simp -dsimp -implicitDefEqProofs (disch := omega) only [go_sem, reduceAdd, reduceSub, reduceGT, reduceEqDiff, reduceMul, ring, ringP, rows, w64]
     refine AC.pure (.of (spec_l32In_ok p pw br ht u (h1.can.rws hn6) A hAe)) ?_
     try simp -dsimp -implicitDefEqProofs (disch := omega) only [go_sem, reduceAdd, reduceSub, reduceGT, reduceEqDiff, reduceMul, ring, ringP, rows, w64]
     refine gopB.mk' (fun h4 => ?_) (fun h4 => ?_)
     ·try simp only [cn] at h4
      try simp -dsimp -implicitDefEqProofs (disch := omega) only [go_sem, reduceAdd, reduceSub, reduceGT, reduceEqDiff, reduceMul, ring, ringP, rows, w64]
      refine AC.pure (.of (spec_l32In_ok p pw br ht v (h2.can.rws hn6) A hAe)) ?_
      try simp -dsimp -implicitDefEqProofs (disch := omega) only [go_sem, reduceAdd, reduceSub, reduceGT, reduceEqDiff, reduceMul, ring, ringP, rows, w64]
      refine gopB.mk' (fun h5 => ?_) (fun h5 => ?_)
      ·try simp only [cn] at h5
       try simp -dsimp -implicitDefEqProofs (disch := omega) only [go_sem, reduceAdd, reduceSub, reduceGT, reduceEqDiff, reduceMul, ring, ringP, rows, w64]
       refine AC.pure (.lent (spec_l32In_ok p pw br ht (upTo p pw (MeetP p pw u v) k) (hUc.rws hn6) A hAe) (.cons (.refl _) (.cons (Vw.rws rfl (upd_same _ _ _)) (.cons (.refl _) .nil))) (.b _)) ?_
       try simp -dsimp -implicitDefEqProofs (disch := omega) only [go_sem, reduceAdd, reduceSub, reduceGT, reduceEqDiff, reduceMul, ring, ringP, rows, w64]
       refine hN _ ?_
       try clear hN N
       refine AW.cond rfl (fun h6 => ?_) (fun h6 => ?_)
       ·try simp only [cn] at h6
        have hup : upTo p pw (MeetP p pw u v) (k + 1) = spanL p pw (upTo p pw (MeetP p pw u v) k ++ [A]) := by
         have := upTo_yes ht hp (P := MeetP p pw u v) (k := k) (by rw [hA]; exact ⟨h4, h5⟩)
         rwa [hA] at this
        refine AW.drawF envOk (by kernel_rfl) [true, true, true, false, false, false, false] (by kernel_rfl) ?_
        simp -dsimp -implicitDefEqProofs (disch := omega) only [go_sem, reduceAdd, reduceSub, reduceGT, reduceEqDiff, reduceMul, ring, ringP, rows, w64]
        refine AC.fz (ts := [ring p pw br, rows (upTo p pw (MeetP p pw u v) k ++ [A])]) FzH.del ⟨.refl _, Fz.rws (upd_same _ _ _) (by rw [List.take_of_length_le (by simp), List.map_append]; rfl) (by simp), trivial⟩ ((AC.frame (spec_l32Span_h p pw br ht hp (upTo p pw (MeetP p pw u v) k ++ [A]) (by simp; omega) (fun j hj => app_el hUc.el (fun b hb => by rw [List.mem_singleton.1 hb]; exact hAe) _ (ix_mem hj)) _)).mono2 ?_)
        rintro m1 H1 r1 hm1 ⟨H0, ⟨id2, g1, g2, rfl, g3⟩, g4, g5⟩
        rw [← hup] at g3 ⊢
        have g6 := (g5 id2 g1).trans g3
        try simp -dsimp -implicitDefEqProofs (disch := omega) only [go_sem, reduceAdd, reduceSub, reduceGT, reduceEqDiff, reduceMul, ring, ringP, rows, w64]
        refine hN4 _ ?_
        try clear hN4 N4
        refine AW.regionL envOk ?_
        simp -dsimp -implicitDefEqProofs (disch := omega) only [go_sem, reduceAdd, reduceSub, reduceGT, reduceEqDiff, reduceMul, ring, ringP, rows, w64]
        refine ⟨(k + 1, id2), ?_, Le.at g6, ?_, ?_⟩
        ·simp (disch := omega) [wks, wkA, sl, w64, rows, ringP, hup]
        ·exact ⟨by first| omega| (simp only; omega)| (dsimp only; omega), by first| omega| (simp only; omega)| (dsimp only; omega), by first| omega| (simp only; omega)| (dsimp only; omega)⟩
        ·first | omega | (simp only; omega)
       ·try simp only [cn] at h6
        have hup := upTo_skip ht hp hA (P := MeetP p pw u v) (.inl (fun h => h h6))
        refine AW.skip ?_
        simp only [thn, blk]
        refine hN4 _ ?_
        try clear hN4 N4
        refine AW.regionL envOk ?_
        simp -dsimp -implicitDefEqProofs (disch := omega) only [go_sem, reduceAdd, reduceSub, reduceGT, reduceEqDiff, reduceMul, ring, ringP, rows, w64]
        refine ⟨(k + 1, id), ?_, by show Le (upd noH id _) _; rw [hup]; exact Le.refl _, ?_, ?_⟩
        ·simp (disch := omega) [wks, wkA, sl, w64, rows, ringP, hup]
        ·exact ⟨by first| omega| (simp only; omega)| (dsimp only; omega), by first| omega| (simp only; omega)| (dsimp only; omega), by first| omega| (simp only; omega)| (dsimp only; omega)⟩
        ·first | omega | (simp only; omega)
      ·try simp only [cn] at h5
       have hup := upTo_skip ht hp hA (P := MeetP p pw u v) (.inr (fun h => h5 h.2))
       try simp -dsimp -implicitDefEqProofs (disch := omega) only [go_sem, reduceAdd, reduceSub, reduceGT, reduceEqDiff, reduceMul, ring, ringP, rows, w64]
       refine hN _ ?_
       try clear hN N
       refine AW.condF rfl ?_
       refine AW.skip ?_
       simp only [thn, blk]
       refine hN4 _ ?_
       try clear hN4 N4
       refine AW.regionL envOk ?_
       simp -dsimp -implicitDefEqProofs (disch := omega) only [go_sem, reduceAdd, reduceSub, reduceGT, reduceEqDiff, reduceMul, ring, ringP, rows, w64]
       refine ⟨(k + 1, id), ?_, by show Le (upd noH id _) _; rw [hup]; exact Le.refl _, ?_, ?_⟩
       ·simp (disch := omega) [wks, wkA, sl, w64, rows, ringP, hup]
       ·exact ⟨by first| omega| (simp only; omega)| (dsimp only; omega), by first| omega| (simp only; omega)| (dsimp only; omega), by first| omega| (simp only; omega)| (dsimp only; omega)⟩
       ·first | omega | (simp only; omega)
     ·try simp only [cn] at h4
      have hup := upTo_skip ht hp hA (P := MeetP p pw u v) (.inr (fun h => h4 h.1))
      try simp -dsimp -implicitDefEqProofs (disch := omega) only [go_sem, reduceAdd, reduceSub, reduceGT, reduceEqDiff, reduceMul, ring, ringP, rows, w64]
      refine hN _ ?_
      try clear hN N
      refine AW.condF rfl ?_
      refine AW.skip ?_
      simp only [thn, blk]
      refine hN4 _ ?_
      try clear hN4 N4
      refine AW.regionL envOk ?_
      simp -dsimp -implicitDefEqProofs (disch := omega) only [go_sem, reduceAdd, reduceSub, reduceGT, reduceEqDiff, reduceMul, ring, ringP, rows, w64]
      refine ⟨(k + 1, id), ?_, by show Le (upd noH id _) _; rw [hup]; exact Le.refl _, ?_, ?_⟩
      ·simp (disch := omega) [wks, wkA, sl, w64, rows, ringP, hup]
      ·exact ⟨by first| omega| (simp only; omega)| (dsimp only; omega), by first| omega| (simp only; omega)| (dsimp only; omega), by first| omega| (simp only; omega)| (dsimp only; omega)⟩
      ·first | omega | (simp only; omega)
    ·try simp only [cn] at h3
     refine AW.exit ?_
     simp only [thn, blk, if_true]
     refine hN2 _ ?_
     try clear hN2 N2
     refine AW.sr envOk (fun N hN => ?_)
     simp -dsimp -implicitDefEqProofs (disch := omega) only [go_sem, reduceAdd, reduceSub, reduceGT, reduceEqDiff, reduceMul, ring, ringP, rows, w64]
     refine hN _ ?_
     try clear hN N
     refine AW.ret ?_
     simp -dsimp -implicitDefEqProofs (disch := omega) only [go_sem, reduceAdd, reduceSub, reduceGT, reduceEqDiff, reduceMul]
     have hk2 := upTo_all ht hp (P := MeetP p pw u v) (k := k) (by omega)
     first| rw [tf_t (show SpnP p pw br u ∧ SpnP p pw br v from ⟨h1, h2⟩)]| rw [tf_t h2]
     refine Vw.t2 ?_
     show Vw _ _ (rows (withL p pw (MeetP p pw u v)))
     rw [← hk2]
     exact Vw.rws rfl (upd_same _ _ _)
 ·try simp only [cn] at h1
  try simp -dsimp -implicitDefEqProofs (disch := omega) only [go_sem, reduceAdd, reduceSub, reduceGT, reduceEqDiff, reduceMul, ring, ringP, rows, w64]
  refine hN _ ?_
  try clear hN N
  refine AW.condT rfl ?_
  refine AW.sr envOk (fun N hN => ?_)
  simp -dsimp -implicitDefEqProofs (disch := omega) only [go_sem, reduceAdd, reduceSub, reduceGT, reduceEqDiff, reduceMul, ring, ringP, rows, w64]
  refine hN _ ?_
  try clear hN N
  refine AW.ret ?_
  simp -dsimp -implicitDefEqProofs (disch := omega) only [go_sem, reduceAdd, reduceSub, reduceGT, reduceEqDiff, reduceMul]
  rw [tf_f (show ¬(SpnP p pw br u ∧ SpnP p pw br v) from fun h => h1 h.1)]
  exact Vw.t2 .nl

end Go.Proofs.Ytbhlindlcfeppaa
