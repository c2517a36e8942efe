/-
  SumRings, by the program.
  Sums of rings, by the reference.
-/
import Derived.Test.YtbhlindlcfeppaaVb
set_option linter.unusedVariables false
set_option linter.unusedSimpArgs false
namespace Go.Proofs.Ytbhlindlcfeppaa
open Nat (reduceAdd reduceSub reduceGT reduceEqDiff reduceMul)

/-- A ring and an error. -/
def resG (m : (Int × List (List Int) × List (List (List Int))) × Int) : AV := .t [ring m.1.1 m.1.2.1 m.1.2.2, .i .i64 m.2]
def sumM (p : Int) (A B : List (List Int)) (C D : List (List (List Int))) (a b c : Bool) : (Int × List (List Int) × List (List (List Int))) × Int := match a, b, c with
  | true, true, true => ((p, sP A B, sB A.length B.length C D), 0)
  | true, true, false => ((0, [], []), 3)
  | true, false, _ => ((0, [], []), 5)
  | false, _, _ => ((0, [], []), 1)
theorem Own.nilG {a b : Nat} {H : HP} {e : Int} : ∃ ids, Own a b H (.t [.g [.i .i64 0, .nl, .nl], .i .i64 e]) (resG ((0, [], []), e)) ids :=
  ⟨_, .t _ _ _ (.cons _ _ _ _ _ _ (.g _ _ _ (.cons _ _ _ _ _ _ (.leaf _ (.i _ _) (.i _ _)) (.cons _ _ _ _ _ _ .nl (.cons _ _ _ _ _ _ .nl .nil)))) (.cons _ _ _ _ _ _ (.leaf _ (.i _ _) (.i _ _)) .nil)), by simp, by simp⟩

set_option maxRecDepth 100000 in
set_option maxHeartbeats 8000000 in
theorem impl_SumRings_ok (p : Int) (pw : List (List Int)) (br : List (List (List Int))) (hl : ringlen pw br) (q : Int) (pv : List (List Int)) (bv : List (List (List Int))) (hl2 : ringlen pv bv) : ACo Try.prog 48 [ring p pw br, ring q pv bv] (resG (sumM p pw pv br bv (tf (LieR p pw br ∧ LieR q pv bv)) (tf (p = q)) (tf (pw.length + pv.length ≤ 6 ∧ p ^ (pw.length + pv.length) ≤ 729)))) := by
 have hln := hl.n
 have hln2 := hl2.n
 obtain ⟨b1, hb1⟩ : ∃ b, tf (LieR p pw br ∧ LieR q pv bv) = b := ⟨_, rfl⟩
 obtain ⟨b2, hb2⟩ : ∃ b, tf (p = q) = b := ⟨_, rfl⟩
 obtain ⟨b3, hb3⟩ : ∃ b, tf (pw.length + pv.length ≤ 6 ∧ p ^ (pw.length + pv.length) ≤ 729) = b := ⟨_, rfl⟩
 rw [hb1, hb2, hb3]
 intro nx
 refine AC.intro' envOk Try.func48 rfl (by kernel_rfl) Try.ntmps48 Try.results48 ?_
 refine AW.sr envOk (fun N hN => ?_)
 simp -dsimp -implicitDefEqProofs (disch := omega) only [go_sem, reduceAdd, reduceSub, reduceGT, reduceEqDiff, reduceMul, ring, w64]
 refine hN _ ?_
 try clear hN N
 refine AW.seq (fun N1 hN1 => ?_)
 refine AW.freezeQ 2 nx _ rfl ((upd_ne _ _ (by omega)).trans ((upd_ne _ _ (by omega)).trans (upd_same _ _ _))) ?_
 refine AW.freezeQ 3 (nx + 1) _ rfl ((upd_ne _ _ (by omega)).trans ((upd_ne _ _ (by omega)).trans (upd_same _ _ _))) ?_
 simp -dsimp -implicitDefEqProofs (disch := omega) only [go_sem, reduceAdd, reduceSub, reduceGT, reduceEqDiff, reduceMul]
 refine AW.sr envOk (fun N hN => ?_)
 simp -dsimp -implicitDefEqProofs (disch := omega) only [go_sem, reduceAdd, reduceSub, reduceGT, reduceEqDiff, reduceMul, ring, w64]
 refine AC.pure (.of (impl_IsLieRing_ok p pw br hl)) ?_
 try simp -dsimp -implicitDefEqProofs (disch := omega) only [go_sem, reduceAdd, reduceSub, reduceGT, reduceEqDiff, reduceMul, ring, w64]
 refine gopB.mk' (fun h1 => ?_) (fun h1 => ?_)
 ·try simp only [cn] at h1
  try simp -dsimp -implicitDefEqProofs (disch := omega) only [go_sem, reduceAdd, reduceSub, reduceGT, reduceEqDiff, reduceMul, ring, w64]
  refine AC.pure (.of (impl_IsLieRing_ok q pv bv hl2)) ?_
  try simp -dsimp -implicitDefEqProofs (disch := omega) only [go_sem, reduceAdd, reduceSub, reduceGT, reduceEqDiff, reduceMul, ring, w64]
  refine hN _ ?_
  try clear hN N
  refine AW.cond rfl (fun h2 => ?_) (fun h2 => ?_)
  ·try simp only [cn] at h2
   refine AW.sr envOk (fun N hN => ?_)
   simp -dsimp -implicitDefEqProofs (disch := omega) only [go_sem, reduceAdd, reduceSub, reduceGT, reduceEqDiff, reduceMul, ring, w64]
   refine hN _ ?_
   try clear hN N
   refine AW.ret ?_
   simp -dsimp -implicitDefEqProofs (disch := omega) only [go_sem, reduceAdd, reduceSub, reduceGT, reduceEqDiff, reduceMul]
   rw [show b1 = false from hb1.symm.trans (tf_f (fun h => h2 h.2))]
   exact Own.nilG
  ·try simp only [cn] at h2
   have ht := h1.1.tri
   have ht2 := h2.1.tri
   have hn6 := ht.n6
   have hn62 := ht2.n6
   have e1 : b1 = true := hb1.symm.trans (tf_t ⟨h1, h2⟩)
   refine AW.skip ?_
   simp only [thn, blk]
   refine hN1 _ ?_
   try clear hN1 N1
   refine AW.seq (fun N2 hN2 => ?_)
   refine AW.sr envOk (fun N hN => ?_)
   simp -dsimp -implicitDefEqProofs (disch := omega) only [go_sem, reduceAdd, reduceSub, reduceGT, reduceEqDiff, reduceMul, ring, w64]
   refine hN _ ?_
   try clear hN N
   refine AW.cond rfl (fun h3 => ?_) (fun h3 => ?_)
   ·try simp only [cn] at h3
    refine AW.sr envOk (fun N hN => ?_)
    simp -dsimp -implicitDefEqProofs (disch := omega) only [go_sem, reduceAdd, reduceSub, reduceGT, reduceEqDiff, reduceMul, ring, w64]
    refine hN _ ?_
    try clear hN N
    refine AW.ret ?_
    simp -dsimp -implicitDefEqProofs (disch := omega) only [go_sem, reduceAdd, reduceSub, reduceGT, reduceEqDiff, reduceMul]
    rw [e1, show b2 = false from hb2.symm.trans (tf_f h3)]
    exact Own.nilG
   ·try simp only [cn] at h3
    have e2 : b2 = true := hb2.symm.trans (tf_t h3)
    subst h3
    refine AW.skip ?_
    simp only [thn, blk]
    refine hN2 _ ?_
    try clear hN2 N2
    refine AW.seq (fun N hN => ?_)
    refine AW.drawL envOk (by kernel_rfl) 8 (by kernel_rfl) ?_
    simp -dsimp -implicitDefEqProofs (disch := omega) only [hr_nil, hr_one, hr_if, List.take_succ_cons, List.take_zero, List.drop_succ_cons, List.drop_zero, List.take_nil, List.drop_nil, go_sem, reduceAdd, reduceSub, reduceGT, reduceEqDiff, reduceMul, ring, w64, rows]
    refine hN _ ?_
    try clear hN N
    refine AW.seq (fun N3 hN3 => ?_)
    refine AW.sr envOk (fun N hN => ?_)
    simp -dsimp -implicitDefEqProofs (disch := omega) only [go_sem, reduceAdd, reduceSub, reduceGT, reduceEqDiff, reduceMul, ring, w64]
    refine gopB.mk' (fun h4 => ?_) (fun h4 => ?_)
    ·try simp only [cn] at h4
     try simp -dsimp -implicitDefEqProofs (disch := omega) only [go_sem, reduceAdd, reduceSub, reduceGT, reduceEqDiff, reduceMul, ring, w64]
     refine AC.pure (.of (impl_integerPower_ok p (pw.length + pv.length) h1.1.1 (by omega))) ?_
     try simp -dsimp -implicitDefEqProofs (disch := omega) only [go_sem, reduceAdd, reduceSub, reduceGT, reduceEqDiff, reduceMul, ring, w64]
     refine hN _ ?_
     try clear hN N
     refine AW.cond rfl (fun h5 => ?_) (fun h5 => ?_)
     ·try simp only [cn] at h5
      refine AW.sr envOk (fun N hN => ?_)
      simp -dsimp -implicitDefEqProofs (disch := omega) only [go_sem, reduceAdd, reduceSub, reduceGT, reduceEqDiff, reduceMul, ring, w64]
      refine hN _ ?_
      try clear hN N
      refine AW.ret ?_
      simp -dsimp -implicitDefEqProofs (disch := omega) only [go_sem, reduceAdd, reduceSub, reduceGT, reduceEqDiff, reduceMul]
      rw [e1, e2, show b3 = false from hb3.symm.trans (tf_f (fun h => by omega))]
      exact Own.nilG
     ·try simp only [cn] at h5
      have e3 : b3 = true := hb3.symm.trans (tf_t ⟨by omega, by omega⟩)
      obtain ⟨NN, hN0⟩ : ∃ NN, pw.length + pv.length = NN := ⟨_, rfl⟩
      have hs : Shp NN (sP pw pv) (sB pw.length pv.length br bv) := by
       rw [← hN0]
       exact sum_shp rfl rfl h1.1.sh.rl h2.1.sh.rl
      have hpe : ∀ i, i < pw.length → El p pw.length (pw.getD i []) := fun i hi => ((h1.1.2.2.2.2 i hi).1).el
      have hve : ∀ i, i < pv.length → El p pv.length (pv.getD i []) := fun i hi => ((h2.1.2.2.2.2 i hi).1).el
      refine AW.skip ?_
      simp only [thn, blk]
      refine hN3 _ ?_
      try clear hN3 N3
      refine AW.sr envOk (fun N hN => ?_)
      simp -dsimp -implicitDefEqProofs (disch := omega) only [go_sem, reduceAdd, reduceSub, reduceGT, reduceEqDiff, reduceMul, ring, w64]
      refine AC.own (impl_zeroRing_ok p (pw.length + pv.length) (by omega)) (.cons (.refl _) (.cons (.refl _) .nil)) ?_
      intro m1 H1 r1 ids1 hm1 hH1 hown1
      obtain ⟨P, B, rfl, hP1, hB1, hR⟩ := RgO.of hown1
      try simp -dsimp -implicitDefEqProofs (disch := omega) only [go_sem, reduceAdd, reduceSub, reduceGT, reduceEqDiff, reduceMul, hP1, hB1]
      refine hN _ ?_
      try clear hN N
      refine AW.seq (fun N4 hN4 => ?_)
      refine AW.freezeQ 8 (nx + 4 + 8 + 5 + 8 + 13 + 6) _ rfl (upd_same _ _ _) ?_
      refine AW.nameH (fun G0 hG0 => ?_)
      dsimp only at hG0
      obtain ⟨A0, hA0⟩ : ∃ A0, nx + 4 + 8 + 5 + 8 + 13 + 8 = A0 := ⟨_, rfl⟩
      have hQ0 : FilI NN (sP pw pv) A0 m1 (nx + 2) G0 P B 0 (mixR (sB pw.length pv.length br bv) (zB NN) 0) := by
       rw [← hA0]
       refine ⟨hm1, ?_, ?_⟩
       ·rw [mixR_0, mixR_0, ← hN0]
        exact hR.keep (fun i q1 q2 => by rw [← hG0]; simp (disch := omega) only [upd_ne]) (Nat.le_refl _)
       ·rw [← hG0]; simp (disch := omega) only [upd_ne, upd_same, hH1]
      simp -dsimp -implicitDefEqProofs (disch := omega) only [go_sem, reduceAdd, reduceSub, reduceGT, reduceEqDiff, reduceMul]
      refine AW.sr envOk (fun N hN => ?_)
      simp -dsimp -implicitDefEqProofs (disch := omega) only [go_sem, reduceAdd, reduceSub, reduceGT, reduceEqDiff, reduceMul, ring, w64, rows]
      refine hN _ ?_
      try clear hN N
      refine AW.block ?_
      refine AW.loopN (α := Nat × HP) (fun x => sl 139 [(2, ringP p pw br), (3, ringP p pv bv), (4, .q (nx + 2) 0), (6, .i .i64 pw.length), (7, .i .i64 pv.length), (8, .p 0 [.i .i64 p, P, B]), (59, rows pw), (60, .i .i64 pw.length), (61, .i .i64 x.1)]) (fun x => x.2) (fun x m => x.1 ≤ pw.length ∧ FilI NN (sP pw pv) A0 m (nx + 2) x.2 P B x.1 (mixR (sB pw.length pv.length br bv) (zB NN) x.1)) (fun x => pw.length - x.1) ((0, G0)) ?_ ?_ (fun _ _ h => h) ?_
      ·exact ⟨by simp, hQ0.mm (by first| omega| (simp only; omega)| (dsimp only; omega))⟩
      ·simp (disch := omega) [wks, wkA, sl, rows, cubes, ringP, ints]
      ·skip
       rintro ⟨a, G⟩ m2 ⟨ha, hQ⟩
       dsimp only at ha hQ
       simp -dsimp -implicitDefEqProofs (disch := omega) only [go_sem, reduceAdd, reduceSub, reduceGT, reduceEqDiff, reduceMul]
       refine AW.sr envOk (fun N hN => ?_)
       simp -dsimp -implicitDefEqProofs (disch := omega) only [go_sem, reduceAdd, reduceSub, reduceGT, reduceEqDiff, reduceMul, ring, w64]
       refine hN _ ?_
       try clear hN N
       refine AW.seq (fun N5 hN5 => ?_)
       refine AW.cond rfl (fun h6 => ?_) (fun h6 => ?_)
       ·try simp only [cn] at h6
        obtain ⟨Pid, rs, rfl, hPid, hrl, hP2, hP3⟩ := hQ.p hs (by omega)
        have hle := hQ.le
        have hpl := (hpe a (by omega)).len
        have himg := impl_padded_ok (pw.getD a []) 0 pv.length (by omega) (by omega) (by omega)
        rw [← sP_1 (B := pv) (show a < pw.length by omega)] at himg
        have hrow := h1.1.sh.rl a (by omega)
        have hbrl := h1.1.sh.bl
        refine AW.skip ?_
        simp only [thn, blk]
        refine hN5 _ ?_
        try clear hN5 N5
        refine AW.seq (fun N6 hN6 => ?_)
        refine AW.block ?_
        refine AW.sr envOk (fun N hN => ?_)
        simp -dsimp -implicitDefEqProofs (disch := omega) only [go_sem, reduceAdd, reduceSub, reduceGT, reduceEqDiff, reduceMul, ring, w64, rows, gd_r]
        refine hN _ ?_
        try clear hN N
        refine AW.seq (fun N hN => ?_)
        refine AW.drawF envOk (by kernel_rfl) [true, true, true, true, true, false, true, false] (by kernel_rfl) ?_
        simp -dsimp -implicitDefEqProofs (disch := omega) only [go_sem, reduceAdd, reduceSub, reduceGT, reduceEqDiff, reduceMul, ring, w64]
        refine AC.own himg (.cons (.refl _) (.cons (.refl _) (.cons (.refl _) .nil))) ?_
        intro m3 H3 r3 ids3 hm3 hH3 hown3
        obtain ⟨q1, q2, q3⟩ := hown3.1.slice
        have hPid3 := (hH3 Pid (by omega)).trans hPid
        try simp -dsimp -implicitDefEqProofs (disch := omega) only [go_sem, reduceAdd, reduceSub, reduceGT, reduceEqDiff, reduceMul, q1, q2, q3, hPid3, splice_one]
        refine hN _ ?_
        try clear hN N
        refine AW.nameH (fun G2 hG2 => ?_)
        dsimp only at hG2
        have hQ2 : FilI NN (sP pw pv) A0 m3 (nx + 2) G2 (.h Pid 0 NN) B (a + 1) (mixR (sB pw.length pv.length br bv) (zB NN) a) := by
         rw [← hG2]
         exact (hQ.mm (by omega)).setP hs (by omega) hPid (by omega) hown3 hH3 (by omega) hP2
        rw [← filY_0 hs (show a < NN by omega)] at hQ2
        simp -dsimp -implicitDefEqProofs (disch := omega) only [go_sem, reduceAdd, reduceSub, reduceGT, reduceEqDiff, reduceMul]
        refine AW.sr envOk (fun N hN => ?_)
        simp -dsimp -implicitDefEqProofs (disch := omega) only [go_sem, reduceAdd, reduceSub, reduceGT, reduceEqDiff, reduceMul, ring, w64, ringP, rows, cubes, gd_c]
        refine hN _ ?_
        try clear hN N
        refine AW.block ?_
        refine AW.loopN (α := Nat × HP) (fun x => sl 139 [(2, ringP p pw br), (3, ringP p pv bv), (4, .q (nx + 2) 0), (6, .i .i64 pw.length), (7, .i .i64 pv.length), (8, .p 0 [.i .i64 p, .h Pid 0 NN, B]), (9, .i .i64 a), (59, rows pw), (60, .i .i64 pw.length), (61, .i .i64 a), (77, rows (br.getD a [])), (78, .i .i64 (br.getD a []).length), (79, .i .i64 x.1)]) (fun x => x.2) (fun x m => x.1 ≤ (br.getD a []).length ∧ FilI NN (sP pw pv) A0 m (nx + 2) x.2 (.h Pid 0 NN) B (a + 1) (filY (sB pw.length pv.length br bv) NN a x.1)) (fun x => (br.getD a []).length - x.1) ((0, G2)) ?_ ?_ (fun _ _ h => h) ?_
        ·exact ⟨by simp, hQ2.mm (by first| omega| (simp only; omega)| (dsimp only; omega))⟩
        ·simp (disch := omega) [wks, wkA, sl, rows, cubes, ringP, ints]
        ·skip
         rintro ⟨k, G3⟩ m4 ⟨hk, hQ3⟩
         dsimp only at hk hQ3
         simp -dsimp -implicitDefEqProofs (disch := omega) only [go_sem, reduceAdd, reduceSub, reduceGT, reduceEqDiff, reduceMul]
         refine AW.sr envOk (fun N hN => ?_)
         simp -dsimp -implicitDefEqProofs (disch := omega) only [go_sem, reduceAdd, reduceSub, reduceGT, reduceEqDiff, reduceMul, ring, w64]
         refine hN _ ?_
         try clear hN N
         refine AW.seq (fun N7 hN7 => ?_)
         refine AW.cond rfl (fun h7 => ?_) (fun h7 => ?_)
         ·try simp only [cn] at h7
          obtain ⟨Bid, bs, qq, cs, rfl, hBid, hbl, hbq, hq, hcl, ⟨hb1', hb2'⟩, hq3, hq4⟩ := hQ3.b hs (by omega) (by omega)
          have hle4 := hQ3.le
          have hbe := (h1.1.sh.el a k (by omega) (by omega)).len
          have himg2 := impl_padded_ok ((br.getD a []).getD k []) 0 pv.length (by omega) (by omega) (by omega)
          rw [← sR1_get (n := pw.length) (show k < (br.getD a []).length by omega), ← sB_1 (m := pv.length) (D := bv) (show a < pw.length by omega)] at himg2
          refine AW.skip ?_
          simp only [thn, blk]
          refine hN7 _ ?_
          try clear hN7 N7
          refine AW.seq (fun N8 hN8 => ?_)
          refine AW.block ?_
          refine AW.sr envOk (fun N hN => ?_)
          simp -dsimp -implicitDefEqProofs (disch := omega) only [go_sem, reduceAdd, reduceSub, reduceGT, reduceEqDiff, reduceMul, ring, w64, rows, gd_r]
          refine hN _ ?_
          try clear hN N
          refine AW.drawT envOk (by kernel_rfl) [true, true, true, true, false, true, true, true, false, false, false] (.br 4 (.br 9 (.br 8 (.br 10 .nil .nil) .nil) (.br 8 (.br 9 (.br 10 .nil .nil) .nil) .nil)) (.br 8 (.br 4 (.br 9 (.br 10 .nil .nil) .nil) .nil) .nil)) (by kernel_rfl) ?_
          simp -dsimp -implicitDefEqProofs (disch := omega) only [go_sem, reduceAdd, reduceSub, reduceGT, reduceEqDiff, reduceMul, ring, w64, hBid, hbq, hbl]
          refine ⟨⟨?_, ?_⟩, ?_⟩
          all_goals
           refine AC.own himg2 (.cons (.refl _) (.cons (.refl _) (.cons (.refl _) .nil))) ?_
           intro m5 H5 r5 ids5 hm5 hH5 hown5
           obtain ⟨q1, q2, q3⟩ := hown5.1.slice
           have hBid5 := (hH5 Bid (by omega)).trans hBid
           have hq5 := (hH5 qq (by omega)).trans hq
           try simp -dsimp -implicitDefEqProofs (disch := omega) only [go_sem, reduceAdd, reduceSub, reduceGT, reduceEqDiff, reduceMul, q1, q2, q3, hBid5, hbq, hbl, hq5, hcl, splice_one]
           refine hN8 _ ?_
           try clear hN8 N8
           refine AW.nameH (fun G5 hG5 => ?_)
           dsimp only at hG5
           have hQ5 : FilI NN (sP pw pv) A0 m5 (nx + 2) G5 (.h Pid 0 NN) (.h Bid 0 NN) (a + 1) (filY (sB pw.length pv.length br bv) NN a (k + 1)) := by
            rw [← hG5]
            exact (hQ3.mm (by omega)).setB hs (by omega) (by omega) hBid hbq hq (by omega) hown5 hH5 (by omega) hq3
           simp -dsimp -implicitDefEqProofs (disch := omega) only [go_sem, reduceAdd, reduceSub, reduceGT, reduceEqDiff, reduceMul]
           refine AW.regionL envOk ?_
           simp -dsimp -implicitDefEqProofs (disch := omega) only [go_sem, reduceAdd, reduceSub, reduceGT, reduceEqDiff, reduceMul, ring, w64]
           refine ⟨(k + 1, G5), ?_, fun _ _ h => h, ?_, ?_⟩
           ·simp (disch := omega) [wks, wkA, sl, rows, cubes, ringP, ints, w64]
           ·exact ⟨by first| omega| (simp only; omega)| (dsimp only; omega), hQ5.mm (by first| omega| (simp only; omega)| (dsimp only; omega))⟩
           ·first | omega | (simp only; omega)
         ·try simp only [cn] at h7
          have hkl : k = (br.getD a []).length := by omega
          have hend := filY_end hs (a := a) (k := k) (by omega) (by rw [sB_1 (show a < pw.length by omega), hkl, ← hN0]; exact sR1_drop (by omega))
          rw [hend] at hQ3
          refine AW.exit ?_
          simp only [thn, blk, if_true]
          refine hN6 _ ?_
          try clear hN6 N6
          refine AW.regionL envOk ?_
          simp -dsimp -implicitDefEqProofs (disch := omega) only [go_sem, reduceAdd, reduceSub, reduceGT, reduceEqDiff, reduceMul, ring, w64]
          refine ⟨(a + 1, G3), ?_, fun _ _ h => h, ?_, ?_⟩
          ·simp (disch := omega) [wks, wkA, sl, rows, cubes, ringP, ints, w64]
          ·exact ⟨by first| omega| (simp only; omega)| (dsimp only; omega), hQ3.mm (by first| omega| (simp only; omega)| (dsimp only; omega))⟩
          ·first | omega | (simp only; omega)
       ·try simp only [cn] at h6
        have haN : a = pw.length := by omega
        subst haN
        refine AW.exit ?_
        simp only [thn, blk, if_true]
        refine hN4 _ ?_
        try clear hN4 N4
        refine AW.seq (fun N9 hN9 => ?_)
        refine AW.sr envOk (fun N hN => ?_)
        simp -dsimp -implicitDefEqProofs (disch := omega) only [go_sem, reduceAdd, reduceSub, reduceGT, reduceEqDiff, reduceMul, ring, w64, ringP, rows]
        refine hN _ ?_
        try clear hN N
        refine AW.block ?_
        refine AW.loopN (α := Nat × HP) (fun x => sl 139 [(3, ringP p pv bv), (4, .q (nx + 2) 0), (6, .i .i64 pw.length), (8, .p 0 [.i .i64 p, P, B]), (97, rows pv), (98, .i .i64 pv.length), (99, .i .i64 x.1)]) (fun x => x.2) (fun x m => x.1 ≤ pv.length ∧ FilI NN (sP pw pv) A0 m (nx + 2) x.2 P B (pw.length + x.1) (mixR (sB pw.length pv.length br bv) (zB NN) (pw.length + x.1))) (fun x => pv.length - x.1) ((0, G)) ?_ ?_ (fun _ _ h => h) ?_
        ·exact ⟨by simp, hQ.mm (by first| omega| (simp only; omega)| (dsimp only; omega))⟩
        ·simp (disch := omega) [wks, wkA, sl, rows, cubes, ringP, ints]
        ·skip
         rintro ⟨i, K⟩ m6 ⟨hi, hR6⟩
         dsimp only at hi hR6
         simp -dsimp -implicitDefEqProofs (disch := omega) only [go_sem, reduceAdd, reduceSub, reduceGT, reduceEqDiff, reduceMul]
         refine AW.sr envOk (fun N hN => ?_)
         simp -dsimp -implicitDefEqProofs (disch := omega) only [go_sem, reduceAdd, reduceSub, reduceGT, reduceEqDiff, reduceMul, ring, w64]
         refine hN _ ?_
         try clear hN N
         refine AW.seq (fun N10 hN10 => ?_)
         refine AW.cond rfl (fun h8 => ?_) (fun h8 => ?_)
         ·try simp only [cn] at h8
          obtain ⟨Pid, rs, rfl, hPid, hrl, hP2, hP3⟩ := hR6.p hs (by omega)
          have hle := hR6.le
          have hpl := (hve i (by omega)).len
          have himg := impl_padded_ok (pv.getD i []) pw.length 0 (by omega) (by omega) (by omega)
          rw [← sP_2 (A := pw) (show i < pv.length by omega)] at himg
          have hrow := h2.1.sh.rl i (by omega)
          have hbrl := h2.1.sh.bl
          refine AW.skip ?_
          simp only [thn, blk]
          refine hN10 _ ?_
          try clear hN10 N10
          refine AW.seq (fun N11 hN11 => ?_)
          refine AW.block ?_
          refine AW.sr envOk (fun N hN => ?_)
          simp -dsimp -implicitDefEqProofs (disch := omega) only [go_sem, reduceAdd, reduceSub, reduceGT, reduceEqDiff, reduceMul, ring, w64, rows, gd_r]
          refine hN _ ?_
          try clear hN N
          refine AW.seq (fun N hN => ?_)
          refine AW.drawF envOk (by kernel_rfl) [true, true, true, true, true, true, true, false, true, false] (by kernel_rfl) ?_
          simp -dsimp -implicitDefEqProofs (disch := omega) only [go_sem, reduceAdd, reduceSub, reduceGT, reduceEqDiff, reduceMul, ring, w64, w64]
          refine AC.own himg (.cons (.refl _) (.cons (.refl _) (.cons (.refl _) .nil))) ?_
          intro m3 H3 r3 ids3 hm3 hH3 hown3
          obtain ⟨q1, q2, q3⟩ := hown3.1.slice
          have hPid3 := (hH3 Pid (by omega)).trans hPid
          try simp -dsimp -implicitDefEqProofs (disch := omega) only [go_sem, reduceAdd, reduceSub, reduceGT, reduceEqDiff, reduceMul, q1, q2, q3, hPid3, splice_one, w64]
          refine hN _ ?_
          try clear hN N
          refine AW.nameH (fun G2 hG2 => ?_)
          dsimp only at hG2
          have hQ2 : FilI NN (sP pw pv) A0 m3 (nx + 2) G2 (.h Pid 0 NN) B (pw.length + i + 1) (mixR (sB pw.length pv.length br bv) (zB NN) (pw.length + i)) := by
           rw [← hG2]
           exact (hR6.mm (by omega)).setP hs (by omega) hPid (by omega) hown3 hH3 (by omega) hP2
          rw [← filY_0 hs (show pw.length + i < NN by omega)] at hQ2
          simp -dsimp -implicitDefEqProofs (disch := omega) only [go_sem, reduceAdd, reduceSub, reduceGT, reduceEqDiff, reduceMul]
          refine AW.sr envOk (fun N hN => ?_)
          simp -dsimp -implicitDefEqProofs (disch := omega) only [go_sem, reduceAdd, reduceSub, reduceGT, reduceEqDiff, reduceMul, ring, w64, ringP, rows, cubes, gd_c]
          refine hN _ ?_
          try clear hN N
          refine AW.block ?_
          refine AW.loopN (α := Nat × HP) (fun x => sl 139 [(3, ringP p pv bv), (4, .q (nx + 2) 0), (6, .i .i64 pw.length), (8, .p 0 [.i .i64 p, .h Pid 0 NN, B]), (13, .i .i64 i), (97, rows pv), (98, .i .i64 pv.length), (99, .i .i64 i), (117, rows (bv.getD i [])), (118, .i .i64 (bv.getD i []).length), (119, .i .i64 x.1)]) (fun x => x.2) (fun x m => x.1 ≤ (bv.getD i []).length ∧ FilI NN (sP pw pv) A0 m (nx + 2) x.2 (.h Pid 0 NN) B (pw.length + i + 1) (filY (sB pw.length pv.length br bv) NN (pw.length + i) x.1)) (fun x => (bv.getD i []).length - x.1) ((0, G2)) ?_ ?_ (fun _ _ h => h) ?_
          ·exact ⟨by simp, hQ2.mm (by first| omega| (simp only; omega)| (dsimp only; omega))⟩
          ·simp (disch := omega) [wks, wkA, sl, rows, cubes, ringP, ints]
          ·skip
           rintro ⟨k, G3⟩ m4 ⟨hk, hQ3⟩
           dsimp only at hk hQ3
           simp -dsimp -implicitDefEqProofs (disch := omega) only [go_sem, reduceAdd, reduceSub, reduceGT, reduceEqDiff, reduceMul]
           refine AW.sr envOk (fun N hN => ?_)
           simp -dsimp -implicitDefEqProofs (disch := omega) only [go_sem, reduceAdd, reduceSub, reduceGT, reduceEqDiff, reduceMul, ring, w64]
           refine hN _ ?_
           try clear hN N
           refine AW.seq (fun N12 hN12 => ?_)
           refine AW.cond rfl (fun h9 => ?_) (fun h9 => ?_)
           ·try simp only [cn] at h9
            obtain ⟨Bid, bs, qq, cs, rfl, hBid, hbl, hbq, hq, hcl, ⟨hb1', hb2'⟩, hq3, hq4⟩ := hQ3.b hs (by omega) (by omega)
            have hle4 := hQ3.le
            have hbe := (h2.1.sh.el i k (by omega) (by omega)).len
            have himg2 := impl_padded_ok ((bv.getD i []).getD k []) pw.length 0 (by omega) (by omega) (by omega)
            rw [← sR2_get (n := pw.length) (show k < (bv.getD i []).length by omega), ← sB_2 (n := pw.length) (C := br) (show i < pv.length by omega)] at himg2
            refine AW.skip ?_
            simp only [thn, blk]
            refine hN12 _ ?_
            try clear hN12 N12
            refine AW.seq (fun N13 hN13 => ?_)
            refine AW.block ?_
            refine AW.sr envOk (fun N hN => ?_)
            simp -dsimp -implicitDefEqProofs (disch := omega) only [go_sem, reduceAdd, reduceSub, reduceGT, reduceEqDiff, reduceMul, ring, w64, rows, gd_r]
            refine hN _ ?_
            try clear hN N
            refine AW.drawT envOk (by kernel_rfl) [true, true, true, true, true, true, false, true, true, true, false, false, false] (.br 6 (.br 11 (.br 10 (.br 12 .nil .nil) .nil) (.br 10 (.br 11 (.br 12 .nil .nil) .nil) .nil)) (.br 10 (.br 6 (.br 11 (.br 12 .nil .nil) .nil) .nil) .nil)) (by kernel_rfl) ?_
            simp -dsimp -implicitDefEqProofs (disch := omega) only [go_sem, reduceAdd, reduceSub, reduceGT, reduceEqDiff, reduceMul, ring, w64, hBid, hbq, hbl]
            refine ⟨⟨?_, ?_⟩, ?_⟩
            all_goals
             refine AC.own himg2 (.cons (.refl _) (.cons (.refl _) (.cons (.refl _) .nil))) ?_
             intro m5 H5 r5 ids5 hm5 hH5 hown5
             obtain ⟨q1, q2, q3⟩ := hown5.1.slice
             have hBid5 := (hH5 Bid (by omega)).trans hBid
             have hq5 := (hH5 qq (by omega)).trans hq
             try simp -dsimp -implicitDefEqProofs (disch := omega) only [go_sem, reduceAdd, reduceSub, reduceGT, reduceEqDiff, reduceMul, q1, q2, q3, hBid5, hbq, hbl, hq5, hcl, splice_one, w64]
             refine hN13 _ ?_
             try clear hN13 N13
             refine AW.nameH (fun G5 hG5 => ?_)
             dsimp only at hG5
             have hQ5 : FilI NN (sP pw pv) A0 m5 (nx + 2) G5 (.h Pid 0 NN) (.h Bid 0 NN) (pw.length + i + 1) (filY (sB pw.length pv.length br bv) NN (pw.length + i) (k + 1)) := by
              rw [← hG5]
              exact (hQ3.mm (by omega)).setB hs (by omega) (by omega) hBid hbq hq (by omega) hown5 hH5 (by omega) hq3
             simp -dsimp -implicitDefEqProofs (disch := omega) only [go_sem, reduceAdd, reduceSub, reduceGT, reduceEqDiff, reduceMul]
             refine AW.regionL envOk ?_
             simp -dsimp -implicitDefEqProofs (disch := omega) only [go_sem, reduceAdd, reduceSub, reduceGT, reduceEqDiff, reduceMul, ring, w64]
             refine ⟨(k + 1, G5), ?_, fun _ _ h => h, ?_, ?_⟩
             ·simp (disch := omega) [wks, wkA, sl, rows, cubes, ringP, ints, w64]
             ·exact ⟨by first| omega| (simp only; omega)| (dsimp only; omega), hQ5.mm (by first| omega| (simp only; omega)| (dsimp only; omega))⟩
             ·first | omega | (simp only; omega)
           ·try simp only [cn] at h9
            have hkl : k = (bv.getD i []).length := by omega
            have hend := filY_end hs (a := pw.length + i) (k := k) (by omega) (by rw [sB_2 (show i < pv.length by omega), hkl, ← hN0]; exact sR2_drop (by omega))
            rw [hend] at hQ3
            refine AW.exit ?_
            simp only [thn, blk, if_true]
            refine hN11 _ ?_
            try clear hN11 N11
            refine AW.regionL envOk ?_
            simp -dsimp -implicitDefEqProofs (disch := omega) only [go_sem, reduceAdd, reduceSub, reduceGT, reduceEqDiff, reduceMul, ring, w64]
            refine ⟨(i + 1, G3), ?_, fun _ _ h => h, ?_, ?_⟩
            ·simp (disch := omega) [wks, wkA, sl, rows, cubes, ringP, ints, w64]
            ·exact ⟨by first| omega| (simp only; omega)| (dsimp only; omega), hQ3.mm (by first| omega| (simp only; omega)| (dsimp only; omega))⟩
            ·first | omega | (simp only; omega)
         ·try simp only [cn] at h8
          have hc4 := hR6.c
          refine AW.exit ?_
          simp only [thn, blk, if_true]
          refine hN9 _ ?_
          try clear hN9 N9
          refine AW.sr envOk (fun N hN => ?_)
          simp -dsimp -implicitDefEqProofs (disch := omega) only [go_sem, reduceAdd, reduceSub, reduceGT, reduceEqDiff, reduceMul, ring, w64, hc4, hP1, hB1, Bool.and_self]
          refine hN _ ?_
          try clear hN N
          refine AW.ret ?_
          simp -dsimp -implicitDefEqProofs (disch := omega) only [go_sem, reduceAdd, reduceSub, reduceGT, reduceEqDiff, reduceMul]
          rw [e1, e2, e3]
          have haO : pw.length + i = NN := by omega
          have hR4 := hR6.R
          rw [haO, mixR_all hs.xz (by rw [hs.x]), mixR_all hs.yz (by rw [hs.y])] at hR4
          have hle := hR6.le
          obtain ⟨ids, hown⟩ := (hR4.keep (H' := upd K (nx + 2) (some [.i .i64 p, P, B])) (fun i q1 q2 => upd_ne _ _ (by omega)) (Nat.le_refl _)).own (p := p)
          exact (hown.keep (fun _ _ _ => rfl) (by omega) (by omega)).pair
    ·try simp only [cn] at h4
     try simp -dsimp -implicitDefEqProofs (disch := omega) only [go_sem, reduceAdd, reduceSub, reduceGT, reduceEqDiff, reduceMul, ring, w64]
     refine hN _ ?_
     try clear hN N
     refine AW.condT rfl ?_
     refine AW.sr envOk (fun N hN => ?_)
     simp -dsimp -implicitDefEqProofs (disch := omega) only [go_sem, reduceAdd, reduceSub, reduceGT, reduceEqDiff, reduceMul, ring, w64]
     refine hN _ ?_
     try clear hN N
     refine AW.ret ?_
     simp -dsimp -implicitDefEqProofs (disch := omega) only [go_sem, reduceAdd, reduceSub, reduceGT, reduceEqDiff, reduceMul]
     rw [e1, e2, show b3 = false from hb3.symm.trans (tf_f (fun h => by omega))]
     exact Own.nilG
 ·try simp only [cn] at h1
  try simp -dsimp -implicitDefEqProofs (disch := omega) only [go_sem, reduceAdd, reduceSub, reduceGT, reduceEqDiff, reduceMul, ring, w64]
  refine hN _ ?_
  try clear hN N
  refine AW.condT rfl ?_
  refine AW.sr envOk (fun N hN => ?_)
  simp -dsimp -implicitDefEqProofs (disch := omega) only [go_sem, reduceAdd, reduceSub, reduceGT, reduceEqDiff, reduceMul, ring, w64]
  refine hN _ ?_
  try clear hN N
  refine AW.ret ?_
  simp -dsimp -implicitDefEqProofs (disch := omega) only [go_sem, reduceAdd, reduceSub, reduceGT, reduceEqDiff, reduceMul]
  rw [show b1 = false from hb1.symm.trans (tf_f (fun h => h1 h.1))]
  exact Own.nilG

end Go.Proofs.Ytbhlindlcfeppaa

set_option linter.unusedVariables false
set_option linter.unusedSimpArgs false
namespace Go.Proofs.Ytbhlindlcfeppaa
open Nat (reduceAdd reduceSub reduceGT reduceEqDiff reduceMul)

theorem nr_ring (p : Int) (pw : List (List Int)) (br : List (List (List Int))) : NR (ring p pw br) := .g _ (fun k y hk => by
  have := List.mem_of_getElem? hk
  simp only [List.mem_cons, List.not_mem_nil, or_false] at this
  rcases this with rfl | rfl | rfl
  · exact .i _ _
  · exact rows_nr _
  · exact cubes_nr _)
theorem resG_nr (m : (Int × List (List Int) × List (List (List Int))) × Int) : NR (resG m) := NR.ts (fun x hx => by
  simp at hx
  rcases hx with rfl | rfl
  · exact nr_ring _ _ _
  · exact .i _ _)
theorem vw_ring {H : HP} {p : Int} {a b : AV} {pw : List (List Int)} {br : List (List (List Int))} (h1 : Vw H a (rows pw)) (h2 : Vw H b (cubes br)) : Vw H (.g [.i .i64 p, a, b]) (ring p pw br) := by
  refine .g _ _ rfl (fun k x y hx hy => ?_)
  match k, hx, hy with
  | 0, hx, hy => cases hx; cases hy; exact .refl _
  | 1, hx, hy => cases hx; cases hy; exact h1
  | 2, hx, hy => cases hx; cases hy; exact h2
theorem rd_nilG {e : Int} : Rd (.t [.g [.i .i64 0, .nl, .nl], .i .i64 e]) (resG ((0, [], []), e)) := Rd.t2 (fun L w M u h => by
  cases h with
  | g _ us hs hr =>
    refine .g _ us hs ?_
    intro k z hk
    match k, hk with
    | 0, hk => cases hk; exact hr 0 _ rfl
    | 1, hk => cases hk; exact Rd.nl _ _ _ _ (hr 1 _ rfl)
    | 2, hk => cases hk; exact Rd.nl _ _ _ _ (hr 2 _ rfl)) (.refl _)
theorem take_sn {α : Type} {L : List α} {d : α} {a : Nat} (h : a < L.length) : L.take (a + 1) = L.take a ++ [L.getD a d] := by
  rw [List.take_add_one]; simp [h]
theorem one_ints2 {x : List Int} : (∀ z ∈ [ints x], one z = true) = True := one_list rfl
theorem one_v2 {n : Nat} {cs : List AV} : (∀ z ∈ [AV.v n cs], one z = true) = True := one_list rfl
/-- Lists under construction: rows, and lists of rows, in a box o; c is the result's box. -/
structure SqG (p : Int) (X : List (List Int)) (Y : List (List (List Int))) (c o m a b P B : Nat) (G : HP) : Prop where
  hm : c < o ∧ o < m
  gc : G c = some [.i .i64 0, .nl, .nl]
  go : G o = some [.i .i64 p, .h P 0 a, .h B 0 b]
  gP : G P = some ((X.take a).map ints)
  gB : G B = some ((Y.take b).map rows)
  lP : c < P ∧ P < m ∧ P ≠ o
  lB : c < B ∧ B < m ∧ B ≠ o
  ne : P ≠ B
section
variable {p : Int} {X : List (List Int)} {Y : List (List (List Int))} {c o m m' a b P B P' B' : Nat} {G G1 : HP}
theorem SqG.mm (h : SqG p X Y c o m a b P B G) (hm : m ≤ m') : SqG p X Y c o m' a b P B G :=
  ⟨by have := h.hm; omega, h.gc, h.go, h.gP, h.gB, by have := h.lP; omega, by have := h.lB; omega, h.ne⟩
theorem SqG.pn (h : SqG p X Y c o m a b P B G) (ha : a < X.length) (hk : ∀ j, j < m → j ≠ o → j ≠ P → G1 j = G j) (h1 : G1 P' = some ((X.take a).map ints ++ [ints (X.getD a [])])) (h2 : G1 o = some [.i .i64 p, .h P' 0 (a + 1), .h B 0 b]) (h3 : m ≤ P') (h4 : P' < m') : SqG p X Y c o m' (a + 1) b P' B G1 := by
  obtain ⟨hm, hc, ho, hgP, hgB, hlP, hlB, hne⟩ := h
  exact ⟨by omega, (hk c (by omega) (by omega) (by omega)).trans hc, h2, by rw [h1, take_sn (d := []) ha, List.map_append]; rfl, (hk B (by omega) (by omega) (by omega)).trans hgB, by omega, by omega, by omega⟩
theorem SqG.bn (h : SqG p X Y c o m a b P B G) (hb : b < Y.length) (hk : ∀ j, j < m → j ≠ o → j ≠ B → G1 j = G j) (h1 : G1 B' = some ((Y.take b).map rows ++ [rows (Y.getD b [])])) (h2 : G1 o = some [.i .i64 p, .h P 0 a, .h B' 0 (b + 1)]) (h3 : m ≤ B') (h4 : B' < m') : SqG p X Y c o m' a (b + 1) P B' G1 := by
  obtain ⟨hm, hc, ho, hgP, hgB, hlP, hlB, hne⟩ := h
  exact ⟨by omega, (hk c (by omega) (by omega) (by omega)).trans hc, h2, (hk P (by omega) (by omega) (by omega)).trans hgP, by rw [h1, take_sn (d := []) hb, List.map_append]; rfl, by omega, by omega, by omega⟩
theorem SqG.kp (h : SqG p X Y c o m a b P B G) (hk : ∀ j, j < m → G1 j = G j) (hm : m ≤ m') : SqG p X Y c o m' a b P B G1 := by
  obtain ⟨hm', hc, ho, hgP, hgB, hlP, hlB, hne⟩ := h
  exact ⟨by omega, (hk c (by omega)).trans hc, (hk o (by omega)).trans ho, (hk P (by omega)).trans hgP, (hk B (by omega)).trans hgB, by omega, by omega, hne⟩
end
theorem AW.fzrow {P : Program} {c : Code} {s : St} {K : Exit → St → Prop} (i j n : Nat) (W : List (List Int)) (x : List Int) {xs ds : List AV} (h1 : s.H i = some xs) (hxs : xs = W.map ints ++ [.h j 0 n]) (h2 : s.H j = some ds) (hds : ds = x.map (.i .i64)) (hn : n = x.length) (hij : i ≠ j)
    (hs : AW P c ⟨s.t, upd (upd s.H j none) i (some ((W ++ [x]).map ints)), s.nx⟩ K) : AW P c s K := by
  subst hxs hds hn
  refine AW.fzpush i j x.length (W.map ints) (x.map (.i .i64)) h1 h2 (by simp) hij ?_
  rw [List.map_append] at hs
  exact hs

set_option maxRecDepth 100000 in
set_option maxHeartbeats 8000000 in
theorem spec_l31Sum_ok (p : Int) (pw : List (List Int)) (br : List (List (List Int))) (q : Int) (pv : List (List Int)) (bv : List (List (List Int))) (h6 : pw.length + pv.length ≤ 6) (hA : ∀ i, i < pw.length → (pw.getD i []).length = pw.length) (hB : ∀ i, i < pv.length → (pv.getD i []).length = pv.length) (hbl : br.length = pw.length) (hbl2 : bv.length = pv.length) (hC : ∀ i, i < pw.length → (br.getD i []).length + 1 + i = pw.length) (hD : ∀ i, i < pv.length → (bv.getD i []).length + 1 + i = pv.length) (hC2 : ∀ i k, i < pw.length → k < (br.getD i []).length → ((br.getD i []).getD k []).length = pw.length) (hD2 : ∀ i k, i < pv.length → k < (bv.getD i []).length → ((bv.getD i []).getD k []).length = pv.length) : ACp Try.prog 102 [ring p pw br, ring q pv bv] (ring p (sP pw pv) (sB pw.length pv.length br bv)) := by
 obtain ⟨NN, hN0⟩ : ∃ NN, pw.length + pv.length = NN := ⟨_, rfl⟩
 obtain ⟨X, hX⟩ : ∃ X, sP pw pv = X := ⟨_, rfl⟩
 obtain ⟨Y, hY⟩ : ∃ Y, sB pw.length pv.length br bv = Y := ⟨_, rfl⟩
 have hs : Shp NN X Y := by rw [← hN0, ← hX, ← hY]; exact sum_shp rfl rfl hC hD
 have hXl := hs.x
 have hYl := hs.y
 rw [hX, hY]
 refine ACp.introV envOk Try.func102 rfl (by kernel_rfl) Try.ntmps102 Try.results102 ((nr_ring _ _ _)) (fun nx => ?_)
 refine AW.sr envOk (fun N hN => ?_)
 simp -dsimp -implicitDefEqProofs (disch := omega) only [go_sem, reduceAdd, reduceSub, reduceGT, reduceEqDiff, reduceMul, ring, w64]
 refine hN _ ?_
 try clear hN N
 refine AW.freezeQ 2 nx _ rfl ((upd_ne _ _ (by omega)).trans ((upd_ne _ _ (by omega)).trans (upd_same _ _ _))) ?_
 refine AW.freezeQ 3 (nx + 1) _ rfl ((upd_ne _ _ (by omega)).trans ((upd_ne _ _ (by omega)).trans (upd_same _ _ _))) ?_
 simp -dsimp -implicitDefEqProofs (disch := omega) only [go_sem, reduceAdd, reduceSub, reduceGT, reduceEqDiff, reduceMul]
 refine AW.seq (fun N hN => ?_)
 refine AW.drawL envOk (by kernel_rfl) 8 (by kernel_rfl) ?_
 simp -dsimp -implicitDefEqProofs (disch := omega) only [hr_nil, hr_one, hr_if, List.take_succ_cons, List.take_zero, List.drop_succ_cons, List.drop_zero, List.take_nil, List.drop_nil, go_sem, reduceAdd, reduceSub, reduceGT, reduceEqDiff, reduceMul, ring, w64, rows]
 refine hN _ ?_
 try clear hN N
 refine AW.sr envOk (fun N hN => ?_)
 simp -dsimp -implicitDefEqProofs (disch := omega) only [go_sem, reduceAdd, reduceSub, reduceGT, reduceEqDiff, reduceMul, ring, w64]
 refine hN _ ?_
 try clear hN N
 refine AW.seq (fun N1 hN1 => ?_)
 refine AW.nameH (fun G0 hG0 => ?_)
 dsimp only at hG0
 have hQ0 : SqG p X Y (nx + 2) (nx + 16) (nx + 18) 0 0 (nx + 13) (nx + 14) G0 := by
  refine ⟨by omega, ?_, ?_, ?_, ?_, by omega, by omega, by omega⟩
  ·rw [← hG0]; simp (disch := omega) only [upd_same, upd_ne]
  ·rw [← hG0]; simp (disch := omega) only [upd_same, upd_ne]
  ·rw [← hG0]; simp (disch := omega) only [upd_same, upd_ne]; rfl
  ·rw [← hG0]; simp (disch := omega) only [upd_same, upd_ne]; rfl
 simp -dsimp -implicitDefEqProofs (disch := omega) only [go_sem, reduceAdd, reduceSub, reduceGT, reduceEqDiff, reduceMul]
 refine AW.sr envOk (fun N hN => ?_)
 simp -dsimp -implicitDefEqProofs (disch := omega) only [go_sem, reduceAdd, reduceSub, reduceGT, reduceEqDiff, reduceMul, ring, w64]
 refine hN _ ?_
 try clear hN N
 refine AW.block ?_
 refine AW.loopN (α := Nat × Nat × Nat × HP) (fun x => sl 132 [(2, ringP p pw br), (3, ringP q pv bv), (4, .q (nx + 2) 0), (5, .i .i64 pw.length), (6, .i .i64 pv.length), (7, .q (nx + 16) 0), (8, .i .i64 x.1)]) (fun x => x.2.2.2) (fun x m => x.1 ≤ pw.length ∧ SqG p X Y (nx + 2) (nx + 16) m x.1 x.1 x.2.1 x.2.2.1 x.2.2.2) (fun x => pw.length - x.1) ((0, nx + 13, nx + 14, G0)) ?_ ?_ (fun _ _ h => h) ?_
 ·exact ⟨by simp, hQ0.mm (by first| omega| (simp only; omega)| (dsimp only; omega))⟩
 ·simp (disch := omega) [wks, wkA, sl, rows, cubes, ringP, ints]
 ·skip
  rintro ⟨i, P, B, G⟩ m1 ⟨hi, hQ⟩
  dsimp only at hi hQ
  obtain ⟨hm, hc, ho, hgP, hgB, hlP, hlB, hne⟩ := id hQ
  simp -dsimp -implicitDefEqProofs (disch := omega) only [go_sem, reduceAdd, reduceSub, reduceGT, reduceEqDiff, reduceMul]
  refine AW.seq (fun N2 hN2 => ?_)
  refine AW.sr envOk (fun N hN => ?_)
  simp -dsimp -implicitDefEqProofs (disch := omega) only [go_sem, reduceAdd, reduceSub, reduceGT, reduceEqDiff, reduceMul, ring, w64]
  refine hN _ ?_
  try clear hN N
  refine AW.cond rfl (fun h1 => ?_) (fun h1 => ?_)
  ·try simp only [cn] at h1
   have hpl := hA i (by omega)
   have himg := (spec_l31Place_ok (pw.getD i []) 0 pv.length (by omega)).pure
   rw [← sP_1 (B := pv) (show i < pw.length by omega), hX] at himg
   have hYi : Y.getD i [] = sR1 pw.length pv.length (br.getD i []) := by rw [← hY]; exact sB_1 (by omega)
   have hYr := hs.r i (by omega)
   have hrow := hC i (by omega)
   refine AW.skip ?_
   simp only [thn, blk]
   refine hN2 _ ?_
   try clear hN2 N2
   refine AW.seq (fun N3 hN3 => ?_)
   refine AW.block ?_
   refine AW.seq (fun N hN => ?_)
   refine AW.drawL2 envOk (by kernel_rfl) 12 10 (by kernel_rfl) _ _ rfl ?_
   simp -dsimp -implicitDefEqProofs (disch := omega) only [hr_nil, hr_one, hr_if, List.take_succ_cons, List.take_zero, List.drop_succ_cons, List.drop_zero, List.take_nil, List.drop_nil, go_sem, reduceAdd, reduceSub, reduceGT, reduceEqDiff, reduceMul, ring, w64, ringP, rows, gd_r, one_ints2, List.length_map, List.length_take, ho, hgP]
   refine ⟨_, .of (himg ), ?_⟩
   try simp -dsimp -implicitDefEqProofs (disch := omega) only [go_sem, reduceAdd, reduceSub, reduceGT, reduceEqDiff, reduceMul, ring, w64]
   try simp -dsimp -implicitDefEqProofs (disch := omega) only [go_sem, reduceAdd, reduceSub, reduceGT, reduceEqDiff, reduceMul, ho, hgP, one_ints2, List.length_map, List.length_take, hXl]
   refine hN _ ?_
   try clear hN N
   refine AW.nameH (fun G1 hG1 => ?_)
   dsimp only at hG1
   have hQ1 : SqG p X Y (nx + 2) (nx + 16) (m1 + 16) (i + 1) i (m1 + 3 + 10) B G1 := by
    refine hQ.pn (by omega) (fun j q1 q2 q3 => ?_) ?_ ?_ (by omega) (by omega)
    ·rw [← hG1]; simp (disch := omega) only [upd_ne]
    ·rw [← hG1]; simp (disch := omega) only [upd_same, upd_ne]
    ·rw [← hG1]; simp (disch := omega) only [upd_same, upd_ne]
   simp -dsimp -implicitDefEqProofs (disch := omega) only [go_sem, reduceAdd, reduceSub, reduceGT, reduceEqDiff, reduceMul]
   refine AW.sr envOk (fun N hN => ?_)
   simp -dsimp -implicitDefEqProofs (disch := omega) only [go_sem, reduceAdd, reduceSub, reduceGT, reduceEqDiff, reduceMul, ring, w64]
   refine hN _ ?_
   try clear hN N
   refine AW.seq (fun N4 hN4 => ?_)
   refine AW.sr envOk (fun N hN => ?_)
   simp -dsimp -implicitDefEqProofs (disch := omega) only [go_sem, reduceAdd, reduceSub, reduceGT, reduceEqDiff, reduceMul, ring, w64]
   refine hN _ ?_
   try clear hN N
   refine AW.block ?_
   refine AW.loopN (α := Nat × Nat × HP) (fun x => sl 132 [(2, ringP p pw br), (3, ringP q pv bv), (4, .q (nx + 2) 0), (5, .i .i64 pw.length), (6, .i .i64 pv.length), (7, .q (nx + 16) 0), (8, .i .i64 i), (9, .h x.2.1 0 x.1), (10, .i .i64 (i + 1 + x.1 : Nat))]) (fun x => x.2.2) (fun x m => x.1 ≤ NN - 1 - i ∧ (∀ j, j < m1 + 16 → x.2.2 j = G1 j) ∧ x.2.2 x.2.1 = some (((Y.getD i []).take x.1).map ints) ∧ m1 + 16 ≤ x.2.1 ∧ x.2.1 < m) (fun x => NN - x.1) ((0, m1 + 16, upd G1 (m1 + 16) (some []))) ?_ ?_ (fun _ _ h => h) ?_
   ·exact ⟨by simp, fun j hj => upd_ne _ _ (by omega), upd_same _ _ _, by first| omega| (simp only; omega)| (dsimp only; omega), by first| omega| (simp only; omega)| (dsimp only; omega)⟩
   ·simp (disch := omega) [wks, wkA, sl, rows, cubes, ringP, ints]
   ·skip
    rintro ⟨k, R, G2⟩ m2 ⟨hk, hG2, hR, hR1, hR2⟩
    dsimp only at hk hG2 hR hR1 hR2
    simp -dsimp -implicitDefEqProofs (disch := omega) only [go_sem, reduceAdd, reduceSub, reduceGT, reduceEqDiff, reduceMul]
    refine AW.seq (fun N5 hN5 => ?_)
    refine AW.sr envOk (fun N hN => ?_)
    simp -dsimp -implicitDefEqProofs (disch := omega) only [go_sem, reduceAdd, reduceSub, reduceGT, reduceEqDiff, reduceMul, ring, w64]
    refine hN _ ?_
    try clear hN N
    refine AW.cond rfl (fun h2 => ?_) (fun h2 => ?_)
    ·try simp only [cn] at h2
     refine AW.skip ?_
     simp only [thn, blk]
     refine hN5 _ ?_
     try clear hN5 N5
     refine AW.seq (fun N6 hN6 => ?_)
     refine AW.block ?_
     refine AW.sr envOk (fun N hN => ?_)
     simp -dsimp -implicitDefEqProofs (disch := omega) only [go_sem, reduceAdd, reduceSub, reduceGT, reduceEqDiff, reduceMul, ring, w64]
     refine hN _ ?_
     try clear hN N
     refine AW.cond rfl (fun h3 => ?_) (fun h3 => ?_)
     ·try simp only [cn] at h3
      have hkb : k < (br.getD i []).length := by omega
      have hbe := hC2 i k (by omega) hkb
      have himg2 := (spec_l31Place_ok ((br.getD i []).getD k []) 0 pv.length (by omega)).pure
      rw [← sR1_get (n := pw.length) hkb, ← hYi] at himg2
      obtain ⟨R', hR'⟩ : ∃ R', m2 + 5 + 3 + 15 = R' := ⟨_, rfl⟩
      refine AW.regionL envOk ?_
      simp -dsimp -implicitDefEqProofs (disch := omega) only [go_sem, reduceAdd, reduceSub, reduceGT, reduceEqDiff, reduceMul, ring, w64, ringP, rows, cubes, gd_r, gd_c, one_ints2, tn4, List.length_map, List.length_take, hR]
      refine AC.pure (.of (himg2 )) ?_
      try simp -dsimp -implicitDefEqProofs (disch := omega) only [go_sem, reduceAdd, reduceSub, reduceGT, reduceEqDiff, reduceMul, ring, w64]
      try simp -dsimp -implicitDefEqProofs (disch := omega) only [go_sem, reduceAdd, reduceSub, reduceGT, reduceEqDiff, reduceMul, hR, one_ints2, List.length_map, List.length_take, hYr]
      refine hN6 _ ?_
      try clear hN6 N6
      first| refine AW.fzrow (m2 + 5 + 3 + 6) (m2 + 5 + 3 + 4) _ ((Y.getD i []).take k) (zrow NN) (upd_same _ _ _) (hxx _) (hup _ _ _ _) hds hnn hij ?_| skip
      refine AW.nameH (fun G3 hG3 => ?_)
      dsimp only at hG3
      have hR3 : G3 R' = some (((Y.getD i []).take (k + 1)).map ints) := by
       rw [← hG3, take_sn (d := []) (show k < (Y.getD i []).length by omega), List.map_append, ← hR']
       first| (simp (disch := omega) only [upd_same, upd_ne]; done)| (simp (disch := omega) only [upd_same, upd_ne]; rfl)| (rw [hzr]; simp (disch := omega) only [upd_same, upd_ne, List.map_append]; done)
      have hk3 : ∀ j, j < m1 + 16 → G3 j = G1 j := fun j hj => by rw [← hG3]; simp (disch := omega) only [upd_ne]; exact hG2 j hj
      simp -dsimp -implicitDefEqProofs (disch := omega) only [go_sem, reduceAdd, reduceSub, reduceGT, reduceEqDiff, reduceMul]
      refine AW.regionL envOk ?_
      simp -dsimp -implicitDefEqProofs (disch := omega) only [go_sem, reduceAdd, reduceSub, reduceGT, reduceEqDiff, reduceMul, ring, w64]
      refine ⟨(k + 1, R', G3), ?_, fun _ _ h => h, ?_, ?_⟩
      ·simp (disch := omega) [wks, wkA, sl, rows, cubes, ringP, ints, w64, hR'] <;> omega
      ·exact ⟨by first| omega| (simp only; omega)| (dsimp only; omega), hk3, hR3, by first| omega| (simp only; omega)| (dsimp only; omega), by first| omega| (simp only; omega)| (dsimp only; omega)⟩
      ·first | omega | (simp only; omega)
     ·try simp only [cn] at h3
      obtain ⟨R', hR'⟩ : ∃ R', m2 + 5 + 3 + 6 = R' := ⟨_, rfl⟩
      have hzr : (Y.getD i []).getD k [] = zrow NN := by rw [hYi, sR1_get2 (by omega) (by omega), hN0]
      have hxx : ∀ n, ((Y.getD i []).take k).map ints ++ [AV.h (m2 + 5 + 3 + 4) 0 n] = ((Y.getD i []).take k).map ints ++ [AV.h (m2 + 5 + 3 + 4) 0 n] := fun n => rfl
      have hup : ∀ (H : HP) (ds A C : Option (List AV)), upd (upd (upd (upd H (m2 + 5 + 3 + 4) ds) (m2 + 5 + 3 + 5) A) R none) (m2 + 5 + 3 + 6) C (m2 + 5 + 3 + 4) = ds := fun H ds A C => by rw [upd_ne _ _ (by omega), upd_ne _ _ (by omega), upd_ne _ _ (by omega), upd_same]
      have hds : List.replicate (pw.length + pv.length) (AV.i .i64 0) = (zrow NN).map (AV.i .i64) := by rw [hN0, zr_ints]
      have hnn : pw.length + pv.length = (zrow NN).length := by rw [zrow_len, hN0]
      have hij : m2 + 5 + 3 + 6 ≠ m2 + 5 + 3 + 4 := by omega
      refine AW.regionL envOk ?_
      simp -dsimp -implicitDefEqProofs (disch := omega) only [go_sem, reduceAdd, reduceSub, reduceGT, reduceEqDiff, reduceMul, ring, w64, one_h, List.length_map, List.length_take, hR, hYr, w64]
      refine hN6 _ ?_
      try clear hN6 N6
      first| refine AW.fzrow (m2 + 5 + 3 + 6) (m2 + 5 + 3 + 4) _ ((Y.getD i []).take k) (zrow NN) (upd_same _ _ _) (hxx _) (hup _ _ _ _) hds hnn hij ?_| skip
      refine AW.nameH (fun G3 hG3 => ?_)
      dsimp only at hG3
      have hR3 : G3 R' = some (((Y.getD i []).take (k + 1)).map ints) := by
       rw [← hG3, take_sn (d := []) (show k < (Y.getD i []).length by omega), List.map_append, ← hR']
       first| (simp (disch := omega) only [upd_same, upd_ne]; done)| (simp (disch := omega) only [upd_same, upd_ne]; rfl)| (rw [hzr]; simp (disch := omega) only [upd_same, upd_ne, List.map_append]; done)
      have hk3 : ∀ j, j < m1 + 16 → G3 j = G1 j := fun j hj => by rw [← hG3]; simp (disch := omega) only [upd_ne]; exact hG2 j hj
      simp -dsimp -implicitDefEqProofs (disch := omega) only [go_sem, reduceAdd, reduceSub, reduceGT, reduceEqDiff, reduceMul]
      refine AW.regionL envOk ?_
      simp -dsimp -implicitDefEqProofs (disch := omega) only [go_sem, reduceAdd, reduceSub, reduceGT, reduceEqDiff, reduceMul, ring, w64]
      refine ⟨(k + 1, R', G3), ?_, fun _ _ h => h, ?_, ?_⟩
      ·simp (disch := omega) [wks, wkA, sl, rows, cubes, ringP, ints, w64, hR'] <;> omega
      ·exact ⟨by first| omega| (simp only; omega)| (dsimp only; omega), hk3, hR3, by first| omega| (simp only; omega)| (dsimp only; omega), by first| omega| (simp only; omega)| (dsimp only; omega)⟩
      ·first | omega | (simp only; omega)
    ·try simp only [cn] at h2
     refine AW.exit ?_
     simp only [thn, blk, if_true]
     refine hN4 _ ?_
     try clear hN4 N4
     refine AW.freeze 9 R k (((Y.getD i []).take k).map ints) rfl hR (by rw [List.length_map, List.length_take]; omega) ?_
     have hO2 := (hG2 (nx + 16) (by omega)).trans hQ1.go
     have hB2 := (hG2 B (by omega)).trans hQ1.gB
     simp -dsimp -implicitDefEqProofs (disch := omega) only [go_sem, reduceAdd, reduceSub, reduceGT, reduceEqDiff, reduceMul]
     refine AW.regionL envOk ?_
     simp -dsimp -implicitDefEqProofs (disch := omega) only [go_sem, reduceAdd, reduceSub, reduceGT, reduceEqDiff, reduceMul, ring, w64, hO2, hB2, one_v2, List.length_map, List.length_take, hYl]
     refine hN3 _ ?_
     try clear hN3 N3
     refine AW.nameH (fun G4 hG4 => ?_)
     dsimp only at hG4
     have hkk : k = (Y.getD i []).length := by omega
     have e : rows (Y.getD i []) = AV.v k (List.map ints (List.take k (Y.getD i []))) := by rw [hkk, List.take_length]; rfl
     have hQ4 : SqG p X Y (nx + 2) (nx + 16) (m2 + 5 + 7) (i + 1) (i + 1) (m1 + 3 + 10) (m2 + 5 + 4) G4 := by
      refine hQ1.bn (by omega) (fun j q1 q2 q3 => ?_) ?_ ?_ (by omega) (by omega)
      ·rw [← hG4]; simp (disch := omega) only [upd_ne]; exact hG2 j q1
      ·rw [← hG4, e]; simp (disch := omega) only [upd_same, upd_ne]
      ·rw [← hG4]; simp (disch := omega) only [upd_same, upd_ne]
     simp -dsimp -implicitDefEqProofs (disch := omega) only [go_sem, reduceAdd, reduceSub, reduceGT, reduceEqDiff, reduceMul]
     refine AW.regionL envOk ?_
     simp -dsimp -implicitDefEqProofs (disch := omega) only [go_sem, reduceAdd, reduceSub, reduceGT, reduceEqDiff, reduceMul, ring, w64]
     refine ⟨(i + 1, m1 + 3 + 10, m2 + 5 + 4, G4), ?_, fun _ _ h => h, ?_, ?_⟩
     ·simp (disch := omega) [wks, wkA, sl, rows, cubes, ringP, ints, w64] <;> omega
     ·exact ⟨by first| omega| (simp only; omega)| (dsimp only; omega), hQ4.mm (by first| omega| (simp only; omega)| (dsimp only; omega))⟩
     ·first | omega | (simp only; omega)
  ·try simp only [cn] at h1
   have hin : i = pw.length := by omega
   subst hin
   refine AW.exit ?_
   simp only [thn, blk, if_true]
   refine hN1 _ ?_
   try clear hN1 N1
   refine AW.seq (fun N7 hN7 => ?_)
   refine AW.sr envOk (fun N hN => ?_)
   simp -dsimp -implicitDefEqProofs (disch := omega) only [go_sem, reduceAdd, reduceSub, reduceGT, reduceEqDiff, reduceMul, ring, w64]
   refine hN _ ?_
   try clear hN N
   refine AW.block ?_
   refine AW.loopN (α := Nat × Nat × Nat × HP) (fun x => sl 132 [(3, ringP q pv bv), (4, .q (nx + 2) 0), (5, .i .i64 pw.length), (6, .i .i64 pv.length), (7, .q (nx + 16) 0), (11, .i .i64 x.1)]) (fun x => x.2.2.2) (fun x m => x.1 ≤ pv.length ∧ SqG p X Y (nx + 2) (nx + 16) m (pw.length + x.1) (pw.length + x.1) x.2.1 x.2.2.1 x.2.2.2) (fun x => pv.length - x.1) ((0, P, B, G)) ?_ ?_ (fun _ _ h => h) ?_
   ·exact ⟨by simp, hQ.mm (by first| omega| (simp only; omega)| (dsimp only; omega))⟩
   ·simp (disch := omega) [wks, wkA, sl, rows, cubes, ringP, ints]
   ·skip
    rintro ⟨l, P3, B3, K⟩ m3 ⟨hl, hS⟩
    dsimp only at hl hS
    obtain ⟨tm, tc, to', tP, tB, tlP, tlB, tne⟩ := id hS
    simp -dsimp -implicitDefEqProofs (disch := omega) only [go_sem, reduceAdd, reduceSub, reduceGT, reduceEqDiff, reduceMul]
    refine AW.seq (fun N8 hN8 => ?_)
    refine AW.sr envOk (fun N hN => ?_)
    simp -dsimp -implicitDefEqProofs (disch := omega) only [go_sem, reduceAdd, reduceSub, reduceGT, reduceEqDiff, reduceMul, ring, w64]
    refine hN _ ?_
    try clear hN N
    refine AW.cond rfl (fun h4 => ?_) (fun h4 => ?_)
    ·try simp only [cn] at h4
     have hpl := hB l (by omega)
     have himg := (spec_l31Place_ok (pv.getD l []) pw.length 0 (by omega)).pure
     rw [← sP_2 (A := pw) (show l < pv.length by omega), hX] at himg
     have hYi : Y.getD (pw.length + l) [] = sR2 pw.length (bv.getD l []) := by rw [← hY]; exact sB_2 (by omega)
     have hYr := hs.r (pw.length + l) (by omega)
     have hrow := hD l (by omega)
     refine AW.skip ?_
     simp only [thn, blk]
     refine hN8 _ ?_
     try clear hN8 N8
     refine AW.seq (fun N9 hN9 => ?_)
     refine AW.block ?_
     refine AW.seq (fun N hN => ?_)
     refine AW.drawL2 envOk (by kernel_rfl) 12 10 (by kernel_rfl) _ _ rfl ?_
     simp -dsimp -implicitDefEqProofs (disch := omega) only [hr_nil, hr_one, hr_if, List.take_succ_cons, List.take_zero, List.drop_succ_cons, List.drop_zero, List.take_nil, List.drop_nil, go_sem, reduceAdd, reduceSub, reduceGT, reduceEqDiff, reduceMul, ring, w64, ringP, rows, gd_r, one_ints2, List.length_map, List.length_take, to', tP]
     refine ⟨_, .of (himg ), ?_⟩
     try simp -dsimp -implicitDefEqProofs (disch := omega) only [go_sem, reduceAdd, reduceSub, reduceGT, reduceEqDiff, reduceMul, ring, w64]
     try simp -dsimp -implicitDefEqProofs (disch := omega) only [go_sem, reduceAdd, reduceSub, reduceGT, reduceEqDiff, reduceMul, to', tP, one_ints2, List.length_map, List.length_take, hXl]
     refine hN _ ?_
     try clear hN N
     refine AW.nameH (fun G1 hG1 => ?_)
     dsimp only at hG1
     have hQ1 : SqG p X Y (nx + 2) (nx + 16) (m3 + 16) (pw.length + l + 1) (pw.length + l) (m3 + 3 + 10) B3 G1 := by
      refine hS.pn (by omega) (fun j q1 q2 q3 => ?_) ?_ ?_ (by omega) (by omega)
      ·rw [← hG1]; simp (disch := omega) only [upd_ne]
      ·rw [← hG1]; simp (disch := omega) only [upd_same, upd_ne]
      ·rw [← hG1]; simp (disch := omega) only [upd_same, upd_ne]
     simp -dsimp -implicitDefEqProofs (disch := omega) only [go_sem, reduceAdd, reduceSub, reduceGT, reduceEqDiff, reduceMul]
     refine AW.sr envOk (fun N hN => ?_)
     simp -dsimp -implicitDefEqProofs (disch := omega) only [go_sem, reduceAdd, reduceSub, reduceGT, reduceEqDiff, reduceMul, ring, w64]
     refine hN _ ?_
     try clear hN N
     refine AW.seq (fun N10 hN10 => ?_)
     refine AW.sr envOk (fun N hN => ?_)
     simp -dsimp -implicitDefEqProofs (disch := omega) only [go_sem, reduceAdd, reduceSub, reduceGT, reduceEqDiff, reduceMul, ring, w64]
     refine hN _ ?_
     try clear hN N
     refine AW.block ?_
     refine AW.loopN (α := Nat × Nat × HP) (fun x => sl 132 [(3, ringP q pv bv), (4, .q (nx + 2) 0), (5, .i .i64 pw.length), (6, .i .i64 pv.length), (7, .q (nx + 16) 0), (11, .i .i64 l), (12, .h x.2.1 0 x.1), (13, .i .i64 (l + 1 + x.1 : Nat))]) (fun x => x.2.2) (fun x m => x.1 ≤ pv.length - 1 - l ∧ (∀ j, j < m3 + 16 → x.2.2 j = G1 j) ∧ x.2.2 x.2.1 = some (((Y.getD (pw.length + l) []).take x.1).map ints) ∧ m3 + 16 ≤ x.2.1 ∧ x.2.1 < m) (fun x => NN - x.1) ((0, m3 + 16, upd G1 (m3 + 16) (some []))) ?_ ?_ (fun _ _ h => h) ?_
     ·exact ⟨by simp, fun j hj => upd_ne _ _ (by omega), upd_same _ _ _, by first| omega| (simp only; omega)| (dsimp only; omega), by first| omega| (simp only; omega)| (dsimp only; omega)⟩
     ·simp (disch := omega) [wks, wkA, sl, rows, cubes, ringP, ints]
     ·skip
      rintro ⟨k, R, G2⟩ m4 ⟨hk, hG2, hR, hR1, hR2⟩
      dsimp only at hk hG2 hR hR1 hR2
      simp -dsimp -implicitDefEqProofs (disch := omega) only [go_sem, reduceAdd, reduceSub, reduceGT, reduceEqDiff, reduceMul]
      refine AW.seq (fun N11 hN11 => ?_)
      refine AW.sr envOk (fun N hN => ?_)
      simp -dsimp -implicitDefEqProofs (disch := omega) only [go_sem, reduceAdd, reduceSub, reduceGT, reduceEqDiff, reduceMul, ring, w64]
      refine hN _ ?_
      try clear hN N
      refine AW.cond rfl (fun h5 => ?_) (fun h5 => ?_)
      ·try simp only [cn] at h5
       have hkb : k < (bv.getD l []).length := by omega
       have hbe := hD2 l k (by omega) hkb
       have himg2 := (spec_l31Place_ok ((bv.getD l []).getD k []) pw.length 0 (by omega)).pure
       rw [← sR2_get (n := pw.length) hkb, ← hYi] at himg2
       refine AW.skip ?_
       simp only [thn, blk]
       refine hN11 _ ?_
       try clear hN11 N11
       refine AW.seq (fun N12 hN12 => ?_)
       refine AW.block ?_
       refine AW.regionL envOk ?_
       simp -dsimp -implicitDefEqProofs (disch := omega) only [go_sem, reduceAdd, reduceSub, reduceGT, reduceEqDiff, reduceMul, ring, w64, ringP, rows, cubes, gd_r, gd_c, one_ints2, tn4, List.length_map, List.length_take, hR]
       refine AC.pure (.of (himg2 )) ?_
       try simp -dsimp -implicitDefEqProofs (disch := omega) only [go_sem, reduceAdd, reduceSub, reduceGT, reduceEqDiff, reduceMul, ring, w64]
       try simp -dsimp -implicitDefEqProofs (disch := omega) only [go_sem, reduceAdd, reduceSub, reduceGT, reduceEqDiff, reduceMul, hR, one_ints2, List.length_map, List.length_take, hYr]
       refine hN12 _ ?_
       try clear hN12 N12
       refine AW.nameH (fun G3 hG3 => ?_)
       dsimp only at hG3
       have hR3 : G3 (m4 + 3 + 15) = some (((Y.getD (pw.length + l) []).take (k + 1)).map ints) := by
        rw [← hG3, take_sn (d := []) (show k < (Y.getD (pw.length + l) []).length by omega), List.map_append]; simp (disch := omega) only [upd_same, upd_ne]
        try rfl
       have hk3 : ∀ j, j < m3 + 16 → G3 j = G1 j := fun j hj => by rw [← hG3]; simp (disch := omega) only [upd_ne]; exact hG2 j hj
       simp -dsimp -implicitDefEqProofs (disch := omega) only [go_sem, reduceAdd, reduceSub, reduceGT, reduceEqDiff, reduceMul]
       refine AW.regionL envOk ?_
       simp -dsimp -implicitDefEqProofs (disch := omega) only [go_sem, reduceAdd, reduceSub, reduceGT, reduceEqDiff, reduceMul, ring, w64]
       refine ⟨(k + 1, m4 + 3 + 15, G3), ?_, fun _ _ h => h, ?_, ?_⟩
       ·simp (disch := omega) [wks, wkA, sl, rows, cubes, ringP, ints, w64] <;> omega
       ·exact ⟨by first| omega| (simp only; omega)| (dsimp only; omega), hk3, hR3, by first| omega| (simp only; omega)| (dsimp only; omega), by first| omega| (simp only; omega)| (dsimp only; omega)⟩
       ·first | omega | (simp only; omega)
      ·try simp only [cn] at h5
       refine AW.exit ?_
       simp only [thn, blk, if_true]
       refine hN10 _ ?_
       try clear hN10 N10
       refine AW.freeze 12 R k (((Y.getD (pw.length + l) []).take k).map ints) rfl hR (by rw [List.length_map, List.length_take]; omega) ?_
       have hO2 := (hG2 (nx + 16) (by omega)).trans hQ1.go
       have hB2 := (hG2 B3 (by omega)).trans hQ1.gB
       simp -dsimp -implicitDefEqProofs (disch := omega) only [go_sem, reduceAdd, reduceSub, reduceGT, reduceEqDiff, reduceMul]
       refine AW.regionL envOk ?_
       simp -dsimp -implicitDefEqProofs (disch := omega) only [go_sem, reduceAdd, reduceSub, reduceGT, reduceEqDiff, reduceMul, ring, w64, hO2, hB2, one_v2, List.length_map, List.length_take, hYl]
       refine hN9 _ ?_
       try clear hN9 N9
       refine AW.nameH (fun G4 hG4 => ?_)
       dsimp only at hG4
       have hkk : k = (Y.getD (pw.length + l) []).length := by omega
       have e : rows (Y.getD (pw.length + l) []) = AV.v k (List.map ints (List.take k (Y.getD (pw.length + l) []))) := by rw [hkk, List.take_length]; rfl
       have hQ4 : SqG p X Y (nx + 2) (nx + 16) (m4 + 3 + 7) (pw.length + l + 1) (pw.length + l + 1) (m3 + 3 + 10) (m4 + 3 + 4) G4 := by
        refine hQ1.bn (by omega) (fun j q1 q2 q3 => ?_) ?_ ?_ (by omega) (by omega)
        ·rw [← hG4]; simp (disch := omega) only [upd_ne]; exact hG2 j q1
        ·rw [← hG4, e]; simp (disch := omega) only [upd_same, upd_ne]
        ·rw [← hG4]; simp (disch := omega) only [upd_same, upd_ne]
       simp -dsimp -implicitDefEqProofs (disch := omega) only [go_sem, reduceAdd, reduceSub, reduceGT, reduceEqDiff, reduceMul]
       refine AW.regionL envOk ?_
       simp -dsimp -implicitDefEqProofs (disch := omega) only [go_sem, reduceAdd, reduceSub, reduceGT, reduceEqDiff, reduceMul, ring, w64]
       refine ⟨(l + 1, m3 + 3 + 10, m4 + 3 + 4, G4), ?_, fun _ _ h => h, ?_, ?_⟩
       ·simp (disch := omega) [wks, wkA, sl, rows, cubes, ringP, ints, w64] <;> omega
       ·exact ⟨by first| omega| (simp only; omega)| (dsimp only; omega), hQ4.mm (by first| omega| (simp only; omega)| (dsimp only; omega))⟩
       ·first | omega | (simp only; omega)
    ·try simp only [cn] at h4
     refine AW.exit ?_
     simp only [thn, blk, if_true]
     refine hN7 _ ?_
     try clear hN7 N7
     refine AW.sr envOk (fun N hN => ?_)
     simp -dsimp -implicitDefEqProofs (disch := omega) only [go_sem, reduceAdd, reduceSub, reduceGT, reduceEqDiff, reduceMul, ring, w64, to', tc]
     refine hN _ ?_
     try clear hN N
     refine AW.ret ?_
     simp -dsimp -implicitDefEqProofs (disch := omega) only [go_sem, reduceAdd, reduceSub, reduceGT, reduceEqDiff, reduceMul]
     have hll : pw.length + l = NN := by omega
     rw [hll, List.take_of_length_le (by omega)] at tP
     rw [hll, List.take_of_length_le (by omega)] at tB
     exact vw_ring (Vw.rws (by omega) ((upd_ne _ _ (by omega)).trans tP)) (Vw.cb (by omega) ((upd_ne _ _ (by omega)).trans tB))

end Go.Proofs.Ytbhlindlcfeppaa

