/-
  The law FnExactSumRings: it answers true, whatever it is given.
-/
import Derived.Test.YtbhlindlcfeppaaVd
import Derived.Test.YtbhlindlcfeppaaUd
set_option linter.unusedVariables false
set_option linter.unusedSimpArgs false
namespace Go.Proofs.Ytbhlindlcfeppaa
open Nat (reduceAdd reduceSub reduceGT reduceEqDiff reduceMul)

theorem spec_SumRings_ok (p : Int) (pw : List (List Int)) (br : List (List (List Int))) (hl : ringlen pw br) (q : Int) (pv : List (List Int)) (bv : List (List (List Int))) (hl2 : ringlen pv bv) : ACp Try.prog 47 [ring p pw br, ring q pv bv] (resG (sumM p pw pv br bv (tf (LieR p pw br ∧ LieR q pv bv)) (tf (p = q)) (tf (pw.length + pv.length ≤ 6 ∧ p ^ (pw.length + pv.length) ≤ 729)))) := by
 have hln := hl.n
 have hln2 := hl2.n
 obtain ⟨b1, hb1⟩ : ∃ b, tf (LieR p pw br ∧ LieR q pv bv) = b := ⟨_, rfl⟩
 obtain ⟨b2, hb2⟩ : ∃ b, tf (p = q) = b := ⟨_, rfl⟩
 obtain ⟨b3, hb3⟩ : ∃ b, tf (pw.length + pv.length ≤ 6 ∧ p ^ (pw.length + pv.length) ≤ 729) = b := ⟨_, rfl⟩
 rw [hb1, hb2, hb3]
 refine ACp.introR envOk Try.func47 rfl (by kernel_rfl) Try.ntmps47 Try.results47 (resG_nr _) (fun nx => ?_)
 refine AW.sr envOk (fun N hN => ?_)
 simp -dsimp -implicitDefEqProofs (disch := omega) only [go_sem, reduceAdd, reduceSub, reduceGT, reduceEqDiff, reduceMul, ring, w64]
 refine hN _ ?_
 try clear hN N
 refine AW.seq (fun N1 hN1 => ?_)
 refine AW.freezeQ 2 nx _ rfl ((upd_ne _ _ (by omega)).trans ((upd_ne _ _ (by omega)).trans (upd_same _ _ _))) ?_
 refine AW.freezeQ 3 (nx + 1) _ rfl ((upd_ne _ _ (by omega)).trans ((upd_ne _ _ (by omega)).trans (upd_same _ _ _))) ?_
 simp -dsimp -implicitDefEqProofs (disch := omega) only [go_sem, reduceAdd, reduceSub, reduceGT, reduceEqDiff, reduceMul]
 refine AW.sr envOk (fun N hN => ?_)
 simp -dsimp -implicitDefEqProofs (disch := omega) only [go_sem, reduceAdd, reduceSub, reduceGT, reduceEqDiff, reduceMul, ring, w64]
 refine AC.pure (.of (spec_IsLieRing_ok p pw br hl)) ?_
 try simp -dsimp -implicitDefEqProofs (disch := omega) only [go_sem, reduceAdd, reduceSub, reduceGT, reduceEqDiff, reduceMul, ring, w64]
 refine gopB.mk' (fun h1 => ?_) (fun h1 => ?_)
 ·try simp only [cn] at h1
  try simp -dsimp -implicitDefEqProofs (disch := omega) only [go_sem, reduceAdd, reduceSub, reduceGT, reduceEqDiff, reduceMul, ring, w64]
  refine AC.pure (.of (spec_IsLieRing_ok q pv bv hl2)) ?_
  try simp -dsimp -implicitDefEqProofs (disch := omega) only [go_sem, reduceAdd, reduceSub, reduceGT, reduceEqDiff, reduceMul, ring, w64]
  refine hN _ ?_
  try clear hN N
  refine AW.cond rfl (fun h2 => ?_) (fun h2 => ?_)
  ·try simp only [cn] at h2
   refine AW.sr envOk (fun N hN => ?_)
   simp -dsimp -implicitDefEqProofs (disch := omega) only [go_sem, reduceAdd, reduceSub, reduceGT, reduceEqDiff, reduceMul, ring, w64]
   refine hN _ ?_
   try clear hN N
   refine AW.ret ?_
   simp -dsimp -implicitDefEqProofs (disch := omega) only [go_sem, reduceAdd, reduceSub, reduceGT, reduceEqDiff, reduceMul]
   rw [show b1 = false from hb1.symm.trans (tf_f (fun h => h2 h.2))]
   exact rd_nilG
  ·try simp only [cn] at h2
   have hn6 := h1.1.tri.n6
   have hn62 := h2.1.tri.n6
   have e1 : b1 = true := hb1.symm.trans (tf_t ⟨h1, h2⟩)
   refine AW.skip ?_
   simp only [thn, blk]
   refine hN1 _ ?_
   try clear hN1 N1
   refine AW.seq (fun N2 hN2 => ?_)
   refine AW.sr envOk (fun N hN => ?_)
   simp -dsimp -implicitDefEqProofs (disch := omega) only [go_sem, reduceAdd, reduceSub, reduceGT, reduceEqDiff, reduceMul, ring, w64]
   refine hN _ ?_
   try clear hN N
   refine AW.cond rfl (fun h3 => ?_) (fun h3 => ?_)
   ·try simp only [cn] at h3
    refine AW.sr envOk (fun N hN => ?_)
    simp -dsimp -implicitDefEqProofs (disch := omega) only [go_sem, reduceAdd, reduceSub, reduceGT, reduceEqDiff, reduceMul, ring, w64]
    refine hN _ ?_
    try clear hN N
    refine AW.ret ?_
    simp -dsimp -implicitDefEqProofs (disch := omega) only [go_sem, reduceAdd, reduceSub, reduceGT, reduceEqDiff, reduceMul]
    rw [e1, show b2 = false from hb2.symm.trans (tf_f h3)]
    exact rd_nilG
   ·try simp only [cn] at h3
    have e2 : b2 = true := hb2.symm.trans (tf_t h3)
    subst h3
    have hcp := capPow_eq h1.1.1 (pw.length + pv.length)
    refine AW.skip ?_
    simp only [thn, blk]
    refine hN2 _ ?_
    try clear hN2 N2
    refine AW.sr envOk (fun N hN => ?_)
    simp -dsimp -implicitDefEqProofs (disch := omega) only [go_sem, reduceAdd, reduceSub, reduceGT, reduceEqDiff, reduceMul, ring, w64, rows]
    refine hN _ ?_
    try clear hN N
    refine AW.seq (fun N3 hN3 => ?_)
    refine AW.sr envOk (fun N hN => ?_)
    simp -dsimp -implicitDefEqProofs (disch := omega) only [go_sem, reduceAdd, reduceSub, reduceGT, reduceEqDiff, reduceMul, ring, w64]
    refine gopB.mk' (fun h4 => ?_) (fun h4 => ?_)
    ·try simp only [cn] at h4
     try simp -dsimp -implicitDefEqProofs (disch := omega) only [go_sem, reduceAdd, reduceSub, reduceGT, reduceEqDiff, reduceMul, ring, w64]
     refine AC.pure (.of (spec_l31Size_ok p (pw.length + pv.length) h1.1.1 (by omega))) ?_
     try simp -dsimp -implicitDefEqProofs (disch := omega) only [go_sem, reduceAdd, reduceSub, reduceGT, reduceEqDiff, reduceMul, ring, w64]
     refine hN _ ?_
     try clear hN N
     refine AW.cond rfl (fun h5 => ?_) (fun h5 => ?_)
     ·try simp only [cn] at h5
      refine AW.sr envOk (fun N hN => ?_)
      simp -dsimp -implicitDefEqProofs (disch := omega) only [go_sem, reduceAdd, reduceSub, reduceGT, reduceEqDiff, reduceMul, ring, w64]
      refine hN _ ?_
      try clear hN N
      refine AW.ret ?_
      simp -dsimp -implicitDefEqProofs (disch := omega) only [go_sem, reduceAdd, reduceSub, reduceGT, reduceEqDiff, reduceMul]
      rw [e1, e2, show b3 = false from hb3.symm.trans (tf_f (fun h => by omega))]
      exact rd_nilG
     ·try simp only [cn] at h5
      refine AW.skip ?_
      simp only [thn, blk]
      refine hN3 _ ?_
      try clear hN3 N3
      refine AW.sr envOk (fun N hN => ?_)
      simp -dsimp -implicitDefEqProofs (disch := omega) only [go_sem, reduceAdd, reduceSub, reduceGT, reduceEqDiff, reduceMul, ring, w64]
      refine AC.pure (.of (spec_l31Sum_ok p pw br p pv bv (by omega) (fun i hi => ((h1.1.2.2.2.2 i hi).1).el.len) (fun i hi => ((h2.1.2.2.2.2 i hi).1).el.len) h1.1.sh.bl h2.1.sh.bl h1.1.sh.rl h2.1.sh.rl (fun i k hi hk => (h1.1.sh.el i k hi hk).len) (fun i k hi hk => (h2.1.sh.el i k hi hk).len))) ?_
      try simp -dsimp -implicitDefEqProofs (disch := omega) only [go_sem, reduceAdd, reduceSub, reduceGT, reduceEqDiff, reduceMul, ring, w64]
      refine hN _ ?_
      try clear hN N
      refine AW.ret ?_
      simp -dsimp -implicitDefEqProofs (disch := omega) only [go_sem, reduceAdd, reduceSub, reduceGT, reduceEqDiff, reduceMul]
      rw [e1, e2, show b3 = true from hb3.symm.trans (tf_t ⟨by omega, by omega⟩)]
      exact .refl _
    ·try simp only [cn] at h4
     try simp -dsimp -implicitDefEqProofs (disch := omega) only [go_sem, reduceAdd, reduceSub, reduceGT, reduceEqDiff, reduceMul, ring, w64]
     refine hN _ ?_
     try clear hN N
     refine AW.condT rfl ?_
     refine AW.sr envOk (fun N hN => ?_)
     simp -dsimp -implicitDefEqProofs (disch := omega) only [go_sem, reduceAdd, reduceSub, reduceGT, reduceEqDiff, reduceMul, ring, w64]
     refine hN _ ?_
     try clear hN N
     refine AW.ret ?_
     simp -dsimp -implicitDefEqProofs (disch := omega) only [go_sem, reduceAdd, reduceSub, reduceGT, reduceEqDiff, reduceMul]
     rw [e1, e2, show b3 = false from hb3.symm.trans (tf_f (fun h => by omega))]
     exact rd_nilG
 ·try simp only [cn] at h1
  try simp -dsimp -implicitDefEqProofs (disch := omega) only [go_sem, reduceAdd, reduceSub, reduceGT, reduceEqDiff, reduceMul, ring, w64]
  refine hN _ ?_
  try clear hN N
  refine AW.condT rfl ?_
  refine AW.sr envOk (fun N hN => ?_)
  simp -dsimp -implicitDefEqProofs (disch := omega) only [go_sem, reduceAdd, reduceSub, reduceGT, reduceEqDiff, reduceMul, ring, w64]
  refine hN _ ?_
  try clear hN N
  refine AW.ret ?_
  simp -dsimp -implicitDefEqProofs (disch := omega) only [go_sem, reduceAdd, reduceSub, reduceGT, reduceEqDiff, reduceMul]
  rw [show b1 = false from hb1.symm.trans (tf_f (fun h => h1 h.1))]
  exact rd_nilG


theorem tot_le2 {xs : List (List Int)} {n : Nat} (h : ∀ x ∈ xs, x.length ≤ n) : tot xs ≤ n * xs.length := by
  induction xs with
  | nil => simp [tot]
  | cons x xs ih =>
    have h1 := h x (by simp)
    have h2 := ih (fun y hy => h y (by simp [hy]))
    simp only [tot, List.length_cons, Nat.mul_succ]; omega
/-- A small ring. -/
structure ringsml (X : List (List Int)) (Y : List (List (List Int))) : Prop where
  x : rowslen X
  t : tot X ≤ 1000000000000
  y : cubesml Y
theorem ringsml.nil : ringsml [] [] := ⟨.nil, by simp [tot], .nil⟩
theorem place_len {u v : Nat} {a : List Int} : (placeL u a v).length = u + a.length + v := placeL_len
theorem sum_sml {p q : Int} {pw pv : List (List Int)} {br bv : List (List (List Int))} (h1 : shapeP p pw br) (h2 : shapeP q pv bv) : ringsml (sP pw pv) (sB pw.length pv.length br bv) := by
  have h6 := h1.tri.n6
  have h62 := h2.tri.n6
  have e1 : ∀ x ∈ sP pw pv, x.length ≤ 12 := fun x hx => by
    unfold sP at hx
    rcases List.mem_append.1 hx with hx | hx
    · obtain ⟨v, hv, rfl⟩ := List.mem_map.1 hx
      obtain ⟨i, hi, rfl⟩ := mem_ix (d := []) hv
      have := ((h1.2.2.2.2 i hi).1).el.len
      rw [place_len]; omega
    · obtain ⟨v, hv, rfl⟩ := List.mem_map.1 hx
      obtain ⟨i, hi, rfl⟩ := mem_ix (d := []) hv
      have := ((h2.2.2.2.2 i hi).1).el.len
      rw [place_len]; omega
  have hl := sP_len (A := pw) (B := pv)
  refine ⟨⟨by omega, fun x hx => by have := e1 x hx; omega⟩, ?_, ⟨by rw [sB_len]; omega, fun x hx => ?_⟩⟩
  · have := tot_le2 e1; omega
  · unfold sB at hx
    rcases List.mem_append.1 hx with hx | hx
    · obtain ⟨i, hi, rfl⟩ := List.mem_map.1 hx
      have hi := List.mem_range.1 hi
      have hr := h1.sh.rl i hi
      refine ⟨by rw [sR1_len]; omega, fun y hy => ?_⟩
      unfold sR1 at hy
      rcases List.mem_append.1 hy with hy | hy
      · obtain ⟨v, hv, rfl⟩ := List.mem_map.1 hy
        obtain ⟨k, hk, rfl⟩ := mem_ix (d := []) hv
        have := (h1.sh.el i k hi hk).len
        rw [place_len]; omega
      · rw [(List.mem_replicate.1 hy).2, zrow_len]; omega
    · obtain ⟨i, hi, rfl⟩ := List.mem_map.1 hx
      have hi := List.mem_range.1 hi
      have hr := h2.sh.rl i hi
      refine ⟨by rw [sR2_len]; omega, fun y hy => ?_⟩
      unfold sR2 at hy
      obtain ⟨v, hv, rfl⟩ := List.mem_map.1 hy
      obtain ⟨k, hk, rfl⟩ := mem_ix (d := []) hv
      have := (h2.sh.el i k hi hk).len
      rw [place_len]; omega
theorem sumM_sml {p q : Int} {pw pv : List (List Int)} {br bv : List (List (List Int))} {b c : Bool} : ringsml (sumM p pw pv br bv (tf (LieR p pw br ∧ LieR q pv bv)) b c).1.2.1 (sumM p pw pv br bv (tf (LieR p pw br ∧ LieR q pv bv)) b c).1.2.2 := by
  by_cases h : LieR p pw br ∧ LieR q pv bv
  · rw [tf_t h]
    cases b with
    | true =>
      cases c with
      | true => exact sum_sml h.1.1 h.2.1
      | false => exact .nil
    | false => exact .nil
  · rw [tf_f h]; exact .nil

theorem laws_markLieRing_ok2 (p : Int) (pw : List (List Int)) (br : List (List (List Int))) (hpw : rowslen pw) (hbr : cubeslen br) (r1 r2 : AV) (is js : List Nat) (k : Int) (nx : Nat) (H : HP) (o1 : Ow H r1 (rows pw) is) (o2 : Ow H r2 (cubes br) js) (hnd : (is ++ js).Nodup) (hlt : ∀ i ∈ is ++ js, i < nx) (hk0 : 0 ≤ k) (hk1 : k ≤ 1900000000000000000) :
 AC Try.prog 23 nx H [.g [.i .i64 p, r1, r2], .i .i64 k] (fun _ H' res => ∃ k' : Int, res = .i .i64 k' ∧ k ≤ k' ∧ k' ≤ k + 1200000000000000000 ∧ ∀ i, i ∉ is ++ js → H' i = H i) := by
 obtain ⟨n1, n2, n3⟩ := List.nodup_append.1 hnd
 have u1 := one_ow o1
 have u2 := one_ow o2
 refine AC.introx envOk Try.func23 rfl (by kernel_rfl) Try.ntmps23 Try.results23 (fun hfr => ?_)
 refine AW.sr envOk (fun N hN => ?_)
 simp -dsimp -implicitDefEqProofs (disch := omega) only [go_sem, reduceAdd, reduceSub, reduceGT, reduceEqDiff, reduceMul, u1, u2]
 refine hN _ ?_
 try clear hN N
 refine AW.sr envOk (fun N hN => ?_)
 simp -dsimp -implicitDefEqProofs (disch := omega) only [go_sem, reduceAdd, reduceSub, reduceGT, reduceEqDiff, reduceMul, u1, u2]
 refine (laws_markInt64SS_c _ _ r1 pw is k (o1.keep (fun i hi => ?_)) n1 hpw hk0 (by omega)).mono2 ?_
 ·have := hlt i (by simp [hi]); exact upd_ne _ _ (by omega)
 rintro nx1 H1 res hx1 ⟨k1, rfl, hk2, hk3, hH1⟩
 have hb : H1 nx = some [.i .i64 p, r1, r2] := by rw [hH1 nx (fun h => by have := hlt nx (by simp [h]); omega), upd_same]
 
 
 try simp -dsimp -implicitDefEqProofs (disch := omega) only [go_sem, reduceAdd, reduceSub, reduceGT, reduceEqDiff, reduceMul, u1, u2]
 refine hN _ ?_
 try clear hN N
 refine AW.sr envOk (fun N hN => ?_)
 simp -dsimp -implicitDefEqProofs (disch := omega) only [go_sem, reduceAdd, reduceSub, reduceGT, reduceEqDiff, reduceMul, u1, u2]
 try simp -dsimp -implicitDefEqProofs (disch := omega) only [go_sem, reduceAdd, reduceSub, reduceGT, reduceEqDiff, reduceMul, hb]
 refine (laws_markInt64SSS_c _ _ r2 br js k1 (o2.keep (fun i hi => ?_)) n2 hbr (by omega) (by omega)).mono2 ?_
 ·rw [hH1 i (fun h => n3 i h i hi rfl)]
  have := hlt i (by simp [hi]); exact upd_ne _ _ (by omega)
 rintro nx2 H2 res hx2 ⟨k2, rfl, hk4, hk5, hH2⟩
 try simp -dsimp -implicitDefEqProofs (disch := omega) only [go_sem, reduceAdd, reduceSub, reduceGT, reduceEqDiff, reduceMul, u1, u2]
 refine hN _ ?_
 try clear hN N
 refine AW.sr envOk (fun N hN => ?_)
 simp -dsimp -implicitDefEqProofs (disch := omega) only [go_sem, reduceAdd, reduceSub, reduceGT, reduceEqDiff, reduceMul, u1, u2]
 refine hN _ ?_
 try clear hN N
 refine AW.ret ?_
 simp -dsimp -implicitDefEqProofs (disch := omega) only [go_sem, reduceAdd, reduceSub, reduceGT, reduceEqDiff, reduceMul]
 refine ⟨cut nx H2, cut_le _ _, k2, rfl, by omega, by omega, fun i hi => ?_⟩
 unfold cut
 split
 ·rw [hH2 i (fun h => hi (by simp [h])), hH1 i (fun h => hi (by simp [h]))]
  exact upd_ne _ _ (by omega)
 ·rw [hfr i (by omega)]

theorem markR_h2 : MarkH (α := Int × List (List Int) × List (List (List Int))) 23 (fun x => Go.Proofs.Ytbhlindlcfeppaa.ring x.1 x.2.1 x.2.2) (fun x => rowslen x.2.1 ∧ cubeslen x.2.2) 1200000000000000000 1900000000000000000 := by
  intro nx H r X lo hi k ⟨ids, h1, h2, h3⟩ hnx hok h0 h5
  obtain ⟨r1, r2, is, js, rfl, rfl, o1, o2⟩ := h1.ring_inv
  refine (laws_markLieRing_ok2 X.1 X.2.1 X.2.2 hok.1 hok.2 r1 r2 is js k nx H o1 o2 h2 (fun i hi => by have := h3 i hi; omega) h0 h5).mono ?_
  rintro _ H' res ⟨k', g1, g2, g3, g4⟩
  exact ⟨k', g1, g2, g3, fun i hi => g4 i (fun hm => by have := h3 i hm; omega)⟩

set_option maxRecDepth 100000 in
set_option maxHeartbeats 4000000 in
theorem law_SumRings (p : Int) (pw : List (List Int)) (br : List (List (List Int))) (q : Int) (pv : List (List Int)) (bv : List (List (List Int))) (h0 : i64ok p) (hpw : rowsok pw) (hbr : cubesok br) (h0' : i64ok q) (hpv : rowsok pv) (hbv : cubesok bv) : ACp Try.prog 11 [ring p pw br, ring q pv bv] (.b true) := by
 obtain ⟨M, hM⟩ : ∃ M, sumM p pw pv br bv (tf (LieR p pw br ∧ LieR q pv bv)) (tf (p = q)) (tf (pw.length + pv.length ≤ 6 ∧ p ^ (pw.length + pv.length) ≤ 729)) = M := ⟨_, rfl⟩
 refine ACp.intro' envOk Try.func11 rfl (by kernel_rfl) Try.ntmps11 Try.results11 (.b _) (fun nx => ?_)
 refine AW.sr envOk (fun N hN => ?_)
 simp -dsimp -implicitDefEqProofs (disch := omega) only [go_sem, reduceAdd, reduceSub, reduceGT, reduceEqDiff, reduceMul, ring, w64, resG]
 refine hN _ ?_
 try clear hN N
 refine AW.freezeQ 2 nx _ rfl ((upd_ne _ _ (by omega)).trans (upd_same _ _ _)) ?_
 refine AW.freezeQ 3 (nx + 1) _ rfl ((upd_ne _ _ (by omega)).trans (upd_same _ _ _)) ?_
 simp -dsimp -implicitDefEqProofs (disch := omega) only [go_sem, reduceAdd, reduceSub, reduceGT, reduceEqDiff, reduceMul]
 refine AW.sr envOk (fun N hN => ?_)
 simp -dsimp -implicitDefEqProofs (disch := omega) only [go_sem, reduceAdd, reduceSub, reduceGT, reduceEqDiff, reduceMul, ring, w64, resG]
 refine hN _ ?_
 try clear hN N
 refine AW.sr envOk (fun N hN => ?_)
 simp -dsimp -implicitDefEqProofs (disch := omega) only [go_sem, reduceAdd, reduceSub, reduceGT, reduceEqDiff, reduceMul, ring, w64, resG]
 have hsc1 := szR_le pw br (1048576) (by omega)
 refine AC.pure (.of (laws_szLieRing_ok p pw br (1048576) (by omega) (by omega) hpw hbr)) ?_
 try simp -dsimp -implicitDefEqProofs (disch := omega) only [go_sem, reduceAdd, reduceSub, reduceGT, reduceEqDiff, reduceMul, ring, w64, resG]
 refine hN _ ?_
 try clear hN N
 refine AW.seq (fun N1 hN1 => ?_)
 refine AW.sr envOk (fun N hN => ?_)
 simp -dsimp -implicitDefEqProofs (disch := omega) only [go_sem, reduceAdd, reduceSub, reduceGT, reduceEqDiff, reduceMul, ring, w64, resG]
 refine hN _ ?_
 try clear hN N
 refine AW.cond rfl (fun h1 => ?_) (fun h1 => ?_)
 ·try simp only [cn] at h1
  refine AW.sr envOk (fun N hN => ?_)
  simp -dsimp -implicitDefEqProofs (disch := omega) only [go_sem, reduceAdd, reduceSub, reduceGT, reduceEqDiff, reduceMul, ring, w64, resG]
  refine hN _ ?_
  try clear hN N
  refine AW.ret ?_
  simp -dsimp -implicitDefEqProofs (disch := omega) only [go_sem, reduceAdd, reduceSub, reduceGT, reduceEqDiff, reduceMul]
  try (exfalso; first | omega | (simp_all; done))
 ·try simp only [cn] at h1
  obtain ⟨g1, g2⟩ := szR_mem (l := 1048576) (by omega) (by omega) h1
  have hl := ringlen.of g1 g2
  refine AW.skip ?_
  simp only [thn, blk]
  refine hN1 _ ?_
  try clear hN1 N1
  refine AW.sr envOk (fun N hN => ?_)
  simp -dsimp -implicitDefEqProofs (disch := omega) only [go_sem, reduceAdd, reduceSub, reduceGT, reduceEqDiff, reduceMul, ring, w64, resG]
  have hsc2 := szR_le pv bv (szR pw br (1048576)) (by omega)
  refine AC.pure (.of (laws_szLieRing_ok q pv bv (szR pw br (1048576)) (by omega) (by omega) hpv hbv)) ?_
  try simp -dsimp -implicitDefEqProofs (disch := omega) only [go_sem, reduceAdd, reduceSub, reduceGT, reduceEqDiff, reduceMul, ring, w64, resG]
  refine hN _ ?_
  try clear hN N
  refine AW.seq (fun N2 hN2 => ?_)
  refine AW.sr envOk (fun N hN => ?_)
  simp -dsimp -implicitDefEqProofs (disch := omega) only [go_sem, reduceAdd, reduceSub, reduceGT, reduceEqDiff, reduceMul, ring, w64, resG]
  refine hN _ ?_
  try clear hN N
  refine AW.cond rfl (fun h2 => ?_) (fun h2 => ?_)
  ·try simp only [cn] at h2
   refine AW.sr envOk (fun N hN => ?_)
   simp -dsimp -implicitDefEqProofs (disch := omega) only [go_sem, reduceAdd, reduceSub, reduceGT, reduceEqDiff, reduceMul, ring, w64, resG]
   refine hN _ ?_
   try clear hN N
   refine AW.ret ?_
   simp -dsimp -implicitDefEqProofs (disch := omega) only [go_sem, reduceAdd, reduceSub, reduceGT, reduceEqDiff, reduceMul]
   try (exfalso; first | omega | (simp_all; done))
  ·try simp only [cn] at h2
   obtain ⟨g3, g4⟩ := szR_mem (l := szR pw br (1048576)) (by omega) (by omega) h2
   have hl2 := ringlen.of g3 g4
   have hto := laws_toLieRing_ok p pw br g1 g2
   have hto2 := laws_toLieRing_ok q pv bv g3 g4
   have hML : ringsml M.1.2.1 M.1.2.2 := by rw [← hM]; exact sumM_sml
   have hspec := spec_SumRings_ok p pw br hl q pv bv hl2
   have himpl := impl_SumRings_ok p pw br hl q pv bv hl2
   rw [hM] at hspec himpl
   have heq := laws_eqLieRing_r M.1.1 M.1.2.1 M.1.2.2 hML.x hML.y.len
   refine AW.skip ?_
   simp only [thn, blk]
   refine hN2 _ ?_
   try clear hN2 N2
   refine AW.seq (fun N hN => ?_)
   refine AW.drawF envOk (by kernel_rfl) [true, true, true, true, true, true, true, true, false, false, false] (by kernel_rfl) ?_
   simp -dsimp -implicitDefEqProofs (disch := omega) only [go_sem, reduceAdd, reduceSub, reduceGT, reduceEqDiff, reduceMul, ring, w64, resG]
   refine ⟨_, .of (hto.pure ), ?_⟩
   try simp -dsimp -implicitDefEqProofs (disch := omega) only [go_sem, reduceAdd, reduceSub, reduceGT, reduceEqDiff, reduceMul, ring, w64, resG]
   refine ⟨_, .of (hto2.pure ), ?_⟩
   try simp -dsimp -implicitDefEqProofs (disch := omega) only [go_sem, reduceAdd, reduceSub, reduceGT, reduceEqDiff, reduceMul, ring, w64, resG]
   refine ⟨_, .of (hspec ), ?_⟩
   try simp -dsimp -implicitDefEqProofs (disch := omega) only [go_sem, reduceAdd, reduceSub, reduceGT, reduceEqDiff, reduceMul, ring, w64, resG]
   refine hN _ ?_
   try clear hN N
   refine AW.freezeQ 6 (nx + 3 + 1 + 4 + 2 + 4 + 2 + 8) _ rfl (upd_same _ _ _) ?_
   simp -dsimp -implicitDefEqProofs (disch := omega) only [go_sem, reduceAdd, reduceSub, reduceGT, reduceEqDiff, reduceMul]
   refine AW.sr envOk (fun N hN => ?_)
   simp -dsimp -implicitDefEqProofs (disch := omega) only [go_sem, reduceAdd, reduceSub, reduceGT, reduceEqDiff, reduceMul, ring, w64, resG]
   refine AC.hold hto (.cons (.refl _) .nil) ?_
   intro m6 H6 r_r hm6 hH6 ho_r
   obtain ⟨r1, r2, rfl, u1, u2, ho_r⟩ := ho_r.ring
   try simp -dsimp -implicitDefEqProofs (disch := omega) only [go_sem, reduceAdd, reduceSub, reduceGT, reduceEqDiff, reduceMul, u1, u2]
   refine hN _ ?_
   try clear hN N
   refine AW.freezeQ 8 (nx + 3 + 1 + 4 + 2 + 4 + 2 + 11 + 2) _ rfl (upd_same _ _ _) ?_
   refine AW.nameH (fun G6 hG6 => ?_)
   dsimp only at hG6
   replace ho_r := ho_r.keep (H' := G6) (fun i q1 q2 => by rw [← hG6]; simp (disch := omega) only [upd_ne])
   simp -dsimp -implicitDefEqProofs (disch := omega) only [go_sem, reduceAdd, reduceSub, reduceGT, reduceEqDiff, reduceMul]
   refine AW.sr envOk (fun N hN => ?_)
   simp -dsimp -implicitDefEqProofs (disch := omega) only [go_sem, reduceAdd, reduceSub, reduceGT, reduceEqDiff, reduceMul, ring, w64, resG]
   refine AC.hold hto2 (.cons (.refl _) .nil) ?_
   intro m7 H7 r_u hm7 hH7 ho_u
   replace ho_r := ho_r.keep (fun i q1 q2 => hH7 i (by omega))
   obtain ⟨r3, r4, rfl, u3, u4, ho_u⟩ := ho_u.ring
   try simp -dsimp -implicitDefEqProofs (disch := omega) only [go_sem, reduceAdd, reduceSub, reduceGT, reduceEqDiff, reduceMul, u3, u4]
   refine hN _ ?_
   try clear hN N
   refine AW.freezeQ 9 (m6 + 2) _ rfl (upd_same _ _ _) ?_
   refine AW.nameH (fun G7 hG7 => ?_)
   dsimp only at hG7
   replace ho_r := ho_r.keep (H' := G7) (fun i q1 q2 => by rw [← hG7]; simp (disch := omega) only [upd_ne])
   replace ho_u := ho_u.keep (H' := G7) (fun i q1 q2 => by rw [← hG7]; simp (disch := omega) only [upd_ne])
   simp -dsimp -implicitDefEqProofs (disch := omega) only [go_sem, reduceAdd, reduceSub, reduceGT, reduceEqDiff, reduceMul]
   refine AW.sr envOk (fun N hN => ?_)
   simp -dsimp -implicitDefEqProofs (disch := omega) only [go_sem, reduceAdd, reduceSub, reduceGT, reduceEqDiff, reduceMul, ring, w64, resG]
   refine AC.hold himpl (.cons ho_r.vw (.cons ho_u.vw .nil)) ?_
   intro m8 H8 r_z hm8 hH8 ho_z
   replace ho_r := ho_r.keep (fun i q1 q2 => hH8 i (by omega))
   replace ho_u := ho_u.keep (fun i q1 q2 => hH8 i (by omega))
   obtain ⟨g0, rfl, hg⟩ := ho_z.pair
   obtain ⟨s1, s2, rfl, v1, v2, hg⟩ := hg.ring
   clear ho_z
   try simp -dsimp -implicitDefEqProofs (disch := omega) only [go_sem, reduceAdd, reduceSub, reduceGT, reduceEqDiff, reduceMul, v1, v2]
   refine hN _ ?_
   try clear hN N
   refine AW.seq (fun N3 hN3 => ?_)
   refine AW.freezeQ 10 (m7 + 6) _ rfl (upd_same _ _ _) ?_
   refine AW.nameH (fun G8 hG8 => ?_)
   dsimp only at hG8
   replace ho_r := ho_r.keep (H' := G8) (fun i q1 q2 => by rw [← hG8]; simp (disch := omega) only [upd_ne])
   replace ho_u := ho_u.keep (H' := G8) (fun i q1 q2 => by rw [← hG8]; simp (disch := omega) only [upd_ne])
   replace hg := hg.keep (H' := G8) (fun i q1 q2 => by rw [← hG8]; simp (disch := omega) only [upd_ne])
   simp -dsimp -implicitDefEqProofs (disch := omega) only [go_sem, reduceAdd, reduceSub, reduceGT, reduceEqDiff, reduceMul]
   refine AW.sr envOk (fun N hN => ?_)
   simp -dsimp -implicitDefEqProofs (disch := omega) only [go_sem, reduceAdd, reduceSub, reduceGT, reduceEqDiff, reduceMul, ring, w64, resG]
   refine AC.pure (.lent (heq) (.cons hg.vw (.cons (.refl _) .nil)) (.b _)) ?_
   try simp -dsimp -implicitDefEqProofs (disch := omega) only [go_sem, reduceAdd, reduceSub, reduceGT, reduceEqDiff, reduceMul, ring, w64, resG]
   refine gopB.mk' (fun h3 => ?_) (fun h3 => ?_)
   ·try simp only [cn] at h3
    try simp -dsimp -implicitDefEqProofs (disch := omega) only [go_sem, reduceAdd, reduceSub, reduceGT, reduceEqDiff, reduceMul, ring, w64, resG]
    refine hN _ ?_
    try clear hN N
    refine AW.cond rfl (fun h4 => ?_) (fun h4 => ?_)
    ·try simp only [cn] at h4
     refine AW.sr envOk (fun N hN => ?_)
     simp -dsimp -implicitDefEqProofs (disch := omega) only [go_sem, reduceAdd, reduceSub, reduceGT, reduceEqDiff, reduceMul, ring, w64, resG]
     refine hN _ ?_
     try clear hN N
     refine AW.ret ?_
     simp -dsimp -implicitDefEqProofs (disch := omega) only [go_sem, reduceAdd, reduceSub, reduceGT, reduceEqDiff, reduceMul]
     try (exfalso; first | omega | (simp_all; done))
    ·try simp only [cn] at h4
     refine AW.skip ?_
     simp only [thn, blk]
     refine hN3 _ ?_
     try clear hN3 N3
     refine AW.seq (fun N4 hN4 => ?_)
     refine AW.seq (fun N hN => ?_)
     refine AW.drawL envOk (by kernel_rfl) 5 (by kernel_rfl) ?_
     simp -dsimp -implicitDefEqProofs (disch := omega) only [hr_nil, hr_one, hr_if, List.take_succ_cons, List.take_zero, List.drop_succ_cons, List.drop_zero, List.take_nil, List.drop_nil, go_sem, reduceAdd, reduceSub, reduceGT, reduceEqDiff, reduceMul, ring, w64, resG]
     refine ⟨_, .of (hto.pure ), ?_⟩
     try simp -dsimp -implicitDefEqProofs (disch := omega) only [go_sem, reduceAdd, reduceSub, reduceGT, reduceEqDiff, reduceMul, ring, w64, resG]
     refine ⟨_, .lent (laws_eqLieRing_ok p p pw pw br br hpw hpw hbr hbr) (.cons ho_r.vw (.cons (.refl _) .nil)) (.b _), ?_⟩
     try simp -dsimp -implicitDefEqProofs (disch := omega) only [go_sem, reduceAdd, reduceSub, reduceGT, reduceEqDiff, reduceMul, ring, w64, resG]
     refine hN _ ?_
     try clear hN N
     refine AW.cond rfl (fun h5 => ?_) (fun h5 => ?_)
     ·try simp only [cn] at h5
      refine AW.sr envOk (fun N hN => ?_)
      simp -dsimp -implicitDefEqProofs (disch := omega) only [go_sem, reduceAdd, reduceSub, reduceGT, reduceEqDiff, reduceMul, ring, w64, resG]
      refine hN _ ?_
      try clear hN N
      refine AW.ret ?_
      simp -dsimp -implicitDefEqProofs (disch := omega) only [go_sem, reduceAdd, reduceSub, reduceGT, reduceEqDiff, reduceMul]
      try (exfalso; first | omega | (simp_all; done))
     ·try simp only [cn] at h5
      refine AW.skip ?_
      simp only [thn, blk]
      refine hN4 _ ?_
      try clear hN4 N4
      refine AW.seq (fun N5 hN5 => ?_)
      refine AW.seq (fun N hN => ?_)
      refine AW.drawL envOk (by kernel_rfl) 5 (by kernel_rfl) ?_
      simp -dsimp -implicitDefEqProofs (disch := omega) only [hr_nil, hr_one, hr_if, List.take_succ_cons, List.take_zero, List.drop_succ_cons, List.drop_zero, List.take_nil, List.drop_nil, go_sem, reduceAdd, reduceSub, reduceGT, reduceEqDiff, reduceMul, ring, w64, resG]
      refine ⟨_, .of (hto2.pure ), ?_⟩
      try simp -dsimp -implicitDefEqProofs (disch := omega) only [go_sem, reduceAdd, reduceSub, reduceGT, reduceEqDiff, reduceMul, ring, w64, resG]
      refine ⟨_, .lent (laws_eqLieRing_ok q q pv pv bv bv hpv hpv hbv hbv) (.cons ho_u.vw (.cons (.refl _) .nil)) (.b _), ?_⟩
      try simp -dsimp -implicitDefEqProofs (disch := omega) only [go_sem, reduceAdd, reduceSub, reduceGT, reduceEqDiff, reduceMul, ring, w64, resG]
      refine hN _ ?_
      try clear hN N
      refine AW.cond rfl (fun h6 => ?_) (fun h6 => ?_)
      ·try simp only [cn] at h6
       refine AW.sr envOk (fun N hN => ?_)
       simp -dsimp -implicitDefEqProofs (disch := omega) only [go_sem, reduceAdd, reduceSub, reduceGT, reduceEqDiff, reduceMul, ring, w64, resG]
       refine hN _ ?_
       try clear hN N
       refine AW.ret ?_
       simp -dsimp -implicitDefEqProofs (disch := omega) only [go_sem, reduceAdd, reduceSub, reduceGT, reduceEqDiff, reduceMul]
       try (exfalso; first | omega | (simp_all; done))
      ·try simp only [cn] at h6
       refine AW.skip ?_
       simp only [thn, blk]
       refine hN5 _ ?_
       try clear hN5 N5
       refine AW.sr envOk (fun N hN => ?_)
       simp -dsimp -implicitDefEqProofs (disch := omega) only [go_sem, reduceAdd, reduceSub, reduceGT, reduceEqDiff, reduceMul, ring, w64, resG]
       refine hN _ ?_
       try clear hN N
       refine AW.sr envOk (fun N hN => ?_)
       simp -dsimp -implicitDefEqProofs (disch := omega) only [go_sem, reduceAdd, reduceSub, reduceGT, reduceEqDiff, reduceMul, ring, w64, resG]
       refine (markR_h _ _ _ (p, pw, br) _ _ 1 ho_r (by omega) ⟨g1, g2⟩ (by omega) (by omega)).mono2 ?_
       rintro m14 H14 res hm14 ⟨k14, rfl, hk14, hk14', hH14⟩
       replace ho_u := ho_u.keep (fun i q1 q2 => hH14 i (by omega))
       replace hg := hg.keep (fun i q1 q2 => hH14 i (by omega))
       try simp -dsimp -implicitDefEqProofs (disch := omega) only [go_sem, reduceAdd, reduceSub, reduceGT, reduceEqDiff, reduceMul, ring, w64, resG]
       refine hN _ ?_
       try clear hN N
       refine AW.sr envOk (fun N hN => ?_)
       simp -dsimp -implicitDefEqProofs (disch := omega) only [go_sem, reduceAdd, reduceSub, reduceGT, reduceEqDiff, reduceMul, ring, w64, resG]
       refine (markR_h2 _ _ _ (q, pv, bv) _ _ k14 ho_u (by omega) ⟨g3, g4⟩ (by omega) (by omega)).mono2 ?_
       rintro m15 H15 res hm15 ⟨k15, rfl, hk15, hk15', hH15⟩
       replace hg := hg.keep (fun i q1 q2 => hH15 i (by omega))
       try simp -dsimp -implicitDefEqProofs (disch := omega) only [go_sem, reduceAdd, reduceSub, reduceGT, reduceEqDiff, reduceMul, ring, w64, resG]
       refine hN _ ?_
       try clear hN N
       refine AW.seq (fun N6 hN6 => ?_)
       refine AW.sr envOk (fun N hN => ?_)
       simp -dsimp -implicitDefEqProofs (disch := omega) only [go_sem, reduceAdd, reduceSub, reduceGT, reduceEqDiff, reduceMul, ring, w64, resG]
       refine gopB.mk' (fun h7 => ?_) (fun h7 => ?_)
       ·try simp only [cn] at h7
        try simp -dsimp -implicitDefEqProofs (disch := omega) only [go_sem, reduceAdd, reduceSub, reduceGT, reduceEqDiff, reduceMul, ring, w64, resG]
        refine AC.pure (.lent (heq) (.cons hg.vw (.cons (.refl _) .nil)) (.b _)) ?_
        try simp -dsimp -implicitDefEqProofs (disch := omega) only [go_sem, reduceAdd, reduceSub, reduceGT, reduceEqDiff, reduceMul, ring, w64, resG]
        refine gopB.mk' (fun h8 => ?_) (fun h8 => ?_)
        ·try simp only [cn] at h8
         try simp -dsimp -implicitDefEqProofs (disch := omega) only [go_sem, reduceAdd, reduceSub, reduceGT, reduceEqDiff, reduceMul, ring, w64, resG]
         refine hN _ ?_
         try clear hN N
         refine AW.cond rfl (fun h9 => ?_) (fun h9 => ?_)
         ·try simp only [cn] at h9
          refine AW.sr envOk (fun N hN => ?_)
          simp -dsimp -implicitDefEqProofs (disch := omega) only [go_sem, reduceAdd, reduceSub, reduceGT, reduceEqDiff, reduceMul, ring, w64, resG]
          refine hN _ ?_
          try clear hN N
          refine AW.ret ?_
          simp -dsimp -implicitDefEqProofs (disch := omega) only [go_sem, reduceAdd, reduceSub, reduceGT, reduceEqDiff, reduceMul]
          try (exfalso; first | omega | (simp_all; done))
         ·try simp only [cn] at h9
          refine AW.skip ?_
          simp only [thn, blk]
          refine hN6 _ ?_
          try clear hN6 N6
          refine AW.sr envOk (fun N hN => ?_)
          simp -dsimp -implicitDefEqProofs (disch := omega) only [go_sem, reduceAdd, reduceSub, reduceGT, reduceEqDiff, reduceMul, ring, w64, resG]
          refine hN _ ?_
          try clear hN N
          refine AW.sr envOk (fun N hN => ?_)
          simp -dsimp -implicitDefEqProofs (disch := omega) only [go_sem, reduceAdd, reduceSub, reduceGT, reduceEqDiff, reduceMul, ring, w64, resG]
          refine (markG_g hML.x hML.y hML.t hg (by omega) (by omega) (by omega)).mono2 ?_
          rintro m17 H17 res hm17 ⟨rfl, hg2, hH17⟩
          try simp -dsimp -implicitDefEqProofs (disch := omega) only [go_sem, reduceAdd, reduceSub, reduceGT, reduceEqDiff, reduceMul, ring, w64, resG]
          refine hN _ ?_
          try clear hN N
          refine AW.sr envOk (fun N hN => ?_)
          simp -dsimp -implicitDefEqProofs (disch := omega) only [go_sem, reduceAdd, reduceSub, reduceGT, reduceEqDiff, reduceMul, ring, w64, resG]
          refine hN _ ?_
          try clear hN N
          refine AW.sr envOk (fun N hN => ?_)
          simp -dsimp -implicitDefEqProofs (disch := omega) only [go_sem, reduceAdd, reduceSub, reduceGT, reduceEqDiff, reduceMul, ring, w64, resG]
          refine AC.pure (.lent (heldG_g hML.x hML.y hML.t (by omega) (by omega)) (.cons hg2.vw (.cons (.refl _) .nil)) (.i _ _)) ?_
          try simp -dsimp -implicitDefEqProofs (disch := omega) only [go_sem, reduceAdd, reduceSub, reduceGT, reduceEqDiff, reduceMul, ring, w64, resG]
          refine hN _ ?_
          try clear hN N
          refine AW.seq (fun N7 hN7 => ?_)
          refine AW.sr envOk (fun N hN => ?_)
          simp -dsimp -implicitDefEqProofs (disch := omega) only [go_sem, reduceAdd, reduceSub, reduceGT, reduceEqDiff, reduceMul, ring, w64, resG]
          refine hN _ ?_
          try clear hN N
          refine AW.cond rfl (fun h10 => ?_) (fun h10 => ?_)
          ·try simp only [cn] at h10
           refine AW.sr envOk (fun N hN => ?_)
           simp -dsimp -implicitDefEqProofs (disch := omega) only [go_sem, reduceAdd, reduceSub, reduceGT, reduceEqDiff, reduceMul, ring, w64, resG]
           refine hN _ ?_
           try clear hN N
           refine AW.ret ?_
           simp -dsimp -implicitDefEqProofs (disch := omega) only [go_sem, reduceAdd, reduceSub, reduceGT, reduceEqDiff, reduceMul]
           try (exfalso; first | omega | (simp_all; done))
          ·try simp only [cn] at h10
           refine AW.skip ?_
           simp only [thn, blk]
           refine hN7 _ ?_
           try clear hN7 N7
           refine AW.seq (fun N8 hN8 => ?_)
           refine AW.sr envOk (fun N hN => ?_)
           simp -dsimp -implicitDefEqProofs (disch := omega) only [go_sem, reduceAdd, reduceSub, reduceGT, reduceEqDiff, reduceMul, ring, w64, resG]
           refine hN _ ?_
           try clear hN N
           refine AW.cond rfl (fun h11 => ?_) (fun h11 => ?_)
           ·try simp only [cn] at h11
            refine AW.sr envOk (fun N hN => ?_)
            simp -dsimp -implicitDefEqProofs (disch := omega) only [go_sem, reduceAdd, reduceSub, reduceGT, reduceEqDiff, reduceMul, ring, w64, resG]
            refine hN _ ?_
            try clear hN N
            refine AW.ret ?_
            simp -dsimp -implicitDefEqProofs (disch := omega) only [go_sem, reduceAdd, reduceSub, reduceGT, reduceEqDiff, reduceMul]
            try (exfalso; first | omega | (simp_all; done))
           ·try simp only [cn] at h11
            refine AW.skip ?_
            simp only [thn, blk]
            refine hN8 _ ?_
            try clear hN8 N8
            refine AW.seq (fun N hN => ?_)
            refine AW.drawF envOk (by kernel_rfl) [true, true, true, true, true, true, true, true, false, false, false] (by kernel_rfl) ?_
            simp -dsimp -implicitDefEqProofs (disch := omega) only [go_sem, reduceAdd, reduceSub, reduceGT, reduceEqDiff, reduceMul, ring, w64, resG]
            refine ⟨_, .of (hto.pure ), ?_⟩
            try simp -dsimp -implicitDefEqProofs (disch := omega) only [go_sem, reduceAdd, reduceSub, reduceGT, reduceEqDiff, reduceMul, ring, w64, resG]
            refine ⟨_, .of (hto2.pure ), ?_⟩
            try simp -dsimp -implicitDefEqProofs (disch := omega) only [go_sem, reduceAdd, reduceSub, reduceGT, reduceEqDiff, reduceMul, ring, w64, resG]
            refine ⟨_, .of (himpl.pure ), ?_⟩
            try simp -dsimp -implicitDefEqProofs (disch := omega) only [go_sem, reduceAdd, reduceSub, reduceGT, reduceEqDiff, reduceMul, ring, w64, resG]
            refine hN _ ?_
            try clear hN N
            refine AW.seq (fun N9 hN9 => ?_)
            refine AW.freezeQ 15 (m17 + 1 + 4 + 2 + 3 + 8) _ rfl (upd_same _ _ _) ?_
            refine AW.nameH (fun G9 hG9 => ?_)
            dsimp only at hG9
            replace hg2 := hg2.keep (H' := G9) (fun i q1 q2 => by rw [← hG9]; simp (disch := omega) only [upd_ne])
            simp -dsimp -implicitDefEqProofs (disch := omega) only [go_sem, reduceAdd, reduceSub, reduceGT, reduceEqDiff, reduceMul]
            refine AW.sr envOk (fun N hN => ?_)
            simp -dsimp -implicitDefEqProofs (disch := omega) only [go_sem, reduceAdd, reduceSub, reduceGT, reduceEqDiff, reduceMul, ring, w64, resG]
            refine AC.pure (.of (heq )) ?_
            try simp -dsimp -implicitDefEqProofs (disch := omega) only [go_sem, reduceAdd, reduceSub, reduceGT, reduceEqDiff, reduceMul, ring, w64, resG]
            refine gopB.mk' (fun h12 => ?_) (fun h12 => ?_)
            ·try simp only [cn] at h12
             try simp -dsimp -implicitDefEqProofs (disch := omega) only [go_sem, reduceAdd, reduceSub, reduceGT, reduceEqDiff, reduceMul, ring, w64, resG]
             refine hN _ ?_
             try clear hN N
             refine AW.cond rfl (fun h13 => ?_) (fun h13 => ?_)
             ·try simp only [cn] at h13
              refine AW.sr envOk (fun N hN => ?_)
              simp -dsimp -implicitDefEqProofs (disch := omega) only [go_sem, reduceAdd, reduceSub, reduceGT, reduceEqDiff, reduceMul, ring, w64, resG]
              refine hN _ ?_
              try clear hN N
              refine AW.ret ?_
              simp -dsimp -implicitDefEqProofs (disch := omega) only [go_sem, reduceAdd, reduceSub, reduceGT, reduceEqDiff, reduceMul]
              try (exfalso; first | omega | (simp_all; done))
             ·try simp only [cn] at h13
              refine AW.skip ?_
              simp only [thn, blk]
              refine hN9 _ ?_
              try clear hN9 N9
              refine AW.sr envOk (fun N hN => ?_)
              simp -dsimp -implicitDefEqProofs (disch := omega) only [go_sem, reduceAdd, reduceSub, reduceGT, reduceEqDiff, reduceMul, ring, w64, resG]
              refine hN _ ?_
              try clear hN N
              refine AW.sr envOk (fun N hN => ?_)
              simp -dsimp -implicitDefEqProofs (disch := omega) only [go_sem, reduceAdd, reduceSub, reduceGT, reduceEqDiff, reduceMul, ring, w64, resG]
              refine AC.pure (.lent (heldG_g hML.x hML.y hML.t (by omega) (by omega)) (.cons hg2.vw (.cons (.refl _) .nil)) (.i _ _)) ?_
              try simp -dsimp -implicitDefEqProofs (disch := omega) only [go_sem, reduceAdd, reduceSub, reduceGT, reduceEqDiff, reduceMul, ring, w64, resG]
              refine hN _ ?_
              try clear hN N
              refine AW.seq (fun N10 hN10 => ?_)
              refine AW.sr envOk (fun N hN => ?_)
              simp -dsimp -implicitDefEqProofs (disch := omega) only [go_sem, reduceAdd, reduceSub, reduceGT, reduceEqDiff, reduceMul, ring, w64, resG]
              refine hN _ ?_
              try clear hN N
              refine AW.cond rfl (fun h14 => ?_) (fun h14 => ?_)
              ·try simp only [cn] at h14
               refine AW.sr envOk (fun N hN => ?_)
               simp -dsimp -implicitDefEqProofs (disch := omega) only [go_sem, reduceAdd, reduceSub, reduceGT, reduceEqDiff, reduceMul, ring, w64, resG]
               refine hN _ ?_
               try clear hN N
               refine AW.ret ?_
               simp -dsimp -implicitDefEqProofs (disch := omega) only [go_sem, reduceAdd, reduceSub, reduceGT, reduceEqDiff, reduceMul]
               try (exfalso; first | omega | (simp_all; done))
              ·try simp only [cn] at h14
               refine AW.skip ?_
               simp only [thn, blk]
               refine hN10 _ ?_
               try clear hN10 N10
               refine AW.seq (fun N11 hN11 => ?_)
               refine AW.sr envOk (fun N hN => ?_)
               simp -dsimp -implicitDefEqProofs (disch := omega) only [go_sem, reduceAdd, reduceSub, reduceGT, reduceEqDiff, reduceMul, ring, w64, resG]
               refine hN _ ?_
               try clear hN N
               refine AW.cond rfl (fun h15 => ?_) (fun h15 => ?_)
               ·try simp only [cn] at h15
                refine AW.sr envOk (fun N hN => ?_)
                simp -dsimp -implicitDefEqProofs (disch := omega) only [go_sem, reduceAdd, reduceSub, reduceGT, reduceEqDiff, reduceMul, ring, w64, resG]
                refine hN _ ?_
                try clear hN N
                refine AW.ret ?_
                simp -dsimp -implicitDefEqProofs (disch := omega) only [go_sem, reduceAdd, reduceSub, reduceGT, reduceEqDiff, reduceMul]
                try (exfalso; first | omega | (simp_all; done))
               ·try simp only [cn] at h15
                refine AW.skip ?_
                simp only [thn, blk]
                refine hN11 _ ?_
                try clear hN11 N11
                refine AW.sr envOk (fun N hN => ?_)
                simp -dsimp -implicitDefEqProofs (disch := omega) only [go_sem, reduceAdd, reduceSub, reduceGT, reduceEqDiff, reduceMul, ring, w64, resG]
                refine hN _ ?_
                try clear hN N
                refine AW.ret ?_
                simp -dsimp -implicitDefEqProofs (disch := omega) only [go_sem, reduceAdd, reduceSub, reduceGT, reduceEqDiff, reduceMul]
                try (exfalso; first | omega | (simp_all; done))
            ·try simp only [cn] at h12
             try simp -dsimp -implicitDefEqProofs (disch := omega) only [go_sem, reduceAdd, reduceSub, reduceGT, reduceEqDiff, reduceMul, ring, w64, resG]
             refine hN _ ?_
             try clear hN N
             refine AW.condT rfl ?_
             refine AW.sr envOk (fun N hN => ?_)
             simp -dsimp -implicitDefEqProofs (disch := omega) only [go_sem, reduceAdd, reduceSub, reduceGT, reduceEqDiff, reduceMul, ring, w64, resG]
             refine hN _ ?_
             try clear hN N
             refine AW.ret ?_
             simp -dsimp -implicitDefEqProofs (disch := omega) only [go_sem, reduceAdd, reduceSub, reduceGT, reduceEqDiff, reduceMul]
             try (exfalso; first | omega | (simp_all; done))
        ·try simp only [cn] at h8
         try simp -dsimp -implicitDefEqProofs (disch := omega) only [go_sem, reduceAdd, reduceSub, reduceGT, reduceEqDiff, reduceMul, ring, w64, resG]
         refine hN _ ?_
         try clear hN N
         refine AW.condT rfl ?_
         refine AW.sr envOk (fun N hN => ?_)
         simp -dsimp -implicitDefEqProofs (disch := omega) only [go_sem, reduceAdd, reduceSub, reduceGT, reduceEqDiff, reduceMul, ring, w64, resG]
         refine hN _ ?_
         try clear hN N
         refine AW.ret ?_
         simp -dsimp -implicitDefEqProofs (disch := omega) only [go_sem, reduceAdd, reduceSub, reduceGT, reduceEqDiff, reduceMul]
         try (exfalso; first | omega | (simp_all; done))
       ·try simp only [cn] at h7
        try simp -dsimp -implicitDefEqProofs (disch := omega) only [go_sem, reduceAdd, reduceSub, reduceGT, reduceEqDiff, reduceMul, ring, w64, resG]
        refine hN _ ?_
        try clear hN N
        refine AW.condT rfl ?_
        refine AW.sr envOk (fun N hN => ?_)
        simp -dsimp -implicitDefEqProofs (disch := omega) only [go_sem, reduceAdd, reduceSub, reduceGT, reduceEqDiff, reduceMul, ring, w64, resG]
        refine hN _ ?_
        try clear hN N
        refine AW.ret ?_
        simp -dsimp -implicitDefEqProofs (disch := omega) only [go_sem, reduceAdd, reduceSub, reduceGT, reduceEqDiff, reduceMul]
        try (exfalso; first | omega | (simp_all; done))
   ·try simp only [cn] at h3
    try simp -dsimp -implicitDefEqProofs (disch := omega) only [go_sem, reduceAdd, reduceSub, reduceGT, reduceEqDiff, reduceMul, ring, w64, resG]
    refine hN _ ?_
    try clear hN N
    refine AW.condT rfl ?_
    refine AW.sr envOk (fun N hN => ?_)
    simp -dsimp -implicitDefEqProofs (disch := omega) only [go_sem, reduceAdd, reduceSub, reduceGT, reduceEqDiff, reduceMul, ring, w64, resG]
    refine hN _ ?_
    try clear hN N
    refine AW.ret ?_
    simp -dsimp -implicitDefEqProofs (disch := omega) only [go_sem, reduceAdd, reduceSub, reduceGT, reduceEqDiff, reduceMul]
    try (exfalso; first | omega | (simp_all; done))

end Go.Proofs.Ytbhlindlcfeppaa
