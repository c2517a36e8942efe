import Derived.Test.YtdghgmgppecncaaZ28
import Derived.Test.YtdghgmgppecncaaZ50
import Derived.Test.YtdghgmgppecncaaZ51
set_option linter.unusedVariables false
set_option linter.unusedSimpArgs false
namespace Go.Proofs.Ytdghgmgppecncaa
open Nat (reduceAdd reduceSub reduceGT reduceEqDiff reduceMul)
theorem laws_likeRows5_e (a : List (List Int)) (ha : rowslen a) : ACp Try.prog 81 [rows a, rows a] (.b true) := by
 have han := ha.n
 refine ACp.intro' envOk Try.func81 rfl (by kernel_rfl) Try.ntmps81 Try.results81 (.b _) (fun nx => ?_)
 refine AW.sr envOk (fun N hN => ?_)
 simp -dsimp -implicitDefEqProofs (maxSteps := 800000) (disch := omega) only [go_sem, undef, reduceAdd, reduceSub, reduceGT, reduceEqDiff, reduceMul, rows, gd_r, w64, bne_self_eq_false]
 refine hN _ ?_
 try clear hN N
 refine AW.seq (fun N1 hN1 => ?_)
 refine AW.sr envOk (fun N hN => ?_)
 simp -dsimp -implicitDefEqProofs (maxSteps := 800000) (disch := omega) only [go_sem, undef, reduceAdd, reduceSub, reduceGT, reduceEqDiff, reduceMul, rows, gd_r, w64, bne_self_eq_false]
 refine hN _ ?_
 try clear hN N
 refine AW.condF rfl ?_
 refine AW.skip ?_
 simp only [thn, blk]
 refine hN1 _ ?_
 try clear hN1 N1
 refine AW.seq (fun N2 hN2 => ?_)
 refine AW.sr envOk (fun N hN => ?_)
 simp -dsimp -implicitDefEqProofs (maxSteps := 800000) (disch := omega) only [go_sem, undef, reduceAdd, reduceSub, reduceGT, reduceEqDiff, reduceMul, rows, gd_r, w64, bne_self_eq_false]
 refine hN _ ?_
 try clear hN N
 refine AW.block ?_
 refine AW.loopN (α := Nat) (fun x => sl 27 [(0, rows a), (1, rows a), (5, .i .i64 x)]) (fun _ => noH) (fun x m => x ≤ a.length) (fun x => a.length - x) (0) ?_ ?_ (by intro d cs hd; cases hd) ?_
 ·omega
 ·simp (disch := omega) [wks, wkA, sl, w64, ints, rows, cubes, rows, gd_r, w64, bne_self_eq_false] <;> omega
 ·skip
  rintro k m hk
  simp -dsimp -implicitDefEqProofs (maxSteps := 800000) (disch := omega) only [go_sem, undef, reduceAdd, reduceSub, reduceGT, reduceEqDiff, reduceMul]
  refine AW.seq (fun N3 hN3 => ?_)
  refine AW.sr envOk (fun N hN => ?_)
  simp -dsimp -implicitDefEqProofs (maxSteps := 800000) (disch := omega) only [go_sem, undef, reduceAdd, reduceSub, reduceGT, reduceEqDiff, reduceMul, rows, gd_r, w64, bne_self_eq_false]
  refine hN _ ?_
  try clear hN N
  refine AW.cond rfl (fun h1 => ?_) (fun h1 => ?_)
  ·try simp only [cn] at h1
   refine AW.skip ?_
   simp only [thn, blk]
   refine hN3 _ ?_
   try clear hN3 N3
   refine AW.seq (fun N4 hN4 => ?_)
   refine AW.block ?_
   refine AW.seq (fun N hN => ?_)
   refine AW.drawF envOk (by kernel_rfl) [true, true, true, true, true, true, true, true, false, false] (by kernel_rfl) ?_
   simp -dsimp -implicitDefEqProofs (maxSteps := 800000) (disch := omega) only [go_sem, undef, reduceAdd, reduceSub, reduceGT, reduceEqDiff, reduceMul, rows, gd_r, w64, bne_self_eq_false]
   refine AC.pure (.of (laws_likeInts_e (a.getD k []) (getD_mem ha.v (by simp) k) )) ?_
   try simp -dsimp -implicitDefEqProofs (maxSteps := 800000) (disch := omega) only [go_sem, undef, reduceAdd, reduceSub, reduceGT, reduceEqDiff, reduceMul, rows, gd_r, w64, bne_self_eq_false]
   refine hN _ ?_
   try clear hN N
   refine AW.condF rfl ?_
   refine AW.skip ?_
   simp only [thn, blk]
   refine hN4 _ ?_
   try clear hN4 N4
   refine AW.regionL envOk ?_
   simp -dsimp -implicitDefEqProofs (maxSteps := 800000) (disch := omega) only [go_sem, undef, reduceAdd, reduceSub, reduceGT, reduceEqDiff, reduceMul, rows, gd_r, w64, bne_self_eq_false]
   refine ⟨k + 1, ?_, fun _ _ h => h, ?_, ?_⟩
   ·simp (disch := omega) [wks, wkA, sl, w64, ints, rows, cubes, rows, gd_r, w64, bne_self_eq_false] <;> omega
   ·omega
   ·first | omega | (simp only; omega)
  ·try simp only [cn] at h1
   refine AW.exit ?_
   simp only [thn, blk, if_true]
   refine hN2 _ ?_
   try clear hN2 N2
   refine AW.sr envOk (fun N hN => ?_)
   simp -dsimp -implicitDefEqProofs (maxSteps := 800000) (disch := omega) only [go_sem, undef, reduceAdd, reduceSub, reduceGT, reduceEqDiff, reduceMul, rows, gd_r, w64, bne_self_eq_false]
   refine hN _ ?_
   try clear hN N
   refine AW.ret ?_
   simp -dsimp -implicitDefEqProofs (maxSteps := 800000) (disch := omega) only [go_sem, undef, reduceAdd, reduceSub, reduceGT, reduceEqDiff, reduceMul]
   all_goals rfl
theorem laws_likeCubes5_e (a : List (List (List Int))) (ha : cubeslen a) : ACp Try.prog 78 [cubes a, cubes a] (.b true) := by
 have han := ha.n
 refine ACp.intro' envOk Try.func78 rfl (by kernel_rfl) Try.ntmps78 Try.results78 (.b _) (fun nx => ?_)
 refine AW.sr envOk (fun N hN => ?_)
 simp -dsimp -implicitDefEqProofs (maxSteps := 800000) (disch := omega) only [go_sem, undef, reduceAdd, reduceSub, reduceGT, reduceEqDiff, reduceMul, cubes, gd_c, w64, bne_self_eq_false]
 refine hN _ ?_
 try clear hN N
 refine AW.seq (fun N1 hN1 => ?_)
 refine AW.sr envOk (fun N hN => ?_)
 simp -dsimp -implicitDefEqProofs (maxSteps := 800000) (disch := omega) only [go_sem, undef, reduceAdd, reduceSub, reduceGT, reduceEqDiff, reduceMul, cubes, gd_c, w64, bne_self_eq_false]
 refine hN _ ?_
 try clear hN N
 refine AW.condF rfl ?_
 refine AW.skip ?_
 simp only [thn, blk]
 refine hN1 _ ?_
 try clear hN1 N1
 refine AW.seq (fun N2 hN2 => ?_)
 refine AW.sr envOk (fun N hN => ?_)
 simp -dsimp -implicitDefEqProofs (maxSteps := 800000) (disch := omega) only [go_sem, undef, reduceAdd, reduceSub, reduceGT, reduceEqDiff, reduceMul, cubes, gd_c, w64, bne_self_eq_false]
 refine hN _ ?_
 try clear hN N
 refine AW.block ?_
 refine AW.loopN (α := Nat) (fun x => sl 27 [(0, cubes a), (1, cubes a), (5, .i .i64 x)]) (fun _ => noH) (fun x m => x ≤ a.length) (fun x => a.length - x) (0) ?_ ?_ (by intro d cs hd; cases hd) ?_
 ·omega
 ·simp (disch := omega) [wks, wkA, sl, w64, ints, rows, cubes, cubes, gd_c, w64, bne_self_eq_false] <;> omega
 ·skip
  rintro k m hk
  simp -dsimp -implicitDefEqProofs (maxSteps := 800000) (disch := omega) only [go_sem, undef, reduceAdd, reduceSub, reduceGT, reduceEqDiff, reduceMul]
  refine AW.seq (fun N3 hN3 => ?_)
  refine AW.sr envOk (fun N hN => ?_)
  simp -dsimp -implicitDefEqProofs (maxSteps := 800000) (disch := omega) only [go_sem, undef, reduceAdd, reduceSub, reduceGT, reduceEqDiff, reduceMul, cubes, gd_c, w64, bne_self_eq_false]
  refine hN _ ?_
  try clear hN N
  refine AW.cond rfl (fun h1 => ?_) (fun h1 => ?_)
  ·try simp only [cn] at h1
   refine AW.skip ?_
   simp only [thn, blk]
   refine hN3 _ ?_
   try clear hN3 N3
   refine AW.seq (fun N4 hN4 => ?_)
   refine AW.block ?_
   refine AW.seq (fun N hN => ?_)
   refine AW.drawF envOk (by kernel_rfl) [true, true, true, true, true, true, true, true, false, false] (by kernel_rfl) ?_
   simp -dsimp -implicitDefEqProofs (maxSteps := 800000) (disch := omega) only [go_sem, undef, reduceAdd, reduceSub, reduceGT, reduceEqDiff, reduceMul, cubes, gd_c, w64, bne_self_eq_false]
   refine AC.pure (.of (laws_likeRows5_e (a.getD k []) (getD_mem ha.v .nil k) )) ?_
   try simp -dsimp -implicitDefEqProofs (maxSteps := 800000) (disch := omega) only [go_sem, undef, reduceAdd, reduceSub, reduceGT, reduceEqDiff, reduceMul, cubes, gd_c, w64, bne_self_eq_false]
   refine hN _ ?_
   try clear hN N
   refine AW.condF rfl ?_
   refine AW.skip ?_
   simp only [thn, blk]
   refine hN4 _ ?_
   try clear hN4 N4
   refine AW.regionL envOk ?_
   simp -dsimp -implicitDefEqProofs (maxSteps := 800000) (disch := omega) only [go_sem, undef, reduceAdd, reduceSub, reduceGT, reduceEqDiff, reduceMul, cubes, gd_c, w64, bne_self_eq_false]
   refine ⟨k + 1, ?_, fun _ _ h => h, ?_, ?_⟩
   ·simp (disch := omega) [wks, wkA, sl, w64, ints, rows, cubes, cubes, gd_c, w64, bne_self_eq_false] <;> omega
   ·omega
   ·first | omega | (simp only; omega)
  ·try simp only [cn] at h1
   refine AW.exit ?_
   simp only [thn, blk, if_true]
   refine hN2 _ ?_
   try clear hN2 N2
   refine AW.sr envOk (fun N hN => ?_)
   simp -dsimp -implicitDefEqProofs (maxSteps := 800000) (disch := omega) only [go_sem, undef, reduceAdd, reduceSub, reduceGT, reduceEqDiff, reduceMul, cubes, gd_c, w64, bne_self_eq_false]
   refine hN _ ?_
   try clear hN N
   refine AW.ret ?_
   simp -dsimp -implicitDefEqProofs (maxSteps := 800000) (disch := omega) only [go_sem, undef, reduceAdd, reduceSub, reduceGT, reduceEqDiff, reduceMul]
   all_goals rfl
theorem spec_DrawLowerLieSeries_p (bs : List Int) (hb : bytsok bs) (hb4 : bs.length ≤ 4096) (nx : Nat) : AC Try.prog 73 nx noH [byts bs] ringK := by
 refine AC.introx envOk Try.func73 rfl (by kernel_rfl) Try.ntmps73 Try.results73 (fun hfr => ?_)
 refine AW.sr envOk (fun N hN => ?_)
 simp -dsimp -implicitDefEqProofs (maxSteps := 800000) (disch := omega) only [go_sem, undef, reduceAdd, reduceSub, reduceGT, reduceEqDiff, reduceMul, ring, rows, cubes]
 refine hN _ ?_
 try clear hN N
 refine AW.sr envOk (fun N hN => ?_)
 simp -dsimp -implicitDefEqProofs (maxSteps := 800000) (disch := omega) only [go_sem, undef, reduceAdd, reduceSub, reduceGT, reduceEqDiff, reduceMul, ring, rows, cubes]
 refine AC.mono2 (AC.frame (spec_l01From_n bs hb hb4 _)) ?_
 rintro m1 H1 r1 hm1 ⟨H0, ⟨sid, a1, s1, rfl, hsid1, hsid2, ho1, hs0⟩, hlow, hhigh⟩
 have hs1 := (hhigh sid hsid1).trans hs0
 have h01 : H1 nx = some [.i .i64 0, .nl, .nl] := (hlow nx (by omega)).trans (upd_same _ _ _)
 try simp -dsimp -implicitDefEqProofs (maxSteps := 800000) (disch := omega) only [go_sem, undef, reduceAdd, reduceSub, reduceGT, reduceEqDiff, reduceMul, ring, rows, cubes]
 refine (spec_l31Draw_p bs a1 s1 ho1 _ _ sid hs1 (by omega)).mono2 ?_
 rintro m2 H2 r2 hm2 ⟨p, X, Y, a2, s2, rfl, hl, h6, hp, ho2, hf2⟩
 have h02 : H2 nx = some [.i .i64 0, .nl, .nl] := (hf2 nx (by omega)).trans ((upd_ne _ _ (by omega)).trans h01)
 try simp -dsimp -implicitDefEqProofs (maxSteps := 800000) (disch := omega) only [go_sem, undef, reduceAdd, reduceSub, reduceGT, reduceEqDiff, reduceMul, ring, rows, cubes, h02]
 refine hN _ ?_
 try clear hN N
 refine AW.ret ?_
 simp -dsimp -implicitDefEqProofs (maxSteps := 800000) (disch := omega) only [go_sem, undef, reduceAdd, reduceSub, reduceGT, reduceEqDiff, reduceMul]
 exact ⟨_, fun _ _ h => h, p, X, Y, rfl, hl, h6⟩
theorem laws_likeRows5_q (a b : List (List Int)) (hb : rowslen b) (e : a = b) : ACp Try.prog 81 [rows a, rows b] (.b true) := by
  subst e; exact laws_likeRows5_e a hb
structure SerF (p : Int) (X : List (List Int)) (Y : List (List (List Int))) (K U : List (List (List Int))) (C : List (List Int)) : Prop where
  li : ACp Try.prog 74 [ring p X Y] (.t [cubes K, .i .i64 0])
  ls : ACp Try.prog 75 [ring p X Y] (.t [cubes K, .i .i64 0])
  ui : ACp Try.prog 76 [ring p X Y] (.t [cubes U, .i .i64 0])
  us : ACp Try.prog 77 [ring p X Y] (.t [cubes U, .i .i64 0])
  lc : ACp Try.prog 79 [ring p X Y] (.t [.i .i64 (K.length - 1), .i .i64 0])
  ce : ACp Try.prog 80 [ring p X Y] (.t [rows C, .i .i64 0])
  kl : 1 ≤ K.length ∧ K.length ≤ 1000
  ku : K.length = U.length
  kc : cubeslen K
  uc : cubeslen U
  cu : 1 < U.length → C = U.getD 1 []
  ki : ∀ k, k < K.length → ACp Try.prog 82 [ring p X Y, rows (K.getD k [])] (.t [.b true, .i .i64 0])
  un : ∀ k, k < K.length → ACp Try.prog 82 [ring p X Y, rows (U.getD k [])] (.t [.b true, .i .i64 0])
  less : ∀ k, k + 1 < K.length → (K.getD (k + 1) []).length < (K.getD k []).length
  sum : ∀ k m, m + k = U.length - 1 → ACp Try.prog 83 [ring p X Y, rows (K.getD k []), rows (U.getD m [])] (.t [rows (U.getD m []), .i .i64 0])
theorem serF {p : Int} {X : List (List Int)} {Y : List (List (List Int))} (hl : ringlen X Y) (h : LieR p X Y) : SerF p X Y (lowK p X Y) (upK p X Y) (aboveL p X Y [] (wholeL X.length)) := by
  have h1 := (impl_LowerLieSeries_ok p X Y hl).pure
  have h2 := spec_LowerLieSeries_ok p X Y hl
  have h3 := (impl_UpperLieSeries_ok p X Y hl).pure
  have h4 := spec_UpperLieSeries_ok p X Y hl
  have h5 := impl_LieClass_ok p X Y hl
  have h6 := (impl_LieCentre_ok p X Y hl).pure
  rw [tf_t h] at h1 h2 h3 h4 h5 h6
  have hn := h.1.tri.n6
  have hpos := (lowK_ser h.1).pos
  have hle := (lowK_ok h.1).2
  have hlen := one_len h
  have hid : ∀ u, CanU p X u → Inc p X (lowS p X Y u) u → ACp Try.prog 82 [ring p X Y, rows u] (.t [.b true, .i .i64 0]) := fun u hu hi => by
    have := impl_IsIdeal_ok p X Y hl u (hu.rl hn)
    rw [tf_t (spn_of h hu), tf_t (ideal_of h.1 hu hi)] at this
    exact this
  refine ⟨h1, h2, h3, h4, h5, h6, ⟨by omega, by omega⟩, hlen, (lowK_sml h.1).len, (upK_sml h.1).len, fun hu => ?_, fun k hk => ?_, fun k hk => ?_, fun k hk => ?_, fun k m hm => ?_⟩
  · rw [up_at h.1 hu]; rfl
  · rw [low_at h.1 hk]; exact hid _ (gamU h.1 k) (gam_down h k)
  · rw [up_at h.1 (by omega)]; exact hid _ (zetU h.1 k) (zet_down h k)
  · rw [low_at h.1 hk, low_at h.1 (by omega)]; exact gam_less h hk
  · rw [low_at h.1 (by omega), up_at h.1 (by omega)]
    have := (impl_SumLie_ok p X Y hl _ _ ((gamU h.1 k).rl hn) ((zetU h.1 m).rl hn)).pure
    rw [tf_t ⟨spn_of h (gamU h.1 k), spn_of h (zetU h.1 m)⟩, gz_sum h hm] at this
    exact this
theorem serN {p : Int} {X : List (List Int)} {Y : List (List (List Int))} (hl : ringlen X Y) (h : ¬ LieR p X Y) : ACp Try.prog 74 [ring p X Y] (.t [cubes [], .i .i64 1]) ∧ ACp Try.prog 75 [ring p X Y] (.t [cubes [], .i .i64 1]) ∧ ACp Try.prog 76 [ring p X Y] (.t [cubes [], .i .i64 1]) ∧ ACp Try.prog 77 [ring p X Y] (.t [cubes [], .i .i64 1]) := by
  have h1 := (impl_LowerLieSeries_ok p X Y hl).pure
  have h2 := spec_LowerLieSeries_ok p X Y hl
  have h3 := (impl_UpperLieSeries_ok p X Y hl).pure
  have h4 := spec_UpperLieSeries_ok p X Y hl
  rw [tf_f h] at h1 h2 h3 h4
  exact ⟨h1, h2, h3, h4⟩
set_option maxRecDepth 100000 in
set_option maxHeartbeats 4000000 in
theorem law_FnLieSeries (bs : List Int) (hb : bytsok bs) : ACp Try.prog 12 [byts bs] (.b true) := by
 have hb1 := hb.1
 refine ACp.intro' envOk Try.func12 rfl (by kernel_rfl) Try.ntmps12 Try.results12 (.b _) (fun nx => ?_)
 refine AW.sr envOk (fun N hN => ?_)
 simp -dsimp -implicitDefEqProofs (maxSteps := 800000) (disch := omega) only [go_sem, undef, reduceAdd, reduceSub, reduceGT, reduceEqDiff, reduceMul, w64, gd_c, cubes, bne_self_eq_false, beq_self_eq_true, Bool.not_true, Bool.not_false]
 refine hN _ ?_
 try clear hN N
 refine AW.seq (fun N1 hN1 => ?_)
 refine AW.sr envOk (fun N hN => ?_)
 simp -dsimp -implicitDefEqProofs (maxSteps := 800000) (disch := omega) only [go_sem, undef, reduceAdd, reduceSub, reduceGT, reduceEqDiff, reduceMul, w64, gd_c, cubes, bne_self_eq_false, beq_self_eq_true, Bool.not_true, Bool.not_false]
 refine AC.pure (.of (laws_big_ok bs hb1 )) ?_
 try simp -dsimp -implicitDefEqProofs (maxSteps := 800000) (disch := omega) only [go_sem, undef, reduceAdd, reduceSub, reduceGT, reduceEqDiff, reduceMul, w64, gd_c, cubes, bne_self_eq_false, beq_self_eq_true, Bool.not_true, Bool.not_false]
 refine hN _ ?_
 try clear hN N
 refine AW.cond rfl (fun h1 => ?_) (fun h1 => ?_)
 ·try simp only [cn] at h1
  refine AW.sr envOk (fun N hN => ?_)
  simp -dsimp -implicitDefEqProofs (maxSteps := 800000) (disch := omega) only [go_sem, undef, reduceAdd, reduceSub, reduceGT, reduceEqDiff, reduceMul, w64, gd_c, cubes, bne_self_eq_false, beq_self_eq_true, Bool.not_true, Bool.not_false]
  refine hN _ ?_
  try clear hN N
  refine AW.ret ?_
  simp -dsimp -implicitDefEqProofs (maxSteps := 800000) (disch := omega) only [go_sem, undef, reduceAdd, reduceSub, reduceGT, reduceEqDiff, reduceMul]
  all_goals rfl
 ·try simp only [cn] at h1
  refine AW.skip ?_
  simp only [thn, blk]
  refine hN1 _ ?_
  try clear hN1 N1
  refine AW.sr envOk (fun N hN => ?_)
  simp -dsimp -implicitDefEqProofs (maxSteps := 800000) (disch := omega) only [go_sem, undef, reduceAdd, reduceSub, reduceGT, reduceEqDiff, reduceMul, w64, gd_c, cubes, bne_self_eq_false, beq_self_eq_true, Bool.not_true, Bool.not_false]
  refine AC.mono2 (AC.frame (spec_DrawLowerLieSeries_p bs hb (by omega) _)) ?_
  rintro m1 H1 r1 hm1 ⟨H0, ⟨p, X, Y, rfl, hl, h6⟩, hlow, hhigh⟩
  by_cases hv : LieR p X Y
  ·skip
   have sf := serF hl hv
   generalize lowK p X Y = K at sf
   generalize upK p X Y = U at sf
   generalize aboveL p X Y [] (wholeL X.length) = C at sf
   have hkl := sf.kl
   have hku := sf.ku
   have hkb : ((K.length : Int) != (U.length : Int)) = false := by rw [hku]; exact bne_self_eq_false _
   try simp -dsimp -implicitDefEqProofs (maxSteps := 800000) (disch := omega) only [go_sem, undef, reduceAdd, reduceSub, reduceGT, reduceEqDiff, reduceMul, ring, rows, cubes, w64]
   refine hN _ ?_
   try clear hN N
   refine AW.freezeQ 3 (nx + 1 + 2 + 2) _ rfl (upd_same _ _ _) ?_
   simp -dsimp -implicitDefEqProofs (maxSteps := 800000) (disch := omega) only [go_sem, undef, reduceAdd, reduceSub, reduceGT, reduceEqDiff, reduceMul]
   refine AW.sr envOk (fun N hN => ?_)
   simp -dsimp -implicitDefEqProofs (maxSteps := 800000) (disch := omega) only [go_sem, undef, reduceAdd, reduceSub, reduceGT, reduceEqDiff, reduceMul, w64, gd_c, cubes, bne_self_eq_false, beq_self_eq_true, Bool.not_true, Bool.not_false]
   refine AC.pure (.of (sf.li )) ?_
   try simp -dsimp -implicitDefEqProofs (maxSteps := 800000) (disch := omega) only [go_sem, undef, reduceAdd, reduceSub, reduceGT, reduceEqDiff, reduceMul, w64, gd_c, cubes, bne_self_eq_false, beq_self_eq_true, Bool.not_true, Bool.not_false]
   refine hN _ ?_
   try clear hN N
   refine AW.sr envOk (fun N hN => ?_)
   simp -dsimp -implicitDefEqProofs (maxSteps := 800000) (disch := omega) only [go_sem, undef, reduceAdd, reduceSub, reduceGT, reduceEqDiff, reduceMul, w64, gd_c, cubes, bne_self_eq_false, beq_self_eq_true, Bool.not_true, Bool.not_false]
   refine AC.pure (.of (sf.ls )) ?_
   try simp -dsimp -implicitDefEqProofs (maxSteps := 800000) (disch := omega) only [go_sem, undef, reduceAdd, reduceSub, reduceGT, reduceEqDiff, reduceMul, w64, gd_c, cubes, bne_self_eq_false, beq_self_eq_true, Bool.not_true, Bool.not_false]
   refine hN _ ?_
   try clear hN N
   refine AW.sr envOk (fun N hN => ?_)
   simp -dsimp -implicitDefEqProofs (maxSteps := 800000) (disch := omega) only [go_sem, undef, reduceAdd, reduceSub, reduceGT, reduceEqDiff, reduceMul, w64, gd_c, cubes, bne_self_eq_false, beq_self_eq_true, Bool.not_true, Bool.not_false]
   refine AC.pure (.of (sf.ui )) ?_
   try simp -dsimp -implicitDefEqProofs (maxSteps := 800000) (disch := omega) only [go_sem, undef, reduceAdd, reduceSub, reduceGT, reduceEqDiff, reduceMul, w64, gd_c, cubes, bne_self_eq_false, beq_self_eq_true, Bool.not_true, Bool.not_false]
   refine hN _ ?_
   try clear hN N
   refine AW.sr envOk (fun N hN => ?_)
   simp -dsimp -implicitDefEqProofs (maxSteps := 800000) (disch := omega) only [go_sem, undef, reduceAdd, reduceSub, reduceGT, reduceEqDiff, reduceMul, w64, gd_c, cubes, bne_self_eq_false, beq_self_eq_true, Bool.not_true, Bool.not_false]
   refine AC.pure (.of (sf.us )) ?_
   try simp -dsimp -implicitDefEqProofs (maxSteps := 800000) (disch := omega) only [go_sem, undef, reduceAdd, reduceSub, reduceGT, reduceEqDiff, reduceMul, w64, gd_c, cubes, bne_self_eq_false, beq_self_eq_true, Bool.not_true, Bool.not_false]
   refine hN _ ?_
   try clear hN N
   refine AW.seq (fun N2 hN2 => ?_)
   refine AW.sr envOk (fun N hN => ?_)
   simp -dsimp -implicitDefEqProofs (maxSteps := 800000) (disch := omega) only [go_sem, undef, reduceAdd, reduceSub, reduceGT, reduceEqDiff, reduceMul, w64, gd_c, cubes, bne_self_eq_false, beq_self_eq_true, Bool.not_true, Bool.not_false]
   refine AC.pure (.of (laws_likeCubes5_e K sf.kc )) ?_
   try simp -dsimp -implicitDefEqProofs (maxSteps := 800000) (disch := omega) only [go_sem, undef, reduceAdd, reduceSub, reduceGT, reduceEqDiff, reduceMul, w64, gd_c, cubes, bne_self_eq_false, beq_self_eq_true, Bool.not_true, Bool.not_false]
   refine AC.pure (.of (laws_likeCubes5_e U sf.uc )) ?_
   try simp -dsimp -implicitDefEqProofs (maxSteps := 800000) (disch := omega) only [go_sem, undef, reduceAdd, reduceSub, reduceGT, reduceEqDiff, reduceMul, w64, gd_c, cubes, bne_self_eq_false, beq_self_eq_true, Bool.not_true, Bool.not_false]
   refine hN _ ?_
   try clear hN N
   refine AW.condF rfl ?_
   refine AW.skip ?_
   simp only [thn, blk]
   refine hN2 _ ?_
   try clear hN2 N2
   refine AW.seq (fun N3 hN3 => ?_)
   refine AW.sr envOk (fun N hN => ?_)
   simp -dsimp -implicitDefEqProofs (maxSteps := 800000) (disch := omega) only [go_sem, undef, reduceAdd, reduceSub, reduceGT, reduceEqDiff, reduceMul, w64, gd_c, cubes, bne_self_eq_false, beq_self_eq_true, Bool.not_true, Bool.not_false]
   refine hN _ ?_
   try clear hN N
   refine AW.condF rfl ?_
   refine AW.skip ?_
   simp only [thn, blk]
   refine hN3 _ ?_
   try clear hN3 N3
   refine AW.sr envOk (fun N hN => ?_)
   simp -dsimp -implicitDefEqProofs (maxSteps := 800000) (disch := omega) only [go_sem, undef, reduceAdd, reduceSub, reduceGT, reduceEqDiff, reduceMul, w64, gd_c, cubes, bne_self_eq_false, beq_self_eq_true, Bool.not_true, Bool.not_false]
   refine AC.pure (.of (sf.lc )) ?_
   try simp -dsimp -implicitDefEqProofs (maxSteps := 800000) (disch := omega) only [go_sem, undef, reduceAdd, reduceSub, reduceGT, reduceEqDiff, reduceMul, w64, gd_c, cubes, bne_self_eq_false, beq_self_eq_true, Bool.not_true, Bool.not_false]
   refine hN _ ?_
   try clear hN N
   refine AW.sr envOk (fun N hN => ?_)
   simp -dsimp -implicitDefEqProofs (maxSteps := 800000) (disch := omega) only [go_sem, undef, reduceAdd, reduceSub, reduceGT, reduceEqDiff, reduceMul, w64, gd_c, cubes, bne_self_eq_false, beq_self_eq_true, Bool.not_true, Bool.not_false]
   refine AC.pure (.of (sf.ce )) ?_
   try simp -dsimp -implicitDefEqProofs (maxSteps := 800000) (disch := omega) only [go_sem, undef, reduceAdd, reduceSub, reduceGT, reduceEqDiff, reduceMul, w64, gd_c, cubes, bne_self_eq_false, beq_self_eq_true, Bool.not_true, Bool.not_false]
   refine hN _ ?_
   try clear hN N
   refine AW.seq (fun N4 hN4 => ?_)
   refine AW.sr envOk (fun N hN => ?_)
   simp -dsimp -implicitDefEqProofs (maxSteps := 800000) (disch := omega) only [go_sem, undef, reduceAdd, reduceSub, reduceGT, reduceEqDiff, reduceMul, w64, gd_c, cubes, bne_self_eq_false, beq_self_eq_true, Bool.not_true, Bool.not_false, hkb]
   refine hN _ ?_
   try clear hN N
   refine AW.condF rfl ?_
   refine AW.skip ?_
   simp only [thn, blk]
   refine hN4 _ ?_
   try clear hN4 N4
   refine AW.seq (fun N5 hN5 => ?_)
   refine AW.sr envOk (fun N hN => ?_)
   simp -dsimp -implicitDefEqProofs (maxSteps := 800000) (disch := omega) only [go_sem, undef, reduceAdd, reduceSub, reduceGT, reduceEqDiff, reduceMul, w64, gd_c, cubes, bne_self_eq_false, beq_self_eq_true, Bool.not_true, Bool.not_false]
   refine gopB.mk' (fun h2 => ?_) (fun h2 => ?_)
   ·try simp only [cn] at h2
    try simp -dsimp -implicitDefEqProofs (maxSteps := 800000) (disch := omega) only [go_sem, undef, reduceAdd, reduceSub, reduceGT, reduceEqDiff, reduceMul, w64, gd_c, cubes, bne_self_eq_false, beq_self_eq_true, Bool.not_true, Bool.not_false]
    refine AC.pure (.of (laws_likeRows5_q _ _ (getD_mem sf.uc.v .nil _) (sf.cu (by omega)) )) ?_
    try simp -dsimp -implicitDefEqProofs (maxSteps := 800000) (disch := omega) only [go_sem, undef, reduceAdd, reduceSub, reduceGT, reduceEqDiff, reduceMul, w64, gd_c, cubes, bne_self_eq_false, beq_self_eq_true, Bool.not_true, Bool.not_false]
    refine hN _ ?_
    try clear hN N
    refine AW.condF rfl ?_
    refine AW.skip ?_
    simp only [thn, blk]
    refine hN5 _ ?_
    try clear hN5 N5
    refine AW.seq (fun N6 hN6 => ?_)
    refine AW.sr envOk (fun N hN => ?_)
    simp -dsimp -implicitDefEqProofs (maxSteps := 800000) (disch := omega) only [go_sem, undef, reduceAdd, reduceSub, reduceGT, reduceEqDiff, reduceMul, w64, gd_c, cubes, bne_self_eq_false, beq_self_eq_true, Bool.not_true, Bool.not_false]
    refine hN _ ?_
    try clear hN N
    refine AW.block ?_
    refine AW.loopN (α := Nat) (fun x => sl 198 [(3, .p 0 [.i .i64 p, rows X, cubes Y]), (6, cubes K), (10, cubes U), (16, .i .i64 x)]) (fun _ => noH) (fun x m => x ≤ K.length) (fun x => K.length - x) (0) ?_ ?_ (by intro d cs hd; cases hd) ?_
    ·omega
    ·simp (disch := omega) [wks, wkA, sl, ring, rows, cubes] <;> omega
    ·skip
     rintro k m hk
     simp -dsimp -implicitDefEqProofs (maxSteps := 800000) (disch := omega) only [go_sem, undef, reduceAdd, reduceSub, reduceGT, reduceEqDiff, reduceMul]
     refine AW.seq (fun N7 hN7 => ?_)
     refine AW.sr envOk (fun N hN => ?_)
     simp -dsimp -implicitDefEqProofs (maxSteps := 800000) (disch := omega) only [go_sem, undef, reduceAdd, reduceSub, reduceGT, reduceEqDiff, reduceMul, w64, gd_c, cubes, bne_self_eq_false, beq_self_eq_true, Bool.not_true, Bool.not_false]
     refine hN _ ?_
     try clear hN N
     refine AW.cond rfl (fun h3 => ?_) (fun h3 => ?_)
     ·try simp only [cn] at h3
      refine AW.skip ?_
      simp only [thn, blk]
      refine hN7 _ ?_
      try clear hN7 N7
      refine AW.seq (fun N8 hN8 => ?_)
      refine AW.block ?_
      refine AW.seq (fun N hN => ?_)
      refine AW.drawF envOk (by kernel_rfl) [true, true, true, true, true, true, true, true, true, false, false] (by kernel_rfl) ?_
      simp -dsimp -implicitDefEqProofs (maxSteps := 800000) (disch := omega) only [go_sem, undef, reduceAdd, reduceSub, reduceGT, reduceEqDiff, reduceMul, w64, gd_c, cubes, bne_self_eq_false, beq_self_eq_true, Bool.not_true, Bool.not_false]
      refine ⟨_, .of (sf.ki k (by omega) ), ?_⟩
      try simp -dsimp -implicitDefEqProofs (maxSteps := 800000) (disch := omega) only [go_sem, undef, reduceAdd, reduceSub, reduceGT, reduceEqDiff, reduceMul, w64, gd_c, cubes, bne_self_eq_false, beq_self_eq_true, Bool.not_true, Bool.not_false]
      refine hN _ ?_
      try clear hN N
      refine AW.seq (fun N hN => ?_)
      refine AW.drawF envOk (by kernel_rfl) [true, true, true, true, true, true, true, true, true, false, false] (by kernel_rfl) ?_
      simp -dsimp -implicitDefEqProofs (maxSteps := 800000) (disch := omega) only [go_sem, undef, reduceAdd, reduceSub, reduceGT, reduceEqDiff, reduceMul, w64, gd_c, cubes, bne_self_eq_false, beq_self_eq_true, Bool.not_true, Bool.not_false]
      refine ⟨_, .of (sf.un k (by omega) ), ?_⟩
      try simp -dsimp -implicitDefEqProofs (maxSteps := 800000) (disch := omega) only [go_sem, undef, reduceAdd, reduceSub, reduceGT, reduceEqDiff, reduceMul, w64, gd_c, cubes, bne_self_eq_false, beq_self_eq_true, Bool.not_true, Bool.not_false]
      refine hN _ ?_
      try clear hN N
      refine AW.seq (fun N9 hN9 => ?_)
      have hkt : ((k : Int) - 1).toNat = k - 1 := by omega
      have hle : 0 < k → decide (((K.getD k []).length : Int) ≥ ((K.getD (k - 1) []).length : Int)) = false := fun hk0 => decide_eq_false (by have := sf.less (k - 1) (by omega); rw [Nat.sub_add_cancel hk0] at this; omega)
      refine AW.seq (fun N hN => ?_)
      refine AW.drawL envOk (by kernel_rfl) 32 (by kernel_rfl) ?_
      simp -dsimp -implicitDefEqProofs (maxSteps := 800000) (disch := omega) only [hr_nil, hr_one, hr_if, List.take_succ_cons, List.take_zero, List.drop_succ_cons, List.drop_zero, List.take_nil, List.drop_nil, go_sem, undef, reduceAdd, reduceSub, reduceGT, reduceEqDiff, reduceMul, w64, gd_c, cubes, bne_self_eq_false, beq_self_eq_true, Bool.not_true, Bool.not_false, rows]
      refine gopB.mk' (fun h4 => ?_) (fun h4 => ?_)
      ·try simp only [cn] at h4
       try simp -dsimp -implicitDefEqProofs (maxSteps := 800000) (disch := omega) only [go_sem, undef, reduceAdd, reduceSub, reduceGT, reduceEqDiff, reduceMul, w64, gd_c, cubes, rows, hkt, hle, bne_self_eq_false, beq_self_eq_true, Bool.not_true, Bool.not_false]
       try simp -dsimp -implicitDefEqProofs (maxSteps := 800000) (disch := omega) only [go_sem, undef, reduceAdd, reduceSub, reduceGT, reduceEqDiff, reduceMul, w64, gd_c, cubes, bne_self_eq_false, beq_self_eq_true, Bool.not_true, Bool.not_false]
       refine hN _ ?_
       try clear hN N
       refine AW.condF rfl ?_
       refine AW.skip ?_
       simp only [thn, blk]
       refine hN9 _ ?_
       try clear hN9 N9
       have htn : ((U.length : Int) - 1 - (k : Int)).toNat = U.length - 1 - k := by omega
       refine AW.seq (fun N hN => ?_)
       refine AW.drawF envOk (by kernel_rfl) [true, true, true, true, true, true, true, true, true, true, true, true, true, true, true, true, true, false, false] (by kernel_rfl) ?_
       simp -dsimp -implicitDefEqProofs (maxSteps := 800000) (disch := omega) only [go_sem, undef, reduceAdd, reduceSub, reduceGT, reduceEqDiff, reduceMul, w64, gd_c, cubes, bne_self_eq_false, beq_self_eq_true, Bool.not_true, Bool.not_false, htn]
       refine ⟨_, .of (sf.sum k (U.length - 1 - k) (by omega) ), ?_⟩
       try simp -dsimp -implicitDefEqProofs (maxSteps := 800000) (disch := omega) only [go_sem, undef, reduceAdd, reduceSub, reduceGT, reduceEqDiff, reduceMul, w64, gd_c, cubes, bne_self_eq_false, beq_self_eq_true, Bool.not_true, Bool.not_false]
       refine hN _ ?_
       try clear hN N
       refine AW.sr envOk (fun N hN => ?_)
       simp -dsimp -implicitDefEqProofs (maxSteps := 800000) (disch := omega) only [go_sem, undef, reduceAdd, reduceSub, reduceGT, reduceEqDiff, reduceMul, w64, gd_c, cubes, bne_self_eq_false, beq_self_eq_true, Bool.not_true, Bool.not_false, htn]
       refine AC.pure (.of (laws_likeRows5_e _ (getD_mem sf.uc.v .nil _) )) ?_
       try simp -dsimp -implicitDefEqProofs (maxSteps := 800000) (disch := omega) only [go_sem, undef, reduceAdd, reduceSub, reduceGT, reduceEqDiff, reduceMul, w64, gd_c, cubes, bne_self_eq_false, beq_self_eq_true, Bool.not_true, Bool.not_false]
       refine hN _ ?_
       try clear hN N
       refine AW.condF rfl ?_
       refine AW.skip ?_
       simp only [thn, blk]
       refine hN8 _ ?_
       try clear hN8 N8
       refine AW.regionL envOk ?_
       simp -dsimp -implicitDefEqProofs (maxSteps := 800000) (disch := omega) only [go_sem, undef, reduceAdd, reduceSub, reduceGT, reduceEqDiff, reduceMul, w64, gd_c, cubes, bne_self_eq_false, beq_self_eq_true, Bool.not_true, Bool.not_false]
       refine ⟨k + 1, ?_, fun _ _ h => h, ?_, ?_⟩
       ·simp (disch := omega) [wks, wkA, sl, w64, ints, rows, cubes, w64, gd_c, cubes, bne_self_eq_false, beq_self_eq_true, Bool.not_true, Bool.not_false] <;> omega
       ·omega
       ·first | omega | (simp only; omega)
      ·try simp only [cn] at h4
       try simp -dsimp -implicitDefEqProofs (maxSteps := 800000) (disch := omega) only [go_sem, undef, reduceAdd, reduceSub, reduceGT, reduceEqDiff, reduceMul, w64, gd_c, cubes, bne_self_eq_false, beq_self_eq_true, Bool.not_true, Bool.not_false]
       refine hN _ ?_
       try clear hN N
       refine AW.condF rfl ?_
       refine AW.skip ?_
       simp only [thn, blk]
       refine hN9 _ ?_
       try clear hN9 N9
       have htn : ((U.length : Int) - 1 - (k : Int)).toNat = U.length - 1 - k := by omega
       refine AW.seq (fun N hN => ?_)
       refine AW.drawF envOk (by kernel_rfl) [true, true, true, true, true, true, true, true, true, true, true, true, true, true, true, true, true, false, false] (by kernel_rfl) ?_
       simp -dsimp -implicitDefEqProofs (maxSteps := 800000) (disch := omega) only [go_sem, undef, reduceAdd, reduceSub, reduceGT, reduceEqDiff, reduceMul, w64, gd_c, cubes, bne_self_eq_false, beq_self_eq_true, Bool.not_true, Bool.not_false, htn]
       refine ⟨_, .of (sf.sum k (U.length - 1 - k) (by omega) ), ?_⟩
       try simp -dsimp -implicitDefEqProofs (maxSteps := 800000) (disch := omega) only [go_sem, undef, reduceAdd, reduceSub, reduceGT, reduceEqDiff, reduceMul, w64, gd_c, cubes, bne_self_eq_false, beq_self_eq_true, Bool.not_true, Bool.not_false]
       refine hN _ ?_
       try clear hN N
       refine AW.sr envOk (fun N hN => ?_)
       simp -dsimp -implicitDefEqProofs (maxSteps := 800000) (disch := omega) only [go_sem, undef, reduceAdd, reduceSub, reduceGT, reduceEqDiff, reduceMul, w64, gd_c, cubes, bne_self_eq_false, beq_self_eq_true, Bool.not_true, Bool.not_false, htn]
       refine AC.pure (.of (laws_likeRows5_e _ (getD_mem sf.uc.v .nil _) )) ?_
       try simp -dsimp -implicitDefEqProofs (maxSteps := 800000) (disch := omega) only [go_sem, undef, reduceAdd, reduceSub, reduceGT, reduceEqDiff, reduceMul, w64, gd_c, cubes, bne_self_eq_false, beq_self_eq_true, Bool.not_true, Bool.not_false]
       refine hN _ ?_
       try clear hN N
       refine AW.condF rfl ?_
       refine AW.skip ?_
       simp only [thn, blk]
       refine hN8 _ ?_
       try clear hN8 N8
       refine AW.regionL envOk ?_
       simp -dsimp -implicitDefEqProofs (maxSteps := 800000) (disch := omega) only [go_sem, undef, reduceAdd, reduceSub, reduceGT, reduceEqDiff, reduceMul, w64, gd_c, cubes, bne_self_eq_false, beq_self_eq_true, Bool.not_true, Bool.not_false]
       refine ⟨k + 1, ?_, fun _ _ h => h, ?_, ?_⟩
       ·simp (disch := omega) [wks, wkA, sl, w64, ints, rows, cubes, w64, gd_c, cubes, bne_self_eq_false, beq_self_eq_true, Bool.not_true, Bool.not_false] <;> omega
       ·omega
       ·first | omega | (simp only; omega)
     ·try simp only [cn] at h3
      refine AW.exit ?_
      simp only [thn, blk, if_true]
      refine hN6 _ ?_
      try clear hN6 N6
      refine AW.sr envOk (fun N hN => ?_)
      simp -dsimp -implicitDefEqProofs (maxSteps := 800000) (disch := omega) only [go_sem, undef, reduceAdd, reduceSub, reduceGT, reduceEqDiff, reduceMul, w64, gd_c, cubes, bne_self_eq_false, beq_self_eq_true, Bool.not_true, Bool.not_false]
      refine hN _ ?_
      try clear hN N
      refine AW.ret ?_
      simp -dsimp -implicitDefEqProofs (maxSteps := 800000) (disch := omega) only [go_sem, undef, reduceAdd, reduceSub, reduceGT, reduceEqDiff, reduceMul]
      all_goals rfl
   ·try simp only [cn] at h2
    try simp -dsimp -implicitDefEqProofs (maxSteps := 800000) (disch := omega) only [go_sem, undef, reduceAdd, reduceSub, reduceGT, reduceEqDiff, reduceMul, w64, gd_c, cubes, bne_self_eq_false, beq_self_eq_true, Bool.not_true, Bool.not_false]
    refine hN _ ?_
    try clear hN N
    refine AW.condF rfl ?_
    refine AW.skip ?_
    simp only [thn, blk]
    refine hN5 _ ?_
    try clear hN5 N5
    refine AW.seq (fun N10 hN10 => ?_)
    refine AW.sr envOk (fun N hN => ?_)
    simp -dsimp -implicitDefEqProofs (maxSteps := 800000) (disch := omega) only [go_sem, undef, reduceAdd, reduceSub, reduceGT, reduceEqDiff, reduceMul, w64, gd_c, cubes, bne_self_eq_false, beq_self_eq_true, Bool.not_true, Bool.not_false]
    refine hN _ ?_
    try clear hN N
    refine AW.block ?_
    clear h2
    refine AW.loopN (α := Nat) (fun x => sl 198 [(3, .p 0 [.i .i64 p, rows X, cubes Y]), (6, cubes K), (10, cubes U), (16, .i .i64 x)]) (fun _ => noH) (fun x m => x ≤ K.length) (fun x => K.length - x) (0) ?_ ?_ (by intro d cs hd; cases hd) ?_
    ·omega
    ·simp (disch := omega) [wks, wkA, sl, ring, rows, cubes] <;> omega
    ·skip
     rintro k m hk
     simp -dsimp -implicitDefEqProofs (maxSteps := 800000) (disch := omega) only [go_sem, undef, reduceAdd, reduceSub, reduceGT, reduceEqDiff, reduceMul]
     refine AW.seq (fun N11 hN11 => ?_)
     refine AW.sr envOk (fun N hN => ?_)
     simp -dsimp -implicitDefEqProofs (maxSteps := 800000) (disch := omega) only [go_sem, undef, reduceAdd, reduceSub, reduceGT, reduceEqDiff, reduceMul, w64, gd_c, cubes, bne_self_eq_false, beq_self_eq_true, Bool.not_true, Bool.not_false]
     refine hN _ ?_
     try clear hN N
     refine AW.cond rfl (fun h5 => ?_) (fun h5 => ?_)
     ·try simp only [cn] at h5
      refine AW.skip ?_
      simp only [thn, blk]
      refine hN11 _ ?_
      try clear hN11 N11
      refine AW.seq (fun N12 hN12 => ?_)
      refine AW.block ?_
      refine AW.seq (fun N hN => ?_)
      refine AW.drawF envOk (by kernel_rfl) [true, true, true, true, true, true, true, true, true, false, false] (by kernel_rfl) ?_
      simp -dsimp -implicitDefEqProofs (maxSteps := 800000) (disch := omega) only [go_sem, undef, reduceAdd, reduceSub, reduceGT, reduceEqDiff, reduceMul, w64, gd_c, cubes, bne_self_eq_false, beq_self_eq_true, Bool.not_true, Bool.not_false]
      refine ⟨_, .of (sf.ki k (by omega) ), ?_⟩
      try simp -dsimp -implicitDefEqProofs (maxSteps := 800000) (disch := omega) only [go_sem, undef, reduceAdd, reduceSub, reduceGT, reduceEqDiff, reduceMul, w64, gd_c, cubes, bne_self_eq_false, beq_self_eq_true, Bool.not_true, Bool.not_false]
      refine hN _ ?_
      try clear hN N
      refine AW.seq (fun N hN => ?_)
      refine AW.drawF envOk (by kernel_rfl) [true, true, true, true, true, true, true, true, true, false, false] (by kernel_rfl) ?_
      simp -dsimp -implicitDefEqProofs (maxSteps := 800000) (disch := omega) only [go_sem, undef, reduceAdd, reduceSub, reduceGT, reduceEqDiff, reduceMul, w64, gd_c, cubes, bne_self_eq_false, beq_self_eq_true, Bool.not_true, Bool.not_false]
      refine ⟨_, .of (sf.un k (by omega) ), ?_⟩
      try simp -dsimp -implicitDefEqProofs (maxSteps := 800000) (disch := omega) only [go_sem, undef, reduceAdd, reduceSub, reduceGT, reduceEqDiff, reduceMul, w64, gd_c, cubes, bne_self_eq_false, beq_self_eq_true, Bool.not_true, Bool.not_false]
      refine hN _ ?_
      try clear hN N
      refine AW.seq (fun N13 hN13 => ?_)
      have hkt : ((k : Int) - 1).toNat = k - 1 := by omega
      have hle : 0 < k → decide (((K.getD k []).length : Int) ≥ ((K.getD (k - 1) []).length : Int)) = false := fun hk0 => decide_eq_false (by have := sf.less (k - 1) (by omega); rw [Nat.sub_add_cancel hk0] at this; omega)
      refine AW.seq (fun N hN => ?_)
      refine AW.drawL envOk (by kernel_rfl) 32 (by kernel_rfl) ?_
      simp -dsimp -implicitDefEqProofs (maxSteps := 800000) (disch := omega) only [hr_nil, hr_one, hr_if, List.take_succ_cons, List.take_zero, List.drop_succ_cons, List.drop_zero, List.take_nil, List.drop_nil, go_sem, undef, reduceAdd, reduceSub, reduceGT, reduceEqDiff, reduceMul, w64, gd_c, cubes, bne_self_eq_false, beq_self_eq_true, Bool.not_true, Bool.not_false, rows]
      refine gopB.mk' (fun h6 => ?_) (fun h6 => ?_)
      ·try simp only [cn] at h6
       try simp -dsimp -implicitDefEqProofs (maxSteps := 800000) (disch := omega) only [go_sem, undef, reduceAdd, reduceSub, reduceGT, reduceEqDiff, reduceMul, w64, gd_c, cubes, rows, hkt, hle, bne_self_eq_false, beq_self_eq_true, Bool.not_true, Bool.not_false]
       try simp -dsimp -implicitDefEqProofs (maxSteps := 800000) (disch := omega) only [go_sem, undef, reduceAdd, reduceSub, reduceGT, reduceEqDiff, reduceMul, w64, gd_c, cubes, bne_self_eq_false, beq_self_eq_true, Bool.not_true, Bool.not_false]
       refine hN _ ?_
       try clear hN N
       refine AW.condF rfl ?_
       refine AW.skip ?_
       simp only [thn, blk]
       refine hN13 _ ?_
       try clear hN13 N13
       have htn : ((U.length : Int) - 1 - (k : Int)).toNat = U.length - 1 - k := by omega
       refine AW.seq (fun N hN => ?_)
       refine AW.drawF envOk (by kernel_rfl) [true, true, true, true, true, true, true, true, true, true, true, true, true, true, true, true, true, false, false] (by kernel_rfl) ?_
       simp -dsimp -implicitDefEqProofs (maxSteps := 800000) (disch := omega) only [go_sem, undef, reduceAdd, reduceSub, reduceGT, reduceEqDiff, reduceMul, w64, gd_c, cubes, bne_self_eq_false, beq_self_eq_true, Bool.not_true, Bool.not_false, htn]
       refine ⟨_, .of (sf.sum k (U.length - 1 - k) (by omega) ), ?_⟩
       try simp -dsimp -implicitDefEqProofs (maxSteps := 800000) (disch := omega) only [go_sem, undef, reduceAdd, reduceSub, reduceGT, reduceEqDiff, reduceMul, w64, gd_c, cubes, bne_self_eq_false, beq_self_eq_true, Bool.not_true, Bool.not_false]
       refine hN _ ?_
       try clear hN N
       refine AW.sr envOk (fun N hN => ?_)
       simp -dsimp -implicitDefEqProofs (maxSteps := 800000) (disch := omega) only [go_sem, undef, reduceAdd, reduceSub, reduceGT, reduceEqDiff, reduceMul, w64, gd_c, cubes, bne_self_eq_false, beq_self_eq_true, Bool.not_true, Bool.not_false, htn]
       refine AC.pure (.of (laws_likeRows5_e _ (getD_mem sf.uc.v .nil _) )) ?_
       try simp -dsimp -implicitDefEqProofs (maxSteps := 800000) (disch := omega) only [go_sem, undef, reduceAdd, reduceSub, reduceGT, reduceEqDiff, reduceMul, w64, gd_c, cubes, bne_self_eq_false, beq_self_eq_true, Bool.not_true, Bool.not_false]
       refine hN _ ?_
       try clear hN N
       refine AW.condF rfl ?_
       refine AW.skip ?_
       simp only [thn, blk]
       refine hN12 _ ?_
       try clear hN12 N12
       refine AW.regionL envOk ?_
       simp -dsimp -implicitDefEqProofs (maxSteps := 800000) (disch := omega) only [go_sem, undef, reduceAdd, reduceSub, reduceGT, reduceEqDiff, reduceMul, w64, gd_c, cubes, bne_self_eq_false, beq_self_eq_true, Bool.not_true, Bool.not_false]
       refine ⟨k + 1, ?_, fun _ _ h => h, ?_, ?_⟩
       ·simp (disch := omega) [wks, wkA, sl, w64, ints, rows, cubes, w64, gd_c, cubes, bne_self_eq_false, beq_self_eq_true, Bool.not_true, Bool.not_false] <;> omega
       ·omega
       ·first | omega | (simp only; omega)
      ·try simp only [cn] at h6
       try simp -dsimp -implicitDefEqProofs (maxSteps := 800000) (disch := omega) only [go_sem, undef, reduceAdd, reduceSub, reduceGT, reduceEqDiff, reduceMul, w64, gd_c, cubes, bne_self_eq_false, beq_self_eq_true, Bool.not_true, Bool.not_false]
       refine hN _ ?_
       try clear hN N
       refine AW.condF rfl ?_
       refine AW.skip ?_
       simp only [thn, blk]
       refine hN13 _ ?_
       try clear hN13 N13
       have htn : ((U.length : Int) - 1 - (k : Int)).toNat = U.length - 1 - k := by omega
       refine AW.seq (fun N hN => ?_)
       refine AW.drawF envOk (by kernel_rfl) [true, true, true, true, true, true, true, true, true, true, true, true, true, true, true, true, true, false, false] (by kernel_rfl) ?_
       simp -dsimp -implicitDefEqProofs (maxSteps := 800000) (disch := omega) only [go_sem, undef, reduceAdd, reduceSub, reduceGT, reduceEqDiff, reduceMul, w64, gd_c, cubes, bne_self_eq_false, beq_self_eq_true, Bool.not_true, Bool.not_false, htn]
       refine ⟨_, .of (sf.sum k (U.length - 1 - k) (by omega) ), ?_⟩
       try simp -dsimp -implicitDefEqProofs (maxSteps := 800000) (disch := omega) only [go_sem, undef, reduceAdd, reduceSub, reduceGT, reduceEqDiff, reduceMul, w64, gd_c, cubes, bne_self_eq_false, beq_self_eq_true, Bool.not_true, Bool.not_false]
       refine hN _ ?_
       try clear hN N
       refine AW.sr envOk (fun N hN => ?_)
       simp -dsimp -implicitDefEqProofs (maxSteps := 800000) (disch := omega) only [go_sem, undef, reduceAdd, reduceSub, reduceGT, reduceEqDiff, reduceMul, w64, gd_c, cubes, bne_self_eq_false, beq_self_eq_true, Bool.not_true, Bool.not_false, htn]
       refine AC.pure (.of (laws_likeRows5_e _ (getD_mem sf.uc.v .nil _) )) ?_
       try simp -dsimp -implicitDefEqProofs (maxSteps := 800000) (disch := omega) only [go_sem, undef, reduceAdd, reduceSub, reduceGT, reduceEqDiff, reduceMul, w64, gd_c, cubes, bne_self_eq_false, beq_self_eq_true, Bool.not_true, Bool.not_false]
       refine hN _ ?_
       try clear hN N
       refine AW.condF rfl ?_
       refine AW.skip ?_
       simp only [thn, blk]
       refine hN12 _ ?_
       try clear hN12 N12
       refine AW.regionL envOk ?_
       simp -dsimp -implicitDefEqProofs (maxSteps := 800000) (disch := omega) only [go_sem, undef, reduceAdd, reduceSub, reduceGT, reduceEqDiff, reduceMul, w64, gd_c, cubes, bne_self_eq_false, beq_self_eq_true, Bool.not_true, Bool.not_false]
       refine ⟨k + 1, ?_, fun _ _ h => h, ?_, ?_⟩
       ·simp (disch := omega) [wks, wkA, sl, w64, ints, rows, cubes, w64, gd_c, cubes, bne_self_eq_false, beq_self_eq_true, Bool.not_true, Bool.not_false] <;> omega
       ·omega
       ·first | omega | (simp only; omega)
     ·try simp only [cn] at h5
      refine AW.exit ?_
      simp only [thn, blk, if_true]
      refine hN10 _ ?_
      try clear hN10 N10
      refine AW.sr envOk (fun N hN => ?_)
      simp -dsimp -implicitDefEqProofs (maxSteps := 800000) (disch := omega) only [go_sem, undef, reduceAdd, reduceSub, reduceGT, reduceEqDiff, reduceMul, w64, gd_c, cubes, bne_self_eq_false, beq_self_eq_true, Bool.not_true, Bool.not_false]
      refine hN _ ?_
      try clear hN N
      refine AW.ret ?_
      simp -dsimp -implicitDefEqProofs (maxSteps := 800000) (disch := omega) only [go_sem, undef, reduceAdd, reduceSub, reduceGT, reduceEqDiff, reduceMul]
      all_goals rfl
  ·skip
   obtain ⟨hn1, hn2, hn3, hn4⟩ := serN hl hv
   try simp -dsimp -implicitDefEqProofs (maxSteps := 800000) (disch := omega) only [go_sem, undef, reduceAdd, reduceSub, reduceGT, reduceEqDiff, reduceMul, ring, rows, cubes, w64]
   refine hN _ ?_
   try clear hN N
   refine AW.freezeQ 3 (nx + 1 + 2 + 2) _ rfl (upd_same _ _ _) ?_
   simp -dsimp -implicitDefEqProofs (maxSteps := 800000) (disch := omega) only [go_sem, undef, reduceAdd, reduceSub, reduceGT, reduceEqDiff, reduceMul]
   refine AW.sr envOk (fun N hN => ?_)
   simp -dsimp -implicitDefEqProofs (maxSteps := 800000) (disch := omega) only [go_sem, undef, reduceAdd, reduceSub, reduceGT, reduceEqDiff, reduceMul, w64, gd_c, cubes, bne_self_eq_false, beq_self_eq_true, Bool.not_true, Bool.not_false]
   refine AC.pure (.of (hn1 )) ?_
   try simp -dsimp -implicitDefEqProofs (maxSteps := 800000) (disch := omega) only [go_sem, undef, reduceAdd, reduceSub, reduceGT, reduceEqDiff, reduceMul, w64, gd_c, cubes, bne_self_eq_false, beq_self_eq_true, Bool.not_true, Bool.not_false]
   refine hN _ ?_
   try clear hN N
   refine AW.sr envOk (fun N hN => ?_)
   simp -dsimp -implicitDefEqProofs (maxSteps := 800000) (disch := omega) only [go_sem, undef, reduceAdd, reduceSub, reduceGT, reduceEqDiff, reduceMul, w64, gd_c, cubes, bne_self_eq_false, beq_self_eq_true, Bool.not_true, Bool.not_false]
   refine AC.pure (.of (hn2 )) ?_
   try simp -dsimp -implicitDefEqProofs (maxSteps := 800000) (disch := omega) only [go_sem, undef, reduceAdd, reduceSub, reduceGT, reduceEqDiff, reduceMul, w64, gd_c, cubes, bne_self_eq_false, beq_self_eq_true, Bool.not_true, Bool.not_false]
   refine hN _ ?_
   try clear hN N
   refine AW.sr envOk (fun N hN => ?_)
   simp -dsimp -implicitDefEqProofs (maxSteps := 800000) (disch := omega) only [go_sem, undef, reduceAdd, reduceSub, reduceGT, reduceEqDiff, reduceMul, w64, gd_c, cubes, bne_self_eq_false, beq_self_eq_true, Bool.not_true, Bool.not_false]
   refine AC.pure (.of (hn3 )) ?_
   try simp -dsimp -implicitDefEqProofs (maxSteps := 800000) (disch := omega) only [go_sem, undef, reduceAdd, reduceSub, reduceGT, reduceEqDiff, reduceMul, w64, gd_c, cubes, bne_self_eq_false, beq_self_eq_true, Bool.not_true, Bool.not_false]
   refine hN _ ?_
   try clear hN N
   refine AW.sr envOk (fun N hN => ?_)
   simp -dsimp -implicitDefEqProofs (maxSteps := 800000) (disch := omega) only [go_sem, undef, reduceAdd, reduceSub, reduceGT, reduceEqDiff, reduceMul, w64, gd_c, cubes, bne_self_eq_false, beq_self_eq_true, Bool.not_true, Bool.not_false]
   refine AC.pure (.of (hn4 )) ?_
   try simp -dsimp -implicitDefEqProofs (maxSteps := 800000) (disch := omega) only [go_sem, undef, reduceAdd, reduceSub, reduceGT, reduceEqDiff, reduceMul, w64, gd_c, cubes, bne_self_eq_false, beq_self_eq_true, Bool.not_true, Bool.not_false]
   refine hN _ ?_
   try clear hN N
   refine AW.seq (fun N14 hN14 => ?_)
   refine AW.sr envOk (fun N hN => ?_)
   simp -dsimp -implicitDefEqProofs (maxSteps := 800000) (disch := omega) only [go_sem, undef, reduceAdd, reduceSub, reduceGT, reduceEqDiff, reduceMul, w64, gd_c, cubes, bne_self_eq_false, beq_self_eq_true, Bool.not_true, Bool.not_false]
   refine AC.pure (.of (laws_likeCubes5_e [] ⟨by simp, by simp⟩ )) ?_
   try simp -dsimp -implicitDefEqProofs (maxSteps := 800000) (disch := omega) only [go_sem, undef, reduceAdd, reduceSub, reduceGT, reduceEqDiff, reduceMul, w64, gd_c, cubes, bne_self_eq_false, beq_self_eq_true, Bool.not_true, Bool.not_false]
   refine AC.pure (.of (laws_likeCubes5_e [] ⟨by simp, by simp⟩ )) ?_
   try simp -dsimp -implicitDefEqProofs (maxSteps := 800000) (disch := omega) only [go_sem, undef, reduceAdd, reduceSub, reduceGT, reduceEqDiff, reduceMul, w64, gd_c, cubes, bne_self_eq_false, beq_self_eq_true, Bool.not_true, Bool.not_false]
   refine hN _ ?_
   try clear hN N
   refine AW.condF rfl ?_
   refine AW.skip ?_
   simp only [thn, blk]
   refine hN14 _ ?_
   try clear hN14 N14
   refine AW.seq (fun N15 hN15 => ?_)
   refine AW.sr envOk (fun N hN => ?_)
   simp -dsimp -implicitDefEqProofs (maxSteps := 800000) (disch := omega) only [go_sem, undef, reduceAdd, reduceSub, reduceGT, reduceEqDiff, reduceMul, w64, gd_c, cubes, bne_self_eq_false, beq_self_eq_true, Bool.not_true, Bool.not_false]
   refine hN _ ?_
   try clear hN N
   refine AW.condT rfl ?_
   refine AW.sr envOk (fun N hN => ?_)
   simp -dsimp -implicitDefEqProofs (maxSteps := 800000) (disch := omega) only [go_sem, undef, reduceAdd, reduceSub, reduceGT, reduceEqDiff, reduceMul, w64, gd_c, cubes, bne_self_eq_false, beq_self_eq_true, Bool.not_true, Bool.not_false]
   refine hN _ ?_
   try clear hN N
   refine AW.ret ?_
   simp -dsimp -implicitDefEqProofs (maxSteps := 800000) (disch := omega) only [go_sem, undef, reduceAdd, reduceSub, reduceGT, reduceEqDiff, reduceMul]
   all_goals rfl
end Go.Proofs.Ytdghgmgppecncaa
