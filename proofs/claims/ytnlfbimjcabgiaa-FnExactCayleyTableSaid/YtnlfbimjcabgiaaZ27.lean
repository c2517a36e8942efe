import Derived.Test.YtnlfbimjcabgiaaZ26
set_option linter.unusedVariables false
set_option linter.unusedSimpArgs false
namespace Go.Proofs.Ytnlfbimjcabgiaa
open Nat (reduceAdd reduceSub reduceGT reduceEqDiff reduceMul)
theorem clone_cp {n : Nat} (f : V) (hn : n ≤ 1099511627776) (nx : Nat) (H : HP) : AC Try.prog 93 nx H [vi n f] (fun nx' H' r => CpI nx nx' H H' r n f) := by
  have := slices_Clone_int64_int64_ok (vec n f) (by rw [vec_len]; exact hn) nx H
  rw [vi_ints, vec_len] at this
  refine this.mono ?_
  rintro nx' H' r (⟨id, h1, h2, h3, h4⟩ | h)
  · exact .inl ⟨id, h1, h2, h3, by rw [h4, ivs_ext (fun k hk => vec_get hk)]⟩
  · exact .inr h
theorem Own.vi {a b : Nat} {H : HP} {id n : Nat} {f : V} (h : H id = some (Go.Proofs.Ytnlfbimjcabgiaa.ivs n f)) (h1 : a ≤ id) (h2 : id < b) : ∃ ids, Own a b H (.h id 0 n) (Go.Proofs.Ytnlfbimjcabgiaa.vi n f) ids := by
  rw [← vi_ints]
  exact ⟨_, Own.ints (by rw [h, vec_map]) vec_len.symm h1 h2⟩
theorem Own.vi0 {a b : Nat} {H : HP} {n : Nat} {f : V} (h : n = 0) : ∃ ids, Own a b H (.v 0 []) (Go.Proofs.Ytnlfbimjcabgiaa.vi n f) ids := by
  subst h
  exact ⟨[], .leaf _ .v0 (.v _ _ (by simp)), by simp, by simp⟩
theorem impl_timesVector_0 (os : List Int) (pw : List (List Int)) (cj : List (List (List Int))) (hn : os.length = 0) (f : V) (nx : Nat) (H : HP) : AC Try.prog 94 nx H [prsP os pw cj, .v 0 [], vi os.length f] (fun _ H' _ => H = H') := by
 refine AC.introx envOk Try.func94 rfl (by kernel_rfl) Try.ntmps94 Try.results94 (fun hfr => ?_)
 refine AW.sr envOk (fun N hN => ?_)
 simp -dsimp -implicitDefEqProofs (disch := omega) only [go_sem, undef, reduceAdd, reduceSub, reduceGT, reduceEqDiff, reduceMul, prsP, ints, rows, cubes, w64, vi]
 refine hN _ ?_
 try clear hN N
 refine AW.block ?_
 refine AW.loopN (α := Nat) (fun x => sl 24 [(0, prsP os pw cj), (1, .v 0 []), (8, vi os.length f), (9, .i .i64 os.length), (10, .i .i64 0)]) (fun _ => H) (fun x m => True) (fun x => 0) (0) ?_ ?_ (fun _ _ h => h) ?_
 ·trivial
 ·simp (disch := omega) [wks, wkA, sl, prsP, ints, rows, cubes, vi]
 ·skip
  rintro k m hk
  simp only [prsP, vi]
  simp -dsimp -implicitDefEqProofs (disch := omega) only [go_sem, undef, reduceAdd, reduceSub, reduceGT, reduceEqDiff, reduceMul]
  refine AW.sr envOk (fun N hN => ?_)
  simp -dsimp -implicitDefEqProofs (disch := omega) only [go_sem, undef, reduceAdd, reduceSub, reduceGT, reduceEqDiff, reduceMul, prsP, ints, rows, cubes, w64, vi]
  refine hN _ ?_
  try clear hN N
  refine AW.seq (fun N1 hN1 => ?_)
  refine AW.cond rfl (fun h1 => ?_) (fun h1 => ?_)
  ·try simp only [cn] at h1
   exfalso; omega
  ·try simp only [cn] at h1
   refine AW.exit ?_
   simp only [thn, blk, if_true]
   try simp -dsimp -implicitDefEqProofs (disch := omega) only [go_sem, undef, reduceAdd, reduceSub, reduceGT, reduceEqDiff, reduceMul, ]
   exact ⟨_, Le.refl _, rfl⟩
theorem impl_multiply_ok (os : List Int) (pw : List (List Int)) (cj : List (List (List Int))) (h : presOk os pw cj) (i : Nat) (hc : Con (pc os pw cj) i) (a b : V) (ha : T (pc os pw cj) i a) (hb : T (pc os pw cj) i b) : ACo Try.prog 59 [prsP os pw cj, vi os.length a, vi os.length b] (vi os.length (M (pc os pw cj) i a b)) := by
 have hv := h.val
 have hn6 := h.1.1
 have hTV := (times_ok os pw cj h i hc).1
 intro nx
 refine AC.intro' envOk Try.func59 rfl (by kernel_rfl) Try.ntmps59 Try.results59 ?_
 refine AW.sr envOk (fun N hN => ?_)
 simp -dsimp -implicitDefEqProofs (disch := omega) only [go_sem, undef, reduceAdd, reduceSub, reduceGT, reduceEqDiff, reduceMul, ]
 refine hN _ ?_
 try clear hN N
 refine AW.sr envOk (fun N hN => ?_)
 simp -dsimp -implicitDefEqProofs (disch := omega) only [go_sem, undef, reduceAdd, reduceSub, reduceGT, reduceEqDiff, reduceMul, ]
 refine (clone_cp a (by omega) _ _).mono ?_
 rintro m1 H1 r1 (⟨id1, rfl, g1, g2, rfl⟩ | ⟨h0, rfl, rfl⟩)
 ·skip
  try simp -dsimp -implicitDefEqProofs (disch := omega) only [go_sem, undef, reduceAdd, reduceSub, reduceGT, reduceEqDiff, reduceMul, ]
  refine hN _ ?_
  try clear hN N
  refine AW.sr envOk (fun N hN => ?_)
  simp -dsimp -implicitDefEqProofs (disch := omega) only [go_sem, undef, reduceAdd, reduceSub, reduceGT, reduceEqDiff, reduceMul, ]
  refine (hTV _ _ id1 a b (upd_same _ _ _) (ha.mono hv (by omega)) hb).mono2 ?_
  rintro m2 H2 r2 hm2 rfl
  try simp -dsimp -implicitDefEqProofs (disch := omega) only [go_sem, undef, reduceAdd, reduceSub, reduceGT, reduceEqDiff, reduceMul, ]
  refine hN _ ?_
  try clear hN N
  refine AW.sr envOk (fun N hN => ?_)
  simp -dsimp -implicitDefEqProofs (disch := omega) only [go_sem, undef, reduceAdd, reduceSub, reduceGT, reduceEqDiff, reduceMul, ]
  refine hN _ ?_
  try clear hN N
  refine AW.ret ?_
  simp -dsimp -implicitDefEqProofs (disch := omega) only [go_sem, undef, reduceAdd, reduceSub, reduceGT, reduceEqDiff, reduceMul]
  rw [app_M hv ha hb]
  exact Own.vi (by simp only [upd_same]) (by omega) (by omega)
 ·skip
  try simp -dsimp -implicitDefEqProofs (disch := omega) only [go_sem, undef, reduceAdd, reduceSub, reduceGT, reduceEqDiff, reduceMul, ]
  refine hN _ ?_
  try clear hN N
  refine AW.sr envOk (fun N hN => ?_)
  simp -dsimp -implicitDefEqProofs (disch := omega) only [go_sem, undef, reduceAdd, reduceSub, reduceGT, reduceEqDiff, reduceMul, ]
  refine (impl_timesVector_0 os pw cj h0 b _ _).mono2 ?_
  rintro m2 H2 r2 hm2 rfl
  try simp -dsimp -implicitDefEqProofs (disch := omega) only [go_sem, undef, reduceAdd, reduceSub, reduceGT, reduceEqDiff, reduceMul, ]
  refine hN _ ?_
  try clear hN N
  refine AW.sr envOk (fun N hN => ?_)
  simp -dsimp -implicitDefEqProofs (disch := omega) only [go_sem, undef, reduceAdd, reduceSub, reduceGT, reduceEqDiff, reduceMul, ]
  refine hN _ ?_
  try clear hN N
  refine AW.ret ?_
  simp -dsimp -implicitDefEqProofs (disch := omega) only [go_sem, undef, reduceAdd, reduceSub, reduceGT, reduceEqDiff, reduceMul]
  exact Own.vi0 h0
theorem impl_power_ok (os : List Int) (pw : List (List Int)) (cj : List (List (List Int))) (h : presOk os pw cj) (i : Nat) (hc : Con (pc os pw cj) i) (a : V) (ha : T (pc os pw cj) i a) (k : Nat) (hk : k ≤ 1099511627776) : ACo Try.prog 71 [prsP os pw cj, vi os.length a, .i .i64 k] (vi os.length (rep (M (pc os pw cj) i) a k)) := by
 have hv := h.val
 have hn6 := h.1.1
 have hg := con_grp hv hc
 have hTV := (times_ok os pw cj h i hc).1
 intro nx
 refine AC.intro' envOk Try.func71 rfl (by kernel_rfl) Try.ntmps71 Try.results71 ?_
 refine AW.sr envOk (fun N hN => ?_)
 simp -dsimp -implicitDefEqProofs (disch := omega) only [go_sem, undef, reduceAdd, reduceSub, reduceGT, reduceEqDiff, reduceMul, prsP, ints, rows, cubes, w64, vi]
 refine hN _ ?_
 try clear hN N
 refine AW.sr envOk (fun N hN => ?_)
 simp -dsimp -implicitDefEqProofs (disch := omega) only [go_sem, undef, reduceAdd, reduceSub, reduceGT, reduceEqDiff, reduceMul, prsP, ints, rows, cubes, w64, vi]
 refine hN _ ?_
 try clear hN N
 refine AW.seq (fun N1 hN1 => ?_)
 refine AW.sr envOk (fun N hN => ?_)
 simp -dsimp -implicitDefEqProofs (disch := omega) only [go_sem, undef, reduceAdd, reduceSub, reduceGT, reduceEqDiff, reduceMul, prsP, ints, rows, cubes, w64, vi]
 refine hN _ ?_
 try clear hN N
 refine AW.block ?_
 refine AW.loopN (α := Nat) (fun x => sl 20 [(0, prsP os pw cj), (1, vi os.length a), (7, .h (nx + 1 + 2) 0 os.length), (11, .i .i64 k), (12, .i .i64 x)]) (fun x => upd noH (nx + 1 + 2) (some (ivs os.length (rep (M (pc os pw cj) i) a x)))) (fun x m => x ≤ k ∧ nx + 4 ≤ m) (fun x => k - x) (0) ?_ ?_ (by rw [ivs_zero]; exact Le.refl _) ?_
 ·exact ⟨Nat.zero_le _, by first| omega| (simp only; omega)| (dsimp only; omega)⟩
 ·simp (disch := omega) [wks, wkA, sl, prsP, ints, rows, cubes, vi]
 ·skip
  rintro q m ⟨hq, hm⟩
  simp only [prsP, vi]
  simp -dsimp -implicitDefEqProofs (disch := omega) only [go_sem, undef, reduceAdd, reduceSub, reduceGT, reduceEqDiff, reduceMul]
  refine AW.sr envOk (fun N hN => ?_)
  simp -dsimp -implicitDefEqProofs (disch := omega) only [go_sem, undef, reduceAdd, reduceSub, reduceGT, reduceEqDiff, reduceMul, prsP, ints, rows, cubes, w64, vi]
  refine hN _ ?_
  try clear hN N
  refine AW.seq (fun N2 hN2 => ?_)
  refine AW.cond rfl (fun h1 => ?_) (fun h1 => ?_)
  ·try simp only [cn] at h1
   refine AW.skip ?_
   simp only [thn, blk]
   refine hN2 _ ?_
   try clear hN2 N2
   refine AW.seq (fun N3 hN3 => ?_)
   refine AW.block ?_
   refine AW.regionL envOk ?_
   simp -dsimp -implicitDefEqProofs (disch := omega) only [go_sem, undef, reduceAdd, reduceSub, reduceGT, reduceEqDiff, reduceMul, prsP, ints, rows, cubes, w64, vi]
   refine (hTV _ _ (nx + 1 + 2) _ a (upd_same _ _ _) ((hg.rep ha q).mono hv (by omega)) ha).mono2 ?_
   rintro m2 H2 r2 hm2 rfl
   rw [app_M hv (hg.rep ha q) ha]
   try simp -dsimp -implicitDefEqProofs (disch := omega) only [go_sem, undef, reduceAdd, reduceSub, reduceGT, reduceEqDiff, reduceMul, prsP, ints, rows, cubes, w64, vi]
   refine hN3 _ ?_
   try clear hN3 N3
   refine AW.regionL envOk ?_
   simp -dsimp -implicitDefEqProofs (disch := omega) only [go_sem, undef, reduceAdd, reduceSub, reduceGT, reduceEqDiff, reduceMul, prsP, ints, rows, cubes, w64, vi]
   refine ⟨q + 1, ?_, fun _ _ h => h, ?_, ?_⟩
   ·simp (disch := omega) [wks, wkA, sl, prsP, w64, ints, rows, cubes, vi] <;> omega
   ·exact ⟨by first| omega| (simp only; omega)| (dsimp only; omega), by first| omega| (simp only; omega)| (dsimp only; omega)⟩
   ·first | omega | (simp only; omega)
  ·try simp only [cn] at h1
   refine AW.exit ?_
   simp only [thn, blk, if_true]
   refine hN1 _ ?_
   try clear hN1 N1
   refine AW.sr envOk (fun N hN => ?_)
   simp -dsimp -implicitDefEqProofs (disch := omega) only [go_sem, undef, reduceAdd, reduceSub, reduceGT, reduceEqDiff, reduceMul, prsP, ints, rows, cubes, w64, vi]
   refine hN _ ?_
   try clear hN N
   refine AW.ret ?_
   simp -dsimp -implicitDefEqProofs (disch := omega) only [go_sem, undef, reduceAdd, reduceSub, reduceGT, reduceEqDiff, reduceMul]
   obtain rfl : q = k := by omega
   exact Own.vi (upd_same _ _ _) (by omega) (by omega)
theorem impl_imageBy_ok (os : List Int) (pw : List (List Int)) (cj : List (List (List Int))) (h : presOk os pw cj) (i : Nat) (hi : i < os.length) (hc : Con (pc os pw cj) (i + 1)) (a : V) (ha : T (pc os pw cj) (i + 1) a) : ACo Try.prog 120 [prsP os pw cj, .i .i64 i, vi os.length a] (vi os.length (img (pc os pw cj) (M (pc os pw cj) (i + 1)) i a)) := by
 have hv := h.val
 have hn6 := h.1.1
 have hpl := h.1.2.1
 have hcl := h.1.2.2
 have hcl2 := (h.2.2.2 i hi).2.1
 have hg := con_grp hv hc
 have hsm := T.small h ha
 have hTV := (times_ok os pw cj h (i + 1) hc).1
 intro nx
 refine AC.intro' envOk Try.func120 rfl (by kernel_rfl) Try.ntmps120 Try.results120 ?_
 refine AW.sr envOk (fun N hN => ?_)
 simp -dsimp -implicitDefEqProofs (disch := omega) only [go_sem, undef, reduceAdd, reduceSub, reduceGT, reduceEqDiff, reduceMul, prsP, ints, rows, cubes, gd_i, gd_r, gd_c, w64, vi]
 refine hN _ ?_
 try clear hN N
 refine AW.sr envOk (fun N hN => ?_)
 simp -dsimp -implicitDefEqProofs (disch := omega) only [go_sem, undef, reduceAdd, reduceSub, reduceGT, reduceEqDiff, reduceMul, prsP, ints, rows, cubes, gd_i, gd_r, gd_c, w64, vi]
 refine hN _ ?_
 try clear hN N
 refine AW.seq (fun N1 hN1 => ?_)
 refine AW.sr envOk (fun N hN => ?_)
 simp -dsimp -implicitDefEqProofs (disch := omega) only [go_sem, undef, reduceAdd, reduceSub, reduceGT, reduceEqDiff, reduceMul, prsP, ints, rows, cubes, gd_i, gd_r, gd_c, w64, vi]
 refine hN _ ?_
 try clear hN N
 refine AW.block ?_
 refine AW.loopN (α := Nat × V) (fun x => sl 42 [(0, prsP os pw cj), (1, .i .i64 i), (2, vi os.length a), (7, .h (nx + 1 + 2) 0 os.length), (19, rows (cj.getD i [])), (20, .i .i64 (cj.getD i []).length), (21, .i .i64 x.1)]) (fun x => upd noH (nx + 1 + 2) (some (ivs os.length x.2))) (fun x m => (x.1 ≤ (cj.getD i []).length ∧ nx + 4 ≤ m) ∧ T (pc os pw cj) (i + 1) x.2 ∧ fim (M (pc os pw cj) (i + 1)) ((pc os pw cj).cj i) a (os.length - (i + 1) - x.1) (i + 1 + x.1) x.2 = img (pc os pw cj) (M (pc os pw cj) (i + 1)) i a) (fun x => (cj.getD i []).length - x.1) ((0, z0)) ?_ ?_ (by rw [ivs_zero]; exact Le.refl _) ?_
 ·exact ⟨⟨Nat.zero_le _, by first| omega| (simp only; omega)| (dsimp only; omega)⟩, T.zero hv _, rfl⟩
 ·simp (disch := omega) [wks, wkA, sl, prsP, ints, rows, cubes, vi]
 ·skip
  rintro ⟨q, u⟩ m ⟨⟨hq, hm⟩, hu, hf⟩
  dsimp only at hq hm hu hf
  simp only [prsP, vi]
  simp -dsimp -implicitDefEqProofs (disch := omega) only [go_sem, undef, reduceAdd, reduceSub, reduceGT, reduceEqDiff, reduceMul]
  refine AW.sr envOk (fun N hN => ?_)
  simp -dsimp -implicitDefEqProofs (disch := omega) only [go_sem, undef, reduceAdd, reduceSub, reduceGT, reduceEqDiff, reduceMul, prsP, ints, rows, cubes, gd_i, gd_r, gd_c, w64, vi]
  refine hN _ ?_
  try clear hN N
  refine AW.seq (fun N2 hN2 => ?_)
  refine AW.cond rfl (fun h1 => ?_) (fun h1 => ?_)
  ·try simp only [cn] at h1
   have hiq : i + 1 + q < os.length := by omega
   have hsq := hsm (i + 1 + q)
   have e1 : AV.v ((cj.getD i []).getD q []).length (List.map (AV.i IntKind.i64) ((cj.getD i []).getD q [])) = vi os.length ((pc os pw cj).cj i (i + 1 + q)) := by
    have := ints_vi (h.cjl (show i < i + 1 + q by omega) hiq)
    rw [show i + 1 + q - i - 1 = q by omega] at this
    refine this.trans ?_
    show vi _ (fl _) = vi _ (fl ((cj.getD i []).getD (i + 1 + q - i - 1) []))
    rw [show i + 1 + q - i - 1 = q by omega]
   have tq := hv.cj i (i + 1 + q) (by omega) hiq
   refine AW.skip ?_
   simp only [thn, blk]
   refine hN2 _ ?_
   try clear hN2 N2
   refine AW.seq (fun N3 hN3 => ?_)
   refine AW.block ?_
   refine AW.sr envOk (fun N hN => ?_)
   simp -dsimp -implicitDefEqProofs (disch := omega) only [go_sem, undef, reduceAdd, reduceSub, reduceGT, reduceEqDiff, reduceMul, prsP, ints, rows, cubes, gd_i, gd_r, gd_c, w64, vi]
   refine hN _ ?_
   try clear hN N
   refine AW.sr envOk (fun N hN => ?_)
   simp -dsimp -implicitDefEqProofs (disch := omega) only [go_sem, undef, reduceAdd, reduceSub, reduceGT, reduceEqDiff, reduceMul, prsP, ints, rows, cubes, gd_i, gd_r, gd_c, w64, vi]
   refine hN _ ?_
   try clear hN N
   refine AW.block ?_
   rw [e1]
   refine AW.loopN (α := Nat × V) (fun x => sl 42 [(0, prsP os pw cj), (1, .i .i64 i), (2, vi os.length a), (7, .h (nx + 1 + 2) 0 os.length), (9, vi os.length ((pc os pw cj).cj i (i + 1 + q))), (19, rows (cj.getD i [])), (20, .i .i64 (cj.getD i []).length), (21, .i .i64 q), (32, .i .i64 (a (i + 1 + q))), (33, .i .i64 x.1)]) (fun x => upd noH (nx + 1 + 2) (some (ivs os.length x.2))) (fun x m => (x.1 ≤ (a (i + 1 + q)).toNat ∧ nx + 4 ≤ m) ∧ T (pc os pw cj) (i + 1) x.2 ∧ x.2 = itr (fun w => M (pc os pw cj) (i + 1) w ((pc os pw cj).cj i (i + 1 + q))) x.1 u) (fun x => (a (i + 1 + q)).toNat - x.1) ((0, u)) ?_ ?_ (fun _ _ h => h) ?_
   ·exact ⟨⟨Nat.zero_le _, by first| omega| (simp only; omega)| (dsimp only; omega)⟩, hu, rfl⟩
   ·simp (disch := omega) [wks, wkA, sl, prsP, ints, rows, cubes, vi]
   ·skip
    rintro ⟨y, w⟩ m2 ⟨⟨hy, hm2⟩, hw, he2⟩
    dsimp only at hy hm2 hw he2
    simp only [prsP, vi]
    simp -dsimp -implicitDefEqProofs (disch := omega) only [go_sem, undef, reduceAdd, reduceSub, reduceGT, reduceEqDiff, reduceMul]
    refine AW.sr envOk (fun N hN => ?_)
    simp -dsimp -implicitDefEqProofs (disch := omega) only [go_sem, undef, reduceAdd, reduceSub, reduceGT, reduceEqDiff, reduceMul, prsP, ints, rows, cubes, gd_i, gd_r, gd_c, w64, vi]
    refine hN _ ?_
    try clear hN N
    refine AW.seq (fun N4 hN4 => ?_)
    refine AW.cond rfl (fun h2 => ?_) (fun h2 => ?_)
    ·try simp only [cn] at h2
     refine AW.skip ?_
     simp only [thn, blk]
     refine hN4 _ ?_
     try clear hN4 N4
     refine AW.seq (fun N5 hN5 => ?_)
     refine AW.block ?_
     refine AW.regionL envOk ?_
     simp -dsimp -implicitDefEqProofs (disch := omega) only [go_sem, undef, reduceAdd, reduceSub, reduceGT, reduceEqDiff, reduceMul, prsP, ints, rows, cubes, gd_i, gd_r, gd_c, w64, vi]
     refine (hTV _ _ (nx + 1 + 2) w ((pc os pw cj).cj i (i + 1 + q)) (upd_same _ _ _) (hw.mono hv (by omega)) tq).mono2 ?_
     rintro m3 H1 r1 hm3 rfl
     rw [app_M hv hw tq]
     try simp -dsimp -implicitDefEqProofs (disch := omega) only [go_sem, undef, reduceAdd, reduceSub, reduceGT, reduceEqDiff, reduceMul, prsP, ints, rows, cubes, gd_i, gd_r, gd_c, w64, vi]
     refine hN5 _ ?_
     try clear hN5 N5
     refine AW.regionL envOk ?_
     simp -dsimp -implicitDefEqProofs (disch := omega) only [go_sem, undef, reduceAdd, reduceSub, reduceGT, reduceEqDiff, reduceMul, prsP, ints, rows, cubes, gd_i, gd_r, gd_c, w64, vi]
     refine ⟨(y + 1, M (pc os pw cj) (i + 1) w ((pc os pw cj).cj i (i + 1 + q))), ?_, fun _ _ h => h, ?_, ?_⟩
     ·simp (disch := omega) [wks, wkA, sl, prsP, w64, ints, rows, cubes, vi] <;> omega
     ·exact ⟨⟨by first| omega| (simp only; omega)| (dsimp only; omega), by first| omega| (simp only; omega)| (dsimp only; omega)⟩, hg.cl hw tq, by rw [he2]; rfl⟩
     ·first | omega | (simp only; omega)
    ·try simp only [cn] at h2
     refine AW.exit ?_
     simp only [thn, blk, if_true]
     refine hN3 _ ?_
     try clear hN3 N3
     refine AW.regionL envOk ?_
     simp -dsimp -implicitDefEqProofs (disch := omega) only [go_sem, undef, reduceAdd, reduceSub, reduceGT, reduceEqDiff, reduceMul, prsP, ints, rows, cubes, gd_i, gd_r, gd_c, w64, vi]
     refine ⟨(q + 1, w), ?_, fun _ _ h => h, ?_, ?_⟩
     ·simp (disch := omega) [wks, wkA, sl, prsP, w64, ints, rows, cubes, vi] <;> omega
     ·refine ⟨⟨by first| omega| (simp only; omega)| (dsimp only; omega), by first| omega| (simp only; omega)| (dsimp only; omega)⟩, hw, ?_⟩
      show fim (M (pc os pw cj) (i + 1)) ((pc os pw cj).cj i) a (os.length - (i + 1) - (q + 1)) (i + 1 + (q + 1)) w = _
      rw [← hf, he2, show os.length - (i + 1) - q = os.length - (i + 1) - (q + 1) + 1 by omega, fim, show y = (a (i + 1 + q)).toNat by omega]
      rfl
     ·first | omega | (simp only; omega)
  ·try simp only [cn] at h1
   refine AW.exit ?_
   simp only [thn, blk, if_true]
   refine hN1 _ ?_
   try clear hN1 N1
   refine AW.sr envOk (fun N hN => ?_)
   simp -dsimp -implicitDefEqProofs (disch := omega) only [go_sem, undef, reduceAdd, reduceSub, reduceGT, reduceEqDiff, reduceMul, prsP, ints, rows, cubes, gd_i, gd_r, gd_c, w64, vi]
   refine hN _ ?_
   try clear hN N
   refine AW.ret ?_
   simp -dsimp -implicitDefEqProofs (disch := omega) only [go_sem, undef, reduceAdd, reduceSub, reduceGT, reduceEqDiff, reduceMul]
   rw [show os.length - (i + 1) - q = 0 by omega] at hf
   rw [← hf]
   exact Own.vi (upd_same _ _ _) (by omega) (by omega)
end Go.Proofs.Ytnlfbimjcabgiaa
