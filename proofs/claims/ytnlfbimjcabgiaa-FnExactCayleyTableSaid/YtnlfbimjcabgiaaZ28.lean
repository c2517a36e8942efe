import Derived.Test.YtnlfbimjcabgiaaZ25
import Derived.Test.YtnlfbimjcabgiaaZ27
set_option linter.unusedVariables false
set_option linter.unusedSimpArgs false
namespace Go.Proofs.Ytnlfbimjcabgiaa
open Nat (reduceAdd reduceSub reduceGT reduceEqDiff reduceMul)
theorem impl_unitVector_v (n j : Nat) (hn : n ≤ 1048576) (hj : j < n) : ACp Try.prog 115 [.i .i64 n, .i .i64 j] (vi n (un j)) := by
  have := (impl_unitVector_ok n j hn hj).pure
  unfold unitL at this
  rw [vi_ints] at this
  rwa [vi_ext (g := un j) (fun k hk => by simp only [un, fset, z0])] at this
theorem slices_Equal_T {os : List Int} {pw : List (List Int)} {cj : List (List (List Int))} {i : Nat} {f g : V} (hn : os.length ≤ 1048576) (hf : T (pc os pw cj) i f) (hg : T (pc os pw cj) i g) : ACp Try.prog 114 [vi os.length f, vi os.length g] (.b (tf (f = g))) := by
  have := slices_Equal_int64_int64_ok (vec os.length f) (vec os.length g) (by rw [vec_len]; omega) (by rw [vec_len]; omega)
  rw [vi_ints, vi_ints] at this
  rwa [tf_eq (hf.vec_eq hg)] at this
theorem impl_power_i {os : List Int} {pw : List (List Int)} {cj : List (List (List Int))} (h : presOk os pw cj) (i : Nat) (hc : Con (pc os pw cj) i) (a : V) (ha : T (pc os pw cj) i a) (k : Int) (h0 : 0 ≤ k) (hk : k ≤ 1099511627776) : ACp Try.prog 71 [prsP os pw cj, vi os.length a, .i .i64 k] (vi os.length (rep (M (pc os pw cj) i) a k.toNat)) := by
  have := (impl_power_ok os pw cj h i hc a ha k.toNat (by omega)).pure
  rwa [Int.toNat_of_nonneg h0] at this
theorem impl_invert_ok (os : List Int) (pw : List (List Int)) (cj : List (List (List Int))) (h : presOk os pw cj) (i : Nat) (hc : Con (pc os pw cj) i) (a : V) (ha : T (pc os pw cj) i a) : ACo Try.prog 109 [prsP os pw cj, vi os.length a] (vi os.length (inv (pc os pw cj) i a)) := by
 have hv := h.val
 have hn6 := h.1.1
 have hg := con_grp hv hc
 have hTG := (times_ok os pw cj h i hc).2
 have hnn : (pc os pw cj).n = os.length := rfl
 intro nx
 refine AC.intro' envOk Try.func109 rfl (by kernel_rfl) Try.ntmps109 Try.results109 ?_
 refine AW.sr envOk (fun N hN => ?_)
 simp -dsimp -implicitDefEqProofs (disch := omega) only [go_sem, undef, reduceAdd, reduceSub, reduceGT, reduceEqDiff, reduceMul, prsP, ints, rows, cubes, w64, vi]
 refine hN _ ?_
 try clear hN N
 refine AW.sr envOk (fun N hN => ?_)
 simp -dsimp -implicitDefEqProofs (disch := omega) only [go_sem, undef, reduceAdd, reduceSub, reduceGT, reduceEqDiff, reduceMul, prsP, ints, rows, cubes, w64, vi]
 refine (clone_cp a (by omega) _ _).mono2 ?_
 rintro m1 H1 r1 hm1 (⟨id1, rfl, g1, g2, rfl⟩ | ⟨h0, rfl, rfl⟩)
 ·skip
  try simp -dsimp -implicitDefEqProofs (disch := omega) only [go_sem, undef, reduceAdd, reduceSub, reduceGT, reduceEqDiff, reduceMul, ]
  refine hN _ ?_
  try clear hN N
  refine AW.sr envOk (fun N hN => ?_)
  simp -dsimp -implicitDefEqProofs (disch := omega) only [go_sem, undef, reduceAdd, reduceSub, reduceGT, reduceEqDiff, reduceMul, prsP, ints, rows, cubes, w64, vi]
  refine hN _ ?_
  try clear hN N
  refine AW.seq (fun N1 hN1 => ?_)
  refine AW.sr envOk (fun N hN => ?_)
  simp -dsimp -implicitDefEqProofs (disch := omega) only [go_sem, undef, reduceAdd, reduceSub, reduceGT, reduceEqDiff, reduceMul, prsP, ints, rows, cubes, w64, vi]
  refine hN _ ?_
  try clear hN N
  refine AW.block ?_
  refine AW.loopN (α := Nat × V × V) (fun x => sl 33 [(0, prsP os pw cj), (5, .h id1 0 os.length), (6, .h (m1 + 2) 0 os.length), (14, .i .i64 os.length), (15, .i .i64 x.1)]) (fun x => upd (upd noH id1 (some (ivs os.length x.2.1))) (m1 + 2) (some (ivs os.length x.2.2))) (fun x m => (x.1 ≤ os.length ∧ m1 + 4 ≤ m) ∧ T (pc os pw cj) i x.2.1 ∧ T (pc os pw cj) i x.2.2 ∧ M (pc os pw cj) i a x.2.2 = x.2.1 ∧ ∀ t, t < x.1 → x.2.1 t = 0) (fun x => os.length - x.1) ((0, a, z0)) ?_ ?_ (by rw [ivs_zero]; exact Le.refl _) ?_
  ·exact ⟨⟨Nat.zero_le _, by first| omega| (simp only; omega)| (dsimp only; omega)⟩, ha, hg.e0, hg.r1 ha, by intro t ht; omega⟩
  ·simp (disch := omega) [wks, wkA, sl, prsP, ints, rows, cubes, vi]
  ·skip
   rintro ⟨k, r, o⟩ m ⟨⟨hk, hm⟩, hr, ho, hao, hz⟩
   dsimp only at hk hm hr ho hao hz
   simp only [prsP, vi]
   simp -dsimp -implicitDefEqProofs (disch := omega) only [go_sem, undef, reduceAdd, reduceSub, reduceGT, reduceEqDiff, reduceMul]
   refine AW.sr envOk (fun N hN => ?_)
   simp -dsimp -implicitDefEqProofs (disch := omega) only [go_sem, undef, reduceAdd, reduceSub, reduceGT, reduceEqDiff, reduceMul, prsP, ints, rows, cubes, w64, vi]
   refine hN _ ?_
   try clear hN N
   refine AW.seq (fun N2 hN2 => ?_)
   refine AW.cond rfl (fun h1 => ?_) (fun h1 => ?_)
   ·try simp only [cn] at h1
    refine AW.skip ?_
    simp only [thn, blk]
    refine hN2 _ ?_
    try clear hN2 N2
    refine AW.seq (fun N3 hN3 => ?_)
    refine AW.block ?_
    refine AW.sr envOk (fun N hN => ?_)
    simp -dsimp -implicitDefEqProofs (disch := omega) only [go_sem, undef, reduceAdd, reduceSub, reduceGT, reduceEqDiff, reduceMul, prsP, ints, rows, cubes, w64, vi]
    refine hN _ ?_
    try clear hN N
    refine AW.block ?_
    refine AW.loopN (α := V × V) (fun x => sl 33 [(0, prsP os pw cj), (5, .h id1 0 os.length), (6, .h (m1 + 2) 0 os.length), (7, .i .i64 k), (14, .i .i64 os.length), (15, .i .i64 k)]) (fun x => upd (upd noH id1 (some (ivs os.length x.1))) (m1 + 2) (some (ivs os.length x.2))) (fun x m => (m1 + 4 ≤ m) ∧ T (pc os pw cj) i x.1 ∧ T (pc os pw cj) i x.2 ∧ M (pc os pw cj) i a x.2 = x.1 ∧ ∀ t, t < k → x.1 t = 0) (fun x => if x.1 k = 0 then 0 else ((pc os pw cj).o k - x.1 k).toNat) ((r, o)) ?_ ?_ (fun _ _ h => h) ?_
    ·exact ⟨by first| omega| (simp only; omega)| (dsimp only; omega), hr, ho, hao, hz⟩
    ·simp (disch := omega) [wks, wkA, sl, prsP, ints, rows, cubes, vi]
    ·skip
     rintro ⟨r, o⟩ m ⟨hm, hr, ho, hao, hz⟩
     dsimp only at hm hr ho hao hz
     simp only [prsP, vi]
     simp -dsimp -implicitDefEqProofs (disch := omega) only [go_sem, undef, reduceAdd, reduceSub, reduceGT, reduceEqDiff, reduceMul]
     refine AW.seq (fun N4 hN4 => ?_)
     refine AW.sr envOk (fun N hN => ?_)
     simp -dsimp -implicitDefEqProofs (disch := omega) only [go_sem, undef, reduceAdd, reduceSub, reduceGT, reduceEqDiff, reduceMul, prsP, ints, rows, cubes, w64, vi]
     refine hN _ ?_
     try clear hN N
     refine AW.cond rfl (fun h2 => ?_) (fun h2 => ?_)
     ·try simp only [cn] at h2
      have hik : i ≤ k := by
       apply Classical.byContradiction; intro hn
       exact h2 (hr.z k (by omega))
      have hrk := hr.r k hik (by omega)
      have tu := un_T hv (Nat.le_refl k) (show k < (pc os pw cj).n by omega)
      have e1 : app (pc os pw cj) k r (un k) = M (pc os pw cj) i r (un k) := by rw [← app_eq hv hik (hr.mono hv (by omega)) tu, app_M hv hr (tu.mono hv hik)]
      have e2 : app (pc os pw cj) k o (un k) = M (pc os pw cj) i o (un k) := by rw [← app_eq hv hik (ho.mono hv (by omega)) tu, app_M hv ho (tu.mono hv hik)]
      have e3 : app (pc os pw cj) k r (un k) k = (tg0 (pc os pw cj) k r).1 := by rw [tg_eq hv (by omega) (con_grp hv (hc.mono (by omega))) (hr.mono hv (by omega)), cmb_at]
      refine AW.skip ?_
      simp only [thn, blk]
      refine hN4 _ ?_
      try clear hN4 N4
      refine AW.block ?_
      refine AW.sr envOk (fun N hN => ?_)
      simp -dsimp -implicitDefEqProofs (disch := omega) only [go_sem, undef, reduceAdd, reduceSub, reduceGT, reduceEqDiff, reduceMul, prsP, ints, rows, cubes, w64, vi]
      refine (hTG k hik (by omega) _ _ id1 r (by simp (disch := omega) only [upd_same, upd_ne]) (hr.mono hv (by omega))).mono2 ?_
      rintro m2 H2 r2 hm2 rfl
      try simp -dsimp -implicitDefEqProofs (disch := omega) only [go_sem, undef, reduceAdd, reduceSub, reduceGT, reduceEqDiff, reduceMul, prsP, ints, rows, cubes, w64, vi]
      refine hN _ ?_
      try clear hN N
      refine AW.regionL envOk ?_
      simp -dsimp -implicitDefEqProofs (disch := omega) only [go_sem, undef, reduceAdd, reduceSub, reduceGT, reduceEqDiff, reduceMul, prsP, ints, rows, cubes, w64, vi]
      refine (hTG k hik (by omega) _ _ (m1 + 2) o (by simp (disch := omega) only [upd_same, upd_ne]) (ho.mono hv (by omega))).mono2 ?_
      rintro m3 H3 r3 hm3 rfl
      try simp -dsimp -implicitDefEqProofs (disch := omega) only [go_sem, undef, reduceAdd, reduceSub, reduceGT, reduceEqDiff, reduceMul, prsP, ints, rows, cubes, w64, vi]
      refine ⟨(app (pc os pw cj) k r (un k), app (pc os pw cj) k o (un k)), ?_, by intro d cs hd; simp only [upd, noH] at hd ⊢; grind, ?_, ?_⟩
      ·simp (disch := omega) [wks, wkA, sl, prsP, w64, ints, rows, cubes, vi] <;> omega
      ·first| refine ⟨by first| omega| (simp only; omega)| (dsimp only; omega), ?_, ?_, ?_, ?_⟩| refine ⟨?_, ?_, ?_, ?_⟩
       ·rw [e1]; exact hg.cl hr (tu.mono hv hik)
       ·rw [e2]; exact hg.cl ho (tu.mono hv hik)
       ·rw [e1, e2, ← hao, hg.ac ha ho (tu.mono hv hik)]
       ·intro t ht; show (if t < k then r t else _) = 0; rw [if_pos ht]; exact hz t ht
      ·(simp only [e3, if_neg h2]; unfold tg0; split <;> split <;> simp_all <;> omega)
     ·try simp only [cn] at h2
      refine AW.exit ?_
      simp only [thn, blk, if_true]
      refine hN3 _ ?_
      try clear hN3 N3
      refine AW.regionL envOk ?_
      simp -dsimp -implicitDefEqProofs (disch := omega) only [go_sem, undef, reduceAdd, reduceSub, reduceGT, reduceEqDiff, reduceMul, prsP, ints, rows, cubes, w64, vi]
      refine ⟨(k + 1, r, o), ?_, fun _ _ h => h, ?_, ?_⟩
      ·simp (disch := omega) [wks, wkA, sl, prsP, w64, ints, rows, cubes, vi] <;> omega
      ·refine ⟨⟨by first| omega| (simp only; omega)| (dsimp only; omega), by first| omega| (simp only; omega)| (dsimp only; omega)⟩, hr, ho, hao, fun t ht => ?_⟩
       by_cases e : t = k
       ·subst e; exact h2
       ·exact hz t (by first| omega| (simp only; omega)| (dsimp only; omega))
      ·first | omega | (simp only; omega)
   ·try simp only [cn] at h1
    refine AW.exit ?_
    simp only [thn, blk, if_true]
    refine hN1 _ ?_
    try clear hN1 N1
    refine AW.sr envOk (fun N hN => ?_)
    simp -dsimp -implicitDefEqProofs (disch := omega) only [go_sem, undef, reduceAdd, reduceSub, reduceGT, reduceEqDiff, reduceMul, prsP, ints, rows, cubes, w64, vi]
    refine hN _ ?_
    try clear hN N
    refine AW.ret ?_
    simp -dsimp -implicitDefEqProofs (disch := omega) only [go_sem, undef, reduceAdd, reduceSub, reduceGT, reduceEqDiff, reduceMul]
    have hrz : r = z0 := by
     funext t
     by_cases e : t < os.length
     ·exact hz t (by omega)
     ·exact hr.t t (by omega)
    rw [hrz] at hao
    rw [← inv_eq hg ha ho hao]
    exact Own.vi (upd_same _ _ _) (by omega) (by omega)
 ·skip
  try simp -dsimp -implicitDefEqProofs (disch := omega) only [go_sem, undef, reduceAdd, reduceSub, reduceGT, reduceEqDiff, reduceMul, ]
  refine hN _ ?_
  try clear hN N
  refine AW.sr envOk (fun N hN => ?_)
  simp -dsimp -implicitDefEqProofs (disch := omega) only [go_sem, undef, reduceAdd, reduceSub, reduceGT, reduceEqDiff, reduceMul, prsP, ints, rows, cubes, w64, vi]
  refine hN _ ?_
  try clear hN N
  refine AW.seq (fun N5 hN5 => ?_)
  refine AW.sr envOk (fun N hN => ?_)
  simp -dsimp -implicitDefEqProofs (disch := omega) only [go_sem, undef, reduceAdd, reduceSub, reduceGT, reduceEqDiff, reduceMul, prsP, ints, rows, cubes, w64, vi]
  refine hN _ ?_
  try clear hN N
  refine AW.block ?_
  refine AW.loopN (α := Nat) (fun x => sl 33 [(0, prsP os pw cj), (5, .v 0 []), (6, .h (m1 + 2) 0 os.length), (14, .i .i64 0), (15, .i .i64 0)]) (fun _ => upd noH (m1 + 2) (some (ivs os.length z0))) (fun x m => m1 + 4 ≤ m) (fun x => 0) (0) ?_ ?_ (by rw [ivs_zero]; exact Le.refl _) ?_
  ·first| omega| (simp only; omega)| (dsimp only; omega)
  ·simp (disch := omega) [wks, wkA, sl, prsP, ints, rows, cubes, vi]
  ·skip
   rintro k m hk
   simp only [prsP, vi]
   simp -dsimp -implicitDefEqProofs (disch := omega) only [go_sem, undef, reduceAdd, reduceSub, reduceGT, reduceEqDiff, reduceMul]
   refine AW.sr envOk (fun N hN => ?_)
   simp -dsimp -implicitDefEqProofs (disch := omega) only [go_sem, undef, reduceAdd, reduceSub, reduceGT, reduceEqDiff, reduceMul, prsP, ints, rows, cubes, w64, vi]
   refine hN _ ?_
   try clear hN N
   refine AW.seq (fun N6 hN6 => ?_)
   refine AW.cond rfl (fun h3 => ?_) (fun h3 => ?_)
   ·try simp only [cn] at h3
    exfalso; omega
   ·try simp only [cn] at h3
    refine AW.exit ?_
    simp only [thn, blk, if_true]
    refine hN5 _ ?_
    try clear hN5 N5
    refine AW.sr envOk (fun N hN => ?_)
    simp -dsimp -implicitDefEqProofs (disch := omega) only [go_sem, undef, reduceAdd, reduceSub, reduceGT, reduceEqDiff, reduceMul, prsP, ints, rows, cubes, w64, vi]
    refine hN _ ?_
    try clear hN N
    refine AW.ret ?_
    simp -dsimp -implicitDefEqProofs (disch := omega) only [go_sem, undef, reduceAdd, reduceSub, reduceGT, reduceEqDiff, reduceMul]
    exact Own.vi (by rw [upd_same, ivs_ext (f := z0) (g := inv (pc os pw cj) i a) (fun t ht => by omega)]) (by omega) (by omega)
theorem impl_conjugate_ok (os : List Int) (pw : List (List Int)) (cj : List (List (List Int))) (h : presOk os pw cj) (i : Nat) (hc : Con (pc os pw cj) i) (a b : V) (ha : T (pc os pw cj) i a) (hb : T (pc os pw cj) i b) : ACo Try.prog 110 [prsP os pw cj, vi os.length a, vi os.length b] (vi os.length (M (pc os pw cj) i (inv (pc os pw cj) i b) (M (pc os pw cj) i a b))) := by
 have hv := h.val
 have hg := con_grp hv hc
 intro nx
 refine AC.intro' envOk Try.func110 rfl (by kernel_rfl) Try.ntmps110 Try.results110 ?_
 refine AW.sr envOk (fun N hN => ?_)
 simp -dsimp -implicitDefEqProofs (disch := omega) only [go_sem, undef, reduceAdd, reduceSub, reduceGT, reduceEqDiff, reduceMul, ]
 refine hN _ ?_
 try clear hN N
 refine AW.sr envOk (fun N hN => ?_)
 simp -dsimp -implicitDefEqProofs (disch := omega) only [go_sem, undef, reduceAdd, reduceSub, reduceGT, reduceEqDiff, reduceMul, ]
 refine AC.pure (.of ((impl_invert_ok os pw cj h i hc b hb).pure )) ?_
 try simp -dsimp -implicitDefEqProofs (disch := omega) only [go_sem, undef, reduceAdd, reduceSub, reduceGT, reduceEqDiff, reduceMul, ]
 refine AC.pure (.of ((impl_multiply_ok os pw cj h i hc a b ha hb).pure )) ?_
 try simp -dsimp -implicitDefEqProofs (disch := omega) only [go_sem, undef, reduceAdd, reduceSub, reduceGT, reduceEqDiff, reduceMul, ]
 refine AC.own (impl_multiply_ok os pw cj h i hc _ _ (inv_T hg hb).1 (hg.cl ha hb)) Vws.rfl ?_
 intro m1 H1 r1 ids1 hm1 hH1 hown1
 try simp -dsimp -implicitDefEqProofs (disch := omega) only [go_sem, undef, reduceAdd, reduceSub, reduceGT, reduceEqDiff, reduceMul, ]
 refine hN _ ?_
 try clear hN N
 refine AW.ret ?_
 simp -dsimp -implicitDefEqProofs (disch := omega) only [go_sem, undef, reduceAdd, reduceSub, reduceGT, reduceEqDiff, reduceMul]
 exact ⟨ids1, hown1.keep (fun _ _ _ => rfl) (by omega) (by omega)⟩
end Go.Proofs.Ytnlfbimjcabgiaa
