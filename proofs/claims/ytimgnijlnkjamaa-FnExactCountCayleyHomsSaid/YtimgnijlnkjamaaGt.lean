/-
  Homomorphisms from the groups of Cayley tables by the program; the law FnExactIsCayleyHom.
-/
import Derived.Test.YtimgnijlnkjamaaGs
import Derived.Test.YtimgnijlnkjamaaGj
import Derived.Test.YtimgnijlnkjamaaGm
set_option linter.unusedVariables false
set_option linter.unusedSimpArgs false
namespace Go.Proofs.Ytimgnijlnkjamaa
open Nat (reduceAdd reduceSub reduceGT reduceEqDiff reduceMul)
attribute [go_sem] cvs_len
theorem ex_slT {t : TypeId} {s b : Nat} {z : Value} {q : Bool} : (∃ e el, (⟨.slice t, s, b, z, q⟩ : TE) = e ∧ e.d = TD.slice el) = True := eq_true ⟨_, _, rfl, rfl⟩

theorem T_nil {os : List Int} {pw : List (List Int)} {cj : List (List (List Int))} {i : Nat} {f g : V} (h0 : os.length = 0) (hf : T (pc os pw cj) i f) (hg : T (pc os pw cj) i g) : f = g := by
  funext k
  have hn : (pc os pw cj).n = os.length := rfl
  rw [hf.t k (by omega), hg.t k (by omega)]

theorem impl_isCayleyHom_ok (tb : List (List Int)) (htb : cayP tb) (hrl : rowslen tb) (os : List Int) (pw : List (List Int)) (cj : List (List (List Int))) (h : presOk os pw cj) (hc : Con (pc os pw cj) 0) (xs : List (List Int)) (hx : exsP os xs) (hxl : xs.length = tb.length) : ACp Try.prog 71 [rows tb, prsP os pw cj, rows xs] (.b (tf (mapP (pc os pw cj) xs tb))) := by
 have hn6 := h.1.1
 have hv := h.val
 have htn := hrl.n
 obtain ⟨n, hn⟩ : ∃ n, (tb.getD 0 []).length = n := ⟨_, rfl⟩
 have hwo := wout_T h hx (tb := tb) (by omega)
 have hwi := fun x v m hm => winn_T (x := x) (v := v) (m := m) h hx (tb := tb) (by omega) hm
 refine ACp.intro' envOk Try.func71 rfl (by kernel_rfl) Try.ntmps71 Try.results71 (.b _) (fun nx => ?_)
 refine AW.sr envOk (fun N hN => ?_)
 simp -dsimp -implicitDefEqProofs (disch := omega) only [go_sem, undef, reduceAdd, reduceSub, reduceGT, reduceEqDiff, reduceMul, prs, prsP, rows, ints, gd_i, gd_r, w64, vi, hn]
 refine hN _ ?_
 try clear hN N
 refine AW.seq (fun N1 hN1 => ?_)
 refine AW.sr envOk (fun N hN => ?_)
 simp -dsimp -implicitDefEqProofs (disch := omega) only [go_sem, undef, reduceAdd, reduceSub, reduceGT, reduceEqDiff, reduceMul, prs, prsP, rows, ints, gd_i, gd_r, w64, vi, hn]
 refine hN _ ?_
 try clear hN N
 refine AW.cond rfl (fun h1 => ?_) (fun h1 => ?_)
 ·try simp only [cn] at h1
  refine AW.sr envOk (fun N hN => ?_)
  simp -dsimp -implicitDefEqProofs (disch := omega) only [go_sem, undef, reduceAdd, reduceSub, reduceGT, reduceEqDiff, reduceMul, prs, prsP, rows, ints, gd_i, gd_r, w64, vi, hn]
  refine hN _ ?_
  try clear hN N
  refine AW.ret ?_
  simp -dsimp -implicitDefEqProofs (disch := omega) only [go_sem, undef, reduceAdd, reduceSub, reduceGT, reduceEqDiff, reduceMul]
  exact bt (tf_t (.inl (by omega))).symm
 ·try simp only [cn] at h1
  obtain ⟨hS, hz, hnum, hmov⟩ := htb.out (n := n) (by omega) hn
  obtain ⟨hn1, hn2, hG1, hG, hlen, hrng⟩ := id hS
  refine AW.skip ?_
  simp only [thn, blk]
  refine hN1 _ ?_
  try clear hN1 N1
  refine AW.sr envOk (fun N hN => ?_)
  simp -dsimp -implicitDefEqProofs (disch := omega) only [go_sem, undef, reduceAdd, reduceSub, reduceGT, reduceEqDiff, reduceMul, prs, prsP, rows, ints, gd_i, gd_r, w64, vi, hn]
  refine hN _ ?_
  try clear hN N
  refine AW.sr envOk (fun N hN => ?_)
  simp -dsimp -implicitDefEqProofs (disch := omega) only [go_sem, undef, reduceAdd, reduceSub, reduceGT, reduceEqDiff, reduceMul, prs, prsP, rows, ints, gd_i, gd_r, w64, vi, hn]
  refine hN _ ?_
  try clear hN N
  refine AW.seq (fun N2 hN2 => ?_)
  refine AW.fzcell (nx + 1 + 3 + 4) (nx + 1 + 3 + 6 + 6) os.length 0 (splice (List.replicate n AV.nl) 0 [AV.h (nx + 1 + 3 + 6 + 6) 0 os.length]) (List.replicate os.length (AV.i IntKind.i64 0)) (upd_same _ _ _) (by rw [splice_one (List.replicate n AV.nl) 0 _ (by rw [List.length_replicate]; omega)]; exact List.getElem?_set_self (by rw [List.length_replicate]; omega)) ((upd_ne _ _ (by omega)).trans (upd_same _ _ _)) (by simp) (by omega) ?_
  rw [show AV.v os.length (List.replicate os.length (AV.i IntKind.i64 0)) = vi os.length z0 from by rw [ivs_zero]; rfl, cvs_one (by omega)]
  simp -dsimp -implicitDefEqProofs (disch := omega) only [go_sem, undef, reduceAdd, reduceSub, reduceGT, reduceEqDiff, reduceMul]
  refine AW.sr envOk (fun N hN => ?_)
  simp -dsimp -implicitDefEqProofs (disch := omega) only [go_sem, undef, reduceAdd, reduceSub, reduceGT, reduceEqDiff, reduceMul, prs, prsP, rows, ints, gd_i, gd_r, w64, vi, hn]
  refine hN _ ?_
  try clear hN N
  refine AW.block ?_
  refine AW.loopN (α := Nat) (fun x => sl 77 [(0, rows tb), (1, prsP os pw cj), (2, rows xs), (7, .h (nx + 1 + 3 + 4) 0 n), (29, .i .i64 n), (30, .i .i64 x)]) (fun x => upd noH (nx + 1 + 3 + 4) (some (cvs n os.length (nout tb x).toNat (wout (pc os pw cj) xs tb x)))) (fun x m => x ≤ n ∧ (∀ k, k < x → ∀ g, g < tb.length → mapAt (pc os pw cj) xs tb k g)) (fun x => n - x) (0) ?_ ?_ (by rw [show (nout tb 0).toNat = 1 from rfl, wout]; intro d cs hd; simp only [upd, noH] at hd ⊢; grind) ?_
  ·exact ⟨by omega, by intro j hj; omega⟩
  ·simp [wks, wkA, sl, rows, vi, prsP, ints, nout]
  ·skip
   rintro k m ⟨hk, hI⟩
   simp -dsimp -implicitDefEqProofs (disch := omega) only [go_sem, undef, reduceAdd, reduceSub, reduceGT, reduceEqDiff, reduceMul]
   have hb := nout_bd hS k hk
   refine AW.sr envOk (fun N hN => ?_)
   simp -dsimp -implicitDefEqProofs (disch := omega) only [go_sem, undef, reduceAdd, reduceSub, reduceGT, reduceEqDiff, reduceMul, prs, prsP, rows, ints, gd_i, gd_r, w64, vi, hn]
   refine hN _ ?_
   try clear hN N
   refine AW.seq (fun N3 hN3 => ?_)
   refine AW.cond rfl (fun h2 => ?_) (fun h2 => ?_)
   ·try simp only [cn] at h2
    refine AW.skip ?_
    simp only [thn, blk]
    refine hN3 _ ?_
    try clear hN3 N3
    refine AW.seq (fun N4 hN4 => ?_)
    refine AW.block ?_
    refine AW.sr envOk (fun N hN => ?_)
    simp -dsimp -implicitDefEqProofs (disch := omega) only [go_sem, undef, reduceAdd, reduceSub, reduceGT, reduceEqDiff, reduceMul, prs, prsP, rows, ints, gd_i, gd_r, w64, vi, hn]
    refine hN _ ?_
    try clear hN N
    refine AW.sr envOk (fun N hN => ?_)
    simp -dsimp -implicitDefEqProofs (disch := omega) only [go_sem, undef, reduceAdd, reduceSub, reduceGT, reduceEqDiff, reduceMul, prs, prsP, rows, ints, gd_i, gd_r, w64, vi, hn]
    refine hN _ ?_
    try clear hN N
    refine AW.block ?_
    refine AW.loopN (α := Nat) (fun x => sl 77 [(0, rows tb), (1, prsP os pw cj), (2, rows xs), (7, .h (nx + 1 + 3 + 4) 0 n), (8, .i .i64 k), (29, .i .i64 n), (30, .i .i64 k), (33, rows tb), (34, .i .i64 tb.length), (35, .i .i64 x)]) (fun x => upd noH (nx + 1 + 3 + 4) (some (cvs n os.length (ninn tb k x (nout tb k)).toNat (winn (pc os pw cj) xs tb k x (nout tb k) (wout (pc os pw cj) xs tb k))))) (fun x m => x ≤ tb.length ∧ (∀ g, g < x → mapAt (pc os pw cj) xs tb k g)) (fun x => tb.length - x) (0) ?_ ?_ (by rw [ninn, winn]; exact Le.refl _) ?_
    ·exact ⟨by omega, by intro j hj; omega⟩
    ·simp [wks, wkA, sl, rows, vi, prsP, ints, ninn]
    ·skip
     rintro g m2 ⟨hg, hJ⟩
     simp -dsimp -implicitDefEqProofs (disch := omega) only [go_sem, undef, reduceAdd, reduceSub, reduceGT, reduceEqDiff, reduceMul]
     have hb2 := ninn_bd hS (x := k) (by omega) hb.2 g hg
     have hkn := hnum k (by omega)
     have hkl := hkn.1
     have hmT := hwi k (nout tb k) (wout (pc os pw cj) xs tb k) (hwo k) g hg
     obtain ⟨m0, hm0⟩ : ∃ m0, winn (pc os pw cj) xs tb k g (nout tb k) (wout (pc os pw cj) xs tb k) = m0 := ⟨_, rfl⟩
     obtain ⟨v, hv0⟩ : ∃ v, ninn tb k g (nout tb k) = v := ⟨_, rfl⟩
     rw [hv0] at hb2
     rw [hm0] at hmT
     rw [hm0, hv0]
     refine AW.sr envOk (fun N hN => ?_)
     simp -dsimp -implicitDefEqProofs (disch := omega) only [go_sem, undef, reduceAdd, reduceSub, reduceGT, reduceEqDiff, reduceMul, prs, prsP, rows, ints, gd_i, gd_r, w64, vi, hn]
     refine hN _ ?_
     try clear hN N
     refine AW.seq (fun N5 hN5 => ?_)
     refine AW.cond rfl (fun h3 => ?_) (fun h3 => ?_)
     ·try simp only [cn] at h3
      have hl := hlen g (by omega)
      have hr := hrng g k (by omega) (by omega)
      have hnu := hkn.2 g (by omega)
      rw [hv0] at hnu
      have ex : AV.v (xs.getD g []).length (List.map (AV.i IntKind.i64) (xs.getD g [])) = vi os.length (imX xs g) := imX_vi hx (by omega)
      have hxT : T (pc os pw cj) 0 (imX xs g) := imX_T hx (by omega)
      have hyT := M_T hv (hmT k) hxT
      obtain ⟨y, hy⟩ : ∃ y, M (pc os pw cj) 0 (m0 k) (imX xs g) = y := ⟨_, rfl⟩
      rw [hy] at hyT
      have gk : (cvs n os.length v.toNat m0).getD k .j = AV.v os.length (ivs os.length (m0 k)) := cvs_get (by omega) (by omega)
      refine AW.skip ?_
      simp only [thn, blk]
      refine hN5 _ ?_
      try clear hN5 N5
      refine AW.seq (fun N6 hN6 => ?_)
      refine AW.block ?_
      refine AW.sr envOk (fun N hN => ?_)
      simp -dsimp -implicitDefEqProofs (disch := omega) only [go_sem, undef, reduceAdd, reduceSub, reduceGT, reduceEqDiff, reduceMul, prs, prsP, rows, ints, gd_i, gd_r, w64, vi, hn]
      refine hN _ ?_
      try clear hN N
      refine AW.seq (fun N hN => ?_)
      refine AW.drawL envOk (by kernel_rfl) 11 (by kernel_rfl) ?_
      simp -dsimp -implicitDefEqProofs (disch := omega) only [hr_nil, hr_one, hr_if, List.take_succ_cons, List.take_zero, List.drop_succ_cons, List.drop_zero, List.take_nil, List.drop_nil, go_sem, undef, reduceAdd, reduceSub, reduceGT, reduceEqDiff, reduceMul, prs, prsP, rows, ints, gd_i, gd_r, w64, vi, hn, gk]
      rw [ex, show AV.v os.length (ivs os.length (m0 k)) = vi os.length (m0 k) from rfl]
      refine ⟨_, .of (hy ▸ (impl_multiply_ok os pw cj h 0 hc _ _ (hmT k) hxT).pure ), ?_⟩
      try simp -dsimp -implicitDefEqProofs (disch := omega) only [go_sem, undef, reduceAdd, reduceSub, reduceGT, reduceEqDiff, reduceMul, prs, prsP, rows, ints, gd_i, gd_r, w64, vi, hn]
      by_cases hV : (tb.getD g []).getD k 0 = v
      ·skip
       have hM : winn (pc os pw cj) xs tb k (g + 1) (nout tb k) (wout (pc os pw cj) xs tb k) = vset m0 v.toNat y := by rw [winn, hv0, if_pos hV, hm0, hy]
       have hs : ninn tb k (g + 1) (nout tb k) = v + 1 := by rw [ninn, hv0, if_pos hV]
       have hs1 : (v + 1).toNat = v.toNat + 1 := by omega
       have gt : (cvs n os.length v.toNat m0).getD ((tb.getD g []).getD k 0).toNat .j = .nl := cvs_nl (by omega) (by omega)
       have gs : splice (cvs n os.length v.toNat m0) ((tb.getD g []).getD k 0).toNat [AV.v os.length (ivs os.length y)] = cvs n os.length (v.toNat + 1) (vset m0 v.toNat y) := by rw [hV]; exact cvs_new (by omega)
       have gt2 : (cvs n os.length (v.toNat + 1) (vset m0 v.toNat y)).getD ((tb.getD g []).getD k 0).toNat .j = AV.v os.length (ivs os.length (vset m0 v.toNat y ((tb.getD g []).getD k 0).toNat)) := cvs_get (by omega) (by omega)
       refine hN _ ?_
       try clear hN N
       refine AW.seq (fun N7 hN7 => ?_)
       refine AW.sr envOk (fun N hN => ?_)
       simp -dsimp -implicitDefEqProofs (disch := omega) only [go_sem, undef, reduceAdd, reduceSub, reduceGT, reduceEqDiff, reduceMul, prs, prsP, rows, ints, gd_i, gd_r, w64, vi, hn, gt, ex_slT, true_and]
       refine hN _ ?_
       try clear hN N
       refine AW.condT rfl ?_
       refine AW.regionL envOk ?_
       simp -dsimp -implicitDefEqProofs (disch := omega) only [go_sem, undef, reduceAdd, reduceSub, reduceGT, reduceEqDiff, reduceMul, prs, prsP, rows, ints, gd_i, gd_r, w64, vi, hn, gs]
       refine hN7 _ ?_
       try clear hN7 N7
       refine AW.sr envOk (fun N hN => ?_)
       simp -dsimp -implicitDefEqProofs (disch := omega) only [go_sem, undef, reduceAdd, reduceSub, reduceGT, reduceEqDiff, reduceMul, prs, prsP, rows, ints, gd_i, gd_r, w64, vi, hn]
       rw [gt2, show ∀ f, AV.v os.length (ivs os.length f) = vi os.length f from fun _ => rfl, show ∀ f, AV.v os.length (ivs os.length f) = vi os.length f from fun _ => rfl]
       refine AC.pure (.of (slices_Equal_T (by omega) (vset_T (k := v.toNat) hmT hyT _) hyT )) ?_
       try simp -dsimp -implicitDefEqProofs (disch := omega) only [go_sem, undef, reduceAdd, reduceSub, reduceGT, reduceEqDiff, reduceMul, prs, prsP, rows, ints, gd_i, gd_r, w64, vi, hn]
       refine hN _ ?_
       try clear hN N
       refine AW.cond rfl (fun h4 => ?_) (fun h4 => ?_)
       ·try simp only [cn] at h4
        refine AW.sr envOk (fun N hN => ?_)
        simp -dsimp -implicitDefEqProofs (disch := omega) only [go_sem, undef, reduceAdd, reduceSub, reduceGT, reduceEqDiff, reduceMul, prs, prsP, rows, ints, gd_i, gd_r, w64, vi, hn]
        refine hN _ ?_
        try clear hN N
        refine AW.ret ?_
        simp -dsimp -implicitDefEqProofs (disch := omega) only [go_sem, undef, reduceAdd, reduceSub, reduceGT, reduceEqDiff, reduceMul]
        exact bt (tf_f (fun hq => h4 (by have hq1 := (hq.resolve_left (by omega)) k (by omega) g (by omega); unfold mapAt at hq1; rw [hM, hm0, hy] at hq1; exact hq1))).symm
       ·try simp only [cn] at h4
        refine AW.skip ?_
        simp only [thn, blk]
        refine hN6 _ ?_
        try clear hN6 N6
        refine AW.regionL envOk ?_
        simp -dsimp -implicitDefEqProofs (disch := omega) only [go_sem, undef, reduceAdd, reduceSub, reduceGT, reduceEqDiff, reduceMul, prs, prsP, rows, ints, gd_i, gd_r, w64, vi, hn]
        refine ⟨g + 1, ?_, by rw [hM, hs, hs1]; intro d cs hd; simp only [upd, noH] at hd ⊢; grind, ?_, ?_⟩
        ·simp (disch := omega) [wks, wkA, sl, w64, ints, rows, prs, prsP, vi, hs, hs1]
        ·refine ⟨by omega, fun j hj => ?_⟩
         by_cases e : j = g
         ·subst e; unfold mapAt; rw [hM, hm0, hy]; exact h4
         ·exact hJ j (by omega)
        ·first | omega | (simp only; omega)
      ·skip
       have hM : winn (pc os pw cj) xs tb k (g + 1) (nout tb k) (wout (pc os pw cj) xs tb k) = m0 := by rw [winn, hv0, if_neg hV, hm0]
       have hs : ninn tb k (g + 1) (nout tb k) = v := by rw [ninn, hv0, if_neg hV]
       have hs1 : True := trivial
       have gt : (cvs n os.length v.toNat m0).getD ((tb.getD g []).getD k 0).toNat .j = AV.v os.length (ivs os.length (m0 ((tb.getD g []).getD k 0).toNat)) := cvs_get (by omega) (by omega)
       have gs : splice (cvs n os.length v.toNat m0) ((tb.getD g []).getD k 0).toNat [AV.v os.length (ivs os.length y)] = cvs n os.length v.toNat (vset m0 ((tb.getD g []).getD k 0).toNat y) := cvs_old (by omega) (by omega)
       have gt2 : (cvs n os.length v.toNat (vset m0 ((tb.getD g []).getD k 0).toNat y)).getD ((tb.getD g []).getD k 0).toNat .j = AV.v os.length (ivs os.length (vset m0 ((tb.getD g []).getD k 0).toNat y ((tb.getD g []).getD k 0).toNat)) := cvs_get (by omega) (by omega)
       refine hN _ ?_
       try clear hN N
       refine AW.seq (fun N8 hN8 => ?_)
       refine AW.sr envOk (fun N hN => ?_)
       simp -dsimp -implicitDefEqProofs (disch := omega) only [go_sem, undef, reduceAdd, reduceSub, reduceGT, reduceEqDiff, reduceMul, prs, prsP, rows, ints, gd_i, gd_r, w64, vi, hn, gt, ex_slT, true_and]
       refine ⟨fun h0 => ?_, ?_⟩
       ·skip
        have hm1 : vset m0 ((tb.getD g []).getD k 0).toNat y = m0 := funext fun j => T_nil h0 (vset_T hmT hyT j) (hmT j)
        refine hN _ ?_
        try clear hN N
        refine AW.condT rfl ?_
        refine AW.regionL envOk ?_
        simp -dsimp -implicitDefEqProofs (disch := omega) only [go_sem, undef, reduceAdd, reduceSub, reduceGT, reduceEqDiff, reduceMul, prs, prsP, rows, ints, gd_i, gd_r, w64, vi, hn, gs]
        refine hN8 _ ?_
        try clear hN8 N8
        refine AW.sr envOk (fun N hN => ?_)
        simp -dsimp -implicitDefEqProofs (disch := omega) only [go_sem, undef, reduceAdd, reduceSub, reduceGT, reduceEqDiff, reduceMul, prs, prsP, rows, ints, gd_i, gd_r, w64, vi, hn]
        rw [gt2, show ∀ f, AV.v os.length (ivs os.length f) = vi os.length f from fun _ => rfl, show ∀ f, AV.v os.length (ivs os.length f) = vi os.length f from fun _ => rfl]
        refine AC.pure (.of (slices_Equal_T (by omega) (vset_T (k := ((tb.getD g []).getD k 0).toNat) hmT hyT _) hyT )) ?_
        try simp -dsimp -implicitDefEqProofs (disch := omega) only [go_sem, undef, reduceAdd, reduceSub, reduceGT, reduceEqDiff, reduceMul, prs, prsP, rows, ints, gd_i, gd_r, w64, vi, hn]
        refine hN _ ?_
        try clear hN N
        refine AW.cond rfl (fun h5 => ?_) (fun h5 => ?_)
        ·try simp only [cn] at h5
         refine AW.sr envOk (fun N hN => ?_)
         simp -dsimp -implicitDefEqProofs (disch := omega) only [go_sem, undef, reduceAdd, reduceSub, reduceGT, reduceEqDiff, reduceMul, prs, prsP, rows, ints, gd_i, gd_r, w64, vi, hn]
         refine hN _ ?_
         try clear hN N
         refine AW.ret ?_
         simp -dsimp -implicitDefEqProofs (disch := omega) only [go_sem, undef, reduceAdd, reduceSub, reduceGT, reduceEqDiff, reduceMul]
         exact bt (tf_f (fun hq => h5 (T_nil h0 (vset_T hmT hyT _) hyT))).symm
        ·try simp only [cn] at h5
         refine AW.skip ?_
         simp only [thn, blk]
         refine hN6 _ ?_
         try clear hN6 N6
         refine AW.regionL envOk ?_
         simp -dsimp -implicitDefEqProofs (disch := omega) only [go_sem, undef, reduceAdd, reduceSub, reduceGT, reduceEqDiff, reduceMul, prs, prsP, rows, ints, gd_i, gd_r, w64, vi, hn]
         refine ⟨g + 1, ?_, by rw [hM, hs, hm1]; intro d cs hd; simp only [upd, noH] at hd ⊢; grind, ?_, ?_⟩
         ·simp (disch := omega) [wks, wkA, sl, w64, ints, rows, prs, prsP, vi, hs, hs1]
         ·refine ⟨by omega, fun j hj => ?_⟩
          by_cases e : j = g
          ·subst e; unfold mapAt; rw [hM, hm0, hy]; exact T_nil h0 (hmT _) hyT
          ·exact hJ j (by omega)
         ·first | omega | (simp only; omega)
       ·skip
        refine hN _ ?_
        try clear hN N
        refine AW.condF rfl ?_
        refine AW.skip ?_
        simp only [thn, blk]
        refine hN8 _ ?_
        try clear hN8 N8
        refine AW.sr envOk (fun N hN => ?_)
        simp -dsimp -implicitDefEqProofs (disch := omega) only [go_sem, undef, reduceAdd, reduceSub, reduceGT, reduceEqDiff, reduceMul, prs, prsP, rows, ints, gd_i, gd_r, w64, vi, hn]
        rw [gt]
        refine AC.pure (.of (slices_Equal_T (by omega) (hmT _) hyT )) ?_
        try simp -dsimp -implicitDefEqProofs (disch := omega) only [go_sem, undef, reduceAdd, reduceSub, reduceGT, reduceEqDiff, reduceMul, prs, prsP, rows, ints, gd_i, gd_r, w64, vi, hn]
        refine hN _ ?_
        try clear hN N
        refine AW.cond rfl (fun h6 => ?_) (fun h6 => ?_)
        ·try simp only [cn] at h6
         refine AW.sr envOk (fun N hN => ?_)
         simp -dsimp -implicitDefEqProofs (disch := omega) only [go_sem, undef, reduceAdd, reduceSub, reduceGT, reduceEqDiff, reduceMul, prs, prsP, rows, ints, gd_i, gd_r, w64, vi, hn]
         refine hN _ ?_
         try clear hN N
         refine AW.ret ?_
         simp -dsimp -implicitDefEqProofs (disch := omega) only [go_sem, undef, reduceAdd, reduceSub, reduceGT, reduceEqDiff, reduceMul]
         exact bt (tf_f (fun hq => h6 (by have hq1 := (hq.resolve_left (by omega)) k (by omega) g (by omega); unfold mapAt at hq1; rw [hM, hm0, hy] at hq1; exact hq1))).symm
        ·try simp only [cn] at h6
         refine AW.skip ?_
         simp only [thn, blk]
         refine hN6 _ ?_
         try clear hN6 N6
         refine AW.regionL envOk ?_
         simp -dsimp -implicitDefEqProofs (disch := omega) only [go_sem, undef, reduceAdd, reduceSub, reduceGT, reduceEqDiff, reduceMul, prs, prsP, rows, ints, gd_i, gd_r, w64, vi, hn]
         refine ⟨g + 1, ?_, by rw [hM, hs]; exact Le.refl _, ?_, ?_⟩
         ·simp (disch := omega) [wks, wkA, sl, w64, ints, rows, prs, prsP, vi, hs, hs1]
         ·refine ⟨by omega, fun j hj => ?_⟩
          by_cases e : j = g
          ·subst e; unfold mapAt; rw [hM, hm0, hy]; exact h6
          ·exact hJ j (by omega)
         ·first | omega | (simp only; omega)
     ·try simp only [cn] at h3
      refine AW.exit ?_
      simp only [thn, blk, if_true]
      refine hN4 _ ?_
      try clear hN4 N4
      refine AW.regionL envOk ?_
      simp -dsimp -implicitDefEqProofs (disch := omega) only [go_sem, undef, reduceAdd, reduceSub, reduceGT, reduceEqDiff, reduceMul, prs, prsP, rows, ints, gd_i, gd_r, w64, vi, hn]
      have hg' : g = tb.length := by omega
      subst hg'
      refine ⟨k + 1, ?_, by rw [nout, wout, hm0, hv0]; exact Le.refl _, ?_, ?_⟩
      ·simp (disch := omega) [wks, wkA, sl, w64, ints, rows, prs, prsP, vi, nout, hv0]
      ·refine ⟨by omega, fun j hj => ?_⟩
       by_cases e : j = k
       ·subst e; exact hJ
       ·exact hI j (by omega)
      ·first | omega | (simp only; omega)
   ·try simp only [cn] at h2
    refine AW.exit ?_
    simp only [thn, blk, if_true]
    refine hN2 _ ?_
    try clear hN2 N2
    refine AW.sr envOk (fun N hN => ?_)
    simp -dsimp -implicitDefEqProofs (disch := omega) only [go_sem, undef, reduceAdd, reduceSub, reduceGT, reduceEqDiff, reduceMul, prs, prsP, rows, ints, gd_i, gd_r, w64, vi, hn]
    refine hN _ ?_
    try clear hN N
    refine AW.ret ?_
    simp -dsimp -implicitDefEqProofs (disch := omega) only [go_sem, undef, reduceAdd, reduceSub, reduceGT, reduceEqDiff, reduceMul]
    exact bt (tf_t (.inr (fun x hx2 g hg => hI x (by omega) g hg))).symm

theorem impl_IsCayleyHom_ok (tb : List (List Int)) (hrl : rowslen tb) (os : List Int) (pw : List (List Int)) (cj : List (List (List Int))) (hl : prlen os pw cj) (xs : List (List Int)) (hx : rowslen xs) : ACp Try.prog 36 [rows tb, prs os pw cj, rows xs] (resT (tf (cmP tb os pw cj xs)) (tf (mapP (pc os pw cj) xs tb))) := by
 have hrn := hrl.n
 have hxn := hx.n
 have hlo := hl.o
 refine ACp.intro' envOk Try.func36 rfl (by kernel_rfl) Try.ntmps36 Try.results36 (resT_nr _ _) (fun nx => ?_)
 refine AW.sr envOk (fun N hN => ?_)
 simp -dsimp -implicitDefEqProofs (disch := omega) only [go_sem, undef, reduceAdd, reduceSub, reduceGT, reduceEqDiff, reduceMul, prs, rows, w64]
 refine hN _ ?_
 try clear hN N
 refine AW.freezeQ 4 nx _ rfl (upd_same _ _ _) ?_
 simp -dsimp -implicitDefEqProofs (disch := omega) only [go_sem, undef, reduceAdd, reduceSub, reduceGT, reduceEqDiff, reduceMul]
 refine AW.seq (fun N1 hN1 => ?_)
 refine AW.sr envOk (fun N hN => ?_)
 simp -dsimp -implicitDefEqProofs (disch := omega) only [go_sem, undef, reduceAdd, reduceSub, reduceGT, reduceEqDiff, reduceMul, prs, rows, w64]
 refine AC.pure (.of (impl_isCayleyTable_ok tb hrl)) ?_
 try simp -dsimp -implicitDefEqProofs (disch := omega) only [go_sem, undef, reduceAdd, reduceSub, reduceGT, reduceEqDiff, reduceMul, prs, rows, w64]
 refine gopB.mk' (fun h1 => ?_) (fun h1 => ?_)
 ·try simp only [cn] at h1
  try simp -dsimp -implicitDefEqProofs (disch := omega) only [go_sem, undef, reduceAdd, reduceSub, reduceGT, reduceEqDiff, reduceMul, prs, rows, w64]
  refine AC.pure (.of (impl_areElements_ok os pw cj hl xs hx )) ?_
  try simp -dsimp -implicitDefEqProofs (disch := omega) only [go_sem, undef, reduceAdd, reduceSub, reduceGT, reduceEqDiff, reduceMul, prs, rows, w64]
  refine gopB.mk' (fun h2 => ?_) (fun h2 => ?_)
  ·try simp only [cn] at h2
   try simp -dsimp -implicitDefEqProofs (disch := omega) only [go_sem, undef, reduceAdd, reduceSub, reduceGT, reduceEqDiff, reduceMul, prs, rows, w64]
   refine hN _ ?_
   try clear hN N
   refine AW.cond rfl (fun h3 => ?_) (fun h3 => ?_)
   ·try simp only [cn] at h3
    refine AW.sr envOk (fun N hN => ?_)
    simp -dsimp -implicitDefEqProofs (disch := omega) only [go_sem, undef, reduceAdd, reduceSub, reduceGT, reduceEqDiff, reduceMul, prs, rows, w64]
    refine hN _ ?_
    try clear hN N
    refine AW.ret ?_
    simp -dsimp -implicitDefEqProofs (disch := omega) only [go_sem, undef, reduceAdd, reduceSub, reduceGT, reduceEqDiff, reduceMul]
    exact (resT_f (fun q => h3 (by have := q.2.2.1; omega))).symm
   ·try simp only [cn] at h3
    refine AW.skip ?_
    simp only [thn, blk]
    refine hN1 _ ?_
    try clear hN1 N1
    refine AW.sr envOk (fun N hN => ?_)
    simp -dsimp -implicitDefEqProofs (disch := omega) only [go_sem, undef, reduceAdd, reduceSub, reduceGT, reduceEqDiff, reduceMul, prs, rows, w64]
    refine AC.pure (.of (impl_isCayleyHom_ok tb h1 hrl os pw cj h2.1.1 h2.1.2 xs h2.2 (by omega) )) ?_
    try simp -dsimp -implicitDefEqProofs (disch := omega) only [go_sem, undef, reduceAdd, reduceSub, reduceGT, reduceEqDiff, reduceMul, prs, rows, w64]
    refine hN _ ?_
    try clear hN N
    refine AW.ret ?_
    simp -dsimp -implicitDefEqProofs (disch := omega) only [go_sem, undef, reduceAdd, reduceSub, reduceGT, reduceEqDiff, reduceMul]
    exact (resT_t ⟨h1, h2.1, by omega, h2.2⟩).symm
  ·try simp only [cn] at h2
   try simp -dsimp -implicitDefEqProofs (disch := omega) only [go_sem, undef, reduceAdd, reduceSub, reduceGT, reduceEqDiff, reduceMul, prs, rows, w64]
   refine hN _ ?_
   try clear hN N
   refine AW.condT rfl ?_
   refine AW.sr envOk (fun N hN => ?_)
   simp -dsimp -implicitDefEqProofs (disch := omega) only [go_sem, undef, reduceAdd, reduceSub, reduceGT, reduceEqDiff, reduceMul, prs, rows, w64]
   refine hN _ ?_
   try clear hN N
   refine AW.ret ?_
   simp -dsimp -implicitDefEqProofs (disch := omega) only [go_sem, undef, reduceAdd, reduceSub, reduceGT, reduceEqDiff, reduceMul]
   exact (resT_f (fun q => h2 ⟨q.2.1, q.2.2.2⟩)).symm
 ·try simp only [cn] at h1
  try simp -dsimp -implicitDefEqProofs (disch := omega) only [go_sem, undef, reduceAdd, reduceSub, reduceGT, reduceEqDiff, reduceMul, prs, rows, w64]
  refine hN _ ?_
  try clear hN N
  refine AW.condT rfl ?_
  refine AW.sr envOk (fun N hN => ?_)
  simp -dsimp -implicitDefEqProofs (disch := omega) only [go_sem, undef, reduceAdd, reduceSub, reduceGT, reduceEqDiff, reduceMul, prs, rows, w64]
  refine hN _ ?_
  try clear hN N
  refine AW.ret ?_
  simp -dsimp -implicitDefEqProofs (disch := omega) only [go_sem, undef, reduceAdd, reduceSub, reduceGT, reduceEqDiff, reduceMul]
  exact (resT_f (fun q => h1 q.1)).symm


theorem law_IsCayleyHom (tb : List (List Int)) (os : List Int) (pw : List (List Int)) (cj : List (List (List Int))) (xs : List (List Int)) (htb : rowsok tb) (h0 : intsok os) (hpw : rowsok pw) (hcj : cubesok cj) (hxs : rowsok xs) : ACp Try.prog 7 [rows tb, prs os pw cj, rows xs] (.b true) := by
 have ho := h0.1
 obtain ⟨M1, hM1⟩ : ∃ b, tf (cmP tb os pw cj xs) = b := ⟨_, rfl⟩
 obtain ⟨M2, hM2⟩ : ∃ b, tf (mapP (pc os pw cj) xs tb) = b := ⟨_, rfl⟩
 refine ACp.intro' envOk Try.func7 rfl (by kernel_rfl) Try.ntmps7 Try.results7 (.b _) (fun nx => ?_)
 refine AW.sr envOk (fun N hN => ?_)
 simp -dsimp -implicitDefEqProofs (disch := omega) only [go_sem, undef, reduceAdd, reduceSub, reduceGT, reduceEqDiff, reduceMul, prs, w64, resT]
 refine hN _ ?_
 try clear hN N
 refine AW.sr envOk (fun N hN => ?_)
 simp -dsimp -implicitDefEqProofs (disch := omega) only [go_sem, undef, reduceAdd, reduceSub, reduceGT, reduceEqDiff, reduceMul, prs, w64, resT]
 refine hN _ ?_
 try clear hN N
 refine AW.sr envOk (fun N hN => ?_)
 simp -dsimp -implicitDefEqProofs (disch := omega) only [go_sem, undef, reduceAdd, reduceSub, reduceGT, reduceEqDiff, reduceMul, prs, w64, resT]
 have hs1 := szSS_le tb 1048576 (by omega)
 refine AC.pure (.of (szSS_ok tb 1048576 (by omega) (by omega) htb )) ?_
 try simp -dsimp -implicitDefEqProofs (disch := omega) only [go_sem, undef, reduceAdd, reduceSub, reduceGT, reduceEqDiff, reduceMul, prs, w64, resT]
 refine hN _ ?_
 try clear hN N
 refine AW.seq (fun N1 hN1 => ?_)
 refine AW.sr envOk (fun N hN => ?_)
 simp -dsimp -implicitDefEqProofs (disch := omega) only [go_sem, undef, reduceAdd, reduceSub, reduceGT, reduceEqDiff, reduceMul, prs, w64, resT]
 refine hN _ ?_
 try clear hN N
 refine AW.cond rfl (fun h1 => ?_) (fun h1 => ?_)
 ·try simp only [cn] at h1
  refine AW.sr envOk (fun N hN => ?_)
  simp -dsimp -implicitDefEqProofs (disch := omega) only [go_sem, undef, reduceAdd, reduceSub, reduceGT, reduceEqDiff, reduceMul, prs, w64, resT]
  refine hN _ ?_
  try clear hN N
  refine AW.ret ?_
  simp -dsimp -implicitDefEqProofs (disch := omega) only [go_sem, undef, reduceAdd, reduceSub, reduceGT, reduceEqDiff, reduceMul]
  try (exfalso; first | omega | (simp_all; done))
 ·try simp only [cn] at h1
  have hr := szSS_mem (by omega) (by omega) h1
  refine AW.skip ?_
  simp only [thn, blk]
  refine hN1 _ ?_
  try clear hN1 N1
  refine AW.sr envOk (fun N hN => ?_)
  simp -dsimp -implicitDefEqProofs (disch := omega) only [go_sem, undef, reduceAdd, reduceSub, reduceGT, reduceEqDiff, reduceMul, prs, w64, resT]
  have hs2 := szP_le os pw cj (szSS tb 1048576) (by omega)
  refine AC.pure (.of (laws_szPresentation_ok os pw cj (szSS tb 1048576) (by omega) (by omega) h0 hpw hcj )) ?_
  try simp -dsimp -implicitDefEqProofs (disch := omega) only [go_sem, undef, reduceAdd, reduceSub, reduceGT, reduceEqDiff, reduceMul, prs, w64, resT]
  refine hN _ ?_
  try clear hN N
  refine AW.seq (fun N2 hN2 => ?_)
  refine AW.sr envOk (fun N hN => ?_)
  simp -dsimp -implicitDefEqProofs (disch := omega) only [go_sem, undef, reduceAdd, reduceSub, reduceGT, reduceEqDiff, reduceMul, prs, w64, resT]
  refine hN _ ?_
  try clear hN N
  refine AW.cond rfl (fun h2 => ?_) (fun h2 => ?_)
  ·try simp only [cn] at h2
   refine AW.sr envOk (fun N hN => ?_)
   simp -dsimp -implicitDefEqProofs (disch := omega) only [go_sem, undef, reduceAdd, reduceSub, reduceGT, reduceEqDiff, reduceMul, prs, w64, resT]
   refine hN _ ?_
   try clear hN N
   refine AW.ret ?_
   simp -dsimp -implicitDefEqProofs (disch := omega) only [go_sem, undef, reduceAdd, reduceSub, reduceGT, reduceEqDiff, reduceMul]
   try (exfalso; first | omega | (simp_all; done))
  ·try simp only [cn] at h2
   obtain ⟨hl, g1, g2⟩ := szP_mem (by omega) (by omega) h2
   have hlo := hl.o
   refine AW.skip ?_
   simp only [thn, blk]
   refine hN2 _ ?_
   try clear hN2 N2
   refine AW.sr envOk (fun N hN => ?_)
   simp -dsimp -implicitDefEqProofs (disch := omega) only [go_sem, undef, reduceAdd, reduceSub, reduceGT, reduceEqDiff, reduceMul, prs, w64, resT]
   refine AC.pure (.of (szSS_ok xs (szP os pw cj (szSS tb 1048576)) (by omega) (by omega) hxs )) ?_
   try simp -dsimp -implicitDefEqProofs (disch := omega) only [go_sem, undef, reduceAdd, reduceSub, reduceGT, reduceEqDiff, reduceMul, prs, w64, resT]
   refine hN _ ?_
   try clear hN N
   refine AW.seq (fun N3 hN3 => ?_)
   refine AW.sr envOk (fun N hN => ?_)
   simp -dsimp -implicitDefEqProofs (disch := omega) only [go_sem, undef, reduceAdd, reduceSub, reduceGT, reduceEqDiff, reduceMul, prs, w64, resT]
   refine hN _ ?_
   try clear hN N
   refine AW.cond rfl (fun h3 => ?_) (fun h3 => ?_)
   ·try simp only [cn] at h3
    refine AW.sr envOk (fun N hN => ?_)
    simp -dsimp -implicitDefEqProofs (disch := omega) only [go_sem, undef, reduceAdd, reduceSub, reduceGT, reduceEqDiff, reduceMul, prs, w64, resT]
    refine hN _ ?_
    try clear hN N
    refine AW.ret ?_
    simp -dsimp -implicitDefEqProofs (disch := omega) only [go_sem, undef, reduceAdd, reduceSub, reduceGT, reduceEqDiff, reduceMul]
    try (exfalso; first | omega | (simp_all; done))
   ·try simp only [cn] at h3
    have hx := szSS_mem (by omega) (by omega) h3
    have hto := (laws_toPresentation_ok os pw cj hlo g1 g2).pure
    have htf := (toSS_ok tb (by have := hr.n; omega) (fun x h => by have := hr.v x h; omega)).pure
    have htx := (toSS_ok xs (by have := hx.n; omega) (fun x h => by have := hx.v x h; omega)).pure
    have hsp := spec_IsCayleyHom_ok tb hr os pw cj hl xs hx
    have him := impl_IsCayleyHom_ok tb hr os pw cj hl xs hx
    rw [hM1, hM2] at hsp him
    refine AW.skip ?_
    simp only [thn, blk]
    refine hN3 _ ?_
    try clear hN3 N3
    refine AW.seq (fun N hN => ?_)
    refine AW.drawL envOk (by kernel_rfl) 12 (by kernel_rfl) ?_
    simp -dsimp -implicitDefEqProofs (disch := omega) only [hr_nil, hr_one, hr_if, List.take_succ_cons, List.take_zero, List.drop_succ_cons, List.drop_zero, List.take_nil, List.drop_nil, go_sem, undef, reduceAdd, reduceSub, reduceGT, reduceEqDiff, reduceMul, prs, w64, resT]
    refine ⟨_, .of (htf ), ?_⟩
    try simp -dsimp -implicitDefEqProofs (disch := omega) only [go_sem, undef, reduceAdd, reduceSub, reduceGT, reduceEqDiff, reduceMul, prs, w64, resT]
    refine ⟨_, .of (hto ), ?_⟩
    try simp -dsimp -implicitDefEqProofs (disch := omega) only [go_sem, undef, reduceAdd, reduceSub, reduceGT, reduceEqDiff, reduceMul, prs, w64, resT]
    refine ⟨_, .of (htx ), ?_⟩
    try simp -dsimp -implicitDefEqProofs (disch := omega) only [go_sem, undef, reduceAdd, reduceSub, reduceGT, reduceEqDiff, reduceMul, prs, w64, resT]
    refine ⟨_, .of (hsp ), ?_⟩
    try simp -dsimp -implicitDefEqProofs (disch := omega) only [go_sem, undef, reduceAdd, reduceSub, reduceGT, reduceEqDiff, reduceMul, prs, w64, resT]
    refine hN _ ?_
    try clear hN N
    refine AW.sr envOk (fun N hN => ?_)
    simp -dsimp -implicitDefEqProofs (disch := omega) only [go_sem, undef, reduceAdd, reduceSub, reduceGT, reduceEqDiff, reduceMul, prs, w64, resT]
    refine AC.pure (.of (htf )) ?_
    try simp -dsimp -implicitDefEqProofs (disch := omega) only [go_sem, undef, reduceAdd, reduceSub, reduceGT, reduceEqDiff, reduceMul, prs, w64, resT]
    refine hN _ ?_
    try clear hN N
    refine AW.sr envOk (fun N hN => ?_)
    simp -dsimp -implicitDefEqProofs (disch := omega) only [go_sem, undef, reduceAdd, reduceSub, reduceGT, reduceEqDiff, reduceMul, prs, w64, resT]
    refine AC.pure (.of (hto )) ?_
    try simp -dsimp -implicitDefEqProofs (disch := omega) only [go_sem, undef, reduceAdd, reduceSub, reduceGT, reduceEqDiff, reduceMul, prs, w64, resT]
    refine hN _ ?_
    try clear hN N
    refine AW.sr envOk (fun N hN => ?_)
    simp -dsimp -implicitDefEqProofs (disch := omega) only [go_sem, undef, reduceAdd, reduceSub, reduceGT, reduceEqDiff, reduceMul, prs, w64, resT]
    refine AC.pure (.of (htx )) ?_
    try simp -dsimp -implicitDefEqProofs (disch := omega) only [go_sem, undef, reduceAdd, reduceSub, reduceGT, reduceEqDiff, reduceMul, prs, w64, resT]
    refine hN _ ?_
    try clear hN N
    refine AW.sr envOk (fun N hN => ?_)
    simp -dsimp -implicitDefEqProofs (disch := omega) only [go_sem, undef, reduceAdd, reduceSub, reduceGT, reduceEqDiff, reduceMul, prs, w64, resT]
    refine AC.pure (.of (him )) ?_
    try simp -dsimp -implicitDefEqProofs (disch := omega) only [go_sem, undef, reduceAdd, reduceSub, reduceGT, reduceEqDiff, reduceMul, prs, w64, resT]
    refine hN _ ?_
    try clear hN N
    refine AW.seq (fun N4 hN4 => ?_)
    refine AW.sr envOk (fun N hN => ?_)
    simp -dsimp -implicitDefEqProofs (disch := omega) only [go_sem, undef, reduceAdd, reduceSub, reduceGT, reduceEqDiff, reduceMul, prs, w64, resT]
    refine gopB.mk' (fun h4 => ?_) (fun h4 => ?_)
    ·try simp only [cn] at h4
     try simp -dsimp -implicitDefEqProofs (disch := omega) only [go_sem, undef, reduceAdd, reduceSub, reduceGT, reduceEqDiff, reduceMul, prs, w64, resT]
     refine hN _ ?_
     try clear hN N
     refine AW.cond rfl (fun h5 => ?_) (fun h5 => ?_)
     ·try simp only [cn] at h5
      refine AW.sr envOk (fun N hN => ?_)
      simp -dsimp -implicitDefEqProofs (disch := omega) only [go_sem, undef, reduceAdd, reduceSub, reduceGT, reduceEqDiff, reduceMul, prs, w64, resT]
      refine hN _ ?_
      try clear hN N
      refine AW.ret ?_
      simp -dsimp -implicitDefEqProofs (disch := omega) only [go_sem, undef, reduceAdd, reduceSub, reduceGT, reduceEqDiff, reduceMul]
      try (exfalso; first | omega | (simp_all; done))
     ·try simp only [cn] at h5
      refine AW.skip ?_
      simp only [thn, blk]
      refine hN4 _ ?_
      try clear hN4 N4
      refine AW.seq (fun N5 hN5 => ?_)
      refine AW.sr envOk (fun N hN => ?_)
      simp -dsimp -implicitDefEqProofs (disch := omega) only [go_sem, undef, reduceAdd, reduceSub, reduceGT, reduceEqDiff, reduceMul, prs, w64, resT]
      refine AC.pure (.of (htf )) ?_
      try simp -dsimp -implicitDefEqProofs (disch := omega) only [go_sem, undef, reduceAdd, reduceSub, reduceGT, reduceEqDiff, reduceMul, prs, w64, resT]
      refine AC.pure (.of (laws_eqInt64SS_ok tb tb htb htb )) ?_
      try simp -dsimp -implicitDefEqProofs (disch := omega) only [go_sem, undef, reduceAdd, reduceSub, reduceGT, reduceEqDiff, reduceMul, prs, w64, resT]
      refine hN _ ?_
      try clear hN N
      refine AW.cond rfl (fun h6 => ?_) (fun h6 => ?_)
      ·try simp only [cn] at h6
       refine AW.sr envOk (fun N hN => ?_)
       simp -dsimp -implicitDefEqProofs (disch := omega) only [go_sem, undef, reduceAdd, reduceSub, reduceGT, reduceEqDiff, reduceMul, prs, w64, resT]
       refine hN _ ?_
       try clear hN N
       refine AW.ret ?_
       simp -dsimp -implicitDefEqProofs (disch := omega) only [go_sem, undef, reduceAdd, reduceSub, reduceGT, reduceEqDiff, reduceMul]
       try (exfalso; first | omega | (simp_all; done))
      ·try simp only [cn] at h6
       refine AW.skip ?_
       simp only [thn, blk]
       refine hN5 _ ?_
       try clear hN5 N5
       refine AW.seq (fun N6 hN6 => ?_)
       refine AW.seq (fun N hN => ?_)
       refine AW.drawL envOk (by kernel_rfl) 5 (by kernel_rfl) ?_
       simp -dsimp -implicitDefEqProofs (disch := omega) only [hr_nil, hr_one, hr_if, List.take_succ_cons, List.take_zero, List.drop_succ_cons, List.drop_zero, List.take_nil, List.drop_nil, go_sem, undef, reduceAdd, reduceSub, reduceGT, reduceEqDiff, reduceMul, prs, w64, resT]
       refine ⟨_, .of (hto ), ?_⟩
       try simp -dsimp -implicitDefEqProofs (disch := omega) only [go_sem, undef, reduceAdd, reduceSub, reduceGT, reduceEqDiff, reduceMul, prs, w64, resT]
       refine ⟨_, .of (laws_eqPresentation_ok os os pw pw cj cj (by omega) (by omega) hpw hpw hcj hcj ), ?_⟩
       try simp -dsimp -implicitDefEqProofs (disch := omega) only [go_sem, undef, reduceAdd, reduceSub, reduceGT, reduceEqDiff, reduceMul, prs, w64, resT]
       refine hN _ ?_
       try clear hN N
       refine AW.cond rfl (fun h7 => ?_) (fun h7 => ?_)
       ·try simp only [cn] at h7
        refine AW.sr envOk (fun N hN => ?_)
        simp -dsimp -implicitDefEqProofs (disch := omega) only [go_sem, undef, reduceAdd, reduceSub, reduceGT, reduceEqDiff, reduceMul, prs, w64, resT]
        refine hN _ ?_
        try clear hN N
        refine AW.ret ?_
        simp -dsimp -implicitDefEqProofs (disch := omega) only [go_sem, undef, reduceAdd, reduceSub, reduceGT, reduceEqDiff, reduceMul]
        try (exfalso; first | omega | (simp_all; done))
       ·try simp only [cn] at h7
        refine AW.skip ?_
        simp only [thn, blk]
        refine hN6 _ ?_
        try clear hN6 N6
        refine AW.seq (fun N7 hN7 => ?_)
        refine AW.sr envOk (fun N hN => ?_)
        simp -dsimp -implicitDefEqProofs (disch := omega) only [go_sem, undef, reduceAdd, reduceSub, reduceGT, reduceEqDiff, reduceMul, prs, w64, resT]
        refine AC.pure (.of (htx )) ?_
        try simp -dsimp -implicitDefEqProofs (disch := omega) only [go_sem, undef, reduceAdd, reduceSub, reduceGT, reduceEqDiff, reduceMul, prs, w64, resT]
        refine AC.pure (.of (laws_eqInt64SS_ok xs xs hxs hxs )) ?_
        try simp -dsimp -implicitDefEqProofs (disch := omega) only [go_sem, undef, reduceAdd, reduceSub, reduceGT, reduceEqDiff, reduceMul, prs, w64, resT]
        refine hN _ ?_
        try clear hN N
        refine AW.cond rfl (fun h8 => ?_) (fun h8 => ?_)
        ·try simp only [cn] at h8
         refine AW.sr envOk (fun N hN => ?_)
         simp -dsimp -implicitDefEqProofs (disch := omega) only [go_sem, undef, reduceAdd, reduceSub, reduceGT, reduceEqDiff, reduceMul, prs, w64, resT]
         refine hN _ ?_
         try clear hN N
         refine AW.ret ?_
         simp -dsimp -implicitDefEqProofs (disch := omega) only [go_sem, undef, reduceAdd, reduceSub, reduceGT, reduceEqDiff, reduceMul]
         try (exfalso; first | omega | (simp_all; done))
        ·try simp only [cn] at h8
         refine AW.skip ?_
         simp only [thn, blk]
         refine hN7 _ ?_
         try clear hN7 N7
         refine AW.sr envOk (fun N hN => ?_)
         simp -dsimp -implicitDefEqProofs (disch := omega) only [go_sem, undef, reduceAdd, reduceSub, reduceGT, reduceEqDiff, reduceMul, prs, w64, resT]
         refine hN _ ?_
         try clear hN N
         refine AW.ret ?_
         simp -dsimp -implicitDefEqProofs (disch := omega) only [go_sem, undef, reduceAdd, reduceSub, reduceGT, reduceEqDiff, reduceMul]
         try (exfalso; first | omega | (simp_all; done))
    ·try simp only [cn] at h4
     try simp -dsimp -implicitDefEqProofs (disch := omega) only [go_sem, undef, reduceAdd, reduceSub, reduceGT, reduceEqDiff, reduceMul, prs, w64, resT]
     refine hN _ ?_
     try clear hN N
     refine AW.condT rfl ?_
     refine AW.sr envOk (fun N hN => ?_)
     simp -dsimp -implicitDefEqProofs (disch := omega) only [go_sem, undef, reduceAdd, reduceSub, reduceGT, reduceEqDiff, reduceMul, prs, w64, resT]
     refine hN _ ?_
     try clear hN N
     refine AW.ret ?_
     simp -dsimp -implicitDefEqProofs (disch := omega) only [go_sem, undef, reduceAdd, reduceSub, reduceGT, reduceEqDiff, reduceMul]
     try (exfalso; first | omega | (simp_all; done))

end Go.Proofs.Ytimgnijlnkjamaa
