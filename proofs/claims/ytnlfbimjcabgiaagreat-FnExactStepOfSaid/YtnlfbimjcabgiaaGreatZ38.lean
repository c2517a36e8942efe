import Derived.Test.YtnlfbimjcabgiaaGreatZ37
set_option linter.unusedVariables false
set_option linter.unusedSimpArgs false
namespace Go.Proofs.YtnlfbimjcabgiaaGreat
open Nat (reduceAdd reduceSub reduceGT reduceEqDiff reduceMul)
noncomputable def rdw (P : Pc) (x w : V) : V := if x (ldV P.n w) = 0 then x else rdR P (ldV P.n w) w x
noncomputable def rdl (P : Pc) (us : List V) (x : V) : V := us.foldl (rdw P) x
theorem rdn_foldl {P : Pc} {dn : Nat → Option V} (hd : ∀ e w, dn e = some w → ldV P.n w = e) : ∀ f e x, rdn (rdR P) dn f e x = rdl P ((List.range' e f).filterMap dn) x := by
  intro f
  induction f with
  | zero => intro e x; rfl
  | succ f ih =>
    intro e x
    rw [rdn, ih, List.range'_succ]
    cases h : dn e with
    | none => rw [List.filterMap_cons_none h]
    | some w =>
      rw [List.filterMap_cons_some h]
      unfold rdl
      rw [List.foldl_cons]
      unfold rdw
      rw [hd e w h]
theorem rdn_rdl {P : Pc} {dn : Nat → Option V} (hd : ∀ e w, dn e = some w → ldV P.n w = e) (x : V) : rdn (rdR P) dn P.n 0 x = rdl P (outS dn P.n) x := by
  rw [rdn_foldl hd]
  unfold outS
  rw [List.range_eq_range']
theorem rdn_low {rd : Nat → V → V → V} {dn : Nat → Option V} {f : Nat} : ∀ k e x, (∀ i, e ≤ i → i < e + k → dn i = none) → rdn rd dn (f + k) e x = rdn rd dn f (e + k) x := by
  intro k
  induction k with
  | zero => intro e x _; rfl
  | succ k ih =>
    intro e x h
    rw [← Nat.add_assoc, rdn, h e (Nat.le_refl _) (by omega)]
    show rdn rd dn (f + k) (e + 1) x = _
    rw [ih (e + 1) x (fun i h1 h2 => h i (by omega) (by omega)), show e + 1 + k = e + (k + 1) by omega]
theorem outS_front {dn : Nat → Option V} {d : Nat} {x : V} (h0 : ∀ e, e ≤ d → dn e = none) : ∀ k, (k ≤ d → outS dn k = []) ∧ (k ≤ d → outS (fun e => if e = d then some x else dn e) k = []) ∧ (d < k → outS (fun e => if e = d then some x else dn e) k = x :: outS dn k) := by
  intro k
  induction k with
  | zero => exact ⟨fun _ => rfl, fun _ => rfl, fun h => by omega⟩
  | succ k ih =>
    obtain ⟨i1, i2, i3⟩ := ih
    refine ⟨fun h => ?_, fun h => ?_, fun h => ?_⟩
    · rw [outS_none (h0 k (by omega))]; exact i1 (by omega)
    · rw [outS_none (by rw [if_neg (by omega)]; exact h0 k (by omega))]; exact i2 (by omega)
    · by_cases e : k = d
      · subst e
        rw [outS_some (y := x) (by rw [if_pos rfl]), i2 (Nat.le_refl _), outS_none (h0 k (Nat.le_refl _)), i1 (Nat.le_refl _)]
        rfl
      · cases hk : dn k with
        | none =>
          rw [outS_none (by rw [if_neg e]; exact hk), outS_none hk]; exact i3 (by omega)
        | some y =>
          rw [outS_some (y := y) (by rw [if_neg e]; exact hk), outS_some hk, i3 (by omega)]; rfl
theorem rdR_end {P : Pc} (hv : Val P) (hc : Con P 0) {d : Nat} (hd : d < P.n) {w e : V} (hw : T P d w) (h1 : w d = 1) (he : T P 0 e) {q : Nat} (hq : q ≤ (P.o d - e d).toNat) :
    M P 0 e (rep (M P 0) w q) d = (e d + q) % P.o d := by
  have l := lvl hv hc
  rw [(M_at hv hc hd he ((l.g d).rep hw q)).2, l.rep_lead hd hw h1, Int.add_emod_emod]
section
variable (os : List Int) (pw : List (List Int)) (cj : List (List (List Int)))
set_option maxHeartbeats 1000000 in
theorem impl_representative_ok (h : presOk os pw cj) (hc : Con (pc os pw cj) 0) (us : List V) (hl : us.length ≤ 6) (hu : ∀ k, k < us.length → ldV os.length (us.getD k z0) < os.length ∧ T (pc os pw cj) (ldV os.length (us.getD k z0)) (us.getD k z0) ∧ us.getD k z0 (ldV os.length (us.getD k z0)) = 1) (a : V) (ha : T (pc os pw cj) 0 a) : ACo Tryz.prog 112 [prsP os pw cj, vls os.length us, vi os.length a] (vi os.length (rdl (pc os pw cj) us a)) := by
 have hn6 := h.1.1
 have hv := h.val
 have hg := con_grp hv hc
 have hTV := (times_ok os pw cj h 0 hc).1
 have hn0 : (pc os pw cj).n = os.length := rfl
 have hdl : (dpv os.length us).length = us.length := dpv_len
 intro nx
 refine AC.intro' envOk Tryz.func112 rfl (by kernel_rfl) Tryz.ntmps112 Tryz.results112 ?_
 refine AW.sr envOk (fun N hN => ?_)
 simp -dsimp -implicitDefEqProofs (maxSteps := 800000) (disch := omega) only [go_sem, undef, prsP, w64, vi, vls, ints, gd_i, dpv_len, dpv_get]
 refine hN _ ?_
 try clear hN N
 refine AW.sr envOk (fun N hN => ?_)
 simp -dsimp -implicitDefEqProofs (maxSteps := 800000) (disch := omega) only [go_sem, undef, prsP, w64, vi, vls, ints, gd_i, dpv_len, dpv_get]
 refine (clone_cp a (by omega) _ _).mono ?_
 rintro m1 H1 r1 (⟨id1, rfl, g1, g2, rfl⟩ | ⟨h0, rfl, rfl⟩)
 ·skip
  try simp -dsimp -implicitDefEqProofs (maxSteps := 800000) (disch := omega) only [go_sem, undef, prsP, w64, vi, vls, ints]
  refine hN _ ?_
  try clear hN N
  refine AW.seq (fun N1 hN1 => ?_)
  refine AW.sr envOk (fun N hN => ?_)
  simp -dsimp -implicitDefEqProofs (maxSteps := 800000) (disch := omega) only [go_sem, undef, prsP, w64, vi, vls, ints, gd_i, dpv_len, dpv_get]
  refine AC.pure (.of (impl_pivots_v os.length hn6 us (by omega) (fun k hk => (hu k hk).1) )) ?_
  try simp -dsimp -implicitDefEqProofs (maxSteps := 800000) (disch := omega) only [go_sem, undef, prsP, w64, vi, vls, ints, gd_i, dpv_len, dpv_get]
  refine hN _ ?_
  try clear hN N
  refine AW.block ?_
  refine AW.loopN (α := Nat × V) (fun x => sl 34 [(0, prsP os pw cj), (1, vls os.length us), (7, .h id1 0 os.length), (13, ints (dpv os.length us)), (14, .i .i64 us.length), (15, .i .i64 x.1)]) (fun x => upd noH id1 (some (ivs os.length x.2))) (fun x m => (x.1 ≤ us.length ∧ nx ≤ id1 ∧ id1 < m) ∧ T (pc os pw cj) 0 x.2 ∧ rdl (pc os pw cj) (us.drop x.1) x.2 = rdl (pc os pw cj) us a) (fun x => us.length - x.1) ((0, a)) ?_ ?_ (fun _ _ h => h) ?_
  ·exact ⟨⟨Nat.zero_le _, by first| omega| (simp only; omega)| (dsimp only; omega), by first| omega| (simp only; omega)| (dsimp only; omega)⟩, ha, rfl⟩
  ·simp (disch := omega) [wks, wkA, sl, prsP, ints, rows, cubes, vi, vls, dpv_len]
  ·skip
   rintro ⟨k, e⟩ m ⟨⟨hk, hid1, hm⟩, he, hI⟩
   dsimp only at hk hid1 hm he hI ⊢
   simp only [prsP, vls]
   simp -dsimp -implicitDefEqProofs (maxSteps := 800000) (disch := omega) only [go_sem, undef]
   refine AW.sr envOk (fun N hN => ?_)
   simp -dsimp -implicitDefEqProofs (maxSteps := 800000) (disch := omega) only [go_sem, undef, prsP, w64, vi, vls, ints, gd_i, dpv_len, dpv_get]
   refine hN _ ?_
   try clear hN N
   refine AW.seq (fun N2 hN2 => ?_)
   refine AW.cond rfl (fun h1 => ?_) (fun h1 => ?_)
   ·try simp only [cn] at h1
    obtain ⟨w, hw⟩ : ∃ w, us.getD k z0 = w := ⟨_, rfl⟩
    obtain ⟨d, hd⟩ : ∃ d, ldV os.length w = d := ⟨_, rfl⟩
    obtain ⟨w1, w2, w3⟩ := hu k (by omega)
    rw [hw, hd] at w1 w2 w3
    have hwd : ldV os.length (us.getD k z0) = d := by rw [hw, hd]
    have hw0 := w2.mono hv (Nat.zero_le d)
    have her := he.r d (Nat.zero_le d) (show d < os.length by omega)
    have huo := pr4_bd (h.2.1 d w1)
    have hoe : (pc os pw cj).o d = os.getD d 0 := rfl
    have hdp : us.drop k = w :: us.drop (k + 1) := by
     rw [← hw, List.getD_eq_getElem?_getD, List.getElem?_eq_getElem (by omega)]
     exact List.drop_eq_getElem_cons (by omega)
    have hst : rdl (pc os pw cj) (us.drop k) e = rdl (pc os pw cj) (us.drop (k + 1)) (rdw (pc os pw cj) e w) := by rw [hdp]; rfl
    have hrdw : rdw (pc os pw cj) e w = if e d = 0 then e else rdR (pc os pw cj) d w e := by unfold rdw; rw [hn0, hd]
    have hend := fun q hq => rdR_end hv hc (e := e) (show d < (pc os pw cj).n from w1) w2 w3 he (q := q) hq
    refine AW.skip ?_
    simp only [thn, blk]
    refine hN2 _ ?_
    try clear hN2 N2
    refine AW.seq (fun N3 hN3 => ?_)
    refine AW.block ?_
    refine AW.sr envOk (fun N hN => ?_)
    simp -dsimp -implicitDefEqProofs (maxSteps := 800000) (disch := omega) only [go_sem, undef, prsP, w64, vi, vls, ints, gd_i, dpv_len, dpv_get, hwd]
    refine hN _ ?_
    try clear hN N
    refine AW.block ?_
    refine AW.loopN (α := Nat × V) (fun x => sl 34 [(0, prsP os pw cj), (1, vls os.length us), (7, .h id1 0 os.length), (8, .i .i64 k), (9, .i .i64 d), (13, ints (dpv os.length us)), (14, .i .i64 us.length), (15, .i .i64 k)]) (fun x => upd noH id1 (some (ivs os.length x.2))) (fun x m => (x.1 ≤ (os.getD d 0 - e d).toNat ∧ id1 < m) ∧ (e d = 0 → x.1 = 0) ∧ x.2 = M (pc os pw cj) 0 e (rep (M (pc os pw cj) 0) w x.1)) (fun x => (os.getD d 0 - e d).toNat - x.1) ((0, e)) ?_ ?_ (fun _ _ h => h) ?_
    ·exact ⟨⟨Nat.zero_le _, by first| omega| (simp only; omega)| (dsimp only; omega)⟩, fun _ => rfl, (hg.r1 he).symm⟩
    ·simp (disch := omega) [wks, wkA, sl, prsP, ints, rows, cubes, vi, vls, dpv_len]
    ·skip
     rintro ⟨q, e2⟩ m2 ⟨⟨hq, hm2⟩, hq0, he2⟩
     dsimp only at hq hm2 hq0 he2 ⊢
     simp only [prsP, vls]
     simp -dsimp -implicitDefEqProofs (maxSteps := 800000) (disch := omega) only [go_sem, undef]
     have hq9 := hend q hq
     rw [← he2, hoe] at hq9
     have he2T : T (pc os pw cj) 0 e2 := by rw [he2]; exact hg.cl he (hg.rep hw0 q)
     refine AW.seq (fun N4 hN4 => ?_)
     refine AW.sr envOk (fun N hN => ?_)
     simp -dsimp -implicitDefEqProofs (maxSteps := 800000) (disch := omega) only [go_sem, undef, prsP, w64, vi, vls, ints, gd_i, dpv_len, dpv_get]
     refine hN _ ?_
     try clear hN N
     refine AW.cond rfl (fun h2 => ?_) (fun h2 => ?_)
     ·try simp only [cn] at h2
      have hne : e d ≠ 0 := fun h0 => by
       rw [hq0 h0, h0] at hq9
       simp at hq9
       exact h2 hq9
      have hlt : q + 1 ≤ (os.getD d 0 - e d).toNat := by
       apply Classical.byContradiction
       intro hn
       have : e d + (q : Int) = os.getD d 0 := by omega
       rw [this, Int.emod_self] at hq9
       exact h2 hq9
      refine AW.skip ?_
      simp only [thn, blk]
      refine hN4 _ ?_
      try clear hN4 N4
      refine AW.block ?_
      refine AW.regionL envOk ?_
      simp -dsimp -implicitDefEqProofs (maxSteps := 800000) (disch := omega) only [go_sem, undef, prsP, w64, vi, vls, ints, gd_i, dpv_len, dpv_get, vls_get, hw]
      refine (hTV _ _ id1 e2 w (upd_same _ _ _) he2T hw0).mono2 ?_
      rintro m3 H3 r3 hm3 rfl
      rw [app_M hv he2T hw0]
      try simp -dsimp -implicitDefEqProofs (maxSteps := 800000) (disch := omega) only [go_sem, undef, prsP, w64, vi, vls, ints, gd_i, dpv_len, dpv_get]
      refine ⟨(q + 1, M (pc os pw cj) 0 e2 w), ?_, fun _ _ h => h, ?_, ?_⟩
      ·simp (disch := omega) [wks, wkA, sl, prsP, w64, ints, rows, cubes, vi, vls] <;> omega
      ·have g3 : M (pc os pw cj) 0 e2 w = M (pc os pw cj) 0 e (rep (M (pc os pw cj) 0) w (q + 1)) := by rw [he2, hg.ac he (hg.rep hw0 q) hw0]; rfl
       first| exact g3| exact ⟨fun h0 => absurd h0 hne, g3⟩| exact ⟨⟨by first| omega| (simp only; omega)| (dsimp only; omega), by first| omega| (simp only; omega)| (dsimp only; omega)⟩, fun h0 => absurd h0 hne, g3⟩| exact ⟨by first| omega| (simp only; omega)| (dsimp only; omega), fun h0 => absurd h0 hne, g3⟩| exact ⟨by first| omega| (simp only; omega)| (dsimp only; omega), g3⟩
      ·first | omega | (simp only; omega)
     ·try simp only [cn] at h2
      refine AW.exit ?_
      simp only [thn, blk, if_true]
      refine hN3 _ ?_
      try clear hN3 N3
      refine AW.regionL envOk ?_
      simp -dsimp -implicitDefEqProofs (maxSteps := 800000) (disch := omega) only [go_sem, undef, prsP, w64, vi, vls, ints, gd_i, dpv_len, dpv_get]
      refine ⟨(k + 1, e2), ?_, fun _ _ h => h, ?_, ?_⟩
      ·simp (disch := omega) [wks, wkA, sl, prsP, w64, ints, rows, cubes, vi, vls] <;> omega
      ·have g3 : rdl (pc os pw cj) (us.drop (k + 1)) e2 = rdl (pc os pw cj) us a := by
        rw [← hI, hst, hrdw]
        congr 1
        by_cases h0 : e d = 0
        ·rw [if_pos h0, he2, hq0 h0]; exact hg.r1 he
        ·rw [if_neg h0, he2]
         unfold rdR
         rw [hoe]
         have hz : e2 d = 0 := h2
         rw [hz] at hq9
         have hqq : q = (os.getD d 0 - e d).toNat := by
          apply Classical.byContradiction
          intro hn
          have hlt : e d + (q : Int) < os.getD d 0 := by omega
          rw [Int.emod_eq_of_lt (by omega) hlt] at hq9
          omega
         rw [hqq]
       first| exact ⟨⟨by first| omega| (simp only; omega)| (dsimp only; omega), by first| omega| (simp only; omega)| (dsimp only; omega), by first| omega| (simp only; omega)| (dsimp only; omega)⟩, he2T, g3⟩| exact ⟨by first| omega| (simp only; omega)| (dsimp only; omega), he2T, g3⟩| exact ⟨he2T, g3⟩
      ·first | omega | (simp only; omega)
   ·try simp only [cn] at h1
    refine AW.exit ?_
    simp only [thn, blk, if_true]
    refine hN1 _ ?_
    try clear hN1 N1
    refine AW.sr envOk (fun N hN => ?_)
    simp -dsimp -implicitDefEqProofs (maxSteps := 800000) (disch := omega) only [go_sem, undef, prsP, w64, vi, vls, ints, gd_i, dpv_len, dpv_get]
    refine hN _ ?_
    try clear hN N
    refine AW.ret ?_
    simp -dsimp -implicitDefEqProofs (maxSteps := 800000) (disch := omega) only [go_sem, undef]
    rw [show k = us.length by omega, List.drop_length] at hI
    have hI2 : e = rdl (pc os pw cj) us a := hI
    rw [← hI2]
    exact Own.vi (upd_same _ _ _) (by omega) (by omega)
 ·skip
  try simp -dsimp -implicitDefEqProofs (maxSteps := 800000) (disch := omega) only [go_sem, undef, prsP, w64, vi, vls, ints]
  refine hN _ ?_
  try clear hN N
  refine AW.seq (fun N5 hN5 => ?_)
  refine AW.sr envOk (fun N hN => ?_)
  simp -dsimp -implicitDefEqProofs (maxSteps := 800000) (disch := omega) only [go_sem, undef, prsP, w64, vi, vls, ints, gd_i, dpv_len, dpv_get]
  refine AC.pure (.of (impl_pivots_v os.length hn6 us (by omega) (fun k hk => (hu k hk).1) )) ?_
  try simp -dsimp -implicitDefEqProofs (maxSteps := 800000) (disch := omega) only [go_sem, undef, prsP, w64, vi, vls, ints, gd_i, dpv_len, dpv_get]
  refine hN _ ?_
  try clear hN N
  refine AW.block ?_
  refine AW.loopN (α := Nat) (fun x => sl 34 [(0, prsP os pw cj), (1, vls os.length us), (7, .v 0 []), (13, ints (dpv os.length us)), (14, .i .i64 us.length), (15, .i .i64 0)]) (fun _ => noH) (fun x m => True) (fun x => 0) (0) ?_ ?_ (fun _ _ h => h) ?_
  ·trivial
  ·simp (disch := omega) [wks, wkA, sl, prsP, ints, rows, cubes, vi, vls, dpv_len]
  ·skip
   rintro k m hk
   simp only [prsP, vls]
   simp -dsimp -implicitDefEqProofs (maxSteps := 800000) (disch := omega) only [go_sem, undef]
   have hus : us.length = 0 := by
    apply Classical.byContradiction
    intro hn
    have := (hu 0 (by omega)).1
    omega
   refine AW.sr envOk (fun N hN => ?_)
   simp -dsimp -implicitDefEqProofs (maxSteps := 800000) (disch := omega) only [go_sem, undef, prsP, w64, vi, vls, ints, gd_i, dpv_len, dpv_get]
   refine hN _ ?_
   try clear hN N
   refine AW.seq (fun N6 hN6 => ?_)
   refine AW.cond rfl (fun h3 => ?_) (fun h3 => ?_)
   ·try simp only [cn] at h3
    exfalso; omega
   ·try simp only [cn] at h3
    refine AW.exit ?_
    simp only [thn, blk, if_true]
    refine hN5 _ ?_
    try clear hN5 N5
    refine AW.sr envOk (fun N hN => ?_)
    simp -dsimp -implicitDefEqProofs (maxSteps := 800000) (disch := omega) only [go_sem, undef, prsP, w64, vi, vls, ints, gd_i, dpv_len, dpv_get]
    refine hN _ ?_
    try clear hN N
    refine AW.ret ?_
    simp -dsimp -implicitDefEqProofs (maxSteps := 800000) (disch := omega) only [go_sem, undef]
    exact Own.vi0 h0
theorem dnR_ok (h : presOk os pw cj) (hc : Con (pc os pw cj) 0) {t : Nat → Option V} (hG : tbG (pc os pw cj) t) (j : Nat) (hj : j ≤ os.length) : ∀ d z, dnG (rdR (pc os pw cj)) t os.length j d = some z → os.length - j ≤ d ∧ d < os.length ∧ T (pc os pw cj) d z ∧ z d = 1 := by
  have hv := h.val
  have l := lvl hv hc
  have := (dnG_ok hv hc (rdR_rk2 hv hc) (l.sbg 0) (t := t) (fun d y hy => ⟨(hG d y hy).1, l.le (Nat.zero_le d) (hG d y hy).2.1, (hG d y hy).2⟩) j hj).1
  intro d z hz
  obtain ⟨a1, a2, a3, a4, a5, _⟩ := this d z hz
  exact ⟨a1, a2, a4, a5⟩
theorem outR_ok (h : presOk os pw cj) (hc : Con (pc os pw cj) 0) {t : Nat → Option V} (hG : tbG (pc os pw cj) t) (j : Nat) (hj : j ≤ os.length) : ∀ k, k < (outS (dnG (rdR (pc os pw cj)) t os.length j) os.length).length → ldV os.length ((outS (dnG (rdR (pc os pw cj)) t os.length j) os.length).getD k z0) < os.length ∧ T (pc os pw cj) (ldV os.length ((outS (dnG (rdR (pc os pw cj)) t os.length j) os.length).getD k z0)) ((outS (dnG (rdR (pc os pw cj)) t os.length j) os.length).getD k z0) ∧ (outS (dnG (rdR (pc os pw cj)) t os.length j) os.length).getD k z0 (ldV os.length ((outS (dnG (rdR (pc os pw cj)) t os.length j) os.length).getD k z0)) = 1 := by
  intro k hk
  obtain ⟨z, hz⟩ : ∃ z, (outS (dnG (rdR (pc os pw cj)) t os.length j) os.length).getD k z0 = z := ⟨_, rfl⟩
  have hm : z ∈ outS (dnG (rdR (pc os pw cj)) t os.length j) os.length := by rw [← hz, List.getD_eq_getElem?_getD, List.getElem?_eq_getElem hk]; exact List.getElem_mem _
  obtain ⟨d, hd⟩ := outS_mem hm
  obtain ⟨a1, a2, a3, a4⟩ := dnR_ok os pw cj h hc hG j hj d z hd
  rw [hz, ldV_eq a2 a3 a4]
  exact ⟨a2, a3, a4⟩
end
end Go.Proofs.YtnlfbimjcabgiaaGreat
