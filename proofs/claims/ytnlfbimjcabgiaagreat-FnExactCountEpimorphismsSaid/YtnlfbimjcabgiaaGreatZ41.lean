import Derived.Test.YtnlfbimjcabgiaaGreatZ34
import Derived.Test.YtnlfbimjcabgiaaGreatZ39
import Derived.Test.YtnlfbimjcabgiaaGreatZ40
set_option linter.unusedVariables false
set_option linter.unusedSimpArgs false
namespace Go.Proofs.YtnlfbimjcabgiaaGreat
open Nat (reduceAdd reduceSub reduceGT reduceEqDiff reduceMul)
theorem cloF_G {P : Pc} (hv : Val P) (hc : Con P 0) (hp : ∀ d, d < P.n → pr4 (P.o d)) : ∀ (f : Nat) (t : Nat → Option V) (w : List V), tbG P t → (∀ x ∈ w, T P 0 x) → tbG P (cloF P f t w) := by
  intro f
  induction f with
  | zero => intro t w ht _; exact ht
  | succ f ih =>
    intro t w ht hw
    rw [cloF]
    split
    · exact ht
    · rename_i hne
      have hx : T P 0 (w.getD (w.length - 1) z0) := hw _ (by rw [List.getD_eq_getElem?_getD, List.getElem?_eq_getElem (by omega)]; exact List.getElem_mem _)
      obtain ⟨g1, g2⟩ := clR_G hv hc hp ht (w := w.take (w.length - 1)) (fun x h => hw x (List.mem_of_mem_take h)) hx
      exact ih _ _ g1 g2
theorem redF_G {P : Pc} (hv : Val P) (hc : Con P 0) (hp : ∀ d, d < P.n → pr4 (P.o d)) {dn : Nat → Option V} (hd : tbG P dn) {d : Nat} (hdn : d < P.n) : ∀ (f e : Nat) (x : V), d < e → T P d x → x d = 1 → T P d (redF P dn f e x) ∧ redF P dn f e x d = 1 := by
  intro f
  induction f with
  | zero => intro e x _ h1 h2; exact ⟨h1, h2⟩
  | succ f ih =>
    intro e x he hx h1
    rw [redF]
    cases hz : dn e with
    | none => exact ih _ _ (by omega) hx h1
    | some z =>
      dsimp only
      split
      · exact ih _ _ (by omega) hx h1
      · obtain ⟨z1, z2, z3⟩ := hd e z hz
        obtain ⟨p1, p2⟩ := pw_lead hv hc z1 z2 (0 - x e)
        have p3 := p1.mono hv (Nat.le_of_lt he)
        have p4 : pwV P z (0 - x e) d = 0 := p1.z d he
        refine ih _ _ (by omega) (M_Td hv hx p3) ?_
        have := pr4_bd (hp d hdn)
        rw [M_lead hv hdn hx p3, p4, h1, Int.add_zero, Int.emod_eq_of_lt (by omega) (by omega)]
theorem dnS_G {P : Pc} (hv : Val P) (hc : Con P 0) (hp : ∀ d, d < P.n → pr4 (P.o d)) {t : Nat → Option V} (ht : tbG P t) : ∀ j, j ≤ P.n → tbG P (dnS P P.n t j) := by
  intro j
  induction j with
  | zero => intro _ d y h; cases h
  | succ j ih =>
    intro hj
    rw [dnS]
    split
    · exact ih (by omega)
    · rename_i y hy
      intro d z hz
      unfold oset at hz
      split at hz
      · rename_i e
        subst e; cases hz
        obtain ⟨y1, y2, y3⟩ := ht _ y hy
        exact ⟨y1, redF_G hv hc hp (ih (by omega)) y1 j (P.n - j) y (by omega) y2 y3⟩
      · exact ih (by omega) d z hz
theorem ldV_lt {P : Pc} {d : Nat} {y : V} (hd : d < P.n) (h1 : y d = 1) : ldV P.n y < P.n := by
  apply Classical.byContradiction
  intro hn
  have h := (ldG_sp (x := y) P.n 0).2.2.1 d (Nat.zero_le _) (by unfold ldV at hn; omega)
  omega
theorem outS_mem {dn : Nat → Option V} {k : Nat} {y : V} (h : y ∈ outS dn k) : ∃ d, dn d = some y := by
  obtain ⟨d, _, hd⟩ := List.mem_filterMap.1 h
  exact ⟨d, hd⟩
section
variable (os : List Int) (pw : List (List Int)) (cj : List (List (List Int)))
noncomputable def cloU (P : Pc) (us : List V) : List V := outS (dnS P P.n (cloF P (clM P (fun _ => none) us) (fun _ => none) us) P.n) P.n
theorem cloU_ld (h : presOk os pw cj) (hc : Con (pc os pw cj) 0) {us : List V} (hu : ∀ x ∈ us, T (pc os pw cj) 0 x) : ∀ k, k < (cloU (pc os pw cj) us).length → ldV os.length ((cloU (pc os pw cj) us).getD k z0) < os.length := by
  intro k hk
  have hm : (cloU (pc os pw cj) us).getD k z0 ∈ cloU (pc os pw cj) us := by rw [List.getD_eq_getElem?_getD, List.getElem?_eq_getElem hk]; exact List.getElem_mem _
  obtain ⟨d, hd⟩ := outS_mem hm
  have hG := cloF_G h.val hc (fun d hd => h.2.1 d hd) (clM (pc os pw cj) (fun _ => none) us) (fun _ => none) us (fun d y hy => by cases hy) hu
  obtain ⟨g1, g2, g3⟩ := dnS_G h.val hc (fun d hd => h.2.1 d hd) hG (pc os pw cj).n (Nat.le_refl _) d _ hd
  exact ldV_lt (P := pc os pw cj) g1 g3
theorem rows_vls {xs : List (List Int)} (hx : exsP os xs) : rows xs = vls os.length (xs.map fl) := by
  unfold rows vls
  rw [List.map_map, List.length_map]
  congr 1
  refine List.map_congr_left fun x hm => ?_
  obtain ⟨k, hk, rfl⟩ := List.getElem_of_mem hm
  have := (hx k hk).1
  rw [List.getD_eq_getElem?_getD, List.getElem?_eq_getElem hk] at this
  exact ints_vi this
theorem exs_T {xs : List (List Int)} (hx : exsP os xs) : ∀ v ∈ xs.map fl, T (pc os pw cj) 0 v := by
  intro v hv
  obtain ⟨x, hm, rfl⟩ := List.mem_map.1 hv
  obtain ⟨k, hk, rfl⟩ := List.getElem_of_mem hm
  have := imX_T (pw := pw) (cj := cj) hx hk
  unfold imX at this
  rwa [List.getD_eq_getElem?_getD, List.getElem?_eq_getElem hk] at this
end
end Go.Proofs.YtnlfbimjcabgiaaGreat
namespace Go.Proofs.YtnlfbimjcabgiaaGreat
open Nat (reduceAdd reduceSub reduceGT reduceEqDiff reduceMul)
def ontP (os : List Int) (P : Pc) (xs : List (List Int)) : Prop := orU os (cloU P (xs.map fl)) (cloU P (xs.map fl)).length = prd os os.length
set_option maxHeartbeats 1000000 in
theorem spec_l27Count_ok (g : Int) (rs : List (List Int)) (hr : rowslen rs) (h1 : fpP g rs) (os : List Int) (pw : List (List Int)) (cj : List (List (List Int))) (h : presOk os pw cj) (hc : Con (pc os pw cj) 0) (ht : stq (prd os os.length) g.toNat ≤ 4096) : ACp Tryz.prog 24 [fp g rs, prs os pw cj] (resN (cntF (fun k => hldP (pc os pw cj) (tupS os (prd os os.length) g.toNat k) rs) (stq (prd os os.length) g.toNat).toNat) (cntF (fun k => hldP (pc os pw cj) (tupS os (prd os os.length) g.toNat k) rs ∧ ontP os (pc os pw cj) (tupS os (prd os os.length) g.toNat k)) (stq (prd os os.length) g.toNat).toNat)) := by
 have hn6 := h.1.1
 have hrn := hr.n
 have hq := h.2.2.1
 have hq1 := prd_pos h.2.1 os.length (Nat.le_refl _)
 have hpr := h.2.1
 have hg4 := h1.1
 have hgc : ((g.toNat : Nat) : Int) = g := by omega
 have hor := spec_l10Order_ok os pw cj h
 have htp := spec_l27Tuples_ok os pw cj h g.toNat (by omega)
 have htu := fun k h0 h9 => spec_l16Tuple_ok os pw cj h g.toNat (by omega) k h0 h9
 rw [hgc] at htp htu
 have hw := h1.2.2
 obtain ⟨Nq, hqe⟩ : ∃ Nq, prd os os.length = Nq := ⟨_, rfl⟩
 have hb := stq_bd hq1 hq g.toNat
 have hex := fun k : Nat => tupS_ex (os := os) (N := Nq) (num := (k : Int)) (c := g.toNat) hpr (by omega) (by omega)
 rw [hqe] at hb hq hq1 htu htp hor ht ⊢
 obtain ⟨tt, htt⟩ : ∃ tt, stq Nq g.toNat = tt := ⟨_, rfl⟩
 rw [htt] at hb htp ht ⊢
 obtain ⟨pp, hpp⟩ : ∃ pp : Nat → Prop, (fun k : Nat => hldP (pc os pw cj) (tupS os Nq g.toNat k) rs) = pp := ⟨_, rfl⟩
 obtain ⟨qq, hqq⟩ : ∃ qq : Nat → Prop, (fun k : Nat => hldP (pc os pw cj) (tupS os Nq g.toNat k) rs ∧ ontP os (pc os pw cj) (tupS os Nq g.toNat k)) = qq := ⟨_, rfl⟩
 rw [hpp, hqq]
 refine ACp.intro' envOk Tryz.func24 rfl (by kernel_rfl) Tryz.ntmps24 Tryz.results24 (resN_nr _ _) (fun nx => ?_)
 refine AW.sr envOk (fun N hN => ?_)
 simp -dsimp -implicitDefEqProofs (disch := omega) only [go_sem, undef, reduceAdd, reduceSub, reduceGT, reduceEqDiff, reduceMul, prs, prsP, fp, rows, w64]
 refine hN _ ?_
 try clear hN N
 refine AW.freezeQ 2 nx _ rfl ((upd_ne _ _ (by omega)).trans (upd_same _ _ _)) ?_
 simp -dsimp -implicitDefEqProofs (disch := omega) only [go_sem, undef, reduceAdd, reduceSub, reduceGT, reduceEqDiff, reduceMul]
 refine AW.freezeQ 3 (nx + 1) _ rfl ((upd_ne _ _ (by omega)).trans (upd_same _ _ _)) ?_
 simp -dsimp -implicitDefEqProofs (disch := omega) only [go_sem, undef, reduceAdd, reduceSub, reduceGT, reduceEqDiff, reduceMul]
 refine AW.sr envOk (fun N hN => ?_)
 simp -dsimp -implicitDefEqProofs (disch := omega) only [go_sem, undef, reduceAdd, reduceSub, reduceGT, reduceEqDiff, reduceMul, prs, prsP, fp, rows, w64]
 refine hN _ ?_
 try clear hN N
 refine AW.seq (fun N1 hN1 => ?_)
 refine AW.sr envOk (fun N hN => ?_)
 simp -dsimp -implicitDefEqProofs (disch := omega) only [go_sem, undef, reduceAdd, reduceSub, reduceGT, reduceEqDiff, reduceMul, prs, prsP, fp, rows, w64]
 refine hN _ ?_
 try clear hN N
 refine AW.block ?_
 refine AW.loopN (α := Nat) (fun x => sl 41 [(2, .p 0 [.i .i64 g, rows rs]), (3, prsP os pw cj), (6, .i .i64 (cntF pp x)), (7, .i .i64 (cntF qq x)), (8, .i .i64 x)]) (fun _ => noH) (fun x m => x ≤ tt.toNat) (fun x => tt.toNat - x) (0) ?_ ?_ (by intro d cs hd; cases hd) ?_
 ·omega
 ·simp (disch := omega) [wks, wkA, sl, prsP, ints, rows, cubes, cntF]
 ·skip
  rintro k m hk
  have hcb := cntF_bd (p := pp) k
  have hcb2 := cntF_bd (p := qq) k
  have hek := hex k
  simp only [prsP, rows]
  simp -dsimp -implicitDefEqProofs (disch := omega) only [go_sem, undef, reduceAdd, reduceSub, reduceGT, reduceEqDiff, reduceMul]
  refine AW.seq (fun N2 hN2 => ?_)
  refine AW.sr envOk (fun N hN => ?_)
  simp -dsimp -implicitDefEqProofs (disch := omega) only [go_sem, undef, reduceAdd, reduceSub, reduceGT, reduceEqDiff, reduceMul, prs, prsP, fp, rows, w64]
  refine AC.pure (.of (htp )) ?_
  try simp -dsimp -implicitDefEqProofs (disch := omega) only [go_sem, undef, reduceAdd, reduceSub, reduceGT, reduceEqDiff, reduceMul, prs, prsP, fp, rows, w64]
  refine hN _ ?_
  try clear hN N
  refine AW.cond rfl (fun h1 => ?_) (fun h1 => ?_)
  ·try simp only [cn] at h1
   refine AW.skip ?_
   simp only [thn, blk]
   refine hN2 _ ?_
   try clear hN2 N2
   refine AW.seq (fun N3 hN3 => ?_)
   refine AW.block ?_
   refine AW.sr envOk (fun N hN => ?_)
   simp -dsimp -implicitDefEqProofs (disch := omega) only [go_sem, undef, reduceAdd, reduceSub, reduceGT, reduceEqDiff, reduceMul, prs, prsP, fp, rows, w64]
   refine AC.pure (.of (htu k (by omega) (by omega) )) ?_
   try simp -dsimp -implicitDefEqProofs (disch := omega) only [go_sem, undef, reduceAdd, reduceSub, reduceGT, reduceEqDiff, reduceMul, prs, prsP, fp, rows, w64]
   refine hN _ ?_
   try clear hN N
   refine AW.sr envOk (fun N hN => ?_)
   simp -dsimp -implicitDefEqProofs (disch := omega) only [go_sem, undef, reduceAdd, reduceSub, reduceGT, reduceEqDiff, reduceMul, prs, prsP, fp, rows, w64]
   refine AC.pure (.of (spec_l27Holds_ok g rs os pw cj h hc (tupS os Nq g.toNat k) hek (by rw [tup_len]; omega) hr (fun j hj => by rw [tup_len, hgc]; exact hw j hj) )) ?_
   try simp -dsimp -implicitDefEqProofs (disch := omega) only [go_sem, undef, reduceAdd, reduceSub, reduceGT, reduceEqDiff, reduceMul, prs, prsP, fp, rows, w64]
   refine hN _ ?_
   try clear hN N
   refine AW.cond rfl (fun h2 => ?_) (fun h2 => ?_)
   ·try simp only [cn] at h2
    have hs : cntF pp (k + 1) = cntF pp k + 1 := by rw [cntF, if_pos (tf_t (by rw [← hpp]; exact h2))]
    have hul := outS_len (dn := dnS (pc os pw cj) (pc os pw cj).n (cloF (pc os pw cj) (clM (pc os pw cj) (fun _ => none) ((tupS os Nq g.toNat k).map fl)) (fun _ => none) ((tupS os Nq g.toNat k).map fl)) (pc os pw cj).n) (k := (pc os pw cj).n)
    have hul6 : (cloU (pc os pw cj) ((tupS os Nq g.toNat k).map fl)).length ≤ 6 := Nat.le_trans hul hn6
    have hld := cloU_ld os pw cj h hc (exs_T os pw cj hek)
    have hclo := spec_l12Close_ok os pw cj h hc ((tupS os Nq g.toNat k).map fl) (by rw [List.length_map, tup_len]; omega) (exs_T os pw cj hek)
    rw [← rows_vls os hek] at hclo
    have hclo2 : ACp Tryz.prog 55 [prs os pw cj, rows (tupS os Nq g.toNat k)] (vls os.length (cloU (pc os pw cj) ((tupS os Nq g.toNat k).map fl))) := hclo
    refine AW.sr envOk (fun N hN => ?_)
    simp -dsimp -implicitDefEqProofs (disch := omega) only [go_sem, undef, reduceAdd, reduceSub, reduceGT, reduceEqDiff, reduceMul, prs, prsP, fp, rows, w64]
    refine hN _ ?_
    try clear hN N
    refine AW.seq (fun N hN => ?_)
    refine AW.drawL envOk (by kernel_rfl) 8 (by kernel_rfl) ?_
    simp -dsimp -implicitDefEqProofs (disch := omega) only [hr_nil, hr_one, hr_if, List.take_succ_cons, List.take_zero, List.drop_succ_cons, List.drop_zero, List.take_nil, List.drop_nil, go_sem, undef, reduceAdd, reduceSub, reduceGT, reduceEqDiff, reduceMul, prs, prsP, fp, rows, w64]
    refine ⟨_, .of (hclo2 ), ?_⟩
    try simp -dsimp -implicitDefEqProofs (disch := omega) only [go_sem, undef, reduceAdd, reduceSub, reduceGT, reduceEqDiff, reduceMul, prs, prsP, fp, rows, w64]
    refine ⟨_, .of (spec_l12Order_ok os pw cj h _ hul6 hld ), ?_⟩
    try simp -dsimp -implicitDefEqProofs (disch := omega) only [go_sem, undef, reduceAdd, reduceSub, reduceGT, reduceEqDiff, reduceMul, prs, prsP, fp, rows, w64]
    refine ⟨_, .of (hor ), ?_⟩
    try simp -dsimp -implicitDefEqProofs (disch := omega) only [go_sem, undef, reduceAdd, reduceSub, reduceGT, reduceEqDiff, reduceMul, prs, prsP, fp, rows, w64]
    refine hN _ ?_
    try clear hN N
    refine AW.cond rfl (fun h3 => ?_) (fun h3 => ?_)
    ·try simp only [cn] at h3
     have hs2 : cntF qq (k + 1) = cntF qq k + 1 := by rw [cntF, if_pos (tf_t (by rw [← hqq]; exact ⟨h2, h3.trans hqe.symm⟩))]
     refine AW.regionL envOk ?_
     simp -dsimp -implicitDefEqProofs (disch := omega) only [go_sem, undef, reduceAdd, reduceSub, reduceGT, reduceEqDiff, reduceMul, prs, prsP, fp, rows, w64]
     refine hN3 _ ?_
     try clear hN3 N3
     refine AW.regionL envOk ?_
     simp -dsimp -implicitDefEqProofs (disch := omega) only [go_sem, undef, reduceAdd, reduceSub, reduceGT, reduceEqDiff, reduceMul, prs, prsP, fp, rows, w64]
     refine ⟨k + 1, ?_, fun _ _ h => h, ?_, ?_⟩
     ·simp (disch := omega) [wks, wkA, sl, prsP, ints, rows, cubes, hs, hs2]
     ·omega
     ·first | omega | (simp only; omega)
    ·try simp only [cn] at h3
     have hs2 : cntF qq (k + 1) = cntF qq k := by rw [cntF, if_neg (by rw [tf_f (by rw [← hqq]; exact fun q => h3 (q.2.trans hqe))]; simp)]
     refine AW.skip ?_
     simp only [thn, blk]
     refine hN3 _ ?_
     try clear hN3 N3
     refine AW.regionL envOk ?_
     simp -dsimp -implicitDefEqProofs (disch := omega) only [go_sem, undef, reduceAdd, reduceSub, reduceGT, reduceEqDiff, reduceMul, prs, prsP, fp, rows, w64]
     refine ⟨k + 1, ?_, fun _ _ h => h, ?_, ?_⟩
     ·simp (disch := omega) [wks, wkA, sl, prsP, ints, rows, cubes, hs, hs2]
     ·omega
     ·first | omega | (simp only; omega)
   ·try simp only [cn] at h2
    have hs : cntF pp (k + 1) = cntF pp k := by rw [cntF, if_neg (by rw [tf_f (by rw [← hpp]; exact h2)]; simp)]
    have hs2 : cntF qq (k + 1) = cntF qq k := by rw [cntF, if_neg (by rw [tf_f (by rw [← hqq]; exact fun q => h2 q.1)]; simp)]
    refine AW.skip ?_
    simp only [thn, blk]
    refine hN3 _ ?_
    try clear hN3 N3
    refine AW.regionL envOk ?_
    simp -dsimp -implicitDefEqProofs (disch := omega) only [go_sem, undef, reduceAdd, reduceSub, reduceGT, reduceEqDiff, reduceMul, prs, prsP, fp, rows, w64]
    refine ⟨k + 1, ?_, fun _ _ h => h, ?_, ?_⟩
    ·simp (disch := omega) [wks, wkA, sl, prsP, ints, rows, cubes, hs, hs2]
    ·omega
    ·first | omega | (simp only; omega)
  ·try simp only [cn] at h1
   refine AW.exit ?_
   simp only [thn, blk, if_true]
   refine hN1 _ ?_
   try clear hN1 N1
   refine AW.sr envOk (fun N hN => ?_)
   simp -dsimp -implicitDefEqProofs (disch := omega) only [go_sem, undef, reduceAdd, reduceSub, reduceGT, reduceEqDiff, reduceMul, prs, prsP, fp, rows, w64]
   refine hN _ ?_
   try clear hN N
   refine AW.ret ?_
   simp -dsimp -implicitDefEqProofs (disch := omega) only [go_sem, undef, reduceAdd, reduceSub, reduceGT, reduceEqDiff, reduceMul]
   rw [show k = tt.toNat by omega]; rfl
end Go.Proofs.YtnlfbimjcabgiaaGreat
namespace Go.Proofs.YtnlfbimjcabgiaaGreat
open Nat (reduceAdd reduceSub reduceGT reduceEqDiff reduceMul)
end Go.Proofs.YtnlfbimjcabgiaaGreat
