/-
  Homomorphisms from the groups of Cayley tables, by the reference and by the program.
-/
import Derived.Test.YtimgnijlnkjamaaGp
import Derived.Test.YtimgnijlnkjamaaQb
set_option linter.unusedVariables false
set_option linter.unusedSimpArgs false
namespace Go.Proofs.Ytimgnijlnkjamaa
open Nat (reduceAdd reduceSub reduceGT reduceEqDiff reduceMul)

def vset (m : Nat → V) (k : Nat) (y : V) : Nat → V := fun t => if t = k then y else m t
def vrs (n v : Nat) (m : Nat → V) : List AV := (List.range v).map fun k => vi n (m k)
theorem vrs_len {n v : Nat} {m : Nat → V} : (vrs n v m).length = v := by simp [vrs]
theorem vrs_get {n v : Nat} {m : Nat → V} {k : Nat} (h : k < v) : (vrs n v m).getD k .j = vi n (m k) := by simp [vrs, h]
theorem vrs_take {n v : Nat} {m : Nat → V} : List.take v (vrs n v m) = vrs n v m := List.take_of_length_le (by rw [vrs_len]; exact Nat.le_refl _)
theorem vrs_ext {n v : Nat} {m m' : Nat → V} (h : ∀ k, k < v → m k = m' k) : vrs n v m = vrs n v m' := by
  unfold vrs
  refine List.map_congr_left fun k hk => ?_
  rw [h k (List.mem_range.1 hk)]
theorem vrs_one {n : Nat} : vrs n 1 (fun _ => z0) = [vi n z0] := rfl
theorem vrs_push {n v : Nat} {m : Nat → V} {y : V} : vrs n v m ++ [vi n y] = vrs n (v + 1) (vset m v y) := by
  unfold vrs
  rw [List.range_succ, List.map_append]
  congr 1
  · refine List.map_congr_left fun k hk => ?_
    have := List.mem_range.1 hk
    rw [vset, if_neg (by omega)]
  · simp [vset]

attribute [go_sem] vrs_len vrs_get
theorem vset_T {P : Pc} {i k : Nat} {m : Nat → V} {y : V} (hm : ∀ j, T P i (m j)) (hy : T P i y) : ∀ j, T P i (vset m k y j) := by
  intro j
  unfold vset
  split
  · exact hy
  · exact hm j

/-- The values that are known. -/
noncomputable def winn (P : Pc) (xs tb : List (List Int)) (x : Nat) : Nat → Int → (Nat → V) → Nat → V
  | 0, _, m => m
  | g + 1, v, m => if (tb.getD g []).getD x 0 = ninn tb x g v then vset (winn P xs tb x g v m) (ninn tb x g v).toNat (M P 0 (winn P xs tb x g v m x) (imX xs g)) else winn P xs tb x g v m
noncomputable def wout (P : Pc) (xs tb : List (List Int)) : Nat → Nat → V
  | 0 => fun _ => z0
  | x + 1 => winn P xs tb x tb.length (nout tb x) (wout P xs tb x)
def mapAt (P : Pc) (xs tb : List (List Int)) (x g : Nat) : Prop :=
  winn P xs tb x (g + 1) (nout tb x) (wout P xs tb x) ((tb.getD g []).getD x 0).toNat = M P 0 (winn P xs tb x g (nout tb x) (wout P xs tb x) x) (imX xs g)
def mapP (P : Pc) (xs tb : List (List Int)) : Prop := tb.length = 0 ∨ ∀ x, x < (tb.getD 0 []).length → ∀ g, g < tb.length → mapAt P xs tb x g

section
variable {os : List Int} {pw : List (List Int)} {cj : List (List (List Int))} (h : presOk os pw cj) {xs : List (List Int)} (hx : exsP os xs) {tb : List (List Int)} (hl : tb.length ≤ xs.length)
include h hx hl
theorem winn_T {x : Nat} {v : Int} {m : Nat → V} (hm : ∀ k, T (pc os pw cj) 0 (m k)) : ∀ g, g ≤ tb.length → ∀ k, T (pc os pw cj) 0 (winn (pc os pw cj) xs tb x g v m k) := by
  intro g
  induction g with
  | zero => intro _; exact hm
  | succ g ih =>
    intro hg k
    have ih' := ih (by omega)
    rw [winn]
    split
    · unfold vset
      split
      · exact M_T h.val (ih' x) (imX_T hx (by omega))
      · exact ih' k
    · exact ih' k
theorem wout_T : ∀ x k, T (pc os pw cj) 0 (wout (pc os pw cj) xs tb x k) := by
  intro x
  induction x with
  | zero => intro k; exact T.zero h.val 0
  | succ x ih => exact winn_T h hx hl ih tb.length (Nat.le_refl _)
end

/-- A cell of a block is an owned block: this one becomes read-only. -/
theorem FzH.cell {H : HP} {i j n k : Nat} {cs ds : List AV} (h1 : H i = some cs) (hk : cs[k]? = some (.h j 0 n)) (h2 : H j = some ds) (hn : ds.length = n) (hij : i ≠ j) : FzH H (upd (upd H j none) i (some (cs.set k (.v n ds)))) := by
  intro q cs' hq
  by_cases e : q = i
  · subst e
    rw [upd_same] at hq; cases hq
    refine ⟨_, h1, by simp, fun z x y hx hy => ?_⟩
    rw [List.getElem?_set] at hy
    split at hy
    · rename_i hz
      subst hz
      rw [hk] at hx; cases hx
      split at hy
      · cases hy
        exact .h j 0 n ds ds h2 (by rw [upd_ne _ _ (Ne.symm hij), upd_same]) (by omega) hn (fun q x y h1 h2 => by rw [Nat.zero_add, h2] at h1; cases h1; exact .refl _)
      · cases hy
    · rw [hx] at hy; cases hy; exact .refl _
  · rw [upd_ne _ _ e] at hq
    by_cases e2 : q = j
    · subst e2; rw [upd_same] at hq; cases hq
    · rw [upd_ne _ _ e2] at hq
      exact ⟨cs', hq, rfl, fun q x y h1 h2 => by rw [h1] at h2; cases h2; exact .refl _⟩
theorem AW.fzcell {P : Program} {c : Code} {s : St} {K : Exit → St → Prop} (i j n k : Nat) (cs ds : List AV) (h1 : s.H i = some cs) (hk : cs[k]? = some (.h j 0 n)) (h2 : s.H j = some ds) (hn : ds.length = n) (hij : i ≠ j)
    (hs : AW P c ⟨s.t, upd (upd s.H j none) i (some (cs.set k (.v n ds))), s.nx⟩ K) : AW P c s K :=
  AW.fz (s' := ⟨s.t, upd (upd s.H j none) i (some (cs.set k (.v n ds))), s.nx⟩) ⟨fzs_refl, FzH.cell h1 hk h2 hn hij, Nat.le_refl _⟩ hs

/-- The values that are known, the others nil. -/
def cvs (N n v : Nat) (m : Nat → V) : List AV := (List.range N).map fun k => if k < v then vi n (m k) else .nl
theorem cvs_len {N n v : Nat} {m : Nat → V} : (cvs N n v m).length = N := by simp [cvs]
theorem cvs_get {N n v : Nat} {m : Nat → V} {t : Nat} (h : t < N) (h2 : t < v) : (cvs N n v m).getD t .j = vi n (m t) := by simp [cvs, h, h2]
theorem cvs_nl {N n v : Nat} {m : Nat → V} {t : Nat} (h : t < N) (h2 : v ≤ t) : (cvs N n v m).getD t .j = .nl := by simp [cvs, h]; omega
theorem cvs_ext {N n v : Nat} {m m' : Nat → V} (h : ∀ k, k < v → m k = m' k) : cvs N n v m = cvs N n v m' := by
  unfold cvs
  refine List.map_congr_left fun k hk => ?_
  split
  · rename_i h'; rw [h k h']
  · rfl
theorem cvs_new {N n v : Nat} {m : Nat → V} {y : V} (h : v < N) : splice (cvs N n v m) v [vi n y] = cvs N n (v + 1) (vset m v y) := by
  rw [splice_one _ _ _ (by rw [cvs_len]; exact h)]
  apply List.ext_getElem?
  intro i
  rw [List.getElem?_set]
  by_cases hi : v = i
  · subst hi; simp [cvs, vset, h]
  · simp only [hi, if_false, cvs, List.getElem?_map]
    by_cases hn : i < N
    · simp only [List.getElem?_range hn, Option.map_some, vset, Ne.symm hi, if_false]
      by_cases h3 : i < v
      · rw [if_pos h3, if_pos (by omega)]
      · rw [if_neg h3, if_neg (by omega)]
    · simp [hn]
theorem cvs_old {N n v t : Nat} {m : Nat → V} {y : V} (h : t < N) (h2 : t < v) : splice (cvs N n v m) t [vi n y] = cvs N n v (vset m t y) := by
  rw [splice_one _ _ _ (by rw [cvs_len]; exact h)]
  apply List.ext_getElem?
  intro i
  rw [List.getElem?_set]
  by_cases hi : t = i
  · subst hi; simp [cvs, vset, h, h2]
  · simp only [hi, if_false, cvs, List.getElem?_map]
    by_cases hn : i < N
    · simp only [List.getElem?_range hn, Option.map_some, vset, Ne.symm hi, if_false]
    · simp [hn]
theorem cvs_one {N n q n' : Nat} (h : 0 < N) : (splice (List.replicate N AV.nl) 0 [AV.h q 0 n']).set 0 (vi n z0) = cvs N n 1 (fun _ => z0) := by
  rw [splice_one _ _ _ (by simpa using h)]
  apply List.ext_getElem?
  intro i
  cases i with
  | zero => simp [cvs, h]
  | succ i => simp [cvs, List.getElem?_replicate]; by_cases hn : i + 1 < N <;> simp [hn]

theorem spec_l27Maps_ok (tb : List (List Int)) (htb : cayP tb) (hrl : rowslen tb) (os : List Int) (pw : List (List Int)) (cj : List (List (List Int))) (h : presOk os pw cj) (xs : List (List Int)) (hx : exsP os xs) (hxl : xs.length = tb.length) : ACp Try.prog 69 [rows tb, prs os pw cj, rows xs] (.b (tf (mapP (pc os pw cj) xs tb))) := by
 have hn6 := h.1.1
 have hv := h.val
 have htn := hrl.n
 obtain ⟨n, hn⟩ : ∃ n, (tb.getD 0 []).length = n := ⟨_, rfl⟩
 obtain ⟨P, hP⟩ : ∃ P, pc os pw cj = P := ⟨_, rfl⟩
 have hwo := wout_T h hx (tb := tb) (by omega)
 have hwi := fun x v m hm => winn_T (x := x) (v := v) (m := m) h hx (tb := tb) (by omega) hm
 refine ACp.intro' envOk Try.func69 rfl (by kernel_rfl) Try.ntmps69 Try.results69 (.b _) (fun nx => ?_)
 refine AW.sr envOk (fun N hN => ?_)
 simp -dsimp -implicitDefEqProofs (disch := omega) only [go_sem, undef, reduceAdd, reduceSub, reduceGT, reduceEqDiff, reduceMul, prs, prsP, rows, ints, gd_i, gd_r, w64, vi]
 refine hN _ ?_
 try clear hN N
 refine AW.freezeQ 4 nx _ rfl (upd_same _ _ _) ?_
 simp -dsimp -implicitDefEqProofs (disch := omega) only [go_sem, undef, reduceAdd, reduceSub, reduceGT, reduceEqDiff, reduceMul]
 refine AW.seq (fun N1 hN1 => ?_)
 refine AW.sr envOk (fun N hN => ?_)
 simp -dsimp -implicitDefEqProofs (disch := omega) only [go_sem, undef, reduceAdd, reduceSub, reduceGT, reduceEqDiff, reduceMul, prs, prsP, rows, ints, gd_i, gd_r, w64, vi]
 refine hN _ ?_
 try clear hN N
 refine AW.cond rfl (fun h1 => ?_) (fun h1 => ?_)
 ·try simp only [cn] at h1
  refine AW.sr envOk (fun N hN => ?_)
  simp -dsimp -implicitDefEqProofs (disch := omega) only [go_sem, undef, reduceAdd, reduceSub, reduceGT, reduceEqDiff, reduceMul, prs, prsP, rows, ints, gd_i, gd_r, w64, vi]
  refine hN _ ?_
  try clear hN N
  refine AW.ret ?_
  simp -dsimp -implicitDefEqProofs (disch := omega) only [go_sem, undef, reduceAdd, reduceSub, reduceGT, reduceEqDiff, reduceMul]
  exact bt (tf_t (.inl (by omega))).symm
 ·try simp only [cn] at h1
  obtain ⟨hS, hz, hnum, hmov⟩ := htb.out (n := n) (by omega) hn
  obtain ⟨hn1, hn2, hG1, hG, hlen, hrng⟩ := id hS
  refine AW.skip ?_
  simp only [thn, blk]
  refine hN1 _ ?_
  try clear hN1 N1
  refine AW.sr envOk (fun N hN => ?_)
  simp -dsimp -implicitDefEqProofs (disch := omega) only [go_sem, undef, reduceAdd, reduceSub, reduceGT, reduceEqDiff, reduceMul, prs, prsP, rows, ints, gd_i, gd_r, w64, vi]
  refine AC.pure (.of (spec_l10One_ok os pw cj (by omega) )) ?_
  try simp -dsimp -implicitDefEqProofs (disch := omega) only [go_sem, undef, reduceAdd, reduceSub, reduceGT, reduceEqDiff, reduceMul, prs, prsP, rows, ints, gd_i, gd_r, w64, vi]
  refine hN _ ?_
  try clear hN N
  refine AW.seq (fun N2 hN2 => ?_)
  refine AW.sr envOk (fun N hN => ?_)
  simp -dsimp -implicitDefEqProofs (disch := omega) only [go_sem, undef, reduceAdd, reduceSub, reduceGT, reduceEqDiff, reduceMul, prs, prsP, rows, ints, gd_i, gd_r, w64, vi]
  refine hN _ ?_
  try clear hN N
  refine AW.block ?_
  refine AW.loopN (α := Nat × Nat) (fun x => sl 68 [(0, rows tb), (2, rows xs), (4, prsP os pw cj), (7, .h x.2 0 (nout tb x.1).toNat), (8, .i .i64 x.1)]) (fun x => upd noH x.2 (some (vrs os.length (nout tb x.1).toNat (wout (pc os pw cj) xs tb x.1)))) (fun x m => (x.1 ≤ n ∧ x.2 < m) ∧ (∀ k, k < x.1 → ∀ g, g < tb.length → mapAt (pc os pw cj) xs tb k g)) (fun x => n - x.1) ((0, nx + 2 + 3 + 2)) ?_ ?_ (by rw [show (nout tb 0).toNat = 1 from rfl, wout, vrs_one]; intro d cs hd; simp only [upd, noH, vi] at hd ⊢; grind) ?_
  ·exact ⟨⟨by omega, by first| omega| (simp only; omega)| (dsimp only; omega)⟩, by intro j hj; omega⟩
  ·simp [wks, wkA, sl, rows, vi, prsP, ints, nout]
  ·skip
   rintro ⟨k, id⟩ m ⟨⟨hk, him⟩, hI⟩
   dsimp only at hk him hI ⊢
   have hb := nout_bd hS k hk
   refine AW.seq (fun N3 hN3 => ?_)
   refine AW.sr envOk (fun N hN => ?_)
   simp -dsimp -implicitDefEqProofs (disch := omega) only [go_sem, undef, reduceAdd, reduceSub, reduceGT, reduceEqDiff, reduceMul, prs, prsP, rows, ints, gd_i, gd_r, w64, vi]
   refine hN _ ?_
   try clear hN N
   refine AW.cond rfl (fun h2 => ?_) (fun h2 => ?_)
   ·try simp only [cn] at h2
    refine AW.skip ?_
    simp only [thn, blk]
    refine hN3 _ ?_
    try clear hN3 N3
    refine AW.seq (fun N4 hN4 => ?_)
    refine AW.block ?_
    refine AW.sr envOk (fun N hN => ?_)
    simp -dsimp -implicitDefEqProofs (disch := omega) only [go_sem, undef, reduceAdd, reduceSub, reduceGT, reduceEqDiff, reduceMul, prs, prsP, rows, ints, gd_i, gd_r, w64, vi]
    refine hN _ ?_
    try clear hN N
    refine AW.block ?_
    refine AW.loopN (α := Nat × Nat) (fun x => sl 68 [(0, rows tb), (2, rows xs), (4, prsP os pw cj), (7, .h x.2 0 (ninn tb k x.1 (nout tb k)).toNat), (8, .i .i64 k), (9, .i .i64 x.1)]) (fun x => upd noH x.2 (some (vrs os.length (ninn tb k x.1 (nout tb k)).toNat (winn (pc os pw cj) xs tb k x.1 (nout tb k) (wout (pc os pw cj) xs tb k))))) (fun x m => (x.1 ≤ tb.length ∧ x.2 < m) ∧ (∀ g, g < x.1 → mapAt (pc os pw cj) xs tb k g)) (fun x => tb.length - x.1) ((0, id)) ?_ ?_ (by rw [ninn, winn]; exact Le.refl _) ?_
    ·exact ⟨⟨by omega, by first| omega| (simp only; omega)| (dsimp only; omega)⟩, by intro j hj; omega⟩
    ·simp [wks, wkA, sl, rows, vi, prsP, ints, ninn]
    ·skip
     rintro ⟨g, id2⟩ m2 ⟨⟨hg, him2⟩, hJ⟩
     dsimp only at hg him2 hJ ⊢
     have hb2 := ninn_bd hS (x := k) (by omega) hb.2 g hg
     have hkn := hnum k (by omega)
     have hkl := hkn.1
     have hmT := hwi k (nout tb k) (wout (pc os pw cj) xs tb k) (hwo k) g hg
     obtain ⟨m0, hm0⟩ : ∃ m0, winn (pc os pw cj) xs tb k g (nout tb k) (wout (pc os pw cj) xs tb k) = m0 := ⟨_, rfl⟩
     obtain ⟨v, hv0⟩ : ∃ v, ninn tb k g (nout tb k) = v := ⟨_, rfl⟩
     rw [hv0] at hb2
     rw [hm0] at hmT
     rw [hm0, hv0]
     refine AW.seq (fun N5 hN5 => ?_)
     refine AW.sr envOk (fun N hN => ?_)
     simp -dsimp -implicitDefEqProofs (disch := omega) only [go_sem, undef, reduceAdd, reduceSub, reduceGT, reduceEqDiff, reduceMul, prs, prsP, rows, ints, gd_i, gd_r, w64, vi]
     refine hN _ ?_
     try clear hN N
     refine AW.cond rfl (fun h3 => ?_) (fun h3 => ?_)
     ·try simp only [cn] at h3
      have hl := hlen g (by omega)
      have hr := hrng g k (by omega) (by omega)
      have hnu := hkn.2 g (by omega)
      rw [hv0] at hnu
      have ex : AV.v (xs.getD g []).length (List.map (AV.i IntKind.i64) (xs.getD g [])) = vi os.length (imX xs g) := imX_vi hx (by omega)
      have em : AV.v os.length (ivs os.length (m0 k)) = vi os.length (m0 k) := rfl
      have hxT : T (pc os pw cj) 0 (imX xs g) := imX_T hx (by omega)
      have hyT := M_T hv (hmT k) hxT
      obtain ⟨y, hy⟩ : ∃ y, M (pc os pw cj) 0 (m0 k) (imX xs g) = y := ⟨_, rfl⟩
      rw [hy] at hyT
      refine AW.skip ?_
      simp only [thn, blk]
      refine hN5 _ ?_
      try clear hN5 N5
      refine AW.seq (fun N6 hN6 => ?_)
      refine AW.block ?_
      refine AW.seq (fun N hN => ?_)
      refine AW.drawL envOk (by kernel_rfl) 11 (by kernel_rfl) ?_
      simp -dsimp -implicitDefEqProofs (disch := omega) only [hr_nil, hr_one, hr_if, List.take_succ_cons, List.take_zero, List.drop_succ_cons, List.drop_zero, List.take_nil, List.drop_nil, go_sem, undef, reduceAdd, reduceSub, reduceGT, reduceEqDiff, reduceMul, prs, prsP, rows, ints, gd_i, gd_r, w64, vi]
      rw [ex, em]
      refine ⟨_, .of (hy ▸ spec_l08Mul_ok os pw cj h _ _ (hmT k) hxT ), ?_⟩
      try simp -dsimp -implicitDefEqProofs (disch := omega) only [go_sem, undef, reduceAdd, reduceSub, reduceGT, reduceEqDiff, reduceMul, prs, prsP, rows, ints, gd_i, gd_r, w64, vi]
      refine hN _ ?_
      try clear hN N
      refine AW.seq (fun N7 hN7 => ?_)
      refine AW.sr envOk (fun N hN => ?_)
      simp -dsimp -implicitDefEqProofs (disch := omega) only [go_sem, undef, reduceAdd, reduceSub, reduceGT, reduceEqDiff, reduceMul, prs, prsP, rows, ints, gd_i, gd_r, w64, vi]
      refine hN _ ?_
      try clear hN N
      refine AW.cond rfl (fun h4 => ?_) (fun h4 => ?_)
      ·try simp only [cn] at h4
       have hM : winn (pc os pw cj) xs tb k (g + 1) (nout tb k) (wout (pc os pw cj) xs tb k) = vset m0 v.toNat y := by rw [winn, hv0, if_pos (show (tb.getD g []).getD k 0 = v by omega), hm0, hy]
       have hs : ninn tb k (g + 1) (nout tb k) = v + 1 := by rw [ninn, hv0, if_pos (show (tb.getD g []).getD k 0 = v by omega)]
       have hs1 : (v + 1).toNat = v.toNat + 1 := by omega
       refine AW.regionL envOk ?_
       simp -dsimp -implicitDefEqProofs (disch := omega) only [go_sem, undef, reduceAdd, reduceSub, reduceGT, reduceEqDiff, reduceMul, prs, prsP, rows, ints, gd_i, gd_r, w64, vi]
       refine hN7 _ ?_
       try clear hN7 N7
       refine AW.sr envOk (fun N hN => ?_)
       simp -dsimp -implicitDefEqProofs (disch := omega) only [go_sem, undef, reduceAdd, reduceSub, reduceGT, reduceEqDiff, reduceMul, prs, prsP, rows, ints, gd_i, gd_r, w64, vi]
       rw [show AV.v os.length (ivs os.length y) = vi os.length y from rfl, vrs_take, vrs_push, vrs_get (by omega)]
       refine AC.pure (.of (spec_l01Same_T (by omega) (vset_T (k := v.toNat) hmT hyT _) hyT )) ?_
       try simp -dsimp -implicitDefEqProofs (disch := omega) only [go_sem, undef, reduceAdd, reduceSub, reduceGT, reduceEqDiff, reduceMul, prs, prsP, rows, ints, gd_i, gd_r, w64, vi]
       refine hN _ ?_
       try clear hN N
       refine AW.cond rfl (fun h5 => ?_) (fun h5 => ?_)
       ·try simp only [cn] at h5
        refine AW.sr envOk (fun N hN => ?_)
        simp -dsimp -implicitDefEqProofs (disch := omega) only [go_sem, undef, reduceAdd, reduceSub, reduceGT, reduceEqDiff, reduceMul, prs, prsP, rows, ints, gd_i, gd_r, w64, vi]
        refine hN _ ?_
        try clear hN N
        refine AW.ret ?_
        simp -dsimp -implicitDefEqProofs (disch := omega) only [go_sem, undef, reduceAdd, reduceSub, reduceGT, reduceEqDiff, reduceMul]
        exact bt (tf_f (fun hq => h5 (by have hq1 := (hq.resolve_left (by omega)) k (by omega) g (by omega); unfold mapAt at hq1; rw [hM, hm0, hy] at hq1; exact hq1))).symm
       ·try simp only [cn] at h5
        refine AW.skip ?_
        simp only [thn, blk]
        refine hN6 _ ?_
        try clear hN6 N6
        refine AW.regionL envOk ?_
        simp -dsimp -implicitDefEqProofs (disch := omega) only [go_sem, undef, reduceAdd, reduceSub, reduceGT, reduceEqDiff, reduceMul, prs, prsP, rows, ints, gd_i, gd_r, w64, vi]
        refine ⟨(g + 1, m2 + 4 + 11 + 10 + 3), ?_, by simp only []; rw [hM, hs, hs1, ← vrs_push, show vi os.length y = AV.v os.length (ivs os.length y) from rfl]; intro d cs hd; simp only [upd, noH] at hd ⊢; grind [vrs_take], ?_, ?_⟩
        ·simp (disch := omega) [wks, wkA, sl, w64, ints, rows, prs, prsP, vi, hs, hs1]
        ·refine ⟨⟨by omega, by first| omega| (simp only; omega)| (dsimp only; omega)⟩, fun j hj => ?_⟩
         by_cases e : j = g
         ·subst e; unfold mapAt; rw [hM, hm0, hy]; exact h5
         ·exact hJ j (by omega)
        ·first | omega | (simp only; omega)
      ·try simp only [cn] at h4
       have hM : winn (pc os pw cj) xs tb k (g + 1) (nout tb k) (wout (pc os pw cj) xs tb k) = m0 := by rw [winn, hv0, if_neg (show ¬ (tb.getD g []).getD k 0 = v by omega), hm0]
       have hs1 : True := trivial
       have hs : ninn tb k (g + 1) (nout tb k) = v := by rw [ninn, hv0, if_neg (show ¬ (tb.getD g []).getD k 0 = v by omega)]
       refine AW.skip ?_
       simp only [thn, blk]
       refine hN7 _ ?_
       try clear hN7 N7
       refine AW.sr envOk (fun N hN => ?_)
       simp -dsimp -implicitDefEqProofs (disch := omega) only [go_sem, undef, reduceAdd, reduceSub, reduceGT, reduceEqDiff, reduceMul, prs, prsP, rows, ints, gd_i, gd_r, w64, vi]
       refine AC.pure (.of (spec_l01Same_T (by omega) (hmT _) hyT )) ?_
       try simp -dsimp -implicitDefEqProofs (disch := omega) only [go_sem, undef, reduceAdd, reduceSub, reduceGT, reduceEqDiff, reduceMul, prs, prsP, rows, ints, gd_i, gd_r, w64, vi]
       refine hN _ ?_
       try clear hN N
       refine AW.cond rfl (fun h6 => ?_) (fun h6 => ?_)
       ·try simp only [cn] at h6
        refine AW.sr envOk (fun N hN => ?_)
        simp -dsimp -implicitDefEqProofs (disch := omega) only [go_sem, undef, reduceAdd, reduceSub, reduceGT, reduceEqDiff, reduceMul, prs, prsP, rows, ints, gd_i, gd_r, w64, vi]
        refine hN _ ?_
        try clear hN N
        refine AW.ret ?_
        simp -dsimp -implicitDefEqProofs (disch := omega) only [go_sem, undef, reduceAdd, reduceSub, reduceGT, reduceEqDiff, reduceMul]
        exact bt (tf_f (fun hq => h6 (by have hq1 := (hq.resolve_left (by omega)) k (by omega) g (by omega); unfold mapAt at hq1; rw [hM, hm0, hy] at hq1; exact hq1))).symm
       ·try simp only [cn] at h6
        refine AW.skip ?_
        simp only [thn, blk]
        refine hN6 _ ?_
        try clear hN6 N6
        refine AW.regionL envOk ?_
        simp -dsimp -implicitDefEqProofs (disch := omega) only [go_sem, undef, reduceAdd, reduceSub, reduceGT, reduceEqDiff, reduceMul, prs, prsP, rows, ints, gd_i, gd_r, w64, vi]
        refine ⟨(g + 1, id2), ?_, by simp only []; rw [hM, hs]; exact Le.refl _, ?_, ?_⟩
        ·simp (disch := omega) [wks, wkA, sl, w64, ints, rows, prs, prsP, vi, hs, hs1]
        ·refine ⟨⟨by omega, by first| omega| (simp only; omega)| (dsimp only; omega)⟩, fun j hj => ?_⟩
         by_cases e : j = g
         ·subst e; unfold mapAt; rw [hM, hm0, hy]; exact h6
         ·exact hJ j (by omega)
        ·first | omega | (simp only; omega)
     ·try simp only [cn] at h3
      refine AW.exit ?_
      simp only [thn, blk, if_true]
      refine hN4 _ ?_
      try clear hN4 N4
      refine AW.regionL envOk ?_
      simp -dsimp -implicitDefEqProofs (disch := omega) only [go_sem, undef, reduceAdd, reduceSub, reduceGT, reduceEqDiff, reduceMul, prs, prsP, rows, ints, gd_i, gd_r, w64, vi]
      have hg' : g = tb.length := by omega
      subst hg'
      refine ⟨(k + 1, id2), ?_, by simp only []; rw [nout, wout, hm0, hv0]; exact Le.refl _, ?_, ?_⟩
      ·simp (disch := omega) [wks, wkA, sl, w64, ints, rows, prs, prsP, vi, nout, hv0]
      ·refine ⟨⟨by omega, by first| omega| (simp only; omega)| (dsimp only; omega)⟩, fun j hj => ?_⟩
       by_cases e : j = k
       ·subst e; exact hJ
       ·exact hI j (by omega)
      ·first | omega | (simp only; omega)
   ·try simp only [cn] at h2
    refine AW.exit ?_
    simp only [thn, blk, if_true]
    refine hN2 _ ?_
    try clear hN2 N2
    refine AW.sr envOk (fun N hN => ?_)
    simp -dsimp -implicitDefEqProofs (disch := omega) only [go_sem, undef, reduceAdd, reduceSub, reduceGT, reduceEqDiff, reduceMul, prs, prsP, rows, ints, gd_i, gd_r, w64, vi]
    refine hN _ ?_
    try clear hN N
    refine AW.ret ?_
    simp -dsimp -implicitDefEqProofs (disch := omega) only [go_sem, undef, reduceAdd, reduceSub, reduceGT, reduceEqDiff, reduceMul]
    exact bt (tf_t (.inr (fun x hx2 g hg => hI x (by omega) g hg))).symm


/-- The images are fit for a homomorphism. -/
def cmP (tb : List (List Int)) (os : List Int) (pw : List (List Int)) (cj : List (List (List Int))) (xs : List (List Int)) : Prop := cayP tb ∧ (presOk os pw cj ∧ Con (pc os pw cj) 0) ∧ xs.length = tb.length ∧ exsP os xs
theorem spec_IsCayleyHom_ok (tb : List (List Int)) (hrl : rowslen tb) (os : List Int) (pw : List (List Int)) (cj : List (List (List Int))) (hl : prlen os pw cj) (xs : List (List Int)) (hx : rowslen xs) : ACp Try.prog 35 [rows tb, prs os pw cj, rows xs] (resT (tf (cmP tb os pw cj xs)) (tf (mapP (pc os pw cj) xs tb))) := by
 have hrn := hrl.n
 have hxn := hx.n
 have hlo := hl.o
 refine ACp.intro' envOk Try.func35 rfl (by kernel_rfl) Try.ntmps35 Try.results35 (resT_nr _ _) (fun nx => ?_)
 refine AW.sr envOk (fun N hN => ?_)
 simp -dsimp -implicitDefEqProofs (disch := omega) only [go_sem, undef, reduceAdd, reduceSub, reduceGT, reduceEqDiff, reduceMul, prs, rows, w64]
 refine hN _ ?_
 try clear hN N
 refine AW.freezeQ 4 nx _ rfl (upd_same _ _ _) ?_
 simp -dsimp -implicitDefEqProofs (disch := omega) only [go_sem, undef, reduceAdd, reduceSub, reduceGT, reduceEqDiff, reduceMul]
 refine AW.seq (fun N1 hN1 => ?_)
 refine AW.sr envOk (fun N hN => ?_)
 simp -dsimp -implicitDefEqProofs (disch := omega) only [go_sem, undef, reduceAdd, reduceSub, reduceGT, reduceEqDiff, reduceMul, prs, rows, w64]
 refine AC.pure (.of (spec_IsCayleyTable_ok tb hrl)) ?_
 try simp -dsimp -implicitDefEqProofs (disch := omega) only [go_sem, undef, reduceAdd, reduceSub, reduceGT, reduceEqDiff, reduceMul, prs, rows, w64]
 refine gopB.mk' (fun h1 => ?_) (fun h1 => ?_)
 ·try simp only [cn] at h1
  try simp -dsimp -implicitDefEqProofs (disch := omega) only [go_sem, undef, reduceAdd, reduceSub, reduceGT, reduceEqDiff, reduceMul, prs, rows, w64]
  refine AC.pure (.of (spec_l08Group_ok os pw cj hl)) ?_
  try simp -dsimp -implicitDefEqProofs (disch := omega) only [go_sem, undef, reduceAdd, reduceSub, reduceGT, reduceEqDiff, reduceMul, prs, rows, w64]
  refine gopB.mk' (fun h2 => ?_) (fun h2 => ?_)
  ·try simp only [cn] at h2
   try simp -dsimp -implicitDefEqProofs (disch := omega) only [go_sem, undef, reduceAdd, reduceSub, reduceGT, reduceEqDiff, reduceMul, prs, rows, w64]
   refine gopB.mk' (fun h3 => ?_) (fun h3 => ?_)
   ·try simp only [cn] at h3
    try simp -dsimp -implicitDefEqProofs (disch := omega) only [go_sem, undef, reduceAdd, reduceSub, reduceGT, reduceEqDiff, reduceMul, prs, rows, w64]
    refine AC.pure (.of (spec_l10Elements_ok os pw cj hlo (presOk.ob (pw := pw) (cj := cj) h2.1.2.1) xs hx )) ?_
    try simp -dsimp -implicitDefEqProofs (disch := omega) only [go_sem, undef, reduceAdd, reduceSub, reduceGT, reduceEqDiff, reduceMul, prs, rows, w64]
    refine hN _ ?_
    try clear hN N
    refine AW.cond rfl (fun h4 => ?_) (fun h4 => ?_)
    ·try simp only [cn] at h4
     refine AW.sr envOk (fun N hN => ?_)
     simp -dsimp -implicitDefEqProofs (disch := omega) only [go_sem, undef, reduceAdd, reduceSub, reduceGT, reduceEqDiff, reduceMul, prs, rows, w64]
     refine hN _ ?_
     try clear hN N
     refine AW.ret ?_
     simp -dsimp -implicitDefEqProofs (disch := omega) only [go_sem, undef, reduceAdd, reduceSub, reduceGT, reduceEqDiff, reduceMul]
     exact (resT_f (fun q => h4 q.2.2.2)).symm
    ·try simp only [cn] at h4
     refine AW.skip ?_
     simp only [thn, blk]
     refine hN1 _ ?_
     try clear hN1 N1
     refine AW.sr envOk (fun N hN => ?_)
     simp -dsimp -implicitDefEqProofs (disch := omega) only [go_sem, undef, reduceAdd, reduceSub, reduceGT, reduceEqDiff, reduceMul, prs, rows, w64]
     refine AC.pure (.of (spec_l27Maps_ok tb h1 hrl os pw cj h2.1 xs h4 (by omega) )) ?_
     try simp -dsimp -implicitDefEqProofs (disch := omega) only [go_sem, undef, reduceAdd, reduceSub, reduceGT, reduceEqDiff, reduceMul, prs, rows, w64]
     refine hN _ ?_
     try clear hN N
     refine AW.ret ?_
     simp -dsimp -implicitDefEqProofs (disch := omega) only [go_sem, undef, reduceAdd, reduceSub, reduceGT, reduceEqDiff, reduceMul]
     exact (resT_t ⟨h1, h2, by omega, h4⟩).symm
   ·try simp only [cn] at h3
    try simp -dsimp -implicitDefEqProofs (disch := omega) only [go_sem, undef, reduceAdd, reduceSub, reduceGT, reduceEqDiff, reduceMul, prs, rows, w64]
    refine hN _ ?_
    try clear hN N
    refine AW.condT rfl ?_
    refine AW.sr envOk (fun N hN => ?_)
    simp -dsimp -implicitDefEqProofs (disch := omega) only [go_sem, undef, reduceAdd, reduceSub, reduceGT, reduceEqDiff, reduceMul, prs, rows, w64]
    refine hN _ ?_
    try clear hN N
    refine AW.ret ?_
    simp -dsimp -implicitDefEqProofs (disch := omega) only [go_sem, undef, reduceAdd, reduceSub, reduceGT, reduceEqDiff, reduceMul]
    exact (resT_f (fun q => h3 (by have := q.2.2.1; omega))).symm
  ·try simp only [cn] at h2
   try simp -dsimp -implicitDefEqProofs (disch := omega) only [go_sem, undef, reduceAdd, reduceSub, reduceGT, reduceEqDiff, reduceMul, prs, rows, w64]
   refine hN _ ?_
   try clear hN N
   refine AW.condT rfl ?_
   refine AW.sr envOk (fun N hN => ?_)
   simp -dsimp -implicitDefEqProofs (disch := omega) only [go_sem, undef, reduceAdd, reduceSub, reduceGT, reduceEqDiff, reduceMul, prs, rows, w64]
   refine hN _ ?_
   try clear hN N
   refine AW.ret ?_
   simp -dsimp -implicitDefEqProofs (disch := omega) only [go_sem, undef, reduceAdd, reduceSub, reduceGT, reduceEqDiff, reduceMul]
   exact (resT_f (fun q => h2 q.2.1)).symm
 ·try simp only [cn] at h1
  try simp -dsimp -implicitDefEqProofs (disch := omega) only [go_sem, undef, reduceAdd, reduceSub, reduceGT, reduceEqDiff, reduceMul, prs, rows, w64]
  refine hN _ ?_
  try clear hN N
  refine AW.condT rfl ?_
  refine AW.sr envOk (fun N hN => ?_)
  simp -dsimp -implicitDefEqProofs (disch := omega) only [go_sem, undef, reduceAdd, reduceSub, reduceGT, reduceEqDiff, reduceMul, prs, rows, w64]
  refine hN _ ?_
  try clear hN N
  refine AW.ret ?_
  simp -dsimp -implicitDefEqProofs (disch := omega) only [go_sem, undef, reduceAdd, reduceSub, reduceGT, reduceEqDiff, reduceMul]
  exact (resT_f (fun q => h1 q.1)).symm

end Go.Proofs.Ytimgnijlnkjamaa
