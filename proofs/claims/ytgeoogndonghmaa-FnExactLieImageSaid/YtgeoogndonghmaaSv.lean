/-
  Own layer, later part: arguments given up at a call; slices.Grow and slices.Concat of lists of rows.
  Plain law: subrings and ideals as what repeated spans end in.
  Sums of subgroups: SumLie, by the reference and by the program.
-/
import Derived.Test.YtgeoogndonghmaaSt
import Derived.Test.YtgeoogndonghmaaAvR
set_option linter.unusedVariables false
set_option linter.unusedSimpArgs false
namespace Go.Proofs.Ytgeoogndonghmaa

/-- A call whose arguments' blocks are given up and are read-only data from then on. -/
theorem AC.fz {P : Program} {f : FuncId} {nx : Nat} {H H' : HP} {xs ts : List AV} {Q : Nat → HP → AV → Prop} (hh : FzH H H') (ha : fzs H H' xs ts) (h : AC P f nx H' ts Q) : AC P f nx H xs Q := by
  refine ⟨h.1, fun L Av w us hs hfr hargs => (h.2 L Av w us (hs.fz hh) hfr ?_).mono ?_⟩
  · obtain ⟨h4, h5⟩ := fzs_get ha
    refine ⟨by rw [hargs.1, h4], fun k y hk => ?_⟩
    obtain ⟨x, h6, h7⟩ := h5 k y hk
    exact h7.sound hs hh (hargs.2 k x h6)
  · rintro e w' ⟨u, r, L', nx', H2, h1, h2, h3, h4, h5, h6, h7, h8⟩
    exact ⟨u, r, L', nx', H2, h1, h2, h3, h4, h5, h6, ⟨h7.le, h7.os, h7.tape, h7.output, h7.size, fun b hb hn => h7.keep b hb (fun hl => hn (hh.lb hl)), fun b hb hl => hh.lb (h7.old b hb hl)⟩, h8⟩
theorem Fz.blk {H : HP} {id n : Nat} {cs : List AV} (hc : H id = some cs) (hn : cs.length = n) : Fz H (upd H id none) (.h id 0 n) (.v n cs) :=
  .h id 0 n cs cs hc (upd_same _ _ _) (by omega) hn (fun k x y h1 h2 => by rw [Nat.zero_add, h2] at h1; cases h1; exact .refl _)

/-- A slice whose cells are known, whatever it is. -/
def Sls (H : HP) (nx : Nat) (x : AV) (xs : List AV) : Prop := (∀ z ∈ xs, one z = true) ∧ (x = .v xs.length xs ∨ (x = .nl ∧ xs = []) ∨ ∃ i, i < nx ∧ x = .h i 0 xs.length ∧ H i = some xs)

theorem rep_ne {n : Nat} {z : AV} (h : 0 < n) : (List.replicate n z = []) = False := by
  cases n with
  | zero => omega
  | succ n => simp [List.replicate_succ]

theorem slices_Grow_rows_zero (nx : Nat) (H : HP) : AC Try.prog 112 nx H [.nl, .i .i64 (0 : Nat)] (fun nx' H' r => nx ≤ nx' ∧ H' = H ∧ r = .nl) := by
  refine AC.introx envOk Try.func112 rfl (by kernel_rfl) Try.ntmps112 Try.results112 (fun hfr => ?_)
  refine AW.seq (fun N hN => ?_)
  refine AW.regionL envOk ?_
  simp (dsimp := false) (implicitDefEqProofs := false) (disch := omega) only [go_sem, Nat.reduceAdd, Nat.reduceSub, Nat.reduceGT, Nat.reduceEqDiff, Nat.reduceMul, w64]
  refine hN _ ?_
  try clear hN
  try clear N
  refine AW.seq (fun N1 hN1 => ?_)
  refine AW.seq (fun N hN => ?_)
  refine AW.regionL envOk ?_
  simp (dsimp := false) (implicitDefEqProofs := false) (disch := omega) only [go_sem, Nat.reduceAdd, Nat.reduceSub, Nat.reduceGT, Nat.reduceEqDiff, Nat.reduceMul, w64]
  refine hN _ ?_
  try clear hN
  try clear N
  refine AW.cond rfl (fun h1 => ?_) (fun h1 => ?_)
  · try simp only [decide_eq_true_eq, decide_eq_false_iff_not, bne_iff_ne, bne_eq_false_iff_eq, beq_iff_eq, beq_eq_false_iff_ne, Bool.not_eq_true', Bool.not_eq_false', Bool.not_eq_true, Bool.not_false, Bool.not_true, ge_iff_le, gt_iff_lt, ne_eq, Int.not_lt, Int.not_le, tf_iff, tf_iff'] at h1
    exfalso; omega
  · try simp only [decide_eq_true_eq, decide_eq_false_iff_not, bne_iff_ne, bne_eq_false_iff_eq, beq_iff_eq, beq_eq_false_iff_ne, Bool.not_eq_true', Bool.not_eq_false', Bool.not_eq_true, Bool.not_false, Bool.not_true, ge_iff_le, gt_iff_lt, ne_eq, Int.not_lt, Int.not_le, tf_iff, tf_iff'] at h1
    refine AW.skip ?_
    simp only [thn, blk]
    refine hN1 _ ?_
    try clear hN1
    try clear N1
    refine AW.seq (fun N2 hN2 => ?_)
    refine AW.seq (fun N hN => ?_)
    refine AW.regionL envOk ?_
    simp (dsimp := false) (implicitDefEqProofs := false) (disch := omega) only [go_sem, Nat.reduceAdd, Nat.reduceSub, Nat.reduceGT, Nat.reduceEqDiff, Nat.reduceMul, w64]
    refine hN _ ?_
    try clear hN
    try clear N
    refine AW.seq (fun N hN => ?_)
    refine AW.regionL envOk ?_
    simp (dsimp := false) (implicitDefEqProofs := false) (disch := omega) only [go_sem, Nat.reduceAdd, Nat.reduceSub, Nat.reduceGT, Nat.reduceEqDiff, Nat.reduceMul, w64]
    refine hN _ ?_
    try clear hN
    try clear N
    refine AW.cond rfl (fun h2 => ?_) (fun h2 => ?_)
    · try simp only [decide_eq_true_eq, decide_eq_false_iff_not, bne_iff_ne, bne_eq_false_iff_eq, beq_iff_eq, beq_eq_false_iff_ne, Bool.not_eq_true', Bool.not_eq_false', Bool.not_eq_true, Bool.not_false, Bool.not_true, ge_iff_le, gt_iff_lt, ne_eq, Int.not_lt, Int.not_le, tf_iff, tf_iff'] at h2
      exfalso; omega
    · try simp only [decide_eq_true_eq, decide_eq_false_iff_not, bne_iff_ne, bne_eq_false_iff_eq, beq_iff_eq, beq_eq_false_iff_ne, Bool.not_eq_true', Bool.not_eq_false', Bool.not_eq_true, Bool.not_false, Bool.not_true, ge_iff_le, gt_iff_lt, ne_eq, Int.not_lt, Int.not_le, tf_iff, tf_iff'] at h2
      refine AW.skip ?_
      simp only [thn, blk]
      refine hN2 _ ?_
      try clear hN2
      try clear N2
      refine AW.seq (fun N hN => ?_)
      refine AW.regionL envOk ?_
      simp (dsimp := false) (implicitDefEqProofs := false) (disch := omega) only [go_sem, Nat.reduceAdd, Nat.reduceSub, Nat.reduceGT, Nat.reduceEqDiff, Nat.reduceMul, w64]
      refine hN _ ?_
      try clear hN
      try clear N
      refine AW.ret ?_
      simp (dsimp := false) (implicitDefEqProofs := false) (disch := omega) only [go_sem, Nat.reduceAdd, Nat.reduceSub, Nat.reduceGT, Nat.reduceEqDiff, Nat.reduceMul]
      exact ⟨H, Le.refl _, rfl⟩

theorem slices_Grow_rows_pos (n : Nat) (h0 : 0 < n) (hn : n ≤ 4000000) (nx : Nat) (H : HP) : AC Try.prog 112 nx H [.nl, .i .i64 n] (fun nx' H' r => nx ≤ nx' ∧ (∀ i, i < nx → H' i = H i) ∧ ∃ id cs, nx ≤ id ∧ id < nx' ∧ r = .h id 0 0 ∧ H' id = some cs) := by
  refine AC.introx envOk Try.func112 rfl (by kernel_rfl) Try.ntmps112 Try.results112 (fun hfr => ?_)
  refine AW.seq (fun N hN => ?_)
  refine AW.regionL envOk ?_
  simp (dsimp := false) (implicitDefEqProofs := false) (disch := omega) only [go_sem, Nat.reduceAdd, Nat.reduceSub, Nat.reduceGT, Nat.reduceEqDiff, Nat.reduceMul, w64, rep_ne]
  refine hN _ ?_
  try clear hN
  try clear N
  refine AW.seq (fun N1 hN1 => ?_)
  refine AW.seq (fun N hN => ?_)
  refine AW.regionL envOk ?_
  simp (dsimp := false) (implicitDefEqProofs := false) (disch := omega) only [go_sem, Nat.reduceAdd, Nat.reduceSub, Nat.reduceGT, Nat.reduceEqDiff, Nat.reduceMul, w64, rep_ne]
  refine hN _ ?_
  try clear hN
  try clear N
  refine AW.cond rfl (fun h1 => ?_) (fun h1 => ?_)
  · try simp only [decide_eq_true_eq, decide_eq_false_iff_not, bne_iff_ne, bne_eq_false_iff_eq, beq_iff_eq, beq_eq_false_iff_ne, Bool.not_eq_true', Bool.not_eq_false', Bool.not_eq_true, Bool.not_false, Bool.not_true, ge_iff_le, gt_iff_lt, ne_eq, Int.not_lt, Int.not_le, tf_iff, tf_iff'] at h1
    exfalso; omega
  · try simp only [decide_eq_true_eq, decide_eq_false_iff_not, bne_iff_ne, bne_eq_false_iff_eq, beq_iff_eq, beq_eq_false_iff_ne, Bool.not_eq_true', Bool.not_eq_false', Bool.not_eq_true, Bool.not_false, Bool.not_true, ge_iff_le, gt_iff_lt, ne_eq, Int.not_lt, Int.not_le, tf_iff, tf_iff'] at h1
    refine AW.skip ?_
    simp only [thn, blk]
    refine hN1 _ ?_
    try clear hN1
    try clear N1
    refine AW.seq (fun N2 hN2 => ?_)
    refine AW.seq (fun N hN => ?_)
    refine AW.regionL envOk ?_
    simp (dsimp := false) (implicitDefEqProofs := false) (disch := omega) only [go_sem, Nat.reduceAdd, Nat.reduceSub, Nat.reduceGT, Nat.reduceEqDiff, Nat.reduceMul, w64, rep_ne]
    refine hN _ ?_
    try clear hN
    try clear N
    refine AW.seq (fun N hN => ?_)
    refine AW.regionL envOk ?_
    simp (dsimp := false) (implicitDefEqProofs := false) (disch := omega) only [go_sem, Nat.reduceAdd, Nat.reduceSub, Nat.reduceGT, Nat.reduceEqDiff, Nat.reduceMul, w64, rep_ne]
    refine hN _ ?_
    try clear hN
    try clear N
    refine AW.cond rfl (fun h2 => ?_) (fun h2 => ?_)
    · try simp only [decide_eq_true_eq, decide_eq_false_iff_not, bne_iff_ne, bne_eq_false_iff_eq, beq_iff_eq, beq_eq_false_iff_ne, Bool.not_eq_true', Bool.not_eq_false', Bool.not_eq_true, Bool.not_false, Bool.not_true, ge_iff_le, gt_iff_lt, ne_eq, Int.not_lt, Int.not_le, tf_iff, tf_iff'] at h2
      refine AW.regionL envOk ?_
      simp (dsimp := false) (implicitDefEqProofs := false) (disch := omega) only [go_sem, Nat.reduceAdd, Nat.reduceSub, Nat.reduceGT, Nat.reduceEqDiff, Nat.reduceMul, w64, rep_ne]
      refine hN2 _ ?_
      try clear hN2
      try clear N2
      refine AW.seq (fun N hN => ?_)
      refine AW.regionL envOk ?_
      simp (dsimp := false) (implicitDefEqProofs := false) (disch := omega) only [go_sem, Nat.reduceAdd, Nat.reduceSub, Nat.reduceGT, Nat.reduceEqDiff, Nat.reduceMul, w64, rep_ne]
      refine hN _ ?_
      try clear hN
      try clear N
      refine AW.ret ?_
      simp (dsimp := false) (implicitDefEqProofs := false) (disch := omega) only [go_sem, Nat.reduceAdd, Nat.reduceSub, Nat.reduceGT, Nat.reduceEqDiff, Nat.reduceMul]
      exact ⟨_, Le.refl _, fun i hi => upd_ne _ _ (by omega), _, _, by omega, by omega, rfl, upd_same _ _ _⟩
    · try simp only [decide_eq_true_eq, decide_eq_false_iff_not, bne_iff_ne, bne_eq_false_iff_eq, beq_iff_eq, beq_eq_false_iff_ne, Bool.not_eq_true', Bool.not_eq_false', Bool.not_eq_true, Bool.not_false, Bool.not_true, ge_iff_le, gt_iff_lt, ne_eq, Int.not_lt, Int.not_le, tf_iff, tf_iff'] at h2
      exfalso; omega


/-- What a concatenation yields. -/
def CatP (nx : Nat) (H : HP) (zs : List AV) (nx' : Nat) (H' : HP) (r : AV) : Prop := nx ≤ nx' ∧ (∀ i, i < nx → H' i = H i) ∧
  ((zs = [] ∧ r = .nl) ∨ ∃ id cs, nx ≤ id ∧ id < nx' ∧ r = .h id 0 zs.length ∧ H' id = some cs ∧ cs.take zs.length = zs)
theorem Le.cat {nx idg : Nat} {H H1 : HP} {cs : List AV} (hfr : ∀ i, nx ≤ i → H i = none) (h : ∀ i, i < nx → H1 i = H i) (hg : H1 idg = some cs) (hn : nx ≤ idg) : Le (upd H idg (some cs)) H1 := by
  intro i d hi
  by_cases e : i = idg
  · subst e; rw [upd_same] at hi; rw [hg]; exact hi
  · rw [upd_ne _ _ e] at hi
    rcases Nat.lt_or_ge i nx with hlt | hlt
    · rw [h i hlt]; exact hi
    · rw [hfr i hlt] at hi; cases hi
theorem Le.cat2 {nx id id2 : Nat} {H : HP} {d : Option (List AV)} (hfr : ∀ i, nx ≤ i → H i = none) (h : nx ≤ id) : Le (upd H id2 d) (upd (upd H id none) id2 d) := by
  rw [upd_none H (hfr id h)]; exact Le.refl _
/-- The first k lists, one behind the other. -/
def fl (xss : List (List AV)) (k : Nat) : List AV := (xss.take k).flatten
theorem fl_z {xss : List (List AV)} : fl xss 0 = [] := by simp [fl]
theorem fl_all {xss : List (List AV)} : fl xss xss.length = xss.flatten := by rw [fl, List.take_length]
theorem fl_s {xss : List (List AV)} {i : Nat} (h : i < xss.length) : fl xss (i + 1) = fl xss i ++ xss.getD i [] := by
  unfold fl
  rw [List.take_add_one, List.flatten_append]
  congr 1
  simp [h]
theorem fl_len {xss : List (List AV)} {i : Nat} (h : i < xss.length) : (fl xss (i + 1)).length = (fl xss i).length + (xss.getD i []).length := by rw [fl_s h, List.length_append]
theorem fl_le {xss : List (List AV)} {i : Nat} (h : i < xss.length) : (fl xss i).length + (xss.getD i []).length ≤ xss.flatten.length := by
  have h1 : xss.flatten = fl xss (i + 1) ++ (xss.drop (i + 1)).flatten := by unfold fl; rw [← List.flatten_append, List.take_append_drop]
  rw [h1, List.length_append, fl_len h]; omega
theorem fl_zl {xss : List (List AV)} : (fl xss 0).length = 0 := by simp [fl]

theorem slices_Concat_rows_pos (zs : List AV) (xss : List (List AV)) (hz : zs.length = xss.length) (hl : zs.length ≤ 1000) (idl nx : Nat) (H : HP) (hH : H idl = some zs) (hid : idl < nx) (hs : ∀ i, i < xss.length → Sls H nx (zs.getD i .j) (xss.getD i [])) (h0 : 0 < xss.flatten.length) (hn : xss.flatten.length ≤ 4000000) :
  AC Try.prog 66 nx H [.h idl 0 zs.length] (CatP nx H xss.flatten) := by
  have hfz := fl_zl (xss := xss)
  refine AC.introx envOk Try.func66 rfl (by kernel_rfl) Try.ntmps66 Try.results66 (fun hfr => ?_)
  refine AW.seq (fun N hN => ?_)
  refine AW.regionL envOk ?_
  simp (dsimp := false) (implicitDefEqProofs := false) (disch := omega) only [go_sem, Nat.reduceAdd, Nat.reduceSub, Nat.reduceGT, Nat.reduceEqDiff, Nat.reduceMul, w64, hH]
  refine hN _ ?_
  try clear hN
  try clear N
  refine AW.seq (fun N hN => ?_)
  refine AW.regionL envOk ?_
  simp (dsimp := false) (implicitDefEqProofs := false) (disch := omega) only [go_sem, Nat.reduceAdd, Nat.reduceSub, Nat.reduceGT, Nat.reduceEqDiff, Nat.reduceMul, w64, hH]
  refine hN _ ?_
  try clear hN
  try clear N
  refine AW.seq (fun N1 hN1 => ?_)
  refine AW.seq (fun N hN => ?_)
  refine AW.regionL envOk ?_
  simp (dsimp := false) (implicitDefEqProofs := false) (disch := omega) only [go_sem, Nat.reduceAdd, Nat.reduceSub, Nat.reduceGT, Nat.reduceEqDiff, Nat.reduceMul, w64, hH]
  refine hN _ ?_
  try clear hN
  try clear N
  refine AW.block ?_
  refine AW.loopN (α := Nat) (fun x => sl 36 [(0, .h idl 0 zs.length), (3, .i .i64 (fl xss x).length), (9, .h idl 0 zs.length), (10, .i .i64 zs.length), (11, .i .i64 x)]) (fun _ => H) (fun x m => x ≤ xss.length ∧ nx ≤ m) (fun x => xss.length - x) (0) ?_ ?_ (fun _ _ h => h) ?_
  · exact ⟨by omega, by first| omega| (simp only; omega)| (dsimp only; omega)⟩
  · simp (disch := omega) [wks, wkA, sl, w64, ints, rows, cubes, w64, hH] <;> omega
  · skip
    rintro k m ⟨hk, hm⟩
    simp (dsimp := false) (implicitDefEqProofs := false) (disch := omega) only [go_sem, Nat.reduceAdd, Nat.reduceSub, Nat.reduceGT, Nat.reduceEqDiff, Nat.reduceMul]
    refine AW.seq (fun N hN => ?_)
    refine AW.regionL envOk ?_
    simp (dsimp := false) (implicitDefEqProofs := false) (disch := omega) only [go_sem, Nat.reduceAdd, Nat.reduceSub, Nat.reduceGT, Nat.reduceEqDiff, Nat.reduceMul, w64, hH]
    refine hN _ ?_
    try clear hN
    try clear N
    refine AW.seq (fun N2 hN2 => ?_)
    refine AW.cond rfl (fun h1 => ?_) (fun h1 => ?_)
    · try simp only [decide_eq_true_eq, decide_eq_false_iff_not, bne_iff_ne, bne_eq_false_iff_eq, beq_iff_eq, beq_eq_false_iff_ne, Bool.not_eq_true', Bool.not_eq_false', Bool.not_eq_true, Bool.not_false, Bool.not_true, ge_iff_le, gt_iff_lt, ne_eq, Int.not_lt, Int.not_le, tf_iff, tf_iff'] at h1
      have hkl : k < xss.length := by omega
      have hfl := fl_le hkl
      have hfn := fl_len hkl
      have hsk := hs k hkl
      generalize xss.getD k [] = y at hsk hfl hfn
      rcases hsk.2 with hx | ⟨hx, hxe⟩ | ⟨i, hi, hx, hxi⟩
      case' inr.inl => (subst hxe; simp only [List.length_nil] at hfl hfn)
      all_goals
        refine AW.skip ?_
        simp only [thn, blk]
        refine hN2 _ ?_
        try clear hN2
        try clear N2
        refine AW.seq (fun N3 hN3 => ?_)
        refine AW.block ?_
        refine AW.seq (fun N hN => ?_)
        refine AW.regionL envOk ?_
        simp (dsimp := false) (implicitDefEqProofs := false) (disch := omega) only [go_sem, Nat.reduceAdd, Nat.reduceSub, Nat.reduceGT, Nat.reduceEqDiff, Nat.reduceMul, w64, hH, hx]
        refine hN _ ?_
        try clear hN
        try clear N
        refine AW.seq (fun N hN => ?_)
        refine AW.regionL envOk ?_
        simp (dsimp := false) (implicitDefEqProofs := false) (disch := omega) only [go_sem, Nat.reduceAdd, Nat.reduceSub, Nat.reduceGT, Nat.reduceEqDiff, Nat.reduceMul, w64, hH, hx]
        refine hN _ ?_
        try clear hN
        try clear N
        refine AW.seq (fun N hN => ?_)
        refine AW.regionL envOk ?_
        simp (dsimp := false) (implicitDefEqProofs := false) (disch := omega) only [go_sem, Nat.reduceAdd, Nat.reduceSub, Nat.reduceGT, Nat.reduceEqDiff, Nat.reduceMul, w64, hH]
        refine hN _ ?_
        try clear hN
        try clear N
        refine AW.cond rfl (fun h2 => ?_) (fun h2 => ?_)
        · try simp only [decide_eq_true_eq, decide_eq_false_iff_not, bne_iff_ne, bne_eq_false_iff_eq, beq_iff_eq, beq_eq_false_iff_ne, Bool.not_eq_true', Bool.not_eq_false', Bool.not_eq_true, Bool.not_false, Bool.not_true, ge_iff_le, gt_iff_lt, ne_eq, Int.not_lt, Int.not_le, tf_iff, tf_iff'] at h2
          exfalso; omega
        · try simp only [decide_eq_true_eq, decide_eq_false_iff_not, bne_iff_ne, bne_eq_false_iff_eq, beq_iff_eq, beq_eq_false_iff_ne, Bool.not_eq_true', Bool.not_eq_false', Bool.not_eq_true, Bool.not_false, Bool.not_true, ge_iff_le, gt_iff_lt, ne_eq, Int.not_lt, Int.not_le, tf_iff, tf_iff'] at h2
          refine AW.skip ?_
          simp only [thn, blk]
          refine hN3 _ ?_
          try clear hN3
          try clear N3
          refine AW.regionL envOk ?_
          simp (dsimp := false) (implicitDefEqProofs := false) (disch := omega) only [go_sem, Nat.reduceAdd, Nat.reduceSub, Nat.reduceGT, Nat.reduceEqDiff, Nat.reduceMul, w64, hH]
          refine ⟨k + 1, ?_, fun _ _ h => h, ?_, ?_⟩
          · simp (disch := omega) [wks, wkA, sl, w64, ints, rows, cubes, w64, hH] <;> omega
          · exact ⟨by omega, by first| omega| (simp only; omega)| (dsimp only; omega)⟩
          · first | omega | (simp only; omega)
    · try simp only [decide_eq_true_eq, decide_eq_false_iff_not, bne_iff_ne, bne_eq_false_iff_eq, beq_iff_eq, beq_eq_false_iff_ne, Bool.not_eq_true', Bool.not_eq_false', Bool.not_eq_true, Bool.not_false, Bool.not_true, ge_iff_le, gt_iff_lt, ne_eq, Int.not_lt, Int.not_le, tf_iff, tf_iff'] at h1
      have hk' : k = xss.length := by omega
      subst hk'
      rw [fl_all]
      refine AW.exit ?_
      simp only [thn, blk, if_true]
      refine hN1 _ ?_
      try clear hN1
      try clear N1
      refine AW.seq (fun N hN => ?_)
      refine AW.regionL envOk ?_
      simp (dsimp := false) (implicitDefEqProofs := false) (disch := omega) only [go_sem, Nat.reduceAdd, Nat.reduceSub, Nat.reduceGT, Nat.reduceEqDiff, Nat.reduceMul, w64, hH]
      refine (slices_Grow_rows_pos _ h0 hn _ _).mono ?_
      rintro nx1 H1 r ⟨hx1, hHH, idg, csg, hg1, hg2, rfl, hg3⟩
      refine hN _ ?_
      try clear hN
      try clear N
      refine AW.seq (fun N4 hN4 => ?_)
      refine AW.seq (fun N hN => ?_)
      refine AW.regionL envOk ?_
      simp (dsimp := false) (implicitDefEqProofs := false) (disch := omega) only [go_sem, Nat.reduceAdd, Nat.reduceSub, Nat.reduceGT, Nat.reduceEqDiff, Nat.reduceMul, w64, hH]
      refine hN _ ?_
      try clear hN
      try clear N
      refine AW.block ?_
      refine AW.loopN (α := Nat × Nat × List AV) (fun x => sl 36 [(6, .h x.2.1 0 (fl xss x.1).length), (25, .h idl 0 zs.length), (26, .i .i64 zs.length), (27, .i .i64 x.1)]) (fun x => upd H x.2.1 (some x.2.2)) (fun x m => (x.1 ≤ xss.length ∧ nx ≤ x.2.1 ∧ x.2.1 < m) ∧ x.2.2.take (fl xss x.1).length = fl xss x.1) (fun x => xss.length - x.1) ((0, idg, csg)) ?_ ?_ (Le.cat (fun i hi => hfr i (by omega)) hHH hg3 (by first| omega| (simp only; omega)| (dsimp only; omega))) ?_
      · exact ⟨⟨by simp, by first| omega| (simp only; omega)| (dsimp only; omega), by first| omega| (simp only; omega)| (dsimp only; omega)⟩, by simp [fl_z]⟩
      · simp (disch := omega) [wks, wkA, sl, w64, ints, rows, cubes, w64, hH] <;> omega
      · skip
        rintro ⟨q, id, cs⟩ m2 ⟨⟨hq, hid2, hm2⟩, htk⟩
        dsimp only at hq hid2 hm2 htk
        simp (dsimp := false) (implicitDefEqProofs := false) (disch := omega) only [go_sem, Nat.reduceAdd, Nat.reduceSub, Nat.reduceGT, Nat.reduceEqDiff, Nat.reduceMul]
        refine AW.seq (fun N hN => ?_)
        refine AW.regionL envOk ?_
        simp (dsimp := false) (implicitDefEqProofs := false) (disch := omega) only [go_sem, Nat.reduceAdd, Nat.reduceSub, Nat.reduceGT, Nat.reduceEqDiff, Nat.reduceMul, w64, hH]
        refine hN _ ?_
        try clear hN
        try clear N
        refine AW.seq (fun N5 hN5 => ?_)
        refine AW.cond rfl (fun h3 => ?_) (fun h3 => ?_)
        · try simp only [decide_eq_true_eq, decide_eq_false_iff_not, bne_iff_ne, bne_eq_false_iff_eq, beq_iff_eq, beq_eq_false_iff_ne, Bool.not_eq_true', Bool.not_eq_false', Bool.not_eq_true, Bool.not_false, Bool.not_true, ge_iff_le, gt_iff_lt, ne_eq, Int.not_lt, Int.not_le, tf_iff, tf_iff'] at h3
          have hql : q < xss.length := by omega
          have hsq := hs q hql
          have hfs := fl_s hql
          have hcl : (fl xss q).length ≤ cs.length := by have := congrArg List.length htk; rw [List.length_take] at this; omega
          have hfl := fl_le hql
          have hfn := fl_len hql
          generalize xss.getD q [] = y at hsq hfl hfn hfs
          have hone := eq_true hsq.1
          have hxi := hH
          rcases hsq.2 with hx | ⟨hx, hxe⟩ | ⟨i, hi, hx, hxi⟩
          case' inr.inl => (subst hxe; simp only [List.length_nil] at hfl hfn)
          all_goals
            refine AW.skip ?_
            simp only [thn, blk]
            refine hN5 _ ?_
            try clear hN5
            try clear N5
            refine AW.seq (fun N6 hN6 => ?_)
            refine AW.block ?_
            refine AW.seq (fun N hN => ?_)
            refine AW.regionL envOk ?_
            simp (dsimp := false) (implicitDefEqProofs := false) (disch := omega) only [go_sem, Nat.reduceAdd, Nat.reduceSub, Nat.reduceGT, Nat.reduceEqDiff, Nat.reduceMul, w64, hH, hx, hone]
            refine hN _ ?_
            try clear hN
            try clear N
            refine AW.regionL envOk ?_
            simp (dsimp := false) (implicitDefEqProofs := false) (disch := omega) only [go_sem, Nat.reduceAdd, Nat.reduceSub, Nat.reduceGT, Nat.reduceEqDiff, Nat.reduceMul, w64, hH, hx, hone, hxi, List.take_length]
            refine hN6 _ ?_
            try clear hN6
            try clear N6
            refine AW.regionL envOk ?_
            simp (dsimp := false) (implicitDefEqProofs := false) (disch := omega) only [go_sem, Nat.reduceAdd, Nat.reduceSub, Nat.reduceGT, Nat.reduceEqDiff, Nat.reduceMul, w64, hH]
            refine ⟨(q + 1, m2 + 1 + 3 + 2, fl xss (q + 1)), ?_, by dsimp only; rw [hfs, htk]; exact Le.cat2 hfr (by omega), ?_, ?_⟩
            · simp (disch := omega) [wks, wkA, sl, w64, ints, rows, cubes, w64, hH] <;> omega
            · exact ⟨⟨by first| omega| (simp only; omega)| (dsimp only; omega), by first| omega| (simp only; omega)| (dsimp only; omega), by first| omega| (simp only; omega)| (dsimp only; omega)⟩, List.take_length⟩
            · first | omega | (simp only; omega)
        · try simp only [decide_eq_true_eq, decide_eq_false_iff_not, bne_iff_ne, bne_eq_false_iff_eq, beq_iff_eq, beq_eq_false_iff_ne, Bool.not_eq_true', Bool.not_eq_false', Bool.not_eq_true, Bool.not_false, Bool.not_true, ge_iff_le, gt_iff_lt, ne_eq, Int.not_lt, Int.not_le, tf_iff, tf_iff'] at h3
          have hq' : q = xss.length := by omega
          subst hq'
          rw [fl_all] at htk
          refine AW.exit ?_
          simp only [thn, blk, if_true]
          refine hN4 _ ?_
          try clear hN4
          try clear N4
          refine AW.seq (fun N hN => ?_)
          refine AW.regionL envOk ?_
          simp (dsimp := false) (implicitDefEqProofs := false) (disch := omega) only [go_sem, Nat.reduceAdd, Nat.reduceSub, Nat.reduceGT, Nat.reduceEqDiff, Nat.reduceMul, w64, hH]
          refine hN _ ?_
          try clear hN
          try clear N
          refine AW.ret ?_
          simp (dsimp := false) (implicitDefEqProofs := false) (disch := omega) only [go_sem, Nat.reduceAdd, Nat.reduceSub, Nat.reduceGT, Nat.reduceEqDiff, Nat.reduceMul]
          rw [fl_all]
          exact ⟨_, Le.refl _, by omega, fun i hi => upd_ne _ _ (by omega), .inr ⟨id, cs, hid2, by omega, rfl, upd_same _ _ _, htk⟩⟩

theorem slices_Concat_rows_zero (zs : List AV) (xss : List (List AV)) (hz : zs.length = xss.length) (hl : zs.length ≤ 1000) (idl nx : Nat) (H : HP) (hH : H idl = some zs) (hid : idl < nx) (hs : ∀ i, i < xss.length → Sls H nx (zs.getD i .j) (xss.getD i [])) (h0 : xss.flatten.length = 0) :
  AC Try.prog 66 nx H [.h idl 0 zs.length] (CatP nx H xss.flatten) := by
  refine AC.introx envOk Try.func66 rfl (by kernel_rfl) Try.ntmps66 Try.results66 (fun hfr => ?_)
  refine AW.seq (fun N hN => ?_)
  refine AW.regionL envOk ?_
  simp (dsimp := false) (implicitDefEqProofs := false) (disch := omega) only [go_sem, Nat.reduceAdd, Nat.reduceSub, Nat.reduceGT, Nat.reduceEqDiff, Nat.reduceMul, w64, hH]
  refine hN _ ?_
  try clear hN
  try clear N
  refine AW.seq (fun N hN => ?_)
  refine AW.regionL envOk ?_
  simp (dsimp := false) (implicitDefEqProofs := false) (disch := omega) only [go_sem, Nat.reduceAdd, Nat.reduceSub, Nat.reduceGT, Nat.reduceEqDiff, Nat.reduceMul, w64, hH]
  refine hN _ ?_
  try clear hN
  try clear N
  refine AW.seq (fun N1 hN1 => ?_)
  refine AW.seq (fun N hN => ?_)
  refine AW.regionL envOk ?_
  simp (dsimp := false) (implicitDefEqProofs := false) (disch := omega) only [go_sem, Nat.reduceAdd, Nat.reduceSub, Nat.reduceGT, Nat.reduceEqDiff, Nat.reduceMul, w64, hH]
  refine hN _ ?_
  try clear hN
  try clear N
  refine AW.block ?_
  refine AW.loopN (α := Nat) (fun x => sl 36 [(0, .h idl 0 zs.length), (3, .i .i64 (0 : Nat)), (9, .h idl 0 zs.length), (10, .i .i64 zs.length), (11, .i .i64 x)]) (fun _ => H) (fun x m => x ≤ xss.length ∧ nx ≤ m) (fun x => xss.length - x) (0) ?_ ?_ (fun _ _ h => h) ?_
  · exact ⟨by omega, by first| omega| (simp only; omega)| (dsimp only; omega)⟩
  · simp (disch := omega) [wks, wkA, sl, w64, ints, rows, cubes, w64, hH] <;> omega
  · skip
    rintro k m ⟨hk, hm⟩
    simp (dsimp := false) (implicitDefEqProofs := false) (disch := omega) only [go_sem, Nat.reduceAdd, Nat.reduceSub, Nat.reduceGT, Nat.reduceEqDiff, Nat.reduceMul]
    refine AW.seq (fun N hN => ?_)
    refine AW.regionL envOk ?_
    simp (dsimp := false) (implicitDefEqProofs := false) (disch := omega) only [go_sem, Nat.reduceAdd, Nat.reduceSub, Nat.reduceGT, Nat.reduceEqDiff, Nat.reduceMul, w64, hH]
    refine hN _ ?_
    try clear hN
    try clear N
    refine AW.seq (fun N2 hN2 => ?_)
    refine AW.cond rfl (fun h1 => ?_) (fun h1 => ?_)
    · try simp only [decide_eq_true_eq, decide_eq_false_iff_not, bne_iff_ne, bne_eq_false_iff_eq, beq_iff_eq, beq_eq_false_iff_ne, Bool.not_eq_true', Bool.not_eq_false', Bool.not_eq_true, Bool.not_false, Bool.not_true, ge_iff_le, gt_iff_lt, ne_eq, Int.not_lt, Int.not_le, tf_iff, tf_iff'] at h1
      have hkl : k < xss.length := by omega
      have hfl := fl_le hkl
      have hsk := hs k hkl
      generalize xss.getD k [] = y at hsk hfl
      obtain rfl : y = [] := List.length_eq_zero_iff.1 (by omega)
      rcases hsk.2 with hx | ⟨hx, hxe⟩ | ⟨i, hi, hx, hxi⟩
      all_goals
        refine AW.skip ?_
        simp only [thn, blk]
        refine hN2 _ ?_
        try clear hN2
        try clear N2
        refine AW.seq (fun N3 hN3 => ?_)
        refine AW.block ?_
        refine AW.seq (fun N hN => ?_)
        refine AW.regionL envOk ?_
        simp (dsimp := false) (implicitDefEqProofs := false) (disch := omega) only [go_sem, Nat.reduceAdd, Nat.reduceSub, Nat.reduceGT, Nat.reduceEqDiff, Nat.reduceMul, w64, hH, hx]
        refine hN _ ?_
        try clear hN
        try clear N
        refine AW.seq (fun N hN => ?_)
        refine AW.regionL envOk ?_
        simp (dsimp := false) (implicitDefEqProofs := false) (disch := omega) only [go_sem, Nat.reduceAdd, Nat.reduceSub, Nat.reduceGT, Nat.reduceEqDiff, Nat.reduceMul, w64, hH, hx, List.length_nil]
        refine hN _ ?_
        try clear hN
        try clear N
        refine AW.seq (fun N hN => ?_)
        refine AW.regionL envOk ?_
        simp (dsimp := false) (implicitDefEqProofs := false) (disch := omega) only [go_sem, Nat.reduceAdd, Nat.reduceSub, Nat.reduceGT, Nat.reduceEqDiff, Nat.reduceMul, w64, hH]
        refine hN _ ?_
        try clear hN
        try clear N
        refine AW.cond rfl (fun h2 => ?_) (fun h2 => ?_)
        · try simp only [decide_eq_true_eq, decide_eq_false_iff_not, bne_iff_ne, bne_eq_false_iff_eq, beq_iff_eq, beq_eq_false_iff_ne, Bool.not_eq_true', Bool.not_eq_false', Bool.not_eq_true, Bool.not_false, Bool.not_true, ge_iff_le, gt_iff_lt, ne_eq, Int.not_lt, Int.not_le, tf_iff, tf_iff'] at h2
          exfalso; omega
        · try simp only [decide_eq_true_eq, decide_eq_false_iff_not, bne_iff_ne, bne_eq_false_iff_eq, beq_iff_eq, beq_eq_false_iff_ne, Bool.not_eq_true', Bool.not_eq_false', Bool.not_eq_true, Bool.not_false, Bool.not_true, ge_iff_le, gt_iff_lt, ne_eq, Int.not_lt, Int.not_le, tf_iff, tf_iff'] at h2
          refine AW.skip ?_
          simp only [thn, blk]
          refine hN3 _ ?_
          try clear hN3
          try clear N3
          refine AW.regionL envOk ?_
          simp (dsimp := false) (implicitDefEqProofs := false) (disch := omega) only [go_sem, Nat.reduceAdd, Nat.reduceSub, Nat.reduceGT, Nat.reduceEqDiff, Nat.reduceMul, w64, hH]
          refine ⟨k + 1, ?_, fun _ _ h => h, ?_, ?_⟩
          · simp (disch := omega) [wks, wkA, sl, w64, ints, rows, cubes, w64, hH] <;> omega
          · exact ⟨by omega, by first| omega| (simp only; omega)| (dsimp only; omega)⟩
          · first | omega | (simp only; omega)
    · try simp only [decide_eq_true_eq, decide_eq_false_iff_not, bne_iff_ne, bne_eq_false_iff_eq, beq_iff_eq, beq_eq_false_iff_ne, Bool.not_eq_true', Bool.not_eq_false', Bool.not_eq_true, Bool.not_false, Bool.not_true, ge_iff_le, gt_iff_lt, ne_eq, Int.not_lt, Int.not_le, tf_iff, tf_iff'] at h1
      refine AW.exit ?_
      simp only [thn, blk, if_true]
      refine hN1 _ ?_
      try clear hN1
      try clear N1
      refine AW.seq (fun N hN => ?_)
      refine AW.regionL envOk ?_
      simp (dsimp := false) (implicitDefEqProofs := false) (disch := omega) only [go_sem, Nat.reduceAdd, Nat.reduceSub, Nat.reduceGT, Nat.reduceEqDiff, Nat.reduceMul, w64, hH]
      refine (slices_Grow_rows_zero _ _).mono ?_
      rintro nx1 H1 r ⟨hx1, rfl, rfl⟩
      refine hN _ ?_
      try clear hN
      try clear N
      refine AW.seq (fun N4 hN4 => ?_)
      refine AW.seq (fun N hN => ?_)
      refine AW.regionL envOk ?_
      simp (dsimp := false) (implicitDefEqProofs := false) (disch := omega) only [go_sem, Nat.reduceAdd, Nat.reduceSub, Nat.reduceGT, Nat.reduceEqDiff, Nat.reduceMul, w64, hH]
      refine hN _ ?_
      try clear hN
      try clear N
      refine AW.block ?_
      refine AW.loopN (α := Nat) (fun x => sl 36 [(6, .nl), (25, .h idl 0 zs.length), (26, .i .i64 zs.length), (27, .i .i64 x)]) (fun _ => H1) (fun x m => x ≤ xss.length ∧ nx ≤ m) (fun x => xss.length - x) (0) ?_ ?_ (fun _ _ h => h) ?_
      · exact ⟨by omega, by first| omega| (simp only; omega)| (dsimp only; omega)⟩
      · simp (disch := omega) [wks, wkA, sl, w64, ints, rows, cubes, w64, hH] <;> omega
      · skip
        rintro q m2 ⟨hq, hm2⟩
        simp (dsimp := false) (implicitDefEqProofs := false) (disch := omega) only [go_sem, Nat.reduceAdd, Nat.reduceSub, Nat.reduceGT, Nat.reduceEqDiff, Nat.reduceMul]
        refine AW.seq (fun N hN => ?_)
        refine AW.regionL envOk ?_
        simp (dsimp := false) (implicitDefEqProofs := false) (disch := omega) only [go_sem, Nat.reduceAdd, Nat.reduceSub, Nat.reduceGT, Nat.reduceEqDiff, Nat.reduceMul, w64, hH]
        refine hN _ ?_
        try clear hN
        try clear N
        refine AW.seq (fun N5 hN5 => ?_)
        refine AW.cond rfl (fun h3 => ?_) (fun h3 => ?_)
        · try simp only [decide_eq_true_eq, decide_eq_false_iff_not, bne_iff_ne, bne_eq_false_iff_eq, beq_iff_eq, beq_eq_false_iff_ne, Bool.not_eq_true', Bool.not_eq_false', Bool.not_eq_true, Bool.not_false, Bool.not_true, ge_iff_le, gt_iff_lt, ne_eq, Int.not_lt, Int.not_le, tf_iff, tf_iff'] at h3
          have hql : q < xss.length := by omega
          have hsq := hs q hql
          have hfl := fl_le hql
          generalize xss.getD q [] = y at hsq hfl
          have hxi := hH
          obtain rfl : y = [] := List.length_eq_zero_iff.1 (by omega)
          have hone : (∀ z ∈ ([] : List AV), one z = true) = True := by simp
          rcases hsq.2 with hx | ⟨hx, hxe⟩ | ⟨i, hi, hx, hxi⟩
          all_goals
            refine AW.skip ?_
            simp only [thn, blk]
            refine hN5 _ ?_
            try clear hN5
            try clear N5
            refine AW.seq (fun N6 hN6 => ?_)
            refine AW.block ?_
            refine AW.seq (fun N hN => ?_)
            refine AW.regionL envOk ?_
            simp (dsimp := false) (implicitDefEqProofs := false) (disch := omega) only [go_sem, Nat.reduceAdd, Nat.reduceSub, Nat.reduceGT, Nat.reduceEqDiff, Nat.reduceMul, w64, hH, hx, hone]
            refine hN _ ?_
            try clear hN
            try clear N
            refine AW.regionL envOk ?_
            simp (dsimp := false) (implicitDefEqProofs := false) (disch := omega) only [go_sem, Nat.reduceAdd, Nat.reduceSub, Nat.reduceGT, Nat.reduceEqDiff, Nat.reduceMul, w64, hH, hx, hone, hxi, List.take_length, List.length_nil]
            refine hN6 _ ?_
            try clear hN6
            try clear N6
            refine AW.regionL envOk ?_
            simp (dsimp := false) (implicitDefEqProofs := false) (disch := omega) only [go_sem, Nat.reduceAdd, Nat.reduceSub, Nat.reduceGT, Nat.reduceEqDiff, Nat.reduceMul, w64, hH]
            refine ⟨q + 1, ?_, fun _ _ h => h, ?_, ?_⟩
            · simp (disch := omega) [wks, wkA, sl, w64, ints, rows, cubes, w64, hH] <;> omega
            · exact ⟨by omega, by first| omega| (simp only; omega)| (dsimp only; omega)⟩
            · first | omega | (simp only; omega)
        · try simp only [decide_eq_true_eq, decide_eq_false_iff_not, bne_iff_ne, bne_eq_false_iff_eq, beq_iff_eq, beq_eq_false_iff_ne, Bool.not_eq_true', Bool.not_eq_false', Bool.not_eq_true, Bool.not_false, Bool.not_true, ge_iff_le, gt_iff_lt, ne_eq, Int.not_lt, Int.not_le, tf_iff, tf_iff'] at h3
          refine AW.exit ?_
          simp only [thn, blk, if_true]
          refine hN4 _ ?_
          try clear hN4
          try clear N4
          refine AW.seq (fun N hN => ?_)
          refine AW.regionL envOk ?_
          simp (dsimp := false) (implicitDefEqProofs := false) (disch := omega) only [go_sem, Nat.reduceAdd, Nat.reduceSub, Nat.reduceGT, Nat.reduceEqDiff, Nat.reduceMul, w64, hH]
          refine hN _ ?_
          try clear hN
          try clear N
          refine AW.ret ?_
          simp (dsimp := false) (implicitDefEqProofs := false) (disch := omega) only [go_sem, Nat.reduceAdd, Nat.reduceSub, Nat.reduceGT, Nat.reduceEqDiff, Nat.reduceMul]
          exact ⟨_, Le.refl _, by omega, fun i hi => rfl, .inl ⟨List.length_eq_zero_iff.1 h0, rfl⟩⟩

theorem slices_Concat_rows (zs : List AV) (xss : List (List AV)) (hz : zs.length = xss.length) (hl : zs.length ≤ 1000) (idl nx : Nat) (H : HP) (hH : H idl = some zs) (hid : idl < nx) (hs : ∀ i, i < xss.length → Sls H nx (zs.getD i .j) (xss.getD i [])) (hn : xss.flatten.length ≤ 4000000) :
    AC Try.prog 66 nx H [.h idl 0 zs.length] (CatP nx H xss.flatten) := by
  rcases Nat.eq_zero_or_pos xss.flatten.length with h | h
  · exact slices_Concat_rows_zero zs xss hz hl idl nx H hH hid hs h
  · exact slices_Concat_rows_pos zs xss hz hl idl nx H hH hid hs h hn
end Go.Proofs.Ytgeoogndonghmaa

set_option linter.unusedVariables false
set_option linter.unusedSimpArgs false
namespace Go.Proofs.Ytgeoogndonghmaa

theorem nodup_le : ∀ {l1 l2 : List Nat}, l1.Nodup → (∀ x ∈ l1, x ∈ l2) → l1.length ≤ l2.length := by
  intro l1
  induction l1 with
  | nil => intro l2 _ _; simp
  | cons x l1 ih =>
    intro l2 h hs
    obtain ⟨h1, h2⟩ := List.nodup_cons.1 h
    have hx := hs x (by simp)
    have h3 := ih (l2 := l2.erase x) h2 (fun y hy => (List.mem_erase_of_ne (fun e => h1 (by rw [← e]; exact hy))).2 (hs y (by simp [hy])))
    rw [List.length_erase_of_mem hx] at h3
    have := List.length_pos_of_mem hx
    simp only [List.length_cons]; omega
theorem nodup_all {l1 l2 : List Nat} (h : l1.Nodup) (hs : ∀ x ∈ l1, x ∈ l2) (hl : l2.length ≤ l1.length) : ∀ x ∈ l2, x ∈ l1 := by
  intro x hx
  apply Classical.byContradiction
  intro hn
  have h3 := nodup_le (l2 := l2.erase x) h (fun y hy => (List.mem_erase_of_ne (fun e => hn (by rw [← e]; exact hy))).2 (hs y hy))
  rw [List.length_erase_of_mem hx] at h3
  have := List.length_pos_of_mem hx
  omega

section
variable {p : Int} {pw : List (List Int)}
theorem Ech.nodup {n : Nat} {u : List (List Int)} (h : Ech p n u) : (u.map dep).Nodup := by
  refine List.pairwise_iff_getElem.2 fun i j hi hj hij => ?_
  have := h.asc i j hij (by simpa using hj)
  rw [List.length_map] at hi hj
  simp only [List.getD_eq_getElem?_getD, List.getElem?_eq_getElem hi, List.getElem?_eq_getElem hj, Option.getD_some] at this
  simp only [List.getElem_map]
  omega
theorem can_deps {S S' : (Nat → Int) → Prop} {u v : List (List Int)} (hu : Can p pw S u) (hv : Can p pw S' v) (h : ∀ f, S f → S' f) : ∀ x ∈ u.map dep, x ∈ v.map dep := by
  intro x hx
  obtain ⟨b, hb, rfl⟩ := List.mem_map.1 hx
  obtain ⟨c, hc, he⟩ := hv.all b (hu.el b hb) (h _ (hu.mem b hb)) (hu.lt b hb)
  exact List.mem_map.2 ⟨c, hc, he⟩
theorem can_le {S S' : (Nat → Int) → Prop} {u v : List (List Int)} (hu : Can p pw S u) (hv : Can p pw S' v) (h : ∀ f, S f → S' f) : u.length ≤ v.length := by
  have := nodup_le hu.nodup (can_deps hu hv h)
  simpa using this
theorem can_same (t : Tri p pw) {S S' : (Nat → Int) → Prop} (hS : Sub p pw S) (hS' : Sub p pw S') {u v : List (List Int)} (hu : Can p pw S u) (hv : Can p pw S' v) (h : ∀ f, S f → S' f) (hl : v.length ≤ u.length) : v = u := by
  have hd := nodup_all hu.nodup (can_deps hu hv h) (by simpa using hl)
  have hSS : S = S' := by
    funext f
    refine propext ⟨h f, fun hf => ?_⟩
    have hx := nf_el t f
    have hfx : S' (fn (nf p pw f)) := hS'.cg hf (nf_fn t f)
    have hre := redL_el t u hx
    have h1 := (redL_sp t (d := 0) (u := u) (x := nf p pw f) (fun b hb => ⟨hu.lt b hb, hu.one b hb⟩) hx (fun j hj => by omega)).1
    have h2 : S (fun j => 1 * fn (nf p pw f) j + -1 * fn (redL p pw u (nf p pw f)) j) := h1 S hS (fun b hb => hu.mem b (mem_deeper.1 hb).1)
    have h3 : S' (fn (redL p pw u (nf p pw f))) := hS'.cg (hS'.comb 1 (-1) hfx (h _ h2)) (.of fun j _ => by omega)
    have hz : zeros (redL p pw u (nf p pw f)) := by
      refine dep_all.1 ?_
      rcases Nat.lt_or_ge (dep (redL p pw u (nf p pw f))) pw.length with hd2 | hd2
      · obtain ⟨c, hc, hcd⟩ := hv.all _ hre h3 hd2
        obtain ⟨b, hb, hbd⟩ := List.mem_map.1 (hd (dep c) (List.mem_map.2 ⟨c, hc, rfl⟩))
        have h4 := redL_zero t hu.toEch hx b hb
        rw [hbd, hcd] at h4
        exact absurd h4 (dep_nz (by rw [hre.len]; exact hd2))
      · have := dep_le (redL p pw u (nf p pw f))
        rw [hre.len] at this ⊢; omega
    have h5 : S (fn (nf p pw f)) := hS.cg h2 (.of fun j hj => by have := hz j (by rw [hre.len]; exact hj); simp only [fn] at this ⊢; rw [this]; omega)
    exact hS.cg h5 (nf_fn t f).symm
  subst hSS
  exact can_uniq t hS hv hu
end

/-! The bracket is linear in its second argument. -/
theorem rsum_lin {q : Nat} {F G K : Nat → Int} {c : Int} (h : ∀ i, i < q → F i = G i + c * K i) : rsum q F = rsum q G + c * rsum q K := by
  induction q with
  | zero => simp [rsum]
  | succ q ih =>
    have h1 := ih fun i hi => h i (by omega)
    have h2 := h q (by omega)
    simp only [rsum]
    grind
section
variable {p : Int} {pw : List (List Int)} {br : List (List (List Int))}
theorem bsum_lin (s : Sh p pw br) {a x y z : List Int} {c : Int} (h : ∀ j, j < pw.length → z.getD j 0 = x.getD j 0 + c * y.getD j 0) {t : Nat} : bsum a z br pw.length t = bsum a x br pw.length t + c * bsum a y br pw.length t := by
  refine rsum_lin fun i hi => rsum_lin fun r hr => ?_
  have h1 := h i hi
  have h2 := h (i + 1 + r) (by have := s.rl i hi; omega)
  simp only [brc]
  rw [h1, h2]
  grind
theorem brk_units (s : Sh p pw br) (t : Tri p pw) {S : (Nat → Int) → Prop} (hS : Sub p pw S) {a b : List Int} (h : ∀ k, k < pw.length → S (fn (brkL p pw br a (unitL pw.length k)))) : S (fn (brkL p pw br a b)) := by
  have hu : ∀ k, k < pw.length → S (fun q => bsum a (unitL pw.length k) br pw.length q) := fun k hk => hS.cg (h k hk) (nf_fn t _).symm
  have go : ∀ k, k ≤ pw.length → S (fun q => bsum a (vec pw.length fun j => if j < k then b.getD j 0 else 0) br pw.length q) := by
    intro k
    induction k with
    | zero =>
      intro _
      refine hS.cg hS.zero (.of fun q _ => ?_)
      have := bsum_lin s (a := a) (x := []) (y := []) (z := vec pw.length fun j => if j < 0 then b.getD j 0 else 0) (c := -1) (fun j hj => by rw [vec_get hj]; simp) (t := q)
      rw [this]; omega
    | succ k ih =>
      intro hk
      refine hS.cg (hS.comb 1 (b.getD k 0) (ih (by omega)) (hu k (by omega))) (.of fun q _ => ?_)
      have := bsum_lin s (a := a) (x := vec pw.length fun j => if j < k then b.getD j 0 else 0) (y := unitL pw.length k) (z := vec pw.length fun j => if j < k + 1 then b.getD j 0 else 0) (c := b.getD k 0) (fun j hj => by
        rw [vec_get hj, vec_get hj, unitL, vec_get hj]
        by_cases e : j = k
        · subst e; simp
        · rw [if_neg e]
          by_cases e2 : j < k
          · rw [if_pos e2, if_pos (by omega)]; omega
          · rw [if_neg e2, if_neg (by omega)]; omega) (t := q)
      rw [this]; omega
  have hb := go pw.length (Nat.le_refl _)
  refine hS.cg hb (Cg.trans (nf_fn t _) (.of fun q _ => ?_))
  have := bsum_lin s (a := a) (x := b) (y := []) (z := vec pw.length fun j => if j < pw.length then b.getD j 0 else 0) (c := 0) (fun j hj => by rw [vec_get hj, if_pos hj]; simp) (t := q)
  rw [this]; omega

/-- One round. -/
noncomputable def cstep (p : Int) (pw : List (List Int)) (br : List (List (List Int))) (y u : List (List Int)) : List (List Int) := spanL p pw (u ++ brkLL p pw br u (u ++ y))
def CanU (p : Int) (pw : List (List Int)) (u : List (List Int)) : Prop := Can p pw (Sp p pw u) u
/-- What the rounds end in. -/
inductive Clos (p : Int) (pw : List (List Int)) (br : List (List (List Int))) (y : List (List Int)) : List (List Int) → List (List Int) → Prop
  | done (u : List (List Int)) (h : cstep p pw br y u = u) : Clos p pw br y u u
  | step (u r : List (List Int)) (h : cstep p pw br y u ≠ u) (hc : Clos p pw br y (cstep p pw br y u) r) : Clos p pw br y u r
theorem app_el {n : Nat} {u v : List (List Int)} (hu : ∀ b ∈ u, El p n b) (hv : ∀ b ∈ v, El p n b) : ∀ b ∈ u ++ v, El p n b := by
  intro b hb
  rcases List.mem_append.1 hb with hb | hb
  · exact hu b hb
  · exact hv b hb
theorem spanU (t : Tri p pw) (hp : pr4 p) {G : List (List Int)} (h : ∀ b ∈ G, El p pw.length b) : CanU p pw (spanL p pw G) := by
  unfold CanU
  rw [span_sp t hp h]; exact span_can t hp h
theorem cstep_can (s : Sh p pw br) (t : Tri p pw) (hp : pr4 p) {y u : List (List Int)} (hu : ∀ b ∈ u, El p pw.length b) : CanU p pw (cstep p pw br y u) := spanU t hp (app_el hu (brkLL_el s))
theorem cstep_grow (s : Sh p pw br) (t : Tri p pw) (hp : pr4 p) {y u : List (List Int)} (hu : CanU p pw u) : u.length ≤ (cstep p pw br y u).length ∧ ((cstep p pw br y u).length ≤ u.length → cstep p pw br y u = u) := by
  have hc := span_can t hp (app_el hu.el (brkLL_el s (u := u) (v := u ++ y)))
  have hm : ∀ f, Sp p pw u f → Sp p pw (u ++ brkLL p pw br u (u ++ y)) f := fun f hf => hf.mono fun b hb => by simp [hb]
  exact ⟨can_le hu hc hm, fun hl => can_same t (Sp.sub _) (Sp.sub _) hu hc hm hl⟩
theorem clos_ex (s : Sh p pw br) (t : Tri p pw) (hp : pr4 p) {y : List (List Int)} : ∀ (d : Nat) {u : List (List Int)}, CanU p pw u → pw.length - u.length ≤ d → ∃ r, Clos p pw br y u r ∧ CanU p pw r := by
  intro d
  induction d with
  | zero =>
    intro u hu hd
    have h1 := cstep_can s t hp (y := y) hu.el
    obtain ⟨h2, h3⟩ := cstep_grow s t hp (y := y) hu
    have := h1.toEch.len
    exact ⟨u, .done u (h3 (by omega)), hu⟩
  | succ d ih =>
    intro u hu hd
    obtain ⟨h2, h3⟩ := cstep_grow s t hp (y := y) hu
    by_cases e : cstep p pw br y u = u
    · exact ⟨u, .done u e, hu⟩
    · have hlt : u.length < (cstep p pw br y u).length := by
        rcases Nat.lt_or_ge u.length (cstep p pw br y u).length with h | h
        · exact h
        · exact absurd (h3 h) e
      obtain ⟨r, h4, h5⟩ := ih (cstep_can s t hp (y := y) hu.el) (by omega)
      exact ⟨r, .step u r e h4, h5⟩
theorem Clos.eq {y u r : List (List Int)} (h : Clos p pw br y u r) (he : cstep p pw br y u = u) : r = u := by
  cases h with
  | done => rfl
  | step _ _ h => exact absurd he h
theorem Clos.next {y u r : List (List Int)} (h : Clos p pw br y u r) (he : cstep p pw br y u ≠ u) : Clos p pw br y (cstep p pw br y u) r := by
  cases h with
  | done _ h => exact absurd h he
  | step _ _ _ h => exact h

/-! The reference's rounds. -/
theorem spanL_sp (t : Tri p pw) (hp : pr4 p) {G G' : List (List Int)} (h : ∀ b ∈ G, El p pw.length b) (h' : ∀ b ∈ G', El p pw.length b) (he : Sp p pw G = Sp p pw G') : spanL p pw G = spanL p pw G' := by
  have h1 := span_can t hp h
  rw [he] at h1
  exact can_uniq t (Sp.sub _) h1 (span_can t hp h')
theorem sp_app {u v v' : List (List Int)} (h : ∀ f, Sp p pw v f → Sp p pw (u ++ v') f) (h' : ∀ f, Sp p pw v' f → Sp p pw (u ++ v) f) : Sp p pw (u ++ v) = Sp p pw (u ++ v') := by
  refine Sp.eqv (fun b hb => ?_) (fun b hb => ?_)
  · rcases List.mem_append.1 hb with hb | hb
    · exact .gen (by simp [hb])
    · exact h _ (.gen hb)
  · rcases List.mem_append.1 hb with hb | hb
    · exact .gen (by simp [hb])
    · exact h' _ (.gen hb)
theorem ring_step (s : Sh p pw br) (t : Tri p pw) (hp : pr4 p) {u : List (List Int)} (hu : ∀ b ∈ u, El p pw.length b) : spanL p pw (u ++ spanL p pw (brkLL p pw br u u)) = cstep p pw br [] u := by
  unfold cstep
  rw [List.append_nil]
  have hb := brkLL_el s (u := u) (v := u)
  have he := span_sp t hp hb
  exact spanL_sp t hp (app_el hu (spanU t hp hb).el) (app_el hu hb) (sp_app (fun f hf => by rw [he] at hf; exact hf.mono fun b hb => by simp [hb]) (fun f hf => by rw [← he] at hf; exact hf.mono fun b hb => by simp [hb]))
theorem ideal_step (s : Sh p pw br) (t : Tri p pw) (hp : pr4 p) {u : List (List Int)} (hu : ∀ b ∈ u, El p pw.length b) : spanL p pw (u ++ spanL p pw (brkLL p pw br u (wholeL pw.length))) = cstep p pw br (wholeL pw.length) u := by
  unfold cstep
  have hb := brkLL_el s (u := u) (v := wholeL pw.length)
  have hb2 := brkLL_el s (u := u) (v := u ++ wholeL pw.length)
  have he := span_sp t hp hb
  have key : ∀ f, Sp p pw (brkLL p pw br u (u ++ wholeL pw.length)) f → Sp p pw (brkLL p pw br u (wholeL pw.length)) f := by
    intro f hf
    refine hf.le fun b hb => ?_
    obtain ⟨x, hx, h1⟩ := List.mem_flatMap.1 hb
    obtain ⟨z, hz, rfl⟩ := List.mem_map.1 h1
    refine brk_units s t (Sp.sub _) fun k hk => .gen ?_
    exact List.mem_flatMap.2 ⟨x, hx, List.mem_map.2 ⟨_, by rw [← whole_get hk]; exact ix_mem (by rw [whole_len]; exact hk), rfl⟩⟩
  have back : ∀ f, Sp p pw (brkLL p pw br u (wholeL pw.length)) f → Sp p pw (brkLL p pw br u (u ++ wholeL pw.length)) f := by
    intro f hf
    refine hf.mono fun b hb => ?_
    obtain ⟨x, hx, h1⟩ := List.mem_flatMap.1 hb
    obtain ⟨z, hz, rfl⟩ := List.mem_map.1 h1
    exact List.mem_flatMap.2 ⟨x, hx, List.mem_map.2 ⟨z, by simp [hz], rfl⟩⟩
  exact spanL_sp t hp (app_el hu (spanU t hp hb).el) (app_el hu hb2) (sp_app (fun f hf => by rw [he] at hf; exact (back f hf).mono fun b hb => by simp [hb]) (fun f hf => by
    have := key f hf
    rw [← he] at this; exact this.mono fun b hb => by simp [hb]))
end
end Go.Proofs.Ytgeoogndonghmaa

set_option linter.unusedVariables false
set_option linter.unusedSimpArgs false
namespace Go.Proofs.Ytgeoogndonghmaa

theorem Fz.rws {H : HP} {id n : Nat} {cs : List AV} {W : List (List Int)} (hc : H id = some cs) (he : cs = W.map Go.Proofs.Ytgeoogndonghmaa.ints) (hn : n = W.length) : Fz H (upd H id none) (.h id 0 n) (rows W) := by
  subst he hn
  exact Fz.blk hc (by simp)
theorem Sls.rws {H : HP} {nx : Nat} {u : List (List Int)} : Sls H nx (rows u) (u.map ints) := by
  refine ⟨fun z hz => ?_, .inl (by rw [List.length_map]; rfl)⟩
  obtain ⟨a, _, rfl⟩ := List.mem_map.1 hz
  rfl
theorem Sls.nl {H : HP} {nx : Nat} : Sls H nx .nl [] := ⟨by simp, .inr (.inl ⟨rfl, rfl⟩)⟩
theorem Sls.two {H : HP} {nx : Nat} {x y : AV} {xs ys : List AV} (hx : Sls H nx x xs) (hy : Sls H nx y ys) : ∀ i, i < [xs, ys].length → Sls H nx ([x, y].getD i .j) ([xs, ys].getD i []) := by
  intro i hi
  match i, hi with
  | 0, _ => exact hx
  | 1, _ => exact hy
theorem CatP.vw {nx nx' : Nat} {H H' : HP} {zs : List AV} {r : AV} {W : List (List Int)} (h : CatP nx H zs nx' H' r) (hl : zs.length = W.length) (hv : ∀ (k : Nat) (x y : AV), zs[k]? = some x → (W.map Go.Proofs.Ytgeoogndonghmaa.ints)[k]? = some y → Vw H' x y) : Vw H' r (rows W) := by
  obtain ⟨h1, h2, ⟨rfl, rfl⟩ | ⟨id, cs, h3, h4, rfl, h5, h6⟩⟩ := h
  · obtain rfl : W = [] := List.length_eq_zero_iff.1 hl.symm
    exact .nl
  · have hle : zs.length ≤ cs.length := by have := congrArg List.length h6; rw [List.length_take] at this; omega
    rw [hl] at *
    unfold rows
    refine .h id 0 W.length cs _ h5 (by omega) (by simp) fun k x y hx hy => ?_
    have hk : k < W.length := by
      have := (List.getElem?_eq_some_iff.1 hy).1
      simpa using this
    refine hv k x y ?_ hy
    rw [← h6, List.getElem?_take, if_pos hk, ← hx, Nat.zero_add]
theorem CatP.rws {nx nx' : Nat} {H H' : HP} {r : AV} {u v : List (List Int)} (h : CatP nx H [u.map Go.Proofs.Ytgeoogndonghmaa.ints, v.map Go.Proofs.Ytgeoogndonghmaa.ints].flatten nx' H' r) : Vw H' r (rows (u ++ v)) := by
  refine h.vw (by simp) fun k x y hx hy => ?_
  simp only [List.flatten_cons, List.flatten_nil, List.append_nil, List.map_append] at hx hy
  rw [hx] at hy; cases hy; exact .refl _

theorem one_map {u : List (List Int)} : (∀ z ∈ u.map ints, one z = true) = True := eq_true fun z hz => by
  obtain ⟨a, _, rfl⟩ := List.mem_map.1 hz; rfl

theorem spec_l32Grown_ok (p : Int) (pw : List (List Int)) (br : List (List (List Int))) (ht : Tri p pw) (hp : pr4 p) (u v : List (List Int)) (hu : u.length ≤ 1000) (hv : v.length ≤ 1000) (hue : ∀ b ∈ u, El p pw.length b) (hve : ∀ b ∈ v, El p pw.length b) : ACp Try.prog 62 [ring p pw br, rows u, rows v] (rows (spanL p pw (u ++ v))) := by
  refine ACp.intro' envOk Try.func62 rfl (by kernel_rfl) Try.ntmps62 Try.results62 (rows_nr _) (fun nx => ?_)
  refine AW.seq (fun N hN => ?_)
  refine AW.regionL envOk ?_
  simp (dsimp := false) (implicitDefEqProofs := false) (disch := omega) only [go_sem, Nat.reduceAdd, Nat.reduceSub, Nat.reduceGT, Nat.reduceEqDiff, Nat.reduceMul, ringP, ring, rows, w64, one_map]
  refine hN _ ?_
  try clear hN
  try clear N
  refine AW.freezeQ 3 nx _ rfl (upd_same _ _ _) ?_
  simp (dsimp := false) (implicitDefEqProofs := false) (disch := omega) only [go_sem, Nat.reduceAdd, Nat.reduceSub, Nat.reduceGT, Nat.reduceEqDiff, Nat.reduceMul]
  refine AW.seq (fun N hN => ?_)
  refine AW.drawF envOk (by kernel_rfl) [true, false, true, false, true, false, false, false] (by kernel_rfl) ?_
  simp (dsimp := false) (implicitDefEqProofs := false) (disch := omega) only [go_sem, Nat.reduceAdd, Nat.reduceSub, Nat.reduceGT, Nat.reduceEqDiff, Nat.reduceMul, ringP, ring, rows, w64, one_map]
  refine AC.fz (ts := [ring p pw br, rows (u ++ v)]) FzH.del ⟨.refl _, Fz.rws (upd_same _ _ _) (by simp [tk_map]) (by simp), trivial⟩ (AC.pure (.of (spec_l32Span_ok p pw br ht hp (u ++ v) (by simp; omega) (fun k hk => app_el hue hve _ (ix_mem hk)))) ?_)
  try simp (dsimp := false) (implicitDefEqProofs := false) (disch := omega) only [go_sem, Nat.reduceAdd, Nat.reduceSub, Nat.reduceGT, Nat.reduceEqDiff, Nat.reduceMul, ringP, ring, rows, w64, one_map]
  refine hN _ ?_
  try clear hN
  try clear N
  refine AW.ret ?_
  simp (dsimp := false) (implicitDefEqProofs := false) (disch := omega) only [go_sem, Nat.reduceAdd, Nat.reduceSub, Nat.reduceGT, Nat.reduceEqDiff, Nat.reduceMul]
  rfl

theorem spec_SumLie_ok (p : Int) (pw : List (List Int)) (br : List (List (List Int))) (hl : ringlen pw br) (u v : List (List Int)) (hu : rowslen u) (hv : rowslen v) : ACp Try.prog 17 [ring p pw br, rows u, rows v] (resRR (orRR (tf (SpnP p pw br u ∧ SpnP p pw br v)) (spanL p pw (u ++ v), 0))) := by
  have hln := hl.n
  refine ACp.introR envOk Try.func17 rfl (by kernel_rfl) Try.ntmps17 Try.results17 (resRR_nr _) (fun nx => ?_)
  refine AW.seq (fun N hN => ?_)
  refine AW.regionL envOk ?_
  simp (dsimp := false) (implicitDefEqProofs := false) (disch := omega) only [go_sem, Nat.reduceAdd, Nat.reduceSub, Nat.reduceGT, Nat.reduceEqDiff, Nat.reduceMul, ring, w64]
  refine hN _ ?_
  try clear hN
  try clear N
  refine AW.seq (fun N1 hN1 => ?_)
  refine AW.seq (fun N hN => ?_)
  refine AW.regionL envOk ?_
  simp (dsimp := false) (implicitDefEqProofs := false) (disch := omega) only [go_sem, Nat.reduceAdd, Nat.reduceSub, Nat.reduceGT, Nat.reduceEqDiff, Nat.reduceMul, ring, w64]
  refine AC.pure (.of (spec_IsLieSpan_ok p pw br hl u hu)) ?_
  try simp (dsimp := false) (implicitDefEqProofs := false) (disch := omega) only [go_sem, Nat.reduceAdd, Nat.reduceSub, Nat.reduceGT, Nat.reduceEqDiff, Nat.reduceMul, ring, w64]
  refine gopB.mk' (fun h1 => ?_) (fun h1 => ?_)
  · try simp only [decide_eq_true_eq, decide_eq_false_iff_not, bne_iff_ne, bne_eq_false_iff_eq, beq_iff_eq, beq_eq_false_iff_ne, Bool.not_eq_true', Bool.not_eq_false', Bool.not_eq_true, Bool.not_false, Bool.not_true, ge_iff_le, gt_iff_lt, ne_eq, Int.not_lt, Int.not_le, tf_iff, tf_iff'] at h1
    try simp (dsimp := false) (implicitDefEqProofs := false) (disch := omega) only [go_sem, Nat.reduceAdd, Nat.reduceSub, Nat.reduceGT, Nat.reduceEqDiff, Nat.reduceMul, ring, w64]
    refine AC.pure (.of (spec_IsLieSpan_ok p pw br hl v hv)) ?_
    try simp (dsimp := false) (implicitDefEqProofs := false) (disch := omega) only [go_sem, Nat.reduceAdd, Nat.reduceSub, Nat.reduceGT, Nat.reduceEqDiff, Nat.reduceMul, ring, w64]
    refine hN _ ?_
    try clear hN
    try clear N
    refine AW.cond rfl (fun h2 => ?_) (fun h2 => ?_)
    · try simp only [decide_eq_true_eq, decide_eq_false_iff_not, bne_iff_ne, bne_eq_false_iff_eq, beq_iff_eq, beq_eq_false_iff_ne, Bool.not_eq_true', Bool.not_eq_false', Bool.not_eq_true, Bool.not_false, Bool.not_true, ge_iff_le, gt_iff_lt, ne_eq, Int.not_lt, Int.not_le, tf_iff, tf_iff'] at h2
      refine AW.seq (fun N hN => ?_)
      refine AW.regionL envOk ?_
      simp (dsimp := false) (implicitDefEqProofs := false) (disch := omega) only [go_sem, Nat.reduceAdd, Nat.reduceSub, Nat.reduceGT, Nat.reduceEqDiff, Nat.reduceMul, ring, w64]
      refine hN _ ?_
      try clear hN
      try clear N
      refine AW.ret ?_
      simp (dsimp := false) (implicitDefEqProofs := false) (disch := omega) only [go_sem, Nat.reduceAdd, Nat.reduceSub, Nat.reduceGT, Nat.reduceEqDiff, Nat.reduceMul]
      first| rw [tf_f (show ¬(SpnP p pw br u ∧ SpnP p pw br v) from fun h => h2 h.2)]| rw [tf_f h2]
      exact resRR_nl
    · try simp only [decide_eq_true_eq, decide_eq_false_iff_not, bne_iff_ne, bne_eq_false_iff_eq, beq_iff_eq, beq_eq_false_iff_ne, Bool.not_eq_true', Bool.not_eq_false', Bool.not_eq_true, Bool.not_false, Bool.not_true, ge_iff_le, gt_iff_lt, ne_eq, Int.not_lt, Int.not_le, tf_iff, tf_iff'] at h2
      have ht := h1.1.1.tri
      have h6 := ht.n6
      have hu6 := h1.2.1
      have hv6 := h2.2.1
      refine AW.skip ?_
      simp only [thn, blk]
      refine hN1 _ ?_
      try clear hN1
      try clear N1
      refine AW.seq (fun N hN => ?_)
      refine AW.regionL envOk ?_
      simp (dsimp := false) (implicitDefEqProofs := false) (disch := omega) only [go_sem, Nat.reduceAdd, Nat.reduceSub, Nat.reduceGT, Nat.reduceEqDiff, Nat.reduceMul, ring, w64]
      refine AC.pure (.of (spec_l32Grown_ok p pw br ht h1.1.1.1 u v (by omega) (by omega) h1.2.2.1.mem h2.2.2.1.mem)) ?_
      try simp (dsimp := false) (implicitDefEqProofs := false) (disch := omega) only [go_sem, Nat.reduceAdd, Nat.reduceSub, Nat.reduceGT, Nat.reduceEqDiff, Nat.reduceMul, ring, w64]
      refine hN _ ?_
      try clear hN
      try clear N
      refine AW.ret ?_
      simp (dsimp := false) (implicitDefEqProofs := false) (disch := omega) only [go_sem, Nat.reduceAdd, Nat.reduceSub, Nat.reduceGT, Nat.reduceEqDiff, Nat.reduceMul]
      first| rw [tf_t (show SpnP p pw br u ∧ SpnP p pw br v from ⟨h1, h2⟩)]| rw [tf_t h2]
      exact .refl _
  · try simp only [decide_eq_true_eq, decide_eq_false_iff_not, bne_iff_ne, bne_eq_false_iff_eq, beq_iff_eq, beq_eq_false_iff_ne, Bool.not_eq_true', Bool.not_eq_false', Bool.not_eq_true, Bool.not_false, Bool.not_true, ge_iff_le, gt_iff_lt, ne_eq, Int.not_lt, Int.not_le, tf_iff, tf_iff'] at h1
    try simp (dsimp := false) (implicitDefEqProofs := false) (disch := omega) only [go_sem, Nat.reduceAdd, Nat.reduceSub, Nat.reduceGT, Nat.reduceEqDiff, Nat.reduceMul, ring, w64]
    refine hN _ ?_
    try clear hN
    try clear N
    refine AW.condT rfl ?_
    refine AW.seq (fun N hN => ?_)
    refine AW.regionL envOk ?_
    simp (dsimp := false) (implicitDefEqProofs := false) (disch := omega) only [go_sem, Nat.reduceAdd, Nat.reduceSub, Nat.reduceGT, Nat.reduceEqDiff, Nat.reduceMul, ring, w64]
    refine hN _ ?_
    try clear hN
    try clear N
    refine AW.ret ?_
    simp (dsimp := false) (implicitDefEqProofs := false) (disch := omega) only [go_sem, Nat.reduceAdd, Nat.reduceSub, Nat.reduceGT, Nat.reduceEqDiff, Nat.reduceMul]
    rw [tf_f (show ¬(SpnP p pw br u ∧ SpnP p pw br v) from fun h => h1 h.1)]
    exact resRR_nl

theorem impl_SumLie_ok (p : Int) (pw : List (List Int)) (br : List (List (List Int))) (hl : ringlen pw br) (u v : List (List Int)) (hu : rowslen u) (hv : rowslen v) : ACo Try.prog 20 [ring p pw br, rows u, rows v] (resRR (orRR (tf (SpnP p pw br u ∧ SpnP p pw br v)) (spanL p pw (u ++ v), 0))) := by
  have hln := hl.n
  intro nx
  refine AC.intro' envOk Try.func20 rfl (by kernel_rfl) Try.ntmps20 Try.results20 ?_
  refine AW.seq (fun N hN => ?_)
  refine AW.regionL envOk ?_
  simp (dsimp := false) (implicitDefEqProofs := false) (disch := omega) only [go_sem, Nat.reduceAdd, Nat.reduceSub, Nat.reduceGT, Nat.reduceEqDiff, Nat.reduceMul, ring]
  refine hN _ ?_
  try clear hN
  try clear N
  refine AW.freezeQ 3 nx _ rfl (upd_same _ _ _) ?_
  simp (dsimp := false) (implicitDefEqProofs := false) (disch := omega) only [go_sem, Nat.reduceAdd, Nat.reduceSub, Nat.reduceGT, Nat.reduceEqDiff, Nat.reduceMul]
  refine AW.seq (fun N1 hN1 => ?_)
  refine AW.seq (fun N hN => ?_)
  refine AW.regionL envOk ?_
  simp (dsimp := false) (implicitDefEqProofs := false) (disch := omega) only [go_sem, Nat.reduceAdd, Nat.reduceSub, Nat.reduceGT, Nat.reduceEqDiff, Nat.reduceMul, ring]
  refine AC.pure (.lent (impl_areLieSpans_ok p pw br hl [u, v] (.two hu hv)) (.cons (.refl _) (.cons (Vw.cb rfl (upd_same _ _ _)) .nil)) (.b _)) ?_
  try simp (dsimp := false) (implicitDefEqProofs := false) (disch := omega) only [go_sem, Nat.reduceAdd, Nat.reduceSub, Nat.reduceGT, Nat.reduceEqDiff, Nat.reduceMul, ring]
  refine hN _ ?_
  try clear hN
  try clear N
  refine AW.cond rfl (fun h1 => ?_) (fun h1 => ?_)
  · try simp only [decide_eq_true_eq, decide_eq_false_iff_not, bne_iff_ne, bne_eq_false_iff_eq, beq_iff_eq, beq_eq_false_iff_ne, Bool.not_eq_true', Bool.not_eq_false', Bool.not_eq_true, Bool.not_false, Bool.not_true, ge_iff_le, gt_iff_lt, ne_eq, Int.not_lt, Int.not_le, tf_iff, tf_iff'] at h1
    refine AW.seq (fun N hN => ?_)
    refine AW.regionL envOk ?_
    simp (dsimp := false) (implicitDefEqProofs := false) (disch := omega) only [go_sem, Nat.reduceAdd, Nat.reduceSub, Nat.reduceGT, Nat.reduceEqDiff, Nat.reduceMul, ring]
    refine hN _ ?_
    try clear hN
    try clear N
    refine AW.ret ?_
    simp (dsimp := false) (implicitDefEqProofs := false) (disch := omega) only [go_sem, Nat.reduceAdd, Nat.reduceSub, Nat.reduceGT, Nat.reduceEqDiff, Nat.reduceMul]
    rw [tf_f (fun h => h1 (spansP.two.2 h))]
    exact Own.nilRR
  · try simp only [decide_eq_true_eq, decide_eq_false_iff_not, bne_iff_ne, bne_eq_false_iff_eq, beq_iff_eq, beq_eq_false_iff_ne, Bool.not_eq_true', Bool.not_eq_false', Bool.not_eq_true, Bool.not_false, Bool.not_true, ge_iff_le, gt_iff_lt, ne_eq, Int.not_lt, Int.not_le, tf_iff, tf_iff'] at h1
    obtain ⟨hs, hsv⟩ := spansP.two.1 h1
    have ht := hs.1.1.tri
    have h6 := ht.n6
    have hu6 := hs.2.1
    have hv6 := hsv.2.1
    refine AW.skip ?_
    simp only [thn, blk]
    refine hN1 _ ?_
    try clear hN1
    try clear N1
    refine AW.seq (fun N hN => ?_)
    refine AW.regionL envOk ?_
    simp (dsimp := false) (implicitDefEqProofs := false) (disch := omega) only [go_sem, Nat.reduceAdd, Nat.reduceSub, Nat.reduceGT, Nat.reduceEqDiff, Nat.reduceMul, ring]
    refine (slices_Concat_rows [rows u, rows v] [u.map ints, v.map ints] rfl (by simp) _ _ _ (upd_same _ _ _) (by omega) (.two .rws .rws) (by simp; omega)).mono ?_
    intro nx1 H1 c1 hcat
    try simp (dsimp := false) (implicitDefEqProofs := false) (disch := omega) only [go_sem, Nat.reduceAdd, Nat.reduceSub, Nat.reduceGT, Nat.reduceEqDiff, Nat.reduceMul, ring]
    refine AC.own (impl_lieSpan_ok p pw br ht hs.1.1.1 (u ++ v) (by simp; omega) (fun k hk => app_el hs.2.2.1.mem hsv.2.2.1.mem _ (ix_mem hk))) (.cons (.refl _) (.cons hcat.rws .nil)) ?_
    intro m1 H3 r3 ids hm1 hH1 hown1
    try simp (dsimp := false) (implicitDefEqProofs := false) (disch := omega) only [go_sem, Nat.reduceAdd, Nat.reduceSub, Nat.reduceGT, Nat.reduceEqDiff, Nat.reduceMul, ring]
    refine hN _ ?_
    try clear hN
    try clear N
    refine AW.ret ?_
    simp (dsimp := false) (implicitDefEqProofs := false) (disch := omega) only [go_sem, Nat.reduceAdd, Nat.reduceSub, Nat.reduceGT, Nat.reduceEqDiff, Nat.reduceMul]
    first| rw [tf_t (show SpnP p pw br u ∧ SpnP p pw br v from ⟨hs, hsv⟩)]| rw [tf_t hsv]
    exact (hown1.keep (fun _ _ _ => rfl) (by have := hcat.1; omega) (by omega)).pair

end Go.Proofs.Ytgeoogndonghmaa

