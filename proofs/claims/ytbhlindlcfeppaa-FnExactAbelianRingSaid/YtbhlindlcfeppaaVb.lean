/-
  slices.Grow and slices.Concat of lists of numbers; impl.padded.
  Plain law: rings whose lists are filled one by one; the direct sum of two rings.
-/
import Derived.Test.YtbhlindlcfeppaaSy
import Derived.Test.YtbhlindlcfeppaaAvR
import Derived.Test.YtbhlindlcfeppaaPb
import Derived.Test.YtbhlindlcfeppaaTz
set_option linter.unusedVariables false
set_option linter.unusedSimpArgs false
namespace Go.Proofs.Ytbhlindlcfeppaa
open Nat (reduceAdd reduceSub reduceGT reduceEqDiff reduceMul)

/-- A slice whose cells are known, whatever it is. -/
def Sls (H : HP) (nx : Nat) (x : AV) (xs : List AV) : Prop := (∀ z ∈ xs, one z = true) ∧ (x = .v xs.length xs ∨ (x = .nl ∧ xs = []) ∨ ∃ i, i < nx ∧ x = .h i 0 xs.length ∧ H i = some xs)

theorem rep_ne {n : Nat} {z : AV} (h : 0 < n) : (List.replicate n z = []) = False := by
  cases n with
  | zero => omega
  | succ n => simp [List.replicate_succ]

theorem slices_Grow_ints_zero (nx : Nat) (H : HP) : AC Try.prog 171 nx H [.nl, .i .i64 (0 : Nat)] (fun nx' H' r => nx ≤ nx' ∧ H' = H ∧ r = .nl) := by
 refine AC.introx envOk Try.func171 rfl (by kernel_rfl) Try.ntmps171 Try.results171 (fun hfr => ?_)
 refine AW.sr envOk (fun N hN => ?_)
 simp -dsimp -implicitDefEqProofs (disch := omega) only [go_sem, reduceAdd, reduceSub, reduceGT, reduceEqDiff, reduceMul, w64]
 refine hN _ ?_
 try clear hN N
 refine AW.seq (fun N1 hN1 => ?_)
 refine AW.sr envOk (fun N hN => ?_)
 simp -dsimp -implicitDefEqProofs (disch := omega) only [go_sem, reduceAdd, reduceSub, reduceGT, reduceEqDiff, reduceMul, w64]
 refine hN _ ?_
 try clear hN N
 refine AW.cond rfl (fun h1 => ?_) (fun h1 => ?_)
 ·try simp only [cn] at h1
  exfalso; omega
 ·try simp only [cn] at h1
  refine AW.skip ?_
  simp only [thn, blk]
  refine hN1 _ ?_
  try clear hN1 N1
  refine AW.seq (fun N2 hN2 => ?_)
  refine AW.sr envOk (fun N hN => ?_)
  simp -dsimp -implicitDefEqProofs (disch := omega) only [go_sem, reduceAdd, reduceSub, reduceGT, reduceEqDiff, reduceMul, w64]
  refine hN _ ?_
  try clear hN N
  refine AW.sr envOk (fun N hN => ?_)
  simp -dsimp -implicitDefEqProofs (disch := omega) only [go_sem, reduceAdd, reduceSub, reduceGT, reduceEqDiff, reduceMul, w64]
  refine hN _ ?_
  try clear hN N
  refine AW.cond rfl (fun h2 => ?_) (fun h2 => ?_)
  ·try simp only [cn] at h2
   exfalso; omega
  ·try simp only [cn] at h2
   refine AW.skip ?_
   simp only [thn, blk]
   refine hN2 _ ?_
   try clear hN2 N2
   refine AW.sr envOk (fun N hN => ?_)
   simp -dsimp -implicitDefEqProofs (disch := omega) only [go_sem, reduceAdd, reduceSub, reduceGT, reduceEqDiff, reduceMul, w64]
   refine hN _ ?_
   try clear hN N
   refine AW.ret ?_
   simp -dsimp -implicitDefEqProofs (disch := omega) only [go_sem, reduceAdd, reduceSub, reduceGT, reduceEqDiff, reduceMul]
   exact ⟨H, Le.refl _, rfl⟩

theorem slices_Grow_ints_pos (n : Nat) (h0 : 0 < n) (hn : n ≤ 4000000) (nx : Nat) (H : HP) : AC Try.prog 171 nx H [.nl, .i .i64 n] (fun nx' H' r => nx ≤ nx' ∧ (∀ i, i < nx → H' i = H i) ∧ ∃ id cs, nx ≤ id ∧ id < nx' ∧ r = .h id 0 0 ∧ H' id = some cs) := by
 refine AC.introx envOk Try.func171 rfl (by kernel_rfl) Try.ntmps171 Try.results171 (fun hfr => ?_)
 refine AW.sr envOk (fun N hN => ?_)
 simp -dsimp -implicitDefEqProofs (disch := omega) only [go_sem, reduceAdd, reduceSub, reduceGT, reduceEqDiff, reduceMul, w64, rep_ne]
 refine hN _ ?_
 try clear hN N
 refine AW.seq (fun N1 hN1 => ?_)
 refine AW.sr envOk (fun N hN => ?_)
 simp -dsimp -implicitDefEqProofs (disch := omega) only [go_sem, reduceAdd, reduceSub, reduceGT, reduceEqDiff, reduceMul, w64, rep_ne]
 refine hN _ ?_
 try clear hN N
 refine AW.cond rfl (fun h1 => ?_) (fun h1 => ?_)
 ·try simp only [cn] at h1
  exfalso; omega
 ·try simp only [cn] at h1
  refine AW.skip ?_
  simp only [thn, blk]
  refine hN1 _ ?_
  try clear hN1 N1
  refine AW.seq (fun N2 hN2 => ?_)
  refine AW.sr envOk (fun N hN => ?_)
  simp -dsimp -implicitDefEqProofs (disch := omega) only [go_sem, reduceAdd, reduceSub, reduceGT, reduceEqDiff, reduceMul, w64, rep_ne]
  refine hN _ ?_
  try clear hN N
  refine AW.sr envOk (fun N hN => ?_)
  simp -dsimp -implicitDefEqProofs (disch := omega) only [go_sem, reduceAdd, reduceSub, reduceGT, reduceEqDiff, reduceMul, w64, rep_ne]
  refine hN _ ?_
  try clear hN N
  refine AW.cond rfl (fun h2 => ?_) (fun h2 => ?_)
  ·try simp only [cn] at h2
   refine AW.regionL envOk ?_
   simp -dsimp -implicitDefEqProofs (disch := omega) only [go_sem, reduceAdd, reduceSub, reduceGT, reduceEqDiff, reduceMul, w64, rep_ne]
   refine hN2 _ ?_
   try clear hN2 N2
   refine AW.sr envOk (fun N hN => ?_)
   simp -dsimp -implicitDefEqProofs (disch := omega) only [go_sem, reduceAdd, reduceSub, reduceGT, reduceEqDiff, reduceMul, w64, rep_ne]
   refine hN _ ?_
   try clear hN N
   refine AW.ret ?_
   simp -dsimp -implicitDefEqProofs (disch := omega) only [go_sem, reduceAdd, reduceSub, reduceGT, reduceEqDiff, reduceMul]
   exact ⟨_, Le.refl _, fun i hi => upd_ne _ _ (by omega), _, _, by omega, by omega, rfl, upd_same _ _ _⟩
  ·try simp only [cn] at h2
   exfalso; omega


/-- What a concatenation yields. -/
def CatP (nx : Nat) (H : HP) (zs : List AV) (nx' : Nat) (H' : HP) (r : AV) : Prop := nx ≤ nx' ∧ (∀ i, i < nx → H' i = H i) ∧
  ((zs = [] ∧ r = .nl) ∨ ∃ id, nx ≤ id ∧ id < nx' ∧ r = .h id 0 zs.length ∧ H' id = some zs)
theorem Le.cat {nx idg : Nat} {H H1 : HP} {cs : List AV} (hfr : ∀ i, nx ≤ i → H i = none) (h : ∀ i, i < nx → H1 i = H i) (hg : H1 idg = some cs) (hn : nx ≤ idg) : Le (upd H idg (some cs)) H1 := by
  intro i d hi
  by_cases e : i = idg
  · subst e; rw [upd_same] at hi; rw [hg]; exact hi
  · rw [upd_ne _ _ e] at hi
    rcases Nat.lt_or_ge i nx with hlt | hlt
    · rw [h i hlt]; exact hi
    · rw [hfr i hlt] at hi; cases hi
theorem Le.cat2 {nx id id2 : Nat} {H : HP} {d : Option (List AV)} (hfr : ∀ i, nx ≤ i → H i = none) (h : nx ≤ id) : Le (upd H id2 d) (upd (upd H id none) id2 d) := by
  rw [upd_none H (hfr id h)]; exact Le.refl _
/-- The first k lists, one behind the other. -/
def fl (xss : List (List AV)) (k : Nat) : List AV := (xss.take k).flatten
theorem fl_z {xss : List (List AV)} : fl xss 0 = [] := by simp [fl]
theorem fl_all {xss : List (List AV)} : fl xss xss.length = xss.flatten := by rw [fl, List.take_length]
theorem fl_s {xss : List (List AV)} {i : Nat} (h : i < xss.length) : fl xss (i + 1) = fl xss i ++ xss.getD i [] := by
  unfold fl
  rw [List.take_add_one, List.flatten_append]
  congr 1
  simp [h]
theorem fl_len {xss : List (List AV)} {i : Nat} (h : i < xss.length) : (fl xss (i + 1)).length = (fl xss i).length + (xss.getD i []).length := by rw [fl_s h, List.length_append]
theorem fl_le {xss : List (List AV)} {i : Nat} (h : i < xss.length) : (fl xss i).length + (xss.getD i []).length ≤ xss.flatten.length := by
  have h1 : xss.flatten = fl xss (i + 1) ++ (xss.drop (i + 1)).flatten := by unfold fl; rw [← List.flatten_append, List.take_append_drop]
  rw [h1, List.length_append, fl_len h]; omega
theorem fl_zl {xss : List (List AV)} : (fl xss 0).length = 0 := by simp [fl]

theorem slices_Concat_ints_pos (zs : List AV) (xss : List (List AV)) (hz : zs.length = xss.length) (hl : zs.length ≤ 1000) (idl nx : Nat) (H : HP) (hH : H idl = some zs) (hid : idl < nx) (hs : ∀ i, i < xss.length → Sls H nx (zs.getD i .j) (xss.getD i [])) (h0 : 0 < xss.flatten.length) (hn : xss.flatten.length ≤ 4000000) :
 AC Try.prog 145 nx H [.h idl 0 zs.length] (CatP nx H xss.flatten) := by
 have hfz := fl_zl (xss := xss)
 refine AC.introx envOk Try.func145 rfl (by kernel_rfl) Try.ntmps145 Try.results145 (fun hfr => ?_)
 refine AW.sr envOk (fun N hN => ?_)
 simp -dsimp -implicitDefEqProofs (disch := omega) only [go_sem, reduceAdd, reduceSub, reduceGT, reduceEqDiff, reduceMul, w64, hH]
 refine hN _ ?_
 try clear hN N
 refine AW.sr envOk (fun N hN => ?_)
 simp -dsimp -implicitDefEqProofs (disch := omega) only [go_sem, reduceAdd, reduceSub, reduceGT, reduceEqDiff, reduceMul, w64, hH]
 refine hN _ ?_
 try clear hN N
 refine AW.seq (fun N1 hN1 => ?_)
 refine AW.sr envOk (fun N hN => ?_)
 simp -dsimp -implicitDefEqProofs (disch := omega) only [go_sem, reduceAdd, reduceSub, reduceGT, reduceEqDiff, reduceMul, w64, hH]
 refine hN _ ?_
 try clear hN N
 refine AW.block ?_
 refine AW.loopN (α := Nat) (fun x => sl 36 [(0, .h idl 0 zs.length), (3, .i .i64 (fl xss x).length), (9, .h idl 0 zs.length), (10, .i .i64 zs.length), (11, .i .i64 x)]) (fun _ => H) (fun x m => x ≤ xss.length ∧ nx ≤ m) (fun x => xss.length - x) (0) ?_ ?_ (fun _ _ h => h) ?_
 ·exact ⟨by omega, by first| omega| (simp only; omega)| (dsimp only; omega)⟩
 ·simp (disch := omega) [wks, wkA, sl, w64, ints, rows, cubes, w64, hH] <;> omega
 ·skip
  rintro k m ⟨hk, hm⟩
  simp -dsimp -implicitDefEqProofs (disch := omega) only [go_sem, reduceAdd, reduceSub, reduceGT, reduceEqDiff, reduceMul]
  refine AW.sr envOk (fun N hN => ?_)
  simp -dsimp -implicitDefEqProofs (disch := omega) only [go_sem, reduceAdd, reduceSub, reduceGT, reduceEqDiff, reduceMul, w64, hH]
  refine hN _ ?_
  try clear hN N
  refine AW.seq (fun N2 hN2 => ?_)
  refine AW.cond rfl (fun h1 => ?_) (fun h1 => ?_)
  ·try simp only [cn] at h1
   have hkl : k < xss.length := by omega
   have hfl := fl_le hkl
   have hfn := fl_len hkl
   have hsk := hs k hkl
   generalize xss.getD k [] = y at hsk hfl hfn
   rcases hsk.2 with hx | ⟨hx, hxe⟩ | ⟨i, hi, hx, hxi⟩
   case' inr.inl => (subst hxe; simp only [List.length_nil] at hfl hfn)
   all_goals
    refine AW.skip ?_
    simp only [thn, blk]
    refine hN2 _ ?_
    try clear hN2 N2
    refine AW.seq (fun N3 hN3 => ?_)
    refine AW.block ?_
    refine AW.sr envOk (fun N hN => ?_)
    simp -dsimp -implicitDefEqProofs (disch := omega) only [go_sem, reduceAdd, reduceSub, reduceGT, reduceEqDiff, reduceMul, w64, hH, hx]
    refine hN _ ?_
    try clear hN N
    refine AW.sr envOk (fun N hN => ?_)
    simp -dsimp -implicitDefEqProofs (disch := omega) only [go_sem, reduceAdd, reduceSub, reduceGT, reduceEqDiff, reduceMul, w64, hH, hx]
    refine hN _ ?_
    try clear hN N
    refine AW.sr envOk (fun N hN => ?_)
    simp -dsimp -implicitDefEqProofs (disch := omega) only [go_sem, reduceAdd, reduceSub, reduceGT, reduceEqDiff, reduceMul, w64, hH]
    refine hN _ ?_
    try clear hN N
    refine AW.cond rfl (fun h2 => ?_) (fun h2 => ?_)
    ·try simp only [cn] at h2
     exfalso; omega
    ·try simp only [cn] at h2
     refine AW.skip ?_
     simp only [thn, blk]
     refine hN3 _ ?_
     try clear hN3 N3
     refine AW.regionL envOk ?_
     simp -dsimp -implicitDefEqProofs (disch := omega) only [go_sem, reduceAdd, reduceSub, reduceGT, reduceEqDiff, reduceMul, w64, hH]
     refine ⟨k + 1, ?_, fun _ _ h => h, ?_, ?_⟩
     ·simp (disch := omega) [wks, wkA, sl, w64, ints, rows, cubes, w64, hH] <;> omega
     ·exact ⟨by omega, by first| omega| (simp only; omega)| (dsimp only; omega)⟩
     ·first | omega | (simp only; omega)
  ·try simp only [cn] at h1
   have hk' : k = xss.length := by omega
   subst hk'
   rw [fl_all]
   refine AW.exit ?_
   simp only [thn, blk, if_true]
   refine hN1 _ ?_
   try clear hN1 N1
   refine AW.sr envOk (fun N hN => ?_)
   simp -dsimp -implicitDefEqProofs (disch := omega) only [go_sem, reduceAdd, reduceSub, reduceGT, reduceEqDiff, reduceMul, w64, hH]
   refine (slices_Grow_ints_pos _ h0 hn _ _).mono ?_
   rintro nx1 H1 r ⟨hx1, hHH, idg, csg, hg1, hg2, rfl, hg3⟩
   refine hN _ ?_
   try clear hN N
   refine AW.seq (fun N4 hN4 => ?_)
   refine AW.sr envOk (fun N hN => ?_)
   simp -dsimp -implicitDefEqProofs (disch := omega) only [go_sem, reduceAdd, reduceSub, reduceGT, reduceEqDiff, reduceMul, w64, hH]
   refine hN _ ?_
   try clear hN N
   refine AW.block ?_
   refine AW.loopN (α := Nat × Nat × List AV) (fun x => sl 36 [(6, .h x.2.1 0 (fl xss x.1).length), (25, .h idl 0 zs.length), (26, .i .i64 zs.length), (27, .i .i64 x.1)]) (fun x => upd H x.2.1 (some x.2.2)) (fun x m => (x.1 ≤ xss.length ∧ nx ≤ x.2.1 ∧ x.2.1 < m) ∧ x.2.2.take (fl xss x.1).length = fl xss x.1 ∧ (0 < x.1 → x.2.2 = fl xss x.1)) (fun x => xss.length - x.1) ((0, idg, csg)) ?_ ?_ (Le.cat (fun i hi => hfr i (by omega)) hHH hg3 (by first| omega| (simp only; omega)| (dsimp only; omega))) ?_
   ·exact ⟨⟨by simp, by first| omega| (simp only; omega)| (dsimp only; omega), by first| omega| (simp only; omega)| (dsimp only; omega)⟩, by simp [fl_z], fun h => absurd h (by simp)⟩
   ·simp (disch := omega) [wks, wkA, sl, w64, ints, rows, cubes, w64, hH] <;> omega
   ·skip
    rintro ⟨q, id, cs⟩ m2 ⟨⟨hq, hid2, hm2⟩, htk, hex⟩
    dsimp only at hq hid2 hm2 htk hex
    simp -dsimp -implicitDefEqProofs (disch := omega) only [go_sem, reduceAdd, reduceSub, reduceGT, reduceEqDiff, reduceMul]
    refine AW.sr envOk (fun N hN => ?_)
    simp -dsimp -implicitDefEqProofs (disch := omega) only [go_sem, reduceAdd, reduceSub, reduceGT, reduceEqDiff, reduceMul, w64, hH]
    refine hN _ ?_
    try clear hN N
    refine AW.seq (fun N5 hN5 => ?_)
    refine AW.cond rfl (fun h3 => ?_) (fun h3 => ?_)
    ·try simp only [cn] at h3
     have hql : q < xss.length := by omega
     have hsq := hs q hql
     have hfs := fl_s hql
     have hcl : (fl xss q).length ≤ cs.length := by have := congrArg List.length htk; rw [List.length_take] at this; omega
     have hfl := fl_le hql
     have hfn := fl_len hql
     generalize xss.getD q [] = y at hsq hfl hfn hfs
     have hone := eq_true hsq.1
     have hxi := hH
     rcases hsq.2 with hx | ⟨hx, hxe⟩ | ⟨i, hi, hx, hxi⟩
     case' inr.inl => (subst hxe; simp only [List.length_nil] at hfl hfn)
     all_goals
      refine AW.skip ?_
      simp only [thn, blk]
      refine hN5 _ ?_
      try clear hN5 N5
      refine AW.seq (fun N6 hN6 => ?_)
      refine AW.block ?_
      refine AW.sr envOk (fun N hN => ?_)
      simp -dsimp -implicitDefEqProofs (disch := omega) only [go_sem, reduceAdd, reduceSub, reduceGT, reduceEqDiff, reduceMul, w64, hH, hx, hone]
      refine hN _ ?_
      try clear hN N
      refine AW.regionL envOk ?_
      simp -dsimp -implicitDefEqProofs (disch := omega) only [go_sem, reduceAdd, reduceSub, reduceGT, reduceEqDiff, reduceMul, w64, hH, hx, hone, hxi, List.take_length]
      refine hN6 _ ?_
      try clear hN6 N6
      refine AW.regionL envOk ?_
      simp -dsimp -implicitDefEqProofs (disch := omega) only [go_sem, reduceAdd, reduceSub, reduceGT, reduceEqDiff, reduceMul, w64, hH]
      refine ⟨(q + 1, m2 + 1 + 3 + 2, fl xss (q + 1)), ?_, by dsimp only; rw [hfs, htk]; exact Le.cat2 hfr (by omega), ?_, ?_⟩
      ·simp (disch := omega) [wks, wkA, sl, w64, ints, rows, cubes, w64, hH] <;> omega
      ·exact ⟨⟨by first| omega| (simp only; omega)| (dsimp only; omega), by first| omega| (simp only; omega)| (dsimp only; omega), by first| omega| (simp only; omega)| (dsimp only; omega)⟩, List.take_length, fun _ => rfl⟩
      ·first | omega | (simp only; omega)
    ·try simp only [cn] at h3
     have hq' : q = xss.length := by omega
     subst hq'
     rw [fl_all] at htk hex
     have hpos : 0 < xss.length := by
      rcases Nat.eq_zero_or_pos xss.length with h | h
      ·rw [List.length_eq_zero_iff.1 h] at h0; simp at h0
      ·exact h
     refine AW.exit ?_
     simp only [thn, blk, if_true]
     refine hN4 _ ?_
     try clear hN4 N4
     refine AW.sr envOk (fun N hN => ?_)
     simp -dsimp -implicitDefEqProofs (disch := omega) only [go_sem, reduceAdd, reduceSub, reduceGT, reduceEqDiff, reduceMul, w64, hH]
     refine hN _ ?_
     try clear hN N
     refine AW.ret ?_
     simp -dsimp -implicitDefEqProofs (disch := omega) only [go_sem, reduceAdd, reduceSub, reduceGT, reduceEqDiff, reduceMul]
     rw [fl_all]
     exact ⟨_, Le.refl _, by omega, fun i hi => upd_ne _ _ (by omega), .inr ⟨id, hid2, by omega, rfl, by rw [upd_same, hex hpos]⟩⟩

theorem slices_Concat_ints_zero (zs : List AV) (xss : List (List AV)) (hz : zs.length = xss.length) (hl : zs.length ≤ 1000) (idl nx : Nat) (H : HP) (hH : H idl = some zs) (hid : idl < nx) (hs : ∀ i, i < xss.length → Sls H nx (zs.getD i .j) (xss.getD i [])) (h0 : xss.flatten.length = 0) :
 AC Try.prog 145 nx H [.h idl 0 zs.length] (CatP nx H xss.flatten) := by
 refine AC.introx envOk Try.func145 rfl (by kernel_rfl) Try.ntmps145 Try.results145 (fun hfr => ?_)
 refine AW.sr envOk (fun N hN => ?_)
 simp -dsimp -implicitDefEqProofs (disch := omega) only [go_sem, reduceAdd, reduceSub, reduceGT, reduceEqDiff, reduceMul, w64, hH]
 refine hN _ ?_
 try clear hN N
 refine AW.sr envOk (fun N hN => ?_)
 simp -dsimp -implicitDefEqProofs (disch := omega) only [go_sem, reduceAdd, reduceSub, reduceGT, reduceEqDiff, reduceMul, w64, hH]
 refine hN _ ?_
 try clear hN N
 refine AW.seq (fun N1 hN1 => ?_)
 refine AW.sr envOk (fun N hN => ?_)
 simp -dsimp -implicitDefEqProofs (disch := omega) only [go_sem, reduceAdd, reduceSub, reduceGT, reduceEqDiff, reduceMul, w64, hH]
 refine hN _ ?_
 try clear hN N
 refine AW.block ?_
 refine AW.loopN (α := Nat) (fun x => sl 36 [(0, .h idl 0 zs.length), (3, .i .i64 (0 : Nat)), (9, .h idl 0 zs.length), (10, .i .i64 zs.length), (11, .i .i64 x)]) (fun _ => H) (fun x m => x ≤ xss.length ∧ nx ≤ m) (fun x => xss.length - x) (0) ?_ ?_ (fun _ _ h => h) ?_
 ·exact ⟨by omega, by first| omega| (simp only; omega)| (dsimp only; omega)⟩
 ·simp (disch := omega) [wks, wkA, sl, w64, ints, rows, cubes, w64, hH] <;> omega
 ·skip
  rintro k m ⟨hk, hm⟩
  simp -dsimp -implicitDefEqProofs (disch := omega) only [go_sem, reduceAdd, reduceSub, reduceGT, reduceEqDiff, reduceMul]
  refine AW.sr envOk (fun N hN => ?_)
  simp -dsimp -implicitDefEqProofs (disch := omega) only [go_sem, reduceAdd, reduceSub, reduceGT, reduceEqDiff, reduceMul, w64, hH]
  refine hN _ ?_
  try clear hN N
  refine AW.seq (fun N2 hN2 => ?_)
  refine AW.cond rfl (fun h1 => ?_) (fun h1 => ?_)
  ·try simp only [cn] at h1
   have hkl : k < xss.length := by omega
   have hfl := fl_le hkl
   have hsk := hs k hkl
   generalize xss.getD k [] = y at hsk hfl
   obtain rfl : y = [] := List.length_eq_zero_iff.1 (by omega)
   rcases hsk.2 with hx | ⟨hx, hxe⟩ | ⟨i, hi, hx, hxi⟩
   all_goals
    refine AW.skip ?_
    simp only [thn, blk]
    refine hN2 _ ?_
    try clear hN2 N2
    refine AW.seq (fun N3 hN3 => ?_)
    refine AW.block ?_
    refine AW.sr envOk (fun N hN => ?_)
    simp -dsimp -implicitDefEqProofs (disch := omega) only [go_sem, reduceAdd, reduceSub, reduceGT, reduceEqDiff, reduceMul, w64, hH, hx]
    refine hN _ ?_
    try clear hN N
    refine AW.sr envOk (fun N hN => ?_)
    simp -dsimp -implicitDefEqProofs (disch := omega) only [go_sem, reduceAdd, reduceSub, reduceGT, reduceEqDiff, reduceMul, w64, hH, hx, List.length_nil]
    refine hN _ ?_
    try clear hN N
    refine AW.sr envOk (fun N hN => ?_)
    simp -dsimp -implicitDefEqProofs (disch := omega) only [go_sem, reduceAdd, reduceSub, reduceGT, reduceEqDiff, reduceMul, w64, hH]
    refine hN _ ?_
    try clear hN N
    refine AW.cond rfl (fun h2 => ?_) (fun h2 => ?_)
    ·try simp only [cn] at h2
     exfalso; omega
    ·try simp only [cn] at h2
     refine AW.skip ?_
     simp only [thn, blk]
     refine hN3 _ ?_
     try clear hN3 N3
     refine AW.regionL envOk ?_
     simp -dsimp -implicitDefEqProofs (disch := omega) only [go_sem, reduceAdd, reduceSub, reduceGT, reduceEqDiff, reduceMul, w64, hH]
     refine ⟨k + 1, ?_, fun _ _ h => h, ?_, ?_⟩
     ·simp (disch := omega) [wks, wkA, sl, w64, ints, rows, cubes, w64, hH] <;> omega
     ·exact ⟨by omega, by first| omega| (simp only; omega)| (dsimp only; omega)⟩
     ·first | omega | (simp only; omega)
  ·try simp only [cn] at h1
   refine AW.exit ?_
   simp only [thn, blk, if_true]
   refine hN1 _ ?_
   try clear hN1 N1
   refine AW.sr envOk (fun N hN => ?_)
   simp -dsimp -implicitDefEqProofs (disch := omega) only [go_sem, reduceAdd, reduceSub, reduceGT, reduceEqDiff, reduceMul, w64, hH]
   refine (slices_Grow_ints_zero _ _).mono ?_
   rintro nx1 H1 r ⟨hx1, rfl, rfl⟩
   refine hN _ ?_
   try clear hN N
   refine AW.seq (fun N4 hN4 => ?_)
   refine AW.sr envOk (fun N hN => ?_)
   simp -dsimp -implicitDefEqProofs (disch := omega) only [go_sem, reduceAdd, reduceSub, reduceGT, reduceEqDiff, reduceMul, w64, hH]
   refine hN _ ?_
   try clear hN N
   refine AW.block ?_
   refine AW.loopN (α := Nat) (fun x => sl 36 [(6, .nl), (25, .h idl 0 zs.length), (26, .i .i64 zs.length), (27, .i .i64 x)]) (fun _ => H1) (fun x m => x ≤ xss.length ∧ nx ≤ m) (fun x => xss.length - x) (0) ?_ ?_ (fun _ _ h => h) ?_
   ·exact ⟨by omega, by first| omega| (simp only; omega)| (dsimp only; omega)⟩
   ·simp (disch := omega) [wks, wkA, sl, w64, ints, rows, cubes, w64, hH] <;> omega
   ·skip
    rintro q m2 ⟨hq, hm2⟩
    simp -dsimp -implicitDefEqProofs (disch := omega) only [go_sem, reduceAdd, reduceSub, reduceGT, reduceEqDiff, reduceMul]
    refine AW.sr envOk (fun N hN => ?_)
    simp -dsimp -implicitDefEqProofs (disch := omega) only [go_sem, reduceAdd, reduceSub, reduceGT, reduceEqDiff, reduceMul, w64, hH]
    refine hN _ ?_
    try clear hN N
    refine AW.seq (fun N5 hN5 => ?_)
    refine AW.cond rfl (fun h3 => ?_) (fun h3 => ?_)
    ·try simp only [cn] at h3
     have hql : q < xss.length := by omega
     have hsq := hs q hql
     have hfl := fl_le hql
     generalize xss.getD q [] = y at hsq hfl
     have hxi := hH
     obtain rfl : y = [] := List.length_eq_zero_iff.1 (by omega)
     have hone : (∀ z ∈ ([] : List AV), one z = true) = True := by simp
     rcases hsq.2 with hx | ⟨hx, hxe⟩ | ⟨i, hi, hx, hxi⟩
     all_goals
      refine AW.skip ?_
      simp only [thn, blk]
      refine hN5 _ ?_
      try clear hN5 N5
      refine AW.seq (fun N6 hN6 => ?_)
      refine AW.block ?_
      refine AW.sr envOk (fun N hN => ?_)
      simp -dsimp -implicitDefEqProofs (disch := omega) only [go_sem, reduceAdd, reduceSub, reduceGT, reduceEqDiff, reduceMul, w64, hH, hx, hone]
      refine hN _ ?_
      try clear hN N
      refine AW.regionL envOk ?_
      simp -dsimp -implicitDefEqProofs (disch := omega) only [go_sem, reduceAdd, reduceSub, reduceGT, reduceEqDiff, reduceMul, w64, hH, hx, hone, hxi, List.take_length, List.length_nil]
      refine hN6 _ ?_
      try clear hN6 N6
      refine AW.regionL envOk ?_
      simp -dsimp -implicitDefEqProofs (disch := omega) only [go_sem, reduceAdd, reduceSub, reduceGT, reduceEqDiff, reduceMul, w64, hH]
      refine ⟨q + 1, ?_, fun _ _ h => h, ?_, ?_⟩
      ·simp (disch := omega) [wks, wkA, sl, w64, ints, rows, cubes, w64, hH] <;> omega
      ·exact ⟨by omega, by first| omega| (simp only; omega)| (dsimp only; omega)⟩
      ·first | omega | (simp only; omega)
    ·try simp only [cn] at h3
     refine AW.exit ?_
     simp only [thn, blk, if_true]
     refine hN4 _ ?_
     try clear hN4 N4
     refine AW.sr envOk (fun N hN => ?_)
     simp -dsimp -implicitDefEqProofs (disch := omega) only [go_sem, reduceAdd, reduceSub, reduceGT, reduceEqDiff, reduceMul, w64, hH]
     refine hN _ ?_
     try clear hN N
     refine AW.ret ?_
     simp -dsimp -implicitDefEqProofs (disch := omega) only [go_sem, reduceAdd, reduceSub, reduceGT, reduceEqDiff, reduceMul]
     exact ⟨_, Le.refl _, by omega, fun i hi => rfl, .inl ⟨List.length_eq_zero_iff.1 h0, rfl⟩⟩

theorem slices_Concat_ints (zs : List AV) (xss : List (List AV)) (hz : zs.length = xss.length) (hl : zs.length ≤ 1000) (idl nx : Nat) (H : HP) (hH : H idl = some zs) (hid : idl < nx) (hs : ∀ i, i < xss.length → Sls H nx (zs.getD i .j) (xss.getD i [])) (hn : xss.flatten.length ≤ 4000000) :
    AC Try.prog 145 nx H [.h idl 0 zs.length] (CatP nx H xss.flatten) := by
  rcases Nat.eq_zero_or_pos xss.flatten.length with h | h
  · exact slices_Concat_ints_zero zs xss hz hl idl nx H hH hid hs h
  · exact slices_Concat_ints_pos zs xss hz hl idl nx H hH hid hs h hn

theorem Sls.ints {H : HP} {nx : Nat} {v : List Int} : Sls H nx (Go.Proofs.Ytbhlindlcfeppaa.ints v) (v.map (.i .i64)) := by
  refine ⟨fun z hz => ?_, .inl (by rw [List.length_map]; rfl)⟩
  obtain ⟨a, _, rfl⟩ := List.mem_map.1 hz
  rfl
theorem Sls.zer {H : HP} {nx id n : Nat} (h : H id = some (List.replicate n (AV.i .i64 0))) (hi : id < nx) : Sls H nx (.h id 0 n) (List.replicate n (AV.i .i64 0)) :=
  ⟨fun z hz => by rw [(List.mem_replicate.1 hz).2]; rfl, .inr (.inr ⟨id, hi, by rw [List.length_replicate], h⟩)⟩
theorem Sls.three {H : HP} {nx : Nat} {x y z : AV} {xs ys zs : List AV} (hx : Sls H nx x xs) (hy : Sls H nx y ys) (hz : Sls H nx z zs) : ∀ i, i < [xs, ys, zs].length → Sls H nx ([x, y, z].getD i .j) ([xs, ys, zs].getD i []) := by
  intro i hi
  match i, hi with
  | 0, _ => exact hx
  | 1, _ => exact hy
  | 2, _ => exact hz
theorem place_map {u v : Nat} {a : List Int} : (placeL u a v).map (AV.i .i64) = [List.replicate u (AV.i .i64 0), a.map (.i .i64), List.replicate v (AV.i .i64 0)].flatten := by simp [placeL]
theorem one_three {x : List Int} {a b c d e f : Nat} : (∀ z ∈ [AV.h a b c, ints x, AV.h d e f], one z = true) = True := eq_true (fun z hz => by
  simp only [List.mem_cons, List.not_mem_nil, or_false] at hz
  rcases hz with rfl | rfl | rfl <;> rfl)
theorem impl_padded_ok (v : List Int) (a b : Nat) (hv : v.length ≤ 1000) (ha : a ≤ 1000) (hb : b ≤ 1000) : ACo Try.prog 105 [ints v, .i .i64 a, .i .i64 b] (ints (placeL a v b)) := by
 intro nx
 refine AC.intro' envOk Try.func105 rfl (by kernel_rfl) Try.ntmps105 Try.results105 ?_
 refine AW.sr envOk (fun N hN => ?_)
 simp -dsimp -implicitDefEqProofs (disch := omega) only [go_sem, reduceAdd, reduceSub, reduceGT, reduceEqDiff, reduceMul, w64, one_three]
 refine hN _ ?_
 try clear hN N
 refine AW.seq (fun N hN => ?_)
 refine AW.drawL envOk (by kernel_rfl) 6 (by kernel_rfl) ?_
 simp -dsimp -implicitDefEqProofs (disch := omega) only [hr_nil, hr_one, hr_if, List.take_succ_cons, List.take_zero, List.drop_succ_cons, List.drop_zero, List.take_nil, List.drop_nil, go_sem, reduceAdd, reduceSub, reduceGT, reduceEqDiff, reduceMul, w64, one_three]
 refine (slices_Concat_ints [.h (nx + 1 + 1) 0 a, ints v, .h (nx + 1 + 4) 0 b] [List.replicate a (AV.i .i64 0), v.map (.i .i64), List.replicate b (AV.i .i64 0)] rfl (by simp) (nx + 1 + 5) _ _ (upd_same _ _ _) (by omega) (.three (.zer (by simp (disch := omega) only [upd_same, upd_ne]) (by omega)) .ints (.zer (by simp (disch := omega) only [upd_same, upd_ne]) (by omega))) (by simp; omega)).mono2 ?_
 rintro nx1 H1 r hx1 hcat
 try simp -dsimp -implicitDefEqProofs (disch := omega) only [go_sem, reduceAdd, reduceSub, reduceGT, reduceEqDiff, reduceMul, w64, one_three]
 refine hN _ ?_
 try clear hN N
 refine AW.ret ?_
 simp -dsimp -implicitDefEqProofs (disch := omega) only [go_sem, reduceAdd, reduceSub, reduceGT, reduceEqDiff, reduceMul]
 obtain ⟨h1, h2, ⟨h3, rfl⟩ | ⟨id, h3, h4, rfl, h5⟩⟩ := hcat
 ·rw [← place_map] at h3
  rw [List.map_eq_nil_iff.1 h3]
  exact ⟨[], .nl, by simp, by simp⟩
 ·rw [← place_map] at h5
  rw [← place_map, List.length_map]
  exact ⟨[id], Own.ints h5 rfl (by omega) (by omega)⟩

end Go.Proofs.Ytbhlindlcfeppaa

set_option linter.unusedVariables false
set_option linter.unusedSimpArgs false
namespace Go.Proofs.Ytbhlindlcfeppaa
open Nat (reduceAdd reduceSub reduceGT reduceEqDiff reduceMul)

/-- The first a of one list, then the rest of the other. -/
def mixR {α : Type} (L Z : List α) (a : Nat) : List α := L.take a ++ Z.drop a
section
variable {α : Type} {L Z : List α} {a : Nat}
theorem mixR_0 : mixR L Z 0 = Z := by simp [mixR]
theorem mixR_all (h : L.length = Z.length) (ha : a = L.length) : mixR L Z a = L := by
  subst ha
  unfold mixR; rw [List.take_length, List.drop_eq_nil_of_le (by omega), List.append_nil]
theorem mixR_len (h : L.length = Z.length) (ha : a ≤ L.length) : (mixR L Z a).length = L.length := by
  unfold mixR; rw [List.length_append, List.length_take, List.length_drop]; omega
theorem mixR_get (h : L.length = Z.length) {d : α} (ha : a < L.length) : (mixR L Z a).getD a d = Z.getD a d := by
  unfold mixR
  rw [List.getD_eq_getElem?_getD, List.getElem?_append_right (by rw [List.length_take]; omega), List.length_take, List.getElem?_drop, List.getD_eq_getElem?_getD, Nat.min_eq_left (by omega)]
  simp
theorem mixR_set (h : L.length = Z.length) {d : α} (ha : a < L.length) : (mixR L Z a).set a (L.getD a d) = mixR L Z (a + 1) := by
  unfold mixR
  rw [List.set_append_right _ _ (by rw [List.length_take]; omega), List.length_take, Nat.min_eq_left (by omega), Nat.sub_self, List.drop_eq_getElem_cons (show a < Z.length by omega), List.set_cons_zero, List.take_add_one, List.getD_eq_getElem?_getD, List.getElem?_eq_getElem ha]
  simp only [Option.getD_some, Option.toList_some, List.append_assoc, List.singleton_append]
end

theorem set_getD {α : Type} {l : List α} {a : Nat} {d : α} : l.set a (l.getD a d) = l := by
  apply List.ext_getElem?
  intro i
  rw [List.getElem?_set]
  split
  · rename_i e
    subst e
    split
    · rename_i h; rw [List.getD_eq_getElem?_getD, List.getElem?_eq_getElem h]; rfl
    · rename_i h; rw [List.getElem?_eq_none (by omega)]
  · rfl

theorem mixR_tail {α : Type} {L Z : List α} {k : Nat} (h : L.drop k = Z.drop k) : mixR L Z k = L := by
  unfold mixR; rw [← h, List.take_append_drop]
theorem zP_len {n : Nat} : (zP n).length = n := by simp [zP]
/-- The shape of a ring with N generators. -/
structure Shp (N : Nat) (X : List (List Int)) (Y : List (List (List Int))) : Prop where
  x : X.length = N
  y : Y.length = N
  r : ∀ a, a < N → (Y.getD a []).length = N - 1 - a
/-- The lists of brackets, filled up to row a and there up to place k. -/
def filY (Y : List (List (List Int))) (N a k : Nat) : List (List (List Int)) := (mixR Y (zB N) a).set a (mixR (Y.getD a []) (List.replicate (N - 1 - a) (zrow N)) k)
section
variable {N : Nat} {X : List (List Int)} {Y : List (List (List Int))}
theorem Shp.yz (h : Shp N X Y) : Y.length = (zB N).length := by rw [h.y, zB_len]
theorem Shp.xz (h : Shp N X Y) : X.length = (zP N).length := by rw [h.x, zP_len]
theorem filY_0 (h : Shp N X Y) {a : Nat} (ha : a < N) : filY Y N a 0 = mixR Y (zB N) a := by
  unfold filY
  rw [mixR_0, ← zB_get ha, ← mixR_get (L := Y) h.yz (d := []) (by rw [h.y]; exact ha), set_getD]
theorem filY_end (h : Shp N X Y) {a k : Nat} (ha : a < N) (hk : (Y.getD a []).drop k = (List.replicate (N - 1 - a) (zrow N)).drop k) : filY Y N a k = mixR Y (zB N) (a + 1) := by
  unfold filY
  rw [mixR_tail (L := Y.getD a []) hk]
  exact mixR_set h.yz (by rw [h.y]; exact ha)
theorem filY_len (h : Shp N X Y) {a k : Nat} (ha : a < N) : (filY Y N a k).length = N := by
  unfold filY; rw [List.length_set, mixR_len h.yz (by rw [h.y]; omega), h.y]
theorem filY_get (h : Shp N X Y) {a k : Nat} (ha : a < N) : (filY Y N a k).getD a [] = mixR (Y.getD a []) (List.replicate (N - 1 - a) (zrow N)) k := by
  unfold filY
  rw [List.getD_eq_getElem?_getD, List.getElem?_set_self (by rw [mixR_len h.yz (by rw [h.y]; omega), h.y]; exact ha)]; rfl
theorem filY_s (h : Shp N X Y) {a k : Nat} (ha : a < N) (hk : k < N - 1 - a) : (filY Y N a k).set a (((filY Y N a k).getD a []).set k ((Y.getD a []).getD k [])) = filY Y N a (k + 1) := by
  rw [filY_get h ha, mixR_set (by rw [h.r a ha, List.length_replicate]) (by rw [h.r a ha]; exact hk)]
  unfold filY
  rw [List.set_set]
theorem filrow_len (h : Shp N X Y) {a k : Nat} (ha : a < N) (hk : k ≤ N - 1 - a) : ((filY Y N a k).getD a []).length = N - 1 - a := by
  rw [filY_get h ha, mixR_len (by rw [h.r a ha, List.length_replicate]) (by rw [h.r a ha]; exact hk), h.r a ha]
/-- The state of a ring that is filled. -/
structure FilI (N : Nat) (X : List (List Int)) (a0 m c : Nat) (G : HP) (P B : AV) (a : Nat) (Z : List (List (List Int))) : Prop where
  le : a0 ≤ m
  R : RgO a0 m G P B (mixR X (zP N) a) Z
  c : G c = some [.i .i64 0, .nl, .nl]
theorem FilI.p (hs : Shp N X Y) {a0 m c a : Nat} {G : HP} {P B : AV} {Z : List (List (List Int))} (h : FilI N X a0 m c G P B a Z) (ha : a < N) : ∃ id rs, P = .h id 0 N ∧ G id = some rs ∧ rs.length = N ∧ a0 ≤ id ∧ id < m := by
  have hl : (mixR X (zP N) a).length = N := by rw [mixR_len hs.xz (by rw [hs.x]; omega), hs.x]
  have := h.R.p (by omega)
  rwa [hl] at this
theorem FilI.setP (hs : Shp N X Y) {a0 m m1 c a id : Nat} {G H1 : HP} {B r1 : AV} {Z : List (List (List Int))} {rs : List AV} {ids1 : List Nat} (h : FilI N X a0 m c G (.h id 0 N) B a Z) (ha : a < N) (hid : G id = some rs) (hc : c < a0) (ho : Own m m1 H1 r1 (ints (X.getD a [])) ids1) (hH : ∀ i, i < m → H1 i = G i) (hm : m ≤ m1) (hi : a0 ≤ id) :
    FilI N X a0 m1 c (upd H1 id (some (rs.set a r1))) (.h id 0 N) B (a + 1) Z := by
  have hl : (mixR X (zP N) a).length = N := by rw [mixR_len hs.xz (by rw [hs.x]; omega), hs.x]
  have h1 : RgO a0 m G (.h id 0 (mixR X (zP N) a).length) B (mixR X (zP N) a) Z := by rw [hl]; exact h.R
  have h2 := h1.setP (k := a) hid (by rw [hl]; exact ha) ho hH hm h.le
  rw [mixR_set hs.xz (by rw [hs.x]; exact ha), hl] at h2
  exact ⟨by have := h.le; omega, h2, by rw [upd_ne _ _ (by omega), hH c (by have := h.le; omega)]; exact h.c⟩
theorem FilI.b (hs : Shp N X Y) {a0 m c a1 a k : Nat} {G : HP} {P B : AV} (h : FilI N X a0 m c G P B a1 (filY Y N a k)) (ha : a < N) (hk : k < N - 1 - a) : ∃ id bs q cs, B = .h id 0 N ∧ G id = some bs ∧ bs.length = N ∧ bs.getD a .j = .h q 0 (N - 1 - a) ∧ G q = some cs ∧ cs.length = N - 1 - a ∧ (a0 ≤ id ∧ id < m) ∧ a0 ≤ q ∧ q < m := by
  have hr := filrow_len hs ha (show k ≤ N - 1 - a by omega)
  have := h.R.b (k := a) (by rw [filY_len hs ha]; exact ha) (by rw [hr]; omega)
  rwa [filY_len hs ha, hr] at this
theorem FilI.setB (hs : Shp N X Y) {a0 m m1 c a1 a k id q : Nat} {G H1 : HP} {P r1 : AV} {bs cs : List AV} {ids1 : List Nat} (h : FilI N X a0 m c G P (.h id 0 N) a1 (filY Y N a k)) (ha : a < N) (hk : k < N - 1 - a) (hid : G id = some bs) (hb : bs.getD a .j = .h q 0 (N - 1 - a)) (hq : G q = some cs) (hc : c < a0) (ho : Own m m1 H1 r1 (ints ((Y.getD a []).getD k [])) ids1) (hH : ∀ i, i < m → H1 i = G i) (hm : m ≤ m1) (hi : a0 ≤ q) :
    FilI N X a0 m1 c (upd H1 q (some (cs.set k r1))) P (.h id 0 N) a1 (filY Y N a (k + 1)) := by
  have hr := filrow_len hs ha (show k ≤ N - 1 - a by omega)
  have hy := filY_len hs (a := a) (k := k) ha
  have h1 : RgO a0 m G P (.h id 0 (filY Y N a k).length) (mixR X (zP N) a1) (filY Y N a k) := by rw [hy]; exact h.R
  rw [← hr] at hb
  have h2 := h1.setB (B := .j) hid (by rw [hy]; exact ha) (by rw [hr]; exact hk) hb hq ho hH hm h.le
  rw [filY_s hs ha hk, hy] at h2
  exact ⟨by have := h.le; omega, h2, by rw [upd_ne _ _ (by omega), hH c (by have := h.le; omega)]; exact h.c⟩
theorem FilI.mm {a0 m m' c a : Nat} {G : HP} {P B : AV} {Z : List (List (List Int))} (h : FilI N X a0 m c G P B a Z) (hm : m ≤ m') : FilI N X a0 m' c G P B a Z := ⟨by have := h.le; omega, h.R.keep (fun _ _ _ => rfl) hm, h.c⟩
end

/-! The sum. -/
def sP (A B : List (List Int)) : List (List Int) := A.map (fun v => placeL 0 v B.length) ++ B.map (fun v => placeL A.length v 0)
def sR1 (n m : Nat) (b : List (List Int)) : List (List Int) := b.map (fun v => placeL 0 v m) ++ List.replicate m (zrow (n + m))
def sR2 (n : Nat) (b : List (List Int)) : List (List Int) := b.map (fun v => placeL n v 0)
def sB (n m : Nat) (A B : List (List (List Int))) : List (List (List Int)) := (List.range n).map (fun i => sR1 n m (A.getD i [])) ++ (List.range m).map (fun i => sR2 n (B.getD i []))
section
variable {n m : Nat} {A B : List (List Int)} {C D : List (List (List Int))}
theorem sP_len : (sP A B).length = A.length + B.length := by simp [sP]
theorem sB_len : (sB n m C D).length = n + m := by simp [sB]
theorem sP_1 {i : Nat} (h : i < A.length) : (sP A B).getD i [] = placeL 0 (A.getD i []) B.length := by
  unfold sP
  rw [List.getD_eq_getElem?_getD, List.getElem?_append_left (by rw [List.length_map]; exact h)]
  simp [h]
theorem sP_2 {i : Nat} (h : i < B.length) : (sP A B).getD (A.length + i) [] = placeL A.length (B.getD i []) 0 := by
  unfold sP
  rw [List.getD_eq_getElem?_getD, List.getElem?_append_right (by rw [List.length_map]; omega), List.length_map, Nat.add_sub_cancel_left]
  simp [h]
theorem sB_1 {i : Nat} (h : i < n) : (sB n m C D).getD i [] = sR1 n m (C.getD i []) := by
  unfold sB
  rw [List.getD_eq_getElem?_getD, List.getElem?_append_left (by simpa using h)]
  simp [h]
theorem sB_2 {i : Nat} (h : i < m) : (sB n m C D).getD (n + i) [] = sR2 n (D.getD i []) := by
  unfold sB
  rw [List.getD_eq_getElem?_getD, List.getElem?_append_right (by simp), List.length_map, List.length_range, Nat.add_sub_cancel_left]
  simp [h]
theorem sR1_len {b : List (List Int)} : (sR1 n m b).length = b.length + m := by simp [sR1]
theorem sR2_len {b : List (List Int)} : (sR2 n b).length = b.length := by simp [sR2]
theorem sR1_get {b : List (List Int)} {k : Nat} (h : k < b.length) : (sR1 n m b).getD k [] = placeL 0 (b.getD k []) m := by
  unfold sR1
  rw [List.getD_eq_getElem?_getD, List.getElem?_append_left (by rw [List.length_map]; exact h)]
  simp [h]
theorem sR1_get2 {b : List (List Int)} {k : Nat} (h : b.length ≤ k) (h2 : k < b.length + m) : (sR1 n m b).getD k [] = zrow (n + m) := by
  unfold sR1
  rw [List.getD_eq_getElem?_getD, List.getElem?_append_right (by rw [List.length_map]; exact h), List.length_map]
  simp [show k - b.length < m by omega]
theorem sR2_get {b : List (List Int)} {k : Nat} (h : k < b.length) : (sR2 n b).getD k [] = placeL n (b.getD k []) 0 := by simp [sR2, h]
theorem sR1_drop {b : List (List Int)} {q : Nat} (hq : q = b.length + m) : (sR1 n m b).drop b.length = (List.replicate q (zrow (n + m))).drop b.length := by
  subst hq
  unfold sR1
  rw [List.drop_append_of_le_length (by rw [List.length_map]; exact Nat.le_refl _), List.drop_eq_nil_of_le (by rw [List.length_map]; exact Nat.le_refl _), List.drop_replicate]
  simp
theorem sR2_drop {b : List (List Int)} {q : Nat} (hq : q = b.length) : (sR2 n b).drop b.length = (List.replicate q (zrow (n + m))).drop b.length := by
  subst hq
  rw [List.drop_eq_nil_of_le (by rw [sR2_len]; exact Nat.le_refl _), List.drop_eq_nil_of_le (by simp)]
theorem sum_shp (hA : A.length = n) (hB : B.length = m) (hC : ∀ i, i < n → (C.getD i []).length + 1 + i = n) (hD : ∀ i, i < m → (D.getD i []).length + 1 + i = m) : Shp (n + m) (sP A B) (sB n m C D) := by
  refine ⟨by rw [sP_len, hA, hB], sB_len, fun a ha => ?_⟩
  rcases Nat.lt_or_ge a n with h | h
  · have := hC a h
    rw [sB_1 h, sR1_len]; omega
  · obtain ⟨i, rfl⟩ : ∃ i, a = n + i := ⟨a - n, by omega⟩
    have := hD i (by omega)
    rw [sB_2 (by omega), sR2_len]; omega
end
end Go.Proofs.Ytbhlindlcfeppaa

