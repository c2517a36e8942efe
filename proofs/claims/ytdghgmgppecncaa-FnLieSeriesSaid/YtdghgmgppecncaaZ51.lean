import Derived.Test.YtdghgmgppecncaaZ24
import Derived.Test.YtdghgmgppecncaaZ41
set_option linter.unusedVariables false
set_option linter.unusedSimpArgs false
namespace Go.Proofs.Ytdghgmgppecncaa
open Nat (reduceAdd reduceSub reduceGT reduceEqDiff reduceMul)
def Sls (H : HP) (nx : Nat) (x : AV) (xs : List AV) : Prop := (∀ z ∈ xs, one z = true) ∧ (x = .v xs.length xs ∨ (x = .nl ∧ xs = []) ∨ ∃ i, i < nx ∧ x = .h i 0 xs.length ∧ H i = some xs)
theorem rep_ne {n : Nat} {z : AV} (h : 0 < n) : (List.replicate n z = []) = False := by
  cases n with
  | zero => omega
  | succ n => simp [List.replicate_succ]
theorem slices_Grow_rows_zero (nx : Nat) (H : HP) : AC Try.prog 245 nx H [.nl, .i .i64 (0 : Nat)] (fun nx' H' r => nx ≤ nx' ∧ H' = H ∧ r = .nl) := by
 refine AC.introx envOk Try.func245 rfl (by kernel_rfl) Try.ntmps245 Try.results245 (fun hfr => ?_)
 refine AW.sr envOk (fun N hN => ?_)
 simp -dsimp -implicitDefEqProofs (disch := omega) only [go_sem, undef, reduceAdd, reduceSub, reduceGT, reduceEqDiff, reduceMul, w64]
 refine hN _ ?_
 try clear hN N
 refine AW.seq (fun N1 hN1 => ?_)
 refine AW.sr envOk (fun N hN => ?_)
 simp -dsimp -implicitDefEqProofs (disch := omega) only [go_sem, undef, reduceAdd, reduceSub, reduceGT, reduceEqDiff, reduceMul, w64]
 refine hN _ ?_
 try clear hN N
 refine AW.cond rfl (fun h1 => ?_) (fun h1 => ?_)
 ·try simp only [cn] at h1
  exfalso; omega
 ·try simp only [cn] at h1
  refine AW.skip ?_
  simp only [thn, blk]
  refine hN1 _ ?_
  try clear hN1 N1
  refine AW.seq (fun N2 hN2 => ?_)
  refine AW.sr envOk (fun N hN => ?_)
  simp -dsimp -implicitDefEqProofs (disch := omega) only [go_sem, undef, reduceAdd, reduceSub, reduceGT, reduceEqDiff, reduceMul, w64]
  refine hN _ ?_
  try clear hN N
  refine AW.sr envOk (fun N hN => ?_)
  simp -dsimp -implicitDefEqProofs (disch := omega) only [go_sem, undef, reduceAdd, reduceSub, reduceGT, reduceEqDiff, reduceMul, w64]
  refine hN _ ?_
  try clear hN N
  refine AW.cond rfl (fun h2 => ?_) (fun h2 => ?_)
  ·try simp only [cn] at h2
   exfalso; omega
  ·try simp only [cn] at h2
   refine AW.skip ?_
   simp only [thn, blk]
   refine hN2 _ ?_
   try clear hN2 N2
   refine AW.sr envOk (fun N hN => ?_)
   simp -dsimp -implicitDefEqProofs (disch := omega) only [go_sem, undef, reduceAdd, reduceSub, reduceGT, reduceEqDiff, reduceMul, w64]
   refine hN _ ?_
   try clear hN N
   refine AW.ret ?_
   simp -dsimp -implicitDefEqProofs (disch := omega) only [go_sem, undef, reduceAdd, reduceSub, reduceGT, reduceEqDiff, reduceMul]
   exact ⟨H, Le.refl _, rfl⟩
theorem slices_Grow_rows_pos (n : Nat) (h0 : 0 < n) (hn : n ≤ 4000000) (nx : Nat) (H : HP) : AC Try.prog 245 nx H [.nl, .i .i64 n] (fun nx' H' r => nx ≤ nx' ∧ (∀ i, i < nx → H' i = H i) ∧ ∃ id cs, nx ≤ id ∧ id < nx' ∧ r = .h id 0 0 ∧ H' id = some cs) := by
 refine AC.introx envOk Try.func245 rfl (by kernel_rfl) Try.ntmps245 Try.results245 (fun hfr => ?_)
 refine AW.sr envOk (fun N hN => ?_)
 simp -dsimp -implicitDefEqProofs (disch := omega) only [go_sem, undef, reduceAdd, reduceSub, reduceGT, reduceEqDiff, reduceMul, w64, rep_ne]
 refine hN _ ?_
 try clear hN N
 refine AW.seq (fun N1 hN1 => ?_)
 refine AW.sr envOk (fun N hN => ?_)
 simp -dsimp -implicitDefEqProofs (disch := omega) only [go_sem, undef, reduceAdd, reduceSub, reduceGT, reduceEqDiff, reduceMul, w64, rep_ne]
 refine hN _ ?_
 try clear hN N
 refine AW.cond rfl (fun h1 => ?_) (fun h1 => ?_)
 ·try simp only [cn] at h1
  exfalso; omega
 ·try simp only [cn] at h1
  refine AW.skip ?_
  simp only [thn, blk]
  refine hN1 _ ?_
  try clear hN1 N1
  refine AW.seq (fun N2 hN2 => ?_)
  refine AW.sr envOk (fun N hN => ?_)
  simp -dsimp -implicitDefEqProofs (disch := omega) only [go_sem, undef, reduceAdd, reduceSub, reduceGT, reduceEqDiff, reduceMul, w64, rep_ne]
  refine hN _ ?_
  try clear hN N
  refine AW.sr envOk (fun N hN => ?_)
  simp -dsimp -implicitDefEqProofs (disch := omega) only [go_sem, undef, reduceAdd, reduceSub, reduceGT, reduceEqDiff, reduceMul, w64, rep_ne]
  refine hN _ ?_
  try clear hN N
  refine AW.cond rfl (fun h2 => ?_) (fun h2 => ?_)
  ·try simp only [cn] at h2
   refine AW.regionL envOk ?_
   simp -dsimp -implicitDefEqProofs (disch := omega) only [go_sem, undef, reduceAdd, reduceSub, reduceGT, reduceEqDiff, reduceMul, w64, rep_ne]
   refine hN2 _ ?_
   try clear hN2 N2
   refine AW.sr envOk (fun N hN => ?_)
   simp -dsimp -implicitDefEqProofs (disch := omega) only [go_sem, undef, reduceAdd, reduceSub, reduceGT, reduceEqDiff, reduceMul, w64, rep_ne]
   refine hN _ ?_
   try clear hN N
   refine AW.ret ?_
   simp -dsimp -implicitDefEqProofs (disch := omega) only [go_sem, undef, reduceAdd, reduceSub, reduceGT, reduceEqDiff, reduceMul]
   exact ⟨_, Le.refl _, fun i hi => upd_ne _ _ (by omega), _, _, by omega, by omega, rfl, upd_same _ _ _⟩
  ·try simp only [cn] at h2
   exfalso; omega
def CatP (nx : Nat) (H : HP) (zs : List AV) (nx' : Nat) (H' : HP) (r : AV) : Prop := nx ≤ nx' ∧ (∀ i, i < nx → H' i = H i) ∧
  ((zs = [] ∧ r = .nl) ∨ ∃ id cs, nx ≤ id ∧ id < nx' ∧ r = .h id 0 zs.length ∧ H' id = some cs ∧ cs.take zs.length = zs)
theorem Le.cat {nx idg : Nat} {H H1 : HP} {cs : List AV} (hfr : ∀ i, nx ≤ i → H i = none) (h : ∀ i, i < nx → H1 i = H i) (hg : H1 idg = some cs) (hn : nx ≤ idg) : Le (upd H idg (some cs)) H1 := by
  intro i d hi
  by_cases e : i = idg
  · subst e; rw [upd_same] at hi; rw [hg]; exact hi
  · rw [upd_ne _ _ e] at hi
    rcases Nat.lt_or_ge i nx with hlt | hlt
    · rw [h i hlt]; exact hi
    · rw [hfr i hlt] at hi; cases hi
theorem Le.cat2 {nx id id2 : Nat} {H : HP} {d : Option (List AV)} (hfr : ∀ i, nx ≤ i → H i = none) (h : nx ≤ id) : Le (upd H id2 d) (upd (upd H id none) id2 d) := by
  rw [upd_none H (hfr id h)]; exact Le.refl _
def fl (xss : List (List AV)) (k : Nat) : List AV := (xss.take k).flatten
theorem fl_z {xss : List (List AV)} : fl xss 0 = [] := by simp [fl]
theorem fl_all {xss : List (List AV)} : fl xss xss.length = xss.flatten := by rw [fl, List.take_length]
theorem fl_s {xss : List (List AV)} {i : Nat} (h : i < xss.length) : fl xss (i + 1) = fl xss i ++ xss.getD i [] := by
  unfold fl
  rw [List.take_add_one, List.flatten_append]
  congr 1
  simp [h]
theorem fl_len {xss : List (List AV)} {i : Nat} (h : i < xss.length) : (fl xss (i + 1)).length = (fl xss i).length + (xss.getD i []).length := by rw [fl_s h, List.length_append]
theorem fl_le {xss : List (List AV)} {i : Nat} (h : i < xss.length) : (fl xss i).length + (xss.getD i []).length ≤ xss.flatten.length := by
  have h1 : xss.flatten = fl xss (i + 1) ++ (xss.drop (i + 1)).flatten := by unfold fl; rw [← List.flatten_append, List.take_append_drop]
  rw [h1, List.length_append, fl_len h]; omega
theorem fl_zl {xss : List (List AV)} : (fl xss 0).length = 0 := by simp [fl]
theorem slices_Concat_rows_pos (zs : List AV) (xss : List (List AV)) (hz : zs.length = xss.length) (hl : zs.length ≤ 1000) (idl nx : Nat) (H : HP) (hH : H idl = some zs) (hid : idl < nx) (hs : ∀ i, i < xss.length → Sls H nx (zs.getD i .j) (xss.getD i [])) (h0 : 0 < xss.flatten.length) (hn : xss.flatten.length ≤ 4000000) :
 AC Try.prog 158 nx H [.h idl 0 zs.length] (CatP nx H xss.flatten) := by
 have hfz := fl_zl (xss := xss)
 refine AC.introx envOk Try.func158 rfl (by kernel_rfl) Try.ntmps158 Try.results158 (fun hfr => ?_)
 refine AW.sr envOk (fun N hN => ?_)
 simp -dsimp -implicitDefEqProofs (disch := omega) only [go_sem, undef, reduceAdd, reduceSub, reduceGT, reduceEqDiff, reduceMul, w64, hH]
 refine hN _ ?_
 try clear hN N
 refine AW.sr envOk (fun N hN => ?_)
 simp -dsimp -implicitDefEqProofs (disch := omega) only [go_sem, undef, reduceAdd, reduceSub, reduceGT, reduceEqDiff, reduceMul, w64, hH]
 refine hN _ ?_
 try clear hN N
 refine AW.seq (fun N1 hN1 => ?_)
 refine AW.sr envOk (fun N hN => ?_)
 simp -dsimp -implicitDefEqProofs (disch := omega) only [go_sem, undef, reduceAdd, reduceSub, reduceGT, reduceEqDiff, reduceMul, w64, hH]
 refine hN _ ?_
 try clear hN N
 refine AW.block ?_
 refine AW.loopN (α := Nat) (fun x => sl 36 [(0, .h idl 0 zs.length), (3, .i .i64 (fl xss x).length), (9, .h idl 0 zs.length), (10, .i .i64 zs.length), (11, .i .i64 x)]) (fun _ => H) (fun x m => x ≤ xss.length ∧ nx ≤ m) (fun x => xss.length - x) (0) ?_ ?_ (fun _ _ h => h) ?_
 ·exact ⟨by omega, by first| omega| (simp only; omega)| (dsimp only; omega)⟩
 ·simp (disch := omega) [wks, wkA, sl, w64, ints, rows, cubes, w64, hH] <;> omega
 ·skip
  rintro k m ⟨hk, hm⟩
  simp -dsimp -implicitDefEqProofs (disch := omega) only [go_sem, undef, reduceAdd, reduceSub, reduceGT, reduceEqDiff, reduceMul]
  refine AW.sr envOk (fun N hN => ?_)
  simp -dsimp -implicitDefEqProofs (disch := omega) only [go_sem, undef, reduceAdd, reduceSub, reduceGT, reduceEqDiff, reduceMul, w64, hH]
  refine hN _ ?_
  try clear hN N
  refine AW.seq (fun N2 hN2 => ?_)
  refine AW.cond rfl (fun h1 => ?_) (fun h1 => ?_)
  ·try simp only [cn] at h1
   have hkl : k < xss.length := by omega
   have hfl := fl_le hkl
   have hfn := fl_len hkl
   have hsk := hs k hkl
   generalize xss.getD k [] = y at hsk hfl hfn
   rcases hsk.2 with hx | ⟨hx, hxe⟩ | ⟨i, hi, hx, hxi⟩
   case' inr.inl => (subst hxe; simp only [List.length_nil] at hfl hfn)
   all_goals
    refine AW.skip ?_
    simp only [thn, blk]
    refine hN2 _ ?_
    try clear hN2 N2
    refine AW.seq (fun N3 hN3 => ?_)
    refine AW.block ?_
    refine AW.sr envOk (fun N hN => ?_)
    simp -dsimp -implicitDefEqProofs (disch := omega) only [go_sem, undef, reduceAdd, reduceSub, reduceGT, reduceEqDiff, reduceMul, w64, hH, hx]
    refine hN _ ?_
    try clear hN N
    refine AW.sr envOk (fun N hN => ?_)
    simp -dsimp -implicitDefEqProofs (disch := omega) only [go_sem, undef, reduceAdd, reduceSub, reduceGT, reduceEqDiff, reduceMul, w64, hH, hx]
    refine hN _ ?_
    try clear hN N
    refine AW.sr envOk (fun N hN => ?_)
    simp -dsimp -implicitDefEqProofs (disch := omega) only [go_sem, undef, reduceAdd, reduceSub, reduceGT, reduceEqDiff, reduceMul, w64, hH]
    refine hN _ ?_
    try clear hN N
    refine AW.cond rfl (fun h2 => ?_) (fun h2 => ?_)
    ·try simp only [cn] at h2
     exfalso; omega
    ·try simp only [cn] at h2
     refine AW.skip ?_
     simp only [thn, blk]
     refine hN3 _ ?_
     try clear hN3 N3
     refine AW.regionL envOk ?_
     simp -dsimp -implicitDefEqProofs (disch := omega) only [go_sem, undef, reduceAdd, reduceSub, reduceGT, reduceEqDiff, reduceMul, w64, hH]
     refine ⟨k + 1, ?_, fun _ _ h => h, ?_, ?_⟩
     ·simp (disch := omega) [wks, wkA, sl, w64, ints, rows, cubes, w64, hH] <;> omega
     ·exact ⟨by omega, by first| omega| (simp only; omega)| (dsimp only; omega)⟩
     ·first | omega | (simp only; omega)
  ·try simp only [cn] at h1
   have hk' : k = xss.length := by omega
   subst hk'
   rw [fl_all]
   refine AW.exit ?_
   simp only [thn, blk, if_true]
   refine hN1 _ ?_
   try clear hN1 N1
   refine AW.sr envOk (fun N hN => ?_)
   simp -dsimp -implicitDefEqProofs (disch := omega) only [go_sem, undef, reduceAdd, reduceSub, reduceGT, reduceEqDiff, reduceMul, w64, hH]
   refine (slices_Grow_rows_pos _ h0 hn _ _).mono ?_
   rintro nx1 H1 r ⟨hx1, hHH, idg, csg, hg1, hg2, rfl, hg3⟩
   refine hN _ ?_
   try clear hN N
   refine AW.seq (fun N4 hN4 => ?_)
   refine AW.sr envOk (fun N hN => ?_)
   simp -dsimp -implicitDefEqProofs (disch := omega) only [go_sem, undef, reduceAdd, reduceSub, reduceGT, reduceEqDiff, reduceMul, w64, hH]
   refine hN _ ?_
   try clear hN N
   refine AW.block ?_
   refine AW.loopN (α := Nat × Nat × List AV) (fun x => sl 36 [(6, .h x.2.1 0 (fl xss x.1).length), (25, .h idl 0 zs.length), (26, .i .i64 zs.length), (27, .i .i64 x.1)]) (fun x => upd H x.2.1 (some x.2.2)) (fun x m => (x.1 ≤ xss.length ∧ nx ≤ x.2.1 ∧ x.2.1 < m) ∧ x.2.2.take (fl xss x.1).length = fl xss x.1) (fun x => xss.length - x.1) ((0, idg, csg)) ?_ ?_ (Le.cat (fun i hi => hfr i (by omega)) hHH hg3 (by first| omega| (simp only; omega)| (dsimp only; omega))) ?_
   ·exact ⟨⟨by simp, by first| omega| (simp only; omega)| (dsimp only; omega), by first| omega| (simp only; omega)| (dsimp only; omega)⟩, by simp [fl_z]⟩
   ·simp (disch := omega) [wks, wkA, sl, w64, ints, rows, cubes, w64, hH] <;> omega
   ·skip
    rintro ⟨q, id, cs⟩ m2 ⟨⟨hq, hid2, hm2⟩, htk⟩
    dsimp only at hq hid2 hm2 htk
    simp -dsimp -implicitDefEqProofs (disch := omega) only [go_sem, undef, reduceAdd, reduceSub, reduceGT, reduceEqDiff, reduceMul]
    refine AW.sr envOk (fun N hN => ?_)
    simp -dsimp -implicitDefEqProofs (disch := omega) only [go_sem, undef, reduceAdd, reduceSub, reduceGT, reduceEqDiff, reduceMul, w64, hH]
    refine hN _ ?_
    try clear hN N
    refine AW.seq (fun N5 hN5 => ?_)
    refine AW.cond rfl (fun h3 => ?_) (fun h3 => ?_)
    ·try simp only [cn] at h3
     have hql : q < xss.length := by omega
     have hsq := hs q hql
     have hfs := fl_s hql
     have hcl : (fl xss q).length ≤ cs.length := by have := congrArg List.length htk; rw [List.length_take] at this; omega
     have hfl := fl_le hql
     have hfn := fl_len hql
     generalize xss.getD q [] = y at hsq hfl hfn hfs
     have hone := eq_true hsq.1
     have hxi := hH
     rcases hsq.2 with hx | ⟨hx, hxe⟩ | ⟨i, hi, hx, hxi⟩
     case' inr.inl => (subst hxe; simp only [List.length_nil] at hfl hfn)
     all_goals
      refine AW.skip ?_
      simp only [thn, blk]
      refine hN5 _ ?_
      try clear hN5 N5
      refine AW.seq (fun N6 hN6 => ?_)
      refine AW.block ?_
      refine AW.sr envOk (fun N hN => ?_)
      simp -dsimp -implicitDefEqProofs (disch := omega) only [go_sem, undef, reduceAdd, reduceSub, reduceGT, reduceEqDiff, reduceMul, w64, hH, hx, hone]
      refine hN _ ?_
      try clear hN N
      refine AW.regionL envOk ?_
      simp -dsimp -implicitDefEqProofs (disch := omega) only [go_sem, undef, reduceAdd, reduceSub, reduceGT, reduceEqDiff, reduceMul, w64, hH, hx, hone, hxi, List.take_length]
      refine hN6 _ ?_
      try clear hN6 N6
      refine AW.regionL envOk ?_
      simp -dsimp -implicitDefEqProofs (disch := omega) only [go_sem, undef, reduceAdd, reduceSub, reduceGT, reduceEqDiff, reduceMul, w64, hH]
      refine ⟨(q + 1, m2 + 1 + 3 + 2, fl xss (q + 1)), ?_, by dsimp only; rw [hfs, htk]; exact Le.cat2 hfr (by omega), ?_, ?_⟩
      ·simp (disch := omega) [wks, wkA, sl, w64, ints, rows, cubes, w64, hH] <;> omega
      ·exact ⟨⟨by first| omega| (simp only; omega)| (dsimp only; omega), by first| omega| (simp only; omega)| (dsimp only; omega), by first| omega| (simp only; omega)| (dsimp only; omega)⟩, List.take_length⟩
      ·first | omega | (simp only; omega)
    ·try simp only [cn] at h3
     have hq' : q = xss.length := by omega
     subst hq'
     rw [fl_all] at htk
     refine AW.exit ?_
     simp only [thn, blk, if_true]
     refine hN4 _ ?_
     try clear hN4 N4
     refine AW.sr envOk (fun N hN => ?_)
     simp -dsimp -implicitDefEqProofs (disch := omega) only [go_sem, undef, reduceAdd, reduceSub, reduceGT, reduceEqDiff, reduceMul, w64, hH]
     refine hN _ ?_
     try clear hN N
     refine AW.ret ?_
     simp -dsimp -implicitDefEqProofs (disch := omega) only [go_sem, undef, reduceAdd, reduceSub, reduceGT, reduceEqDiff, reduceMul]
     rw [fl_all]
     exact ⟨_, Le.refl _, by omega, fun i hi => upd_ne _ _ (by omega), .inr ⟨id, cs, hid2, by omega, rfl, upd_same _ _ _, htk⟩⟩
theorem slices_Concat_rows_zero (zs : List AV) (xss : List (List AV)) (hz : zs.length = xss.length) (hl : zs.length ≤ 1000) (idl nx : Nat) (H : HP) (hH : H idl = some zs) (hid : idl < nx) (hs : ∀ i, i < xss.length → Sls H nx (zs.getD i .j) (xss.getD i [])) (h0 : xss.flatten.length = 0) :
 AC Try.prog 158 nx H [.h idl 0 zs.length] (CatP nx H xss.flatten) := by
 refine AC.introx envOk Try.func158 rfl (by kernel_rfl) Try.ntmps158 Try.results158 (fun hfr => ?_)
 refine AW.sr envOk (fun N hN => ?_)
 simp -dsimp -implicitDefEqProofs (disch := omega) only [go_sem, undef, reduceAdd, reduceSub, reduceGT, reduceEqDiff, reduceMul, w64, hH]
 refine hN _ ?_
 try clear hN N
 refine AW.sr envOk (fun N hN => ?_)
 simp -dsimp -implicitDefEqProofs (disch := omega) only [go_sem, undef, reduceAdd, reduceSub, reduceGT, reduceEqDiff, reduceMul, w64, hH]
 refine hN _ ?_
 try clear hN N
 refine AW.seq (fun N1 hN1 => ?_)
 refine AW.sr envOk (fun N hN => ?_)
 simp -dsimp -implicitDefEqProofs (disch := omega) only [go_sem, undef, reduceAdd, reduceSub, reduceGT, reduceEqDiff, reduceMul, w64, hH]
 refine hN _ ?_
 try clear hN N
 refine AW.block ?_
 refine AW.loopN (α := Nat) (fun x => sl 36 [(0, .h idl 0 zs.length), (3, .i .i64 (0 : Nat)), (9, .h idl 0 zs.length), (10, .i .i64 zs.length), (11, .i .i64 x)]) (fun _ => H) (fun x m => x ≤ xss.length ∧ nx ≤ m) (fun x => xss.length - x) (0) ?_ ?_ (fun _ _ h => h) ?_
 ·exact ⟨by omega, by first| omega| (simp only; omega)| (dsimp only; omega)⟩
 ·simp (disch := omega) [wks, wkA, sl, w64, ints, rows, cubes, w64, hH] <;> omega
 ·skip
  rintro k m ⟨hk, hm⟩
  simp -dsimp -implicitDefEqProofs (disch := omega) only [go_sem, undef, reduceAdd, reduceSub, reduceGT, reduceEqDiff, reduceMul]
  refine AW.sr envOk (fun N hN => ?_)
  simp -dsimp -implicitDefEqProofs (disch := omega) only [go_sem, undef, reduceAdd, reduceSub, reduceGT, reduceEqDiff, reduceMul, w64, hH]
  refine hN _ ?_
  try clear hN N
  refine AW.seq (fun N2 hN2 => ?_)
  refine AW.cond rfl (fun h1 => ?_) (fun h1 => ?_)
  ·try simp only [cn] at h1
   have hkl : k < xss.length := by omega
   have hfl := fl_le hkl
   have hsk := hs k hkl
   generalize xss.getD k [] = y at hsk hfl
   obtain rfl : y = [] := List.length_eq_zero_iff.1 (by omega)
   rcases hsk.2 with hx | ⟨hx, hxe⟩ | ⟨i, hi, hx, hxi⟩
   all_goals
    refine AW.skip ?_
    simp only [thn, blk]
    refine hN2 _ ?_
    try clear hN2 N2
    refine AW.seq (fun N3 hN3 => ?_)
    refine AW.block ?_
    refine AW.sr envOk (fun N hN => ?_)
    simp -dsimp -implicitDefEqProofs (disch := omega) only [go_sem, undef, reduceAdd, reduceSub, reduceGT, reduceEqDiff, reduceMul, w64, hH, hx]
    refine hN _ ?_
    try clear hN N
    refine AW.sr envOk (fun N hN => ?_)
    simp -dsimp -implicitDefEqProofs (disch := omega) only [go_sem, undef, reduceAdd, reduceSub, reduceGT, reduceEqDiff, reduceMul, w64, hH, hx, List.length_nil]
    refine hN _ ?_
    try clear hN N
    refine AW.sr envOk (fun N hN => ?_)
    simp -dsimp -implicitDefEqProofs (disch := omega) only [go_sem, undef, reduceAdd, reduceSub, reduceGT, reduceEqDiff, reduceMul, w64, hH]
    refine hN _ ?_
    try clear hN N
    refine AW.cond rfl (fun h2 => ?_) (fun h2 => ?_)
    ·try simp only [cn] at h2
     exfalso; omega
    ·try simp only [cn] at h2
     refine AW.skip ?_
     simp only [thn, blk]
     refine hN3 _ ?_
     try clear hN3 N3
     refine AW.regionL envOk ?_
     simp -dsimp -implicitDefEqProofs (disch := omega) only [go_sem, undef, reduceAdd, reduceSub, reduceGT, reduceEqDiff, reduceMul, w64, hH]
     refine ⟨k + 1, ?_, fun _ _ h => h, ?_, ?_⟩
     ·simp (disch := omega) [wks, wkA, sl, w64, ints, rows, cubes, w64, hH] <;> omega
     ·exact ⟨by omega, by first| omega| (simp only; omega)| (dsimp only; omega)⟩
     ·first | omega | (simp only; omega)
  ·try simp only [cn] at h1
   refine AW.exit ?_
   simp only [thn, blk, if_true]
   refine hN1 _ ?_
   try clear hN1 N1
   refine AW.sr envOk (fun N hN => ?_)
   simp -dsimp -implicitDefEqProofs (disch := omega) only [go_sem, undef, reduceAdd, reduceSub, reduceGT, reduceEqDiff, reduceMul, w64, hH]
   refine (slices_Grow_rows_zero _ _).mono ?_
   rintro nx1 H1 r ⟨hx1, rfl, rfl⟩
   refine hN _ ?_
   try clear hN N
   refine AW.seq (fun N4 hN4 => ?_)
   refine AW.sr envOk (fun N hN => ?_)
   simp -dsimp -implicitDefEqProofs (disch := omega) only [go_sem, undef, reduceAdd, reduceSub, reduceGT, reduceEqDiff, reduceMul, w64, hH]
   refine hN _ ?_
   try clear hN N
   refine AW.block ?_
   refine AW.loopN (α := Nat) (fun x => sl 36 [(6, .nl), (25, .h idl 0 zs.length), (26, .i .i64 zs.length), (27, .i .i64 x)]) (fun _ => H1) (fun x m => x ≤ xss.length ∧ nx ≤ m) (fun x => xss.length - x) (0) ?_ ?_ (fun _ _ h => h) ?_
   ·exact ⟨by omega, by first| omega| (simp only; omega)| (dsimp only; omega)⟩
   ·simp (disch := omega) [wks, wkA, sl, w64, ints, rows, cubes, w64, hH] <;> omega
   ·skip
    rintro q m2 ⟨hq, hm2⟩
    simp -dsimp -implicitDefEqProofs (disch := omega) only [go_sem, undef, reduceAdd, reduceSub, reduceGT, reduceEqDiff, reduceMul]
    refine AW.sr envOk (fun N hN => ?_)
    simp -dsimp -implicitDefEqProofs (disch := omega) only [go_sem, undef, reduceAdd, reduceSub, reduceGT, reduceEqDiff, reduceMul, w64, hH]
    refine hN _ ?_
    try clear hN N
    refine AW.seq (fun N5 hN5 => ?_)
    refine AW.cond rfl (fun h3 => ?_) (fun h3 => ?_)
    ·try simp only [cn] at h3
     have hql : q < xss.length := by omega
     have hsq := hs q hql
     have hfl := fl_le hql
     generalize xss.getD q [] = y at hsq hfl
     have hxi := hH
     obtain rfl : y = [] := List.length_eq_zero_iff.1 (by omega)
     have hone : (∀ z ∈ ([] : List AV), one z = true) = True := by simp
     rcases hsq.2 with hx | ⟨hx, hxe⟩ | ⟨i, hi, hx, hxi⟩
     all_goals
      refine AW.skip ?_
      simp only [thn, blk]
      refine hN5 _ ?_
      try clear hN5 N5
      refine AW.seq (fun N6 hN6 => ?_)
      refine AW.block ?_
      refine AW.sr envOk (fun N hN => ?_)
      simp -dsimp -implicitDefEqProofs (disch := omega) only [go_sem, undef, reduceAdd, reduceSub, reduceGT, reduceEqDiff, reduceMul, w64, hH, hx, hone]
      refine hN _ ?_
      try clear hN N
      refine AW.regionL envOk ?_
      simp -dsimp -implicitDefEqProofs (disch := omega) only [go_sem, undef, reduceAdd, reduceSub, reduceGT, reduceEqDiff, reduceMul, w64, hH, hx, hone, hxi, List.take_length, List.length_nil]
      refine hN6 _ ?_
      try clear hN6 N6
      refine AW.regionL envOk ?_
      simp -dsimp -implicitDefEqProofs (disch := omega) only [go_sem, undef, reduceAdd, reduceSub, reduceGT, reduceEqDiff, reduceMul, w64, hH]
      refine ⟨q + 1, ?_, fun _ _ h => h, ?_, ?_⟩
      ·simp (disch := omega) [wks, wkA, sl, w64, ints, rows, cubes, w64, hH] <;> omega
      ·exact ⟨by omega, by first| omega| (simp only; omega)| (dsimp only; omega)⟩
      ·first | omega | (simp only; omega)
    ·try simp only [cn] at h3
     refine AW.exit ?_
     simp only [thn, blk, if_true]
     refine hN4 _ ?_
     try clear hN4 N4
     refine AW.sr envOk (fun N hN => ?_)
     simp -dsimp -implicitDefEqProofs (disch := omega) only [go_sem, undef, reduceAdd, reduceSub, reduceGT, reduceEqDiff, reduceMul, w64, hH]
     refine hN _ ?_
     try clear hN N
     refine AW.ret ?_
     simp -dsimp -implicitDefEqProofs (disch := omega) only [go_sem, undef, reduceAdd, reduceSub, reduceGT, reduceEqDiff, reduceMul]
     exact ⟨_, Le.refl _, by omega, fun i hi => rfl, .inl ⟨List.length_eq_zero_iff.1 h0, rfl⟩⟩
theorem slices_Concat_rows (zs : List AV) (xss : List (List AV)) (hz : zs.length = xss.length) (hl : zs.length ≤ 1000) (idl nx : Nat) (H : HP) (hH : H idl = some zs) (hid : idl < nx) (hs : ∀ i, i < xss.length → Sls H nx (zs.getD i .j) (xss.getD i [])) (hn : xss.flatten.length ≤ 4000000) :
    AC Try.prog 158 nx H [.h idl 0 zs.length] (CatP nx H xss.flatten) := by
  rcases Nat.eq_zero_or_pos xss.flatten.length with h | h
  · exact slices_Concat_rows_zero zs xss hz hl idl nx H hH hid hs h
  · exact slices_Concat_rows_pos zs xss hz hl idl nx H hH hid hs h hn
end Go.Proofs.Ytdghgmgppecncaa
namespace Go.Proofs.Ytdghgmgppecncaa
open Nat (reduceAdd reduceSub reduceGT reduceEqDiff reduceMul)
section
variable {p : Int} {pw : List (List Int)} {br : List (List (List Int))}
noncomputable def cstep (p : Int) (pw : List (List Int)) (br : List (List (List Int))) (y u : List (List Int)) : List (List Int) := spanL p pw (u ++ brkLL p pw br u (u ++ y))
inductive Clos (p : Int) (pw : List (List Int)) (br : List (List (List Int))) (y : List (List Int)) : List (List Int) → List (List Int) → Prop
  | done (u : List (List Int)) (h : cstep p pw br y u = u) : Clos p pw br y u u
  | step (u r : List (List Int)) (h : cstep p pw br y u ≠ u) (hc : Clos p pw br y (cstep p pw br y u) r) : Clos p pw br y u r
theorem Clos.eq {y u r : List (List Int)} (h : Clos p pw br y u r) (he : cstep p pw br y u = u) : r = u := by
  cases h with
  | done => rfl
  | step _ _ h => exact absurd he h
theorem Clos.next {y u r : List (List Int)} (h : Clos p pw br y u r) (he : cstep p pw br y u ≠ u) : Clos p pw br y (cstep p pw br y u) r := by
  cases h with
  | done _ h => exact absurd h he
  | step _ _ _ h => exact h
end
end Go.Proofs.Ytdghgmgppecncaa
namespace Go.Proofs.Ytdghgmgppecncaa
open Nat (reduceAdd reduceSub reduceGT reduceEqDiff reduceMul)
theorem Sls.rws {H : HP} {nx : Nat} {u : List (List Int)} : Sls H nx (rows u) (u.map ints) := by
  refine ⟨fun z hz => ?_, .inl (by rw [List.length_map]; rfl)⟩
  obtain ⟨a, _, rfl⟩ := List.mem_map.1 hz
  rfl
theorem Sls.nl {H : HP} {nx : Nat} : Sls H nx .nl [] := ⟨by simp, .inr (.inl ⟨rfl, rfl⟩)⟩
theorem Sls.two {H : HP} {nx : Nat} {x y : AV} {xs ys : List AV} (hx : Sls H nx x xs) (hy : Sls H nx y ys) : ∀ i, i < [xs, ys].length → Sls H nx ([x, y].getD i .j) ([xs, ys].getD i []) := by
  intro i hi
  match i, hi with
  | 0, _ => exact hx
  | 1, _ => exact hy
theorem CatP.vw {nx nx' : Nat} {H H' : HP} {zs : List AV} {r : AV} {W : List (List Int)} (h : CatP nx H zs nx' H' r) (hl : zs.length = W.length) (hv : ∀ (k : Nat) (x y : AV), zs[k]? = some x → (W.map Go.Proofs.Ytdghgmgppecncaa.ints)[k]? = some y → Vw H' x y) : Vw H' r (rows W) := by
  obtain ⟨h1, h2, ⟨rfl, rfl⟩ | ⟨id, cs, h3, h4, rfl, h5, h6⟩⟩ := h
  · obtain rfl : W = [] := List.length_eq_zero_iff.1 hl.symm
    exact .nl
  · have hle : zs.length ≤ cs.length := by have := congrArg List.length h6; rw [List.length_take] at this; omega
    rw [hl] at *
    unfold rows
    refine .h id 0 W.length cs _ h5 (by omega) (by simp) fun k x y hx hy => ?_
    have hk : k < W.length := by
      have := (List.getElem?_eq_some_iff.1 hy).1
      simpa using this
    refine hv k x y ?_ hy
    rw [← h6, List.getElem?_take, if_pos hk, ← hx, Nat.zero_add]
theorem CatP.rws {nx nx' : Nat} {H H' : HP} {r : AV} {u v : List (List Int)} (h : CatP nx H [u.map Go.Proofs.Ytdghgmgppecncaa.ints, v.map Go.Proofs.Ytdghgmgppecncaa.ints].flatten nx' H' r) : Vw H' r (rows (u ++ v)) := by
  refine h.vw (by simp) fun k x y hx hy => ?_
  simp only [List.flatten_cons, List.flatten_nil, List.append_nil, List.map_append] at hx hy
  rw [hx] at hy; cases hy; exact .refl _
theorem impl_SumLie_ok (p : Int) (pw : List (List Int)) (br : List (List (List Int))) (hl : ringlen pw br) (u v : List (List Int)) (hu : rowslen u) (hv : rowslen v) : ACo Try.prog 83 [ring p pw br, rows u, rows v] (resRR (orRR (tf (SpnP p pw br u ∧ SpnP p pw br v)) (spanL p pw (u ++ v), 0))) := by
 have hln := hl.n
 intro nx
 refine AC.intro' envOk Try.func83 rfl (by kernel_rfl) Try.ntmps83 Try.results83 ?_
 refine AW.sr envOk (fun N hN => ?_)
 simp -dsimp -implicitDefEqProofs (disch := omega) only [go_sem, undef, reduceAdd, reduceSub, reduceGT, reduceEqDiff, reduceMul, ring]
 refine hN _ ?_
 try clear hN N
 refine AW.freezeQ 3 nx _ rfl (upd_same _ _ _) ?_
 simp -dsimp -implicitDefEqProofs (disch := omega) only [go_sem, undef, reduceAdd, reduceSub, reduceGT, reduceEqDiff, reduceMul]
 refine AW.seq (fun N1 hN1 => ?_)
 refine AW.sr envOk (fun N hN => ?_)
 simp -dsimp -implicitDefEqProofs (disch := omega) only [go_sem, undef, reduceAdd, reduceSub, reduceGT, reduceEqDiff, reduceMul, ring]
 refine AC.pure (.lent (impl_areLieSpans_ok p pw br hl [u, v] (.two hu hv)) (.cons (.refl _) (.cons (Vw.cb rfl (upd_same _ _ _)) .nil)) (.b _)) ?_
 try simp -dsimp -implicitDefEqProofs (disch := omega) only [go_sem, undef, reduceAdd, reduceSub, reduceGT, reduceEqDiff, reduceMul, ring]
 refine hN _ ?_
 try clear hN N
 refine AW.cond rfl (fun h1 => ?_) (fun h1 => ?_)
 ·try simp only [cn] at h1
  refine AW.sr envOk (fun N hN => ?_)
  simp -dsimp -implicitDefEqProofs (disch := omega) only [go_sem, undef, reduceAdd, reduceSub, reduceGT, reduceEqDiff, reduceMul, ring]
  refine hN _ ?_
  try clear hN N
  refine AW.ret ?_
  simp -dsimp -implicitDefEqProofs (disch := omega) only [go_sem, undef, reduceAdd, reduceSub, reduceGT, reduceEqDiff, reduceMul]
  rw [tf_f (fun h => h1 (spansP.two.2 h))]
  exact Own.nilRR
 ·try simp only [cn] at h1
  obtain ⟨hs, hsv⟩ := spansP.two.1 h1
  have ht := hs.1.1.tri
  have h6 := ht.n6
  have hu6 := hs.2.1
  have hv6 := hsv.2.1
  refine AW.skip ?_
  simp only [thn, blk]
  refine hN1 _ ?_
  try clear hN1 N1
  refine AW.sr envOk (fun N hN => ?_)
  simp -dsimp -implicitDefEqProofs (disch := omega) only [go_sem, undef, reduceAdd, reduceSub, reduceGT, reduceEqDiff, reduceMul, ring]
  refine (slices_Concat_rows [rows u, rows v] [u.map ints, v.map ints] rfl (by simp) _ _ _ (upd_same _ _ _) (by omega) (.two .rws .rws) (by simp; omega)).mono ?_
  intro nx1 H1 c1 hcat
  try simp -dsimp -implicitDefEqProofs (disch := omega) only [go_sem, undef, reduceAdd, reduceSub, reduceGT, reduceEqDiff, reduceMul, ring]
  refine AC.own (impl_lieSpan_ok p pw br ht hs.1.1.1 (u ++ v) (by simp; omega) (fun k hk => app_el hs.2.2.1.mem hsv.2.2.1.mem _ (ix_mem hk))) (.cons (.refl _) (.cons hcat.rws .nil)) ?_
  intro m1 H3 r3 ids hm1 hH1 hown1
  try simp -dsimp -implicitDefEqProofs (disch := omega) only [go_sem, undef, reduceAdd, reduceSub, reduceGT, reduceEqDiff, reduceMul, ring]
  refine hN _ ?_
  try clear hN N
  refine AW.ret ?_
  simp -dsimp -implicitDefEqProofs (disch := omega) only [go_sem, undef, reduceAdd, reduceSub, reduceGT, reduceEqDiff, reduceMul]
  first| rw [tf_t (show SpnP p pw br u ∧ SpnP p pw br v from ⟨hs, hsv⟩)]| rw [tf_t hsv]
  exact (hown1.keep (fun _ _ _ => rfl) (by have := hcat.1; omega) (by omega)).pair
end Go.Proofs.Ytdghgmgppecncaa
