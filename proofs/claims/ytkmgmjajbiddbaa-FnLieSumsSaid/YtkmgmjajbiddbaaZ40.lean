import Derived.Test.YtkmgmjajbiddbaaZ37
import Derived.Test.YtkmgmjajbiddbaaZ39
set_option linter.unusedVariables false
set_option linter.unusedSimpArgs false
namespace Go.Proofs.Ytkmgmjajbiddbaa
open Nat (reduceAdd reduceSub reduceGT reduceEqDiff reduceMul)
structure AblOk (xs : List Int) : Prop where
  len : xs.length ≤ 10
  rng : ∀ k, k < xs.length → 2 ≤ xs.getD k 0 ∧ xs.getD k 0 ≤ 1000000
  dvd : ∀ k, k + 1 < xs.length → (xs.getD (k + 1) 0).tmod (xs.getD k 0) = 0
def abl (xs : List Int) : AV := .g [ints xs, .i .i64 0]
theorem abl_nr (xs : List Int) : NR (abl xs) := .g _ fun k x hx => by
  match k, hx with
  | 0, hx => cases hx; exact ints_nr _
  | 1, hx => cases hx; exact .i _ _
theorem impl_IsAbelian_yes (xs : List Int) (h : AblOk xs) : ACp Try.prog 55 [abl xs] (.b true) := by
 have hl := h.len
 have z1 : decide ((0 : Int) < 0) = false := rfl
 have z2 : decide ((0 : Int) > 10) = false := rfl
 have z3 : decide ((xs.length : Int) + 0 > 10) = false := by simp; omega
 refine ACp.intro' envOk Try.func55 rfl (by kernel_rfl) Try.ntmps55 Try.results55 (.b _) (fun nx => ?_)
 refine AW.sr envOk (fun N hN => ?_)
 simp -dsimp -implicitDefEqProofs (maxSteps := 800000) (disch := omega) only [go_sem, undef, reduceAdd, reduceSub, reduceGT, reduceEqDiff, reduceMul, abl, ints, w64, gd_i]
 refine hN _ ?_
 try clear hN N
 refine AW.freezeQ 1 nx _ rfl (upd_same _ _ _) ?_
 simp -dsimp -implicitDefEqProofs (maxSteps := 800000) (disch := omega) only [go_sem, undef, reduceAdd, reduceSub, reduceGT, reduceEqDiff, reduceMul]
 refine AW.seq (fun N1 hN1 => ?_)
 refine AW.sr envOk (fun N hN => ?_)
 simp -dsimp -implicitDefEqProofs (maxSteps := 800000) (disch := omega) only [go_sem, undef, reduceAdd, reduceSub, reduceGT, reduceEqDiff, reduceMul, abl, ints, w64, gd_i, z1, z2, z3]
 refine hN _ ?_
 try clear hN N
 refine AW.condF rfl ?_
 refine AW.skip ?_
 simp only [thn, blk]
 refine hN1 _ ?_
 try clear hN1 N1
 refine AW.seq (fun N2 hN2 => ?_)
 refine AW.sr envOk (fun N hN => ?_)
 simp -dsimp -implicitDefEqProofs (maxSteps := 800000) (disch := omega) only [go_sem, undef, reduceAdd, reduceSub, reduceGT, reduceEqDiff, reduceMul, abl, ints, w64, gd_i]
 refine hN _ ?_
 try clear hN N
 refine AW.block ?_
 refine AW.loopN (α := Nat) (fun x => sl 49 [(1, .p 0 [ints xs, .i .i64 0]), (23, ints xs), (24, .i .i64 xs.length), (25, .i .i64 x)]) (fun _ => noH) (fun x m => x ≤ xs.length) (fun x => xs.length - x) (0) ?_ ?_ (by intro d cs hd; cases hd) ?_
 ·simp
 ·simp (disch := omega) [wks, wkA, sl, w64, ints, rows, cubes, abl, ints, w64, gd_i] <;> omega
 ·skip
  rintro k m hk
  simp -dsimp -implicitDefEqProofs (maxSteps := 800000) (disch := omega) only [go_sem, undef, reduceAdd, reduceSub, reduceGT, reduceEqDiff, reduceMul]
  refine AW.sr envOk (fun N hN => ?_)
  simp -dsimp -implicitDefEqProofs (maxSteps := 800000) (disch := omega) only [go_sem, undef, reduceAdd, reduceSub, reduceGT, reduceEqDiff, reduceMul, abl, ints, w64, gd_i]
  refine hN _ ?_
  try clear hN N
  refine AW.seq (fun N3 hN3 => ?_)
  refine AW.cond rfl (fun h1 => ?_) (fun h1 => ?_)
  ·try simp only [cn] at h1
   have hr := h.rng k (by omega)
   have hin := impl_inside_ok (xs.getD k 0) 2 1000000
   rw [tf_t hr] at hin
   refine AW.skip ?_
   simp only [thn, blk]
   refine hN3 _ ?_
   try clear hN3 N3
   refine AW.seq (fun N4 hN4 => ?_)
   refine AW.block ?_
   refine AW.sr envOk (fun N hN => ?_)
   simp -dsimp -implicitDefEqProofs (maxSteps := 800000) (disch := omega) only [go_sem, undef, reduceAdd, reduceSub, reduceGT, reduceEqDiff, reduceMul, abl, ints, w64, gd_i]
   refine hN _ ?_
   try clear hN N
   refine AW.sr envOk (fun N hN => ?_)
   simp -dsimp -implicitDefEqProofs (maxSteps := 800000) (disch := omega) only [go_sem, undef, reduceAdd, reduceSub, reduceGT, reduceEqDiff, reduceMul, abl, ints, w64, gd_i]
   refine AC.pure (.of (hin )) ?_
   try simp -dsimp -implicitDefEqProofs (maxSteps := 800000) (disch := omega) only [go_sem, undef, reduceAdd, reduceSub, reduceGT, reduceEqDiff, reduceMul, abl, ints, w64, gd_i]
   refine gopB.mk' (fun h2 => ?_) (fun h2 => ?_)
   ·try simp only [cn] at h2
    have hkk : 0 < k := by omega
    have e7 : ((k : Int) - 1).toNat = k - 1 := by omega
    have hr2 := h.rng (k - 1) (by omega)
    have hd := h.dvd (k - 1) (by omega)
    rw [show k - 1 + 1 = k by omega] at hd
    try simp -dsimp -implicitDefEqProofs (maxSteps := 800000) (disch := omega) only [go_sem, undef, reduceAdd, reduceSub, reduceGT, reduceEqDiff, reduceMul, e7, hd, ints, gd_i, w64]
    try simp -dsimp -implicitDefEqProofs (maxSteps := 800000) (disch := omega) only [go_sem, undef, reduceAdd, reduceSub, reduceGT, reduceEqDiff, reduceMul, abl, ints, w64, gd_i]
    refine hN _ ?_
    try clear hN N
    refine AW.cond rfl (fun h3 => ?_) (fun h3 => ?_)
    ·try simp only [cn] at h3
     exact absurd trivial h3
    ·try simp only [cn] at h3
     refine AW.skip ?_
     simp only [thn, blk]
     refine hN4 _ ?_
     try clear hN4 N4
     refine AW.regionL envOk ?_
     simp -dsimp -implicitDefEqProofs (maxSteps := 800000) (disch := omega) only [go_sem, undef, reduceAdd, reduceSub, reduceGT, reduceEqDiff, reduceMul, abl, ints, w64, gd_i]
     refine ⟨k + 1, ?_, fun _ _ h => h, ?_, ?_⟩
     ·simp (disch := omega) [wks, wkA, sl, w64, ints, rows, cubes, abl, ints, w64, gd_i] <;> omega
     ·omega
     ·first | omega | (simp only; omega)
   ·try simp only [cn] at h2
    try simp -dsimp -implicitDefEqProofs (maxSteps := 800000) (disch := omega) only [go_sem, undef, reduceAdd, reduceSub, reduceGT, reduceEqDiff, reduceMul, abl, ints, w64, gd_i]
    refine hN _ ?_
    try clear hN N
    refine AW.condF rfl ?_
    refine AW.skip ?_
    simp only [thn, blk]
    refine hN4 _ ?_
    try clear hN4 N4
    refine AW.regionL envOk ?_
    simp -dsimp -implicitDefEqProofs (maxSteps := 800000) (disch := omega) only [go_sem, undef, reduceAdd, reduceSub, reduceGT, reduceEqDiff, reduceMul, abl, ints, w64, gd_i]
    refine ⟨k + 1, ?_, fun _ _ h => h, ?_, ?_⟩
    ·simp (disch := omega) [wks, wkA, sl, w64, ints, rows, cubes, abl, ints, w64, gd_i] <;> omega
    ·omega
    ·first | omega | (simp only; omega)
  ·try simp only [cn] at h1
   refine AW.exit ?_
   simp only [thn, blk, if_true]
   refine hN2 _ ?_
   try clear hN2 N2
   refine AW.sr envOk (fun N hN => ?_)
   simp -dsimp -implicitDefEqProofs (maxSteps := 800000) (disch := omega) only [go_sem, undef, reduceAdd, reduceSub, reduceGT, reduceEqDiff, reduceMul, abl, ints, w64, gd_i]
   refine hN _ ?_
   try clear hN N
   refine AW.ret ?_
   simp -dsimp -implicitDefEqProofs (maxSteps := 800000) (disch := omega) only [go_sem, undef, reduceAdd, reduceSub, reduceGT, reduceEqDiff, reduceMul]
   skip
theorem nr_res (xs : List Int) : NR (.t [abl xs, .i .i64 0]) := .t _ fun k x hx => by
  match k, hx with
  | 0, hx => cases hx; exact abl_nr _
  | 1, hx => cases hx; exact .i _ _
def lsA (o : Option Nat) (n : Nat) : AV := match o with
  | none => .nl
  | some id => .h id 0 n
theorem o_ls (o : Option Nat) (n : Nat) : one (lsA o n) = true := by cases o <;> rfl
theorem c_ls (o : Option Nat) (n : Nat) : cellsA (lsA o n) = [lsA o n] := by cases o <;> rfl
theorem k_ls (o : Option Nat) (n : Nat) : okA (lsA o n) = true := by cases o <;> rfl
theorem impl_abelianResult_o (xs : List Int) (h : AblOk xs) (o : Option Nat) (nx : Nat) (H : HP) (h0 : o = none → xs = []) (h1 : ∀ id, o = some id → H id = some (xs.map (.i .i64))) : AC Try.prog 71 nx H [.g [lsA o xs.length, .i .i64 0]] (fun _ H' r => H' = H ∧ r = .t [.g [lsA o xs.length, .i .i64 0], .i .i64 0]) := by
 have hv : ∀ H' : HP, (∀ i c, H i = some c → H' i = some c) → Vw H' (.g [lsA o xs.length, .i .i64 0]) (abl xs) := fun H' hle => .g _ _ rfl fun k x y hx hy => by
  match k, hx, hy with
  | 0, hx, hy =>
   cases hx; cases hy
   cases o with
   | none => rw [h0 rfl]; exact .nl
   | some id => exact Vw.blk (hle _ _ (h1 id rfl)) (by rw [List.length_map])
  | 1, hx, hy => cases hx; cases hy; exact .refl _
 refine AC.introx envOk Try.func71 rfl (by kernel_rfl) Try.ntmps71 Try.results71 (fun hfr => ?_)
 have hlt : ∀ i c, H i = some c → i < nx := fun i c h => by apply Classical.byContradiction; intro hn; rw [hfr i (by omega)] at h; cases h
 refine AW.sr envOk (fun N hN => ?_)
 simp -dsimp -implicitDefEqProofs (maxSteps := 800000) (disch := omega) only [go_sem, undef, reduceAdd, reduceSub, reduceGT, reduceEqDiff, reduceMul, w64, o_ls, c_ls, k_ls]
 refine hN _ ?_
 try clear hN N
 refine AW.seq (fun N1 hN1 => ?_)
 refine AW.sr envOk (fun N hN => ?_)
 simp -dsimp -implicitDefEqProofs (maxSteps := 800000) (disch := omega) only [go_sem, undef, reduceAdd, reduceSub, reduceGT, reduceEqDiff, reduceMul, w64, o_ls, c_ls, k_ls]
 refine AC.pure (.lent (impl_IsAbelian_yes xs h) (.cons (hv _ (fun i c hi => by have := hlt i c hi; rw [upd_ne _ _ (by omega), upd_ne _ _ (by omega)]; exact hi)) .nil) (.b _)) ?_
 try simp -dsimp -implicitDefEqProofs (maxSteps := 800000) (disch := omega) only [go_sem, undef, reduceAdd, reduceSub, reduceGT, reduceEqDiff, reduceMul, w64, o_ls, c_ls, k_ls]
 refine hN _ ?_
 try clear hN N
 refine AW.cond rfl (fun h1 => ?_) (fun h1 => ?_)
 ·try simp only [cn] at h1
  cases h1
 ·try simp only [cn] at h1
  refine AW.skip ?_
  simp only [thn, blk]
  refine hN1 _ ?_
  try clear hN1 N1
  refine AW.sr envOk (fun N hN => ?_)
  simp -dsimp -implicitDefEqProofs (maxSteps := 800000) (disch := omega) only [go_sem, undef, reduceAdd, reduceSub, reduceGT, reduceEqDiff, reduceMul, w64, o_ls, c_ls, k_ls]
  refine hN _ ?_
  try clear hN N
  refine AW.ret ?_
  simp -dsimp -implicitDefEqProofs (maxSteps := 800000) (disch := omega) only [go_sem, undef, reduceAdd, reduceSub, reduceGT, reduceEqDiff, reduceMul]
  exact ⟨H, fun i c hi => by have := hlt i c hi; rw [upd_ne _ _ (by omega), upd_ne _ _ (by omega)]; exact hi, rfl⟩
structure Parts (p : Int) (xs : List Int) : Prop where
  pr : pr4 p
  ok : AblOk xs
  pw : ∀ k, k < xs.length → ∃ e, 1 ≤ e ∧ xs.getD k 0 = p ^ e ∧ p ^ e ≤ 729
  up : ∀ j, j + 1 < xs.length → xs.getD j 0 ≤ xs.getD (j + 1) 0
def fpH (rc mid : Nat) (p : Int) (cs : List AV) (o : Option Nat) (k : Nat) : HP := match o with
  | none => upd (upd noH rc (some [.nl, .i .i64 0])) mid (some [])
  | some id => upd (upd (upd noH rc (some [.nl, .i .i64 0])) id (some cs)) mid (some [.g [.i .i64 p, .h id 0 k]])
theorem take_sI {xs : List Int} {k : Nat} (h : k < xs.length) : (xs.take (k + 1)).map (AV.i .i64) = (xs.take k).map (AV.i .i64) ++ [.i .i64 (xs.getD k 0)] := by
  rw [List.take_succ_eq_append_getElem h, List.map_append]
  simp [List.getD_eq_getElem?_getD, h]
theorem rev_ivs (xs : List Int) : ivs xs.length (fun t => xs.getD (xs.length - 1 - t) 0) = xs.reverse.map (AV.i .i64) := by
  rw [map_ivs, List.length_reverse]
  exact ivs_ext fun k hk => by simp [List.getD_eq_getElem?_getD, List.getElem?_reverse hk]
theorem rev_ivs2 (xs : List Int) : ivs xs.length (fun t => xs.reverse.getD (xs.length - 1 - t) 0) = xs.map (AV.i .i64) := by
  have := rev_ivs xs.reverse
  rwa [List.length_reverse, List.reverse_reverse] at this
theorem Own.abl {a b : Nat} {H : HP} {xs : List Int} {o : Option Nat} (h0 : o = none → xs = []) (h1 : ∀ id, o = some id → H id = some (xs.map (.i .i64)) ∧ a ≤ id ∧ id < b) : ∃ ids, Own a b H (.t [.g [lsA o xs.length, .i .i64 0], .i .i64 0]) (.t [Go.Proofs.Ytkmgmjajbiddbaa.abl xs, .i .i64 0]) ids := by
  have fin : ∀ (r : AV) (ids : List Nat), Ow H r (Go.Proofs.Ytkmgmjajbiddbaa.ints xs) ids → Ow H (.t [.g [r, .i .i64 0], .i .i64 0]) (.t [Go.Proofs.Ytkmgmjajbiddbaa.abl xs, .i .i64 0]) ((ids ++ ([] ++ [])) ++ ([] ++ [])) := fun r ids hr =>
    .t _ _ _ (.cons _ _ _ _ _ _ (.g _ _ _ (.cons _ _ _ _ _ _ hr (.cons _ _ _ _ _ _ (.leaf _ (.i _ _) (.i _ _)) .nil))) (.cons _ _ _ _ _ _ (.leaf _ (.i _ _) (.i _ _)) .nil))
  cases o with
  | none =>
    obtain rfl := h0 rfl
    exact ⟨_, fin .nl [] .nl, by simp, by simp⟩
  | some id =>
    obtain ⟨g1, g2, g3⟩ := h1 id rfl
    exact ⟨_, fin (.h id 0 xs.length) [id] (Ow.ints g1 rfl), by simp, by simp; omega⟩
def fp3 (rc mid it n : Nat) (id : Nat) (p : Int) (xs : List Int) (G : HP) : Option Nat → HP
  | none => upd G it (some [.m mid, .i .i64 ((1 : Nat) : Int)])
  | some lid => upd (upd (upd (upd noH rc (some [.nl, .i .i64 0])) mid (some [.g [.i .i64 p, .h id 0 n]])) it (some [.m mid, .i .i64 ((1 : Nat) : Int), .i .i64 ((0 : Nat) : Int)])) lid (some (xs.reverse.map (.i .i64)))
theorem fp3_le {rc mid it n id lid : Nat} {p : Int} {xs : List Int} {G G3 : HP} (hm : G3 mid = some [.g [.i .i64 p, .h id 0 n]]) (hr : G3 rc = some [.nl, .i .i64 0]) (ht : G3 it = some [.m mid, .i .i64 ((1 : Nat) : Int), .i .i64 ((0 : Nat) : Int)]) :
    Le (fp3 rc mid it n id p xs G (some lid)) (upd G3 lid (some (xs.reverse.map (.i .i64)))) := by
  intro d cs hd
  simp only [fp3] at hd
  by_cases e1 : d = lid
  · subst e1
    rw [upd_same] at hd ⊢
    exact hd
  · rw [upd_ne _ _ e1] at hd ⊢
    by_cases e2 : d = it
    · subst e2
      rw [upd_same] at hd
      rw [ht]; exact hd
    · rw [upd_ne _ _ e2] at hd
      by_cases e3 : d = mid
      · subst e3
        rw [upd_same] at hd
        rw [hm]; exact hd
      · rw [upd_ne _ _ e3] at hd
        by_cases e4 : d = rc
        · subst e4
          rw [upd_same] at hd
          rw [hr]; exact hd
        · rw [upd_ne _ _ e4] at hd
          cases hd
theorem snoc_get {cs : List AV} {i : Nat} {x : AV} (h : cs.length = i) : (cs ++ [x]).getD i .j = x := by
  subst h; simp
theorem snoc_set {cs : List AV} {i : Nat} {x y : AV} (h : cs.length = i) : splice (cs ++ [x]) i [y] = cs ++ [y] := by
  rw [splice_one _ _ _ (by simp [h])]
  subst h; simp
theorem rev_get {xs : List Int} {i : Nat} (h : i < xs.length) : xs.reverse.getD i 0 = xs.getD (xs.length - 1 - i) 0 := by
  simp [List.getD_eq_getElem?_getD, List.getElem?_reverse h]
set_option maxHeartbeats 4000000 in
theorem impl_fromPrimary_ok (p : Int) (xs : List Int) (h : Parts p xs) : ACo Try.prog 39 [ints xs, .i .i64 0] (.t [abl xs, .i .i64 0]) := by
 have hl := h.ok.len
 have z2 : decide ((0 : Int) > 10) = false := rfl
 have z5 : (0 ≤ ((0 : Nat) : Int)) = True := by simp
 intro nx
 refine AC.intro' envOk Try.func39 rfl (by kernel_rfl) Try.ntmps39 Try.results39 ?_
 refine AW.sr envOk (fun N hN => ?_)
 simp -dsimp -implicitDefEqProofs (maxSteps := 800000) (disch := omega) only [go_sem, undef, reduceAdd, reduceSub, reduceGT, reduceEqDiff, reduceMul, ints, w64, gd_i]
 refine hN _ ?_
 try clear hN N
 refine AW.sr envOk (fun N hN => ?_)
 simp -dsimp -implicitDefEqProofs (maxSteps := 800000) (disch := omega) only [go_sem, undef, reduceAdd, reduceSub, reduceGT, reduceEqDiff, reduceMul, ints, w64, gd_i]
 refine hN _ ?_
 try clear hN N
 refine AW.seq (fun N1 hN1 => ?_)
 refine AW.sr envOk (fun N hN => ?_)
 simp -dsimp -implicitDefEqProofs (maxSteps := 800000) (disch := omega) only [go_sem, undef, reduceAdd, reduceSub, reduceGT, reduceEqDiff, reduceMul, ints, w64, gd_i]
 refine hN _ ?_
 try clear hN N
 refine AW.block ?_
 refine AW.loopN (α := Nat × Option Nat) (fun x => sl 92 [(1, .i .i64 0), (4, .q nx 0), (5, .i .i64 0), (6, .m (nx + 2)), (17, ints xs), (18, .i .i64 xs.length), (19, .i .i64 x.1)]) (fun x => fpH nx (nx + 2) p ((xs.take x.1).map (.i .i64)) x.2 x.1) (fun x m => x.1 ≤ xs.length ∧ (x.2 = none → x.1 = 0) ∧ (∀ id, x.2 = some id → nx + 2 < id ∧ id < m ∧ 1 ≤ x.1) ∧ nx + 7 ≤ m) (fun x => xs.length - x.1) ((0, none)) ?_ ?_ (by intro d cs hd; simp only [fpH, upd, noH] at hd ⊢; grind) ?_
 ·exact ⟨by simp, fun _ => rfl, fun id hid => (by cases hid), by first| omega| (simp only; omega)| (dsimp only; omega)⟩
 ·simp (disch := omega) [wks, wkA, sl, w64, ints, rows, cubes, ints, w64, gd_i] <;> omega
 ·skip
  rintro ⟨k, (_ | id)⟩ m ⟨hk, hk0, hid, hm⟩
  ·skip
   obtain rfl : k = 0 := hk0 rfl
   clear hk0 hid
   dsimp only [fpH]
   refine AW.nameH (fun G hG => ?_)
   dsimp only at hG
   have hGm : G (nx + 2) = some [] := by rw [← hG]; simp (disch := omega) only [upd_same, upd_ne]
   have hGr : G nx = some [.nl, .i .i64 0] := by rw [← hG]; simp (disch := omega) only [upd_same, upd_ne]
   have hGi := hGm
   have hGt := hGm
   simp -dsimp -implicitDefEqProofs (maxSteps := 800000) (disch := omega) only [go_sem, undef, reduceAdd, reduceSub, reduceGT, reduceEqDiff, reduceMul]
   refine AW.sr envOk (fun N hN => ?_)
   simp -dsimp -implicitDefEqProofs (maxSteps := 800000) (disch := omega) only [go_sem, undef, reduceAdd, reduceSub, reduceGT, reduceEqDiff, reduceMul, ints, w64, gd_i]
   refine hN _ ?_
   try clear hN N
   refine AW.seq (fun N2 hN2 => ?_)
   refine AW.cond rfl (fun h1 => ?_) (fun h1 => ?_)
   ·try simp only [cn] at h1
    obtain ⟨e, he1, he2, he3⟩ := h.pw 0 (by omega)
    have hfac := impl_factors_ok p h.pr e he1 he3
    rw [← he2] at hfac
    have htk := take_sI (xs := xs) (k := 0) (by omega)
    simp only [Nat.zero_add, List.take_zero, List.map_nil, List.nil_append] at htk
    refine AW.skip ?_
    simp only [thn, blk]
    refine hN2 _ ?_
    try clear hN2 N2
    refine AW.seq (fun N3 hN3 => ?_)
    refine AW.block ?_
    refine AW.sr envOk (fun N hN => ?_)
    simp -dsimp -implicitDefEqProofs (maxSteps := 800000) (disch := omega) only [go_sem, undef, reduceAdd, reduceSub, reduceGT, reduceEqDiff, reduceMul, ints, w64, gd_i]
    refine hN _ ?_
    try clear hN N
    refine AW.sr envOk (fun N hN => ?_)
    simp -dsimp -implicitDefEqProofs (maxSteps := 800000) (disch := omega) only [go_sem, undef, reduceAdd, reduceSub, reduceGT, reduceEqDiff, reduceMul, ints, w64, gd_i]
    refine AC.pure (.of (hfac )) ?_
    try simp -dsimp -implicitDefEqProofs (maxSteps := 800000) (disch := omega) only [go_sem, undef, reduceAdd, reduceSub, reduceGT, reduceEqDiff, reduceMul, ints, w64, gd_i]
    refine hN _ ?_
    try clear hN N
    refine AW.drawT envOk (by kernel_rfl) [true, true, true, true, true, true, true, true, false, true, false, false, false] (.br 8 (.br 10 (.br 11 (.br 12 .nil .nil) .nil) .nil) (.br 10 (.br 8 (.br 11 (.br 12 .nil .nil) .nil) .nil) .nil)) (by kernel_rfl) ?_
    simp -dsimp -implicitDefEqProofs (maxSteps := 800000) (disch := omega) only [go_sem, undef, reduceAdd, reduceSub, reduceGT, reduceEqDiff, reduceMul, ints, w64, gd_i, hGm, hGi]
    refine ⟨?_, ?_⟩
    all_goals
     refine hN3 _ ?_
     try clear hN3 N3
     refine AW.regionL envOk ?_
     simp -dsimp -implicitDefEqProofs (maxSteps := 800000) (disch := omega) only [go_sem, undef, reduceAdd, reduceSub, reduceGT, reduceEqDiff, reduceMul, ints, w64, gd_i]
     refine ⟨(1, some (m + 22)), ?_, by rw [← hG]; intro d cs hd; simp only [fpH, upd, noH, htk] at hd ⊢; grind, ?_, ?_⟩
     ·simp (disch := omega) [wks, wkA, sl, w64, ints, rows, cubes, ints, w64, gd_i] <;> omega
     ·exact ⟨by first| omega| (simp only; omega)| (dsimp only; omega), fun h => (by cases h), fun id h => (by cases h; exact ⟨by omega, by omega, by simp⟩), by first| omega| (simp only; omega)| (dsimp only; omega)⟩
     ·first | omega | (simp only; omega)
   ·try simp only [cn] at h1
    obtain rfl : xs = [] := List.length_eq_zero_iff.1 (by omega)
    refine AW.exit ?_
    simp only [thn, blk, if_true]
    refine hN1 _ ?_
    try clear hN1 N1
    refine AW.sr envOk (fun N hN => ?_)
    simp -dsimp -implicitDefEqProofs (maxSteps := 800000) (disch := omega) only [go_sem, undef, reduceAdd, reduceSub, reduceGT, reduceEqDiff, reduceMul, ints, w64, gd_i]
    refine hN _ ?_
    try clear hN N
    refine AW.seq (fun N4 hN4 => ?_)
    refine AW.sr envOk (fun N hN => ?_)
    simp -dsimp -implicitDefEqProofs (maxSteps := 800000) (disch := omega) only [go_sem, undef, reduceAdd, reduceSub, reduceGT, reduceEqDiff, reduceMul, ints, w64, gd_i, hGm]
    refine hN _ ?_
    try clear hN N
    refine AW.block ?_
    refine AW.loopN (α := Nat) (fun x => sl 92 [(1, .i .i64 0), (4, .q nx 0), (5, .i .i64 0), (11, .nl), (42, .it (m + 3))]) (fun _ => upd G (m + 3) (some [.m (nx + 2), .i .i64 ((0 : Nat) : Int)])) (fun x m => x = 0) (fun x => 0) (0) ?_ ?_ (by exact Le.refl _) ?_
    ·rfl
    ·simp (disch := omega) [wks, wkA, sl, w64, ints, rows, cubes, ints, w64, gd_i] <;> omega
    ·skip
     rintro x m2 rfl
     simp -dsimp -implicitDefEqProofs (maxSteps := 800000) (disch := omega) only [go_sem, undef, reduceAdd, reduceSub, reduceGT, reduceEqDiff, reduceMul]
     refine AW.sr envOk (fun N hN => ?_)
     simp -dsimp -implicitDefEqProofs (maxSteps := 800000) (disch := omega) only [go_sem, undef, reduceAdd, reduceSub, reduceGT, reduceEqDiff, reduceMul, ints, w64, gd_i, hGm, hGt, z5]
     refine ⟨fun _ => ?_, fun j key val hj _ => absurd hj (by simp)⟩
     refine hN _ ?_
     try clear hN N
     refine AW.seq (fun N5 hN5 => ?_)
     refine AW.condF rfl ?_
     refine AW.exit ?_
     simp only [thn, blk, if_true]
     refine hN4 _ ?_
     try clear hN4 N4
     refine AW.sr envOk (fun N hN => ?_)
     simp -dsimp -implicitDefEqProofs (maxSteps := 800000) (disch := omega) only [go_sem, undef, reduceAdd, reduceSub, reduceGT, reduceEqDiff, reduceMul, ints, w64, gd_i]
     refine (slices_Reverse_nil _ _).mono2 ?_
     rintro m3 H3 r3 hm3 rfl
     try simp -dsimp -implicitDefEqProofs (maxSteps := 800000) (disch := omega) only [go_sem, undef, reduceAdd, reduceSub, reduceGT, reduceEqDiff, reduceMul, ints, w64, gd_i]
     refine hN _ ?_
     try clear hN N
     refine AW.seq (fun N6 hN6 => ?_)
     refine AW.sr envOk (fun N hN => ?_)
     simp -dsimp -implicitDefEqProofs (maxSteps := 800000) (disch := omega) only [go_sem, undef, reduceAdd, reduceSub, reduceGT, reduceEqDiff, reduceMul, ints, w64, gd_i, z2]
     refine hN _ ?_
     try clear hN N
     refine AW.condF rfl ?_
     refine AW.skip ?_
     simp only [thn, blk]
     refine hN6 _ ?_
     try clear hN6 N6
     refine AW.sr envOk (fun N hN => ?_)
     simp -dsimp -implicitDefEqProofs (maxSteps := 800000) (disch := omega) only [go_sem, undef, reduceAdd, reduceSub, reduceGT, reduceEqDiff, reduceMul, ints, w64, gd_i]
     refine (impl_abelianResult_o [] h.ok none _ _ (fun _ => rfl) (fun id h => by cases h)).mono2 ?_
     rintro m4 H4 r4 hm4 ⟨rfl, rfl⟩
     try simp -dsimp -implicitDefEqProofs (maxSteps := 800000) (disch := omega) only [go_sem, undef, reduceAdd, reduceSub, reduceGT, reduceEqDiff, reduceMul, lsA, hGr]
     refine hN _ ?_
     try clear hN N
     refine AW.ret ?_
     simp -dsimp -implicitDefEqProofs (maxSteps := 800000) (disch := omega) only [go_sem, undef, reduceAdd, reduceSub, reduceGT, reduceEqDiff, reduceMul]
     exact Own.abl (o := none) (fun _ => rfl) (fun id h => by cases h)
  ·skip
   obtain ⟨hid1, hid2, hk1⟩ := hid id rfl
   dsimp only at hk hk1
   clear hk0 hid
   dsimp only [fpH]
   refine AW.nameH (fun G hG => ?_)
   dsimp only at hG
   have hGm : G (nx + 2) = some [.g [.i .i64 p, .h id 0 k]] := by rw [← hG]; simp (disch := omega) only [upd_same, upd_ne]
   have hGr : G nx = some [.nl, .i .i64 0] := by rw [← hG]; simp (disch := omega) only [upd_same, upd_ne]
   have hGi : G id = some ((xs.take k).map (.i .i64)) := by rw [← hG]; simp (disch := omega) only [upd_same, upd_ne]
   have hlk : ((xs.take k).map (AV.i .i64)).length = k := by rw [List.length_map, List.length_take]; omega
   have htt : List.take k ((xs.take k).map (AV.i .i64)) = (xs.take k).map (AV.i .i64) := List.take_of_length_le (by omega)
   simp -dsimp -implicitDefEqProofs (maxSteps := 800000) (disch := omega) only [go_sem, undef, reduceAdd, reduceSub, reduceGT, reduceEqDiff, reduceMul]
   refine AW.sr envOk (fun N hN => ?_)
   simp -dsimp -implicitDefEqProofs (maxSteps := 800000) (disch := omega) only [go_sem, undef, reduceAdd, reduceSub, reduceGT, reduceEqDiff, reduceMul, ints, w64, gd_i]
   refine hN _ ?_
   try clear hN N
   refine AW.seq (fun N7 hN7 => ?_)
   refine AW.cond rfl (fun h2 => ?_) (fun h2 => ?_)
   ·try simp only [cn] at h2
    obtain ⟨e, he1, he2, he3⟩ := h.pw k (by omega)
    have hfac := impl_factors_ok p h.pr e he1 he3
    rw [← he2] at hfac
    have htk := take_sI (xs := xs) (k := k) (by omega)
    refine AW.skip ?_
    simp only [thn, blk]
    refine hN7 _ ?_
    try clear hN7 N7
    refine AW.seq (fun N8 hN8 => ?_)
    refine AW.block ?_
    refine AW.sr envOk (fun N hN => ?_)
    simp -dsimp -implicitDefEqProofs (maxSteps := 800000) (disch := omega) only [go_sem, undef, reduceAdd, reduceSub, reduceGT, reduceEqDiff, reduceMul, ints, w64, gd_i]
    refine hN _ ?_
    try clear hN N
    refine AW.sr envOk (fun N hN => ?_)
    simp -dsimp -implicitDefEqProofs (maxSteps := 800000) (disch := omega) only [go_sem, undef, reduceAdd, reduceSub, reduceGT, reduceEqDiff, reduceMul, ints, w64, gd_i]
    refine AC.pure (.of (hfac )) ?_
    try simp -dsimp -implicitDefEqProofs (maxSteps := 800000) (disch := omega) only [go_sem, undef, reduceAdd, reduceSub, reduceGT, reduceEqDiff, reduceMul, ints, w64, gd_i]
    refine hN _ ?_
    try clear hN N
    refine AW.drawT envOk (by kernel_rfl) [true, true, true, true, true, true, true, true, false, true, false, false, false] (.br 8 (.br 10 (.br 11 (.br 12 .nil .nil) .nil) .nil) (.br 10 (.br 8 (.br 11 (.br 12 .nil .nil) .nil) .nil) .nil)) (by kernel_rfl) ?_
    simp -dsimp -implicitDefEqProofs (maxSteps := 800000) (disch := omega) only [go_sem, undef, reduceAdd, reduceSub, reduceGT, reduceEqDiff, reduceMul, ints, w64, gd_i, hGm, hGi]
    refine ⟨?_, ?_⟩
    all_goals
     refine hN8 _ ?_
     try clear hN8 N8
     refine AW.regionL envOk ?_
     simp -dsimp -implicitDefEqProofs (maxSteps := 800000) (disch := omega) only [go_sem, undef, reduceAdd, reduceSub, reduceGT, reduceEqDiff, reduceMul, ints, w64, gd_i]
     refine ⟨(k + 1, some (m + 22)), ?_, by rw [← hG]; intro d cs hd; simp only [fpH, upd, noH, htk, htt] at hd ⊢; grind, ?_, ?_⟩
     ·simp (disch := omega) [wks, wkA, sl, w64, ints, rows, cubes, ints, w64, gd_i] <;> omega
     ·exact ⟨by first| omega| (simp only; omega)| (dsimp only; omega), fun h => (by cases h), fun id h => (by cases h; exact ⟨by omega, by omega, by simp⟩), by first| omega| (simp only; omega)| (dsimp only; omega)⟩
     ·first | omega | (simp only; omega)
   ·try simp only [cn] at h2
    obtain rfl : k = xs.length := by omega
    rw [List.take_length] at hGi
    refine AW.exit ?_
    simp only [thn, blk, if_true]
    refine hN1 _ ?_
    try clear hN1 N1
    refine AW.sr envOk (fun N hN => ?_)
    simp -dsimp -implicitDefEqProofs (maxSteps := 800000) (disch := omega) only [go_sem, undef, reduceAdd, reduceSub, reduceGT, reduceEqDiff, reduceMul, ints, w64, gd_i]
    refine hN _ ?_
    try clear hN N
    refine AW.seq (fun N9 hN9 => ?_)
    refine AW.sr envOk (fun N hN => ?_)
    simp -dsimp -implicitDefEqProofs (maxSteps := 800000) (disch := omega) only [go_sem, undef, reduceAdd, reduceSub, reduceGT, reduceEqDiff, reduceMul, ints, w64, gd_i, hGm]
    refine hN _ ?_
    try clear hN N
    refine AW.block ?_
    obtain ⟨mm, hmm⟩ : ∃ mm, mm = m + 4 := ⟨_, rfl⟩
    have hGt := hGm
    refine AW.loopN (α := Option Nat) (fun x => sl 92 [(1, .i .i64 0), (4, .q nx 0), (5, .i .i64 0), (11, lsA x xs.length), (42, .it (m + 3))]) (fp3 nx (nx + 2) (m + 3) xs.length id p xs G) (fun x m => mm ≤ m ∧ ∀ lid, x = some lid → mm ≤ lid ∧ lid < m) (fun x => if x = none then 1 else 0) (none) ?_ ?_ (by exact Le.refl _) ?_
    ·exact ⟨by first| omega| (simp only; omega)| (dsimp only; omega), fun lid h => (by cases h)⟩
    ·simp (disch := omega) [wks, wkA, sl, w64, ints, lsA]
    ·skip
     rintro (_ | lid) m3 ⟨hm3, hlid⟩
     ·skip
      clear hlid
      dsimp only [fp3, lsA]
      simp -dsimp -implicitDefEqProofs (maxSteps := 800000) (disch := omega) only [go_sem, undef, reduceAdd, reduceSub, reduceGT, reduceEqDiff, reduceMul]
      refine AW.sr envOk (fun N hN => ?_)
      simp -dsimp -implicitDefEqProofs (maxSteps := 800000) (disch := omega) only [go_sem, undef, reduceAdd, reduceSub, reduceGT, reduceEqDiff, reduceMul, ints, w64, gd_i, hGm, hGt, z5]
      refine ⟨fun hov => absurd (hov 0 (by simp)) (by simp), fun j key val hj hnj => ?_⟩
      obtain rfl : j = 0 := by
       have := (List.getElem?_eq_some_iff.1 hj).1
       simp at this
       omega
      cases hj
      refine hN _ ?_
      try clear hN N
      refine AW.seq (fun N10 hN10 => ?_)
      refine AW.condT rfl ?_
      refine AW.skip ?_
      simp only [thn, blk]
      refine hN10 _ ?_
      try clear hN10 N10
      refine AW.block ?_
      refine AW.sr envOk (fun N hN => ?_)
      simp -dsimp -implicitDefEqProofs (maxSteps := 800000) (disch := omega) only [go_sem, undef, reduceAdd, reduceSub, reduceGT, reduceEqDiff, reduceMul, ints, w64, gd_i, hGm, z5, List.getLast?_singleton, List.getElem?_cons_zero]
      refine hN _ ?_
      try clear hN N
      refine AW.nameH (fun G2 hG2 => ?_)
      dsimp only at hG2
      have g2i : G2 id = some (xs.map (.i .i64)) := by rw [← hG2, upd_ne _ _ (by omega)]; exact hGi
      have g2m : G2 (nx + 2) = some [.g [.i .i64 p, .h id 0 xs.length]] := by rw [← hG2, upd_ne _ _ (by omega)]; exact hGm
      have g2r : G2 nx = some [.nl, .i .i64 0] := by rw [← hG2, upd_ne _ _ (by omega)]; exact hGr
      have g2t : G2 (m + 3) = some [.m (nx + 2), .i .i64 ((1 : Nat) : Int), .i .i64 ((0 : Nat) : Int)] := by rw [← hG2, upd_same]
      have g2f : ∀ i, m3 ≤ i → G2 i = none := fun i hi => by
       rw [← hG2, upd_ne _ _ (by omega), ← hG, upd_ne _ _ (by omega), upd_ne _ _ (by omega), upd_ne _ _ (by omega)]; rfl
      simp -dsimp -implicitDefEqProofs (maxSteps := 800000) (disch := omega) only [go_sem, undef, reduceAdd, reduceSub, reduceGT, reduceEqDiff, reduceMul]
      refine AW.sr envOk (fun N hN => ?_)
      simp -dsimp -implicitDefEqProofs (maxSteps := 800000) (disch := omega) only [go_sem, undef, reduceAdd, reduceSub, reduceGT, reduceEqDiff, reduceMul, ints, w64, gd_i]
      refine (slices_Sort_o xs (by omega) h.up id _ _ g2i).mono2 ?_
      rintro m4 H4 r4 hm4 rfl
      try simp -dsimp -implicitDefEqProofs (maxSteps := 800000) (disch := omega) only [go_sem, undef, reduceAdd, reduceSub, reduceGT, reduceEqDiff, reduceMul, ints, w64, gd_i]
      refine hN _ ?_
      try clear hN N
      refine AW.sr envOk (fun N hN => ?_)
      simp -dsimp -implicitDefEqProofs (maxSteps := 800000) (disch := omega) only [go_sem, undef, reduceAdd, reduceSub, reduceGT, reduceEqDiff, reduceMul, ints, w64, gd_i]
      refine (slices_Reverse_o xs.length (by omega) (fun j => xs.getD j 0) _ _ id (by rw [← map_ivs]; exact g2i)).mono2 ?_
      rintro m5 H5 r5 hm5 rfl
      try simp -dsimp -implicitDefEqProofs (maxSteps := 800000) (disch := omega) only [go_sem, undef, reduceAdd, reduceSub, reduceGT, reduceEqDiff, reduceMul, ints, w64, gd_i]
      refine hN _ ?_
      try clear hN N
      refine AW.nameH (fun G3 hG3 => ?_)
      dsimp only at hG3
      rw [rev_ivs] at hG3
      have g3i : G3 id = some (xs.reverse.map (.i .i64)) := by rw [← hG3, upd_same]
      have g3m : G3 (nx + 2) = some [.g [.i .i64 p, .h id 0 xs.length]] := by rw [← hG3, upd_ne _ _ (by omega)]; exact g2m
      have g3r : G3 nx = some [.nl, .i .i64 0] := by rw [← hG3, upd_ne _ _ (by omega)]; exact g2r
      have g3t : G3 (m + 3) = some [.m (nx + 2), .i .i64 ((1 : Nat) : Int), .i .i64 ((0 : Nat) : Int)] := by rw [← hG3, upd_ne _ _ (by omega)]; exact g2t
      have g3f : ∀ i, m3 ≤ i → G3 i = none := fun i hi => by rw [← hG3, upd_ne _ _ (by omega)]; exact g2f i hi
      have hrl : xs.reverse.length = xs.length := List.length_reverse
      simp -dsimp -implicitDefEqProofs (maxSteps := 800000) (disch := omega) only [go_sem, undef, reduceAdd, reduceSub, reduceGT, reduceEqDiff, reduceMul]
      refine AW.sr envOk (fun N hN => ?_)
      simp -dsimp -implicitDefEqProofs (maxSteps := 800000) (disch := omega) only [go_sem, undef, reduceAdd, reduceSub, reduceGT, reduceEqDiff, reduceMul, ints, w64, gd_i]
      refine hN _ ?_
      try clear hN N
      refine AW.block ?_
      refine AW.loopN (α := Nat × Option Nat) (fun x => sl 92 [(1, .i .i64 0), (4, .q nx 0), (5, .i .i64 0), (11, lsA x.2 x.1), (42, .it (m + 3)), (51, .h id 0 xs.length), (52, .i .i64 xs.length), (53, .i .i64 x.1)]) (fun x => oH G3 x.2 ((xs.reverse.take x.1).map (.i .i64))) (fun x m => x.1 ≤ xs.length ∧ (x.2 = none → x.1 = 0) ∧ m5 ≤ m ∧ ∀ lid, x.2 = some lid → m5 ≤ lid ∧ lid < m ∧ 1 ≤ x.1) (fun x => xs.length - x.1) ((0, none)) ?_ ?_ (by exact Le.refl _) ?_
      ·exact ⟨by simp, fun _ => rfl, by first| omega| (simp only; omega)| (dsimp only; omega), fun lid h => (by cases h)⟩
      ·simp (disch := omega) [wks, wkA, sl, w64, ints, lsA]
      ·skip
       rintro ⟨i, (_ | lid)⟩ m6 ⟨hi, hi0, hm6, hlid⟩
       ·skip
        obtain rfl : i = 0 := hi0 rfl
        clear hi0 hlid
        dsimp only [oH, lsA]
        simp -dsimp -implicitDefEqProofs (maxSteps := 800000) (disch := omega) only [go_sem, undef, reduceAdd, reduceSub, reduceGT, reduceEqDiff, reduceMul]
        refine AW.sr envOk (fun N hN => ?_)
        simp -dsimp -implicitDefEqProofs (maxSteps := 800000) (disch := omega) only [go_sem, undef, reduceAdd, reduceSub, reduceGT, reduceEqDiff, reduceMul, ints, w64, gd_i]
        refine hN _ ?_
        try clear hN N
        refine AW.seq (fun N11 hN11 => ?_)
        refine AW.cond rfl (fun h3 => ?_) (fun h3 => ?_)
        ·try simp only [cn] at h3
         have hq := rev_get (xs := xs) (i := 0) (by omega)
         obtain ⟨e, he1, he2, he3⟩ := h.pw (xs.length - 1 - 0) (by omega)
         have hqr := h.ok.rng (xs.length - 1 - 0) (by omega)
         rw [← hq] at he2 hqr
         have hqd : 1 ≤ (1000000 : Int).tdiv (xs.reverse.getD 0 0) := by
          rw [Int.tdiv_eq_ediv_of_nonneg (by omega)]
          exact Int.le_ediv_of_mul_le (by omega) (by omega)
         have hqd2 : (1000000 : Int).tdiv (xs.reverse.getD 0 0) ≤ 1000000 := by
          rw [Int.tdiv_eq_ediv_of_nonneg (by omega)]
          exact Int.ediv_le_self _ (by omega)
         have htk := take_sI (xs := xs.reverse) (k := 0) (by omega)
         simp only [Nat.zero_add, List.take_zero, List.map_nil, List.nil_append] at htk
         have hsg := g3i
         have hss := g3i
         have htt2 := g3i
         refine AW.skip ?_
         simp only [thn, blk]
         refine hN11 _ ?_
         try clear hN11 N11
         refine AW.seq (fun N12 hN12 => ?_)
         refine AW.block ?_
         refine AW.sr envOk (fun N hN => ?_)
         simp -dsimp -implicitDefEqProofs (maxSteps := 800000) (disch := omega) only [go_sem, undef, reduceAdd, reduceSub, reduceGT, reduceEqDiff, reduceMul, ints, w64, gd_i, g3i]
         refine hN _ ?_
         try clear hN N
         refine AW.seq (fun N13 hN13 => ?_)
         refine AW.sr envOk (fun N hN => ?_)
         simp -dsimp -implicitDefEqProofs (maxSteps := 800000) (disch := omega) only [go_sem, undef, reduceAdd, reduceSub, reduceGT, reduceEqDiff, reduceMul, ints, w64, gd_i]
         refine hN _ ?_
         try clear hN N
         refine AW.cond rfl (fun h4 => ?_) (fun h4 => ?_)
         ·try simp only [cn] at h4
          refine AW.regionL envOk ?_
          simp -dsimp -implicitDefEqProofs (maxSteps := 800000) (disch := omega) only [go_sem, undef, reduceAdd, reduceSub, reduceGT, reduceEqDiff, reduceMul, ints, w64, gd_i, htt2]
          refine hN13 _ ?_
          try clear hN13 N13
          refine AW.seq (fun N14 hN14 => ?_)
          refine AW.seq (fun N hN => ?_)
          refine AW.drawL envOk (by kernel_rfl) 7 (by kernel_rfl) ?_
          simp -dsimp -implicitDefEqProofs (maxSteps := 800000) (disch := omega) only [hr_nil, hr_one, hr_if, List.take_succ_cons, List.take_zero, List.drop_succ_cons, List.drop_zero, List.take_nil, List.drop_nil, go_sem, undef, reduceAdd, reduceSub, reduceGT, reduceEqDiff, reduceMul, ints, w64, gd_i, hsg]
          refine hN _ ?_
          try clear hN N
          refine AW.cond rfl (fun h5 => ?_) (fun h5 => ?_)
          ·try simp only [cn] at h5
           exact absurd h5 (by omega)
          ·try simp only [cn] at h5
           refine AW.skip ?_
           simp only [thn, blk]
           refine hN14 _ ?_
           try clear hN14 N14
           refine AW.regionL envOk ?_
           simp -dsimp -implicitDefEqProofs (maxSteps := 800000) (disch := omega) only [go_sem, undef, reduceAdd, reduceSub, reduceGT, reduceEqDiff, reduceMul, ints, w64, gd_i, splice_one, List.set_cons_zero, hsg, hss]
           refine hN12 _ ?_
           try clear hN12 N12
           refine AW.regionL envOk ?_
           simp -dsimp -implicitDefEqProofs (maxSteps := 800000) (disch := omega) only [go_sem, undef, reduceAdd, reduceSub, reduceGT, reduceEqDiff, reduceMul, ints, w64, gd_i]
           refine ⟨(1, some (m6 + 12)), ?_, by intro d cs hd; simp only [oH, upd, htk, Int.one_mul] at hd ⊢; grind, ?_, ?_⟩
           ·simp (disch := omega) [wks, wkA, sl, w64, ints, rows, cubes, ints, w64, gd_i] <;> omega
           ·first| exact ⟨by first| omega| (simp only; omega)| (dsimp only; omega), fun h => (by cases h), by first| omega| (simp only; omega)| (dsimp only; omega), fun lid h => (by cases h; exact ⟨by omega, by omega, by simp⟩)⟩| exact ⟨by first| omega| (simp only; omega)| (dsimp only; omega), fun h => (by cases h), fun lid h => (by cases h; exact ⟨by omega, by omega, by simp⟩)⟩
           ·first | omega | (simp only; omega)
         ·try simp only [cn] at h4
          exact absurd h4 (by simp)
        ·try simp only [cn] at h3
         exact absurd h3 (by omega)
       ·skip
        obtain ⟨hl1, hl2, hl3⟩ := hlid lid rfl
        dsimp only at hi hl3
        clear hi0 hlid
        have hlk2 : ((xs.reverse.take i).map (AV.i .i64)).length = i := by rw [List.length_map, List.length_take]; omega
        have htt2 : List.take i ((xs.reverse.take i).map (AV.i .i64)) = (xs.reverse.take i).map (AV.i .i64) := List.take_of_length_le (by omega)
        dsimp only [oH, lsA]
        simp -dsimp -implicitDefEqProofs (maxSteps := 800000) (disch := omega) only [go_sem, undef, reduceAdd, reduceSub, reduceGT, reduceEqDiff, reduceMul]
        refine AW.sr envOk (fun N hN => ?_)
        simp -dsimp -implicitDefEqProofs (maxSteps := 800000) (disch := omega) only [go_sem, undef, reduceAdd, reduceSub, reduceGT, reduceEqDiff, reduceMul, ints, w64, gd_i]
        refine hN _ ?_
        try clear hN N
        refine AW.seq (fun N15 hN15 => ?_)
        refine AW.cond rfl (fun h6 => ?_) (fun h6 => ?_)
        ·try simp only [cn] at h6
         have hG3l : G3 lid = none := g3f lid (by omega)
         have hG3b : G3 (m6 + 11) = none := g3f _ (by omega)
         have hq := rev_get (xs := xs) (i := i) (by omega)
         obtain ⟨e, he1, he2, he3⟩ := h.pw (xs.length - 1 - i) (by omega)
         have hqr := h.ok.rng (xs.length - 1 - i) (by omega)
         rw [← hq] at he2 hqr
         have hqd : 1 ≤ (1000000 : Int).tdiv (xs.reverse.getD i 0) := by
          rw [Int.tdiv_eq_ediv_of_nonneg (by omega)]
          exact Int.le_ediv_of_mul_le (by omega) (by omega)
         have hqd2 : (1000000 : Int).tdiv (xs.reverse.getD i 0) ≤ 1000000 := by
          rw [Int.tdiv_eq_ediv_of_nonneg (by omega)]
          exact Int.ediv_le_self _ (by omega)
         have htk := take_sI (xs := xs.reverse) (k := i) (by omega)
         refine AW.skip ?_
         simp only [thn, blk]
         refine hN15 _ ?_
         try clear hN15 N15
         refine AW.seq (fun N16 hN16 => ?_)
         refine AW.block ?_
         refine AW.sr envOk (fun N hN => ?_)
         simp -dsimp -implicitDefEqProofs (maxSteps := 800000) (disch := omega) only [go_sem, undef, reduceAdd, reduceSub, reduceGT, reduceEqDiff, reduceMul, ints, w64, gd_i, g3i]
         refine hN _ ?_
         try clear hN N
         refine AW.seq (fun N17 hN17 => ?_)
         refine AW.sr envOk (fun N hN => ?_)
         simp -dsimp -implicitDefEqProofs (maxSteps := 800000) (disch := omega) only [go_sem, undef, reduceAdd, reduceSub, reduceGT, reduceEqDiff, reduceMul, ints, w64, gd_i]
         refine hN _ ?_
         try clear hN N
         refine AW.cond rfl (fun h7 => ?_) (fun h7 => ?_)
         ·try simp only [cn] at h7
          have hsg := snoc_get (x := .i .i64 1) hlk2
          have hss := fun y => snoc_set (x := .i .i64 1) (y := y) hlk2
          refine AW.regionL envOk ?_
          simp -dsimp -implicitDefEqProofs (maxSteps := 800000) (disch := omega) only [go_sem, undef, reduceAdd, reduceSub, reduceGT, reduceEqDiff, reduceMul, ints, w64, gd_i, htt2]
          refine hN17 _ ?_
          try clear hN17 N17
          refine AW.seq (fun N18 hN18 => ?_)
          refine AW.seq (fun N hN => ?_)
          refine AW.drawL envOk (by kernel_rfl) 7 (by kernel_rfl) ?_
          simp -dsimp -implicitDefEqProofs (maxSteps := 800000) (disch := omega) only [hr_nil, hr_one, hr_if, List.take_succ_cons, List.take_zero, List.drop_succ_cons, List.drop_zero, List.take_nil, List.drop_nil, go_sem, undef, reduceAdd, reduceSub, reduceGT, reduceEqDiff, reduceMul, ints, w64, gd_i, hsg]
          refine hN _ ?_
          try clear hN N
          refine AW.cond rfl (fun h8 => ?_) (fun h8 => ?_)
          ·try simp only [cn] at h8
           exact absurd h8 (by omega)
          ·try simp only [cn] at h8
           refine AW.skip ?_
           simp only [thn, blk]
           refine hN18 _ ?_
           try clear hN18 N18
           refine AW.regionL envOk ?_
           simp -dsimp -implicitDefEqProofs (maxSteps := 800000) (disch := omega) only [go_sem, undef, reduceAdd, reduceSub, reduceGT, reduceEqDiff, reduceMul, ints, w64, gd_i, splice_one, List.set_cons_zero, hsg, hss]
           refine hN16 _ ?_
           try clear hN16 N16
           refine AW.regionL envOk ?_
           simp -dsimp -implicitDefEqProofs (maxSteps := 800000) (disch := omega) only [go_sem, undef, reduceAdd, reduceSub, reduceGT, reduceEqDiff, reduceMul, ints, w64, gd_i]
           refine ⟨(i + 1, some (m6 + 12)), ?_, by intro d cs hd; simp only [oH, upd, htk, Int.one_mul] at hd ⊢; grind, ?_, ?_⟩
           ·simp (disch := omega) [wks, wkA, sl, w64, ints, rows, cubes, ints, w64, gd_i] <;> omega
           ·first| exact ⟨by first| omega| (simp only; omega)| (dsimp only; omega), fun h => (by cases h), by first| omega| (simp only; omega)| (dsimp only; omega), fun lid h => (by cases h; exact ⟨by omega, by omega, by simp⟩)⟩| exact ⟨by first| omega| (simp only; omega)| (dsimp only; omega), fun h => (by cases h), fun lid h => (by cases h; exact ⟨by omega, by omega, by simp⟩)⟩
           ·first | omega | (simp only; omega)
         ·try simp only [cn] at h7
          exact absurd h7 (by simp)
        ·try simp only [cn] at h6
         obtain rfl : i = xs.length := by omega
         have htl : xs.reverse.take xs.length = xs.reverse := List.take_of_length_le (by omega)
         have hle : Le (fp3 nx (nx + 2) (m + 3) xs.length id p xs G (some lid)) (upd G3 lid (some ((xs.reverse.take xs.length).map (AV.i .i64)))) := by
          rw [htl]; exact fp3_le g3m g3r g3t
         refine AW.exit ?_
         simp only [thn, blk, if_true]
         refine ⟨some lid, ?_, hle, ?_, ?_⟩
         ·simp (disch := omega) [wks, wkA, sl, w64, ints, lsA]
         ·first| exact ⟨by first| omega| (simp only; omega)| (dsimp only; omega), fun l h => (by cases h; exact ⟨by omega, by omega⟩)⟩| exact fun l h => (by cases h; exact ⟨by omega, by omega⟩)
         ·simp
     ·skip
      obtain ⟨hl1, hl2⟩ := hlid lid rfl
      clear hGt hGm hGr
      dsimp only [fp3, lsA]
      refine AW.nameH (fun G4 hG4 => ?_)
      dsimp only at hG4
      have hGl : G4 lid = some (xs.reverse.map (.i .i64)) := by rw [← hG4, upd_same]
      have hGt : G4 (m + 3) = some [.m (nx + 2), .i .i64 ((1 : Nat) : Int), .i .i64 ((0 : Nat) : Int)] := by rw [← hG4, upd_ne _ _ (by omega), upd_same]
      have hGm : G4 (nx + 2) = some [.g [.i .i64 p, .h id 0 xs.length]] := by rw [← hG4, upd_ne _ _ (by omega), upd_ne _ _ (by omega), upd_same]
      have hGr : G4 nx = some [.nl, .i .i64 0] := by rw [← hG4, upd_ne _ _ (by omega), upd_ne _ _ (by omega), upd_ne _ _ (by omega), upd_same]
      simp -dsimp -implicitDefEqProofs (maxSteps := 800000) (disch := omega) only [go_sem, undef, reduceAdd, reduceSub, reduceGT, reduceEqDiff, reduceMul]
      refine AW.sr envOk (fun N hN => ?_)
      simp -dsimp -implicitDefEqProofs (maxSteps := 800000) (disch := omega) only [go_sem, undef, reduceAdd, reduceSub, reduceGT, reduceEqDiff, reduceMul, ints, w64, gd_i, hGm, hGt, z5]
      refine ⟨fun _ => ?_, fun j key val hj hnj => absurd (show j ∈ [0] from by
        have := (List.getElem?_eq_some_iff.1 hj).1
        simp at this
        simp [this]) hnj⟩
      refine hN _ ?_
      try clear hN N
      refine AW.seq (fun N19 hN19 => ?_)
      refine AW.condF rfl ?_
      refine AW.exit ?_
      simp only [thn, blk, if_true]
      refine hN9 _ ?_
      try clear hN9 N9
      refine AW.sr envOk (fun N hN => ?_)
      simp -dsimp -implicitDefEqProofs (maxSteps := 800000) (disch := omega) only [go_sem, undef, reduceAdd, reduceSub, reduceGT, reduceEqDiff, reduceMul, ints, w64, gd_i]
      refine (slices_Reverse_o xs.length (by omega) (fun j => xs.reverse.getD j 0) _ _ lid (by rw [show ivs xs.length (fun j => xs.reverse.getD j 0) = xs.reverse.map (AV.i .i64) from by rw [map_ivs, List.length_reverse]]; exact hGl)).mono2 ?_
      rintro m7 H7 r7 hm7 rfl
      try simp -dsimp -implicitDefEqProofs (maxSteps := 800000) (disch := omega) only [go_sem, undef, reduceAdd, reduceSub, reduceGT, reduceEqDiff, reduceMul, ints, w64, gd_i]
      refine hN _ ?_
      try clear hN N
      refine AW.seq (fun N20 hN20 => ?_)
      refine AW.sr envOk (fun N hN => ?_)
      simp -dsimp -implicitDefEqProofs (maxSteps := 800000) (disch := omega) only [go_sem, undef, reduceAdd, reduceSub, reduceGT, reduceEqDiff, reduceMul, ints, w64, gd_i, z2]
      refine hN _ ?_
      try clear hN N
      refine AW.condF rfl ?_
      refine AW.skip ?_
      simp only [thn, blk]
      refine hN20 _ ?_
      try clear hN20 N20
      refine AW.sr envOk (fun N hN => ?_)
      simp -dsimp -implicitDefEqProofs (maxSteps := 800000) (disch := omega) only [go_sem, undef, reduceAdd, reduceSub, reduceGT, reduceEqDiff, reduceMul, ints, w64, gd_i]
      refine (impl_abelianResult_o xs h.ok (some lid) _ _ (fun h => by cases h) (fun id h => by cases h; rw [upd_same, rev_ivs2])).mono2 ?_
      rintro m8 H8 r8 hm8 ⟨rfl, rfl⟩
      try simp -dsimp -implicitDefEqProofs (maxSteps := 800000) (disch := omega) only [go_sem, undef, reduceAdd, reduceSub, reduceGT, reduceEqDiff, reduceMul, lsA, hGr]
      refine hN _ ?_
      try clear hN N
      refine AW.ret ?_
      simp -dsimp -implicitDefEqProofs (maxSteps := 800000) (disch := omega) only [go_sem, undef, reduceAdd, reduceSub, reduceGT, reduceEqDiff, reduceMul]
      exact Own.abl (o := some lid) (fun h => by cases h) (fun id h => by cases h; exact ⟨by rw [upd_ne _ _ (by omega), upd_same, rev_ivs2], by omega, by omega⟩)
end Go.Proofs.Ytkmgmjajbiddbaa
