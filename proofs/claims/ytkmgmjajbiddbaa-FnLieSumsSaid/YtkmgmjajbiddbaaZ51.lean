import Derived.Test.YtkmgmjajbiddbaaZ42
import Derived.Test.YtkmgmjajbiddbaaZ50
set_option linter.unusedVariables false
set_option linter.unusedSimpArgs false
namespace Go.Proofs.Ytkmgmjajbiddbaa
open Nat (reduceAdd reduceSub reduceGT reduceEqDiff reduceMul)
theorem laws_likeAbelian5_e (xs : List Int) (h : xs.length ≤ 1048576) : ACp Try.prog 25 [abl xs, abl xs] (.b true) := by
 refine ACp.intro' envOk Try.func25 rfl (by kernel_rfl) Try.ntmps25 Try.results25 (.b _) (fun nx => ?_)
 refine AW.sr envOk (fun N hN => ?_)
 simp -dsimp -implicitDefEqProofs (disch := omega) only [go_sem, undef, reduceAdd, reduceSub, reduceGT, reduceEqDiff, reduceMul, abl, w64]
 refine hN _ ?_
 try clear hN N
 refine AW.sr envOk (fun N hN => ?_)
 simp -dsimp -implicitDefEqProofs (disch := omega) only [go_sem, undef, reduceAdd, reduceSub, reduceGT, reduceEqDiff, reduceMul, abl, w64, beq_self_eq_true]
 refine AC.pure (.of (laws_likeInts_e xs h )) ?_
 try simp -dsimp -implicitDefEqProofs (disch := omega) only [go_sem, undef, reduceAdd, reduceSub, reduceGT, reduceEqDiff, reduceMul, abl, w64]
 refine hN _ ?_
 try clear hN N
 refine AW.ret ?_
 simp -dsimp -implicitDefEqProofs (disch := omega) only [go_sem, undef, reduceAdd, reduceSub, reduceGT, reduceEqDiff, reduceMul]
 skip
theorem nr_ii (a b : Int) : NR (.t [.i .i64 a, .i .i64 b]) := NR.t _ fun k x hx => by
  match k, hx with
  | 0, hx => cases hx; exact .i _ _
  | 1, hx => cases hx; exact .i _ _
def prdL (xs : List Int) : Nat → Int
  | 0 => 1
  | k + 1 => prdL xs k * xs.getD k 0
theorem impl_countProduct_ok (xs : List Int) (hl : xs.length ≤ 1000) (h : ∀ k, k ≤ xs.length → 1 ≤ prdL xs k ∧ prdL xs k ≤ 1000000) (h1' : ∀ k, k < xs.length → 1 ≤ xs.getD k 0 ∧ xs.getD k 0 ≤ 1000000) : ACp Try.prog 56 [ints xs] (.t [.i .i64 (prdL xs xs.length), .i .i64 0]) := by
 refine ACp.intro' envOk Try.func56 rfl (by kernel_rfl) Try.ntmps56 Try.results56 (nr_ii _ _) (fun nx => ?_)
 refine AW.sr envOk (fun N hN => ?_)
 simp -dsimp -implicitDefEqProofs (disch := omega) only [go_sem, undef, reduceAdd, reduceSub, reduceGT, reduceEqDiff, reduceMul, ints, w64, gd_i]
 refine hN _ ?_
 try clear hN N
 refine AW.sr envOk (fun N hN => ?_)
 simp -dsimp -implicitDefEqProofs (disch := omega) only [go_sem, undef, reduceAdd, reduceSub, reduceGT, reduceEqDiff, reduceMul, ints, w64, gd_i]
 refine hN _ ?_
 try clear hN N
 refine AW.seq (fun N1 hN1 => ?_)
 refine AW.sr envOk (fun N hN => ?_)
 simp -dsimp -implicitDefEqProofs (disch := omega) only [go_sem, undef, reduceAdd, reduceSub, reduceGT, reduceEqDiff, reduceMul, ints, w64, gd_i]
 refine hN _ ?_
 try clear hN N
 refine AW.block ?_
 refine AW.loopN (α := Nat) (fun x => sl 22 [(4, .i .i64 (prdL xs x)), (7, ints xs), (8, .i .i64 xs.length), (9, .i .i64 x)]) (fun _ => noH) (fun x m => x ≤ xs.length) (fun x => xs.length - x) (0) ?_ ?_ (fun _ _ h => h) ?_
 ·simp
 ·simp (disch := omega) [wks, wkA, sl, ints, prdL]
 ·skip
  rintro k m hk
  obtain ⟨b1, b2⟩ := h k hk
  simp -dsimp -implicitDefEqProofs (disch := omega) only [go_sem, undef, reduceAdd, reduceSub, reduceGT, reduceEqDiff, reduceMul]
  refine AW.sr envOk (fun N hN => ?_)
  simp -dsimp -implicitDefEqProofs (disch := omega) only [go_sem, undef, reduceAdd, reduceSub, reduceGT, reduceEqDiff, reduceMul, ints, w64, gd_i]
  refine hN _ ?_
  try clear hN N
  refine AW.seq (fun N2 hN2 => ?_)
  refine AW.cond rfl (fun h1 => ?_) (fun h1 => ?_)
  ·try simp only [cn] at h1
   obtain ⟨b3, b4⟩ := h (k + 1) (by omega)
   obtain ⟨b5, b6⟩ := h1' k (by omega)
   have hqd : 1000000 ≤ (1000000000000000 : Int).tdiv (prdL xs k) := by
    rw [Int.tdiv_eq_ediv_of_nonneg (by omega)]
    exact Int.le_ediv_of_mul_le (by omega) (by omega)
   have hqd2 : (1000000000000000 : Int).tdiv (prdL xs k) ≤ 1000000000000000 := by
    rw [Int.tdiv_eq_ediv_of_nonneg (by omega)]
    exact Int.ediv_le_self _ (by omega)
   have hpm : prdL xs k * xs.getD k 0 = prdL xs (k + 1) := rfl
   refine AW.skip ?_
   simp only [thn, blk]
   refine hN2 _ ?_
   try clear hN2 N2
   refine AW.seq (fun N3 hN3 => ?_)
   refine AW.block ?_
   refine AW.sr envOk (fun N hN => ?_)
   simp -dsimp -implicitDefEqProofs (disch := omega) only [go_sem, undef, reduceAdd, reduceSub, reduceGT, reduceEqDiff, reduceMul, ints, w64, gd_i]
   refine hN _ ?_
   try clear hN N
   refine AW.seq (fun N4 hN4 => ?_)
   refine AW.sr envOk (fun N hN => ?_)
   simp -dsimp -implicitDefEqProofs (disch := omega) only [go_sem, undef, reduceAdd, reduceSub, reduceGT, reduceEqDiff, reduceMul, ints, w64, gd_i]
   refine hN _ ?_
   try clear hN N
   refine AW.cond rfl (fun h2 => ?_) (fun h2 => ?_)
   ·try simp only [cn] at h2
    exact absurd h2 (by omega)
   ·try simp only [cn] at h2
    refine AW.skip ?_
    simp only [thn, blk]
    refine hN4 _ ?_
    try clear hN4 N4
    refine AW.regionL envOk ?_
    simp -dsimp -implicitDefEqProofs (disch := omega) only [go_sem, undef, reduceAdd, reduceSub, reduceGT, reduceEqDiff, reduceMul, ints, w64, gd_i, hpm]
    refine hN3 _ ?_
    try clear hN3 N3
    refine AW.regionL envOk ?_
    simp -dsimp -implicitDefEqProofs (disch := omega) only [go_sem, undef, reduceAdd, reduceSub, reduceGT, reduceEqDiff, reduceMul, ints, w64, gd_i]
    refine ⟨k + 1, ?_, fun _ _ h => h, ?_, ?_⟩
    ·simp (disch := omega) [wks, wkA, sl, w64, ints, hpm]
    ·omega
    ·first | omega | (simp only; omega)
  ·try simp only [cn] at h1
   refine AW.exit ?_
   simp only [thn, blk, if_true]
   refine hN1 _ ?_
   try clear hN1 N1
   refine AW.sr envOk (fun N hN => ?_)
   simp -dsimp -implicitDefEqProofs (disch := omega) only [go_sem, undef, reduceAdd, reduceSub, reduceGT, reduceEqDiff, reduceMul, ints, w64, gd_i]
   refine hN _ ?_
   try clear hN N
   refine AW.ret ?_
   simp -dsimp -implicitDefEqProofs (disch := omega) only [go_sem, undef, reduceAdd, reduceSub, reduceGT, reduceEqDiff, reduceMul]
   rw [show k = xs.length by omega]
theorem impl_AbelianOrder_ok (xs : List Int) (h : AblOk xs) (hp : ∀ k, k ≤ xs.length → 1 ≤ prdL xs k ∧ prdL xs k ≤ 1000000) : ACp Try.prog 27 [abl xs] (.t [.i .i64 (prdL xs xs.length), .i .i64 0]) := by
 have hl := h.len
 have z2 : decide ((0 : Int) > 0) = false := rfl
 refine ACp.intro' envOk Try.func27 rfl (by kernel_rfl) Try.ntmps27 Try.results27 (nr_ii _ _) (fun nx => ?_)
 refine AW.sr envOk (fun N hN => ?_)
 simp -dsimp -implicitDefEqProofs (disch := omega) only [go_sem, undef, reduceAdd, reduceSub, reduceGT, reduceEqDiff, reduceMul, abl, w64]
 refine hN _ ?_
 try clear hN N
 refine AW.freezeQ 1 nx _ rfl (upd_same _ _ _) ?_
 simp -dsimp -implicitDefEqProofs (disch := omega) only [go_sem, undef, reduceAdd, reduceSub, reduceGT, reduceEqDiff, reduceMul]
 refine AW.seq (fun N1 hN1 => ?_)
 refine AW.sr envOk (fun N hN => ?_)
 simp -dsimp -implicitDefEqProofs (disch := omega) only [go_sem, undef, reduceAdd, reduceSub, reduceGT, reduceEqDiff, reduceMul, abl, w64]
 refine AC.pure (.of (impl_IsAbelian_yes xs h )) ?_
 try simp -dsimp -implicitDefEqProofs (disch := omega) only [go_sem, undef, reduceAdd, reduceSub, reduceGT, reduceEqDiff, reduceMul, abl, w64]
 refine hN _ ?_
 try clear hN N
 refine AW.cond rfl (fun h1 => ?_) (fun h1 => ?_)
 ·try simp only [cn] at h1
  cases h1
 ·try simp only [cn] at h1
  refine AW.skip ?_
  simp only [thn, blk]
  refine hN1 _ ?_
  try clear hN1 N1
  refine AW.seq (fun N2 hN2 => ?_)
  refine AW.sr envOk (fun N hN => ?_)
  simp -dsimp -implicitDefEqProofs (disch := omega) only [go_sem, undef, reduceAdd, reduceSub, reduceGT, reduceEqDiff, reduceMul, abl, w64, z2]
  refine hN _ ?_
  try clear hN N
  refine AW.condF rfl ?_
  refine AW.skip ?_
  simp only [thn, blk]
  refine hN2 _ ?_
  try clear hN2 N2
  refine AW.sr envOk (fun N hN => ?_)
  simp -dsimp -implicitDefEqProofs (disch := omega) only [go_sem, undef, reduceAdd, reduceSub, reduceGT, reduceEqDiff, reduceMul, abl, w64]
  refine AC.pure (.of (impl_countProduct_ok xs (by omega) hp (fun k hk => by have := h.rng k hk; omega))) ?_
  try simp -dsimp -implicitDefEqProofs (disch := omega) only [go_sem, undef, reduceAdd, reduceSub, reduceGT, reduceEqDiff, reduceMul, abl, w64]
  refine hN _ ?_
  try clear hN N
  refine AW.ret ?_
  simp -dsimp -implicitDefEqProofs (disch := omega) only [go_sem, undef, reduceAdd, reduceSub, reduceGT, reduceEqDiff, reduceMul]
  skip
def expL (xs : List Int) : Int := if xs.length = 0 then 1 else xs.getD (xs.length - 1) 0
theorem impl_ExponentOf_ok (xs : List Int) (h : AblOk xs) : ACp Try.prog 28 [abl xs] (.t [.i .i64 (expL xs), .i .i64 0]) := by
 have hl := h.len
 have z2 : decide ((0 : Int) > 0) = false := rfl
 have e7 : ((xs.length : Int) - 1).toNat = xs.length - 1 := by omega
 refine ACp.intro' envOk Try.func28 rfl (by kernel_rfl) Try.ntmps28 Try.results28 (nr_ii _ _) (fun nx => ?_)
 refine AW.sr envOk (fun N hN => ?_)
 simp -dsimp -implicitDefEqProofs (disch := omega) only [go_sem, undef, reduceAdd, reduceSub, reduceGT, reduceEqDiff, reduceMul, abl, w64, ints, gd_i, e7]
 refine hN _ ?_
 try clear hN N
 refine AW.freezeQ 1 nx _ rfl (upd_same _ _ _) ?_
 simp -dsimp -implicitDefEqProofs (disch := omega) only [go_sem, undef, reduceAdd, reduceSub, reduceGT, reduceEqDiff, reduceMul]
 refine AW.seq (fun N1 hN1 => ?_)
 refine AW.sr envOk (fun N hN => ?_)
 simp -dsimp -implicitDefEqProofs (disch := omega) only [go_sem, undef, reduceAdd, reduceSub, reduceGT, reduceEqDiff, reduceMul, abl, w64, ints, gd_i, e7]
 refine AC.pure (.of (impl_IsAbelian_yes xs h )) ?_
 try simp -dsimp -implicitDefEqProofs (disch := omega) only [go_sem, undef, reduceAdd, reduceSub, reduceGT, reduceEqDiff, reduceMul, abl, w64, ints, gd_i, e7]
 refine hN _ ?_
 try clear hN N
 refine AW.cond rfl (fun h1 => ?_) (fun h1 => ?_)
 ·try simp only [cn] at h1
  cases h1
 ·try simp only [cn] at h1
  refine AW.skip ?_
  simp only [thn, blk]
  refine hN1 _ ?_
  try clear hN1 N1
  refine AW.seq (fun N2 hN2 => ?_)
  refine AW.sr envOk (fun N hN => ?_)
  simp -dsimp -implicitDefEqProofs (disch := omega) only [go_sem, undef, reduceAdd, reduceSub, reduceGT, reduceEqDiff, reduceMul, abl, w64, ints, gd_i, e7, z2]
  refine hN _ ?_
  try clear hN N
  refine AW.condF rfl ?_
  refine AW.skip ?_
  simp only [thn, blk]
  refine hN2 _ ?_
  try clear hN2 N2
  refine AW.seq (fun N3 hN3 => ?_)
  refine AW.sr envOk (fun N hN => ?_)
  simp -dsimp -implicitDefEqProofs (disch := omega) only [go_sem, undef, reduceAdd, reduceSub, reduceGT, reduceEqDiff, reduceMul, abl, w64, ints, gd_i, e7]
  refine hN _ ?_
  try clear hN N
  refine AW.cond rfl (fun h2 => ?_) (fun h2 => ?_)
  ·try simp only [cn] at h2
   have hz : xs.length = 0 := by omega
   refine AW.sr envOk (fun N hN => ?_)
   simp -dsimp -implicitDefEqProofs (disch := omega) only [go_sem, undef, reduceAdd, reduceSub, reduceGT, reduceEqDiff, reduceMul, abl, w64, ints, gd_i, e7]
   refine hN _ ?_
   try clear hN N
   refine AW.ret ?_
   simp -dsimp -implicitDefEqProofs (disch := omega) only [go_sem, undef, reduceAdd, reduceSub, reduceGT, reduceEqDiff, reduceMul]
   rw [expL, if_pos hz]
  ·try simp only [cn] at h2
   have hz : ¬ xs.length = 0 := by omega
   refine AW.skip ?_
   simp only [thn, blk]
   refine hN3 _ ?_
   try clear hN3 N3
   refine AW.sr envOk (fun N hN => ?_)
   simp -dsimp -implicitDefEqProofs (disch := omega) only [go_sem, undef, reduceAdd, reduceSub, reduceGT, reduceEqDiff, reduceMul, abl, w64, ints, gd_i, e7]
   refine hN _ ?_
   try clear hN N
   refine AW.ret ?_
   simp -dsimp -implicitDefEqProofs (disch := omega) only [go_sem, undef, reduceAdd, reduceSub, reduceGT, reduceEqDiff, reduceMul]
   rw [expL, if_neg hz]
theorem prd_map {p : Int} {E : List Nat} : ∀ k, k ≤ E.length → prdL (E.map fun (e : Nat) => p ^ e) k = p ^ (E.take k).sum := by
  intro k
  induction k with
  | zero => intro _; simp [prdL]
  | succ k ih =>
    intro hk
    rw [prdL, ih (by omega), List.take_succ_eq_append_getElem (by omega), List.sum_append]
    simp [List.getD_eq_getElem?_getD, show k < E.length by omega, Int.pow_add]
theorem sum_take (E : List Nat) (k : Nat) : (E.take k).sum ≤ E.sum := by
  have h := congrArg List.sum (List.take_append_drop k E)
  rw [List.sum_append] at h
  omega
theorem prtE_sum {d W : Nat → Nat} (hd : ∀ k, d (k + 1) ≤ d k) (h0 : W 0 = 0) (hs : ∀ k, W (k + 1) = d k + W k) : ∀ k, (prtE d k).sum + k * d k = W k := by
  intro k
  induction k with
  | zero => simp [prtE, h0]
  | succ k ih =>
    obtain ⟨c, hc⟩ : ∃ c, d k = d (k + 1) + c := ⟨d k - d (k + 1), by have := hd k; omega⟩
    rw [prtE, List.sum_append, hs, ← ih, hc]
    have h1 : (List.replicate (d (k + 1) + c - d (k + 1)) (k + 1)).sum = c * (k + 1) := by
      rw [Nat.add_sub_cancel_left, List.sum_replicate_nat]
    rw [h1, Nat.mul_add k, Nat.mul_comm c, Nat.add_mul, Nat.add_mul, Nat.one_mul, Nat.one_mul]
    omega
theorem last_rep {l : List Int} {c : Nat} {x : Int} : (l ++ List.replicate (c + 1) x).getD ((l ++ List.replicate (c + 1) x).length - 1) 0 = x := by
  rw [List.replicate_succ', ← List.append_assoc]
  simp
section
variable {p : Int} {X : List (List Int)}
theorem add_prd (t : Tri p X) (hp : pr4 p) : prdL (addL p X) (addL p X).length = p ^ X.length ∧ ∀ k, k ≤ (addL p X).length → 1 ≤ prdL (addL p X) k ∧ prdL (addL p X) k ≤ p ^ X.length := by
  have hp2 := t.p2
  have hsum := prtE_sum (d := dK p X) (W := wK p X) (fun k => dK_le t hp k) (wK_z t hp) (fun k => wK_s t hp k) X.length
  have hz := dK_n t hp (wK_n t hp) 0
  rw [Nat.add_zero] at hz
  rw [hz, wK_n t hp, Nat.mul_zero, Nat.add_zero] at hsum
  unfold addL
  rw [prt_map]
  refine ⟨?_, fun k hk => ?_⟩
  · rw [List.length_map, prd_map _ (Nat.le_refl _), List.take_length, hsum]
  · rw [List.length_map] at hk
    rw [prd_map _ hk]
    refine ⟨pow_gt hp2 _, pw_le hp2 ?_⟩
    have := sum_take (prtE (dK p X) X.length) k
    omega
theorem add_exp (t : Tri p X) (hp : pr4 p) : ∃ e, expL (addL p X) = p ^ e ∧ e ≤ X.length ∧ ∀ f, Kil p X e f := by
  obtain ⟨e, h1, h2⟩ := least (P := fun k => dK p X k = 0) ⟨X.length, by have := dK_n t hp (wK_n t hp) 0; rwa [Nat.add_zero] at this⟩
  have hz : ∀ j, dK p X (e + j) = 0 := by
    intro j
    induction j with
    | zero => exact h1
    | succ j ih => have := dK_le t hp (e + j); rw [← Nat.add_assoc]; omega
  have hen : e ≤ X.length := by
    apply Classical.byContradiction
    intro hn
    exact h2 X.length (by omega) (by have := dK_n t hp (wK_n t hp) 0; rwa [Nat.add_zero] at this)
  have hw : ∀ j, wK p X (e + j) = wK p X e := by
    intro j
    induction j with
    | zero => rfl
    | succ j ih => rw [← Nat.add_assoc, wK_s t hp, hz, ih]; omega
  have hwe : wK p X e = X.length := by rw [← hw X.length]; exact wK_top t hp (by omega)
  have hadd : addL p X = prtL (dK p X) p e := by
    have := prt_cut (p := p) hz (X.length - e)
    rw [show e + (X.length - e) = X.length by omega] at this
    exact this
  refine ⟨e, ?_, hen, fun f => ?_⟩
  · rw [hadd]
    cases e with
    | zero => simp [expL, prtL]
    | succ e =>
      have h3 := h2 e (by omega)
      obtain ⟨c, hc⟩ : ∃ c, dK p X e - dK p X (e + 1) = c + 1 := ⟨dK p X e - 1, by rw [h1]; have : dK p X e ≠ 0 := h3; omega⟩
      rw [prtL, hc, expL, if_neg (by simp), last_rep]
  · have h4 := len_full t (with_can t hp (P := fun x => Kil p X e (fn x))) hwe f
    rwa [with_sub t hp (kil_sub e)] at h4
end
end Go.Proofs.Ytkmgmjajbiddbaa
