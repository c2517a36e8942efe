import Derived.Test.YtkmgmjajbiddbaaZ21
set_option linter.unusedVariables false
set_option linter.unusedSimpArgs false
namespace Go.Proofs.Ytkmgmjajbiddbaa
open Nat (reduceAdd reduceSub reduceGT reduceEqDiff reduceMul)
def itp (p : Int) (pw : List (List Int)) : Nat → List Int → List Int
  | 0, a => a
  | k + 1, a => mulL p pw p (itp p pw k a)
theorem itp_el {p : Int} {pw : List (List Int)} (t : Tri p pw) {a : List Int} (ha : El p pw.length a) : ∀ k, El p pw.length (itp p pw k a)
  | 0 => ha
  | k + 1 => mul_el t _ _
theorem nrm_lead {p : Int} {pw : List (List Int)} (t : Tri p pw) {f : Nat → Int} {d : Nat} (hf : ∀ j, j < d → f j = 0) (hd : p ∣ f d) : ∀ i, i ≤ pw.length → (∀ j, j < d → nrm p pw i f j = 0) ∧ (i ≤ d → nrm p pw i f d = f d) ∧ (d < i → nrm p pw i f d = 0) := by
  intro i
  induction i with
  | zero => intro _; exact ⟨hf, fun _ => rfl, fun h => by omega⟩
  | succ i ih =>
    intro hi
    obtain ⟨h1, h2, h3⟩ := ih (by omega)
    refine ⟨fun j hj => ?_, fun h => ?_, fun h => ?_⟩
    · rw [nrm, nst]
      split
      · rename_i e; subst e; rw [h1 j hj]; simp
      · rw [h1 j hj]
        by_cases hij : i < d
        · rw [h1 i hij]; simp
        · rw [t.tri i j (by omega) (by omega)]; simp
    · rw [nrm, nst, if_neg (by omega), h2 (by omega), h1 i (by omega)]; simp
    · rw [nrm, nst]
      split
      · rename_i e; subst e; rw [h2 (Nat.le_refl _)]; exact Int.emod_eq_zero_of_dvd hd
      · rw [h3 (by omega), t.tri i d (by omega) (by omega)]; simp
theorem itp_lead {p : Int} {pw : List (List Int)} (t : Tri p pw) {a : List Int} : ∀ k, k ≤ pw.length → ∀ j, j < k → (itp p pw k a).getD j 0 = 0 := by
  intro k
  induction k with
  | zero => intro _ j hj; omega
  | succ k ih =>
    intro hk j hj
    have h0 := ih (by omega)
    have h1 := nrm_lead t (f := fun j => p * (itp p pw k a).getD j 0) (d := k) (fun j hj => by rw [h0 j hj]; simp) ⟨_, rfl⟩ pw.length (Nat.le_refl _)
    rw [itp, mulL, nf, vec_get (by omega)]
    by_cases e : j = k
    · subst e; exact h1.2.2 (by omega)
    · exact h1.1 j (by omega)
def isOrd (p : Int) (pw : List (List Int)) (a : List Int) (t : Nat) : Prop := zeros (itp p pw t a) ∧ (∀ s, s < t → ¬zeros (itp p pw s a)) ∧ t ≤ pw.length
theorem isOrd.ex {p : Int} {pw : List (List Int)} (t : Tri p pw) {a : List Int} (ha : El p pw.length a) : ∃ k, isOrd p pw a k := by
  have hz : zeros (itp p pw pw.length a) := fun j hj => itp_lead t _ (Nat.le_refl _) j (by rw [(itp_el t ha _).len] at hj; exact hj)
  obtain ⟨k, h1, h2⟩ := least (P := fun k => zeros (itp p pw k a)) ⟨_, hz⟩
  refine ⟨k, h1, h2, ?_⟩
  apply Classical.byContradiction
  intro hc
  exact h2 pw.length (by omega) hz
theorem spec_l31Order_ok (p : Int) (pw : List (List Int)) (br : List (List (List Int))) (hp : pr4 p) (ht : Tri p pw) (a : List Int) (ha : El p pw.length a) (t : Nat) (ho : isOrd p pw a t) : ACp Try.prog 53 [ring p pw br, ints a] (.i .i64 (p ^ t)) := by
 obtain ⟨hz, hnz, htn⟩ := ho
 have hn6 := ht.n6
 refine ACp.intro' envOk Try.func53 rfl (by kernel_rfl) Try.ntmps53 Try.results53 (.i _ _) (fun nx => ?_)
 refine AW.sr envOk (fun N hN => ?_)
 simp -dsimp -implicitDefEqProofs (disch := omega) only [go_sem, undef, reduceAdd, reduceSub, reduceGT, reduceEqDiff, reduceMul, ring, w64]
 refine hN _ ?_
 try clear hN N
 refine AW.sr envOk (fun N hN => ?_)
 simp -dsimp -implicitDefEqProofs (disch := omega) only [go_sem, undef, reduceAdd, reduceSub, reduceGT, reduceEqDiff, reduceMul, ring, w64]
 refine hN _ ?_
 try clear hN N
 refine AW.seq (fun N1 hN1 => ?_)
 refine AW.block ?_
 refine AW.loopN (α := Nat) (fun x => sl 20 [(1, ints (itp p pw x a)), (2, .q nx 0), (5, .i .i64 (p ^ x))]) (fun _ => upd noH nx (some [.i .i64 p, rows pw, cubes br])) (fun x m => x ≤ t) (fun x => t - x) (0) ?_ ?_ (fun _ _ h => h) ?_
 ·omega
 ·simp [wks, wkA, sl, itp, ring]
 ·skip
  rintro k m hk
  simp -dsimp -implicitDefEqProofs (disch := omega) only [go_sem, undef, reduceAdd, reduceSub, reduceGT, reduceEqDiff, reduceMul]
  have hel := itp_el ht ha k
  have hln := hel.len
  refine AW.seq (fun N2 hN2 => ?_)
  refine AW.sr envOk (fun N hN => ?_)
  simp -dsimp -implicitDefEqProofs (disch := omega) only [go_sem, undef, reduceAdd, reduceSub, reduceGT, reduceEqDiff, reduceMul, ring, w64]
  refine AC.pure (.of (spec_l01Zero_ok (itp p pw k a) (by omega))) ?_
  try simp -dsimp -implicitDefEqProofs (disch := omega) only [go_sem, undef, reduceAdd, reduceSub, reduceGT, reduceEqDiff, reduceMul, ring, w64]
  refine hN _ ?_
  try clear hN N
  refine AW.cond rfl (fun h1 => ?_) (fun h1 => ?_)
  ·try simp only [cn] at h1
   have hkt : k < t := by
    apply Classical.byContradiction; intro hc
    exact h1 (by rw [show k = t by omega]; exact hz)
   refine AW.skip ?_
   simp only [thn, blk]
   refine hN2 _ ?_
   try clear hN2 N2
   refine AW.block ?_
   refine AW.sr envOk (fun N hN => ?_)
   simp -dsimp -implicitDefEqProofs (disch := omega) only [go_sem, undef, reduceAdd, reduceSub, reduceGT, reduceEqDiff, reduceMul, ring, w64]
   refine AC.pure (.of ((spec_l31Mix_ok p pw br ht p _ 0 _ hel.len hel.len (hel.smlk ht.p7 (by have := ht.p2; omega) (by have := ht.p7; omega)) (hel.smlk ht.p7 (by omega) (by omega))).pure )) ?_
   try simp -dsimp -implicitDefEqProofs (disch := omega) only [go_sem, undef, reduceAdd, reduceSub, reduceGT, reduceEqDiff, reduceMul, ring, w64]
   refine hN _ ?_
   try clear hN N
   refine AW.regionL envOk ?_
   simp -dsimp -implicitDefEqProofs (disch := omega) only [go_sem, undef, reduceAdd, reduceSub, reduceGT, reduceEqDiff, reduceMul, ring, w64]
   have hb := pw_bd hp (show k ≤ 20 by omega)
   have hc : IntKind.wrap .i64 (p ^ k * p) = p ^ (k + 1) := by
    have h1 := pr4_bd hp
    have h2 : p ^ k * p ≤ 79792266297612001 * 7 := Int.mul_le_mul hb.2 h1.2 (by omega) (by omega)
    have h3 : 0 ≤ p ^ k * p := Int.mul_nonneg (by omega) (by omega)
    rw [w64 (by omega) (by omega), Int.pow_succ]
   rw [hc]
   refine ⟨k + 1, ?_, fun _ _ h => h, ?_, ?_⟩
   ·simp [wks, wkA, sl, itp, mix_mul ht]
   ·omega
   ·first | omega | (simp only; omega)
  ·try simp only [cn] at h1
   refine AW.exit ?_
   simp only [thn, blk, if_true]
   refine hN1 _ ?_
   try clear hN1 N1
   refine AW.sr envOk (fun N hN => ?_)
   simp -dsimp -implicitDefEqProofs (disch := omega) only [go_sem, undef, reduceAdd, reduceSub, reduceGT, reduceEqDiff, reduceMul, ring, w64]
   refine hN _ ?_
   try clear hN N
   refine AW.ret ?_
   simp -dsimp -implicitDefEqProofs (disch := omega) only [go_sem, undef, reduceAdd, reduceSub, reduceGT, reduceEqDiff, reduceMul]
   have hkt : k = t := by
    apply Classical.byContradiction; intro hc
    exact hnz k (by omega) h1
   rw [hkt]
theorem impl_lieOrderOf_ok (p : Int) (pw : List (List Int)) (br : List (List (List Int))) (hp : pr4 p) (ht : Tri p pw) (a : List Int) (ha : El p pw.length a) (t : Nat) (ho : isOrd p pw a t) : ACp Try.prog 37 [ringP p pw br, ints a] (.i .i64 (p ^ t)) := by
 obtain ⟨hz, hnz, htn⟩ := ho
 have hn6 := ht.n6
 refine ACp.intro' envOk Try.func37 rfl (by kernel_rfl) Try.ntmps37 Try.results37 (.i _ _) (fun nx => ?_)
 refine AW.sr envOk (fun N hN => ?_)
 simp -dsimp -implicitDefEqProofs (disch := omega) only [go_sem, undef, reduceAdd, reduceSub, reduceGT, reduceEqDiff, reduceMul, ringP, w64]
 refine hN _ ?_
 try clear hN N
 refine AW.sr envOk (fun N hN => ?_)
 simp -dsimp -implicitDefEqProofs (disch := omega) only [go_sem, undef, reduceAdd, reduceSub, reduceGT, reduceEqDiff, reduceMul, ringP, w64]
 refine hN _ ?_
 try clear hN N
 refine AW.seq (fun N1 hN1 => ?_)
 refine AW.block ?_
 refine AW.loopN (α := Nat) (fun x => sl 23 [(0, ringP p pw br), (1, ints (itp p pw x a)), (5, .i .i64 (p ^ x))]) (fun _ => noH) (fun x m => x ≤ t) (fun x => t - x) (0) ?_ ?_ (fun _ _ h => h) ?_
 ·omega
 ·simp [wks, wkA, sl, itp, ringP]
 ·skip
  rintro k m hk
  simp -dsimp -implicitDefEqProofs (disch := omega) only [go_sem, undef, reduceAdd, reduceSub, reduceGT, reduceEqDiff, reduceMul]
  have hel := itp_el ht ha k
  have hln := hel.len
  refine AW.seq (fun N2 hN2 => ?_)
  refine AW.sr envOk (fun N hN => ?_)
  simp -dsimp -implicitDefEqProofs (disch := omega) only [go_sem, undef, reduceAdd, reduceSub, reduceGT, reduceEqDiff, reduceMul, ringP, w64]
  refine AC.pure (.of (impl_isZero_ok (itp p pw k a) (by omega))) ?_
  try simp -dsimp -implicitDefEqProofs (disch := omega) only [go_sem, undef, reduceAdd, reduceSub, reduceGT, reduceEqDiff, reduceMul, ringP, w64]
  refine hN _ ?_
  try clear hN N
  refine AW.cond rfl (fun h1 => ?_) (fun h1 => ?_)
  ·try simp only [cn] at h1
   have hkt : k < t := by
    apply Classical.byContradiction; intro hc
    exact h1 (by rw [show k = t by omega]; exact hz)
   refine AW.skip ?_
   simp only [thn, blk]
   refine hN2 _ ?_
   try clear hN2 N2
   refine AW.block ?_
   refine AW.sr envOk (fun N hN => ?_)
   simp -dsimp -implicitDefEqProofs (disch := omega) only [go_sem, undef, reduceAdd, reduceSub, reduceGT, reduceEqDiff, reduceMul, ringP, w64]
   refine AC.pure (.of ((impl_timesLie_ok p pw br ht p _ hel.len (hel.smlk ht.p7 (by have := ht.p2; omega) (by have := ht.p7; omega)) ⟨by have := ht.p2; omega, by have := ht.p7; omega⟩).pure )) ?_
   try simp -dsimp -implicitDefEqProofs (disch := omega) only [go_sem, undef, reduceAdd, reduceSub, reduceGT, reduceEqDiff, reduceMul, ringP, w64]
   refine hN _ ?_
   try clear hN N
   refine AW.regionL envOk ?_
   simp -dsimp -implicitDefEqProofs (disch := omega) only [go_sem, undef, reduceAdd, reduceSub, reduceGT, reduceEqDiff, reduceMul, ringP, w64]
   have hb := pw_bd hp (show k ≤ 20 by omega)
   have hc : IntKind.wrap .i64 (p ^ k * p) = p ^ (k + 1) := by
    have h1 := pr4_bd hp
    have h2 : p ^ k * p ≤ 79792266297612001 * 7 := Int.mul_le_mul hb.2 h1.2 (by omega) (by omega)
    have h3 : 0 ≤ p ^ k * p := Int.mul_nonneg (by omega) (by omega)
    rw [w64 (by omega) (by omega), Int.pow_succ]
   rw [hc]
   refine ⟨k + 1, ?_, fun _ _ h => h, ?_, ?_⟩
   ·simp [wks, wkA, sl, itp, ringP]
   ·omega
   ·first | omega | (simp only; omega)
  ·try simp only [cn] at h1
   refine AW.exit ?_
   simp only [thn, blk, if_true]
   refine hN1 _ ?_
   try clear hN1 N1
   refine AW.sr envOk (fun N hN => ?_)
   simp -dsimp -implicitDefEqProofs (disch := omega) only [go_sem, undef, reduceAdd, reduceSub, reduceGT, reduceEqDiff, reduceMul, ringP, w64]
   refine hN _ ?_
   try clear hN N
   refine AW.ret ?_
   simp -dsimp -implicitDefEqProofs (disch := omega) only [go_sem, undef, reduceAdd, reduceSub, reduceGT, reduceEqDiff, reduceMul]
   have hkt : k = t := by
    apply Classical.byContradiction; intro hc
    exact hnz k (by omega) h1
   rw [hkt]
theorem spec_LieElementOrder_ok (p : Int) (pw : List (List Int)) (br : List (List (List Int))) (hl : ringlen pw br) (a : List Int) (ha : a.length ≤ 1048576) (t : Nat) (ht : AllEl p pw br [a] → isOrd p pw a t) : ACp Try.prog 22 [ring p pw br, ints a] (inR (tf (AllEl p pw br [a])) (p ^ t) 1) := by
 refine ACp.intro' envOk Try.func22 rfl (by kernel_rfl) Try.ntmps22 Try.results22 (inR_nr _ _ _) (fun nx => ?_)
 refine AW.sr envOk (fun N hN => ?_)
 simp -dsimp -implicitDefEqProofs (disch := omega) only [go_sem, undef, reduceAdd, reduceSub, reduceGT, reduceEqDiff, reduceMul, ring, rows, cubes]
 refine hN _ ?_
 try clear hN N
 refine AW.seq (fun N1 hN1 => ?_)
 refine AW.sr envOk (fun N hN => ?_)
 simp -dsimp -implicitDefEqProofs (disch := omega) only [go_sem, undef, reduceAdd, reduceSub, reduceGT, reduceEqDiff, reduceMul, ring, rows, cubes]
 refine AC.pure (.of (spec_IsLieRing_ok p pw br hl)) ?_
 try simp -dsimp -implicitDefEqProofs (disch := omega) only [go_sem, undef, reduceAdd, reduceSub, reduceGT, reduceEqDiff, reduceMul, ring, rows, cubes]
 refine gopB.mk' (fun h1 => ?_) (fun h1 => ?_)
 ·try simp only [cn] at h1
  have hpb := h1.1.pb
  try simp -dsimp -implicitDefEqProofs (disch := omega) only [go_sem, undef, reduceAdd, reduceSub, reduceGT, reduceEqDiff, reduceMul, ring, rows, cubes]
  refine AC.pure (.of (spec_l31Has_ok p pw br a hpb ha)) ?_
  try simp -dsimp -implicitDefEqProofs (disch := omega) only [go_sem, undef, reduceAdd, reduceSub, reduceGT, reduceEqDiff, reduceMul, ring, rows, cubes]
  refine hN _ ?_
  try clear hN N
  refine AW.cond rfl (fun h2 => ?_) (fun h2 => ?_)
  ·try simp only [cn] at h2
   refine AW.sr envOk (fun N hN => ?_)
   simp -dsimp -implicitDefEqProofs (disch := omega) only [go_sem, undef, reduceAdd, reduceSub, reduceGT, reduceEqDiff, reduceMul, ring, rows, cubes]
   refine hN _ ?_
   try clear hN N
   refine AW.ret ?_
   simp -dsimp -implicitDefEqProofs (disch := omega) only [go_sem, undef, reduceAdd, reduceSub, reduceGT, reduceEqDiff, reduceMul]
   rw [tf_f (fun h => h2 (AllEl.one.1 h).2)]; rfl
  ·try simp only [cn] at h2
   refine AW.skip ?_
   simp only [thn, blk]
   refine hN1 _ ?_
   try clear hN1 N1
   refine AW.sr envOk (fun N hN => ?_)
   simp -dsimp -implicitDefEqProofs (disch := omega) only [go_sem, undef, reduceAdd, reduceSub, reduceGT, reduceEqDiff, reduceMul, ring, rows, cubes]
   refine AC.pure (.of (spec_l31Order_ok p pw br h1.1.1 h1.1.tri a h2.el t (ht (AllEl.one.2 ⟨h1, h2⟩)))) ?_
   try simp -dsimp -implicitDefEqProofs (disch := omega) only [go_sem, undef, reduceAdd, reduceSub, reduceGT, reduceEqDiff, reduceMul, ring, rows, cubes]
   refine hN _ ?_
   try clear hN N
   refine AW.ret ?_
   simp -dsimp -implicitDefEqProofs (disch := omega) only [go_sem, undef, reduceAdd, reduceSub, reduceGT, reduceEqDiff, reduceMul]
   rw [tf_t (AllEl.one.2 ⟨h1, h2⟩)]; rfl
 ·try simp only [cn] at h1
  try simp -dsimp -implicitDefEqProofs (disch := omega) only [go_sem, undef, reduceAdd, reduceSub, reduceGT, reduceEqDiff, reduceMul, ring, rows, cubes]
  refine hN _ ?_
  try clear hN N
  refine AW.condT rfl ?_
  refine AW.sr envOk (fun N hN => ?_)
  simp -dsimp -implicitDefEqProofs (disch := omega) only [go_sem, undef, reduceAdd, reduceSub, reduceGT, reduceEqDiff, reduceMul, ring, rows, cubes]
  refine hN _ ?_
  try clear hN N
  refine AW.ret ?_
  simp -dsimp -implicitDefEqProofs (disch := omega) only [go_sem, undef, reduceAdd, reduceSub, reduceGT, reduceEqDiff, reduceMul]
  rw [tf_f (fun h => h1 (AllEl.one.1 h).1)]; rfl
theorem impl_LieElementOrder_ok (p : Int) (pw : List (List Int)) (br : List (List (List Int))) (hl : ringlen pw br) (a : List Int) (ha : a.length ≤ 1048576) (t : Nat) (ht : AllEl p pw br [a] → isOrd p pw a t) : ACp Try.prog 21 [ring p pw br, ints a] (inR (tf (AllEl p pw br [a])) (p ^ t) 1) := by
 refine ACp.intro' envOk Try.func21 rfl (by kernel_rfl) Try.ntmps21 Try.results21 (inR_nr _ _ _) (fun nx => ?_)
 refine AW.sr envOk (fun N hN => ?_)
 simp -dsimp -implicitDefEqProofs (disch := omega) only [go_sem, undef, reduceAdd, reduceSub, reduceGT, reduceEqDiff, reduceMul, ring]
 refine hN _ ?_
 try clear hN N
 refine AW.seq (fun N1 hN1 => ?_)
 refine AW.sr envOk (fun N hN => ?_)
 simp -dsimp -implicitDefEqProofs (disch := omega) only [go_sem, undef, reduceAdd, reduceSub, reduceGT, reduceEqDiff, reduceMul, ring]
 refine AC.pure (.lent (impl_lieElements_ok p pw br hl [a] ⟨by simp, by simp [ha]⟩) ?_ (.b _)) ?_
 ·exact .cons (Vw.q' (cs := [.i .i64 p, rows pw, cubes br]) (by simp (disch := omega) only [upd_same, upd_ne])) (.cons (Vw.rws rfl (upd_same _ _ _)) .nil)
 try simp -dsimp -implicitDefEqProofs (disch := omega) only [go_sem, undef, reduceAdd, reduceSub, reduceGT, reduceEqDiff, reduceMul, ring]
 refine hN _ ?_
 try clear hN N
 refine AW.cond rfl (fun h1 => ?_) (fun h1 => ?_)
 ·try simp only [cn] at h1
  refine AW.sr envOk (fun N hN => ?_)
  simp -dsimp -implicitDefEqProofs (disch := omega) only [go_sem, undef, reduceAdd, reduceSub, reduceGT, reduceEqDiff, reduceMul, ring]
  refine hN _ ?_
  try clear hN N
  refine AW.ret ?_
  simp -dsimp -implicitDefEqProofs (disch := omega) only [go_sem, undef, reduceAdd, reduceSub, reduceGT, reduceEqDiff, reduceMul]
  rw [tf_f h1]; rfl
 ·try simp only [cn] at h1
  have h1' := AllEl.one.1 h1
  refine AW.skip ?_
  simp only [thn, blk]
  refine hN1 _ ?_
  try clear hN1 N1
  refine AW.sr envOk (fun N hN => ?_)
  simp -dsimp -implicitDefEqProofs (disch := omega) only [go_sem, undef, reduceAdd, reduceSub, reduceGT, reduceEqDiff, reduceMul, ring]
  refine AC.pure (.lent (impl_lieOrderOf_ok p pw br h1'.1.1.1 h1'.1.1.tri a h1'.2.el t (ht h1)) ?_ (.i _ _)) ?_
  ·exact .cons (Vw.q' (cs := [.i .i64 p, rows pw, cubes br]) (by simp (disch := omega) only [upd_same, upd_ne])) (.cons (.refl _) .nil)
  try simp -dsimp -implicitDefEqProofs (disch := omega) only [go_sem, undef, reduceAdd, reduceSub, reduceGT, reduceEqDiff, reduceMul, ring]
  refine hN _ ?_
  try clear hN N
  refine AW.ret ?_
  simp -dsimp -implicitDefEqProofs (disch := omega) only [go_sem, undef, reduceAdd, reduceSub, reduceGT, reduceEqDiff, reduceMul]
  rw [tf_t h1]; rfl
end Go.Proofs.Ytkmgmjajbiddbaa
