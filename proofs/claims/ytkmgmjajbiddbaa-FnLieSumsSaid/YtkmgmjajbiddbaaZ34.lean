import Derived.Test.YtkmgmjajbiddbaaZ29
import Derived.Test.YtkmgmjajbiddbaaZ31
import Derived.Test.YtkmgmjajbiddbaaZ32
import Derived.Test.YtkmgmjajbiddbaaZ33
set_option linter.unusedVariables false
set_option linter.unusedSimpArgs false
namespace Go.Proofs.Ytkmgmjajbiddbaa
open Nat (reduceAdd reduceSub reduceGT reduceEqDiff reduceMul)
theorem at_inj {p : Int} (hp : 2 ≤ p) : ∀ {n : Nat} {j k : Int}, 0 ≤ j → j < p ^ n → 0 ≤ k → k < p ^ n → atL p n j = atL p n k → j = k := by
  intro n
  induction n with
  | zero => intro j k h1 h2 h3 h4 _; simp at h2 h4; omega
  | succ n ih =>
    intro j k h1 h2 h3 h4 e
    simp only [atL] at e
    have hl : ∀ q, (atL p n q).length = n := fun q => (at_el hp).len
    have e1 := List.append_inj e (by rw [hl, hl])
    have d : ∀ q : Int, 0 ≤ q → q < p ^ (n + 1) → 0 ≤ q / p ∧ q / p < p ^ n := fun q h0 h => by
      refine ⟨Int.ediv_nonneg h0 (by omega), ?_⟩
      rw [Int.pow_succ] at h
      exact Int.ediv_lt_of_lt_mul (by omega) h
    have := ih (d j h1 h2).1 (d j h1 h2).2 (d k h3 h4).1 (d k h3 h4).2 e1.1
    have e2 : j % p = k % p := by simpa using e1.2
    have a1 := Int.mul_ediv_add_emod j p
    have a2 := Int.mul_ediv_add_emod k p
    rw [this] at a1
    omega
theorem first_all {p : Int} (hp : 2 ≤ p) {n : Nat} {P : List Int → Prop} : (filt P (firstL p n (p ^ n).toNat)).length = (filt P (allL p n)).length := by
  have hpos := pow_gt hp n
  refine nodup_same (List.Nodup.sublist List.filter_sublist ?_) (List.Nodup.sublist List.filter_sublist (all_nodup _)) fun x => ?_
  · refine List.pairwise_map.2 (List.Pairwise.imp_of_mem (fun {a b} ha hb hab e => hab ?_) List.nodup_range)
    have h1 := List.mem_range.1 ha
    have h2 := List.mem_range.1 hb
    have := at_inj hp (by omega) (by omega) (by omega) (by omega) e
    omega
  · rw [mem_filt, mem_filt, mem_all hp]
    refine and_congr_left fun _ => ⟨fun h => ?_, fun h => ?_⟩
    · obtain ⟨j, _, rfl⟩ := List.mem_map.1 h
      exact at_el hp
    · obtain ⟨k, k0, k1, rfl⟩ := at_all hp h
      exact List.mem_map.2 ⟨k.toNat, List.mem_range.2 (by omega), by rw [Int.toNat_of_nonneg k0]⟩
section
variable {p : Int} {X : List (List Int)}
theorem zeros_nf (t : Tri p X) {f : Nat → Int} : zeros (nf p X f) ↔ Cg p X f (fun _ => 0) := by
  constructor
  · intro h
    refine (nf_fn t f).symm.trans (.of fun j hj => ?_)
    exact h j (by rw [(nf_el t f).len]; exact hj)
  · intro h
    have h0 : El p X.length (vec X.length (fun _ => 0)) := ⟨by simp [vec], fun j hj => by rw [vec_get hj]; have := t.p2; omega⟩
    have e := El.uniq t (nf_el t f) h0 (((nf_fn t f).trans h).trans (.of fun j hj => by simp only [fn]; rw [vec_get hj]))
    rw [e]
    intro j hj
    rw [vec_get (by simpa [vec] using hj)]
theorem kil_mix (t : Tri p X) {k : Nat} {x z : List Int} : zeros (mixL p X (p ^ k) x 0 z) ↔ Kil p X k (fn x) := by
  have : mixL p X (p ^ k) x 0 z = nf p X (fun j => p ^ k * fn x j) := nf_ext t (fun j _ => by simp [fn])
  rw [this, zeros_nf t]; rfl
theorem itp_fn (t : Tri p X) {a : List Int} (ha : El p X.length a) : ∀ k, Cg p X (fn (itp p X k a)) (fun j => p ^ k * fn a j) := by
  intro k
  induction k with
  | zero => exact .of fun j _ => by simp [itp]
  | succ k ih =>
    refine (nf_fn t _).trans ?_
    exact (cg_mul p ih).ext (fun j _ => rfl) (fun j _ => by rw [Int.pow_succ, Int.mul_comm (p ^ k) p, Int.mul_assoc])
theorem kil_itp (t : Tri p X) {a : List Int} (ha : El p X.length a) (k : Nat) : zeros (itp p X k a) ↔ Kil p X k (fn a) := by
  constructor
  · intro h
    exact (itp_fn t ha k).symm.trans (.of fun j hj => h j (by rw [(itp_el t ha k).len]; exact hj))
  · intro h
    have h1 := (itp_fn t ha k).trans h
    have h2 := itp_el t ha k
    have h0 : El p X.length (vec X.length (fun _ => 0)) := ⟨by simp [vec], fun j hj => by rw [vec_get hj]; have := t.p2; omega⟩
    have e := El.uniq t h2 h0 (h1.trans (.of fun j hj => by simp only [fn]; rw [vec_get hj]))
    rw [e]
    intro j hj
    rw [vec_get (by simpa [vec] using hj)]
theorem kil_more {k : Nat} {f : Nat → Int} (h : Kil p X k f) : ∀ d, Kil p X (k + d) f := by
  intro d
  induction d with
  | zero => exact h
  | succ d ih =>
    exact (cg_mul p ih).ext (fun j _ => by show _ = p ^ (k + d + 1) * f j; rw [Int.pow_succ, Int.mul_comm (p ^ (k + d)) p, Int.mul_assoc]) (fun j _ => by simp)
theorem ord_kil (t : Tri p X) {a : List Int} (ha : El p X.length a) {s : Nat} (ho : isOrd p X a s) (e : Nat) : s ≤ e ↔ Kil p X e (fn a) := by
  constructor
  · intro h
    have := kil_more ((kil_itp t ha s).1 ho.1) (e - s)
    rwa [show s + (e - s) = e by omega] at this
  · intro h
    apply Classical.byContradiction
    intro hn
    exact ho.2.1 e (by omega) ((kil_itp t ha e).2 h)
noncomputable def wK (p : Int) (X : List (List Int)) (k : Nat) : Nat := (torL p X k).length
noncomputable def dK (p : Int) (X : List (List Int)) (k : Nat) : Nat := (dvsL p X k).length
theorem wK_s (t : Tri p X) (hp : pr4 p) (k : Nat) : wK p X (k + 1) = dK p X k + wK p X k := tor_step t hp k
theorem wK_le (t : Tri p X) (hp : pr4 p) (k : Nat) : wK p X k ≤ X.length := (with_can t hp).toEch.len
theorem wK_n (t : Tri p X) (hp : pr4 p) : wK p X X.length = X.length := tor_full t hp
theorem wK_z (t : Tri p X) (hp : pr4 p) : wK p X 0 = 0 := tor_zero t hp
theorem dK_le (t : Tri p X) (hp : pr4 p) (k : Nat) : dK p X (k + 1) ≤ dK p X k := dvs_less t hp k
theorem wK_mono (t : Tri p X) (hp : pr4 p) (k : Nat) : ∀ d, wK p X k ≤ wK p X (k + d) := by
  intro d
  induction d with
  | zero => exact Nat.le_refl _
  | succ d ih => have := wK_s t hp (k + d); rw [← Nat.add_assoc]; omega
theorem dK_z (t : Tri p X) (hp : pr4 p) {k : Nat} (h : wK p X k = X.length) : dK p X k = 0 := by
  have h1 := wK_s t hp k
  have h2 := wK_le t hp (k + 1)
  omega
theorem dK_n (t : Tri p X) (hp : pr4 p) {k : Nat} (h : wK p X k = X.length) : ∀ d, dK p X (k + d) = 0 := fun d => dK_z t hp (by have := wK_mono t hp k d; have := wK_le t hp (k + d); omega)
theorem count_kil (t : Tri p X) (hp : pr4 p) (k : Nat) : (filt (fun x => Kil p X k (fn x)) (allL p X.length)).length = p.toNat ^ wK p X k := count_sub t hp (kil_sub k)
theorem pw_nat (h : 2 ≤ p) (m : Nat) : ((p.toNat ^ m : Nat) : Int) = p ^ m := by
  rw [Int.natCast_pow, Int.toNat_of_nonneg (by omega)]
theorem pw_le (h : 2 ≤ p) {a b : Nat} (hab : a ≤ b) : p ^ a ≤ p ^ b := by
  obtain ⟨d, rfl⟩ : ∃ d, b = a + d := ⟨b - a, by omega⟩
  rw [Int.pow_add]
  have h1 := pow_gt h a
  have h2 := pow_gt h d
  have := Int.mul_le_mul (Int.le_refl (p ^ a)) h2 (by omega) (by omega)
  omega
end
def prtL (d : Nat → Nat) (p : Int) : Nat → List Int
  | 0 => []
  | k + 1 => prtL d p k ++ List.replicate (d k - d (k + 1)) (p ^ (k + 1))
def facL (d : Nat → Nat) (p : Int) : Nat → Nat → List Int
  | 0, _ => []
  | m + 1, k => List.replicate (d k - d (k + 1)) (p ^ (k + 1)) ++ facL d p m (k + 1)
theorem prt_fac (d : Nat → Nat) (p : Int) : ∀ m k, prtL d p k ++ facL d p m k = prtL d p (k + m) := by
  intro m
  induction m with
  | zero => intro k; simp [facL]
  | succ m ih =>
    intro k
    rw [facL, ← List.append_assoc]
    have := ih (k + 1)
    rw [prtL] at this
    rw [this, show k + 1 + m = k + (m + 1) by omega]
theorem prt_cut {d : Nat → Nat} {p : Int} {k : Nat} (h : ∀ j, d (k + j) = 0) : ∀ m, prtL d p (k + m) = prtL d p k := by
  intro m
  induction m with
  | zero => rfl
  | succ m ih => rw [← Nat.add_assoc, prtL, ih, h m]; simp
theorem fac_len {d : Nat → Nat} {p : Int} (hd : ∀ k, d (k + 1) ≤ d k) : ∀ m k, (facL d p m k).length = d k - d (k + m) := by
  intro m
  induction m with
  | zero => intro k; simp [facL]
  | succ m ih =>
    intro k
    rw [facL, List.length_append, List.length_replicate, ih]
    have h1 : ∀ j, d (k + 1 + j) ≤ d (k + 1) := by
      intro j
      induction j with
      | zero => exact Nat.le_refl _
      | succ j ihj => have := hd (k + 1 + j); rw [← Nat.add_assoc]; omega
    have h2 := h1 m
    have h3 := hd k
    rw [show k + (m + 1) = k + 1 + m by omega]
    omega
noncomputable def addL (p : Int) (X : List (List Int)) : List Int := prtL (dK p X) p X.length
section
variable {p : Int} {X : List (List Int)}
theorem add_fac : addL p X = facL (dK p X) p X.length 0 := by
  have := prt_fac (dK p X) p X.length 0
  rw [prtL, List.nil_append, Nat.zero_add] at this
  exact this.symm
theorem prt_len {d : Nat → Nat} (hd : ∀ k, d (k + 1) ≤ d k) : ∀ k, (prtL d p k).length + d k = d 0 := by
  intro k
  induction k with
  | zero => simp [prtL]
  | succ k ih => have := hd k; rw [prtL, List.length_append, List.length_replicate]; omega
theorem dK_0 (t : Tri p X) (hp : pr4 p) : dK p X 0 ≤ X.length := by
  have h1 := wK_s t hp 0
  have h2 := wK_z t hp
  have h3 := wK_le t hp (0 + 1)
  omega
theorem add_len (t : Tri p X) (hp : pr4 p) : (addL p X).length ≤ X.length := by
  have h1 := prt_len (p := p) (d := dK p X) (fun k => dK_le t hp k) X.length
  have h2 := dK_0 t hp
  unfold addL
  omega
end
theorem spec_l31Killed_ok (p : Int) (pw : List (List Int)) (br : List (List (List Int))) (h : shapeP p pw br) (e : Nat) (he : p ^ e ≤ 1000) : ACp Try.prog 61 [ring p pw br, .i .i64 (p ^ e)] (.i .i64 (p ^ wK p pw e)) := by
 have ht := h.tri
 have hp := h.1
 have h6 := ht.n6
 have hp2 := ht.p2
 have hp7 := ht.p7
 have hsz : capPow p pw.length = p ^ pw.length := by have h1 := capPow_eq h.1 pw.length; have h2 := h.2.2.2.1; omega
 have h9 := h.2.2.2.1
 have hpos := pow_gt hp2 pw.length
 have hpe := pow_gt hp2 e
 have hsize := spec_l31Size_ok p pw.length h.1 (by omega)
 rw [hsz] at hsize
 refine ACp.intro' envOk Try.func61 rfl (by kernel_rfl) Try.ntmps61 Try.results61 (.i _ _) (fun nx => ?_)
 refine AW.sr envOk (fun N hN => ?_)
 simp -dsimp -implicitDefEqProofs (disch := omega) only [go_sem, undef, reduceAdd, reduceSub, reduceGT, reduceEqDiff, reduceMul, ring, ringP, w64]
 refine hN _ ?_
 try clear hN N
 refine AW.freezeQ 2 nx _ rfl (upd_same _ _ _) ?_
 simp -dsimp -implicitDefEqProofs (disch := omega) only [go_sem, undef, reduceAdd, reduceSub, reduceGT, reduceEqDiff, reduceMul]
 refine AW.sr envOk (fun N hN => ?_)
 simp -dsimp -implicitDefEqProofs (disch := omega) only [go_sem, undef, reduceAdd, reduceSub, reduceGT, reduceEqDiff, reduceMul, ring, ringP, w64]
 refine hN _ ?_
 try clear hN N
 refine AW.seq (fun N1 hN1 => ?_)
 refine AW.sr envOk (fun N hN => ?_)
 simp -dsimp -implicitDefEqProofs (disch := omega) only [go_sem, undef, reduceAdd, reduceSub, reduceGT, reduceEqDiff, reduceMul, ring, ringP, w64]
 refine hN _ ?_
 try clear hN N
 refine AW.block ?_
 refine AW.loopN (α := Nat) (fun x => sl 29 [(1, .i .i64 (p ^ e)), (2, ringP p pw br), (5, .i .i64 (filt (fun x => Kil p pw e (fn x)) (firstL p pw.length x)).length), (6, .i .i64 x)]) (fun _ => noH) (fun x m => (x : Int) ≤ p ^ pw.length) (fun x => (p ^ pw.length).toNat - x) (0) ?_ ?_ (by intro d cs hd; cases hd) ?_
 ·simp; omega
 ·simp (disch := omega) [wks, wkA, sl, rows, ringP, filt, firstL]
 ·skip
  rintro k m hk
  obtain ⟨A, hA⟩ : ∃ A, atL p pw.length (k : Int) = A := ⟨_, rfl⟩
  have hAe : El p pw.length A := hA ▸ at_el hp2
  have hAl := hAe.len
  have hAt := spec_l31At_ok p pw br hp2 hp7 h6 k
  rw [hA] at hAt
  have hfl : (filt (fun x => Kil p pw e (fn x)) (firstL p pw.length k)).length ≤ k := by
   have h1 := List.length_filter_le (fun x => @decide (Kil p pw e (fn x)) (Classical.propDecidable _)) (firstL p pw.length k)
   have h2 : (firstL p pw.length k).length = k := by simp [firstL]
   unfold filt
   rw [h2] at h1
   exact h1
  have hmx := (spec_l31Mix_ok p pw br ht (p ^ e) A 0 (vec pw.length (fun _ => 0)) hAl (by simp [vec]) (hAe.smlk hp7 (by omega) (by omega)) (fun j hj => by rw [Int.zero_mul]; omega)).pure
  simp -dsimp -implicitDefEqProofs (disch := omega) only [go_sem, undef, reduceAdd, reduceSub, reduceGT, reduceEqDiff, reduceMul]
  refine AW.seq (fun N2 hN2 => ?_)
  refine AW.sr envOk (fun N hN => ?_)
  simp -dsimp -implicitDefEqProofs (disch := omega) only [go_sem, undef, reduceAdd, reduceSub, reduceGT, reduceEqDiff, reduceMul, ring, ringP, w64]
  refine AC.pure (.of (hsize )) ?_
  try simp -dsimp -implicitDefEqProofs (disch := omega) only [go_sem, undef, reduceAdd, reduceSub, reduceGT, reduceEqDiff, reduceMul, ring, ringP, w64]
  refine hN _ ?_
  try clear hN N
  refine AW.cond rfl (fun h1 => ?_) (fun h1 => ?_)
  ·try simp only [cn] at h1
   refine AW.skip ?_
   simp only [thn, blk]
   refine hN2 _ ?_
   try clear hN2 N2
   refine AW.seq (fun N3 hN3 => ?_)
   refine AW.block ?_
   refine AW.seq (fun N hN => ?_)
   refine AW.drawL envOk (by kernel_rfl) 9 (by kernel_rfl) ?_
   simp -dsimp -implicitDefEqProofs (disch := omega) only [hr_nil, hr_one, hr_if, List.take_succ_cons, List.take_zero, List.drop_succ_cons, List.drop_zero, List.take_nil, List.drop_nil, go_sem, undef, reduceAdd, reduceSub, reduceGT, reduceEqDiff, reduceMul, ring, ringP, w64]
   refine ⟨_, .of (hAt (by omega) (by omega) ), ?_⟩
   try simp -dsimp -implicitDefEqProofs (disch := omega) only [go_sem, undef, reduceAdd, reduceSub, reduceGT, reduceEqDiff, reduceMul, ring, ringP, w64]
   refine ⟨_, .of ((spec_l31Zero_ok p pw br (by omega)).pure ), ?_⟩
   try simp -dsimp -implicitDefEqProofs (disch := omega) only [go_sem, undef, reduceAdd, reduceSub, reduceGT, reduceEqDiff, reduceMul, ring, ringP, w64]
   refine ⟨_, .of (hmx ), ?_⟩
   try simp -dsimp -implicitDefEqProofs (disch := omega) only [go_sem, undef, reduceAdd, reduceSub, reduceGT, reduceEqDiff, reduceMul, ring, ringP, w64]
   refine ⟨_, .of (spec_l01Zero_ok (mixL p pw (p ^ e) A 0 (vec pw.length (fun _ => 0))) (by rw [show (mixL p pw (p ^ e) A 0 (vec pw.length (fun _ => 0))).length = pw.length from (nf_el ht _).len]; omega) ), ?_⟩
   try simp -dsimp -implicitDefEqProofs (disch := omega) only [go_sem, undef, reduceAdd, reduceSub, reduceGT, reduceEqDiff, reduceMul, ring, ringP, w64]
   refine hN _ ?_
   try clear hN N
   refine AW.cond rfl (fun h2 => ?_) (fun h2 => ?_)
   ·try simp only [cn] at h2
    have hf := filt_yes (P := fun x => Kil p pw e (fn x)) (L := firstL p pw.length k) ((kil_mix ht).1 h2)
    refine AW.regionL envOk ?_
    simp -dsimp -implicitDefEqProofs (disch := omega) only [go_sem, undef, reduceAdd, reduceSub, reduceGT, reduceEqDiff, reduceMul, ring, ringP, w64]
    refine hN3 _ ?_
    try clear hN3 N3
    refine AW.regionL envOk ?_
    simp -dsimp -implicitDefEqProofs (disch := omega) only [go_sem, undef, reduceAdd, reduceSub, reduceGT, reduceEqDiff, reduceMul, ring, ringP, w64]
    refine ⟨k + 1, ?_, fun _ _ h => h, ?_, ?_⟩
    ·simp (disch := omega) [wks, wkA, sl, w64, rows, ringP, first_s, hA, hf] <;> omega
    ·first| omega| (simp only; omega)| (dsimp only; omega)
    ·first | omega | (simp only; omega)
   ·try simp only [cn] at h2
    have hf := filt_no (P := fun x => Kil p pw e (fn x)) (L := firstL p pw.length k) (fun h => h2 ((kil_mix ht).2 h))
    refine AW.skip ?_
    simp only [thn, blk]
    refine hN3 _ ?_
    try clear hN3 N3
    refine AW.regionL envOk ?_
    simp -dsimp -implicitDefEqProofs (disch := omega) only [go_sem, undef, reduceAdd, reduceSub, reduceGT, reduceEqDiff, reduceMul, ring, ringP, w64]
    refine ⟨k + 1, ?_, fun _ _ h => h, ?_, ?_⟩
    ·simp (disch := omega) [wks, wkA, sl, w64, rows, ringP, first_s, hA, hf] <;> omega
    ·first| omega| (simp only; omega)| (dsimp only; omega)
    ·first | omega | (simp only; omega)
  ·try simp only [cn] at h1
   refine AW.exit ?_
   simp only [thn, blk, if_true]
   refine hN1 _ ?_
   try clear hN1 N1
   refine AW.sr envOk (fun N hN => ?_)
   simp -dsimp -implicitDefEqProofs (disch := omega) only [go_sem, undef, reduceAdd, reduceSub, reduceGT, reduceEqDiff, reduceMul, ring, ringP, w64]
   refine hN _ ?_
   try clear hN N
   refine AW.ret ?_
   simp -dsimp -implicitDefEqProofs (disch := omega) only [go_sem, undef, reduceAdd, reduceSub, reduceGT, reduceEqDiff, reduceMul]
   have hk2 : k = (p ^ pw.length).toNat := by omega
   rw [hk2, first_all hp2, count_kil ht hp, pw_nat hp2]
end Go.Proofs.Ytkmgmjajbiddbaa
