import Derived.Test.YtkmgmjajbiddbaaZ35
import Derived.Test.YtkmgmjajbiddbaaZ40
set_option linter.unusedVariables false
set_option linter.unusedSimpArgs false
namespace Go.Proofs.Ytkmgmjajbiddbaa
open Nat (reduceAdd reduceSub reduceGT reduceEqDiff reduceMul)
def prtE (d : Nat → Nat) : Nat → List Nat
  | 0 => []
  | k + 1 => prtE d k ++ List.replicate (d k - d (k + 1)) (k + 1)
theorem prt_map (d : Nat → Nat) (p : Int) : ∀ k, prtL d p k = (prtE d k).map fun (e : Nat) => p ^ e := by
  intro k
  induction k with
  | zero => rfl
  | succ k ih => rw [prtL, prtE, List.map_append, ih, List.map_replicate]
theorem prtE_mem (d : Nat → Nat) : ∀ k, ∀ e ∈ prtE d k, 1 ≤ e ∧ e ≤ k := by
  intro k
  induction k with
  | zero => intro e he; simp [prtE] at he
  | succ k ih =>
    intro e he
    rcases List.mem_append.1 he with h | h
    · have := ih e h; omega
    · have := (List.mem_replicate.1 h).2; omega
theorem prtE_up (d : Nat → Nat) : ∀ k, (prtE d k).Pairwise (· ≤ ·) := by
  intro k
  induction k with
  | zero => exact List.Pairwise.nil
  | succ k ih =>
    refine List.pairwise_append.2 ⟨ih, ?_, fun a ha b hb => ?_⟩
    · exact List.pairwise_replicate.2 (.inr (Nat.le_refl _))
    · have h1 := prtE_mem d k a ha
      have h2 := (List.mem_replicate.1 hb).2
      omega
theorem pow_mod0 {p : Int} (h : 2 ≤ p) {a b : Nat} (hab : a ≤ b) : (p ^ b).tmod (p ^ a) = 0 := by
  have h1 := pow_gt h b
  rw [Int.tmod_eq_emod_of_nonneg (by omega), show b = (b - a) + a by omega, Int.pow_add]
  exact Int.mul_emod_left _ _
section
variable {p : Int} {X : List (List Int)}
theorem prt_parts (hp : pr4 p) (h9 : p ^ X.length ≤ 729) {d : Nat → Nat} {k : Nat} (hk : k ≤ X.length) (hl : (prtL d p k).length ≤ 10) : Parts p (prtL d p k) := by
  have hp2 := (pr4_bd hp).1
  have hlen : (prtL d p k).length = (prtE d k).length := by rw [prt_map, List.length_map]
  have hget : ∀ j, j < (prtL d p k).length → ∃ e, (prtE d k)[j]? = some e ∧ (prtL d p k).getD j 0 = p ^ e ∧ 1 ≤ e ∧ e ≤ k := by
    intro j hj
    have hj2 : j < (prtE d k).length := by omega
    refine ⟨(prtE d k)[j], List.getElem?_eq_getElem hj2, ?_, prtE_mem d k _ (List.getElem_mem hj2)⟩
    rw [prt_map]
    simp [List.getD_eq_getElem?_getD, hj2]
  have hle : ∀ e, e ≤ k → p ^ e ≤ 729 := fun e he => Int.le_trans (pw_le hp2 (by omega)) h9
  have hup : ∀ j, j + 1 < (prtL d p k).length → ∃ a b, (prtL d p k).getD j 0 = p ^ a ∧ (prtL d p k).getD (j + 1) 0 = p ^ b ∧ a ≤ b := by
    intro j hj
    obtain ⟨a, h1, h2, _⟩ := hget j (by omega)
    obtain ⟨b, h3, h4, _⟩ := hget (j + 1) hj
    refine ⟨a, b, h2, h4, ?_⟩
    have hj1 := (List.getElem?_eq_some_iff.1 h1)
    have hj2 := (List.getElem?_eq_some_iff.1 h3)
    have := List.pairwise_iff_getElem.1 (prtE_up d k) j (j + 1) hj1.1 hj2.1 (by omega)
    rw [hj1.2, hj2.2] at this
    exact this
  refine ⟨hp, ⟨hl, fun j hj => ?_, fun j hj => ?_⟩, fun j hj => ?_, fun j hj => ?_⟩
  · obtain ⟨e, _, h2, h3, h4⟩ := hget j hj
    rw [h2]
    have h5 := pw_le hp2 h3
    rw [Int.pow_one] at h5
    have := hle e h4
    omega
  · obtain ⟨a, b, h1, h2, h3⟩ := hup j hj
    rw [h1, h2]; exact pow_mod0 hp2 h3
  · obtain ⟨e, _, h2, h3, h4⟩ := hget j hj
    exact ⟨e, h3, h2, hle e h4⟩
  · obtain ⟨a, b, h1, h2, h3⟩ := hup j hj
    rw [h1, h2]; exact pw_le hp2 h3
theorem add_parts (t : Tri p X) (hp : pr4 p) (h9 : p ^ X.length ≤ 729) : Parts p (addL p X) := prt_parts hp h9 (Nat.le_refl _) (by have h1 := add_len t hp; have h2 := t.n6; unfold addL at h1; omega)
noncomputable def rkL (p : Int) (X : List (List Int)) (k : Nat) : List Int := (List.range k).map fun j => (wK p X j : Int)
theorem rkL_s (k : Nat) : rkL p X (k + 1) = rkL p X k ++ [(wK p X k : Int)] := by
  unfold rkL; rw [List.range_succ, List.map_append]; rfl
theorem rkL_len (k : Nat) : (rkL p X k).length = k := by simp [rkL]
theorem rkL_get {k j : Nat} (h : j < k) : (rkL p X k).getD j 0 = wK p X j := by simp [rkL, h]
theorem wK_top (t : Tri p X) (hp : pr4 p) {k : Nat} (h : X.length ≤ k) : wK p X k = X.length := by
  have h1 := wK_mono t hp X.length (k - X.length)
  rw [wK_n t hp, show X.length + (k - X.length) = k by omega] at h1
  have := wK_le t hp k
  omega
end
def resA (b : Bool) (xs : List Int) : AV := match b with
  | true => .t [abl xs, .i .i64 0]
  | false => .t [abl [], .i .i64 1]
theorem resA_nr (b : Bool) (xs : List Int) : NR (resA b xs) := by
  cases b
  · exact .t _ fun k x hx => by
      match k, hx with
      | 0, hx => cases hx; exact abl_nr _
      | 1, hx => cases hx; exact .i _ _
  · exact nr_res _
theorem Vw.gnil {H : HP} {e : Int} : Vw H (.t [.g [.nl, .i .i64 0], .i .i64 e]) (.t [abl [], .i .i64 e]) := by
  refine .t _ _ rfl fun k x y hx hy => ?_
  match k, hx, hy with
  | 0, hx, hy =>
    cases hx; cases hy
    refine .g _ _ rfl fun k x y hx hy => ?_
    match k, hx, hy with
    | 0, hx, hy => cases hx; cases hy; exact .nl
    | 1, hx, hy => cases hx; cases hy; exact .refl _
  | 1, hx, hy => cases hx; cases hy; exact .refl _
theorem spec_LieAdditive_ok (p : Int) (pw : List (List Int)) (br : List (List (List Int))) (hl : ringlen pw br) : ACp Try.prog 6 [ring p pw br] (resA (tf (LieR p pw br)) (addL p pw)) := by
 refine ACp.introV envOk Try.func6 rfl (by kernel_rfl) Try.ntmps6 Try.results6 ((resA_nr _ _)) (fun nx => ?_)
 refine AW.sr envOk (fun N hN => ?_)
 simp -dsimp -implicitDefEqProofs (disch := omega) only [go_sem, undef, reduceAdd, reduceSub, reduceGT, reduceEqDiff, reduceMul, ring, rows, cubes]
 refine hN _ ?_
 try clear hN N
 refine AW.seq (fun N1 hN1 => ?_)
 refine AW.sr envOk (fun N hN => ?_)
 simp -dsimp -implicitDefEqProofs (disch := omega) only [go_sem, undef, reduceAdd, reduceSub, reduceGT, reduceEqDiff, reduceMul, ring, rows, cubes]
 refine AC.pure (.of (spec_IsLieRing_ok p pw br hl)) ?_
 try simp -dsimp -implicitDefEqProofs (disch := omega) only [go_sem, undef, reduceAdd, reduceSub, reduceGT, reduceEqDiff, reduceMul, ring, rows, cubes]
 refine hN _ ?_
 try clear hN N
 refine AW.cond rfl (fun h1 => ?_) (fun h1 => ?_)
 ·try simp only [cn] at h1
  refine AW.sr envOk (fun N hN => ?_)
  simp -dsimp -implicitDefEqProofs (disch := omega) only [go_sem, undef, reduceAdd, reduceSub, reduceGT, reduceEqDiff, reduceMul, ring, rows, cubes]
  refine hN _ ?_
  try clear hN N
  refine AW.ret ?_
  simp -dsimp -implicitDefEqProofs (disch := omega) only [go_sem, undef, reduceAdd, reduceSub, reduceGT, reduceEqDiff, reduceMul]
  rw [tf_f h1]; exact Vw.gnil
 ·try simp only [cn] at h1
  refine AW.skip ?_
  simp only [thn, blk]
  refine hN1 _ ?_
  try clear hN1 N1
  refine AW.sr envOk (fun N hN => ?_)
  simp -dsimp -implicitDefEqProofs (disch := omega) only [go_sem, undef, reduceAdd, reduceSub, reduceGT, reduceEqDiff, reduceMul, ring, rows, cubes]
  refine AC.pure (.of (spec_l31Additive_ok p pw br h1.1)) ?_
  try simp -dsimp -implicitDefEqProofs (disch := omega) only [go_sem, undef, reduceAdd, reduceSub, reduceGT, reduceEqDiff, reduceMul, ring, rows, cubes]
  refine hN _ ?_
  try clear hN N
  refine AW.ret ?_
  simp -dsimp -implicitDefEqProofs (disch := omega) only [go_sem, undef, reduceAdd, reduceSub, reduceGT, reduceEqDiff, reduceMul]
  rw [tf_t h1]; exact .refl _
theorem Own.abl_inv {a b : Nat} {H : HP} {r : AV} {xs : List Int} {ids : List Nat} (h : Own a b H r (.t [Go.Proofs.Ytkmgmjajbiddbaa.abl xs, .i .i64 0]) ids) : ∃ r2, r = .t [.g [r2, .i .i64 0], .i .i64 0] ∧ one r2 = true := by
  obtain ⟨r1, rfl, h1⟩ := Ow.pair_inv h.1
  cases h1 with
  | leaf _ hf hn =>
    cases hf with
    | g _ hr =>
      have h2 := hr 0 _ rfl
      cases xs with
      | nil => exact ⟨_, rfl, rfl⟩
      | cons x xs => cases h2
  | g cs _ ids' h2 =>
    cases h2 with
    | cons x y xs' ys is js h3 h4 =>
      cases h4 with
      | cons x2 y2 xs2 ys2 is2 js2 h5 h6 =>
        cases h6
        cases h5
        exact ⟨x, rfl, h3.slice.2.1⟩
theorem take_sR {xs : List (List Int)} {k : Nat} (h : k < xs.length) : xs.take (k + 1) = xs.take k ++ [xs.getD k []] := by
  rw [List.take_succ_eq_append_getElem h]
  simp [List.getD_eq_getElem?_getD, h]
set_option maxHeartbeats 2000000 in
theorem impl_LieAdditive_ok (p : Int) (pw : List (List Int)) (br : List (List (List Int))) (hl : ringlen pw br) : ACo Try.prog 8 [ring p pw br] (resA (tf (LieR p pw br)) (addL p pw)) := by
 intro nx
 refine AC.intro' envOk Try.func8 rfl (by kernel_rfl) Try.ntmps8 Try.results8 ?_
 refine AW.sr envOk (fun N hN => ?_)
 simp -dsimp -implicitDefEqProofs (disch := omega) only [go_sem, undef, reduceAdd, reduceSub, reduceGT, reduceEqDiff, reduceMul, ring, ringP, w64]
 refine hN _ ?_
 try clear hN N
 refine AW.seq (fun N1 hN1 => ?_)
 refine AW.freezeQ 1 nx [.i .i64 p, rows pw, cubes br] rfl (by simp (disch := omega) only [upd_same, upd_ne]) ?_
 simp -dsimp -implicitDefEqProofs (disch := omega) only [go_sem, undef, reduceAdd, reduceSub, reduceGT, reduceEqDiff, reduceMul]
 refine AW.sr envOk (fun N hN => ?_)
 simp -dsimp -implicitDefEqProofs (disch := omega) only [go_sem, undef, reduceAdd, reduceSub, reduceGT, reduceEqDiff, reduceMul, ring, ringP, w64]
 refine AC.pure (.of (impl_IsLieRing_ok p pw br hl)) ?_
 try simp -dsimp -implicitDefEqProofs (disch := omega) only [go_sem, undef, reduceAdd, reduceSub, reduceGT, reduceEqDiff, reduceMul, ring, ringP, w64]
 refine hN _ ?_
 try clear hN N
 refine AW.cond rfl (fun h1 => ?_) (fun h1 => ?_)
 ·try simp only [cn] at h1
  refine AW.sr envOk (fun N hN => ?_)
  simp -dsimp -implicitDefEqProofs (disch := omega) only [go_sem, undef, reduceAdd, reduceSub, reduceGT, reduceEqDiff, reduceMul, ring, ringP, w64]
  refine hN _ ?_
  try clear hN N
  refine AW.ret ?_
  simp -dsimp -implicitDefEqProofs (disch := omega) only [go_sem, undef, reduceAdd, reduceSub, reduceGT, reduceEqDiff, reduceMul]
  rw [tf_f h1]; exact ⟨_, .t _ _ _ (.cons _ _ _ _ _ _ (.g _ _ _ (.cons _ _ _ _ _ _ .nl (.cons _ _ _ _ _ _ (.leaf _ (.i _ _) (.i _ _)) .nil))) (.cons _ _ _ _ _ _ (.leaf _ (.i _ _) (.i _ _)) .nil)), by simp, by simp⟩
 ·try simp only [cn] at h1
  obtain ⟨hs, _⟩ := h1
  have ht := hs.tri
  have hp := hs.1
  have h6 := ht.n6
  have hp2 := ht.p2
  have hp7 := ht.p7
  have h9 := hs.2.2.2.1
  have hall := impl_allLie_ok p pw br hp2 hp7 h6 h9
  have hr0 : rkL p pw (0 + 1) = [0] := by rw [rkL_s, wK_z ht hp]; rfl
  have hale := all_le hp2 h9 (Nat.le_refl _)
  refine AW.skip ?_
  simp only [thn, blk]
  refine hN1 _ ?_
  try clear hN1 N1
  refine AW.sr envOk (fun N hN => ?_)
  simp -dsimp -implicitDefEqProofs (disch := omega) only [go_sem, undef, reduceAdd, reduceSub, reduceGT, reduceEqDiff, reduceMul, ring, ringP, w64]
  refine hN _ ?_
  try clear hN N
  refine AW.sr envOk (fun N hN => ?_)
  simp -dsimp -implicitDefEqProofs (disch := omega) only [go_sem, undef, reduceAdd, reduceSub, reduceGT, reduceEqDiff, reduceMul, ring, ringP, w64]
  refine AC.pure (.of (hall )) ?_
  try simp -dsimp -implicitDefEqProofs (disch := omega) only [go_sem, undef, reduceAdd, reduceSub, reduceGT, reduceEqDiff, reduceMul, ring, ringP, w64]
  refine hN _ ?_
  try clear hN N
  refine AW.sr envOk (fun N hN => ?_)
  simp -dsimp -implicitDefEqProofs (disch := omega) only [go_sem, undef, reduceAdd, reduceSub, reduceGT, reduceEqDiff, reduceMul, ring, ringP, w64]
  refine hN _ ?_
  try clear hN N
  refine AW.seq (fun N2 hN2 => ?_)
  refine AW.sr envOk (fun N hN => ?_)
  simp -dsimp -implicitDefEqProofs (disch := omega) only [go_sem, undef, reduceAdd, reduceSub, reduceGT, reduceEqDiff, reduceMul, ring, ringP, w64]
  refine hN _ ?_
  try clear hN N
  refine AW.block ?_
  refine AW.loopN (α := Nat × Nat) (fun x => sl 98 [(1, ringP p pw br), (2, .q (nx + 1) 0), (3, .i .i64 0), (4, .i .i64 pw.length), (5, rows (allL p pw.length)), (6, .h x.2 0 (x.1 + 1)), (7, .i .i64 (x.1 + 1 : Nat))]) (fun x => upd (upd noH (nx + 1) (some [.nl, .i .i64 0])) x.2 (some ((rkL p pw (x.1 + 1)).map (.i .i64)))) (fun x m => x.1 ≤ pw.length ∧ (∀ j, 1 ≤ j → j ≤ x.1 → wK p pw j ≠ pw.length) ∧ nx + 2 ≤ x.2 ∧ x.2 < m) (fun x => pw.length + 1 - x.1) ((0, nx + 12)) ?_ ?_ (by intro d cs hd; simp only [upd, noH, hr0, List.map_cons, List.map_nil] at hd ⊢; grind) ?_
  ·exact ⟨by simp, fun j h1 h2 => (by simp at h2; omega), by first| omega| (simp only; omega)| (dsimp only; omega), by first| omega| (simp only; omega)| (dsimp only; omega)⟩
  ·simp (disch := omega) [wks, wkA, sl, rows, ringP]
  ·skip
   rintro ⟨k, id⟩ m ⟨hk, hkn, hid1, hid2⟩
   dsimp only at hk hid1 hid2 hkn
   have hrl := rkL_len (p := p) (X := pw) (k + 1)
   have htk : List.take (k + 1) ((rkL p pw (k + 1)).map (AV.i .i64)) = (rkL p pw (k + 1)).map (AV.i .i64) := List.take_of_length_le (by rw [List.length_map, hrl]; exact Nat.le_refl _)
   have hwn := wK_le ht hp (k + 1)
   have hpw := pow_gt hp2 (wK p pw (k + 1))
   have hpw9 : p ^ wK p pw (k + 1) ≤ 729 := Int.le_trans (pw_le hp2 hwn) h9
   simp -dsimp -implicitDefEqProofs (disch := omega) only [go_sem, undef, reduceAdd, reduceSub, reduceGT, reduceEqDiff, reduceMul]
   refine AW.seq (fun N3 hN3 => ?_)
   refine AW.block ?_
   refine AW.sr envOk (fun N hN => ?_)
   simp -dsimp -implicitDefEqProofs (disch := omega) only [go_sem, undef, reduceAdd, reduceSub, reduceGT, reduceEqDiff, reduceMul, ring, ringP, w64]
   refine hN _ ?_
   try clear hN N
   refine AW.seq (fun N4 hN4 => ?_)
   refine AW.sr envOk (fun N hN => ?_)
   simp -dsimp -implicitDefEqProofs (disch := omega) only [go_sem, undef, reduceAdd, reduceSub, reduceGT, reduceEqDiff, reduceMul, ring, ringP, w64]
   refine hN _ ?_
   try clear hN N
   refine AW.block ?_
   refine AW.loopN (α := Nat) (fun x => sl 98 [(1, ringP p pw br), (2, .q (nx + 1) 0), (3, .i .i64 0), (4, .i .i64 pw.length), (5, rows (allL p pw.length)), (6, .h id 0 (k + 1)), (7, .i .i64 (k + 1 : Nat)), (8, .i .i64 (filt (fun x => Kil p pw (k + 1) (fn x)) ((allL p pw.length).take x)).length), (9, .i .i64 0), (25, rows (allL p pw.length)), (26, .i .i64 (allL p pw.length).length), (27, .i .i64 x)]) (fun _ => upd (upd noH (nx + 1) (some [.nl, .i .i64 0])) id (some ((rkL p pw (k + 1)).map (.i .i64)))) (fun x m => x ≤ (allL p pw.length).length ∧ id < m) (fun x => (allL p pw.length).length - x) (0) ?_ ?_ (by exact Le.refl _) ?_
   ·exact ⟨by simp, by first| omega| (simp only; omega)| (dsimp only; omega)⟩
   ·simp (disch := omega) [wks, wkA, sl, rows, ringP, filt]
   ·skip
    rintro i m2 ⟨hi, him⟩
    have hfl : (filt (fun x => Kil p pw (k + 1) (fn x)) ((allL p pw.length).take i)).length ≤ i := by
     have h1 := List.length_filter_le (fun x => @decide (Kil p pw (k + 1) (fn x)) (Classical.propDecidable _)) ((allL p pw.length).take i)
     rw [List.length_take] at h1
     exact Nat.le_trans h1 (Nat.min_le_left _ _)
    obtain ⟨A, hA⟩ : ∃ A, (allL p pw.length).getD i [] = A := ⟨_, rfl⟩
    simp -dsimp -implicitDefEqProofs (disch := omega) only [go_sem, undef, reduceAdd, reduceSub, reduceGT, reduceEqDiff, reduceMul]
    refine AW.sr envOk (fun N hN => ?_)
    simp -dsimp -implicitDefEqProofs (disch := omega) only [go_sem, undef, reduceAdd, reduceSub, reduceGT, reduceEqDiff, reduceMul, ring, ringP, w64]
    refine hN _ ?_
    try clear hN N
    refine AW.seq (fun N5 hN5 => ?_)
    refine AW.cond rfl (fun h2 => ?_) (fun h2 => ?_)
    ·try simp only [cn] at h2
     have hAe : El p pw.length A := by rw [← hA]; exact (mem_all hp2).1 (ix_mem (show i < (allL p pw.length).length by omega))
     obtain ⟨s, ho⟩ := isOrd.ex ht hAe
     have hts := take_sR (xs := allL p pw.length) (k := i) (by omega)
     rw [hA] at hts
     have hks := ord_kil ht hAe ho (k + 1)
     have hpl := pow_lt' hp2 (a := s) (b := k + 1)
     refine AW.skip ?_
     simp only [thn, blk]
     refine hN5 _ ?_
     try clear hN5 N5
     refine AW.seq (fun N6 hN6 => ?_)
     refine AW.block ?_
     refine AW.sr envOk (fun N hN => ?_)
     simp -dsimp -implicitDefEqProofs (disch := omega) only [go_sem, undef, reduceAdd, reduceSub, reduceGT, reduceEqDiff, reduceMul, ring, ringP, w64, rows, gd_r, hA]
     refine hN _ ?_
     try clear hN N
     refine AW.seq (fun N hN => ?_)
     refine AW.drawF envOk (by kernel_rfl) [true, true, true, true, true, true, true] (by kernel_rfl) ?_
     simp -dsimp -implicitDefEqProofs (disch := omega) only [go_sem, undef, reduceAdd, reduceSub, reduceGT, reduceEqDiff, reduceMul, ring, ringP, w64]
     refine ⟨_, .of (impl_lieOrderOf_ok p pw br hp ht A hAe s ho), ?_⟩
     try simp -dsimp -implicitDefEqProofs (disch := omega) only [go_sem, undef, reduceAdd, reduceSub, reduceGT, reduceEqDiff, reduceMul, ring, ringP, w64]
     refine ⟨_, .of (impl_integerPower_ok p (k + 1) hp (by omega)), ?_⟩
     try simp -dsimp -implicitDefEqProofs (disch := omega) only [go_sem, undef, reduceAdd, reduceSub, reduceGT, reduceEqDiff, reduceMul, ring, ringP, w64]
     refine hN _ ?_
     try clear hN N
     refine AW.cond rfl (fun h3 => ?_) (fun h3 => ?_)
     ·try simp only [cn] at h3
      have hf := filt_yes (P := fun x => Kil p pw (k + 1) (fn x)) (L := (allL p pw.length).take i) (hks.1 (hpl.1 h3))
      refine AW.regionL envOk ?_
      simp -dsimp -implicitDefEqProofs (disch := omega) only [go_sem, undef, reduceAdd, reduceSub, reduceGT, reduceEqDiff, reduceMul, ring, ringP, w64]
      refine hN6 _ ?_
      try clear hN6 N6
      refine AW.regionL envOk ?_
      simp -dsimp -implicitDefEqProofs (disch := omega) only [go_sem, undef, reduceAdd, reduceSub, reduceGT, reduceEqDiff, reduceMul, ring, ringP, w64]
      refine ⟨i + 1, ?_, fun _ _ h => h, ?_, ?_⟩
      ·simp (disch := omega) [wks, wkA, sl, w64, rows, ringP, hts, hf] <;> omega
      ·first| exact ⟨by first| omega| (simp only; omega)| (dsimp only; omega), by first| omega| (simp only; omega)| (dsimp only; omega)⟩| first| omega| (simp only; omega)| (dsimp only; omega)
      ·first | omega | (simp only; omega)
     ·try simp only [cn] at h3
      have hf := filt_no (P := fun x => Kil p pw (k + 1) (fn x)) (L := (allL p pw.length).take i) (fun hk => by have := hpl.2 (hks.2 hk); omega)
      refine AW.skip ?_
      simp only [thn, blk]
      refine hN6 _ ?_
      try clear hN6 N6
      refine AW.regionL envOk ?_
      simp -dsimp -implicitDefEqProofs (disch := omega) only [go_sem, undef, reduceAdd, reduceSub, reduceGT, reduceEqDiff, reduceMul, ring, ringP, w64]
      refine ⟨i + 1, ?_, fun _ _ h => h, ?_, ?_⟩
      ·simp (disch := omega) [wks, wkA, sl, w64, rows, ringP, hts, hf] <;> omega
      ·first| exact ⟨by first| omega| (simp only; omega)| (dsimp only; omega), by first| omega| (simp only; omega)| (dsimp only; omega)⟩| first| omega| (simp only; omega)| (dsimp only; omega)
      ·first | omega | (simp only; omega)
    ·try simp only [cn] at h2
     obtain rfl : i = (allL p pw.length).length := by omega
     have hcnt : ((filt (fun x => Kil p pw (k + 1) (fn x)) ((allL p pw.length).take (allL p pw.length).length)).length : Int) = p ^ (wK p pw (k + 1) - 0) := by
      rw [List.take_length, count_kil ht hp, pw_nat hp2]; rfl
     refine AW.exit ?_
     simp only [thn, blk, if_true]
     refine hN4 _ ?_
     try clear hN4 N4
     refine AW.seq (fun N7 hN7 => ?_)
     refine AW.block ?_
     refine AW.loopN (α := Nat) (fun x => sl 98 [(1, ringP p pw br), (2, .q (nx + 1) 0), (3, .i .i64 0), (4, .i .i64 pw.length), (5, rows (allL p pw.length)), (6, .h id 0 (k + 1)), (7, .i .i64 (k + 1 : Nat)), (8, .i .i64 (p ^ (wK p pw (k + 1) - x))), (9, .i .i64 x)]) (fun _ => upd (upd noH (nx + 1) (some [.nl, .i .i64 0])) id (some ((rkL p pw (k + 1)).map (.i .i64)))) (fun x m => x ≤ wK p pw (k + 1) ∧ id < m) (fun x => wK p pw (k + 1) - x) (0) ?_ ?_ (by exact Le.refl _) ?_
     ·exact ⟨by simp, by first| omega| (simp only; omega)| (dsimp only; omega)⟩
     ·simp only [hcnt]; simp (disch := omega) [wks, wkA, sl, rows, ringP]
     ·skip
      rintro d m3 ⟨hd, hdm⟩
      have hb1 := pow_gt hp2 (wK p pw (k + 1) - d)
      have hb2 := pw_le hp2 (show wK p pw (k + 1) - d ≤ wK p pw (k + 1) by omega)
      simp -dsimp -implicitDefEqProofs (disch := omega) only [go_sem, undef, reduceAdd, reduceSub, reduceGT, reduceEqDiff, reduceMul]
      refine AW.seq (fun N8 hN8 => ?_)
      refine AW.sr envOk (fun N hN => ?_)
      simp -dsimp -implicitDefEqProofs (disch := omega) only [go_sem, undef, reduceAdd, reduceSub, reduceGT, reduceEqDiff, reduceMul, ring, ringP, w64]
      refine hN _ ?_
      try clear hN N
      refine AW.cond rfl (fun h4 => ?_) (fun h4 => ?_)
      ·try simp only [cn] at h4
       have hlt : d < wK p pw (k + 1) := by
        apply Classical.byContradiction
        intro hn
        rw [show wK p pw (k + 1) - d = 0 by omega, Int.pow_zero] at h4
        omega
       have hb3 := pow_gt hp2 (wK p pw (k + 1) - (d + 1))
       have hdv : (p ^ (wK p pw (k + 1) - d)).tdiv p = p ^ (wK p pw (k + 1) - (d + 1)) := by rw [Int.tdiv_eq_ediv_of_nonneg (by omega), show wK p pw (k + 1) - d = (wK p pw (k + 1) - (d + 1)) + 1 by omega, pow_div hp2]
       have hb4 := pw_le hp2 (show wK p pw (k + 1) - (d + 1) ≤ wK p pw (k + 1) by omega)
       refine AW.skip ?_
       simp only [thn, blk]
       refine hN8 _ ?_
       try clear hN8 N8
       refine AW.seq (fun N9 hN9 => ?_)
       refine AW.block ?_
       refine AW.regionL envOk ?_
       simp -dsimp -implicitDefEqProofs (disch := omega) only [go_sem, undef, reduceAdd, reduceSub, reduceGT, reduceEqDiff, reduceMul, ring, ringP, w64]
       refine hN9 _ ?_
       try clear hN9 N9
       refine AW.regionL envOk ?_
       simp -dsimp -implicitDefEqProofs (disch := omega) only [go_sem, undef, reduceAdd, reduceSub, reduceGT, reduceEqDiff, reduceMul, ring, ringP, w64, hdv]
       refine ⟨d + 1, ?_, fun _ _ h => h, ?_, ?_⟩
       ·simp (disch := omega) [wks, wkA, sl, w64, rows, ringP, hdv] <;> omega
       ·first| exact ⟨by first| omega| (simp only; omega)| (dsimp only; omega), by first| omega| (simp only; omega)| (dsimp only; omega)⟩| first| omega| (simp only; omega)| (dsimp only; omega)
       ·first | omega | (simp only; omega)
      ·try simp only [cn] at h4
       have hde : d = wK p pw (k + 1) := by
        apply Classical.byContradiction
        intro hn
        have h5 := pw_le hp2 (show 1 ≤ wK p pw (k + 1) - d by omega)
        rw [Int.pow_one] at h5
        omega
       subst hde
       refine AW.exit ?_
       simp only [thn, blk, if_true]
       refine hN7 _ ?_
       try clear hN7 N7
       refine AW.sr envOk (fun N hN => ?_)
       simp -dsimp -implicitDefEqProofs (disch := omega) only [go_sem, undef, reduceAdd, reduceSub, reduceGT, reduceEqDiff, reduceMul, ring, ringP, w64, htk]
       refine hN _ ?_
       try clear hN N
       refine AW.sr envOk (fun N hN => ?_)
       simp -dsimp -implicitDefEqProofs (disch := omega) only [go_sem, undef, reduceAdd, reduceSub, reduceGT, reduceEqDiff, reduceMul, ring, ringP, w64]
       refine hN _ ?_
       try clear hN N
       refine AW.cond rfl (fun h5 => ?_) (fun h5 => ?_)
       ·try simp only [cn] at h5
        have hwe : wK p pw (k + 1) = pw.length := by omega
        have hr1 := rkL_s (p := p) (X := pw) (k + 1)
        have hr2 := rkL_s (p := p) (X := pw) (k + 2)
        have hw2 : wK p pw (k + 2) = pw.length := by
         have h1 := wK_mono ht hp (k + 1) 1
         have h2 := wK_le ht hp (k + 2)
         rw [show k + 1 + 1 = k + 2 by omega] at h1
         omega
        rw [hw2] at hr2
        have hrl3 := rkL_len (p := p) (X := pw) (k + 3)
        have hrc : (rkL p pw (k + 3)).map (AV.i .i64) = (rkL p pw (k + 1)).map (AV.i .i64) ++ [AV.i .i64 (wK p pw (k + 1) : Int)] ++ [AV.i .i64 (pw.length : Int)] := by
         rw [hr2, List.map_append, hr1, List.map_append]; rfl
        have htk2 : List.take (k + 1 + 1) ((rkL p pw (k + 1)).map (AV.i .i64) ++ [AV.i .i64 (wK p pw (k + 1) : Int)]) = (rkL p pw (k + 1)).map (AV.i .i64) ++ [AV.i .i64 (wK p pw (k + 1) : Int)] := List.take_of_length_le (by rw [List.length_append, List.length_map, hrl]; exact Nat.le_refl _)
        have hll : ((rkL p pw (k + 1)).map (AV.i .i64) ++ [AV.i .i64 (wK p pw (k + 1) : Int)]).length = k + 2 := by rw [List.length_append, List.length_map, hrl]; rfl
        refine AW.exit ?_
        simp only [thn, blk, if_true]
        refine hN2 _ ?_
        try clear hN2 N2
        refine AW.sr envOk (fun N hN => ?_)
        simp -dsimp -implicitDefEqProofs (disch := omega) only [go_sem, undef, reduceAdd, reduceSub, reduceGT, reduceEqDiff, reduceMul, ring, ringP, w64, htk, htk2]
        refine hN _ ?_
        try clear hN N
        refine AW.sr envOk (fun N hN => ?_)
        simp -dsimp -implicitDefEqProofs (disch := omega) only [go_sem, undef, reduceAdd, reduceSub, reduceGT, reduceEqDiff, reduceMul, ring, ringP, w64]
        refine hN _ ?_
        try clear hN N
        refine AW.seq (fun N10 hN10 => ?_)
        refine AW.sr envOk (fun N hN => ?_)
        simp -dsimp -implicitDefEqProofs (disch := omega) only [go_sem, undef, reduceAdd, reduceSub, reduceGT, reduceEqDiff, reduceMul, ring, ringP, w64]
        refine hN _ ?_
        try clear hN N
        refine AW.block ?_
        refine AW.freeze 6 (m3 + 13) (k + 3) ((rkL p pw (k + 3)).map (.i .i64)) rfl (by rw [hrc]; simp (disch := omega) only [upd_same, upd_ne]) (by rw [List.length_map, hrl3]) ?_
        have hcv : AV.v (k + 3) ((rkL p pw (k + 3)).map (.i .i64)) = ints (rkL p pw (k + 3)) := by unfold ints; rw [hrl3]
        rw [hcv]
        have hd0 : dK p pw 0 ≤ pw.length := dK_0 ht hp
        have hdle := fun q => dK_le ht hp q
        have hws := fun q => wK_s ht hp q
        have hwl := fun q => wK_le ht hp q
        have hpl := fun q => prt_len (p := p) (d := dK p pw) hdle q
        refine AW.loopN (α := Nat × Option Nat) (fun x => sl 98 [(1, ringP p pw br), (2, .q (nx + 1) 0), (3, .i .i64 0), (6, ints (rkL p pw (k + 3))), (12, lsA x.2 (prtL (dK p pw) p x.1).length), (13, .i .i64 (x.1 + 1 : Nat))]) (fun x => oH (upd noH (nx + 1) (some [.nl, .i .i64 0])) x.2 ((prtL (dK p pw) p x.1).map (.i .i64))) (fun x m => x.1 ≤ k + 1 ∧ (x.2 = none → prtL (dK p pw) p x.1 = []) ∧ nx + 2 ≤ m ∧ ∀ id, x.2 = some id → nx + 2 ≤ id ∧ id < m) (fun x => k + 1 - x.1) ((0, none)) ?_ ?_ (by intro d cs hd; simp only [oH, upd, noH] at hd ⊢; grind) ?_
        ·exact ⟨by simp, fun _ => rfl, by first| omega| (simp only; omega)| (dsimp only; omega), fun id h => (by cases h)⟩
        ·simp (disch := omega) [wks, wkA, sl, rows, ringP, ints, lsA]
        ·skip
         rintro ⟨q, o⟩ m4 ⟨hq, ho, hm4, hid⟩
         dsimp only at hq ho hid
         have hq2 := hpl q
         obtain ⟨amt, hamt⟩ : ∃ amt, dK p pw q - dK p pw (q + 1) = amt := ⟨_, rfl⟩
         have hq3 := hdle q
         have hq4 := hws q
         have hq5 := hws (q + 1)
         have hq6 := hwl (q + 1)
         have hq7 := hwl (q + 1 + 1)
         have hq8 := hwl q
         simp -dsimp -implicitDefEqProofs (disch := omega) only [go_sem, undef, reduceAdd, reduceSub, reduceGT, reduceEqDiff, reduceMul]
         refine AW.seq (fun N11 hN11 => ?_)
         refine AW.sr envOk (fun N hN => ?_)
         simp -dsimp -implicitDefEqProofs (disch := omega) only [go_sem, undef, reduceAdd, reduceSub, reduceGT, reduceEqDiff, reduceMul, ring, ringP, w64, ints]
         refine hN _ ?_
         try clear hN N
         refine AW.cond rfl (fun h6 => ?_) (fun h6 => ?_)
         ·try simp only [cn] at h6
          have e7 : (((q + 1 : Nat) : Int) - 1).toNat = q := by omega
          have e8 : (((q + 1 : Nat) : Int) + 1).toNat = q + 1 + 1 := by omega
          have g1 := rkL_get (p := p) (X := pw) (k := k + 3) (j := q) (by omega)
          have g2 := rkL_get (p := p) (X := pw) (k := k + 3) (j := q + 1) (by omega)
          have g3 := rkL_get (p := p) (X := pw) (k := k + 3) (j := q + 1 + 1) (by omega)
          refine AW.skip ?_
          simp only [thn, blk]
          refine hN11 _ ?_
          try clear hN11 N11
          refine AW.seq (fun N12 hN12 => ?_)
          refine AW.block ?_
          refine AW.seq (fun N hN => ?_)
          refine AW.drawF envOk (by kernel_rfl) [true, true, true, true, true, true, true, true, true, true, true, true, true, true, true, true, true, true] (by kernel_rfl) ?_
          simp -dsimp -implicitDefEqProofs (disch := omega) only [go_sem, undef, reduceAdd, reduceSub, reduceGT, reduceEqDiff, reduceMul, ring, ringP, w64, ints, gd_i, e7, e8, g1, g2, g3]
          refine hN _ ?_
          try clear hN N
          refine AW.block ?_
          refine AW.loopN (α := Nat × Option Nat) (fun x => sl 98 [(1, ringP p pw br), (2, .q (nx + 1) 0), (3, .i .i64 0), (6, ints (rkL p pw (k + 3))), (12, lsA x.2 ((prtL (dK p pw) p q).length + x.1)), (13, .i .i64 (q + 1 : Nat)), (83, .i .i64 amt), (84, .i .i64 x.1)]) (fun x => oH (upd noH (nx + 1) (some [.nl, .i .i64 0])) x.2 ((prtL (dK p pw) p q ++ List.replicate x.1 (p ^ (q + 1))).map (.i .i64))) (fun x m => x.1 ≤ amt ∧ (x.2 = none → prtL (dK p pw) p q ++ List.replicate x.1 (p ^ (q + 1)) = []) ∧ nx + 2 ≤ m ∧ ∀ id, x.2 = some id → nx + 2 ≤ id ∧ id < m) (fun x => amt - x.1) ((0, o)) ?_ ?_ (by simp only [List.replicate_zero, List.append_nil]; exact Le.refl _) ?_
          ·exact ⟨by simp, fun h => (by rw [ho h]; rfl), by first| omega| (simp only; omega)| (dsimp only; omega), fun id h => (by have := hid id h; first| omega| (simp only; omega)| (dsimp only; omega))⟩
          ·simp (disch := omega) [wks, wkA, sl, rows, ringP, ints, lsA] <;> omega
          ·skip
           rintro ⟨j, (_ | id5)⟩ m5 ⟨hj, hj0, hm5, hid5⟩
           ·skip
            have hnil := hj0 rfl
            dsimp only at hj hnil
            clear hid5 hj0
            have hjz : j = 0 ∧ (prtL (dK p pw) p q).length = 0 := by
             have h1 := congrArg List.length hnil
             rw [List.length_append, List.length_replicate, List.length_nil] at h1
             exact ⟨by omega, by omega⟩
            obtain ⟨rfl, hpz⟩ := hjz
            have hpz2 := List.length_eq_zero_iff.1 hpz
            dsimp only [oH, lsA]
            simp -dsimp -implicitDefEqProofs (disch := omega) only [go_sem, undef, reduceAdd, reduceSub, reduceGT, reduceEqDiff, reduceMul]
            refine AW.sr envOk (fun N hN => ?_)
            simp -dsimp -implicitDefEqProofs (disch := omega) only [go_sem, undef, reduceAdd, reduceSub, reduceGT, reduceEqDiff, reduceMul, ring, ringP, w64]
            refine hN _ ?_
            try clear hN N
            refine AW.seq (fun N13 hN13 => ?_)
            refine AW.cond rfl (fun h7 => ?_) (fun h7 => ?_)
            ·try simp only [cn] at h7
             skip
             refine AW.skip ?_
             simp only [thn, blk]
             refine hN13 _ ?_
             try clear hN13 N13
             refine AW.seq (fun N14 hN14 => ?_)
             refine AW.block ?_
             refine AW.regionL envOk ?_
             simp -dsimp -implicitDefEqProofs (disch := omega) only [go_sem, undef, reduceAdd, reduceSub, reduceGT, reduceEqDiff, reduceMul, ring, ringP, w64]
             refine AC.pure (.of (impl_integerPower_ok p (q + 1) hp (by omega))) ?_
             try simp -dsimp -implicitDefEqProofs (disch := omega) only [go_sem, undef, reduceAdd, reduceSub, reduceGT, reduceEqDiff, reduceMul, ring, ringP, w64]
             refine hN14 _ ?_
             try clear hN14 N14
             refine AW.regionL envOk ?_
             simp -dsimp -implicitDefEqProofs (disch := omega) only [go_sem, undef, reduceAdd, reduceSub, reduceGT, reduceEqDiff, reduceMul, ring, ringP, w64]
             refine ⟨(1, some (m5 + 7)), ?_, by rw [hpz2]; intro d cs hd; simp only [oH, upd, noH, List.nil_append, List.replicate_one, List.map_cons, List.map_nil] at hd ⊢; grind, ?_, ?_⟩
             ·simp (disch := omega) [wks, wkA, sl, w64, ints, rows, cubes, ring, ringP, w64] <;> omega
             ·first| exact ⟨by first| omega| (simp only; omega)| (dsimp only; omega), fun h => (by cases h), by first| omega| (simp only; omega)| (dsimp only; omega), fun id h => (by cases h; exact ⟨by omega, by omega⟩)⟩| exact ⟨by first| omega| (simp only; omega)| (dsimp only; omega), fun h => (by cases h), fun id h => (by cases h; exact ⟨by omega, by omega⟩)⟩| exact fun id h => (by cases h; exact ⟨by omega, by omega⟩)
             ·first | omega | (simp only; omega)
            ·try simp only [cn] at h7
             have ham0 : amt = 0 := by omega
             have hps : prtL (dK p pw) p (q + 1) = [] := by rw [prtL, hamt, ham0, hpz2]; rfl
             refine AW.exit ?_
             simp only [thn, blk, if_true]
             refine hN12 _ ?_
             try clear hN12 N12
             refine AW.regionL envOk ?_
             simp -dsimp -implicitDefEqProofs (disch := omega) only [go_sem, undef, reduceAdd, reduceSub, reduceGT, reduceEqDiff, reduceMul, ring, ringP, w64]
             refine ⟨(q + 1, none), ?_, by intro d cs hd; simp only [oH] at hd ⊢; exact hd, ?_, ?_⟩
             ·simp (disch := omega) [wks, wkA, sl, w64, rows, ringP, ints, lsA, hps] <;> omega
             ·first| exact ⟨by first| omega| (simp only; omega)| (dsimp only; omega), fun _ => hps, by first| omega| (simp only; omega)| (dsimp only; omega), fun id h => (by cases h)⟩| exact ⟨by first| omega| (simp only; omega)| (dsimp only; omega), fun _ => hps, fun id h => (by cases h)⟩
             ·first | omega | (simp only; omega)
           ·skip
            obtain ⟨hi1, hi2⟩ := hid5 id5 rfl
            dsimp only at hj
            clear hid5 hj0
            have hlen5 : ((prtL (dK p pw) p q ++ List.replicate j (p ^ (q + 1))).map (AV.i .i64)).length = (prtL (dK p pw) p q).length + j := by rw [List.length_map, List.length_append, List.length_replicate]
            have htk5 : List.take ((prtL (dK p pw) p q).length + j) ((prtL (dK p pw) p q ++ List.replicate j (p ^ (q + 1))).map (AV.i .i64)) = (prtL (dK p pw) p q ++ List.replicate j (p ^ (q + 1))).map (AV.i .i64) := List.take_of_length_le (by rw [hlen5]; exact Nat.le_refl _)
            dsimp only [oH, lsA]
            simp -dsimp -implicitDefEqProofs (disch := omega) only [go_sem, undef, reduceAdd, reduceSub, reduceGT, reduceEqDiff, reduceMul]
            refine AW.sr envOk (fun N hN => ?_)
            simp -dsimp -implicitDefEqProofs (disch := omega) only [go_sem, undef, reduceAdd, reduceSub, reduceGT, reduceEqDiff, reduceMul, ring, ringP, w64]
            refine hN _ ?_
            try clear hN N
            refine AW.seq (fun N15 hN15 => ?_)
            refine AW.cond rfl (fun h8 => ?_) (fun h8 => ?_)
            ·try simp only [cn] at h8
             refine AW.skip ?_
             simp only [thn, blk]
             refine hN15 _ ?_
             try clear hN15 N15
             refine AW.seq (fun N16 hN16 => ?_)
             refine AW.block ?_
             refine AW.regionL envOk ?_
             simp -dsimp -implicitDefEqProofs (disch := omega) only [go_sem, undef, reduceAdd, reduceSub, reduceGT, reduceEqDiff, reduceMul, ring, ringP, w64]
             refine AC.pure (.of (impl_integerPower_ok p (q + 1) hp (by omega))) ?_
             try simp -dsimp -implicitDefEqProofs (disch := omega) only [go_sem, undef, reduceAdd, reduceSub, reduceGT, reduceEqDiff, reduceMul, ring, ringP, w64]
             refine hN16 _ ?_
             try clear hN16 N16
             refine AW.regionL envOk ?_
             simp -dsimp -implicitDefEqProofs (disch := omega) only [go_sem, undef, reduceAdd, reduceSub, reduceGT, reduceEqDiff, reduceMul, ring, ringP, w64]
             refine ⟨(j + 1, some (m5 + 7)), ?_, by rw [List.replicate_succ', ← List.append_assoc, List.map_append]; intro d cs hd; simp only [oH, upd, noH, htk5, List.map_cons, List.map_nil] at hd ⊢; grind, ?_, ?_⟩
             ·simp (disch := omega) [wks, wkA, sl, w64, ints, rows, cubes, ring, ringP, w64] <;> omega
             ·first| exact ⟨by first| omega| (simp only; omega)| (dsimp only; omega), fun h => (by cases h), by first| omega| (simp only; omega)| (dsimp only; omega), fun id h => (by cases h; exact ⟨by omega, by omega⟩)⟩| exact ⟨by first| omega| (simp only; omega)| (dsimp only; omega), fun h => (by cases h), fun id h => (by cases h; exact ⟨by omega, by omega⟩)⟩| exact fun id h => (by cases h; exact ⟨by omega, by omega⟩)
             ·first | omega | (simp only; omega)
            ·try simp only [cn] at h8
             have hjam : j = amt := by omega
             have hps : prtL (dK p pw) p (q + 1) = prtL (dK p pw) p q ++ List.replicate j (p ^ (q + 1)) := by rw [prtL, hamt, hjam]
             have hpsl : (prtL (dK p pw) p q).length + j = (prtL (dK p pw) p (q + 1)).length := by rw [hps, List.length_append, List.length_replicate]
             refine AW.exit ?_
             simp only [thn, blk, if_true]
             refine hN12 _ ?_
             try clear hN12 N12
             refine AW.regionL envOk ?_
             simp -dsimp -implicitDefEqProofs (disch := omega) only [go_sem, undef, reduceAdd, reduceSub, reduceGT, reduceEqDiff, reduceMul, ring, ringP, w64]
             refine ⟨(q + 1, some id5), ?_, by rw [hps]; exact Le.refl _, ?_, ?_⟩
             ·simp (disch := omega) [wks, wkA, sl, w64, rows, ringP, ints, lsA, hps] <;> omega
             ·first| exact ⟨by first| omega| (simp only; omega)| (dsimp only; omega), fun h => (by cases h), by first| omega| (simp only; omega)| (dsimp only; omega), fun id h => (by cases h; exact ⟨by omega, by omega⟩)⟩| exact ⟨by first| omega| (simp only; omega)| (dsimp only; omega), fun h => (by cases h), fun id h => (by cases h; exact ⟨by omega, by omega⟩)⟩| exact fun id h => (by cases h; exact ⟨by omega, by omega⟩)
             ·first | omega | (simp only; omega)
         ·try simp only [cn] at h6
          obtain rfl : q = k + 1 := by omega
          have hadd : prtL (dK p pw) p (k + 1) = addL p pw := by
           unfold addL
           have hz : ∀ i, dK p pw (k + 1 + i) = 0 := fun i => dK_n ht hp hwe i
           rcases Nat.lt_or_ge pw.length (k + 1) with h | h
           ·have hz0 : ∀ i, dK p pw (pw.length + i) = 0 := fun i => dK_n ht hp (wK_n ht hp) i
            have := prt_cut (p := p) hz0 (k + 1 - pw.length)
            rwa [show pw.length + (k + 1 - pw.length) = k + 1 by omega] at this
           ·have := prt_cut (p := p) hz (pw.length - (k + 1))
            rw [show k + 1 + (pw.length - (k + 1)) = pw.length by omega] at this
            exact this.symm
          have hpart := add_parts ht hp h9
          rw [hadd] at ho ⊢
          have hvw : Vw (oH (upd noH (nx + 1) (some [.nl, .i .i64 0])) o ((addL p pw).map (.i .i64))) (lsA o (addL p pw).length) (ints (addL p pw)) := by
           cases o with
           | none => rw [ho rfl]; exact .nl
           | some id => exact Vw.blk (upd_same _ _ _) (by rw [List.length_map])
          have hbase : oH (upd noH (nx + 1) (some [.nl, .i .i64 0])) o ((addL p pw).map (.i .i64)) (nx + 1) = some [.nl, .i .i64 0] := by
           cases o with
           | none => exact upd_same _ _ _
           | some id => have := hid id rfl; show upd _ id _ _ = _; rw [upd_ne _ _ (by omega), upd_same]
          refine AW.nameH (fun G hG => ?_)
          dsimp only at hG
          rw [hG] at hvw hbase
          refine AW.exit ?_
          simp only [thn, blk, if_true]
          refine hN10 _ ?_
          try clear hN10 N10
          refine AW.sr envOk (fun N hN => ?_)
          simp -dsimp -implicitDefEqProofs (disch := omega) only [go_sem, undef, reduceAdd, reduceSub, reduceGT, reduceEqDiff, reduceMul, ring, ringP, w64]
          refine AC.own (impl_fromPrimary_ok p (addL p pw) hpart) (.cons hvw (.cons (.refl _) .nil)) ?_
          intro m8 H8 r8 ids8 hm8 hH8 hown
          obtain ⟨r2, rfl, hr2⟩ := hown.abl_inv
          have hb8 := (hH8 (nx + 1) (by omega)).trans hbase
          try simp -dsimp -implicitDefEqProofs (disch := omega) only [go_sem, undef, reduceAdd, reduceSub, reduceGT, reduceEqDiff, reduceMul, hb8, hr2]
          refine hN _ ?_
          try clear hN N
          refine AW.ret ?_
          simp -dsimp -implicitDefEqProofs (disch := omega) only [go_sem, undef, reduceAdd, reduceSub, reduceGT, reduceEqDiff, reduceMul]
          rw [tf_t (show LieR p pw br from ⟨hs, by assumption⟩)]
          exact ⟨_, hown.keep (fun i h1 h2 => upd_ne _ _ (by omega)) (by omega) (by omega)⟩
       ·try simp only [cn] at h5
        have hwne : wK p pw (k + 1) ≠ pw.length := fun e => h5 (by rw [e])
        have hkl : k + 1 ≤ pw.length := by
         apply Classical.byContradiction
         intro hn
         exact hwne (wK_top ht hp (by omega))
        have hr1 := rkL_s (p := p) (X := pw) (k + 1)
        have hkn2 : ∀ j, 1 ≤ j → j ≤ k + 1 → wK p pw j ≠ pw.length := fun j h1 h2 => by
         rcases Nat.lt_or_ge k j with h | h
         ·obtain rfl : j = k + 1 := by omega
          exact hwne
         ·exact hkn j h1 h
        refine AW.skip ?_
        simp only [thn, blk]
        refine hN3 _ ?_
        try clear hN3 N3
        refine AW.regionL envOk ?_
        simp -dsimp -implicitDefEqProofs (disch := omega) only [go_sem, undef, reduceAdd, reduceSub, reduceGT, reduceEqDiff, reduceMul, ring, ringP, w64]
        refine ⟨(k + 1, m3 + 5), ?_, by rw [hr1]; intro d cs hd; simp only [upd, noH, htk, List.map_append, List.map_cons, List.map_nil] at hd ⊢; grind, ?_, ?_⟩
        ·simp (disch := omega) [wks, wkA, sl, w64, rows, ringP] <;> omega
        ·exact ⟨hkl, hkn2, by first| omega| (simp only; omega)| (dsimp only; omega), by first| omega| (simp only; omega)| (dsimp only; omega)⟩
        ·first | omega | (simp only; omega)
end Go.Proofs.Ytkmgmjajbiddbaa
