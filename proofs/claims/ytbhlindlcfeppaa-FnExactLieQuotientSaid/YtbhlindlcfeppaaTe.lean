/-
  Images modulo an ideal: the positions that are no depths, LieImage.
-/
import Derived.Test.YtbhlindlcfeppaaSy
import Derived.Test.YtbhlindlcfeppaaAvR
set_option linter.unusedVariables false
set_option linter.unusedSimpArgs false
namespace Go.Proofs.Ytbhlindlcfeppaa
open Nat (reduceAdd reduceSub reduceGT reduceEqDiff reduceMul)

/-- The position i is no depth. -/
def isOth (u : List (List Int)) (i : Nat) : Prop := ∀ q, q < u.length → dep (u.getD q []) ≠ i
def oneI : Bool → Nat → List Int
  | true, k => [(k : Int)]
  | false, _ => []
noncomputable def othK (u : List (List Int)) : Nat → List Int
  | 0 => []
  | k + 1 => othK u k ++ oneI (tf (isOth u k)) k
theorem othK_t {u : List (List Int)} {k : Nat} (h : isOth u k) : othK u (k + 1) = othK u k ++ [(k : Int)] := by rw [othK, tf_t h]; rfl
theorem othK_f {u : List (List Int)} {k : Nat} (h : ¬isOth u k) : othK u (k + 1) = othK u k := by rw [othK, tf_f h]; simp [oneI]
theorem othK_ok {u : List (List Int)} : ∀ {k : Nat}, (othK u k).length ≤ k ∧ ∀ x ∈ othK u k, 0 ≤ x ∧ x < (k : Int) := by
  intro k
  induction k with
  | zero => simp [othK]
  | succ k ih =>
    by_cases h : isOth u k
    · rw [othK_t h]
      refine ⟨by simp; exact ih.1, fun x hx => ?_⟩
      rcases List.mem_append.1 hx with hx | hx
      · have := ih.2 x hx; omega
      · rw [List.mem_singleton.1 hx]; omega
    · rw [othK_f h]
      exact ⟨by have := ih.1; omega, fun x hx => by have := ih.2 x hx; omega⟩
theorem isOth_iff {u : List (List Int)} {i : Nat} : isOth u i ↔ ¬((i : Int) ∈ deps u) := by
  unfold isOth deps
  constructor
  · intro h hm
    obtain ⟨b, hb, he⟩ := List.mem_map.1 hm
    obtain ⟨q, hq, rfl⟩ := mem_ix (d := []) hb
    exact h q hq (by omega)
  · intro h q hq he
    exact h (List.mem_map.2 ⟨_, ix_mem (d := []) hq, by omega⟩)
theorem othf_s {u : List (List Int)} {q i : Nat} : tf (∀ r, r < q + 1 → dep (u.getD r []) ≠ i) = (tf (∀ r, r < q → dep (u.getD r []) ≠ i) && ((dep (u.getD q []) : Int) != (i : Int))) := by
  by_cases h : ∀ r, r < q → dep (u.getD r []) ≠ i
  · rw [tf_t h, Bool.true_and]
    by_cases e : dep (u.getD q []) = i
    · rw [tf_f (fun h2 => h2 q (by omega) e), e]; simp
    · rw [tf_t (fun r hr => by
        by_cases er : r = q
        · subst er; exact e
        · exact h r (by omega))]
      have : ((dep (u.getD q []) : Int) != (i : Int)) = true := bne_iff_ne.2 (fun h => e (by omega))
      rw [this]
  · rw [tf_f h, tf_f (fun h2 => h fun r hr => h2 r (by omega)), Bool.false_and]
/-- The entries at some positions. -/
def imgK (y l : List Int) : List Int := l.map fun i => y.getD i.toNat 0
theorem imgK_s {y l : List Int} {j : Nat} (h : j < l.length) : imgK y (l.take (j + 1)) = imgK y (l.take j) ++ [y.getD (l.getD j 0).toNat 0] := by
  unfold imgK
  rw [List.take_add_one, List.map_append]
  simp [h]
theorem imgK_len {y l : List Int} : (imgK y l).length = l.length := by simp [imgK]
/-- The image of x modulo u. -/
noncomputable def imgL (p : Int) (pw u : List (List Int)) (x : List Int) : List Int := imgK (redL p pw u x) (othK u pw.length)

/-- The first place of y. -/
def ixF (y : Int) : List Int → Nat → Int
  | [], _ => -1
  | b :: l, k => if b = y then k else ixF y l (k + 1)
theorem ixF_iff {y : Int} : ∀ {l : List Int} {k : Nat}, 0 ≤ ixF y l k ↔ y ∈ l := by
  intro l
  induction l with
  | nil => intro k; simp [ixF]
  | cons b l ih =>
    intro k
    rw [ixF]
    by_cases e : b = y
    · rw [if_pos e]; simp [e]
    · rw [if_neg e, ih]
      simp [Ne.symm e]
theorem ixF_step {y : Int} {a : List Int} {k : Nat} (h : k < a.length) : ixF y (a.drop k) k = if a.getD k 0 = y then (k : Int) else ixF y (a.drop (k + 1)) (k + 1) := by
  rw [List.drop_eq_getElem_cons h, ixF]
  simp [h]

theorem slices_Index_int_ok (a : List Int) (y : Int) (ha : a.length ≤ 1099511627776) : ACp Try.prog 170 [ints a, .i .i64 y] (.i .i64 (ixF y a 0)) := by
 refine ACp.intro' envOk Try.func170 rfl (by kernel_rfl) Try.ntmps170 Try.results170 (.i _ _) (fun nx => ?_)
 refine AW.sr envOk (fun N hN => ?_)
 simp -dsimp -implicitDefEqProofs (disch := omega) only [go_sem, reduceAdd, reduceSub, reduceGT, reduceEqDiff, reduceMul, ints, gd_i, w64]
 refine hN _ ?_
 try clear hN N
 refine AW.seq (fun N1 hN1 => ?_)
 refine AW.sr envOk (fun N hN => ?_)
 simp -dsimp -implicitDefEqProofs (disch := omega) only [go_sem, reduceAdd, reduceSub, reduceGT, reduceEqDiff, reduceMul, ints, gd_i, w64]
 refine hN _ ?_
 try clear hN N
 refine AW.block ?_
 refine AW.loopN (α := Nat) (fun x => sl 19 [(0, ints a), (1, .i .i64 y), (7, .i .i64 a.length), (8, .i .i64 x)]) (fun _ => noH) (fun x m => x ≤ a.length ∧ ixF y a 0 = ixF y (a.drop x) x) (fun x => a.length - x) (0) ?_ ?_ (fun _ _ h => h) ?_
 ·exact ⟨by omega, rfl⟩
 ·simp (disch := omega) [wks, wkA, sl, w64, ints, rows, cubes, ints, gd_i, w64] <;> omega
 ·skip
  rintro k m ⟨hk, hI⟩
  simp -dsimp -implicitDefEqProofs (disch := omega) only [go_sem, reduceAdd, reduceSub, reduceGT, reduceEqDiff, reduceMul]
  refine AW.sr envOk (fun N hN => ?_)
  simp -dsimp -implicitDefEqProofs (disch := omega) only [go_sem, reduceAdd, reduceSub, reduceGT, reduceEqDiff, reduceMul, ints, gd_i, w64]
  refine hN _ ?_
  try clear hN N
  refine AW.seq (fun N2 hN2 => ?_)
  refine AW.cond rfl (fun h1 => ?_) (fun h1 => ?_)
  ·try simp only [cn] at h1
   have hs := ixF_step (y := y) (show k < a.length by omega)
   refine AW.skip ?_
   simp only [thn, blk]
   refine hN2 _ ?_
   try clear hN2 N2
   refine AW.seq (fun N3 hN3 => ?_)
   refine AW.block ?_
   refine AW.sr envOk (fun N hN => ?_)
   simp -dsimp -implicitDefEqProofs (disch := omega) only [go_sem, reduceAdd, reduceSub, reduceGT, reduceEqDiff, reduceMul, ints, gd_i, w64]
   refine hN _ ?_
   try clear hN N
   refine AW.sr envOk (fun N hN => ?_)
   simp -dsimp -implicitDefEqProofs (disch := omega) only [go_sem, reduceAdd, reduceSub, reduceGT, reduceEqDiff, reduceMul, ints, gd_i, w64]
   refine hN _ ?_
   try clear hN N
   refine AW.cond rfl (fun h2 => ?_) (fun h2 => ?_)
   ·try simp only [cn] at h2
    refine AW.sr envOk (fun N hN => ?_)
    simp -dsimp -implicitDefEqProofs (disch := omega) only [go_sem, reduceAdd, reduceSub, reduceGT, reduceEqDiff, reduceMul, ints, gd_i, w64]
    refine hN _ ?_
    try clear hN N
    refine AW.ret ?_
    simp -dsimp -implicitDefEqProofs (disch := omega) only [go_sem, reduceAdd, reduceSub, reduceGT, reduceEqDiff, reduceMul]
    rw [hI, hs, if_pos (by omega)]
   ·try simp only [cn] at h2
    refine AW.skip ?_
    simp only [thn, blk]
    refine hN3 _ ?_
    try clear hN3 N3
    refine AW.regionL envOk ?_
    simp -dsimp -implicitDefEqProofs (disch := omega) only [go_sem, reduceAdd, reduceSub, reduceGT, reduceEqDiff, reduceMul, ints, gd_i, w64]
    refine ⟨k + 1, ?_, fun _ _ h => h, ?_, ?_⟩
    ·simp (disch := omega) [wks, wkA, sl, w64, ints, rows, cubes, ints, gd_i, w64] <;> omega
    ·exact ⟨by omega, by rw [hI, hs, if_neg (by omega)]⟩
    ·first | omega | (simp only; omega)
  ·try simp only [cn] at h1
   refine AW.exit ?_
   simp only [thn, blk, if_true]
   refine hN1 _ ?_
   try clear hN1 N1
   refine AW.sr envOk (fun N hN => ?_)
   simp -dsimp -implicitDefEqProofs (disch := omega) only [go_sem, reduceAdd, reduceSub, reduceGT, reduceEqDiff, reduceMul, ints, gd_i, w64]
   refine hN _ ?_
   try clear hN N
   refine AW.ret ?_
   simp -dsimp -implicitDefEqProofs (disch := omega) only [go_sem, reduceAdd, reduceSub, reduceGT, reduceEqDiff, reduceMul]
   rw [hI, List.drop_eq_nil_of_le (by omega)]; rfl

theorem slices_Contains_int_ok (a : List Int) (y : Int) (ha : a.length ≤ 1099511627776) : ACp Try.prog 143 [ints a, .i .i64 y] (.b (tf (y ∈ a))) := by
 refine ACp.intro' envOk Try.func143 rfl (by kernel_rfl) Try.ntmps143 Try.results143 (.b _) (fun nx => ?_)
 refine AW.sr envOk (fun N hN => ?_)
 simp -dsimp -implicitDefEqProofs (disch := omega) only [go_sem, reduceAdd, reduceSub, reduceGT, reduceEqDiff, reduceMul, w64]
 refine hN _ ?_
 try clear hN N
 refine AW.sr envOk (fun N hN => ?_)
 simp -dsimp -implicitDefEqProofs (disch := omega) only [go_sem, reduceAdd, reduceSub, reduceGT, reduceEqDiff, reduceMul, w64]
 refine AC.pure (.of (slices_Index_int_ok a y ha )) ?_
 try simp -dsimp -implicitDefEqProofs (disch := omega) only [go_sem, reduceAdd, reduceSub, reduceGT, reduceEqDiff, reduceMul, w64]
 refine hN _ ?_
 try clear hN N
 refine AW.ret ?_
 simp -dsimp -implicitDefEqProofs (disch := omega) only [go_sem, reduceAdd, reduceSub, reduceGT, reduceEqDiff, reduceMul]
 by_cases hm : y ∈ a
 ·rw [tf_t hm]; exact bt (decide_eq_true (ixF_iff.2 hm))
 ·rw [tf_f hm]; exact bt (decide_eq_false fun h => hm (ixF_iff.1 h))


/-- The list of positions under construction. -/
def OtI (u : List (List Int)) (k nx m : Nat) (o : Option Nat) (K : List Int) : Prop := nx ≤ m ∧ K = othK u k ∧ (o = none → K = []) ∧ (∀ id, o = some id → nx ≤ id ∧ id < m)
theorem OtI.start {u : List (List Int)} {nx m : Nat} (h : nx ≤ m) : OtI u 0 nx m none [] := ⟨h, rfl, fun _ => rfl, by simp⟩
theorem OtI.start' {u : List (List Int)} {nx m id : Nat} (h : nx ≤ id) (h2 : id < m) : OtI u 0 nx m (some id) [] := ⟨by omega, rfl, fun _ => rfl, fun i hi => by cases hi; exact ⟨h, h2⟩⟩
theorem OtI.next {u : List (List Int)} {k nx m m' id' : Nat} {o : Option Nat} {K : List Int} (h : OtI u k nx m o K) (ho : isOth u k) (h1 : nx ≤ id') (h2 : id' < m') : OtI u (k + 1) nx m' (some id') (K ++ [(k : Int)]) :=
  ⟨by omega, by rw [othK_t ho, h.2.1], by simp, fun id hid => by cases hid; exact ⟨h1, h2⟩⟩
theorem OtI.skip {u : List (List Int)} {k nx m m' : Nat} {o : Option Nat} {K : List Int} (h : OtI u k nx m o K) (ho : ¬isOth u k) (hm : m ≤ m') : OtI u (k + 1) nx m' o K :=
  ⟨by have := h.1; omega, by rw [othK_f ho, h.2.1], h.2.2.1, fun id hid => by have := h.2.2.2 id hid; omega⟩

theorem impl_otherDepths_ok (p : Int) (pw : List (List Int)) (br : List (List (List Int))) (u : List (List Int)) (h6 : pw.length ≤ 6) (hu : u.length ≤ 1048576) (hl : ∀ k, k < u.length → (u.getD k []).length = pw.length ∧ dep (u.getD k []) < pw.length) : ACp Try.prog 97 [ringP p pw br, rows u] (ints (othK u pw.length)) := by
 have hdl := deps_len (u := u)
 refine ACp.introV envOk Try.func97 rfl (by kernel_rfl) Try.ntmps97 Try.results97 ((ints_nr _)) (fun nx => ?_)
 refine AW.sr envOk (fun N hN => ?_)
 simp -dsimp -implicitDefEqProofs (disch := omega) only [go_sem, reduceAdd, reduceSub, reduceGT, reduceEqDiff, reduceMul, ringP, w64]
 refine hN _ ?_
 try clear hN N
 refine AW.sr envOk (fun N hN => ?_)
 simp -dsimp -implicitDefEqProofs (disch := omega) only [go_sem, reduceAdd, reduceSub, reduceGT, reduceEqDiff, reduceMul, ringP, w64]
 refine hN _ ?_
 try clear hN N
 refine AW.seq (fun N1 hN1 => ?_)
 refine AW.sr envOk (fun N hN => ?_)
 simp -dsimp -implicitDefEqProofs (disch := omega) only [go_sem, reduceAdd, reduceSub, reduceGT, reduceEqDiff, reduceMul, ringP, w64]
 refine hN _ ?_
 try clear hN N
 refine AW.block ?_
 refine AW.loopN (α := Nat × Option Nat × List Int) (fun x => sl 26 [(1, rows u), (5, oA x.2.1 x.2.2.length), (11, .i .i64 pw.length), (12, .i .i64 x.1)]) (fun x => oH noH x.2.1 (x.2.2.map (AV.i .i64))) (fun x m => x.1 ≤ pw.length ∧ OtI u x.1 nx m x.2.1 x.2.2) (fun x => pw.length - x.1) ((0, none, [])) ?_ ?_ (fun _ _ h => h) ?_
 ·exact ⟨by simp, .start (by first| omega| (simp only; omega)| (dsimp only; omega))⟩
 ·simp [wks, wkA, sl, ringP, oA]
 ·skip
  rintro ⟨k, (_ | id), K⟩ m ⟨hk, hB⟩
  ·skip
   simp -dsimp -implicitDefEqProofs (disch := omega) only [go_sem, reduceAdd, reduceSub, reduceGT, reduceEqDiff, reduceMul]
   dsimp only [oA, oH] at hk hB ⊢
   obtain rfl := hB.2.2.1 rfl
   refine AW.sr envOk (fun N hN => ?_)
   simp -dsimp -implicitDefEqProofs (disch := omega) only [go_sem, reduceAdd, reduceSub, reduceGT, reduceEqDiff, reduceMul, ringP, w64]
   refine hN _ ?_
   try clear hN N
   refine AW.seq (fun N2 hN2 => ?_)
   refine AW.cond rfl (fun h1 => ?_) (fun h1 => ?_)
   ·try simp only [cn] at h1
    refine AW.skip ?_
    simp only [thn, blk]
    refine hN2 _ ?_
    try clear hN2 N2
    refine AW.seq (fun N3 hN3 => ?_)
    refine AW.block ?_
    refine AW.sr envOk (fun N hN => ?_)
    simp -dsimp -implicitDefEqProofs (disch := omega) only [go_sem, reduceAdd, reduceSub, reduceGT, reduceEqDiff, reduceMul, ringP, w64]
    refine hN _ ?_
    try clear hN N
    refine AW.sr envOk (fun N hN => ?_)
    simp -dsimp -implicitDefEqProofs (disch := omega) only [go_sem, reduceAdd, reduceSub, reduceGT, reduceEqDiff, reduceMul, ringP, w64]
    refine AC.pure (.of (impl_pivots_ok pw.length u h6 hu hl )) ?_
    try simp -dsimp -implicitDefEqProofs (disch := omega) only [go_sem, reduceAdd, reduceSub, reduceGT, reduceEqDiff, reduceMul, ringP, w64]
    refine AC.pure (.of (slices_Contains_int_ok (deps u) k (by omega) )) ?_
    try simp -dsimp -implicitDefEqProofs (disch := omega) only [go_sem, reduceAdd, reduceSub, reduceGT, reduceEqDiff, reduceMul, ringP, w64]
    refine hN _ ?_
    try clear hN N
    refine AW.cond rfl (fun h2 => ?_) (fun h2 => ?_)
    ·try simp only [cn] at h2
     have ho : isOth u k := isOth_iff.2 h2
     refine AW.regionL envOk ?_
     simp -dsimp -implicitDefEqProofs (disch := omega) only [go_sem, reduceAdd, reduceSub, reduceGT, reduceEqDiff, reduceMul, ringP, w64]
     refine hN3 _ ?_
     try clear hN3 N3
     refine AW.regionL envOk ?_
     simp -dsimp -implicitDefEqProofs (disch := omega) only [go_sem, reduceAdd, reduceSub, reduceGT, reduceEqDiff, reduceMul, ringP, w64]
     refine ⟨(k + 1, some (m + 1 + 2 + 5 + 3), [] ++ [(k : Int)]), ?_, by intro d cs hd; simp only [oH, upd, noH, List.nil_append, List.map_cons, List.map_nil] at hd ⊢; grind, ?_, ?_⟩
     ·simp (disch := omega) [wks, wkA, sl, ringP, oA, w64]
     ·exact ⟨by first| omega| (simp only; omega)| (dsimp only; omega), hB.next ho (by have := hB.1; first| omega| (simp only; omega)| (dsimp only; omega)) (by first| omega| (simp only; omega)| (dsimp only; omega))⟩
     ·first | omega | (simp only; omega)
    ·try simp only [cn] at h2
     have ho : ¬isOth u k := fun h => isOth_iff.1 h h2
     refine AW.skip ?_
     simp only [thn, blk]
     refine hN3 _ ?_
     try clear hN3 N3
     refine AW.regionL envOk ?_
     simp -dsimp -implicitDefEqProofs (disch := omega) only [go_sem, reduceAdd, reduceSub, reduceGT, reduceEqDiff, reduceMul, ringP, w64]
     refine ⟨(k + 1, none, []), ?_, fun _ _ h => h, ?_, ?_⟩
     ·simp (disch := omega) [wks, wkA, sl, ringP, oA, w64]
     ·exact ⟨by first| omega| (simp only; omega)| (dsimp only; omega), hB.skip ho (by first| omega| (simp only; omega)| (dsimp only; omega))⟩
     ·first | omega | (simp only; omega)
   ·try simp only [cn] at h1
    refine AW.exit ?_
    simp only [thn, blk, if_true]
    refine hN1 _ ?_
    try clear hN1 N1
    refine AW.sr envOk (fun N hN => ?_)
    simp -dsimp -implicitDefEqProofs (disch := omega) only [go_sem, reduceAdd, reduceSub, reduceGT, reduceEqDiff, reduceMul, ringP, w64]
    refine hN _ ?_
    try clear hN N
    refine AW.ret ?_
    simp -dsimp -implicitDefEqProofs (disch := omega) only [go_sem, reduceAdd, reduceSub, reduceGT, reduceEqDiff, reduceMul]
    rw [show pw.length = k by omega, ← hB.2.1]
    exact .nl
  ·skip
   simp -dsimp -implicitDefEqProofs (disch := omega) only [go_sem, reduceAdd, reduceSub, reduceGT, reduceEqDiff, reduceMul]
   dsimp only [oA, oH] at hk hB ⊢
   have hidm := hB.2.2.2 id rfl
   have hKl : K.length ≤ k := by rw [hB.2.1]; exact othK_ok.1
   refine AW.sr envOk (fun N hN => ?_)
   simp -dsimp -implicitDefEqProofs (disch := omega) only [go_sem, reduceAdd, reduceSub, reduceGT, reduceEqDiff, reduceMul, ringP, w64]
   refine hN _ ?_
   try clear hN N
   refine AW.seq (fun N4 hN4 => ?_)
   refine AW.cond rfl (fun h3 => ?_) (fun h3 => ?_)
   ·try simp only [cn] at h3
    refine AW.skip ?_
    simp only [thn, blk]
    refine hN4 _ ?_
    try clear hN4 N4
    refine AW.seq (fun N5 hN5 => ?_)
    refine AW.block ?_
    refine AW.sr envOk (fun N hN => ?_)
    simp -dsimp -implicitDefEqProofs (disch := omega) only [go_sem, reduceAdd, reduceSub, reduceGT, reduceEqDiff, reduceMul, ringP, w64]
    refine hN _ ?_
    try clear hN N
    refine AW.sr envOk (fun N hN => ?_)
    simp -dsimp -implicitDefEqProofs (disch := omega) only [go_sem, reduceAdd, reduceSub, reduceGT, reduceEqDiff, reduceMul, ringP, w64]
    refine AC.pure (.of (impl_pivots_ok pw.length u h6 hu hl )) ?_
    try simp -dsimp -implicitDefEqProofs (disch := omega) only [go_sem, reduceAdd, reduceSub, reduceGT, reduceEqDiff, reduceMul, ringP, w64]
    refine AC.pure (.of (slices_Contains_int_ok (deps u) k (by omega) )) ?_
    try simp -dsimp -implicitDefEqProofs (disch := omega) only [go_sem, reduceAdd, reduceSub, reduceGT, reduceEqDiff, reduceMul, ringP, w64]
    refine hN _ ?_
    try clear hN N
    refine AW.cond rfl (fun h4 => ?_) (fun h4 => ?_)
    ·try simp only [cn] at h4
     have ho : isOth u k := isOth_iff.2 h4
     refine AW.regionL envOk ?_
     simp -dsimp -implicitDefEqProofs (disch := omega) only [go_sem, reduceAdd, reduceSub, reduceGT, reduceEqDiff, reduceMul, ringP, w64]
     refine hN5 _ ?_
     try clear hN5 N5
     refine AW.regionL envOk ?_
     simp -dsimp -implicitDefEqProofs (disch := omega) only [go_sem, reduceAdd, reduceSub, reduceGT, reduceEqDiff, reduceMul, ringP, w64]
     refine ⟨(k + 1, some (m + 1 + 2 + 5 + 3), K ++ [(k : Int)]), ?_, by intro d cs hd; simp only [oH, upd, noH, tk_map, List.map_append, List.map_cons, List.map_nil] at hd ⊢; grind, ?_, ?_⟩
     ·simp (disch := omega) [wks, wkA, sl, ringP, oA, w64]
     ·exact ⟨by first| omega| (simp only; omega)| (dsimp only; omega), hB.next ho (by have := hB.1; first| omega| (simp only; omega)| (dsimp only; omega)) (by first| omega| (simp only; omega)| (dsimp only; omega))⟩
     ·first | omega | (simp only; omega)
    ·try simp only [cn] at h4
     have ho : ¬isOth u k := fun h => isOth_iff.1 h h4
     refine AW.skip ?_
     simp only [thn, blk]
     refine hN5 _ ?_
     try clear hN5 N5
     refine AW.regionL envOk ?_
     simp -dsimp -implicitDefEqProofs (disch := omega) only [go_sem, reduceAdd, reduceSub, reduceGT, reduceEqDiff, reduceMul, ringP, w64]
     refine ⟨(k + 1, some id, K), ?_, fun _ _ h => h, ?_, ?_⟩
     ·simp (disch := omega) [wks, wkA, sl, ringP, oA, w64]
     ·exact ⟨by first| omega| (simp only; omega)| (dsimp only; omega), hB.skip ho (by first| omega| (simp only; omega)| (dsimp only; omega))⟩
     ·first | omega | (simp only; omega)
   ·try simp only [cn] at h3
    refine AW.exit ?_
    simp only [thn, blk, if_true]
    refine hN1 _ ?_
    try clear hN1 N1
    refine AW.sr envOk (fun N hN => ?_)
    simp -dsimp -implicitDefEqProofs (disch := omega) only [go_sem, reduceAdd, reduceSub, reduceGT, reduceEqDiff, reduceMul, ringP, w64]
    refine hN _ ?_
    try clear hN N
    refine AW.ret ?_
    simp -dsimp -implicitDefEqProofs (disch := omega) only [go_sem, reduceAdd, reduceSub, reduceGT, reduceEqDiff, reduceMul]
    rw [show pw.length = k by omega, ← hB.2.1]
    exact vw_ints (upd_same _ _ _) rfl


theorem impl_lieImage_ok (p : Int) (pw : List (List Int)) (br : List (List (List Int))) (ht : Tri p pw) (u : List (List Int)) (hu : Rws p pw.length u) (hl : ∀ k, k < u.length → (u.getD k []).length = pw.length ∧ dep (u.getD k []) < pw.length) (a : List Int) (ha : El p pw.length a) : ACo Try.prog 99 [ringP p pw br, rows u, ints a] (ints (imgL p pw u a)) := by
 have h6 := ht.n6
 have hul := hu.len
 obtain ⟨y, hy⟩ : ∃ y, redL p pw u a = y := ⟨_, rfl⟩
 obtain ⟨l, hl0⟩ : ∃ l, othK u pw.length = l := ⟨_, rfl⟩
 have hyl : y.length = pw.length := hy ▸ (redL_el ht u ha).len
 have hll : l.length ≤ pw.length := hl0 ▸ othK_ok.1
 have hlm : ∀ x ∈ l, 0 ≤ x ∧ x < (pw.length : Int) := hl0 ▸ othK_ok.2
 intro nx
 refine AC.intro' envOk Try.func99 rfl (by kernel_rfl) Try.ntmps99 Try.results99 ?_
 refine AW.sr envOk (fun N hN => ?_)
 simp -dsimp -implicitDefEqProofs (disch := omega) only [go_sem, reduceAdd, reduceSub, reduceGT, reduceEqDiff, reduceMul, ints, gd_i, w64]
 refine hN _ ?_
 try clear hN N
 refine AW.sr envOk (fun N hN => ?_)
 simp -dsimp -implicitDefEqProofs (disch := omega) only [go_sem, reduceAdd, reduceSub, reduceGT, reduceEqDiff, reduceMul, ints, gd_i, w64]
 refine AC.pure (.of (impl_reduceLie_p p pw br ht u hu a ha )) ?_
 try simp -dsimp -implicitDefEqProofs (disch := omega) only [go_sem, reduceAdd, reduceSub, reduceGT, reduceEqDiff, reduceMul, ints, gd_i, w64]
 rw [hy]
 try simp -dsimp -implicitDefEqProofs (disch := omega) only [go_sem, reduceAdd, reduceSub, reduceGT, reduceEqDiff, reduceMul, ints, gd_i, w64]
 refine hN _ ?_
 try clear hN N
 refine AW.sr envOk (fun N hN => ?_)
 simp -dsimp -implicitDefEqProofs (disch := omega) only [go_sem, reduceAdd, reduceSub, reduceGT, reduceEqDiff, reduceMul, ints, gd_i, w64]
 refine hN _ ?_
 try clear hN N
 refine AW.seq (fun N1 hN1 => ?_)
 refine AW.sr envOk (fun N hN => ?_)
 simp -dsimp -implicitDefEqProofs (disch := omega) only [go_sem, reduceAdd, reduceSub, reduceGT, reduceEqDiff, reduceMul, ints, gd_i, w64]
 refine AC.pure (.of (impl_otherDepths_ok p pw br u h6 (by omega) hl )) ?_
 try simp -dsimp -implicitDefEqProofs (disch := omega) only [go_sem, reduceAdd, reduceSub, reduceGT, reduceEqDiff, reduceMul, ints, gd_i, w64]
 rw [hl0]
 try simp -dsimp -implicitDefEqProofs (disch := omega) only [go_sem, reduceAdd, reduceSub, reduceGT, reduceEqDiff, reduceMul, ints, gd_i, w64]
 refine hN _ ?_
 try clear hN N
 refine AW.block ?_
 refine AW.loopN (α := Nat × Nat × List Int) (fun x => sl 33 [(7, ints y), (8, .h x.2.1 0 x.2.2.length), (18, ints l), (19, .i .i64 l.length), (20, .i .i64 x.1)]) (fun x => upd noH x.2.1 (some (x.2.2.map (AV.i .i64)))) (fun x m => (x.1 ≤ l.length ∧ nx ≤ x.2.1 ∧ x.2.1 < m) ∧ x.2.2 = imgK y (l.take x.1)) (fun x => l.length - x.1) ((0, nx + 1 + 5, [])) ?_ ?_ (fun _ _ h => h) ?_
 ·exact ⟨⟨by simp, by first| omega| (simp only; omega)| (dsimp only; omega), by first| omega| (simp only; omega)| (dsimp only; omega)⟩, rfl⟩
 ·simp (disch := omega) [wks, wkA, sl, w64, ints, rows, cubes, ints, gd_i, w64] <;> omega
 ·skip
  rintro ⟨k, id, K⟩ m ⟨⟨hk, hid, hm⟩, hK⟩
  dsimp only at hk hid hm hK
  have hKl : K.length ≤ l.length := by rw [hK, imgK_len, List.length_take]; omega
  simp -dsimp -implicitDefEqProofs (disch := omega) only [go_sem, reduceAdd, reduceSub, reduceGT, reduceEqDiff, reduceMul]
  refine AW.sr envOk (fun N hN => ?_)
  simp -dsimp -implicitDefEqProofs (disch := omega) only [go_sem, reduceAdd, reduceSub, reduceGT, reduceEqDiff, reduceMul, ints, gd_i, w64]
  refine hN _ ?_
  try clear hN N
  refine AW.seq (fun N2 hN2 => ?_)
  refine AW.cond rfl (fun h1 => ?_) (fun h1 => ?_)
  ·try simp only [cn] at h1
   obtain ⟨g1, g2⟩ := hlm _ (ix_mem (d := 0) (show k < l.length by omega))
   obtain ⟨e, he⟩ := Int.eq_ofNat_of_zero_le g1
   have hs := imgK_s (y := y) (show k < l.length by omega)
   rw [he, Int.toNat_natCast] at hs
   have hey : e < y.length := by omega
   refine AW.skip ?_
   simp only [thn, blk]
   refine hN2 _ ?_
   try clear hN2 N2
   refine AW.seq (fun N3 hN3 => ?_)
   refine AW.block ?_
   refine AW.sr envOk (fun N hN => ?_)
   simp -dsimp -implicitDefEqProofs (disch := omega) only [go_sem, reduceAdd, reduceSub, reduceGT, reduceEqDiff, reduceMul, ints, gd_i, w64, he]
   refine hN _ ?_
   try clear hN N
   refine AW.regionL envOk ?_
   simp -dsimp -implicitDefEqProofs (disch := omega) only [go_sem, reduceAdd, reduceSub, reduceGT, reduceEqDiff, reduceMul, ints, gd_i, w64]
   refine hN3 _ ?_
   try clear hN3 N3
   refine AW.regionL envOk ?_
   simp -dsimp -implicitDefEqProofs (disch := omega) only [go_sem, reduceAdd, reduceSub, reduceGT, reduceEqDiff, reduceMul, ints, gd_i, w64]
   refine ⟨(k + 1, m + 1 + 3 + 6, K ++ [y.getD e 0]), ?_, by intro d cs hd; simp only [upd, noH, tk_map, List.map_append, List.map_cons, List.map_nil] at hd ⊢; grind, ?_, ?_⟩
   ·simp (disch := omega) [wks, wkA, sl, w64, ints, rows, cubes, ints, gd_i, w64] <;> omega
   ·exact ⟨⟨by first| omega| (simp only; omega)| (dsimp only; omega), by first| omega| (simp only; omega)| (dsimp only; omega), by first| omega| (simp only; omega)| (dsimp only; omega)⟩, by rw [hs, hK]⟩
   ·first | omega | (simp only; omega)
  ·try simp only [cn] at h1
   refine AW.exit ?_
   simp only [thn, blk, if_true]
   refine hN1 _ ?_
   try clear hN1 N1
   refine AW.sr envOk (fun N hN => ?_)
   simp -dsimp -implicitDefEqProofs (disch := omega) only [go_sem, reduceAdd, reduceSub, reduceGT, reduceEqDiff, reduceMul, ints, gd_i, w64]
   refine hN _ ?_
   try clear hN N
   refine AW.ret ?_
   simp -dsimp -implicitDefEqProofs (disch := omega) only [go_sem, reduceAdd, reduceSub, reduceGT, reduceEqDiff, reduceMul]
   have hfin : imgL p pw u a = K := by rw [hK, show k = l.length by omega, List.take_length, imgL, hy, hl0]
   rw [hfin]
   exact ⟨_, Own.ints (upd_same _ _ _) rfl hid (by omega)⟩


theorem spec_l32Left_ok (p : Int) (pw : List (List Int)) (br : List (List (List Int))) (u : List (List Int)) (h6 : pw.length ≤ 6) (hu : u.length ≤ 1048576) (hl : ∀ k, (u.getD k []).length ≤ 1048576) : ACp Try.prog 141 [ring p pw br, rows u] (ints (othK u pw.length)) := by
 refine ACp.introV envOk Try.func141 rfl (by kernel_rfl) Try.ntmps141 Try.results141 ((ints_nr _)) (fun nx => ?_)
 refine AW.sr envOk (fun N hN => ?_)
 simp -dsimp -implicitDefEqProofs (disch := omega) only [go_sem, reduceAdd, reduceSub, reduceGT, reduceEqDiff, reduceMul, ringP, ring, rows, gd_r, w64]
 refine hN _ ?_
 try clear hN N
 refine AW.freezeQ 2 nx _ rfl (upd_same _ _ _) ?_
 simp -dsimp -implicitDefEqProofs (disch := omega) only [go_sem, reduceAdd, reduceSub, reduceGT, reduceEqDiff, reduceMul]
 refine AW.sr envOk (fun N hN => ?_)
 simp -dsimp -implicitDefEqProofs (disch := omega) only [go_sem, reduceAdd, reduceSub, reduceGT, reduceEqDiff, reduceMul, ringP, ring, rows, gd_r, w64]
 refine hN _ ?_
 try clear hN N
 refine AW.seq (fun N1 hN1 => ?_)
 refine AW.sr envOk (fun N hN => ?_)
 simp -dsimp -implicitDefEqProofs (disch := omega) only [go_sem, reduceAdd, reduceSub, reduceGT, reduceEqDiff, reduceMul, ringP, ring, rows, gd_r, w64]
 refine hN _ ?_
 try clear hN N
 refine AW.block ?_
 refine AW.loopN (α := Nat × Nat × List Int) (fun x => sl 39 [(1, rows u), (2, ringP p pw br), (5, .h x.2.1 0 x.2.2.length), (6, .i .i64 x.1)]) (fun x => upd noH x.2.1 (some (x.2.2.map (AV.i .i64)))) (fun x m => x.1 ≤ pw.length ∧ OtI u x.1 nx m (some x.2.1) x.2.2) (fun x => pw.length - x.1) ((0, nx + 2, [])) ?_ ?_ (by intro d cs hd; simp only [upd, noH, List.map_nil] at hd ⊢; grind) ?_
 ·exact ⟨by simp, .start' (by first| omega| (simp only; omega)| (dsimp only; omega)) (by first| omega| (simp only; omega)| (dsimp only; omega))⟩
 ·simp (disch := omega) [wks, wkA, sl, w64, ints, rows, cubes, ringP, ring, rows, gd_r, w64] <;> omega
 ·skip
  rintro ⟨i, id, K⟩ m ⟨hi, hB⟩
  dsimp only at hi hB ⊢
  have hidm := hB.2.2.2 id rfl
  have hKl : K.length ≤ i := by rw [hB.2.1]; exact othK_ok.1
  simp -dsimp -implicitDefEqProofs (disch := omega) only [go_sem, reduceAdd, reduceSub, reduceGT, reduceEqDiff, reduceMul]
  refine AW.seq (fun N2 hN2 => ?_)
  refine AW.sr envOk (fun N hN => ?_)
  simp -dsimp -implicitDefEqProofs (disch := omega) only [go_sem, reduceAdd, reduceSub, reduceGT, reduceEqDiff, reduceMul, ringP, ring, rows, gd_r, w64]
  refine hN _ ?_
  try clear hN N
  refine AW.cond rfl (fun h1 => ?_) (fun h1 => ?_)
  ·try simp only [cn] at h1
   obtain ⟨M, hM⟩ : ∃ M, m = M := ⟨_, rfl⟩
   refine AW.skip ?_
   simp only [thn, blk]
   refine hN2 _ ?_
   try clear hN2 N2
   refine AW.seq (fun N3 hN3 => ?_)
   refine AW.block ?_
   refine AW.sr envOk (fun N hN => ?_)
   simp -dsimp -implicitDefEqProofs (disch := omega) only [go_sem, reduceAdd, reduceSub, reduceGT, reduceEqDiff, reduceMul, ringP, ring, rows, gd_r, w64]
   refine hN _ ?_
   try clear hN N
   refine AW.seq (fun N4 hN4 => ?_)
   refine AW.sr envOk (fun N hN => ?_)
   simp -dsimp -implicitDefEqProofs (disch := omega) only [go_sem, reduceAdd, reduceSub, reduceGT, reduceEqDiff, reduceMul, ringP, ring, rows, gd_r, w64]
   refine hN _ ?_
   try clear hN N
   refine AW.block ?_
   refine AW.loopN (α := Nat × Bool) (fun x => sl 39 [(1, rows u), (2, ringP p pw br), (5, .h id 0 K.length), (6, .i .i64 i), (7, .b x.2), (8, .i .i64 x.1)]) (fun _ => upd noH id (some (K.map (AV.i .i64)))) (fun x m => x.1 ≤ u.length ∧ M ≤ m ∧ x.2 = tf (∀ q, q < x.1 → dep (u.getD q []) ≠ i)) (fun x => u.length - x.1) ((0, true)) ?_ ?_ (fun _ _ h => h) ?_
   ·exact ⟨by simp, by first| omega| (simp only; omega)| (dsimp only; omega), (tf_t (fun q hq => by first| omega| (simp only; omega)| (dsimp only; omega))).symm⟩
   ·simp (disch := omega) [wks, wkA, sl, w64, ints, rows, cubes, ringP, ring, rows, gd_r, w64] <;> omega
   ·skip
    rintro ⟨q, f⟩ m2 ⟨hq, hm2, hf⟩
    simp -dsimp -implicitDefEqProofs (disch := omega) only [go_sem, reduceAdd, reduceSub, reduceGT, reduceEqDiff, reduceMul]
    refine AW.seq (fun N5 hN5 => ?_)
    refine AW.sr envOk (fun N hN => ?_)
    simp -dsimp -implicitDefEqProofs (disch := omega) only [go_sem, reduceAdd, reduceSub, reduceGT, reduceEqDiff, reduceMul, ringP, ring, rows, gd_r, w64]
    refine hN _ ?_
    try clear hN N
    refine AW.cond rfl (fun h2 => ?_) (fun h2 => ?_)
    ·try simp only [cn] at h2
     have huq := hl q
     dsimp only at hf
     refine AW.skip ?_
     simp only [thn, blk]
     refine hN5 _ ?_
     try clear hN5 N5
     refine AW.seq (fun N6 hN6 => ?_)
     refine AW.block ?_
     refine AW.regionL envOk ?_
     simp -dsimp -implicitDefEqProofs (disch := omega) only [go_sem, reduceAdd, reduceSub, reduceGT, reduceEqDiff, reduceMul, ringP, ring, rows, gd_r, w64]
     refine gopB.mk' (fun h3 => ?_) (fun h3 => ?_)
     ·try simp only [cn] at h3
      try simp -dsimp -implicitDefEqProofs (disch := omega) only [go_sem, reduceAdd, reduceSub, reduceGT, reduceEqDiff, reduceMul, ringP, ring, rows, gd_r, w64]
      refine AC.pure (.of (spec_l32Depth_ok (u.getD q []) (by omega))) ?_
      try simp -dsimp -implicitDefEqProofs (disch := omega) only [go_sem, reduceAdd, reduceSub, reduceGT, reduceEqDiff, reduceMul, ringP, ring, rows, gd_r, w64]
      refine hN6 _ ?_
      try clear hN6 N6
      refine AW.regionL envOk ?_
      simp -dsimp -implicitDefEqProofs (disch := omega) only [go_sem, reduceAdd, reduceSub, reduceGT, reduceEqDiff, reduceMul, ringP, ring, rows, gd_r, w64]
      refine ⟨(q + 1, ((dep (u.getD q []) : Int) != (i : Int))), ?_, fun _ _ h => h, ?_, ?_⟩
      ·simp (disch := omega) [wks, wkA, sl, w64, ints, rows, cubes, ringP, ring, rows, gd_r, w64] <;> omega
      ·have hgoal : ((dep (u.getD q []) : Int) != (i : Int)) = tf (∀ r, r < q + 1 → dep (u.getD r []) ≠ i) := by rw [othf_s, ← hf, h3, Bool.true_and]
       first| exact ⟨by first| omega| (simp only; omega)| (dsimp only; omega), by first| omega| (simp only; omega)| (dsimp only; omega), hgoal⟩| exact ⟨by first| omega| (simp only; omega)| (dsimp only; omega), hgoal⟩
      ·first | omega | (simp only; omega)
     ·try simp only [cn] at h3
      try simp -dsimp -implicitDefEqProofs (disch := omega) only [go_sem, reduceAdd, reduceSub, reduceGT, reduceEqDiff, reduceMul, ringP, ring, rows, gd_r, w64]
      refine hN6 _ ?_
      try clear hN6 N6
      refine AW.regionL envOk ?_
      simp -dsimp -implicitDefEqProofs (disch := omega) only [go_sem, reduceAdd, reduceSub, reduceGT, reduceEqDiff, reduceMul, ringP, ring, rows, gd_r, w64]
      refine ⟨(q + 1, false), ?_, fun _ _ h => h, ?_, ?_⟩
      ·simp (disch := omega) [wks, wkA, sl, w64, ints, rows, cubes, ringP, ring, rows, gd_r, w64] <;> omega
      ·have hgoal : false = tf (∀ r, r < q + 1 → dep (u.getD r []) ≠ i) := by rw [othf_s, ← hf, h3, Bool.false_and]
       first| exact ⟨by first| omega| (simp only; omega)| (dsimp only; omega), by first| omega| (simp only; omega)| (dsimp only; omega), hgoal⟩| exact ⟨by first| omega| (simp only; omega)| (dsimp only; omega), hgoal⟩
      ·first | omega | (simp only; omega)
    ·try simp only [cn] at h2
     have hfin : f = tf (isOth u i) := by
      dsimp only at hf
      rw [hf, show q = u.length by omega]; rfl
     subst hfin
     refine AW.exit ?_
     simp only [thn, blk, if_true]
     refine hN4 _ ?_
     try clear hN4 N4
     refine AW.sr envOk (fun N hN => ?_)
     simp -dsimp -implicitDefEqProofs (disch := omega) only [go_sem, reduceAdd, reduceSub, reduceGT, reduceEqDiff, reduceMul, ringP, ring, rows, gd_r, w64]
     refine hN _ ?_
     try clear hN N
     refine AW.cond rfl (fun h4 => ?_) (fun h4 => ?_)
     ·try simp only [cn] at h4
      have ho : isOth u i := h4
      refine AW.regionL envOk ?_
      simp -dsimp -implicitDefEqProofs (disch := omega) only [go_sem, reduceAdd, reduceSub, reduceGT, reduceEqDiff, reduceMul, ringP, ring, rows, gd_r, w64]
      refine hN3 _ ?_
      try clear hN3 N3
      refine AW.regionL envOk ?_
      simp -dsimp -implicitDefEqProofs (disch := omega) only [go_sem, reduceAdd, reduceSub, reduceGT, reduceEqDiff, reduceMul, ringP, ring, rows, gd_r, w64]
      refine ⟨(i + 1, m2 + 5 + 3, K ++ [(i : Int)]), ?_, by intro d cs hd; simp only [upd, noH, tk_map, List.map_append, List.map_cons, List.map_nil] at hd ⊢; grind, ?_, ?_⟩
      ·simp (disch := omega) [wks, wkA, sl, w64, ints, rows, cubes, ringP, ring, rows, gd_r, w64] <;> omega
      ·exact ⟨by first| omega| (simp only; omega)| (dsimp only; omega), hB.next ho (by have := hB.1; first| omega| (simp only; omega)| (dsimp only; omega)) (by first| omega| (simp only; omega)| (dsimp only; omega))⟩
      ·first | omega | (simp only; omega)
     ·try simp only [cn] at h4
      have ho : ¬isOth u i := h4
      refine AW.skip ?_
      simp only [thn, blk]
      refine hN3 _ ?_
      try clear hN3 N3
      refine AW.regionL envOk ?_
      simp -dsimp -implicitDefEqProofs (disch := omega) only [go_sem, reduceAdd, reduceSub, reduceGT, reduceEqDiff, reduceMul, ringP, ring, rows, gd_r, w64]
      refine ⟨(i + 1, id, K), ?_, fun _ _ h => h, ?_, ?_⟩
      ·simp (disch := omega) [wks, wkA, sl, w64, ints, rows, cubes, ringP, ring, rows, gd_r, w64] <;> omega
      ·exact ⟨by first| omega| (simp only; omega)| (dsimp only; omega), hB.skip ho (by first| omega| (simp only; omega)| (dsimp only; omega))⟩
      ·first | omega | (simp only; omega)
  ·try simp only [cn] at h1
   refine AW.exit ?_
   simp only [thn, blk, if_true]
   refine hN1 _ ?_
   try clear hN1 N1
   refine AW.sr envOk (fun N hN => ?_)
   simp -dsimp -implicitDefEqProofs (disch := omega) only [go_sem, reduceAdd, reduceSub, reduceGT, reduceEqDiff, reduceMul, ringP, ring, rows, gd_r, w64]
   refine hN _ ?_
   try clear hN N
   refine AW.ret ?_
   simp -dsimp -implicitDefEqProofs (disch := omega) only [go_sem, reduceAdd, reduceSub, reduceGT, reduceEqDiff, reduceMul]
   rw [show pw.length = i by omega, ← hB.2.1]
   exact vw_ints (upd_same _ _ _) rfl


theorem spec_l32Image_ok (p : Int) (pw : List (List Int)) (br : List (List (List Int))) (ht : Tri p pw) (u : List (List Int)) (hu : Rws p pw.length u) (hl : ∀ k, (u.getD k []).length ≤ 1048576) (a : List Int) (ha : El p pw.length a) : ACp Try.prog 142 [ring p pw br, rows u, ints a] (ints (imgL p pw u a)) := by
 have h6 := ht.n6
 have hul := hu.len
 obtain ⟨y, hy⟩ : ∃ y, redL p pw u a = y := ⟨_, rfl⟩
 obtain ⟨l, hl0⟩ : ∃ l, othK u pw.length = l := ⟨_, rfl⟩
 have hyl : y.length = pw.length := hy ▸ (redL_el ht u ha).len
 have hll : l.length ≤ pw.length := hl0 ▸ othK_ok.1
 have hlm : ∀ x ∈ l, 0 ≤ x ∧ x < (pw.length : Int) := hl0 ▸ othK_ok.2
 have hred := spec_l32Reduce_ok p pw br ht u hu a ha
 rw [hy] at hred
 have hleft := spec_l32Left_ok p pw br u h6 (by omega) hl
 rw [hl0] at hleft
 refine ACp.introV envOk Try.func142 rfl (by kernel_rfl) Try.ntmps142 Try.results142 ((ints_nr _)) (fun nx => ?_)
 refine AW.sr envOk (fun N hN => ?_)
 simp -dsimp -implicitDefEqProofs (disch := omega) only [go_sem, reduceAdd, reduceSub, reduceGT, reduceEqDiff, reduceMul, ringP, ring, ints, gd_i, w64]
 refine hN _ ?_
 try clear hN N
 refine AW.freezeQ 3 nx _ rfl (upd_same _ _ _) ?_
 simp -dsimp -implicitDefEqProofs (disch := omega) only [go_sem, reduceAdd, reduceSub, reduceGT, reduceEqDiff, reduceMul]
 refine AW.seq (fun N hN => ?_)
 refine AW.drawL envOk (by kernel_rfl) 9 (by kernel_rfl) ?_
 simp -dsimp -implicitDefEqProofs (disch := omega) only [hr_nil, hr_one, hr_if, List.take_succ_cons, List.take_zero, List.drop_succ_cons, List.drop_zero, List.take_nil, List.drop_nil, go_sem, reduceAdd, reduceSub, reduceGT, reduceEqDiff, reduceMul, ringP, ring, ints, gd_i, w64]
 refine ⟨_, .of (hred ), ?_⟩
 try simp -dsimp -implicitDefEqProofs (disch := omega) only [go_sem, reduceAdd, reduceSub, reduceGT, reduceEqDiff, reduceMul, ringP, ring, ints, gd_i, w64]
 refine ⟨_, .of (hleft ), ?_⟩
 try simp -dsimp -implicitDefEqProofs (disch := omega) only [go_sem, reduceAdd, reduceSub, reduceGT, reduceEqDiff, reduceMul, ringP, ring, ints, gd_i, w64]
 refine hN _ ?_
 try clear hN N
 refine AW.sr envOk (fun N hN => ?_)
 simp -dsimp -implicitDefEqProofs (disch := omega) only [go_sem, reduceAdd, reduceSub, reduceGT, reduceEqDiff, reduceMul, ringP, ring, ints, gd_i, w64]
 refine hN _ ?_
 try clear hN N
 refine AW.seq (fun N1 hN1 => ?_)
 refine AW.sr envOk (fun N hN => ?_)
 simp -dsimp -implicitDefEqProofs (disch := omega) only [go_sem, reduceAdd, reduceSub, reduceGT, reduceEqDiff, reduceMul, ringP, ring, ints, gd_i, w64]
 refine hN _ ?_
 try clear hN N
 refine AW.block ?_
 refine AW.loopN (α := Nat × Nat × List Int) (fun x => sl 36 [(7, ints y), (8, ints l), (9, .h x.2.1 0 x.2.2.length), (10, .i .i64 x.1)]) (fun x => upd noH x.2.1 (some (x.2.2.map (AV.i .i64)))) (fun x m => (x.1 ≤ l.length ∧ nx ≤ x.2.1 ∧ x.2.1 < m) ∧ x.2.2 = imgK y (l.take x.1)) (fun x => l.length - x.1) ((0, nx + 2 + 9, [])) ?_ ?_ (by intro d cs hd; simp only [upd, noH, List.map_nil] at hd ⊢; grind) ?_
 ·exact ⟨⟨by simp, by first| omega| (simp only; omega)| (dsimp only; omega), by first| omega| (simp only; omega)| (dsimp only; omega)⟩, rfl⟩
 ·simp (disch := omega) [wks, wkA, sl, w64, ints, rows, cubes, ringP, ring, ints, gd_i, w64] <;> omega
 ·skip
  rintro ⟨k, id, K⟩ m ⟨⟨hk, hid, hm⟩, hK⟩
  dsimp only at hk hid hm hK
  have hKl : K.length ≤ l.length := by rw [hK, imgK_len, List.length_take]; omega
  simp -dsimp -implicitDefEqProofs (disch := omega) only [go_sem, reduceAdd, reduceSub, reduceGT, reduceEqDiff, reduceMul]
  refine AW.seq (fun N2 hN2 => ?_)
  refine AW.sr envOk (fun N hN => ?_)
  simp -dsimp -implicitDefEqProofs (disch := omega) only [go_sem, reduceAdd, reduceSub, reduceGT, reduceEqDiff, reduceMul, ringP, ring, ints, gd_i, w64]
  refine hN _ ?_
  try clear hN N
  refine AW.cond rfl (fun h1 => ?_) (fun h1 => ?_)
  ·try simp only [cn] at h1
   obtain ⟨g1, g2⟩ := hlm _ (ix_mem (d := 0) (show k < l.length by omega))
   obtain ⟨e, he⟩ := Int.eq_ofNat_of_zero_le g1
   have hs := imgK_s (y := y) (show k < l.length by omega)
   rw [he, Int.toNat_natCast] at hs
   have hey : e < y.length := by omega
   refine AW.skip ?_
   simp only [thn, blk]
   refine hN2 _ ?_
   try clear hN2 N2
   refine AW.seq (fun N3 hN3 => ?_)
   refine AW.block ?_
   refine AW.regionL envOk ?_
   simp -dsimp -implicitDefEqProofs (disch := omega) only [go_sem, reduceAdd, reduceSub, reduceGT, reduceEqDiff, reduceMul, ringP, ring, ints, gd_i, w64, he]
   refine hN3 _ ?_
   try clear hN3 N3
   refine AW.regionL envOk ?_
   simp -dsimp -implicitDefEqProofs (disch := omega) only [go_sem, reduceAdd, reduceSub, reduceGT, reduceEqDiff, reduceMul, ringP, ring, ints, gd_i, w64]
   refine ⟨(k + 1, m + 4 + 9, K ++ [y.getD e 0]), ?_, by intro d cs hd; simp only [upd, noH, tk_map, List.map_append, List.map_cons, List.map_nil] at hd ⊢; grind, ?_, ?_⟩
   ·simp (disch := omega) [wks, wkA, sl, w64, ints, rows, cubes, ringP, ring, ints, gd_i, w64] <;> omega
   ·exact ⟨⟨by first| omega| (simp only; omega)| (dsimp only; omega), by first| omega| (simp only; omega)| (dsimp only; omega), by first| omega| (simp only; omega)| (dsimp only; omega)⟩, by rw [hs, hK]⟩
   ·first | omega | (simp only; omega)
  ·try simp only [cn] at h1
   refine AW.exit ?_
   simp only [thn, blk, if_true]
   refine hN1 _ ?_
   try clear hN1 N1
   refine AW.sr envOk (fun N hN => ?_)
   simp -dsimp -implicitDefEqProofs (disch := omega) only [go_sem, reduceAdd, reduceSub, reduceGT, reduceEqDiff, reduceMul, ringP, ring, ints, gd_i, w64]
   refine hN _ ?_
   try clear hN N
   refine AW.ret ?_
   simp -dsimp -implicitDefEqProofs (disch := omega) only [go_sem, reduceAdd, reduceSub, reduceGT, reduceEqDiff, reduceMul]
   have hfin : imgL p pw u a = K := by rw [hK, show k = l.length by omega, List.take_length, imgL, hy, hl0]
   rw [hfin]
   exact vw_ints (upd_same _ _ _) rfl


def orS (a b : Bool) (m : List Int × Int) : List Int × Int := match a, b with
  | false, _ => ([], 1)
  | true, false => ([], 5)
  | true, true => m
theorem SpnP.dl {p : Int} {pw : List (List Int)} {br : List (List (List Int))} {u : List (List Int)} (h : SpnP p pw br u) : ∀ k, k < u.length → (u.getD k []).length = pw.length ∧ dep (u.getD k []) < pw.length :=
  fun k hk => ⟨(h.can.el _ (ix_mem hk)).len, h.can.lt _ (ix_mem hk)⟩
end Go.Proofs.Ytbhlindlcfeppaa
