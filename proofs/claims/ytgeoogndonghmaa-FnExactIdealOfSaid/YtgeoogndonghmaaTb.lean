/-
  Subrings and ideals that some elements generate: by the reference and by the program.
-/
import Derived.Test.YtgeoogndonghmaaSv
set_option linter.unusedVariables false
set_option linter.unusedSimpArgs false
namespace Go.Proofs.Ytgeoogndonghmaa

def oN (H : HP) : Option Nat → HP
  | none => H
  | some id => upd H id none
/-- A list under construction: rows of one's own, each behind the one before. -/
structure OutB (nx m : Nat) (o : Option Nat) (rs : List AV) (H : HP) (W : List (List Int)) : Prop where
  ex : ∃ ids, OwL H rs (W.map ints) ids ∧ ids.Nodup ∧ (∀ i ∈ ids, nx ≤ i ∧ i < m) ∧ (∀ id, o = some id → id ∉ ids ∧ nx ≤ id ∧ id < m)
  no : o = none → rs = []
  dom : ∀ i, m ≤ i → H i = none
theorem OutB.start {nx m : Nat} : OutB nx m none [] noH [] := ⟨⟨[], .nil, by simp, by simp, by simp⟩, fun _ => rfl, fun _ _ => rfl⟩
theorem OutB.len {nx m : Nat} {o : Option Nat} {rs : List AV} {H : HP} {W : List (List Int)} (h : OutB nx m o rs H W) : rs.length = W.length := by
  obtain ⟨ids, h1, _⟩ := h.ex
  have := h1.len
  simpa using this.symm
theorem OutB.more {nx m m' : Nat} {o : Option Nat} {rs : List AV} {H : HP} {W : List (List Int)} (h : OutB nx m o rs H W) (hm : m ≤ m') : OutB nx m' o rs H W := by
  obtain ⟨ids, h1, h2, h4, h5⟩ := h.ex
  exact ⟨⟨ids, h1, h2, fun i hi => ⟨(h4 i hi).1, by have := (h4 i hi).2; omega⟩, fun id hid => ⟨(h5 id hid).1, (h5 id hid).2.1, by have := (h5 id hid).2.2; omega⟩⟩, h.no, fun i hi => h.dom i (by omega)⟩
theorem OutB.own {nx m id : Nat} {rs : List AV} {H : HP} {W : List (List Int)} (h : OutB nx m (some id) rs H W) : ∃ ids, Own nx m (upd H id (some rs)) (.h id 0 rs.length) (rows W) ids := by
  have hl := h.len
  obtain ⟨ids, h1, h2, h4, h5⟩ := h.ex
  obtain ⟨q1, q3, q4⟩ := h5 id rfl
  refine ⟨id :: ids, ?_, by simp [q1, h2], ?_⟩
  · have := Ow.h (H := upd H id (some rs)) id rs (W.map ints) ids (upd_same _ _ _) (h1.keep fun i hi => by
      rw [upd_ne _ _ (fun e => q1 (by rw [← e]; exact hi))])
    rw [hl] at this ⊢
    exact this
  · intro i hi
    rcases List.mem_cons.1 hi with rfl | hi
    · exact ⟨q3, q4⟩
    · exact h4 i hi
theorem OutB.nil {nx m a b : Nat} {rs : List AV} {H H' : HP} {W : List (List Int)} (h : OutB nx m none rs H W) : Own a b H' .nl (rows W) [] := by
  have h1 := h.no rfl
  have h2 := h.len
  rw [h1] at h2
  have h3 : W = [] := List.length_eq_zero_iff.1 h2.symm
  subst h3
  exact ⟨.nl, by simp, by simp⟩
theorem OutB.push {nx m m0 m1 m2 id2 : Nat} {o : Option Nat} {rs : List AV} {H H1 : HP} {W : List (List Int)} {r1 : AV} {X : List Int} {ids1 : List Nat} (h : OutB nx m o rs H W)
    (hH : ∀ i, i < m0 → H1 i = oH H o rs i) (ho : Own m0 m1 H1 r1 (ints X) ids1) (hm : m ≤ id2) (h2 : id2 < m0) (h01 : m0 ≤ m1) (h12 : m1 ≤ m2) (hnx : nx ≤ m) : OutB nx m2 (some id2) (rs ++ [r1]) (lim m1 (oN H1 o)) (W ++ [X]) := by
  obtain ⟨ids, g1, g2, g4, g5⟩ := h.ex
  obtain ⟨o1, o2, o3⟩ := ho
  refine ⟨⟨ids ++ ids1, ?_, ?_, ?_, ?_⟩, (fun e => by cases e), fun i hi => if_neg (by omega)⟩
  · rw [List.map_append]
    refine OwL.append (g1.keep fun i hi => ?_) ?_
    · have hi2 := g4 i hi
      rw [lim, if_pos (by omega)]
      cases o with
      | none => simp only [oN]; rw [hH i (by omega)]; rfl
      | some id =>
        have := (g5 id rfl).1
        have hne : i ≠ id := fun e => this (by rw [← e]; exact hi)
        simp only [oN]
        rw [upd_ne _ _ hne, hH i (by omega)]
        simp only [oH]
        exact upd_ne _ _ hne
    · have hs : OwL (lim m1 (oN H1 o)) [r1] [ints X] (ids1 ++ []) := OwL.cons _ _ _ _ _ _ (o1.keep fun i hi => by
        have hi3 := o3 i hi
        rw [lim, if_pos (by omega)]
        cases o with
        | none => rfl
        | some id =>
          have := (g5 id rfl).2
          simp only [oN]; exact upd_ne _ _ (by omega)) .nil
      rw [List.append_nil] at hs
      exact hs
  · rw [List.nodup_append]
    exact ⟨g2, o2, fun a ha b hb' e => by have := o3 b hb'; have := g4 a ha; omega⟩
  · intro i hi
    rcases List.mem_append.1 hi with hi | hi
    · have := g4 i hi; omega
    · have := o3 i hi; omega
  · rintro id hid
    cases hid
    refine ⟨fun hi => ?_, by omega, by omega⟩
    rcases List.mem_append.1 hi with hi | hi
    · have := g4 _ hi; omega
    · have := o3 _ hi; omega
theorem OutB.le {nx m m0 m1 idb id2 : Nat} {o : Option Nat} {rs : List AV} {H H1 : HP} {W : List (List Int)} {c : Option (List AV)} {xs : List AV} (h : OutB nx m o rs H W)
    (hH : ∀ i, i < m0 → H1 i = oH H o rs i) (hm : m ≤ idb) (hb0 : idb < m0) : Le (upd (lim m1 (oN H1 o)) id2 (some xs)) (upd (oN (upd H1 idb c) o) id2 (some xs)) := by
  obtain ⟨ids, g1, g2, g4, g5⟩ := h.ex
  have hnone : H1 idb = none := by
    rw [hH idb hb0]
    cases o with
    | none => simp only [oH]; exact h.dom _ hm
    | some id =>
      have := g5 id rfl
      simp only [oH]; rw [upd_ne _ _ (by omega)]; exact h.dom _ hm
  intro i d hi
  by_cases e : i = id2
  · subst e; rw [upd_same] at hi ⊢; exact hi
  · rw [upd_ne _ _ e] at hi ⊢
    unfold lim at hi
    split at hi
    · cases o with
      | none =>
        simp only [oN] at hi ⊢
        by_cases e3 : i = idb
        · subst e3; rw [hnone] at hi; cases hi
        · rw [upd_ne _ _ e3]; exact hi
      | some id =>
        simp only [oN] at hi ⊢
        by_cases e4 : i = id
        · subst e4; rw [upd_same] at hi; cases hi
        · rw [upd_ne _ _ e4] at hi ⊢
          by_cases e3 : i = idb
          · subst e3; rw [hnone] at hi; cases hi
          · rw [upd_ne _ _ e3]; exact hi
    · cases hi
theorem OutB.id {nx m id : Nat} {o : Option Nat} {rs : List AV} {H : HP} {W : List (List Int)} (h : OutB nx m o rs H W) (ho : o = some id) : nx ≤ id ∧ id < m := by
  obtain ⟨ids, _, _, _, h5⟩ := h.ex
  exact (h5 id ho).2

/-- The list of brackets under construction, of one's own. -/
def BrO (p : Int) (pw : List (List Int)) (br : List (List (List Int))) (u v : List (List Int)) (i j nx m : Nat) (o : Option Nat) (rs : List AV) (H : HP) : Prop := nx ≤ m ∧ OutB nx m o rs H (brkIJ p pw br u v i j)
theorem BrO.row {p : Int} {pw : List (List Int)} {br : List (List (List Int))} {u v : List (List Int)} {i j nx m m' : Nat} {o : Option Nat} {rs : List AV} {H : HP} (h : BrO p pw br u v i j nx m o rs H) (hi : i < u.length) (hj : j = v.length) (hm : m ≤ m') : BrO p pw br u v (i + 1) 0 nx m' o rs H := by
  refine ⟨by have := h.1; omega, ?_⟩
  rw [brkIJ_z, ← brkIJ_n hi, ← hj]
  exact h.2.more hm
theorem BrO.mm {p : Int} {pw : List (List Int)} {br : List (List (List Int))} {u v : List (List Int)} {i j nx m m' : Nat} {o : Option Nat} {rs : List AV} {H : HP} (h : BrO p pw br u v i j nx m o rs H) (hm : m ≤ m') : BrO p pw br u v i j nx m' o rs H := ⟨by have := h.1; omega, h.2.more hm⟩
theorem BrO.fin {p : Int} {pw : List (List Int)} {br : List (List (List Int))} {u v : List (List Int)} {i nx m : Nat} {o : Option Nat} {rs : List AV} {H : HP} (h : BrO p pw br u v i 0 nx m o rs H) (hi : i = u.length) : OutB nx m o rs H (brkLL p pw br u v) := by
  have := h.2
  rwa [brkIJ_z, hi, List.take_length] at this

set_option maxHeartbeats 4000000 in
theorem impl_brackets_own (p : Int) (pw : List (List Int)) (br : List (List (List Int))) (s : Sh p pw br) (u v : List (List Int)) (hu : u.length ≤ 1000) (hv : v.length ≤ 1000) (hue : ∀ b ∈ u, El p pw.length b) (hve : ∀ b ∈ v, El p pw.length b) : ACo Try.prog 116 [ringP p pw br, rows u, rows v] (rows (brkLL p pw br u v)) := by
  intro nx
  refine AC.intro' envOk Try.func116 rfl (by kernel_rfl) Try.ntmps116 Try.results116 ?_
  refine AW.seq (fun N hN => ?_)
  refine AW.regionL envOk ?_
  simp (dsimp := false) (implicitDefEqProofs := false) (disch := omega) only [go_sem, Nat.reduceAdd, Nat.reduceSub, Nat.reduceGT, Nat.reduceEqDiff, Nat.reduceMul, rows, gd_r, w64]
  refine hN _ ?_
  try clear hN
  try clear N
  refine AW.seq (fun N hN => ?_)
  refine AW.regionL envOk ?_
  simp (dsimp := false) (implicitDefEqProofs := false) (disch := omega) only [go_sem, Nat.reduceAdd, Nat.reduceSub, Nat.reduceGT, Nat.reduceEqDiff, Nat.reduceMul, rows, gd_r, w64]
  refine hN _ ?_
  try clear hN
  try clear N
  refine AW.seq (fun N1 hN1 => ?_)
  refine AW.seq (fun N hN => ?_)
  refine AW.regionL envOk ?_
  simp (dsimp := false) (implicitDefEqProofs := false) (disch := omega) only [go_sem, Nat.reduceAdd, Nat.reduceSub, Nat.reduceGT, Nat.reduceEqDiff, Nat.reduceMul, rows, gd_r, w64]
  refine hN _ ?_
  try clear hN
  try clear N
  refine AW.block ?_
  refine AW.loopN (α := Nat × Option Nat × List AV × HP) (fun x => sl 34 [(0, ringP p pw br), (2, rows v), (7, oA x.2.1 x.2.2.1.length), (12, rows u), (13, .i .i64 u.length), (14, .i .i64 x.1)]) (fun x => oH x.2.2.2 x.2.1 x.2.2.1) (fun x m => x.1 ≤ u.length ∧ BrO p pw br u v x.1 0 nx m x.2.1 x.2.2.1 x.2.2.2) (fun x => u.length - x.1) ((0, none, [], noH)) ?_ ?_ (fun _ _ h => h) ?_
  · exact ⟨by simp, by first| omega| (simp only; omega)| (dsimp only; omega), by simpa [brkIJ, brkLL] using OutB.start⟩
  · simp [wks, wkA, sl, rows, oA]
  · skip
    rintro ⟨i, o, rs, Hx⟩ m ⟨hi, hB⟩
    dsimp only at hi hB
    simp (dsimp := false) (implicitDefEqProofs := false) (disch := omega) only [go_sem, Nat.reduceAdd, Nat.reduceSub, Nat.reduceGT, Nat.reduceEqDiff, Nat.reduceMul]
    refine AW.seq (fun N hN => ?_)
    refine AW.regionL envOk ?_
    simp (dsimp := false) (implicitDefEqProofs := false) (disch := omega) only [go_sem, Nat.reduceAdd, Nat.reduceSub, Nat.reduceGT, Nat.reduceEqDiff, Nat.reduceMul, rows, gd_r, w64]
    refine hN _ ?_
    try clear hN
    try clear N
    refine AW.seq (fun N2 hN2 => ?_)
    refine AW.cond rfl (fun h1 => ?_) (fun h1 => ?_)
    · try simp only [decide_eq_true_eq, decide_eq_false_iff_not, bne_iff_ne, bne_eq_false_iff_eq, beq_iff_eq, beq_eq_false_iff_ne, Bool.not_eq_true', Bool.not_eq_false', Bool.not_eq_true, Bool.not_false, Bool.not_true, ge_iff_le, gt_iff_lt, ne_eq, Int.not_lt, Int.not_le, tf_iff, tf_iff'] at h1
      have hai := hue _ (ix_mem (d := []) (show i < u.length by omega))
      refine AW.skip ?_
      simp only [thn, blk]
      refine hN2 _ ?_
      try clear hN2
      try clear N2
      refine AW.seq (fun N3 hN3 => ?_)
      refine AW.block ?_
      refine AW.seq (fun N hN => ?_)
      refine AW.regionL envOk ?_
      simp (dsimp := false) (implicitDefEqProofs := false) (disch := omega) only [go_sem, Nat.reduceAdd, Nat.reduceSub, Nat.reduceGT, Nat.reduceEqDiff, Nat.reduceMul, rows, gd_r, w64]
      refine hN _ ?_
      try clear hN
      try clear N
      refine AW.seq (fun N hN => ?_)
      refine AW.regionL envOk ?_
      simp (dsimp := false) (implicitDefEqProofs := false) (disch := omega) only [go_sem, Nat.reduceAdd, Nat.reduceSub, Nat.reduceGT, Nat.reduceEqDiff, Nat.reduceMul, rows, gd_r, w64]
      refine hN _ ?_
      try clear hN
      try clear N
      refine AW.block ?_
      refine AW.loopN (α := Nat × Option Nat × List AV × HP) (fun x => sl 34 [(0, ringP p pw br), (2, rows v), (7, oA x.2.1 x.2.2.1.length), (9, ints (u.getD i [])), (12, rows u), (13, .i .i64 u.length), (14, .i .i64 i), (18, rows v), (19, .i .i64 v.length), (20, .i .i64 x.1)]) (fun x => oH x.2.2.2 x.2.1 x.2.2.1) (fun x m => x.1 ≤ v.length ∧ BrO p pw br u v i x.1 nx m x.2.1 x.2.2.1 x.2.2.2) (fun x => v.length - x.1) ((0, o, rs, Hx)) ?_ ?_ (fun _ _ h => h) ?_
      · exact ⟨by first| omega| (simp only; omega)| (dsimp only; omega), hB.mm (by first| omega| (simp only; omega)| (dsimp only; omega))⟩
      · simp (disch := omega) [wks, wkA, sl, w64, ints, rows, cubes, rows, gd_r, w64] <;> omega
      · skip
        rintro ⟨j, (_ | id), ss, Hy⟩ m2 ⟨hj, hB2⟩
        · skip
          simp (dsimp := false) (implicitDefEqProofs := false) (disch := omega) only [go_sem, Nat.reduceAdd, Nat.reduceSub, Nat.reduceGT, Nat.reduceEqDiff, Nat.reduceMul]
          dsimp only [oA, oH] at hj hB2 ⊢
          obtain rfl := hB2.2.no rfl
          have hnxm := hB2.1
          refine AW.seq (fun N hN => ?_)
          refine AW.regionL envOk ?_
          simp (dsimp := false) (implicitDefEqProofs := false) (disch := omega) only [go_sem, Nat.reduceAdd, Nat.reduceSub, Nat.reduceGT, Nat.reduceEqDiff, Nat.reduceMul, rows, gd_r, w64]
          refine hN _ ?_
          try clear hN
          try clear N
          refine AW.seq (fun N4 hN4 => ?_)
          refine AW.cond rfl (fun h2 => ?_) (fun h2 => ?_)
          · try simp only [decide_eq_true_eq, decide_eq_false_iff_not, bne_iff_ne, bne_eq_false_iff_eq, beq_iff_eq, beq_eq_false_iff_ne, Bool.not_eq_true', Bool.not_eq_false', Bool.not_eq_true, Bool.not_false, Bool.not_true, ge_iff_le, gt_iff_lt, ne_eq, Int.not_lt, Int.not_le, tf_iff, tf_iff'] at h2
            have hbj := hve _ (ix_mem (d := []) (show j < v.length by omega))
            refine AW.skip ?_
            simp only [thn, blk]
            refine hN4 _ ?_
            try clear hN4
            try clear N4
            refine AW.seq (fun N5 hN5 => ?_)
            refine AW.block ?_
            refine AW.seq (fun N hN => ?_)
            refine AW.regionL envOk ?_
            simp (dsimp := false) (implicitDefEqProofs := false) (disch := omega) only [go_sem, Nat.reduceAdd, Nat.reduceSub, Nat.reduceGT, Nat.reduceEqDiff, Nat.reduceMul, rows, gd_r, w64]
            refine hN _ ?_
            try clear hN
            try clear N
            refine AW.regionL envOk ?_
            simp (dsimp := false) (implicitDefEqProofs := false) (disch := omega) only [go_sem, Nat.reduceAdd, Nat.reduceSub, Nat.reduceGT, Nat.reduceEqDiff, Nat.reduceMul, rows, gd_r, w64]
            refine AC.own (impl_bracket_ok p pw br s (u.getD i []) (v.getD j []) hai hbj) (.cons (.refl _) (.cons (.refl _) (.cons (.refl _) .nil))) ?_
            intro m1 H1 r1 ids1 hm1 hH1 hown1
            obtain ⟨q1, q2, q3⟩ := hown1.1.slice
            have hr1 : (∀ z ∈ [r1], one z = true) = True := eq_true (fun z hz => by rw [List.mem_singleton.1 hz]; exact q2)
            try simp (dsimp := false) (implicitDefEqProofs := false) (disch := omega) only [go_sem, Nat.reduceAdd, Nat.reduceSub, Nat.reduceGT, Nat.reduceEqDiff, Nat.reduceMul, q1, q2, q3, hr1, rows, w64]
            refine hN5 _ ?_
            try clear hN5
            try clear N5
            refine AW.regionL envOk ?_
            simp (dsimp := false) (implicitDefEqProofs := false) (disch := omega) only [go_sem, Nat.reduceAdd, Nat.reduceSub, Nat.reduceGT, Nat.reduceEqDiff, Nat.reduceMul, rows, gd_r, w64]
            refine ⟨(j + 1, some (m2 + 1 + 3 + 6), [] ++ [r1], lim m1 (oN H1 none)), ?_, by have := hB2.2.le (o := none) (m1 := m1) (c := some [r1]) (xs := [r1]) (id2 := m2 + 1 + 3 + 6) (idb := m2 + 1 + 3 + 5) hH1 (by omega) (by omega); exact this, ?_, ?_⟩
            · simp (disch := omega) [wks, wkA, sl, rows, oA, w64]
            · exact ⟨by first| omega| (simp only; omega)| (dsimp only; omega), by first| omega| (simp only; omega)| (dsimp only; omega), by rw [brkIJ_s (by omega)]; exact hB2.2.push hH1 hown1 (by omega) (by omega) (by omega) (by first| omega| (simp only; omega)| (dsimp only; omega)) hB2.1⟩
            · first | omega | (simp only; omega)
          · try simp only [decide_eq_true_eq, decide_eq_false_iff_not, bne_iff_ne, bne_eq_false_iff_eq, beq_iff_eq, beq_eq_false_iff_ne, Bool.not_eq_true', Bool.not_eq_false', Bool.not_eq_true, Bool.not_false, Bool.not_true, ge_iff_le, gt_iff_lt, ne_eq, Int.not_lt, Int.not_le, tf_iff, tf_iff'] at h2
            refine AW.exit ?_
            simp only [thn, blk, if_true]
            refine hN3 _ ?_
            try clear hN3
            try clear N3
            refine AW.regionL envOk ?_
            simp (dsimp := false) (implicitDefEqProofs := false) (disch := omega) only [go_sem, Nat.reduceAdd, Nat.reduceSub, Nat.reduceGT, Nat.reduceEqDiff, Nat.reduceMul, rows, gd_r, w64]
            refine ⟨(i + 1, none, [], Hy), ?_, fun _ _ h => h, ?_, ?_⟩
            · simp (disch := omega) [wks, wkA, sl, rows, oA, w64]
            · exact ⟨by first| omega| (simp only; omega)| (dsimp only; omega), hB2.row (by omega) (by omega) (by first| omega| (simp only; omega)| (dsimp only; omega))⟩
            · first | omega | (simp only; omega)
        · skip
          simp (dsimp := false) (implicitDefEqProofs := false) (disch := omega) only [go_sem, Nat.reduceAdd, Nat.reduceSub, Nat.reduceGT, Nat.reduceEqDiff, Nat.reduceMul]
          dsimp only [oA, oH] at hj hB2 ⊢
          obtain ⟨i2, i3⟩ := hB2.2.id rfl
          have hnxm := hB2.1
          have hssl := hB2.2.len
          have hlen := brkIJ_len (p := p) (pw := pw) (br := br) (u := u) (v := v) (i := i) (j := j) hu hv
          refine AW.seq (fun N hN => ?_)
          refine AW.regionL envOk ?_
          simp (dsimp := false) (implicitDefEqProofs := false) (disch := omega) only [go_sem, Nat.reduceAdd, Nat.reduceSub, Nat.reduceGT, Nat.reduceEqDiff, Nat.reduceMul, rows, gd_r, w64]
          refine hN _ ?_
          try clear hN
          try clear N
          refine AW.seq (fun N6 hN6 => ?_)
          refine AW.cond rfl (fun h3 => ?_) (fun h3 => ?_)
          · try simp only [decide_eq_true_eq, decide_eq_false_iff_not, bne_iff_ne, bne_eq_false_iff_eq, beq_iff_eq, beq_eq_false_iff_ne, Bool.not_eq_true', Bool.not_eq_false', Bool.not_eq_true, Bool.not_false, Bool.not_true, ge_iff_le, gt_iff_lt, ne_eq, Int.not_lt, Int.not_le, tf_iff, tf_iff'] at h3
            have hbj := hve _ (ix_mem (d := []) (show j < v.length by omega))
            refine AW.skip ?_
            simp only [thn, blk]
            refine hN6 _ ?_
            try clear hN6
            try clear N6
            refine AW.seq (fun N7 hN7 => ?_)
            refine AW.block ?_
            refine AW.seq (fun N hN => ?_)
            refine AW.regionL envOk ?_
            simp (dsimp := false) (implicitDefEqProofs := false) (disch := omega) only [go_sem, Nat.reduceAdd, Nat.reduceSub, Nat.reduceGT, Nat.reduceEqDiff, Nat.reduceMul, rows, gd_r, w64]
            refine hN _ ?_
            try clear hN
            try clear N
            refine AW.regionL envOk ?_
            simp (dsimp := false) (implicitDefEqProofs := false) (disch := omega) only [go_sem, Nat.reduceAdd, Nat.reduceSub, Nat.reduceGT, Nat.reduceEqDiff, Nat.reduceMul, rows, gd_r, w64]
            refine AC.own (impl_bracket_ok p pw br s (u.getD i []) (v.getD j []) hai hbj) (.cons (.refl _) (.cons (.refl _) (.cons (.refl _) .nil))) ?_
            intro m1 H1 r1 ids1 hm1 hH1 hown1
            obtain ⟨q1, q2, q3⟩ := hown1.1.slice
            have hr1 : (∀ z ∈ [r1], one z = true) = True := eq_true (fun z hz => by rw [List.mem_singleton.1 hz]; exact q2)
            have hidm : H1 id = some ss := (hH1 id (by omega)).trans (upd_same _ _ _)
            try simp (dsimp := false) (implicitDefEqProofs := false) (disch := omega) only [go_sem, Nat.reduceAdd, Nat.reduceSub, Nat.reduceGT, Nat.reduceEqDiff, Nat.reduceMul, q1, q2, q3, hr1, hidm, rows, w64, List.take_length]
            refine hN7 _ ?_
            try clear hN7
            try clear N7
            refine AW.regionL envOk ?_
            simp (dsimp := false) (implicitDefEqProofs := false) (disch := omega) only [go_sem, Nat.reduceAdd, Nat.reduceSub, Nat.reduceGT, Nat.reduceEqDiff, Nat.reduceMul, rows, gd_r, w64]
            refine ⟨(j + 1, some (m2 + 1 + 3 + 6), ss ++ [r1], lim m1 (oN H1 (some id))), ?_, by have := hB2.2.le (o := some id) (m1 := m1) (c := some [r1]) (xs := ss ++ [r1]) (id2 := m2 + 1 + 3 + 6) (idb := m2 + 1 + 3 + 5) hH1 (by omega) (by omega); exact this, ?_, ?_⟩
            · simp (disch := omega) [wks, wkA, sl, rows, oA, w64]
            · exact ⟨by first| omega| (simp only; omega)| (dsimp only; omega), by first| omega| (simp only; omega)| (dsimp only; omega), by rw [brkIJ_s (by omega)]; exact hB2.2.push hH1 hown1 (by omega) (by omega) (by omega) (by first| omega| (simp only; omega)| (dsimp only; omega)) hB2.1⟩
            · first | omega | (simp only; omega)
          · try simp only [decide_eq_true_eq, decide_eq_false_iff_not, bne_iff_ne, bne_eq_false_iff_eq, beq_iff_eq, beq_eq_false_iff_ne, Bool.not_eq_true', Bool.not_eq_false', Bool.not_eq_true, Bool.not_false, Bool.not_true, ge_iff_le, gt_iff_lt, ne_eq, Int.not_lt, Int.not_le, tf_iff, tf_iff'] at h3
            refine AW.exit ?_
            simp only [thn, blk, if_true]
            refine hN3 _ ?_
            try clear hN3
            try clear N3
            refine AW.regionL envOk ?_
            simp (dsimp := false) (implicitDefEqProofs := false) (disch := omega) only [go_sem, Nat.reduceAdd, Nat.reduceSub, Nat.reduceGT, Nat.reduceEqDiff, Nat.reduceMul, rows, gd_r, w64]
            refine ⟨(i + 1, some id, ss, Hy), ?_, fun _ _ h => h, ?_, ?_⟩
            · simp (disch := omega) [wks, wkA, sl, rows, oA, w64]
            · exact ⟨by first| omega| (simp only; omega)| (dsimp only; omega), hB2.row (by omega) (by omega) (by first| omega| (simp only; omega)| (dsimp only; omega))⟩
            · first | omega | (simp only; omega)
    · try simp only [decide_eq_true_eq, decide_eq_false_iff_not, bne_iff_ne, bne_eq_false_iff_eq, beq_iff_eq, beq_eq_false_iff_ne, Bool.not_eq_true', Bool.not_eq_false', Bool.not_eq_true, Bool.not_false, Bool.not_true, ge_iff_le, gt_iff_lt, ne_eq, Int.not_lt, Int.not_le, tf_iff, tf_iff'] at h1
      refine AW.exit ?_
      simp only [thn, blk, if_true]
      refine hN1 _ ?_
      try clear hN1
      try clear N1
      refine AW.seq (fun N hN => ?_)
      refine AW.regionL envOk ?_
      simp (dsimp := false) (implicitDefEqProofs := false) (disch := omega) only [go_sem, Nat.reduceAdd, Nat.reduceSub, Nat.reduceGT, Nat.reduceEqDiff, Nat.reduceMul, rows, gd_r, w64]
      refine hN _ ?_
      try clear hN
      try clear N
      refine AW.ret ?_
      simp (dsimp := false) (implicitDefEqProofs := false) (disch := omega) only [go_sem, Nat.reduceAdd, Nat.reduceSub, Nat.reduceGT, Nat.reduceEqDiff, Nat.reduceMul]
      have hfin := hB.fin (by omega)
      cases o with
      | none => exact ⟨[], hfin.nil⟩
      | some id =>
        obtain ⟨ids, hown⟩ := hfin.own
        exact ⟨ids, hown.keep (fun _ _ _ => rfl) (by omega) (by omega)⟩


theorem Own.sls {a b nx : Nat} {H : HP} {r : AV} {U : List (List Int)} {ids : List Nat} (h : Own a b H r (rows U) ids) (hb : b ≤ nx) : ∃ rs, Sls H nx r rs ∧ rs.length = U.length ∧ ∀ (k : Nat) (x y : AV), rs[k]? = some x → (U.map Go.Proofs.Ytgeoogndonghmaa.ints)[k]? = some y → ∃ is, Ow H x y is ∧ ∀ i ∈ is, i ∈ ids := by
  obtain ⟨h1, h2, h3⟩ := h
  unfold rows at h1
  generalize hn : U.length = n at h1
  generalize hts : U.map Go.Proofs.Ytgeoogndonghmaa.ints = ts at h1
  cases h1 with
  | leaf _ hf hnr => cases hf with
    | v0 => exact ⟨[], ⟨by simp, .inl rfl⟩, by simp, by simp⟩
  | nl => exact ⟨[], ⟨by simp, .inr (.inl ⟨rfl, rfl⟩)⟩, by simp, by simp⟩
  | h id cs ts' is g1 g2 =>
    subst hts
    refine ⟨cs, ⟨g2.ones, .inr (.inr ⟨id, by have := (h3 id (by simp)).2; omega, rfl, g1⟩)⟩, rfl, ?_⟩
    intro k x y hx hy
    obtain ⟨y', js, e1, e2, e3⟩ := g2.get k x hx
    rw [hy] at e1; cases e1
    exact ⟨js, e2, fun i hi => by simp [e3 i hi]⟩
theorem CatP.own {nx nx' : Nat} {H H' : HP} {r : AV} {U V : List (List Int)} {rs vs : List AV} (h : CatP nx H [rs, vs].flatten nx' H' r) (hl : rs.length = U.length) (hl2 : vs.length = V.length)
    (h1 : ∀ (k : Nat) (x y : AV), rs[k]? = some x → (U.map Go.Proofs.Ytgeoogndonghmaa.ints)[k]? = some y → Vw H' x y) (h2 : ∀ (k : Nat) (x y : AV), vs[k]? = some x → (V.map Go.Proofs.Ytgeoogndonghmaa.ints)[k]? = some y → Vw H' x y) : Vw H' r (rows (U ++ V)) := by
  refine h.vw (by simp [hl, hl2]) fun k x y hx hy => ?_
  simp only [List.flatten_cons, List.flatten_nil, List.append_nil, List.map_append] at hx hy
  rw [List.getElem?_append] at hx hy
  rw [List.length_map] at hy
  rw [hl] at hx
  split at hx
  · rename_i hk
    rw [if_pos hk] at hy
    exact h1 k x y hx hy
  · rename_i hk
    rw [if_neg hk] at hy
    exact h2 _ x y hx hy
theorem lim_le {m : Nat} {H : HP} : Le (lim m H) H := by
  intro i d hi
  unfold lim at hi
  split at hi
  · exact hi
  · cases hi
theorem Own.lim {a b m : Nat} {H : HP} {r X : AV} {ids : List Nat} (h : Own a b H r X ids) (hb : b ≤ m) : Own a b (lim m H) r X ids :=
  h.keep (fun i _ hi => if_pos (by omega)) (Nat.le_refl _) (Nat.le_refl _)

set_option maxHeartbeats 4000000 in
theorem impl_lieClosure_ok (p : Int) (pw : List (List Int)) (br : List (List (List Int))) (s : Sh p pw br) (ht : Tri p pw) (hp : pr4 p) (G Y R : List (List Int)) (hG : G.length ≤ 1048576) (hGe : ∀ b ∈ G, El p pw.length b) (hY : Y.length ≤ 100) (hYe : ∀ b ∈ Y, El p pw.length b) (hR : Clos p pw br Y (spanL p pw G) R) : ACo Try.prog 71 [ringP p pw br, rows G, rows Y] (rows R) := by
  have h6 := ht.n6
  intro nx
  refine AC.intro' envOk Try.func71 rfl (by kernel_rfl) Try.ntmps71 Try.results71 ?_
  refine AW.seq (fun N hN => ?_)
  refine AW.regionL envOk ?_
  simp (dsimp := false) (implicitDefEqProofs := false) (disch := omega) only [go_sem, Nat.reduceAdd, Nat.reduceSub, Nat.reduceGT, Nat.reduceEqDiff, Nat.reduceMul, w64]
  refine hN _ ?_
  try clear hN
  try clear N
  refine AW.seq (fun N hN => ?_)
  refine AW.regionL envOk ?_
  simp (dsimp := false) (implicitDefEqProofs := false) (disch := omega) only [go_sem, Nat.reduceAdd, Nat.reduceSub, Nat.reduceGT, Nat.reduceEqDiff, Nat.reduceMul, w64]
  refine AC.own (impl_lieSpan_ok p pw br ht hp G hG (fun k hk => hGe _ (ix_mem hk))) (.cons (.refl _) (.cons (.refl _) .nil)) ?_
  intro m1 H1 r1 ids1 hm1 hH1 hown1
  try simp (dsimp := false) (implicitDefEqProofs := false) (disch := omega) only [go_sem, Nat.reduceAdd, Nat.reduceSub, Nat.reduceGT, Nat.reduceEqDiff, Nat.reduceMul, w64]
  refine hN _ ?_
  try clear hN
  try clear N
  refine AW.block ?_
  refine AW.loopN (α := AV × HP × List (List Int)) (fun x => sl 29 [(0, ringP p pw br), (2, rows Y), (7, x.1)]) (fun x => x.2.1) (fun x m => (nx ≤ m ∧ ∃ ids, Own nx m x.2.1 x.1 (rows x.2.2) ids) ∧ CanU p pw x.2.2 ∧ Clos p pw br Y x.2.2 R) (fun x => pw.length - x.2.2.length) ((r1, lim m1 H1, spanL p pw G)) ?_ ?_ (lim_le) ?_
  · exact ⟨⟨by first| omega| (simp only; omega)| (dsimp only; omega), ids1, (hown1.lim (Nat.le_refl _)).keep (fun _ _ _ => rfl) (by omega) (by first| omega| (simp only; omega)| (dsimp only; omega))⟩, spanU ht hp hGe, hR⟩
  · simp (disch := omega) [wks, wkA, sl, w64, ints, rows, cubes, w64] <;> omega
  · skip
    rintro ⟨r, H, U⟩ m ⟨⟨hm, ids, hown⟩, hU, hC⟩
    dsimp only at hm hown hU hC
    have hUl := hU.toEch.len
    obtain ⟨q1, q2, q3⟩ := hown.1.slice
    have hB0 : (brkLL p pw br U (U ++ Y)).length ≤ 1000 * 1000 := by rw [brkLL_len]; exact Nat.mul_le_mul (by omega) (by simp; omega)
    obtain ⟨B, hB⟩ : ∃ B, brkLL p pw br U (U ++ Y) = B := ⟨_, rfl⟩
    have hBe : ∀ b ∈ B, El p pw.length b := hB ▸ brkLL_el s
    have hst : spanL p pw (U ++ B) = cstep p pw br Y U := by rw [← hB]; rfl
    have hcc := cstep_can s ht hp (y := Y) hU.el
    have hcl := hcc.toEch.len
    obtain ⟨hg1, hg2⟩ := cstep_grow s ht hp (y := Y) hU
    rw [hB] at hB0
    simp (dsimp := false) (implicitDefEqProofs := false) (disch := omega) only [go_sem, Nat.reduceAdd, Nat.reduceSub, Nat.reduceGT, Nat.reduceEqDiff, Nat.reduceMul]
    refine AW.block ?_
    refine AW.seq (fun N hN => ?_)
    refine AW.regionL envOk ?_
    simp (dsimp := false) (implicitDefEqProofs := false) (disch := omega) only [go_sem, Nat.reduceAdd, Nat.reduceSub, Nat.reduceGT, Nat.reduceEqDiff, Nat.reduceMul, w64, q1, q2, q3]
    obtain ⟨rs, hsl, hrl, hrv⟩ := (hown.keep (H' := upd H (m + 6) (some [r, rows Y])) (fun i h1 h2 => upd_ne _ _ (by omega)) (Nat.le_refl _) (Nat.le_refl _)).sls (nx := m + 13) (by omega)
    refine (slices_Concat_rows [r, rows Y] [rs, Y.map ints] rfl (by simp) (m + 6) (m + 13) _ (upd_same _ _ _) (by omega) (.two hsl .rws) (by simp; omega)).mono ?_
    intro nx1 Hc c1 hcat
    have hnx1 := hcat.1
    have hk1 : ∀ i, i < m → Hc i = H i := fun i hi => (hcat.2.1 i (by omega)).trans (upd_ne _ _ (by omega))
    have hown1 := hown.keep (fun i _ hi => hk1 i hi) (Nat.le_refl _) (Nat.le_refl _)
    have hv1 : Vw Hc c1 (rows (U ++ Y)) := hcat.own hrl (by simp) (fun k x y hx hy => by
      obtain ⟨is, g1, g2⟩ := hrv k x y hx hy
      exact (g1.keep fun i hi => hcat.2.1 i (by have := (hown.2.2 i (g2 i hi)).2; omega)).vw) (fun k x y hx hy => by rw [hx] at hy; cases hy; exact .refl _)
    try simp (dsimp := false) (implicitDefEqProofs := false) (disch := omega) only [go_sem, Nat.reduceAdd, Nat.reduceSub, Nat.reduceGT, Nat.reduceEqDiff, Nat.reduceMul, w64]
    refine AC.own (impl_brackets_own p pw br s U (U ++ Y) (by omega) (by simp; omega) hU.el (app_el hU.el hYe)) (.cons (.refl _) (.cons hown1.1.vw (.cons hv1 .nil))) ?_
    rw [hB]
    intro m2 H2 rB idsB hm2 hH2 hownB
    obtain ⟨b1, b2, b3⟩ := hownB.1.slice
    try simp (dsimp := false) (implicitDefEqProofs := false) (disch := omega) only [go_sem, Nat.reduceAdd, Nat.reduceSub, Nat.reduceGT, Nat.reduceEqDiff, Nat.reduceMul, q1, q2, q3, b1, b2, b3, w64]
    have hk2 : ∀ i, i < m → upd H2 (m + 9) (some [r, rB]) i = H i := fun i hi => (upd_ne _ _ (by omega)).trans ((hH2 i (by omega)).trans (hk1 i hi))
    have howr := hown.keep (fun i _ hi => hk2 i hi) (Nat.le_refl _) (Nat.le_refl _)
    have howB := hownB.keep (H' := upd H2 (m + 9) (some [r, rB])) (fun i h1 h2 => upd_ne _ _ (by omega)) (Nat.le_refl _) (Nat.le_refl _)
    obtain ⟨rs2, hsl2, hrl2, hrv2⟩ := howr.sls (nx := m2) (by omega)
    obtain ⟨vs2, hsl3, hrl3, hrv3⟩ := howB.sls (nx := m2) (Nat.le_refl _)
    refine (slices_Concat_rows [r, rB] [rs2, vs2] rfl (by simp) (m + 9) m2 _ (upd_same _ _ _) (by omega) (.two hsl2 hsl3) (by simp; omega)).mono ?_
    intro nx3 H3 c3 hcat3
    have hnx3 := hcat3.1
    have hv3 : Vw H3 c3 (rows (U ++ B)) := hcat3.own hrl2 hrl3 (fun k x y hx hy => by
      obtain ⟨is, g1, g2⟩ := hrv2 k x y hx hy
      exact (g1.keep fun i hi => hcat3.2.1 i (by have := (hown.2.2 i (g2 i hi)).2; omega)).vw) (fun k x y hx hy => by
      obtain ⟨is, g1, g2⟩ := hrv3 k x y hx hy
      exact (g1.keep fun i hi => hcat3.2.1 i (by have := (hownB.2.2 i (g2 i hi)).2; omega)).vw)
    try simp (dsimp := false) (implicitDefEqProofs := false) (disch := omega) only [go_sem, Nat.reduceAdd, Nat.reduceSub, Nat.reduceGT, Nat.reduceEqDiff, Nat.reduceMul, w64]
    refine AC.own (impl_lieSpan_ok p pw br ht hp (U ++ B) (by simp; omega) (fun k hk => app_el hU.el hBe _ (ix_mem hk))) (.cons (.refl _) (.cons hv3 .nil)) ?_
    rw [hst]
    intro m4 H4 r4 ids4 hm4 hH4 hown4
    have hk4 : ∀ i, i < m → H4 i = H i := fun i hi => (hH4 i (by omega)).trans ((hcat3.2.1 i (by omega)).trans (hk2 i hi))
    have hr4 := hown.keep (fun i _ hi => hk4 i hi) (Nat.le_refl _) (Nat.le_refl _)
    try simp (dsimp := false) (implicitDefEqProofs := false) (disch := omega) only [go_sem, Nat.reduceAdd, Nat.reduceSub, Nat.reduceGT, Nat.reduceEqDiff, Nat.reduceMul, w64]
    refine hN _ ?_
    try clear hN
    try clear N
    refine AW.seq (fun N1 hN1 => ?_)
    refine AW.seq (fun N hN => ?_)
    refine AW.regionL envOk ?_
    simp (dsimp := false) (implicitDefEqProofs := false) (disch := omega) only [go_sem, Nat.reduceAdd, Nat.reduceSub, Nat.reduceGT, Nat.reduceEqDiff, Nat.reduceMul, w64]
    refine AC.pure (.lent (impl_sameRows_ok (cstep p pw br Y U) U (hcc.rl h6) (hU.rl h6)) (.cons hown4.1.vw (.cons hr4.1.vw .nil)) (.b _)) ?_
    try simp (dsimp := false) (implicitDefEqProofs := false) (disch := omega) only [go_sem, Nat.reduceAdd, Nat.reduceSub, Nat.reduceGT, Nat.reduceEqDiff, Nat.reduceMul, w64]
    refine hN _ ?_
    try clear hN
    try clear N
    refine AW.cond rfl (fun h1 => ?_) (fun h1 => ?_)
    · try simp only [decide_eq_true_eq, decide_eq_false_iff_not, bne_iff_ne, bne_eq_false_iff_eq, beq_iff_eq, beq_eq_false_iff_ne, Bool.not_eq_true', Bool.not_eq_false', Bool.not_eq_true, Bool.not_false, Bool.not_true, ge_iff_le, gt_iff_lt, ne_eq, Int.not_lt, Int.not_le, tf_iff, tf_iff'] at h1
      refine AW.seq (fun N hN => ?_)
      refine AW.regionL envOk ?_
      simp (dsimp := false) (implicitDefEqProofs := false) (disch := omega) only [go_sem, Nat.reduceAdd, Nat.reduceSub, Nat.reduceGT, Nat.reduceEqDiff, Nat.reduceMul, w64]
      refine hN _ ?_
      try clear hN
      try clear N
      refine AW.ret ?_
      simp (dsimp := false) (implicitDefEqProofs := false) (disch := omega) only [go_sem, Nat.reduceAdd, Nat.reduceSub, Nat.reduceGT, Nat.reduceEqDiff, Nat.reduceMul]
      rw [hC.eq h1]
      exact ⟨ids, hr4.keep (fun _ _ _ => rfl) (Nat.le_refl _) (by omega)⟩
    · try simp only [decide_eq_true_eq, decide_eq_false_iff_not, bne_iff_ne, bne_eq_false_iff_eq, beq_iff_eq, beq_eq_false_iff_ne, Bool.not_eq_true', Bool.not_eq_false', Bool.not_eq_true, Bool.not_false, Bool.not_true, ge_iff_le, gt_iff_lt, ne_eq, Int.not_lt, Int.not_le, tf_iff, tf_iff'] at h1
      refine AW.skip ?_
      simp only [thn, blk]
      refine hN1 _ ?_
      try clear hN1
      try clear N1
      refine AW.regionL envOk ?_
      simp (dsimp := false) (implicitDefEqProofs := false) (disch := omega) only [go_sem, Nat.reduceAdd, Nat.reduceSub, Nat.reduceGT, Nat.reduceEqDiff, Nat.reduceMul, w64]
      refine ⟨(r4, lim m4 H4, cstep p pw br Y U), ?_, lim_le, ?_, ?_⟩
      · simp (disch := omega) [wks, wkA, sl, w64, ints, rows, cubes, w64] <;> omega
      · refine ⟨⟨by first| omega| (simp only; omega)| (dsimp only; omega), ?_⟩, hcc, hC.next h1⟩; exact Own.keep (Own.lim hown4 (Nat.le_refl _)) (fun _ _ _ => rfl) (by omega) (by omega)
      · have hlt : U.length < (cstep p pw br Y U).length := Nat.lt_of_not_le fun h => h1 (hg2 h); simp only; omega


noncomputable def closR (p : Int) (pw : List (List Int)) (br : List (List (List Int))) (Y G : List (List Int)) : List (List Int) := open Classical in if h : ∃ r, Clos p pw br Y (spanL p pw G) r ∧ CanU p pw r then Classical.choose h else []
theorem closR_ok {p : Int} {pw : List (List Int)} {br : List (List (List Int))} {Y G : List (List Int)} (h : AllEl p pw br G) : Clos p pw br Y (spanL p pw G) (closR p pw br Y G) ∧ CanU p pw (closR p pw br Y G) := by
  have ht := h.1.1.tri
  have hex : ∃ r, Clos p pw br Y (spanL p pw G) r ∧ CanU p pw r := clos_ex h.1.1.sh ht h.1.1.1 _ (spanU ht h.1.1.1 (allEl.mem h.2)) (Nat.le_refl _)
  unfold closR
  rw [dif_pos hex]
  exact Classical.choose_spec hex

theorem spec_l32Ring_ok (p : Int) (pw : List (List Int)) (br : List (List (List Int))) (s : Sh p pw br) (ht : Tri p pw) (hp : pr4 p) (G R : List (List Int)) (hG : G.length ≤ 1048576) (hGe : ∀ b ∈ G, El p pw.length b) (hR : Clos p pw br [] (spanL p pw G) R) : ACp Try.prog 69 [ring p pw br, rows G] (rows R) := by
  have h6 := ht.n6
  refine ACp.intro' envOk Try.func69 rfl (by kernel_rfl) Try.ntmps69 Try.results69 (rows_nr _) (fun nx => ?_)
  refine AW.seq (fun N hN => ?_)
  refine AW.regionL envOk ?_
  simp (dsimp := false) (implicitDefEqProofs := false) (disch := omega) only [go_sem, Nat.reduceAdd, Nat.reduceSub, Nat.reduceGT, Nat.reduceEqDiff, Nat.reduceMul, ringP, ring, w64]
  refine hN _ ?_
  try clear hN
  try clear N
  refine AW.freezeQ 2 nx _ rfl (upd_same _ _ _) ?_
  simp (dsimp := false) (implicitDefEqProofs := false) (disch := omega) only [go_sem, Nat.reduceAdd, Nat.reduceSub, Nat.reduceGT, Nat.reduceEqDiff, Nat.reduceMul]
  refine AW.seq (fun N hN => ?_)
  refine AW.regionL envOk ?_
  simp (dsimp := false) (implicitDefEqProofs := false) (disch := omega) only [go_sem, Nat.reduceAdd, Nat.reduceSub, Nat.reduceGT, Nat.reduceEqDiff, Nat.reduceMul, ringP, ring, w64]
  refine AC.pure (.of (spec_l32Span_ok p pw br ht hp G hG (fun k hk => hGe _ (ix_mem hk)))) ?_
  try simp (dsimp := false) (implicitDefEqProofs := false) (disch := omega) only [go_sem, Nat.reduceAdd, Nat.reduceSub, Nat.reduceGT, Nat.reduceEqDiff, Nat.reduceMul, ringP, ring, w64]
  refine hN _ ?_
  try clear hN
  try clear N
  refine AW.block ?_
  refine AW.loopN (α := List (List Int)) (fun x => sl 24 [(2, ringP p pw br), (5, rows x)]) (fun _ => noH) (fun x m => CanU p pw x ∧ Clos p pw br [] x R) (fun x => pw.length - x.length) (spanL p pw G) ?_ ?_ (Le.del (by simp [noH])) ?_
  · exact ⟨spanU ht hp hGe, hR⟩
  · simp (disch := omega) [wks, wkA, sl, w64, ints, rows, cubes, ringP, ring, w64] <;> omega
  · skip
    rintro U m ⟨hU, hC⟩
    have hUl := hU.toEch.len
    have hcc := cstep_can s ht hp (y := []) hU.el
    have hcl := hcc.toEch.len
    obtain ⟨hg1, hg2⟩ := cstep_grow s ht hp (y := []) hU
    have hb := brkLL_el s (u := U) (v := U)
    have hsb := spanU ht hp hb
    have hsl := hsb.toEch.len
    have hgr := spec_l32Grown_ok p pw br ht hp U (spanL p pw (brkLL p pw br U U)) (by omega) (by omega) hU.el hsb.el
    rw [ring_step s ht hp hU.el] at hgr
    simp (dsimp := false) (implicitDefEqProofs := false) (disch := omega) only [go_sem, Nat.reduceAdd, Nat.reduceSub, Nat.reduceGT, Nat.reduceEqDiff, Nat.reduceMul]
    refine AW.block ?_
    refine AW.seq (fun N hN => ?_)
    refine AW.drawL envOk (by kernel_rfl) 8 (by kernel_rfl) ?_
    simp (dsimp := false) (implicitDefEqProofs := false) (disch := omega) only [hr_nil, hr_one, hr_if, List.take_succ_cons, List.take_zero, List.drop_succ_cons, List.drop_zero, List.take_nil, List.drop_nil, go_sem, Nat.reduceAdd, Nat.reduceSub, Nat.reduceGT, Nat.reduceEqDiff, Nat.reduceMul, ringP, ring, w64]
    refine ⟨_, .of (spec_l32Brackets_ok p pw br s ht hp U U (by omega) (by omega) hU.el hU.el), ?_⟩
    try simp (dsimp := false) (implicitDefEqProofs := false) (disch := omega) only [go_sem, Nat.reduceAdd, Nat.reduceSub, Nat.reduceGT, Nat.reduceEqDiff, Nat.reduceMul, ringP, ring, w64]
    refine ⟨_, .of (hgr ), ?_⟩
    try simp (dsimp := false) (implicitDefEqProofs := false) (disch := omega) only [go_sem, Nat.reduceAdd, Nat.reduceSub, Nat.reduceGT, Nat.reduceEqDiff, Nat.reduceMul, ringP, ring, w64]
    refine hN _ ?_
    try clear hN
    try clear N
    refine AW.seq (fun N1 hN1 => ?_)
    refine AW.seq (fun N hN => ?_)
    refine AW.regionL envOk ?_
    simp (dsimp := false) (implicitDefEqProofs := false) (disch := omega) only [go_sem, Nat.reduceAdd, Nat.reduceSub, Nat.reduceGT, Nat.reduceEqDiff, Nat.reduceMul, ringP, ring, w64]
    refine hN _ ?_
    try clear hN
    try clear N
    refine AW.cond rfl (fun h1 => ?_) (fun h1 => ?_)
    · try simp only [decide_eq_true_eq, decide_eq_false_iff_not, bne_iff_ne, bne_eq_false_iff_eq, beq_iff_eq, beq_eq_false_iff_ne, Bool.not_eq_true', Bool.not_eq_false', Bool.not_eq_true, Bool.not_false, Bool.not_true, ge_iff_le, gt_iff_lt, ne_eq, Int.not_lt, Int.not_le, tf_iff, tf_iff'] at h1
      refine AW.seq (fun N hN => ?_)
      refine AW.regionL envOk ?_
      simp (dsimp := false) (implicitDefEqProofs := false) (disch := omega) only [go_sem, Nat.reduceAdd, Nat.reduceSub, Nat.reduceGT, Nat.reduceEqDiff, Nat.reduceMul, ringP, ring, w64]
      refine hN _ ?_
      try clear hN
      try clear N
      refine AW.ret ?_
      simp (dsimp := false) (implicitDefEqProofs := false) (disch := omega) only [go_sem, Nat.reduceAdd, Nat.reduceSub, Nat.reduceGT, Nat.reduceEqDiff, Nat.reduceMul]
      rw [hC.eq (hg2 (by omega))]
    · try simp only [decide_eq_true_eq, decide_eq_false_iff_not, bne_iff_ne, bne_eq_false_iff_eq, beq_iff_eq, beq_eq_false_iff_ne, Bool.not_eq_true', Bool.not_eq_false', Bool.not_eq_true, Bool.not_false, Bool.not_true, ge_iff_le, gt_iff_lt, ne_eq, Int.not_lt, Int.not_le, tf_iff, tf_iff'] at h1
      refine AW.skip ?_
      simp only [thn, blk]
      refine hN1 _ ?_
      try clear hN1
      try clear N1
      refine AW.regionL envOk ?_
      simp (dsimp := false) (implicitDefEqProofs := false) (disch := omega) only [go_sem, Nat.reduceAdd, Nat.reduceSub, Nat.reduceGT, Nat.reduceEqDiff, Nat.reduceMul, ringP, ring, w64]
      refine ⟨cstep p pw br [] U, ?_, fun _ _ h => h, ?_, ?_⟩
      · simp (disch := omega) [wks, wkA, sl, w64, ints, rows, cubes, ringP, ring, w64] <;> omega
      · exact ⟨hcc, hC.next (fun e => h1 (by rw [e]))⟩
      · exact Nat.sub_lt_sub_left (by omega) (show U.length < (cstep p pw br [] U).length by omega)


theorem spec_l32Ideal_ok (p : Int) (pw : List (List Int)) (br : List (List (List Int))) (s : Sh p pw br) (ht : Tri p pw) (hp : pr4 p) (G R : List (List Int)) (hG : G.length ≤ 1048576) (hGe : ∀ b ∈ G, El p pw.length b) (hR : Clos p pw br (wholeL pw.length) (spanL p pw G) R) : ACp Try.prog 72 [ring p pw br, rows G] (rows R) := by
  have h6 := ht.n6
  refine ACp.intro' envOk Try.func72 rfl (by kernel_rfl) Try.ntmps72 Try.results72 (rows_nr _) (fun nx => ?_)
  refine AW.seq (fun N hN => ?_)
  refine AW.regionL envOk ?_
  simp (dsimp := false) (implicitDefEqProofs := false) (disch := omega) only [go_sem, Nat.reduceAdd, Nat.reduceSub, Nat.reduceGT, Nat.reduceEqDiff, Nat.reduceMul, ringP, ring, w64]
  refine hN _ ?_
  try clear hN
  try clear N
  refine AW.freezeQ 2 nx _ rfl (upd_same _ _ _) ?_
  simp (dsimp := false) (implicitDefEqProofs := false) (disch := omega) only [go_sem, Nat.reduceAdd, Nat.reduceSub, Nat.reduceGT, Nat.reduceEqDiff, Nat.reduceMul]
  refine AW.seq (fun N hN => ?_)
  refine AW.regionL envOk ?_
  simp (dsimp := false) (implicitDefEqProofs := false) (disch := omega) only [go_sem, Nat.reduceAdd, Nat.reduceSub, Nat.reduceGT, Nat.reduceEqDiff, Nat.reduceMul, ringP, ring, w64]
  refine AC.pure (.of (spec_l32Span_ok p pw br ht hp G hG (fun k hk => hGe _ (ix_mem hk)))) ?_
  try simp (dsimp := false) (implicitDefEqProofs := false) (disch := omega) only [go_sem, Nat.reduceAdd, Nat.reduceSub, Nat.reduceGT, Nat.reduceEqDiff, Nat.reduceMul, ringP, ring, w64]
  refine hN _ ?_
  try clear hN
  try clear N
  refine AW.block ?_
  refine AW.loopN (α := List (List Int)) (fun x => sl 25 [(2, ringP p pw br), (5, rows x)]) (fun _ => noH) (fun x m => CanU p pw x ∧ Clos p pw br (wholeL pw.length) x R) (fun x => pw.length - x.length) (spanL p pw G) ?_ ?_ (Le.del (by simp [noH])) ?_
  · exact ⟨spanU ht hp hGe, hR⟩
  · simp (disch := omega) [wks, wkA, sl, w64, ints, rows, cubes, ringP, ring, w64] <;> omega
  · skip
    rintro U m ⟨hU, hC⟩
    have hUl := hU.toEch.len
    have hcc := cstep_can s ht hp (y := (wholeL pw.length)) hU.el
    have hcl := hcc.toEch.len
    obtain ⟨hg1, hg2⟩ := cstep_grow s ht hp (y := (wholeL pw.length)) hU
    have hb := brkLL_el s (u := U) (v := wholeL pw.length)
    have hsb := spanU ht hp hb
    have hsl := hsb.toEch.len
    have hgr := spec_l32Grown_ok p pw br ht hp U (spanL p pw (brkLL p pw br U (wholeL pw.length))) (by omega) (by omega) hU.el hsb.el
    rw [ideal_step s ht hp hU.el] at hgr
    simp (dsimp := false) (implicitDefEqProofs := false) (disch := omega) only [go_sem, Nat.reduceAdd, Nat.reduceSub, Nat.reduceGT, Nat.reduceEqDiff, Nat.reduceMul]
    refine AW.block ?_
    refine AW.seq (fun N hN => ?_)
    refine AW.drawL envOk (by kernel_rfl) 9 (by kernel_rfl) ?_
    simp (dsimp := false) (implicitDefEqProofs := false) (disch := omega) only [hr_nil, hr_one, hr_if, List.take_succ_cons, List.take_zero, List.drop_succ_cons, List.drop_zero, List.take_nil, List.drop_nil, go_sem, Nat.reduceAdd, Nat.reduceSub, Nat.reduceGT, Nat.reduceEqDiff, Nat.reduceMul, ringP, ring, w64]
    refine ⟨_, .of (spec_l32Whole_ok p pw br (by omega)), ?_⟩
    try simp (dsimp := false) (implicitDefEqProofs := false) (disch := omega) only [go_sem, Nat.reduceAdd, Nat.reduceSub, Nat.reduceGT, Nat.reduceEqDiff, Nat.reduceMul, ringP, ring, w64]
    refine ⟨_, .of (spec_l32Brackets_ok p pw br s ht hp U (wholeL pw.length) (by omega) (by rw [whole_len]; omega) hU.el (whole_el ht.p2)), ?_⟩
    try simp (dsimp := false) (implicitDefEqProofs := false) (disch := omega) only [go_sem, Nat.reduceAdd, Nat.reduceSub, Nat.reduceGT, Nat.reduceEqDiff, Nat.reduceMul, ringP, ring, w64]
    refine ⟨_, .of (hgr ), ?_⟩
    try simp (dsimp := false) (implicitDefEqProofs := false) (disch := omega) only [go_sem, Nat.reduceAdd, Nat.reduceSub, Nat.reduceGT, Nat.reduceEqDiff, Nat.reduceMul, ringP, ring, w64]
    refine hN _ ?_
    try clear hN
    try clear N
    refine AW.seq (fun N1 hN1 => ?_)
    refine AW.seq (fun N hN => ?_)
    refine AW.regionL envOk ?_
    simp (dsimp := false) (implicitDefEqProofs := false) (disch := omega) only [go_sem, Nat.reduceAdd, Nat.reduceSub, Nat.reduceGT, Nat.reduceEqDiff, Nat.reduceMul, ringP, ring, w64]
    refine hN _ ?_
    try clear hN
    try clear N
    refine AW.cond rfl (fun h1 => ?_) (fun h1 => ?_)
    · try simp only [decide_eq_true_eq, decide_eq_false_iff_not, bne_iff_ne, bne_eq_false_iff_eq, beq_iff_eq, beq_eq_false_iff_ne, Bool.not_eq_true', Bool.not_eq_false', Bool.not_eq_true, Bool.not_false, Bool.not_true, ge_iff_le, gt_iff_lt, ne_eq, Int.not_lt, Int.not_le, tf_iff, tf_iff'] at h1
      refine AW.seq (fun N hN => ?_)
      refine AW.regionL envOk ?_
      simp (dsimp := false) (implicitDefEqProofs := false) (disch := omega) only [go_sem, Nat.reduceAdd, Nat.reduceSub, Nat.reduceGT, Nat.reduceEqDiff, Nat.reduceMul, ringP, ring, w64]
      refine hN _ ?_
      try clear hN
      try clear N
      refine AW.ret ?_
      simp (dsimp := false) (implicitDefEqProofs := false) (disch := omega) only [go_sem, Nat.reduceAdd, Nat.reduceSub, Nat.reduceGT, Nat.reduceEqDiff, Nat.reduceMul]
      rw [hC.eq (hg2 (by omega))]
    · try simp only [decide_eq_true_eq, decide_eq_false_iff_not, bne_iff_ne, bne_eq_false_iff_eq, beq_iff_eq, beq_eq_false_iff_ne, Bool.not_eq_true', Bool.not_eq_false', Bool.not_eq_true, Bool.not_false, Bool.not_true, ge_iff_le, gt_iff_lt, ne_eq, Int.not_lt, Int.not_le, tf_iff, tf_iff'] at h1
      refine AW.skip ?_
      simp only [thn, blk]
      refine hN1 _ ?_
      try clear hN1
      try clear N1
      refine AW.regionL envOk ?_
      simp (dsimp := false) (implicitDefEqProofs := false) (disch := omega) only [go_sem, Nat.reduceAdd, Nat.reduceSub, Nat.reduceGT, Nat.reduceEqDiff, Nat.reduceMul, ringP, ring, w64]
      refine ⟨cstep p pw br (wholeL pw.length) U, ?_, fun _ _ h => h, ?_, ?_⟩
      · simp (disch := omega) [wks, wkA, sl, w64, ints, rows, cubes, ringP, ring, w64] <;> omega
      · exact ⟨hcc, hC.next (fun e => h1 (by rw [e]))⟩
      · exact Nat.sub_lt_sub_left (by omega) (show U.length < (cstep p pw br (wholeL pw.length) U).length by omega)

theorem spec_SubringOf_ok (p : Int) (pw : List (List Int)) (br : List (List (List Int))) (hl : ringlen pw br) (G : List (List Int)) (hG : rowslen G) : ACp Try.prog 26 [ring p pw br, rows G] (resRR (orRR (tf (AllEl p pw br G)) (closR p pw br [] G, 0))) := by
  have hln := hl.n
  have hGn := hG.n
  refine ACp.introR envOk Try.func26 rfl (by kernel_rfl) Try.ntmps26 Try.results26 (resRR_nr _) (fun nx => ?_)
  refine AW.seq (fun N hN => ?_)
  refine AW.regionL envOk ?_
  simp (dsimp := false) (implicitDefEqProofs := false) (disch := omega) only [go_sem, Nat.reduceAdd, Nat.reduceSub, Nat.reduceGT, Nat.reduceEqDiff, Nat.reduceMul, ring, rows, w64]
  refine hN _ ?_
  try clear hN
  try clear N
  refine AW.seq (fun N1 hN1 => ?_)
  refine AW.seq (fun N hN => ?_)
  refine AW.regionL envOk ?_
  simp (dsimp := false) (implicitDefEqProofs := false) (disch := omega) only [go_sem, Nat.reduceAdd, Nat.reduceSub, Nat.reduceGT, Nat.reduceEqDiff, Nat.reduceMul, ring, rows, w64]
  refine AC.pure (.of (spec_IsLieRing_ok p pw br hl)) ?_
  try simp (dsimp := false) (implicitDefEqProofs := false) (disch := omega) only [go_sem, Nat.reduceAdd, Nat.reduceSub, Nat.reduceGT, Nat.reduceEqDiff, Nat.reduceMul, ring, rows, w64]
  refine gopB.mk' (fun h1 => ?_) (fun h1 => ?_)
  · try simp only [decide_eq_true_eq, decide_eq_false_iff_not, bne_iff_ne, bne_eq_false_iff_eq, beq_iff_eq, beq_eq_false_iff_ne, Bool.not_eq_true', Bool.not_eq_false', Bool.not_eq_true, Bool.not_false, Bool.not_true, ge_iff_le, gt_iff_lt, ne_eq, Int.not_lt, Int.not_le, tf_iff, tf_iff'] at h1
    have hpb := h1.1.pb
    try simp (dsimp := false) (implicitDefEqProofs := false) (disch := omega) only [go_sem, Nat.reduceAdd, Nat.reduceSub, Nat.reduceGT, Nat.reduceEqDiff, Nat.reduceMul, ring, rows, w64]
    refine AC.pure (.of (spec_l32Elements_ok p pw br hpb (by omega) G hG)) ?_
    try simp (dsimp := false) (implicitDefEqProofs := false) (disch := omega) only [go_sem, Nat.reduceAdd, Nat.reduceSub, Nat.reduceGT, Nat.reduceEqDiff, Nat.reduceMul, ring, rows, w64]
    refine hN _ ?_
    try clear hN
    try clear N
    refine AW.cond rfl (fun h2 => ?_) (fun h2 => ?_)
    · try simp only [decide_eq_true_eq, decide_eq_false_iff_not, bne_iff_ne, bne_eq_false_iff_eq, beq_iff_eq, beq_eq_false_iff_ne, Bool.not_eq_true', Bool.not_eq_false', Bool.not_eq_true, Bool.not_false, Bool.not_true, ge_iff_le, gt_iff_lt, ne_eq, Int.not_lt, Int.not_le, tf_iff, tf_iff'] at h2
      refine AW.seq (fun N hN => ?_)
      refine AW.regionL envOk ?_
      simp (dsimp := false) (implicitDefEqProofs := false) (disch := omega) only [go_sem, Nat.reduceAdd, Nat.reduceSub, Nat.reduceGT, Nat.reduceEqDiff, Nat.reduceMul, ring, rows, w64]
      refine hN _ ?_
      try clear hN
      try clear N
      refine AW.ret ?_
      simp (dsimp := false) (implicitDefEqProofs := false) (disch := omega) only [go_sem, Nat.reduceAdd, Nat.reduceSub, Nat.reduceGT, Nat.reduceEqDiff, Nat.reduceMul]
      rw [tf_f (fun h => h2 h.2)]
      exact resRR_nl
    · try simp only [decide_eq_true_eq, decide_eq_false_iff_not, bne_iff_ne, bne_eq_false_iff_eq, beq_iff_eq, beq_eq_false_iff_ne, Bool.not_eq_true', Bool.not_eq_false', Bool.not_eq_true, Bool.not_false, Bool.not_true, ge_iff_le, gt_iff_lt, ne_eq, Int.not_lt, Int.not_le, tf_iff, tf_iff'] at h2
      refine AW.skip ?_
      simp only [thn, blk]
      refine hN1 _ ?_
      try clear hN1
      try clear N1
      refine AW.seq (fun N hN => ?_)
      refine AW.regionL envOk ?_
      simp (dsimp := false) (implicitDefEqProofs := false) (disch := omega) only [go_sem, Nat.reduceAdd, Nat.reduceSub, Nat.reduceGT, Nat.reduceEqDiff, Nat.reduceMul, ring, rows, w64]
      refine AC.pure (.of (spec_l32Ring_ok p pw br h1.1.sh h1.1.tri h1.1.1 G _ (by omega) (allEl.mem h2) (closR_ok (Y := []) (show AllEl p pw br G from ⟨h1, h2⟩)).1)) ?_
      try simp (dsimp := false) (implicitDefEqProofs := false) (disch := omega) only [go_sem, Nat.reduceAdd, Nat.reduceSub, Nat.reduceGT, Nat.reduceEqDiff, Nat.reduceMul, ring, rows, w64]
      refine hN _ ?_
      try clear hN
      try clear N
      refine AW.ret ?_
      simp (dsimp := false) (implicitDefEqProofs := false) (disch := omega) only [go_sem, Nat.reduceAdd, Nat.reduceSub, Nat.reduceGT, Nat.reduceEqDiff, Nat.reduceMul]
      rw [tf_t (show AllEl p pw br G from ⟨h1, h2⟩)]
      exact .refl _
  · try simp only [decide_eq_true_eq, decide_eq_false_iff_not, bne_iff_ne, bne_eq_false_iff_eq, beq_iff_eq, beq_eq_false_iff_ne, Bool.not_eq_true', Bool.not_eq_false', Bool.not_eq_true, Bool.not_false, Bool.not_true, ge_iff_le, gt_iff_lt, ne_eq, Int.not_lt, Int.not_le, tf_iff, tf_iff'] at h1
    try simp (dsimp := false) (implicitDefEqProofs := false) (disch := omega) only [go_sem, Nat.reduceAdd, Nat.reduceSub, Nat.reduceGT, Nat.reduceEqDiff, Nat.reduceMul, ring, rows, w64]
    refine hN _ ?_
    try clear hN
    try clear N
    refine AW.condT rfl ?_
    refine AW.seq (fun N hN => ?_)
    refine AW.regionL envOk ?_
    simp (dsimp := false) (implicitDefEqProofs := false) (disch := omega) only [go_sem, Nat.reduceAdd, Nat.reduceSub, Nat.reduceGT, Nat.reduceEqDiff, Nat.reduceMul, ring, rows, w64]
    refine hN _ ?_
    try clear hN
    try clear N
    refine AW.ret ?_
    simp (dsimp := false) (implicitDefEqProofs := false) (disch := omega) only [go_sem, Nat.reduceAdd, Nat.reduceSub, Nat.reduceGT, Nat.reduceEqDiff, Nat.reduceMul]
    rw [tf_f (fun h => h1 h.1)]
    exact resRR_nl

theorem impl_SubringOf_ok (p : Int) (pw : List (List Int)) (br : List (List (List Int))) (hl : ringlen pw br) (G : List (List Int)) (hG : rowslen G) : ACo Try.prog 27 [ring p pw br, rows G] (resRR (orRR (tf (AllEl p pw br G)) (closR p pw br [] G, 0))) := by
  have hGn := hG.n
  have hln := hl.n
  intro nx
  refine AC.intro' envOk Try.func27 rfl (by kernel_rfl) Try.ntmps27 Try.results27 ?_
  refine AW.seq (fun N hN => ?_)
  refine AW.regionL envOk ?_
  simp (dsimp := false) (implicitDefEqProofs := false) (disch := omega) only [go_sem, Nat.reduceAdd, Nat.reduceSub, Nat.reduceGT, Nat.reduceEqDiff, Nat.reduceMul, ring]
  refine hN _ ?_
  try clear hN
  try clear N
  refine AW.freezeQ 2 nx _ rfl (upd_same _ _ _) ?_
  simp (dsimp := false) (implicitDefEqProofs := false) (disch := omega) only [go_sem, Nat.reduceAdd, Nat.reduceSub, Nat.reduceGT, Nat.reduceEqDiff, Nat.reduceMul]
  refine AW.seq (fun N1 hN1 => ?_)
  refine AW.seq (fun N hN => ?_)
  refine AW.regionL envOk ?_
  simp (dsimp := false) (implicitDefEqProofs := false) (disch := omega) only [go_sem, Nat.reduceAdd, Nat.reduceSub, Nat.reduceGT, Nat.reduceEqDiff, Nat.reduceMul, ring]
  refine AC.pure (.of (impl_lieElements_ok p pw br hl G hG)) ?_
  try simp (dsimp := false) (implicitDefEqProofs := false) (disch := omega) only [go_sem, Nat.reduceAdd, Nat.reduceSub, Nat.reduceGT, Nat.reduceEqDiff, Nat.reduceMul, ring]
  refine hN _ ?_
  try clear hN
  try clear N
  refine AW.cond rfl (fun h1 => ?_) (fun h1 => ?_)
  · try simp only [decide_eq_true_eq, decide_eq_false_iff_not, bne_iff_ne, bne_eq_false_iff_eq, beq_iff_eq, beq_eq_false_iff_ne, Bool.not_eq_true', Bool.not_eq_false', Bool.not_eq_true, Bool.not_false, Bool.not_true, ge_iff_le, gt_iff_lt, ne_eq, Int.not_lt, Int.not_le, tf_iff, tf_iff'] at h1
    refine AW.seq (fun N hN => ?_)
    refine AW.regionL envOk ?_
    simp (dsimp := false) (implicitDefEqProofs := false) (disch := omega) only [go_sem, Nat.reduceAdd, Nat.reduceSub, Nat.reduceGT, Nat.reduceEqDiff, Nat.reduceMul, ring]
    refine hN _ ?_
    try clear hN
    try clear N
    refine AW.ret ?_
    simp (dsimp := false) (implicitDefEqProofs := false) (disch := omega) only [go_sem, Nat.reduceAdd, Nat.reduceSub, Nat.reduceGT, Nat.reduceEqDiff, Nat.reduceMul]
    rw [tf_f h1]
    exact Own.nilRR
  · try simp only [decide_eq_true_eq, decide_eq_false_iff_not, bne_iff_ne, bne_eq_false_iff_eq, beq_iff_eq, beq_eq_false_iff_ne, Bool.not_eq_true', Bool.not_eq_false', Bool.not_eq_true, Bool.not_false, Bool.not_true, ge_iff_le, gt_iff_lt, ne_eq, Int.not_lt, Int.not_le, tf_iff, tf_iff'] at h1
    have ht := h1.1.1.tri
    have h6 := ht.n6
    refine AW.skip ?_
    simp only [thn, blk]
    refine hN1 _ ?_
    try clear hN1
    try clear N1
    refine AW.seq (fun N hN => ?_)
    refine AW.regionL envOk ?_
    simp (dsimp := false) (implicitDefEqProofs := false) (disch := omega) only [go_sem, Nat.reduceAdd, Nat.reduceSub, Nat.reduceGT, Nat.reduceEqDiff, Nat.reduceMul, ring]
    refine AC.own (impl_lieClosure_ok p pw br h1.1.1.sh ht h1.1.1.1 G [] _ (by omega) (allEl.mem h1.2) (by simp) (by simp) (closR_ok (Y := []) h1).1) (.cons (.refl _) (.cons (.refl _) (.cons .nl .nil))) ?_
    intro m1 H3 r3 ids hm1 hH1 hown1
    try simp (dsimp := false) (implicitDefEqProofs := false) (disch := omega) only [go_sem, Nat.reduceAdd, Nat.reduceSub, Nat.reduceGT, Nat.reduceEqDiff, Nat.reduceMul, ring]
    refine hN _ ?_
    try clear hN
    try clear N
    refine AW.ret ?_
    simp (dsimp := false) (implicitDefEqProofs := false) (disch := omega) only [go_sem, Nat.reduceAdd, Nat.reduceSub, Nat.reduceGT, Nat.reduceEqDiff, Nat.reduceMul]
    rw [tf_t h1]
    exact (hown1.keep (fun _ _ _ => rfl) (by omega) (by omega)).pair

theorem spec_IdealOf_ok (p : Int) (pw : List (List Int)) (br : List (List (List Int))) (hl : ringlen pw br) (G : List (List Int)) (hG : rowslen G) : ACp Try.prog 28 [ring p pw br, rows G] (resRR (orRR (tf (AllEl p pw br G)) (closR p pw br (wholeL pw.length) G, 0))) := by
  have hln := hl.n
  have hGn := hG.n
  refine ACp.introR envOk Try.func28 rfl (by kernel_rfl) Try.ntmps28 Try.results28 (resRR_nr _) (fun nx => ?_)
  refine AW.seq (fun N hN => ?_)
  refine AW.regionL envOk ?_
  simp (dsimp := false) (implicitDefEqProofs := false) (disch := omega) only [go_sem, Nat.reduceAdd, Nat.reduceSub, Nat.reduceGT, Nat.reduceEqDiff, Nat.reduceMul, ring, rows, w64]
  refine hN _ ?_
  try clear hN
  try clear N
  refine AW.seq (fun N1 hN1 => ?_)
  refine AW.seq (fun N hN => ?_)
  refine AW.regionL envOk ?_
  simp (dsimp := false) (implicitDefEqProofs := false) (disch := omega) only [go_sem, Nat.reduceAdd, Nat.reduceSub, Nat.reduceGT, Nat.reduceEqDiff, Nat.reduceMul, ring, rows, w64]
  refine AC.pure (.of (spec_IsLieRing_ok p pw br hl)) ?_
  try simp (dsimp := false) (implicitDefEqProofs := false) (disch := omega) only [go_sem, Nat.reduceAdd, Nat.reduceSub, Nat.reduceGT, Nat.reduceEqDiff, Nat.reduceMul, ring, rows, w64]
  refine gopB.mk' (fun h1 => ?_) (fun h1 => ?_)
  · try simp only [decide_eq_true_eq, decide_eq_false_iff_not, bne_iff_ne, bne_eq_false_iff_eq, beq_iff_eq, beq_eq_false_iff_ne, Bool.not_eq_true', Bool.not_eq_false', Bool.not_eq_true, Bool.not_false, Bool.not_true, ge_iff_le, gt_iff_lt, ne_eq, Int.not_lt, Int.not_le, tf_iff, tf_iff'] at h1
    have hpb := h1.1.pb
    try simp (dsimp := false) (implicitDefEqProofs := false) (disch := omega) only [go_sem, Nat.reduceAdd, Nat.reduceSub, Nat.reduceGT, Nat.reduceEqDiff, Nat.reduceMul, ring, rows, w64]
    refine AC.pure (.of (spec_l32Elements_ok p pw br hpb (by omega) G hG)) ?_
    try simp (dsimp := false) (implicitDefEqProofs := false) (disch := omega) only [go_sem, Nat.reduceAdd, Nat.reduceSub, Nat.reduceGT, Nat.reduceEqDiff, Nat.reduceMul, ring, rows, w64]
    refine hN _ ?_
    try clear hN
    try clear N
    refine AW.cond rfl (fun h2 => ?_) (fun h2 => ?_)
    · try simp only [decide_eq_true_eq, decide_eq_false_iff_not, bne_iff_ne, bne_eq_false_iff_eq, beq_iff_eq, beq_eq_false_iff_ne, Bool.not_eq_true', Bool.not_eq_false', Bool.not_eq_true, Bool.not_false, Bool.not_true, ge_iff_le, gt_iff_lt, ne_eq, Int.not_lt, Int.not_le, tf_iff, tf_iff'] at h2
      refine AW.seq (fun N hN => ?_)
      refine AW.regionL envOk ?_
      simp (dsimp := false) (implicitDefEqProofs := false) (disch := omega) only [go_sem, Nat.reduceAdd, Nat.reduceSub, Nat.reduceGT, Nat.reduceEqDiff, Nat.reduceMul, ring, rows, w64]
      refine hN _ ?_
      try clear hN
      try clear N
      refine AW.ret ?_
      simp (dsimp := false) (implicitDefEqProofs := false) (disch := omega) only [go_sem, Nat.reduceAdd, Nat.reduceSub, Nat.reduceGT, Nat.reduceEqDiff, Nat.reduceMul]
      rw [tf_f (fun h => h2 h.2)]
      exact resRR_nl
    · try simp only [decide_eq_true_eq, decide_eq_false_iff_not, bne_iff_ne, bne_eq_false_iff_eq, beq_iff_eq, beq_eq_false_iff_ne, Bool.not_eq_true', Bool.not_eq_false', Bool.not_eq_true, Bool.not_false, Bool.not_true, ge_iff_le, gt_iff_lt, ne_eq, Int.not_lt, Int.not_le, tf_iff, tf_iff'] at h2
      refine AW.skip ?_
      simp only [thn, blk]
      refine hN1 _ ?_
      try clear hN1
      try clear N1
      refine AW.seq (fun N hN => ?_)
      refine AW.regionL envOk ?_
      simp (dsimp := false) (implicitDefEqProofs := false) (disch := omega) only [go_sem, Nat.reduceAdd, Nat.reduceSub, Nat.reduceGT, Nat.reduceEqDiff, Nat.reduceMul, ring, rows, w64]
      refine AC.pure (.of (spec_l32Ideal_ok p pw br h1.1.sh h1.1.tri h1.1.1 G _ (by omega) (allEl.mem h2) (closR_ok (Y := (wholeL pw.length)) (show AllEl p pw br G from ⟨h1, h2⟩)).1)) ?_
      try simp (dsimp := false) (implicitDefEqProofs := false) (disch := omega) only [go_sem, Nat.reduceAdd, Nat.reduceSub, Nat.reduceGT, Nat.reduceEqDiff, Nat.reduceMul, ring, rows, w64]
      refine hN _ ?_
      try clear hN
      try clear N
      refine AW.ret ?_
      simp (dsimp := false) (implicitDefEqProofs := false) (disch := omega) only [go_sem, Nat.reduceAdd, Nat.reduceSub, Nat.reduceGT, Nat.reduceEqDiff, Nat.reduceMul]
      rw [tf_t (show AllEl p pw br G from ⟨h1, h2⟩)]
      exact .refl _
  · try simp only [decide_eq_true_eq, decide_eq_false_iff_not, bne_iff_ne, bne_eq_false_iff_eq, beq_iff_eq, beq_eq_false_iff_ne, Bool.not_eq_true', Bool.not_eq_false', Bool.not_eq_true, Bool.not_false, Bool.not_true, ge_iff_le, gt_iff_lt, ne_eq, Int.not_lt, Int.not_le, tf_iff, tf_iff'] at h1
    try simp (dsimp := false) (implicitDefEqProofs := false) (disch := omega) only [go_sem, Nat.reduceAdd, Nat.reduceSub, Nat.reduceGT, Nat.reduceEqDiff, Nat.reduceMul, ring, rows, w64]
    refine hN _ ?_
    try clear hN
    try clear N
    refine AW.condT rfl ?_
    refine AW.seq (fun N hN => ?_)
    refine AW.regionL envOk ?_
    simp (dsimp := false) (implicitDefEqProofs := false) (disch := omega) only [go_sem, Nat.reduceAdd, Nat.reduceSub, Nat.reduceGT, Nat.reduceEqDiff, Nat.reduceMul, ring, rows, w64]
    refine hN _ ?_
    try clear hN
    try clear N
    refine AW.ret ?_
    simp (dsimp := false) (implicitDefEqProofs := false) (disch := omega) only [go_sem, Nat.reduceAdd, Nat.reduceSub, Nat.reduceGT, Nat.reduceEqDiff, Nat.reduceMul]
    rw [tf_f (fun h => h1 h.1)]
    exact resRR_nl

theorem impl_IdealOf_ok (p : Int) (pw : List (List Int)) (br : List (List (List Int))) (hl : ringlen pw br) (G : List (List Int)) (hG : rowslen G) : ACo Try.prog 29 [ring p pw br, rows G] (resRR (orRR (tf (AllEl p pw br G)) (closR p pw br (wholeL pw.length) G, 0))) := by
  have hGn := hG.n
  have hln := hl.n
  intro nx
  refine AC.intro' envOk Try.func29 rfl (by kernel_rfl) Try.ntmps29 Try.results29 ?_
  refine AW.seq (fun N hN => ?_)
  refine AW.regionL envOk ?_
  simp (dsimp := false) (implicitDefEqProofs := false) (disch := omega) only [go_sem, Nat.reduceAdd, Nat.reduceSub, Nat.reduceGT, Nat.reduceEqDiff, Nat.reduceMul, ring]
  refine hN _ ?_
  try clear hN
  try clear N
  refine AW.freezeQ 2 nx _ rfl (upd_same _ _ _) ?_
  simp (dsimp := false) (implicitDefEqProofs := false) (disch := omega) only [go_sem, Nat.reduceAdd, Nat.reduceSub, Nat.reduceGT, Nat.reduceEqDiff, Nat.reduceMul]
  refine AW.seq (fun N1 hN1 => ?_)
  refine AW.seq (fun N hN => ?_)
  refine AW.regionL envOk ?_
  simp (dsimp := false) (implicitDefEqProofs := false) (disch := omega) only [go_sem, Nat.reduceAdd, Nat.reduceSub, Nat.reduceGT, Nat.reduceEqDiff, Nat.reduceMul, ring]
  refine AC.pure (.of (impl_lieElements_ok p pw br hl G hG)) ?_
  try simp (dsimp := false) (implicitDefEqProofs := false) (disch := omega) only [go_sem, Nat.reduceAdd, Nat.reduceSub, Nat.reduceGT, Nat.reduceEqDiff, Nat.reduceMul, ring]
  refine hN _ ?_
  try clear hN
  try clear N
  refine AW.cond rfl (fun h1 => ?_) (fun h1 => ?_)
  · try simp only [decide_eq_true_eq, decide_eq_false_iff_not, bne_iff_ne, bne_eq_false_iff_eq, beq_iff_eq, beq_eq_false_iff_ne, Bool.not_eq_true', Bool.not_eq_false', Bool.not_eq_true, Bool.not_false, Bool.not_true, ge_iff_le, gt_iff_lt, ne_eq, Int.not_lt, Int.not_le, tf_iff, tf_iff'] at h1
    refine AW.seq (fun N hN => ?_)
    refine AW.regionL envOk ?_
    simp (dsimp := false) (implicitDefEqProofs := false) (disch := omega) only [go_sem, Nat.reduceAdd, Nat.reduceSub, Nat.reduceGT, Nat.reduceEqDiff, Nat.reduceMul, ring]
    refine hN _ ?_
    try clear hN
    try clear N
    refine AW.ret ?_
    simp (dsimp := false) (implicitDefEqProofs := false) (disch := omega) only [go_sem, Nat.reduceAdd, Nat.reduceSub, Nat.reduceGT, Nat.reduceEqDiff, Nat.reduceMul]
    rw [tf_f h1]
    exact Own.nilRR
  · try simp only [decide_eq_true_eq, decide_eq_false_iff_not, bne_iff_ne, bne_eq_false_iff_eq, beq_iff_eq, beq_eq_false_iff_ne, Bool.not_eq_true', Bool.not_eq_false', Bool.not_eq_true, Bool.not_false, Bool.not_true, ge_iff_le, gt_iff_lt, ne_eq, Int.not_lt, Int.not_le, tf_iff, tf_iff'] at h1
    have ht := h1.1.1.tri
    have h6 := ht.n6
    refine AW.skip ?_
    simp only [thn, blk]
    refine hN1 _ ?_
    try clear hN1
    try clear N1
    refine AW.seq (fun N hN => ?_)
    refine AW.regionL envOk ?_
    simp (dsimp := false) (implicitDefEqProofs := false) (disch := omega) only [go_sem, Nat.reduceAdd, Nat.reduceSub, Nat.reduceGT, Nat.reduceEqDiff, Nat.reduceMul, ring]
    refine AC.pure (.of (impl_wholeLie_ok p pw br (by omega))) ?_
    try simp (dsimp := false) (implicitDefEqProofs := false) (disch := omega) only [go_sem, Nat.reduceAdd, Nat.reduceSub, Nat.reduceGT, Nat.reduceEqDiff, Nat.reduceMul, ring]
    refine AC.own (impl_lieClosure_ok p pw br h1.1.1.sh ht h1.1.1.1 G (wholeL pw.length) _ (by omega) (allEl.mem h1.2) (by rw [whole_len]; omega) (whole_el ht.p2) (closR_ok (Y := wholeL pw.length) h1).1) (.cons (.refl _) (.cons (.refl _) (.cons (.refl _) .nil))) ?_
    intro m1 H3 r3 ids hm1 hH1 hown1
    try simp (dsimp := false) (implicitDefEqProofs := false) (disch := omega) only [go_sem, Nat.reduceAdd, Nat.reduceSub, Nat.reduceGT, Nat.reduceEqDiff, Nat.reduceMul, ring]
    refine hN _ ?_
    try clear hN
    try clear N
    refine AW.ret ?_
    simp (dsimp := false) (implicitDefEqProofs := false) (disch := omega) only [go_sem, Nat.reduceAdd, Nat.reduceSub, Nat.reduceGT, Nat.reduceEqDiff, Nat.reduceMul]
    rw [tf_t h1]
    exact (hown1.keep (fun _ _ _ => rfl) (by omega) (by omega)).pair

end Go.Proofs.Ytgeoogndonghmaa
