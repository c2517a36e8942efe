/-
  The ring with zero relations, by the program.
-/
import Derived.Test.YtbhlindlcfeppaaTy
set_option linter.unusedVariables false
set_option linter.unusedSimpArgs false
namespace Go.Proofs.Ytbhlindlcfeppaa
open Nat (reduceAdd reduceSub reduceGT reduceEqDiff reduceMul)

def zrow (n : Nat) : List Int := List.replicate n 0
def zP (n : Nat) : List (List Int) := List.replicate n (zrow n)
def zB (n : Nat) : List (List (List Int)) := (List.range n).map fun i => List.replicate (n - 1 - i) (zrow n)
theorem zB_len {n : Nat} : (zB n).length = n := by simp [zB]
theorem zB_get {n i : Nat} (h : i < n) : (zB n).getD i [] = List.replicate (n - 1 - i) (zrow n) := by simp [zB, h]
theorem zB_take {n i : Nat} (h : i < n) : (zB n).take (i + 1) = (zB n).take i ++ [List.replicate (n - 1 - i) (zrow n)] := by
  rw [List.take_add_one]
  have : (zB n)[i]? = some (List.replicate (n - 1 - i) (zrow n)) := by simp [zB, h]
  rw [this]; rfl
theorem zr_ints {n : Nat} : List.replicate n (AV.i .i64 0) = (zrow n).map (AV.i .i64) := by simp [zrow]
theorem zrow_len {n : Nat} : (zrow n).length = n := by simp [zrow]
theorem one_h (a b c : Nat) : (∀ z ∈ [AV.h a b c], one z = true) = True := one_list rfl
theorem zown {a m id n : Nat} {H : HP} (h : H id = some (List.replicate n (AV.i .i64 0))) (h1 : a ≤ id) (h2 : id < m) : Own a m H (.h id 0 n) (ints (zrow n)) [id] := Own.ints (h.trans (by rw [zr_ints])) zrow_len.symm h1 h2

/-- The state between two rounds. -/
structure ZrI (nx m n : Nat) (p : Int) (k : Nat) (o1 o2 : Option Nat) (rs bs : List AV) (G : HP) : Prop where
  hi : k ≤ n
  hm : nx + 4 ≤ m
  b4 : G nx = some [.i .i64 0, .nl, .nl]
  b5 : G (nx + 3) = some [.i .i64 p, oA o1 k, oA o2 k]
  z : ZrO (nx + 4) m G o1 o2 rs bs ((List.replicate k (zrow n)).map ints) (((zB n).take k).map rows)
theorem ZrI.lens {nx m n : Nat} {p : Int} {k : Nat} {o1 o2 : Option Nat} {rs bs : List AV} {G : HP} (h : ZrI nx m n p k o1 o2 rs bs G) : rs.length = k ∧ bs.length = k := by
  obtain ⟨⟨is, js, g1, g2, _⟩, _⟩ := h.z
  have l1 := g1.len
  have l2 := g2.len
  have := h.hi
  simp only [List.length_map, List.length_replicate, List.length_take, zB_len] at l1 l2
  omega
/-- The inner list under construction, over what stood before. -/
structure MdI (m0 q n k : Nat) (o : Option Nat) (ls : List AV) (G1 G : HP) : Prop where
  le : m0 ≤ q
  keep : ∀ j, j < m0 → G j = G1 j
  no : o = none → k = 0 ∧ ls = []
  so : ∀ id, o = some id → OutG m0 q id ls G ((List.replicate k (zrow n)).map ints)
theorem MdI.start {m0 q n : Nat} {G1 : HP} (h : m0 ≤ q) : MdI m0 q n 0 none [] G1 G1 := ⟨h, fun _ _ => rfl, fun _ => ⟨rfl, rfl⟩, by simp⟩
theorem MdI.len {m0 q n k id : Nat} {ls : List AV} {G1 G : HP} (h : MdI m0 q n k (some id) ls G1 G) : G id = some ls ∧ ls.length = k ∧ m0 ≤ id ∧ id < q := by
  have h1 := h.so id rfl
  have := h1.len
  simp only [List.length_map, List.length_replicate] at this
  exact ⟨h1.at', this.symm, h1.lo, h1.hi⟩
theorem MdI.next_n {m0 q q2 n z id2 : Nat} {ls : List AV} {G1 G H2 : HP} (h : MdI m0 q n 0 none ls G1 G) (hk : ∀ j, j < q → H2 j = G j) (hz : H2 z = some (List.replicate n (.i .i64 0))) (hc : H2 id2 = some [.h z 0 n]) (h1 : q ≤ z) (h2 : z < id2) (h3 : id2 < q2) : MdI m0 q2 n 1 (some id2) [.h z 0 n] G1 H2 := by
  have hle := h.le
  refine ⟨by omega, fun j hj => (hk j (by omega)).trans (h.keep j hj), by simp, ?_⟩
  rintro id hid
  cases hid
  have ho := zown (a := m0) (m := z + 1) hz (by omega) (by omega)
  exact OutG.one ho (fun _ _ _ => rfl) hc (by omega) h3 (by omega)
theorem MdI.next_s {m0 q q2 n k id z id2 : Nat} {ls : List AV} {G1 G H2 : HP} (h : MdI m0 q n k (some id) ls G1 G) (hk : ∀ j, j < q → j ≠ id → H2 j = G j) (hz : H2 z = some (List.replicate n (.i .i64 0))) (hc : H2 id2 = some (ls ++ [.h z 0 n])) (h1 : q ≤ z) (h2 : z < id2) (h3 : id2 < q2) : MdI m0 q2 n (k + 1) (some id2) (ls ++ [.h z 0 n]) G1 H2 := by
  have hle := h.le
  have hO := h.so id rfl
  refine ⟨by omega, fun j hj => (hk j (by omega) (fun e => by have := hO.lo; omega)).trans (h.keep j hj), by simp, ?_⟩
  rintro id' hid
  cases hid
  have ho := zown (a := q) (m := z + 1) hz (by omega) (by omega)
  have := hO.push (m2 := q2) ho hk (fun _ _ _ => rfl) hc (by omega) (by omega) h3
  rw [List.replicate_succ', List.map_append]
  exact this
theorem MdI.next {m0 q q2 n k z id2 : Nat} {o : Option Nat} {ls : List AV} {G1 G H2 : HP} (h : MdI m0 q n k o ls G1 G) (hk : ∀ j, j < q → o ≠ some j → H2 j = G j) (hz : H2 z = some (List.replicate n (.i .i64 0))) (hc : H2 id2 = some (ls ++ [.h z 0 n])) (h1 : q ≤ z) (h2 : z < id2) (h3 : id2 < q2) : MdI m0 q2 n (k + 1) (some id2) (ls ++ [.h z 0 n]) G1 H2 := by
  cases o with
  | none =>
    obtain ⟨rfl, rfl⟩ := h.no rfl
    exact h.next_n (fun j hj => hk j hj (by simp)) hz hc h1 h2 h3
  | some id => exact h.next_s (fun j hj hne => hk j hj (fun e => hne (by cases e; rfl))) hz hc h1 h2 h3
theorem MdI.own {m0 q n k : Nat} {o : Option Nat} {ls : List AV} {G1 G : HP} (h : MdI m0 q n k o ls G1 G) : ∃ ids, Own m0 q G (oA o k) (rows (List.replicate k (zrow n))) ids := by
  cases o with
  | none =>
    obtain ⟨rfl, rfl⟩ := h.no rfl
    exact ⟨[], .nl, by simp, by simp⟩
  | some id =>
    have hl := h.len
    obtain ⟨ids, h1⟩ := (h.so id rfl).own (n := k) hl.2.1.symm
    refine ⟨ids, ?_⟩
    simp only [List.length_map, List.length_replicate] at h1
    unfold rows
    rw [List.length_replicate]
    exact h1
theorem one_nl : (∀ z ∈ [AV.nl], one z = true) = True := one_list rfl
/-- One round. -/
theorem ZrI.next {nx m m0 q q2 n k z idA idB : Nat} {p : Int} {o1 o2 o : Option Nat} {rs bs ls : List AV} {G G1 G' G2 : HP} (h : ZrI nx m n p k o1 o2 rs bs G) (hkn : k < n)
    (hG1 : ∀ i, i < m → i ≠ nx + 3 → o1 ≠ some i → G1 i = G i) (hz : G1 z = some (List.replicate n (.i .i64 0))) (hA : G1 idA = some (rs ++ [.h z 0 n])) (hz1 : m ≤ z) (hz2 : z < idA) (hA2 : idA < m0)
    (hM : MdI m0 q n (n - 1 - k) o ls G1 G') (hG2 : ∀ i, i < q → i ≠ nx + 3 → o2 ≠ some i → G2 i = G' i) (hB : G2 idB = some (bs ++ [oA o (n - 1 - k)])) (hB1 : q ≤ idB) (hB2 : idB < q2) (h5 : G2 (nx + 3) = some [.i .i64 p, .h idA 0 (k + 1), .h idB 0 (k + 1)]) :
    ZrI nx q2 n p (k + 1) (some idA) (some idB) (rs ++ [.h z 0 n]) (bs ++ [oA o (n - 1 - k)]) G2 := by
  obtain ⟨hi, hm, b4, b5, hZ⟩ := h
  have hle := hM.le
  have hn1 : o1 ≠ some nx := fun e => by have := hZ.h1 nx e; omega
  have hn2 : o2 ≠ some nx := fun e => by have := hZ.h2 nx e; omega
  refine ⟨by omega, by omega, ?_, h5, ?_⟩
  · rw [hG2 nx (by omega) (by omega) hn2, hM.keep nx (by omega), hG1 nx (by omega) (by omega) hn1]; exact b4
  · have ho := zown (a := m) (m := z + 1) hz (by omega) (by omega)
    have hZ1 := (hZ.swap.push (m2 := m0) ho (fun i h1 h2 h3 => hG1 i h2 (by omega) h3) hA (by omega) (by omega) hA2 (by omega)).swap
    obtain ⟨ids, hown⟩ := hM.own
    have ho2 : ∀ id, o2 = some id → id < m0 := fun id e => by have := hZ1.h2 id e; omega
    have hown2 := hown.keep (H' := G2) (fun i h1 h2 => hG2 i h2 (by omega) (fun e => by have := ho2 i e; omega)) (Nat.le_refl _) (Nat.le_refl _)
    have hZ2 := hZ1.push (m2 := q2) hown2 (fun i h1 h2 h3 => (hG2 i (by omega) (by omega) h3).trans (hM.keep i h2)) hB (by omega) (by omega) hB2 (by omega)
    rw [List.replicate_succ', List.map_append, zB_take hkn, List.map_append]
    exact hZ2

theorem ZrI.fin {nx m m' n : Nat} {p : Int} {o1 o2 : Option Nat} {rs bs : List AV} {G : HP} {P B : AV} {c : Option (List AV)} (h : ZrI nx m n p n o1 o2 rs bs G) (hP : P = oA o1 n) (hB : B = oA o2 n) (n1 : o1 = none → n = 0) (n2 : o2 = none → n = 0) (hm : m ≤ m') : ∃ ids, Own nx m' (upd G nx c) (.g [.i .i64 p, P, B]) (ring p (zP n) (zB n)) ids := by
  have hz := h.z
  rw [show (zB n).take n = zB n from List.take_of_length_le (by rw [zB_len]; omega)] at hz
  obtain ⟨ids, h1⟩ := (hz.keep (H' := upd G nx c) (fun j q1 q2 => upd_ne _ _ (by omega)) (Nat.le_refl _)).fin (p := p) (P := P) (B := B) (by rw [hP, List.length_replicate]) (by rw [hB, zB_len]) (fun e => by rw [n1 e]; rfl) (fun e => by rw [n2 e]; rfl)
  exact ⟨ids, h1.keep (fun _ _ _ => rfl) (by omega) hm⟩
theorem AW.nameH {P : Program} {c : Code} {s : St} {K : Exit → St → Prop} (h : ∀ G, s.H = G → AW P c ⟨s.t, G, s.nx⟩ K) : AW P c s K := h _ rfl

set_option maxHeartbeats 4000000 in
theorem impl_zeroRing_ok (p : Int) (n : Nat) (hn : n ≤ 6) : ACo Try.prog 98 [.i .i64 p, .i .i64 n] (ring p (zP n) (zB n)) := by
 intro nx
 refine AC.intro' envOk Try.func98 rfl (by kernel_rfl) Try.ntmps98 Try.results98 ?_
 refine AW.sr envOk (fun N hN => ?_)
 simp -dsimp -implicitDefEqProofs (disch := omega) only [go_sem, reduceAdd, reduceSub, reduceGT, reduceEqDiff, reduceMul, w64, one_h, one_nl]
 refine hN _ ?_
 try clear hN N
 refine AW.sr envOk (fun N hN => ?_)
 simp -dsimp -implicitDefEqProofs (disch := omega) only [go_sem, reduceAdd, reduceSub, reduceGT, reduceEqDiff, reduceMul, w64, one_h, one_nl]
 refine hN _ ?_
 try clear hN N
 refine AW.seq (fun N1 hN1 => ?_)
 refine AW.sr envOk (fun N hN => ?_)
 simp -dsimp -implicitDefEqProofs (disch := omega) only [go_sem, reduceAdd, reduceSub, reduceGT, reduceEqDiff, reduceMul, w64, one_h, one_nl]
 refine hN _ ?_
 try clear hN N
 refine AW.block ?_
 refine AW.loopN (α := Nat × Option (Nat × Nat) × List AV × List AV × HP) (fun x => sl 41 [(1, .i .i64 n), (4, .q nx 0), (5, .q (nx + 3) 0), (10, .i .i64 n), (11, .i .i64 x.1)]) (fun x => x.2.2.2.2) (fun x m => ZrI nx m n p x.1 (x.2.1.map Prod.fst) (x.2.1.map Prod.snd) x.2.2.1 x.2.2.2.1 x.2.2.2.2 ∧ (x.2.1 = none → x.1 = 0)) (fun x => n - x.1) ((0, none, [], [], upd (upd noH nx (some [.i .i64 0, .nl, .nl])) (nx + 3) (some [.i .i64 p, .nl, .nl]))) ?_ ?_ (fun _ _ h => h) ?_
 ·exact ⟨⟨by simp, by first| omega| (simp only; omega)| (dsimp only; omega), (upd_ne _ _ (by omega)).trans (upd_same _ _ _), upd_same _ _ _, ZrO.start⟩, fun _ => rfl⟩
 ·simp (disch := omega) [wks, wkA, sl, w64, ints, rows, cubes, w64, one_h, one_nl] <;> omega
 ·skip
  rintro ⟨i, (_ | ⟨A, B⟩), rs, bs, G⟩ m1 ⟨hI, hz⟩
  ·skip
   simp -dsimp -implicitDefEqProofs (disch := omega) only [go_sem, reduceAdd, reduceSub, reduceGT, reduceEqDiff, reduceMul]
   have hi0 : i = 0 := hz rfl
   dsimp only [Option.map] at hI ⊢
   obtain ⟨o1, ho1⟩ : ∃ o1, o1 = (none : Option Nat) := ⟨_, rfl⟩
   obtain ⟨o2, ho2⟩ : ∃ o2, o2 = (none : Option Nat) := ⟨_, rfl⟩
   have hb5 := hI.b5
   have hI2 : ZrI nx m1 n p i o1 o2 rs bs G := by rw [ho1, ho2]; exact hI
   obtain ⟨hl1, hl2⟩ := hI.lens
   have hrs : rs = [] := List.length_eq_zero_iff.1 (by omega)
   have hbs : bs = [] := List.length_eq_zero_iff.1 (by omega)
   have hm := hI.hm
   have hi := hI.hi
   have hb4 := hI.b4
   dsimp only [oA] at hb5
   have hA : (0 : Nat) = 0 := rfl
   have hB : (0 : Nat) = 0 := rfl
   refine AW.sr envOk (fun N hN => ?_)
   simp -dsimp -implicitDefEqProofs (disch := omega) only [go_sem, reduceAdd, reduceSub, reduceGT, reduceEqDiff, reduceMul, w64, one_h, one_nl]
   refine hN _ ?_
   try clear hN N
   refine AW.seq (fun N2 hN2 => ?_)
   refine AW.cond rfl (fun h1 => ?_) (fun h1 => ?_)
   ·try simp only [cn] at h1
    refine AW.skip ?_
    simp only [thn, blk]
    refine hN2 _ ?_
    try clear hN2 N2
    refine AW.seq (fun N3 hN3 => ?_)
    refine AW.block ?_
    refine AW.sr envOk (fun N hN => ?_)
    simp -dsimp -implicitDefEqProofs (disch := omega) only [go_sem, reduceAdd, reduceSub, reduceGT, reduceEqDiff, reduceMul, w64, one_h, one_nl]
    refine hN _ ?_
    try clear hN N
    refine AW.seq (fun N hN => ?_)
    refine AW.drawL2 envOk (by kernel_rfl) 7 5 (by kernel_rfl) _ _ rfl ?_
    simp -dsimp -implicitDefEqProofs (disch := omega) only [hr_nil, hr_one, hr_if, List.take_succ_cons, List.take_zero, List.drop_succ_cons, List.drop_zero, List.take_nil, List.drop_nil, go_sem, reduceAdd, reduceSub, reduceGT, reduceEqDiff, reduceMul, w64, one_h, one_nl, hb5, hA, hl1]
    refine hN _ ?_
    try clear hN N
    refine AW.sr envOk (fun N hN => ?_)
    simp -dsimp -implicitDefEqProofs (disch := omega) only [go_sem, reduceAdd, reduceSub, reduceGT, reduceEqDiff, reduceMul, w64, one_h, one_nl]
    refine hN _ ?_
    try clear hN N
    refine AW.seq (fun N4 hN4 => ?_)
    refine AW.nameH (fun G1 hG1 => ?_)
    dsimp only at hG1
    have hz1 : G1 (m1 + 1 + 2 + 3) = some (List.replicate n (.i .i64 0)) := by rw [← hG1]; simp (disch := omega) only [upd_same, upd_ne]
    have hA1' : G1 (m1 + 1 + 2 + 5) = some (rs ++ [.h (m1 + 1 + 2 + 3) 0 n]) := by
     rw [← hG1]; simp (disch := omega) only [upd_same, upd_ne]
     first| (rw [hrs]; rfl)| rw [List.take_of_length_le (by omega)]
    have hk1 : ∀ j, j < m1 → j ≠ nx + 3 → o1 ≠ some j → G1 j = G j := by
     intro j q1 q2 q3
     rw [← hG1]
     first| (simp (disch := omega) only [upd_ne]; done)| (have q4 : j ≠ A := fun e => q3 (by rw [ho1, e]); simp (disch := omega) only [upd_ne])
    have h51 : G1 (nx + 3) = some [.i .i64 p, .h (m1 + 1 + 2 + 5) 0 (i + 1), oA o2 i] := by
     rw [← hG1, upd_same, ho2]
     first| rfl| (rw [hi0]; rfl)
    have h41 : ∀ id, o2 = some id → G1 id = some bs ∧ id < m1 := fun id e => by
     have q := hI2.z.h2 id e
     exact ⟨(hk1 id q.2.2 (by omega) (fun e2 => hI2.z.ne id id e2 e rfl)).trans q.1, q.2.2⟩
    simp -dsimp -implicitDefEqProofs (disch := omega) only [go_sem, reduceAdd, reduceSub, reduceGT, reduceEqDiff, reduceMul]
    refine AW.sr envOk (fun N hN => ?_)
    simp -dsimp -implicitDefEqProofs (disch := omega) only [go_sem, reduceAdd, reduceSub, reduceGT, reduceEqDiff, reduceMul, w64, one_h, one_nl]
    refine hN _ ?_
    try clear hN N
    refine AW.block ?_
    refine AW.loopN (α := Nat × Option Nat × List AV × HP) (fun x => sl 41 [(1, .i .i64 n), (4, .q nx 0), (5, .q (nx + 3) 0), (7, oA x.2.1 x.1), (10, .i .i64 n), (11, .i .i64 i), (24, .i .i64 ((n : Int) - 1 - i)), (25, .i .i64 x.1)]) (fun x => x.2.2.2) (fun x m => x.1 ≤ n - 1 - i ∧ MdI (m1 + 17) m n x.1 x.2.1 x.2.2.1 G1 x.2.2.2) (fun x => n - x.1) ((0, none, [], G1)) ?_ ?_ (fun _ _ h => h) ?_
    ·exact ⟨by simp, .start (by first| omega| (simp only; omega)| (dsimp only; omega))⟩
    ·simp (disch := omega) [wks, wkA, sl, oA]
    ·skip
     rintro ⟨k, (_ | id), ls, G'⟩ m2 ⟨hk, hM⟩
     ·skip
      simp -dsimp -implicitDefEqProofs (disch := omega) only [go_sem, reduceAdd, reduceSub, reduceGT, reduceEqDiff, reduceMul]
      dsimp only [oA] at hk hM ⊢
      obtain ⟨hk0, hls0⟩ := hM.no rfl
      obtain ⟨ox, hox⟩ : ∃ ox, ox = (none : Option Nat) := ⟨_, rfl⟩
      have hM2 : MdI (m1 + 17) m2 n k ox ls G1 G' := by rw [hox]; exact hM
      have hle := hM.le
      have hb5' := (hM.keep (nx + 3) (by omega)).trans h51
      rw [ho2] at hb5'
      dsimp only [oA] at hb5'
      have hls : (0 : Nat) = 0 := rfl
      have hll : (0 : Nat) = 0 := rfl
      have hBB : (0 : Nat) = 0 := rfl
      refine AW.sr envOk (fun N hN => ?_)
      simp -dsimp -implicitDefEqProofs (disch := omega) only [go_sem, reduceAdd, reduceSub, reduceGT, reduceEqDiff, reduceMul, w64, one_h, one_nl]
      refine hN _ ?_
      try clear hN N
      refine AW.seq (fun N5 hN5 => ?_)
      refine AW.cond rfl (fun h2 => ?_) (fun h2 => ?_)
      ·try simp only [cn] at h2
       refine AW.skip ?_
       simp only [thn, blk]
       refine hN5 _ ?_
       try clear hN5 N5
       refine AW.seq (fun N6 hN6 => ?_)
       refine AW.block ?_
       refine AW.regionL envOk ?_
       simp -dsimp -implicitDefEqProofs (disch := omega) only [go_sem, reduceAdd, reduceSub, reduceGT, reduceEqDiff, reduceMul, w64, one_h, one_nl, hls, hll]
       refine hN6 _ ?_
       try clear hN6 N6
       refine AW.nameH (fun G2 hG2 => ?_)
       dsimp only at hG2
       have hk2 : ∀ j, j < m2 → ox ≠ some j → G2 j = G' j := by
        intro j q1 q2
        rw [← hG2]
        first| (simp (disch := omega) only [upd_ne]; done)| (have q4 : j ≠ id := fun e => q2 (by rw [hox, e]); simp (disch := omega) only [upd_ne])
       have hz2 : G2 (m2 + 1 + 2) = some (List.replicate n (.i .i64 0)) := by rw [← hG2]; simp (disch := omega) only [upd_same, upd_ne]
       have hc2 : G2 (m2 + 1 + 4) = some (ls ++ [.h (m2 + 1 + 2) 0 n]) := by
        rw [← hG2]; simp (disch := omega) only [upd_same, upd_ne]
        first| (rw [hls0]; rfl)| rw [List.take_of_length_le (by omega)]
       simp -dsimp -implicitDefEqProofs (disch := omega) only [go_sem, reduceAdd, reduceSub, reduceGT, reduceEqDiff, reduceMul]
       refine AW.regionL envOk ?_
       simp -dsimp -implicitDefEqProofs (disch := omega) only [go_sem, reduceAdd, reduceSub, reduceGT, reduceEqDiff, reduceMul, w64, one_h, one_nl]
       refine ⟨(k + 1, some (m2 + 1 + 4), ls ++ [.h (m2 + 1 + 2) 0 n], G2), ?_, fun _ _ h => h, ?_, ?_⟩
       ·simp (disch := omega) [wks, wkA, sl, oA, w64, hk0]
       ·exact ⟨by first| omega| (simp only; omega)| (dsimp only; omega), hM2.next hk2 hz2 hc2 (by omega) (by omega) (by first| omega| (simp only; omega)| (dsimp only; omega))⟩
       ·first | omega | (simp only; omega)
      ·try simp only [cn] at h2
       refine AW.exit ?_
       simp only [thn, blk, if_true]
       refine hN4 _ ?_
       try clear hN4 N4
       refine AW.regionL envOk ?_
       simp -dsimp -implicitDefEqProofs (disch := omega) only [go_sem, reduceAdd, reduceSub, reduceGT, reduceEqDiff, reduceMul, w64, one_h, one_nl, hb5', hBB, hl2, hls, hll]
       refine hN3 _ ?_
       try clear hN3 N3
       refine AW.nameH (fun G3 hG3 => ?_)
       dsimp only at hG3
       have hkn : k = n - 1 - i := by omega
       have hk3 : ∀ j, j < m2 → j ≠ nx + 3 → o2 ≠ some j → G3 j = G' j := by
        intro j q1 q2 q3
        rw [← hG3]
        first| (simp (disch := omega) only [upd_ne]; done)| (have q4 : j ≠ B := fun e => q3 (by rw [ho2, e]); simp (disch := omega) only [upd_ne])
       have hB3 : G3 (m2 + 1 + 4) = some (bs ++ [oA ox (n - 1 - i)]) := by
        rw [← hG3, ← hkn, hox]; simp (disch := omega) only [upd_same, upd_ne, oA]
        first| (rw [hbs]; rfl)| rw [List.take_of_length_le (by omega)]
       have h53 : G3 (nx + 3) = some [.i .i64 p, .h (m1 + 1 + 2 + 5) 0 (i + 1), .h (m2 + 1 + 4) 0 (i + 1)] := by
        rw [← hG3]; simp (disch := omega) only [upd_same, upd_ne]
        first| done| rfl| (rw [hi0])
       simp -dsimp -implicitDefEqProofs (disch := omega) only [go_sem, reduceAdd, reduceSub, reduceGT, reduceEqDiff, reduceMul]
       refine AW.regionL envOk ?_
       simp -dsimp -implicitDefEqProofs (disch := omega) only [go_sem, reduceAdd, reduceSub, reduceGT, reduceEqDiff, reduceMul, w64, one_h, one_nl]
       refine ⟨(i + 1, some (m1 + 1 + 2 + 5, m2 + 1 + 4), rs ++ [.h (m1 + 1 + 2 + 3) 0 n], bs ++ [oA ox (n - 1 - i)], G3), ?_, fun _ _ h => h, ?_, ?_⟩
       ·simp (disch := omega) [wks, wkA, sl, oA, w64]
       ·exact ⟨hI2.next (by omega) hk1 hz1 hA1' (by omega) (by omega) (by omega) (hkn ▸ hM2) hk3 hB3 (by omega) (by first| omega| (simp only; omega)| (dsimp only; omega)) h53, by simp⟩
       ·first | omega | (simp only; omega)
     ·skip
      simp -dsimp -implicitDefEqProofs (disch := omega) only [go_sem, reduceAdd, reduceSub, reduceGT, reduceEqDiff, reduceMul]
      dsimp only [oA] at hk hM ⊢
      obtain ⟨ox, hox⟩ : ∃ ox, ox = some id := ⟨_, rfl⟩
      have hM2 : MdI (m1 + 17) m2 n k ox ls G1 G' := by rw [hox]; exact hM
      have hk0 : (0 : Nat) = 0 := rfl
      obtain ⟨hls, hll, hid1, hid2⟩ := hM.len
      have hle := hM.le
      have hb5' := (hM.keep (nx + 3) (by omega)).trans h51
      rw [ho2] at hb5'
      dsimp only [oA] at hb5'
      have hBB : (0 : Nat) = 0 := rfl
      refine AW.sr envOk (fun N hN => ?_)
      simp -dsimp -implicitDefEqProofs (disch := omega) only [go_sem, reduceAdd, reduceSub, reduceGT, reduceEqDiff, reduceMul, w64, one_h, one_nl]
      refine hN _ ?_
      try clear hN N
      refine AW.seq (fun N7 hN7 => ?_)
      refine AW.cond rfl (fun h3 => ?_) (fun h3 => ?_)
      ·try simp only [cn] at h3
       refine AW.skip ?_
       simp only [thn, blk]
       refine hN7 _ ?_
       try clear hN7 N7
       refine AW.seq (fun N8 hN8 => ?_)
       refine AW.block ?_
       refine AW.regionL envOk ?_
       simp -dsimp -implicitDefEqProofs (disch := omega) only [go_sem, reduceAdd, reduceSub, reduceGT, reduceEqDiff, reduceMul, w64, one_h, one_nl, hls, hll]
       refine hN8 _ ?_
       try clear hN8 N8
       refine AW.nameH (fun G2 hG2 => ?_)
       dsimp only at hG2
       have hk2 : ∀ j, j < m2 → ox ≠ some j → G2 j = G' j := by
        intro j q1 q2
        rw [← hG2]
        first| (simp (disch := omega) only [upd_ne]; done)| (have q4 : j ≠ id := fun e => q2 (by rw [hox, e]); simp (disch := omega) only [upd_ne])
       have hz2 : G2 (m2 + 1 + 2) = some (List.replicate n (.i .i64 0)) := by rw [← hG2]; simp (disch := omega) only [upd_same, upd_ne]
       have hc2 : G2 (m2 + 1 + 4) = some (ls ++ [.h (m2 + 1 + 2) 0 n]) := by
        rw [← hG2]; simp (disch := omega) only [upd_same, upd_ne]
        first| (rw [hls0]; rfl)| rw [List.take_of_length_le (by omega)]
       simp -dsimp -implicitDefEqProofs (disch := omega) only [go_sem, reduceAdd, reduceSub, reduceGT, reduceEqDiff, reduceMul]
       refine AW.regionL envOk ?_
       simp -dsimp -implicitDefEqProofs (disch := omega) only [go_sem, reduceAdd, reduceSub, reduceGT, reduceEqDiff, reduceMul, w64, one_h, one_nl]
       refine ⟨(k + 1, some (m2 + 1 + 4), ls ++ [.h (m2 + 1 + 2) 0 n], G2), ?_, fun _ _ h => h, ?_, ?_⟩
       ·simp (disch := omega) [wks, wkA, sl, oA, w64, hk0]
       ·exact ⟨by first| omega| (simp only; omega)| (dsimp only; omega), hM2.next hk2 hz2 hc2 (by omega) (by omega) (by first| omega| (simp only; omega)| (dsimp only; omega))⟩
       ·first | omega | (simp only; omega)
      ·try simp only [cn] at h3
       refine AW.exit ?_
       simp only [thn, blk, if_true]
       refine hN4 _ ?_
       try clear hN4 N4
       refine AW.regionL envOk ?_
       simp -dsimp -implicitDefEqProofs (disch := omega) only [go_sem, reduceAdd, reduceSub, reduceGT, reduceEqDiff, reduceMul, w64, one_h, one_nl, hb5', hBB, hl2, hls, hll]
       refine hN3 _ ?_
       try clear hN3 N3
       refine AW.nameH (fun G3 hG3 => ?_)
       dsimp only at hG3
       have hkn : k = n - 1 - i := by omega
       have hk3 : ∀ j, j < m2 → j ≠ nx + 3 → o2 ≠ some j → G3 j = G' j := by
        intro j q1 q2 q3
        rw [← hG3]
        first| (simp (disch := omega) only [upd_ne]; done)| (have q4 : j ≠ B := fun e => q3 (by rw [ho2, e]); simp (disch := omega) only [upd_ne])
       have hB3 : G3 (m2 + 1 + 4) = some (bs ++ [oA ox (n - 1 - i)]) := by
        rw [← hG3, ← hkn, hox]; simp (disch := omega) only [upd_same, upd_ne, oA]
        first| (rw [hbs]; rfl)| rw [List.take_of_length_le (by omega)]
       have h53 : G3 (nx + 3) = some [.i .i64 p, .h (m1 + 1 + 2 + 5) 0 (i + 1), .h (m2 + 1 + 4) 0 (i + 1)] := by
        rw [← hG3]; simp (disch := omega) only [upd_same, upd_ne]
        first| done| rfl| (rw [hi0])
       simp -dsimp -implicitDefEqProofs (disch := omega) only [go_sem, reduceAdd, reduceSub, reduceGT, reduceEqDiff, reduceMul]
       refine AW.regionL envOk ?_
       simp -dsimp -implicitDefEqProofs (disch := omega) only [go_sem, reduceAdd, reduceSub, reduceGT, reduceEqDiff, reduceMul, w64, one_h, one_nl]
       refine ⟨(i + 1, some (m1 + 1 + 2 + 5, m2 + 1 + 4), rs ++ [.h (m1 + 1 + 2 + 3) 0 n], bs ++ [oA ox (n - 1 - i)], G3), ?_, fun _ _ h => h, ?_, ?_⟩
       ·simp (disch := omega) [wks, wkA, sl, oA, w64]
       ·exact ⟨hI2.next (by omega) hk1 hz1 hA1' (by omega) (by omega) (by omega) (hkn ▸ hM2) hk3 hB3 (by omega) (by first| omega| (simp only; omega)| (dsimp only; omega)) h53, by simp⟩
       ·first | omega | (simp only; omega)
   ·try simp only [cn] at h1
    refine AW.exit ?_
    simp only [thn, blk, if_true]
    refine hN1 _ ?_
    try clear hN1 N1
    refine AW.sr envOk (fun N hN => ?_)
    simp -dsimp -implicitDefEqProofs (disch := omega) only [go_sem, reduceAdd, reduceSub, reduceGT, reduceEqDiff, reduceMul, w64, one_h, one_nl, hb5, hb4]
    refine hN _ ?_
    try clear hN N
    refine AW.ret ?_
    simp -dsimp -implicitDefEqProofs (disch := omega) only [go_sem, reduceAdd, reduceSub, reduceGT, reduceEqDiff, reduceMul]
    obtain rfl : i = n := by omega
    exact hI2.fin (by rw [ho1]; rfl) (by rw [ho2]; rfl) (fun _ => hi0) (fun _ => hi0) (by omega)
  ·skip
   simp -dsimp -implicitDefEqProofs (disch := omega) only [go_sem, reduceAdd, reduceSub, reduceGT, reduceEqDiff, reduceMul]
   dsimp only [Option.map] at hI ⊢
   obtain ⟨o1, ho1⟩ : ∃ o1, o1 = some A := ⟨_, rfl⟩
   obtain ⟨o2, ho2⟩ : ∃ o2, o2 = some B := ⟨_, rfl⟩
   have hb5 := hI.b5
   have hI2 : ZrI nx m1 n p i o1 o2 rs bs G := by rw [ho1, ho2]; exact hI
   obtain ⟨hl1, hl2⟩ := hI.lens
   have hm := hI.hm
   have hi := hI.hi
   have hb4 := hI.b4
   dsimp only [oA] at hb5
   obtain ⟨hA, hA1, hA2⟩ := hI.z.h1 A rfl
   obtain ⟨hB, hB1, hB2⟩ := hI.z.h2 B rfl
   have hne := hI.z.ne A B rfl rfl
   refine AW.sr envOk (fun N hN => ?_)
   simp -dsimp -implicitDefEqProofs (disch := omega) only [go_sem, reduceAdd, reduceSub, reduceGT, reduceEqDiff, reduceMul, w64, one_h, one_nl]
   refine hN _ ?_
   try clear hN N
   refine AW.seq (fun N9 hN9 => ?_)
   refine AW.cond rfl (fun h4 => ?_) (fun h4 => ?_)
   ·try simp only [cn] at h4
    refine AW.skip ?_
    simp only [thn, blk]
    refine hN9 _ ?_
    try clear hN9 N9
    refine AW.seq (fun N10 hN10 => ?_)
    refine AW.block ?_
    refine AW.sr envOk (fun N hN => ?_)
    simp -dsimp -implicitDefEqProofs (disch := omega) only [go_sem, reduceAdd, reduceSub, reduceGT, reduceEqDiff, reduceMul, w64, one_h, one_nl]
    refine hN _ ?_
    try clear hN N
    refine AW.seq (fun N hN => ?_)
    refine AW.drawL2 envOk (by kernel_rfl) 7 5 (by kernel_rfl) _ _ rfl ?_
    simp -dsimp -implicitDefEqProofs (disch := omega) only [hr_nil, hr_one, hr_if, List.take_succ_cons, List.take_zero, List.drop_succ_cons, List.drop_zero, List.take_nil, List.drop_nil, go_sem, reduceAdd, reduceSub, reduceGT, reduceEqDiff, reduceMul, w64, one_h, one_nl, hb5, hA, hl1]
    refine hN _ ?_
    try clear hN N
    refine AW.sr envOk (fun N hN => ?_)
    simp -dsimp -implicitDefEqProofs (disch := omega) only [go_sem, reduceAdd, reduceSub, reduceGT, reduceEqDiff, reduceMul, w64, one_h, one_nl]
    refine hN _ ?_
    try clear hN N
    refine AW.seq (fun N11 hN11 => ?_)
    refine AW.nameH (fun G1 hG1 => ?_)
    dsimp only at hG1
    have hz1 : G1 (m1 + 1 + 2 + 3) = some (List.replicate n (.i .i64 0)) := by rw [← hG1]; simp (disch := omega) only [upd_same, upd_ne]
    have hA1' : G1 (m1 + 1 + 2 + 5) = some (rs ++ [.h (m1 + 1 + 2 + 3) 0 n]) := by
     rw [← hG1]; simp (disch := omega) only [upd_same, upd_ne]
     first| (rw [hrs]; rfl)| rw [List.take_of_length_le (by omega)]
    have hk1 : ∀ j, j < m1 → j ≠ nx + 3 → o1 ≠ some j → G1 j = G j := by
     intro j q1 q2 q3
     rw [← hG1]
     first| (simp (disch := omega) only [upd_ne]; done)| (have q4 : j ≠ A := fun e => q3 (by rw [ho1, e]); simp (disch := omega) only [upd_ne])
    have h51 : G1 (nx + 3) = some [.i .i64 p, .h (m1 + 1 + 2 + 5) 0 (i + 1), oA o2 i] := by
     rw [← hG1, upd_same, ho2]
     first| rfl| (rw [hi0]; rfl)
    have h41 : ∀ id, o2 = some id → G1 id = some bs ∧ id < m1 := fun id e => by
     have q := hI2.z.h2 id e
     exact ⟨(hk1 id q.2.2 (by omega) (fun e2 => hI2.z.ne id id e2 e rfl)).trans q.1, q.2.2⟩
    simp -dsimp -implicitDefEqProofs (disch := omega) only [go_sem, reduceAdd, reduceSub, reduceGT, reduceEqDiff, reduceMul]
    refine AW.sr envOk (fun N hN => ?_)
    simp -dsimp -implicitDefEqProofs (disch := omega) only [go_sem, reduceAdd, reduceSub, reduceGT, reduceEqDiff, reduceMul, w64, one_h, one_nl]
    refine hN _ ?_
    try clear hN N
    refine AW.block ?_
    refine AW.loopN (α := Nat × Option Nat × List AV × HP) (fun x => sl 41 [(1, .i .i64 n), (4, .q nx 0), (5, .q (nx + 3) 0), (7, oA x.2.1 x.1), (10, .i .i64 n), (11, .i .i64 i), (24, .i .i64 ((n : Int) - 1 - i)), (25, .i .i64 x.1)]) (fun x => x.2.2.2) (fun x m => x.1 ≤ n - 1 - i ∧ MdI (m1 + 17) m n x.1 x.2.1 x.2.2.1 G1 x.2.2.2) (fun x => n - x.1) ((0, none, [], G1)) ?_ ?_ (fun _ _ h => h) ?_
    ·exact ⟨by simp, .start (by first| omega| (simp only; omega)| (dsimp only; omega))⟩
    ·simp (disch := omega) [wks, wkA, sl, oA]
    ·skip
     rintro ⟨k, (_ | id), ls, G'⟩ m2 ⟨hk, hM⟩
     ·skip
      simp -dsimp -implicitDefEqProofs (disch := omega) only [go_sem, reduceAdd, reduceSub, reduceGT, reduceEqDiff, reduceMul]
      dsimp only [oA] at hk hM ⊢
      obtain ⟨hk0, hls0⟩ := hM.no rfl
      obtain ⟨ox, hox⟩ : ∃ ox, ox = (none : Option Nat) := ⟨_, rfl⟩
      have hM2 : MdI (m1 + 17) m2 n k ox ls G1 G' := by rw [hox]; exact hM
      have hle := hM.le
      have hb5' := (hM.keep (nx + 3) (by omega)).trans h51
      rw [ho2] at hb5'
      dsimp only [oA] at hb5'
      have hBB := (hM.keep B (by omega)).trans (h41 B ho2).1
      have hls : (0 : Nat) = 0 := rfl
      have hll : (0 : Nat) = 0 := rfl
      refine AW.sr envOk (fun N hN => ?_)
      simp -dsimp -implicitDefEqProofs (disch := omega) only [go_sem, reduceAdd, reduceSub, reduceGT, reduceEqDiff, reduceMul, w64, one_h, one_nl]
      refine hN _ ?_
      try clear hN N
      refine AW.seq (fun N12 hN12 => ?_)
      refine AW.cond rfl (fun h5 => ?_) (fun h5 => ?_)
      ·try simp only [cn] at h5
       refine AW.skip ?_
       simp only [thn, blk]
       refine hN12 _ ?_
       try clear hN12 N12
       refine AW.seq (fun N13 hN13 => ?_)
       refine AW.block ?_
       refine AW.regionL envOk ?_
       simp -dsimp -implicitDefEqProofs (disch := omega) only [go_sem, reduceAdd, reduceSub, reduceGT, reduceEqDiff, reduceMul, w64, one_h, one_nl, hls, hll]
       refine hN13 _ ?_
       try clear hN13 N13
       refine AW.nameH (fun G2 hG2 => ?_)
       dsimp only at hG2
       have hk2 : ∀ j, j < m2 → ox ≠ some j → G2 j = G' j := by
        intro j q1 q2
        rw [← hG2]
        first| (simp (disch := omega) only [upd_ne]; done)| (have q4 : j ≠ id := fun e => q2 (by rw [hox, e]); simp (disch := omega) only [upd_ne])
       have hz2 : G2 (m2 + 1 + 2) = some (List.replicate n (.i .i64 0)) := by rw [← hG2]; simp (disch := omega) only [upd_same, upd_ne]
       have hc2 : G2 (m2 + 1 + 4) = some (ls ++ [.h (m2 + 1 + 2) 0 n]) := by
        rw [← hG2]; simp (disch := omega) only [upd_same, upd_ne]
        first| (rw [hls0]; rfl)| rw [List.take_of_length_le (by omega)]
       simp -dsimp -implicitDefEqProofs (disch := omega) only [go_sem, reduceAdd, reduceSub, reduceGT, reduceEqDiff, reduceMul]
       refine AW.regionL envOk ?_
       simp -dsimp -implicitDefEqProofs (disch := omega) only [go_sem, reduceAdd, reduceSub, reduceGT, reduceEqDiff, reduceMul, w64, one_h, one_nl]
       refine ⟨(k + 1, some (m2 + 1 + 4), ls ++ [.h (m2 + 1 + 2) 0 n], G2), ?_, fun _ _ h => h, ?_, ?_⟩
       ·simp (disch := omega) [wks, wkA, sl, oA, w64, hk0]
       ·exact ⟨by first| omega| (simp only; omega)| (dsimp only; omega), hM2.next hk2 hz2 hc2 (by omega) (by omega) (by first| omega| (simp only; omega)| (dsimp only; omega))⟩
       ·first | omega | (simp only; omega)
      ·try simp only [cn] at h5
       refine AW.exit ?_
       simp only [thn, blk, if_true]
       refine hN11 _ ?_
       try clear hN11 N11
       refine AW.regionL envOk ?_
       simp -dsimp -implicitDefEqProofs (disch := omega) only [go_sem, reduceAdd, reduceSub, reduceGT, reduceEqDiff, reduceMul, w64, one_h, one_nl, hb5', hBB, hl2, hls, hll]
       refine hN10 _ ?_
       try clear hN10 N10
       refine AW.nameH (fun G3 hG3 => ?_)
       dsimp only at hG3
       have hkn : k = n - 1 - i := by omega
       have hk3 : ∀ j, j < m2 → j ≠ nx + 3 → o2 ≠ some j → G3 j = G' j := by
        intro j q1 q2 q3
        rw [← hG3]
        first| (simp (disch := omega) only [upd_ne]; done)| (have q4 : j ≠ B := fun e => q3 (by rw [ho2, e]); simp (disch := omega) only [upd_ne])
       have hB3 : G3 (m2 + 1 + 4) = some (bs ++ [oA ox (n - 1 - i)]) := by
        rw [← hG3, ← hkn, hox]; simp (disch := omega) only [upd_same, upd_ne, oA]
        first| (rw [hbs]; rfl)| rw [List.take_of_length_le (by omega)]
       have h53 : G3 (nx + 3) = some [.i .i64 p, .h (m1 + 1 + 2 + 5) 0 (i + 1), .h (m2 + 1 + 4) 0 (i + 1)] := by
        rw [← hG3]; simp (disch := omega) only [upd_same, upd_ne]
        first| done| rfl| (rw [hi0])
       simp -dsimp -implicitDefEqProofs (disch := omega) only [go_sem, reduceAdd, reduceSub, reduceGT, reduceEqDiff, reduceMul]
       refine AW.regionL envOk ?_
       simp -dsimp -implicitDefEqProofs (disch := omega) only [go_sem, reduceAdd, reduceSub, reduceGT, reduceEqDiff, reduceMul, w64, one_h, one_nl]
       refine ⟨(i + 1, some (m1 + 1 + 2 + 5, m2 + 1 + 4), rs ++ [.h (m1 + 1 + 2 + 3) 0 n], bs ++ [oA ox (n - 1 - i)], G3), ?_, fun _ _ h => h, ?_, ?_⟩
       ·simp (disch := omega) [wks, wkA, sl, oA, w64]
       ·exact ⟨hI2.next (by omega) hk1 hz1 hA1' (by omega) (by omega) (by omega) (hkn ▸ hM2) hk3 hB3 (by omega) (by first| omega| (simp only; omega)| (dsimp only; omega)) h53, by simp⟩
       ·first | omega | (simp only; omega)
     ·skip
      simp -dsimp -implicitDefEqProofs (disch := omega) only [go_sem, reduceAdd, reduceSub, reduceGT, reduceEqDiff, reduceMul]
      dsimp only [oA] at hk hM ⊢
      obtain ⟨ox, hox⟩ : ∃ ox, ox = some id := ⟨_, rfl⟩
      have hM2 : MdI (m1 + 17) m2 n k ox ls G1 G' := by rw [hox]; exact hM
      have hk0 : (0 : Nat) = 0 := rfl
      obtain ⟨hls, hll, hid1, hid2⟩ := hM.len
      have hle := hM.le
      have hb5' := (hM.keep (nx + 3) (by omega)).trans h51
      rw [ho2] at hb5'
      dsimp only [oA] at hb5'
      have hBB := (hM.keep B (by omega)).trans (h41 B ho2).1
      refine AW.sr envOk (fun N hN => ?_)
      simp -dsimp -implicitDefEqProofs (disch := omega) only [go_sem, reduceAdd, reduceSub, reduceGT, reduceEqDiff, reduceMul, w64, one_h, one_nl]
      refine hN _ ?_
      try clear hN N
      refine AW.seq (fun N14 hN14 => ?_)
      refine AW.cond rfl (fun h6 => ?_) (fun h6 => ?_)
      ·try simp only [cn] at h6
       refine AW.skip ?_
       simp only [thn, blk]
       refine hN14 _ ?_
       try clear hN14 N14
       refine AW.seq (fun N15 hN15 => ?_)
       refine AW.block ?_
       refine AW.regionL envOk ?_
       simp -dsimp -implicitDefEqProofs (disch := omega) only [go_sem, reduceAdd, reduceSub, reduceGT, reduceEqDiff, reduceMul, w64, one_h, one_nl, hls, hll]
       refine hN15 _ ?_
       try clear hN15 N15
       refine AW.nameH (fun G2 hG2 => ?_)
       dsimp only at hG2
       have hk2 : ∀ j, j < m2 → ox ≠ some j → G2 j = G' j := by
        intro j q1 q2
        rw [← hG2]
        first| (simp (disch := omega) only [upd_ne]; done)| (have q4 : j ≠ id := fun e => q2 (by rw [hox, e]); simp (disch := omega) only [upd_ne])
       have hz2 : G2 (m2 + 1 + 2) = some (List.replicate n (.i .i64 0)) := by rw [← hG2]; simp (disch := omega) only [upd_same, upd_ne]
       have hc2 : G2 (m2 + 1 + 4) = some (ls ++ [.h (m2 + 1 + 2) 0 n]) := by
        rw [← hG2]; simp (disch := omega) only [upd_same, upd_ne]
        first| (rw [hls0]; rfl)| rw [List.take_of_length_le (by omega)]
       simp -dsimp -implicitDefEqProofs (disch := omega) only [go_sem, reduceAdd, reduceSub, reduceGT, reduceEqDiff, reduceMul]
       refine AW.regionL envOk ?_
       simp -dsimp -implicitDefEqProofs (disch := omega) only [go_sem, reduceAdd, reduceSub, reduceGT, reduceEqDiff, reduceMul, w64, one_h, one_nl]
       refine ⟨(k + 1, some (m2 + 1 + 4), ls ++ [.h (m2 + 1 + 2) 0 n], G2), ?_, fun _ _ h => h, ?_, ?_⟩
       ·simp (disch := omega) [wks, wkA, sl, oA, w64, hk0]
       ·exact ⟨by first| omega| (simp only; omega)| (dsimp only; omega), hM2.next hk2 hz2 hc2 (by omega) (by omega) (by first| omega| (simp only; omega)| (dsimp only; omega))⟩
       ·first | omega | (simp only; omega)
      ·try simp only [cn] at h6
       refine AW.exit ?_
       simp only [thn, blk, if_true]
       refine hN11 _ ?_
       try clear hN11 N11
       refine AW.regionL envOk ?_
       simp -dsimp -implicitDefEqProofs (disch := omega) only [go_sem, reduceAdd, reduceSub, reduceGT, reduceEqDiff, reduceMul, w64, one_h, one_nl, hb5', hBB, hl2, hls, hll]
       refine hN10 _ ?_
       try clear hN10 N10
       refine AW.nameH (fun G3 hG3 => ?_)
       dsimp only at hG3
       have hkn : k = n - 1 - i := by omega
       have hk3 : ∀ j, j < m2 → j ≠ nx + 3 → o2 ≠ some j → G3 j = G' j := by
        intro j q1 q2 q3
        rw [← hG3]
        first| (simp (disch := omega) only [upd_ne]; done)| (have q4 : j ≠ B := fun e => q3 (by rw [ho2, e]); simp (disch := omega) only [upd_ne])
       have hB3 : G3 (m2 + 1 + 4) = some (bs ++ [oA ox (n - 1 - i)]) := by
        rw [← hG3, ← hkn, hox]; simp (disch := omega) only [upd_same, upd_ne, oA]
        first| (rw [hbs]; rfl)| rw [List.take_of_length_le (by omega)]
       have h53 : G3 (nx + 3) = some [.i .i64 p, .h (m1 + 1 + 2 + 5) 0 (i + 1), .h (m2 + 1 + 4) 0 (i + 1)] := by
        rw [← hG3]; simp (disch := omega) only [upd_same, upd_ne]
        first| done| rfl| (rw [hi0])
       simp -dsimp -implicitDefEqProofs (disch := omega) only [go_sem, reduceAdd, reduceSub, reduceGT, reduceEqDiff, reduceMul]
       refine AW.regionL envOk ?_
       simp -dsimp -implicitDefEqProofs (disch := omega) only [go_sem, reduceAdd, reduceSub, reduceGT, reduceEqDiff, reduceMul, w64, one_h, one_nl]
       refine ⟨(i + 1, some (m1 + 1 + 2 + 5, m2 + 1 + 4), rs ++ [.h (m1 + 1 + 2 + 3) 0 n], bs ++ [oA ox (n - 1 - i)], G3), ?_, fun _ _ h => h, ?_, ?_⟩
       ·simp (disch := omega) [wks, wkA, sl, oA, w64]
       ·exact ⟨hI2.next (by omega) hk1 hz1 hA1' (by omega) (by omega) (by omega) (hkn ▸ hM2) hk3 hB3 (by omega) (by first| omega| (simp only; omega)| (dsimp only; omega)) h53, by simp⟩
       ·first | omega | (simp only; omega)
   ·try simp only [cn] at h4
    refine AW.exit ?_
    simp only [thn, blk, if_true]
    refine hN1 _ ?_
    try clear hN1 N1
    refine AW.sr envOk (fun N hN => ?_)
    simp -dsimp -implicitDefEqProofs (disch := omega) only [go_sem, reduceAdd, reduceSub, reduceGT, reduceEqDiff, reduceMul, w64, one_h, one_nl, hb5, hb4]
    refine hN _ ?_
    try clear hN N
    refine AW.ret ?_
    simp -dsimp -implicitDefEqProofs (disch := omega) only [go_sem, reduceAdd, reduceSub, reduceGT, reduceEqDiff, reduceMul]
    obtain rfl : i = n := by omega
    exact hI2.fin (by rw [ho1]; rfl) (by rw [ho2]; rfl) (fun e => by rw [ho1] at e; cases e) (fun e => by rw [ho2] at e; cases e) (by omega)

end Go.Proofs.Ytbhlindlcfeppaa
