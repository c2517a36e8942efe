import Derived.Test.YtdghgmgppecncaaZ31
set_option linter.unusedVariables false
set_option linter.unusedSimpArgs false
namespace Go.Proofs.Ytdghgmgppecncaa
open Nat (reduceAdd reduceSub reduceGT reduceEqDiff reduceMul)
theorem app_le8 {L : List (List Int)} {w : List Int} (h : ∀ y ∈ L, y.length ≤ 8) (hw : w.length ≤ 8) : ∀ y ∈ L ++ [w], y.length ≤ 8 := fun y hy => by
  rcases List.mem_append.1 hy with hy | hy
  · exact h y hy
  · rw [List.mem_singleton.1 hy]; exact hw
def gnO (bs : List Int) (sid nx : Nat) (H : HP) : Nat → HP → AV → Prop := fun nx' H' r => ∃ (id : Nat) (L : List (List Int)) (a' s' : Int), r = .h id 0 L.length ∧ L.length ≤ 4 ∧ (∀ y ∈ L, y.length ≤ 8) ∧ (nx ≤ id ∧ id < nx') ∧ srOk bs a' s' ∧ H' id = some (L.map ints) ∧ ∀ i, i < nx → H' i = upd H sid (some (srB bs a' s')) i
def gnP (bs : List Int) (sid nx : Nat) (H : HP) : Nat → HP → AV → Prop := fun _ H' r => ∃ L a' s', r = rows L ∧ L.length ≤ 4 ∧ (∀ y ∈ L, y.length ≤ 8) ∧ srOk bs a' s' ∧ ∀ i, i < nx → H' i = upd H sid (some (srB bs a' s')) i
set_option maxHeartbeats 1000000 in
theorem spec_l32Gens_o (bs : List Int) (a s : Int) (ho : srOk bs a s) (p : Int) (X : List (List Int)) (Y : List (List (List Int))) (hX : X.length ≤ 6) (hp : p ≤ 1000) (nx : Nat) (H : HP) (sid : Nat) (hH : H sid = some (srB bs a s)) : AC Try.prog 277 nx H [.q sid 0, ring p X Y] (gnO bs sid nx H) := by
 refine AC.introx envOk Try.func277 rfl (by kernel_rfl) Try.ntmps277 Try.results277 (fun hfr => ?_)
 have hsn := hfr_lt hfr hH
 refine AW.sr envOk (fun N hN => ?_)
 simp -dsimp -implicitDefEqProofs (disch := omega) only [go_sem, undef, reduceAdd, reduceSub, reduceGT, reduceEqDiff, reduceMul, w64, ring, rows, cubes]
 refine hN _ ?_
 try clear hN N
 refine AW.freezeQ 3 nx _ rfl (upd_same _ _ _) ?_
 simp -dsimp -implicitDefEqProofs (disch := omega) only [go_sem, undef, reduceAdd, reduceSub, reduceGT, reduceEqDiff, reduceMul]
 refine AW.sr envOk (fun N hN => ?_)
 simp -dsimp -implicitDefEqProofs (disch := omega) only [go_sem, undef, reduceAdd, reduceSub, reduceGT, reduceEqDiff, reduceMul, w64, ring, rows, cubes]
 refine hN _ ?_
 try clear hN N
 refine AW.seq (fun N1 hN1 => ?_)
 refine AW.sr envOk (fun N hN => ?_)
 simp -dsimp -implicitDefEqProofs (disch := omega) only [go_sem, undef, reduceAdd, reduceSub, reduceGT, reduceEqDiff, reduceMul, w64, ring, rows, cubes]
 refine (spec_l01Next_o bs a s ho 4 (by omega) _ _ sid (by simp (disch := omega) only [upd_ne]; exact hH)).mono2 ?_
 rintro m2 H2 r2 hm2 ⟨x0, a1, s1, rfl, hx0, ho1, rfl⟩
 obtain ⟨c, rfl⟩ : ∃ c : Nat, x0 = (c : Int) := ⟨x0.toNat, by omega⟩
 try simp -dsimp -implicitDefEqProofs (disch := omega) only [go_sem, undef, reduceAdd, reduceSub, reduceGT, reduceEqDiff, reduceMul, w64, ring, rows, cubes]
 refine hN _ ?_
 try clear hN N
 refine AW.block ?_
 refine AW.loopN (α := Nat × Nat × List (List Int) × Int × Int) (fun x => sl 38 [(0, .q sid 0), (3, .p 0 [.i .i64 p, rows X, cubes Y]), (5, .h x.2.1 0 x.2.2.1.length), (6, .i .i64 x.1)]) (fun x => upd (upd H sid (some (srB bs x.2.2.2.1 x.2.2.2.2))) x.2.1 (some (x.2.2.1.map ints))) (fun x m => (x.2.2.1.length + x.1 ≤ 4 ∧ ∀ y ∈ x.2.2.1, y.length ≤ 8) ∧ (nx ≤ x.2.1 ∧ x.2.1 < m) ∧ srOk bs x.2.2.2.1 x.2.2.2.2) (fun x => x.1) ((c, nx + 2, [], a1, s1)) ?_ ?_ (by intro d cs hd; have hnn := hfr nx (Nat.le_refl _); have hn2 := hfr (nx + 2) (by omega); simp only [upd, List.map_nil] at hd ⊢; grind) ?_
 ·exact ⟨⟨by simp; omega, fun y hy => (by cases hy)⟩, ⟨by first| omega| (simp only; omega)| (dsimp only; omega), by first| omega| (simp only; omega)| (dsimp only; omega)⟩, ho1⟩
 ·simp (disch := omega) [wks, wkA, sl, ring, rows, cubes] <;> omega
 ·skip
  rintro ⟨k, id, L, a2, s2⟩ m ⟨⟨hkL, hLy⟩, ⟨hid1, hid2⟩, ho2⟩
  dsimp only at hkL hLy hid1 hid2 ho2 ⊢
  simp only [rows, cubes]
  simp -dsimp -implicitDefEqProofs (disch := omega) only [go_sem, undef, reduceAdd, reduceSub, reduceGT, reduceEqDiff, reduceMul]
  refine AW.seq (fun N2 hN2 => ?_)
  refine AW.sr envOk (fun N hN => ?_)
  simp -dsimp -implicitDefEqProofs (disch := omega) only [go_sem, undef, reduceAdd, reduceSub, reduceGT, reduceEqDiff, reduceMul, w64, ring, rows, cubes]
  refine hN _ ?_
  try clear hN N
  refine AW.cond rfl (fun h1 => ?_) (fun h1 => ?_)
  ·try simp only [cn] at h1
   refine AW.skip ?_
   simp only [thn, blk]
   refine hN2 _ ?_
   try clear hN2 N2
   refine AW.seq (fun N3 hN3 => ?_)
   refine AW.block ?_
   refine AW.sr envOk (fun N hN => ?_)
   simp -dsimp -implicitDefEqProofs (disch := omega) only [go_sem, undef, reduceAdd, reduceSub, reduceGT, reduceEqDiff, reduceMul, w64, ring, rows, cubes]
   refine (spec_l31Element_o bs a2 s2 ho2 p X Y hX hp _ _ sid ((upd_ne _ _ (by omega)).trans (upd_same _ _ _))).mono2 ?_
   rintro m3 H3 r3 hm3 ⟨idx, w, a3, s3, rfl, hw, ⟨hix1, hix2⟩, ho3, hx3, hf3⟩
   try simp -dsimp -implicitDefEqProofs (disch := omega) only [go_sem, undef, reduceAdd, reduceSub, reduceGT, reduceEqDiff, reduceMul, w64, ring, rows, cubes]
   refine hN _ ?_
   try clear hN N
   refine AW.seq (fun N4 hN4 => ?_)
   refine AW.sr envOk (fun N hN => ?_)
   simp -dsimp -implicitDefEqProofs (disch := omega) only [go_sem, undef, reduceAdd, reduceSub, reduceGT, reduceEqDiff, reduceMul, w64, ring, rows, cubes]
   refine hN _ ?_
   try clear hN N
   refine AW.block ?_
   have hle3 : ∀ d cs, upd (upd (upd H sid (some (srB bs a3 s3))) id (some (L.map ints))) idx (some (w.map (AV.i .i64))) d = some cs → H3 d = some cs := by
    intro d cs hd
    by_cases e : d = idx
    ·subst e; rw [upd_same] at hd; rw [hx3]; exact hd
    ·rw [upd_ne _ _ e] at hd
     have hdm : d < m := by
      rcases Nat.lt_or_ge d m with h | h
      ·exact h
      ·rw [upd_ne _ _ (by omega), upd_ne _ _ (by omega), hfr d (by omega)] at hd; cases hd
     rw [hf3 d (by omega)]
     simp only [upd] at hd ⊢; grind
   refine AW.loopN (α := Nat × List Int × Int × Int) (fun x => sl 38 [(0, .q sid 0), (3, .p 0 [.i .i64 p, rows X, cubes Y]), (5, .h id 0 L.length), (6, .i .i64 k), (7, .h idx 0 x.2.1.length), (8, .i .i64 x.1)]) (fun x => upd (upd (upd H sid (some (srB bs x.2.2.1 x.2.2.2))) id (some (L.map ints))) idx (some (x.2.1.map (AV.i .i64)))) (fun x m => (x.1 ≤ x.2.1.length ∧ x.2.1.length ≤ 8) ∧ m3 ≤ m ∧ srOk bs x.2.2.1 x.2.2.2) (fun x => x.2.1.length - x.1) ((0, w, a3, s3)) ?_ ?_ (hle3) ?_
   ·exact ⟨⟨Nat.zero_le _, hw⟩, by first| omega| (simp only; omega)| (dsimp only; omega), ho3⟩
   ·simp (disch := omega) [wks, wkA, sl, ring, rows, cubes] <;> omega
   ·skip
    rintro ⟨i, w2, a4, s4⟩ m4 ⟨⟨hi, hw2⟩, hm4, ho4⟩
    dsimp only at hi hw2 hm4 ho4 ⊢
    simp only [rows, cubes]
    simp -dsimp -implicitDefEqProofs (disch := omega) only [go_sem, undef, reduceAdd, reduceSub, reduceGT, reduceEqDiff, reduceMul]
    refine AW.seq (fun N5 hN5 => ?_)
    refine AW.sr envOk (fun N hN => ?_)
    simp -dsimp -implicitDefEqProofs (disch := omega) only [go_sem, undef, reduceAdd, reduceSub, reduceGT, reduceEqDiff, reduceMul, w64, ring, rows, cubes]
    refine gopB.mk' (fun h2 => ?_) (fun h2 => ?_)
    ·try simp only [cn] at h2
     try simp -dsimp -implicitDefEqProofs (disch := omega) only [go_sem, undef, reduceAdd, reduceSub, reduceGT, reduceEqDiff, reduceMul, w64, ring, rows, cubes]
     refine (spec_l01Next_o bs a4 s4 ho4 2 (by omega) _ _ sid (by simp (disch := omega) only [upd_same, upd_ne])).mono2 ?_
     rintro m5 H5 r5 hm5 ⟨y, a5, s5, rfl, hy, ho5, rfl⟩
     try simp -dsimp -implicitDefEqProofs (disch := omega) only [go_sem, undef, reduceAdd, reduceSub, reduceGT, reduceEqDiff, reduceMul, w64, ring, rows, cubes]
     refine hN _ ?_
     try clear hN N
     refine AW.cond rfl (fun h3 => ?_) (fun h3 => ?_)
     ·try simp only [cn] at h3
      refine AW.skip ?_
      simp only [thn, blk]
      refine hN5 _ ?_
      try clear hN5 N5
      refine AW.seq (fun N6 hN6 => ?_)
      refine AW.block ?_
      refine AW.regionL envOk ?_
      simp -dsimp -implicitDefEqProofs (disch := omega) only [go_sem, undef, reduceAdd, reduceSub, reduceGT, reduceEqDiff, reduceMul, w64, ring, rows, cubes]
      refine hN6 _ ?_
      try clear hN6 N6
      refine AW.regionL envOk ?_
      simp -dsimp -implicitDefEqProofs (disch := omega) only [go_sem, undef, reduceAdd, reduceSub, reduceGT, reduceEqDiff, reduceMul, w64, ring, rows, cubes]
      refine ⟨(i + 1, w2.set i 0, a5, s5), ?_, by intro d cs hd; rw [← il_set (by omega)] at hd; simp only [upd] at hd ⊢; grind, ?_, ?_⟩
      ·simp (disch := omega) [wks, wkA, sl, ring, rows, cubes, w64] <;> omega
      ·(try dsimp only); (first| refine ⟨⟨?_, ?_⟩, ?_, ho5⟩| refine ⟨⟨?_, ?_⟩, ho5⟩| refine ⟨?_, ?_, ho5⟩| refine ⟨?_, ho5⟩) <;> first| omega| (simp; omega)| simp
      ·(simp; omega)
     ·try simp only [cn] at h3
      refine AW.exit ?_
      simp only [thn, blk, if_true]
      refine hN4 _ ?_
      try clear hN4 N4
      refine AW.freeze 7 idx w2.length (w2.map (AV.i .i64)) rfl (by first| exact upd_same _ _ _| simp (disch := omega) only [upd_same, upd_ne]) (by simp) ?_
      simp -dsimp -implicitDefEqProofs (disch := omega) only [go_sem, undef, reduceAdd, reduceSub, reduceGT, reduceEqDiff, reduceMul]
      refine AW.regionL envOk ?_
      simp -dsimp -implicitDefEqProofs (disch := omega) only [go_sem, undef, reduceAdd, reduceSub, reduceGT, reduceEqDiff, reduceMul, w64, ring, rows, cubes]
      refine hN3 _ ?_
      try clear hN3 N3
      refine AW.regionL envOk ?_
      simp -dsimp -implicitDefEqProofs (disch := omega) only [go_sem, undef, reduceAdd, reduceSub, reduceGT, reduceEqDiff, reduceMul, w64, ring, rows, cubes]
      refine ⟨(k - 1, m5 + 3, L ++ [w2], a5, s5), ?_, by intro d cs hd; have e1 := hfr idx (by omega); have e2 := hfr id (by omega); have e3 := hfr (m5 + 2) (by omega); simp only [upd, tk_map, List.map_append, List.map_cons, List.map_nil, ints] at hd ⊢; grind, ?_, ?_⟩
      ·simp (disch := omega) [wks, wkA, sl, ring, rows, cubes, w64] <;> omega
      ·(try dsimp only); (first| refine ⟨⟨?_, app_le8 hLy hw2⟩, ⟨?_, ?_⟩, ho5⟩| refine ⟨⟨?_, app_le8 hLy hw2⟩, ?_, ho5⟩| refine ⟨app_le8 hLy hw2, ⟨?_, ?_⟩, ho5⟩| refine ⟨app_le8 hLy hw2, ?_, ho5⟩| refine ⟨⟨?_, app_le8 hLy hw2⟩, ho5⟩| refine ⟨app_le8 hLy hw2, ho5⟩) <;> first| omega| (simp; omega)| simp
      ·(simp; omega)
    ·try simp only [cn] at h2
     try simp -dsimp -implicitDefEqProofs (disch := omega) only [go_sem, undef, reduceAdd, reduceSub, reduceGT, reduceEqDiff, reduceMul, w64, ring, rows, cubes]
     refine hN _ ?_
     try clear hN N
     refine AW.condF rfl ?_
     refine AW.exit ?_
     simp only [thn, blk, if_true]
     refine hN4 _ ?_
     try clear hN4 N4
     refine AW.freeze 7 idx w2.length (w2.map (AV.i .i64)) rfl (by first| exact upd_same _ _ _| simp (disch := omega) only [upd_same, upd_ne]) (by simp) ?_
     simp -dsimp -implicitDefEqProofs (disch := omega) only [go_sem, undef, reduceAdd, reduceSub, reduceGT, reduceEqDiff, reduceMul]
     refine AW.regionL envOk ?_
     simp -dsimp -implicitDefEqProofs (disch := omega) only [go_sem, undef, reduceAdd, reduceSub, reduceGT, reduceEqDiff, reduceMul, w64, ring, rows, cubes]
     refine hN3 _ ?_
     try clear hN3 N3
     refine AW.regionL envOk ?_
     simp -dsimp -implicitDefEqProofs (disch := omega) only [go_sem, undef, reduceAdd, reduceSub, reduceGT, reduceEqDiff, reduceMul, w64, ring, rows, cubes]
     refine ⟨(k - 1, m4 + 9 + 3, L ++ [w2], a4, s4), ?_, by intro d cs hd; have e1 := hfr idx (by omega); have e2 := hfr id (by omega); have e3 := hfr (m4 + 9 + 2) (by omega); simp only [upd, tk_map, List.map_append, List.map_cons, List.map_nil, ints] at hd ⊢; grind, ?_, ?_⟩
     ·simp (disch := omega) [wks, wkA, sl, ring, rows, cubes, w64] <;> omega
     ·(try dsimp only); (first| refine ⟨⟨?_, app_le8 hLy hw2⟩, ⟨?_, ?_⟩, ho4⟩| refine ⟨⟨?_, app_le8 hLy hw2⟩, ?_, ho4⟩| refine ⟨app_le8 hLy hw2, ⟨?_, ?_⟩, ho4⟩| refine ⟨app_le8 hLy hw2, ?_, ho4⟩| refine ⟨⟨?_, app_le8 hLy hw2⟩, ho4⟩| refine ⟨app_le8 hLy hw2, ho4⟩) <;> first| omega| (simp; omega)| simp
     ·(simp; omega)
  ·try simp only [cn] at h1
   refine AW.exit ?_
   simp only [thn, blk, if_true]
   refine hN1 _ ?_
   try clear hN1 N1
   refine AW.sr envOk (fun N hN => ?_)
   simp -dsimp -implicitDefEqProofs (disch := omega) only [go_sem, undef, reduceAdd, reduceSub, reduceGT, reduceEqDiff, reduceMul, w64, ring, rows, cubes]
   refine hN _ ?_
   try clear hN N
   refine AW.ret ?_
   simp -dsimp -implicitDefEqProofs (disch := omega) only [go_sem, undef, reduceAdd, reduceSub, reduceGT, reduceEqDiff, reduceMul]
   exact ⟨_, fun _ _ h => h, id, L, a2, s2, rfl, by omega, hLy, ⟨by omega, by omega⟩, ho2, upd_same _ _ _, fun i hi => upd_ne _ _ (by omega)⟩
end Go.Proofs.Ytdghgmgppecncaa
