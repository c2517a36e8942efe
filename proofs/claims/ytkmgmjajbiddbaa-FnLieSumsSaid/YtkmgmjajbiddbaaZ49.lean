import Derived.Test.YtkmgmjajbiddbaaZ48
set_option linter.unusedVariables false
set_option linter.unusedSimpArgs false
namespace Go.Proofs.Ytkmgmjajbiddbaa
open Nat (reduceAdd reduceSub reduceGT reduceEqDiff reduceMul)
def drwP (bs : List Int) (sid nx : Nat) (H : HP) : Nat → HP → AV → Prop := fun _ H' r => ∃ p X Y a' s', r = ring p X Y ∧ ringlen X Y ∧ X.length ≤ 6 ∧ (-1000 ≤ p ∧ p ≤ 1000) ∧ srOk bs a' s' ∧ ∀ i, i < nx → H' i = upd H sid (some (srB bs a' s')) i
theorem spec_l31Draw_p (bs : List Int) (a s : Int) (ho : srOk bs a s) (nx : Nat) (H : HP) (sid : Nat) (hH : H sid = some (srB bs a s)) (hsn : sid < nx) : AC Try.prog 73 nx H [.q sid 0] (drwP bs sid nx H) :=
  (spec_l31Draw_o bs a s ho nx H sid hH).frz fun nx' H' r h => by
    obtain ⟨h, a', s', ho', hs', hf⟩ := h
    have hfr : ∀ i, i < nx → H' i = upd H sid (some (srB bs a' s')) i := fun i hi => by
      by_cases e : i = sid
      · subst e; rw [upd_same]; exact hs'
      · rw [upd_ne _ _ e]; exact hf i hi e
    rcases h with ⟨o, n, p, P, q, X, Y, ho, hn, hp, rfl, hV⟩ | rfl
    · obtain ⟨H2, g1, g2, g3⟩ := hV.fz (p := p) (o := o)
      exact ⟨H2, _, g1, g2, p, X, _, a', s', rfl, hV.rl hn.2, by rw [hV.xl]; exact hn.2, hp, ho', fun i hi => (g3 i hi).trans (hfr i hi)⟩
    · exact ⟨H', _, FzH.refl, nil_fz, 3, [], [], a', s', rfl, ⟨by simp, by simp, by simp, by simp, by simp⟩, by simp, by omega, ho', hfr⟩
theorem il_set {w : List Int} {k : Nat} {x : Int} (h : k < w.length) : splice (w.map (AV.i .i64)) k [.i .i64 x] = (w.set k x).map (AV.i .i64) := by rw [splice_one _ _ _ (by simpa using h), List.map_set]
def elmO (bs : List Int) (sid nx : Nat) (H : HP) : Nat → HP → AV → Prop := fun nx' H' r => ∃ (id : Nat) (w : List Int) (a' s' : Int), r = .h id 0 w.length ∧ w.length ≤ 8 ∧ (nx ≤ id ∧ id < nx') ∧ srOk bs a' s' ∧ H' id = some (w.map (.i .i64)) ∧ ∀ i, i < nx → H' i = upd H sid (some (srB bs a' s')) i
def elmP (bs : List Int) (sid nx : Nat) (H : HP) : Nat → HP → AV → Prop := fun _ H' r => ∃ w a' s', r = ints w ∧ w.length ≤ 8 ∧ srOk bs a' s' ∧ ∀ i, i < nx → H' i = upd H sid (some (srB bs a' s')) i
set_option maxHeartbeats 1000000 in
theorem spec_l31Element_o (bs : List Int) (a s : Int) (ho : srOk bs a s) (p : Int) (X : List (List Int)) (Y : List (List (List Int))) (hX : X.length ≤ 6) (hp : p ≤ 1000) (nx : Nat) (H : HP) (sid : Nat) (hH : H sid = some (srB bs a s)) : AC Try.prog 74 nx H [.q sid 0, ring p X Y] (elmO bs sid nx H) := by
 refine AC.introx envOk Try.func74 rfl (by kernel_rfl) Try.ntmps74 Try.results74 (fun hfr => ?_)
 have hsn := hfr_lt hfr hH
 refine AW.sr envOk (fun N hN => ?_)
 simp -dsimp -implicitDefEqProofs (disch := omega) only [go_sem, undef, reduceAdd, reduceSub, reduceGT, reduceEqDiff, reduceMul, w64, ring, rows, cubes]
 refine hN _ ?_
 try clear hN N
 refine AW.freezeQ 3 nx _ rfl (upd_same _ _ _) ?_
 simp -dsimp -implicitDefEqProofs (disch := omega) only [go_sem, undef, reduceAdd, reduceSub, reduceGT, reduceEqDiff, reduceMul]
 refine AW.sr envOk (fun N hN => ?_)
 simp -dsimp -implicitDefEqProofs (disch := omega) only [go_sem, undef, reduceAdd, reduceSub, reduceGT, reduceEqDiff, reduceMul, w64, ring, rows, cubes]
 refine hN _ ?_
 try clear hN N
 refine AW.seq (fun N1 hN1 => ?_)
 refine AW.sr envOk (fun N hN => ?_)
 simp -dsimp -implicitDefEqProofs (disch := omega) only [go_sem, undef, reduceAdd, reduceSub, reduceGT, reduceEqDiff, reduceMul, w64, ring, rows, cubes]
 refine hN _ ?_
 try clear hN N
 refine AW.block ?_
 refine AW.loopN (α := Nat × Nat × List Int × Int × Int) (fun x => sl 41 [(0, .q sid 0), (3, .p 0 [.i .i64 p, rows X, cubes Y]), (5, .h x.2.1 0 x.2.2.1.length), (6, .i .i64 x.1)]) (fun x => upd (upd H sid (some (srB bs x.2.2.2.1 x.2.2.2.2))) x.2.1 (some (x.2.2.1.map (.i .i64)))) (fun x m => ((x.1 ≤ X.length ∧ x.2.2.1.length = x.1) ∧ nx ≤ x.2.1 ∧ x.2.1 < m) ∧ srOk bs x.2.2.2.1 x.2.2.2.2) (fun x => X.length - x.1) ((0, nx + 2, [], a, s)) ?_ ?_ (by intro d cs hd; have hnn := hfr nx (Nat.le_refl _); have hn2 := hfr (nx + 2) (by omega); simp only [upd, List.map_nil] at hd ⊢; grind) ?_
 ·exact ⟨⟨⟨Nat.zero_le _, rfl⟩, by first| omega| (simp only; omega)| (dsimp only; omega), by first| omega| (simp only; omega)| (dsimp only; omega)⟩, ho⟩
 ·simp (disch := omega) [wks, wkA, sl, ring, rows, cubes] <;> omega
 ·skip
  rintro ⟨k, id, w, a2, s2⟩ m ⟨⟨⟨hk, hw⟩, hid1, hid2⟩, ho2⟩
  dsimp only at hk hw hid1 hid2 ho2 ⊢
  simp only [rows, cubes]
  simp -dsimp -implicitDefEqProofs (disch := omega) only [go_sem, undef, reduceAdd, reduceSub, reduceGT, reduceEqDiff, reduceMul]
  refine AW.seq (fun N2 hN2 => ?_)
  refine AW.sr envOk (fun N hN => ?_)
  simp -dsimp -implicitDefEqProofs (disch := omega) only [go_sem, undef, reduceAdd, reduceSub, reduceGT, reduceEqDiff, reduceMul, w64, ring, rows, cubes]
  refine hN _ ?_
  try clear hN N
  refine AW.cond rfl (fun h1 => ?_) (fun h1 => ?_)
  ·try simp only [cn] at h1
   refine AW.skip ?_
   simp only [thn, blk]
   refine hN2 _ ?_
   try clear hN2 N2
   refine AW.seq (fun N3 hN3 => ?_)
   refine AW.block ?_
   refine AW.regionL envOk ?_
   simp -dsimp -implicitDefEqProofs (disch := omega) only [go_sem, undef, reduceAdd, reduceSub, reduceGT, reduceEqDiff, reduceMul, w64, ring, rows, cubes]
   refine (spec_l01Next_o bs a2 s2 ho2 p (by omega) _ _ sid ((upd_ne _ _ (by omega)).trans (upd_same _ _ _))).mono2 ?_
   rintro m2 H2 r2 hm2 ⟨x, a3, s3, rfl, hx, ho3, rfl⟩
   try simp -dsimp -implicitDefEqProofs (disch := omega) only [go_sem, undef, reduceAdd, reduceSub, reduceGT, reduceEqDiff, reduceMul, w64, ring, rows, cubes]
   refine hN3 _ ?_
   try clear hN3 N3
   refine AW.regionL envOk ?_
   simp -dsimp -implicitDefEqProofs (disch := omega) only [go_sem, undef, reduceAdd, reduceSub, reduceGT, reduceEqDiff, reduceMul, w64, ring, rows, cubes]
   refine ⟨(k + 1, m + 5 + 6, w ++ [x], a3, s3), ?_, by intro d cs hd; simp only [upd, tk_map, List.map_append, List.map_cons, List.map_nil] at hd ⊢; grind, ?_, ?_⟩
   ·simp (disch := omega) [wks, wkA, sl, ring, rows, cubes, w64] <;> omega
   ·(try dsimp only); first| exact ⟨⟨⟨by omega, by simp; omega⟩, by omega, by omega⟩, ho3⟩| (simp; omega)
   ·first | omega | (simp only; omega)
  ·try simp only [cn] at h1
   refine AW.exit ?_
   simp only [thn, blk, if_true]
   refine hN1 _ ?_
   try clear hN1 N1
   refine AW.seq (fun N4 hN4 => ?_)
   refine AW.sr envOk (fun N hN => ?_)
   simp -dsimp -implicitDefEqProofs (disch := omega) only [go_sem, undef, reduceAdd, reduceSub, reduceGT, reduceEqDiff, reduceMul, w64, ring, rows, cubes]
   refine (spec_l01Next_o bs a2 s2 ho2 40 (by omega) _ _ sid ((upd_ne _ _ (by omega)).trans (upd_same _ _ _))).mono2 ?_
   rintro m3 H3 r3 hm3 ⟨y, a4, s4, rfl, hy, ho4, rfl⟩
   try simp -dsimp -implicitDefEqProofs (disch := omega) only [go_sem, undef, reduceAdd, reduceSub, reduceGT, reduceEqDiff, reduceMul, w64, ring, rows, cubes]
   refine hN _ ?_
   try clear hN N
   refine AW.cond rfl (fun h2 => ?_) (fun h2 => ?_)
   ·try simp only [cn] at h2
    have htk : List.take w.length (List.map (AV.i IntKind.i64) w) = List.map (AV.i .i64) w := List.take_of_length_le (by simp)
    refine AW.regionL envOk ?_
    simp -dsimp -implicitDefEqProofs (disch := omega) only [go_sem, undef, reduceAdd, reduceSub, reduceGT, reduceEqDiff, reduceMul, w64, ring, rows, cubes]
    refine hN4 _ ?_
    try clear hN4 N4
    refine AW.seq (fun N5 hN5 => ?_)
    refine AW.nameH (fun G hG => ?_)
    dsimp only at hG
    have hgf : ∀ i, i < nx → i ≠ sid → G i = H i := fun i g1 g2 => by rw [← hG]; simp (disch := omega) only [upd_ne]
    first| (have hgw : G (m3 + 2) = some ((w ++ [0]).map (AV.i .i64)) := by rw [← hG, upd_same, htk, List.map_append]; rfl)| (have hgw : G id = some (w.map (AV.i .i64)) := by rw [← hG]; simp (disch := omega) only [upd_same, upd_ne])
    refine AW.sr envOk (fun N hN => ?_)
    simp -dsimp -implicitDefEqProofs (disch := omega) only [go_sem, undef, reduceAdd, reduceSub, reduceGT, reduceEqDiff, reduceMul, w64, ring, rows, cubes]
    refine (spec_l01Next_o bs a4 s4 ho4 40 (by omega) _ _ sid (by rw [← hG]; simp (disch := omega) only [upd_same, upd_ne])).mono2 ?_
    rintro m4 H4 r4 hm4 ⟨z, a5, s5, rfl, hz, ho5, rfl⟩
    try simp -dsimp -implicitDefEqProofs (disch := omega) only [go_sem, undef, reduceAdd, reduceSub, reduceGT, reduceEqDiff, reduceMul, w64, ring, rows, cubes]
    refine gopB.mk' (fun h3 => ?_) (fun h3 => ?_)
    ·try simp only [cn] at h3
     try simp -dsimp -implicitDefEqProofs (disch := omega) only [go_sem, undef, reduceAdd, reduceSub, reduceGT, reduceEqDiff, reduceMul, w64, ring, rows, cubes]
     refine hN _ ?_
     try clear hN N
     refine AW.cond rfl (fun h4 => ?_) (fun h4 => ?_)
     ·try simp only [cn] at h4
      refine AW.regionL envOk ?_
      simp -dsimp -implicitDefEqProofs (disch := omega) only [go_sem, undef, reduceAdd, reduceSub, reduceGT, reduceEqDiff, reduceMul, w64, ring, rows, cubes, hgw, List.length_map, List.length_append]
      refine hN5 _ ?_
      try clear hN5 N5
      refine AW.sr envOk (fun N hN => ?_)
      simp -dsimp -implicitDefEqProofs (disch := omega) only [go_sem, undef, reduceAdd, reduceSub, reduceGT, reduceEqDiff, reduceMul, w64, ring, rows, cubes]
      refine hN _ ?_
      try clear hN N
      refine AW.ret ?_
      simp -dsimp -implicitDefEqProofs (disch := omega) only [go_sem, undef, reduceAdd, reduceSub, reduceGT, reduceEqDiff, reduceMul]
      have hfin : ∀ (c : Option (List AV)) (d : Nat), nx ≤ d → ∀ i, i < nx → upd (upd G sid (some (srB bs a5 s5))) d c i = upd H sid (some (srB bs a5 s5)) i := fun c d hd i hi => by
       rw [upd_ne _ _ (by omega)]
       by_cases e : i = sid
       ·subst e; rw [upd_same, upd_same]
       ·rw [upd_ne _ _ e, upd_ne _ _ e]; exact hgf i hi e
      have hfin2 : ∀ i, i < nx → upd G sid (some (srB bs a5 s5)) i = upd H sid (some (srB bs a5 s5)) i := fun i hi => by
       by_cases e : i = sid
       ·subst e; rw [upd_same, upd_same]
       ·rw [upd_ne _ _ e, upd_ne _ _ e]; exact hgf i hi e
      first
      | (exfalso; omega)
      | exact ⟨_, fun _ _ h => h, m3 + 2, (w ++ [0]).set 0 p, a5, s5, by simp, by simp; omega, ⟨by omega, by omega⟩, ho5, by rw [upd_same, il_set (by simp)], hfin _ _ (by omega)⟩
      | exact ⟨_, fun _ _ h => h, m3 + 2, w ++ [0], a5, s5, by simp, by simp; omega, ⟨by omega, by omega⟩, ho5, by rw [upd_ne _ _ (by omega)]; exact hgw, hfin2⟩
      | exact ⟨_, fun _ _ h => h, id, w.set 0 p, a5, s5, by simp, by simp; omega, ⟨by omega, by omega⟩, ho5, by rw [upd_same, il_set (by omega)], hfin _ _ (by omega)⟩
      | exact ⟨_, fun _ _ h => h, id, w, a5, s5, by simp, by omega, ⟨by omega, by omega⟩, ho5, by rw [upd_ne _ _ (by omega)]; exact hgw, hfin2⟩
     ·try simp only [cn] at h4
      refine AW.skip ?_
      simp only [thn, blk]
      refine hN5 _ ?_
      try clear hN5 N5
      refine AW.sr envOk (fun N hN => ?_)
      simp -dsimp -implicitDefEqProofs (disch := omega) only [go_sem, undef, reduceAdd, reduceSub, reduceGT, reduceEqDiff, reduceMul, w64, ring, rows, cubes]
      refine hN _ ?_
      try clear hN N
      refine AW.ret ?_
      simp -dsimp -implicitDefEqProofs (disch := omega) only [go_sem, undef, reduceAdd, reduceSub, reduceGT, reduceEqDiff, reduceMul]
      have hfin : ∀ (c : Option (List AV)) (d : Nat), nx ≤ d → ∀ i, i < nx → upd (upd G sid (some (srB bs a5 s5))) d c i = upd H sid (some (srB bs a5 s5)) i := fun c d hd i hi => by
       rw [upd_ne _ _ (by omega)]
       by_cases e : i = sid
       ·subst e; rw [upd_same, upd_same]
       ·rw [upd_ne _ _ e, upd_ne _ _ e]; exact hgf i hi e
      have hfin2 : ∀ i, i < nx → upd G sid (some (srB bs a5 s5)) i = upd H sid (some (srB bs a5 s5)) i := fun i hi => by
       by_cases e : i = sid
       ·subst e; rw [upd_same, upd_same]
       ·rw [upd_ne _ _ e, upd_ne _ _ e]; exact hgf i hi e
      first
      | (exfalso; omega)
      | exact ⟨_, fun _ _ h => h, m3 + 2, (w ++ [0]).set 0 p, a5, s5, by simp, by simp; omega, ⟨by omega, by omega⟩, ho5, by rw [upd_same, il_set (by simp)], hfin _ _ (by omega)⟩
      | exact ⟨_, fun _ _ h => h, m3 + 2, w ++ [0], a5, s5, by simp, by simp; omega, ⟨by omega, by omega⟩, ho5, by rw [upd_ne _ _ (by omega)]; exact hgw, hfin2⟩
      | exact ⟨_, fun _ _ h => h, id, w.set 0 p, a5, s5, by simp, by simp; omega, ⟨by omega, by omega⟩, ho5, by rw [upd_same, il_set (by omega)], hfin _ _ (by omega)⟩
      | exact ⟨_, fun _ _ h => h, id, w, a5, s5, by simp, by omega, ⟨by omega, by omega⟩, ho5, by rw [upd_ne _ _ (by omega)]; exact hgw, hfin2⟩
    ·try simp only [cn] at h3
     try simp -dsimp -implicitDefEqProofs (disch := omega) only [go_sem, undef, reduceAdd, reduceSub, reduceGT, reduceEqDiff, reduceMul, w64, ring, rows, cubes]
     refine hN _ ?_
     try clear hN N
     refine AW.condF rfl ?_
     refine AW.skip ?_
     simp only [thn, blk]
     refine hN5 _ ?_
     try clear hN5 N5
     refine AW.sr envOk (fun N hN => ?_)
     simp -dsimp -implicitDefEqProofs (disch := omega) only [go_sem, undef, reduceAdd, reduceSub, reduceGT, reduceEqDiff, reduceMul, w64, ring, rows, cubes]
     refine hN _ ?_
     try clear hN N
     refine AW.ret ?_
     simp -dsimp -implicitDefEqProofs (disch := omega) only [go_sem, undef, reduceAdd, reduceSub, reduceGT, reduceEqDiff, reduceMul]
     have hfin : ∀ (c : Option (List AV)) (d : Nat), nx ≤ d → ∀ i, i < nx → upd (upd G sid (some (srB bs a5 s5))) d c i = upd H sid (some (srB bs a5 s5)) i := fun c d hd i hi => by
      rw [upd_ne _ _ (by omega)]
      by_cases e : i = sid
      ·subst e; rw [upd_same, upd_same]
      ·rw [upd_ne _ _ e, upd_ne _ _ e]; exact hgf i hi e
     have hfin2 : ∀ i, i < nx → upd G sid (some (srB bs a5 s5)) i = upd H sid (some (srB bs a5 s5)) i := fun i hi => by
      by_cases e : i = sid
      ·subst e; rw [upd_same, upd_same]
      ·rw [upd_ne _ _ e, upd_ne _ _ e]; exact hgf i hi e
     first
     | (exfalso; omega)
     | exact ⟨_, fun _ _ h => h, m3 + 2, (w ++ [0]).set 0 p, a5, s5, by simp, by simp; omega, ⟨by omega, by omega⟩, ho5, by rw [upd_same, il_set (by simp)], hfin _ _ (by omega)⟩
     | exact ⟨_, fun _ _ h => h, m3 + 2, w ++ [0], a5, s5, by simp, by simp; omega, ⟨by omega, by omega⟩, ho5, by rw [upd_ne _ _ (by omega)]; exact hgw, hfin2⟩
     | exact ⟨_, fun _ _ h => h, id, w.set 0 p, a5, s5, by simp, by simp; omega, ⟨by omega, by omega⟩, ho5, by rw [upd_same, il_set (by omega)], hfin _ _ (by omega)⟩
     | exact ⟨_, fun _ _ h => h, id, w, a5, s5, by simp, by omega, ⟨by omega, by omega⟩, ho5, by rw [upd_ne _ _ (by omega)]; exact hgw, hfin2⟩
   ·try simp only [cn] at h2
    refine AW.skip ?_
    simp only [thn, blk]
    refine hN4 _ ?_
    try clear hN4 N4
    refine AW.seq (fun N6 hN6 => ?_)
    refine AW.nameH (fun G hG => ?_)
    dsimp only at hG
    have hgf : ∀ i, i < nx → i ≠ sid → G i = H i := fun i g1 g2 => by rw [← hG]; simp (disch := omega) only [upd_ne]
    first| (have hgw : G (m3 + 2) = some ((w ++ [0]).map (AV.i .i64)) := by rw [← hG, upd_same, htk, List.map_append]; rfl)| (have hgw : G id = some (w.map (AV.i .i64)) := by rw [← hG]; simp (disch := omega) only [upd_same, upd_ne])
    refine AW.sr envOk (fun N hN => ?_)
    simp -dsimp -implicitDefEqProofs (disch := omega) only [go_sem, undef, reduceAdd, reduceSub, reduceGT, reduceEqDiff, reduceMul, w64, ring, rows, cubes]
    refine (spec_l01Next_o bs a4 s4 ho4 40 (by omega) _ _ sid (by rw [← hG]; simp (disch := omega) only [upd_same, upd_ne])).mono2 ?_
    rintro m4 H4 r4 hm4 ⟨z, a5, s5, rfl, hz, ho5, rfl⟩
    try simp -dsimp -implicitDefEqProofs (disch := omega) only [go_sem, undef, reduceAdd, reduceSub, reduceGT, reduceEqDiff, reduceMul, w64, ring, rows, cubes]
    refine gopB.mk' (fun h5 => ?_) (fun h5 => ?_)
    ·try simp only [cn] at h5
     try simp -dsimp -implicitDefEqProofs (disch := omega) only [go_sem, undef, reduceAdd, reduceSub, reduceGT, reduceEqDiff, reduceMul, w64, ring, rows, cubes]
     refine hN _ ?_
     try clear hN N
     refine AW.cond rfl (fun h6 => ?_) (fun h6 => ?_)
     ·try simp only [cn] at h6
      refine AW.regionL envOk ?_
      simp -dsimp -implicitDefEqProofs (disch := omega) only [go_sem, undef, reduceAdd, reduceSub, reduceGT, reduceEqDiff, reduceMul, w64, ring, rows, cubes, hgw, List.length_map, List.length_append]
      refine hN6 _ ?_
      try clear hN6 N6
      refine AW.sr envOk (fun N hN => ?_)
      simp -dsimp -implicitDefEqProofs (disch := omega) only [go_sem, undef, reduceAdd, reduceSub, reduceGT, reduceEqDiff, reduceMul, w64, ring, rows, cubes]
      refine hN _ ?_
      try clear hN N
      refine AW.ret ?_
      simp -dsimp -implicitDefEqProofs (disch := omega) only [go_sem, undef, reduceAdd, reduceSub, reduceGT, reduceEqDiff, reduceMul]
      have hfin : ∀ (c : Option (List AV)) (d : Nat), nx ≤ d → ∀ i, i < nx → upd (upd G sid (some (srB bs a5 s5))) d c i = upd H sid (some (srB bs a5 s5)) i := fun c d hd i hi => by
       rw [upd_ne _ _ (by omega)]
       by_cases e : i = sid
       ·subst e; rw [upd_same, upd_same]
       ·rw [upd_ne _ _ e, upd_ne _ _ e]; exact hgf i hi e
      have hfin2 : ∀ i, i < nx → upd G sid (some (srB bs a5 s5)) i = upd H sid (some (srB bs a5 s5)) i := fun i hi => by
       by_cases e : i = sid
       ·subst e; rw [upd_same, upd_same]
       ·rw [upd_ne _ _ e, upd_ne _ _ e]; exact hgf i hi e
      first
      | (exfalso; omega)
      | exact ⟨_, fun _ _ h => h, m3 + 2, (w ++ [0]).set 0 p, a5, s5, by simp, by simp; omega, ⟨by omega, by omega⟩, ho5, by rw [upd_same, il_set (by simp)], hfin _ _ (by omega)⟩
      | exact ⟨_, fun _ _ h => h, m3 + 2, w ++ [0], a5, s5, by simp, by simp; omega, ⟨by omega, by omega⟩, ho5, by rw [upd_ne _ _ (by omega)]; exact hgw, hfin2⟩
      | exact ⟨_, fun _ _ h => h, id, w.set 0 p, a5, s5, by simp, by simp; omega, ⟨by omega, by omega⟩, ho5, by rw [upd_same, il_set (by omega)], hfin _ _ (by omega)⟩
      | exact ⟨_, fun _ _ h => h, id, w, a5, s5, by simp, by omega, ⟨by omega, by omega⟩, ho5, by rw [upd_ne _ _ (by omega)]; exact hgw, hfin2⟩
     ·try simp only [cn] at h6
      refine AW.skip ?_
      simp only [thn, blk]
      refine hN6 _ ?_
      try clear hN6 N6
      refine AW.sr envOk (fun N hN => ?_)
      simp -dsimp -implicitDefEqProofs (disch := omega) only [go_sem, undef, reduceAdd, reduceSub, reduceGT, reduceEqDiff, reduceMul, w64, ring, rows, cubes]
      refine hN _ ?_
      try clear hN N
      refine AW.ret ?_
      simp -dsimp -implicitDefEqProofs (disch := omega) only [go_sem, undef, reduceAdd, reduceSub, reduceGT, reduceEqDiff, reduceMul]
      have hfin : ∀ (c : Option (List AV)) (d : Nat), nx ≤ d → ∀ i, i < nx → upd (upd G sid (some (srB bs a5 s5))) d c i = upd H sid (some (srB bs a5 s5)) i := fun c d hd i hi => by
       rw [upd_ne _ _ (by omega)]
       by_cases e : i = sid
       ·subst e; rw [upd_same, upd_same]
       ·rw [upd_ne _ _ e, upd_ne _ _ e]; exact hgf i hi e
      have hfin2 : ∀ i, i < nx → upd G sid (some (srB bs a5 s5)) i = upd H sid (some (srB bs a5 s5)) i := fun i hi => by
       by_cases e : i = sid
       ·subst e; rw [upd_same, upd_same]
       ·rw [upd_ne _ _ e, upd_ne _ _ e]; exact hgf i hi e
      first
      | (exfalso; omega)
      | exact ⟨_, fun _ _ h => h, m3 + 2, (w ++ [0]).set 0 p, a5, s5, by simp, by simp; omega, ⟨by omega, by omega⟩, ho5, by rw [upd_same, il_set (by simp)], hfin _ _ (by omega)⟩
      | exact ⟨_, fun _ _ h => h, m3 + 2, w ++ [0], a5, s5, by simp, by simp; omega, ⟨by omega, by omega⟩, ho5, by rw [upd_ne _ _ (by omega)]; exact hgw, hfin2⟩
      | exact ⟨_, fun _ _ h => h, id, w.set 0 p, a5, s5, by simp, by simp; omega, ⟨by omega, by omega⟩, ho5, by rw [upd_same, il_set (by omega)], hfin _ _ (by omega)⟩
      | exact ⟨_, fun _ _ h => h, id, w, a5, s5, by simp, by omega, ⟨by omega, by omega⟩, ho5, by rw [upd_ne _ _ (by omega)]; exact hgw, hfin2⟩
    ·try simp only [cn] at h5
     try simp -dsimp -implicitDefEqProofs (disch := omega) only [go_sem, undef, reduceAdd, reduceSub, reduceGT, reduceEqDiff, reduceMul, w64, ring, rows, cubes]
     refine hN _ ?_
     try clear hN N
     refine AW.condF rfl ?_
     refine AW.skip ?_
     simp only [thn, blk]
     refine hN6 _ ?_
     try clear hN6 N6
     refine AW.sr envOk (fun N hN => ?_)
     simp -dsimp -implicitDefEqProofs (disch := omega) only [go_sem, undef, reduceAdd, reduceSub, reduceGT, reduceEqDiff, reduceMul, w64, ring, rows, cubes]
     refine hN _ ?_
     try clear hN N
     refine AW.ret ?_
     simp -dsimp -implicitDefEqProofs (disch := omega) only [go_sem, undef, reduceAdd, reduceSub, reduceGT, reduceEqDiff, reduceMul]
     have hfin : ∀ (c : Option (List AV)) (d : Nat), nx ≤ d → ∀ i, i < nx → upd (upd G sid (some (srB bs a5 s5))) d c i = upd H sid (some (srB bs a5 s5)) i := fun c d hd i hi => by
      rw [upd_ne _ _ (by omega)]
      by_cases e : i = sid
      ·subst e; rw [upd_same, upd_same]
      ·rw [upd_ne _ _ e, upd_ne _ _ e]; exact hgf i hi e
     have hfin2 : ∀ i, i < nx → upd G sid (some (srB bs a5 s5)) i = upd H sid (some (srB bs a5 s5)) i := fun i hi => by
      by_cases e : i = sid
      ·subst e; rw [upd_same, upd_same]
      ·rw [upd_ne _ _ e, upd_ne _ _ e]; exact hgf i hi e
     first
     | (exfalso; omega)
     | exact ⟨_, fun _ _ h => h, m3 + 2, (w ++ [0]).set 0 p, a5, s5, by simp, by simp; omega, ⟨by omega, by omega⟩, ho5, by rw [upd_same, il_set (by simp)], hfin _ _ (by omega)⟩
     | exact ⟨_, fun _ _ h => h, m3 + 2, w ++ [0], a5, s5, by simp, by simp; omega, ⟨by omega, by omega⟩, ho5, by rw [upd_ne _ _ (by omega)]; exact hgw, hfin2⟩
     | exact ⟨_, fun _ _ h => h, id, w.set 0 p, a5, s5, by simp, by simp; omega, ⟨by omega, by omega⟩, ho5, by rw [upd_same, il_set (by omega)], hfin _ _ (by omega)⟩
     | exact ⟨_, fun _ _ h => h, id, w, a5, s5, by simp, by omega, ⟨by omega, by omega⟩, ho5, by rw [upd_ne _ _ (by omega)]; exact hgw, hfin2⟩
theorem spec_l31Element_p (bs : List Int) (a s : Int) (ho : srOk bs a s) (p : Int) (X : List (List Int)) (Y : List (List (List Int))) (hX : X.length ≤ 6) (hp : p ≤ 1000) (nx : Nat) (H : HP) (sid : Nat) (hH : H sid = some (srB bs a s)) : AC Try.prog 74 nx H [.q sid 0, ring p X Y] (elmP bs sid nx H) :=
  (spec_l31Element_o bs a s ho p X Y hX hp nx H sid hH).frz fun nx' H' r ⟨id, w, a', s', h0, h1, h2, h3, h4, h5⟩ => by
    subst h0
    exact ⟨_, _, FzH.del (id := id), Fz.blk h4 (by simp), w, a', s', rfl, h1, h3, fun i hi => by rw [upd_ne _ _ (by omega)]; exact h5 i hi⟩
def twoK : Nat → HP → AV → Prop := fun _ _ r => ∃ p X Y a b, r = .t [ring p X Y, ints a, ints b] ∧ ringlen X Y ∧ X.length ≤ 6 ∧ a.length ≤ 8 ∧ b.length ≤ 8
theorem spec_l31Two_p (bs : List Int) (hb : bytsok bs) (hb4 : bs.length ≤ 4096) (nx : Nat) : AC Try.prog 47 nx noH [byts bs] twoK := by
 refine AC.introx envOk Try.func47 rfl (by kernel_rfl) Try.ntmps47 Try.results47 (fun hfr => ?_)
 refine AW.sr envOk (fun N hN => ?_)
 simp -dsimp -implicitDefEqProofs (disch := omega) only [go_sem, undef, reduceAdd, reduceSub, reduceGT, reduceEqDiff, reduceMul, ring, rows, cubes, w64]
 refine hN _ ?_
 try clear hN N
 refine AW.sr envOk (fun N hN => ?_)
 simp -dsimp -implicitDefEqProofs (disch := omega) only [go_sem, undef, reduceAdd, reduceSub, reduceGT, reduceEqDiff, reduceMul, ring, rows, cubes, w64]
 refine AC.mono2 (AC.frame (spec_l01From_n bs hb hb4 _)) ?_
 rintro m1 H1 r1 hm1 ⟨H0, ⟨sid, a1, s1, rfl, hsid1, hsid2, ho1, hs0⟩, hlow, hhigh⟩
 have hs1 := (hhigh sid hsid1).trans hs0
 have h01 : H1 nx = some [.i .i64 0, .nl, .nl] := (hlow nx (by omega)).trans (upd_same _ _ _)
 try simp -dsimp -implicitDefEqProofs (disch := omega) only [go_sem, undef, reduceAdd, reduceSub, reduceGT, reduceEqDiff, reduceMul, ring, rows, cubes, w64]
 refine hN _ ?_
 try clear hN N
 refine AW.sr envOk (fun N hN => ?_)
 simp -dsimp -implicitDefEqProofs (disch := omega) only [go_sem, undef, reduceAdd, reduceSub, reduceGT, reduceEqDiff, reduceMul, ring, rows, cubes, w64]
 refine (spec_l31Draw_p bs a1 s1 ho1 _ _ sid hs1 (by omega)).mono2 ?_
 rintro m2 H2 r2 hm2 ⟨p, X, Y, a2, s2, rfl, hl, h6, hp, ho2, hf2⟩
 try simp -dsimp -implicitDefEqProofs (disch := omega) only [go_sem, undef, reduceAdd, reduceSub, reduceGT, reduceEqDiff, reduceMul, ring, rows, cubes, w64]
 refine hN _ ?_
 try clear hN N
 refine AW.freezeQ 6 (m1 + 2) _ rfl (upd_same _ _ _) ?_
 simp -dsimp -implicitDefEqProofs (disch := omega) only [go_sem, undef, reduceAdd, reduceSub, reduceGT, reduceEqDiff, reduceMul]
 refine AW.nameH (fun G hG => ?_)
 dsimp only at hG
 have hs2 : G sid = some (srB bs a2 s2) := by rw [← hG, upd_ne _ _ (by omega)]; exact (hf2 sid (by omega)).trans (upd_same _ _ _)
 have h02 : G nx = some [.i .i64 0, .nl, .nl] := by rw [← hG, upd_ne _ _ (by omega)]; exact (hf2 nx (by omega)).trans ((upd_ne _ _ (by omega)).trans h01)
 refine AW.sr envOk (fun N hN => ?_)
 simp -dsimp -implicitDefEqProofs (disch := omega) only [go_sem, undef, reduceAdd, reduceSub, reduceGT, reduceEqDiff, reduceMul, ring, rows, cubes, w64]
 refine (spec_l31Element_p bs a2 s2 ho2 p X Y h6 (by omega) _ _ sid hs2).mono2 ?_
 rintro m3 H3 r3 hm3 ⟨w, a3, s3, rfl, hw, ho3, hf3⟩
 have hs3 : H3 sid = some (srB bs a3 s3) := (hf3 sid (by omega)).trans (upd_same _ _ _)
 have h03 : H3 nx = some [.i .i64 0, .nl, .nl] := (hf3 nx (by omega)).trans ((upd_ne _ _ (by omega)).trans h02)
 try simp -dsimp -implicitDefEqProofs (disch := omega) only [go_sem, undef, reduceAdd, reduceSub, reduceGT, reduceEqDiff, reduceMul, ring, rows, cubes, w64]
 refine hN _ ?_
 try clear hN N
 refine AW.seq (fun N hN => ?_)
 refine AW.drawF envOk (by kernel_rfl) [true, true, true, true, false, false, false, false] (by kernel_rfl) ?_
 simp -dsimp -implicitDefEqProofs (disch := omega) only [go_sem, undef, reduceAdd, reduceSub, reduceGT, reduceEqDiff, reduceMul, ring, rows, cubes, w64]
 refine (spec_l31Element_p bs a3 s3 ho3 p X Y h6 (by omega) _ _ sid hs3).mono2 ?_
 rintro m4 H4 r4 hm4 ⟨w2, a4, s4, rfl, hw2, ho4, hf4⟩
 have h04 : H4 nx = some [.i .i64 0, .nl, .nl] := (hf4 nx (by omega)).trans ((upd_ne _ _ (by omega)).trans h03)
 try simp -dsimp -implicitDefEqProofs (disch := omega) only [go_sem, undef, reduceAdd, reduceSub, reduceGT, reduceEqDiff, reduceMul, ring, rows, cubes, w64, h04]
 refine hN _ ?_
 try clear hN N
 refine AW.ret ?_
 simp -dsimp -implicitDefEqProofs (disch := omega) only [go_sem, undef, reduceAdd, reduceSub, reduceGT, reduceEqDiff, reduceMul]
 exact ⟨_, fun _ _ h => h, p, X, Y, w, w2, rfl, hl, h6, hw, hw2⟩
theorem spec_DrawAddLie_p (bs : List Int) (hb : bytsok bs) (hb4 : bs.length ≤ 4096) (nx : Nat) : AC Try.prog 15 nx noH [byts bs] twoK := by
 refine AC.introx envOk Try.func15 rfl (by kernel_rfl) Try.ntmps15 Try.results15 (fun hfr => ?_)
 refine AW.sr envOk (fun N hN => ?_)
 simp -dsimp -implicitDefEqProofs (disch := omega) only [go_sem, undef, reduceAdd, reduceSub, reduceGT, reduceEqDiff, reduceMul, ring, rows, cubes]
 refine hN _ ?_
 try clear hN N
 refine AW.sr envOk (fun N hN => ?_)
 simp -dsimp -implicitDefEqProofs (disch := omega) only [go_sem, undef, reduceAdd, reduceSub, reduceGT, reduceEqDiff, reduceMul, ring, rows, cubes]
 refine AC.mono2 (AC.frame (spec_l31Two_p bs hb hb4 _)) ?_
 rintro m1 H1 r1 hm1 ⟨H0, ⟨p, X, Y, a, b, rfl, hl, h6, ha, hb⟩, hlow, hhigh⟩
 have h01 : H1 nx = some [.i .i64 0, .nl, .nl] := (hlow nx (by omega)).trans (upd_same _ _ _)
 try simp -dsimp -implicitDefEqProofs (disch := omega) only [go_sem, undef, reduceAdd, reduceSub, reduceGT, reduceEqDiff, reduceMul, ring, rows, cubes, h01]
 refine hN _ ?_
 try clear hN N
 refine AW.ret ?_
 simp -dsimp -implicitDefEqProofs (disch := omega) only [go_sem, undef, reduceAdd, reduceSub, reduceGT, reduceEqDiff, reduceMul]
 exact ⟨_, fun _ _ h => h, p, X, Y, a, b, rfl, hl, h6, ha, hb⟩
end Go.Proofs.Ytkmgmjajbiddbaa
