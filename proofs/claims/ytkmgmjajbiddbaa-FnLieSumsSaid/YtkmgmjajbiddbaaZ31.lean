import Derived.Test.YtkmgmjajbiddbaaZ22
import Derived.Test.YtkmgmjajbiddbaaZ28
import Derived.Test.YtkmgmjajbiddbaaZ30
set_option linter.unusedVariables false
set_option linter.unusedSimpArgs false
namespace Go.Proofs.Ytkmgmjajbiddbaa
open Nat (reduceAdd reduceSub reduceGT reduceEqDiff reduceMul)
theorem slices_Clone_n (a : List Int) (ha : a.length ≤ 1099511627776) (nx : Nat) (H : HP) : AC Try.prog 66 nx H [ints a] (fun nx' H' r => FrI nx nx' H H' r a.length (fun k => a.getD k 0) ∨ (a.length = 0 ∧ r = .nl ∧ H' = H)) := by
  refine AC.introx envOk Try.func66 rfl (by kernel_rfl) Try.ntmps66 Try.results66 (fun hfr => ?_)
  refine AW.sr envOk (fun N hN => ?_)
  simp -dsimp -implicitDefEqProofs (disch := omega) only [go_sem, undef, reduceAdd, reduceSub, reduceGT, reduceEqDiff, reduceMul, ints]
  refine hN _ ?_
  try clear hN N
  refine AW.seq (fun N1 hN1 => ?_)
  refine AW.sr envOk (fun N hN => ?_)
  simp -dsimp -implicitDefEqProofs (disch := omega) only [go_sem, undef, reduceAdd, reduceSub, reduceGT, reduceEqDiff, reduceMul, ints]
  refine ⟨⟨_, _, rfl, rfl⟩, ⟨fun h0 => ?_, ?_⟩⟩
  · refine hN _ ?_
    try clear hN N
    refine AW.condT rfl ?_
    refine AW.sr envOk (fun N hN => ?_)
    simp -dsimp -implicitDefEqProofs (disch := omega) only [go_sem, undef, reduceAdd, reduceSub, reduceGT, reduceEqDiff, reduceMul, ]
    refine hN _ ?_
    try clear hN N
    refine AW.ret ?_
    simp -dsimp -implicitDefEqProofs (disch := omega) only [go_sem, undef, reduceAdd, reduceSub, reduceGT, reduceEqDiff, reduceMul]
    first
    | exact ⟨H, Le.refl _, .inr h0⟩
    | exact ⟨H, Le.refl _, .inr rfl⟩
  · refine hN _ ?_
    try clear hN N
    refine AW.condF rfl ?_
    refine AW.skip ?_
    simp only [thn, blk]
    refine hN1 _ ?_
    try clear hN1 N1
    refine AW.sr envOk (fun N hN => ?_)
    simp -dsimp -implicitDefEqProofs (disch := omega) only [go_sem, undef, reduceAdd, reduceSub, reduceGT, reduceEqDiff, reduceMul, ints]
    refine hN _ ?_
    try clear hN N
    refine AW.ret ?_
    simp -dsimp -implicitDefEqProofs (disch := omega) only [go_sem, undef, reduceAdd, reduceSub, reduceGT, reduceEqDiff, reduceMul]
    refine ⟨upd H (nx + 1 + 2 + 2) (some (ivs a.length fun k => a.getD k 0)), ?_, Or.inl ⟨nx + 1 + 2 + 2, rfl, by omega, by omega, rfl⟩⟩
    rw [map_ivs]
    intro i c hi
    have hlt : H i = some c → i < nx := fun h => by apply Classical.byContradiction; intro hn; rw [hfr i (by omega)] at h; cases h
    simp only [upd] at hi ⊢
    split at hi
    · rename_i e; subst e; cases hi; repeat (first | rw [if_pos rfl] | rw [if_neg (by omega)])
    · have := hlt hi; repeat rw [if_neg (by omega)]
      exact hi
def nxtL (p : Int) (L : List (List Int)) (i j : Nat) : List (List Int) := ((L.take i).flatMap fun x => (List.range p.toNat).map fun (k : Nat) => x ++ [(k : Int)]) ++ (List.range j).map fun (k : Nat) => L.getD i [] ++ [(k : Int)]
section
variable {p : Int} {L : List (List Int)}
theorem nxt_0 : nxtL p L 0 0 = [] := by simp [nxtL]
theorem nxt_s {i j : Nat} : nxtL p L i (j + 1) = nxtL p L i j ++ [L.getD i [] ++ [(j : Int)]] := by
  unfold nxtL; rw [List.range_succ, List.map_append, List.append_assoc]; rfl
theorem nxt_n {i j : Nat} (h : i < L.length) (hj : j = p.toNat) : nxtL p L i j = nxtL p L (i + 1) 0 := by
  subst hj
  unfold nxtL
  rw [List.take_add_one, List.flatMap_append]
  simp [h]
theorem nxt_all {m : Nat} (hL : L = allL p m) : nxtL p L L.length 0 = allL p (m + 1) := by
  subst hL
  unfold nxtL; rw [List.take_length]; simp [allL]
theorem nxt_len {i j : Nat} : (nxtL p L i j).length ≤ i * p.toNat + j := by
  unfold nxtL
  rw [List.length_append, List.length_map, List.length_range]
  have go : ∀ L : List (List Int), (L.flatMap fun x => (List.range p.toNat).map fun (k : Nat) => x ++ [(k : Int)]).length = L.length * p.toNat := by
    intro L
    induction L with
    | nil => simp
    | cons x L ih => rw [List.flatMap_cons, List.length_append, ih, List.length_map, List.length_range, List.length_cons, Nat.succ_mul]; omega
  rw [go, List.length_take]
  have : min i L.length * p.toNat ≤ i * p.toNat := Nat.mul_le_mul_right _ (by omega)
  omega
end
theorem all_len {p : Int} : ∀ n, (allL p n).length = p.toNat ^ n := by
  intro n
  induction n with
  | zero => rfl
  | succ n ih =>
    have go : ∀ L : List (List Int), (L.flatMap fun x => (List.range p.toNat).map fun (k : Nat) => x ++ [(k : Int)]).length = L.length * p.toNat := by
      intro L
      induction L with
      | nil => simp
      | cons x L ih => rw [List.flatMap_cons, List.length_append, ih, List.length_map, List.length_range, List.length_cons, Nat.succ_mul]; omega
    show ((allL p n).flatMap _).length = _
    rw [go, ih, Nat.pow_succ]
theorem all_le {p : Int} {n m : Nat} (hp : 2 ≤ p) (h : p ^ n ≤ 729) (hm : m ≤ n) : (allL p m).length ≤ 729 ∧ 0 < (allL p m).length := by
  rw [all_len]
  have h1 : p.toNat ^ m ≤ p.toNat ^ n := Nat.pow_le_pow_right (by omega) hm
  have h2 : ((p.toNat ^ n : Nat) : Int) = p ^ n := by rw [Int.natCast_pow, Int.toNat_of_nonneg (by omega)]
  have h3 : 0 < p.toNat ^ m := Nat.pow_pos (by omega)
  omega
def NxI (p : Int) (L : List (List Int)) (i j nx m : Nat) (o : Option Nat) : Prop := nx ≤ m ∧ (o = none → nxtL p L i j = []) ∧ (∀ id, o = some id → nx ≤ id ∧ id < m)
theorem NxI.start {p : Int} {L : List (List Int)} {nx m : Nat} (h : nx ≤ m) : NxI p L 0 0 nx m none := ⟨h, fun _ => nxt_0, by simp⟩
theorem NxI.next {p : Int} {L : List (List Int)} {i j nx m m' id' : Nat} {o : Option Nat} (h : NxI p L i j nx m o) (h1 : nx ≤ id') (h2 : id' < m') : NxI p L i (j + 1) nx m' (some id') := ⟨by omega, by simp, fun id hid => by cases hid; exact ⟨h1, h2⟩⟩
theorem NxI.mm {p : Int} {L : List (List Int)} {i j nx m m' : Nat} {o : Option Nat} (h : NxI p L i j nx m o) (hm : m ≤ m') : NxI p L i j nx m' o := ⟨by have := h.1; omega, h.2.1, fun id hid => by have := h.2.2 id hid; omega⟩
theorem NxI.row {p : Int} {L : List (List Int)} {i j nx m m' : Nat} {o : Option Nat} (h : NxI p L i j nx m o) (hi : i < L.length) (hj : j = p.toNat) (hm : m ≤ m') : NxI p L (i + 1) 0 nx m' o := by
  have := h.mm hm
  exact ⟨this.1, by rw [← nxt_n hi hj]; exact this.2.1, this.2.2⟩
theorem AW.fzrow {P : Program} {c : Code} {s : St} {K : Exit → St → Prop} (i j n : Nat) (W : List (List Int)) (x : List Int) {xs ds : List AV} (h1 : s.H i = some xs) (hxs : xs = W.map ints ++ [.h j 0 n]) (h2 : s.H j = some ds) (hds : ds = x.map (.i .i64)) (hn : n = x.length) (hij : i ≠ j)
    (hs : AW P c ⟨s.t, upd (upd s.H j none) i (some ((W ++ [x]).map ints)), s.nx⟩ K) : AW P c s K := by
  subst hxs hds hn
  refine AW.fzpush i j x.length (W.map ints) (x.map (.i .i64)) h1 h2 (by simp) hij ?_
  rw [List.map_append] at hs
  exact hs
theorem one_h (a b c : Nat) : (∀ z ∈ [AV.h a b c], one z = true) = True := one_list rfl
theorem lt_toNat {j : Nat} {p : Int} (h : p ≤ (j : Int)) (hj : (j : Int) ≤ p) : j = p.toNat := by omega
theorem impl_allLie_ok (p : Int) (pw : List (List Int)) (br : List (List (List Int))) (hp : 2 ≤ p) (hp7 : p ≤ 7) (h6 : pw.length ≤ 6) (h9 : p ^ pw.length ≤ 729) : ACp Try.prog 36 [ringP p pw br] (rows (allL p pw.length)) := by
 refine ACp.introV envOk Try.func36 rfl (by kernel_rfl) Try.ntmps36 Try.results36 ((rows_nr _)) (fun nx => ?_)
 refine AW.sr envOk (fun N hN => ?_)
 simp -dsimp -implicitDefEqProofs (disch := omega) only [go_sem, undef, reduceAdd, reduceSub, reduceGT, reduceEqDiff, reduceMul, ringP, rows, gd_r, w64, one_h]
 refine hN _ ?_
 try clear hN N
 refine AW.sr envOk (fun N hN => ?_)
 simp -dsimp -implicitDefEqProofs (disch := omega) only [go_sem, undef, reduceAdd, reduceSub, reduceGT, reduceEqDiff, reduceMul, ringP, rows, gd_r, w64, one_h]
 refine hN _ ?_
 try clear hN N
 refine AW.seq (fun N1 hN1 => ?_)
 refine AW.fzrow (nx + 1 + 1) (nx + 1) 0 [] [] (upd_same _ _ _) rfl ((upd_ne _ _ (by omega)).trans (upd_same _ _ _)) rfl rfl (by omega) ?_
 simp -dsimp -implicitDefEqProofs (disch := omega) only [go_sem, undef, reduceAdd, reduceSub, reduceGT, reduceEqDiff, reduceMul]
 refine AW.sr envOk (fun N hN => ?_)
 simp -dsimp -implicitDefEqProofs (disch := omega) only [go_sem, undef, reduceAdd, reduceSub, reduceGT, reduceEqDiff, reduceMul, ringP, rows, gd_r, w64, one_h]
 refine hN _ ?_
 try clear hN N
 refine AW.block ?_
 refine AW.loopN (α := Nat × Nat) (fun x => sl 43 [(0, ringP p pw br), (3, .h x.2 0 (allL p x.1).length), (14, .i .i64 pw.length), (15, .i .i64 x.1)]) (fun x => upd noH x.2 (some ((allL p x.1).map ints))) (fun x m => x.1 ≤ pw.length ∧ nx ≤ x.2 ∧ x.2 < m) (fun x => pw.length - x.1) ((0, nx + 1 + 1)) ?_ ?_ (Le.only) ?_
 ·exact ⟨by simp, by first| omega| (simp only; omega)| (dsimp only; omega), by first| omega| (simp only; omega)| (dsimp only; omega)⟩
 ·simp [wks, wkA, sl, rows, ringP, allL]
 ·skip
  rintro ⟨d, id⟩ m ⟨hd, hid1, hid2⟩
  dsimp only at hd hid1 hid2
  have hall := all_le hp h9 hd
  simp -dsimp -implicitDefEqProofs (disch := omega) only [go_sem, undef, reduceAdd, reduceSub, reduceGT, reduceEqDiff, reduceMul]
  refine AW.sr envOk (fun N hN => ?_)
  simp -dsimp -implicitDefEqProofs (disch := omega) only [go_sem, undef, reduceAdd, reduceSub, reduceGT, reduceEqDiff, reduceMul, ringP, rows, gd_r, w64, one_h]
  refine hN _ ?_
  try clear hN N
  refine AW.seq (fun N2 hN2 => ?_)
  refine AW.cond rfl (fun h1 => ?_) (fun h1 => ?_)
  ·try simp only [cn] at h1
   refine AW.skip ?_
   simp only [thn, blk]
   refine hN2 _ ?_
   try clear hN2 N2
   refine AW.seq (fun N3 hN3 => ?_)
   refine AW.block ?_
   refine AW.sr envOk (fun N hN => ?_)
   simp -dsimp -implicitDefEqProofs (disch := omega) only [go_sem, undef, reduceAdd, reduceSub, reduceGT, reduceEqDiff, reduceMul, ringP, rows, gd_r, w64, one_h]
   refine hN _ ?_
   try clear hN N
   refine AW.seq (fun N4 hN4 => ?_)
   refine AW.freeze 3 id (allL p d).length ((allL p d).map ints) rfl (upd_same _ _ _) (by simp) ?_
   simp -dsimp -implicitDefEqProofs (disch := omega) only [go_sem, undef, reduceAdd, reduceSub, reduceGT, reduceEqDiff, reduceMul]
   refine AW.sr envOk (fun N hN => ?_)
   simp -dsimp -implicitDefEqProofs (disch := omega) only [go_sem, undef, reduceAdd, reduceSub, reduceGT, reduceEqDiff, reduceMul, ringP, rows, gd_r, w64, one_h]
   refine hN _ ?_
   try clear hN N
   refine AW.block ?_
   refine AW.loopN (α := Nat × Option Nat) (fun x => sl 43 [(0, ringP p pw br), (3, .j), (4, oA x.2 (nxtL p (allL p d) x.1 0).length), (14, .i .i64 pw.length), (15, .i .i64 d), (17, rows (allL p d)), (18, .i .i64 (allL p d).length), (19, .i .i64 x.1)]) (fun x => oH noH x.2 ((nxtL p (allL p d) x.1 0).map ints)) (fun x m => x.1 ≤ (allL p d).length ∧ NxI p (allL p d) x.1 0 nx m x.2) (fun x => (allL p d).length - x.1) ((0, none)) ?_ ?_ (by intro k c hk; cases hk) ?_
   ·exact ⟨by simp, .start (by first| omega| (simp only; omega)| (dsimp only; omega))⟩
   ·simp [wks, wkA, sl, rows, ringP, oA]
   ·skip
    rintro ⟨i, o⟩ m2 ⟨hi, hB⟩
    dsimp only at hi hB
    simp -dsimp -implicitDefEqProofs (disch := omega) only [go_sem, undef, reduceAdd, reduceSub, reduceGT, reduceEqDiff, reduceMul]
    refine AW.sr envOk (fun N hN => ?_)
    simp -dsimp -implicitDefEqProofs (disch := omega) only [go_sem, undef, reduceAdd, reduceSub, reduceGT, reduceEqDiff, reduceMul, ringP, rows, gd_r, w64, one_h]
    refine hN _ ?_
    try clear hN N
    refine AW.seq (fun N5 hN5 => ?_)
    refine AW.cond rfl (fun h2 => ?_) (fun h2 => ?_)
    ·try simp only [cn] at h2
     have hxl : ((allL p d).getD i []).length = d := ((mem_all hp).1 (ix_mem (show i < (allL p d).length by omega))).len
     refine AW.skip ?_
     simp only [thn, blk]
     refine hN5 _ ?_
     try clear hN5 N5
     refine AW.seq (fun N6 hN6 => ?_)
     refine AW.block ?_
     refine AW.sr envOk (fun N hN => ?_)
     simp -dsimp -implicitDefEqProofs (disch := omega) only [go_sem, undef, reduceAdd, reduceSub, reduceGT, reduceEqDiff, reduceMul, ringP, rows, gd_r, w64, one_h]
     refine hN _ ?_
     try clear hN N
     refine AW.sr envOk (fun N hN => ?_)
     simp -dsimp -implicitDefEqProofs (disch := omega) only [go_sem, undef, reduceAdd, reduceSub, reduceGT, reduceEqDiff, reduceMul, ringP, rows, gd_r, w64, one_h]
     refine hN _ ?_
     try clear hN N
     refine AW.block ?_
     refine AW.loopN (α := Nat × Option Nat) (fun x => sl 43 [(0, ringP p pw br), (3, .j), (4, oA x.2 (nxtL p (allL p d) i x.1).length), (6, ints ((allL p d).getD i [])), (14, .i .i64 pw.length), (15, .i .i64 d), (17, rows (allL p d)), (18, .i .i64 (allL p d).length), (19, .i .i64 i), (26, .i .i64 p), (27, .i .i64 x.1)]) (fun x => oH noH x.2 ((nxtL p (allL p d) i x.1).map ints)) (fun x m => (x.1 : Int) ≤ p ∧ NxI p (allL p d) i x.1 nx m x.2) (fun x => p.toNat - x.1) ((0, o)) ?_ ?_ (fun _ _ h => h) ?_
     ·exact ⟨by first| omega| (simp only; omega)| (dsimp only; omega), hB.mm (by first| omega| (simp only; omega)| (dsimp only; omega))⟩
     ·simp (disch := omega) [wks, wkA, sl, w64, ints, rows, cubes, ringP, rows, gd_r, w64, one_h] <;> omega
     ·skip
      rintro ⟨j, (_ | q)⟩ m3 ⟨hj, hC⟩
      ·skip
       simp -dsimp -implicitDefEqProofs (disch := omega) only [go_sem, undef, reduceAdd, reduceSub, reduceGT, reduceEqDiff, reduceMul]
       dsimp only [oA, oH] at hj hC ⊢
       have hnil := hC.2.1 rfl
       have hnm := hC.1
       have hxx : ∀ n, [AV.h (m3 + 1 + 2 + 5) 0 n] = (nxtL p (allL p d) i j).map ints ++ [AV.h (m3 + 1 + 2 + 5) 0 n] := fun n => by rw [hnil]; rfl
       have hup : ∀ (H : HP) (ds A B : Option (List AV)), upd (upd (upd H (m3 + 1 + 2 + 5) ds) (m3 + 1 + 2 + 6) A) (m3 + 1 + 2 + 7) B (m3 + 1 + 2 + 5) = ds := fun H ds A B => by rw [upd_ne _ _ (by omega), upd_ne _ _ (by omega), upd_same]
       refine AW.sr envOk (fun N hN => ?_)
       simp -dsimp -implicitDefEqProofs (disch := omega) only [go_sem, undef, reduceAdd, reduceSub, reduceGT, reduceEqDiff, reduceMul, ringP, rows, gd_r, w64, one_h]
       refine hN _ ?_
       try clear hN N
       refine AW.seq (fun N7 hN7 => ?_)
       refine AW.cond rfl (fun h3 => ?_) (fun h3 => ?_)
       ·try simp only [cn] at h3
        refine AW.skip ?_
        simp only [thn, blk]
        refine hN7 _ ?_
        try clear hN7 N7
        refine AW.seq (fun N8 hN8 => ?_)
        refine AW.block ?_
        refine AW.sr envOk (fun N hN => ?_)
        simp -dsimp -implicitDefEqProofs (disch := omega) only [go_sem, undef, reduceAdd, reduceSub, reduceGT, reduceEqDiff, reduceMul, ringP, rows, gd_r, w64, one_h]
        refine hN _ ?_
        try clear hN N
        refine AW.regionL envOk ?_
        simp -dsimp -implicitDefEqProofs (disch := omega) only [go_sem, undef, reduceAdd, reduceSub, reduceGT, reduceEqDiff, reduceMul, ringP, rows, gd_r, w64, one_h]
        refine (slices_Clone_n ((allL p d).getD i []) (by omega) _ _).mono2 ?_
        rintro nx1 H1 r hx1 (⟨id0, rfl, hid1, hid2, rfl⟩ | ⟨h0, rfl, rfl⟩)
        ·skip
         have hnn : ((allL p d).getD i []).length + 1 = ((allL p d).getD i [] ++ [(j : Int)]).length := by simp
         have hdd : List.take ((allL p d).getD i []).length (ivs ((allL p d).getD i []).length fun k => ((allL p d).getD i []).getD k 0) ++ [AV.i .i64 j] = ((allL p d).getD i [] ++ [(j : Int)]).map (AV.i .i64) := by
          rw [← map_ivs, List.take_of_length_le (by simp), List.map_append]; rfl
         try simp -dsimp -implicitDefEqProofs (disch := omega) only [go_sem, undef, reduceAdd, reduceSub, reduceGT, reduceEqDiff, reduceMul, ringP, rows, gd_r, w64, one_h]
         refine hN8 _ ?_
         try clear hN8 N8
         refine AW.fzrow (m3 + 1 + 2 + 7) (m3 + 1 + 2 + 5) _ (nxtL p (allL p d) i j) ((allL p d).getD i [] ++ [(j : Int)]) (upd_same _ _ _) (hxx _) (hup _ _ _ _) hdd hnn (by omega) ?_
         refine AW.regionL envOk ?_
         simp -dsimp -implicitDefEqProofs (disch := omega) only [go_sem, undef, reduceAdd, reduceSub, reduceGT, reduceEqDiff, reduceMul, ringP, rows, gd_r, w64, one_h]
         refine ⟨(j + 1, some (m3 + 1 + 2 + 7)), ?_, by show Le (upd noH _ _) _; rw [nxt_s]; exact Le.only, ?_, ?_⟩
         ·simp (disch := omega) [wks, wkA, sl, w64, ints, rows, cubes, ringP, oA, nxt_s] <;> exact hnil
         ·exact ⟨by first| omega| (simp only; omega)| (dsimp only; omega), hC.next (by first| omega| (simp only; omega)| (dsimp only; omega)) (by first| omega| (simp only; omega)| (dsimp only; omega))⟩
         ·first | omega | (simp only; omega)
        ·skip
         have hnn : 1 = ((allL p d).getD i [] ++ [(j : Int)]).length := by rw [List.length_append, h0]; rfl
         have hdd : [AV.i .i64 j] = ((allL p d).getD i [] ++ [(j : Int)]).map (AV.i .i64) := by rw [List.length_eq_zero_iff.1 h0]; rfl
         try simp -dsimp -implicitDefEqProofs (disch := omega) only [go_sem, undef, reduceAdd, reduceSub, reduceGT, reduceEqDiff, reduceMul, ringP, rows, gd_r, w64, one_h]
         refine hN8 _ ?_
         try clear hN8 N8
         refine AW.fzrow (m3 + 1 + 2 + 7) (m3 + 1 + 2 + 5) _ (nxtL p (allL p d) i j) ((allL p d).getD i [] ++ [(j : Int)]) (upd_same _ _ _) (hxx _) (hup _ _ _ _) hdd hnn (by omega) ?_
         refine AW.regionL envOk ?_
         simp -dsimp -implicitDefEqProofs (disch := omega) only [go_sem, undef, reduceAdd, reduceSub, reduceGT, reduceEqDiff, reduceMul, ringP, rows, gd_r, w64, one_h]
         refine ⟨(j + 1, some (m3 + 1 + 2 + 7)), ?_, by show Le (upd noH _ _) _; rw [nxt_s]; exact Le.only, ?_, ?_⟩
         ·simp (disch := omega) [wks, wkA, sl, w64, ints, rows, cubes, ringP, oA, nxt_s] <;> exact hnil
         ·exact ⟨by first| omega| (simp only; omega)| (dsimp only; omega), hC.next (by first| omega| (simp only; omega)| (dsimp only; omega)) (by first| omega| (simp only; omega)| (dsimp only; omega))⟩
         ·first | omega | (simp only; omega)
       ·try simp only [cn] at h3
        have hnx := nxt_n (p := p) (show i < (allL p d).length by omega) (lt_toNat h3 hj)
        refine AW.exit ?_
        simp only [thn, blk, if_true]
        refine hN6 _ ?_
        try clear hN6 N6
        refine AW.regionL envOk ?_
        simp -dsimp -implicitDefEqProofs (disch := omega) only [go_sem, undef, reduceAdd, reduceSub, reduceGT, reduceEqDiff, reduceMul, ringP, rows, gd_r, w64, one_h]
        refine ⟨(i + 1, none), ?_, fun _ _ h => h, ?_, ?_⟩
        ·simp (disch := omega) [wks, wkA, sl, w64, rows, ringP, oA, hnx]
        ·exact ⟨by first| omega| (simp only; omega)| (dsimp only; omega), hC.row (by omega) (lt_toNat h3 hj) (by first| omega| (simp only; omega)| (dsimp only; omega))⟩
        ·first | omega | (simp only; omega)
      ·skip
       simp -dsimp -implicitDefEqProofs (disch := omega) only [go_sem, undef, reduceAdd, reduceSub, reduceGT, reduceEqDiff, reduceMul]
       dsimp only [oA, oH] at hj hC ⊢
       obtain ⟨i2, i3⟩ := hC.2.2 q rfl
       have hlen : (nxtL p (allL p d) i j).length ≤ 6000 := by
        have h1 := nxt_len (p := p) (L := allL p d) (i := i) (j := j)
        have h2 : i * p.toNat ≤ 729 * 7 := Nat.mul_le_mul (by omega) (by omega)
        omega
       have hxx : ∀ n, List.take (nxtL p (allL p d) i j).length ((nxtL p (allL p d) i j).map ints) ++ [AV.h (m3 + 1 + 2 + 5) 0 n] = (nxtL p (allL p d) i j).map ints ++ [AV.h (m3 + 1 + 2 + 5) 0 n] := fun n => by rw [List.take_of_length_le (by simp)]
       have hup : ∀ (H : HP) (ds A B : Option (List AV)), upd (upd (upd (upd H (m3 + 1 + 2 + 5) ds) (m3 + 1 + 2 + 6) A) q none) (m3 + 1 + 2 + 7) B (m3 + 1 + 2 + 5) = ds := fun H ds A B => by rw [upd_ne _ _ (by omega), upd_ne _ _ (by omega), upd_ne _ _ (by omega), upd_same]
       refine AW.sr envOk (fun N hN => ?_)
       simp -dsimp -implicitDefEqProofs (disch := omega) only [go_sem, undef, reduceAdd, reduceSub, reduceGT, reduceEqDiff, reduceMul, ringP, rows, gd_r, w64, one_h]
       refine hN _ ?_
       try clear hN N
       refine AW.seq (fun N9 hN9 => ?_)
       refine AW.cond rfl (fun h4 => ?_) (fun h4 => ?_)
       ·try simp only [cn] at h4
        refine AW.skip ?_
        simp only [thn, blk]
        refine hN9 _ ?_
        try clear hN9 N9
        refine AW.seq (fun N10 hN10 => ?_)
        refine AW.block ?_
        refine AW.sr envOk (fun N hN => ?_)
        simp -dsimp -implicitDefEqProofs (disch := omega) only [go_sem, undef, reduceAdd, reduceSub, reduceGT, reduceEqDiff, reduceMul, ringP, rows, gd_r, w64, one_h]
        refine hN _ ?_
        try clear hN N
        refine AW.regionL envOk ?_
        simp -dsimp -implicitDefEqProofs (disch := omega) only [go_sem, undef, reduceAdd, reduceSub, reduceGT, reduceEqDiff, reduceMul, ringP, rows, gd_r, w64, one_h]
        refine (slices_Clone_n ((allL p d).getD i []) (by omega) _ _).mono2 ?_
        rintro nx1 H1 r hx1 (⟨id0, rfl, hid1, hid2, rfl⟩ | ⟨h0, rfl, rfl⟩)
        ·skip
         have hnn : ((allL p d).getD i []).length + 1 = ((allL p d).getD i [] ++ [(j : Int)]).length := by simp
         have hdd : List.take ((allL p d).getD i []).length (ivs ((allL p d).getD i []).length fun k => ((allL p d).getD i []).getD k 0) ++ [AV.i .i64 j] = ((allL p d).getD i [] ++ [(j : Int)]).map (AV.i .i64) := by
          rw [← map_ivs, List.take_of_length_le (by simp), List.map_append]; rfl
         try simp -dsimp -implicitDefEqProofs (disch := omega) only [go_sem, undef, reduceAdd, reduceSub, reduceGT, reduceEqDiff, reduceMul, ringP, rows, gd_r, w64, one_h]
         refine hN10 _ ?_
         try clear hN10 N10
         refine AW.fzrow (m3 + 1 + 2 + 7) (m3 + 1 + 2 + 5) _ (nxtL p (allL p d) i j) ((allL p d).getD i [] ++ [(j : Int)]) (upd_same _ _ _) (hxx _) (hup _ _ _ _) hdd hnn (by omega) ?_
         refine AW.regionL envOk ?_
         simp -dsimp -implicitDefEqProofs (disch := omega) only [go_sem, undef, reduceAdd, reduceSub, reduceGT, reduceEqDiff, reduceMul, ringP, rows, gd_r, w64, one_h]
         refine ⟨(j + 1, some (m3 + 1 + 2 + 7)), ?_, by show Le (upd noH _ _) _; rw [nxt_s]; exact Le.only, ?_, ?_⟩
         ·simp (disch := omega) [wks, wkA, sl, w64, ints, rows, cubes, ringP, oA, nxt_s] <;> exact hnil
         ·exact ⟨by first| omega| (simp only; omega)| (dsimp only; omega), hC.next (by first| omega| (simp only; omega)| (dsimp only; omega)) (by first| omega| (simp only; omega)| (dsimp only; omega))⟩
         ·first | omega | (simp only; omega)
        ·skip
         have hnn : 1 = ((allL p d).getD i [] ++ [(j : Int)]).length := by rw [List.length_append, h0]; rfl
         have hdd : [AV.i .i64 j] = ((allL p d).getD i [] ++ [(j : Int)]).map (AV.i .i64) := by rw [List.length_eq_zero_iff.1 h0]; rfl
         try simp -dsimp -implicitDefEqProofs (disch := omega) only [go_sem, undef, reduceAdd, reduceSub, reduceGT, reduceEqDiff, reduceMul, ringP, rows, gd_r, w64, one_h]
         refine hN10 _ ?_
         try clear hN10 N10
         refine AW.fzrow (m3 + 1 + 2 + 7) (m3 + 1 + 2 + 5) _ (nxtL p (allL p d) i j) ((allL p d).getD i [] ++ [(j : Int)]) (upd_same _ _ _) (hxx _) (hup _ _ _ _) hdd hnn (by omega) ?_
         refine AW.regionL envOk ?_
         simp -dsimp -implicitDefEqProofs (disch := omega) only [go_sem, undef, reduceAdd, reduceSub, reduceGT, reduceEqDiff, reduceMul, ringP, rows, gd_r, w64, one_h]
         refine ⟨(j + 1, some (m3 + 1 + 2 + 7)), ?_, by show Le (upd noH _ _) _; rw [nxt_s]; exact Le.only, ?_, ?_⟩
         ·simp (disch := omega) [wks, wkA, sl, w64, ints, rows, cubes, ringP, oA, nxt_s] <;> exact hnil
         ·exact ⟨by first| omega| (simp only; omega)| (dsimp only; omega), hC.next (by first| omega| (simp only; omega)| (dsimp only; omega)) (by first| omega| (simp only; omega)| (dsimp only; omega))⟩
         ·first | omega | (simp only; omega)
       ·try simp only [cn] at h4
        have hnx := nxt_n (p := p) (show i < (allL p d).length by omega) (lt_toNat h4 hj)
        refine AW.exit ?_
        simp only [thn, blk, if_true]
        refine hN6 _ ?_
        try clear hN6 N6
        refine AW.regionL envOk ?_
        simp -dsimp -implicitDefEqProofs (disch := omega) only [go_sem, undef, reduceAdd, reduceSub, reduceGT, reduceEqDiff, reduceMul, ringP, rows, gd_r, w64, one_h]
        refine ⟨(i + 1, some q), ?_, by show Le (upd noH q _) _; rw [← hnx]; exact Le.refl _, ?_, ?_⟩
        ·simp (disch := omega) [wks, wkA, sl, w64, rows, ringP, oA, hnx]
        ·exact ⟨by first| omega| (simp only; omega)| (dsimp only; omega), hC.row (by omega) (lt_toNat h4 hj) (by first| omega| (simp only; omega)| (dsimp only; omega))⟩
        ·first | omega | (simp only; omega)
    ·try simp only [cn] at h2
     obtain ⟨q, rfl⟩ : ∃ q, o = some q := by
      have hl2 := all_le hp h9 (show d + 1 ≤ pw.length by omega)
      cases o with
      | none =>
       have hn2 := hB.2.1 rfl
       rw [show i = (allL p d).length by omega, nxt_all rfl] at hn2
       rw [hn2] at hl2; simp at hl2
      | some q => exact ⟨q, rfl⟩
     obtain ⟨i5, i6⟩ := hB.2.2 q rfl
     have hil : i = (allL p d).length := by omega
     subst hil
     rw [nxt_all rfl]
     dsimp only [oA, oH]
     refine AW.exit ?_
     simp only [thn, blk, if_true]
     refine hN4 _ ?_
     try clear hN4 N4
     refine AW.regionL envOk ?_
     simp -dsimp -implicitDefEqProofs (disch := omega) only [go_sem, undef, reduceAdd, reduceSub, reduceGT, reduceEqDiff, reduceMul, ringP, rows, gd_r, w64, one_h]
     refine hN3 _ ?_
     try clear hN3 N3
     refine AW.regionL envOk ?_
     simp -dsimp -implicitDefEqProofs (disch := omega) only [go_sem, undef, reduceAdd, reduceSub, reduceGT, reduceEqDiff, reduceMul, ringP, rows, gd_r, w64, one_h]
     refine ⟨(d + 1, q), ?_, fun _ _ h => h, ?_, ?_⟩
     ·simp (disch := omega) [wks, wkA, sl, w64, ints, rows, cubes, ringP, rows, gd_r, w64, one_h] <;> omega
     ·exact ⟨by first| omega| (simp only; omega)| (dsimp only; omega), by first| omega| (simp only; omega)| (dsimp only; omega), by first| omega| (simp only; omega)| (dsimp only; omega)⟩
     ·first | omega | (simp only; omega)
  ·try simp only [cn] at h1
   refine AW.exit ?_
   simp only [thn, blk, if_true]
   refine hN1 _ ?_
   try clear hN1 N1
   refine AW.sr envOk (fun N hN => ?_)
   simp -dsimp -implicitDefEqProofs (disch := omega) only [go_sem, undef, reduceAdd, reduceSub, reduceGT, reduceEqDiff, reduceMul, ringP, rows, gd_r, w64, one_h]
   refine hN _ ?_
   try clear hN N
   refine AW.ret ?_
   simp -dsimp -implicitDefEqProofs (disch := omega) only [go_sem, undef, reduceAdd, reduceSub, reduceGT, reduceEqDiff, reduceMul]
   have hdn : d = pw.length := by omega
   subst hdn
   exact Vw.rws rfl (upd_same _ _ _)
end Go.Proofs.Ytkmgmjajbiddbaa
