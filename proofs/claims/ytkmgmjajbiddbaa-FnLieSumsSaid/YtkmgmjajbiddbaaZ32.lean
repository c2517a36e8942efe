import Derived.Test.YtkmgmjajbiddbaaZ28
import Derived.Test.YtkmgmjajbiddbaaZ30
set_option linter.unusedVariables false
set_option linter.unusedSimpArgs false
namespace Go.Proofs.Ytkmgmjajbiddbaa
open Nat (reduceAdd reduceSub reduceGT reduceEqDiff reduceMul)
theorem at_get {p : Int} {n : Nat} {k : Int} {j : Nat} : (atL p (n + 1) k).getD j 0 = if j < n then (atL p n (k / p)).getD j 0 else if j = n then k % p else 0 := by
  have hl : ∀ {n : Nat} {k : Int}, (atL p n k).length = n := by
    intro n
    induction n with
    | zero => intro k; rfl
    | succ n ih => intro k; simp only [atL, List.length_append, ih]; rfl
  exact app_get1 hl
def AtI (p : Int) (A : List Int) (n i : Nat) (k : Int) (f : Nat → Int) : Prop := (∀ j, i ≤ j → j < n → f j = A.getD j 0) ∧ ∀ j, j < i → A.getD j 0 = (atL p i k).getD j 0
theorem AtI.start {p : Int} {n : Nat} {k : Int} {f : Nat → Int} : AtI p (atL p n k) n n k f := ⟨fun j h1 h2 => by omega, fun _ _ => rfl⟩
theorem AtI.next {p : Int} {A : List Int} {n i : Nat} {k : Int} {f : Nat → Int} (h : AtI p A n (i + 1) k f) : AtI p A n i (k / p) (fset f i (k % p)) := by
  refine ⟨fun j h1 h2 => ?_, fun j hj => ?_⟩
  · simp only [fset]
    by_cases e : j = i
    · subst e
      rw [if_pos rfl, h.2 j (by omega), at_get, if_neg (by omega), if_pos rfl]
    · rw [if_neg e]; exact h.1 j (by omega) h2
  · rw [h.2 j (by omega), at_get, if_pos hj]
theorem AtI.fin {p : Int} {A : List Int} {n : Nat} {k : Int} {f : Nat → Int} (h : AtI p A n 0 k f) (hA : A.length = n) : ivs n f = A.map (.i .i64) := by
  subst hA
  rw [map_ivs]
  exact ivs_ext fun j hj => h.1 j (by omega) hj
theorem spec_l31At_ok (p : Int) (pw : List (List Int)) (br : List (List (List Int))) (hp : 2 ≤ p) (hp7 : p ≤ 7) (hn : pw.length ≤ 6) (k : Int) (hk0 : 0 ≤ k) (hk : k ≤ 1000) : ACp Try.prog 87 [ring p pw br, .i .i64 k] (ints (atL p pw.length k)) := by
 have hAl := (at_el hp (n := pw.length) (k := k)).len
 refine ACp.introV envOk Try.func87 rfl (by kernel_rfl) Try.ntmps87 Try.results87 ((ints_nr _)) (fun nx => ?_)
 refine AW.sr envOk (fun N hN => ?_)
 simp -dsimp -implicitDefEqProofs (disch := omega) only [go_sem, undef, reduceAdd, reduceSub, reduceGT, reduceEqDiff, reduceMul, ring, w64]
 refine hN _ ?_
 try clear hN N
 refine AW.freezeQ 2 nx _ rfl (upd_same _ _ _) ?_
 simp -dsimp -implicitDefEqProofs (disch := omega) only [go_sem, undef, reduceAdd, reduceSub, reduceGT, reduceEqDiff, reduceMul]
 refine AW.sr envOk (fun N hN => ?_)
 simp -dsimp -implicitDefEqProofs (disch := omega) only [go_sem, undef, reduceAdd, reduceSub, reduceGT, reduceEqDiff, reduceMul, ring, w64]
 refine (spec_l31Zero_fr p pw br (by omega) _ _).mono2 ?_
 rintro m1 H1 r1 hm1 ⟨id, rfl, hid1, hid2, rfl⟩
 try simp -dsimp -implicitDefEqProofs (disch := omega) only [go_sem, undef, reduceAdd, reduceSub, reduceGT, reduceEqDiff, reduceMul, ring, w64]
 refine hN _ ?_
 try clear hN N
 refine AW.seq (fun N1 hN1 => ?_)
 refine AW.sr envOk (fun N hN => ?_)
 simp -dsimp -implicitDefEqProofs (disch := omega) only [go_sem, undef, reduceAdd, reduceSub, reduceGT, reduceEqDiff, reduceMul, ring, w64]
 refine hN _ ?_
 try clear hN N
 refine AW.block ?_
 refine AW.loopN (α := Nat × Int × (Nat → Int)) (fun x => sl 28 [(1, .i .i64 x.2.1), (2, ringP p pw br), (5, .h id 0 pw.length), (6, .i .i64 ((x.1 : Int) - 1))]) (fun x => upd noH id (some (ivs pw.length x.2.2))) (fun x m => (x.1 ≤ pw.length ∧ 0 ≤ x.2.1 ∧ x.2.1 ≤ 1000) ∧ AtI p (atL p pw.length k) pw.length x.1 x.2.1 x.2.2) (fun x => x.1) ((pw.length, k, fun _ => 0)) ?_ ?_ (Le.only) ?_
 ·exact ⟨⟨by simp, hk0, hk⟩, .start⟩
 ·simp (disch := omega) [wks, wkA, sl, rows, ringP, w64]
 ·skip
  rintro ⟨i, q, f⟩ m ⟨⟨hi, hq0, hq⟩, hA⟩
  dsimp only at hi hq0 hq hA
  have hid : ∀ f : Nat → Int, upd noH id (some (ivs pw.length f)) id = some (ivs pw.length f) := fun f => upd_same _ _ _
  simp -dsimp -implicitDefEqProofs (disch := omega) only [go_sem, undef, reduceAdd, reduceSub, reduceGT, reduceEqDiff, reduceMul]
  refine AW.seq (fun N2 hN2 => ?_)
  refine AW.sr envOk (fun N hN => ?_)
  simp -dsimp -implicitDefEqProofs (disch := omega) only [go_sem, undef, reduceAdd, reduceSub, reduceGT, reduceEqDiff, reduceMul, ring, w64, ringP]
  refine hN _ ?_
  try clear hN N
  refine AW.cond rfl (fun h1 => ?_) (fun h1 => ?_)
  ·try simp only [cn] at h1
   obtain ⟨i', rfl⟩ : ∃ i', i = i' + 1 := ⟨i - 1, by omega⟩
   have e1 : q.tmod p = q % p := Int.tmod_eq_emod_of_nonneg hq0
   have e2 : q.tdiv p = q / p := Int.tdiv_eq_ediv_of_nonneg hq0
   have e3 : 0 ≤ q / p := Int.ediv_nonneg hq0 (by omega)
   have e4 : q / p ≤ q := Int.ediv_le_self _ hq0
   have e7 : (((i' + 1 : Nat) : Int) - 1).toNat = i' := by omega
   have e5 := Int.emod_nonneg q (show p ≠ 0 by omega)
   have e6 := Int.emod_lt_of_pos q (show 0 < p by omega)
   refine AW.skip ?_
   simp only [thn, blk]
   refine hN2 _ ?_
   try clear hN2 N2
   refine AW.seq (fun N3 hN3 => ?_)
   refine AW.block ?_
   refine AW.sr envOk (fun N hN => ?_)
   simp -dsimp -implicitDefEqProofs (disch := omega) only [go_sem, undef, reduceAdd, reduceSub, reduceGT, reduceEqDiff, reduceMul, ring, w64, ringP, e1, e7]
   refine hN _ ?_
   try clear hN N
   refine AW.regionL envOk ?_
   simp -dsimp -implicitDefEqProofs (disch := omega) only [go_sem, undef, reduceAdd, reduceSub, reduceGT, reduceEqDiff, reduceMul, ring, w64, ringP, e2]
   refine hN3 _ ?_
   try clear hN3 N3
   refine AW.regionL envOk ?_
   simp -dsimp -implicitDefEqProofs (disch := omega) only [go_sem, undef, reduceAdd, reduceSub, reduceGT, reduceEqDiff, reduceMul, ring, w64]
   refine ⟨(i', q / p, fset f i' (q % p)), ?_, fun _ _ h => h, ?_, ?_⟩
   ·simp (disch := omega) [wks, wkA, sl, w64, rows, ringP] <;> omega
   ·exact ⟨⟨by first| omega| (simp only; omega)| (dsimp only; omega), e3, by first| omega| (simp only; omega)| (dsimp only; omega)⟩, hA.next⟩
   ·first | omega | (simp only; omega)
  ·try simp only [cn] at h1
   refine AW.exit ?_
   simp only [thn, blk, if_true]
   refine hN1 _ ?_
   try clear hN1 N1
   refine AW.sr envOk (fun N hN => ?_)
   simp -dsimp -implicitDefEqProofs (disch := omega) only [go_sem, undef, reduceAdd, reduceSub, reduceGT, reduceEqDiff, reduceMul, ring, w64]
   refine hN _ ?_
   try clear hN N
   refine AW.ret ?_
   simp -dsimp -implicitDefEqProofs (disch := omega) only [go_sem, undef, reduceAdd, reduceSub, reduceGT, reduceEqDiff, reduceMul]
   obtain rfl : i = 0 := by omega
   have hfin := hA.fin hAl
   have := Vw.blk (H := upd noH id (some (ivs pw.length f))) (upd_same _ _ _) (show pw.length = (ivs pw.length f).length by rw [ivs_len])
   rw [hfin] at this ⊢
   unfold ints
   rw [hAl]; exact this
theorem Le.at {H : HP} {id : Nat} {c : List AV} (h : H id = some c) : Le (upd noH id (some c)) H := by
  intro i d hi
  by_cases e : i = id
  · subst e; rw [upd_same] at hi; rw [h]; exact hi
  · rw [upd_ne _ _ e] at hi; cases hi
def GdP (p : Int) (pw : List (List Int)) (br : List (List (List Int))) (u v : List (List Int)) (x : List Int) (n : Nat) (b : Prop) : Prop := b ∧ ∀ i, i < n → zeros (redL p pw u (brkL p pw br x (v.getD i [])))
theorem GdP.z {p : Int} {pw : List (List Int)} {br : List (List (List Int))} {u v : List (List Int)} {x : List Int} {b : Prop} : GdP p pw br u v x 0 b = b := propext ⟨fun h => h.1, fun h => ⟨h, fun i hi => by omega⟩⟩
theorem GdP.s {p : Int} {pw : List (List Int)} {br : List (List (List Int))} {u v : List (List Int)} {x : List Int} {n : Nat} {b : Prop} (h : GdP p pw br u v x n b) : zeros (redL p pw u (brkL p pw br x (v.getD n []))) = GdP p pw br u v x (n + 1) b := propext ⟨fun hz => ⟨h.1, fun i hi => by
  by_cases e : i = n
  · subst e; exact hz
  · exact h.2 i (by omega)⟩, fun h => h.2 n (by omega)⟩
theorem GdP.not {p : Int} {pw : List (List Int)} {br : List (List (List Int))} {u v : List (List Int)} {x : List Int} {n : Nat} {b : Prop} (h : ¬ GdP p pw br u v x n b) (hn : n ≤ v.length) : ¬ b ∨ ¬ AbvP p pw br u v x := by
  by_cases hb : b
  · exact .inr fun ha => h ⟨hb, fun i hi => abv_iff.1 ha i (by omega)⟩
  · exact .inl hb
end Go.Proofs.Ytkmgmjajbiddbaa
