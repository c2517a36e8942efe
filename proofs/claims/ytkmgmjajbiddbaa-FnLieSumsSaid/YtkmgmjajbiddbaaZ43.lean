import Derived.Test.YtkmgmjajbiddbaaZ17
import Derived.Test.YtkmgmjajbiddbaaZ22
import Derived.Test.YtkmgmjajbiddbaaZ23
import Derived.Test.YtkmgmjajbiddbaaZ42
set_option linter.unusedVariables false
set_option linter.unusedSimpArgs false
namespace Go.Proofs.Ytkmgmjajbiddbaa
open Nat (reduceAdd reduceSub reduceGT reduceEqDiff reduceMul)
theorem AC.frz {P : Program} {f : FuncId} {nx : Nat} {H : HP} {xs : List AV} {Q Q' : Nat → HP → AV → Prop} (h : AC P f nx H xs Q) (hq : ∀ n H' r, Q n H' r → ∃ H2 r2, FzH H' H2 ∧ Fz H' H2 r r2 ∧ Q' n H2 r2)   : AC P f nx H xs Q' :=
  ⟨h.1, fun L Av w us a b c => (h.2 L Av w us a b c).mono fun e w' ⟨u, r, L', nx', H', h1, h2, h3, h4, h5, h6, h7, h8⟩ => by
    obtain ⟨H2, r2, g1, g2, g3⟩ := hq _ _ _ h2
    exact ⟨u, r2, L', nx', H2, h1, g3, h3, h4, h5, h6.fz g1, ⟨h7.le, h7.os, h7.tape, h7.output, h7.size, h7.keep, fun b hb hl => h7.old b hb (g1.lb hl)⟩, g2.sound h6 g1 h8⟩⟩
def rgH (p : Int) (n pid : Nat) (Z : AV) : AV := .g [.i .i64 p, .h pid 0 n, Z]
theorem spec_l31Zero_h (p : Int) (n pid : Nat) (Z : AV) (hZ : one Z = true) (hn : n ≤ 6) (nx : Nat) (H : HP) : AC Try.prog 85 nx H [rgH p n pid Z] (fun nx' H' r => FrI nx nx' H H' r n (fun _ => 0)) := by
 refine AC.introx envOk Try.func85 rfl (by kernel_rfl) Try.ntmps85 Try.results85 (fun hfr => ?_)
 refine AW.sr envOk (fun N hN => ?_)
 simp -dsimp -implicitDefEqProofs (disch := omega) only [go_sem, undef, reduceAdd, reduceSub, reduceGT, reduceEqDiff, reduceMul, rgH, hZ]
 refine hN _ ?_
 try clear hN N
 refine AW.sr envOk (fun N hN => ?_)
 simp -dsimp -implicitDefEqProofs (disch := omega) only [go_sem, undef, reduceAdd, reduceSub, reduceGT, reduceEqDiff, reduceMul, rgH, hZ]
 refine hN _ ?_
 try clear hN N
 refine AW.ret ?_
 simp -dsimp -implicitDefEqProofs (disch := omega) only [go_sem, undef, reduceAdd, reduceSub, reduceGT, reduceEqDiff, reduceMul]
 refine ⟨_, ?_, _, rfl, ?_, ?_, rfl⟩
 ·rw [ivs_zero]
  intro i c hi
  have hlt : H i = some c → i < nx := fun h => by apply Classical.byContradiction; intro hn; rw [hfr i (by omega)] at h; cases h
  simp only [upd] at hi ⊢
  split at hi
  ·rename_i e; subst e; cases hi; repeat (first | rw [if_pos rfl] | rw [if_neg (by omega)])
  ·have := hlt hi; repeat rw [if_neg (by omega)]
   exact hi
 ·omega
 ·omega
theorem spec_l31Unit_h (p : Int) (n pid : Nat) (Z : AV) (hZ : one Z = true) (hn : n ≤ 6) (k : Nat) (hk : k < n) : ACo Try.prog 84 [rgH p n pid Z, .i .i64 k] (ints (unitL n k)) := by
 refine FrI.aco (fun nx => ?_)
 refine AC.introx envOk Try.func84 rfl (by kernel_rfl) Try.ntmps84 Try.results84 (fun hfr => ?_)
 refine AW.sr envOk (fun N hN => ?_)
 simp -dsimp -implicitDefEqProofs (disch := omega) only [go_sem, undef, reduceAdd, reduceSub, reduceGT, reduceEqDiff, reduceMul, rgH, hZ]
 refine hN _ ?_
 try clear hN N
 refine AW.sr envOk (fun N hN => ?_)
 simp -dsimp -implicitDefEqProofs (disch := omega) only [go_sem, undef, reduceAdd, reduceSub, reduceGT, reduceEqDiff, reduceMul, rgH, hZ]
 refine (spec_l31Zero_h p n pid Z hZ hn _ _).mono ?_
 rintro nx1 H1 r ⟨id, rfl, hid1, hid2, rfl⟩
 try simp -dsimp -implicitDefEqProofs (disch := omega) only [go_sem, undef, reduceAdd, reduceSub, reduceGT, reduceEqDiff, reduceMul, rgH, hZ]
 refine hN _ ?_
 try clear hN N
 refine AW.sr envOk (fun N hN => ?_)
 simp -dsimp -implicitDefEqProofs (disch := omega) only [go_sem, undef, reduceAdd, reduceSub, reduceGT, reduceEqDiff, reduceMul, rgH, hZ]
 refine hN _ ?_
 try clear hN N
 refine AW.sr envOk (fun N hN => ?_)
 simp -dsimp -implicitDefEqProofs (disch := omega) only [go_sem, undef, reduceAdd, reduceSub, reduceGT, reduceEqDiff, reduceMul, rgH, hZ]
 refine hN _ ?_
 try clear hN N
 refine AW.ret ?_
 simp -dsimp -implicitDefEqProofs (disch := omega) only [go_sem, undef, reduceAdd, reduceSub, reduceGT, reduceEqDiff, reduceMul]
 refine ⟨_, ?_, id, rfl, by omega, by omega, rfl⟩
 refine upd_le (fun i c h1 h2 => ?_) (fun d hd => by rw [upd_same]; exact hd)
 cases h2
def tailO (bs : List Int) (sid n nx : Nat) (H : HP) : Nat → HP → AV → Prop := fun nx' H' r => ∃ id f a' s', r = .h id 0 n ∧ nx ≤ id ∧ id < nx' ∧ srOk bs a' s' ∧ H' = upd (upd H sid (some (srB bs a' s'))) id (some (ivs n f))
def tailP (bs : List Int) (sid n nx : Nat) (H : HP) : Nat → HP → AV → Prop := fun _ H' r => ∃ w a' s', r = ints w ∧ w.length = n ∧ srOk bs a' s' ∧ ∀ i, i < nx → H' i = upd H sid (some (srB bs a' s')) i
theorem hfr_lt {H : HP} {nx sid : Nat} {c : List AV} (hfr : ∀ i, nx ≤ i → H i = none) (h : H sid = some c) : sid < nx := by
  apply Classical.byContradiction
  intro hn
  rw [hfr sid (by omega)] at h; cases h
theorem spec_l31Tail_o (bs : List Int) (a s : Int) (ho : srOk bs a s) (p : Int) (hp : p ≤ 1000) (n pid : Nat) (Z : AV) (hZ : one Z = true) (hn : n ≤ 6) (k : Nat) (hk : k ≤ 100) (nx : Nat) (H : HP) (sid : Nat) (hH : H sid = some (srB bs a s)) : AC Try.prog 96 nx H [.q sid 0, rgH p n pid Z, .i .i64 k] (tailO bs sid n nx H) := by
 refine AC.introx envOk Try.func96 rfl (by kernel_rfl) Try.ntmps96 Try.results96 (fun hfr => ?_)
 have hsn := hfr_lt hfr hH
 refine AW.sr envOk (fun N hN => ?_)
 simp -dsimp -implicitDefEqProofs (disch := omega) only [go_sem, undef, reduceAdd, reduceSub, reduceGT, reduceEqDiff, reduceMul, rgH, w64, hZ]
 refine hN _ ?_
 try clear hN N
 refine AW.freezeQ 4 nx _ rfl (upd_same _ _ _) ?_
 simp -dsimp -implicitDefEqProofs (disch := omega) only [go_sem, undef, reduceAdd, reduceSub, reduceGT, reduceEqDiff, reduceMul]
 refine AW.sr envOk (fun N hN => ?_)
 simp -dsimp -implicitDefEqProofs (disch := omega) only [go_sem, undef, reduceAdd, reduceSub, reduceGT, reduceEqDiff, reduceMul, rgH, w64, hZ]
 refine (spec_l31Zero_h p n pid Z hZ hn _ _).mono ?_
 rintro nx1 H1 r ⟨vid, rfl, hid1, hid2, rfl⟩
 try simp -dsimp -implicitDefEqProofs (disch := omega) only [go_sem, undef, reduceAdd, reduceSub, reduceGT, reduceEqDiff, reduceMul, rgH, w64, hZ]
 refine hN _ ?_
 try clear hN N
 refine AW.seq (fun N1 hN1 => ?_)
 refine AW.sr envOk (fun N hN => ?_)
 simp -dsimp -implicitDefEqProofs (disch := omega) only [go_sem, undef, reduceAdd, reduceSub, reduceGT, reduceEqDiff, reduceMul, rgH, w64, hZ]
 refine hN _ ?_
 try clear hN N
 refine AW.block ?_
 refine AW.loopN (α := Nat × (Nat → Int) × Int × Int) (fun x => sl 26 [(0, .q sid 0), (4, .p 0 [.i .i64 p, .h pid 0 n, Z]), (7, .h vid 0 n), (8, .i .i64 x.1)]) (fun x => upd (upd H sid (some (srB bs x.2.2.1 x.2.2.2))) vid (some (ivs n x.2.1))) (fun x m => (x.1 ≤ 200 ∧ vid < m) ∧ srOk bs x.2.2.1 x.2.2.2) (fun x => n - x.1) ((k, (fun _ => 0), a, s)) ?_ ?_ (by intro d cs hd; have hnn := hfr nx (Nat.le_refl _); simp only [upd] at hd ⊢; grind) ?_
 ·exact ⟨⟨by omega, by first| omega| (simp only; omega)| (dsimp only; omega)⟩, ho⟩
 ·simp (disch := omega) [wks, wkA, sl, rgH] <;> omega
 ·skip
  rintro ⟨i, f, a2, s2⟩ m ⟨⟨hi, hm⟩, ho2⟩
  dsimp only at hi hm ho2 ⊢
  simp -dsimp -implicitDefEqProofs (disch := omega) only [go_sem, undef, reduceAdd, reduceSub, reduceGT, reduceEqDiff, reduceMul]
  refine AW.seq (fun N2 hN2 => ?_)
  refine AW.sr envOk (fun N hN => ?_)
  simp -dsimp -implicitDefEqProofs (disch := omega) only [go_sem, undef, reduceAdd, reduceSub, reduceGT, reduceEqDiff, reduceMul, rgH, w64, hZ]
  refine hN _ ?_
  try clear hN N
  refine AW.cond rfl (fun h1 => ?_) (fun h1 => ?_)
  ·try simp only [cn] at h1
   refine AW.skip ?_
   simp only [thn, blk]
   refine hN2 _ ?_
   try clear hN2 N2
   refine AW.seq (fun N3 hN3 => ?_)
   refine AW.block ?_
   refine AW.regionL envOk ?_
   simp -dsimp -implicitDefEqProofs (disch := omega) only [go_sem, undef, reduceAdd, reduceSub, reduceGT, reduceEqDiff, reduceMul, rgH, w64, hZ]
   refine (spec_l01Next_o bs a2 s2 ho2 p (by omega) _ _ sid ((upd_ne _ _ (by omega)).trans (upd_same _ _ _))).mono2 ?_
   rintro m2 H2 r2 hm2 ⟨x, a3, s3, rfl, hx, ho3, rfl⟩
   try simp -dsimp -implicitDefEqProofs (disch := omega) only [go_sem, undef, reduceAdd, reduceSub, reduceGT, reduceEqDiff, reduceMul, rgH, w64, hZ]
   refine hN3 _ ?_
   try clear hN3 N3
   refine AW.regionL envOk ?_
   simp -dsimp -implicitDefEqProofs (disch := omega) only [go_sem, undef, reduceAdd, reduceSub, reduceGT, reduceEqDiff, reduceMul, rgH, w64, hZ]
   refine ⟨(i + 1, fset f i x, a3, s3), ?_, by intro d cs hd; simp only [upd] at hd ⊢; grind, ?_, ?_⟩
   ·simp (disch := omega) [wks, wkA, sl, rgH] <;> omega
   ·(try dsimp only); first| exact ⟨⟨by omega, by omega⟩, ho3⟩| exact ⟨by omega, ho3⟩| exact ⟨by omega, by omega, ho3⟩
   ·first | omega | (simp only; omega)
  ·try simp only [cn] at h1
   refine AW.exit ?_
   simp only [thn, blk, if_true]
   refine hN1 _ ?_
   try clear hN1 N1
   refine AW.sr envOk (fun N hN => ?_)
   simp -dsimp -implicitDefEqProofs (disch := omega) only [go_sem, undef, reduceAdd, reduceSub, reduceGT, reduceEqDiff, reduceMul, rgH, w64, hZ]
   refine hN _ ?_
   try clear hN N
   refine AW.ret ?_
   simp -dsimp -implicitDefEqProofs (disch := omega) only [go_sem, undef, reduceAdd, reduceSub, reduceGT, reduceEqDiff, reduceMul]
   exact ⟨_, fun _ _ h => h, vid, f, a2, s2, rfl, by omega, by omega, ho2, rfl⟩
theorem spec_l31Tail_p (bs : List Int) (a s : Int) (ho : srOk bs a s) (p : Int) (hp : p ≤ 1000) (n pid : Nat) (Z : AV) (hZ : one Z = true) (hn : n ≤ 6) (k : Nat) (hk : k ≤ 100) (nx : Nat) (H : HP) (sid : Nat) (hH : H sid = some (srB bs a s)) : AC Try.prog 96 nx H [.q sid 0, rgH p n pid Z, .i .i64 k] (tailP bs sid n nx H) :=
  (spec_l31Tail_o bs a s ho p hp n pid Z hZ hn k hk nx H sid hH).frz fun nx' H' r ⟨id, f, a', s', h0, h1, h2, h3, h4⟩ => by
    subst h0 h4
    refine ⟨_, _, FzH.del (id := id), Fz.blk (upd_same _ _ _) (by simp [ivs]), vec n f, a', s', ?_, vec_len, h3, fun i hi => ?_⟩
    · unfold ints; rw [vec_len, vec_map]
    · rw [upd_ne _ _ (by omega), upd_ne _ _ (by omega)]
end Go.Proofs.Ytkmgmjajbiddbaa
namespace Go.Proofs.Ytkmgmjajbiddbaa
open Nat (reduceAdd reduceSub reduceGT reduceEqDiff reduceMul)
theorem one_v (n : Nat) (cs : List AV) : (∀ z ∈ [AV.v n cs], one z = true) = True := by
  refine eq_true (fun z hz => ?_)
  rw [List.mem_singleton.1 hz]; rfl
theorem one_hc (a b c : Nat) : (∀ z ∈ [AV.h a b c], one z = true) = True := by
  refine eq_true (fun z hz => ?_)
  rw [List.mem_singleton.1 hz]; rfl
theorem rep_snoc (n k : Nat) : List.replicate k (ints (vec n fun _ => 0)) ++ [AV.v n (List.replicate n (.i .i64 0))] = List.replicate (k + 1) (ints (vec n fun _ => 0)) := by
  rw [List.replicate_succ']
  congr 2
  simp only [ints, vec_len, vec_map, ivs_zero]
theorem NR.ring (p : Int) (pw : List (List Int)) (br : List (List (List Int))) : NR (Go.Proofs.Ytkmgmjajbiddbaa.ring p pw br) := by
  have hi : ∀ x : List Int, NR (Go.Proofs.Ytkmgmjajbiddbaa.ints x) := fun x => .v _ _ (fun k y hk => by
    obtain ⟨z, _, rfl⟩ := List.mem_map.1 (List.mem_of_getElem? hk); exact .i _ _)
  have hr : ∀ x : List (List Int), NR (Go.Proofs.Ytkmgmjajbiddbaa.rows x) := fun x => .v _ _ (fun k y hk => by
    obtain ⟨z, _, rfl⟩ := List.mem_map.1 (List.mem_of_getElem? hk); exact hi z)
  have hc : ∀ x : List (List (List Int)), NR (Go.Proofs.Ytkmgmjajbiddbaa.cubes x) := fun x => .v _ _ (fun k y hk => by
    obtain ⟨z, _, rfl⟩ := List.mem_map.1 (List.mem_of_getElem? hk); exact hr z)
  refine .g _ (fun k y hk => ?_)
  have := List.mem_of_getElem? hk
  simp only [List.mem_cons, List.not_mem_nil, or_false] at this
  rcases this with rfl | rfl | rfl
  · exact .i _ _
  · exact hr _
  · exact hc _
theorem Vw.ring {H : HP} {p : Int} {a b : AV} {pw : List (List Int)} {br : List (List (List Int))} (h1 : Vw H a (rows pw)) (h2 : Vw H b (cubes br)) : Vw H (.g [.i .i64 p, a, b]) (Go.Proofs.Ytkmgmjajbiddbaa.ring p pw br) := by
  refine .g _ _ rfl (fun k x y hx hy => ?_)
  match k, hx, hy with
  | 0, hx, hy => cases hx; cases hy; exact .refl _
  | 1, hx, hy => cases hx; cases hy; exact h1
  | 2, hx, hy => cases hx; cases hy; exact h2
end Go.Proofs.Ytkmgmjajbiddbaa
