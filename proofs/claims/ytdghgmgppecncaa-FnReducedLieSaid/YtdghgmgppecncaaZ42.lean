import Derived.Test.YtdghgmgppecncaaZ41
set_option linter.unusedVariables false
set_option linter.unusedSimpArgs false
namespace Go.Proofs.Ytdghgmgppecncaa
open Nat (reduceAdd reduceSub reduceGT reduceEqDiff reduceMul)
theorem Own.ints_pos {a b : Nat} {H : HP} {r : AV} {X : List Int} {ids : List Nat} (h : Own a b H r (Go.Proofs.Ytdghgmgppecncaa.ints X) ids) (hp : 0 < X.length) : ∃ id, r = .h id 0 X.length ∧ H id = some (X.map (.i .i64)) ∧ a ≤ id ∧ id < b := by
  rcases h.1.ints_inv with ⟨h1, _⟩ | ⟨id, h1, h2, h3⟩
  · subst h1; simp at hp
  · exact ⟨id, h1, by rw [map_ivs]; exact h3, (h.2.2 id h2).1, (h.2.2 id h2).2⟩
theorem impl_reduceLie_pos (p : Int) (pw : List (List Int)) (br : List (List (List Int))) (ht : Tri p pw) (hpos : 0 < pw.length) (u : List (List Int)) (hu : Rws p pw.length u) (a : List Int) (ha : El p pw.length a) : ACo Try.prog 143 [ringP p pw br, rows u, ints a] (ints (redL p pw u a)) := by
 have h6 := ht.n6
 have hp7 := ht.p7
 have hul := hu.len
 have hal := ha.len
 intro nx
 refine AC.intro' envOk Try.func143 rfl (by kernel_rfl) Try.ntmps143 Try.results143 ?_
 refine AW.sr envOk (fun N hN => ?_)
 simp -dsimp -implicitDefEqProofs (disch := omega) only [go_sem, undef, reduceAdd, reduceSub, reduceGT, reduceEqDiff, reduceMul, rows, ints, gd_i, gd_r, w64, deps_len, deps_get]
 refine hN _ ?_
 try clear hN N
 refine AW.sr envOk (fun N hN => ?_)
 simp -dsimp -implicitDefEqProofs (disch := omega) only [go_sem, undef, reduceAdd, reduceSub, reduceGT, reduceEqDiff, reduceMul, rows, ints, gd_i, gd_r, w64, deps_len, deps_get]
 refine (slices_Clone_int64_int64_ok a (by omega) _ _).mono2 ?_
 rintro nx1 H1 r hx1 (⟨id0, rfl, hid1, hid2, rfl⟩ | ⟨h0, -, -⟩)
 rotate_left
 ·omega
 rw [← map_ivs]
 try simp -dsimp -implicitDefEqProofs (disch := omega) only [go_sem, undef, reduceAdd, reduceSub, reduceGT, reduceEqDiff, reduceMul, rows, ints, gd_i, gd_r, w64, deps_len, deps_get]
 refine hN _ ?_
 try clear hN N
 refine AW.seq (fun N1 hN1 => ?_)
 refine AW.sr envOk (fun N hN => ?_)
 simp -dsimp -implicitDefEqProofs (disch := omega) only [go_sem, undef, reduceAdd, reduceSub, reduceGT, reduceEqDiff, reduceMul, rows, ints, gd_i, gd_r, w64, deps_len, deps_get]
 refine AC.pure (.of (impl_pivots_ok pw.length u h6 hul (fun k hk => ⟨(hu.el k hk).len, hu.lt k hk⟩) )) ?_
 try simp -dsimp -implicitDefEqProofs (disch := omega) only [go_sem, undef, reduceAdd, reduceSub, reduceGT, reduceEqDiff, reduceMul, rows, ints, gd_i, gd_r, w64, deps_len, deps_get]
 refine hN _ ?_
 try clear hN N
 refine AW.block ?_
 refine AW.loopN (α := Nat × Nat) (fun x => sl 36 [(0, ringP p pw br), (1, rows u), (7, .h x.2 0 pw.length), (13, ints (deps u)), (14, .i .i64 u.length), (15, .i .i64 x.1)]) (fun x => upd noH x.2 (some ((redL p pw (u.take x.1) a).map (.i .i64)))) (fun x m => (x.1 ≤ u.length ∧ nx ≤ m) ∧ nx ≤ x.2 ∧ x.2 < m) (fun x => u.length - x.1) ((0, id0)) ?_ ?_ (by simp only [List.take_zero, redL]; exact Le.refl _) ?_
 ·exact ⟨⟨by simp, by first| omega| (simp only; omega)| (dsimp only; omega)⟩, by first| omega| (simp only; omega)| (dsimp only; omega), by first| omega| (simp only; omega)| (dsimp only; omega)⟩
 ·simp (disch := omega) [wks, wkA, sl, rows, ints, redL, deps_len] <;> omega
 ·skip
  rintro ⟨k, id⟩ m ⟨⟨hk, hm⟩, hid, hidm⟩
  simp -dsimp -implicitDefEqProofs (disch := omega) only [go_sem, undef, reduceAdd, reduceSub, reduceGT, reduceEqDiff, reduceMul]
  refine AW.sr envOk (fun N hN => ?_)
  simp -dsimp -implicitDefEqProofs (disch := omega) only [go_sem, undef, reduceAdd, reduceSub, reduceGT, reduceEqDiff, reduceMul, rows, ints, gd_i, gd_r, w64, deps_len, deps_get]
  refine hN _ ?_
  try clear hN N
  refine AW.seq (fun N2 hN2 => ?_)
  refine AW.cond rfl (fun h1 => ?_) (fun h1 => ?_)
  ·try simp only [cn] at h1
   have hdl := deps_len (u := u)
   obtain ⟨R, hR⟩ : ∃ R, redL p pw (u.take k) a = R := ⟨_, rfl⟩
   have hRe : El p pw.length R := by rw [← hR]; exact redL_el ht _ ha
   have hRl := hRe.len
   have hve := hu.el k (by omega)
   have hvl := hve.len
   have hvd := hu.lt k (by omega)
   have hrg := hRe.rng (dep (u.getD k [])) hvd
   have hML : El p pw.length (mulL p pw (0 - R.getD (dep (u.getD k [])) 0) (u.getD k [])) := nf_el ht _
   rw [hR]
   refine AW.skip ?_
   simp only [thn, blk]
   refine hN2 _ ?_
   try clear hN2 N2
   refine AW.seq (fun N3 hN3 => ?_)
   refine AW.block ?_
   refine AW.sr envOk (fun N hN => ?_)
   simp -dsimp -implicitDefEqProofs (disch := omega) only [go_sem, undef, reduceAdd, reduceSub, reduceGT, reduceEqDiff, reduceMul, rows, ints, gd_i, gd_r, w64, deps_len, deps_get]
   refine hN _ ?_
   try clear hN N
   refine AW.drawL envOk (by kernel_rfl) 13 (by kernel_rfl) ?_
   simp -dsimp -implicitDefEqProofs (disch := omega) only [hr_nil, hr_one, hr_if, List.take_succ_cons, List.take_zero, List.drop_succ_cons, List.drop_zero, List.take_nil, List.drop_nil, go_sem, undef, reduceAdd, reduceSub, reduceGT, reduceEqDiff, reduceMul, rows, ints, gd_i, gd_r, w64, deps_len, deps_get]
   refine ⟨_, .of ((impl_timesLie_ok p pw br ht (0 - R.getD (dep (u.getD k [])) 0) (u.getD k []) hvl (hve.smlk hp7 (by omega) (by omega)) ⟨by omega, by omega⟩).pure ), ?_⟩
   try simp -dsimp -implicitDefEqProofs (disch := omega) only [go_sem, undef, reduceAdd, reduceSub, reduceGT, reduceEqDiff, reduceMul, rows, ints, gd_i, gd_r, w64, deps_len, deps_get]
   refine AC.own (impl_addLie_ok p pw br ht R (mulL p pw (0 - R.getD (dep (u.getD k [])) 0) (u.getD k [])) hRl hML.len (hRe.sml1 hp7) (hML.sml1 hp7)) (.cons (.refl _) (.cons (vw_ints (upd_same _ _ _) hRl.symm) (.cons (.refl _) .nil))) ?_
   intro m1 H1 r1 ids1 hm1 hH1 hown1
   rw [add_mul_step ht, ← hR, ← redL_take (by omega)] at hown1
   obtain ⟨id1, rfl, hc1, hid1a, hid1b⟩ := hown1.ints_pos (by rw [(redL_el ht _ ha).len]; exact hpos)
   rw [(redL_el ht _ ha).len]
   try simp -dsimp -implicitDefEqProofs (disch := omega) only [go_sem, undef, reduceAdd, reduceSub, reduceGT, reduceEqDiff, reduceMul, rows, ints, gd_i, gd_r, w64, deps_len, deps_get]
   refine hN3 _ ?_
   try clear hN3 N3
   refine AW.regionL envOk ?_
   simp -dsimp -implicitDefEqProofs (disch := omega) only [go_sem, undef, reduceAdd, reduceSub, reduceGT, reduceEqDiff, reduceMul, rows, ints, gd_i, gd_r, w64, deps_len, deps_get]
   refine ⟨(k + 1, id1), ?_, by intro i c hi; by_cases e : i = id1; (subst e; rw [upd_same] at hi; rw [← hi]; exact hc1); (rw [upd_ne _ _ e] at hi; cases hi), ?_, ?_⟩
   ·simp (disch := omega) [wks, wkA, sl, rows, ints, deps_len] <;> omega
   ·exact ⟨⟨by omega, by first| omega| (simp only; omega)| (dsimp only; omega)⟩, by first| omega| (simp only; omega)| (dsimp only; omega), by first| omega| (simp only; omega)| (dsimp only; omega)⟩
   ·first | omega | (simp only; omega)
  ·try simp only [cn] at h1
   refine AW.exit ?_
   simp only [thn, blk, if_true]
   refine hN1 _ ?_
   try clear hN1 N1
   refine AW.sr envOk (fun N hN => ?_)
   simp -dsimp -implicitDefEqProofs (disch := omega) only [go_sem, undef, reduceAdd, reduceSub, reduceGT, reduceEqDiff, reduceMul, rows, ints, gd_i, gd_r, w64, deps_len, deps_get]
   refine hN _ ?_
   try clear hN N
   refine AW.ret ?_
   simp -dsimp -implicitDefEqProofs (disch := omega) only [go_sem, undef, reduceAdd, reduceSub, reduceGT, reduceEqDiff, reduceMul]
   have hk' : k = u.length := by omega
   subst hk'
   rw [List.take_length] at *
   exact ⟨_, Own.ints (upd_same _ _ _) (redL_el ht u ha).len.symm hid (by omega)⟩
theorem impl_reduceLie_zero (p : Int) (br : List (List (List Int))) : ACo Try.prog 143 [ringP p [] br, rows [], ints []] (ints []) := by
 intro nx
 refine AC.intro' envOk Try.func143 rfl (by kernel_rfl) Try.ntmps143 Try.results143 ?_
 refine AW.sr envOk (fun N hN => ?_)
 simp -dsimp -implicitDefEqProofs (disch := omega) only [go_sem, undef, reduceAdd, reduceSub, reduceGT, reduceEqDiff, reduceMul, rows, ints, List.length_nil, List.map_nil, deps]
 refine hN _ ?_
 try clear hN N
 refine AW.sr envOk (fun N hN => ?_)
 simp -dsimp -implicitDefEqProofs (disch := omega) only [go_sem, undef, reduceAdd, reduceSub, reduceGT, reduceEqDiff, reduceMul, rows, ints, List.length_nil, List.map_nil, deps]
 refine (CpI.zero rfl (slices_Clone_int64_int64_ok [] (by simp) _ _)).mono ?_
 rintro nx1 H1 r ⟨rfl, rfl⟩
 try simp -dsimp -implicitDefEqProofs (disch := omega) only [go_sem, undef, reduceAdd, reduceSub, reduceGT, reduceEqDiff, reduceMul, rows, ints, List.length_nil, List.map_nil, deps]
 refine hN _ ?_
 try clear hN N
 refine AW.seq (fun N1 hN1 => ?_)
 refine AW.sr envOk (fun N hN => ?_)
 simp -dsimp -implicitDefEqProofs (disch := omega) only [go_sem, undef, reduceAdd, reduceSub, reduceGT, reduceEqDiff, reduceMul, rows, ints, List.length_nil, List.map_nil, deps]
 refine AC.pure (.of (impl_pivots_ok 0 [] (by omega) (by simp) (fun k hk => absurd hk (by simp)) )) ?_
 try simp -dsimp -implicitDefEqProofs (disch := omega) only [go_sem, undef, reduceAdd, reduceSub, reduceGT, reduceEqDiff, reduceMul, rows, ints, List.length_nil, List.map_nil, deps]
 refine hN _ ?_
 try clear hN N
 refine AW.block ?_
 refine AW.loop1 ?_
 refine AW.sr envOk (fun N hN => ?_)
 simp -dsimp -implicitDefEqProofs (disch := omega) only [go_sem, undef, reduceAdd, reduceSub, reduceGT, reduceEqDiff, reduceMul, rows, ints, List.length_nil, List.map_nil, deps]
 refine hN _ ?_
 try clear hN N
 refine AW.seq (fun N2 hN2 => ?_)
 refine AW.cond rfl (fun h => absurd h (by simp)) (fun _ => ?_)
 refine AW.exit ?_
 simp only [thn, blk, if_true]
 refine hN1 _ ?_
 try clear hN1 N1
 refine AW.sr envOk (fun N hN => ?_)
 simp -dsimp -implicitDefEqProofs (disch := omega) only [go_sem, undef, reduceAdd, reduceSub, reduceGT, reduceEqDiff, reduceMul, rows, ints, List.length_nil, List.map_nil, deps]
 refine hN _ ?_
 try clear hN N
 refine AW.ret ?_
 simp -dsimp -implicitDefEqProofs (disch := omega) only [go_sem, undef, reduceAdd, reduceSub, reduceGT, reduceEqDiff, reduceMul]
 show ∃ ids, Own nx _ noH (.v 0 []) (.v 0 []) ids
 exact ⟨_, .leaf _ .v0 (.v _ _ (by simp)), by simp, by simp⟩
theorem impl_reduceLie_ok (p : Int) (pw : List (List Int)) (br : List (List (List Int))) (ht : Tri p pw) (u : List (List Int)) (hu : Rws p pw.length u) (a : List Int) (ha : El p pw.length a) : ACo Try.prog 143 [ringP p pw br, rows u, ints a] (ints (redL p pw u a)) := by
  rcases Nat.eq_zero_or_pos pw.length with h | h
  · have h1 : pw = [] := List.length_eq_zero_iff.1 h
    have h2 : a = [] := List.length_eq_zero_iff.1 (by rw [ha.len]; exact h)
    have h3 : u = [] := by
      cases u with
      | nil => rfl
      | cons v u => have := hu.lt 0 (by simp); omega
    subst h1; subst h2; subst h3
    exact impl_reduceLie_zero p br
  · exact impl_reduceLie_pos p pw br ht h u hu a ha
def CpR (nx nx' : Nat) (H H' : HP) (r : AV) (a : List (List Int)) : Prop := (∃ id, r = .h id 0 a.length ∧ nx ≤ id ∧ id < nx' ∧ H' = upd H id (some (a.map ints))) ∨ (a.length = 0 ∧ r = .v 0 [] ∧ H' = H)
theorem slices_Clone_rows_ok (a : List (List Int)) (ha : a.length ≤ 1099511627776) (nx : Nat) (H : HP) : AC Try.prog 242 nx H [rows a] (fun nx' H' r => CpR nx nx' H H' r a) := by
  refine AC.nilv ?_
  refine AC.introx envOk Try.func242 rfl (by kernel_rfl) Try.ntmps242 Try.results242 (fun hfr => ?_)
  refine AW.sr envOk (fun N hN => ?_)
  simp -dsimp -implicitDefEqProofs (disch := omega) only [go_sem, undef, reduceAdd, reduceSub, reduceGT, reduceEqDiff, reduceMul, rows]
  refine hN _ ?_
  try clear hN N
  refine AW.seq (fun N1 hN1 => ?_)
  refine AW.sr envOk (fun N hN => ?_)
  simp -dsimp -implicitDefEqProofs (disch := omega) only [go_sem, undef, reduceAdd, reduceSub, reduceGT, reduceEqDiff, reduceMul, rows]
  refine ⟨⟨_, _, rfl, rfl⟩, ⟨fun h0 => ?_, ?_⟩⟩
  · refine hN _ ?_
    try clear hN N
    refine AW.condT rfl ?_
    refine AW.sr envOk (fun N hN => ?_)
    simp -dsimp -implicitDefEqProofs (disch := omega) only [go_sem, undef, reduceAdd, reduceSub, reduceGT, reduceEqDiff, reduceMul, ]
    refine hN _ ?_
    try clear hN N
    refine AW.ret ?_
    simp -dsimp -implicitDefEqProofs (disch := omega) only [go_sem, undef, reduceAdd, reduceSub, reduceGT, reduceEqDiff, reduceMul]
    exact ⟨H, Le.refl _, .inr (.inr ⟨h0, rfl, rfl⟩)⟩
  · refine hN _ ?_
    try clear hN N
    refine AW.condF rfl ?_
    refine AW.skip ?_
    simp only [thn, blk]
    refine hN1 _ ?_
    try clear hN1 N1
    refine AW.sr envOk (fun N hN => ?_)
    simp -dsimp -implicitDefEqProofs (disch := omega) only [go_sem, undef, reduceAdd, reduceSub, reduceGT, reduceEqDiff, reduceMul, rows]
    refine hN _ ?_
    try clear hN N
    refine AW.ret ?_
    simp -dsimp -implicitDefEqProofs (disch := omega) only [go_sem, undef, reduceAdd, reduceSub, reduceGT, reduceEqDiff, reduceMul]
    refine ⟨_, ?_, .inl (.inl ⟨_, rfl, ?_, ?_, rfl⟩)⟩
    · intro i c hi
      have hlt : H i = some c → i < nx := fun h => by apply Classical.byContradiction; intro hn; rw [hfr i (by omega)] at h; cases h
      simp only [upd] at hi ⊢
      split at hi
      · rename_i e; subst e; cases hi; repeat (first | rw [if_pos rfl] | rw [if_neg (by omega)])
      · have := hlt hi; repeat rw [if_neg (by omega)]
        exact hi
    · omega
    · omega
def bcell (b : List Int) : AV := if b = [] then .nl else ints b
def bls (n : Nat) (B : Nat → List Int) : List AV := (List.range n).map fun d => bcell (B d)
theorem bls_len {n : Nat} {B : Nat → List Int} : (bls n B).length = n := by simp [bls]
theorem bls_get {n : Nat} {B : Nat → List Int} {d : Nat} (h : d < n) : (bls n B).getD d .j = bcell (B d) := by simp [bls, h]
theorem bls_zero {n : Nat} : bls n (fun _ => []) = List.replicate n .nl := by
  apply List.ext_getElem?
  intro i
  by_cases h : i < n <;> simp [bls, h, bcell]
theorem bls_set {n : Nat} {B : Nat → List Int} {d : Nat} {z : List Int} (h : d < n) (hz : 0 < z.length) : splice (bls n B) d [AV.v z.length (z.map (.i .i64))] = bls n (fun i => if i = d then z else B i) := by
  have hzn : z ≠ [] := by rintro rfl; simp at hz
  rw [splice_one _ _ _ (by rw [bls_len]; exact h)]
  apply List.ext_getElem?
  intro i
  rw [List.getElem?_set]
  by_cases hi : d = i
  · subst hi; simp [bls, h, bcell, hzn, ints]
  · simp only [hi, if_false, bls, List.getElem?_map]
    by_cases hn : i < n
    · simp [hn, Ne.symm hi]
    · simp [hn]
theorem bcell_ne {z : List Int} (hz : 0 < z.length) : bcell z = AV.v z.length (z.map (.i .i64)) := by
  have hzn : z ≠ [] := by rintro rfl; simp at hz
  simp [bcell, hzn, ints]
theorem nilop_bc {b : List Int} {k : AV → Prop} : nilop env .neq 22 (bcell b) .nl k = k (.b (tf (b ≠ []))) := by
  unfold bcell
  by_cases h : b = []
  · rw [if_pos h, tf_f (by simp [h])]
    simp only [nilop]
    simp only [bop, go_sem]
    try simp
  · rw [if_neg h, tf_t h]
    simp only [nilop, ints]
    refine propext ⟨fun hh => hh.2.f, fun hh => ⟨⟨_, _, rfl, rfl⟩, ⟨fun h0 => absurd (List.length_eq_zero_iff.1 h0) h, hh⟩⟩⟩
attribute [go_sem high] nilop_bc
attribute [go_sem] bls_len bls_get bls_set
end Go.Proofs.Ytdghgmgppecncaa
