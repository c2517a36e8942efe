import Derived.Test.YtdghgmgppecncaaZ34
set_option linter.unusedVariables false
set_option linter.unusedSimpArgs false
namespace Go.Proofs.Ytdghgmgppecncaa
open Nat (reduceAdd reduceSub reduceGT reduceEqDiff reduceMul)
theorem dep_snoc {u : List (List Int)} {k : Nat} (h : k < u.length) : List.map (fun b => AV.i .i64 (dep b)) (u.take k) ++ [AV.i .i64 (dep (u.getD k []))] = List.map (fun b => AV.i .i64 (dep b)) (u.take (k + 1)) := by
  rw [List.take_add_one, List.map_append]
  congr 1
  simp [h]
def deps (u : List (List Int)) : List Int := u.map fun b => (dep b : Int)
theorem impl_pivots_ok (n : Nat) (u : List (List Int)) (hn : n ≤ 6) (hu : u.length ≤ 1048576) (hl : ∀ k, k < u.length → (u.getD k []).length = n ∧ dep (u.getD k []) < n) : ACp Try.prog 191 [rows u] (ints (deps u)) := by
 refine ACp.introV envOk Try.func191 rfl (by kernel_rfl) Try.ntmps191 Try.results191 ((ints_nr _)) (fun nx => ?_)
 refine AW.sr envOk (fun N hN => ?_)
 simp -dsimp -implicitDefEqProofs (disch := omega) only [go_sem, undef, reduceAdd, reduceSub, reduceGT, reduceEqDiff, reduceMul, rows, gd_r, w64, Nat.min_eq_left]
 refine hN _ ?_
 try clear hN N
 refine AW.sr envOk (fun N hN => ?_)
 simp -dsimp -implicitDefEqProofs (disch := omega) only [go_sem, undef, reduceAdd, reduceSub, reduceGT, reduceEqDiff, reduceMul, rows, gd_r, w64, Nat.min_eq_left]
 refine hN _ ?_
 try clear hN N
 refine AW.seq (fun N1 hN1 => ?_)
 refine AW.sr envOk (fun N hN => ?_)
 simp -dsimp -implicitDefEqProofs (disch := omega) only [go_sem, undef, reduceAdd, reduceSub, reduceGT, reduceEqDiff, reduceMul, rows, gd_r, w64, Nat.min_eq_left]
 refine hN _ ?_
 try clear hN N
 refine AW.block ?_
 refine AW.loopN (α := Nat × Option Nat) (fun x => sl 19 [(3, oA x.2 x.1), (6, rows u), (7, .i .i64 u.length), (8, .i .i64 x.1)]) (fun x => oH noH x.2 ((u.take x.1).map fun b => AV.i .i64 (dep b))) (fun x m => (x.1 ≤ u.length ∧ nx ≤ m) ∧ (x.2 = none → x.1 = 0) ∧ (∀ id, x.2 = some id → nx ≤ id ∧ id < m)) (fun x => u.length - x.1) ((0, none)) ?_ ?_ (fun _ _ h => h) ?_
 ·exact ⟨⟨by simp, by first| omega| (simp only; omega)| (dsimp only; omega)⟩, fun _ => rfl, by simp⟩
 ·simp [wks, wkA, sl, rows, oA]
 ·skip
  rintro ⟨k, _ | id⟩ m ⟨⟨hk, hm⟩, h0, hid⟩
  ·skip
   simp -dsimp -implicitDefEqProofs (disch := omega) only [go_sem, undef, reduceAdd, reduceSub, reduceGT, reduceEqDiff, reduceMul]
   dsimp only [oA, oH] at hk hm h0 hid ⊢
   have hk0 : k = 0 := h0 rfl
   refine AW.sr envOk (fun N hN => ?_)
   simp -dsimp -implicitDefEqProofs (disch := omega) only [go_sem, undef, reduceAdd, reduceSub, reduceGT, reduceEqDiff, reduceMul, rows, gd_r, w64, Nat.min_eq_left]
   refine hN _ ?_
   try clear hN N
   refine AW.seq (fun N2 hN2 => ?_)
   refine AW.cond rfl (fun h1 => ?_) (fun h1 => ?_)
   ·try simp only [cn] at h1
    obtain ⟨hl1, hl2⟩ := hl k (by omega)
    refine AW.skip ?_
    simp only [thn, blk]
    refine hN2 _ ?_
    try clear hN2 N2
    refine AW.seq (fun N3 hN3 => ?_)
    refine AW.block ?_
    refine AW.sr envOk (fun N hN => ?_)
    simp -dsimp -implicitDefEqProofs (disch := omega) only [go_sem, undef, reduceAdd, reduceSub, reduceGT, reduceEqDiff, reduceMul, rows, gd_r, w64, Nat.min_eq_left]
    refine hN _ ?_
    try clear hN N
    refine AW.regionL envOk ?_
    simp -dsimp -implicitDefEqProofs (disch := omega) only [go_sem, undef, reduceAdd, reduceSub, reduceGT, reduceEqDiff, reduceMul, rows, gd_r, w64, Nat.min_eq_left]
    refine AC.pure (.of (slices_IndexFunc_nz (u.getD k []) (by omega) (by omega) )) ?_
    try simp -dsimp -implicitDefEqProofs (disch := omega) only [go_sem, undef, reduceAdd, reduceSub, reduceGT, reduceEqDiff, reduceMul, rows, gd_r, w64, Nat.min_eq_left]
    refine hN3 _ ?_
    try clear hN3 N3
    refine AW.regionL envOk ?_
    simp -dsimp -implicitDefEqProofs (disch := omega) only [go_sem, undef, reduceAdd, reduceSub, reduceGT, reduceEqDiff, reduceMul, rows, gd_r, w64, Nat.min_eq_left]
    refine ⟨(k + 1, some (m + 1 + 3 + 4)), ?_, by subst hk0; rw [← dep_snoc (by omega)]; intro d cs hd; simp only [oH, upd, noH] at hd ⊢; grind, ?_, ?_⟩
    ·simp (disch := omega) [wks, wkA, sl, rows, oA, w64] <;> omega
    ·exact ⟨⟨by omega, by first| omega| (simp only; omega)| (dsimp only; omega)⟩, by simp, by simp; omega⟩
    ·first | omega | (simp only; omega)
   ·try simp only [cn] at h1
    refine AW.exit ?_
    simp only [thn, blk, if_true]
    refine hN1 _ ?_
    try clear hN1 N1
    refine AW.sr envOk (fun N hN => ?_)
    simp -dsimp -implicitDefEqProofs (disch := omega) only [go_sem, undef, reduceAdd, reduceSub, reduceGT, reduceEqDiff, reduceMul, rows, gd_r, w64, Nat.min_eq_left]
    refine hN _ ?_
    try clear hN N
    refine AW.ret ?_
    simp -dsimp -implicitDefEqProofs (disch := omega) only [go_sem, undef, reduceAdd, reduceSub, reduceGT, reduceEqDiff, reduceMul]
    have h00 : u = [] := List.length_eq_zero_iff.1 (by omega)
    subst h00
    exact .nl
  ·skip
   simp -dsimp -implicitDefEqProofs (disch := omega) only [go_sem, undef, reduceAdd, reduceSub, reduceGT, reduceEqDiff, reduceMul]
   dsimp only [oA, oH] at hk hm h0 hid ⊢
   have hidm := hid id rfl
   refine AW.sr envOk (fun N hN => ?_)
   simp -dsimp -implicitDefEqProofs (disch := omega) only [go_sem, undef, reduceAdd, reduceSub, reduceGT, reduceEqDiff, reduceMul, rows, gd_r, w64, Nat.min_eq_left]
   refine hN _ ?_
   try clear hN N
   refine AW.seq (fun N4 hN4 => ?_)
   refine AW.cond rfl (fun h2 => ?_) (fun h2 => ?_)
   ·try simp only [cn] at h2
    obtain ⟨hl1, hl2⟩ := hl k (by omega)
    refine AW.skip ?_
    simp only [thn, blk]
    refine hN4 _ ?_
    try clear hN4 N4
    refine AW.seq (fun N5 hN5 => ?_)
    refine AW.block ?_
    refine AW.sr envOk (fun N hN => ?_)
    simp -dsimp -implicitDefEqProofs (disch := omega) only [go_sem, undef, reduceAdd, reduceSub, reduceGT, reduceEqDiff, reduceMul, rows, gd_r, w64, Nat.min_eq_left]
    refine hN _ ?_
    try clear hN N
    refine AW.regionL envOk ?_
    simp -dsimp -implicitDefEqProofs (disch := omega) only [go_sem, undef, reduceAdd, reduceSub, reduceGT, reduceEqDiff, reduceMul, rows, gd_r, w64, Nat.min_eq_left]
    refine AC.pure (.of (slices_IndexFunc_nz (u.getD k []) (by omega) (by omega) )) ?_
    try simp -dsimp -implicitDefEqProofs (disch := omega) only [go_sem, undef, reduceAdd, reduceSub, reduceGT, reduceEqDiff, reduceMul, rows, gd_r, w64, Nat.min_eq_left]
    refine hN5 _ ?_
    try clear hN5 N5
    refine AW.regionL envOk ?_
    simp -dsimp -implicitDefEqProofs (disch := omega) only [go_sem, undef, reduceAdd, reduceSub, reduceGT, reduceEqDiff, reduceMul, rows, gd_r, w64, Nat.min_eq_left]
    refine ⟨(k + 1, some (m + 1 + 3 + 4)), ?_, by rw [← dep_snoc (by omega)]; intro d cs hd; simp only [oH, upd, noH] at hd ⊢; grind, ?_, ?_⟩
    ·simp (disch := omega) [wks, wkA, sl, rows, oA, w64] <;> omega
    ·exact ⟨⟨by omega, by first| omega| (simp only; omega)| (dsimp only; omega)⟩, by simp, by simp; omega⟩
    ·first | omega | (simp only; omega)
   ·try simp only [cn] at h2
    refine AW.exit ?_
    simp only [thn, blk, if_true]
    refine hN1 _ ?_
    try clear hN1 N1
    refine AW.sr envOk (fun N hN => ?_)
    simp -dsimp -implicitDefEqProofs (disch := omega) only [go_sem, undef, reduceAdd, reduceSub, reduceGT, reduceEqDiff, reduceMul, rows, gd_r, w64, Nat.min_eq_left]
    refine hN _ ?_
    try clear hN N
    refine AW.ret ?_
    simp -dsimp -implicitDefEqProofs (disch := omega) only [go_sem, undef, reduceAdd, reduceSub, reduceGT, reduceEqDiff, reduceMul]
    have hk' : k = u.length := by omega
    subst hk'
    have hx : List.map (fun b => AV.i .i64 (dep b)) (u.take u.length) = (deps u).map (.i .i64) := by simp [deps]
    refine vw_ints ?_ (by simp [deps])
    rw [upd_same, hx]
end Go.Proofs.Ytdghgmgppecncaa
namespace Go.Proofs.Ytdghgmgppecncaa
open Nat (reduceAdd reduceSub reduceGT reduceEqDiff reduceMul)
theorem ACp.ofV {P : Program} {f : FuncId} {xs : List AV} {X : AV} (hX : NR X) (h : ∀ nx, AC P f nx noH xs (fun _ H' r => Vw H' r X)) : ACp P f xs X := by
  refine ⟨(h 0).1, fun L M w us hM ⟨n, hn⟩ ha => ((h n).2 L M w us (SR_noH hM) hn (by rw [MM_noH]; exact ha)).mono ?_⟩
  rintro e w' ⟨u, r, L', nx', H', h1, h2, h3, h4, h5, h6, h7, h8⟩
  exact ⟨u, h1, ⟨fun _ _ h => h, h7.os, h7.tape, h7.output, h7.size, h7.keep, fun b _ hb => absurd hb LB_noH⟩, (h2.sound h6 h8).nr hX⟩
theorem slices_Clone_p (a : List Int) (ha : a.length ≤ 1099511627776) : ACp Try.prog 220 [ints a] (ints a) := by
  refine .ofV (ints_nr _) (fun nx => (slices_Clone_int64_int64_ok a ha nx noH).mono fun _ H' r h => ?_)
  have := h.mv.vw
  rwa [← vec_of] at this
theorem slices_EqualFunc_rows (a b : List (List Int)) (ha : rowslen a) (hb : rowslen b) : ACp Try.prog 280 [rows a, rows b, .f 208 []] (.b (tf (a = b))) := by
 have han := ha.n
 have hbn := hb.n
 refine ACp.intro' envOk Try.func280 rfl (by kernel_rfl) Try.ntmps280 Try.results280 (.b _) (fun nx => ?_)
 refine AW.sr envOk (fun N hN => ?_)
 simp -dsimp -implicitDefEqProofs (disch := omega) only [go_sem, undef, reduceAdd, reduceSub, reduceGT, reduceEqDiff, reduceMul, rows, gd_r, w64]
 refine hN _ ?_
 try clear hN N
 refine AW.seq (fun N1 hN1 => ?_)
 refine AW.sr envOk (fun N hN => ?_)
 simp -dsimp -implicitDefEqProofs (disch := omega) only [go_sem, undef, reduceAdd, reduceSub, reduceGT, reduceEqDiff, reduceMul, rows, gd_r, w64]
 refine hN _ ?_
 try clear hN N
 refine AW.cond rfl (fun h1 => ?_) (fun h1 => ?_)
 ·try simp only [cn] at h1
  refine AW.sr envOk (fun N hN => ?_)
  simp -dsimp -implicitDefEqProofs (disch := omega) only [go_sem, undef, reduceAdd, reduceSub, reduceGT, reduceEqDiff, reduceMul, rows, gd_r, w64]
  refine hN _ ?_
  try clear hN N
  refine AW.ret ?_
  simp -dsimp -implicitDefEqProofs (disch := omega) only [go_sem, undef, reduceAdd, reduceSub, reduceGT, reduceEqDiff, reduceMul]
  exact bt (tf_f (fun h => h1 (by rw [h]))).symm
 ·try simp only [cn] at h1
  have hl : a.length = b.length := by omega
  refine AW.skip ?_
  simp only [thn, blk]
  refine hN1 _ ?_
  try clear hN1 N1
  refine AW.seq (fun N2 hN2 => ?_)
  refine AW.sr envOk (fun N hN => ?_)
  simp -dsimp -implicitDefEqProofs (disch := omega) only [go_sem, undef, reduceAdd, reduceSub, reduceGT, reduceEqDiff, reduceMul, rows, gd_r, w64]
  refine hN _ ?_
  try clear hN N
  refine AW.block ?_
  refine AW.loopN (α := Nat) (fun x => sl 32 [(1, rows b), (2, .f 208 []), (15, rows a), (16, .i .i64 a.length), (17, .i .i64 x)]) (fun _ => noH) (fun x m => x ≤ a.length ∧ a.take x = b.take x) (fun x => a.length - x) (0) ?_ ?_ (fun _ _ h => h) ?_
  ·exact ⟨by omega, rfl⟩
  ·simp (disch := omega) [wks, wkA, sl, w64, ints, rows, cubes, rows, gd_r, w64] <;> omega
  ·skip
   rintro k m ⟨hk, hI⟩
   simp -dsimp -implicitDefEqProofs (disch := omega) only [go_sem, undef, reduceAdd, reduceSub, reduceGT, reduceEqDiff, reduceMul]
   refine AW.sr envOk (fun N hN => ?_)
   simp -dsimp -implicitDefEqProofs (disch := omega) only [go_sem, undef, reduceAdd, reduceSub, reduceGT, reduceEqDiff, reduceMul, rows, gd_r, w64]
   refine hN _ ?_
   try clear hN N
   refine AW.seq (fun N3 hN3 => ?_)
   refine AW.cond rfl (fun h2 => ?_) (fun h2 => ?_)
   ·try simp only [cn] at h2
    have hak := ha.getD k
    have hbk := hb.getD k
    refine AW.skip ?_
    simp only [thn, blk]
    refine hN3 _ ?_
    try clear hN3 N3
    refine AW.seq (fun N4 hN4 => ?_)
    refine AW.block ?_
    refine AW.sr envOk (fun N hN => ?_)
    simp -dsimp -implicitDefEqProofs (disch := omega) only [go_sem, undef, reduceAdd, reduceSub, reduceGT, reduceEqDiff, reduceMul, rows, gd_r, w64]
    refine hN _ ?_
    try clear hN N
    refine AW.sr envOk (fun N hN => ?_)
    simp -dsimp -implicitDefEqProofs (disch := omega) only [go_sem, undef, reduceAdd, reduceSub, reduceGT, reduceEqDiff, reduceMul, rows, gd_r, w64]
    refine hN _ ?_
    try clear hN N
    refine AW.sr envOk (fun N hN => ?_)
    simp -dsimp -implicitDefEqProofs (disch := omega) only [go_sem, undef, reduceAdd, reduceSub, reduceGT, reduceEqDiff, reduceMul, rows, gd_r, w64]
    refine AC.pure (.of (slices_Equal_int64_int64_ok (a.getD k []) (b.getD k []) (by omega) (by omega) )) ?_
    try simp -dsimp -implicitDefEqProofs (disch := omega) only [go_sem, undef, reduceAdd, reduceSub, reduceGT, reduceEqDiff, reduceMul, rows, gd_r, w64]
    refine hN _ ?_
    try clear hN N
    refine AW.cond rfl (fun h3 => ?_) (fun h3 => ?_)
    ·try simp only [cn] at h3
     refine AW.sr envOk (fun N hN => ?_)
     simp -dsimp -implicitDefEqProofs (disch := omega) only [go_sem, undef, reduceAdd, reduceSub, reduceGT, reduceEqDiff, reduceMul, rows, gd_r, w64]
     refine hN _ ?_
     try clear hN N
     refine AW.ret ?_
     simp -dsimp -implicitDefEqProofs (disch := omega) only [go_sem, undef, reduceAdd, reduceSub, reduceGT, reduceEqDiff, reduceMul]
     exact bt (tf_f (fun h => h3 (by rw [h]))).symm
    ·try simp only [cn] at h3
     refine AW.skip ?_
     simp only [thn, blk]
     refine hN4 _ ?_
     try clear hN4 N4
     refine AW.regionL envOk ?_
     simp -dsimp -implicitDefEqProofs (disch := omega) only [go_sem, undef, reduceAdd, reduceSub, reduceGT, reduceEqDiff, reduceMul, rows, gd_r, w64]
     refine ⟨k + 1, ?_, fun _ _ h => h, ?_, ?_⟩
     ·simp (disch := omega) [wks, wkA, sl, w64, ints, rows, cubes, rows, gd_r, w64] <;> omega
     ·exact ⟨by omega, take_ext [] hl (by omega) hI h3⟩
     ·first | omega | (simp only; omega)
   ·try simp only [cn] at h2
    refine AW.exit ?_
    simp only [thn, blk, if_true]
    refine hN2 _ ?_
    try clear hN2 N2
    refine AW.sr envOk (fun N hN => ?_)
    simp -dsimp -implicitDefEqProofs (disch := omega) only [go_sem, undef, reduceAdd, reduceSub, reduceGT, reduceEqDiff, reduceMul, rows, gd_r, w64]
    refine hN _ ?_
    try clear hN N
    refine AW.ret ?_
    simp -dsimp -implicitDefEqProofs (disch := omega) only [go_sem, undef, reduceAdd, reduceSub, reduceGT, reduceEqDiff, reduceMul]
    have hk' : k = a.length := by omega
    subst hk'
    rw [List.take_length, hl, List.take_length] at hI
    exact bt (tf_t hI).symm
theorem impl_sameRows_ok (a b : List (List Int)) (ha : rowslen a) (hb : rowslen b) : ACp Try.prog 228 [rows a, rows b] (.b (tf (a = b))) := by
 refine ACp.intro' envOk Try.func228 rfl (by kernel_rfl) Try.ntmps228 Try.results228 (.b _) (fun nx => ?_)
 refine AW.sr envOk (fun N hN => ?_)
 simp -dsimp -implicitDefEqProofs (disch := omega) only [go_sem, undef, reduceAdd, reduceSub, reduceGT, reduceEqDiff, reduceMul, ]
 refine hN _ ?_
 try clear hN N
 refine AW.sr envOk (fun N hN => ?_)
 simp -dsimp -implicitDefEqProofs (disch := omega) only [go_sem, undef, reduceAdd, reduceSub, reduceGT, reduceEqDiff, reduceMul, ]
 refine AC.pure (.of (slices_EqualFunc_rows a b ha hb )) ?_
 try simp -dsimp -implicitDefEqProofs (disch := omega) only [go_sem, undef, reduceAdd, reduceSub, reduceGT, reduceEqDiff, reduceMul, ]
 refine hN _ ?_
 try clear hN N
 refine AW.ret ?_
 simp -dsimp -implicitDefEqProofs (disch := omega) only [go_sem, undef, reduceAdd, reduceSub, reduceGT, reduceEqDiff, reduceMul]
 skip
theorem deps_len {u : List (List Int)} : (deps u).length = u.length := by simp [deps]
theorem deps_get {u : List (List Int)} {k : Nat} (h : k < u.length) : (deps u).getD k 0 = (dep (u.getD k []) : Int) := by simp [deps, h]
theorem add_mul_step {p : Int} {pw : List (List Int)} (t : Tri p pw) {v x : List Int} : mixL p pw 1 x 1 (mulL p pw (0 - x.getD (dep v) 0) v) = stepL p pw v x := by
  unfold mixL stepL
  refine nf_eq t ?_
  refine ((Cg.refl (fun j => x.getD j 0)).comb 1 1 (nf_fn t (fun j => (0 - x.getD (dep v) 0) * v.getD j 0))).trans (.of fun j _ => ?_)
  rw [Int.zero_sub]; omega
theorem impl_reduceLie_p (p : Int) (pw : List (List Int)) (br : List (List (List Int))) (ht : Tri p pw) (u : List (List Int)) (hu : Rws p pw.length u) (a : List Int) (ha : El p pw.length a) : ACp Try.prog 143 [ringP p pw br, rows u, ints a] (ints (redL p pw u a)) := by
 have h6 := ht.n6
 have hp7 := ht.p7
 have hul := hu.len
 have hal := ha.len
 refine ACp.intro' envOk Try.func143 rfl (by kernel_rfl) Try.ntmps143 Try.results143 (ints_nr _) (fun nx => ?_)
 refine AW.sr envOk (fun N hN => ?_)
 simp -dsimp -implicitDefEqProofs (disch := omega) only [go_sem, undef, reduceAdd, reduceSub, reduceGT, reduceEqDiff, reduceMul, rows, ints, gd_i, gd_r, w64, deps_len, deps_get]
 refine hN _ ?_
 try clear hN N
 refine AW.sr envOk (fun N hN => ?_)
 simp -dsimp -implicitDefEqProofs (disch := omega) only [go_sem, undef, reduceAdd, reduceSub, reduceGT, reduceEqDiff, reduceMul, rows, ints, gd_i, gd_r, w64, deps_len, deps_get]
 refine AC.pure (.of (slices_Clone_p a (by omega) )) ?_
 try simp -dsimp -implicitDefEqProofs (disch := omega) only [go_sem, undef, reduceAdd, reduceSub, reduceGT, reduceEqDiff, reduceMul, rows, ints, gd_i, gd_r, w64, deps_len, deps_get]
 refine hN _ ?_
 try clear hN N
 refine AW.seq (fun N1 hN1 => ?_)
 refine AW.sr envOk (fun N hN => ?_)
 simp -dsimp -implicitDefEqProofs (disch := omega) only [go_sem, undef, reduceAdd, reduceSub, reduceGT, reduceEqDiff, reduceMul, rows, ints, gd_i, gd_r, w64, deps_len, deps_get]
 refine AC.pure (.of (impl_pivots_ok pw.length u h6 hul (fun k hk => ⟨(hu.el k hk).len, hu.lt k hk⟩) )) ?_
 try simp -dsimp -implicitDefEqProofs (disch := omega) only [go_sem, undef, reduceAdd, reduceSub, reduceGT, reduceEqDiff, reduceMul, rows, ints, gd_i, gd_r, w64, deps_len, deps_get]
 refine hN _ ?_
 try clear hN N
 refine AW.block ?_
 refine AW.loopN (α := Nat) (fun x => sl 36 [(0, ringP p pw br), (1, rows u), (7, ints (redL p pw (u.take x) a)), (13, ints (deps u)), (14, .i .i64 u.length), (15, .i .i64 x)]) (fun _ => noH) (fun x m => x ≤ u.length) (fun x => u.length - x) (0) ?_ ?_ (fun _ _ h => h) ?_
 ·omega
 ·simp (disch := omega) [wks, wkA, sl, rows, ints, redL, deps_len]
 ·skip
  rintro k m hk
  simp -dsimp -implicitDefEqProofs (disch := omega) only [go_sem, undef, reduceAdd, reduceSub, reduceGT, reduceEqDiff, reduceMul]
  refine AW.sr envOk (fun N hN => ?_)
  simp -dsimp -implicitDefEqProofs (disch := omega) only [go_sem, undef, reduceAdd, reduceSub, reduceGT, reduceEqDiff, reduceMul, rows, ints, gd_i, gd_r, w64, deps_len, deps_get]
  refine hN _ ?_
  try clear hN N
  refine AW.seq (fun N2 hN2 => ?_)
  refine AW.cond rfl (fun h1 => ?_) (fun h1 => ?_)
  ·try simp only [cn] at h1
   have hdl := deps_len (u := u)
   obtain ⟨R, hR⟩ : ∃ R, redL p pw (u.take k) a = R := ⟨_, rfl⟩
   have hRe : El p pw.length R := by rw [← hR]; exact redL_el ht _ ha
   have hRl := hRe.len
   have hve := hu.el k (by omega)
   have hvl := hve.len
   have hvd := hu.lt k (by omega)
   have hrg := hRe.rng (dep (u.getD k [])) hvd
   have hML : El p pw.length (mulL p pw (0 - R.getD (dep (u.getD k [])) 0) (u.getD k [])) := nf_el ht _
   rw [hR]
   refine AW.skip ?_
   simp only [thn, blk]
   refine hN2 _ ?_
   try clear hN2 N2
   refine AW.seq (fun N3 hN3 => ?_)
   refine AW.block ?_
   refine AW.sr envOk (fun N hN => ?_)
   simp -dsimp -implicitDefEqProofs (disch := omega) only [go_sem, undef, reduceAdd, reduceSub, reduceGT, reduceEqDiff, reduceMul, rows, ints, gd_i, gd_r, w64, deps_len, deps_get]
   refine hN _ ?_
   try clear hN N
   refine AW.drawL envOk (by kernel_rfl) 15 (by kernel_rfl) ?_
   simp -dsimp -implicitDefEqProofs (disch := omega) only [hr_nil, hr_one, hr_if, List.take_succ_cons, List.take_zero, List.drop_succ_cons, List.drop_zero, List.take_nil, List.drop_nil, go_sem, undef, reduceAdd, reduceSub, reduceGT, reduceEqDiff, reduceMul, rows, ints, gd_i, gd_r, w64, deps_len, deps_get]
   refine ⟨_, .of ((impl_timesLie_ok p pw br ht (0 - R.getD (dep (u.getD k [])) 0) (u.getD k []) hvl (hve.smlk hp7 (by omega) (by omega)) ⟨by omega, by omega⟩).pure ), ?_⟩
   try simp -dsimp -implicitDefEqProofs (disch := omega) only [go_sem, undef, reduceAdd, reduceSub, reduceGT, reduceEqDiff, reduceMul, rows, ints, gd_i, gd_r, w64, deps_len, deps_get]
   refine ⟨_, .of ((impl_addLie_ok p pw br ht R (mulL p pw (0 - R.getD (dep (u.getD k [])) 0) (u.getD k [])) hRl hML.len (hRe.sml1 hp7) (hML.sml1 hp7)).pure ), ?_⟩
   try simp -dsimp -implicitDefEqProofs (disch := omega) only [go_sem, undef, reduceAdd, reduceSub, reduceGT, reduceEqDiff, reduceMul, rows, ints, gd_i, gd_r, w64, deps_len, deps_get]
   refine hN3 _ ?_
   try clear hN3 N3
   refine AW.regionL envOk ?_
   simp -dsimp -implicitDefEqProofs (disch := omega) only [go_sem, undef, reduceAdd, reduceSub, reduceGT, reduceEqDiff, reduceMul, rows, ints, gd_i, gd_r, w64, deps_len, deps_get]
   rw [add_mul_step ht, ← hR, ← redL_take (by omega)]
   refine ⟨k + 1, ?_, fun _ _ h => h, ?_, ?_⟩
   ·simp (disch := omega) [wks, wkA, sl, rows, ints, deps_len]
   ·omega
   ·first | omega | (simp only; omega)
  ·try simp only [cn] at h1
   refine AW.exit ?_
   simp only [thn, blk, if_true]
   refine hN1 _ ?_
   try clear hN1 N1
   refine AW.sr envOk (fun N hN => ?_)
   simp -dsimp -implicitDefEqProofs (disch := omega) only [go_sem, undef, reduceAdd, reduceSub, reduceGT, reduceEqDiff, reduceMul, rows, ints, gd_i, gd_r, w64, deps_len, deps_get]
   refine hN _ ?_
   try clear hN N
   refine AW.ret ?_
   simp -dsimp -implicitDefEqProofs (disch := omega) only [go_sem, undef, reduceAdd, reduceSub, reduceGT, reduceEqDiff, reduceMul]
   rw [show k = u.length by omega, List.take_length]
   rfl
end Go.Proofs.Ytdghgmgppecncaa
