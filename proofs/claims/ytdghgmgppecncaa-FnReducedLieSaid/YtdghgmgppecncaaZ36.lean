import Derived.Test.YtdghgmgppecncaaZ35
set_option linter.unusedVariables false
set_option linter.unusedSimpArgs false
namespace Go.Proofs.Ytdghgmgppecncaa
open Nat (reduceAdd reduceSub reduceGT reduceEqDiff reduceMul)
structure Rws (p : Int) (n : Nat) (u : List (List Int)) : Prop where
  len : u.length ≤ 1048576
  el : ∀ k, k < u.length → El p n (u.getD k [])
  lt : ∀ k, k < u.length → dep (u.getD k []) < n
theorem redL_take {p : Int} {pw : List (List Int)} {u : List (List Int)} {x : List Int} {k : Nat} (h : k < u.length) : redL p pw (u.take (k + 1)) x = stepL p pw (u.getD k []) (redL p pw (u.take k) x) := by
  rw [List.take_add_one]
  have : u[k]?.toList = [u.getD k []] := by simp [h]
  rw [this, redL_snoc]
theorem mix_stepL {p : Int} {pw : List (List Int)} (t : Tri p pw) {v x : List Int} : mixL p pw 1 x (0 - x.getD (dep v) 0) v = stepL p pw v x := by
  unfold mixL stepL; rw [Int.zero_sub]
theorem spec_l32Reduce_ok (p : Int) (pw : List (List Int)) (br : List (List (List Int))) (ht : Tri p pw) (u : List (List Int)) (hu : Rws p pw.length u) (a : List Int) (ha : El p pw.length a) : ACp Try.prog 145 [ring p pw br, rows u, ints a] (ints (redL p pw u a)) := by
 have h6 := ht.n6
 have hp7 := ht.p7
 have hul := hu.len
 have hal := ha.len
 refine ACp.intro' envOk Try.func145 rfl (by kernel_rfl) Try.ntmps145 Try.results145 (ints_nr _) (fun nx => ?_)
 refine AW.sr envOk (fun N hN => ?_)
 simp -dsimp -implicitDefEqProofs (disch := omega) only [go_sem, undef, reduceAdd, reduceSub, reduceGT, reduceEqDiff, reduceMul, ring, rows, ints, gd_i, gd_r, w64]
 refine hN _ ?_
 try clear hN N
 refine AW.sr envOk (fun N hN => ?_)
 simp -dsimp -implicitDefEqProofs (disch := omega) only [go_sem, undef, reduceAdd, reduceSub, reduceGT, reduceEqDiff, reduceMul, ring, rows, ints, gd_i, gd_r, w64]
 refine AC.pure (.of (spec_l01Own_p a (by omega) )) ?_
 try simp -dsimp -implicitDefEqProofs (disch := omega) only [go_sem, undef, reduceAdd, reduceSub, reduceGT, reduceEqDiff, reduceMul, ring, rows, ints, gd_i, gd_r, w64]
 refine hN _ ?_
 try clear hN N
 refine AW.seq (fun N1 hN1 => ?_)
 refine AW.sr envOk (fun N hN => ?_)
 simp -dsimp -implicitDefEqProofs (disch := omega) only [go_sem, undef, reduceAdd, reduceSub, reduceGT, reduceEqDiff, reduceMul, ring, rows, ints, gd_i, gd_r, w64]
 refine hN _ ?_
 try clear hN N
 refine AW.block ?_
 refine AW.loopN (α := Nat) (fun x => sl 34 [(1, rows u), (3, .q nx 0), (7, ints (redL p pw (u.take x) a)), (8, .i .i64 x)]) (fun _ => upd noH nx (some [.i .i64 p, rows pw, cubes br])) (fun x m => x ≤ u.length) (fun x => u.length - x) (0) ?_ ?_ (fun _ _ h => h) ?_
 ·omega
 ·simp (disch := omega) [wks, wkA, sl, rows, ints, redL]
 ·skip
  rintro k m hk
  simp -dsimp -implicitDefEqProofs (disch := omega) only [go_sem, undef, reduceAdd, reduceSub, reduceGT, reduceEqDiff, reduceMul]
  refine AW.seq (fun N2 hN2 => ?_)
  refine AW.sr envOk (fun N hN => ?_)
  simp -dsimp -implicitDefEqProofs (disch := omega) only [go_sem, undef, reduceAdd, reduceSub, reduceGT, reduceEqDiff, reduceMul, ring, rows, ints, gd_i, gd_r, w64]
  refine hN _ ?_
  try clear hN N
  refine AW.cond rfl (fun h1 => ?_) (fun h1 => ?_)
  ·try simp only [cn] at h1
   obtain ⟨R, hR⟩ : ∃ R, redL p pw (u.take k) a = R := ⟨_, rfl⟩
   have hRe : El p pw.length R := by rw [← hR]; exact redL_el ht _ ha
   have hRl := hRe.len
   have hve := hu.el k (by omega)
   have hvl := hve.len
   have hvd := hu.lt k (by omega)
   rw [hR]
   refine AW.skip ?_
   simp only [thn, blk]
   refine hN2 _ ?_
   try clear hN2 N2
   refine AW.seq (fun N3 hN3 => ?_)
   refine AW.block ?_
   refine AW.drawL envOk (by kernel_rfl) 17 (by kernel_rfl) ?_
   simp -dsimp -implicitDefEqProofs (disch := omega) only [hr_nil, hr_one, hr_if, List.take_succ_cons, List.take_zero, List.drop_succ_cons, List.drop_zero, List.take_nil, List.drop_nil, go_sem, undef, reduceAdd, reduceSub, reduceGT, reduceEqDiff, reduceMul, ring, rows, ints, gd_i, gd_r, w64]
   have hrg := hRe.rng (dep (u.getD k [])) hvd
   refine ⟨_, .of (spec_l32Depth_ok (u.getD k []) (by omega) ), ?_⟩
   try simp -dsimp -implicitDefEqProofs (disch := omega) only [go_sem, undef, reduceAdd, reduceSub, reduceGT, reduceEqDiff, reduceMul, ring, rows, ints, gd_i, gd_r, w64]
   refine ⟨_, .of ((spec_l31Mix_ok p pw br ht 1 R (0 - R.getD (dep (u.getD k [])) 0) (u.getD k []) hRl hvl (hRe.sml1 hp7) (hve.smlk hp7 (by omega) (by omega))).pure ), ?_⟩
   try simp -dsimp -implicitDefEqProofs (disch := omega) only [go_sem, undef, reduceAdd, reduceSub, reduceGT, reduceEqDiff, reduceMul, ring, rows, ints, gd_i, gd_r, w64]
   refine hN3 _ ?_
   try clear hN3 N3
   refine AW.regionL envOk ?_
   simp -dsimp -implicitDefEqProofs (disch := omega) only [go_sem, undef, reduceAdd, reduceSub, reduceGT, reduceEqDiff, reduceMul, ring, rows, ints, gd_i, gd_r, w64]
   rw [mix_stepL ht, ← hR, ← redL_take (by omega)]
   refine ⟨k + 1, ?_, fun _ _ h => h, ?_, ?_⟩
   ·simp (disch := omega) [wks, wkA, sl, rows, ints]
   ·omega
   ·first | omega | (simp only; omega)
  ·try simp only [cn] at h1
   refine AW.exit ?_
   simp only [thn, blk, if_true]
   refine hN1 _ ?_
   try clear hN1 N1
   refine AW.sr envOk (fun N hN => ?_)
   simp -dsimp -implicitDefEqProofs (disch := omega) only [go_sem, undef, reduceAdd, reduceSub, reduceGT, reduceEqDiff, reduceMul, ring, rows, ints, gd_i, gd_r, w64]
   refine hN _ ?_
   try clear hN N
   refine AW.ret ?_
   simp -dsimp -implicitDefEqProofs (disch := omega) only [go_sem, undef, reduceAdd, reduceSub, reduceGT, reduceEqDiff, reduceMul]
   rw [show k = u.length by omega, List.take_length]
   rfl
theorem spec_l32Insert_ok (u : List (List Int)) (hu : u.length ≤ 1048576) (a : List Int) (hul : ∀ k, (u.getD k []).length ≤ 1048576) (hal : a.length ≤ 1048576) : ACp Try.prog 281 [rows u, ints a] (rows (insL a u)) := by
 refine ACp.introV envOk Try.func281 rfl (by kernel_rfl) Try.ntmps281 Try.results281 ((rows_nr _)) (fun nx => ?_)
 refine AW.sr envOk (fun N hN => ?_)
 simp -dsimp -implicitDefEqProofs (disch := omega) only [go_sem, undef, reduceAdd, reduceSub, reduceGT, reduceEqDiff, reduceMul, rows, gd_r, w64, Nat.min_eq_left, Nat.min_self, one_rt, one_rd]
 refine hN _ ?_
 try clear hN N
 refine AW.sr envOk (fun N hN => ?_)
 simp -dsimp -implicitDefEqProofs (disch := omega) only [go_sem, undef, reduceAdd, reduceSub, reduceGT, reduceEqDiff, reduceMul, rows, gd_r, w64, Nat.min_eq_left, Nat.min_self, one_rt, one_rd]
 refine hN _ ?_
 try clear hN N
 refine AW.seq (fun N1 hN1 => ?_)
 refine AW.block ?_
 refine AW.loopN (α := Nat) (fun x => sl 37 [(0, rows u), (1, ints a), (5, .i .i64 x)]) (fun _ => noH) (fun x m => x ≤ u.length ∧ ∀ j, j < x → dep (u.getD j []) < dep a) (fun x => u.length - x) (0) ?_ ?_ (fun _ _ h => h) ?_
 ·exact ⟨by omega, by intro j hj; omega⟩
 ·simp (disch := omega) [wks, wkA, sl, w64, ints, rows, cubes, rows, gd_r, w64, Nat.min_eq_left, Nat.min_self, one_rt, one_rd] <;> omega
 ·skip
  rintro k m ⟨hk, hI⟩
  simp -dsimp -implicitDefEqProofs (disch := omega) only [go_sem, undef, reduceAdd, reduceSub, reduceGT, reduceEqDiff, reduceMul]
  refine AW.seq (fun N2 hN2 => ?_)
  refine AW.sr envOk (fun N hN => ?_)
  simp -dsimp -implicitDefEqProofs (disch := omega) only [go_sem, undef, reduceAdd, reduceSub, reduceGT, reduceEqDiff, reduceMul, rows, gd_r, w64, Nat.min_eq_left, Nat.min_self, one_rt, one_rd]
  refine gopB.mk' (fun h1 => ?_) (fun h1 => ?_)
  ·try simp only [cn] at h1
   try simp -dsimp -implicitDefEqProofs (disch := omega) only [go_sem, undef, reduceAdd, reduceSub, reduceGT, reduceEqDiff, reduceMul, rows, gd_r, w64, Nat.min_eq_left, Nat.min_self, one_rt, one_rd]
   refine AC.pure (.of (spec_l32Depth_ok (u.getD k []) (by have := hul k; omega) )) ?_
   try simp -dsimp -implicitDefEqProofs (disch := omega) only [go_sem, undef, reduceAdd, reduceSub, reduceGT, reduceEqDiff, reduceMul, rows, gd_r, w64, Nat.min_eq_left, Nat.min_self, one_rt, one_rd]
   refine AC.pure (.of (spec_l32Depth_ok a (by omega) )) ?_
   try simp -dsimp -implicitDefEqProofs (disch := omega) only [go_sem, undef, reduceAdd, reduceSub, reduceGT, reduceEqDiff, reduceMul, rows, gd_r, w64, Nat.min_eq_left, Nat.min_self, one_rt, one_rd]
   refine hN _ ?_
   try clear hN N
   refine AW.cond rfl (fun h2 => ?_) (fun h2 => ?_)
   ·try simp only [cn] at h2
    refine AW.skip ?_
    simp only [thn, blk]
    refine hN2 _ ?_
    try clear hN2 N2
    refine AW.block ?_
    refine AW.regionL envOk ?_
    simp -dsimp -implicitDefEqProofs (disch := omega) only [go_sem, undef, reduceAdd, reduceSub, reduceGT, reduceEqDiff, reduceMul, rows, gd_r, w64, Nat.min_eq_left, Nat.min_self, one_rt, one_rd]
    refine ⟨k + 1, ?_, fun _ _ h => h, ?_, ?_⟩
    ·simp (disch := omega) [wks, wkA, sl, w64, ints, rows, cubes, rows, gd_r, w64, Nat.min_eq_left, Nat.min_self, one_rt, one_rd] <;> omega
    ·refine ⟨by omega, fun j hj => ?_⟩
     by_cases e : j = k
     ·subst e; omega
     ·exact hI j (by omega)
    ·first | omega | (simp only; omega)
   ·try simp only [cn] at h2
    refine AW.exit ?_
    simp only [thn, blk, if_true]
    refine hN1 _ ?_
    try clear hN1 N1
    refine AW.sr envOk (fun N hN => ?_)
    simp -dsimp -implicitDefEqProofs (disch := omega) only [go_sem, undef, reduceAdd, reduceSub, reduceGT, reduceEqDiff, reduceMul, rows, gd_r, w64, Nat.min_eq_left, Nat.min_self, one_rt, one_rd]
    refine hN _ ?_
    try clear hN N
    refine AW.sr envOk (fun N hN => ?_)
    simp -dsimp -implicitDefEqProofs (disch := omega) only [go_sem, undef, reduceAdd, reduceSub, reduceGT, reduceEqDiff, reduceMul, rows, gd_r, w64, Nat.min_eq_left, Nat.min_self, one_rt, one_rd]
    refine hN _ ?_
    try clear hN N
    refine AW.sr envOk (fun N hN => ?_)
    simp -dsimp -implicitDefEqProofs (disch := omega) only [go_sem, undef, reduceAdd, reduceSub, reduceGT, reduceEqDiff, reduceMul, rows, gd_r, w64, Nat.min_eq_left, Nat.min_self, one_rt, one_rd]
    refine hN _ ?_
    try clear hN N
    refine AW.ret ?_
    simp -dsimp -implicitDefEqProofs (disch := omega) only [go_sem, undef, reduceAdd, reduceSub, reduceGT, reduceEqDiff, reduceMul]
    refine Vw.rws ?_ ?_
    ·rw [ins_at (x := a) (u := u) hk hI (fun hl => by omega)]; simp; omega
    ·rw [upd_same, ins_at (x := a) (u := u) hk hI (fun hl => by omega), show List.take (k + 1) (List.take k (List.map ints u) ++ [ints a]) = _ from List.take_of_length_le (by simp; omega), show List.take (u.length - k) (List.drop k (List.map ints u)) = _ from List.take_of_length_le (by simp)]
     simp [List.map_take, List.map_drop]
  ·try simp only [cn] at h1
   try simp -dsimp -implicitDefEqProofs (disch := omega) only [go_sem, undef, reduceAdd, reduceSub, reduceGT, reduceEqDiff, reduceMul, rows, gd_r, w64, Nat.min_eq_left, Nat.min_self, one_rt, one_rd]
   refine hN _ ?_
   try clear hN N
   refine AW.condF rfl ?_
   refine AW.exit ?_
   simp only [thn, blk, if_true]
   refine hN1 _ ?_
   try clear hN1 N1
   refine AW.sr envOk (fun N hN => ?_)
   simp -dsimp -implicitDefEqProofs (disch := omega) only [go_sem, undef, reduceAdd, reduceSub, reduceGT, reduceEqDiff, reduceMul, rows, gd_r, w64, Nat.min_eq_left, Nat.min_self, one_rt, one_rd]
   refine hN _ ?_
   try clear hN N
   refine AW.sr envOk (fun N hN => ?_)
   simp -dsimp -implicitDefEqProofs (disch := omega) only [go_sem, undef, reduceAdd, reduceSub, reduceGT, reduceEqDiff, reduceMul, rows, gd_r, w64, Nat.min_eq_left, Nat.min_self, one_rt, one_rd]
   refine hN _ ?_
   try clear hN N
   refine AW.sr envOk (fun N hN => ?_)
   simp -dsimp -implicitDefEqProofs (disch := omega) only [go_sem, undef, reduceAdd, reduceSub, reduceGT, reduceEqDiff, reduceMul, rows, gd_r, w64, Nat.min_eq_left, Nat.min_self, one_rt, one_rd]
   refine hN _ ?_
   try clear hN N
   refine AW.ret ?_
   simp -dsimp -implicitDefEqProofs (disch := omega) only [go_sem, undef, reduceAdd, reduceSub, reduceGT, reduceEqDiff, reduceMul]
   refine Vw.rws ?_ ?_
   ·rw [ins_at (x := a) (u := u) hk hI (fun hl => by omega)]; simp; omega
   ·rw [upd_same, ins_at (x := a) (u := u) hk hI (fun hl => by omega), show List.take (k + 1) (List.take k (List.map ints u) ++ [ints a]) = _ from List.take_of_length_le (by simp; omega), show List.take (u.length - k) (List.drop k (List.map ints u)) = _ from List.take_of_length_le (by simp)]
    simp [List.map_take, List.map_drop]
theorem Ech.rws {p : Int} {n : Nat} {u : List (List Int)} (h : Ech p n u) (hn : n ≤ 6) : Rws p n u :=
  ⟨by have := h.len; omega, fun k hk => h.el _ (ix_mem hk), fun k hk => h.lt _ (ix_mem hk)⟩
theorem Ech.glen {p : Int} {n : Nat} {u : List (List Int)} (h : Ech p n u) (hn : n ≤ 6) (k : Nat) : (u.getD k []).length ≤ 1048576 := by
  by_cases hk : k < u.length
  · have := (h.el _ (ix_mem (d := []) hk)).len; omega
  · simp [List.getD_eq_getElem?_getD, List.getElem?_eq_none (Nat.le_of_not_lt hk)]
theorem take_sp {p : Int} {pw : List (List Int)} {u G : List (List Int)} {k : Nat} (hk : k < G.length) (h : Sp p pw u = Sp p pw (G.take k)) : Sp p pw (G.getD k [] :: u) = Sp p pw (G.take (k + 1)) := by
  have e : G.take (k + 1) = G.take k ++ [G.getD k []] := by rw [List.take_add_one]; simp [hk]
  rw [e]
  refine Sp.eqv (fun b hb => ?_) (fun b hb => ?_)
  · rcases List.mem_cons.1 hb with rfl | hb
    · exact .gen (by simp)
    · have : Sp p pw u (fn b) := .gen hb
      rw [h] at this
      exact this.mono fun c hc => by simp [hc]
  · rcases List.mem_append.1 hb with hb | hb
    · have : Sp p pw (G.take k) (fn b) := .gen hb
      rw [← h] at this
      exact this.mono fun c hc => by simp [hc]
    · rw [List.mem_singleton.1 hb]; exact .gen (by simp)
theorem ins_len {x : List Int} : ∀ {u : List (List Int)}, (insL x u).length = u.length + 1 := by
  intro u
  induction u with
  | nil => rfl
  | cons v u ih => simp only [insL]; split <;> simp [ih]
def rwd (u : List (List Int)) (k : Nat) : AV := rows (u.drop k)
theorem rows_drop {u : List (List Int)} {k : Nat} : AV.v (u.length - k) (List.take (u.length - k) (List.drop k (u.map ints))) = rwd u k := by
  unfold rwd rows
  rw [List.take_of_length_le (by simp), List.length_drop, List.map_drop]
theorem wL_snoc {p : Int} {pw : List (List Int)} {u : List (List Int)} {k : Nat} (h : k < u.length) : List.map ints ((wL p pw u).take k) ++ [ints (redL p pw (u.drop (k + 1)) (u.getD k []))] = List.map ints ((wL p pw u).take (k + 1)) := by
  rw [List.take_add_one, List.map_append]
  congr 1
  have : (wL p pw u)[k]? = some (redL p pw (u.drop (k + 1)) (u.getD k [])) := by simp [wL, h]
  rw [this]; rfl
theorem mix_lead {p : Int} {pw : List (List Int)} (t : Tri p pw) {i : Int} {x : List Int} : mixL p pw i x 0 x = nf p pw (fun j => i * fn x j) := nf_ext t (fun j _ => by simp only [fn]; omega)
theorem spec_l32Span_ok (p : Int) (pw : List (List Int)) (br : List (List (List Int))) (ht : Tri p pw) (hp : pr4 p) (G : List (List Int)) (hG : G.length ≤ 1048576) (hel : ∀ k, k < G.length → El p pw.length (G.getD k [])) : ACp Try.prog 231 [ring p pw br, rows G] (rows (spanL p pw G)) := by
 have h6 := ht.n6
 have hp7 := ht.p7
 have hp2 := ht.p2
 refine ACp.introV envOk Try.func231 rfl (by kernel_rfl) Try.ntmps231 Try.results231 ((rows_nr _)) (fun nx => ?_)
 refine AW.sr envOk (fun N hN => ?_)
 simp -dsimp -implicitDefEqProofs (disch := omega) only [go_sem, undef, reduceAdd, reduceSub, reduceGT, reduceEqDiff, reduceMul, ring, rows, ints, gd_i, gd_r, w64, Nat.min_eq_left, wL_len, rows_drop]
 refine hN _ ?_
 try clear hN N
 refine AW.sr envOk (fun N hN => ?_)
 simp -dsimp -implicitDefEqProofs (disch := omega) only [go_sem, undef, reduceAdd, reduceSub, reduceGT, reduceEqDiff, reduceMul, ring, rows, ints, gd_i, gd_r, w64, Nat.min_eq_left, wL_len, rows_drop]
 refine hN _ ?_
 try clear hN N
 refine AW.seq (fun N1 hN1 => ?_)
 refine AW.sr envOk (fun N hN => ?_)
 simp -dsimp -implicitDefEqProofs (disch := omega) only [go_sem, undef, reduceAdd, reduceSub, reduceGT, reduceEqDiff, reduceMul, ring, rows, ints, gd_i, gd_r, w64, Nat.min_eq_left, wL_len, rows_drop]
 refine hN _ ?_
 try clear hN N
 refine AW.block ?_
 refine AW.freeze 5 (nx + 2) 0 [] rfl (by simp (disch := omega) only [upd_same, upd_ne]) rfl ?_
 simp -dsimp -implicitDefEqProofs (disch := omega) only [go_sem, undef, reduceAdd, reduceSub, reduceGT, reduceEqDiff, reduceMul]
 refine AW.loopN (α := Nat × List (List Int)) (fun x => sl 72 [(1, rows G), (2, .q nx 0), (5, rows x.2), (6, .i .i64 x.1)]) (fun _ => upd noH nx (some [.i .i64 p, rows pw, cubes br])) (fun x m => (x.1 ≤ G.length ∧ nx + 5 ≤ m) ∧ Ech p pw.length x.2 ∧ Clo p pw x.2 ∧ Sp p pw x.2 = Sp p pw (G.take x.1)) (fun x => G.length - x.1) ((0, [])) ?_ ?_ (Le.del (by simp (disch := omega) only [upd_ne, noH])) ?_
 ·exact ⟨⟨by simp, by simp only; omega⟩, Ech.nil, fun b hb => absurd hb (by simp), rfl⟩
 ·simp (disch := omega) [wks, wkA, sl, w64, ints, rows, cubes, ring, rows, ints, gd_i, gd_r, w64, Nat.min_eq_left, wL_len, rows_drop] <;> omega
 ·skip
  rintro ⟨k, u⟩ m ⟨⟨hk, hm⟩, hu, hc, hs⟩
  dsimp only at hk hu hc hs
  simp -dsimp -implicitDefEqProofs (disch := omega) only [go_sem, undef, reduceAdd, reduceSub, reduceGT, reduceEqDiff, reduceMul]
  refine AW.seq (fun N2 hN2 => ?_)
  refine AW.sr envOk (fun N hN => ?_)
  simp -dsimp -implicitDefEqProofs (disch := omega) only [go_sem, undef, reduceAdd, reduceSub, reduceGT, reduceEqDiff, reduceMul, ring, rows, ints, gd_i, gd_r, w64, Nat.min_eq_left, wL_len, rows_drop]
  refine hN _ ?_
  try clear hN N
  refine AW.cond rfl (fun h1 => ?_) (fun h1 => ?_)
  ·try simp only [cn] at h1
   have hgk := hel k (by omega)
   obtain ⟨q1, q2, q3⟩ := red_start ht hu hgk
   refine AW.skip ?_
   simp only [thn, blk]
   refine hN2 _ ?_
   try clear hN2 N2
   refine AW.seq (fun N3 hN3 => ?_)
   refine AW.block ?_
   refine AW.seq (fun N hN => ?_)
   refine AW.drawL envOk (by kernel_rfl) 8 (by kernel_rfl) ?_
   simp -dsimp -implicitDefEqProofs (disch := omega) only [hr_nil, hr_one, hr_if, List.take_succ_cons, List.take_zero, List.drop_succ_cons, List.drop_zero, List.take_nil, List.drop_nil, go_sem, undef, reduceAdd, reduceSub, reduceGT, reduceEqDiff, reduceMul, ring, rows, ints, gd_i, gd_r, w64, Nat.min_eq_left, wL_len, rows_drop]
   refine ⟨_, .of (spec_l32Reduce_ok p pw br ht u (hu.rws h6) (G.getD k []) hgk), ?_⟩
   try simp -dsimp -implicitDefEqProofs (disch := omega) only [go_sem, undef, reduceAdd, reduceSub, reduceGT, reduceEqDiff, reduceMul, ring, rows, ints, gd_i, gd_r, w64, Nat.min_eq_left, wL_len, rows_drop]
   refine hN _ ?_
   try clear hN N
   refine AW.block ?_
   refine AW.loopN (α := List (List Int) × List Int) (fun x => sl 72 [(1, rows G), (2, .q nx 0), (5, rows x.1), (6, .i .i64 k), (7, ints x.2)]) (fun _ => upd noH nx (some [.i .i64 p, rows pw, cubes br])) (fun x m => nx + 5 ≤ m ∧ Ech p pw.length x.1 ∧ El p pw.length x.2 ∧ (∀ b ∈ x.1, x.2.getD (dep b) 0 = 0) ∧ PClo p pw x.1 x.2 ∧ Sp p pw (x.2 :: x.1) = Sp p pw (G.take (k + 1))) (fun x => pw.length - x.1.length) ((u, redL p pw u (G.getD k []))) ?_ ?_ (fun _ _ h => h) ?_
   ·exact ⟨by simp only; omega, hu, q1, q2, hc.pclo _, by rw [q3]; exact take_sp (by omega) hs⟩
   ·simp (disch := omega) [wks, wkA, sl, w64, ints, rows, cubes, ring, rows, ints, gd_i, gd_r, w64, Nat.min_eq_left, wL_len, rows_drop] <;> omega
   ·skip
    rintro ⟨v, a⟩ m2 ⟨hm2, hv, ha, hz, hpc, hsp⟩
    dsimp only at hv ha hz hpc hsp
    have hal := ha.len
    have hvr := hv.rws h6
    simp -dsimp -implicitDefEqProofs (disch := omega) only [go_sem, undef, reduceAdd, reduceSub, reduceGT, reduceEqDiff, reduceMul]
    refine AW.seq (fun N4 hN4 => ?_)
    refine AW.sr envOk (fun N hN => ?_)
    simp -dsimp -implicitDefEqProofs (disch := omega) only [go_sem, undef, reduceAdd, reduceSub, reduceGT, reduceEqDiff, reduceMul, ring, rows, ints, gd_i, gd_r, w64, Nat.min_eq_left, wL_len, rows_drop]
    refine AC.pure (.of (spec_l01Zero_ok a (by omega))) ?_
    try simp -dsimp -implicitDefEqProofs (disch := omega) only [go_sem, undef, reduceAdd, reduceSub, reduceGT, reduceEqDiff, reduceMul, ring, rows, ints, gd_i, gd_r, w64, Nat.min_eq_left, wL_len, rows_drop]
    refine hN _ ?_
    try clear hN N
    refine AW.cond rfl (fun h2 => ?_) (fun h2 => ?_)
    ·try simp only [cn] at h2
     have hda : dep a < pw.length := by
      have := dep_le a
      rcases Nat.lt_or_ge (dep a) pw.length with h | h
      ·exact h
      ·exact absurd (dep_all.1 (by omega)) h2
     have hlead := ha.rng (dep a) hda
     have hlnz := dep_nz (a := a) (by omega)
     have hii := invP_ok hp (a := a.getD (dep a) 0) (by omega) (by omega)
     obtain ⟨y, hy⟩ : ∃ y, nf p pw (fun j => invP p (a.getD (dep a) 0) * fn a j) = y := ⟨_, rfl⟩
     obtain ⟨e1, e2, e3, e4, e5⟩ := close_step ht hp hv ha hda hz hpc hii hy.symm rfl
     have hye : El p pw.length y := by rw [← hy]; exact nf_el ht _
     have hyl := hye.len
     have hlen := e1.len
     have hinl := ins_len (x := y) (u := v)
     have hmx := (spec_l31Mix_ok p pw br ht (invP p (a.getD (dep a) 0)) a 0 a hal hal (ha.smlk hp7 (by have := hii.1; omega) (by have := hii.2.1; omega)) (ha.smlk hp7 (by omega) (by omega))).pure
     rw [mix_lead ht, hy] at hmx
     have hmp := (spec_l31Mix_ok p pw br ht p y 0 y hyl hyl (hye.smlk hp7 (by omega) (by omega)) (hye.smlk hp7 (by omega) (by omega))).pure
     rw [mix_lead ht] at hmp
     refine AW.skip ?_
     simp only [thn, blk]
     refine hN4 _ ?_
     try clear hN4 N4
     refine AW.block ?_
     refine AW.seq (fun N hN => ?_)
     refine AW.drawL envOk (by kernel_rfl) 13 (by kernel_rfl) ?_
     simp -dsimp -implicitDefEqProofs (disch := omega) only [hr_nil, hr_one, hr_if, List.take_succ_cons, List.take_zero, List.drop_succ_cons, List.drop_zero, List.take_nil, List.drop_nil, go_sem, undef, reduceAdd, reduceSub, reduceGT, reduceEqDiff, reduceMul, ring, rows, ints, gd_i, gd_r, w64, Nat.min_eq_left, wL_len, rows_drop]
     refine ⟨_, .of (spec_l32Depth_ok a (by omega) ), ?_⟩
     try simp -dsimp -implicitDefEqProofs (disch := omega) only [go_sem, undef, reduceAdd, reduceSub, reduceGT, reduceEqDiff, reduceMul, ring, rows, ints, gd_i, gd_r, w64, Nat.min_eq_left, wL_len, rows_drop]
     refine ⟨_, .of (spec_l01Inv_ok (a.getD (dep a) 0) p hp (by omega) (by omega) ), ?_⟩
     try simp -dsimp -implicitDefEqProofs (disch := omega) only [go_sem, undef, reduceAdd, reduceSub, reduceGT, reduceEqDiff, reduceMul, ring, rows, ints, gd_i, gd_r, w64, Nat.min_eq_left, wL_len, rows_drop]
     refine ⟨_, .of (hmx ), ?_⟩
     try simp -dsimp -implicitDefEqProofs (disch := omega) only [go_sem, undef, reduceAdd, reduceSub, reduceGT, reduceEqDiff, reduceMul, ring, rows, ints, gd_i, gd_r, w64, Nat.min_eq_left, wL_len, rows_drop]
     refine hN _ ?_
     try clear hN N
     refine AW.sr envOk (fun N hN => ?_)
     simp -dsimp -implicitDefEqProofs (disch := omega) only [go_sem, undef, reduceAdd, reduceSub, reduceGT, reduceEqDiff, reduceMul, ring, rows, ints, gd_i, gd_r, w64, Nat.min_eq_left, wL_len, rows_drop]
     refine AC.pure (.of (spec_l32Insert_ok v (by have := hv.len; omega) y (hv.glen h6) (by omega) )) ?_
     try simp -dsimp -implicitDefEqProofs (disch := omega) only [go_sem, undef, reduceAdd, reduceSub, reduceGT, reduceEqDiff, reduceMul, ring, rows, ints, gd_i, gd_r, w64, Nat.min_eq_left, wL_len, rows_drop]
     refine hN _ ?_
     try clear hN N
     refine AW.drawL envOk (by kernel_rfl) 10 (by kernel_rfl) ?_
     simp -dsimp -implicitDefEqProofs (disch := omega) only [hr_nil, hr_one, hr_if, List.take_succ_cons, List.take_zero, List.drop_succ_cons, List.drop_zero, List.take_nil, List.drop_nil, go_sem, undef, reduceAdd, reduceSub, reduceGT, reduceEqDiff, reduceMul, ring, rows, ints, gd_i, gd_r, w64, Nat.min_eq_left, wL_len, rows_drop]
     refine ⟨_, .of (hmp ), ?_⟩
     try simp -dsimp -implicitDefEqProofs (disch := omega) only [go_sem, undef, reduceAdd, reduceSub, reduceGT, reduceEqDiff, reduceMul, ring, rows, ints, gd_i, gd_r, w64, Nat.min_eq_left, wL_len, rows_drop]
     refine ⟨_, .of (spec_l32Reduce_ok p pw br ht (insL y v) (e1.rws h6) (nf p pw (fun j => p * fn y j)) (nf_el ht _) ), ?_⟩
     try simp -dsimp -implicitDefEqProofs (disch := omega) only [go_sem, undef, reduceAdd, reduceSub, reduceGT, reduceEqDiff, reduceMul, ring, rows, ints, gd_i, gd_r, w64, Nat.min_eq_left, wL_len, rows_drop]
     refine ⟨(insL y v, redL p pw (insL y v) (nf p pw (fun j => p * fn y j))), ?_, fun _ _ h => h, ?_, ?_⟩
     ·simp (disch := omega) [wks, wkA, sl, w64, ints, rows, cubes, ring, rows, ints, gd_i, gd_r, w64, Nat.min_eq_left, wL_len, rows_drop] <;> omega
     ·first| exact ⟨e1, e2, e3, e4, by rw [e5]; exact hsp⟩| exact ⟨by first| omega| (simp only; omega)| (dsimp only; omega), e1, e2, e3, e4, by rw [e5]; exact hsp⟩
     ·first | omega | (simp only; omega)
    ·try simp only [cn] at h2
     have hz0 : ∀ j, j < pw.length → a.getD j 0 = 0 := fun j hj => h2 j (by omega)
     refine AW.exit ?_
     simp only [thn, blk, if_true]
     refine hN3 _ ?_
     try clear hN3 N3
     refine AW.regionL envOk ?_
     simp -dsimp -implicitDefEqProofs (disch := omega) only [go_sem, undef, reduceAdd, reduceSub, reduceGT, reduceEqDiff, reduceMul, ring, rows, ints, gd_i, gd_r, w64, Nat.min_eq_left, wL_len, rows_drop]
     refine ⟨(k + 1, v), ?_, fun _ _ h => h, ?_, ?_⟩
     ·simp (disch := omega) [wks, wkA, sl, w64, ints, rows, cubes, ring, rows, ints, gd_i, gd_r, w64, Nat.min_eq_left, wL_len, rows_drop] <;> omega
     ·exact ⟨⟨by first| omega| (simp only; omega)| (dsimp only; omega), by first| omega| (simp only; omega)| (dsimp only; omega)⟩, hv, hpc.clo hz0, by rw [← sp_zero hz0]; exact hsp⟩
     ·first | omega | (simp only; omega)
  ·try simp only [cn] at h1
   refine AW.exit ?_
   simp only [thn, blk, if_true]
   refine hN1 _ ?_
   try clear hN1 N1
   refine AW.sr envOk (fun N hN => ?_)
   simp -dsimp -implicitDefEqProofs (disch := omega) only [go_sem, undef, reduceAdd, reduceSub, reduceGT, reduceEqDiff, reduceMul, ring, rows, ints, gd_i, gd_r, w64, Nat.min_eq_left, wL_len, rows_drop]
   refine hN _ ?_
   try clear hN N
   refine AW.seq (fun N5 hN5 => ?_)
   refine AW.sr envOk (fun N hN => ?_)
   simp -dsimp -implicitDefEqProofs (disch := omega) only [go_sem, undef, reduceAdd, reduceSub, reduceGT, reduceEqDiff, reduceMul, ring, rows, ints, gd_i, gd_r, w64, Nat.min_eq_left, wL_len, rows_drop]
   refine hN _ ?_
   try clear hN N
   refine AW.block ?_
   have hul := hu.len
   have hcan := wL_can ht hu hc
   rw [hs, show k = G.length by omega, List.take_length] at hcan
   refine AW.loopN (α := Nat × Nat) (fun x => sl 72 [(2, .q nx 0), (5, rows u), (8, .h x.2 0 x.1), (9, .i .i64 x.1)]) (fun x => upd (upd noH nx (some [.i .i64 p, rows pw, cubes br])) x.2 (some (((wL p pw u).take x.1).map ints))) (fun x m => x.1 ≤ u.length ∧ nx < x.2 ∧ x.2 < m) (fun x => u.length - x.1) ((0, m + 4)) ?_ ?_ (fun _ _ h => h) ?_
   ·exact ⟨by simp, by simp only; omega, by simp only; omega⟩
   ·simp (disch := omega) [wks, wkA, sl, w64, ints, rows, cubes, ring, rows, ints, gd_i, gd_r, w64, Nat.min_eq_left, wL_len, rows_drop] <;> omega
   ·skip
    rintro ⟨q, id⟩ m3 ⟨hq, hid, hid2⟩
    dsimp only at hq hid hid2
    simp -dsimp -implicitDefEqProofs (disch := omega) only [go_sem, undef, reduceAdd, reduceSub, reduceGT, reduceEqDiff, reduceMul]
    refine AW.seq (fun N6 hN6 => ?_)
    refine AW.sr envOk (fun N hN => ?_)
    simp -dsimp -implicitDefEqProofs (disch := omega) only [go_sem, undef, reduceAdd, reduceSub, reduceGT, reduceEqDiff, reduceMul, ring, rows, ints, gd_i, gd_r, w64, Nat.min_eq_left, wL_len, rows_drop]
    refine hN _ ?_
    try clear hN N
    refine AW.cond rfl (fun h3 => ?_) (fun h3 => ?_)
    ·try simp only [cn] at h3
     have hel2 := (hu.el _ (ix_mem (d := []) (show q < u.length by omega)))
     refine AW.skip ?_
     simp only [thn, blk]
     refine hN6 _ ?_
     try clear hN6 N6
     refine AW.seq (fun N7 hN7 => ?_)
     refine AW.block ?_
     refine AW.drawL envOk (by kernel_rfl) 12 (by kernel_rfl) ?_
     simp -dsimp -implicitDefEqProofs (disch := omega) only [hr_nil, hr_one, hr_if, List.take_succ_cons, List.take_zero, List.drop_succ_cons, List.drop_zero, List.take_nil, List.drop_nil, go_sem, undef, reduceAdd, reduceSub, reduceGT, reduceEqDiff, reduceMul, ring, rows, ints, gd_i, gd_r, w64, Nat.min_eq_left, wL_len, rows_drop]
     refine ⟨_, .of (spec_l32Reduce_ok p pw br ht (u.drop (q + 1)) ((hu.drop (q + 1)).rws h6) (u.getD q []) hel2), ?_⟩
     try simp -dsimp -implicitDefEqProofs (disch := omega) only [go_sem, undef, reduceAdd, reduceSub, reduceGT, reduceEqDiff, reduceMul, ring, rows, ints, gd_i, gd_r, w64, Nat.min_eq_left, wL_len, rows_drop]
     refine hN7 _ ?_
     try clear hN7 N7
     refine AW.regionL envOk ?_
     simp -dsimp -implicitDefEqProofs (disch := omega) only [go_sem, undef, reduceAdd, reduceSub, reduceGT, reduceEqDiff, reduceMul, ring, rows, ints, gd_i, gd_r, w64, Nat.min_eq_left, wL_len, rows_drop]
     refine ⟨(q + 1, m3 + 4 + 12), ?_, by rw [← wL_snoc (by omega)]; intro d cs hd; dsimp only at hd ⊢; simp only [upd, noH, rows, ints] at hd ⊢; grind, ?_, ?_⟩
     ·simp (disch := omega) [wks, wkA, sl, w64, ints, rows, cubes, ring, rows, ints, gd_i, gd_r, w64, Nat.min_eq_left, wL_len, rows_drop] <;> omega
     ·exact ⟨by omega, by simp only; omega, by simp only; omega⟩
     ·first | omega | (simp only; omega)
    ·try simp only [cn] at h3
     refine AW.exit ?_
     simp only [thn, blk, if_true]
     refine hN5 _ ?_
     try clear hN5 N5
     refine AW.sr envOk (fun N hN => ?_)
     simp -dsimp -implicitDefEqProofs (disch := omega) only [go_sem, undef, reduceAdd, reduceSub, reduceGT, reduceEqDiff, reduceMul, ring, rows, ints, gd_i, gd_r, w64, Nat.min_eq_left, wL_len, rows_drop]
     refine hN _ ?_
     try clear hN N
     refine AW.ret ?_
     simp -dsimp -implicitDefEqProofs (disch := omega) only [go_sem, undef, reduceAdd, reduceSub, reduceGT, reduceEqDiff, reduceMul]
     rw [spanL_eq ht hcan, show q = u.length by omega]
     refine Vw.rws (by rw [wL_len]) ?_
     rw [List.take_of_length_le (by rw [wL_len]; omega), upd_same]
end Go.Proofs.Ytdghgmgppecncaa
