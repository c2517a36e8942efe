import Derived.Test.YtkmgmjajbiddbaaZ51
set_option linter.unusedVariables false
set_option linter.unusedSimpArgs false
namespace Go.Proofs.Ytkmgmjajbiddbaa
open Nat (reduceAdd reduceSub reduceGT reduceEqDiff reduceMul)
section
variable {p : Int} {X : List (List Int)} {Y : List (List (List Int))}
theorem mix_comm (t : Tri p X) (a b : List Int) : mixL p X 1 b 1 a = mixL p X 1 a 1 b := nf_ext t (fun j _ => by omega)
theorem mix_back (t : Tri p X) {a b : List Int} (ha : El p X.length a) : mixL p X 1 (mixL p X 1 a 1 b) 1 (mulL p X (-1) b) = a := by
  refine El.uniq t (mix_el t _ _ _ _) ha ?_
  have h1 := nf_fn t (fun j => 1 * a.getD j 0 + 1 * b.getD j 0)
  have h2 := nf_fn t (fun j => -1 * b.getD j 0)
  have h3 := (nf_fn t (fun j => 1 * (mixL p X 1 a 1 b).getD j 0 + 1 * (mulL p X (-1) b).getD j 0)).trans (h1.comb 1 1 h2)
  exact h3.ext (fun j _ => rfl) (fun j _ => by simp only [fn]; omega)
theorem mul_zero_of (t : Tri p X) {a : List Int} (ha : El p X.length a) {s : Nat} (ho : isOrd p X a s) : zeros (mulL p X (p ^ s) a) := by
  refine (zeros_nf t).2 ?_
  exact (kil_itp t ha s).1 ho.1
end
section
variable {p : Int} {X : List (List Int)} {Y : List (List (List Int))} (hl : ringlen X Y) (hr : LieR p X Y)
include hl hr
theorem ng_i {a : List Int} (ha : El p X.length a) : ACp Try.prog 19 [ring p X Y, ints a] (.t [ints (mulL p X (-1) a), .i .i64 0]) := by
  have := (impl_NegateLie_ok p X Y hl a (by have := ha.len; have := hr.1.tri.n6; omega)).pure
  rw [tf_t (AllEl.one.2 ⟨hr, ha.is⟩)] at this
  exact this
theorem ng_s {a : List Int} (ha : El p X.length a) : ACp Try.prog 20 [ring p X Y, ints a] (.t [ints (mulL p X (-1) a), .i .i64 0]) := by
  have := spec_NegateLie_ok p X Y hl a (by have := ha.len; have := hr.1.tri.n6; omega)
  rw [tf_t (AllEl.one.2 ⟨hr, ha.is⟩)] at this
  exact this
theorem or_i {a : List Int} (ha : El p X.length a) {s : Nat} (ho : isOrd p X a s) : ACp Try.prog 21 [ring p X Y, ints a] (.t [.i .i64 (p ^ s), .i .i64 0]) := by
  have := impl_LieElementOrder_ok p X Y hl a (by have := ha.len; have := hr.1.tri.n6; omega) s (fun _ => ho)
  rw [tf_t (AllEl.one.2 ⟨hr, ha.is⟩)] at this
  exact this
theorem or_s {a : List Int} (ha : El p X.length a) {s : Nat} (ho : isOrd p X a s) : ACp Try.prog 22 [ring p X Y, ints a] (.t [.i .i64 (p ^ s), .i .i64 0]) := by
  have := spec_LieElementOrder_ok p X Y hl a (by have := ha.len; have := hr.1.tri.n6; omega) s (fun _ => ho)
  rw [tf_t (AllEl.one.2 ⟨hr, ha.is⟩)] at this
  exact this
theorem tm_i {a : List Int} (ha : El p X.length a) {k : Int} (hk : inM k) : ACp Try.prog 23 [ring p X Y, .i .i64 k, ints a] (.t [ints (mulL p X k a), .i .i64 0]) := by
  have := (impl_TimesLie_ok p X Y hl k a (by have := ha.len; have := hr.1.tri.n6; omega)).pure
  rw [tf_t (AllEl.one.2 ⟨hr, ha.is⟩), tf_t hk] at this
  exact this
theorem la_i : ACp Try.prog 8 [ring p X Y] (.t [abl (addL p X), .i .i64 0]) := by
  have := (impl_LieAdditive_ok p X Y hl).pure
  rw [tf_t hr] at this
  exact this
theorem la_s : ACp Try.prog 6 [ring p X Y] (.t [abl (addL p X), .i .i64 0]) := by
  have := spec_LieAdditive_ok p X Y hl
  rw [tf_t hr] at this
  exact this
theorem lo_i : ACp Try.prog 26 [ring p X Y] (.t [.i .i64 (p ^ X.length), .i .i64 0]) := by
  have := impl_LieOrder_ok p X Y hl
  rw [tf_t hr] at this
  exact this
omit hl in
theorem ao_i : ACp Try.prog 27 [abl (addL p X)] (.t [.i .i64 (p ^ X.length), .i .i64 0]) := by
  have h9 := hr.1.2.2.2.1
  obtain ⟨h1, h2⟩ := add_prd hr.1.tri hr.1.1
  have := impl_AbelianOrder_ok (addL p X) (add_parts hr.1.tri hr.1.1 h9).ok (fun k hk => by have := h2 k hk; omega)
  rwa [h1] at this
end
set_option maxRecDepth 100000 in
set_option maxHeartbeats 4000000 in
theorem law_FnLieSums (bs : List Int) (hb : bytsok bs) : ACp Try.prog 4 [byts bs] (.b true) := by
 have hb1 := hb.1
 refine ACp.intro' envOk Try.func4 rfl (by kernel_rfl) Try.ntmps4 Try.results4 (.b _) (fun nx => ?_)
 refine AW.sr envOk (fun N hN => ?_)
 simp -dsimp -implicitDefEqProofs (disch := omega) only [go_sem, undef, reduceAdd, reduceSub, reduceGT, reduceEqDiff, reduceMul, w64, abl, bne_self_eq_false, beq_self_eq_true, Bool.not_true, Bool.not_false]
 refine hN _ ?_
 try clear hN N
 refine AW.seq (fun N1 hN1 => ?_)
 refine AW.sr envOk (fun N hN => ?_)
 simp -dsimp -implicitDefEqProofs (disch := omega) only [go_sem, undef, reduceAdd, reduceSub, reduceGT, reduceEqDiff, reduceMul, w64, abl, bne_self_eq_false, beq_self_eq_true, Bool.not_true, Bool.not_false]
 refine AC.pure (.of (laws_big_ok bs hb1 )) ?_
 try simp -dsimp -implicitDefEqProofs (disch := omega) only [go_sem, undef, reduceAdd, reduceSub, reduceGT, reduceEqDiff, reduceMul, w64, abl, bne_self_eq_false, beq_self_eq_true, Bool.not_true, Bool.not_false]
 refine hN _ ?_
 try clear hN N
 refine AW.cond rfl (fun h1 => ?_) (fun h1 => ?_)
 ·try simp only [cn] at h1
  refine AW.sr envOk (fun N hN => ?_)
  simp -dsimp -implicitDefEqProofs (disch := omega) only [go_sem, undef, reduceAdd, reduceSub, reduceGT, reduceEqDiff, reduceMul, w64, abl, bne_self_eq_false, beq_self_eq_true, Bool.not_true, Bool.not_false]
  refine hN _ ?_
  try clear hN N
  refine AW.ret ?_
  simp -dsimp -implicitDefEqProofs (disch := omega) only [go_sem, undef, reduceAdd, reduceSub, reduceGT, reduceEqDiff, reduceMul]
  all_goals rfl
 ·try simp only [cn] at h1
  refine AW.skip ?_
  simp only [thn, blk]
  refine hN1 _ ?_
  try clear hN1 N1
  refine AW.sr envOk (fun N hN => ?_)
  simp -dsimp -implicitDefEqProofs (disch := omega) only [go_sem, undef, reduceAdd, reduceSub, reduceGT, reduceEqDiff, reduceMul, w64, abl, bne_self_eq_false, beq_self_eq_true, Bool.not_true, Bool.not_false]
  refine AC.mono2 (AC.frame (spec_DrawAddLie_p bs hb (by omega) _)) ?_
  rintro m1 H1 r1 hm1 ⟨H0, ⟨p, X, Y, a, b, rfl, hl, h6, ha8, hb8⟩, hlow, hhigh⟩
  by_cases hv : AllEl p X Y [a, b]
  ·skip
   obtain ⟨hr, hia, hib⟩ := AllEl.two.1 hv
   have t := hr.1.tri
   have ha := hia.el
   have hb' := hib.el
   have ham := ha.len
   have hp2 := t.p2
   have hp7 := t.p7
   have h9 := hr.1.2.2.2.1
   have hM : El p X.length (mixL p X 1 a 1 b) := mix_el t _ _ _ _
   have hNe : El p X.length (mulL p X (-1) b) := mul_el t _ _
   obtain ⟨s, ho⟩ := isOrd.ex t ha
   obtain ⟨e, he1, he2, he3⟩ := add_exp t hr.1.1
   have hse := (ord_kil t ha ho e).2 (he3 _)
   have hs1 := pow_gt hp2 s
   have hs2 := pw_le hp2 ho.2.2
   have he4 := pow_gt hp2 e
   have he5 := pw_le hp2 he2
   have hmod := pow_mod0 hp2 hse
   have hex := impl_ExponentOf_ok (addL p X) (add_parts t hr.1.1 h9).ok
   rw [he1] at hex
   have hal := add_len t hr.1.1
   have zg : decide (p ^ e > 0) = true := by simp; omega
   try simp -dsimp -implicitDefEqProofs (disch := omega) only [go_sem, undef, reduceAdd, reduceSub, reduceGT, reduceEqDiff, reduceMul, ring, rows, cubes, w64]
   refine hN _ ?_
   try clear hN N
   refine AW.freezeQ 3 (nx + 1 + 2 + 6) _ rfl (upd_same _ _ _) ?_
   simp -dsimp -implicitDefEqProofs (disch := omega) only [go_sem, undef, reduceAdd, reduceSub, reduceGT, reduceEqDiff, reduceMul]
   refine AW.sr envOk (fun N hN => ?_)
   simp -dsimp -implicitDefEqProofs (disch := omega) only [go_sem, undef, reduceAdd, reduceSub, reduceGT, reduceEqDiff, reduceMul, w64, abl, bne_self_eq_false, beq_self_eq_true, Bool.not_true, Bool.not_false]
   refine AC.pure (.of (ad_i hl hr ha hb' )) ?_
   try simp -dsimp -implicitDefEqProofs (disch := omega) only [go_sem, undef, reduceAdd, reduceSub, reduceGT, reduceEqDiff, reduceMul, w64, abl, bne_self_eq_false, beq_self_eq_true, Bool.not_true, Bool.not_false]
   refine hN _ ?_
   try clear hN N
   refine AW.sr envOk (fun N hN => ?_)
   simp -dsimp -implicitDefEqProofs (disch := omega) only [go_sem, undef, reduceAdd, reduceSub, reduceGT, reduceEqDiff, reduceMul, w64, abl, bne_self_eq_false, beq_self_eq_true, Bool.not_true, Bool.not_false]
   refine AC.pure (.of (ad_s hl hr ha hb' )) ?_
   try simp -dsimp -implicitDefEqProofs (disch := omega) only [go_sem, undef, reduceAdd, reduceSub, reduceGT, reduceEqDiff, reduceMul, w64, abl, bne_self_eq_false, beq_self_eq_true, Bool.not_true, Bool.not_false]
   refine hN _ ?_
   try clear hN N
   refine AW.seq (fun N2 hN2 => ?_)
   refine AW.sr envOk (fun N hN => ?_)
   simp -dsimp -implicitDefEqProofs (disch := omega) only [go_sem, undef, reduceAdd, reduceSub, reduceGT, reduceEqDiff, reduceMul, w64, abl, bne_self_eq_false, beq_self_eq_true, Bool.not_true, Bool.not_false]
   refine AC.pure (.of (lk_e hr hM rfl )) ?_
   try simp -dsimp -implicitDefEqProofs (disch := omega) only [go_sem, undef, reduceAdd, reduceSub, reduceGT, reduceEqDiff, reduceMul, w64, abl, bne_self_eq_false, beq_self_eq_true, Bool.not_true, Bool.not_false]
   refine hN _ ?_
   try clear hN N
   refine AW.condF rfl ?_
   refine AW.skip ?_
   simp only [thn, blk]
   refine hN2 _ ?_
   try clear hN2 N2
   refine AW.seq (fun N3 hN3 => ?_)
   refine AW.sr envOk (fun N hN => ?_)
   simp -dsimp -implicitDefEqProofs (disch := omega) only [go_sem, undef, reduceAdd, reduceSub, reduceGT, reduceEqDiff, reduceMul, w64, abl, bne_self_eq_false, beq_self_eq_true, Bool.not_true, Bool.not_false]
   refine hN _ ?_
   try clear hN N
   refine AW.condF rfl ?_
   refine AW.skip ?_
   simp only [thn, blk]
   refine hN3 _ ?_
   try clear hN3 N3
   refine AW.sr envOk (fun N hN => ?_)
   simp -dsimp -implicitDefEqProofs (disch := omega) only [go_sem, undef, reduceAdd, reduceSub, reduceGT, reduceEqDiff, reduceMul, w64, abl, bne_self_eq_false, beq_self_eq_true, Bool.not_true, Bool.not_false]
   refine AC.pure (.of (ad_i hl hr hb' ha )) ?_
   try simp -dsimp -implicitDefEqProofs (disch := omega) only [go_sem, undef, reduceAdd, reduceSub, reduceGT, reduceEqDiff, reduceMul, w64, abl, bne_self_eq_false, beq_self_eq_true, Bool.not_true, Bool.not_false]
   refine hN _ ?_
   try clear hN N
   refine AW.sr envOk (fun N hN => ?_)
   simp -dsimp -implicitDefEqProofs (disch := omega) only [go_sem, undef, reduceAdd, reduceSub, reduceGT, reduceEqDiff, reduceMul, w64, abl, bne_self_eq_false, beq_self_eq_true, Bool.not_true, Bool.not_false]
   refine AC.pure (.of (ng_i hl hr hb' )) ?_
   try simp -dsimp -implicitDefEqProofs (disch := omega) only [go_sem, undef, reduceAdd, reduceSub, reduceGT, reduceEqDiff, reduceMul, w64, abl, bne_self_eq_false, beq_self_eq_true, Bool.not_true, Bool.not_false]
   refine hN _ ?_
   try clear hN N
   refine AW.sr envOk (fun N hN => ?_)
   simp -dsimp -implicitDefEqProofs (disch := omega) only [go_sem, undef, reduceAdd, reduceSub, reduceGT, reduceEqDiff, reduceMul, w64, abl, bne_self_eq_false, beq_self_eq_true, Bool.not_true, Bool.not_false]
   refine AC.pure (.of (ng_s hl hr hb' )) ?_
   try simp -dsimp -implicitDefEqProofs (disch := omega) only [go_sem, undef, reduceAdd, reduceSub, reduceGT, reduceEqDiff, reduceMul, w64, abl, bne_self_eq_false, beq_self_eq_true, Bool.not_true, Bool.not_false]
   refine hN _ ?_
   try clear hN N
   refine AW.seq (fun N4 hN4 => ?_)
   refine AW.sr envOk (fun N hN => ?_)
   simp -dsimp -implicitDefEqProofs (disch := omega) only [go_sem, undef, reduceAdd, reduceSub, reduceGT, reduceEqDiff, reduceMul, w64, abl, bne_self_eq_false, beq_self_eq_true, Bool.not_true, Bool.not_false]
   refine AC.pure (.of (lk_e hr hM (mix_comm t a b) )) ?_
   try simp -dsimp -implicitDefEqProofs (disch := omega) only [go_sem, undef, reduceAdd, reduceSub, reduceGT, reduceEqDiff, reduceMul, w64, abl, bne_self_eq_false, beq_self_eq_true, Bool.not_true, Bool.not_false]
   refine AC.pure (.of (lk_e hr hNe rfl )) ?_
   try simp -dsimp -implicitDefEqProofs (disch := omega) only [go_sem, undef, reduceAdd, reduceSub, reduceGT, reduceEqDiff, reduceMul, w64, abl, bne_self_eq_false, beq_self_eq_true, Bool.not_true, Bool.not_false]
   refine hN _ ?_
   try clear hN N
   refine AW.condF rfl ?_
   refine AW.skip ?_
   simp only [thn, blk]
   refine hN4 _ ?_
   try clear hN4 N4
   refine AW.sr envOk (fun N hN => ?_)
   simp -dsimp -implicitDefEqProofs (disch := omega) only [go_sem, undef, reduceAdd, reduceSub, reduceGT, reduceEqDiff, reduceMul, w64, abl, bne_self_eq_false, beq_self_eq_true, Bool.not_true, Bool.not_false]
   refine AC.pure (.of (ad_i hl hr hM hNe )) ?_
   try simp -dsimp -implicitDefEqProofs (disch := omega) only [go_sem, undef, reduceAdd, reduceSub, reduceGT, reduceEqDiff, reduceMul, w64, abl, bne_self_eq_false, beq_self_eq_true, Bool.not_true, Bool.not_false]
   refine hN _ ?_
   try clear hN N
   refine AW.sr envOk (fun N hN => ?_)
   simp -dsimp -implicitDefEqProofs (disch := omega) only [go_sem, undef, reduceAdd, reduceSub, reduceGT, reduceEqDiff, reduceMul, w64, abl, bne_self_eq_false, beq_self_eq_true, Bool.not_true, Bool.not_false]
   refine AC.pure (.of (or_i hl hr ha ho )) ?_
   try simp -dsimp -implicitDefEqProofs (disch := omega) only [go_sem, undef, reduceAdd, reduceSub, reduceGT, reduceEqDiff, reduceMul, w64, abl, bne_self_eq_false, beq_self_eq_true, Bool.not_true, Bool.not_false]
   refine hN _ ?_
   try clear hN N
   refine AW.sr envOk (fun N hN => ?_)
   simp -dsimp -implicitDefEqProofs (disch := omega) only [go_sem, undef, reduceAdd, reduceSub, reduceGT, reduceEqDiff, reduceMul, w64, abl, bne_self_eq_false, beq_self_eq_true, Bool.not_true, Bool.not_false]
   refine AC.pure (.of (or_s hl hr ha ho )) ?_
   try simp -dsimp -implicitDefEqProofs (disch := omega) only [go_sem, undef, reduceAdd, reduceSub, reduceGT, reduceEqDiff, reduceMul, w64, abl, bne_self_eq_false, beq_self_eq_true, Bool.not_true, Bool.not_false]
   refine hN _ ?_
   try clear hN N
   refine AW.sr envOk (fun N hN => ?_)
   simp -dsimp -implicitDefEqProofs (disch := omega) only [go_sem, undef, reduceAdd, reduceSub, reduceGT, reduceEqDiff, reduceMul, w64, abl, bne_self_eq_false, beq_self_eq_true, Bool.not_true, Bool.not_false]
   refine AC.pure (.of (tm_i hl hr ha (k := p ^ s) (by unfold inM; omega) )) ?_
   try simp -dsimp -implicitDefEqProofs (disch := omega) only [go_sem, undef, reduceAdd, reduceSub, reduceGT, reduceEqDiff, reduceMul, w64, abl, bne_self_eq_false, beq_self_eq_true, Bool.not_true, Bool.not_false]
   refine hN _ ?_
   try clear hN N
   refine AW.sr envOk (fun N hN => ?_)
   simp -dsimp -implicitDefEqProofs (disch := omega) only [go_sem, undef, reduceAdd, reduceSub, reduceGT, reduceEqDiff, reduceMul, w64, abl, bne_self_eq_false, beq_self_eq_true, Bool.not_true, Bool.not_false]
   refine AC.pure (.of (la_i hl hr )) ?_
   try simp -dsimp -implicitDefEqProofs (disch := omega) only [go_sem, undef, reduceAdd, reduceSub, reduceGT, reduceEqDiff, reduceMul, w64, abl, bne_self_eq_false, beq_self_eq_true, Bool.not_true, Bool.not_false]
   refine hN _ ?_
   try clear hN N
   refine AW.freezeQ 24 (m1 + 9 + 9 + 9 + 2 + 9 + 8 + 8 + 22 + 9 + 8 + 8 + 9 + 5) _ rfl (upd_same _ _ _) ?_
   simp -dsimp -implicitDefEqProofs (disch := omega) only [go_sem, undef, reduceAdd, reduceSub, reduceGT, reduceEqDiff, reduceMul]
   refine AW.sr envOk (fun N hN => ?_)
   simp -dsimp -implicitDefEqProofs (disch := omega) only [go_sem, undef, reduceAdd, reduceSub, reduceGT, reduceEqDiff, reduceMul, w64, abl, bne_self_eq_false, beq_self_eq_true, Bool.not_true, Bool.not_false]
   refine AC.pure (.of (la_s hl hr )) ?_
   try simp -dsimp -implicitDefEqProofs (disch := omega) only [go_sem, undef, reduceAdd, reduceSub, reduceGT, reduceEqDiff, reduceMul, w64, abl, bne_self_eq_false, beq_self_eq_true, Bool.not_true, Bool.not_false]
   refine hN _ ?_
   try clear hN N
   refine AW.seq (fun N5 hN5 => ?_)
   refine AW.freezeQ 26 (m1 + 9 + 9 + 9 + 2 + 9 + 8 + 8 + 22 + 9 + 8 + 8 + 9 + 8 + 5) _ rfl (upd_same _ _ _) ?_
   simp -dsimp -implicitDefEqProofs (disch := omega) only [go_sem, undef, reduceAdd, reduceSub, reduceGT, reduceEqDiff, reduceMul]
   refine AW.sr envOk (fun N hN => ?_)
   simp -dsimp -implicitDefEqProofs (disch := omega) only [go_sem, undef, reduceAdd, reduceSub, reduceGT, reduceEqDiff, reduceMul, w64, abl, bne_self_eq_false, beq_self_eq_true, Bool.not_true, Bool.not_false]
   refine AC.pure (.of (lk_e hr ha (mix_back t ha) )) ?_
   try simp -dsimp -implicitDefEqProofs (disch := omega) only [go_sem, undef, reduceAdd, reduceSub, reduceGT, reduceEqDiff, reduceMul, w64, abl, bne_self_eq_false, beq_self_eq_true, Bool.not_true, Bool.not_false]
   refine AC.pure (.of (iz_t hr (mul_el t _ _) (mul_zero_of t ha ho) )) ?_
   try simp -dsimp -implicitDefEqProofs (disch := omega) only [go_sem, undef, reduceAdd, reduceSub, reduceGT, reduceEqDiff, reduceMul, w64, abl, bne_self_eq_false, beq_self_eq_true, Bool.not_true, Bool.not_false]
   refine AC.pure (.of (laws_likeAbelian5_e (addL p X) (by omega) )) ?_
   try simp -dsimp -implicitDefEqProofs (disch := omega) only [go_sem, undef, reduceAdd, reduceSub, reduceGT, reduceEqDiff, reduceMul, w64, abl, bne_self_eq_false, beq_self_eq_true, Bool.not_true, Bool.not_false]
   refine hN _ ?_
   try clear hN N
   refine AW.condF rfl ?_
   refine AW.skip ?_
   simp only [thn, blk]
   refine hN5 _ ?_
   try clear hN5 N5
   refine AW.sr envOk (fun N hN => ?_)
   simp -dsimp -implicitDefEqProofs (disch := omega) only [go_sem, undef, reduceAdd, reduceSub, reduceGT, reduceEqDiff, reduceMul, w64, abl, bne_self_eq_false, beq_self_eq_true, Bool.not_true, Bool.not_false]
   refine AC.pure (.of (lo_i hl hr )) ?_
   try simp -dsimp -implicitDefEqProofs (disch := omega) only [go_sem, undef, reduceAdd, reduceSub, reduceGT, reduceEqDiff, reduceMul, w64, abl, bne_self_eq_false, beq_self_eq_true, Bool.not_true, Bool.not_false]
   refine hN _ ?_
   try clear hN N
   refine AW.sr envOk (fun N hN => ?_)
   simp -dsimp -implicitDefEqProofs (disch := omega) only [go_sem, undef, reduceAdd, reduceSub, reduceGT, reduceEqDiff, reduceMul, w64, abl, bne_self_eq_false, beq_self_eq_true, Bool.not_true, Bool.not_false]
   refine AC.pure (.of (ao_i hr )) ?_
   try simp -dsimp -implicitDefEqProofs (disch := omega) only [go_sem, undef, reduceAdd, reduceSub, reduceGT, reduceEqDiff, reduceMul, w64, abl, bne_self_eq_false, beq_self_eq_true, Bool.not_true, Bool.not_false]
   refine hN _ ?_
   try clear hN N
   refine AW.sr envOk (fun N hN => ?_)
   simp -dsimp -implicitDefEqProofs (disch := omega) only [go_sem, undef, reduceAdd, reduceSub, reduceGT, reduceEqDiff, reduceMul, w64, abl, bne_self_eq_false, beq_self_eq_true, Bool.not_true, Bool.not_false]
   refine AC.pure (.of (hex )) ?_
   try simp -dsimp -implicitDefEqProofs (disch := omega) only [go_sem, undef, reduceAdd, reduceSub, reduceGT, reduceEqDiff, reduceMul, w64, abl, bne_self_eq_false, beq_self_eq_true, Bool.not_true, Bool.not_false]
   refine hN _ ?_
   try clear hN N
   refine AW.sr envOk (fun N hN => ?_)
   simp -dsimp -implicitDefEqProofs (disch := omega) only [go_sem, undef, reduceAdd, reduceSub, reduceGT, reduceEqDiff, reduceMul, w64, abl, bne_self_eq_false, beq_self_eq_true, Bool.not_true, Bool.not_false, zg, hmod]
   refine hN _ ?_
   try clear hN N
   refine AW.ret ?_
   simp -dsimp -implicitDefEqProofs (disch := omega) only [go_sem, undef, reduceAdd, reduceSub, reduceGT, reduceEqDiff, reduceMul]
   all_goals rfl
  ·skip
   have hbi := (impl_AddLie_ok p X Y hl a b (by omega) (by omega)).pure
   have hbs := spec_AddLie_ok p X Y hl a b (by omega) (by omega)
   rw [tf_f hv] at hbi hbs
   have zg := hb1
   have hmod := hb1
   try simp -dsimp -implicitDefEqProofs (disch := omega) only [go_sem, undef, reduceAdd, reduceSub, reduceGT, reduceEqDiff, reduceMul, ring, rows, cubes, w64]
   refine hN _ ?_
   try clear hN N
   refine AW.freezeQ 3 (nx + 1 + 2 + 6) _ rfl (upd_same _ _ _) ?_
   simp -dsimp -implicitDefEqProofs (disch := omega) only [go_sem, undef, reduceAdd, reduceSub, reduceGT, reduceEqDiff, reduceMul]
   refine AW.sr envOk (fun N hN => ?_)
   simp -dsimp -implicitDefEqProofs (disch := omega) only [go_sem, undef, reduceAdd, reduceSub, reduceGT, reduceEqDiff, reduceMul, w64, abl, bne_self_eq_false, beq_self_eq_true, Bool.not_true, Bool.not_false]
   refine AC.pure (.of (hbi )) ?_
   try simp -dsimp -implicitDefEqProofs (disch := omega) only [go_sem, undef, reduceAdd, reduceSub, reduceGT, reduceEqDiff, reduceMul, w64, abl, bne_self_eq_false, beq_self_eq_true, Bool.not_true, Bool.not_false]
   refine hN _ ?_
   try clear hN N
   refine AW.sr envOk (fun N hN => ?_)
   simp -dsimp -implicitDefEqProofs (disch := omega) only [go_sem, undef, reduceAdd, reduceSub, reduceGT, reduceEqDiff, reduceMul, w64, abl, bne_self_eq_false, beq_self_eq_true, Bool.not_true, Bool.not_false]
   refine AC.pure (.of (hbs )) ?_
   try simp -dsimp -implicitDefEqProofs (disch := omega) only [go_sem, undef, reduceAdd, reduceSub, reduceGT, reduceEqDiff, reduceMul, w64, abl, bne_self_eq_false, beq_self_eq_true, Bool.not_true, Bool.not_false]
   refine hN _ ?_
   try clear hN N
   refine AW.seq (fun N6 hN6 => ?_)
   refine AW.sr envOk (fun N hN => ?_)
   simp -dsimp -implicitDefEqProofs (disch := omega) only [go_sem, undef, reduceAdd, reduceSub, reduceGT, reduceEqDiff, reduceMul, w64, abl, bne_self_eq_false, beq_self_eq_true, Bool.not_true, Bool.not_false]
   refine AC.pure (.of (laws_likeInts_e [] (by simp) )) ?_
   try simp -dsimp -implicitDefEqProofs (disch := omega) only [go_sem, undef, reduceAdd, reduceSub, reduceGT, reduceEqDiff, reduceMul, w64, abl, bne_self_eq_false, beq_self_eq_true, Bool.not_true, Bool.not_false]
   refine hN _ ?_
   try clear hN N
   refine AW.condF rfl ?_
   refine AW.skip ?_
   simp only [thn, blk]
   refine hN6 _ ?_
   try clear hN6 N6
   refine AW.seq (fun N7 hN7 => ?_)
   refine AW.sr envOk (fun N hN => ?_)
   simp -dsimp -implicitDefEqProofs (disch := omega) only [go_sem, undef, reduceAdd, reduceSub, reduceGT, reduceEqDiff, reduceMul, w64, abl, bne_self_eq_false, beq_self_eq_true, Bool.not_true, Bool.not_false]
   refine hN _ ?_
   try clear hN N
   refine AW.condT rfl ?_
   refine AW.sr envOk (fun N hN => ?_)
   simp -dsimp -implicitDefEqProofs (disch := omega) only [go_sem, undef, reduceAdd, reduceSub, reduceGT, reduceEqDiff, reduceMul, w64, abl, bne_self_eq_false, beq_self_eq_true, Bool.not_true, Bool.not_false]
   refine hN _ ?_
   try clear hN N
   refine AW.ret ?_
   simp -dsimp -implicitDefEqProofs (disch := omega) only [go_sem, undef, reduceAdd, reduceSub, reduceGT, reduceEqDiff, reduceMul]
   all_goals rfl
end Go.Proofs.Ytkmgmjajbiddbaa
