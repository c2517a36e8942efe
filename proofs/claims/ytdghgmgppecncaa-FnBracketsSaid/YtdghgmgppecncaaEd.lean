/-
  The law FnBrackets: it answers true, whatever it is given.
-/
import Derived.Test.YtdghgmgppecncaaEc
import Derived.Test.YtdghgmgppecncaaEa
import Derived.Test.YtdghgmgppecncaaNh
set_option linter.unusedVariables false
set_option linter.unusedSimpArgs false
namespace Go.Proofs.Ytdghgmgppecncaa
open Nat (reduceAdd reduceSub reduceGT reduceEqDiff reduceMul)

section
variable {p : Int} {X : List (List Int)} {Y : List (List (List Int))}
theorem zeros_of (t : Tri p X) {x : List Int} (hx : El p X.length x) (h : Cg p X (fn x) (fun _ => 0)) : zeros x := fun j hj => by
  have hp := t.p2
  exact h.eq t (fun j hj => hx.rng j hj) (fun j _ => by dsimp only; omega) j (by rw [← hx.len]; exact hj)
theorem NoF.add (h : NoF p X Y) (a b c : List Int) : brkL p X Y (mixL p X 1 a 1 c) b = mixL p X 1 (brkL p X Y a b) 1 (brkL p X Y c b) := by
  have t := h.toTri
  refine El.uniq t (brk_el h.toSh _ _) (mix_el t _ _ _ _) ?_
  have h1 := h.brk (nf_fn t (fun j => 1 * a.getD j 0 + 1 * c.getD j 0)) (Cg.refl (fn b))
  have h2 := (nf_fn t (fun j => 1 * (brkL p X Y a b).getD j 0 + 1 * (brkL p X Y c b).getD j 0)).trans ((brk_cg (br := Y) t a b).comb 1 1 (brk_cg (br := Y) t c b))
  exact h1.trans ((h2.symm).ext (fun j _ => (BS_lin 1 1 (fn a) (fn c) (fn b) j).symm) (fun _ _ => rfl))
theorem NoF.self (h : NoF p X Y) (a : List Int) : zeros (brkL p X Y a a) :=
  zeros_of h.toTri (brk_el h.toSh _ _) ((brk_cg h.toTri a a).trans (.of fun j _ => BS_self (fn a) j))
theorem NoF.jacobi (h : NoF p X Y) (a b c : List Int) : zeros (jsum p X Y a b c) := by
  have t := h.toTri
  have e1 := h.brk (brk_cg (br := Y) t a b) (Cg.refl (fn c))
  have e2 := h.brk (brk_cg (br := Y) t b c) (Cg.refl (fn a))
  have e3 := h.brk (brk_cg (br := Y) t c a) (Cg.refl (fn b))
  have e4 := (nf_fn t (fun j => 1 * (brkL p X Y (brkL p X Y a b) c).getD j 0 + 1 * (brkL p X Y (brkL p X Y b c) a).getD j 0)).trans (e1.comb 1 1 e2)
  have e5 := (nf_fn t (fun j => 1 * (mixL p X 1 (brkL p X Y (brkL p X Y a b) c) 1 (brkL p X Y (brkL p X Y b c) a)).getD j 0 + 1 * (brkL p X Y (brkL p X Y c a) b).getD j 0)).trans (e4.comb 1 1 e3)
  refine zeros_of t (mix_el t _ _ _ _) (e5.trans ((h.jac (fn a) (fn b) (fn c)).ext (fun j _ => ?_) (fun _ _ => rfl)))
  simp only [JS, Int.one_mul]
  omega
end
section
variable {p : Int} {X : List (List Int)} {Y : List (List (List Int))} (hl : ringlen X Y) (hr : LieR p X Y)
include hl hr
theorem br_i {a b : List Int} (ha : El p X.length a) (hb : El p X.length b) : ACp Try.prog 42 [ring p X Y, ints a, ints b] (.t [ints (brkL p X Y a b), .i .i64 0]) := by
  have := (impl_Bracket_ok p X Y hl a b (by have := ha.len; have := hr.1.tri.n6; omega) (by have := hb.len; have := hr.1.tri.n6; omega)).pure
  rw [tf_t (AllEl.two.2 ⟨hr, ha.is, hb.is⟩)] at this
  exact this
theorem br_s {a b : List Int} (ha : El p X.length a) (hb : El p X.length b) : ACp Try.prog 43 [ring p X Y, ints a, ints b] (.t [ints (brkL p X Y a b), .i .i64 0]) := by
  have := spec_Bracket_ok p X Y hl a b (by have := ha.len; have := hr.1.tri.n6; omega) (by have := hb.len; have := hr.1.tri.n6; omega)
  rw [tf_t (AllEl.two.2 ⟨hr, ha.is, hb.is⟩)] at this
  exact this
theorem ad_i {a b : List Int} (ha : El p X.length a) (hb : El p X.length b) : ACp Try.prog 48 [ring p X Y, ints a, ints b] (.t [ints (mixL p X 1 a 1 b), .i .i64 0]) := by
  have := (impl_AddLie_ok p X Y hl a b (by have := ha.len; have := hr.1.tri.n6; omega) (by have := hb.len; have := hr.1.tri.n6; omega)).pure
  rw [tf_t (AllEl.two.2 ⟨hr, ha.is, hb.is⟩)] at this
  exact this
theorem ad_s {a b : List Int} (ha : El p X.length a) (hb : El p X.length b) : ACp Try.prog 47 [ring p X Y, ints a, ints b] (.t [ints (mixL p X 1 a 1 b), .i .i64 0]) := by
  have := spec_AddLie_ok p X Y hl a b (by have := ha.len; have := hr.1.tri.n6; omega) (by have := hb.len; have := hr.1.tri.n6; omega)
  rw [tf_t (AllEl.two.2 ⟨hr, ha.is, hb.is⟩)] at this
  exact this
omit hl in
theorem lk_e {a b : List Int} (ha : El p X.length a) (e : b = a) : ACp Try.prog 44 [ints b, ints a] (.b true) := by
  subst e
  exact laws_likeInts_e b (by have := ha.len; have := hr.1.tri.n6; omega)
omit hl in
theorem iz_t {a : List Int} (ha : El p X.length a) (e : zeros a) : ACp Try.prog 49 [ints a] (.b true) := by
  have := laws_isZero5_ok a (by have := ha.len; have := hr.1.tri.n6; omega)
  rwa [tf_t e] at this
end
set_option maxRecDepth 100000 in
set_option maxHeartbeats 4000000 in
theorem law_FnBrackets (bs : List Int) (hb : bytsok bs) : ACp Try.prog 8 [byts bs] (.b true) := by
 have hb1 := hb.1
 refine ACp.intro' envOk Try.func8 rfl (by kernel_rfl) Try.ntmps8 Try.results8 (.b _) (fun nx => ?_)
 refine AW.sr envOk (fun N hN => ?_)
 simp -dsimp -implicitDefEqProofs (disch := omega) only [go_sem, undef, reduceAdd, reduceSub, reduceGT, reduceEqDiff, reduceMul, w64, bne_self_eq_false, beq_self_eq_true, Bool.not_true, Bool.not_false]
 refine hN _ ?_
 try clear hN N
 refine AW.seq (fun N1 hN1 => ?_)
 refine AW.sr envOk (fun N hN => ?_)
 simp -dsimp -implicitDefEqProofs (disch := omega) only [go_sem, undef, reduceAdd, reduceSub, reduceGT, reduceEqDiff, reduceMul, w64, bne_self_eq_false, beq_self_eq_true, Bool.not_true, Bool.not_false]
 refine AC.pure (.of (laws_big_ok bs hb1 )) ?_
 try simp -dsimp -implicitDefEqProofs (disch := omega) only [go_sem, undef, reduceAdd, reduceSub, reduceGT, reduceEqDiff, reduceMul, w64, bne_self_eq_false, beq_self_eq_true, Bool.not_true, Bool.not_false]
 refine hN _ ?_
 try clear hN N
 refine AW.cond rfl (fun h1 => ?_) (fun h1 => ?_)
 ·try simp only [cn] at h1
  refine AW.sr envOk (fun N hN => ?_)
  simp -dsimp -implicitDefEqProofs (disch := omega) only [go_sem, undef, reduceAdd, reduceSub, reduceGT, reduceEqDiff, reduceMul, w64, bne_self_eq_false, beq_self_eq_true, Bool.not_true, Bool.not_false]
  refine hN _ ?_
  try clear hN N
  refine AW.ret ?_
  simp -dsimp -implicitDefEqProofs (disch := omega) only [go_sem, undef, reduceAdd, reduceSub, reduceGT, reduceEqDiff, reduceMul]
  all_goals rfl
 ·try simp only [cn] at h1
  refine AW.skip ?_
  simp only [thn, blk]
  refine hN1 _ ?_
  try clear hN1 N1
  refine AW.sr envOk (fun N hN => ?_)
  simp -dsimp -implicitDefEqProofs (disch := omega) only [go_sem, undef, reduceAdd, reduceSub, reduceGT, reduceEqDiff, reduceMul, w64, bne_self_eq_false, beq_self_eq_true, Bool.not_true, Bool.not_false]
  refine AC.mono2 (AC.frame (spec_DrawBracket_p bs hb (by omega) _)) ?_
  rintro m1 H1 r1 hm1 ⟨H0, ⟨p, X, Y, a, b, rfl, hl, h6, ha8, hb8⟩, hlow, hhigh⟩
  by_cases hv : AllEl p X Y [a, b]
  ·skip
   obtain ⟨hr, hia, hib⟩ := AllEl.two.1 hv
   have t := hr.1.tri
   have hn := hr.nof
   have ha := hia.el
   have hb' := hib.el
   have ham := ha.len
   have hp2 := t.p2
   have hp7 := t.p7
   have hM : El p X.length (brkL p X Y a b) := brk_el hn.toSh _ _
   try simp -dsimp -implicitDefEqProofs (disch := omega) only [go_sem, undef, reduceAdd, reduceSub, reduceGT, reduceEqDiff, reduceMul, ring, rows, cubes, w64]
   refine hN _ ?_
   try clear hN N
   refine AW.freezeQ 3 (nx + 1 + 2 + 6) _ rfl (upd_same _ _ _) ?_
   simp -dsimp -implicitDefEqProofs (disch := omega) only [go_sem, undef, reduceAdd, reduceSub, reduceGT, reduceEqDiff, reduceMul]
   refine AW.sr envOk (fun N hN => ?_)
   simp -dsimp -implicitDefEqProofs (disch := omega) only [go_sem, undef, reduceAdd, reduceSub, reduceGT, reduceEqDiff, reduceMul, w64, bne_self_eq_false, beq_self_eq_true, Bool.not_true, Bool.not_false]
   refine AC.pure (.of (br_i hl hr ha hb' )) ?_
   try simp -dsimp -implicitDefEqProofs (disch := omega) only [go_sem, undef, reduceAdd, reduceSub, reduceGT, reduceEqDiff, reduceMul, w64, bne_self_eq_false, beq_self_eq_true, Bool.not_true, Bool.not_false]
   refine hN _ ?_
   try clear hN N
   refine AW.sr envOk (fun N hN => ?_)
   simp -dsimp -implicitDefEqProofs (disch := omega) only [go_sem, undef, reduceAdd, reduceSub, reduceGT, reduceEqDiff, reduceMul, w64, bne_self_eq_false, beq_self_eq_true, Bool.not_true, Bool.not_false]
   refine AC.pure (.of (br_s hl hr ha hb' )) ?_
   try simp -dsimp -implicitDefEqProofs (disch := omega) only [go_sem, undef, reduceAdd, reduceSub, reduceGT, reduceEqDiff, reduceMul, w64, bne_self_eq_false, beq_self_eq_true, Bool.not_true, Bool.not_false]
   refine hN _ ?_
   try clear hN N
   refine AW.seq (fun N2 hN2 => ?_)
   refine AW.sr envOk (fun N hN => ?_)
   simp -dsimp -implicitDefEqProofs (disch := omega) only [go_sem, undef, reduceAdd, reduceSub, reduceGT, reduceEqDiff, reduceMul, w64, bne_self_eq_false, beq_self_eq_true, Bool.not_true, Bool.not_false]
   refine AC.pure (.of (lk_e hr hM rfl )) ?_
   try simp -dsimp -implicitDefEqProofs (disch := omega) only [go_sem, undef, reduceAdd, reduceSub, reduceGT, reduceEqDiff, reduceMul, w64, bne_self_eq_false, beq_self_eq_true, Bool.not_true, Bool.not_false]
   refine hN _ ?_
   try clear hN N
   refine AW.condF rfl ?_
   refine AW.skip ?_
   simp only [thn, blk]
   refine hN2 _ ?_
   try clear hN2 N2
   refine AW.seq (fun N3 hN3 => ?_)
   refine AW.sr envOk (fun N hN => ?_)
   simp -dsimp -implicitDefEqProofs (disch := omega) only [go_sem, undef, reduceAdd, reduceSub, reduceGT, reduceEqDiff, reduceMul, w64, bne_self_eq_false, beq_self_eq_true, Bool.not_true, Bool.not_false]
   refine hN _ ?_
   try clear hN N
   refine AW.condF rfl ?_
   refine AW.skip ?_
   simp only [thn, blk]
   refine hN3 _ ?_
   try clear hN3 N3
   refine AW.sr envOk (fun N hN => ?_)
   simp -dsimp -implicitDefEqProofs (disch := omega) only [go_sem, undef, reduceAdd, reduceSub, reduceGT, reduceEqDiff, reduceMul, w64, bne_self_eq_false, beq_self_eq_true, Bool.not_true, Bool.not_false]
   refine AC.mono2 (AC.frame (laws_roll_n bs hb (by omega) 3101 _)) ?_
   rintro m2 H2 r2 hm2 ⟨H3, ⟨did, dh, rfl, hd1, hd2, hd3⟩, hlow2, hhigh2⟩
   have hd4 := (hhigh2 did hd1).trans hd3
   try simp -dsimp -implicitDefEqProofs (disch := omega) only [go_sem, undef, reduceAdd, reduceSub, reduceGT, reduceEqDiff, reduceMul, w64, bne_self_eq_false, beq_self_eq_true, Bool.not_true, Bool.not_false]
   refine hN _ ?_
   try clear hN N
   refine AW.sr envOk (fun N hN => ?_)
   simp -dsimp -implicitDefEqProofs (disch := omega) only [go_sem, undef, reduceAdd, reduceSub, reduceGT, reduceEqDiff, reduceMul, w64, bne_self_eq_false, beq_self_eq_true, Bool.not_true, Bool.not_false]
   refine hN _ ?_
   try clear hN N
   refine AW.seq (fun N4 hN4 => ?_)
   refine AW.sr envOk (fun N hN => ?_)
   simp -dsimp -implicitDefEqProofs (disch := omega) only [go_sem, undef, reduceAdd, reduceSub, reduceGT, reduceEqDiff, reduceMul, w64, bne_self_eq_false, beq_self_eq_true, Bool.not_true, Bool.not_false]
   refine hN _ ?_
   try clear hN N
   refine AW.block ?_
   refine AW.loopN (α := Nat × Nat × List Int × Int × Int) (fun x => sl 287 [(3, .p 0 [.i .i64 p, rows X, cubes Y]), (4, ints a), (5, ints b), (8, ints (brkL p X Y a b)), (10, .q did 0), (11, .h x.2.1 0 x.2.2.1.length), (12, .i .i64 x.1)]) (fun x => upd (upd noH did (some (dcB bs x.2.2.2.1 x.2.2.2.2))) x.2.1 (some (x.2.2.1.map (.i .i64)))) (fun x m => ((x.1 ≤ a.length ∧ x.2.2.1.length = x.1) ∧ did < x.2.1 ∧ x.2.1 < m) ∧ (∀ v ∈ x.2.2.1, 0 ≤ v ∧ v < p) ∧ (0 ≤ x.2.2.2.1 ∧ x.2.2.2.1 ≤ bs.length)) (fun x => a.length - x.1) ((0, m2, [], 0, dh)) ?_ ?_ (by intro d cs hd; simp only [upd, noH, List.map_nil] at hd ⊢; grind) ?_
   ·exact ⟨⟨⟨Nat.zero_le _, rfl⟩, by first| omega| (simp only; omega)| (dsimp only; omega), by first| omega| (simp only; omega)| (dsimp only; omega)⟩, fun v hv => (by cases hv), by first| omega| (simp only; omega)| (dsimp only; omega)⟩
   ·simp (disch := omega) [wks, wkA, sl, ints, rows, cubes] <;> omega
   ·skip
    rintro ⟨k, id, w, di, dh2⟩ m ⟨⟨⟨hk, hw⟩, hid1, hid2⟩, hwv, hdi⟩
    dsimp only at hk hw hid1 hid2 hwv hdi ⊢
    simp only [rows, cubes, ints]
    simp -dsimp -implicitDefEqProofs (disch := omega) only [go_sem, undef, reduceAdd, reduceSub, reduceGT, reduceEqDiff, reduceMul]
    refine AW.seq (fun N5 hN5 => ?_)
    refine AW.sr envOk (fun N hN => ?_)
    simp -dsimp -implicitDefEqProofs (disch := omega) only [go_sem, undef, reduceAdd, reduceSub, reduceGT, reduceEqDiff, reduceMul, w64, bne_self_eq_false, beq_self_eq_true, Bool.not_true, Bool.not_false]
    refine hN _ ?_
    try clear hN N
    refine AW.cond rfl (fun h2 => ?_) (fun h2 => ?_)
    ·try simp only [cn] at h2
     refine AW.skip ?_
     simp only [thn, blk]
     refine hN5 _ ?_
     try clear hN5 N5
     refine AW.seq (fun N6 hN6 => ?_)
     refine AW.block ?_
     refine AW.regionL envOk ?_
     simp -dsimp -implicitDefEqProofs (disch := omega) only [go_sem, undef, reduceAdd, reduceSub, reduceGT, reduceEqDiff, reduceMul, w64, bne_self_eq_false, beq_self_eq_true, Bool.not_true, Bool.not_false]
     refine (laws_below_o bs hb (by omega) di dh2 hdi p (by omega) _ _ did ((upd_ne _ _ (by omega)).trans (upd_same _ _ _))).mono2 ?_
     rintro m4 H4 r4 hm4 ⟨x, di2, dh3, rfl, hx, hdi2, rfl⟩
     try simp -dsimp -implicitDefEqProofs (disch := omega) only [go_sem, undef, reduceAdd, reduceSub, reduceGT, reduceEqDiff, reduceMul, w64, bne_self_eq_false, beq_self_eq_true, Bool.not_true, Bool.not_false]
     refine hN6 _ ?_
     try clear hN6 N6
     refine AW.regionL envOk ?_
     simp -dsimp -implicitDefEqProofs (disch := omega) only [go_sem, undef, reduceAdd, reduceSub, reduceGT, reduceEqDiff, reduceMul, w64, bne_self_eq_false, beq_self_eq_true, Bool.not_true, Bool.not_false]
     refine ⟨(k + 1, m + 4 + 6, w ++ [x], di2, dh3), ?_, by intro d cs hd; simp only [upd, noH, tk_map, List.map_append, List.map_cons, List.map_nil] at hd ⊢; grind, ?_, ?_⟩
     ·simp (disch := omega) [wks, wkA, sl, w64, ints, rows, cubes, w64, bne_self_eq_false, beq_self_eq_true, Bool.not_true, Bool.not_false] <;> omega
     ·(try dsimp only)
      first| exact ⟨⟨⟨by omega, by simp; omega⟩, by omega, by omega⟩, app_le hwv hx, hdi2⟩| exact ⟨⟨by simp; omega, by omega, by omega⟩, app_le hwv hx, hdi2⟩
     ·first | omega | (simp only; omega)
    ·try simp only [cn] at h2
     refine AW.exit ?_
     simp only [thn, blk, if_true]
     refine hN4 _ ?_
     try clear hN4 N4
     have hwl : w.length = X.length := by omega
     have hc : El p X.length w := ⟨hwl, fun j hj => by
      have := hwv (w.getD j 0) (by rw [List.getD_eq_getElem?_getD, List.getElem?_eq_getElem (by omega)]; exact List.getElem_mem _)
      omega⟩
     refine AW.freeze 11 id w.length _ rfl (upd_same _ _ _) (by simp) ?_
     simp -dsimp -implicitDefEqProofs (disch := omega) only [go_sem, undef, reduceAdd, reduceSub, reduceGT, reduceEqDiff, reduceMul]
     have hab : El p X.length (mixL p X 1 a 1 w) := mix_el t _ _ _ _
     have hbc : El p X.length (brkL p X Y b w) := brk_el hn.toSh _ _
     have hcb : El p X.length (brkL p X Y w b) := brk_el hn.toSh _ _
     have hca : El p X.length (brkL p X Y w a) := brk_el hn.toSh _ _
     refine AW.sr envOk (fun N hN => ?_)
     simp -dsimp -implicitDefEqProofs (disch := omega) only [go_sem, undef, reduceAdd, reduceSub, reduceGT, reduceEqDiff, reduceMul, w64, bne_self_eq_false, beq_self_eq_true, Bool.not_true, Bool.not_false]
     refine AC.pure (.of (ad_s hl hr ha hc )) ?_
     try simp -dsimp -implicitDefEqProofs (disch := omega) only [go_sem, undef, reduceAdd, reduceSub, reduceGT, reduceEqDiff, reduceMul, w64, bne_self_eq_false, beq_self_eq_true, Bool.not_true, Bool.not_false]
     refine hN _ ?_
     try clear hN N
     refine AW.sr envOk (fun N hN => ?_)
     simp -dsimp -implicitDefEqProofs (disch := omega) only [go_sem, undef, reduceAdd, reduceSub, reduceGT, reduceEqDiff, reduceMul, w64, bne_self_eq_false, beq_self_eq_true, Bool.not_true, Bool.not_false]
     refine AC.pure (.of (br_s hl hr hb' hc )) ?_
     try simp -dsimp -implicitDefEqProofs (disch := omega) only [go_sem, undef, reduceAdd, reduceSub, reduceGT, reduceEqDiff, reduceMul, w64, bne_self_eq_false, beq_self_eq_true, Bool.not_true, Bool.not_false]
     refine hN _ ?_
     try clear hN N
     refine AW.sr envOk (fun N hN => ?_)
     simp -dsimp -implicitDefEqProofs (disch := omega) only [go_sem, undef, reduceAdd, reduceSub, reduceGT, reduceEqDiff, reduceMul, w64, bne_self_eq_false, beq_self_eq_true, Bool.not_true, Bool.not_false]
     refine AC.pure (.of (br_s hl hr hc hb' )) ?_
     try simp -dsimp -implicitDefEqProofs (disch := omega) only [go_sem, undef, reduceAdd, reduceSub, reduceGT, reduceEqDiff, reduceMul, w64, bne_self_eq_false, beq_self_eq_true, Bool.not_true, Bool.not_false]
     refine hN _ ?_
     try clear hN N
     refine AW.sr envOk (fun N hN => ?_)
     simp -dsimp -implicitDefEqProofs (disch := omega) only [go_sem, undef, reduceAdd, reduceSub, reduceGT, reduceEqDiff, reduceMul, w64, bne_self_eq_false, beq_self_eq_true, Bool.not_true, Bool.not_false]
     refine AC.pure (.of (br_i hl hr hab hb' )) ?_
     try simp -dsimp -implicitDefEqProofs (disch := omega) only [go_sem, undef, reduceAdd, reduceSub, reduceGT, reduceEqDiff, reduceMul, w64, bne_self_eq_false, beq_self_eq_true, Bool.not_true, Bool.not_false]
     refine hN _ ?_
     try clear hN N
     refine AW.sr envOk (fun N hN => ?_)
     simp -dsimp -implicitDefEqProofs (disch := omega) only [go_sem, undef, reduceAdd, reduceSub, reduceGT, reduceEqDiff, reduceMul, w64, bne_self_eq_false, beq_self_eq_true, Bool.not_true, Bool.not_false]
     refine AC.pure (.of (ad_i hl hr hM hcb )) ?_
     try simp -dsimp -implicitDefEqProofs (disch := omega) only [go_sem, undef, reduceAdd, reduceSub, reduceGT, reduceEqDiff, reduceMul, w64, bne_self_eq_false, beq_self_eq_true, Bool.not_true, Bool.not_false]
     refine hN _ ?_
     try clear hN N
     refine AW.sr envOk (fun N hN => ?_)
     simp -dsimp -implicitDefEqProofs (disch := omega) only [go_sem, undef, reduceAdd, reduceSub, reduceGT, reduceEqDiff, reduceMul, w64, bne_self_eq_false, beq_self_eq_true, Bool.not_true, Bool.not_false]
     refine AC.pure (.of (ad_s hl hr hM hcb )) ?_
     try simp -dsimp -implicitDefEqProofs (disch := omega) only [go_sem, undef, reduceAdd, reduceSub, reduceGT, reduceEqDiff, reduceMul, w64, bne_self_eq_false, beq_self_eq_true, Bool.not_true, Bool.not_false]
     refine hN _ ?_
     try clear hN N
     refine AW.seq (fun N7 hN7 => ?_)
     refine AW.sr envOk (fun N hN => ?_)
     simp -dsimp -implicitDefEqProofs (disch := omega) only [go_sem, undef, reduceAdd, reduceSub, reduceGT, reduceEqDiff, reduceMul, w64, bne_self_eq_false, beq_self_eq_true, Bool.not_true, Bool.not_false]
     refine AC.pure (.of (lk_e hr (mix_el t _ _ _ _) (hn.add a b w) )) ?_
     try simp -dsimp -implicitDefEqProofs (disch := omega) only [go_sem, undef, reduceAdd, reduceSub, reduceGT, reduceEqDiff, reduceMul, w64, bne_self_eq_false, beq_self_eq_true, Bool.not_true, Bool.not_false]
     refine AC.pure (.of (lk_e hr (mix_el t _ _ _ _) rfl )) ?_
     try simp -dsimp -implicitDefEqProofs (disch := omega) only [go_sem, undef, reduceAdd, reduceSub, reduceGT, reduceEqDiff, reduceMul, w64, bne_self_eq_false, beq_self_eq_true, Bool.not_true, Bool.not_false]
     refine hN _ ?_
     try clear hN N
     refine AW.condF rfl ?_
     refine AW.skip ?_
     simp only [thn, blk]
     refine hN7 _ ?_
     try clear hN7 N7
     refine AW.sr envOk (fun N hN => ?_)
     simp -dsimp -implicitDefEqProofs (disch := omega) only [go_sem, undef, reduceAdd, reduceSub, reduceGT, reduceEqDiff, reduceMul, w64, bne_self_eq_false, beq_self_eq_true, Bool.not_true, Bool.not_false]
     refine AC.pure (.of (br_i hl hr ha ha )) ?_
     try simp -dsimp -implicitDefEqProofs (disch := omega) only [go_sem, undef, reduceAdd, reduceSub, reduceGT, reduceEqDiff, reduceMul, w64, bne_self_eq_false, beq_self_eq_true, Bool.not_true, Bool.not_false]
     refine hN _ ?_
     try clear hN N
     refine AW.seq (fun N8 hN8 => ?_)
     refine AW.sr envOk (fun N hN => ?_)
     simp -dsimp -implicitDefEqProofs (disch := omega) only [go_sem, undef, reduceAdd, reduceSub, reduceGT, reduceEqDiff, reduceMul, w64, bne_self_eq_false, beq_self_eq_true, Bool.not_true, Bool.not_false]
     refine AC.pure (.of (iz_t hr (brk_el hn.toSh _ _) (hn.self a) )) ?_
     try simp -dsimp -implicitDefEqProofs (disch := omega) only [go_sem, undef, reduceAdd, reduceSub, reduceGT, reduceEqDiff, reduceMul, w64, bne_self_eq_false, beq_self_eq_true, Bool.not_true, Bool.not_false]
     refine hN _ ?_
     try clear hN N
     refine AW.condF rfl ?_
     refine AW.skip ?_
     simp only [thn, blk]
     refine hN8 _ ?_
     try clear hN8 N8
     refine AW.sr envOk (fun N hN => ?_)
     simp -dsimp -implicitDefEqProofs (disch := omega) only [go_sem, undef, reduceAdd, reduceSub, reduceGT, reduceEqDiff, reduceMul, w64, bne_self_eq_false, beq_self_eq_true, Bool.not_true, Bool.not_false]
     refine AC.pure (.of (br_s hl hr hc ha )) ?_
     try simp -dsimp -implicitDefEqProofs (disch := omega) only [go_sem, undef, reduceAdd, reduceSub, reduceGT, reduceEqDiff, reduceMul, w64, bne_self_eq_false, beq_self_eq_true, Bool.not_true, Bool.not_false]
     refine hN _ ?_
     try clear hN N
     refine AW.sr envOk (fun N hN => ?_)
     simp -dsimp -implicitDefEqProofs (disch := omega) only [go_sem, undef, reduceAdd, reduceSub, reduceGT, reduceEqDiff, reduceMul, w64, bne_self_eq_false, beq_self_eq_true, Bool.not_true, Bool.not_false]
     refine AC.pure (.of (br_i hl hr hM hc )) ?_
     try simp -dsimp -implicitDefEqProofs (disch := omega) only [go_sem, undef, reduceAdd, reduceSub, reduceGT, reduceEqDiff, reduceMul, w64, bne_self_eq_false, beq_self_eq_true, Bool.not_true, Bool.not_false]
     refine hN _ ?_
     try clear hN N
     refine AW.sr envOk (fun N hN => ?_)
     simp -dsimp -implicitDefEqProofs (disch := omega) only [go_sem, undef, reduceAdd, reduceSub, reduceGT, reduceEqDiff, reduceMul, w64, bne_self_eq_false, beq_self_eq_true, Bool.not_true, Bool.not_false]
     refine AC.pure (.of (br_i hl hr hbc ha )) ?_
     try simp -dsimp -implicitDefEqProofs (disch := omega) only [go_sem, undef, reduceAdd, reduceSub, reduceGT, reduceEqDiff, reduceMul, w64, bne_self_eq_false, beq_self_eq_true, Bool.not_true, Bool.not_false]
     refine hN _ ?_
     try clear hN N
     refine AW.sr envOk (fun N hN => ?_)
     simp -dsimp -implicitDefEqProofs (disch := omega) only [go_sem, undef, reduceAdd, reduceSub, reduceGT, reduceEqDiff, reduceMul, w64, bne_self_eq_false, beq_self_eq_true, Bool.not_true, Bool.not_false]
     refine AC.pure (.of (br_i hl hr hca hb' )) ?_
     try simp -dsimp -implicitDefEqProofs (disch := omega) only [go_sem, undef, reduceAdd, reduceSub, reduceGT, reduceEqDiff, reduceMul, w64, bne_self_eq_false, beq_self_eq_true, Bool.not_true, Bool.not_false]
     refine hN _ ?_
     try clear hN N
     refine AW.sr envOk (fun N hN => ?_)
     simp -dsimp -implicitDefEqProofs (disch := omega) only [go_sem, undef, reduceAdd, reduceSub, reduceGT, reduceEqDiff, reduceMul, w64, bne_self_eq_false, beq_self_eq_true, Bool.not_true, Bool.not_false]
     refine AC.pure (.of (br_s hl hr hM hc )) ?_
     try simp -dsimp -implicitDefEqProofs (disch := omega) only [go_sem, undef, reduceAdd, reduceSub, reduceGT, reduceEqDiff, reduceMul, w64, bne_self_eq_false, beq_self_eq_true, Bool.not_true, Bool.not_false]
     refine hN _ ?_
     try clear hN N
     refine AW.sr envOk (fun N hN => ?_)
     simp -dsimp -implicitDefEqProofs (disch := omega) only [go_sem, undef, reduceAdd, reduceSub, reduceGT, reduceEqDiff, reduceMul, w64, bne_self_eq_false, beq_self_eq_true, Bool.not_true, Bool.not_false]
     refine AC.pure (.of (br_s hl hr hbc ha )) ?_
     try simp -dsimp -implicitDefEqProofs (disch := omega) only [go_sem, undef, reduceAdd, reduceSub, reduceGT, reduceEqDiff, reduceMul, w64, bne_self_eq_false, beq_self_eq_true, Bool.not_true, Bool.not_false]
     refine hN _ ?_
     try clear hN N
     refine AW.sr envOk (fun N hN => ?_)
     simp -dsimp -implicitDefEqProofs (disch := omega) only [go_sem, undef, reduceAdd, reduceSub, reduceGT, reduceEqDiff, reduceMul, w64, bne_self_eq_false, beq_self_eq_true, Bool.not_true, Bool.not_false]
     refine AC.pure (.of (br_s hl hr hca hb' )) ?_
     try simp -dsimp -implicitDefEqProofs (disch := omega) only [go_sem, undef, reduceAdd, reduceSub, reduceGT, reduceEqDiff, reduceMul, w64, bne_self_eq_false, beq_self_eq_true, Bool.not_true, Bool.not_false]
     refine hN _ ?_
     try clear hN N
     refine AW.seq (fun N9 hN9 => ?_)
     refine AW.sr envOk (fun N hN => ?_)
     simp -dsimp -implicitDefEqProofs (disch := omega) only [go_sem, undef, reduceAdd, reduceSub, reduceGT, reduceEqDiff, reduceMul, w64, bne_self_eq_false, beq_self_eq_true, Bool.not_true, Bool.not_false]
     refine AC.pure (.of (lk_e hr (brk_el hn.toSh _ _) rfl )) ?_
     try simp -dsimp -implicitDefEqProofs (disch := omega) only [go_sem, undef, reduceAdd, reduceSub, reduceGT, reduceEqDiff, reduceMul, w64, bne_self_eq_false, beq_self_eq_true, Bool.not_true, Bool.not_false]
     refine AC.pure (.of (lk_e hr (brk_el hn.toSh _ _) rfl )) ?_
     try simp -dsimp -implicitDefEqProofs (disch := omega) only [go_sem, undef, reduceAdd, reduceSub, reduceGT, reduceEqDiff, reduceMul, w64, bne_self_eq_false, beq_self_eq_true, Bool.not_true, Bool.not_false]
     refine AC.pure (.of (lk_e hr (brk_el hn.toSh _ _) rfl )) ?_
     try simp -dsimp -implicitDefEqProofs (disch := omega) only [go_sem, undef, reduceAdd, reduceSub, reduceGT, reduceEqDiff, reduceMul, w64, bne_self_eq_false, beq_self_eq_true, Bool.not_true, Bool.not_false]
     refine hN _ ?_
     try clear hN N
     refine AW.condF rfl ?_
     refine AW.skip ?_
     simp only [thn, blk]
     refine hN9 _ ?_
     try clear hN9 N9
     refine AW.sr envOk (fun N hN => ?_)
     simp -dsimp -implicitDefEqProofs (disch := omega) only [go_sem, undef, reduceAdd, reduceSub, reduceGT, reduceEqDiff, reduceMul, w64, bne_self_eq_false, beq_self_eq_true, Bool.not_true, Bool.not_false]
     refine AC.pure (.of (ad_i hl hr (brk_el hn.toSh _ _) (brk_el hn.toSh _ _) )) ?_
     try simp -dsimp -implicitDefEqProofs (disch := omega) only [go_sem, undef, reduceAdd, reduceSub, reduceGT, reduceEqDiff, reduceMul, w64, bne_self_eq_false, beq_self_eq_true, Bool.not_true, Bool.not_false]
     refine hN _ ?_
     try clear hN N
     refine AW.sr envOk (fun N hN => ?_)
     simp -dsimp -implicitDefEqProofs (disch := omega) only [go_sem, undef, reduceAdd, reduceSub, reduceGT, reduceEqDiff, reduceMul, w64, bne_self_eq_false, beq_self_eq_true, Bool.not_true, Bool.not_false]
     refine AC.pure (.of (ad_s hl hr (brk_el hn.toSh _ _) (brk_el hn.toSh _ _) )) ?_
     try simp -dsimp -implicitDefEqProofs (disch := omega) only [go_sem, undef, reduceAdd, reduceSub, reduceGT, reduceEqDiff, reduceMul, w64, bne_self_eq_false, beq_self_eq_true, Bool.not_true, Bool.not_false]
     refine hN _ ?_
     try clear hN N
     refine AW.sr envOk (fun N hN => ?_)
     simp -dsimp -implicitDefEqProofs (disch := omega) only [go_sem, undef, reduceAdd, reduceSub, reduceGT, reduceEqDiff, reduceMul, w64, bne_self_eq_false, beq_self_eq_true, Bool.not_true, Bool.not_false]
     refine AC.pure (.of (ad_i hl hr (mix_el t _ _ _ _) (brk_el hn.toSh _ _) )) ?_
     try simp -dsimp -implicitDefEqProofs (disch := omega) only [go_sem, undef, reduceAdd, reduceSub, reduceGT, reduceEqDiff, reduceMul, w64, bne_self_eq_false, beq_self_eq_true, Bool.not_true, Bool.not_false]
     refine hN _ ?_
     try clear hN N
     refine AW.sr envOk (fun N hN => ?_)
     simp -dsimp -implicitDefEqProofs (disch := omega) only [go_sem, undef, reduceAdd, reduceSub, reduceGT, reduceEqDiff, reduceMul, w64, bne_self_eq_false, beq_self_eq_true, Bool.not_true, Bool.not_false]
     refine AC.pure (.of (lk_e hr (mix_el t _ _ _ _) rfl )) ?_
     try simp -dsimp -implicitDefEqProofs (disch := omega) only [go_sem, undef, reduceAdd, reduceSub, reduceGT, reduceEqDiff, reduceMul, w64, bne_self_eq_false, beq_self_eq_true, Bool.not_true, Bool.not_false]
     refine AC.pure (.of (iz_t hr (mix_el t _ _ _ _) (hn.jacobi a b w) )) ?_
     try simp -dsimp -implicitDefEqProofs (disch := omega) only [go_sem, undef, reduceAdd, reduceSub, reduceGT, reduceEqDiff, reduceMul, w64, bne_self_eq_false, beq_self_eq_true, Bool.not_true, Bool.not_false]
     refine hN _ ?_
     try clear hN N
     refine AW.ret ?_
     simp -dsimp -implicitDefEqProofs (disch := omega) only [go_sem, undef, reduceAdd, reduceSub, reduceGT, reduceEqDiff, reduceMul]
     all_goals rfl
  ·skip
   have hbi := (impl_Bracket_ok p X Y hl a b (by omega) (by omega)).pure
   have hbs := spec_Bracket_ok p X Y hl a b (by omega) (by omega)
   rw [tf_f hv] at hbi hbs
   try simp -dsimp -implicitDefEqProofs (disch := omega) only [go_sem, undef, reduceAdd, reduceSub, reduceGT, reduceEqDiff, reduceMul, ring, rows, cubes, w64]
   refine hN _ ?_
   try clear hN N
   refine AW.freezeQ 3 (nx + 1 + 2 + 6) _ rfl (upd_same _ _ _) ?_
   simp -dsimp -implicitDefEqProofs (disch := omega) only [go_sem, undef, reduceAdd, reduceSub, reduceGT, reduceEqDiff, reduceMul]
   refine AW.sr envOk (fun N hN => ?_)
   simp -dsimp -implicitDefEqProofs (disch := omega) only [go_sem, undef, reduceAdd, reduceSub, reduceGT, reduceEqDiff, reduceMul, w64, bne_self_eq_false, beq_self_eq_true, Bool.not_true, Bool.not_false]
   refine AC.pure (.of (hbi )) ?_
   try simp -dsimp -implicitDefEqProofs (disch := omega) only [go_sem, undef, reduceAdd, reduceSub, reduceGT, reduceEqDiff, reduceMul, w64, bne_self_eq_false, beq_self_eq_true, Bool.not_true, Bool.not_false]
   refine hN _ ?_
   try clear hN N
   refine AW.sr envOk (fun N hN => ?_)
   simp -dsimp -implicitDefEqProofs (disch := omega) only [go_sem, undef, reduceAdd, reduceSub, reduceGT, reduceEqDiff, reduceMul, w64, bne_self_eq_false, beq_self_eq_true, Bool.not_true, Bool.not_false]
   refine AC.pure (.of (hbs )) ?_
   try simp -dsimp -implicitDefEqProofs (disch := omega) only [go_sem, undef, reduceAdd, reduceSub, reduceGT, reduceEqDiff, reduceMul, w64, bne_self_eq_false, beq_self_eq_true, Bool.not_true, Bool.not_false]
   refine hN _ ?_
   try clear hN N
   refine AW.seq (fun N10 hN10 => ?_)
   refine AW.sr envOk (fun N hN => ?_)
   simp -dsimp -implicitDefEqProofs (disch := omega) only [go_sem, undef, reduceAdd, reduceSub, reduceGT, reduceEqDiff, reduceMul, w64, bne_self_eq_false, beq_self_eq_true, Bool.not_true, Bool.not_false]
   refine AC.pure (.of (laws_likeInts_e [] (by simp) )) ?_
   try simp -dsimp -implicitDefEqProofs (disch := omega) only [go_sem, undef, reduceAdd, reduceSub, reduceGT, reduceEqDiff, reduceMul, w64, bne_self_eq_false, beq_self_eq_true, Bool.not_true, Bool.not_false]
   refine hN _ ?_
   try clear hN N
   refine AW.condF rfl ?_
   refine AW.skip ?_
   simp only [thn, blk]
   refine hN10 _ ?_
   try clear hN10 N10
   refine AW.seq (fun N11 hN11 => ?_)
   refine AW.sr envOk (fun N hN => ?_)
   simp -dsimp -implicitDefEqProofs (disch := omega) only [go_sem, undef, reduceAdd, reduceSub, reduceGT, reduceEqDiff, reduceMul, w64, bne_self_eq_false, beq_self_eq_true, Bool.not_true, Bool.not_false]
   refine hN _ ?_
   try clear hN N
   refine AW.condT rfl ?_
   refine AW.sr envOk (fun N hN => ?_)
   simp -dsimp -implicitDefEqProofs (disch := omega) only [go_sem, undef, reduceAdd, reduceSub, reduceGT, reduceEqDiff, reduceMul, w64, bne_self_eq_false, beq_self_eq_true, Bool.not_true, Bool.not_false]
   refine hN _ ?_
   try clear hN N
   refine AW.ret ?_
   simp -dsimp -implicitDefEqProofs (disch := omega) only [go_sem, undef, reduceAdd, reduceSub, reduceGT, reduceEqDiff, reduceMul]
   all_goals rfl

end Go.Proofs.Ytdghgmgppecncaa
