import Derived.Test.YtdghgmgppecncaaZ19
import Derived.Test.YtdghgmgppecncaaZ44
import Derived.Test.YtdghgmgppecncaaZ50
import Derived.Test.YtdghgmgppecncaaZ51
set_option linter.unusedVariables false
set_option linter.unusedSimpArgs false
namespace Go.Proofs.Ytdghgmgppecncaa
open Nat (reduceAdd reduceSub reduceGT reduceEqDiff reduceMul)
def ptK : Nat → HP → AV → Prop := fun _ _ r => ∃ p X Y u x, r = .t [ring p X Y, rows u, ints x] ∧ ringlen X Y ∧ X.length ≤ 6 ∧ u.length ≤ 6 ∧ (∀ y ∈ u, y.length ≤ 8) ∧ x.length ≤ 8
theorem spec_l32Point_p (bs : List Int) (hb : bytsok bs) (hb4 : bs.length ≤ 4096) (nx : Nat) : AC Try.prog 141 nx noH [byts bs] ptK := by
 refine AC.introx envOk Try.func141 rfl (by kernel_rfl) Try.ntmps141 Try.results141 (fun hfr => ?_)
 refine AW.sr envOk (fun N hN => ?_)
 simp -dsimp -implicitDefEqProofs (disch := omega) only [go_sem, undef, reduceAdd, reduceSub, reduceGT, reduceEqDiff, reduceMul, ring, rows, cubes, w64, gd_r]
 refine hN _ ?_
 try clear hN N
 refine AW.sr envOk (fun N hN => ?_)
 simp -dsimp -implicitDefEqProofs (disch := omega) only [go_sem, undef, reduceAdd, reduceSub, reduceGT, reduceEqDiff, reduceMul, ring, rows, cubes, w64, gd_r]
 refine AC.mono2 (AC.frame (spec_l01From_n bs hb hb4 _)) ?_
 rintro m1 H1 r1 hm1 ⟨H0, ⟨sid, a1, s1, rfl, hsid1, hsid2, ho1, hs0⟩, hlow, hhigh⟩
 have hs1 := (hhigh sid hsid1).trans hs0
 have h01 : H1 nx = some [.i .i64 0, .nl, .nl] := (hlow nx (by omega)).trans (upd_same _ _ _)
 try simp -dsimp -implicitDefEqProofs (disch := omega) only [go_sem, undef, reduceAdd, reduceSub, reduceGT, reduceEqDiff, reduceMul, ring, rows, cubes, w64, gd_r]
 refine hN _ ?_
 try clear hN N
 refine AW.sr envOk (fun N hN => ?_)
 simp -dsimp -implicitDefEqProofs (disch := omega) only [go_sem, undef, reduceAdd, reduceSub, reduceGT, reduceEqDiff, reduceMul, ring, rows, cubes, w64, gd_r]
 refine (spec_l31Draw_p bs a1 s1 ho1 _ _ sid hs1 (by omega)).mono2 ?_
 rintro m2 H2 r2 hm2 ⟨p, X, Y, a2, s2, rfl, hl, hX6, hp, ho2, hf2⟩
 try simp -dsimp -implicitDefEqProofs (disch := omega) only [go_sem, undef, reduceAdd, reduceSub, reduceGT, reduceEqDiff, reduceMul, ring, rows, cubes, w64]
 refine hN _ ?_
 try clear hN N
 refine AW.freezeQ 6 (m1 + 2) _ rfl (upd_same _ _ _) ?_
 simp -dsimp -implicitDefEqProofs (disch := omega) only [go_sem, undef, reduceAdd, reduceSub, reduceGT, reduceEqDiff, reduceMul]
 refine AW.nameH (fun G hG => ?_)
 dsimp only at hG
 have hs2 : G sid = some (srB bs a2 s2) := by rw [← hG, upd_ne _ _ (by omega)]; exact (hf2 sid (by omega)).trans (upd_same _ _ _)
 have h02 : G nx = some [.i .i64 0, .nl, .nl] := by rw [← hG, upd_ne _ _ (by omega)]; exact (hf2 nx (by omega)).trans ((upd_ne _ _ (by omega)).trans h01)
 refine AW.sr envOk (fun N hN => ?_)
 simp -dsimp -implicitDefEqProofs (disch := omega) only [go_sem, undef, reduceAdd, reduceSub, reduceGT, reduceEqDiff, reduceMul, ring, rows, cubes, w64, gd_r]
 refine (spec_l32Sequence_p bs a2 s2 ho2 p X Y hl hX6 hp _ _ sid hs2).mono2 ?_
 rintro m3 H3 r3 hm3 ⟨u, a3, s3, rfl, hu6, hu8, ho3, hf3⟩
 have hs3 : H3 sid = some (srB bs a3 s3) := (hf3 sid (by omega)).trans (upd_same _ _ _)
 have h03 : H3 nx = some [.i .i64 0, .nl, .nl] := (hf3 nx (by omega)).trans ((upd_ne _ _ (by omega)).trans h02)
 try simp -dsimp -implicitDefEqProofs (disch := omega) only [go_sem, undef, reduceAdd, reduceSub, reduceGT, reduceEqDiff, reduceMul, ring, rows, cubes, w64, gd_r]
 refine hN _ ?_
 try clear hN N
 refine AW.sr envOk (fun N hN => ?_)
 simp -dsimp -implicitDefEqProofs (disch := omega) only [go_sem, undef, reduceAdd, reduceSub, reduceGT, reduceEqDiff, reduceMul, ring, rows, cubes, w64, gd_r]
 refine (spec_l31Element_p bs a3 s3 ho3 p X Y hX6 (by omega) _ _ sid hs3).mono2 ?_
 rintro m4 H4 r4 hm4 ⟨w2, a4, s4, rfl, hw2, ho4, hf4⟩
 have hs4 : H4 sid = some (srB bs a4 s4) := (hf4 sid (by omega)).trans (upd_same _ _ _)
 have h04 : H4 nx = some [.i .i64 0, .nl, .nl] := (hf4 nx (by omega)).trans ((upd_ne _ _ (by omega)).trans h03)
 try simp -dsimp -implicitDefEqProofs (disch := omega) only [go_sem, undef, reduceAdd, reduceSub, reduceGT, reduceEqDiff, reduceMul, ring, rows, cubes, w64, gd_r]
 refine hN _ ?_
 try clear hN N
 refine AW.seq (fun N1 hN1 => ?_)
 refine AW.sr envOk (fun N hN => ?_)
 simp -dsimp -implicitDefEqProofs (disch := omega) only [go_sem, undef, reduceAdd, reduceSub, reduceGT, reduceEqDiff, reduceMul, ring, rows, cubes, w64, gd_r]
 refine (spec_l01Next_o bs a4 s4 ho4 3 (by omega) _ _ sid hs4).mono2 ?_
 rintro m5 H5 r5 hm5 ⟨z5, a5, s5, rfl, hz5, ho5, rfl⟩
 have h05 : upd H4 sid (some (srB bs a5 s5)) nx = some [.i .i64 0, .nl, .nl] := (upd_ne _ _ (by omega)).trans h04
 try simp -dsimp -implicitDefEqProofs (disch := omega) only [go_sem, undef, reduceAdd, reduceSub, reduceGT, reduceEqDiff, reduceMul, ring, rows, cubes, w64, gd_r]
 refine gopB.mk' (fun h1 => ?_) (fun h1 => ?_)
 ·try simp only [cn] at h1
  try simp -dsimp -implicitDefEqProofs (disch := omega) only [go_sem, undef, reduceAdd, reduceSub, reduceGT, reduceEqDiff, reduceMul, ring, rows, cubes, w64, gd_r]
  refine AC.pure (.of (spec_IsLieSpan_ok p X Y hl u (rl8 hu6 hu8) )) ?_
  try simp -dsimp -implicitDefEqProofs (disch := omega) only [go_sem, undef, reduceAdd, reduceSub, reduceGT, reduceEqDiff, reduceMul, ring, rows, cubes, w64, gd_r]
  refine gopB.mk' (fun h2 => ?_) (fun h2 => ?_)
  ·try simp only [cn] at h2
   try simp -dsimp -implicitDefEqProofs (disch := omega) only [go_sem, undef, reduceAdd, reduceSub, reduceGT, reduceEqDiff, reduceMul, ring, rows, cubes, w64, gd_r]
   refine AC.pure (.of (spec_l31Has_ok p X Y w2 hp (by omega) )) ?_
   try simp -dsimp -implicitDefEqProofs (disch := omega) only [go_sem, undef, reduceAdd, reduceSub, reduceGT, reduceEqDiff, reduceMul, ring, rows, cubes, w64, gd_r]
   refine gopB.mk' (fun h3 => ?_) (fun h3 => ?_)
   ·try simp only [cn] at h3
    try simp -dsimp -implicitDefEqProofs (disch := omega) only [go_sem, undef, reduceAdd, reduceSub, reduceGT, reduceEqDiff, reduceMul, ring, rows, cubes, w64, gd_r]
    refine hN _ ?_
    try clear hN N
    refine AW.cond rfl (fun h4 => ?_) (fun h4 => ?_)
    ·try simp only [cn] at h4
     have hmt := h2.1.1.tri
     have hmp := hmt.p7
     have hme := allEl.mem h2.2.2.1
     have e1 : El p X.length (u.getD 0 []) := hme _ (ix_mem (by omega))
     have e2 : El p X.length (u.getD (u.length - 1) []) := hme _ (ix_mem (by omega))
     have htn : ((u.length : Int) - 1).toNat = u.length - 1 := by omega
     refine AW.drawF envOk (by kernel_rfl) [true, true, true, true, true, true, true, true, true, true, true, false] (by kernel_rfl) ?_
     simp -dsimp -implicitDefEqProofs (disch := omega) only [go_sem, undef, reduceAdd, reduceSub, reduceGT, reduceEqDiff, reduceMul, ring, rows, cubes, w64, gd_r, htn]
     refine ⟨_, .of ((spec_l31Mix_ok p X Y hmt 2 (u.getD 0 []) 1 (u.getD (u.length - 1) []) e1.len e2.len (e1.smlk hmp (by omega) (by omega)) (e2.sml1 hmp)).pure ), ?_⟩
     try simp -dsimp -implicitDefEqProofs (disch := omega) only [go_sem, undef, reduceAdd, reduceSub, reduceGT, reduceEqDiff, reduceMul, ring, rows, cubes, w64, gd_r]
     refine hN1 _ ?_
     try clear hN1 N1
     refine AW.sr envOk (fun N hN => ?_)
     simp -dsimp -implicitDefEqProofs (disch := omega) only [go_sem, undef, reduceAdd, reduceSub, reduceGT, reduceEqDiff, reduceMul, ring, rows, cubes, w64, gd_r, h05]
     refine hN _ ?_
     try clear hN N
     refine AW.ret ?_
     simp -dsimp -implicitDefEqProofs (disch := omega) only [go_sem, undef, reduceAdd, reduceSub, reduceGT, reduceEqDiff, reduceMul]
     exact ⟨_, fun _ _ h => h, p, X, Y, u, _, rfl, hl, hX6, hu6, hu8, by have := (mix_el (p := p) (pw := X) hmt 2 1 (u.getD 0 []) (u.getD (u.length - 1) [])).len; omega⟩
    ·try simp only [cn] at h4
     refine AW.skip ?_
     simp only [thn, blk]
     refine hN1 _ ?_
     try clear hN1 N1
     refine AW.sr envOk (fun N hN => ?_)
     simp -dsimp -implicitDefEqProofs (disch := omega) only [go_sem, undef, reduceAdd, reduceSub, reduceGT, reduceEqDiff, reduceMul, ring, rows, cubes, w64, gd_r, h05]
     refine hN _ ?_
     try clear hN N
     refine AW.ret ?_
     simp -dsimp -implicitDefEqProofs (disch := omega) only [go_sem, undef, reduceAdd, reduceSub, reduceGT, reduceEqDiff, reduceMul]
     exact ⟨_, fun _ _ h => h, p, X, Y, u, _, rfl, hl, hX6, hu6, hu8, hw2⟩
   ·try simp only [cn] at h3
    try simp -dsimp -implicitDefEqProofs (disch := omega) only [go_sem, undef, reduceAdd, reduceSub, reduceGT, reduceEqDiff, reduceMul, ring, rows, cubes, w64, gd_r]
    refine hN _ ?_
    try clear hN N
    refine AW.condF rfl ?_
    refine AW.skip ?_
    simp only [thn, blk]
    refine hN1 _ ?_
    try clear hN1 N1
    refine AW.sr envOk (fun N hN => ?_)
    simp -dsimp -implicitDefEqProofs (disch := omega) only [go_sem, undef, reduceAdd, reduceSub, reduceGT, reduceEqDiff, reduceMul, ring, rows, cubes, w64, gd_r, h05]
    refine hN _ ?_
    try clear hN N
    refine AW.ret ?_
    simp -dsimp -implicitDefEqProofs (disch := omega) only [go_sem, undef, reduceAdd, reduceSub, reduceGT, reduceEqDiff, reduceMul]
    exact ⟨_, fun _ _ h => h, p, X, Y, u, _, rfl, hl, hX6, hu6, hu8, hw2⟩
  ·try simp only [cn] at h2
   try simp -dsimp -implicitDefEqProofs (disch := omega) only [go_sem, undef, reduceAdd, reduceSub, reduceGT, reduceEqDiff, reduceMul, ring, rows, cubes, w64, gd_r]
   refine hN _ ?_
   try clear hN N
   refine AW.condF rfl ?_
   refine AW.skip ?_
   simp only [thn, blk]
   refine hN1 _ ?_
   try clear hN1 N1
   refine AW.sr envOk (fun N hN => ?_)
   simp -dsimp -implicitDefEqProofs (disch := omega) only [go_sem, undef, reduceAdd, reduceSub, reduceGT, reduceEqDiff, reduceMul, ring, rows, cubes, w64, gd_r, h05]
   refine hN _ ?_
   try clear hN N
   refine AW.ret ?_
   simp -dsimp -implicitDefEqProofs (disch := omega) only [go_sem, undef, reduceAdd, reduceSub, reduceGT, reduceEqDiff, reduceMul]
   exact ⟨_, fun _ _ h => h, p, X, Y, u, _, rfl, hl, hX6, hu6, hu8, hw2⟩
 ·try simp only [cn] at h1
  try simp -dsimp -implicitDefEqProofs (disch := omega) only [go_sem, undef, reduceAdd, reduceSub, reduceGT, reduceEqDiff, reduceMul, ring, rows, cubes, w64, gd_r]
  refine hN _ ?_
  try clear hN N
  refine AW.condF rfl ?_
  refine AW.skip ?_
  simp only [thn, blk]
  refine hN1 _ ?_
  try clear hN1 N1
  refine AW.sr envOk (fun N hN => ?_)
  simp -dsimp -implicitDefEqProofs (disch := omega) only [go_sem, undef, reduceAdd, reduceSub, reduceGT, reduceEqDiff, reduceMul, ring, rows, cubes, w64, gd_r, h05]
  refine hN _ ?_
  try clear hN N
  refine AW.ret ?_
  simp -dsimp -implicitDefEqProofs (disch := omega) only [go_sem, undef, reduceAdd, reduceSub, reduceGT, reduceEqDiff, reduceMul]
  exact ⟨_, fun _ _ h => h, p, X, Y, u, _, rfl, hl, hX6, hu6, hu8, hw2⟩
theorem spec_DrawReduceLie_p (bs : List Int) (hb : bytsok bs) (hb4 : bs.length ≤ 4096) (nx : Nat) : AC Try.prog 69 nx noH [byts bs] ptK := by
 refine AC.introx envOk Try.func69 rfl (by kernel_rfl) Try.ntmps69 Try.results69 (fun hfr => ?_)
 refine AW.sr envOk (fun N hN => ?_)
 simp -dsimp -implicitDefEqProofs (disch := omega) only [go_sem, undef, reduceAdd, reduceSub, reduceGT, reduceEqDiff, reduceMul, ring, rows, cubes]
 refine hN _ ?_
 try clear hN N
 refine AW.sr envOk (fun N hN => ?_)
 simp -dsimp -implicitDefEqProofs (disch := omega) only [go_sem, undef, reduceAdd, reduceSub, reduceGT, reduceEqDiff, reduceMul, ring, rows, cubes]
 refine AC.mono2 (AC.frame (spec_l32Point_p bs hb hb4 _)) ?_
 rintro m1 H1 r1 hm1 ⟨H0, ⟨p, X, Y, u, x, rfl, hl, h6, hu6, hu8, hx8⟩, hlow, hhigh⟩
 have h01 : H1 nx = some [.i .i64 0, .nl, .nl] := (hlow nx (by omega)).trans (upd_same _ _ _)
 try simp -dsimp -implicitDefEqProofs (disch := omega) only [go_sem, undef, reduceAdd, reduceSub, reduceGT, reduceEqDiff, reduceMul, ring, rows, cubes, h01]
 refine hN _ ?_
 try clear hN N
 refine AW.ret ?_
 simp -dsimp -implicitDefEqProofs (disch := omega) only [go_sem, undef, reduceAdd, reduceSub, reduceGT, reduceEqDiff, reduceMul]
 exact ⟨_, fun _ _ h => h, p, X, Y, u, x, rfl, hl, h6, hu6, hu8, hx8⟩
section
variable {p : Int} {X : List (List Int)} {Y : List (List (List Int))}
theorem redL_id (t : Tri p X) : ∀ {u : List (List Int)} {x : List Int}, El p X.length x → (∀ b ∈ u, x.getD (dep b) 0 = 0) → redL p X u x = x := by
  intro u
  induction u with
  | nil => intro x _ _; rfl
  | cons v u ih =>
    intro x hx h
    show redL p X u (stepL p X v x) = x
    rw [stepL_id t hx (h v (by simp))]
    exact ih hx fun b hb => h b (by simp [hb])
theorem red_twice (t : Tri p X) {u : List (List Int)} {x : List Int} (hu : CanU p X u) (hx : El p X.length x) : redL p X u (redL p X u x) = redL p X u x :=
  redL_id t (redL_el t u hx) (redL_zero t hu.toEch hx)
theorem red_gap (t : Tri p X) {u : List (List Int)} {x : List Int} (hu : CanU p X u) (hx : El p X.length x) : zeros (redL p X u (mixL p X 1 x 1 (mulL p X (-1) (redL p X u x)))) := by
  refine (zero_iff t hu (mix_el t _ _ _ _)).2 ?_
  have h1 := (redL_sp t (d := 0) (u := u) (x := x) (fun b hb => ⟨hu.lt b hb, hu.one b hb⟩) hx (fun j hj => by omega)).1
  have h2 : Sp p X u (fun j => 1 * fn x j + -1 * fn (redL p X u x) j) := h1 _ (Sp.sub u) (fun b hb => .gen (mem_deeper.1 hb).1)
  refine (Sp.sub u).cg h2 ?_
  have c1 := nf_fn t (fun j => 1 * x.getD j 0 + 1 * (mulL p X (-1) (redL p X u x)).getD j 0)
  have c2 := (Cg.refl (p := p) (pw := X) (fn x)).comb 1 1 (nf_fn t (fun j => -1 * (redL p X u x).getD j 0))
  exact c1.trans (c2.trans (.of fun j _ => by simp only [fn]; omega))
end
set_option maxRecDepth 100000 in
set_option maxHeartbeats 4000000 in
theorem law_FnReducedLie (bs : List Int) (hb : bytsok bs) : ACp Try.prog 11 [byts bs] (.b true) := by
 have hb1 := hb.1
 refine ACp.intro' envOk Try.func11 rfl (by kernel_rfl) Try.ntmps11 Try.results11 (.b _) (fun nx => ?_)
 refine AW.sr envOk (fun N hN => ?_)
 simp -dsimp -implicitDefEqProofs (disch := omega) only [go_sem, undef, reduceAdd, reduceSub, reduceGT, reduceEqDiff, reduceMul, w64, bne_self_eq_false, beq_self_eq_true, Bool.not_true, Bool.not_false]
 refine hN _ ?_
 try clear hN N
 refine AW.seq (fun N1 hN1 => ?_)
 refine AW.sr envOk (fun N hN => ?_)
 simp -dsimp -implicitDefEqProofs (disch := omega) only [go_sem, undef, reduceAdd, reduceSub, reduceGT, reduceEqDiff, reduceMul, w64, bne_self_eq_false, beq_self_eq_true, Bool.not_true, Bool.not_false]
 refine AC.pure (.of (laws_big_ok bs hb1 )) ?_
 try simp -dsimp -implicitDefEqProofs (disch := omega) only [go_sem, undef, reduceAdd, reduceSub, reduceGT, reduceEqDiff, reduceMul, w64, bne_self_eq_false, beq_self_eq_true, Bool.not_true, Bool.not_false]
 refine hN _ ?_
 try clear hN N
 refine AW.cond rfl (fun h1 => ?_) (fun h1 => ?_)
 ·try simp only [cn] at h1
  refine AW.sr envOk (fun N hN => ?_)
  simp -dsimp -implicitDefEqProofs (disch := omega) only [go_sem, undef, reduceAdd, reduceSub, reduceGT, reduceEqDiff, reduceMul, w64, bne_self_eq_false, beq_self_eq_true, Bool.not_true, Bool.not_false]
  refine hN _ ?_
  try clear hN N
  refine AW.ret ?_
  simp -dsimp -implicitDefEqProofs (disch := omega) only [go_sem, undef, reduceAdd, reduceSub, reduceGT, reduceEqDiff, reduceMul]
  all_goals rfl
 ·try simp only [cn] at h1
  refine AW.skip ?_
  simp only [thn, blk]
  refine hN1 _ ?_
  try clear hN1 N1
  refine AW.sr envOk (fun N hN => ?_)
  simp -dsimp -implicitDefEqProofs (disch := omega) only [go_sem, undef, reduceAdd, reduceSub, reduceGT, reduceEqDiff, reduceMul, w64, bne_self_eq_false, beq_self_eq_true, Bool.not_true, Bool.not_false]
  refine AC.mono2 (AC.frame (spec_DrawReduceLie_p bs hb (by omega) _)) ?_
  rintro m1 H1 r1 hm1 ⟨H0, ⟨p, X, Y, u, x, rfl, hl, h6, hu6, hu8, hx8⟩, hlow, hhigh⟩
  have hru := rl8 hu6 hu8
  have i1 := (impl_ReduceLie_ok p X Y hl u x hru (by omega)).pure
  have i2 := spec_ReduceLie_ok p X Y hl u x hru (by omega)
  have i3 := impl_IsInLie_ok p X Y hl u x hru (by omega)
  by_cases hv : SpnE p X Y u x
  ·skip
   rw [tf_t hv] at i1 i2 i3
   have hr := hv.1.1
   have t := hr.1.tri
   have hu := hv.1.can
   have hx := hv.2.el
   have hM := redL_el t u hx
   have hQ : El p X.length (mulL p X (-1) (redL p X u x)) := mul_el t _ _
   have hD := mix_el (p := p) (pw := X) t 1 1 x (mulL p X (-1) (redL p X u x))
   have hMl := hM.len
   have hNl := hQ.len
   have hDl := hD.len
   have i4 := (impl_NegateLie_ok p X Y hl (redL p X u x) (by omega)).pure
   have i5 := spec_NegateLie_ok p X Y hl (redL p X u x) (by omega)
   rw [tf_t (AllEl.one.2 ⟨hr, hM.is⟩)] at i4 i5
   have i6 := (impl_AddLie_ok p X Y hl x (mulL p X (-1) (redL p X u x)) (by omega) (by omega)).pure
   have i7 := spec_AddLie_ok p X Y hl x (mulL p X (-1) (redL p X u x)) (by omega) (by omega)
   rw [tf_t (AllEl.two.2 ⟨hr, hx.is, hQ.is⟩)] at i6 i7
   have i8 := impl_IsInLie_ok p X Y hl u (mixL p X 1 x 1 (mulL p X (-1) (redL p X u x))) hru (by omega)
   rw [tf_t (show SpnE p X Y u _ from ⟨hv.1, hD.is⟩), tf_t (red_gap t hu hx)] at i8
   have i9 := (impl_ReduceLie_ok p X Y hl u (redL p X u x) hru (by omega)).pure
   rw [tf_t (show SpnE p X Y u _ from ⟨hv.1, hM.is⟩), red_twice t hu hx] at i9
   have i0 := laws_isZero5_ok (redL p X u x) (by omega)
   dsimp only [resL, orE, resB] at i1 i2 i3 i4 i5 i6 i7 i8 i9
   try simp -dsimp -implicitDefEqProofs (disch := omega) only [go_sem, undef, reduceAdd, reduceSub, reduceGT, reduceEqDiff, reduceMul, ring, rows, cubes, w64]
   refine hN _ ?_
   try clear hN N
   refine AW.freezeQ 3 (nx + 1 + 2 + 6) _ rfl (upd_same _ _ _) ?_
   simp -dsimp -implicitDefEqProofs (disch := omega) only [go_sem, undef, reduceAdd, reduceSub, reduceGT, reduceEqDiff, reduceMul]
   refine AW.sr envOk (fun N hN => ?_)
   simp -dsimp -implicitDefEqProofs (disch := omega) only [go_sem, undef, reduceAdd, reduceSub, reduceGT, reduceEqDiff, reduceMul, w64, bne_self_eq_false, beq_self_eq_true, Bool.not_true, Bool.not_false]
   refine AC.pure (.of (i1 )) ?_
   try simp -dsimp -implicitDefEqProofs (disch := omega) only [go_sem, undef, reduceAdd, reduceSub, reduceGT, reduceEqDiff, reduceMul, w64, bne_self_eq_false, beq_self_eq_true, Bool.not_true, Bool.not_false]
   refine hN _ ?_
   try clear hN N
   refine AW.sr envOk (fun N hN => ?_)
   simp -dsimp -implicitDefEqProofs (disch := omega) only [go_sem, undef, reduceAdd, reduceSub, reduceGT, reduceEqDiff, reduceMul, w64, bne_self_eq_false, beq_self_eq_true, Bool.not_true, Bool.not_false]
   refine AC.pure (.of (i2 )) ?_
   try simp -dsimp -implicitDefEqProofs (disch := omega) only [go_sem, undef, reduceAdd, reduceSub, reduceGT, reduceEqDiff, reduceMul, w64, bne_self_eq_false, beq_self_eq_true, Bool.not_true, Bool.not_false]
   refine hN _ ?_
   try clear hN N
   refine AW.sr envOk (fun N hN => ?_)
   simp -dsimp -implicitDefEqProofs (disch := omega) only [go_sem, undef, reduceAdd, reduceSub, reduceGT, reduceEqDiff, reduceMul, w64, bne_self_eq_false, beq_self_eq_true, Bool.not_true, Bool.not_false]
   refine AC.pure (.of (i3 )) ?_
   try simp -dsimp -implicitDefEqProofs (disch := omega) only [go_sem, undef, reduceAdd, reduceSub, reduceGT, reduceEqDiff, reduceMul, w64, bne_self_eq_false, beq_self_eq_true, Bool.not_true, Bool.not_false]
   refine hN _ ?_
   try clear hN N
   refine AW.seq (fun N2 hN2 => ?_)
   refine AW.sr envOk (fun N hN => ?_)
   simp -dsimp -implicitDefEqProofs (disch := omega) only [go_sem, undef, reduceAdd, reduceSub, reduceGT, reduceEqDiff, reduceMul, w64, bne_self_eq_false, beq_self_eq_true, Bool.not_true, Bool.not_false]
   refine AC.pure (.of (laws_likeInts_e (redL p X u x) (by omega) )) ?_
   try simp -dsimp -implicitDefEqProofs (disch := omega) only [go_sem, undef, reduceAdd, reduceSub, reduceGT, reduceEqDiff, reduceMul, w64, bne_self_eq_false, beq_self_eq_true, Bool.not_true, Bool.not_false]
   refine hN _ ?_
   try clear hN N
   refine AW.condF rfl ?_
   refine AW.skip ?_
   simp only [thn, blk]
   refine hN2 _ ?_
   try clear hN2 N2
   refine AW.seq (fun N3 hN3 => ?_)
   refine AW.sr envOk (fun N hN => ?_)
   simp -dsimp -implicitDefEqProofs (disch := omega) only [go_sem, undef, reduceAdd, reduceSub, reduceGT, reduceEqDiff, reduceMul, w64, bne_self_eq_false, beq_self_eq_true, Bool.not_true, Bool.not_false]
   refine hN _ ?_
   try clear hN N
   refine AW.condF rfl ?_
   refine AW.skip ?_
   simp only [thn, blk]
   refine hN3 _ ?_
   try clear hN3 N3
   refine AW.seq (fun N4 hN4 => ?_)
   refine AW.sr envOk (fun N hN => ?_)
   simp -dsimp -implicitDefEqProofs (disch := omega) only [go_sem, undef, reduceAdd, reduceSub, reduceGT, reduceEqDiff, reduceMul, w64, bne_self_eq_false, beq_self_eq_true, Bool.not_true, Bool.not_false]
   refine AC.pure (.of (i0 )) ?_
   try simp -dsimp -implicitDefEqProofs (disch := omega) only [go_sem, undef, reduceAdd, reduceSub, reduceGT, reduceEqDiff, reduceMul, w64, bne_self_eq_false, beq_self_eq_true, Bool.not_true, Bool.not_false]
   refine hN _ ?_
   try clear hN N
   refine AW.condF rfl ?_
   refine AW.skip ?_
   simp only [thn, blk]
   refine hN4 _ ?_
   try clear hN4 N4
   refine AW.sr envOk (fun N hN => ?_)
   simp -dsimp -implicitDefEqProofs (disch := omega) only [go_sem, undef, reduceAdd, reduceSub, reduceGT, reduceEqDiff, reduceMul, w64, bne_self_eq_false, beq_self_eq_true, Bool.not_true, Bool.not_false]
   refine AC.pure (.of (i4 )) ?_
   try simp -dsimp -implicitDefEqProofs (disch := omega) only [go_sem, undef, reduceAdd, reduceSub, reduceGT, reduceEqDiff, reduceMul, w64, bne_self_eq_false, beq_self_eq_true, Bool.not_true, Bool.not_false]
   refine hN _ ?_
   try clear hN N
   refine AW.sr envOk (fun N hN => ?_)
   simp -dsimp -implicitDefEqProofs (disch := omega) only [go_sem, undef, reduceAdd, reduceSub, reduceGT, reduceEqDiff, reduceMul, w64, bne_self_eq_false, beq_self_eq_true, Bool.not_true, Bool.not_false]
   refine AC.pure (.of (i5 )) ?_
   try simp -dsimp -implicitDefEqProofs (disch := omega) only [go_sem, undef, reduceAdd, reduceSub, reduceGT, reduceEqDiff, reduceMul, w64, bne_self_eq_false, beq_self_eq_true, Bool.not_true, Bool.not_false]
   refine hN _ ?_
   try clear hN N
   refine AW.sr envOk (fun N hN => ?_)
   simp -dsimp -implicitDefEqProofs (disch := omega) only [go_sem, undef, reduceAdd, reduceSub, reduceGT, reduceEqDiff, reduceMul, w64, bne_self_eq_false, beq_self_eq_true, Bool.not_true, Bool.not_false]
   refine AC.pure (.of (i6 )) ?_
   try simp -dsimp -implicitDefEqProofs (disch := omega) only [go_sem, undef, reduceAdd, reduceSub, reduceGT, reduceEqDiff, reduceMul, w64, bne_self_eq_false, beq_self_eq_true, Bool.not_true, Bool.not_false]
   refine hN _ ?_
   try clear hN N
   refine AW.sr envOk (fun N hN => ?_)
   simp -dsimp -implicitDefEqProofs (disch := omega) only [go_sem, undef, reduceAdd, reduceSub, reduceGT, reduceEqDiff, reduceMul, w64, bne_self_eq_false, beq_self_eq_true, Bool.not_true, Bool.not_false]
   refine AC.pure (.of (i7 )) ?_
   try simp -dsimp -implicitDefEqProofs (disch := omega) only [go_sem, undef, reduceAdd, reduceSub, reduceGT, reduceEqDiff, reduceMul, w64, bne_self_eq_false, beq_self_eq_true, Bool.not_true, Bool.not_false]
   refine hN _ ?_
   try clear hN N
   refine AW.seq (fun N5 hN5 => ?_)
   refine AW.sr envOk (fun N hN => ?_)
   simp -dsimp -implicitDefEqProofs (disch := omega) only [go_sem, undef, reduceAdd, reduceSub, reduceGT, reduceEqDiff, reduceMul, w64, bne_self_eq_false, beq_self_eq_true, Bool.not_true, Bool.not_false]
   refine AC.pure (.of (laws_likeInts_e (mulL p X (-1) (redL p X u x)) (by omega) )) ?_
   try simp -dsimp -implicitDefEqProofs (disch := omega) only [go_sem, undef, reduceAdd, reduceSub, reduceGT, reduceEqDiff, reduceMul, w64, bne_self_eq_false, beq_self_eq_true, Bool.not_true, Bool.not_false]
   refine AC.pure (.of (laws_likeInts_e (mixL p X 1 x 1 (mulL p X (-1) (redL p X u x))) (by omega) )) ?_
   try simp -dsimp -implicitDefEqProofs (disch := omega) only [go_sem, undef, reduceAdd, reduceSub, reduceGT, reduceEqDiff, reduceMul, w64, bne_self_eq_false, beq_self_eq_true, Bool.not_true, Bool.not_false]
   refine hN _ ?_
   try clear hN N
   refine AW.condF rfl ?_
   refine AW.skip ?_
   simp only [thn, blk]
   refine hN5 _ ?_
   try clear hN5 N5
   refine AW.sr envOk (fun N hN => ?_)
   simp -dsimp -implicitDefEqProofs (disch := omega) only [go_sem, undef, reduceAdd, reduceSub, reduceGT, reduceEqDiff, reduceMul, w64, bne_self_eq_false, beq_self_eq_true, Bool.not_true, Bool.not_false]
   refine AC.pure (.of (i8 )) ?_
   try simp -dsimp -implicitDefEqProofs (disch := omega) only [go_sem, undef, reduceAdd, reduceSub, reduceGT, reduceEqDiff, reduceMul, w64, bne_self_eq_false, beq_self_eq_true, Bool.not_true, Bool.not_false]
   refine hN _ ?_
   try clear hN N
   refine AW.sr envOk (fun N hN => ?_)
   simp -dsimp -implicitDefEqProofs (disch := omega) only [go_sem, undef, reduceAdd, reduceSub, reduceGT, reduceEqDiff, reduceMul, w64, bne_self_eq_false, beq_self_eq_true, Bool.not_true, Bool.not_false]
   refine AC.pure (.of (i9 )) ?_
   try simp -dsimp -implicitDefEqProofs (disch := omega) only [go_sem, undef, reduceAdd, reduceSub, reduceGT, reduceEqDiff, reduceMul, w64, bne_self_eq_false, beq_self_eq_true, Bool.not_true, Bool.not_false]
   refine hN _ ?_
   try clear hN N
   refine AW.sr envOk (fun N hN => ?_)
   simp -dsimp -implicitDefEqProofs (disch := omega) only [go_sem, undef, reduceAdd, reduceSub, reduceGT, reduceEqDiff, reduceMul, w64, bne_self_eq_false, beq_self_eq_true, Bool.not_true, Bool.not_false]
   refine AC.pure (.of (laws_likeInts_e (redL p X u x) (by omega) )) ?_
   try simp -dsimp -implicitDefEqProofs (disch := omega) only [go_sem, undef, reduceAdd, reduceSub, reduceGT, reduceEqDiff, reduceMul, w64, bne_self_eq_false, beq_self_eq_true, Bool.not_true, Bool.not_false]
   refine hN _ ?_
   try clear hN N
   refine AW.ret ?_
   simp -dsimp -implicitDefEqProofs (disch := omega) only [go_sem, undef, reduceAdd, reduceSub, reduceGT, reduceEqDiff, reduceMul]
   all_goals rfl
  ·skip
   rw [tf_f hv] at i1 i2 i3
   dsimp only [resL, orE, resB] at i1 i2 i3
   try simp -dsimp -implicitDefEqProofs (disch := omega) only [go_sem, undef, reduceAdd, reduceSub, reduceGT, reduceEqDiff, reduceMul, ring, rows, cubes, w64]
   refine hN _ ?_
   try clear hN N
   refine AW.freezeQ 3 (nx + 1 + 2 + 6) _ rfl (upd_same _ _ _) ?_
   simp -dsimp -implicitDefEqProofs (disch := omega) only [go_sem, undef, reduceAdd, reduceSub, reduceGT, reduceEqDiff, reduceMul]
   refine AW.sr envOk (fun N hN => ?_)
   simp -dsimp -implicitDefEqProofs (disch := omega) only [go_sem, undef, reduceAdd, reduceSub, reduceGT, reduceEqDiff, reduceMul, w64, bne_self_eq_false, beq_self_eq_true, Bool.not_true, Bool.not_false]
   refine AC.pure (.of (i1 )) ?_
   try simp -dsimp -implicitDefEqProofs (disch := omega) only [go_sem, undef, reduceAdd, reduceSub, reduceGT, reduceEqDiff, reduceMul, w64, bne_self_eq_false, beq_self_eq_true, Bool.not_true, Bool.not_false]
   refine hN _ ?_
   try clear hN N
   refine AW.sr envOk (fun N hN => ?_)
   simp -dsimp -implicitDefEqProofs (disch := omega) only [go_sem, undef, reduceAdd, reduceSub, reduceGT, reduceEqDiff, reduceMul, w64, bne_self_eq_false, beq_self_eq_true, Bool.not_true, Bool.not_false]
   refine AC.pure (.of (i2 )) ?_
   try simp -dsimp -implicitDefEqProofs (disch := omega) only [go_sem, undef, reduceAdd, reduceSub, reduceGT, reduceEqDiff, reduceMul, w64, bne_self_eq_false, beq_self_eq_true, Bool.not_true, Bool.not_false]
   refine hN _ ?_
   try clear hN N
   refine AW.sr envOk (fun N hN => ?_)
   simp -dsimp -implicitDefEqProofs (disch := omega) only [go_sem, undef, reduceAdd, reduceSub, reduceGT, reduceEqDiff, reduceMul, w64, bne_self_eq_false, beq_self_eq_true, Bool.not_true, Bool.not_false]
   refine AC.pure (.of (i3 )) ?_
   try simp -dsimp -implicitDefEqProofs (disch := omega) only [go_sem, undef, reduceAdd, reduceSub, reduceGT, reduceEqDiff, reduceMul, w64, bne_self_eq_false, beq_self_eq_true, Bool.not_true, Bool.not_false]
   refine hN _ ?_
   try clear hN N
   refine AW.seq (fun N6 hN6 => ?_)
   refine AW.sr envOk (fun N hN => ?_)
   simp -dsimp -implicitDefEqProofs (disch := omega) only [go_sem, undef, reduceAdd, reduceSub, reduceGT, reduceEqDiff, reduceMul, w64, bne_self_eq_false, beq_self_eq_true, Bool.not_true, Bool.not_false]
   refine AC.pure (.of (laws_likeInts_e [] (by simp) )) ?_
   try simp -dsimp -implicitDefEqProofs (disch := omega) only [go_sem, undef, reduceAdd, reduceSub, reduceGT, reduceEqDiff, reduceMul, w64, bne_self_eq_false, beq_self_eq_true, Bool.not_true, Bool.not_false]
   refine hN _ ?_
   try clear hN N
   refine AW.condF rfl ?_
   refine AW.skip ?_
   simp only [thn, blk]
   refine hN6 _ ?_
   try clear hN6 N6
   refine AW.seq (fun N7 hN7 => ?_)
   refine AW.sr envOk (fun N hN => ?_)
   simp -dsimp -implicitDefEqProofs (disch := omega) only [go_sem, undef, reduceAdd, reduceSub, reduceGT, reduceEqDiff, reduceMul, w64, bne_self_eq_false, beq_self_eq_true, Bool.not_true, Bool.not_false]
   refine hN _ ?_
   try clear hN N
   refine AW.condT rfl ?_
   refine AW.sr envOk (fun N hN => ?_)
   simp -dsimp -implicitDefEqProofs (disch := omega) only [go_sem, undef, reduceAdd, reduceSub, reduceGT, reduceEqDiff, reduceMul, w64, bne_self_eq_false, beq_self_eq_true, Bool.not_true, Bool.not_false]
   refine hN _ ?_
   try clear hN N
   refine AW.ret ?_
   simp -dsimp -implicitDefEqProofs (disch := omega) only [go_sem, undef, reduceAdd, reduceSub, reduceGT, reduceEqDiff, reduceMul]
   all_goals rfl
end Go.Proofs.Ytdghgmgppecncaa
