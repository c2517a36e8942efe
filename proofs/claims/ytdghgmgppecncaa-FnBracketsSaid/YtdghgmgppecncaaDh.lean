/-
  The law FnLieFaults: it answers true, whatever it is given.
-/
import Derived.Test.YtdghgmgppecncaaDg
import Derived.Test.YtdghgmgppecncaaNg
set_option linter.unusedVariables false
set_option linter.unusedSimpArgs false
namespace Go.Proofs.Ytdghgmgppecncaa
open Nat (reduceAdd reduceSub reduceGT reduceEqDiff reduceMul)

theorem FzH.refl {H : HP} : FzH H H := fun id cs' h => ⟨cs', h, rfl, fun k x y h1 h2 => by rw [h1] at h2; cases h2; exact .refl _⟩
theorem nil_fz {H H' : HP} : Fz H H' (.g [.i .i64 3, .nl, .nl]) (ring 3 [] []) := .g _ _ rfl fun k x y hx hy => by
  match k, hx, hy with
  | 0, hx, hy => cases hx; cases hy; exact .refl _
  | 1, hx, hy => cases hx; cases hy; exact .nl
  | 2, hx, hy => cases hx; cases hy; exact .nl
/-- A ring handed out as data. -/
def ringK : Nat → HP → AV → Prop := fun _ _ r => ∃ p X Y, r = ring p X Y ∧ ringlen X Y ∧ X.length ≤ 6
theorem spec_l31Broken_p (bs : List Int) (hb : bytsok bs) (hb4 : bs.length ≤ 4096) (nx : Nat) : AC Try.prog 116 nx noH [byts bs] ringK :=
  (spec_l31Broken_o bs hb hb4 nx).frz fun nx' H' r h => by
    rcases h with ⟨o, n, p, P, q, X, Y, ho, hn, rfl, hV⟩ | rfl
    · obtain ⟨H2, g1, g2, g3⟩ := hV.fz (p := p) (o := o)
      exact ⟨H2, _, g1, g2, p, X, _, rfl, hV.rl hn.2, by rw [hV.xl]; exact hn.2⟩
    · exact ⟨H', _, FzH.refl, nil_fz, 3, [], [], rfl, ⟨by simp, by simp, by simp, by simp, by simp⟩, by simp⟩
theorem spec_DrawFirstLieFault_p (bs : List Int) (hb : bytsok bs) (hb4 : bs.length ≤ 4096) (nx : Nat) : AC Try.prog 36 nx noH [byts bs] ringK := by
 refine AC.introx envOk Try.func36 rfl (by kernel_rfl) Try.ntmps36 Try.results36 (fun hfr => ?_)
 refine AW.sr envOk (fun N hN => ?_)
 simp -dsimp -implicitDefEqProofs (disch := omega) only [go_sem, undef, reduceAdd, reduceSub, reduceGT, reduceEqDiff, reduceMul, ring, rows, cubes]
 refine hN _ ?_
 try clear hN N
 refine AW.sr envOk (fun N hN => ?_)
 simp -dsimp -implicitDefEqProofs (disch := omega) only [go_sem, undef, reduceAdd, reduceSub, reduceGT, reduceEqDiff, reduceMul, ring, rows, cubes]
 refine AC.mono2 (AC.frame (spec_l31Broken_p bs hb hb4 _)) ?_
 rintro m1 H1 r1 hm1 ⟨H0, ⟨p, X, Y, rfl, hl, h6⟩, hlow, hhigh⟩
 have h01 : H1 nx = some [.i .i64 0, .nl, .nl] := (hlow nx (by omega)).trans (upd_same _ _ _)
 try simp -dsimp -implicitDefEqProofs (disch := omega) only [go_sem, undef, reduceAdd, reduceSub, reduceGT, reduceEqDiff, reduceMul, ring, rows, cubes, h01]
 refine hN _ ?_
 try clear hN N
 refine AW.ret ?_
 simp -dsimp -implicitDefEqProofs (disch := omega) only [go_sem, undef, reduceAdd, reduceSub, reduceGT, reduceEqDiff, reduceMul]
 exact ⟨_, fun _ _ h => h, p, X, Y, rfl, hl, h6⟩

theorem laws_big_ok (bs : List Int) (hb : bs.length ≤ 9223372036854775807) : ACp Try.prog 35 [byts bs] (.b (decide ((bs.length : Int) > 4096))) := by
 refine ACp.intro' envOk Try.func35 rfl (by kernel_rfl) Try.ntmps35 Try.results35 (.b _) (fun nx => ?_)
 refine AW.sr envOk (fun N hN => ?_)
 simp -dsimp -implicitDefEqProofs (disch := omega) only [go_sem, undef, reduceAdd, reduceSub, reduceGT, reduceEqDiff, reduceMul, byts, w64]
 refine hN _ ?_
 try clear hN N
 refine AW.sr envOk (fun N hN => ?_)
 simp -dsimp -implicitDefEqProofs (disch := omega) only [go_sem, undef, reduceAdd, reduceSub, reduceGT, reduceEqDiff, reduceMul, byts, w64]
 refine hN _ ?_
 try clear hN N
 refine AW.ret ?_
 simp -dsimp -implicitDefEqProofs (disch := omega) only [go_sem, undef, reduceAdd, reduceSub, reduceGT, reduceEqDiff, reduceMul]
 try rfl

/-- What is told of a ring by its first fault. -/
theorem fault_facts {p : Int} {X : List (List Int)} {Y : List (List (List Int))} (hl : ringlen X Y) (hs : shapeP p X Y) : ∃ k i j c : Int, ACp Try.prog 37 [ring p X Y] (.t [.i .i64 k, .i .i64 i, .i .i64 j, .i .i64 c, .i .i64 0]) ∧ ACp Try.prog 38 [ring p X Y] (.t [.i .i64 k, .i .i64 i, .i .i64 j, .i .i64 c, .i .i64 0]) ∧ ACp Try.prog 39 [ring p X Y] (.b (k == 0)) ∧
    (k = 0 ∨ (k = 1 ∧ 0 ≤ i ∧ i < X.length ∧ 0 ≤ j ∧ j < X.length) ∨ (k = 2 ∧ i < j ∧ j < c ∧ c < X.length)) := by
  obtain ⟨t, ht⟩ := Flt.ex X.length (pf p X Y) (jf p X Y)
  have h1 := impl_FirstLieFault_ok p X Y hl t (fun _ => ht)
  have h2 := spec_FirstLieFault_ok p X Y hl t (fun _ => ht)
  have h3 := impl_IsLieRing_ok p X Y hl
  rw [tf_t hs] at h1 h2
  have e : tf (LieR p X Y) = (t.1 == 0) := by
    by_cases h0 : t.1 = 0
    · rw [tf_t ⟨hs, ht.zero.1 h0⟩, h0]; rfl
    · rw [tf_f (fun q => h0 (ht.zero.2 q.2))]
      simp [h0]
  rw [e] at h3
  refine ⟨t.1, t.2.1, t.2.2.1, t.2.2.2, h1, h2, h3, ?_⟩
  rcases ht with ⟨a, b, rfl, ha, hb, _⟩ | ⟨_, ⟨a, b, c, rfl, h4, h5, h6, _⟩ | ⟨rfl, _⟩⟩ <;> dsimp only <;> omega
theorem fault_none {p : Int} {X : List (List Int)} {Y : List (List (List Int))} (hl : ringlen X Y) (hs : ¬shapeP p X Y) : ACp Try.prog 37 [ring p X Y] (.t [.i .i64 0, .i .i64 0, .i .i64 0, .i .i64 0, .i .i64 1]) ∧ ACp Try.prog 38 [ring p X Y] (.t [.i .i64 0, .i .i64 0, .i .i64 0, .i .i64 0, .i .i64 1]) ∧ ACp Try.prog 39 [ring p X Y] (.b false) := by
  have h1 := impl_FirstLieFault_ok p X Y hl (0, 0, 0, 0) (fun q => absurd q hs)
  have h2 := spec_FirstLieFault_ok p X Y hl (0, 0, 0, 0) (fun q => absurd q hs)
  have h3 := impl_IsLieRing_ok p X Y hl
  rw [tf_f hs] at h1 h2
  rw [tf_f (fun q => hs q.1)] at h3
  exact ⟨h1, h2, h3⟩
set_option maxRecDepth 100000 in
set_option maxHeartbeats 4000000 in
theorem law_FnLieFaults (bs : List Int) (hb : bytsok bs) : ACp Try.prog 7 [byts bs] (.b true) := by
 have hb1 := hb.1
 refine ACp.intro' envOk Try.func7 rfl (by kernel_rfl) Try.ntmps7 Try.results7 (.b _) (fun nx => ?_)
 refine AW.sr envOk (fun N hN => ?_)
 simp -dsimp -implicitDefEqProofs (disch := omega) only [go_sem, undef, reduceAdd, reduceSub, reduceGT, reduceEqDiff, reduceMul, w64]
 refine hN _ ?_
 try clear hN N
 refine AW.seq (fun N1 hN1 => ?_)
 refine AW.sr envOk (fun N hN => ?_)
 simp -dsimp -implicitDefEqProofs (disch := omega) only [go_sem, undef, reduceAdd, reduceSub, reduceGT, reduceEqDiff, reduceMul, w64]
 refine AC.pure (.of (laws_big_ok bs hb1 )) ?_
 try simp -dsimp -implicitDefEqProofs (disch := omega) only [go_sem, undef, reduceAdd, reduceSub, reduceGT, reduceEqDiff, reduceMul, w64]
 refine hN _ ?_
 try clear hN N
 refine AW.cond rfl (fun h1 => ?_) (fun h1 => ?_)
 ·try simp only [cn] at h1
  refine AW.sr envOk (fun N hN => ?_)
  simp -dsimp -implicitDefEqProofs (disch := omega) only [go_sem, undef, reduceAdd, reduceSub, reduceGT, reduceEqDiff, reduceMul, w64]
  refine hN _ ?_
  try clear hN N
  refine AW.ret ?_
  simp -dsimp -implicitDefEqProofs (disch := omega) only [go_sem, undef, reduceAdd, reduceSub, reduceGT, reduceEqDiff, reduceMul]
  all_goals first| rfl| (exfalso; omega)| (exfalso; simp_all; done)| (exfalso; simp_all; omega)| exact bt (by simp; omega)
 ·try simp only [cn] at h1
  refine AW.skip ?_
  simp only [thn, blk]
  refine hN1 _ ?_
  try clear hN1 N1
  refine AW.sr envOk (fun N hN => ?_)
  simp -dsimp -implicitDefEqProofs (disch := omega) only [go_sem, undef, reduceAdd, reduceSub, reduceGT, reduceEqDiff, reduceMul, w64]
  refine AC.mono2 (AC.frame (spec_DrawFirstLieFault_p bs hb (by omega) _)) ?_
  rintro m1 H1 r1 hm1 ⟨H0, ⟨p, X, Y, rfl, hl, h6⟩, hlow, hhigh⟩
  have hls := impl_IsLieShape_ok p X Y hl
  by_cases hs : shapeP p X Y
  ·skip
   obtain ⟨fk, fi, fj, fc, hf1, hf2, hf3, hf4⟩ := fault_facts hl hs
   rw [tf_t hs] at hls
   obtain ⟨bsh, hbs⟩ : ∃ b, b = true := ⟨_, rfl⟩
   rw [← hbs] at hls
   try simp -dsimp -implicitDefEqProofs (disch := omega) only [go_sem, undef, reduceAdd, reduceSub, reduceGT, reduceEqDiff, reduceMul, ring, rows, cubes, w64]
   refine hN _ ?_
   try clear hN N
   refine AW.freezeQ 3 (nx + 1 + 2 + 2) _ rfl (upd_same _ _ _) ?_
   simp -dsimp -implicitDefEqProofs (disch := omega) only [go_sem, undef, reduceAdd, reduceSub, reduceGT, reduceEqDiff, reduceMul]
   refine AW.sr envOk (fun N hN => ?_)
   simp -dsimp -implicitDefEqProofs (disch := omega) only [go_sem, undef, reduceAdd, reduceSub, reduceGT, reduceEqDiff, reduceMul, w64]
   refine AC.pure (.of (hf1 )) ?_
   try simp -dsimp -implicitDefEqProofs (disch := omega) only [go_sem, undef, reduceAdd, reduceSub, reduceGT, reduceEqDiff, reduceMul, w64]
   refine hN _ ?_
   try clear hN N
   refine AW.sr envOk (fun N hN => ?_)
   simp -dsimp -implicitDefEqProofs (disch := omega) only [go_sem, undef, reduceAdd, reduceSub, reduceGT, reduceEqDiff, reduceMul, w64]
   refine AC.pure (.of (hf2 )) ?_
   try simp -dsimp -implicitDefEqProofs (disch := omega) only [go_sem, undef, reduceAdd, reduceSub, reduceGT, reduceEqDiff, reduceMul, w64]
   refine hN _ ?_
   try clear hN N
   refine AW.seq (fun N2 hN2 => ?_)
   refine AW.sr envOk (fun N hN => ?_)
   simp -dsimp -implicitDefEqProofs (disch := omega) only [go_sem, undef, reduceAdd, reduceSub, reduceGT, reduceEqDiff, reduceMul, w64]
   refine gopB.mk' (fun h2 => ?_) (fun h2 => ?_)
   ·try simp only [cn] at h2
    try simp -dsimp -implicitDefEqProofs (disch := omega) only [go_sem, undef, reduceAdd, reduceSub, reduceGT, reduceEqDiff, reduceMul, w64]
    refine gopB.mk' (fun h3 => ?_) (fun h3 => ?_)
    ·try simp only [cn] at h3
     try simp -dsimp -implicitDefEqProofs (disch := omega) only [go_sem, undef, reduceAdd, reduceSub, reduceGT, reduceEqDiff, reduceMul, w64]
     refine gopB.mk' (fun h4 => ?_) (fun h4 => ?_)
     ·try simp only [cn] at h4
      try simp -dsimp -implicitDefEqProofs (disch := omega) only [go_sem, undef, reduceAdd, reduceSub, reduceGT, reduceEqDiff, reduceMul, w64]
      refine gopB.mk' (fun h5 => ?_) (fun h5 => ?_)
      ·try simp only [cn] at h5
       try simp -dsimp -implicitDefEqProofs (disch := omega) only [go_sem, undef, reduceAdd, reduceSub, reduceGT, reduceEqDiff, reduceMul, w64]
       refine hN _ ?_
       try clear hN N
       refine AW.cond rfl (fun h6 => ?_) (fun h6 => ?_)
       ·try simp only [cn] at h6
        refine AW.sr envOk (fun N hN => ?_)
        simp -dsimp -implicitDefEqProofs (disch := omega) only [go_sem, undef, reduceAdd, reduceSub, reduceGT, reduceEqDiff, reduceMul, w64]
        refine hN _ ?_
        try clear hN N
        refine AW.ret ?_
        simp -dsimp -implicitDefEqProofs (disch := omega) only [go_sem, undef, reduceAdd, reduceSub, reduceGT, reduceEqDiff, reduceMul]
        all_goals first| rfl| (exfalso; omega)| (exfalso; simp_all; done)| (exfalso; simp_all; omega)| exact bt (by simp; omega)
       ·try simp only [cn] at h6
        refine AW.skip ?_
        simp only [thn, blk]
        refine hN2 _ ?_
        try clear hN2 N2
        refine AW.sr envOk (fun N hN => ?_)
        simp -dsimp -implicitDefEqProofs (disch := omega) only [go_sem, undef, reduceAdd, reduceSub, reduceGT, reduceEqDiff, reduceMul, w64]
        refine AC.pure (.of (hf3 )) ?_
        try simp -dsimp -implicitDefEqProofs (disch := omega) only [go_sem, undef, reduceAdd, reduceSub, reduceGT, reduceEqDiff, reduceMul, w64]
        refine hN _ ?_
        try clear hN N
        refine AW.seq (fun N3 hN3 => ?_)
        refine AW.sr envOk (fun N hN => ?_)
        simp -dsimp -implicitDefEqProofs (disch := omega) only [go_sem, undef, reduceAdd, reduceSub, reduceGT, reduceEqDiff, reduceMul, w64]
        refine hN _ ?_
        try clear hN N
        refine AW.cond rfl (fun h7 => ?_) (fun h7 => ?_)
        ·try simp only [cn] at h7
         refine AW.sr envOk (fun N hN => ?_)
         simp -dsimp -implicitDefEqProofs (disch := omega) only [go_sem, undef, reduceAdd, reduceSub, reduceGT, reduceEqDiff, reduceMul, w64]
         refine gopB.mk' (fun h8 => ?_) (fun h8 => ?_)
         ·try simp only [cn] at h8
          try simp -dsimp -implicitDefEqProofs (disch := omega) only [go_sem, undef, reduceAdd, reduceSub, reduceGT, reduceEqDiff, reduceMul, w64]
          refine AC.pure (.of (hls )) ?_
          try simp -dsimp -implicitDefEqProofs (disch := omega) only [go_sem, undef, reduceAdd, reduceSub, reduceGT, reduceEqDiff, reduceMul, w64]
          refine hN _ ?_
          try clear hN N
          refine AW.ret ?_
          simp -dsimp -implicitDefEqProofs (disch := omega) only [go_sem, undef, reduceAdd, reduceSub, reduceGT, reduceEqDiff, reduceMul]
          all_goals first| rfl| (exfalso; omega)| (exfalso; simp_all; done)| (exfalso; simp_all; omega)| exact bt (by simp; omega)
         ·try simp only [cn] at h8
          try simp -dsimp -implicitDefEqProofs (disch := omega) only [go_sem, undef, reduceAdd, reduceSub, reduceGT, reduceEqDiff, reduceMul, w64]
          refine hN _ ?_
          try clear hN N
          refine AW.ret ?_
          simp -dsimp -implicitDefEqProofs (disch := omega) only [go_sem, undef, reduceAdd, reduceSub, reduceGT, reduceEqDiff, reduceMul]
          all_goals first| rfl| (exfalso; omega)| (exfalso; simp_all; done)| (exfalso; simp_all; omega)| exact bt (by simp; omega)
        ·try simp only [cn] at h7
         refine AW.skip ?_
         simp only [thn, blk]
         refine hN3 _ ?_
         try clear hN3 N3
         refine AW.sr envOk (fun N hN => ?_)
         simp -dsimp -implicitDefEqProofs (disch := omega) only [go_sem, undef, reduceAdd, reduceSub, reduceGT, reduceEqDiff, reduceMul, w64]
         refine hN _ ?_
         try clear hN N
         refine AW.sr envOk (fun N hN => ?_)
         simp -dsimp -implicitDefEqProofs (disch := omega) only [go_sem, undef, reduceAdd, reduceSub, reduceGT, reduceEqDiff, reduceMul, w64]
         refine AC.pure (.of (hls )) ?_
         try simp -dsimp -implicitDefEqProofs (disch := omega) only [go_sem, undef, reduceAdd, reduceSub, reduceGT, reduceEqDiff, reduceMul, w64]
         refine gopB.mk' (fun h9 => ?_) (fun h9 => ?_)
         ·try simp only [cn] at h9
          try simp -dsimp -implicitDefEqProofs (disch := omega) only [go_sem, undef, reduceAdd, reduceSub, reduceGT, reduceEqDiff, reduceMul, w64]
          refine gopB.mk' (fun h10 => ?_) (fun h10 => ?_)
          ·try simp only [cn] at h10
           try simp -dsimp -implicitDefEqProofs (disch := omega) only [go_sem, undef, reduceAdd, reduceSub, reduceGT, reduceEqDiff, reduceMul, w64]
           refine gopB.mk' (fun h11 => ?_) (fun h11 => ?_)
           ·try simp only [cn] at h11
            try simp -dsimp -implicitDefEqProofs (disch := omega) only [go_sem, undef, reduceAdd, reduceSub, reduceGT, reduceEqDiff, reduceMul, w64]
            refine gopB.mk' (fun h12 => ?_) (fun h12 => ?_)
            ·try simp only [cn] at h12
             try simp -dsimp -implicitDefEqProofs (disch := omega) only [go_sem, undef, reduceAdd, reduceSub, reduceGT, reduceEqDiff, reduceMul, w64]
             refine gopB.mk' (fun h13 => ?_) (fun h13 => ?_)
             ·try simp only [cn] at h13
              try simp -dsimp -implicitDefEqProofs (disch := omega) only [go_sem, undef, reduceAdd, reduceSub, reduceGT, reduceEqDiff, reduceMul, w64]
              refine gopB.mk' (fun h14 => ?_) (fun h14 => ?_)
              ·try simp only [cn] at h14
               try simp -dsimp -implicitDefEqProofs (disch := omega) only [go_sem, undef, reduceAdd, reduceSub, reduceGT, reduceEqDiff, reduceMul, w64]
               refine gopB.mk' (fun h15 => ?_) (fun h15 => ?_)
               ·try simp only [cn] at h15
                try simp -dsimp -implicitDefEqProofs (disch := omega) only [go_sem, undef, reduceAdd, reduceSub, reduceGT, reduceEqDiff, reduceMul, w64]
                refine gopB.mk' (fun h16 => ?_) (fun h16 => ?_)
                ·try simp only [cn] at h16
                 try simp -dsimp -implicitDefEqProofs (disch := omega) only [go_sem, undef, reduceAdd, reduceSub, reduceGT, reduceEqDiff, reduceMul, w64]
                 refine gopB.mk' (fun h17 => ?_) (fun h17 => ?_)
                 ·try simp only [cn] at h17
                  try simp -dsimp -implicitDefEqProofs (disch := omega) only [go_sem, undef, reduceAdd, reduceSub, reduceGT, reduceEqDiff, reduceMul, w64]
                  refine gopB.mk' (fun h18 => ?_) (fun h18 => ?_)
                  ·try simp only [cn] at h18
                   try simp -dsimp -implicitDefEqProofs (disch := omega) only [go_sem, undef, reduceAdd, reduceSub, reduceGT, reduceEqDiff, reduceMul, w64]
                   refine hN _ ?_
                   try clear hN N
                   refine AW.ret ?_
                   simp -dsimp -implicitDefEqProofs (disch := omega) only [go_sem, undef, reduceAdd, reduceSub, reduceGT, reduceEqDiff, reduceMul]
                   all_goals first| rfl| (exfalso; omega)| (exfalso; simp_all; done)| (exfalso; simp_all; omega)| exact bt (by simp; omega)
                  ·try simp only [cn] at h18
                   try simp -dsimp -implicitDefEqProofs (disch := omega) only [go_sem, undef, reduceAdd, reduceSub, reduceGT, reduceEqDiff, reduceMul, w64]
                   refine hN _ ?_
                   try clear hN N
                   refine AW.ret ?_
                   simp -dsimp -implicitDefEqProofs (disch := omega) only [go_sem, undef, reduceAdd, reduceSub, reduceGT, reduceEqDiff, reduceMul]
                   all_goals first| rfl| (exfalso; omega)| (exfalso; simp_all; done)| (exfalso; simp_all; omega)| exact bt (by simp; omega)
                 ·try simp only [cn] at h17
                  try simp -dsimp -implicitDefEqProofs (disch := omega) only [go_sem, undef, reduceAdd, reduceSub, reduceGT, reduceEqDiff, reduceMul, w64]
                  refine hN _ ?_
                  try clear hN N
                  refine AW.ret ?_
                  simp -dsimp -implicitDefEqProofs (disch := omega) only [go_sem, undef, reduceAdd, reduceSub, reduceGT, reduceEqDiff, reduceMul]
                  all_goals first| rfl| (exfalso; omega)| (exfalso; simp_all; done)| (exfalso; simp_all; omega)| exact bt (by simp; omega)
                ·try simp only [cn] at h16
                 try simp -dsimp -implicitDefEqProofs (disch := omega) only [go_sem, undef, reduceAdd, reduceSub, reduceGT, reduceEqDiff, reduceMul, w64]
                 refine hN _ ?_
                 try clear hN N
                 refine AW.ret ?_
                 simp -dsimp -implicitDefEqProofs (disch := omega) only [go_sem, undef, reduceAdd, reduceSub, reduceGT, reduceEqDiff, reduceMul]
                 all_goals first| rfl| (exfalso; omega)| (exfalso; simp_all; done)| (exfalso; simp_all; omega)| exact bt (by simp; omega)
               ·try simp only [cn] at h15
                try simp -dsimp -implicitDefEqProofs (disch := omega) only [go_sem, undef, reduceAdd, reduceSub, reduceGT, reduceEqDiff, reduceMul, w64]
                refine hN _ ?_
                try clear hN N
                refine AW.ret ?_
                simp -dsimp -implicitDefEqProofs (disch := omega) only [go_sem, undef, reduceAdd, reduceSub, reduceGT, reduceEqDiff, reduceMul]
                all_goals first| rfl| (exfalso; omega)| (exfalso; simp_all; done)| (exfalso; simp_all; omega)| exact bt (by simp; omega)
              ·try simp only [cn] at h14
               try simp -dsimp -implicitDefEqProofs (disch := omega) only [go_sem, undef, reduceAdd, reduceSub, reduceGT, reduceEqDiff, reduceMul, w64]
               refine hN _ ?_
               try clear hN N
               refine AW.ret ?_
               simp -dsimp -implicitDefEqProofs (disch := omega) only [go_sem, undef, reduceAdd, reduceSub, reduceGT, reduceEqDiff, reduceMul]
               all_goals first| rfl| (exfalso; omega)| (exfalso; simp_all; done)| (exfalso; simp_all; omega)| exact bt (by simp; omega)
             ·try simp only [cn] at h13
              try simp -dsimp -implicitDefEqProofs (disch := omega) only [go_sem, undef, reduceAdd, reduceSub, reduceGT, reduceEqDiff, reduceMul, w64]
              refine hN _ ?_
              try clear hN N
              refine AW.ret ?_
              simp -dsimp -implicitDefEqProofs (disch := omega) only [go_sem, undef, reduceAdd, reduceSub, reduceGT, reduceEqDiff, reduceMul]
              all_goals first| rfl| (exfalso; omega)| (exfalso; simp_all; done)| (exfalso; simp_all; omega)| exact bt (by simp; omega)
            ·try simp only [cn] at h12
             try simp -dsimp -implicitDefEqProofs (disch := omega) only [go_sem, undef, reduceAdd, reduceSub, reduceGT, reduceEqDiff, reduceMul, w64]
             refine hN _ ?_
             try clear hN N
             refine AW.ret ?_
             simp -dsimp -implicitDefEqProofs (disch := omega) only [go_sem, undef, reduceAdd, reduceSub, reduceGT, reduceEqDiff, reduceMul]
             all_goals first| rfl| (exfalso; omega)| (exfalso; simp_all; done)| (exfalso; simp_all; omega)| exact bt (by simp; omega)
           ·try simp only [cn] at h11
            try simp -dsimp -implicitDefEqProofs (disch := omega) only [go_sem, undef, reduceAdd, reduceSub, reduceGT, reduceEqDiff, reduceMul, w64]
            refine gopB.mk' (fun h19 => ?_) (fun h19 => ?_)
            ·try simp only [cn] at h19
             try simp -dsimp -implicitDefEqProofs (disch := omega) only [go_sem, undef, reduceAdd, reduceSub, reduceGT, reduceEqDiff, reduceMul, w64]
             refine gopB.mk' (fun h20 => ?_) (fun h20 => ?_)
             ·try simp only [cn] at h20
              try simp -dsimp -implicitDefEqProofs (disch := omega) only [go_sem, undef, reduceAdd, reduceSub, reduceGT, reduceEqDiff, reduceMul, w64]
              refine gopB.mk' (fun h21 => ?_) (fun h21 => ?_)
              ·try simp only [cn] at h21
               try simp -dsimp -implicitDefEqProofs (disch := omega) only [go_sem, undef, reduceAdd, reduceSub, reduceGT, reduceEqDiff, reduceMul, w64]
               refine hN _ ?_
               try clear hN N
               refine AW.ret ?_
               simp -dsimp -implicitDefEqProofs (disch := omega) only [go_sem, undef, reduceAdd, reduceSub, reduceGT, reduceEqDiff, reduceMul]
               all_goals first| rfl| (exfalso; omega)| (exfalso; simp_all; done)| (exfalso; simp_all; omega)| exact bt (by simp; omega)
              ·try simp only [cn] at h21
               try simp -dsimp -implicitDefEqProofs (disch := omega) only [go_sem, undef, reduceAdd, reduceSub, reduceGT, reduceEqDiff, reduceMul, w64]
               refine hN _ ?_
               try clear hN N
               refine AW.ret ?_
               simp -dsimp -implicitDefEqProofs (disch := omega) only [go_sem, undef, reduceAdd, reduceSub, reduceGT, reduceEqDiff, reduceMul]
               all_goals first| rfl| (exfalso; omega)| (exfalso; simp_all; done)| (exfalso; simp_all; omega)| exact bt (by simp; omega)
             ·try simp only [cn] at h20
              try simp -dsimp -implicitDefEqProofs (disch := omega) only [go_sem, undef, reduceAdd, reduceSub, reduceGT, reduceEqDiff, reduceMul, w64]
              refine hN _ ?_
              try clear hN N
              refine AW.ret ?_
              simp -dsimp -implicitDefEqProofs (disch := omega) only [go_sem, undef, reduceAdd, reduceSub, reduceGT, reduceEqDiff, reduceMul]
              all_goals first| rfl| (exfalso; omega)| (exfalso; simp_all; done)| (exfalso; simp_all; omega)| exact bt (by simp; omega)
            ·try simp only [cn] at h19
             try simp -dsimp -implicitDefEqProofs (disch := omega) only [go_sem, undef, reduceAdd, reduceSub, reduceGT, reduceEqDiff, reduceMul, w64]
             refine hN _ ?_
             try clear hN N
             refine AW.ret ?_
             simp -dsimp -implicitDefEqProofs (disch := omega) only [go_sem, undef, reduceAdd, reduceSub, reduceGT, reduceEqDiff, reduceMul]
             all_goals first| rfl| (exfalso; omega)| (exfalso; simp_all; done)| (exfalso; simp_all; omega)| exact bt (by simp; omega)
          ·try simp only [cn] at h10
           try simp -dsimp -implicitDefEqProofs (disch := omega) only [go_sem, undef, reduceAdd, reduceSub, reduceGT, reduceEqDiff, reduceMul, w64]
           refine hN _ ?_
           try clear hN N
           refine AW.ret ?_
           simp -dsimp -implicitDefEqProofs (disch := omega) only [go_sem, undef, reduceAdd, reduceSub, reduceGT, reduceEqDiff, reduceMul]
           all_goals first| rfl| (exfalso; omega)| (exfalso; simp_all; done)| (exfalso; simp_all; omega)| exact bt (by simp; omega)
         ·try simp only [cn] at h9
          try simp -dsimp -implicitDefEqProofs (disch := omega) only [go_sem, undef, reduceAdd, reduceSub, reduceGT, reduceEqDiff, reduceMul, w64]
          refine hN _ ?_
          try clear hN N
          refine AW.ret ?_
          simp -dsimp -implicitDefEqProofs (disch := omega) only [go_sem, undef, reduceAdd, reduceSub, reduceGT, reduceEqDiff, reduceMul]
          all_goals first| rfl| (exfalso; omega)| (exfalso; simp_all; done)| (exfalso; simp_all; omega)| exact bt (by simp; omega)
      ·try simp only [cn] at h5
       try simp -dsimp -implicitDefEqProofs (disch := omega) only [go_sem, undef, reduceAdd, reduceSub, reduceGT, reduceEqDiff, reduceMul, w64]
       refine hN _ ?_
       try clear hN N
       refine AW.condT rfl ?_
       refine AW.sr envOk (fun N hN => ?_)
       simp -dsimp -implicitDefEqProofs (disch := omega) only [go_sem, undef, reduceAdd, reduceSub, reduceGT, reduceEqDiff, reduceMul, w64]
       refine hN _ ?_
       try clear hN N
       refine AW.ret ?_
       simp -dsimp -implicitDefEqProofs (disch := omega) only [go_sem, undef, reduceAdd, reduceSub, reduceGT, reduceEqDiff, reduceMul]
       all_goals first| rfl| (exfalso; omega)| (exfalso; simp_all; done)| (exfalso; simp_all; omega)| exact bt (by simp; omega)
     ·try simp only [cn] at h4
      try simp -dsimp -implicitDefEqProofs (disch := omega) only [go_sem, undef, reduceAdd, reduceSub, reduceGT, reduceEqDiff, reduceMul, w64]
      refine hN _ ?_
      try clear hN N
      refine AW.condT rfl ?_
      refine AW.sr envOk (fun N hN => ?_)
      simp -dsimp -implicitDefEqProofs (disch := omega) only [go_sem, undef, reduceAdd, reduceSub, reduceGT, reduceEqDiff, reduceMul, w64]
      refine hN _ ?_
      try clear hN N
      refine AW.ret ?_
      simp -dsimp -implicitDefEqProofs (disch := omega) only [go_sem, undef, reduceAdd, reduceSub, reduceGT, reduceEqDiff, reduceMul]
      all_goals first| rfl| (exfalso; omega)| (exfalso; simp_all; done)| (exfalso; simp_all; omega)| exact bt (by simp; omega)
    ·try simp only [cn] at h3
     try simp -dsimp -implicitDefEqProofs (disch := omega) only [go_sem, undef, reduceAdd, reduceSub, reduceGT, reduceEqDiff, reduceMul, w64]
     refine hN _ ?_
     try clear hN N
     refine AW.condT rfl ?_
     refine AW.sr envOk (fun N hN => ?_)
     simp -dsimp -implicitDefEqProofs (disch := omega) only [go_sem, undef, reduceAdd, reduceSub, reduceGT, reduceEqDiff, reduceMul, w64]
     refine hN _ ?_
     try clear hN N
     refine AW.ret ?_
     simp -dsimp -implicitDefEqProofs (disch := omega) only [go_sem, undef, reduceAdd, reduceSub, reduceGT, reduceEqDiff, reduceMul]
     all_goals first| rfl| (exfalso; omega)| (exfalso; simp_all; done)| (exfalso; simp_all; omega)| exact bt (by simp; omega)
   ·try simp only [cn] at h2
    try simp -dsimp -implicitDefEqProofs (disch := omega) only [go_sem, undef, reduceAdd, reduceSub, reduceGT, reduceEqDiff, reduceMul, w64]
    refine hN _ ?_
    try clear hN N
    refine AW.condT rfl ?_
    refine AW.sr envOk (fun N hN => ?_)
    simp -dsimp -implicitDefEqProofs (disch := omega) only [go_sem, undef, reduceAdd, reduceSub, reduceGT, reduceEqDiff, reduceMul, w64]
    refine hN _ ?_
    try clear hN N
    refine AW.ret ?_
    simp -dsimp -implicitDefEqProofs (disch := omega) only [go_sem, undef, reduceAdd, reduceSub, reduceGT, reduceEqDiff, reduceMul]
    all_goals first| rfl| (exfalso; omega)| (exfalso; simp_all; done)| (exfalso; simp_all; omega)| exact bt (by simp; omega)
  ·skip
   obtain ⟨hf1, hf2, hf3⟩ := fault_none hl hs
   rw [tf_f hs] at hls
   obtain ⟨bsh, hbs⟩ : ∃ b, b = false := ⟨_, rfl⟩
   rw [← hbs] at hls hf3
   try simp -dsimp -implicitDefEqProofs (disch := omega) only [go_sem, undef, reduceAdd, reduceSub, reduceGT, reduceEqDiff, reduceMul, ring, rows, cubes, w64]
   refine hN _ ?_
   try clear hN N
   refine AW.freezeQ 3 (nx + 1 + 2 + 2) _ rfl (upd_same _ _ _) ?_
   simp -dsimp -implicitDefEqProofs (disch := omega) only [go_sem, undef, reduceAdd, reduceSub, reduceGT, reduceEqDiff, reduceMul]
   refine AW.sr envOk (fun N hN => ?_)
   simp -dsimp -implicitDefEqProofs (disch := omega) only [go_sem, undef, reduceAdd, reduceSub, reduceGT, reduceEqDiff, reduceMul, w64]
   refine AC.pure (.of (hf1 )) ?_
   try simp -dsimp -implicitDefEqProofs (disch := omega) only [go_sem, undef, reduceAdd, reduceSub, reduceGT, reduceEqDiff, reduceMul, w64]
   refine hN _ ?_
   try clear hN N
   refine AW.sr envOk (fun N hN => ?_)
   simp -dsimp -implicitDefEqProofs (disch := omega) only [go_sem, undef, reduceAdd, reduceSub, reduceGT, reduceEqDiff, reduceMul, w64]
   refine AC.pure (.of (hf2 )) ?_
   try simp -dsimp -implicitDefEqProofs (disch := omega) only [go_sem, undef, reduceAdd, reduceSub, reduceGT, reduceEqDiff, reduceMul, w64]
   refine hN _ ?_
   try clear hN N
   refine AW.seq (fun N4 hN4 => ?_)
   refine AW.sr envOk (fun N hN => ?_)
   simp -dsimp -implicitDefEqProofs (disch := omega) only [go_sem, undef, reduceAdd, reduceSub, reduceGT, reduceEqDiff, reduceMul, w64]
   refine gopB.mk' (fun h22 => ?_) (fun h22 => ?_)
   ·try simp only [cn] at h22
    try simp -dsimp -implicitDefEqProofs (disch := omega) only [go_sem, undef, reduceAdd, reduceSub, reduceGT, reduceEqDiff, reduceMul, w64]
    refine gopB.mk' (fun h23 => ?_) (fun h23 => ?_)
    ·try simp only [cn] at h23
     try simp -dsimp -implicitDefEqProofs (disch := omega) only [go_sem, undef, reduceAdd, reduceSub, reduceGT, reduceEqDiff, reduceMul, w64]
     refine gopB.mk' (fun h24 => ?_) (fun h24 => ?_)
     ·try simp only [cn] at h24
      try simp -dsimp -implicitDefEqProofs (disch := omega) only [go_sem, undef, reduceAdd, reduceSub, reduceGT, reduceEqDiff, reduceMul, w64]
      refine gopB.mk' (fun h25 => ?_) (fun h25 => ?_)
      ·try simp only [cn] at h25
       try simp -dsimp -implicitDefEqProofs (disch := omega) only [go_sem, undef, reduceAdd, reduceSub, reduceGT, reduceEqDiff, reduceMul, w64]
       refine hN _ ?_
       try clear hN N
       refine AW.cond rfl (fun h26 => ?_) (fun h26 => ?_)
       ·try simp only [cn] at h26
        refine AW.sr envOk (fun N hN => ?_)
        simp -dsimp -implicitDefEqProofs (disch := omega) only [go_sem, undef, reduceAdd, reduceSub, reduceGT, reduceEqDiff, reduceMul, w64]
        refine hN _ ?_
        try clear hN N
        refine AW.ret ?_
        simp -dsimp -implicitDefEqProofs (disch := omega) only [go_sem, undef, reduceAdd, reduceSub, reduceGT, reduceEqDiff, reduceMul]
        all_goals first| rfl| (exfalso; omega)| (exfalso; simp_all; done)| (exfalso; simp_all; omega)| exact bt (by simp; omega)
       ·try simp only [cn] at h26
        refine AW.skip ?_
        simp only [thn, blk]
        refine hN4 _ ?_
        try clear hN4 N4
        refine AW.sr envOk (fun N hN => ?_)
        simp -dsimp -implicitDefEqProofs (disch := omega) only [go_sem, undef, reduceAdd, reduceSub, reduceGT, reduceEqDiff, reduceMul, w64]
        refine AC.pure (.of (hf3 )) ?_
        try simp -dsimp -implicitDefEqProofs (disch := omega) only [go_sem, undef, reduceAdd, reduceSub, reduceGT, reduceEqDiff, reduceMul, w64]
        refine hN _ ?_
        try clear hN N
        refine AW.seq (fun N5 hN5 => ?_)
        refine AW.sr envOk (fun N hN => ?_)
        simp -dsimp -implicitDefEqProofs (disch := omega) only [go_sem, undef, reduceAdd, reduceSub, reduceGT, reduceEqDiff, reduceMul, w64]
        refine hN _ ?_
        try clear hN N
        refine AW.cond rfl (fun h27 => ?_) (fun h27 => ?_)
        ·try simp only [cn] at h27
         refine AW.sr envOk (fun N hN => ?_)
         simp -dsimp -implicitDefEqProofs (disch := omega) only [go_sem, undef, reduceAdd, reduceSub, reduceGT, reduceEqDiff, reduceMul, w64]
         refine gopB.mk' (fun h28 => ?_) (fun h28 => ?_)
         ·try simp only [cn] at h28
          try simp -dsimp -implicitDefEqProofs (disch := omega) only [go_sem, undef, reduceAdd, reduceSub, reduceGT, reduceEqDiff, reduceMul, w64]
          refine AC.pure (.of (hls )) ?_
          try simp -dsimp -implicitDefEqProofs (disch := omega) only [go_sem, undef, reduceAdd, reduceSub, reduceGT, reduceEqDiff, reduceMul, w64]
          refine hN _ ?_
          try clear hN N
          refine AW.ret ?_
          simp -dsimp -implicitDefEqProofs (disch := omega) only [go_sem, undef, reduceAdd, reduceSub, reduceGT, reduceEqDiff, reduceMul]
          all_goals first| rfl| (exfalso; omega)| (exfalso; simp_all; done)| (exfalso; simp_all; omega)| exact bt (by simp; omega)
         ·try simp only [cn] at h28
          try simp -dsimp -implicitDefEqProofs (disch := omega) only [go_sem, undef, reduceAdd, reduceSub, reduceGT, reduceEqDiff, reduceMul, w64]
          refine hN _ ?_
          try clear hN N
          refine AW.ret ?_
          simp -dsimp -implicitDefEqProofs (disch := omega) only [go_sem, undef, reduceAdd, reduceSub, reduceGT, reduceEqDiff, reduceMul]
          all_goals first| rfl| (exfalso; omega)| (exfalso; simp_all; done)| (exfalso; simp_all; omega)| exact bt (by simp; omega)
        ·try simp only [cn] at h27
         refine AW.skip ?_
         simp only [thn, blk]
         refine hN5 _ ?_
         try clear hN5 N5
         refine AW.sr envOk (fun N hN => ?_)
         simp -dsimp -implicitDefEqProofs (disch := omega) only [go_sem, undef, reduceAdd, reduceSub, reduceGT, reduceEqDiff, reduceMul, w64]
         refine hN _ ?_
         try clear hN N
         refine AW.sr envOk (fun N hN => ?_)
         simp -dsimp -implicitDefEqProofs (disch := omega) only [go_sem, undef, reduceAdd, reduceSub, reduceGT, reduceEqDiff, reduceMul, w64]
         refine AC.pure (.of (hls )) ?_
         try simp -dsimp -implicitDefEqProofs (disch := omega) only [go_sem, undef, reduceAdd, reduceSub, reduceGT, reduceEqDiff, reduceMul, w64]
         refine gopB.mk' (fun h29 => ?_) (fun h29 => ?_)
         ·try simp only [cn] at h29
          try simp -dsimp -implicitDefEqProofs (disch := omega) only [go_sem, undef, reduceAdd, reduceSub, reduceGT, reduceEqDiff, reduceMul, w64]
          refine gopB.mk' (fun h30 => ?_) (fun h30 => ?_)
          ·try simp only [cn] at h30
           try simp -dsimp -implicitDefEqProofs (disch := omega) only [go_sem, undef, reduceAdd, reduceSub, reduceGT, reduceEqDiff, reduceMul, w64]
           refine gopB.mk' (fun h31 => ?_) (fun h31 => ?_)
           ·try simp only [cn] at h31
            try simp -dsimp -implicitDefEqProofs (disch := omega) only [go_sem, undef, reduceAdd, reduceSub, reduceGT, reduceEqDiff, reduceMul, w64]
            refine gopB.mk' (fun h32 => ?_) (fun h32 => ?_)
            ·try simp only [cn] at h32
             try simp -dsimp -implicitDefEqProofs (disch := omega) only [go_sem, undef, reduceAdd, reduceSub, reduceGT, reduceEqDiff, reduceMul, w64]
             refine gopB.mk' (fun h33 => ?_) (fun h33 => ?_)
             ·try simp only [cn] at h33
              try simp -dsimp -implicitDefEqProofs (disch := omega) only [go_sem, undef, reduceAdd, reduceSub, reduceGT, reduceEqDiff, reduceMul, w64]
              refine gopB.mk' (fun h34 => ?_) (fun h34 => ?_)
              ·try simp only [cn] at h34
               try simp -dsimp -implicitDefEqProofs (disch := omega) only [go_sem, undef, reduceAdd, reduceSub, reduceGT, reduceEqDiff, reduceMul, w64]
               refine gopB.mk' (fun h35 => ?_) (fun h35 => ?_)
               ·try simp only [cn] at h35
                try simp -dsimp -implicitDefEqProofs (disch := omega) only [go_sem, undef, reduceAdd, reduceSub, reduceGT, reduceEqDiff, reduceMul, w64]
                refine gopB.mk' (fun h36 => ?_) (fun h36 => ?_)
                ·try simp only [cn] at h36
                 try simp -dsimp -implicitDefEqProofs (disch := omega) only [go_sem, undef, reduceAdd, reduceSub, reduceGT, reduceEqDiff, reduceMul, w64]
                 refine gopB.mk' (fun h37 => ?_) (fun h37 => ?_)
                 ·try simp only [cn] at h37
                  try simp -dsimp -implicitDefEqProofs (disch := omega) only [go_sem, undef, reduceAdd, reduceSub, reduceGT, reduceEqDiff, reduceMul, w64]
                  refine gopB.mk' (fun h38 => ?_) (fun h38 => ?_)
                  ·try simp only [cn] at h38
                   try simp -dsimp -implicitDefEqProofs (disch := omega) only [go_sem, undef, reduceAdd, reduceSub, reduceGT, reduceEqDiff, reduceMul, w64]
                   refine hN _ ?_
                   try clear hN N
                   refine AW.ret ?_
                   simp -dsimp -implicitDefEqProofs (disch := omega) only [go_sem, undef, reduceAdd, reduceSub, reduceGT, reduceEqDiff, reduceMul]
                   all_goals first| rfl| (exfalso; omega)| (exfalso; simp_all; done)| (exfalso; simp_all; omega)| exact bt (by simp; omega)
                  ·try simp only [cn] at h38
                   try simp -dsimp -implicitDefEqProofs (disch := omega) only [go_sem, undef, reduceAdd, reduceSub, reduceGT, reduceEqDiff, reduceMul, w64]
                   refine hN _ ?_
                   try clear hN N
                   refine AW.ret ?_
                   simp -dsimp -implicitDefEqProofs (disch := omega) only [go_sem, undef, reduceAdd, reduceSub, reduceGT, reduceEqDiff, reduceMul]
                   all_goals first| rfl| (exfalso; omega)| (exfalso; simp_all; done)| (exfalso; simp_all; omega)| exact bt (by simp; omega)
                 ·try simp only [cn] at h37
                  try simp -dsimp -implicitDefEqProofs (disch := omega) only [go_sem, undef, reduceAdd, reduceSub, reduceGT, reduceEqDiff, reduceMul, w64]
                  refine hN _ ?_
                  try clear hN N
                  refine AW.ret ?_
                  simp -dsimp -implicitDefEqProofs (disch := omega) only [go_sem, undef, reduceAdd, reduceSub, reduceGT, reduceEqDiff, reduceMul]
                  all_goals first| rfl| (exfalso; omega)| (exfalso; simp_all; done)| (exfalso; simp_all; omega)| exact bt (by simp; omega)
                ·try simp only [cn] at h36
                 try simp -dsimp -implicitDefEqProofs (disch := omega) only [go_sem, undef, reduceAdd, reduceSub, reduceGT, reduceEqDiff, reduceMul, w64]
                 refine hN _ ?_
                 try clear hN N
                 refine AW.ret ?_
                 simp -dsimp -implicitDefEqProofs (disch := omega) only [go_sem, undef, reduceAdd, reduceSub, reduceGT, reduceEqDiff, reduceMul]
                 all_goals first| rfl| (exfalso; omega)| (exfalso; simp_all; done)| (exfalso; simp_all; omega)| exact bt (by simp; omega)
               ·try simp only [cn] at h35
                try simp -dsimp -implicitDefEqProofs (disch := omega) only [go_sem, undef, reduceAdd, reduceSub, reduceGT, reduceEqDiff, reduceMul, w64]
                refine hN _ ?_
                try clear hN N
                refine AW.ret ?_
                simp -dsimp -implicitDefEqProofs (disch := omega) only [go_sem, undef, reduceAdd, reduceSub, reduceGT, reduceEqDiff, reduceMul]
                all_goals first| rfl| (exfalso; omega)| (exfalso; simp_all; done)| (exfalso; simp_all; omega)| exact bt (by simp; omega)
              ·try simp only [cn] at h34
               try simp -dsimp -implicitDefEqProofs (disch := omega) only [go_sem, undef, reduceAdd, reduceSub, reduceGT, reduceEqDiff, reduceMul, w64]
               refine hN _ ?_
               try clear hN N
               refine AW.ret ?_
               simp -dsimp -implicitDefEqProofs (disch := omega) only [go_sem, undef, reduceAdd, reduceSub, reduceGT, reduceEqDiff, reduceMul]
               all_goals first| rfl| (exfalso; omega)| (exfalso; simp_all; done)| (exfalso; simp_all; omega)| exact bt (by simp; omega)
             ·try simp only [cn] at h33
              try simp -dsimp -implicitDefEqProofs (disch := omega) only [go_sem, undef, reduceAdd, reduceSub, reduceGT, reduceEqDiff, reduceMul, w64]
              refine hN _ ?_
              try clear hN N
              refine AW.ret ?_
              simp -dsimp -implicitDefEqProofs (disch := omega) only [go_sem, undef, reduceAdd, reduceSub, reduceGT, reduceEqDiff, reduceMul]
              all_goals first| rfl| (exfalso; omega)| (exfalso; simp_all; done)| (exfalso; simp_all; omega)| exact bt (by simp; omega)
            ·try simp only [cn] at h32
             try simp -dsimp -implicitDefEqProofs (disch := omega) only [go_sem, undef, reduceAdd, reduceSub, reduceGT, reduceEqDiff, reduceMul, w64]
             refine hN _ ?_
             try clear hN N
             refine AW.ret ?_
             simp -dsimp -implicitDefEqProofs (disch := omega) only [go_sem, undef, reduceAdd, reduceSub, reduceGT, reduceEqDiff, reduceMul]
             all_goals first| rfl| (exfalso; omega)| (exfalso; simp_all; done)| (exfalso; simp_all; omega)| exact bt (by simp; omega)
           ·try simp only [cn] at h31
            try simp -dsimp -implicitDefEqProofs (disch := omega) only [go_sem, undef, reduceAdd, reduceSub, reduceGT, reduceEqDiff, reduceMul, w64]
            refine gopB.mk' (fun h39 => ?_) (fun h39 => ?_)
            ·try simp only [cn] at h39
             try simp -dsimp -implicitDefEqProofs (disch := omega) only [go_sem, undef, reduceAdd, reduceSub, reduceGT, reduceEqDiff, reduceMul, w64]
             refine gopB.mk' (fun h40 => ?_) (fun h40 => ?_)
             ·try simp only [cn] at h40
              try simp -dsimp -implicitDefEqProofs (disch := omega) only [go_sem, undef, reduceAdd, reduceSub, reduceGT, reduceEqDiff, reduceMul, w64]
              refine gopB.mk' (fun h41 => ?_) (fun h41 => ?_)
              ·try simp only [cn] at h41
               try simp -dsimp -implicitDefEqProofs (disch := omega) only [go_sem, undef, reduceAdd, reduceSub, reduceGT, reduceEqDiff, reduceMul, w64]
               refine hN _ ?_
               try clear hN N
               refine AW.ret ?_
               simp -dsimp -implicitDefEqProofs (disch := omega) only [go_sem, undef, reduceAdd, reduceSub, reduceGT, reduceEqDiff, reduceMul]
               all_goals first| rfl| (exfalso; omega)| (exfalso; simp_all; done)| (exfalso; simp_all; omega)| exact bt (by simp; omega)
              ·try simp only [cn] at h41
               try simp -dsimp -implicitDefEqProofs (disch := omega) only [go_sem, undef, reduceAdd, reduceSub, reduceGT, reduceEqDiff, reduceMul, w64]
               refine hN _ ?_
               try clear hN N
               refine AW.ret ?_
               simp -dsimp -implicitDefEqProofs (disch := omega) only [go_sem, undef, reduceAdd, reduceSub, reduceGT, reduceEqDiff, reduceMul]
               all_goals first| rfl| (exfalso; omega)| (exfalso; simp_all; done)| (exfalso; simp_all; omega)| exact bt (by simp; omega)
             ·try simp only [cn] at h40
              try simp -dsimp -implicitDefEqProofs (disch := omega) only [go_sem, undef, reduceAdd, reduceSub, reduceGT, reduceEqDiff, reduceMul, w64]
              refine hN _ ?_
              try clear hN N
              refine AW.ret ?_
              simp -dsimp -implicitDefEqProofs (disch := omega) only [go_sem, undef, reduceAdd, reduceSub, reduceGT, reduceEqDiff, reduceMul]
              all_goals first| rfl| (exfalso; omega)| (exfalso; simp_all; done)| (exfalso; simp_all; omega)| exact bt (by simp; omega)
            ·try simp only [cn] at h39
             try simp -dsimp -implicitDefEqProofs (disch := omega) only [go_sem, undef, reduceAdd, reduceSub, reduceGT, reduceEqDiff, reduceMul, w64]
             refine hN _ ?_
             try clear hN N
             refine AW.ret ?_
             simp -dsimp -implicitDefEqProofs (disch := omega) only [go_sem, undef, reduceAdd, reduceSub, reduceGT, reduceEqDiff, reduceMul]
             all_goals first| rfl| (exfalso; omega)| (exfalso; simp_all; done)| (exfalso; simp_all; omega)| exact bt (by simp; omega)
          ·try simp only [cn] at h30
           try simp -dsimp -implicitDefEqProofs (disch := omega) only [go_sem, undef, reduceAdd, reduceSub, reduceGT, reduceEqDiff, reduceMul, w64]
           refine hN _ ?_
           try clear hN N
           refine AW.ret ?_
           simp -dsimp -implicitDefEqProofs (disch := omega) only [go_sem, undef, reduceAdd, reduceSub, reduceGT, reduceEqDiff, reduceMul]
           all_goals first| rfl| (exfalso; omega)| (exfalso; simp_all; done)| (exfalso; simp_all; omega)| exact bt (by simp; omega)
         ·try simp only [cn] at h29
          try simp -dsimp -implicitDefEqProofs (disch := omega) only [go_sem, undef, reduceAdd, reduceSub, reduceGT, reduceEqDiff, reduceMul, w64]
          refine hN _ ?_
          try clear hN N
          refine AW.ret ?_
          simp -dsimp -implicitDefEqProofs (disch := omega) only [go_sem, undef, reduceAdd, reduceSub, reduceGT, reduceEqDiff, reduceMul]
          all_goals first| rfl| (exfalso; omega)| (exfalso; simp_all; done)| (exfalso; simp_all; omega)| exact bt (by simp; omega)
      ·try simp only [cn] at h25
       try simp -dsimp -implicitDefEqProofs (disch := omega) only [go_sem, undef, reduceAdd, reduceSub, reduceGT, reduceEqDiff, reduceMul, w64]
       refine hN _ ?_
       try clear hN N
       refine AW.condT rfl ?_
       refine AW.sr envOk (fun N hN => ?_)
       simp -dsimp -implicitDefEqProofs (disch := omega) only [go_sem, undef, reduceAdd, reduceSub, reduceGT, reduceEqDiff, reduceMul, w64]
       refine hN _ ?_
       try clear hN N
       refine AW.ret ?_
       simp -dsimp -implicitDefEqProofs (disch := omega) only [go_sem, undef, reduceAdd, reduceSub, reduceGT, reduceEqDiff, reduceMul]
       all_goals first| rfl| (exfalso; omega)| (exfalso; simp_all; done)| (exfalso; simp_all; omega)| exact bt (by simp; omega)
     ·try simp only [cn] at h24
      try simp -dsimp -implicitDefEqProofs (disch := omega) only [go_sem, undef, reduceAdd, reduceSub, reduceGT, reduceEqDiff, reduceMul, w64]
      refine hN _ ?_
      try clear hN N
      refine AW.condT rfl ?_
      refine AW.sr envOk (fun N hN => ?_)
      simp -dsimp -implicitDefEqProofs (disch := omega) only [go_sem, undef, reduceAdd, reduceSub, reduceGT, reduceEqDiff, reduceMul, w64]
      refine hN _ ?_
      try clear hN N
      refine AW.ret ?_
      simp -dsimp -implicitDefEqProofs (disch := omega) only [go_sem, undef, reduceAdd, reduceSub, reduceGT, reduceEqDiff, reduceMul]
      all_goals first| rfl| (exfalso; omega)| (exfalso; simp_all; done)| (exfalso; simp_all; omega)| exact bt (by simp; omega)
    ·try simp only [cn] at h23
     try simp -dsimp -implicitDefEqProofs (disch := omega) only [go_sem, undef, reduceAdd, reduceSub, reduceGT, reduceEqDiff, reduceMul, w64]
     refine hN _ ?_
     try clear hN N
     refine AW.condT rfl ?_
     refine AW.sr envOk (fun N hN => ?_)
     simp -dsimp -implicitDefEqProofs (disch := omega) only [go_sem, undef, reduceAdd, reduceSub, reduceGT, reduceEqDiff, reduceMul, w64]
     refine hN _ ?_
     try clear hN N
     refine AW.ret ?_
     simp -dsimp -implicitDefEqProofs (disch := omega) only [go_sem, undef, reduceAdd, reduceSub, reduceGT, reduceEqDiff, reduceMul]
     all_goals first| rfl| (exfalso; omega)| (exfalso; simp_all; done)| (exfalso; simp_all; omega)| exact bt (by simp; omega)
   ·try simp only [cn] at h22
    try simp -dsimp -implicitDefEqProofs (disch := omega) only [go_sem, undef, reduceAdd, reduceSub, reduceGT, reduceEqDiff, reduceMul, w64]
    refine hN _ ?_
    try clear hN N
    refine AW.condT rfl ?_
    refine AW.sr envOk (fun N hN => ?_)
    simp -dsimp -implicitDefEqProofs (disch := omega) only [go_sem, undef, reduceAdd, reduceSub, reduceGT, reduceEqDiff, reduceMul, w64]
    refine hN _ ?_
    try clear hN N
    refine AW.ret ?_
    simp -dsimp -implicitDefEqProofs (disch := omega) only [go_sem, undef, reduceAdd, reduceSub, reduceGT, reduceEqDiff, reduceMul]
    all_goals first| rfl| (exfalso; omega)| (exfalso; simp_all; done)| (exfalso; simp_all; omega)| exact bt (by simp; omega)

end Go.Proofs.Ytdghgmgppecncaa
