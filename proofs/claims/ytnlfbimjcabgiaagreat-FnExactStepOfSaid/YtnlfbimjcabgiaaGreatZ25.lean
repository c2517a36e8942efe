import Derived.Test.YtnlfbimjcabgiaaGreatZ24
set_option linter.unusedVariables false
set_option linter.unusedSimpArgs false
namespace Go.Proofs.YtnlfbimjcabgiaaGreat
open Nat (reduceAdd reduceSub reduceGT reduceEqDiff reduceMul)
theorem impl_consistentFrom_ok (os : List Int) (pw : List (List Int)) (cj : List (List (List Int))) (h : presOk os pw cj) (nx : Nat) (H : HP) : AC Tryz.prog 60 nx H [prsP os pw cj] (fun _ H' r => H = H' ∧ ∃ x : Nat, r = .i .i64 x ∧ (x = 0 ↔ Con (pc os pw cj) 0)) := by
 have hv := h.val
 have hn6 := h.1.1
 refine AC.introx envOk Tryz.func60 rfl (by kernel_rfl) Tryz.ntmps60 Tryz.results60 (fun hfr => ?_)
 refine AW.sr envOk (fun N hN => ?_)
 simp -dsimp -implicitDefEqProofs (disch := omega) only [go_sem, undef, prsP, ints, rows, cubes, w64]
 refine hN _ ?_
 try clear hN N
 refine AW.sr envOk (fun N hN => ?_)
 simp -dsimp -implicitDefEqProofs (disch := omega) only [go_sem, undef, prsP, ints, rows, cubes, w64]
 refine hN _ ?_
 try clear hN N
 refine AW.seq (fun N1 hN1 => ?_)
 refine AW.block ?_
 refine AW.loopN (α := Nat) (fun x => sl 22 [(0, prsP os pw cj), (3, .i .i64 x)]) (fun _ => H) (fun x m => x ≤ os.length ∧ Con (pc os pw cj) x) (fun x => x) (os.length) ?_ ?_ (fun _ _ h => h) ?_
 ·exact ⟨Nat.le_refl _, fun i h1 h2 => absurd h2 (by have : (pc os pw cj).n = os.length := rfl; omega)⟩
 ·simp (disch := omega) [wks, wkA, sl, prsP, ints, rows, cubes]
 ·skip
  rintro x m ⟨hx, hI⟩
  simp only [prsP]
  simp -dsimp -implicitDefEqProofs (disch := omega) only [go_sem, undef]
  refine AW.seq (fun N2 hN2 => ?_)
  refine AW.sr envOk (fun N hN => ?_)
  simp -dsimp -implicitDefEqProofs (disch := omega) only [go_sem, undef, prsP, ints, rows, cubes, w64]
  refine gopB.mk' (fun h1 => ?_) (fun h1 => ?_)
  ·try simp only [cn] at h1
   obtain ⟨i, rfl⟩ : ∃ i, x = i + 1 := ⟨x - 1, by omega⟩
   try simp -dsimp -implicitDefEqProofs (disch := omega) only [go_sem, undef, prsP, ints, rows, cubes, w64]
   rw [show ((i + 1 : Nat) : Int) - 1 = i by omega]
   refine (impl_levelFault_ok os pw cj h i (by omega) hI _ _).mono2 ?_
   rintro m1 H1 r1 hm1 ⟨rfl, (⟨hC, rfl⟩ | ⟨hC, k, l, a, b, hk, rfl⟩)⟩
   ·skip
    try simp -dsimp -implicitDefEqProofs (disch := omega) only [go_sem, undef, ]
    refine hN _ ?_
    try clear hN N
    refine AW.cond rfl (fun h2 => ?_) (fun h2 => ?_)
    ·try simp only [cn] at h2
     refine AW.skip ?_
     simp only [thn, blk]
     refine hN2 _ ?_
     try clear hN2 N2
     refine AW.block ?_
     refine AW.regionL envOk ?_
     simp -dsimp -implicitDefEqProofs (disch := omega) only [go_sem, undef, prsP, ints, rows, cubes, w64]
     refine ⟨i, ?_, fun _ _ h => h, ?_, ?_⟩
     ·simp (disch := omega) [wks, wkA, sl, prsP, w64, ints, rows, cubes] <;> omega
     ·refine ⟨by first| omega| (simp only; omega)| (dsimp only; omega), fun t q1 q2 => ?_⟩
      by_cases e : t = i
      ·subst e; exact hC
      ·exact hI t (by omega) q2
     ·first | omega | (simp only; omega)
    ·try simp only [cn] at h2
     simp at h2
   ·skip
    try simp -dsimp -implicitDefEqProofs (disch := omega) only [go_sem, undef, ]
    refine hN _ ?_
    try clear hN N
    refine AW.cond rfl (fun h3 => ?_) (fun h3 => ?_)
    ·try simp only [cn] at h3
     exact absurd h3.1 hk
    ·try simp only [cn] at h3
     refine AW.exit ?_
     simp only [thn, blk, if_true]
     refine hN1 _ ?_
     try clear hN1 N1
     refine AW.sr envOk (fun N hN => ?_)
     simp -dsimp -implicitDefEqProofs (disch := omega) only [go_sem, undef, prsP, ints, rows, cubes, w64]
     refine hN _ ?_
     try clear hN N
     refine AW.ret ?_
     simp -dsimp -implicitDefEqProofs (disch := omega) only [go_sem, undef]
     exact ⟨_, Le.refl _, rfl, i + 1, rfl, ⟨fun q => by omega, fun q => absurd (q i (Nat.zero_le _) (show i < os.length by omega)) hC⟩⟩
  ·try simp only [cn] at h1
   try simp -dsimp -implicitDefEqProofs (disch := omega) only [go_sem, undef, prsP, ints, rows, cubes, w64]
   refine hN _ ?_
   try clear hN N
   refine AW.condF rfl ?_
   refine AW.exit ?_
   simp only [thn, blk, if_true]
   refine hN1 _ ?_
   try clear hN1 N1
   refine AW.sr envOk (fun N hN => ?_)
   simp -dsimp -implicitDefEqProofs (disch := omega) only [go_sem, undef, prsP, ints, rows, cubes, w64]
   refine hN _ ?_
   try clear hN N
   refine AW.ret ?_
   simp -dsimp -implicitDefEqProofs (disch := omega) only [go_sem, undef]
   obtain rfl : x = 0 := by omega
   exact ⟨_, Le.refl _, rfl, 0, rfl, ⟨fun _ => hI, fun _ => rfl⟩⟩
theorem impl_IsConsistent_ok (os : List Int) (pw : List (List Int)) (cj : List (List (List Int))) (hl : prlen os pw cj) : ACp Tryz.prog 29 [prs os pw cj] (.b (tf (presOk os pw cj ∧ Con (pc os pw cj) 0))) := by
 refine ACp.intro' envOk Tryz.func29 rfl (by kernel_rfl) Tryz.ntmps29 Tryz.results29 (.b _) (fun nx => ?_)
 refine AW.sr envOk (fun N hN => ?_)
 simp -dsimp -implicitDefEqProofs (disch := omega) only [go_sem, undef, prs, ints, rows, cubes]
 refine hN _ ?_
 try clear hN N
 refine AW.freezeQ 1 nx _ rfl (upd_same _ _ _) ?_
 simp -dsimp -implicitDefEqProofs (disch := omega) only [go_sem, undef]
 refine AW.sr envOk (fun N hN => ?_)
 simp -dsimp -implicitDefEqProofs (disch := omega) only [go_sem, undef, prs, ints, rows, cubes]
 refine AC.pure (.of (impl_IsPresentation_ok os pw cj hl)) ?_
 try simp -dsimp -implicitDefEqProofs (disch := omega) only [go_sem, undef, prs, ints, rows, cubes]
 refine gopB.mk' (fun h1 => ?_) (fun h1 => ?_)
 ·try simp only [cn] at h1
  try simp -dsimp -implicitDefEqProofs (disch := omega) only [go_sem, undef, prs, ints, rows, cubes]
  refine (impl_consistentFrom_ok os pw cj h1 _ _).mono2 ?_
  rintro m1 H1 r1 hm1 ⟨rfl, x, rfl, hx⟩
  try simp -dsimp -implicitDefEqProofs (disch := omega) only [go_sem, undef, prs, ints, rows, cubes]
  refine hN _ ?_
  try clear hN N
  refine AW.ret ?_
  simp -dsimp -implicitDefEqProofs (disch := omega) only [go_sem, undef]
  exact bt (by by_cases q : x = 0 <;> simp [q, tf_t, tf_f, h1, ← hx])
 ·try simp only [cn] at h1
  try simp -dsimp -implicitDefEqProofs (disch := omega) only [go_sem, undef, prs, ints, rows, cubes]
  refine hN _ ?_
  try clear hN N
  refine AW.ret ?_
  simp -dsimp -implicitDefEqProofs (disch := omega) only [go_sem, undef]
  all_goals exact bt (tf_f (fun q => h1 q.1)).symm
def grpP (os : List Int) (pw : List (List Int)) (cj : List (List (List Int))) : Prop := presOk os pw cj ∧ Con (pc os pw cj) 0
def pgP (os : List Int) (pw : List (List Int)) (cj : List (List (List Int))) : Prop := (presOk os pw cj ∧ Con (pc os pw cj) 0) ∧ os.length ≠ 0 ∧ ∀ i, i < os.length → os.getD i 0 = os.getD 0 0
theorem spec_IsPGroup_ok (os : List Int) (pw : List (List Int)) (cj : List (List (List Int))) (hl : prlen os pw cj) : ACp Tryz.prog 68 [prs os pw cj] (.b (tf (pgP os pw cj))) := by
 have ho := hl.o
 refine ACp.intro' envOk Tryz.func68 rfl (by kernel_rfl) Tryz.ntmps68 Tryz.results68 (.b _) (fun nx => ?_)
 refine AW.sr envOk (fun N hN => ?_)
 simp -dsimp -implicitDefEqProofs (disch := omega) only [go_sem, undef, prs, ints, rows, cubes, gd_i, w64]
 refine hN _ ?_
 try clear hN N
 refine AW.freezeQ 1 nx _ rfl (upd_same _ _ _) ?_
 simp -dsimp -implicitDefEqProofs (disch := omega) only [go_sem, undef]
 refine AW.seq (fun N1 hN1 => ?_)
 refine AW.sr envOk (fun N hN => ?_)
 simp -dsimp -implicitDefEqProofs (disch := omega) only [go_sem, undef, prs, ints, rows, cubes, gd_i, w64]
 refine AC.pure (.of (spec_l08Group_ok os pw cj hl)) ?_
 try simp -dsimp -implicitDefEqProofs (disch := omega) only [go_sem, undef, prs, ints, rows, cubes, gd_i, w64]
 refine gopB.mk' (fun h1 => ?_) (fun h1 => ?_)
 ·try simp only [cn] at h1
  try simp -dsimp -implicitDefEqProofs (disch := omega) only [go_sem, undef, prs, ints, rows, cubes, gd_i, w64]
  refine hN _ ?_
  try clear hN N
  refine AW.cond rfl (fun h2 => ?_) (fun h2 => ?_)
  ·try simp only [cn] at h2
   refine AW.sr envOk (fun N hN => ?_)
   simp -dsimp -implicitDefEqProofs (disch := omega) only [go_sem, undef, prs, ints, rows, cubes, gd_i, w64]
   refine hN _ ?_
   try clear hN N
   refine AW.ret ?_
   simp -dsimp -implicitDefEqProofs (disch := omega) only [go_sem, undef]
   exact bt (tf_f (fun q => q.2.1 (by omega))).symm
  ·try simp only [cn] at h2
   refine AW.skip ?_
   simp only [thn, blk]
   refine hN1 _ ?_
   try clear hN1 N1
   refine AW.seq (fun N2 hN2 => ?_)
   refine AW.sr envOk (fun N hN => ?_)
   simp -dsimp -implicitDefEqProofs (disch := omega) only [go_sem, undef, prs, ints, rows, cubes, gd_i, w64]
   refine hN _ ?_
   try clear hN N
   refine AW.block ?_
   refine AW.loopN (α := Nat) (fun x => sl 30 [(1, prsP os pw cj), (3, .i .i64 x)]) (fun _ => noH) (fun x m => x ≤ os.length ∧ ∀ j, j < x → os.getD j 0 = os.getD 0 0) (fun x => os.length - x) (0) ?_ ?_ (Le.del (by simp [noH])) ?_
   ·exact ⟨by omega, by intro j hj; omega⟩
   ·simp (disch := omega) [wks, wkA, sl, prsP, ints, rows, cubes]
   ·skip
    rintro k m ⟨hk, hI⟩
    simp -dsimp -implicitDefEqProofs (disch := omega) only [go_sem, undef]
    simp only [prsP]
    refine AW.seq (fun N3 hN3 => ?_)
    refine AW.sr envOk (fun N hN => ?_)
    simp -dsimp -implicitDefEqProofs (disch := omega) only [go_sem, undef, prs, ints, rows, cubes, gd_i, w64]
    refine hN _ ?_
    try clear hN N
    refine AW.cond rfl (fun h3 => ?_) (fun h3 => ?_)
    ·try simp only [cn] at h3
     refine AW.skip ?_
     simp only [thn, blk]
     refine hN3 _ ?_
     try clear hN3 N3
     refine AW.seq (fun N4 hN4 => ?_)
     refine AW.block ?_
     refine AW.seq (fun N hN => ?_)
     refine AW.drawL envOk (by kernel_rfl) 10 (by kernel_rfl) ?_
     simp -dsimp -implicitDefEqProofs (disch := omega) only [hr_nil, hr_one, hr_if, List.take_succ_cons, List.take_zero, List.drop_succ_cons, List.drop_zero, List.take_nil, List.drop_nil, go_sem, undef, prs, ints, rows, cubes, gd_i, w64]
     refine hN _ ?_
     try clear hN N
     refine AW.cond rfl (fun h4 => ?_) (fun h4 => ?_)
     ·try simp only [cn] at h4
      refine AW.sr envOk (fun N hN => ?_)
      simp -dsimp -implicitDefEqProofs (disch := omega) only [go_sem, undef, prs, ints, rows, cubes, gd_i, w64]
      refine hN _ ?_
      try clear hN N
      refine AW.ret ?_
      simp -dsimp -implicitDefEqProofs (disch := omega) only [go_sem, undef]
      exact bt (tf_f (fun q => h4 (q.2.2 k (by omega)))).symm
     ·try simp only [cn] at h4
      refine AW.skip ?_
      simp only [thn, blk]
      refine hN4 _ ?_
      try clear hN4 N4
      refine AW.regionL envOk ?_
      simp -dsimp -implicitDefEqProofs (disch := omega) only [go_sem, undef, prs, ints, rows, cubes, gd_i, w64]
      refine ⟨k + 1, ?_, fun _ _ h => h, ?_, ?_⟩
      ·simp (disch := omega) [wks, wkA, sl, prsP, w64, ints, rows, cubes] <;> omega
      ·refine ⟨by omega, fun j hj => ?_⟩
       by_cases e : j = k
       ·subst e; assumption
       ·exact hI j (by omega)
      ·first | omega | (simp only; omega)
    ·try simp only [cn] at h3
     refine AW.exit ?_
     simp only [thn, blk, if_true]
     refine hN2 _ ?_
     try clear hN2 N2
     refine AW.sr envOk (fun N hN => ?_)
     simp -dsimp -implicitDefEqProofs (disch := omega) only [go_sem, undef, prs, ints, rows, cubes, gd_i, w64]
     refine hN _ ?_
     try clear hN N
     refine AW.ret ?_
     simp -dsimp -implicitDefEqProofs (disch := omega) only [go_sem, undef]
     exact bt (tf_t ⟨h1, by omega, fun j hj => hI j (by omega)⟩).symm
 ·try simp only [cn] at h1
  try simp -dsimp -implicitDefEqProofs (disch := omega) only [go_sem, undef, prs, ints, rows, cubes, gd_i, w64]
  refine hN _ ?_
  try clear hN N
  refine AW.condT rfl ?_
  refine AW.sr envOk (fun N hN => ?_)
  simp -dsimp -implicitDefEqProofs (disch := omega) only [go_sem, undef, prs, ints, rows, cubes, gd_i, w64]
  refine hN _ ?_
  try clear hN N
  refine AW.ret ?_
  simp -dsimp -implicitDefEqProofs (disch := omega) only [go_sem, undef]
  exact bt (tf_f (fun q => h1 q.1)).symm
theorem impl_isPGroup_ok (os : List Int) (pw : List (List Int)) (cj : List (List (List Int))) (hl : prlen os pw cj) : ACp Tryz.prog 76 [prsP os pw cj] (.b (tf (pgP os pw cj))) := by
 have ho := hl.o
 refine ACp.intro' envOk Tryz.func76 rfl (by kernel_rfl) Tryz.ntmps76 Tryz.results76 (.b _) (fun nx => ?_)
 refine AW.sr envOk (fun N hN => ?_)
 simp -dsimp -implicitDefEqProofs (disch := omega) only [go_sem, undef, prsP, ints, rows, cubes, gd_i, w64]
 refine hN _ ?_
 try clear hN N
 refine AW.seq (fun N1 hN1 => ?_)
 refine AW.sr envOk (fun N hN => ?_)
 simp -dsimp -implicitDefEqProofs (disch := omega) only [go_sem, undef, prsP, ints, rows, cubes, gd_i, w64]
 refine AC.pure (.of (impl_IsConsistent_ok os pw cj hl)) ?_
 try simp -dsimp -implicitDefEqProofs (disch := omega) only [go_sem, undef, prsP, ints, rows, cubes, gd_i, w64]
 refine gopB.mk' (fun h1 => ?_) (fun h1 => ?_)
 ·try simp only [cn] at h1
  try simp -dsimp -implicitDefEqProofs (disch := omega) only [go_sem, undef, prsP, ints, rows, cubes, gd_i, w64]
  refine hN _ ?_
  try clear hN N
  refine AW.cond rfl (fun h2 => ?_) (fun h2 => ?_)
  ·try simp only [cn] at h2
   refine AW.sr envOk (fun N hN => ?_)
   simp -dsimp -implicitDefEqProofs (disch := omega) only [go_sem, undef, prsP, ints, rows, cubes, gd_i, w64]
   refine hN _ ?_
   try clear hN N
   refine AW.ret ?_
   simp -dsimp -implicitDefEqProofs (disch := omega) only [go_sem, undef]
   exact bt (tf_f (fun q => q.2.1 (by omega))).symm
  ·try simp only [cn] at h2
   refine AW.skip ?_
   simp only [thn, blk]
   refine hN1 _ ?_
   try clear hN1 N1
   refine AW.seq (fun N2 hN2 => ?_)
   refine AW.sr envOk (fun N hN => ?_)
   simp -dsimp -implicitDefEqProofs (disch := omega) only [go_sem, undef, prsP, ints, rows, cubes, gd_i, w64]
   refine hN _ ?_
   try clear hN N
   refine AW.block ?_
   refine AW.loopN (α := Nat) (fun x => sl 36 [(0, prsP os pw cj), (21, ints os), (22, .i .i64 os.length), (23, .i .i64 x)]) (fun _ => noH) (fun x m => x ≤ os.length ∧ ∀ j, j < x → os.getD j 0 = os.getD 0 0) (fun x => os.length - x) (0) ?_ ?_ (fun _ _ h => h) ?_
   ·exact ⟨by omega, by intro j hj; omega⟩
   ·simp (disch := omega) [wks, wkA, sl, w64, ints, rows, cubes, prsP, ints, rows, cubes, gd_i, w64] <;> omega
   ·skip
    rintro k m ⟨hk, hI⟩
    simp -dsimp -implicitDefEqProofs (disch := omega) only [go_sem, undef]
    simp only [prsP]
    refine AW.sr envOk (fun N hN => ?_)
    simp -dsimp -implicitDefEqProofs (disch := omega) only [go_sem, undef, prsP, ints, rows, cubes, gd_i, w64]
    refine hN _ ?_
    try clear hN N
    refine AW.seq (fun N3 hN3 => ?_)
    refine AW.cond rfl (fun h3 => ?_) (fun h3 => ?_)
    ·try simp only [cn] at h3
     refine AW.skip ?_
     simp only [thn, blk]
     refine hN3 _ ?_
     try clear hN3 N3
     refine AW.seq (fun N4 hN4 => ?_)
     refine AW.block ?_
     refine AW.sr envOk (fun N hN => ?_)
     simp -dsimp -implicitDefEqProofs (disch := omega) only [go_sem, undef, prsP, ints, rows, cubes, gd_i, w64]
     refine hN _ ?_
     try clear hN N
     refine AW.sr envOk (fun N hN => ?_)
     simp -dsimp -implicitDefEqProofs (disch := omega) only [go_sem, undef, prsP, ints, rows, cubes, gd_i, w64]
     refine hN _ ?_
     try clear hN N
     refine AW.cond rfl (fun h4 => ?_) (fun h4 => ?_)
     ·try simp only [cn] at h4
      refine AW.sr envOk (fun N hN => ?_)
      simp -dsimp -implicitDefEqProofs (disch := omega) only [go_sem, undef, prsP, ints, rows, cubes, gd_i, w64]
      refine hN _ ?_
      try clear hN N
      refine AW.ret ?_
      simp -dsimp -implicitDefEqProofs (disch := omega) only [go_sem, undef]
      exact bt (tf_f (fun q => h4 (q.2.2 k (by omega)))).symm
     ·try simp only [cn] at h4
      refine AW.skip ?_
      simp only [thn, blk]
      refine hN4 _ ?_
      try clear hN4 N4
      refine AW.regionL envOk ?_
      simp -dsimp -implicitDefEqProofs (disch := omega) only [go_sem, undef, prsP, ints, rows, cubes, gd_i, w64]
      refine ⟨k + 1, ?_, fun _ _ h => h, ?_, ?_⟩
      ·simp (disch := omega) [wks, wkA, sl, w64, ints, rows, cubes, prsP, ints, rows, cubes, gd_i, w64] <;> omega
      ·refine ⟨by omega, fun j hj => ?_⟩
       by_cases e : j = k
       ·subst e; assumption
       ·exact hI j (by omega)
      ·first | omega | (simp only; omega)
    ·try simp only [cn] at h3
     refine AW.exit ?_
     simp only [thn, blk, if_true]
     refine hN2 _ ?_
     try clear hN2 N2
     refine AW.sr envOk (fun N hN => ?_)
     simp -dsimp -implicitDefEqProofs (disch := omega) only [go_sem, undef, prsP, ints, rows, cubes, gd_i, w64]
     refine hN _ ?_
     try clear hN N
     refine AW.ret ?_
     simp -dsimp -implicitDefEqProofs (disch := omega) only [go_sem, undef]
     exact bt (tf_t ⟨h1, by omega, fun j hj => hI j (by omega)⟩).symm
 ·try simp only [cn] at h1
  try simp -dsimp -implicitDefEqProofs (disch := omega) only [go_sem, undef, prsP, ints, rows, cubes, gd_i, w64]
  refine hN _ ?_
  try clear hN N
  refine AW.condT rfl ?_
  refine AW.sr envOk (fun N hN => ?_)
  simp -dsimp -implicitDefEqProofs (disch := omega) only [go_sem, undef, prsP, ints, rows, cubes, gd_i, w64]
  refine hN _ ?_
  try clear hN N
  refine AW.ret ?_
  simp -dsimp -implicitDefEqProofs (disch := omega) only [go_sem, undef]
  exact bt (tf_f (fun q => h1 q.1)).symm
end Go.Proofs.YtnlfbimjcabgiaaGreat
