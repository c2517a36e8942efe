import Derived.Test.YtkmgmjajbiddbaaZ18
set_option linter.unusedVariables false
set_option linter.unusedSimpArgs false
namespace Go.Proofs.Ytkmgmjajbiddbaa
open Nat (reduceAdd reduceSub reduceGT reduceEqDiff reduceMul)
theorem spec_l01Zero_ok (a : List Int) (ha' : a.length ≤ 1099511627776) : ACp Try.prog 80 [ints a] (.b (tf (zeros a))) := by
 refine ACp.intro' envOk Try.func80 rfl (by kernel_rfl) Try.ntmps80 Try.results80 (.b _) (fun nx => ?_)
 refine AW.sr envOk (fun N hN => ?_)
 simp -dsimp -implicitDefEqProofs (disch := omega) only [go_sem, undef, reduceAdd, reduceSub, reduceGT, reduceEqDiff, reduceMul, ints, gd_i, w64]
 refine hN _ ?_
 try clear hN N
 refine AW.seq (fun N1 hN1 => ?_)
 refine AW.sr envOk (fun N hN => ?_)
 simp -dsimp -implicitDefEqProofs (disch := omega) only [go_sem, undef, reduceAdd, reduceSub, reduceGT, reduceEqDiff, reduceMul, ints, gd_i, w64]
 refine hN _ ?_
 try clear hN N
 refine AW.block ?_
 refine AW.loopN (α := Nat) (fun x => sl 15 [(0, ints a), (3, .i .i64 x)]) (fun _ => noH) (fun x m => x ≤ a.length ∧ ∀ j, j < x → a.getD j 0 = 0) (fun x => a.length - x) (0) ?_ ?_ (fun _ _ h => h) ?_
 ·exact ⟨by omega, by intro j hj; omega⟩
 ·simp (disch := omega) [wks, wkA, sl, w64, ints, rows, cubes, ints, gd_i, w64] <;> omega
 ·skip
  rintro k m ⟨hk, hI⟩
  simp -dsimp -implicitDefEqProofs (disch := omega) only [go_sem, undef, reduceAdd, reduceSub, reduceGT, reduceEqDiff, reduceMul]
  refine AW.seq (fun N2 hN2 => ?_)
  refine AW.sr envOk (fun N hN => ?_)
  simp -dsimp -implicitDefEqProofs (disch := omega) only [go_sem, undef, reduceAdd, reduceSub, reduceGT, reduceEqDiff, reduceMul, ints, gd_i, w64]
  refine hN _ ?_
  try clear hN N
  refine AW.cond rfl (fun h1 => ?_) (fun h1 => ?_)
  ·try simp only [cn] at h1
   refine AW.skip ?_
   simp only [thn, blk]
   refine hN2 _ ?_
   try clear hN2 N2
   refine AW.seq (fun N3 hN3 => ?_)
   refine AW.block ?_
   refine AW.sr envOk (fun N hN => ?_)
   simp -dsimp -implicitDefEqProofs (disch := omega) only [go_sem, undef, reduceAdd, reduceSub, reduceGT, reduceEqDiff, reduceMul, ints, gd_i, w64]
   refine hN _ ?_
   try clear hN N
   refine AW.cond rfl (fun h2 => ?_) (fun h2 => ?_)
   ·try simp only [cn] at h2
    refine AW.sr envOk (fun N hN => ?_)
    simp -dsimp -implicitDefEqProofs (disch := omega) only [go_sem, undef, reduceAdd, reduceSub, reduceGT, reduceEqDiff, reduceMul, ints, gd_i, w64]
    refine hN _ ?_
    try clear hN N
    refine AW.ret ?_
    simp -dsimp -implicitDefEqProofs (disch := omega) only [go_sem, undef, reduceAdd, reduceSub, reduceGT, reduceEqDiff, reduceMul]
    exact bt (tf_f (fun h => h2 (h k (by omega)))).symm
   ·try simp only [cn] at h2
    refine AW.skip ?_
    simp only [thn, blk]
    refine hN3 _ ?_
    try clear hN3 N3
    refine AW.regionL envOk ?_
    simp -dsimp -implicitDefEqProofs (disch := omega) only [go_sem, undef, reduceAdd, reduceSub, reduceGT, reduceEqDiff, reduceMul, ints, gd_i, w64]
    refine ⟨k + 1, ?_, fun _ _ h => h, ?_, ?_⟩
    ·simp (disch := omega) [wks, wkA, sl, w64, ints, rows, cubes, ints, gd_i, w64] <;> omega
    ·refine ⟨by omega, fun j hj => ?_⟩
     by_cases e : j = k
     ·subst e; exact h2
     ·exact hI j (by omega)
    ·first | omega | (simp only; omega)
  ·try simp only [cn] at h1
   refine AW.exit ?_
   simp only [thn, blk, if_true]
   refine hN1 _ ?_
   try clear hN1 N1
   refine AW.sr envOk (fun N hN => ?_)
   simp -dsimp -implicitDefEqProofs (disch := omega) only [go_sem, undef, reduceAdd, reduceSub, reduceGT, reduceEqDiff, reduceMul, ints, gd_i, w64]
   refine hN _ ?_
   try clear hN N
   refine AW.ret ?_
   simp -dsimp -implicitDefEqProofs (disch := omega) only [go_sem, undef, reduceAdd, reduceSub, reduceGT, reduceEqDiff, reduceMul]
   exact bt (tf_t (fun j hj => hI j (by omega))).symm
theorem spec_l01Same_ok (a b : List Int) (ha : a.length ≤ 1099511627776) (hb : b.length ≤ 1099511627776) : ACp Try.prog 86 [ints a, ints b] (.b (tf (a = b))) := by
 refine ACp.intro' envOk Try.func86 rfl (by kernel_rfl) Try.ntmps86 Try.results86 (.b _) (fun nx => ?_)
 refine AW.sr envOk (fun N hN => ?_)
 simp -dsimp -implicitDefEqProofs (disch := omega) only [go_sem, undef, reduceAdd, reduceSub, reduceGT, reduceEqDiff, reduceMul, ints, gd_i, w64]
 refine hN _ ?_
 try clear hN N
 refine AW.seq (fun N1 hN1 => ?_)
 refine AW.sr envOk (fun N hN => ?_)
 simp -dsimp -implicitDefEqProofs (disch := omega) only [go_sem, undef, reduceAdd, reduceSub, reduceGT, reduceEqDiff, reduceMul, ints, gd_i, w64]
 refine hN _ ?_
 try clear hN N
 refine AW.cond rfl (fun h1 => ?_) (fun h1 => ?_)
 ·try simp only [cn] at h1
  refine AW.sr envOk (fun N hN => ?_)
  simp -dsimp -implicitDefEqProofs (disch := omega) only [go_sem, undef, reduceAdd, reduceSub, reduceGT, reduceEqDiff, reduceMul, ints, gd_i, w64]
  refine hN _ ?_
  try clear hN N
  refine AW.ret ?_
  simp -dsimp -implicitDefEqProofs (disch := omega) only [go_sem, undef, reduceAdd, reduceSub, reduceGT, reduceEqDiff, reduceMul]
  exact bt (tf_f (fun e => h1 (by rw [e]))).symm
 ·try simp only [cn] at h1
  have hl : a.length = b.length := by omega
  refine AW.skip ?_
  simp only [thn, blk]
  refine hN1 _ ?_
  try clear hN1 N1
  refine AW.seq (fun N2 hN2 => ?_)
  refine AW.sr envOk (fun N hN => ?_)
  simp -dsimp -implicitDefEqProofs (disch := omega) only [go_sem, undef, reduceAdd, reduceSub, reduceGT, reduceEqDiff, reduceMul, ints, gd_i, w64]
  refine hN _ ?_
  try clear hN N
  refine AW.block ?_
  refine AW.loopN (α := Nat) (fun x => sl 26 [(0, ints a), (1, ints b), (5, .i .i64 x)]) (fun _ => noH) (fun x m => x ≤ a.length ∧ a.take x = b.take x) (fun x => a.length - x) (0) ?_ ?_ (fun _ _ h => h) ?_
  ·exact ⟨by omega, rfl⟩
  ·simp (disch := omega) [wks, wkA, sl, w64, ints, rows, cubes, ints, gd_i, w64] <;> omega
  ·skip
   rintro k m ⟨hk, he⟩
   simp -dsimp -implicitDefEqProofs (disch := omega) only [go_sem, undef, reduceAdd, reduceSub, reduceGT, reduceEqDiff, reduceMul]
   refine AW.seq (fun N3 hN3 => ?_)
   refine AW.sr envOk (fun N hN => ?_)
   simp -dsimp -implicitDefEqProofs (disch := omega) only [go_sem, undef, reduceAdd, reduceSub, reduceGT, reduceEqDiff, reduceMul, ints, gd_i, w64]
   refine hN _ ?_
   try clear hN N
   refine AW.cond rfl (fun h2 => ?_) (fun h2 => ?_)
   ·try simp only [cn] at h2
    refine AW.skip ?_
    simp only [thn, blk]
    refine hN3 _ ?_
    try clear hN3 N3
    refine AW.seq (fun N4 hN4 => ?_)
    refine AW.block ?_
    refine AW.seq (fun N hN => ?_)
    refine AW.drawL envOk (by kernel_rfl) 9 (by kernel_rfl) ?_
    simp -dsimp -implicitDefEqProofs (disch := omega) only [hr_nil, hr_one, hr_if, List.take_succ_cons, List.take_zero, List.drop_succ_cons, List.drop_zero, List.take_nil, List.drop_nil, go_sem, undef, reduceAdd, reduceSub, reduceGT, reduceEqDiff, reduceMul, ints, gd_i, w64]
    refine hN _ ?_
    try clear hN N
    refine AW.cond rfl (fun h3 => ?_) (fun h3 => ?_)
    ·try simp only [cn] at h3
     refine AW.sr envOk (fun N hN => ?_)
     simp -dsimp -implicitDefEqProofs (disch := omega) only [go_sem, undef, reduceAdd, reduceSub, reduceGT, reduceEqDiff, reduceMul, ints, gd_i, w64]
     refine hN _ ?_
     try clear hN N
     refine AW.ret ?_
     simp -dsimp -implicitDefEqProofs (disch := omega) only [go_sem, undef, reduceAdd, reduceSub, reduceGT, reduceEqDiff, reduceMul]
     exact bt (tf_f (fun e => h3 (by rw [e]))).symm
    ·try simp only [cn] at h3
     refine AW.skip ?_
     simp only [thn, blk]
     refine hN4 _ ?_
     try clear hN4 N4
     refine AW.regionL envOk ?_
     simp -dsimp -implicitDefEqProofs (disch := omega) only [go_sem, undef, reduceAdd, reduceSub, reduceGT, reduceEqDiff, reduceMul, ints, gd_i, w64]
     refine ⟨k + 1, ?_, fun _ _ h => h, ?_, ?_⟩
     ·simp (disch := omega) [wks, wkA, sl, w64, ints, rows, cubes, ints, gd_i, w64] <;> omega
     ·exact ⟨by omega, take_ext 0 hl (by omega) he h3⟩
     ·first | omega | (simp only; omega)
   ·try simp only [cn] at h2
    refine AW.exit ?_
    simp only [thn, blk, if_true]
    refine hN2 _ ?_
    try clear hN2 N2
    refine AW.sr envOk (fun N hN => ?_)
    simp -dsimp -implicitDefEqProofs (disch := omega) only [go_sem, undef, reduceAdd, reduceSub, reduceGT, reduceEqDiff, reduceMul, ints, gd_i, w64]
    refine hN _ ?_
    try clear hN N
    refine AW.ret ?_
    simp -dsimp -implicitDefEqProofs (disch := omega) only [go_sem, undef, reduceAdd, reduceSub, reduceGT, reduceEqDiff, reduceMul]
    rw [show k = a.length by omega, List.take_length, hl, List.take_length] at he
    exact bt (tf_t he).symm
theorem slices_Equal_int64_int64_ok (a b : List Int) (ha : a.length ≤ 1099511627776) (hb : b.length ≤ 1099511627776) : ACp Try.prog 90 [ints a, ints b] (.b (tf (a = b))) := by
 refine ACp.intro' envOk Try.func90 rfl (by kernel_rfl) Try.ntmps90 Try.results90 (.b _) (fun nx => ?_)
 refine AW.sr envOk (fun N hN => ?_)
 simp -dsimp -implicitDefEqProofs (disch := omega) only [go_sem, undef, reduceAdd, reduceSub, reduceGT, reduceEqDiff, reduceMul, ints, gd_i, w64]
 refine hN _ ?_
 try clear hN N
 refine AW.seq (fun N1 hN1 => ?_)
 refine AW.sr envOk (fun N hN => ?_)
 simp -dsimp -implicitDefEqProofs (disch := omega) only [go_sem, undef, reduceAdd, reduceSub, reduceGT, reduceEqDiff, reduceMul, ints, gd_i, w64]
 refine hN _ ?_
 try clear hN N
 refine AW.cond rfl (fun h1 => ?_) (fun h1 => ?_)
 ·try simp only [cn] at h1
  refine AW.sr envOk (fun N hN => ?_)
  simp -dsimp -implicitDefEqProofs (disch := omega) only [go_sem, undef, reduceAdd, reduceSub, reduceGT, reduceEqDiff, reduceMul, ints, gd_i, w64]
  refine hN _ ?_
  try clear hN N
  refine AW.ret ?_
  simp -dsimp -implicitDefEqProofs (disch := omega) only [go_sem, undef, reduceAdd, reduceSub, reduceGT, reduceEqDiff, reduceMul]
  exact bt (tf_f (fun e => h1 (by rw [e]))).symm
 ·try simp only [cn] at h1
  have hl : a.length = b.length := by omega
  refine AW.skip ?_
  simp only [thn, blk]
  refine hN1 _ ?_
  try clear hN1 N1
  refine AW.seq (fun N2 hN2 => ?_)
  refine AW.sr envOk (fun N hN => ?_)
  simp -dsimp -implicitDefEqProofs (disch := omega) only [go_sem, undef, reduceAdd, reduceSub, reduceGT, reduceEqDiff, reduceMul, ints, gd_i, w64]
  refine hN _ ?_
  try clear hN N
  refine AW.block ?_
  refine AW.loopN (α := Nat) (fun x => sl 26 [(0, ints a), (1, ints b), (12, .i .i64 a.length), (13, .i .i64 x)]) (fun _ => noH) (fun x m => x ≤ a.length ∧ a.take x = b.take x) (fun x => a.length - x) (0) ?_ ?_ (fun _ _ h => h) ?_
  ·exact ⟨by omega, rfl⟩
  ·simp (disch := omega) [wks, wkA, sl, w64, ints, rows, cubes, ints, gd_i, w64] <;> omega
  ·skip
   rintro k m ⟨hk, he⟩
   simp -dsimp -implicitDefEqProofs (disch := omega) only [go_sem, undef, reduceAdd, reduceSub, reduceGT, reduceEqDiff, reduceMul]
   refine AW.sr envOk (fun N hN => ?_)
   simp -dsimp -implicitDefEqProofs (disch := omega) only [go_sem, undef, reduceAdd, reduceSub, reduceGT, reduceEqDiff, reduceMul, ints, gd_i, w64]
   refine hN _ ?_
   try clear hN N
   refine AW.seq (fun N3 hN3 => ?_)
   refine AW.cond rfl (fun h2 => ?_) (fun h2 => ?_)
   ·try simp only [cn] at h2
    refine AW.skip ?_
    simp only [thn, blk]
    refine hN3 _ ?_
    try clear hN3 N3
    refine AW.seq (fun N4 hN4 => ?_)
    refine AW.block ?_
    refine AW.sr envOk (fun N hN => ?_)
    simp -dsimp -implicitDefEqProofs (disch := omega) only [go_sem, undef, reduceAdd, reduceSub, reduceGT, reduceEqDiff, reduceMul, ints, gd_i, w64]
    refine hN _ ?_
    try clear hN N
    refine AW.seq (fun N hN => ?_)
    refine AW.drawL envOk (by kernel_rfl) 9 (by kernel_rfl) ?_
    simp -dsimp -implicitDefEqProofs (disch := omega) only [hr_nil, hr_one, hr_if, List.take_succ_cons, List.take_zero, List.drop_succ_cons, List.drop_zero, List.take_nil, List.drop_nil, go_sem, undef, reduceAdd, reduceSub, reduceGT, reduceEqDiff, reduceMul, ints, gd_i, w64]
    refine hN _ ?_
    try clear hN N
    refine AW.cond rfl (fun h3 => ?_) (fun h3 => ?_)
    ·try simp only [cn] at h3
     refine AW.sr envOk (fun N hN => ?_)
     simp -dsimp -implicitDefEqProofs (disch := omega) only [go_sem, undef, reduceAdd, reduceSub, reduceGT, reduceEqDiff, reduceMul, ints, gd_i, w64]
     refine hN _ ?_
     try clear hN N
     refine AW.ret ?_
     simp -dsimp -implicitDefEqProofs (disch := omega) only [go_sem, undef, reduceAdd, reduceSub, reduceGT, reduceEqDiff, reduceMul]
     exact bt (tf_f (fun e => h3 (by rw [e]))).symm
    ·try simp only [cn] at h3
     refine AW.skip ?_
     simp only [thn, blk]
     refine hN4 _ ?_
     try clear hN4 N4
     refine AW.regionL envOk ?_
     simp -dsimp -implicitDefEqProofs (disch := omega) only [go_sem, undef, reduceAdd, reduceSub, reduceGT, reduceEqDiff, reduceMul, ints, gd_i, w64]
     refine ⟨k + 1, ?_, fun _ _ h => h, ?_, ?_⟩
     ·simp (disch := omega) [wks, wkA, sl, w64, ints, rows, cubes, ints, gd_i, w64] <;> omega
     ·exact ⟨by omega, take_ext 0 hl (by omega) he h3⟩
     ·first | omega | (simp only; omega)
   ·try simp only [cn] at h2
    refine AW.exit ?_
    simp only [thn, blk, if_true]
    refine hN2 _ ?_
    try clear hN2 N2
    refine AW.sr envOk (fun N hN => ?_)
    simp -dsimp -implicitDefEqProofs (disch := omega) only [go_sem, undef, reduceAdd, reduceSub, reduceGT, reduceEqDiff, reduceMul, ints, gd_i, w64]
    refine hN _ ?_
    try clear hN N
    refine AW.ret ?_
    simp -dsimp -implicitDefEqProofs (disch := omega) only [go_sem, undef, reduceAdd, reduceSub, reduceGT, reduceEqDiff, reduceMul]
    rw [show k = a.length by omega, List.take_length, hl, List.take_length] at he
    exact bt (tf_t he).symm
def Flt (n : Nat) (P : Nat → Nat → Prop) (J : Nat → Nat → Nat → Prop) (t : Int × Int × Int × Int) : Prop :=
  (∃ a b : Nat, t = (1, (a : Int), (b : Int), 0) ∧ a < n ∧ b < n ∧ P a b ∧ ∀ a' b', b' < n → (a' < a ∨ (a' = a ∧ b' < b)) → ¬P a' b') ∨
  ((∀ a b, a < n → b < n → ¬P a b) ∧ ((∃ a b c : Nat, t = (2, (a : Int), (b : Int), (c : Int)) ∧ a < b ∧ b < c ∧ c < n ∧ J a b c ∧ ∀ a' b' c', a' < b' → b' < c' → c' < n → (a' < a ∨ (a' = a ∧ (b' < b ∨ (b' = b ∧ c' < c)))) → ¬J a' b' c') ∨
    (t = (0, 0, 0, 0) ∧ ∀ a b c, a < b → b < c → c < n → ¬J a b c)))
theorem Flt.uniq {n : Nat} {P : Nat → Nat → Prop} {J : Nat → Nat → Nat → Prop} {t t' : Int × Int × Int × Int} (h : Flt n P J t) (h' : Flt n P J t') : t = t' := by
  rcases h with ⟨a, b, rfl, ha, hb, hp, hf⟩ | ⟨hn, h⟩
  · rcases h' with ⟨a', b', rfl, ha', hb', hp', hf'⟩ | ⟨hn', h'⟩
    · have h1 : a = a' ∧ b = b' := by
        apply Classical.byContradiction
        intro hne
        by_cases hlt : a < a' ∨ (a = a' ∧ b < b')
        · exact hf' a b hb hlt hp
        · exact hf a' b' hb' (by omega) hp'
      rw [h1.1, h1.2]
    · exact absurd hp (hn' a b ha hb)
  · rcases h' with ⟨a', b', rfl, ha', hb', hp', hf'⟩ | ⟨hn', h'⟩
    · exact absurd hp' (hn a' b' ha' hb')
    · rcases h with ⟨a, b, c, rfl, h1, h2, h3, hj, hf⟩ | ⟨rfl, hz⟩
      · rcases h' with ⟨a', b', c', rfl, h1', h2', h3', hj', hf'⟩ | ⟨rfl, hz'⟩
        · have h4 : a = a' ∧ b = b' ∧ c = c' := by
            apply Classical.byContradiction
            intro hne
            by_cases hlt : a < a' ∨ (a = a' ∧ (b < b' ∨ (b = b' ∧ c < c')))
            · exact hf' a b c h1 h2 h3 hlt hj
            · exact hf a' b' c' h1' h2' h3' (by omega) hj'
          rw [h4.1, h4.2.1, h4.2.2]
        · exact absurd hj (hz' a b c h1 h2 h3)
      · rcases h' with ⟨a', b', c', rfl, h1', h2', h3', hj', hf'⟩ | ⟨rfl, hz'⟩
        · exact absurd hj' (hz a' b' c' h1' h2' h3')
        · rfl
theorem least {P : Nat → Prop} (h : ∃ n, P n) : ∃ n, P n ∧ ∀ m, m < n → ¬P m := by
  apply Classical.byContradiction
  intro hc
  have : ∀ n, ¬P n := by
    intro n
    induction n using Nat.strongRecOn with
    | _ n ih => intro hp; exact hc ⟨n, hp, ih⟩
  obtain ⟨n, hn⟩ := h
  exact this n hn
theorem Flt.ex (n : Nat) (P : Nat → Nat → Prop) (J : Nat → Nat → Nat → Prop) : ∃ t, Flt n P J t := by
  by_cases h : ∃ a, ∃ b, a < n ∧ b < n ∧ P a b
  · obtain ⟨a, ha, hla⟩ := least h
    obtain ⟨b, ⟨h1, h2, h3⟩, hlb⟩ := least ha
    refine ⟨_, .inl ⟨a, b, rfl, h1, h2, h3, fun a' b' hb' hlt hp => ?_⟩⟩
    rcases hlt with hlt | ⟨rfl, hlt⟩
    · exact hla a' hlt ⟨b', by omega, hb', hp⟩
    · exact hlb b' hlt ⟨h1, hb', hp⟩
  · have hn : ∀ a b, a < n → b < n → ¬P a b := fun a b ha hb hp => h ⟨a, b, ha, hb, hp⟩
    by_cases h' : ∃ a, ∃ b, ∃ c, a < b ∧ b < c ∧ c < n ∧ J a b c
    · obtain ⟨a, ha, hla⟩ := least h'
      obtain ⟨b, hb, hlb⟩ := least ha
      obtain ⟨c, ⟨h1, h2, h3, h4⟩, hlc⟩ := least hb
      refine ⟨_, .inr ⟨hn, .inl ⟨a, b, c, rfl, h1, h2, h3, h4, fun a' b' c' g1 g2 g3 hlt hj => ?_⟩⟩⟩
      rcases hlt with hlt | ⟨rfl, hlt | ⟨rfl, hlt⟩⟩
      · exact hla a' hlt ⟨b', c', g1, g2, g3, hj⟩
      · exact hlb b' hlt ⟨c', g1, g2, g3, hj⟩
      · exact hlc c' hlt ⟨g1, g2, g3, hj⟩
    · exact ⟨_, .inr ⟨hn, .inr ⟨rfl, fun a b c h1 h2 h3 hj => h' ⟨a, b, c, h1, h2, h3, hj⟩⟩⟩⟩
def pf (p : Int) (pw : List (List Int)) (br : List (List (List Int))) (i j : Nat) : Prop :=
  mulL p pw p (brkL p pw br (unitL pw.length i) (unitL pw.length j)) ≠ brkL p pw br (pw.getD i []) (unitL pw.length j)
def jsum (p : Int) (pw : List (List Int)) (br : List (List (List Int))) (a b c : List Int) : List Int :=
  mixL p pw 1 (mixL p pw 1 (brkL p pw br (brkL p pw br a b) c) 1 (brkL p pw br (brkL p pw br b c) a)) 1 (brkL p pw br (brkL p pw br c a) b)
def jf (p : Int) (pw : List (List Int)) (br : List (List (List Int))) (i j k : Nat) : Prop := ¬zeros (jsum p pw br (unitL pw.length i) (unitL pw.length j) (unitL pw.length k))
def isFault (p : Int) (pw : List (List Int)) (br : List (List (List Int))) (t : Int × Int × Int × Int) : Prop := Flt pw.length (pf p pw br) (jf p pw br) t
def i4 (t : Int × Int × Int × Int) : AV := .t [.i .i64 t.1, .i .i64 t.2.1, .i .i64 t.2.2.1, .i .i64 t.2.2.2]
theorem i4_nr (t : Int × Int × Int × Int) : NR (i4 t) := .t _ (fun k x hk => by
  match k, hk with
  | 0, hk => cases hk; exact .i _ _
  | 1, hk => cases hk; exact .i _ _
  | 2, hk => cases hk; exact .i _ _
  | 3, hk => cases hk; exact .i _ _)
theorem unit_el {p : Int} {n k : Nat} (hp : 2 ≤ p) : El p n (unitL n k) := El.vec (fun j _ => by split <;> omega)
theorem brk_el {p : Int} {pw : List (List Int)} {br : List (List (List Int))} (s : Sh p pw br) (a b : List Int) : El p pw.length (brkL p pw br a b) := nf_el s.toTri _
theorem mix_el {p : Int} {pw : List (List Int)} (t : Tri p pw) (k m : Int) (a b : List Int) : El p pw.length (mixL p pw k a m b) := nf_el t _
theorem El.smlk {p : Int} {n : Nat} {a : List Int} (h : El p n a) (hp : p ≤ 7) {k : Int} (h1 : -50000000000000 ≤ k) (h2 : k ≤ 50000000000000) : Sml n k a := fun j hj => by
  have h3 := h.rng j hj
  have h4 : k * a.getD j 0 ≤ 50000000000000 * a.getD j 0 := Int.mul_le_mul_of_nonneg_right h2 h3.1
  have h5 : (-50000000000000) * a.getD j 0 ≤ k * a.getD j 0 := Int.mul_le_mul_of_nonneg_right h1 h3.1
  omega
theorem Sml.zero {n : Nat} {k : Int} : Sml n k (vec n (fun _ => 0)) := fun j hj => by rw [vec_get hj]; simp
theorem mix_mul {p : Int} {pw : List (List Int)} (t : Tri p pw) (k : Int) (a b : List Int) : mixL p pw k a 0 b = mulL p pw k a := nf_ext t (fun j _ => by simp)
theorem mul_el {p : Int} {pw : List (List Int)} (t : Tri p pw) (k : Int) (a : List Int) : El p pw.length (mulL p pw k a) := nf_el t _
theorem row_el {p : Int} {pw : List (List Int)} (t : Tri p pw) {i : Nat} (hi : i < pw.length) : El p pw.length (pw.getD i []) := ⟨t.len i hi, fun j hj => t.rng i j hi hj⟩
theorem spec_l31Fault_ok (p : Int) (pw : List (List Int)) (br : List (List (List Int))) (s : Sh p pw br) (t : Int × Int × Int × Int) (ht : isFault p pw br t) : ACp Try.prog 59 [ring p pw br] (i4 t) := by
 have h6 := s.n6
 have hp2 := s.p2
 have hp7 := s.p7
 have hbl := s.bl
 have hn : pw.length ≤ 1048576 := by omega
 refine ACp.intro' envOk Try.func59 rfl (by kernel_rfl) Try.ntmps59 Try.results59 (i4_nr t) (fun nx => ?_)
 refine AW.sr envOk (fun N hN => ?_)
 simp -dsimp -implicitDefEqProofs (disch := omega) only [go_sem, undef, reduceAdd, reduceSub, reduceGT, reduceEqDiff, reduceMul, ring, rows, cubes, gd_r, gd_c, w64]
 refine hN _ ?_
 try clear hN N
 refine AW.sr envOk (fun N hN => ?_)
 simp -dsimp -implicitDefEqProofs (disch := omega) only [go_sem, undef, reduceAdd, reduceSub, reduceGT, reduceEqDiff, reduceMul, ring, rows, cubes, gd_r, gd_c, w64]
 refine hN _ ?_
 try clear hN N
 refine AW.seq (fun N1 hN1 => ?_)
 refine AW.sr envOk (fun N hN => ?_)
 simp -dsimp -implicitDefEqProofs (disch := omega) only [go_sem, undef, reduceAdd, reduceSub, reduceGT, reduceEqDiff, reduceMul, ring, rows, cubes, gd_r, gd_c, w64]
 refine hN _ ?_
 try clear hN N
 refine AW.block ?_
 refine AW.loopN (α := Nat) (fun x => sl 118 [(1, .q nx 0), (6, .i .i64 pw.length), (7, .i .i64 x)]) (fun _ => upd noH nx (some [.i .i64 p, rows pw, cubes br])) (fun x m => x ≤ pw.length ∧ ∀ a b, a < x → b < pw.length → ¬pf p pw br a b) (fun x => pw.length - x) (0) ?_ ?_ (fun _ _ h => h) ?_
 ·exact ⟨by omega, by intro a b ha; omega⟩
 ·simp (disch := omega) [wks, wkA, sl, w64, ints, rows, cubes, ring, rows, cubes, gd_r, gd_c, w64] <;> omega
 ·skip
  rintro i m ⟨hi, hP⟩
  simp -dsimp -implicitDefEqProofs (disch := omega) only [go_sem, undef, reduceAdd, reduceSub, reduceGT, reduceEqDiff, reduceMul]
  refine AW.seq (fun N2 hN2 => ?_)
  refine AW.sr envOk (fun N hN => ?_)
  simp -dsimp -implicitDefEqProofs (disch := omega) only [go_sem, undef, reduceAdd, reduceSub, reduceGT, reduceEqDiff, reduceMul, ring, rows, cubes, gd_r, gd_c, w64]
  refine hN _ ?_
  try clear hN N
  refine AW.cond rfl (fun h1 => ?_) (fun h1 => ?_)
  ·try simp only [cn] at h1
   refine AW.skip ?_
   simp only [thn, blk]
   refine hN2 _ ?_
   try clear hN2 N2
   refine AW.seq (fun N3 hN3 => ?_)
   refine AW.block ?_
   refine AW.sr envOk (fun N hN => ?_)
   simp -dsimp -implicitDefEqProofs (disch := omega) only [go_sem, undef, reduceAdd, reduceSub, reduceGT, reduceEqDiff, reduceMul, ring, rows, cubes, gd_r, gd_c, w64]
   refine hN _ ?_
   try clear hN N
   refine AW.block ?_
   refine AW.loopN (α := Nat) (fun x => sl 118 [(1, .q nx 0), (6, .i .i64 pw.length), (7, .i .i64 i), (8, .i .i64 x)]) (fun _ => upd noH nx (some [.i .i64 p, rows pw, cubes br])) (fun x m => x ≤ pw.length ∧ ∀ b, b < x → ¬pf p pw br i b) (fun x => pw.length - x) (0) ?_ ?_ (fun _ _ h => h) ?_
   ·exact ⟨by omega, by intro b hb; omega⟩
   ·simp (disch := omega) [wks, wkA, sl, w64, ints, rows, cubes, ring, rows, cubes, gd_r, gd_c, w64] <;> omega
   ·skip
    rintro j m2 ⟨hj, hQ⟩
    simp -dsimp -implicitDefEqProofs (disch := omega) only [go_sem, undef, reduceAdd, reduceSub, reduceGT, reduceEqDiff, reduceMul]
    refine AW.seq (fun N4 hN4 => ?_)
    refine AW.sr envOk (fun N hN => ?_)
    simp -dsimp -implicitDefEqProofs (disch := omega) only [go_sem, undef, reduceAdd, reduceSub, reduceGT, reduceEqDiff, reduceMul, ring, rows, cubes, gd_r, gd_c, w64]
    refine hN _ ?_
    try clear hN N
    refine AW.cond rfl (fun h2 => ?_) (fun h2 => ?_)
    ·try simp only [cn] at h2
     refine AW.skip ?_
     simp only [thn, blk]
     refine hN4 _ ?_
     try clear hN4 N4
     refine AW.seq (fun N5 hN5 => ?_)
     refine AW.block ?_
     refine AW.seq (fun N hN => ?_)
     refine AW.drawL envOk (by kernel_rfl) 15 (by kernel_rfl) ?_
     simp -dsimp -implicitDefEqProofs (disch := omega) only [hr_nil, hr_one, hr_if, List.take_succ_cons, List.take_zero, List.drop_succ_cons, List.drop_zero, List.take_nil, List.drop_nil, go_sem, undef, reduceAdd, reduceSub, reduceGT, reduceEqDiff, reduceMul, ring, rows, cubes, gd_r, gd_c, w64]
     refine ⟨_, .of ((spec_l31Unit_ok p pw br hn i (by omega)).pure ), ?_⟩
     try simp -dsimp -implicitDefEqProofs (disch := omega) only [go_sem, undef, reduceAdd, reduceSub, reduceGT, reduceEqDiff, reduceMul, ring, rows, cubes, gd_r, gd_c, w64]
     refine ⟨_, .of ((spec_l31Unit_ok p pw br hn j (by omega)).pure ), ?_⟩
     try simp -dsimp -implicitDefEqProofs (disch := omega) only [go_sem, undef, reduceAdd, reduceSub, reduceGT, reduceEqDiff, reduceMul, ring, rows, cubes, gd_r, gd_c, w64]
     refine ⟨_, .of (spec_l31Bracket_ok p pw br s _ _ (unit_el hp2) (unit_el hp2)), ?_⟩
     try simp -dsimp -implicitDefEqProofs (disch := omega) only [go_sem, undef, reduceAdd, reduceSub, reduceGT, reduceEqDiff, reduceMul, ring, rows, cubes, gd_r, gd_c, w64]
     refine ⟨_, .of ((spec_l31Zero_ok p pw br hn).pure ), ?_⟩
     try simp -dsimp -implicitDefEqProofs (disch := omega) only [go_sem, undef, reduceAdd, reduceSub, reduceGT, reduceEqDiff, reduceMul, ring, rows, cubes, gd_r, gd_c, w64]
     refine ⟨_, .of ((spec_l31Mix_ok p pw br s.toTri p _ 0 _ (brk_el s _ _).len vec_len ((brk_el s _ _).smlk hp7 (by omega) (by omega)) Sml.zero).pure ), ?_⟩
     try simp -dsimp -implicitDefEqProofs (disch := omega) only [go_sem, undef, reduceAdd, reduceSub, reduceGT, reduceEqDiff, reduceMul, ring, rows, cubes, gd_r, gd_c, w64]
     refine hN _ ?_
     try clear hN N
     refine AW.seq (fun N hN => ?_)
     refine AW.drawL envOk (by kernel_rfl) 13 (by kernel_rfl) ?_
     simp -dsimp -implicitDefEqProofs (disch := omega) only [hr_nil, hr_one, hr_if, List.take_succ_cons, List.take_zero, List.drop_succ_cons, List.drop_zero, List.take_nil, List.drop_nil, go_sem, undef, reduceAdd, reduceSub, reduceGT, reduceEqDiff, reduceMul, ring, rows, cubes, gd_r, gd_c, w64]
     refine ⟨_, .of ((spec_l31Unit_ok p pw br hn j (by omega)).pure ), ?_⟩
     try simp -dsimp -implicitDefEqProofs (disch := omega) only [go_sem, undef, reduceAdd, reduceSub, reduceGT, reduceEqDiff, reduceMul, ring, rows, cubes, gd_r, gd_c, w64]
     refine ⟨_, .of (spec_l31Bracket_ok p pw br s _ _ (row_el s.toTri (by omega)) (unit_el hp2)), ?_⟩
     try simp -dsimp -implicitDefEqProofs (disch := omega) only [go_sem, undef, reduceAdd, reduceSub, reduceGT, reduceEqDiff, reduceMul, ring, rows, cubes, gd_r, gd_c, w64]
     refine ⟨_, .of (spec_l01Same_ok _ _ (by rw [(mix_el s.toTri _ _ _ _).len]; omega) (by rw [(brk_el s _ _).len]; omega)), ?_⟩
     try simp -dsimp -implicitDefEqProofs (disch := omega) only [go_sem, undef, reduceAdd, reduceSub, reduceGT, reduceEqDiff, reduceMul, ring, rows, cubes, gd_r, gd_c, w64]
     refine hN _ ?_
     try clear hN N
     refine AW.cond rfl (fun h3 => ?_) (fun h3 => ?_)
     ·try simp only [cn] at h3
      rw [mix_mul s.toTri] at h3
      refine AW.sr envOk (fun N hN => ?_)
      simp -dsimp -implicitDefEqProofs (disch := omega) only [go_sem, undef, reduceAdd, reduceSub, reduceGT, reduceEqDiff, reduceMul, ring, rows, cubes, gd_r, gd_c, w64]
      refine hN _ ?_
      try clear hN N
      refine AW.ret ?_
      simp -dsimp -implicitDefEqProofs (disch := omega) only [go_sem, undef, reduceAdd, reduceSub, reduceGT, reduceEqDiff, reduceMul]
      rw [ht.uniq (.inl ⟨i, j, rfl, by omega, by omega, h3, fun a' b' hb' hlt => ?_⟩)]
      ·rfl
      ·rcases hlt with hlt | ⟨rfl, hlt⟩
       ·exact hP a' b' hlt hb'
       ·exact hQ b' hlt
     ·try simp only [cn] at h3
      rw [mix_mul s.toTri] at h3
      refine AW.skip ?_
      simp only [thn, blk]
      refine hN5 _ ?_
      try clear hN5 N5
      refine AW.regionL envOk ?_
      simp -dsimp -implicitDefEqProofs (disch := omega) only [go_sem, undef, reduceAdd, reduceSub, reduceGT, reduceEqDiff, reduceMul, ring, rows, cubes, gd_r, gd_c, w64]
      refine ⟨j + 1, ?_, fun _ _ h => h, ?_, ?_⟩
      ·simp (disch := omega) [wks, wkA, sl, w64, ints, rows, cubes, ring, rows, cubes, gd_r, gd_c, w64] <;> omega
      ·refine ⟨by omega, fun b hb => ?_⟩
       by_cases e : b = j
       ·subst e; exact fun hpf => hpf h3
       ·exact hQ b (by omega)
      ·first | omega | (simp only; omega)
    ·try simp only [cn] at h2
     refine AW.exit ?_
     simp only [thn, blk, if_true]
     refine hN3 _ ?_
     try clear hN3 N3
     refine AW.regionL envOk ?_
     simp -dsimp -implicitDefEqProofs (disch := omega) only [go_sem, undef, reduceAdd, reduceSub, reduceGT, reduceEqDiff, reduceMul, ring, rows, cubes, gd_r, gd_c, w64]
     refine ⟨i + 1, ?_, fun _ _ h => h, ?_, ?_⟩
     ·simp (disch := omega) [wks, wkA, sl, w64, ints, rows, cubes, ring, rows, cubes, gd_r, gd_c, w64] <;> omega
     ·refine ⟨by omega, fun a b ha hb => ?_⟩
      by_cases e : a = i
      ·subst e; exact hQ b (by omega)
      ·exact hP a b (by omega) hb
     ·first | omega | (simp only; omega)
  ·try simp only [cn] at h1
   refine AW.exit ?_
   simp only [thn, blk, if_true]
   refine hN1 _ ?_
   try clear hN1 N1
   refine AW.seq (fun N6 hN6 => ?_)
   refine AW.sr envOk (fun N hN => ?_)
   simp -dsimp -implicitDefEqProofs (disch := omega) only [go_sem, undef, reduceAdd, reduceSub, reduceGT, reduceEqDiff, reduceMul, ring, rows, cubes, gd_r, gd_c, w64]
   refine hN _ ?_
   try clear hN N
   refine AW.block ?_
   refine AW.loopN (α := Nat) (fun x => sl 118 [(1, .q nx 0), (6, .i .i64 pw.length), (10, .i .i64 x)]) (fun _ => upd noH nx (some [.i .i64 p, rows pw, cubes br])) (fun x m => x ≤ pw.length ∧ ∀ a b c, a < x → a < b → b < c → c < pw.length → ¬jf p pw br a b c) (fun x => pw.length - x) (0) ?_ ?_ (fun _ _ h => h) ?_
   ·exact ⟨by omega, by intro a b c ha; omega⟩
   ·simp (disch := omega) [wks, wkA, sl, w64, ints, rows, cubes, ring, rows, cubes, gd_r, gd_c, w64] <;> omega
   ·skip
    rintro u m3 ⟨hu, hU⟩
    simp -dsimp -implicitDefEqProofs (disch := omega) only [go_sem, undef, reduceAdd, reduceSub, reduceGT, reduceEqDiff, reduceMul]
    refine AW.seq (fun N7 hN7 => ?_)
    refine AW.sr envOk (fun N hN => ?_)
    simp -dsimp -implicitDefEqProofs (disch := omega) only [go_sem, undef, reduceAdd, reduceSub, reduceGT, reduceEqDiff, reduceMul, ring, rows, cubes, gd_r, gd_c, w64]
    refine hN _ ?_
    try clear hN N
    refine AW.cond rfl (fun h4 => ?_) (fun h4 => ?_)
    ·try simp only [cn] at h4
     refine AW.skip ?_
     simp only [thn, blk]
     refine hN7 _ ?_
     try clear hN7 N7
     refine AW.seq (fun N8 hN8 => ?_)
     refine AW.block ?_
     refine AW.sr envOk (fun N hN => ?_)
     simp -dsimp -implicitDefEqProofs (disch := omega) only [go_sem, undef, reduceAdd, reduceSub, reduceGT, reduceEqDiff, reduceMul, ring, rows, cubes, gd_r, gd_c, w64]
     refine hN _ ?_
     try clear hN N
     refine AW.block ?_
     refine AW.loopN (α := Nat) (fun x => sl 118 [(1, .q nx 0), (6, .i .i64 pw.length), (10, .i .i64 u), (11, .i .i64 x)]) (fun _ => upd noH nx (some [.i .i64 p, rows pw, cubes br])) (fun x m => u < x ∧ x ≤ pw.length ∧ ∀ b c, b < x → u < b → b < c → c < pw.length → ¬jf p pw br u b c) (fun x => pw.length - x) (u + 1) ?_ ?_ (fun _ _ h => h) ?_
     ·exact ⟨by omega, by omega, by intro b c hb; omega⟩
     ·simp (disch := omega) [wks, wkA, sl, w64, ints, rows, cubes, ring, rows, cubes, gd_r, gd_c, w64] <;> omega
     ·skip
      rintro v m4 ⟨huv, hv, hV⟩
      simp -dsimp -implicitDefEqProofs (disch := omega) only [go_sem, undef, reduceAdd, reduceSub, reduceGT, reduceEqDiff, reduceMul]
      refine AW.seq (fun N9 hN9 => ?_)
      refine AW.sr envOk (fun N hN => ?_)
      simp -dsimp -implicitDefEqProofs (disch := omega) only [go_sem, undef, reduceAdd, reduceSub, reduceGT, reduceEqDiff, reduceMul, ring, rows, cubes, gd_r, gd_c, w64]
      refine hN _ ?_
      try clear hN N
      refine AW.cond rfl (fun h5 => ?_) (fun h5 => ?_)
      ·try simp only [cn] at h5
       refine AW.skip ?_
       simp only [thn, blk]
       refine hN9 _ ?_
       try clear hN9 N9
       refine AW.seq (fun N10 hN10 => ?_)
       refine AW.block ?_
       refine AW.sr envOk (fun N hN => ?_)
       simp -dsimp -implicitDefEqProofs (disch := omega) only [go_sem, undef, reduceAdd, reduceSub, reduceGT, reduceEqDiff, reduceMul, ring, rows, cubes, gd_r, gd_c, w64]
       refine hN _ ?_
       try clear hN N
       refine AW.block ?_
       refine AW.loopN (α := Nat) (fun x => sl 118 [(1, .q nx 0), (6, .i .i64 pw.length), (10, .i .i64 u), (11, .i .i64 v), (12, .i .i64 x)]) (fun _ => upd noH nx (some [.i .i64 p, rows pw, cubes br])) (fun x m => v < x ∧ x ≤ pw.length ∧ ∀ c, c < x → v < c → ¬jf p pw br u v c) (fun x => pw.length - x) (v + 1) ?_ ?_ (fun _ _ h => h) ?_
       ·exact ⟨by omega, by omega, by intro c hc; omega⟩
       ·simp (disch := omega) [wks, wkA, sl, w64, ints, rows, cubes, ring, rows, cubes, gd_r, gd_c, w64] <;> omega
       ·skip
        rintro w m5 ⟨hvw, hw, hW⟩
        simp -dsimp -implicitDefEqProofs (disch := omega) only [go_sem, undef, reduceAdd, reduceSub, reduceGT, reduceEqDiff, reduceMul]
        refine AW.seq (fun N11 hN11 => ?_)
        refine AW.sr envOk (fun N hN => ?_)
        simp -dsimp -implicitDefEqProofs (disch := omega) only [go_sem, undef, reduceAdd, reduceSub, reduceGT, reduceEqDiff, reduceMul, ring, rows, cubes, gd_r, gd_c, w64]
        refine hN _ ?_
        try clear hN N
        refine AW.cond rfl (fun h6 => ?_) (fun h6 => ?_)
        ·try simp only [cn] at h6
         refine AW.skip ?_
         simp only [thn, blk]
         refine hN11 _ ?_
         try clear hN11 N11
         refine AW.seq (fun N12 hN12 => ?_)
         refine AW.block ?_
         refine AW.seq (fun N hN => ?_)
         refine AW.drawL envOk (by kernel_rfl) 12 (by kernel_rfl) ?_
         simp -dsimp -implicitDefEqProofs (disch := omega) only [hr_nil, hr_one, hr_if, List.take_succ_cons, List.take_zero, List.drop_succ_cons, List.drop_zero, List.take_nil, List.drop_nil, go_sem, undef, reduceAdd, reduceSub, reduceGT, reduceEqDiff, reduceMul, ring, rows, cubes, gd_r, gd_c, w64]
         refine ⟨_, .of ((spec_l31Unit_ok p pw br hn u (by omega)).pure ), ?_⟩
         try simp -dsimp -implicitDefEqProofs (disch := omega) only [go_sem, undef, reduceAdd, reduceSub, reduceGT, reduceEqDiff, reduceMul, ring, rows, cubes, gd_r, gd_c, w64]
         refine ⟨_, .of ((spec_l31Unit_ok p pw br hn v (by omega)).pure ), ?_⟩
         try simp -dsimp -implicitDefEqProofs (disch := omega) only [go_sem, undef, reduceAdd, reduceSub, reduceGT, reduceEqDiff, reduceMul, ring, rows, cubes, gd_r, gd_c, w64]
         refine ⟨_, .of ((spec_l31Unit_ok p pw br hn w (by omega)).pure ), ?_⟩
         try simp -dsimp -implicitDefEqProofs (disch := omega) only [go_sem, undef, reduceAdd, reduceSub, reduceGT, reduceEqDiff, reduceMul, ring, rows, cubes, gd_r, gd_c, w64]
         refine hN _ ?_
         try clear hN N
         refine AW.seq (fun N hN => ?_)
         refine AW.drawL envOk (by kernel_rfl) 17 (by kernel_rfl) ?_
         simp -dsimp -implicitDefEqProofs (disch := omega) only [hr_nil, hr_one, hr_if, List.take_succ_cons, List.take_zero, List.drop_succ_cons, List.drop_zero, List.take_nil, List.drop_nil, go_sem, undef, reduceAdd, reduceSub, reduceGT, reduceEqDiff, reduceMul, ring, rows, cubes, gd_r, gd_c, w64]
         refine ⟨_, .of (spec_l31Bracket_ok p pw br s _ _ (unit_el hp2) (unit_el hp2)), ?_⟩
         try simp -dsimp -implicitDefEqProofs (disch := omega) only [go_sem, undef, reduceAdd, reduceSub, reduceGT, reduceEqDiff, reduceMul, ring, rows, cubes, gd_r, gd_c, w64]
         refine ⟨_, .of (spec_l31Bracket_ok p pw br s _ _ (brk_el s _ _) (unit_el hp2)), ?_⟩
         try simp -dsimp -implicitDefEqProofs (disch := omega) only [go_sem, undef, reduceAdd, reduceSub, reduceGT, reduceEqDiff, reduceMul, ring, rows, cubes, gd_r, gd_c, w64]
         refine ⟨_, .of (spec_l31Bracket_ok p pw br s _ _ (unit_el hp2) (unit_el hp2)), ?_⟩
         try simp -dsimp -implicitDefEqProofs (disch := omega) only [go_sem, undef, reduceAdd, reduceSub, reduceGT, reduceEqDiff, reduceMul, ring, rows, cubes, gd_r, gd_c, w64]
         refine ⟨_, .of (spec_l31Bracket_ok p pw br s _ _ (brk_el s _ _) (unit_el hp2)), ?_⟩
         try simp -dsimp -implicitDefEqProofs (disch := omega) only [go_sem, undef, reduceAdd, reduceSub, reduceGT, reduceEqDiff, reduceMul, ring, rows, cubes, gd_r, gd_c, w64]
         refine ⟨_, .of ((spec_l31Mix_ok p pw br s.toTri 1 _ 1 _ (brk_el s _ _).len (brk_el s _ _).len ((brk_el s _ _).sml1 hp7) ((brk_el s _ _).sml1 hp7)).pure ), ?_⟩
         try simp -dsimp -implicitDefEqProofs (disch := omega) only [go_sem, undef, reduceAdd, reduceSub, reduceGT, reduceEqDiff, reduceMul, ring, rows, cubes, gd_r, gd_c, w64]
         refine hN _ ?_
         try clear hN N
         refine AW.seq (fun N hN => ?_)
         refine AW.drawL envOk (by kernel_rfl) 12 (by kernel_rfl) ?_
         simp -dsimp -implicitDefEqProofs (disch := omega) only [hr_nil, hr_one, hr_if, List.take_succ_cons, List.take_zero, List.drop_succ_cons, List.drop_zero, List.take_nil, List.drop_nil, go_sem, undef, reduceAdd, reduceSub, reduceGT, reduceEqDiff, reduceMul, ring, rows, cubes, gd_r, gd_c, w64]
         refine ⟨_, .of (spec_l31Bracket_ok p pw br s _ _ (unit_el hp2) (unit_el hp2)), ?_⟩
         try simp -dsimp -implicitDefEqProofs (disch := omega) only [go_sem, undef, reduceAdd, reduceSub, reduceGT, reduceEqDiff, reduceMul, ring, rows, cubes, gd_r, gd_c, w64]
         refine ⟨_, .of (spec_l31Bracket_ok p pw br s _ _ (brk_el s _ _) (unit_el hp2)), ?_⟩
         try simp -dsimp -implicitDefEqProofs (disch := omega) only [go_sem, undef, reduceAdd, reduceSub, reduceGT, reduceEqDiff, reduceMul, ring, rows, cubes, gd_r, gd_c, w64]
         refine ⟨_, .of ((spec_l31Mix_ok p pw br s.toTri 1 _ 1 _ (mix_el s.toTri _ _ _ _).len (brk_el s _ _).len ((mix_el s.toTri _ _ _ _).sml1 hp7) ((brk_el s _ _).sml1 hp7)).pure ), ?_⟩
         try simp -dsimp -implicitDefEqProofs (disch := omega) only [go_sem, undef, reduceAdd, reduceSub, reduceGT, reduceEqDiff, reduceMul, ring, rows, cubes, gd_r, gd_c, w64]
         refine ⟨_, .of (spec_l01Zero_ok _ (by rw [(mix_el s.toTri _ _ _ _).len]; omega)), ?_⟩
         try simp -dsimp -implicitDefEqProofs (disch := omega) only [go_sem, undef, reduceAdd, reduceSub, reduceGT, reduceEqDiff, reduceMul, ring, rows, cubes, gd_r, gd_c, w64]
         refine hN _ ?_
         try clear hN N
         refine AW.cond rfl (fun h7 => ?_) (fun h7 => ?_)
         ·try simp only [cn] at h7
          refine AW.sr envOk (fun N hN => ?_)
          simp -dsimp -implicitDefEqProofs (disch := omega) only [go_sem, undef, reduceAdd, reduceSub, reduceGT, reduceEqDiff, reduceMul, ring, rows, cubes, gd_r, gd_c, w64]
          refine hN _ ?_
          try clear hN N
          refine AW.ret ?_
          simp -dsimp -implicitDefEqProofs (disch := omega) only [go_sem, undef, reduceAdd, reduceSub, reduceGT, reduceEqDiff, reduceMul]
          rw [ht.uniq (.inr ⟨fun a b ha hb => hP a b (by omega) hb, .inl ⟨u, v, w, rfl, huv, hvw, by omega, h7, fun a' b' c' g1 g2 g3 hlt => ?_⟩⟩)]
          ·rfl
          ·rcases hlt with hlt | ⟨rfl, hlt | ⟨rfl, hlt⟩⟩
           ·exact hU a' b' c' hlt g1 g2 g3
           ·exact hV b' c' hlt g1 g2 g3
           ·exact hW c' hlt g2
         ·try simp only [cn] at h7
          refine AW.skip ?_
          simp only [thn, blk]
          refine hN12 _ ?_
          try clear hN12 N12
          refine AW.regionL envOk ?_
          simp -dsimp -implicitDefEqProofs (disch := omega) only [go_sem, undef, reduceAdd, reduceSub, reduceGT, reduceEqDiff, reduceMul, ring, rows, cubes, gd_r, gd_c, w64]
          refine ⟨w + 1, ?_, fun _ _ h => h, ?_, ?_⟩
          ·simp (disch := omega) [wks, wkA, sl, w64, ints, rows, cubes, ring, rows, cubes, gd_r, gd_c, w64] <;> omega
          ·refine ⟨by omega, by omega, fun c hc hvc => ?_⟩
           by_cases e : c = w
           ·subst e; exact fun hj => hj h7
           ·exact hW c (by omega) hvc
          ·first | omega | (simp only; omega)
        ·try simp only [cn] at h6
         refine AW.exit ?_
         simp only [thn, blk, if_true]
         refine hN10 _ ?_
         try clear hN10 N10
         refine AW.regionL envOk ?_
         simp -dsimp -implicitDefEqProofs (disch := omega) only [go_sem, undef, reduceAdd, reduceSub, reduceGT, reduceEqDiff, reduceMul, ring, rows, cubes, gd_r, gd_c, w64]
         refine ⟨v + 1, ?_, fun _ _ h => h, ?_, ?_⟩
         ·simp (disch := omega) [wks, wkA, sl, w64, ints, rows, cubes, ring, rows, cubes, gd_r, gd_c, w64] <;> omega
         ·refine ⟨by omega, by omega, fun b c hb hub hbc hc => ?_⟩
          by_cases e : b = v
          ·subst e; exact hW c (by omega) hbc
          ·exact hV b c (by omega) hub hbc hc
         ·first | omega | (simp only; omega)
      ·try simp only [cn] at h5
       refine AW.exit ?_
       simp only [thn, blk, if_true]
       refine hN8 _ ?_
       try clear hN8 N8
       refine AW.regionL envOk ?_
       simp -dsimp -implicitDefEqProofs (disch := omega) only [go_sem, undef, reduceAdd, reduceSub, reduceGT, reduceEqDiff, reduceMul, ring, rows, cubes, gd_r, gd_c, w64]
       refine ⟨u + 1, ?_, fun _ _ h => h, ?_, ?_⟩
       ·simp (disch := omega) [wks, wkA, sl, w64, ints, rows, cubes, ring, rows, cubes, gd_r, gd_c, w64] <;> omega
       ·refine ⟨by omega, fun a b c ha hab hbc hc => ?_⟩
        by_cases e : a = u
        ·subst e; exact hV b c (by omega) hab hbc hc
        ·exact hU a b c (by omega) hab hbc hc
       ·first | omega | (simp only; omega)
    ·try simp only [cn] at h4
     refine AW.exit ?_
     simp only [thn, blk, if_true]
     refine hN6 _ ?_
     try clear hN6 N6
     refine AW.sr envOk (fun N hN => ?_)
     simp -dsimp -implicitDefEqProofs (disch := omega) only [go_sem, undef, reduceAdd, reduceSub, reduceGT, reduceEqDiff, reduceMul, ring, rows, cubes, gd_r, gd_c, w64]
     refine hN _ ?_
     try clear hN N
     refine AW.ret ?_
     simp -dsimp -implicitDefEqProofs (disch := omega) only [go_sem, undef, reduceAdd, reduceSub, reduceGT, reduceEqDiff, reduceMul]
     rw [ht.uniq (.inr ⟨fun a b ha hb => hP a b (by omega) hb, .inr ⟨rfl, fun a b c h1 h2 h3 => hU a b c (by omega) h1 h2 h3⟩⟩)]
     rfl
theorem impl_lieFault_ok (p : Int) (pw : List (List Int)) (br : List (List (List Int))) (s : Sh p pw br) (t : Int × Int × Int × Int) (ht : isFault p pw br t) : ACp Try.prog 65 [ringP p pw br] (i4 t) := by
 have h6 := s.n6
 have hp2 := s.p2
 have hp7 := s.p7
 have hbl := s.bl
 have hn : pw.length ≤ 1048576 := by omega
 refine ACp.intro' envOk Try.func65 rfl (by kernel_rfl) Try.ntmps65 Try.results65 (i4_nr t) (fun nx => ?_)
 refine AW.sr envOk (fun N hN => ?_)
 simp -dsimp -implicitDefEqProofs (disch := omega) only [go_sem, undef, reduceAdd, reduceSub, reduceGT, reduceEqDiff, reduceMul, ringP, rows, cubes, gd_r, gd_c, w64]
 refine hN _ ?_
 try clear hN N
 refine AW.sr envOk (fun N hN => ?_)
 simp -dsimp -implicitDefEqProofs (disch := omega) only [go_sem, undef, reduceAdd, reduceSub, reduceGT, reduceEqDiff, reduceMul, ringP, rows, cubes, gd_r, gd_c, w64]
 refine hN _ ?_
 try clear hN N
 refine AW.seq (fun N1 hN1 => ?_)
 refine AW.sr envOk (fun N hN => ?_)
 simp -dsimp -implicitDefEqProofs (disch := omega) only [go_sem, undef, reduceAdd, reduceSub, reduceGT, reduceEqDiff, reduceMul, ringP, rows, cubes, gd_r, gd_c, w64]
 refine hN _ ?_
 try clear hN N
 refine AW.block ?_
 refine AW.loopN (α := Nat) (fun x => sl 122 [(0, ringP p pw br), (6, .i .i64 pw.length), (23, .i .i64 pw.length), (24, .i .i64 x)]) (fun _ => noH) (fun x m => x ≤ pw.length ∧ ∀ a b, a < x → b < pw.length → ¬pf p pw br a b) (fun x => pw.length - x) (0) ?_ ?_ (fun _ _ h => h) ?_
 ·exact ⟨by omega, by intro a b ha; omega⟩
 ·simp (disch := omega) [wks, wkA, sl, w64, ints, rows, cubes, ringP, rows, cubes, gd_r, gd_c, w64] <;> omega
 ·skip
  rintro i m ⟨hi, hP⟩
  simp -dsimp -implicitDefEqProofs (disch := omega) only [go_sem, undef, reduceAdd, reduceSub, reduceGT, reduceEqDiff, reduceMul]
  refine AW.sr envOk (fun N hN => ?_)
  simp -dsimp -implicitDefEqProofs (disch := omega) only [go_sem, undef, reduceAdd, reduceSub, reduceGT, reduceEqDiff, reduceMul, ringP, rows, cubes, gd_r, gd_c, w64]
  refine hN _ ?_
  try clear hN N
  refine AW.seq (fun N2 hN2 => ?_)
  refine AW.cond rfl (fun h1 => ?_) (fun h1 => ?_)
  ·try simp only [cn] at h1
   refine AW.skip ?_
   simp only [thn, blk]
   refine hN2 _ ?_
   try clear hN2 N2
   refine AW.seq (fun N3 hN3 => ?_)
   refine AW.block ?_
   refine AW.sr envOk (fun N hN => ?_)
   simp -dsimp -implicitDefEqProofs (disch := omega) only [go_sem, undef, reduceAdd, reduceSub, reduceGT, reduceEqDiff, reduceMul, ringP, rows, cubes, gd_r, gd_c, w64]
   refine hN _ ?_
   try clear hN N
   refine AW.sr envOk (fun N hN => ?_)
   simp -dsimp -implicitDefEqProofs (disch := omega) only [go_sem, undef, reduceAdd, reduceSub, reduceGT, reduceEqDiff, reduceMul, ringP, rows, cubes, gd_r, gd_c, w64]
   refine hN _ ?_
   try clear hN N
   refine AW.block ?_
   refine AW.loopN (α := Nat) (fun x => sl 122 [(0, ringP p pw br), (6, .i .i64 pw.length), (7, .i .i64 i), (23, .i .i64 pw.length), (24, .i .i64 i), (27, .i .i64 pw.length), (28, .i .i64 x)]) (fun _ => noH) (fun x m => x ≤ pw.length ∧ ∀ b, b < x → ¬pf p pw br i b) (fun x => pw.length - x) (0) ?_ ?_ (fun _ _ h => h) ?_
   ·exact ⟨by omega, by intro b hb; omega⟩
   ·simp (disch := omega) [wks, wkA, sl, w64, ints, rows, cubes, ringP, rows, cubes, gd_r, gd_c, w64] <;> omega
   ·skip
    rintro j m2 ⟨hj, hQ⟩
    simp -dsimp -implicitDefEqProofs (disch := omega) only [go_sem, undef, reduceAdd, reduceSub, reduceGT, reduceEqDiff, reduceMul]
    refine AW.sr envOk (fun N hN => ?_)
    simp -dsimp -implicitDefEqProofs (disch := omega) only [go_sem, undef, reduceAdd, reduceSub, reduceGT, reduceEqDiff, reduceMul, ringP, rows, cubes, gd_r, gd_c, w64]
    refine hN _ ?_
    try clear hN N
    refine AW.seq (fun N4 hN4 => ?_)
    refine AW.cond rfl (fun h2 => ?_) (fun h2 => ?_)
    ·try simp only [cn] at h2
     refine AW.skip ?_
     simp only [thn, blk]
     refine hN4 _ ?_
     try clear hN4 N4
     refine AW.seq (fun N5 hN5 => ?_)
     refine AW.block ?_
     refine AW.sr envOk (fun N hN => ?_)
     simp -dsimp -implicitDefEqProofs (disch := omega) only [go_sem, undef, reduceAdd, reduceSub, reduceGT, reduceEqDiff, reduceMul, ringP, rows, cubes, gd_r, gd_c, w64]
     refine hN _ ?_
     try clear hN N
     refine AW.sr envOk (fun N hN => ?_)
     simp -dsimp -implicitDefEqProofs (disch := omega) only [go_sem, undef, reduceAdd, reduceSub, reduceGT, reduceEqDiff, reduceMul, ringP, rows, cubes, gd_r, gd_c, w64]
     refine AC.pure (.of ((impl_unitVector_ok pw.length i hn (by omega)).pure )) ?_
     try simp -dsimp -implicitDefEqProofs (disch := omega) only [go_sem, undef, reduceAdd, reduceSub, reduceGT, reduceEqDiff, reduceMul, ringP, rows, cubes, gd_r, gd_c, w64]
     refine AC.pure (.of ((impl_unitVector_ok pw.length j hn (by omega)).pure )) ?_
     try simp -dsimp -implicitDefEqProofs (disch := omega) only [go_sem, undef, reduceAdd, reduceSub, reduceGT, reduceEqDiff, reduceMul, ringP, rows, cubes, gd_r, gd_c, w64]
     refine hN _ ?_
     try clear hN N
     refine AW.seq (fun N hN => ?_)
     refine AW.drawL envOk (by kernel_rfl) 22 (by kernel_rfl) ?_
     simp -dsimp -implicitDefEqProofs (disch := omega) only [hr_nil, hr_one, hr_if, List.take_succ_cons, List.take_zero, List.drop_succ_cons, List.drop_zero, List.take_nil, List.drop_nil, go_sem, undef, reduceAdd, reduceSub, reduceGT, reduceEqDiff, reduceMul, ringP, rows, cubes, gd_r, gd_c, w64]
     refine ⟨_, .of ((impl_bracket_ok p pw br s _ _ (unit_el hp2) (unit_el hp2)).pure ), ?_⟩
     try simp -dsimp -implicitDefEqProofs (disch := omega) only [go_sem, undef, reduceAdd, reduceSub, reduceGT, reduceEqDiff, reduceMul, ringP, rows, cubes, gd_r, gd_c, w64]
     refine ⟨_, .of ((impl_timesLie_ok p pw br s.toTri p _ (brk_el s _ _).len ((brk_el s _ _).smlk hp7 (by omega) (by omega)) ⟨by omega, by omega⟩).pure ), ?_⟩
     try simp -dsimp -implicitDefEqProofs (disch := omega) only [go_sem, undef, reduceAdd, reduceSub, reduceGT, reduceEqDiff, reduceMul, ringP, rows, cubes, gd_r, gd_c, w64]
     refine ⟨_, .of ((impl_bracket_ok p pw br s _ _ (row_el s.toTri (by omega)) (unit_el hp2)).pure ), ?_⟩
     try simp -dsimp -implicitDefEqProofs (disch := omega) only [go_sem, undef, reduceAdd, reduceSub, reduceGT, reduceEqDiff, reduceMul, ringP, rows, cubes, gd_r, gd_c, w64]
     refine ⟨_, .of (slices_Equal_int64_int64_ok _ _ (by rw [(mul_el s.toTri _ _).len]; omega) (by rw [(brk_el s _ _).len]; omega)), ?_⟩
     try simp -dsimp -implicitDefEqProofs (disch := omega) only [go_sem, undef, reduceAdd, reduceSub, reduceGT, reduceEqDiff, reduceMul, ringP, rows, cubes, gd_r, gd_c, w64]
     refine hN _ ?_
     try clear hN N
     refine AW.cond rfl (fun h3 => ?_) (fun h3 => ?_)
     ·try simp only [cn] at h3
      refine AW.sr envOk (fun N hN => ?_)
      simp -dsimp -implicitDefEqProofs (disch := omega) only [go_sem, undef, reduceAdd, reduceSub, reduceGT, reduceEqDiff, reduceMul, ringP, rows, cubes, gd_r, gd_c, w64]
      refine hN _ ?_
      try clear hN N
      refine AW.ret ?_
      simp -dsimp -implicitDefEqProofs (disch := omega) only [go_sem, undef, reduceAdd, reduceSub, reduceGT, reduceEqDiff, reduceMul]
      rw [ht.uniq (.inl ⟨i, j, rfl, by omega, by omega, h3, fun a' b' hb' hlt => ?_⟩)]
      ·rfl
      ·rcases hlt with hlt | ⟨rfl, hlt⟩
       ·exact hP a' b' hlt hb'
       ·exact hQ b' hlt
     ·try simp only [cn] at h3
      refine AW.skip ?_
      simp only [thn, blk]
      refine hN5 _ ?_
      try clear hN5 N5
      refine AW.regionL envOk ?_
      simp -dsimp -implicitDefEqProofs (disch := omega) only [go_sem, undef, reduceAdd, reduceSub, reduceGT, reduceEqDiff, reduceMul, ringP, rows, cubes, gd_r, gd_c, w64]
      refine ⟨j + 1, ?_, fun _ _ h => h, ?_, ?_⟩
      ·simp (disch := omega) [wks, wkA, sl, w64, ints, rows, cubes, ringP, rows, cubes, gd_r, gd_c, w64] <;> omega
      ·refine ⟨by omega, fun b hb => ?_⟩
       by_cases e : b = j
       ·subst e; exact fun hpf => hpf h3
       ·exact hQ b (by omega)
      ·first | omega | (simp only; omega)
    ·try simp only [cn] at h2
     refine AW.exit ?_
     simp only [thn, blk, if_true]
     refine hN3 _ ?_
     try clear hN3 N3
     refine AW.regionL envOk ?_
     simp -dsimp -implicitDefEqProofs (disch := omega) only [go_sem, undef, reduceAdd, reduceSub, reduceGT, reduceEqDiff, reduceMul, ringP, rows, cubes, gd_r, gd_c, w64]
     refine ⟨i + 1, ?_, fun _ _ h => h, ?_, ?_⟩
     ·simp (disch := omega) [wks, wkA, sl, w64, ints, rows, cubes, ringP, rows, cubes, gd_r, gd_c, w64] <;> omega
     ·refine ⟨by omega, fun a b ha hb => ?_⟩
      by_cases e : a = i
      ·subst e; exact hQ b (by omega)
      ·exact hP a b (by omega) hb
     ·first | omega | (simp only; omega)
  ·try simp only [cn] at h1
   refine AW.exit ?_
   simp only [thn, blk, if_true]
   refine hN1 _ ?_
   try clear hN1 N1
   refine AW.seq (fun N6 hN6 => ?_)
   refine AW.sr envOk (fun N hN => ?_)
   simp -dsimp -implicitDefEqProofs (disch := omega) only [go_sem, undef, reduceAdd, reduceSub, reduceGT, reduceEqDiff, reduceMul, ringP, rows, cubes, gd_r, gd_c, w64]
   refine hN _ ?_
   try clear hN N
   refine AW.block ?_
   refine AW.loopN (α := Nat) (fun x => sl 122 [(0, ringP p pw br), (6, .i .i64 pw.length), (63, .i .i64 pw.length), (64, .i .i64 x)]) (fun _ => noH) (fun x m => x ≤ pw.length ∧ ∀ a b c, a < x → a < b → b < c → c < pw.length → ¬jf p pw br a b c) (fun x => pw.length - x) (0) ?_ ?_ (fun _ _ h => h) ?_
   ·exact ⟨by omega, by intro a b c ha; omega⟩
   ·simp (disch := omega) [wks, wkA, sl, w64, ints, rows, cubes, ringP, rows, cubes, gd_r, gd_c, w64] <;> omega
   ·skip
    rintro u m3 ⟨hu, hU⟩
    simp -dsimp -implicitDefEqProofs (disch := omega) only [go_sem, undef, reduceAdd, reduceSub, reduceGT, reduceEqDiff, reduceMul]
    refine AW.sr envOk (fun N hN => ?_)
    simp -dsimp -implicitDefEqProofs (disch := omega) only [go_sem, undef, reduceAdd, reduceSub, reduceGT, reduceEqDiff, reduceMul, ringP, rows, cubes, gd_r, gd_c, w64]
    refine hN _ ?_
    try clear hN N
    refine AW.seq (fun N7 hN7 => ?_)
    refine AW.cond rfl (fun h4 => ?_) (fun h4 => ?_)
    ·try simp only [cn] at h4
     refine AW.skip ?_
     simp only [thn, blk]
     refine hN7 _ ?_
     try clear hN7 N7
     refine AW.seq (fun N8 hN8 => ?_)
     refine AW.block ?_
     refine AW.sr envOk (fun N hN => ?_)
     simp -dsimp -implicitDefEqProofs (disch := omega) only [go_sem, undef, reduceAdd, reduceSub, reduceGT, reduceEqDiff, reduceMul, ringP, rows, cubes, gd_r, gd_c, w64]
     refine hN _ ?_
     try clear hN N
     refine AW.sr envOk (fun N hN => ?_)
     simp -dsimp -implicitDefEqProofs (disch := omega) only [go_sem, undef, reduceAdd, reduceSub, reduceGT, reduceEqDiff, reduceMul, ringP, rows, cubes, gd_r, gd_c, w64]
     refine hN _ ?_
     try clear hN N
     refine AW.block ?_
     refine AW.loopN (α := Nat) (fun x => sl 122 [(0, ringP p pw br), (6, .i .i64 pw.length), (11, .i .i64 u), (12, .i .i64 x), (63, .i .i64 pw.length), (64, .i .i64 u)]) (fun _ => noH) (fun x m => u < x ∧ x ≤ pw.length ∧ ∀ b c, b < x → u < b → b < c → c < pw.length → ¬jf p pw br u b c) (fun x => pw.length - x) (u + 1) ?_ ?_ (fun _ _ h => h) ?_
     ·exact ⟨by omega, by omega, by intro b c hb; omega⟩
     ·simp (disch := omega) [wks, wkA, sl, w64, ints, rows, cubes, ringP, rows, cubes, gd_r, gd_c, w64] <;> omega
     ·skip
      rintro v m4 ⟨huv, hv, hV⟩
      simp -dsimp -implicitDefEqProofs (disch := omega) only [go_sem, undef, reduceAdd, reduceSub, reduceGT, reduceEqDiff, reduceMul]
      refine AW.seq (fun N9 hN9 => ?_)
      refine AW.sr envOk (fun N hN => ?_)
      simp -dsimp -implicitDefEqProofs (disch := omega) only [go_sem, undef, reduceAdd, reduceSub, reduceGT, reduceEqDiff, reduceMul, ringP, rows, cubes, gd_r, gd_c, w64]
      refine hN _ ?_
      try clear hN N
      refine AW.cond rfl (fun h5 => ?_) (fun h5 => ?_)
      ·try simp only [cn] at h5
       refine AW.skip ?_
       simp only [thn, blk]
       refine hN9 _ ?_
       try clear hN9 N9
       refine AW.seq (fun N10 hN10 => ?_)
       refine AW.block ?_
       refine AW.sr envOk (fun N hN => ?_)
       simp -dsimp -implicitDefEqProofs (disch := omega) only [go_sem, undef, reduceAdd, reduceSub, reduceGT, reduceEqDiff, reduceMul, ringP, rows, cubes, gd_r, gd_c, w64]
       refine hN _ ?_
       try clear hN N
       refine AW.block ?_
       refine AW.loopN (α := Nat) (fun x => sl 122 [(0, ringP p pw br), (6, .i .i64 pw.length), (11, .i .i64 u), (12, .i .i64 v), (13, .i .i64 x), (63, .i .i64 pw.length), (64, .i .i64 u)]) (fun _ => noH) (fun x m => v < x ∧ x ≤ pw.length ∧ ∀ c, c < x → v < c → ¬jf p pw br u v c) (fun x => pw.length - x) (v + 1) ?_ ?_ (fun _ _ h => h) ?_
       ·exact ⟨by omega, by omega, by intro c hc; omega⟩
       ·simp (disch := omega) [wks, wkA, sl, w64, ints, rows, cubes, ringP, rows, cubes, gd_r, gd_c, w64] <;> omega
       ·skip
        rintro w m5 ⟨hvw, hw, hW⟩
        simp -dsimp -implicitDefEqProofs (disch := omega) only [go_sem, undef, reduceAdd, reduceSub, reduceGT, reduceEqDiff, reduceMul]
        refine AW.seq (fun N11 hN11 => ?_)
        refine AW.sr envOk (fun N hN => ?_)
        simp -dsimp -implicitDefEqProofs (disch := omega) only [go_sem, undef, reduceAdd, reduceSub, reduceGT, reduceEqDiff, reduceMul, ringP, rows, cubes, gd_r, gd_c, w64]
        refine hN _ ?_
        try clear hN N
        refine AW.cond rfl (fun h6 => ?_) (fun h6 => ?_)
        ·try simp only [cn] at h6
         refine AW.skip ?_
         simp only [thn, blk]
         refine hN11 _ ?_
         try clear hN11 N11
         refine AW.seq (fun N12 hN12 => ?_)
         refine AW.block ?_
         refine AW.sr envOk (fun N hN => ?_)
         simp -dsimp -implicitDefEqProofs (disch := omega) only [go_sem, undef, reduceAdd, reduceSub, reduceGT, reduceEqDiff, reduceMul, ringP, rows, cubes, gd_r, gd_c, w64]
         refine AC.pure (.of ((impl_unitVector_ok pw.length u hn (by omega)).pure )) ?_
         try simp -dsimp -implicitDefEqProofs (disch := omega) only [go_sem, undef, reduceAdd, reduceSub, reduceGT, reduceEqDiff, reduceMul, ringP, rows, cubes, gd_r, gd_c, w64]
         refine AC.pure (.of ((impl_unitVector_ok pw.length v hn (by omega)).pure )) ?_
         try simp -dsimp -implicitDefEqProofs (disch := omega) only [go_sem, undef, reduceAdd, reduceSub, reduceGT, reduceEqDiff, reduceMul, ringP, rows, cubes, gd_r, gd_c, w64]
         refine AC.pure (.of ((impl_unitVector_ok pw.length w hn (by omega)).pure )) ?_
         try simp -dsimp -implicitDefEqProofs (disch := omega) only [go_sem, undef, reduceAdd, reduceSub, reduceGT, reduceEqDiff, reduceMul, ringP, rows, cubes, gd_r, gd_c, w64]
         refine hN _ ?_
         try clear hN N
         refine AW.sr envOk (fun N hN => ?_)
         simp -dsimp -implicitDefEqProofs (disch := omega) only [go_sem, undef, reduceAdd, reduceSub, reduceGT, reduceEqDiff, reduceMul, ringP, rows, cubes, gd_r, gd_c, w64]
         refine AC.pure (.of ((impl_bracket_ok p pw br s _ _ (unit_el hp2) (unit_el hp2)).pure )) ?_
         try simp -dsimp -implicitDefEqProofs (disch := omega) only [go_sem, undef, reduceAdd, reduceSub, reduceGT, reduceEqDiff, reduceMul, ringP, rows, cubes, gd_r, gd_c, w64]
         refine AC.pure (.of ((impl_bracket_ok p pw br s _ _ (brk_el s _ _) (unit_el hp2)).pure )) ?_
         try simp -dsimp -implicitDefEqProofs (disch := omega) only [go_sem, undef, reduceAdd, reduceSub, reduceGT, reduceEqDiff, reduceMul, ringP, rows, cubes, gd_r, gd_c, w64]
         refine AC.pure (.of ((impl_bracket_ok p pw br s _ _ (unit_el hp2) (unit_el hp2)).pure )) ?_
         try simp -dsimp -implicitDefEqProofs (disch := omega) only [go_sem, undef, reduceAdd, reduceSub, reduceGT, reduceEqDiff, reduceMul, ringP, rows, cubes, gd_r, gd_c, w64]
         refine AC.pure (.of ((impl_bracket_ok p pw br s _ _ (brk_el s _ _) (unit_el hp2)).pure )) ?_
         try simp -dsimp -implicitDefEqProofs (disch := omega) only [go_sem, undef, reduceAdd, reduceSub, reduceGT, reduceEqDiff, reduceMul, ringP, rows, cubes, gd_r, gd_c, w64]
         refine AC.pure (.of ((impl_addLie_ok p pw br s.toTri _ _ (brk_el s _ _).len (brk_el s _ _).len ((brk_el s _ _).sml1 hp7) ((brk_el s _ _).sml1 hp7)).pure )) ?_
         try simp -dsimp -implicitDefEqProofs (disch := omega) only [go_sem, undef, reduceAdd, reduceSub, reduceGT, reduceEqDiff, reduceMul, ringP, rows, cubes, gd_r, gd_c, w64]
         refine hN _ ?_
         try clear hN N
         refine AW.sr envOk (fun N hN => ?_)
         simp -dsimp -implicitDefEqProofs (disch := omega) only [go_sem, undef, reduceAdd, reduceSub, reduceGT, reduceEqDiff, reduceMul, ringP, rows, cubes, gd_r, gd_c, w64]
         refine AC.pure (.of ((impl_bracket_ok p pw br s _ _ (unit_el hp2) (unit_el hp2)).pure )) ?_
         try simp -dsimp -implicitDefEqProofs (disch := omega) only [go_sem, undef, reduceAdd, reduceSub, reduceGT, reduceEqDiff, reduceMul, ringP, rows, cubes, gd_r, gd_c, w64]
         refine AC.pure (.of ((impl_bracket_ok p pw br s _ _ (brk_el s _ _) (unit_el hp2)).pure )) ?_
         try simp -dsimp -implicitDefEqProofs (disch := omega) only [go_sem, undef, reduceAdd, reduceSub, reduceGT, reduceEqDiff, reduceMul, ringP, rows, cubes, gd_r, gd_c, w64]
         refine AC.pure (.of ((impl_addLie_ok p pw br s.toTri _ _ (mix_el s.toTri _ _ _ _).len (brk_el s _ _).len ((mix_el s.toTri _ _ _ _).sml1 hp7) ((brk_el s _ _).sml1 hp7)).pure )) ?_
         try simp -dsimp -implicitDefEqProofs (disch := omega) only [go_sem, undef, reduceAdd, reduceSub, reduceGT, reduceEqDiff, reduceMul, ringP, rows, cubes, gd_r, gd_c, w64]
         refine AC.pure (.of (impl_isZero_ok _ (by rw [(mix_el s.toTri _ _ _ _).len]; omega))) ?_
         try simp -dsimp -implicitDefEqProofs (disch := omega) only [go_sem, undef, reduceAdd, reduceSub, reduceGT, reduceEqDiff, reduceMul, ringP, rows, cubes, gd_r, gd_c, w64]
         refine hN _ ?_
         try clear hN N
         refine AW.cond rfl (fun h7 => ?_) (fun h7 => ?_)
         ·try simp only [cn] at h7
          refine AW.sr envOk (fun N hN => ?_)
          simp -dsimp -implicitDefEqProofs (disch := omega) only [go_sem, undef, reduceAdd, reduceSub, reduceGT, reduceEqDiff, reduceMul, ringP, rows, cubes, gd_r, gd_c, w64]
          refine hN _ ?_
          try clear hN N
          refine AW.ret ?_
          simp -dsimp -implicitDefEqProofs (disch := omega) only [go_sem, undef, reduceAdd, reduceSub, reduceGT, reduceEqDiff, reduceMul]
          rw [ht.uniq (.inr ⟨fun a b ha hb => hP a b (by omega) hb, .inl ⟨u, v, w, rfl, huv, hvw, by omega, h7, fun a' b' c' g1 g2 g3 hlt => ?_⟩⟩)]
          ·rfl
          ·rcases hlt with hlt | ⟨rfl, hlt | ⟨rfl, hlt⟩⟩
           ·exact hU a' b' c' hlt g1 g2 g3
           ·exact hV b' c' hlt g1 g2 g3
           ·exact hW c' hlt g2
         ·try simp only [cn] at h7
          refine AW.skip ?_
          simp only [thn, blk]
          refine hN12 _ ?_
          try clear hN12 N12
          refine AW.regionL envOk ?_
          simp -dsimp -implicitDefEqProofs (disch := omega) only [go_sem, undef, reduceAdd, reduceSub, reduceGT, reduceEqDiff, reduceMul, ringP, rows, cubes, gd_r, gd_c, w64]
          refine ⟨w + 1, ?_, fun _ _ h => h, ?_, ?_⟩
          ·simp (disch := omega) [wks, wkA, sl, w64, ints, rows, cubes, ringP, rows, cubes, gd_r, gd_c, w64] <;> omega
          ·refine ⟨by omega, by omega, fun c hc hvc => ?_⟩
           by_cases e : c = w
           ·subst e; exact fun hj => hj h7
           ·exact hW c (by omega) hvc
          ·first | omega | (simp only; omega)
        ·try simp only [cn] at h6
         refine AW.exit ?_
         simp only [thn, blk, if_true]
         refine hN10 _ ?_
         try clear hN10 N10
         refine AW.regionL envOk ?_
         simp -dsimp -implicitDefEqProofs (disch := omega) only [go_sem, undef, reduceAdd, reduceSub, reduceGT, reduceEqDiff, reduceMul, ringP, rows, cubes, gd_r, gd_c, w64]
         refine ⟨v + 1, ?_, fun _ _ h => h, ?_, ?_⟩
         ·simp (disch := omega) [wks, wkA, sl, w64, ints, rows, cubes, ringP, rows, cubes, gd_r, gd_c, w64] <;> omega
         ·refine ⟨by omega, by omega, fun b c hb hub hbc hc => ?_⟩
          by_cases e : b = v
          ·subst e; exact hW c (by omega) hbc
          ·exact hV b c (by omega) hub hbc hc
         ·first | omega | (simp only; omega)
      ·try simp only [cn] at h5
       refine AW.exit ?_
       simp only [thn, blk, if_true]
       refine hN8 _ ?_
       try clear hN8 N8
       refine AW.regionL envOk ?_
       simp -dsimp -implicitDefEqProofs (disch := omega) only [go_sem, undef, reduceAdd, reduceSub, reduceGT, reduceEqDiff, reduceMul, ringP, rows, cubes, gd_r, gd_c, w64]
       refine ⟨u + 1, ?_, fun _ _ h => h, ?_, ?_⟩
       ·simp (disch := omega) [wks, wkA, sl, w64, ints, rows, cubes, ringP, rows, cubes, gd_r, gd_c, w64] <;> omega
       ·refine ⟨by omega, fun a b c ha hab hbc hc => ?_⟩
        by_cases e : a = u
        ·subst e; exact hV b c (by omega) hab hbc hc
        ·exact hU a b c (by omega) hab hbc hc
       ·first | omega | (simp only; omega)
    ·try simp only [cn] at h4
     refine AW.exit ?_
     simp only [thn, blk, if_true]
     refine hN6 _ ?_
     try clear hN6 N6
     refine AW.sr envOk (fun N hN => ?_)
     simp -dsimp -implicitDefEqProofs (disch := omega) only [go_sem, undef, reduceAdd, reduceSub, reduceGT, reduceEqDiff, reduceMul, ringP, rows, cubes, gd_r, gd_c, w64]
     refine hN _ ?_
     try clear hN N
     refine AW.ret ?_
     simp -dsimp -implicitDefEqProofs (disch := omega) only [go_sem, undef, reduceAdd, reduceSub, reduceGT, reduceEqDiff, reduceMul]
     rw [ht.uniq (.inr ⟨fun a b ha hb => hP a b (by omega) hb, .inr ⟨rfl, fun a b c h1 h2 h3 => hU a b c (by omega) h1 h2 h3⟩⟩)]
     rfl
end Go.Proofs.Ytkmgmjajbiddbaa
