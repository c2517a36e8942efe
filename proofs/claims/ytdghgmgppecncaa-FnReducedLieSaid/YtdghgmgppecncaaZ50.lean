import Derived.Test.YtdghgmgppecncaaZ18
import Derived.Test.YtdghgmgppecncaaZ32
import Derived.Test.YtdghgmgppecncaaZ48
import Derived.Test.YtdghgmgppecncaaZ49
set_option linter.unusedVariables false
set_option linter.unusedSimpArgs false
namespace Go.Proofs.Ytdghgmgppecncaa
open Nat (reduceAdd reduceSub reduceGT reduceEqDiff reduceMul)
theorem spec_l32Gens_p (bs : List Int) (a s : Int) (ho : srOk bs a s) (p : Int) (X : List (List Int)) (Y : List (List (List Int))) (hX : X.length ≤ 6) (hp : p ≤ 1000) (nx : Nat) (H : HP) (sid : Nat) (hH : H sid = some (srB bs a s)) : AC Try.prog 277 nx H [.q sid 0, ring p X Y] (gnP bs sid nx H) :=
  (spec_l32Gens_o bs a s ho p X Y hX hp nx H sid hH).frz fun nx' H' r ⟨id, L, a', s', h0, h1, h2, h3, h4, h5, h6⟩ => by
    subst h0
    exact ⟨_, _, FzH.del (id := id), Fz.rws h5 rfl rfl, L, a', s', rfl, h1, h2, h4, fun i hi => by rw [upd_ne _ _ (by omega)]; exact h6 i hi⟩
def sqP (bs : List Int) (sid nx : Nat) (H : HP) : Nat → HP → AV → Prop := fun _ H' r => ∃ L a' s', r = rows L ∧ L.length ≤ 6 ∧ (∀ y ∈ L, y.length ≤ 8) ∧ srOk bs a' s' ∧ ∀ i, i < nx → H' i = upd H sid (some (srB bs a' s')) i
theorem upd_off {H : HP} {i k sid : Nat} {v w : Option (List AV)} (h : i ≠ k) : upd (upd H k v) sid w i = upd H sid w i := by
  by_cases e : i = sid
  · subst e; rw [upd_same, upd_same]
  · rw [upd_ne _ _ e, upd_ne _ _ e, upd_ne _ _ h]
theorem fr_one {H H2 : HP} {k m nx sid : Nat} {v w w' : Option (List AV)} (h : ∀ i, i < m → H2 i = upd (upd H k v) sid w i) (hk : nx ≤ k) (hm : nx ≤ m) : ∀ i, i < nx → upd H2 sid w' i = upd H sid w' i := fun i hi => by
  by_cases e : i = sid
  · subst e; rw [upd_same, upd_same]
  · rw [upd_ne _ _ e, upd_ne _ _ e, h i (by omega), upd_ne _ _ e, upd_ne _ _ (by omega)]
theorem can8 {p : Int} {X u : List (List Int)} {S : (Nat → Int) → Prop} (h : Can p X S u) (h6 : X.length ≤ 6) : u.length ≤ 6 ∧ ∀ y ∈ u, y.length ≤ 8 :=
  ⟨by have := h.toEch.len; omega, fun y hy => by have := (h.el y hy).len; omega⟩
theorem rl8 {L : List (List Int)} (h : L.length ≤ 6) (hy : ∀ y ∈ L, y.length ≤ 8) : rowslen L := ⟨by omega, fun x hx => by have := hy x hx; omega⟩
theorem spec_l32Sequence_p (bs : List Int) (a s : Int) (ho : srOk bs a s) (p : Int) (X : List (List Int)) (Y : List (List (List Int))) (hl : ringlen X Y) (hX6 : X.length ≤ 6) (hp : -1000 ≤ p ∧ p ≤ 1000) (nx : Nat) (H : HP) (sid : Nat) (hH : H sid = some (srB bs a s)) : AC Try.prog 227 nx H [.q sid 0, ring p X Y] (sqP bs sid nx H) := by
 refine AC.introx envOk Try.func227 rfl (by kernel_rfl) Try.ntmps227 Try.results227 (fun hfr => ?_)
 have hsn := hfr_lt hfr hH
 refine AW.sr envOk (fun N hN => ?_)
 simp -dsimp -implicitDefEqProofs (disch := omega) only [go_sem, undef, reduceAdd, reduceSub, reduceGT, reduceEqDiff, reduceMul, w64, ring, rows]
 refine hN _ ?_
 try clear hN N
 refine AW.freezeQ 3 nx _ rfl (upd_same _ _ _) ?_
 simp -dsimp -implicitDefEqProofs (disch := omega) only [go_sem, undef, reduceAdd, reduceSub, reduceGT, reduceEqDiff, reduceMul]
 refine AW.seq (fun N1 hN1 => ?_)
 refine AW.sr envOk (fun N hN => ?_)
 simp -dsimp -implicitDefEqProofs (disch := omega) only [go_sem, undef, reduceAdd, reduceSub, reduceGT, reduceEqDiff, reduceMul, w64, ring, rows]
 refine AC.pure (.of (spec_IsLieRing_ok p X Y hl)) ?_
 try simp -dsimp -implicitDefEqProofs (disch := omega) only [go_sem, undef, reduceAdd, reduceSub, reduceGT, reduceEqDiff, reduceMul, w64, ring, rows]
 refine hN _ ?_
 try clear hN N
 refine AW.cond rfl (fun h1 => ?_) (fun h1 => ?_)
 ·try simp only [cn] at h1
  refine AW.sr envOk (fun N hN => ?_)
  simp -dsimp -implicitDefEqProofs (disch := omega) only [go_sem, undef, reduceAdd, reduceSub, reduceGT, reduceEqDiff, reduceMul, w64, ring, rows]
  refine (spec_l32Gens_p bs a s ho p X Y hX6 hp.2 _ _ sid (by simp (disch := omega) only [upd_ne]; exact hH)).mono2 ?_
  rintro m2 H2 r2 hm2 ⟨L, a2, s2, rfl, hL, hLy, ho2, hf2⟩
  try simp -dsimp -implicitDefEqProofs (disch := omega) only [go_sem, undef, reduceAdd, reduceSub, reduceGT, reduceEqDiff, reduceMul, w64, ring, rows]
  refine hN _ ?_
  try clear hN N
  refine AW.ret ?_
  simp -dsimp -implicitDefEqProofs (disch := omega) only [go_sem, undef, reduceAdd, reduceSub, reduceGT, reduceEqDiff, reduceMul]
  exact ⟨_, fun _ _ h => h, L, a2, s2, rfl, by omega, hLy, ho2, fun i hi => (hf2 i (by omega)).trans (upd_off (by omega))⟩
 ·try simp only [cn] at h1
  refine AW.skip ?_
  simp only [thn, blk]
  refine hN1 _ ?_
  try clear hN1 N1
  refine AW.sr envOk (fun N hN => ?_)
  simp -dsimp -implicitDefEqProofs (disch := omega) only [go_sem, undef, reduceAdd, reduceSub, reduceGT, reduceEqDiff, reduceMul, w64, ring, rows]
  refine (spec_l32Gens_p bs a s ho p X Y hX6 hp.2 _ _ sid (by simp (disch := omega) only [upd_ne]; exact hH)).mono2 ?_
  rintro m2 H2 r2 hm2 ⟨L, a2, s2, rfl, hL, hLy, ho2, hf2⟩
  have hs2 : H2 sid = some (srB bs a2 s2) := (hf2 sid (by omega)).trans (upd_same _ _ _)
  try simp -dsimp -implicitDefEqProofs (disch := omega) only [go_sem, undef, reduceAdd, reduceSub, reduceGT, reduceEqDiff, reduceMul, w64, ring, rows]
  refine hN _ ?_
  try clear hN N
  refine AW.seq (fun N2 hN2 => ?_)
  refine AW.sr envOk (fun N hN => ?_)
  simp -dsimp -implicitDefEqProofs (disch := omega) only [go_sem, undef, reduceAdd, reduceSub, reduceGT, reduceEqDiff, reduceMul, w64, ring, rows]
  refine AC.pure (.of (spec_l32Elements_ok p X Y hp (by omega) L (rl8 (by omega) hLy) )) ?_
  try simp -dsimp -implicitDefEqProofs (disch := omega) only [go_sem, undef, reduceAdd, reduceSub, reduceGT, reduceEqDiff, reduceMul, w64, ring, rows]
  refine gopB.mk' (fun h2 => ?_) (fun h2 => ?_)
  ·try simp only [cn] at h2
   have ha : AllEl p X Y L := ⟨h1, h2⟩
   have ht := h1.1.tri
   try simp -dsimp -implicitDefEqProofs (disch := omega) only [go_sem, undef, reduceAdd, reduceSub, reduceGT, reduceEqDiff, reduceMul, w64, ring, rows]
   try simp -dsimp -implicitDefEqProofs (disch := omega) only [go_sem, undef, reduceAdd, reduceSub, reduceGT, reduceEqDiff, reduceMul, w64, ring, rows]
   refine (spec_l01Next_o bs a2 s2 ho2 30 (by omega) _ _ sid hs2).mono2 ?_
   rintro m3 H3 r3 hm3 ⟨z, a3, s3, rfl, hz, ho3, rfl⟩
   try simp -dsimp -implicitDefEqProofs (disch := omega) only [go_sem, undef, reduceAdd, reduceSub, reduceGT, reduceEqDiff, reduceMul, w64, ring, rows]
   refine hN _ ?_
   try clear hN N
   refine AW.cond rfl (fun h3 => ?_) (fun h3 => ?_)
   ·try simp only [cn] at h3
    refine AW.sr envOk (fun N hN => ?_)
    simp -dsimp -implicitDefEqProofs (disch := omega) only [go_sem, undef, reduceAdd, reduceSub, reduceGT, reduceEqDiff, reduceMul, w64, ring, rows]
    refine hN _ ?_
    try clear hN N
    refine AW.ret ?_
    simp -dsimp -implicitDefEqProofs (disch := omega) only [go_sem, undef, reduceAdd, reduceSub, reduceGT, reduceEqDiff, reduceMul]
    exact ⟨_, fun _ _ h => h, L, a3, s3, rfl, by omega, hLy, ho3, fr_one hf2 (by omega) (by omega)⟩
   ·try simp only [cn] at h3
    refine AW.skip ?_
    simp only [thn, blk]
    refine hN2 _ ?_
    try clear hN2 N2
    refine AW.seq (fun N3 hN3 => ?_)
    refine AW.sr envOk (fun N hN => ?_)
    simp -dsimp -implicitDefEqProofs (disch := omega) only [go_sem, undef, reduceAdd, reduceSub, reduceGT, reduceEqDiff, reduceMul, w64, ring, rows]
    refine (spec_l01Next_o bs a3 s3 ho3 4 (by omega) _ _ sid (upd_same _ _ _)).mono2 ?_
    rintro m4 H4 r4 hm4 ⟨z4, a4, s4, rfl, hz4, ho4, rfl⟩
    try simp -dsimp -implicitDefEqProofs (disch := omega) only [go_sem, undef, reduceAdd, reduceSub, reduceGT, reduceEqDiff, reduceMul, w64, ring, rows]
    refine hN _ ?_
    try clear hN N
    refine AW.block ?_
    refine AW.sr envOk (fun N hN => ?_)
    simp -dsimp -implicitDefEqProofs (disch := omega) only [go_sem, undef, reduceAdd, reduceSub, reduceGT, reduceEqDiff, reduceMul, w64, ring, rows]
    refine hN _ ?_
    try clear hN N
    refine AW.cond rfl (fun h4 => ?_) (fun h4 => ?_)
    ·try simp only [cn] at h4
     refine AW.sr envOk (fun N hN => ?_)
     simp -dsimp -implicitDefEqProofs (disch := omega) only [go_sem, undef, reduceAdd, reduceSub, reduceGT, reduceEqDiff, reduceMul, w64, ring, rows]
     refine AC.pure (.of (spec_l32Span_ok p X Y ht h1.1.1 L (by omega) (fun k hk => (h2 k hk).el) )) ?_
     try simp -dsimp -implicitDefEqProofs (disch := omega) only [go_sem, undef, reduceAdd, reduceSub, reduceGT, reduceEqDiff, reduceMul, w64, ring, rows]
     refine hN _ ?_
     try clear hN N
     refine AW.ret ?_
     simp -dsimp -implicitDefEqProofs (disch := omega) only [go_sem, undef, reduceAdd, reduceSub, reduceGT, reduceEqDiff, reduceMul]
     obtain ⟨g1, g2⟩ := can8 (span_can ht h1.1.1 (allEl.mem h2)) hX6
     exact ⟨_, fun _ _ h => h, _, a4, s4, rfl, g1, g2, ho4, fr_one hf2 (by omega) (by omega)⟩
    ·try simp only [cn] at h4
     refine AW.sr envOk (fun N hN => ?_)
     simp -dsimp -implicitDefEqProofs (disch := omega) only [go_sem, undef, reduceAdd, reduceSub, reduceGT, reduceEqDiff, reduceMul, w64, ring, rows]
     refine hN _ ?_
     try clear hN N
     refine AW.cond rfl (fun h5 => ?_) (fun h5 => ?_)
     ·try simp only [cn] at h5
      refine AW.sr envOk (fun N hN => ?_)
      simp -dsimp -implicitDefEqProofs (disch := omega) only [go_sem, undef, reduceAdd, reduceSub, reduceGT, reduceEqDiff, reduceMul, w64, ring, rows]
      refine AC.pure (.of (spec_l32Ring_ok p X Y h1.1.sh ht h1.1.1 L _ (by omega) (allEl.mem h2) (closR_ok (Y := []) ha).1 )) ?_
      try simp -dsimp -implicitDefEqProofs (disch := omega) only [go_sem, undef, reduceAdd, reduceSub, reduceGT, reduceEqDiff, reduceMul, w64, ring, rows]
      refine hN _ ?_
      try clear hN N
      refine AW.ret ?_
      simp -dsimp -implicitDefEqProofs (disch := omega) only [go_sem, undef, reduceAdd, reduceSub, reduceGT, reduceEqDiff, reduceMul]
      obtain ⟨g1, g2⟩ := can8 (closR_ok (Y := []) ha).2 hX6
      exact ⟨_, fun _ _ h => h, _, a4, s4, rfl, g1, g2, ho4, fr_one hf2 (by omega) (by omega)⟩
     ·try simp only [cn] at h5
      refine AW.sr envOk (fun N hN => ?_)
      simp -dsimp -implicitDefEqProofs (disch := omega) only [go_sem, undef, reduceAdd, reduceSub, reduceGT, reduceEqDiff, reduceMul, w64, ring, rows]
      refine hN _ ?_
      try clear hN N
      refine AW.cond rfl (fun h6 => ?_) (fun h6 => ?_)
      ·try simp only [cn] at h6
       refine AW.seq (fun N hN => ?_)
       refine AW.drawF envOk (by kernel_rfl) [true, true, true, true, true, true, true, false, false, false] (by kernel_rfl) ?_
       simp -dsimp -implicitDefEqProofs (disch := omega) only [go_sem, undef, reduceAdd, reduceSub, reduceGT, reduceEqDiff, reduceMul, w64, ring, rows]
       refine ⟨_, .of (spec_l32Whole_ok p X Y (by omega) ), ?_⟩
       try simp -dsimp -implicitDefEqProofs (disch := omega) only [go_sem, undef, reduceAdd, reduceSub, reduceGT, reduceEqDiff, reduceMul, w64, ring, rows]
       refine (spec_l01Next_o bs a4 s4 ho4 (X.length + 1) (by omega) _ _ sid (upd_same _ _ _)).mono2 ?_
       rintro m5 H5 r5 hm5 ⟨z5, a5, s5, rfl, hz5, ho5, rfl⟩
       obtain ⟨c5, rfl⟩ : ∃ c : Nat, z5 = (c : Int) := ⟨z5.toNat, by omega⟩
       have hwl : (wholeL X.length).length = X.length := whole_len
       try simp -dsimp -implicitDefEqProofs (disch := omega) only [go_sem, undef, reduceAdd, reduceSub, reduceGT, reduceEqDiff, reduceMul, w64, ring, rows]
       refine hN _ ?_
       try clear hN N
       refine AW.ret ?_
       simp -dsimp -implicitDefEqProofs (disch := omega) only [go_sem, undef, reduceAdd, reduceSub, reduceGT, reduceEqDiff, reduceMul]
       obtain ⟨g1, g2⟩ := can8 (wholeU ht h1.1.1) hX6
       exact ⟨_, fun _ _ h => h, (wholeL X.length).drop c5, a5, s5, by simp [rows, whole_len, List.map_drop]; rw [List.take_of_length_le (by simp [whole_len])], by rw [List.length_drop]; omega, fun y hy => g2 y (List.mem_of_mem_drop hy), ho5, fr_one hf2 (by omega) (by omega)⟩
      ·try simp only [cn] at h6
       refine AW.skip ?_
       simp only [thn, blk]
       refine hN3 _ ?_
       try clear hN3 N3
       refine AW.sr envOk (fun N hN => ?_)
       simp -dsimp -implicitDefEqProofs (disch := omega) only [go_sem, undef, reduceAdd, reduceSub, reduceGT, reduceEqDiff, reduceMul, w64, ring, rows]
       refine AC.pure (.of (spec_l32Ideal_ok p X Y h1.1.sh ht h1.1.1 L _ (by omega) (allEl.mem h2) (closR_ok (Y := wholeL X.length) ha).1 )) ?_
       try simp -dsimp -implicitDefEqProofs (disch := omega) only [go_sem, undef, reduceAdd, reduceSub, reduceGT, reduceEqDiff, reduceMul, w64, ring, rows]
       refine hN _ ?_
       try clear hN N
       refine AW.ret ?_
       simp -dsimp -implicitDefEqProofs (disch := omega) only [go_sem, undef, reduceAdd, reduceSub, reduceGT, reduceEqDiff, reduceMul]
       obtain ⟨g1, g2⟩ := can8 (closR_ok (Y := wholeL X.length) ha).2 hX6
       exact ⟨_, fun _ _ h => h, _, a4, s4, rfl, g1, g2, ho4, fr_one hf2 (by omega) (by omega)⟩
  ·try simp only [cn] at h2
   try simp -dsimp -implicitDefEqProofs (disch := omega) only [go_sem, undef, reduceAdd, reduceSub, reduceGT, reduceEqDiff, reduceMul, w64, ring, rows]
   refine hN _ ?_
   try clear hN N
   refine AW.condT rfl ?_
   refine AW.sr envOk (fun N hN => ?_)
   simp -dsimp -implicitDefEqProofs (disch := omega) only [go_sem, undef, reduceAdd, reduceSub, reduceGT, reduceEqDiff, reduceMul, w64, ring, rows]
   refine hN _ ?_
   try clear hN N
   refine AW.ret ?_
   simp -dsimp -implicitDefEqProofs (disch := omega) only [go_sem, undef, reduceAdd, reduceSub, reduceGT, reduceEqDiff, reduceMul]
   exact ⟨_, fun _ _ h => h, L, a2, s2, rfl, by omega, hLy, ho2, fun i hi => (hf2 i (by omega)).trans (upd_off (by omega))⟩
end Go.Proofs.Ytdghgmgppecncaa
