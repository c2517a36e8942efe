import Derived.Test.YtdghgmgppecncaaZ36
set_option linter.unusedVariables false
set_option linter.unusedSimpArgs false
namespace Go.Proofs.Ytdghgmgppecncaa
open Nat (reduceAdd reduceSub reduceGT reduceEqDiff reduceMul)
def allEl (p : Int) (n : Nat) (xs : List (List Int)) : Prop := ∀ k, k < xs.length → isEl p n (xs.getD k [])
theorem AllEl.iff {p : Int} {pw : List (List Int)} {br : List (List (List Int))} {xs : List (List Int)} : AllEl p pw br xs ↔ LieR p pw br ∧ allEl p pw.length xs := Iff.rfl
theorem allEl.el {p : Int} {n : Nat} {xs : List (List Int)} (h : allEl p n xs) : ∀ k, k < xs.length → El p n (xs.getD k []) := fun k hk => (h k hk).el
theorem spec_l32Elements_ok (p : Int) (pw : List (List Int)) (br : List (List (List Int))) (hp : -1000 ≤ p ∧ p ≤ 1000) (hn : pw.length ≤ 1048576) (xs : List (List Int)) (hx : rowslen xs) : ACp Try.prog 229 [ring p pw br, rows xs] (.b (tf (allEl p pw.length xs))) := by
 have hxn := hx.n
 refine ACp.intro' envOk Try.func229 rfl (by kernel_rfl) Try.ntmps229 Try.results229 (.b _) (fun nx => ?_)
 refine AW.sr envOk (fun N hN => ?_)
 simp -dsimp -implicitDefEqProofs (disch := omega) only [go_sem, undef, reduceAdd, reduceSub, reduceGT, reduceEqDiff, reduceMul, ring, rows, gd_r, w64]
 refine hN _ ?_
 try clear hN N
 refine AW.seq (fun N1 hN1 => ?_)
 refine AW.sr envOk (fun N hN => ?_)
 simp -dsimp -implicitDefEqProofs (disch := omega) only [go_sem, undef, reduceAdd, reduceSub, reduceGT, reduceEqDiff, reduceMul, ring, rows, gd_r, w64]
 refine hN _ ?_
 try clear hN N
 refine AW.block ?_
 refine AW.loopN (α := Nat) (fun x => sl 19 [(1, rows xs), (2, .q nx 0), (5, .i .i64 x)]) (fun _ => upd noH nx (some [.i .i64 p, rows pw, cubes br])) (fun x m => x ≤ xs.length ∧ ∀ k, k < x → isEl p pw.length (xs.getD k [])) (fun x => xs.length - x) (0) ?_ ?_ (fun _ _ h => h) ?_
 ·exact ⟨by omega, by intro k hk; omega⟩
 ·simp (disch := omega) [wks, wkA, sl, w64, ints, rows, cubes, ring, rows, gd_r, w64] <;> omega
 ·skip
  rintro k m ⟨hk, hI⟩
  simp -dsimp -implicitDefEqProofs (disch := omega) only [go_sem, undef, reduceAdd, reduceSub, reduceGT, reduceEqDiff, reduceMul]
  refine AW.seq (fun N2 hN2 => ?_)
  refine AW.sr envOk (fun N hN => ?_)
  simp -dsimp -implicitDefEqProofs (disch := omega) only [go_sem, undef, reduceAdd, reduceSub, reduceGT, reduceEqDiff, reduceMul, ring, rows, gd_r, w64]
  refine hN _ ?_
  try clear hN N
  refine AW.cond rfl (fun h1 => ?_) (fun h1 => ?_)
  ·try simp only [cn] at h1
   refine AW.skip ?_
   simp only [thn, blk]
   refine hN2 _ ?_
   try clear hN2 N2
   refine AW.seq (fun N3 hN3 => ?_)
   refine AW.block ?_
   refine AW.seq (fun N hN => ?_)
   refine AW.drawL envOk (by kernel_rfl) 7 (by kernel_rfl) ?_
   simp -dsimp -implicitDefEqProofs (disch := omega) only [hr_nil, hr_one, hr_if, List.take_succ_cons, List.take_zero, List.drop_succ_cons, List.drop_zero, List.take_nil, List.drop_nil, go_sem, undef, reduceAdd, reduceSub, reduceGT, reduceEqDiff, reduceMul, ring, rows, gd_r, w64]
   refine ⟨_, .of (spec_l31Has_ok p pw br (xs.getD k []) hp (hx.getD k)), ?_⟩
   try simp -dsimp -implicitDefEqProofs (disch := omega) only [go_sem, undef, reduceAdd, reduceSub, reduceGT, reduceEqDiff, reduceMul, ring, rows, gd_r, w64]
   refine hN _ ?_
   try clear hN N
   refine AW.cond rfl (fun h2 => ?_) (fun h2 => ?_)
   ·try simp only [cn] at h2
    refine AW.sr envOk (fun N hN => ?_)
    simp -dsimp -implicitDefEqProofs (disch := omega) only [go_sem, undef, reduceAdd, reduceSub, reduceGT, reduceEqDiff, reduceMul, ring, rows, gd_r, w64]
    refine hN _ ?_
    try clear hN N
    refine AW.ret ?_
    simp -dsimp -implicitDefEqProofs (disch := omega) only [go_sem, undef, reduceAdd, reduceSub, reduceGT, reduceEqDiff, reduceMul]
    exact bt (tf_f (fun h => h2 (h k (by omega)))).symm
   ·try simp only [cn] at h2
    refine AW.skip ?_
    simp only [thn, blk]
    refine hN3 _ ?_
    try clear hN3 N3
    refine AW.regionL envOk ?_
    simp -dsimp -implicitDefEqProofs (disch := omega) only [go_sem, undef, reduceAdd, reduceSub, reduceGT, reduceEqDiff, reduceMul, ring, rows, gd_r, w64]
    refine ⟨k + 1, ?_, fun _ _ h => h, ?_, ?_⟩
    ·simp (disch := omega) [wks, wkA, sl, w64, ints, rows, cubes, ring, rows, gd_r, w64] <;> omega
    ·refine ⟨by omega, fun j hj => ?_⟩
     by_cases e : j = k
     ·subst e; exact h2
     ·exact hI j (by omega)
    ·first | omega | (simp only; omega)
  ·try simp only [cn] at h1
   refine AW.exit ?_
   simp only [thn, blk, if_true]
   refine hN1 _ ?_
   try clear hN1 N1
   refine AW.sr envOk (fun N hN => ?_)
   simp -dsimp -implicitDefEqProofs (disch := omega) only [go_sem, undef, reduceAdd, reduceSub, reduceGT, reduceEqDiff, reduceMul, ring, rows, gd_r, w64]
   refine hN _ ?_
   try clear hN N
   refine AW.ret ?_
   simp -dsimp -implicitDefEqProofs (disch := omega) only [go_sem, undef, reduceAdd, reduceSub, reduceGT, reduceEqDiff, reduceMul]
   exact bt (tf_t (fun j hj => hI j (by omega))).symm
theorem spec_l01Same2_ok (a b : List (List Int)) (ha : rowslen a) (hb : rowslen b) : ACp Try.prog 230 [rows a, rows b] (.b (tf (a = b))) := by
 have han := ha.n
 have hbn := hb.n
 refine ACp.intro' envOk Try.func230 rfl (by kernel_rfl) Try.ntmps230 Try.results230 (.b _) (fun nx => ?_)
 refine AW.sr envOk (fun N hN => ?_)
 simp -dsimp -implicitDefEqProofs (disch := omega) only [go_sem, undef, reduceAdd, reduceSub, reduceGT, reduceEqDiff, reduceMul, rows, gd_r, w64]
 refine hN _ ?_
 try clear hN N
 refine AW.seq (fun N1 hN1 => ?_)
 refine AW.sr envOk (fun N hN => ?_)
 simp -dsimp -implicitDefEqProofs (disch := omega) only [go_sem, undef, reduceAdd, reduceSub, reduceGT, reduceEqDiff, reduceMul, rows, gd_r, w64]
 refine hN _ ?_
 try clear hN N
 refine AW.cond rfl (fun h1 => ?_) (fun h1 => ?_)
 ·try simp only [cn] at h1
  refine AW.sr envOk (fun N hN => ?_)
  simp -dsimp -implicitDefEqProofs (disch := omega) only [go_sem, undef, reduceAdd, reduceSub, reduceGT, reduceEqDiff, reduceMul, rows, gd_r, w64]
  refine hN _ ?_
  try clear hN N
  refine AW.ret ?_
  simp -dsimp -implicitDefEqProofs (disch := omega) only [go_sem, undef, reduceAdd, reduceSub, reduceGT, reduceEqDiff, reduceMul]
  exact bt (tf_f (fun h => h1 (by rw [h]))).symm
 ·try simp only [cn] at h1
  have hl : a.length = b.length := by omega
  refine AW.skip ?_
  simp only [thn, blk]
  refine hN1 _ ?_
  try clear hN1 N1
  refine AW.seq (fun N2 hN2 => ?_)
  refine AW.sr envOk (fun N hN => ?_)
  simp -dsimp -implicitDefEqProofs (disch := omega) only [go_sem, undef, reduceAdd, reduceSub, reduceGT, reduceEqDiff, reduceMul, rows, gd_r, w64]
  refine hN _ ?_
  try clear hN N
  refine AW.block ?_
  refine AW.loopN (α := Nat) (fun x => sl 27 [(0, rows a), (1, rows b), (5, .i .i64 x)]) (fun _ => noH) (fun x m => x ≤ a.length ∧ a.take x = b.take x) (fun x => a.length - x) (0) ?_ ?_ (fun _ _ h => h) ?_
  ·exact ⟨by omega, rfl⟩
  ·simp (disch := omega) [wks, wkA, sl, w64, ints, rows, cubes, rows, gd_r, w64] <;> omega
  ·skip
   rintro k m ⟨hk, hI⟩
   simp -dsimp -implicitDefEqProofs (disch := omega) only [go_sem, undef, reduceAdd, reduceSub, reduceGT, reduceEqDiff, reduceMul]
   refine AW.seq (fun N3 hN3 => ?_)
   refine AW.sr envOk (fun N hN => ?_)
   simp -dsimp -implicitDefEqProofs (disch := omega) only [go_sem, undef, reduceAdd, reduceSub, reduceGT, reduceEqDiff, reduceMul, rows, gd_r, w64]
   refine hN _ ?_
   try clear hN N
   refine AW.cond rfl (fun h2 => ?_) (fun h2 => ?_)
   ·try simp only [cn] at h2
    have hak := ha.getD k
    have hbk := hb.getD k
    refine AW.skip ?_
    simp only [thn, blk]
    refine hN3 _ ?_
    try clear hN3 N3
    refine AW.seq (fun N4 hN4 => ?_)
    refine AW.block ?_
    refine AW.seq (fun N hN => ?_)
    refine AW.drawL envOk (by kernel_rfl) 10 (by kernel_rfl) ?_
    simp -dsimp -implicitDefEqProofs (disch := omega) only [hr_nil, hr_one, hr_if, List.take_succ_cons, List.take_zero, List.drop_succ_cons, List.drop_zero, List.take_nil, List.drop_nil, go_sem, undef, reduceAdd, reduceSub, reduceGT, reduceEqDiff, reduceMul, rows, gd_r, w64]
    refine ⟨_, .of (spec_l01Same_ok (a.getD k []) (b.getD k []) (by omega) (by omega)), ?_⟩
    try simp -dsimp -implicitDefEqProofs (disch := omega) only [go_sem, undef, reduceAdd, reduceSub, reduceGT, reduceEqDiff, reduceMul, rows, gd_r, w64]
    refine hN _ ?_
    try clear hN N
    refine AW.cond rfl (fun h3 => ?_) (fun h3 => ?_)
    ·try simp only [cn] at h3
     refine AW.sr envOk (fun N hN => ?_)
     simp -dsimp -implicitDefEqProofs (disch := omega) only [go_sem, undef, reduceAdd, reduceSub, reduceGT, reduceEqDiff, reduceMul, rows, gd_r, w64]
     refine hN _ ?_
     try clear hN N
     refine AW.ret ?_
     simp -dsimp -implicitDefEqProofs (disch := omega) only [go_sem, undef, reduceAdd, reduceSub, reduceGT, reduceEqDiff, reduceMul]
     exact bt (tf_f (fun h => h3 (by rw [h]))).symm
    ·try simp only [cn] at h3
     refine AW.skip ?_
     simp only [thn, blk]
     refine hN4 _ ?_
     try clear hN4 N4
     refine AW.regionL envOk ?_
     simp -dsimp -implicitDefEqProofs (disch := omega) only [go_sem, undef, reduceAdd, reduceSub, reduceGT, reduceEqDiff, reduceMul, rows, gd_r, w64]
     refine ⟨k + 1, ?_, fun _ _ h => h, ?_, ?_⟩
     ·simp (disch := omega) [wks, wkA, sl, w64, ints, rows, cubes, rows, gd_r, w64] <;> omega
     ·exact ⟨by omega, take_ext [] hl (by omega) hI h3⟩
     ·first | omega | (simp only; omega)
   ·try simp only [cn] at h2
    refine AW.exit ?_
    simp only [thn, blk, if_true]
    refine hN2 _ ?_
    try clear hN2 N2
    refine AW.sr envOk (fun N hN => ?_)
    simp -dsimp -implicitDefEqProofs (disch := omega) only [go_sem, undef, reduceAdd, reduceSub, reduceGT, reduceEqDiff, reduceMul, rows, gd_r, w64]
    refine hN _ ?_
    try clear hN N
    refine AW.ret ?_
    simp -dsimp -implicitDefEqProofs (disch := omega) only [go_sem, undef, reduceAdd, reduceSub, reduceGT, reduceEqDiff, reduceMul]
    have hk' : k = a.length := by omega
    subst hk'
    rw [List.take_length, hl, List.take_length] at hI
    exact bt (tf_t hI).symm
def SpnP (p : Int) (pw : List (List Int)) (br : List (List (List Int))) (u : List (List Int)) : Prop := LieR p pw br ∧ u.length ≤ pw.length ∧ allEl p pw.length u ∧ u = spanL p pw u
section
variable {p : Int} {pw : List (List Int)}
theorem clo_add (t : Tri p pw) (hp : pr4 p) : ∀ (d : Nat) (u : List (List Int)) (x : List Int), d + u.length = pw.length → Ech p pw.length u → El p pw.length x → (∀ b ∈ u, x.getD (dep b) 0 = 0) → PClo p pw u x → ∃ u', Ech p pw.length u' ∧ Clo p pw u' ∧ Sp p pw u' = Sp p pw (x :: u) := by
  intro d
  induction d with
  | zero =>
    intro u x hd hu hx hz hc
    by_cases hdx : dep x < pw.length
    · have hlead := hx.rng (dep x) hdx
      have hlnz := dep_nz (a := x) (by rw [hx.len]; exact hdx)
      have hii := invP_ok hp (a := x.getD (dep x) 0) (by omega) (by omega)
      obtain ⟨e1, _⟩ := close_step t hp hu hx hdx hz hc hii rfl rfl
      have := e1.len
      rw [ins_len] at this; omega
    · have hl := dep_le x
      have hz0 : ∀ j, j < pw.length → x.getD j 0 = 0 := fun j hj => dep_zero (by omega)
      exact ⟨u, hu, hc.clo hz0, (sp_zero hz0).symm⟩
  | succ d ih =>
    intro u x hd hu hx hz hc
    by_cases hdx : dep x < pw.length
    · have hlead := hx.rng (dep x) hdx
      have hlnz := dep_nz (a := x) (by rw [hx.len]; exact hdx)
      have hii := invP_ok hp (a := x.getD (dep x) 0) (by omega) (by omega)
      obtain ⟨e1, e2, e3, e4, e5⟩ := close_step t hp hu hx hdx hz hc hii rfl rfl
      obtain ⟨u', q1, q2, q3⟩ := ih _ _ (by rw [ins_len]; omega) e1 e2 e3 e4
      exact ⟨u', q1, q2, q3.trans e5⟩
    · have hl := dep_le x
      have hz0 : ∀ j, j < pw.length → x.getD j 0 = 0 := fun j hj => dep_zero (by omega)
      exact ⟨u, hu, hc.clo hz0, (sp_zero hz0).symm⟩
theorem sp_cong {x : List Int} {u G : List (List Int)} (h : Sp p pw u = Sp p pw G) : Sp p pw (x :: u) = Sp p pw (x :: G) := by
  refine Sp.eqv (fun b hb => ?_) (fun b hb => ?_)
  · rcases List.mem_cons.1 hb with rfl | hb
    · exact .gen (by simp)
    · have : Sp p pw u (fn b) := .gen hb
      rw [h] at this
      exact this.mono fun c hc => by simp [hc]
  · rcases List.mem_cons.1 hb with rfl | hb
    · exact .gen (by simp)
    · have : Sp p pw G (fn b) := .gen hb
      rw [← h] at this
      exact this.mono fun c hc => by simp [hc]
theorem fam_ex (t : Tri p pw) (hp : pr4 p) : ∀ (G : List (List Int)), (∀ b ∈ G, El p pw.length b) → ∃ u, Ech p pw.length u ∧ Clo p pw u ∧ Sp p pw u = Sp p pw G := by
  intro G
  induction G with
  | nil => intro _; exact ⟨[], Ech.nil, fun b hb => absurd hb (by simp), rfl⟩
  | cons g G ih =>
    intro h
    obtain ⟨u, h1, h2, h3⟩ := ih (fun b hb => h b (by simp [hb]))
    obtain ⟨q1, q2, q3⟩ := red_start t h1 (h g (by simp))
    obtain ⟨u', e1, e2, e3⟩ := clo_add t hp (pw.length - u.length) u _ (by have := h1.len; omega) h1 q1 q2 (h2.pclo _)
    exact ⟨u', e1, e2, e3.trans (q3.trans (sp_cong h3))⟩
theorem span_can (t : Tri p pw) (hp : pr4 p) {G : List (List Int)} (h : ∀ b ∈ G, El p pw.length b) : Can p pw (Sp p pw G) (spanL p pw G) := by
  obtain ⟨u, h1, h2, h3⟩ := fam_ex t hp G h
  have := wL_can t h1 h2
  rw [h3] at this
  rw [spanL_eq t this]; exact this
theorem allEl.mem {xs : List (List Int)} (h : allEl p pw.length xs) : ∀ b ∈ xs, El p pw.length b := fun b hb => by
  obtain ⟨k, hk, rfl⟩ := mem_ix (d := []) hb
  exact (h k hk).el
theorem SpnP.can {br : List (List (List Int))} {u : List (List Int)} (h : SpnP p pw br u) : Can p pw (Sp p pw u) u := by
  have := span_can h.1.1.tri h.1.1.1 h.2.2.1.mem
  rwa [← h.2.2.2] at this
theorem Can.rws {S : (Nat → Int) → Prop} {u : List (List Int)} (h : Can p pw S u) (hn : pw.length ≤ 6) : Rws p pw.length u := h.toEch.rws hn
theorem Can.rl {S : (Nat → Int) → Prop} {u : List (List Int)} (h : Can p pw S u) (hn : pw.length ≤ 6) : rowslen u :=
  ⟨by have := h.toEch.len; omega, fun x hx => by have := (h.el x hx).len; omega⟩
end
theorem spec_IsLieSpan_ok (p : Int) (pw : List (List Int)) (br : List (List (List Int))) (hl : ringlen pw br) (u : List (List Int)) (hu : rowslen u) : ACp Try.prog 144 [ring p pw br, rows u] (.b (tf (SpnP p pw br u))) := by
 have hn := hl.n
 have hun := hu.n
 refine ACp.intro' envOk Try.func144 rfl (by kernel_rfl) Try.ntmps144 Try.results144 (.b _) (fun nx => ?_)
 refine AW.sr envOk (fun N hN => ?_)
 simp -dsimp -implicitDefEqProofs (disch := omega) only [go_sem, undef, reduceAdd, reduceSub, reduceGT, reduceEqDiff, reduceMul, ring, rows, w64]
 refine hN _ ?_
 try clear hN N
 refine AW.sr envOk (fun N hN => ?_)
 simp -dsimp -implicitDefEqProofs (disch := omega) only [go_sem, undef, reduceAdd, reduceSub, reduceGT, reduceEqDiff, reduceMul, ring, rows, w64]
 refine AC.pure (.of (spec_IsLieRing_ok p pw br hl)) ?_
 try simp -dsimp -implicitDefEqProofs (disch := omega) only [go_sem, undef, reduceAdd, reduceSub, reduceGT, reduceEqDiff, reduceMul, ring, rows, w64]
 refine gopB.mk' (fun h1 => ?_) (fun h1 => ?_)
 ·try simp only [cn] at h1
  have hpb := h1.1.pb
  have ht := h1.1.tri
  try simp -dsimp -implicitDefEqProofs (disch := omega) only [go_sem, undef, reduceAdd, reduceSub, reduceGT, reduceEqDiff, reduceMul, ring, rows, w64]
  refine gopB.mk' (fun h2 => ?_) (fun h2 => ?_)
  ·try simp only [cn] at h2
   try simp -dsimp -implicitDefEqProofs (disch := omega) only [go_sem, undef, reduceAdd, reduceSub, reduceGT, reduceEqDiff, reduceMul, ring, rows, w64]
   refine AC.pure (.of (spec_l32Elements_ok p pw br hpb (by omega) u hu)) ?_
   try simp -dsimp -implicitDefEqProofs (disch := omega) only [go_sem, undef, reduceAdd, reduceSub, reduceGT, reduceEqDiff, reduceMul, ring, rows, w64]
   refine gopB.mk' (fun h3 => ?_) (fun h3 => ?_)
   ·try simp only [cn] at h3
    have hcan := span_can ht h1.1.1 h3.mem
    try simp -dsimp -implicitDefEqProofs (disch := omega) only [go_sem, undef, reduceAdd, reduceSub, reduceGT, reduceEqDiff, reduceMul, ring, rows, w64]
    refine AC.pure (.of (spec_l32Span_ok p pw br ht h1.1.1 u (by omega) h3.el)) ?_
    try simp -dsimp -implicitDefEqProofs (disch := omega) only [go_sem, undef, reduceAdd, reduceSub, reduceGT, reduceEqDiff, reduceMul, ring, rows, w64]
    refine AC.pure (.of (spec_l01Same2_ok u (spanL p pw u) hu (hcan.rl ht.n6))) ?_
    try simp -dsimp -implicitDefEqProofs (disch := omega) only [go_sem, undef, reduceAdd, reduceSub, reduceGT, reduceEqDiff, reduceMul, ring, rows, w64]
    refine hN _ ?_
    try clear hN N
    refine AW.ret ?_
    simp -dsimp -implicitDefEqProofs (disch := omega) only [go_sem, undef, reduceAdd, reduceSub, reduceGT, reduceEqDiff, reduceMul]
    exact bt (tf_eq ⟨fun h => ⟨h1, by omega, h3, h⟩, fun h => h.2.2.2⟩)
   ·try simp only [cn] at h3
    try simp -dsimp -implicitDefEqProofs (disch := omega) only [go_sem, undef, reduceAdd, reduceSub, reduceGT, reduceEqDiff, reduceMul, ring, rows, w64]
    refine hN _ ?_
    try clear hN N
    refine AW.ret ?_
    simp -dsimp -implicitDefEqProofs (disch := omega) only [go_sem, undef, reduceAdd, reduceSub, reduceGT, reduceEqDiff, reduceMul]
    exact bt (tf_f (fun h => h3 h.2.2.1)).symm
  ·try simp only [cn] at h2
   try simp -dsimp -implicitDefEqProofs (disch := omega) only [go_sem, undef, reduceAdd, reduceSub, reduceGT, reduceEqDiff, reduceMul, ring, rows, w64]
   refine hN _ ?_
   try clear hN N
   refine AW.ret ?_
   simp -dsimp -implicitDefEqProofs (disch := omega) only [go_sem, undef, reduceAdd, reduceSub, reduceGT, reduceEqDiff, reduceMul]
   exact bt (tf_f (fun h => by have := h.2.1; omega)).symm
 ·try simp only [cn] at h1
  try simp -dsimp -implicitDefEqProofs (disch := omega) only [go_sem, undef, reduceAdd, reduceSub, reduceGT, reduceEqDiff, reduceMul, ring, rows, w64]
  refine hN _ ?_
  try clear hN N
  refine AW.ret ?_
  simp -dsimp -implicitDefEqProofs (disch := omega) only [go_sem, undef, reduceAdd, reduceSub, reduceGT, reduceEqDiff, reduceMul]
  exact bt (tf_f (fun h => h1 h.1)).symm
def resB (b v : Bool) : AV := match b with
  | true => .t [.b v, .i .i64 0]
  | false => .t [.b false, .i .i64 1]
theorem resB_nr (b v : Bool) : NR (resB b v) := by
  cases b <;> exact NR.ts (fun x hx => by
    simp at hx
    rcases hx with rfl | rfl
    · exact .b _
    · exact .i _ _)
def SpnE (p : Int) (pw : List (List Int)) (br : List (List (List Int))) (u : List (List Int)) (a : List Int) : Prop := SpnP p pw br u ∧ isEl p pw.length a
theorem spec_ReduceLie_ok (p : Int) (pw : List (List Int)) (br : List (List (List Int))) (hl : ringlen pw br) (u : List (List Int)) (a : List Int) (hu : rowslen u) (ha : a.length ≤ 1048576) : ACp Try.prog 71 [ring p pw br, rows u, ints a] (resL (orE (tf (SpnE p pw br u a)) (redL p pw u a, 0))) := by
 have hn := hl.n
 have hun := hu.n
 refine ACp.introR envOk Try.func71 rfl (by kernel_rfl) Try.ntmps71 Try.results71 (resL_nr _) (fun nx => ?_)
 refine AW.sr envOk (fun N hN => ?_)
 simp -dsimp -implicitDefEqProofs (disch := omega) only [go_sem, undef, reduceAdd, reduceSub, reduceGT, reduceEqDiff, reduceMul, ring, rows, w64]
 refine hN _ ?_
 try clear hN N
 refine AW.seq (fun N1 hN1 => ?_)
 refine AW.sr envOk (fun N hN => ?_)
 simp -dsimp -implicitDefEqProofs (disch := omega) only [go_sem, undef, reduceAdd, reduceSub, reduceGT, reduceEqDiff, reduceMul, ring, rows, w64]
 refine AC.pure (.of (spec_IsLieSpan_ok p pw br hl u hu)) ?_
 try simp -dsimp -implicitDefEqProofs (disch := omega) only [go_sem, undef, reduceAdd, reduceSub, reduceGT, reduceEqDiff, reduceMul, ring, rows, w64]
 refine gopB.mk' (fun h1 => ?_) (fun h1 => ?_)
 ·try simp only [cn] at h1
  have hpb := h1.1.1.pb
  try simp -dsimp -implicitDefEqProofs (disch := omega) only [go_sem, undef, reduceAdd, reduceSub, reduceGT, reduceEqDiff, reduceMul, ring, rows, w64]
  refine AC.pure (.of (spec_l31Has_ok p pw br a hpb ha)) ?_
  try simp -dsimp -implicitDefEqProofs (disch := omega) only [go_sem, undef, reduceAdd, reduceSub, reduceGT, reduceEqDiff, reduceMul, ring, rows, w64]
  refine hN _ ?_
  try clear hN N
  refine AW.cond rfl (fun h2 => ?_) (fun h2 => ?_)
  ·try simp only [cn] at h2
   refine AW.sr envOk (fun N hN => ?_)
   simp -dsimp -implicitDefEqProofs (disch := omega) only [go_sem, undef, reduceAdd, reduceSub, reduceGT, reduceEqDiff, reduceMul, ring, rows, w64]
   refine hN _ ?_
   try clear hN N
   refine AW.ret ?_
   simp -dsimp -implicitDefEqProofs (disch := omega) only [go_sem, undef, reduceAdd, reduceSub, reduceGT, reduceEqDiff, reduceMul]
   rw [tf_f (fun h => h2 h.2)]
   exact resL_nl
  ·try simp only [cn] at h2
   refine AW.skip ?_
   simp only [thn, blk]
   refine hN1 _ ?_
   try clear hN1 N1
   refine AW.sr envOk (fun N hN => ?_)
   simp -dsimp -implicitDefEqProofs (disch := omega) only [go_sem, undef, reduceAdd, reduceSub, reduceGT, reduceEqDiff, reduceMul, ring, rows, w64]
   refine AC.pure (.of (spec_l32Reduce_ok p pw br h1.1.1.tri u (h1.can.rws h1.1.1.tri.n6) a h2.el)) ?_
   try simp -dsimp -implicitDefEqProofs (disch := omega) only [go_sem, undef, reduceAdd, reduceSub, reduceGT, reduceEqDiff, reduceMul, ring, rows, w64]
   refine hN _ ?_
   try clear hN N
   refine AW.ret ?_
   simp -dsimp -implicitDefEqProofs (disch := omega) only [go_sem, undef, reduceAdd, reduceSub, reduceGT, reduceEqDiff, reduceMul]
   rw [tf_t (show SpnE p pw br u a from ⟨h1, h2⟩)]
   exact .refl _
 ·try simp only [cn] at h1
  try simp -dsimp -implicitDefEqProofs (disch := omega) only [go_sem, undef, reduceAdd, reduceSub, reduceGT, reduceEqDiff, reduceMul, ring, rows, w64]
  refine hN _ ?_
  try clear hN N
  refine AW.condT rfl ?_
  refine AW.sr envOk (fun N hN => ?_)
  simp -dsimp -implicitDefEqProofs (disch := omega) only [go_sem, undef, reduceAdd, reduceSub, reduceGT, reduceEqDiff, reduceMul, ring, rows, w64]
  refine hN _ ?_
  try clear hN N
  refine AW.ret ?_
  simp -dsimp -implicitDefEqProofs (disch := omega) only [go_sem, undef, reduceAdd, reduceSub, reduceGT, reduceEqDiff, reduceMul]
  rw [tf_f (fun h => h1 h.1)]
  exact resL_nl
end Go.Proofs.Ytdghgmgppecncaa
