import Derived.Test.YtdghgmgppecncaaZ43
set_option linter.unusedVariables false
set_option linter.unusedSimpArgs false
namespace Go.Proofs.Ytdghgmgppecncaa
open Nat (reduceAdd reduceSub reduceGT reduceEqDiff reduceMul)
def spanTest (p : Int) (pw : List (List Int)) (br : List (List (List Int))) (u : List (List Int)) : Prop := u.length ≤ pw.length ∧ AllEl p pw br u ∧ spanL p pw u = u
theorem spanTest.iff {p : Int} {pw : List (List Int)} {br : List (List (List Int))} {u : List (List Int)} : spanTest p pw br u ↔ SpnP p pw br u :=
  ⟨fun h => ⟨h.2.1.1, h.1, h.2.1.2, h.2.2.symm⟩, fun h => ⟨h.2.1, ⟨h.1, h.2.2.1⟩, h.2.2.2.symm⟩⟩
def spansP (p : Int) (pw : List (List Int)) (br : List (List (List Int))) (us : List (List (List Int))) : Prop := LieR p pw br ∧ ∀ k, k < us.length → SpnP p pw br (us.getD k [])
theorem impl_areLieSpans_ok (p : Int) (pw : List (List Int)) (br : List (List (List Int))) (hl : ringlen pw br) (us : List (List (List Int))) (hu : cubeslen us) : ACp Try.prog 142 [ringP p pw br, cubes us] (.b (tf (spansP p pw br us))) := by
 have hn := hl.n
 have hun := hu.n
 refine ACp.intro' envOk Try.func142 rfl (by kernel_rfl) Try.ntmps142 Try.results142 (.b _) (fun nx => ?_)
 refine AW.sr envOk (fun N hN => ?_)
 simp -dsimp -implicitDefEqProofs (disch := omega) only [go_sem, undef, reduceAdd, reduceSub, reduceGT, reduceEqDiff, reduceMul, ringP, cubes, rows, w64, gd_c]
 refine hN _ ?_
 try clear hN N
 refine AW.seq (fun N1 hN1 => ?_)
 refine AW.sr envOk (fun N hN => ?_)
 simp -dsimp -implicitDefEqProofs (disch := omega) only [go_sem, undef, reduceAdd, reduceSub, reduceGT, reduceEqDiff, reduceMul, ringP, cubes, rows, w64, gd_c]
 refine hN _ ?_
 try clear hN N
 refine AW.block ?_
 refine AW.loopN (α := Nat) (fun x => sl 40 [(0, ringP p pw br), (7, cubes us), (8, .i .i64 us.length), (9, .i .i64 x)]) (fun _ => noH) (fun x m => x ≤ us.length ∧ ∀ k, k < x → SpnP p pw br (us.getD k [])) (fun x => us.length - x) (0) ?_ ?_ (fun _ _ h => h) ?_
 ·exact ⟨by omega, by intro k hk; omega⟩
 ·simp (disch := omega) [wks, wkA, sl, w64, ints, rows, cubes, ringP, cubes, rows, w64, gd_c] <;> omega
 ·skip
  rintro k m ⟨hk, hI⟩
  simp -dsimp -implicitDefEqProofs (disch := omega) only [go_sem, undef, reduceAdd, reduceSub, reduceGT, reduceEqDiff, reduceMul]
  refine AW.sr envOk (fun N hN => ?_)
  simp -dsimp -implicitDefEqProofs (disch := omega) only [go_sem, undef, reduceAdd, reduceSub, reduceGT, reduceEqDiff, reduceMul, ringP, cubes, rows, w64, gd_c]
  refine hN _ ?_
  try clear hN N
  refine AW.seq (fun N2 hN2 => ?_)
  refine AW.cond rfl (fun h1 => ?_) (fun h1 => ?_)
  ·try simp only [cn] at h1
   have huk : rowslen (us.getD k []) := getD_mem hu.v .nil k
   have hukn := huk.n
   refine AW.skip ?_
   simp only [thn, blk]
   refine hN2 _ ?_
   try clear hN2 N2
   refine AW.seq (fun N3 hN3 => ?_)
   refine AW.block ?_
   refine AW.sr envOk (fun N hN => ?_)
   simp -dsimp -implicitDefEqProofs (disch := omega) only [go_sem, undef, reduceAdd, reduceSub, reduceGT, reduceEqDiff, reduceMul, ringP, cubes, rows, w64, gd_c]
   refine hN _ ?_
   try clear hN N
   refine AW.sr envOk (fun N hN => ?_)
   simp -dsimp -implicitDefEqProofs (disch := omega) only [go_sem, undef, reduceAdd, reduceSub, reduceGT, reduceEqDiff, reduceMul, ringP, cubes, rows, w64, gd_c]
   refine gopB.mk' (fun h2 => ?_) (fun h2 => ?_)
   ·try simp only [cn] at h2
    try simp -dsimp -implicitDefEqProofs (disch := omega) only [go_sem, undef, reduceAdd, reduceSub, reduceGT, reduceEqDiff, reduceMul, ringP, cubes, rows, w64, gd_c]
    refine AC.pure (.of (impl_lieElements_ok p pw br hl (us.getD k []) huk )) ?_
    try simp -dsimp -implicitDefEqProofs (disch := omega) only [go_sem, undef, reduceAdd, reduceSub, reduceGT, reduceEqDiff, reduceMul, ringP, cubes, rows, w64, gd_c]
    refine gopB.mk' (fun h3 => ?_) (fun h3 => ?_)
    ·try simp only [cn] at h3
     have ht := h3.1.1.tri
     have hae : allEl p pw.length (us.getD k []) := h3.2
     have hcan := span_can ht h3.1.1.1 hae.mem
     try simp -dsimp -implicitDefEqProofs (disch := omega) only [go_sem, undef, reduceAdd, reduceSub, reduceGT, reduceEqDiff, reduceMul, ringP, cubes, rows, w64, gd_c]
     refine AC.pure (.of ((impl_lieSpan_ok p pw br ht h3.1.1.1 (us.getD k []) (by omega) hae.el).pure )) ?_
     try simp -dsimp -implicitDefEqProofs (disch := omega) only [go_sem, undef, reduceAdd, reduceSub, reduceGT, reduceEqDiff, reduceMul, ringP, cubes, rows, w64, gd_c]
     refine AC.pure (.of (impl_sameRows_ok (spanL p pw (us.getD k [])) (us.getD k []) (hcan.rl ht.n6) huk )) ?_
     try simp -dsimp -implicitDefEqProofs (disch := omega) only [go_sem, undef, reduceAdd, reduceSub, reduceGT, reduceEqDiff, reduceMul, ringP, cubes, rows, w64, gd_c]
     refine hN _ ?_
     try clear hN N
     refine AW.cond rfl (fun h4 => ?_) (fun h4 => ?_)
     ·try simp only [cn] at h4
      refine AW.sr envOk (fun N hN => ?_)
      simp -dsimp -implicitDefEqProofs (disch := omega) only [go_sem, undef, reduceAdd, reduceSub, reduceGT, reduceEqDiff, reduceMul, ringP, cubes, rows, w64, gd_c]
      refine hN _ ?_
      try clear hN N
      refine AW.ret ?_
      simp -dsimp -implicitDefEqProofs (disch := omega) only [go_sem, undef, reduceAdd, reduceSub, reduceGT, reduceEqDiff, reduceMul]
      exact bt (tf_f (fun h => h4 (h.2 k (by omega)).2.2.2.symm)).symm
     ·try simp only [cn] at h4
      refine AW.skip ?_
      simp only [thn, blk]
      refine hN3 _ ?_
      try clear hN3 N3
      refine AW.regionL envOk ?_
      simp -dsimp -implicitDefEqProofs (disch := omega) only [go_sem, undef, reduceAdd, reduceSub, reduceGT, reduceEqDiff, reduceMul, ringP, cubes, rows, w64, gd_c]
      refine ⟨k + 1, ?_, fun _ _ h => h, ?_, ?_⟩
      ·simp (disch := omega) [wks, wkA, sl, w64, ints, rows, cubes, ringP, cubes, rows, w64, gd_c] <;> omega
      ·refine ⟨by omega, fun j hj => ?_⟩
       by_cases e : j = k
       ·subst e; exact spanTest.iff.1 ⟨by omega, h3, h4⟩
       ·exact hI j (by omega)
      ·first | omega | (simp only; omega)
    ·try simp only [cn] at h3
     try simp -dsimp -implicitDefEqProofs (disch := omega) only [go_sem, undef, reduceAdd, reduceSub, reduceGT, reduceEqDiff, reduceMul, ringP, cubes, rows, w64, gd_c]
     refine hN _ ?_
     try clear hN N
     refine AW.condT rfl ?_
     refine AW.sr envOk (fun N hN => ?_)
     simp -dsimp -implicitDefEqProofs (disch := omega) only [go_sem, undef, reduceAdd, reduceSub, reduceGT, reduceEqDiff, reduceMul, ringP, cubes, rows, w64, gd_c]
     refine hN _ ?_
     try clear hN N
     refine AW.ret ?_
     simp -dsimp -implicitDefEqProofs (disch := omega) only [go_sem, undef, reduceAdd, reduceSub, reduceGT, reduceEqDiff, reduceMul]
     exact bt (tf_f (fun h => h3 ⟨(h.2 k (by omega)).1, (h.2 k (by omega)).2.2.1⟩)).symm
   ·try simp only [cn] at h2
    try simp -dsimp -implicitDefEqProofs (disch := omega) only [go_sem, undef, reduceAdd, reduceSub, reduceGT, reduceEqDiff, reduceMul, ringP, cubes, rows, w64, gd_c]
    refine hN _ ?_
    try clear hN N
    refine AW.condT rfl ?_
    refine AW.sr envOk (fun N hN => ?_)
    simp -dsimp -implicitDefEqProofs (disch := omega) only [go_sem, undef, reduceAdd, reduceSub, reduceGT, reduceEqDiff, reduceMul, ringP, cubes, rows, w64, gd_c]
    refine hN _ ?_
    try clear hN N
    refine AW.ret ?_
    simp -dsimp -implicitDefEqProofs (disch := omega) only [go_sem, undef, reduceAdd, reduceSub, reduceGT, reduceEqDiff, reduceMul]
    exact bt (tf_f (fun h => by have := (h.2 k (by omega)).2.1; omega)).symm
  ·try simp only [cn] at h1
   refine AW.exit ?_
   simp only [thn, blk, if_true]
   refine hN1 _ ?_
   try clear hN1 N1
   refine AW.sr envOk (fun N hN => ?_)
   simp -dsimp -implicitDefEqProofs (disch := omega) only [go_sem, undef, reduceAdd, reduceSub, reduceGT, reduceEqDiff, reduceMul, ringP, cubes, rows, w64, gd_c]
   refine AC.pure (.of (impl_IsLieRing_ok p pw br hl )) ?_
   try simp -dsimp -implicitDefEqProofs (disch := omega) only [go_sem, undef, reduceAdd, reduceSub, reduceGT, reduceEqDiff, reduceMul, ringP, cubes, rows, w64, gd_c]
   refine hN _ ?_
   try clear hN N
   refine AW.ret ?_
   simp -dsimp -implicitDefEqProofs (disch := omega) only [go_sem, undef, reduceAdd, reduceSub, reduceGT, reduceEqDiff, reduceMul]
   exact bt (tf_eq ⟨fun h => ⟨h, fun j hj => hI j (by omega)⟩, fun h => h.1⟩)
theorem spansP.one {p : Int} {pw : List (List Int)} {br : List (List (List Int))} {u : List (List Int)} : spansP p pw br [u] ↔ SpnP p pw br u :=
  ⟨fun h => h.2 0 (by simp), fun h => ⟨h.1, fun k hk => by simp at hk; subst hk; exact h⟩⟩
theorem spansP.two {p : Int} {pw : List (List Int)} {br : List (List (List Int))} {u v : List (List Int)} : spansP p pw br [u, v] ↔ SpnP p pw br u ∧ SpnP p pw br v :=
  ⟨fun h => ⟨h.2 0 (by simp), h.2 1 (by simp)⟩, fun h => ⟨h.1.1, fun k hk => by
    match k, hk with
    | 0, _ => exact h.1
    | 1, _ => exact h.2⟩⟩
theorem Vw.cb {H : HP} {id : Nat} {xs : List (List (List Int))} {n : Nat} (hn : n = xs.length) (h : H id = some (xs.map Go.Proofs.Ytdghgmgppecncaa.rows)) : Vw H (.h id 0 n) (cubes xs) := by
  subst hn
  exact .h id 0 _ _ _ h (by simp) (by simp) (fun k x y hx hy => by rw [Nat.zero_add] at hx; rw [hx] at hy; cases hy; exact .refl _)
theorem cubeslen.one {u : List (List Int)} (h : rowslen u) : cubeslen [u] := ⟨by simp, fun x hx => by rw [List.mem_singleton.1 hx]; exact h⟩
theorem cubeslen.two {u v : List (List Int)} (h : rowslen u) (h2 : rowslen v) : cubeslen [u, v] := ⟨by simp, fun x hx => by
  simp at hx
  rcases hx with rfl | rfl
  · exact h
  · exact h2⟩
theorem impl_ReduceLie_ok (p : Int) (pw : List (List Int)) (br : List (List (List Int))) (hl : ringlen pw br) (u : List (List Int)) (a : List Int) (hu : rowslen u) (ha : a.length ≤ 1048576) : ACo Try.prog 70 [ring p pw br, rows u, ints a] (resL (orE (tf (SpnE p pw br u a)) (redL p pw u a, 0))) := by
 have hln := hl.n
 intro nx
 refine AC.intro' envOk Try.func70 rfl (by kernel_rfl) Try.ntmps70 Try.results70 ?_
 refine AW.sr envOk (fun N hN => ?_)
 simp -dsimp -implicitDefEqProofs (disch := omega) only [go_sem, undef, reduceAdd, reduceSub, reduceGT, reduceEqDiff, reduceMul, ring]
 refine hN _ ?_
 try clear hN N
 refine AW.seq (fun N1 hN1 => ?_)
 refine AW.sr envOk (fun N hN => ?_)
 simp -dsimp -implicitDefEqProofs (disch := omega) only [go_sem, undef, reduceAdd, reduceSub, reduceGT, reduceEqDiff, reduceMul, ring]
 refine AC.pure (.lent (impl_areLieSpans_ok p pw br hl [u] (.one hu)) (.cons (Vw.q' (cs := [.i .i64 p, rows pw, cubes br]) (by simp (disch := omega) only [upd_same, upd_ne])) (.cons (Vw.cb rfl (upd_same _ _ _)) .nil)) (.b _)) ?_
 try simp -dsimp -implicitDefEqProofs (disch := omega) only [go_sem, undef, reduceAdd, reduceSub, reduceGT, reduceEqDiff, reduceMul, ring]
 refine gopB.mk' (fun h1 => ?_) (fun h1 => ?_)
 ·try simp only [cn] at h1
  have hs := spansP.one.1 h1
  have ht := hs.1.1.tri
  have hpb := hs.1.1.pb
  try simp -dsimp -implicitDefEqProofs (disch := omega) only [go_sem, undef, reduceAdd, reduceSub, reduceGT, reduceEqDiff, reduceMul, ring]
  refine AC.pure (.lent (impl_isLieElement_ok p pw br a (by omega) hpb.1 hpb.2 (by omega)) (.cons (Vw.q' (cs := [.i .i64 p, rows pw, cubes br]) (by simp (disch := omega) only [upd_same, upd_ne])) (.cons (.refl _) .nil)) (.b _)) ?_
  try simp -dsimp -implicitDefEqProofs (disch := omega) only [go_sem, undef, reduceAdd, reduceSub, reduceGT, reduceEqDiff, reduceMul, ring]
  refine hN _ ?_
  try clear hN N
  refine AW.cond rfl (fun h2 => ?_) (fun h2 => ?_)
  ·try simp only [cn] at h2
   refine AW.sr envOk (fun N hN => ?_)
   simp -dsimp -implicitDefEqProofs (disch := omega) only [go_sem, undef, reduceAdd, reduceSub, reduceGT, reduceEqDiff, reduceMul, ring]
   refine hN _ ?_
   try clear hN N
   refine AW.ret ?_
   simp -dsimp -implicitDefEqProofs (disch := omega) only [go_sem, undef, reduceAdd, reduceSub, reduceGT, reduceEqDiff, reduceMul]
   rw [tf_f (show ¬SpnE p pw br u a from fun h => h2 h.2)]
   exact Own.nilE
  ·try simp only [cn] at h2
   refine AW.skip ?_
   simp only [thn, blk]
   refine hN1 _ ?_
   try clear hN1 N1
   refine AW.sr envOk (fun N hN => ?_)
   simp -dsimp -implicitDefEqProofs (disch := omega) only [go_sem, undef, reduceAdd, reduceSub, reduceGT, reduceEqDiff, reduceMul, ring]
   refine AC.own (impl_reduceLie_ok p pw br ht u (hs.can.rws ht.n6) a h2.el) (.cons (Vw.q' (cs := [.i .i64 p, rows pw, cubes br]) (by simp (disch := omega) only [upd_same, upd_ne])) (.cons (.refl _) (.cons (.refl _) .nil))) ?_
   intro m1 H3 r3 ids hm1 hH1 hown1
   try simp -dsimp -implicitDefEqProofs (disch := omega) only [go_sem, undef, reduceAdd, reduceSub, reduceGT, reduceEqDiff, reduceMul, ring]
   refine hN _ ?_
   try clear hN N
   refine AW.ret ?_
   simp -dsimp -implicitDefEqProofs (disch := omega) only [go_sem, undef, reduceAdd, reduceSub, reduceGT, reduceEqDiff, reduceMul]
   rw [tf_t (show SpnE p pw br u a from ⟨hs, h2⟩)]
   exact (hown1.keep (fun _ _ _ => rfl) (by omega) (by omega)).pair
 ·try simp only [cn] at h1
  try simp -dsimp -implicitDefEqProofs (disch := omega) only [go_sem, undef, reduceAdd, reduceSub, reduceGT, reduceEqDiff, reduceMul, ring]
  refine hN _ ?_
  try clear hN N
  refine AW.condT rfl ?_
  refine AW.sr envOk (fun N hN => ?_)
  simp -dsimp -implicitDefEqProofs (disch := omega) only [go_sem, undef, reduceAdd, reduceSub, reduceGT, reduceEqDiff, reduceMul, ring]
  refine hN _ ?_
  try clear hN N
  refine AW.ret ?_
  simp -dsimp -implicitDefEqProofs (disch := omega) only [go_sem, undef, reduceAdd, reduceSub, reduceGT, reduceEqDiff, reduceMul]
  rw [tf_f (show ¬SpnE p pw br u a from fun h => h1 (spansP.one.2 h.1))]
  exact Own.nilE
theorem impl_IsInLie_ok (p : Int) (pw : List (List Int)) (br : List (List (List Int))) (hl : ringlen pw br) (u : List (List Int)) (a : List Int) (hu : rowslen u) (ha : a.length ≤ 1048576) : ACp Try.prog 72 [ring p pw br, rows u, ints a] (resB (tf (SpnE p pw br u a)) (tf (zeros (redL p pw u a)))) := by
 have hln := hl.n
 refine ACp.intro' envOk Try.func72 rfl (by kernel_rfl) Try.ntmps72 Try.results72 (resB_nr _ _) (fun nx => ?_)
 refine AW.sr envOk (fun N hN => ?_)
 simp -dsimp -implicitDefEqProofs (disch := omega) only [go_sem, undef, reduceAdd, reduceSub, reduceGT, reduceEqDiff, reduceMul, ring]
 refine hN _ ?_
 try clear hN N
 refine AW.seq (fun N1 hN1 => ?_)
 refine AW.sr envOk (fun N hN => ?_)
 simp -dsimp -implicitDefEqProofs (disch := omega) only [go_sem, undef, reduceAdd, reduceSub, reduceGT, reduceEqDiff, reduceMul, ring]
 refine AC.pure (.lent (impl_areLieSpans_ok p pw br hl [u] (.one hu)) (.cons (Vw.q' (cs := [.i .i64 p, rows pw, cubes br]) (by simp (disch := omega) only [upd_same, upd_ne])) (.cons (Vw.cb rfl (upd_same _ _ _)) .nil)) (.b _)) ?_
 try simp -dsimp -implicitDefEqProofs (disch := omega) only [go_sem, undef, reduceAdd, reduceSub, reduceGT, reduceEqDiff, reduceMul, ring]
 refine gopB.mk' (fun h1 => ?_) (fun h1 => ?_)
 ·try simp only [cn] at h1
  have hs := spansP.one.1 h1
  have ht := hs.1.1.tri
  have hpb := hs.1.1.pb
  try simp -dsimp -implicitDefEqProofs (disch := omega) only [go_sem, undef, reduceAdd, reduceSub, reduceGT, reduceEqDiff, reduceMul, ring]
  refine AC.pure (.lent (impl_isLieElement_ok p pw br a (by omega) hpb.1 hpb.2 (by omega)) (.cons (Vw.q' (cs := [.i .i64 p, rows pw, cubes br]) (by simp (disch := omega) only [upd_same, upd_ne])) (.cons (.refl _) .nil)) (.b _)) ?_
  try simp -dsimp -implicitDefEqProofs (disch := omega) only [go_sem, undef, reduceAdd, reduceSub, reduceGT, reduceEqDiff, reduceMul, ring]
  refine hN _ ?_
  try clear hN N
  refine AW.cond rfl (fun h2 => ?_) (fun h2 => ?_)
  ·try simp only [cn] at h2
   refine AW.sr envOk (fun N hN => ?_)
   simp -dsimp -implicitDefEqProofs (disch := omega) only [go_sem, undef, reduceAdd, reduceSub, reduceGT, reduceEqDiff, reduceMul, ring]
   refine hN _ ?_
   try clear hN N
   refine AW.ret ?_
   simp -dsimp -implicitDefEqProofs (disch := omega) only [go_sem, undef, reduceAdd, reduceSub, reduceGT, reduceEqDiff, reduceMul]
   rw [tf_f (show ¬SpnE p pw br u a from fun h => h2 h.2)]; rfl
  ·try simp only [cn] at h2
   have hrl := (redL_el ht u h2.el).len
   have h6 := ht.n6
   refine AW.skip ?_
   simp only [thn, blk]
   refine hN1 _ ?_
   try clear hN1 N1
   refine AW.sr envOk (fun N hN => ?_)
   simp -dsimp -implicitDefEqProofs (disch := omega) only [go_sem, undef, reduceAdd, reduceSub, reduceGT, reduceEqDiff, reduceMul, ring]
   refine AC.own (impl_reduceLie_ok p pw br ht u (hs.can.rws ht.n6) a h2.el) (.cons (Vw.q' (cs := [.i .i64 p, rows pw, cubes br]) (by simp (disch := omega) only [upd_same, upd_ne])) (.cons (.refl _) (.cons (.refl _) .nil))) ?_
   intro m1 H3 r3 ids hm1 hH1 hown1
   try simp -dsimp -implicitDefEqProofs (disch := omega) only [go_sem, undef, reduceAdd, reduceSub, reduceGT, reduceEqDiff, reduceMul, ring]
   refine AC.pure (.lent (impl_isZero_ok (redL p pw u a) (by omega)) (.cons hown1.1.vw .nil) (.b _)) ?_
   try simp -dsimp -implicitDefEqProofs (disch := omega) only [go_sem, undef, reduceAdd, reduceSub, reduceGT, reduceEqDiff, reduceMul, ring]
   refine hN _ ?_
   try clear hN N
   refine AW.ret ?_
   simp -dsimp -implicitDefEqProofs (disch := omega) only [go_sem, undef, reduceAdd, reduceSub, reduceGT, reduceEqDiff, reduceMul]
   rw [tf_t (show SpnE p pw br u a from ⟨hs, h2⟩)]; rfl
 ·try simp only [cn] at h1
  try simp -dsimp -implicitDefEqProofs (disch := omega) only [go_sem, undef, reduceAdd, reduceSub, reduceGT, reduceEqDiff, reduceMul, ring]
  refine hN _ ?_
  try clear hN N
  refine AW.condT rfl ?_
  refine AW.sr envOk (fun N hN => ?_)
  simp -dsimp -implicitDefEqProofs (disch := omega) only [go_sem, undef, reduceAdd, reduceSub, reduceGT, reduceEqDiff, reduceMul, ring]
  refine hN _ ?_
  try clear hN N
  refine AW.ret ?_
  simp -dsimp -implicitDefEqProofs (disch := omega) only [go_sem, undef, reduceAdd, reduceSub, reduceGT, reduceEqDiff, reduceMul]
  rw [tf_f (show ¬SpnE p pw br u a from fun h => h1 (spansP.one.2 h.1))]; rfl
end Go.Proofs.Ytdghgmgppecncaa
