import Derived.Test.YtkmgmjajbiddbaaZ20
set_option linter.unusedVariables false
set_option linter.unusedSimpArgs false
namespace Go.Proofs.Ytkmgmjajbiddbaa
open Nat (reduceAdd reduceSub reduceGT reduceEqDiff reduceMul)
theorem o_ints (a : List Int) : one (ints a) = true := rfl
theorem o_rows (a : List (List Int)) : one (rows a) = true := rfl
theorem o_cubes (a : List (List (List Int))) : one (cubes a) = true := rfl
theorem k_ints (a : List Int) : okA (ints a) = true := rfl
theorem k_rows (a : List (List Int)) : okA (rows a) = true := rfl
theorem k_cubes (a : List (List (List Int))) : okA (cubes a) = true := rfl
theorem c_ints (a : List Int) : cellsA (ints a) = [ints a] := rfl
theorem c_rows (a : List (List Int)) : cellsA (rows a) = [rows a] := rfl
theorem c_cubes (a : List (List (List Int))) : cellsA (cubes a) = [cubes a] := rfl
attribute [go_sem] o_ints o_rows o_cubes k_ints k_rows k_cubes c_ints c_rows c_cubes Bool.true_and ne_eq not_true_eq_false not_false_eq_true or_false false_or or_self
def Rd (r X : AV) : Prop := ∀ (L : LM) (w : World) (M : Nat → Prop) (u : Value), R L w M r u → R L w M X u
theorem Rd.refl (r : AV) : Rd r r := fun _ _ _ _ h => h
theorem Rd.nl : Rd .nl (.v 0 []) := fun _ _ _ _ h => h.nl_v0
theorem Rd.t2 {a b x y : AV} (h1 : Rd a x) (h2 : Rd b y) : Rd (.t [a, b]) (.t [x, y]) := by
  intro L w M u h
  cases h with
  | t _ us hs hr =>
    refine .t _ us hs ?_
    intro k z hk
    match k, hk with
    | 0, hk => cases hk; exact h1 _ _ _ _ (hr 0 _ rfl)
    | 1, hk => cases hk; exact h2 _ _ _ _ (hr 1 _ rfl)
theorem ACp.introR {P : Program} {Γ : TEnv} (hG : GOk P Γ) {f : FuncId} {fn : Func} {c : Code} {n : Nat} {rs : Array ResultVar} (hf : P.funcs[f]? = some fn) (hb : fn.body = some c) (hn : (fn.name == "runtime.NumGoroutine") = false) (hnt : fn.ntmps = n) (hres : fn.results = rs) {xs : List AV} {r : AV} (hr : NR r)
    (h : ∀ nx, AW P c ⟨xs ++ List.replicate (n - xs.length) .j, noH, nx⟩ (finK Γ rs.toList fun _ _ r' => Rd r' r)) : ACp P f xs r := by
  refine ⟨⟨fn, hf, by rw [hb]; rfl, hn⟩, ?_⟩
  rintro L M w us hM ⟨nx, hfr⟩ ha
  refine ((AC.intro' hG hf hb hn hnt hres (h nx)).2 L M w us (SR_noH hM) hfr (by rw [MM_noH]; exact ha)).mono ?_
  rintro e w' ⟨u, r', L', nx', H', g1, g0, g2, g3, g4, g5, g6, g7⟩
  refine ⟨u, g1, ⟨fun _ _ h => h, g6.os, g6.tape, g6.output, g6.size, g6.keep, fun b _ hl => hl⟩, ?_⟩
  exact R.mono (L := L) (M := MM L' H' M) (w := w') (fun _ _ h => h) (fun _ _ _ => rfl) (fun b _ hb => .inl hb) ((g0 _ _ _ _ g7).nr hr)
theorem ints_nr (a : List Int) : NR (ints a) := by
  unfold Go.Proofs.Ytkmgmjajbiddbaa.ints
  exact .v _ _ (by intro k x hk; obtain ⟨y, _, rfl⟩ := List.mem_map.1 (List.mem_of_getElem? hk); exact .i _ _)
def resL (m : List Int × Int) : AV := .t [ints m.1, .i .i64 m.2]
def orE (b : Bool) (m : List Int × Int) : List Int × Int := match b with
  | true => m
  | false => ([], 1)
theorem resL_nr (m : List Int × Int) : NR (resL m) := NR.ts (fun x hx => by
  simp at hx
  rcases hx with rfl | rfl
  · exact ints_nr _
  · exact .i _ _)
theorem resL_nl {e : Int} : Rd (.t [.nl, .i .i64 e]) (resL ([], e)) := Rd.t2 .nl (.refl _)
theorem Own.pair {a b : Nat} {H : HP} {r X : AV} {ids : List Nat} {k : IntKind} {e : Int} (h : Own a b H r X ids) : ∃ ids, Own a b H (.t [r, .i k e]) (.t [X, .i k e]) ids := by
  refine ⟨ids ++ ([] ++ []), .t _ _ _ (.cons _ _ _ _ _ _ h.1 (.cons _ _ _ _ _ _ (.leaf _ (.i _ _) (.i _ _)) .nil)), ?_, ?_⟩
  · simpa using h.2.1
  · simpa using h.2.2
theorem Own.nilE {a b : Nat} {H : HP} {e : Int} : ∃ ids, Own a b H (.t [.nl, .i .i64 e]) (resL ([], e)) ids :=
  ⟨[] ++ ([] ++ []), .t _ _ _ (.cons _ _ _ _ _ _ .nl (.cons _ _ _ _ _ _ (.leaf _ (.i _ _) (.i _ _)) .nil)), by simp, by simp⟩
theorem spec_l31Has_ok (p : Int) (pw : List (List Int)) (br : List (List (List Int))) (a : List Int) (hp : -1000 ≤ p ∧ p ≤ 1000) (ha : a.length ≤ 1048576) : ACp Try.prog 50 [ring p pw br, ints a] (.b (tf (isEl p pw.length a))) := by
 refine ACp.intro' envOk Try.func50 rfl (by kernel_rfl) Try.ntmps50 Try.results50 (.b _) (fun nx => ?_)
 refine AW.sr envOk (fun N hN => ?_)
 simp -dsimp -implicitDefEqProofs (disch := omega) only [go_sem, undef, reduceAdd, reduceSub, reduceGT, reduceEqDiff, reduceMul, ring, rows, cubes]
 refine hN _ ?_
 try clear hN N
 refine AW.sr envOk (fun N hN => ?_)
 simp -dsimp -implicitDefEqProofs (disch := omega) only [go_sem, undef, reduceAdd, reduceSub, reduceGT, reduceEqDiff, reduceMul, ring, rows, cubes]
 refine AC.pure (.of (spec_l31Is_ok a p pw.length (by omega) hp.1 hp.2)) ?_
 try simp -dsimp -implicitDefEqProofs (disch := omega) only [go_sem, undef, reduceAdd, reduceSub, reduceGT, reduceEqDiff, reduceMul, ring, rows, cubes]
 refine hN _ ?_
 try clear hN N
 refine AW.ret ?_
 simp -dsimp -implicitDefEqProofs (disch := omega) only [go_sem, undef, reduceAdd, reduceSub, reduceGT, reduceEqDiff, reduceMul]
 skip
theorem shapeP.pb {p : Int} {pw : List (List Int)} {br : List (List (List Int))} (h : shapeP p pw br) : -1000 ≤ p ∧ p ≤ 1000 := by have := pr4_bd h.1; omega
def AllEl (p : Int) (pw : List (List Int)) (br : List (List (List Int))) (xs : List (List Int)) : Prop := LieR p pw br ∧ ∀ k, k < xs.length → isEl p pw.length (xs.getD k [])
theorem impl_lieElements_ok (p : Int) (pw : List (List Int)) (br : List (List (List Int))) (hl : ringlen pw br) (xs : List (List Int)) (hx : rowslen xs) : ACp Try.prog 48 [ringP p pw br, rows xs] (.b (tf (AllEl p pw br xs))) := by
 have hn := hl.n
 have hxn := hx.n
 refine ACp.intro' envOk Try.func48 rfl (by kernel_rfl) Try.ntmps48 Try.results48 (.b _) (fun nx => ?_)
 refine AW.sr envOk (fun N hN => ?_)
 simp -dsimp -implicitDefEqProofs (disch := omega) only [go_sem, undef, reduceAdd, reduceSub, reduceGT, reduceEqDiff, reduceMul, ringP, rows, cubes, gd_r, w64]
 refine hN _ ?_
 try clear hN N
 refine AW.seq (fun N1 hN1 => ?_)
 refine AW.sr envOk (fun N hN => ?_)
 simp -dsimp -implicitDefEqProofs (disch := omega) only [go_sem, undef, reduceAdd, reduceSub, reduceGT, reduceEqDiff, reduceMul, ringP, rows, cubes, gd_r, w64]
 refine AC.pure (.of (impl_IsLieRing_ok p pw br hl)) ?_
 try simp -dsimp -implicitDefEqProofs (disch := omega) only [go_sem, undef, reduceAdd, reduceSub, reduceGT, reduceEqDiff, reduceMul, ringP, rows, cubes, gd_r, w64]
 refine hN _ ?_
 try clear hN N
 refine AW.cond rfl (fun h1 => ?_) (fun h1 => ?_)
 ·try simp only [cn] at h1
  refine AW.sr envOk (fun N hN => ?_)
  simp -dsimp -implicitDefEqProofs (disch := omega) only [go_sem, undef, reduceAdd, reduceSub, reduceGT, reduceEqDiff, reduceMul, ringP, rows, cubes, gd_r, w64]
  refine hN _ ?_
  try clear hN N
  refine AW.ret ?_
  simp -dsimp -implicitDefEqProofs (disch := omega) only [go_sem, undef, reduceAdd, reduceSub, reduceGT, reduceEqDiff, reduceMul]
  exact bt (tf_f (fun h => h1 h.1)).symm
 ·try simp only [cn] at h1
  have hpb := h1.1.pb
  refine AW.skip ?_
  simp only [thn, blk]
  refine hN1 _ ?_
  try clear hN1 N1
  refine AW.seq (fun N2 hN2 => ?_)
  refine AW.sr envOk (fun N hN => ?_)
  simp -dsimp -implicitDefEqProofs (disch := omega) only [go_sem, undef, reduceAdd, reduceSub, reduceGT, reduceEqDiff, reduceMul, ringP, rows, cubes, gd_r, w64]
  refine hN _ ?_
  try clear hN N
  refine AW.block ?_
  refine AW.loopN (α := Nat) (fun x => sl 23 [(0, ringP p pw br), (12, rows xs), (13, .i .i64 xs.length), (14, .i .i64 x)]) (fun _ => noH) (fun x m => x ≤ xs.length ∧ ∀ k, k < x → isEl p pw.length (xs.getD k [])) (fun x => xs.length - x) (0) ?_ ?_ (fun _ _ h => h) ?_
  ·exact ⟨by omega, by intro k hk; omega⟩
  ·simp (disch := omega) [wks, wkA, sl, w64, ints, rows, cubes, ringP, rows, cubes, gd_r, w64] <;> omega
  ·skip
   rintro k m ⟨hk, hI⟩
   simp -dsimp -implicitDefEqProofs (disch := omega) only [go_sem, undef, reduceAdd, reduceSub, reduceGT, reduceEqDiff, reduceMul]
   refine AW.sr envOk (fun N hN => ?_)
   simp -dsimp -implicitDefEqProofs (disch := omega) only [go_sem, undef, reduceAdd, reduceSub, reduceGT, reduceEqDiff, reduceMul, ringP, rows, cubes, gd_r, w64]
   refine hN _ ?_
   try clear hN N
   refine AW.seq (fun N3 hN3 => ?_)
   refine AW.cond rfl (fun h2 => ?_) (fun h2 => ?_)
   ·try simp only [cn] at h2
    refine AW.skip ?_
    simp only [thn, blk]
    refine hN3 _ ?_
    try clear hN3 N3
    refine AW.seq (fun N4 hN4 => ?_)
    refine AW.block ?_
    refine AW.sr envOk (fun N hN => ?_)
    simp -dsimp -implicitDefEqProofs (disch := omega) only [go_sem, undef, reduceAdd, reduceSub, reduceGT, reduceEqDiff, reduceMul, ringP, rows, cubes, gd_r, w64]
    refine hN _ ?_
    try clear hN N
    refine AW.sr envOk (fun N hN => ?_)
    simp -dsimp -implicitDefEqProofs (disch := omega) only [go_sem, undef, reduceAdd, reduceSub, reduceGT, reduceEqDiff, reduceMul, ringP, rows, cubes, gd_r, w64]
    refine AC.pure (.of (impl_isLieElement_ok p pw br (xs.getD k []) (by have := hx.getD k; omega) hpb.1 hpb.2 (by omega))) ?_
    try simp -dsimp -implicitDefEqProofs (disch := omega) only [go_sem, undef, reduceAdd, reduceSub, reduceGT, reduceEqDiff, reduceMul, ringP, rows, cubes, gd_r, w64]
    refine hN _ ?_
    try clear hN N
    refine AW.cond rfl (fun h3 => ?_) (fun h3 => ?_)
    ·try simp only [cn] at h3
     refine AW.sr envOk (fun N hN => ?_)
     simp -dsimp -implicitDefEqProofs (disch := omega) only [go_sem, undef, reduceAdd, reduceSub, reduceGT, reduceEqDiff, reduceMul, ringP, rows, cubes, gd_r, w64]
     refine hN _ ?_
     try clear hN N
     refine AW.ret ?_
     simp -dsimp -implicitDefEqProofs (disch := omega) only [go_sem, undef, reduceAdd, reduceSub, reduceGT, reduceEqDiff, reduceMul]
     exact bt (tf_f (fun h => h3 (h.2 k (by omega)))).symm
    ·try simp only [cn] at h3
     refine AW.skip ?_
     simp only [thn, blk]
     refine hN4 _ ?_
     try clear hN4 N4
     refine AW.regionL envOk ?_
     simp -dsimp -implicitDefEqProofs (disch := omega) only [go_sem, undef, reduceAdd, reduceSub, reduceGT, reduceEqDiff, reduceMul, ringP, rows, cubes, gd_r, w64]
     refine ⟨k + 1, ?_, fun _ _ h => h, ?_, ?_⟩
     ·simp (disch := omega) [wks, wkA, sl, w64, ints, rows, cubes, ringP, rows, cubes, gd_r, w64] <;> omega
     ·refine ⟨by omega, fun j hj => ?_⟩
      by_cases e : j = k
      ·subst e; exact h3
      ·exact hI j (by omega)
     ·first | omega | (simp only; omega)
   ·try simp only [cn] at h2
    refine AW.exit ?_
    simp only [thn, blk, if_true]
    refine hN2 _ ?_
    try clear hN2 N2
    refine AW.sr envOk (fun N hN => ?_)
    simp -dsimp -implicitDefEqProofs (disch := omega) only [go_sem, undef, reduceAdd, reduceSub, reduceGT, reduceEqDiff, reduceMul, ringP, rows, cubes, gd_r, w64]
    refine hN _ ?_
    try clear hN N
    refine AW.ret ?_
    simp -dsimp -implicitDefEqProofs (disch := omega) only [go_sem, undef, reduceAdd, reduceSub, reduceGT, reduceEqDiff, reduceMul]
    exact bt (tf_t ⟨h1, fun j hj => hI j (by omega)⟩).symm
theorem AllEl.one {p : Int} {pw : List (List Int)} {br : List (List (List Int))} {a : List Int} : AllEl p pw br [a] ↔ LieR p pw br ∧ isEl p pw.length a :=
  ⟨fun h => ⟨h.1, h.2 0 (by simp)⟩, fun h => ⟨h.1, fun k hk => by
    simp at hk; subst hk; exact h.2⟩⟩
theorem AllEl.two {p : Int} {pw : List (List Int)} {br : List (List (List Int))} {a b : List Int} : AllEl p pw br [a, b] ↔ LieR p pw br ∧ isEl p pw.length a ∧ isEl p pw.length b :=
  ⟨fun h => ⟨h.1, h.2 0 (by simp), h.2 1 (by simp)⟩, fun h => ⟨h.1, fun k hk => by
    match k, hk with
    | 0, _ => exact h.2.1
    | 1, _ => exact h.2.2⟩⟩
theorem spec_AddLie_ok (p : Int) (pw : List (List Int)) (br : List (List (List Int))) (hl : ringlen pw br) (a b : List Int) (ha : a.length ≤ 1048576) (hb : b.length ≤ 1048576) : ACp Try.prog 17 [ring p pw br, ints a, ints b] (resL (orE (tf (AllEl p pw br [a, b])) (mixL p pw 1 a 1 b, 0))) := by
 refine ACp.introR envOk Try.func17 rfl (by kernel_rfl) Try.ntmps17 Try.results17 (resL_nr _) (fun nx => ?_)
 refine AW.sr envOk (fun N hN => ?_)
 simp -dsimp -implicitDefEqProofs (disch := omega) only [go_sem, undef, reduceAdd, reduceSub, reduceGT, reduceEqDiff, reduceMul, ring, rows, cubes]
 refine hN _ ?_
 try clear hN N
 refine AW.seq (fun N1 hN1 => ?_)
 refine AW.sr envOk (fun N hN => ?_)
 simp -dsimp -implicitDefEqProofs (disch := omega) only [go_sem, undef, reduceAdd, reduceSub, reduceGT, reduceEqDiff, reduceMul, ring, rows, cubes]
 refine AC.pure (.of (spec_IsLieRing_ok p pw br hl)) ?_
 try simp -dsimp -implicitDefEqProofs (disch := omega) only [go_sem, undef, reduceAdd, reduceSub, reduceGT, reduceEqDiff, reduceMul, ring, rows, cubes]
 refine gopB.mk' (fun h1 => ?_) (fun h1 => ?_)
 ·try simp only [cn] at h1
  have hpb := h1.1.pb
  try simp -dsimp -implicitDefEqProofs (disch := omega) only [go_sem, undef, reduceAdd, reduceSub, reduceGT, reduceEqDiff, reduceMul, ring, rows, cubes]
  refine AC.pure (.of (spec_l31Has_ok p pw br a hpb ha)) ?_
  try simp -dsimp -implicitDefEqProofs (disch := omega) only [go_sem, undef, reduceAdd, reduceSub, reduceGT, reduceEqDiff, reduceMul, ring, rows, cubes]
  refine gopB.mk' (fun h2 => ?_) (fun h2 => ?_)
  ·try simp only [cn] at h2
   try simp -dsimp -implicitDefEqProofs (disch := omega) only [go_sem, undef, reduceAdd, reduceSub, reduceGT, reduceEqDiff, reduceMul, ring, rows, cubes]
   refine AC.pure (.of (spec_l31Has_ok p pw br b hpb hb)) ?_
   try simp -dsimp -implicitDefEqProofs (disch := omega) only [go_sem, undef, reduceAdd, reduceSub, reduceGT, reduceEqDiff, reduceMul, ring, rows, cubes]
   refine hN _ ?_
   try clear hN N
   refine AW.cond rfl (fun h3 => ?_) (fun h3 => ?_)
   ·try simp only [cn] at h3
    refine AW.sr envOk (fun N hN => ?_)
    simp -dsimp -implicitDefEqProofs (disch := omega) only [go_sem, undef, reduceAdd, reduceSub, reduceGT, reduceEqDiff, reduceMul, ring, rows, cubes]
    refine hN _ ?_
    try clear hN N
    refine AW.ret ?_
    simp -dsimp -implicitDefEqProofs (disch := omega) only [go_sem, undef, reduceAdd, reduceSub, reduceGT, reduceEqDiff, reduceMul]
    rw [tf_f (fun h => h3 (AllEl.two.1 h).2.2)]
    exact resL_nl
   ·try simp only [cn] at h3
    refine AW.skip ?_
    simp only [thn, blk]
    refine hN1 _ ?_
    try clear hN1 N1
    refine AW.sr envOk (fun N hN => ?_)
    simp -dsimp -implicitDefEqProofs (disch := omega) only [go_sem, undef, reduceAdd, reduceSub, reduceGT, reduceEqDiff, reduceMul, ring, rows, cubes]
    refine AC.pure (.of ((spec_l31Mix_ok p pw br h1.1.tri 1 a 1 b h2.el.len h3.el.len (h2.el.sml1 h1.1.tri.p7) (h3.el.sml1 h1.1.tri.p7)).pure )) ?_
    try simp -dsimp -implicitDefEqProofs (disch := omega) only [go_sem, undef, reduceAdd, reduceSub, reduceGT, reduceEqDiff, reduceMul, ring, rows, cubes]
    refine hN _ ?_
    try clear hN N
    refine AW.ret ?_
    simp -dsimp -implicitDefEqProofs (disch := omega) only [go_sem, undef, reduceAdd, reduceSub, reduceGT, reduceEqDiff, reduceMul]
    rw [tf_t (AllEl.two.2 ⟨h1, h2, h3⟩)]
    exact .refl _
  ·try simp only [cn] at h2
   try simp -dsimp -implicitDefEqProofs (disch := omega) only [go_sem, undef, reduceAdd, reduceSub, reduceGT, reduceEqDiff, reduceMul, ring, rows, cubes]
   refine hN _ ?_
   try clear hN N
   refine AW.condT rfl ?_
   refine AW.sr envOk (fun N hN => ?_)
   simp -dsimp -implicitDefEqProofs (disch := omega) only [go_sem, undef, reduceAdd, reduceSub, reduceGT, reduceEqDiff, reduceMul, ring, rows, cubes]
   refine hN _ ?_
   try clear hN N
   refine AW.ret ?_
   simp -dsimp -implicitDefEqProofs (disch := omega) only [go_sem, undef, reduceAdd, reduceSub, reduceGT, reduceEqDiff, reduceMul]
   rw [tf_f (fun h => h2 (AllEl.two.1 h).2.1)]
   exact resL_nl
 ·try simp only [cn] at h1
  try simp -dsimp -implicitDefEqProofs (disch := omega) only [go_sem, undef, reduceAdd, reduceSub, reduceGT, reduceEqDiff, reduceMul, ring, rows, cubes]
  refine hN _ ?_
  try clear hN N
  refine AW.condT rfl ?_
  refine AW.sr envOk (fun N hN => ?_)
  simp -dsimp -implicitDefEqProofs (disch := omega) only [go_sem, undef, reduceAdd, reduceSub, reduceGT, reduceEqDiff, reduceMul, ring, rows, cubes]
  refine hN _ ?_
  try clear hN N
  refine AW.ret ?_
  simp -dsimp -implicitDefEqProofs (disch := omega) only [go_sem, undef, reduceAdd, reduceSub, reduceGT, reduceEqDiff, reduceMul]
  rw [tf_f (fun h => h1 (AllEl.two.1 h).1)]
  exact resL_nl
theorem Vw.rws {H : HP} {id : Nat} {xs : List (List Int)} {n : Nat} (hn : n = xs.length) (h : H id = some (xs.map Go.Proofs.Ytkmgmjajbiddbaa.ints)) : Vw H (.h id 0 n) (rows xs) := by
  subst hn
  unfold rows
  exact .h id 0 xs.length _ _ h (by simp) (by simp) (fun k x y hx hy => by rw [Nat.zero_add, hy] at hx; cases hx; exact .refl _)
theorem impl_AddLie_ok (p : Int) (pw : List (List Int)) (br : List (List (List Int))) (hl : ringlen pw br) (a b : List Int) (ha : a.length ≤ 1048576) (hb : b.length ≤ 1048576) : ACo Try.prog 16 [ring p pw br, ints a, ints b] (resL (orE (tf (AllEl p pw br [a, b])) (mixL p pw 1 a 1 b, 0))) := by
 intro nx
 refine AC.intro' envOk Try.func16 rfl (by kernel_rfl) Try.ntmps16 Try.results16 ?_
 refine AW.sr envOk (fun N hN => ?_)
 simp -dsimp -implicitDefEqProofs (disch := omega) only [go_sem, undef, reduceAdd, reduceSub, reduceGT, reduceEqDiff, reduceMul, ring]
 refine hN _ ?_
 try clear hN N
 refine AW.seq (fun N1 hN1 => ?_)
 refine AW.sr envOk (fun N hN => ?_)
 simp -dsimp -implicitDefEqProofs (disch := omega) only [go_sem, undef, reduceAdd, reduceSub, reduceGT, reduceEqDiff, reduceMul, ring]
 refine AC.pure (.lent (impl_lieElements_ok p pw br hl [a, b] ⟨by simp, by simp [ha, hb]⟩) ?_ (.b _)) ?_
 ·exact .cons (Vw.q' (cs := [.i .i64 p, rows pw, cubes br]) (by simp (disch := omega) only [upd_same, upd_ne])) (.cons (Vw.rws rfl (upd_same _ _ _)) .nil)
 try simp -dsimp -implicitDefEqProofs (disch := omega) only [go_sem, undef, reduceAdd, reduceSub, reduceGT, reduceEqDiff, reduceMul, ring]
 refine hN _ ?_
 try clear hN N
 refine AW.cond rfl (fun h1 => ?_) (fun h1 => ?_)
 ·try simp only [cn] at h1
  refine AW.sr envOk (fun N hN => ?_)
  simp -dsimp -implicitDefEqProofs (disch := omega) only [go_sem, undef, reduceAdd, reduceSub, reduceGT, reduceEqDiff, reduceMul, ring]
  refine hN _ ?_
  try clear hN N
  refine AW.ret ?_
  simp -dsimp -implicitDefEqProofs (disch := omega) only [go_sem, undef, reduceAdd, reduceSub, reduceGT, reduceEqDiff, reduceMul]
  rw [tf_f h1]
  exact Own.nilE
 ·try simp only [cn] at h1
  have h1' := AllEl.two.1 h1
  have ht := h1'.1.1.tri
  have hp7 := ht.p7
  refine AW.skip ?_
  simp only [thn, blk]
  refine hN1 _ ?_
  try clear hN1 N1
  refine AW.sr envOk (fun N hN => ?_)
  simp -dsimp -implicitDefEqProofs (disch := omega) only [go_sem, undef, reduceAdd, reduceSub, reduceGT, reduceEqDiff, reduceMul, ring]
  refine AC.own (impl_addLie_ok p pw br ht a b h1'.2.1.el.len h1'.2.2.el.len (h1'.2.1.el.sml1 hp7) (h1'.2.2.el.sml1 hp7)) ?_ ?_
  ·exact .cons (Vw.q' (cs := [.i .i64 p, rows pw, cubes br]) (by simp (disch := omega) only [upd_same, upd_ne])) (.cons (.refl _) (.cons (.refl _) .nil))
  intro m1 H3 r3 ids hm1 hH1 hown1
  try simp -dsimp -implicitDefEqProofs (disch := omega) only [go_sem, undef, reduceAdd, reduceSub, reduceGT, reduceEqDiff, reduceMul, ring]
  refine hN _ ?_
  try clear hN N
  refine AW.ret ?_
  simp -dsimp -implicitDefEqProofs (disch := omega) only [go_sem, undef, reduceAdd, reduceSub, reduceGT, reduceEqDiff, reduceMul]
  rw [tf_t h1]
  exact (hown1.keep (fun _ _ _ => rfl) (by omega) (by omega)).pair
theorem impl_NegateLie_ok (p : Int) (pw : List (List Int)) (br : List (List (List Int))) (hl : ringlen pw br) (a : List Int) (ha : a.length ≤ 1048576) : ACo Try.prog 19 [ring p pw br, ints a] (resL (orE (tf (AllEl p pw br [a])) (mulL p pw (-1) a, 0))) := by
 intro nx
 refine AC.intro' envOk Try.func19 rfl (by kernel_rfl) Try.ntmps19 Try.results19 ?_
 refine AW.sr envOk (fun N hN => ?_)
 simp -dsimp -implicitDefEqProofs (disch := omega) only [go_sem, undef, reduceAdd, reduceSub, reduceGT, reduceEqDiff, reduceMul, ring]
 refine hN _ ?_
 try clear hN N
 refine AW.seq (fun N1 hN1 => ?_)
 refine AW.sr envOk (fun N hN => ?_)
 simp -dsimp -implicitDefEqProofs (disch := omega) only [go_sem, undef, reduceAdd, reduceSub, reduceGT, reduceEqDiff, reduceMul, ring]
 refine AC.pure (.lent (impl_lieElements_ok p pw br hl [a] ⟨by simp, by simp [ha]⟩) ?_ (.b _)) ?_
 ·exact .cons (Vw.q' (cs := [.i .i64 p, rows pw, cubes br]) (by simp (disch := omega) only [upd_same, upd_ne])) (.cons (Vw.rws rfl (upd_same _ _ _)) .nil)
 try simp -dsimp -implicitDefEqProofs (disch := omega) only [go_sem, undef, reduceAdd, reduceSub, reduceGT, reduceEqDiff, reduceMul, ring]
 refine hN _ ?_
 try clear hN N
 refine AW.cond rfl (fun h1 => ?_) (fun h1 => ?_)
 ·try simp only [cn] at h1
  refine AW.sr envOk (fun N hN => ?_)
  simp -dsimp -implicitDefEqProofs (disch := omega) only [go_sem, undef, reduceAdd, reduceSub, reduceGT, reduceEqDiff, reduceMul, ring]
  refine hN _ ?_
  try clear hN N
  refine AW.ret ?_
  simp -dsimp -implicitDefEqProofs (disch := omega) only [go_sem, undef, reduceAdd, reduceSub, reduceGT, reduceEqDiff, reduceMul]
  rw [tf_f h1]
  exact Own.nilE
 ·try simp only [cn] at h1
  have h1' := AllEl.one.1 h1
  have ht := h1'.1.1.tri
  have hp7 := ht.p7
  refine AW.skip ?_
  simp only [thn, blk]
  refine hN1 _ ?_
  try clear hN1 N1
  refine AW.sr envOk (fun N hN => ?_)
  simp -dsimp -implicitDefEqProofs (disch := omega) only [go_sem, undef, reduceAdd, reduceSub, reduceGT, reduceEqDiff, reduceMul, ring]
  refine AC.own (impl_timesLie_ok p pw br ht (-1) a h1'.2.el.len (h1'.2.el.smlk hp7 (by omega) (by omega)) ⟨by omega, by omega⟩) ?_ ?_
  ·exact .cons (Vw.q' (cs := [.i .i64 p, rows pw, cubes br]) (by simp (disch := omega) only [upd_same, upd_ne])) (.cons (.refl _) (.cons (.refl _) .nil))
  intro m1 H3 r3 ids hm1 hH1 hown1
  try simp -dsimp -implicitDefEqProofs (disch := omega) only [go_sem, undef, reduceAdd, reduceSub, reduceGT, reduceEqDiff, reduceMul, ring]
  refine hN _ ?_
  try clear hN N
  refine AW.ret ?_
  simp -dsimp -implicitDefEqProofs (disch := omega) only [go_sem, undef, reduceAdd, reduceSub, reduceGT, reduceEqDiff, reduceMul]
  rw [tf_t h1]
  exact (hown1.keep (fun _ _ _ => rfl) (by omega) (by omega)).pair
def inM (k : Int) : Prop := -1000000 ≤ k ∧ k ≤ 1000000
def orR (b : Bool) (m : List Int × Int) : List Int × Int := match b with
  | true => m
  | false => ([], 2)
theorem impl_TimesLie_ok (p : Int) (pw : List (List Int)) (br : List (List (List Int))) (hl : ringlen pw br) (k : Int) (a : List Int) (ha : a.length ≤ 1048576) : ACo Try.prog 23 [ring p pw br, .i .i64 k, ints a] (resL (orE (tf (AllEl p pw br [a])) (orR (tf (inM k)) (mulL p pw k a, 0)))) := by
 intro nx
 refine AC.intro' envOk Try.func23 rfl (by kernel_rfl) Try.ntmps23 Try.results23 ?_
 refine AW.sr envOk (fun N hN => ?_)
 simp -dsimp -implicitDefEqProofs (disch := omega) only [go_sem, undef, reduceAdd, reduceSub, reduceGT, reduceEqDiff, reduceMul, ring]
 refine hN _ ?_
 try clear hN N
 refine AW.seq (fun N1 hN1 => ?_)
 refine AW.sr envOk (fun N hN => ?_)
 simp -dsimp -implicitDefEqProofs (disch := omega) only [go_sem, undef, reduceAdd, reduceSub, reduceGT, reduceEqDiff, reduceMul, ring]
 refine AC.pure (.lent (impl_lieElements_ok p pw br hl [a] ⟨by simp, by simp [ha]⟩) ?_ (.b _)) ?_
 ·exact .cons (Vw.q' (cs := [.i .i64 p, rows pw, cubes br]) (by simp (disch := omega) only [upd_same, upd_ne])) (.cons (Vw.rws rfl (upd_same _ _ _)) .nil)
 try simp -dsimp -implicitDefEqProofs (disch := omega) only [go_sem, undef, reduceAdd, reduceSub, reduceGT, reduceEqDiff, reduceMul, ring]
 refine hN _ ?_
 try clear hN N
 refine AW.cond rfl (fun h1 => ?_) (fun h1 => ?_)
 ·try simp only [cn] at h1
  refine AW.sr envOk (fun N hN => ?_)
  simp -dsimp -implicitDefEqProofs (disch := omega) only [go_sem, undef, reduceAdd, reduceSub, reduceGT, reduceEqDiff, reduceMul, ring]
  refine hN _ ?_
  try clear hN N
  refine AW.ret ?_
  simp -dsimp -implicitDefEqProofs (disch := omega) only [go_sem, undef, reduceAdd, reduceSub, reduceGT, reduceEqDiff, reduceMul]
  rw [tf_f h1]
  exact Own.nilE
 ·try simp only [cn] at h1
  have h1' := AllEl.one.1 h1
  have ht := h1'.1.1.tri
  have hp7 := ht.p7
  refine AW.skip ?_
  simp only [thn, blk]
  refine hN1 _ ?_
  try clear hN1 N1
  refine AW.seq (fun N2 hN2 => ?_)
  refine AW.sr envOk (fun N hN => ?_)
  simp -dsimp -implicitDefEqProofs (disch := omega) only [go_sem, undef, reduceAdd, reduceSub, reduceGT, reduceEqDiff, reduceMul, ring]
  refine AC.pure (.of (impl_inside_ok _ _ _)) ?_
  try simp -dsimp -implicitDefEqProofs (disch := omega) only [go_sem, undef, reduceAdd, reduceSub, reduceGT, reduceEqDiff, reduceMul, ring]
  refine hN _ ?_
  try clear hN N
  refine AW.cond rfl (fun h2 => ?_) (fun h2 => ?_)
  ·try simp only [cn] at h2
   refine AW.sr envOk (fun N hN => ?_)
   simp -dsimp -implicitDefEqProofs (disch := omega) only [go_sem, undef, reduceAdd, reduceSub, reduceGT, reduceEqDiff, reduceMul, ring]
   refine hN _ ?_
   try clear hN N
   refine AW.ret ?_
   simp -dsimp -implicitDefEqProofs (disch := omega) only [go_sem, undef, reduceAdd, reduceSub, reduceGT, reduceEqDiff, reduceMul]
   rw [tf_t h1, tf_f (show ¬inM k from h2)]
   exact Own.nilE
  ·try simp only [cn] at h2
   refine AW.skip ?_
   simp only [thn, blk]
   refine hN2 _ ?_
   try clear hN2 N2
   refine AW.sr envOk (fun N hN => ?_)
   simp -dsimp -implicitDefEqProofs (disch := omega) only [go_sem, undef, reduceAdd, reduceSub, reduceGT, reduceEqDiff, reduceMul, ring]
   refine AC.own (impl_timesLie_ok p pw br ht k a h1'.2.el.len (h1'.2.el.smlk hp7 (by omega) (by omega)) ⟨by omega, by omega⟩) ?_ ?_
   ·exact .cons (Vw.q' (cs := [.i .i64 p, rows pw, cubes br]) (by simp (disch := omega) only [upd_same, upd_ne])) (.cons (.refl _) (.cons (.refl _) .nil))
   intro m1 H3 r3 ids hm1 hH1 hown1
   try simp -dsimp -implicitDefEqProofs (disch := omega) only [go_sem, undef, reduceAdd, reduceSub, reduceGT, reduceEqDiff, reduceMul, ring]
   refine hN _ ?_
   try clear hN N
   refine AW.ret ?_
   simp -dsimp -implicitDefEqProofs (disch := omega) only [go_sem, undef, reduceAdd, reduceSub, reduceGT, reduceEqDiff, reduceMul]
   rw [tf_t h1, tf_t (show inM k from h2)]
   exact (hown1.keep (fun _ _ _ => rfl) (by omega) (by omega)).pair
theorem spec_NegateLie_ok (p : Int) (pw : List (List Int)) (br : List (List (List Int))) (hl : ringlen pw br) (a : List Int) (ha : a.length ≤ 1048576) : ACp Try.prog 20 [ring p pw br, ints a] (resL (orE (tf (AllEl p pw br [a])) (mulL p pw (-1) a, 0))) := by
 refine ACp.introR envOk Try.func20 rfl (by kernel_rfl) Try.ntmps20 Try.results20 (resL_nr _) (fun nx => ?_)
 refine AW.sr envOk (fun N hN => ?_)
 simp -dsimp -implicitDefEqProofs (disch := omega) only [go_sem, undef, reduceAdd, reduceSub, reduceGT, reduceEqDiff, reduceMul, ring, rows, cubes]
 refine hN _ ?_
 try clear hN N
 refine AW.seq (fun N1 hN1 => ?_)
 refine AW.sr envOk (fun N hN => ?_)
 simp -dsimp -implicitDefEqProofs (disch := omega) only [go_sem, undef, reduceAdd, reduceSub, reduceGT, reduceEqDiff, reduceMul, ring, rows, cubes]
 refine AC.pure (.of (spec_IsLieRing_ok p pw br hl)) ?_
 try simp -dsimp -implicitDefEqProofs (disch := omega) only [go_sem, undef, reduceAdd, reduceSub, reduceGT, reduceEqDiff, reduceMul, ring, rows, cubes]
 refine gopB.mk' (fun h1 => ?_) (fun h1 => ?_)
 ·try simp only [cn] at h1
  have hpb := h1.1.pb
  try simp -dsimp -implicitDefEqProofs (disch := omega) only [go_sem, undef, reduceAdd, reduceSub, reduceGT, reduceEqDiff, reduceMul, ring, rows, cubes]
  refine AC.pure (.of (spec_l31Has_ok p pw br a hpb ha)) ?_
  try simp -dsimp -implicitDefEqProofs (disch := omega) only [go_sem, undef, reduceAdd, reduceSub, reduceGT, reduceEqDiff, reduceMul, ring, rows, cubes]
  refine hN _ ?_
  try clear hN N
  refine AW.cond rfl (fun h2 => ?_) (fun h2 => ?_)
  ·try simp only [cn] at h2
   refine AW.sr envOk (fun N hN => ?_)
   simp -dsimp -implicitDefEqProofs (disch := omega) only [go_sem, undef, reduceAdd, reduceSub, reduceGT, reduceEqDiff, reduceMul, ring, rows, cubes]
   refine hN _ ?_
   try clear hN N
   refine AW.ret ?_
   simp -dsimp -implicitDefEqProofs (disch := omega) only [go_sem, undef, reduceAdd, reduceSub, reduceGT, reduceEqDiff, reduceMul]
   rw [tf_f (fun h => h2 (AllEl.one.1 h).2)]
   exact resL_nl
  ·try simp only [cn] at h2
   refine AW.skip ?_
   simp only [thn, blk]
   refine hN1 _ ?_
   try clear hN1 N1
   refine AW.sr envOk (fun N hN => ?_)
   simp -dsimp -implicitDefEqProofs (disch := omega) only [go_sem, undef, reduceAdd, reduceSub, reduceGT, reduceEqDiff, reduceMul, ring, rows, cubes]
   refine AC.pure (.of ((spec_l31Mix_ok p pw br h1.1.tri (-1) a 0 a h2.el.len h2.el.len (h2.el.smlk h1.1.tri.p7 (by omega) (by omega)) (h2.el.smlk h1.1.tri.p7 (by omega) (by omega))).pure )) ?_
   try simp -dsimp -implicitDefEqProofs (disch := omega) only [go_sem, undef, reduceAdd, reduceSub, reduceGT, reduceEqDiff, reduceMul, ring, rows, cubes]
   refine hN _ ?_
   try clear hN N
   refine AW.ret ?_
   simp -dsimp -implicitDefEqProofs (disch := omega) only [go_sem, undef, reduceAdd, reduceSub, reduceGT, reduceEqDiff, reduceMul]
   rw [tf_t (AllEl.one.2 ⟨h1, h2⟩), mix_mul h1.1.tri]
   exact .refl _
 ·try simp only [cn] at h1
  try simp -dsimp -implicitDefEqProofs (disch := omega) only [go_sem, undef, reduceAdd, reduceSub, reduceGT, reduceEqDiff, reduceMul, ring, rows, cubes]
  refine hN _ ?_
  try clear hN N
  refine AW.condT rfl ?_
  refine AW.sr envOk (fun N hN => ?_)
  simp -dsimp -implicitDefEqProofs (disch := omega) only [go_sem, undef, reduceAdd, reduceSub, reduceGT, reduceEqDiff, reduceMul, ring, rows, cubes]
  refine hN _ ?_
  try clear hN N
  refine AW.ret ?_
  simp -dsimp -implicitDefEqProofs (disch := omega) only [go_sem, undef, reduceAdd, reduceSub, reduceGT, reduceEqDiff, reduceMul]
  rw [tf_f (fun h => h1 (AllEl.one.1 h).1)]
  exact resL_nl
end Go.Proofs.Ytkmgmjajbiddbaa
