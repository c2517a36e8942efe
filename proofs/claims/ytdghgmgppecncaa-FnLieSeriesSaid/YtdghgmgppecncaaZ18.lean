import Derived.Test.YtdghgmgppecncaaZ17
set_option linter.unusedVariables false
set_option linter.unusedSimpArgs false
namespace Go.Proofs.Ytdghgmgppecncaa
open Nat (reduceAdd reduceSub reduceGT reduceEqDiff reduceMul)
theorem i4_fl (t : Int × Int × Int × Int) : Fl (i4 t) := .t _ (fun k x hk => by
  match k, hk with
  | 0, hk => cases hk; exact .i _ _
  | 1, hk => cases hk; exact .i _ _
  | 2, hk => cases hk; exact .i _ _
  | 3, hk => cases hk; exact .i _ _)
theorem NR.ts {xs : List AV} (h : ∀ x ∈ xs, NR x) : NR (.t xs) := .t _ (fun k x hk => h x (List.mem_of_getElem? hk))
def LieR (p : Int) (pw : List (List Int)) (br : List (List (List Int))) : Prop := shapeP p pw br ∧ isFault p pw br (0, 0, 0, 0)
theorem Flt.zero {n : Nat} {P : Nat → Nat → Prop} {J : Nat → Nat → Nat → Prop} {t : Int × Int × Int × Int} (h : Flt n P J t) : t.1 = 0 ↔ Flt n P J (0, 0, 0, 0) := by
  constructor
  · intro h0
    rcases h with ⟨a, b, rfl, _⟩ | ⟨hn, ⟨a, b, c, rfl, _⟩ | ⟨rfl, hz⟩⟩
    · simp at h0
    · simp at h0
    · exact .inr ⟨hn, .inr ⟨rfl, hz⟩⟩
  · intro h0
    rw [h.uniq h0]
theorem spec_IsLieRing_ok (p : Int) (pw : List (List Int)) (br : List (List (List Int))) (hl : ringlen pw br) : ACp Try.prog 127 [ring p pw br] (.b (tf (LieR p pw br))) := by
 obtain ⟨t, ht⟩ := Flt.ex pw.length (pf p pw br) (jf p pw br)
 refine ACp.intro' envOk Try.func127 rfl (by kernel_rfl) Try.ntmps127 Try.results127 (.b _) (fun nx => ?_)
 refine AW.sr envOk (fun N hN => ?_)
 simp -dsimp -implicitDefEqProofs (disch := omega) only [go_sem, undef, reduceAdd, reduceSub, reduceGT, reduceEqDiff, reduceMul, ring, rows, cubes, i4]
 refine hN _ ?_
 try clear hN N
 refine AW.seq (fun N1 hN1 => ?_)
 refine AW.sr envOk (fun N hN => ?_)
 simp -dsimp -implicitDefEqProofs (disch := omega) only [go_sem, undef, reduceAdd, reduceSub, reduceGT, reduceEqDiff, reduceMul, ring, rows, cubes, i4]
 refine AC.pure (.of (spec_IsLieShape_ok p pw br hl)) ?_
 try simp -dsimp -implicitDefEqProofs (disch := omega) only [go_sem, undef, reduceAdd, reduceSub, reduceGT, reduceEqDiff, reduceMul, ring, rows, cubes, i4]
 refine hN _ ?_
 try clear hN N
 refine AW.cond rfl (fun h1 => ?_) (fun h1 => ?_)
 ·try simp only [cn] at h1
  refine AW.sr envOk (fun N hN => ?_)
  simp -dsimp -implicitDefEqProofs (disch := omega) only [go_sem, undef, reduceAdd, reduceSub, reduceGT, reduceEqDiff, reduceMul, ring, rows, cubes, i4]
  refine hN _ ?_
  try clear hN N
  refine AW.ret ?_
  simp -dsimp -implicitDefEqProofs (disch := omega) only [go_sem, undef, reduceAdd, reduceSub, reduceGT, reduceEqDiff, reduceMul]
  exact bt (tf_f (fun h => h1 h.1)).symm
 ·try simp only [cn] at h1
  refine AW.skip ?_
  simp only [thn, blk]
  refine hN1 _ ?_
  try clear hN1 N1
  refine AW.sr envOk (fun N hN => ?_)
  simp -dsimp -implicitDefEqProofs (disch := omega) only [go_sem, undef, reduceAdd, reduceSub, reduceGT, reduceEqDiff, reduceMul, ring, rows, cubes, i4]
  refine AC.pure (.of (spec_l31Fault_ok p pw br h1.sh t ht)) ?_
  try simp -dsimp -implicitDefEqProofs (disch := omega) only [go_sem, undef, reduceAdd, reduceSub, reduceGT, reduceEqDiff, reduceMul, ring, rows, cubes, i4]
  refine hN _ ?_
  try clear hN N
  refine AW.sr envOk (fun N hN => ?_)
  simp -dsimp -implicitDefEqProofs (disch := omega) only [go_sem, undef, reduceAdd, reduceSub, reduceGT, reduceEqDiff, reduceMul, ring, rows, cubes, i4]
  refine hN _ ?_
  try clear hN N
  refine AW.ret ?_
  simp -dsimp -implicitDefEqProofs (disch := omega) only [go_sem, undef, reduceAdd, reduceSub, reduceGT, reduceEqDiff, reduceMul]
  refine bt ?_
  rw [Bool.eq_iff_iff, tf_iff, beq_iff_eq]
  exact ⟨fun h => ⟨h1, ht.zero.1 h⟩, fun h => ht.zero.2 h.2⟩
theorem impl_IsLieRing_ok (p : Int) (pw : List (List Int)) (br : List (List (List Int))) (hl : ringlen pw br) : ACp Try.prog 39 [ring p pw br] (.b (tf (LieR p pw br))) := by
 obtain ⟨t, ht⟩ := Flt.ex pw.length (pf p pw br) (jf p pw br)
 refine ACp.intro' envOk Try.func39 rfl (by kernel_rfl) Try.ntmps39 Try.results39 (.b _) (fun nx => ?_)
 refine AW.sr envOk (fun N hN => ?_)
 simp -dsimp -implicitDefEqProofs (disch := omega) only [go_sem, undef, reduceAdd, reduceSub, reduceGT, reduceEqDiff, reduceMul, ring, rows, cubes, i4]
 refine hN _ ?_
 try clear hN N
 refine AW.seq (fun N1 hN1 => ?_)
 refine AW.sr envOk (fun N hN => ?_)
 simp -dsimp -implicitDefEqProofs (disch := omega) only [go_sem, undef, reduceAdd, reduceSub, reduceGT, reduceEqDiff, reduceMul, ring, rows, cubes, i4]
 refine AC.pure (.of (impl_IsLieShape_ok p pw br hl)) ?_
 try simp -dsimp -implicitDefEqProofs (disch := omega) only [go_sem, undef, reduceAdd, reduceSub, reduceGT, reduceEqDiff, reduceMul, ring, rows, cubes, i4]
 refine hN _ ?_
 try clear hN N
 refine AW.cond rfl (fun h1 => ?_) (fun h1 => ?_)
 ·try simp only [cn] at h1
  refine AW.sr envOk (fun N hN => ?_)
  simp -dsimp -implicitDefEqProofs (disch := omega) only [go_sem, undef, reduceAdd, reduceSub, reduceGT, reduceEqDiff, reduceMul, ring, rows, cubes, i4]
  refine hN _ ?_
  try clear hN N
  refine AW.ret ?_
  simp -dsimp -implicitDefEqProofs (disch := omega) only [go_sem, undef, reduceAdd, reduceSub, reduceGT, reduceEqDiff, reduceMul]
  exact bt (tf_f (fun h => h1 h.1)).symm
 ·try simp only [cn] at h1
  refine AW.skip ?_
  simp only [thn, blk]
  refine hN1 _ ?_
  try clear hN1 N1
  refine AW.sr envOk (fun N hN => ?_)
  simp -dsimp -implicitDefEqProofs (disch := omega) only [go_sem, undef, reduceAdd, reduceSub, reduceGT, reduceEqDiff, reduceMul, ring, rows, cubes, i4]
  refine AC.pure (.lent (impl_lieFault_ok p pw br h1.sh t ht) (.cons (Vw.q' (upd_same _ _ _)) .nil) (i4_fl t)) ?_
  try simp -dsimp -implicitDefEqProofs (disch := omega) only [go_sem, undef, reduceAdd, reduceSub, reduceGT, reduceEqDiff, reduceMul, ring, rows, cubes, i4]
  refine hN _ ?_
  try clear hN N
  refine AW.sr envOk (fun N hN => ?_)
  simp -dsimp -implicitDefEqProofs (disch := omega) only [go_sem, undef, reduceAdd, reduceSub, reduceGT, reduceEqDiff, reduceMul, ring, rows, cubes, i4]
  refine hN _ ?_
  try clear hN N
  refine AW.ret ?_
  simp -dsimp -implicitDefEqProofs (disch := omega) only [go_sem, undef, reduceAdd, reduceSub, reduceGT, reduceEqDiff, reduceMul]
  refine bt ?_
  rw [Bool.eq_iff_iff, tf_iff, beq_iff_eq]
  exact ⟨fun h => ⟨h1, ht.zero.1 h⟩, fun h => ht.zero.2 h.2⟩
def in2 (b : Bool) (m e : Int) : Int × Int := match b with
  | true => (m, 0)
  | false => (0, e)
def inR (b : Bool) (m e : Int) : AV := .t [.i .i64 (in2 b m e).1, .i .i64 (in2 b m e).2]
theorem inR_nr (b : Bool) (m e : Int) : NR (inR b m e) := by
  refine NR.ts (fun x hx => ?_)
  simp at hx
  rcases hx with rfl | rfl <;> exact .i _ _
end Go.Proofs.Ytdghgmgppecncaa
namespace Go.Proofs.Ytdghgmgppecncaa
open Nat (reduceAdd reduceSub reduceGT reduceEqDiff reduceMul)
theorem o_ints (a : List Int) : one (ints a) = true := rfl
theorem o_rows (a : List (List Int)) : one (rows a) = true := rfl
theorem o_cubes (a : List (List (List Int))) : one (cubes a) = true := rfl
theorem k_ints (a : List Int) : okA (ints a) = true := rfl
theorem k_rows (a : List (List Int)) : okA (rows a) = true := rfl
theorem k_cubes (a : List (List (List Int))) : okA (cubes a) = true := rfl
theorem c_ints (a : List Int) : cellsA (ints a) = [ints a] := rfl
theorem c_rows (a : List (List Int)) : cellsA (rows a) = [rows a] := rfl
theorem c_cubes (a : List (List (List Int))) : cellsA (cubes a) = [cubes a] := rfl
attribute [go_sem] o_ints o_rows o_cubes k_ints k_rows k_cubes c_ints c_rows c_cubes Bool.true_and ne_eq not_true_eq_false not_false_eq_true or_false false_or or_self
def Rd (r X : AV) : Prop := ∀ (L : LM) (w : World) (M : Nat → Prop) (u : Value), R L w M r u → R L w M X u
theorem Rd.refl (r : AV) : Rd r r := fun _ _ _ _ h => h
theorem Rd.nl : Rd .nl (.v 0 []) := fun _ _ _ _ h => h.nl_v0
theorem Rd.t2 {a b x y : AV} (h1 : Rd a x) (h2 : Rd b y) : Rd (.t [a, b]) (.t [x, y]) := by
  intro L w M u h
  cases h with
  | t _ us hs hr =>
    refine .t _ us hs ?_
    intro k z hk
    match k, hk with
    | 0, hk => cases hk; exact h1 _ _ _ _ (hr 0 _ rfl)
    | 1, hk => cases hk; exact h2 _ _ _ _ (hr 1 _ rfl)
theorem ACp.introR {P : Program} {Γ : TEnv} (hG : GOk P Γ) {f : FuncId} {fn : Func} {c : Code} {n : Nat} {rs : Array ResultVar} (hf : P.funcs[f]? = some fn) (hb : fn.body = some c) (hn : (fn.name == "runtime.NumGoroutine") = false) (hnt : fn.ntmps = n) (hres : fn.results = rs) {xs : List AV} {r : AV} (hr : NR r)
    (h : ∀ nx, AW P c ⟨xs ++ List.replicate (n - xs.length) .j, noH, nx⟩ (finK Γ rs.toList fun _ _ r' => Rd r' r)) : ACp P f xs r := by
  refine ⟨⟨fn, hf, by rw [hb]; rfl, hn⟩, ?_⟩
  rintro L M w us hM ⟨nx, hfr⟩ ha
  refine ((AC.intro' hG hf hb hn hnt hres (h nx)).2 L M w us (SR_noH hM) hfr (by rw [MM_noH]; exact ha)).mono ?_
  rintro e w' ⟨u, r', L', nx', H', g1, g0, g2, g3, g4, g5, g6, g7⟩
  refine ⟨u, g1, ⟨fun _ _ h => h, g6.os, g6.tape, g6.output, g6.size, g6.keep, fun b _ hl => hl⟩, ?_⟩
  exact R.mono (L := L) (M := MM L' H' M) (w := w') (fun _ _ h => h) (fun _ _ _ => rfl) (fun b _ hb => .inl hb) ((g0 _ _ _ _ g7).nr hr)
theorem ints_nr (a : List Int) : NR (ints a) := by
  unfold Go.Proofs.Ytdghgmgppecncaa.ints
  exact .v _ _ (by intro k x hk; obtain ⟨y, _, rfl⟩ := List.mem_map.1 (List.mem_of_getElem? hk); exact .i _ _)
theorem Own.pair {a b : Nat} {H : HP} {r X : AV} {ids : List Nat} {k : IntKind} {e : Int} (h : Own a b H r X ids) : ∃ ids, Own a b H (.t [r, .i k e]) (.t [X, .i k e]) ids := by
  refine ⟨ids ++ ([] ++ []), .t _ _ _ (.cons _ _ _ _ _ _ h.1 (.cons _ _ _ _ _ _ (.leaf _ (.i _ _) (.i _ _)) .nil)), ?_, ?_⟩
  · simpa using h.2.1
  · simpa using h.2.2
theorem shapeP.pb {p : Int} {pw : List (List Int)} {br : List (List (List Int))} (h : shapeP p pw br) : -1000 ≤ p ∧ p ≤ 1000 := by have := pr4_bd h.1; omega
def AllEl (p : Int) (pw : List (List Int)) (br : List (List (List Int))) (xs : List (List Int)) : Prop := LieR p pw br ∧ ∀ k, k < xs.length → isEl p pw.length (xs.getD k [])
theorem impl_lieElements_ok (p : Int) (pw : List (List Int)) (br : List (List (List Int))) (hl : ringlen pw br) (xs : List (List Int)) (hx : rowslen xs) : ACp Try.prog 125 [ringP p pw br, rows xs] (.b (tf (AllEl p pw br xs))) := by
 have hn := hl.n
 have hxn := hx.n
 refine ACp.intro' envOk Try.func125 rfl (by kernel_rfl) Try.ntmps125 Try.results125 (.b _) (fun nx => ?_)
 refine AW.sr envOk (fun N hN => ?_)
 simp -dsimp -implicitDefEqProofs (disch := omega) only [go_sem, undef, reduceAdd, reduceSub, reduceGT, reduceEqDiff, reduceMul, ringP, rows, cubes, gd_r, w64]
 refine hN _ ?_
 try clear hN N
 refine AW.seq (fun N1 hN1 => ?_)
 refine AW.sr envOk (fun N hN => ?_)
 simp -dsimp -implicitDefEqProofs (disch := omega) only [go_sem, undef, reduceAdd, reduceSub, reduceGT, reduceEqDiff, reduceMul, ringP, rows, cubes, gd_r, w64]
 refine AC.pure (.of (impl_IsLieRing_ok p pw br hl)) ?_
 try simp -dsimp -implicitDefEqProofs (disch := omega) only [go_sem, undef, reduceAdd, reduceSub, reduceGT, reduceEqDiff, reduceMul, ringP, rows, cubes, gd_r, w64]
 refine hN _ ?_
 try clear hN N
 refine AW.cond rfl (fun h1 => ?_) (fun h1 => ?_)
 ·try simp only [cn] at h1
  refine AW.sr envOk (fun N hN => ?_)
  simp -dsimp -implicitDefEqProofs (disch := omega) only [go_sem, undef, reduceAdd, reduceSub, reduceGT, reduceEqDiff, reduceMul, ringP, rows, cubes, gd_r, w64]
  refine hN _ ?_
  try clear hN N
  refine AW.ret ?_
  simp -dsimp -implicitDefEqProofs (disch := omega) only [go_sem, undef, reduceAdd, reduceSub, reduceGT, reduceEqDiff, reduceMul]
  exact bt (tf_f (fun h => h1 h.1)).symm
 ·try simp only [cn] at h1
  have hpb := h1.1.pb
  refine AW.skip ?_
  simp only [thn, blk]
  refine hN1 _ ?_
  try clear hN1 N1
  refine AW.seq (fun N2 hN2 => ?_)
  refine AW.sr envOk (fun N hN => ?_)
  simp -dsimp -implicitDefEqProofs (disch := omega) only [go_sem, undef, reduceAdd, reduceSub, reduceGT, reduceEqDiff, reduceMul, ringP, rows, cubes, gd_r, w64]
  refine hN _ ?_
  try clear hN N
  refine AW.block ?_
  refine AW.loopN (α := Nat) (fun x => sl 23 [(0, ringP p pw br), (12, rows xs), (13, .i .i64 xs.length), (14, .i .i64 x)]) (fun _ => noH) (fun x m => x ≤ xs.length ∧ ∀ k, k < x → isEl p pw.length (xs.getD k [])) (fun x => xs.length - x) (0) ?_ ?_ (fun _ _ h => h) ?_
  ·exact ⟨by omega, by intro k hk; omega⟩
  ·simp (disch := omega) [wks, wkA, sl, w64, ints, rows, cubes, ringP, rows, cubes, gd_r, w64] <;> omega
  ·skip
   rintro k m ⟨hk, hI⟩
   simp -dsimp -implicitDefEqProofs (disch := omega) only [go_sem, undef, reduceAdd, reduceSub, reduceGT, reduceEqDiff, reduceMul]
   refine AW.sr envOk (fun N hN => ?_)
   simp -dsimp -implicitDefEqProofs (disch := omega) only [go_sem, undef, reduceAdd, reduceSub, reduceGT, reduceEqDiff, reduceMul, ringP, rows, cubes, gd_r, w64]
   refine hN _ ?_
   try clear hN N
   refine AW.seq (fun N3 hN3 => ?_)
   refine AW.cond rfl (fun h2 => ?_) (fun h2 => ?_)
   ·try simp only [cn] at h2
    refine AW.skip ?_
    simp only [thn, blk]
    refine hN3 _ ?_
    try clear hN3 N3
    refine AW.seq (fun N4 hN4 => ?_)
    refine AW.block ?_
    refine AW.sr envOk (fun N hN => ?_)
    simp -dsimp -implicitDefEqProofs (disch := omega) only [go_sem, undef, reduceAdd, reduceSub, reduceGT, reduceEqDiff, reduceMul, ringP, rows, cubes, gd_r, w64]
    refine hN _ ?_
    try clear hN N
    refine AW.sr envOk (fun N hN => ?_)
    simp -dsimp -implicitDefEqProofs (disch := omega) only [go_sem, undef, reduceAdd, reduceSub, reduceGT, reduceEqDiff, reduceMul, ringP, rows, cubes, gd_r, w64]
    refine AC.pure (.of (impl_isLieElement_ok p pw br (xs.getD k []) (by have := hx.getD k; omega) hpb.1 hpb.2 (by omega))) ?_
    try simp -dsimp -implicitDefEqProofs (disch := omega) only [go_sem, undef, reduceAdd, reduceSub, reduceGT, reduceEqDiff, reduceMul, ringP, rows, cubes, gd_r, w64]
    refine hN _ ?_
    try clear hN N
    refine AW.cond rfl (fun h3 => ?_) (fun h3 => ?_)
    ·try simp only [cn] at h3
     refine AW.sr envOk (fun N hN => ?_)
     simp -dsimp -implicitDefEqProofs (disch := omega) only [go_sem, undef, reduceAdd, reduceSub, reduceGT, reduceEqDiff, reduceMul, ringP, rows, cubes, gd_r, w64]
     refine hN _ ?_
     try clear hN N
     refine AW.ret ?_
     simp -dsimp -implicitDefEqProofs (disch := omega) only [go_sem, undef, reduceAdd, reduceSub, reduceGT, reduceEqDiff, reduceMul]
     exact bt (tf_f (fun h => h3 (h.2 k (by omega)))).symm
    ·try simp only [cn] at h3
     refine AW.skip ?_
     simp only [thn, blk]
     refine hN4 _ ?_
     try clear hN4 N4
     refine AW.regionL envOk ?_
     simp -dsimp -implicitDefEqProofs (disch := omega) only [go_sem, undef, reduceAdd, reduceSub, reduceGT, reduceEqDiff, reduceMul, ringP, rows, cubes, gd_r, w64]
     refine ⟨k + 1, ?_, fun _ _ h => h, ?_, ?_⟩
     ·simp (disch := omega) [wks, wkA, sl, w64, ints, rows, cubes, ringP, rows, cubes, gd_r, w64] <;> omega
     ·refine ⟨by omega, fun j hj => ?_⟩
      by_cases e : j = k
      ·subst e; exact h3
      ·exact hI j (by omega)
     ·first | omega | (simp only; omega)
   ·try simp only [cn] at h2
    refine AW.exit ?_
    simp only [thn, blk, if_true]
    refine hN2 _ ?_
    try clear hN2 N2
    refine AW.sr envOk (fun N hN => ?_)
    simp -dsimp -implicitDefEqProofs (disch := omega) only [go_sem, undef, reduceAdd, reduceSub, reduceGT, reduceEqDiff, reduceMul, ringP, rows, cubes, gd_r, w64]
    refine hN _ ?_
    try clear hN N
    refine AW.ret ?_
    simp -dsimp -implicitDefEqProofs (disch := omega) only [go_sem, undef, reduceAdd, reduceSub, reduceGT, reduceEqDiff, reduceMul]
    exact bt (tf_t ⟨h1, fun j hj => hI j (by omega)⟩).symm
theorem AllEl.one {p : Int} {pw : List (List Int)} {br : List (List (List Int))} {a : List Int} : AllEl p pw br [a] ↔ LieR p pw br ∧ isEl p pw.length a :=
  ⟨fun h => ⟨h.1, h.2 0 (by simp)⟩, fun h => ⟨h.1, fun k hk => by
    simp at hk; subst hk; exact h.2⟩⟩
theorem AllEl.two {p : Int} {pw : List (List Int)} {br : List (List (List Int))} {a b : List Int} : AllEl p pw br [a, b] ↔ LieR p pw br ∧ isEl p pw.length a ∧ isEl p pw.length b :=
  ⟨fun h => ⟨h.1, h.2 0 (by simp), h.2 1 (by simp)⟩, fun h => ⟨h.1, fun k hk => by
    match k, hk with
    | 0, _ => exact h.2.1
    | 1, _ => exact h.2.2⟩⟩
theorem Vw.rws {H : HP} {id : Nat} {xs : List (List Int)} {n : Nat} (hn : n = xs.length) (h : H id = some (xs.map Go.Proofs.Ytdghgmgppecncaa.ints)) : Vw H (.h id 0 n) (rows xs) := by
  subst hn
  unfold rows
  exact .h id 0 xs.length _ _ h (by simp) (by simp) (fun k x y hx hy => by rw [Nat.zero_add, hy] at hx; cases hx; exact .refl _)
end Go.Proofs.Ytdghgmgppecncaa
