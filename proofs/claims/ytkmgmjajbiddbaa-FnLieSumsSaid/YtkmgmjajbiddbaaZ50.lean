import Derived.Test.YtkmgmjajbiddbaaZ16
import Derived.Test.YtkmgmjajbiddbaaZ20
import Derived.Test.YtkmgmjajbiddbaaZ21
import Derived.Test.YtkmgmjajbiddbaaZ49
set_option linter.unusedVariables false
set_option linter.unusedSimpArgs false
namespace Go.Proofs.Ytkmgmjajbiddbaa
open Nat (reduceAdd reduceSub reduceGT reduceEqDiff reduceMul)
theorem laws_likeInts_e (a : List Int) (ha : a.length ≤ 1048576) : ACp Try.prog 18 [ints a, ints a] (.b true) := by
 refine ACp.intro' envOk Try.func18 rfl (by kernel_rfl) Try.ntmps18 Try.results18 (.b _) (fun nx => ?_)
 refine AW.sr envOk (fun N hN => ?_)
 simp -dsimp -implicitDefEqProofs (disch := omega) only [go_sem, undef, reduceAdd, reduceSub, reduceGT, reduceEqDiff, reduceMul, ints, gd_i, w64, bne_self_eq_false]
 refine hN _ ?_
 try clear hN N
 refine AW.seq (fun N1 hN1 => ?_)
 refine AW.sr envOk (fun N hN => ?_)
 simp -dsimp -implicitDefEqProofs (disch := omega) only [go_sem, undef, reduceAdd, reduceSub, reduceGT, reduceEqDiff, reduceMul, ints, gd_i, w64, bne_self_eq_false]
 refine hN _ ?_
 try clear hN N
 refine AW.condF rfl ?_
 refine AW.skip ?_
 simp only [thn, blk]
 refine hN1 _ ?_
 try clear hN1 N1
 refine AW.seq (fun N2 hN2 => ?_)
 refine AW.sr envOk (fun N hN => ?_)
 simp -dsimp -implicitDefEqProofs (disch := omega) only [go_sem, undef, reduceAdd, reduceSub, reduceGT, reduceEqDiff, reduceMul, ints, gd_i, w64, bne_self_eq_false]
 refine hN _ ?_
 try clear hN N
 refine AW.block ?_
 refine AW.loopN (α := Nat) (fun x => sl 26 [(0, ints a), (1, ints a), (5, .i .i64 x)]) (fun _ => noH) (fun x m => x ≤ a.length) (fun x => a.length - x) (0) ?_ ?_ (fun _ _ h => h) ?_
 ·omega
 ·simp (disch := omega) [wks, wkA, sl, w64, ints, rows, cubes, ints, gd_i, w64, bne_self_eq_false] <;> omega
 ·skip
  rintro k m hk
  simp -dsimp -implicitDefEqProofs (disch := omega) only [go_sem, undef, reduceAdd, reduceSub, reduceGT, reduceEqDiff, reduceMul]
  refine AW.seq (fun N3 hN3 => ?_)
  refine AW.sr envOk (fun N hN => ?_)
  simp -dsimp -implicitDefEqProofs (disch := omega) only [go_sem, undef, reduceAdd, reduceSub, reduceGT, reduceEqDiff, reduceMul, ints, gd_i, w64, bne_self_eq_false]
  refine hN _ ?_
  try clear hN N
  refine AW.cond rfl (fun h1 => ?_) (fun h1 => ?_)
  ·try simp only [cn] at h1
   refine AW.skip ?_
   simp only [thn, blk]
   refine hN3 _ ?_
   try clear hN3 N3
   refine AW.seq (fun N4 hN4 => ?_)
   refine AW.block ?_
   refine AW.seq (fun N hN => ?_)
   refine AW.drawF envOk (by kernel_rfl) [true, true, true, true, true, true, true, true, true] (by kernel_rfl) ?_
   simp -dsimp -implicitDefEqProofs (disch := omega) only [go_sem, undef, reduceAdd, reduceSub, reduceGT, reduceEqDiff, reduceMul, ints, gd_i, w64, bne_self_eq_false]
   refine hN _ ?_
   try clear hN N
   refine AW.condF rfl ?_
   refine AW.skip ?_
   simp only [thn, blk]
   refine hN4 _ ?_
   try clear hN4 N4
   refine AW.regionL envOk ?_
   simp -dsimp -implicitDefEqProofs (disch := omega) only [go_sem, undef, reduceAdd, reduceSub, reduceGT, reduceEqDiff, reduceMul, ints, gd_i, w64, bne_self_eq_false]
   refine ⟨k + 1, ?_, fun _ _ h => h, ?_, ?_⟩
   ·simp (disch := omega) [wks, wkA, sl, w64, ints, rows, cubes, ints, gd_i, w64, bne_self_eq_false] <;> omega
   ·omega
   ·first | omega | (simp only; omega)
  ·try simp only [cn] at h1
   refine AW.exit ?_
   simp only [thn, blk, if_true]
   refine hN2 _ ?_
   try clear hN2 N2
   refine AW.sr envOk (fun N hN => ?_)
   simp -dsimp -implicitDefEqProofs (disch := omega) only [go_sem, undef, reduceAdd, reduceSub, reduceGT, reduceEqDiff, reduceMul, ints, gd_i, w64, bne_self_eq_false]
   refine hN _ ?_
   try clear hN N
   refine AW.ret ?_
   simp -dsimp -implicitDefEqProofs (disch := omega) only [go_sem, undef, reduceAdd, reduceSub, reduceGT, reduceEqDiff, reduceMul]
   all_goals rfl
theorem laws_isZero5_ok (a : List Int) (ha : a.length ≤ 1048576) : ACp Try.prog 24 [ints a] (.b (tf (zeros a))) := by
 refine ACp.intro' envOk Try.func24 rfl (by kernel_rfl) Try.ntmps24 Try.results24 (.b _) (fun nx => ?_)
 refine AW.sr envOk (fun N hN => ?_)
 simp -dsimp -implicitDefEqProofs (disch := omega) only [go_sem, undef, reduceAdd, reduceSub, reduceGT, reduceEqDiff, reduceMul, ints, gd_i, w64]
 refine hN _ ?_
 try clear hN N
 refine AW.seq (fun N1 hN1 => ?_)
 refine AW.sr envOk (fun N hN => ?_)
 simp -dsimp -implicitDefEqProofs (disch := omega) only [go_sem, undef, reduceAdd, reduceSub, reduceGT, reduceEqDiff, reduceMul, ints, gd_i, w64]
 refine hN _ ?_
 try clear hN N
 refine AW.block ?_
 refine AW.loopN (α := Nat) (fun x => sl 15 [(0, ints a), (3, .i .i64 x)]) (fun _ => noH) (fun x m => x ≤ a.length ∧ ∀ j, j < x → a.getD j 0 = 0) (fun x => a.length - x) (0) ?_ ?_ (fun _ _ h => h) ?_
 ·exact ⟨by omega, fun j hj => by omega⟩
 ·simp (disch := omega) [wks, wkA, sl, w64, ints, rows, cubes, ints, gd_i, w64] <;> omega
 ·skip
  rintro k m ⟨hk, hz⟩
  simp -dsimp -implicitDefEqProofs (disch := omega) only [go_sem, undef, reduceAdd, reduceSub, reduceGT, reduceEqDiff, reduceMul]
  refine AW.seq (fun N2 hN2 => ?_)
  refine AW.sr envOk (fun N hN => ?_)
  simp -dsimp -implicitDefEqProofs (disch := omega) only [go_sem, undef, reduceAdd, reduceSub, reduceGT, reduceEqDiff, reduceMul, ints, gd_i, w64]
  refine hN _ ?_
  try clear hN N
  refine AW.cond rfl (fun h1 => ?_) (fun h1 => ?_)
  ·try simp only [cn] at h1
   refine AW.skip ?_
   simp only [thn, blk]
   refine hN2 _ ?_
   try clear hN2 N2
   refine AW.seq (fun N3 hN3 => ?_)
   refine AW.block ?_
   refine AW.sr envOk (fun N hN => ?_)
   simp -dsimp -implicitDefEqProofs (disch := omega) only [go_sem, undef, reduceAdd, reduceSub, reduceGT, reduceEqDiff, reduceMul, ints, gd_i, w64]
   refine hN _ ?_
   try clear hN N
   refine AW.cond rfl (fun h2 => ?_) (fun h2 => ?_)
   ·try simp only [cn] at h2
    refine AW.sr envOk (fun N hN => ?_)
    simp -dsimp -implicitDefEqProofs (disch := omega) only [go_sem, undef, reduceAdd, reduceSub, reduceGT, reduceEqDiff, reduceMul, ints, gd_i, w64]
    refine hN _ ?_
    try clear hN N
    refine AW.ret ?_
    simp -dsimp -implicitDefEqProofs (disch := omega) only [go_sem, undef, reduceAdd, reduceSub, reduceGT, reduceEqDiff, reduceMul]
    exact bt (tf_f (fun q => h2 (q k (by omega)))).symm
   ·try simp only [cn] at h2
    refine AW.skip ?_
    simp only [thn, blk]
    refine hN3 _ ?_
    try clear hN3 N3
    refine AW.regionL envOk ?_
    simp -dsimp -implicitDefEqProofs (disch := omega) only [go_sem, undef, reduceAdd, reduceSub, reduceGT, reduceEqDiff, reduceMul, ints, gd_i, w64]
    refine ⟨k + 1, ?_, fun _ _ h => h, ?_, ?_⟩
    ·simp (disch := omega) [wks, wkA, sl, w64, ints, rows, cubes, ints, gd_i, w64] <;> omega
    ·refine ⟨by omega, fun j hj => ?_⟩
     by_cases e : j = k
     ·subst e; exact h2
     ·exact hz j (by omega)
    ·first | omega | (simp only; omega)
  ·try simp only [cn] at h1
   refine AW.exit ?_
   simp only [thn, blk, if_true]
   refine hN1 _ ?_
   try clear hN1 N1
   refine AW.sr envOk (fun N hN => ?_)
   simp -dsimp -implicitDefEqProofs (disch := omega) only [go_sem, undef, reduceAdd, reduceSub, reduceGT, reduceEqDiff, reduceMul, ints, gd_i, w64]
   refine hN _ ?_
   try clear hN N
   refine AW.ret ?_
   simp -dsimp -implicitDefEqProofs (disch := omega) only [go_sem, undef, reduceAdd, reduceSub, reduceGT, reduceEqDiff, reduceMul]
   exact bt (tf_t (fun j hj => hz j (by omega))).symm
end Go.Proofs.Ytkmgmjajbiddbaa
namespace Go.Proofs.Ytkmgmjajbiddbaa
section
variable {p : Int} {pw : List (List Int)} {br : List (List (List Int))}
theorem rsum_comb (k m : Int) (F G : Nat → Int) (n : Nat) : rsum n (fun i => k * F i + m * G i) = k * rsum n F + m * rsum n G := by rw [rsum_add, rsum_mul, rsum_mul]
def BS (br : List (List (List Int))) (n : Nat) (f g : Nat → Int) (t : Nat) : Int := rsum n (fun i => rsum (br.getD i []).length (fun r => (f i * g (i + 1 + r) - f (i + 1 + r) * g i) * ((br.getD i []).getD r []).getD t 0))
theorem brk_cg (t : Tri p pw) (a b : List Int) : Cg p pw (fn (brkL p pw br a b)) (BS br pw.length (fn a) (fn b)) := nf_fn t _
theorem BS_lin {n : Nat} (k m : Int) (f f' g : Nat → Int) (t : Nat) : BS br n (fun x => k * f x + m * f' x) g t = k * BS br n f g t + m * BS br n f' g t := by
  unfold BS
  rw [← rsum_comb]
  refine rsum_ext fun i _ => ?_
  rw [← rsum_comb]
  refine rsum_ext fun r _ => ?_
  grind
theorem BS_alt {n : Nat} (f g : Nat → Int) (t : Nat) : BS br n f g t = -1 * BS br n g f t := by
  unfold BS
  rw [← rsum_mul]
  refine rsum_ext fun i _ => ?_
  rw [← rsum_mul]
  refine rsum_ext fun r _ => ?_
  grind
theorem BS_self {n : Nat} (f : Nat → Int) (t : Nat) : BS br n f f t = 0 := by have := BS_alt (br := br) (n := n) f f t; omega
theorem BS_ext (s : Sh p pw br) {f f' g : Nat → Int} (h : ∀ x, x < pw.length → f x = f' x) (t : Nat) : BS br pw.length f g t = BS br pw.length f' g t := by
  unfold BS
  refine rsum_ext fun i hi => ?_
  have := s.rl i hi
  refine rsum_ext fun r hr => ?_
  rw [h i hi, h (i + 1 + r) (by omega)]
theorem BS_ext2 (s : Sh p pw br) {f g g' : Nat → Int} (h : ∀ x, x < pw.length → g x = g' x) (t : Nat) : BS br pw.length f g t = BS br pw.length f g' t := by
  rw [BS_alt, BS_ext s h, ← BS_alt]
def ee (m : Nat) : Nat → Int := fun x => if x = m then 1 else 0
theorem lin_sum {Φ : (Nat → Int) → Int} (h : ∀ (k m : Int) (f f' : Nat → Int), Φ (fun x => k * f x + m * f' x) = k * Φ f + m * Φ f') (c : Nat → Int) (E : Nat → Nat → Int) : ∀ q, Φ (fun x => rsum q (fun m => c m * E m x)) = rsum q (fun m => c m * Φ (E m)) := by
  intro q
  induction q with
  | zero =>
    have := h 0 0 (fun _ => 0) (fun _ => 0)
    simpa [rsum] using this
  | succ q ih =>
    have := h 1 (c q) (fun x => rsum q (fun m => c m * E m x)) (E q)
    simp only [Int.one_mul] at this
    simp only [rsum]
    rw [this, ih]
theorem exp_at {n x : Nat} {f : Nat → Int} (hx : x < n) : rsum n (fun m => f m * ee m x) = f x := by
  rw [rsum_one hx (fun i hi hne => by simp only [ee]; rw [if_neg (fun e => hne e.symm)]; omega)]
  simp [ee]
theorem BS_exp (s : Sh p pw br) (f g : Nat → Int) (t : Nat) : BS br pw.length f g t = rsum pw.length (fun m => f m * BS br pw.length (ee m) g t) := by
  rw [← lin_sum (Φ := fun F => BS br pw.length F g t) (fun k m f f' => BS_lin k m f f' g t)]
  exact BS_ext s (fun x hx => (exp_at hx).symm) t
theorem z_sum {q : Nat} {c : Nat → Int} {F : Nat → Nat → Int} (h : ∀ m, m < q → Cg p pw (F m) (fun _ => 0)) : Cg p pw (fun t => rsum q (fun m => c m * F m t)) (fun _ => 0) := by
  induction q with
  | zero => exact .of fun _ _ => rfl
  | succ q ih => exact ((ih fun m hm => h m (by omega)).comb 1 (c q) (h q (by omega))).ext (fun j _ => by simp only [rsum, Int.one_mul]) (fun j _ => by simp)
theorem unit_fn {n k x : Nat} (hx : x < n) : fn (unitL n k) x = ee k x := by
  simp only [fn, unitL, vec_get hx, ee]
structure NoF (p : Int) (pw : List (List Int)) (br : List (List (List Int))) : Prop extends Sh p pw br where
  r : ∀ i j, i < pw.length → j < pw.length → ¬pf p pw br i j
  j : ∀ a b c, a < b → b < c → c < pw.length → ¬jf p pw br a b c
theorem NoF.rel (h : NoF p pw br) {i k : Nat} (hi : i < pw.length) (hk : k < pw.length) : Cg p pw (fun t => 1 * (p * BS br pw.length (ee i) (ee k) t) + -1 * BS br pw.length (fn (pw.getD i [])) (ee k) t) (fun _ => 0) := by
  have t := h.toTri
  have s := h.toSh
  have h1 : mulL p pw p (brkL p pw br (unitL pw.length i) (unitL pw.length k)) = brkL p pw br (pw.getD i []) (unitL pw.length k) := Classical.byContradiction fun q => h.r i k hi hk q
  have h2 : Cg p pw (fn (mulL p pw p (brkL p pw br (unitL pw.length i) (unitL pw.length k)))) (fun t => p * BS br pw.length (ee i) (ee k) t) := by
    refine (nf_fn t _).trans ?_
    have h3 := (brk_cg (br := br) t (unitL pw.length i) (unitL pw.length k)).comb p 0 (Cg.refl (fun _ => 0))
    refine h3.ext (fun j _ => by simp [fn]) (fun j _ => ?_)
    rw [BS_ext s (fun x hx => unit_fn hx), BS_ext2 s (fun x hx => unit_fn hx)]; simp
  have h4 : Cg p pw (fn (brkL p pw br (pw.getD i []) (unitL pw.length k))) (BS br pw.length (fn (pw.getD i [])) (ee k)) := (brk_cg t _ _).ext (fun _ _ => rfl) (fun j _ => BS_ext2 s (fun x hx => unit_fn hx) j)
  rw [h1] at h2
  exact ((h2.symm.trans h4).comb 1 (-1) (Cg.refl (BS br pw.length (fn (pw.getD i [])) (ee k)))).ext (fun j _ => rfl) (fun j _ => by omega)
theorem NoF.rel2 (h : NoF p pw br) {i : Nat} (hi : i < pw.length) (w : Nat → Int) : Cg p pw (fun t => BS br pw.length (fun x => p * ee i x + -1 * fn (pw.getD i []) x) w t) (fun _ => 0) := by
  have s := h.toSh
  refine (z_sum (c := w) (F := fun k t => 1 * (p * BS br pw.length (ee i) (ee k) t) + -1 * BS br pw.length (fn (pw.getD i [])) (ee k) t) (q := pw.length) fun k hk => h.rel hi hk).ext (fun j _ => ?_) (fun _ _ => rfl)
  rw [BS_alt, BS_exp s w, ← rsum_mul]
  refine rsum_ext fun k _ => ?_
  rw [BS_alt (ee k), BS_lin]
  grind
theorem NoF.cg (h : NoF p pw br) {f g : Nat → Int} (hc : Cg p pw f g) (w : Nat → Int) : Cg p pw (BS br pw.length f w) (BS br pw.length g w) := by
  have s := h.toSh
  obtain ⟨c, hc⟩ := hc
  have h1 : ∀ t, BS br pw.length (fun x => 1 * f x + -1 * g x) w t = rsum pw.length (fun i => c i * BS br pw.length (fun x => p * ee i x + -1 * fn (pw.getD i []) x) w t) := by
    intro t
    rw [← lin_sum (Φ := fun F => BS br pw.length F w t) (fun k m f f' => BS_lin k m f f' w t)]
    refine BS_ext s (fun x hx => ?_) t
    have e1 := hc x hx
    have e2 : rsum pw.length (fun m => c m * (p * ee m x + -1 * fn (pw.getD m []) x)) = p * rsum pw.length (fun m => c m * ee m x) + -1 * rsum pw.length (fun i => c i * (pw.getD i []).getD x 0) := by
      rw [← rsum_comb]
      refine rsum_ext fun m _ => ?_
      simp only [fn]
      grind
    rw [e2, exp_at hx]
    omega
  have h2 : Cg p pw (fun t => BS br pw.length (fun x => 1 * f x + -1 * g x) w t) (fun _ => 0) := (z_sum (c := c) (q := pw.length) fun i hi => h.rel2 hi w).ext (fun j _ => (h1 j).symm) (fun _ _ => rfl)
  refine (h2.comb 1 1 (Cg.refl (BS br pw.length g w))).ext (fun j _ => ?_) (fun j _ => by omega)
  rw [BS_lin]; omega
theorem NoF.cg2 (h : NoF p pw br) {f g : Nat → Int} (hc : Cg p pw f g) (w : Nat → Int) : Cg p pw (BS br pw.length w f) (BS br pw.length w g) :=
  ((h.cg hc w).comb (-1) 0 (Cg.refl fun _ => 0)).ext (fun j _ => by rw [BS_alt w f]; omega) (fun j _ => by rw [BS_alt w g]; omega)
theorem NoF.brk (h : NoF p pw br) {a b : List Int} {f g : Nat → Int} (ha : Cg p pw (fn a) f) (hb : Cg p pw (fn b) g) : Cg p pw (fn (brkL p pw br a b)) (BS br pw.length f g) :=
  (brk_cg h.toTri a b).trans ((h.cg ha _).trans (h.cg2 hb _))
end
end Go.Proofs.Ytkmgmjajbiddbaa
namespace Go.Proofs.Ytkmgmjajbiddbaa
open Nat (reduceAdd reduceSub reduceGT reduceEqDiff reduceMul)
section
variable {p : Int} {X : List (List Int)} {Y : List (List (List Int))}
theorem zeros_of (t : Tri p X) {x : List Int} (hx : El p X.length x) (h : Cg p X (fn x) (fun _ => 0)) : zeros x := fun j hj => by
  have hp := t.p2
  exact h.eq t (fun j hj => hx.rng j hj) (fun j _ => by dsimp only; omega) j (by rw [← hx.len]; exact hj)
theorem NoF.add (h : NoF p X Y) (a b c : List Int) : brkL p X Y (mixL p X 1 a 1 c) b = mixL p X 1 (brkL p X Y a b) 1 (brkL p X Y c b) := by
  have t := h.toTri
  refine El.uniq t (brk_el h.toSh _ _) (mix_el t _ _ _ _) ?_
  have h1 := h.brk (nf_fn t (fun j => 1 * a.getD j 0 + 1 * c.getD j 0)) (Cg.refl (fn b))
  have h2 := (nf_fn t (fun j => 1 * (brkL p X Y a b).getD j 0 + 1 * (brkL p X Y c b).getD j 0)).trans ((brk_cg (br := Y) t a b).comb 1 1 (brk_cg (br := Y) t c b))
  exact h1.trans ((h2.symm).ext (fun j _ => (BS_lin 1 1 (fn a) (fn c) (fn b) j).symm) (fun _ _ => rfl))
theorem NoF.self (h : NoF p X Y) (a : List Int) : zeros (brkL p X Y a a) :=
  zeros_of h.toTri (brk_el h.toSh _ _) ((brk_cg h.toTri a a).trans (.of fun j _ => BS_self (fn a) j))
end
section
variable {p : Int} {X : List (List Int)} {Y : List (List (List Int))} (hl : ringlen X Y) (hr : LieR p X Y)
include hl hr
theorem ad_i {a b : List Int} (ha : El p X.length a) (hb : El p X.length b) : ACp Try.prog 16 [ring p X Y, ints a, ints b] (.t [ints (mixL p X 1 a 1 b), .i .i64 0]) := by
  have := (impl_AddLie_ok p X Y hl a b (by have := ha.len; have := hr.1.tri.n6; omega) (by have := hb.len; have := hr.1.tri.n6; omega)).pure
  rw [tf_t (AllEl.two.2 ⟨hr, ha.is, hb.is⟩)] at this
  exact this
theorem ad_s {a b : List Int} (ha : El p X.length a) (hb : El p X.length b) : ACp Try.prog 17 [ring p X Y, ints a, ints b] (.t [ints (mixL p X 1 a 1 b), .i .i64 0]) := by
  have := spec_AddLie_ok p X Y hl a b (by have := ha.len; have := hr.1.tri.n6; omega) (by have := hb.len; have := hr.1.tri.n6; omega)
  rw [tf_t (AllEl.two.2 ⟨hr, ha.is, hb.is⟩)] at this
  exact this
omit hl in
theorem lk_e {a b : List Int} (ha : El p X.length a) (e : b = a) : ACp Try.prog 18 [ints b, ints a] (.b true) := by
  subst e
  exact laws_likeInts_e b (by have := ha.len; have := hr.1.tri.n6; omega)
omit hl in
theorem iz_t {a : List Int} (ha : El p X.length a) (e : zeros a) : ACp Try.prog 24 [ints a] (.b true) := by
  have := laws_isZero5_ok a (by have := ha.len; have := hr.1.tri.n6; omega)
  rwa [tf_t e] at this
end
end Go.Proofs.Ytkmgmjajbiddbaa
