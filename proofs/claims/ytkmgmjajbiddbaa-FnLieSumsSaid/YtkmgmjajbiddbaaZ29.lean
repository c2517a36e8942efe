import Derived.Test.YtkmgmjajbiddbaaZ21
import Derived.Test.YtkmgmjajbiddbaaZ28
set_option linter.unusedVariables false
set_option linter.unusedSimpArgs false
namespace Go.Proofs.Ytkmgmjajbiddbaa
section
variable {p : Int} {X : List (List Int)}
theorem with_sub (t : Tri p X) (hp : pr4 p) {S : (Nat → Int) → Prop} (hS : Sub p X S) : Sp p X (withL p X (fun x => S (fn x))) = S := by
  funext f
  refine propext ⟨fun h => ?_, fun h => ?_⟩
  · unfold withL at h
    rw [span_sp t hp (filta_el t.p2)] at h
    exact h S hS fun b hb => (mem_filt.1 hb).2
  · exact (Sp.sub _).cg (with_sp t hp (nf_el t f) (hS.cg h (nf_fn t f))) (nf_fn t f).symm
theorem count_sub (t : Tri p X) (hp : pr4 p) {S : (Nat → Int) → Prop} (hS : Sub p X S) : (filt (fun x => S (fn x)) (allL p X.length)).length = p.toNat ^ (withL p X (fun x => S (fn x))).length := by
  have := count_sp t (with_can t hp (P := fun x => S (fn x)))
  rwa [with_sub t hp hS] at this
def Kil (p : Int) (X : List (List Int)) (k : Nat) (f : Nat → Int) : Prop := Cg p X (fun j => p ^ k * f j) (fun _ => 0)
theorem cg_mul {f g : Nat → Int} (c : Int) (h : Cg p X f g) : Cg p X (fun j => c * f j) (fun j => c * g j) :=
  (h.comb c 0 (Cg.refl (fun _ => 0))).ext (fun j _ => by simp) (fun j _ => by simp)
theorem kil_sub (k : Nat) : Sub p X (Kil p X k) := ⟨fun {f g} hf hc => (cg_mul _ hc).trans hf, .of fun j _ => by simp, fun {f g} a b hf hg =>
  (hf.comb a b hg).ext (fun j _ => by simp only [Int.mul_add, Int.mul_left_comm]) (fun j _ => by simp)⟩
def Dvs (p : Int) (X : List (List Int)) (k : Nat) (f : Nat → Int) : Prop := Kil p X 1 f ∧ ∃ g : Nat → Int, Cg p X f (fun j => p ^ k * g j)
theorem dvs_sub (k : Nat) : Sub p X (Dvs p X k) := ⟨fun {f g} hf hc => ⟨(kil_sub 1).cg hf.1 hc, by obtain ⟨h, hh⟩ := hf.2; exact ⟨h, hc.trans hh⟩⟩, ⟨(kil_sub 1).zero, fun _ => 0, .of fun j _ => by simp⟩, fun {f g} a b hf hg => ⟨(kil_sub 1).comb a b hf.1 hg.1, by
  obtain ⟨h1, hh1⟩ := hf.2
  obtain ⟨h2, hh2⟩ := hg.2
  exact ⟨fun j => a * h1 j + b * h2 j, (hh1.comb a b hh2).ext (fun _ _ => rfl) (fun j _ => by simp only [Int.mul_add, Int.mul_left_comm])⟩⟩⟩
theorem dvs_le {k : Nat} {f : Nat → Int} (h : Dvs p X (k + 1) f) : Dvs p X k f := ⟨h.1, by
  obtain ⟨g, hg⟩ := h.2
  exact ⟨fun j => p * g j, hg.ext (fun _ _ => rfl) (fun j _ => by rw [Int.pow_succ, Int.mul_assoc])⟩⟩
noncomputable def torL (p : Int) (X : List (List Int)) (k : Nat) : List (List Int) := withL p X (fun x => Kil p X k (fn x))
noncomputable def dvsL (p : Int) (X : List (List Int)) (k : Nat) : List (List Int) := withL p X (fun x => Dvs p X k (fn x))
open Classical in
noncomputable def prq (p : Int) (X : List (List Int)) (k : Nat) (b : List Int) : List Int := if h : ∃ g : Nat → Int, Cg p X (fn b) (fun j => p ^ k * g j) then nf p X (Classical.choose h) else []
theorem prq_cg (t : Tri p X) {k : Nat} {b : List Int} (h : Dvs p X k (fn b)) : Cg p X (fn b) (fun j => p ^ k * fn (prq p X k b) j) := by
  unfold prq
  rw [dif_pos h.2]
  exact (Classical.choose_spec h.2).trans (cg_mul _ (nf_fn t _).symm)
theorem kil_up {k : Nat} {f : Nat → Int} : Kil p X (k + 1) f ↔ Kil p X 1 (fun j => p ^ k * f j) := by
  unfold Kil
  have e : (fun j => p ^ (k + 1) * f j) = (fun j => p ^ 1 * (p ^ k * f j)) := funext fun j => by rw [Int.pow_succ, Int.pow_one p, Int.mul_comm (p ^ k) p, Int.mul_assoc]
  rw [e]
theorem fib (t : Tri p X) (k : Nat) : (filt (fun x => Kil p X (k + 1) (fn x)) (allL p X.length)).length = (filt (fun x => Dvs p X k (fn x)) (allL p X.length)).length * (filt (fun x => Kil p X k (fn x)) (allL p X.length)).length := by
  obtain ⟨F, hF⟩ : ∃ F, F = (filt (fun x => Dvs p X k (fn x)) (allL p X.length)).flatMap fun b => (filt (fun x => Kil p X k (fn x)) (allL p X.length)).map fun x => nf p X (fun j => 1 * fn (prq p X k b) j + 1 * fn x j) := ⟨_, rfl⟩
  have nd : ∀ P : List Int → Prop, (filt P (allL p X.length)).Nodup := fun P => List.Nodup.sublist List.filter_sublist (all_nodup _)
  have hl : F.length = (filt (fun x => Dvs p X k (fn x)) (allL p X.length)).length * (filt (fun x => Kil p X k (fn x)) (allL p X.length)).length := by
    rw [hF]; exact flat_len fun x => List.length_map _
  rw [← hl]
  -- the power of an element of a fibre
  have key : ∀ b x, Dvs p X k (fn b) → Kil p X k (fn x) → Cg p X (fun j => p ^ k * fn (nf p X (fun j => 1 * fn (prq p X k b) j + 1 * fn x j)) j) (fn b) := fun b x hb hx => by
    have h1 := cg_mul (p ^ k) (nf_fn t (fun j => 1 * fn (prq p X k b) j + 1 * fn x j))
    have h2 := ((prq_cg t hb).symm).comb 1 1 hx
    exact h1.trans (h2.ext (fun j _ => by simp only [Int.one_mul, Int.mul_add]) (fun j _ => by simp))
  refine nodup_same (nd _) ?_ fun y => ?_
  · rw [hF]
    refine List.pairwise_flatMap.2 ⟨fun b hb => ?_, ?_⟩
    · refine List.pairwise_map.2 (List.Pairwise.imp_of_mem (fun {x z} hx hz hxz e => hxz ?_) (nd _))
      have hx' := (mem_all t.p2).1 (mem_filt.1 hx).1
      have hz' := (mem_all t.p2).1 (mem_filt.1 hz).1
      refine El.uniq t hx' hz' ?_
      have c1 := nf_fn t (fun j => 1 * fn (prq p X k b) j + 1 * fn x j)
      have c2 := nf_fn t (fun j => 1 * fn (prq p X k b) j + 1 * fn z j)
      rw [e] at c1
      exact ((c1.symm.trans c2).comb 1 (-1) (Cg.refl (fn (prq p X k b)))).ext (fun j _ => by omega) (fun j _ => by omega)
    · refine List.Pairwise.imp_of_mem (fun {b d} hb hd hbd => ?_) (nd _)
      intro u hu v hv e
      obtain ⟨x, hx, rfl⟩ := List.mem_map.1 hu
      obtain ⟨z, hz, rfl⟩ := List.mem_map.1 hv
      obtain ⟨hb1, hb2⟩ := mem_filt.1 hb
      obtain ⟨hd1, hd2⟩ := mem_filt.1 hd
      have c1 := key b x hb2 (mem_filt.1 hx).2
      have c2 := key d z hd2 (mem_filt.1 hz).2
      rw [e] at c1
      exact hbd (El.uniq t ((mem_all t.p2).1 hb1) ((mem_all t.p2).1 hd1) (c1.symm.trans c2))
  · rw [mem_filt, mem_all t.p2, hF]
    constructor
    · intro ⟨hy, hk⟩
      have hb : Dvs p X k (fn (nf p X (fun j => p ^ k * fn y j))) := (dvs_sub k).cg ⟨kil_up.1 hk, fn y, Cg.refl _⟩ (nf_fn t _)
      have hg := prq_cg t hb
      have hx : Kil p X k (fn (nf p X (fun j => 1 * fn y j + -1 * fn (prq p X k (nf p X (fun j => p ^ k * fn y j))) j))) := by
        refine (kil_sub k).cg ?_ (nf_fn t _)
        have h1 := ((nf_fn t (fun j => p ^ k * fn y j)).symm.trans hg).comb 1 (-1) (Cg.refl (fun j => p ^ k * fn (prq p X k (nf p X (fun j => p ^ k * fn y j))) j))
        exact h1.ext (fun j _ => by simp only [Int.one_mul, Int.mul_add, Int.neg_mul, Int.mul_neg]) (fun j _ => by omega)
      refine List.mem_flatMap.2 ⟨_, mem_filt.2 ⟨(mem_all t.p2).2 (nf_el t _), hb⟩, List.mem_map.2 ⟨_, mem_filt.2 ⟨(mem_all t.p2).2 (nf_el t _), hx⟩, ?_⟩⟩
      refine El.uniq t (nf_el t _) hy ((nf_fn t _).trans ?_)
      exact ((Cg.refl (fn (prq p X k (nf p X (fun j => p ^ k * fn y j))))).comb 1 1 (nf_fn t (fun j => 1 * fn y j + -1 * fn (prq p X k (nf p X (fun j => p ^ k * fn y j))) j))).ext (fun _ _ => rfl) (fun j _ => by omega)
    · intro h
      obtain ⟨b, hb, h2⟩ := List.mem_flatMap.1 h
      obtain ⟨x, hx, rfl⟩ := List.mem_map.1 h2
      have hb2 := (mem_filt.1 hb).2
      exact ⟨nf_el t _, kil_up.2 ((kil_sub 1).cg hb2.1 (key b x hb2 (mem_filt.1 hx).2))⟩
theorem tor_step (t : Tri p X) (hp : pr4 p) (k : Nat) : (torL p X (k + 1)).length = (dvsL p X k).length + (torL p X k).length := by
  have h := fib t k
  rw [count_sub t hp (kil_sub (k + 1)), count_sub t hp (dvs_sub k), count_sub t hp (kil_sub k), ← Nat.pow_add] at h
  have h2 := t.p2
  exact (Nat.pow_right_inj (by omega)).1 h
theorem dvs_less (t : Tri p X) (hp : pr4 p) (k : Nat) : (dvsL p X (k + 1)).length ≤ (dvsL p X k).length := by
  refine can_le (with_can t hp) (with_can t hp) ?_
  rw [with_sub t hp (dvs_sub (k + 1)), with_sub t hp (dvs_sub k)]
  exact fun f hf => dvs_le hf
theorem kil_all (t : Tri p X) (f : Nat → Int) : Kil p X X.length f := by
  have go : ∀ k, Van p X k (fun j => p ^ k * f j) := by
    intro k
    induction k with
    | zero => exact .of fun j hj => by omega
    | succ k ih =>
      have e : (fun j => p ^ (k + 1) * f j) = (fun j => p * (p ^ k * f j)) := funext fun j => by rw [Int.pow_succ, Int.mul_comm (p ^ k) p, Int.mul_assoc]
      rw [e]; exact ih.up t
  exact (go X.length).all
theorem tor_full (t : Tri p X) (hp : pr4 p) : (torL p X X.length).length = X.length := by
  refine full_len t hp (with_can t hp) fun f => ?_
  unfold torL
  rw [with_sub t hp (kil_sub X.length)]
  exact kil_all t f
theorem tor_zero (t : Tri p X) (hp : pr4 p) : (torL p X 0).length = 0 := by
  have h : (torL p X 0).length ≤ ([] : List (List Int)).length := by
    refine can_le (with_can t hp) (nil_can t hp) ?_
    rw [with_sub t hp (kil_sub 0)]
    exact fun f hf => (Sp.sub _).cg (Sp.sub _).zero (Cg.ext hf (fun j _ => by simp) (fun _ _ => rfl))
  simpa using h
end
end Go.Proofs.Ytkmgmjajbiddbaa
namespace Go.Proofs.Ytkmgmjajbiddbaa
open Nat (reduceAdd reduceSub reduceGT reduceEqDiff reduceMul)
theorem pow_div {p : Int} (h : 2 ≤ p) (k : Nat) : p ^ (k + 1) / p = p ^ k := by
  rw [Int.pow_succ]; exact Int.mul_ediv_cancel _ (by omega)
theorem pow_gt {p : Int} (h : 2 ≤ p) : ∀ k : Nat, 1 ≤ p ^ k := by
  intro k
  induction k with
  | zero => simp
  | succ k ih => rw [Int.pow_succ]; have := Int.mul_le_mul ih (show (1 : Int) ≤ p by omega) (by omega) (by omega); omega
theorem spec_l31Log_ok (p : Int) (hp : 2 ≤ p) (hp7 : p ≤ 7) (d : Nat) (hm : p ^ d ≤ 1000000) (hm9 : d ≤ 1000) : ACp Try.prog 62 [.i .i64 p, .i .i64 (p ^ d)] (.i .i64 d) := by
 have hpos := fun k => pow_gt hp k
 have hle : ∀ k, k ≤ d → p ^ (d - k) ≤ 1000000 := fun k hk => Int.le_trans (by
  have h1 := Int.mul_le_mul (Int.le_refl (p ^ (d - k))) (hpos k) (by omega) (by have := hpos (d - k); omega)
  rw [← Int.pow_add, Nat.sub_add_cancel hk, Int.mul_one] at h1; exact h1) hm
 refine ACp.intro' envOk Try.func62 rfl (by kernel_rfl) Try.ntmps62 Try.results62 (.i _ _) (fun nx => ?_)
 refine AW.sr envOk (fun N hN => ?_)
 simp -dsimp -implicitDefEqProofs (disch := omega) only [go_sem, undef, reduceAdd, reduceSub, reduceGT, reduceEqDiff, reduceMul, w64]
 refine hN _ ?_
 try clear hN N
 refine AW.sr envOk (fun N hN => ?_)
 simp -dsimp -implicitDefEqProofs (disch := omega) only [go_sem, undef, reduceAdd, reduceSub, reduceGT, reduceEqDiff, reduceMul, w64]
 refine hN _ ?_
 try clear hN N
 refine AW.seq (fun N1 hN1 => ?_)
 refine AW.block ?_
 refine AW.loopN (α := Nat) (fun x => sl 14 [(0, .i .i64 p), (1, .i .i64 (p ^ (d - x))), (5, .i .i64 x)]) (fun _ => noH) (fun x m => x ≤ d) (fun x => d - x) (0) ?_ ?_ (fun _ _ h => h) ?_
 ·omega
 ·simp (disch := omega) [wks, wkA, sl, w64, ints, rows, cubes, w64] <;> omega
 ·skip
  rintro k mm hk
  simp -dsimp -implicitDefEqProofs (disch := omega) only [go_sem, undef, reduceAdd, reduceSub, reduceGT, reduceEqDiff, reduceMul]
  refine AW.seq (fun N2 hN2 => ?_)
  refine AW.sr envOk (fun N hN => ?_)
  simp -dsimp -implicitDefEqProofs (disch := omega) only [go_sem, undef, reduceAdd, reduceSub, reduceGT, reduceEqDiff, reduceMul, w64]
  refine hN _ ?_
  try clear hN N
  refine AW.cond rfl (fun h1 => ?_) (fun h1 => ?_)
  ·try simp only [cn] at h1
   have hkm : k < d := by
    rcases Nat.lt_or_ge k d with h | h
    ·exact h
    ·rw [show d - k = 0 by omega, Int.pow_zero] at h1; omega
   have hq := hle k hk
   have hq2 := hpos (d - k)
   have hqt : (p ^ (d - k)).tdiv p = p ^ (d - (k + 1)) := by
    rw [Int.tdiv_eq_ediv_of_nonneg (by omega), show d - k = (d - (k + 1)) + 1 by omega, pow_div hp]
   have hq3 := hpos (d - (k + 1))
   have hq4 := hle (k + 1) (by omega)
   refine AW.skip ?_
   simp only [thn, blk]
   refine hN2 _ ?_
   try clear hN2 N2
   refine AW.block ?_
   refine AW.sr envOk (fun N hN => ?_)
   simp -dsimp -implicitDefEqProofs (disch := omega) only [go_sem, undef, reduceAdd, reduceSub, reduceGT, reduceEqDiff, reduceMul, w64, hqt]
   refine hN _ ?_
   try clear hN N
   refine AW.regionL envOk ?_
   simp -dsimp -implicitDefEqProofs (disch := omega) only [go_sem, undef, reduceAdd, reduceSub, reduceGT, reduceEqDiff, reduceMul, w64]
   refine ⟨k + 1, ?_, fun _ _ h => h, ?_, ?_⟩
   ·simp (disch := omega) [wks, wkA, sl, w64, ints, rows, cubes, w64] <;> omega
   ·omega
   ·first | omega | (simp only; omega)
  ·try simp only [cn] at h1
   refine AW.exit ?_
   simp only [thn, blk, if_true]
   refine hN1 _ ?_
   try clear hN1 N1
   refine AW.sr envOk (fun N hN => ?_)
   simp -dsimp -implicitDefEqProofs (disch := omega) only [go_sem, undef, reduceAdd, reduceSub, reduceGT, reduceEqDiff, reduceMul, w64]
   refine hN _ ?_
   try clear hN N
   refine AW.ret ?_
   simp -dsimp -implicitDefEqProofs (disch := omega) only [go_sem, undef, reduceAdd, reduceSub, reduceGT, reduceEqDiff, reduceMul]
   have hkm : k = d := by
    rcases Nat.lt_or_ge k d with h | h
    ·have h5 := hpos (d - (k + 1))
     have h6 : p ^ (d - k) = p ^ (d - (k + 1)) * p := by rw [← Int.pow_succ]; congr 1; omega
     have h7 := Int.mul_le_mul h5 hp (by omega) (by omega)
     omega
    ·omega
   rw [hkm]
end Go.Proofs.Ytkmgmjajbiddbaa
