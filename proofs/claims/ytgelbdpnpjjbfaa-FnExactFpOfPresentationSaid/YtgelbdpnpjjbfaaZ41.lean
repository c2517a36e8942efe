import Derived.Test.YtgelbdpnpjjbfaaZ27
import Derived.Test.YtgelbdpnpjjbfaaZ40
set_option linter.unusedVariables false
set_option linter.unusedSimpArgs false
namespace Go.Proofs.Ytgelbdpnpjjbfaa
open Nat (reduceAdd reduceSub reduceGT reduceEqDiff reduceMul)
def resF (m : (Int × List (List Int)) × Int) : AV := .t [fp m.1.1 m.1.2, .i .i64 m.2]
theorem fp_nr (g : Int) (rs : List (List Int)) : NR (fp g rs) := .g _ (fun k x hk => by
  match k, hk with
  | 0, hk => cases hk; exact .i _ _
  | 1, hk => cases hk; exact rows_nr _)
theorem resF_nr (m : (Int × List (List Int)) × Int) : NR (resF m) := .t _ (fun k x hk => by
  match k, hk with
  | 0, hk => cases hk; exact fp_nr _ _
  | 1, hk => cases hk; exact .i _ _)
theorem Vw.fp {H : HP} {a : AV} {g : Int} {rs : List (List Int)} (h : Vw H a (rows rs)) : Vw H (.g [.i .i64 g, a]) (Go.Proofs.Ytgelbdpnpjjbfaa.fp g rs) := by
  refine .g _ _ rfl (fun k x y hx hy => ?_)
  match k, hx, hy with
  | 0, hx, hy => cases hx; cases hy; exact .refl _
  | 1, hx, hy => cases hx; cases hy; exact h
theorem Own.fp {a b : Nat} {H : HP} {r : AV} {ids : List Nat} {g : Int} {rs : List (List Int)} (h : Own a b H r (rows rs) ids) : ∃ ids, Own a b H (.g [.i .i64 g, r]) (Go.Proofs.Ytgelbdpnpjjbfaa.fp g rs) ids := by
  obtain ⟨h1, h2, h3⟩ := h
  exact ⟨[] ++ (ids ++ []), .g _ _ _ (.cons _ _ _ _ [] _ (.leaf _ (.i _ _) (.i _ _)) (.cons _ _ _ _ _ _ h1 .nil)), by simpa using h2, fun i hi => h3 i (by simpa using hi)⟩
theorem OutB.keep {a m : Nat} {o : Option Nat} {rs : List AV} {H H' : HP} {W : List (List Int)} (h : OutB a m o rs H W) (hk : ∀ i, a ≤ i → i < m → H' i = H i) (hd : ∀ i, m ≤ i → H' i = none) : OutB a m o rs H' W := by
  obtain ⟨⟨ids, h1, h2, h3, h4⟩, h5, _⟩ := h
  exact ⟨⟨ids, h1.keep fun i hi => hk i (h3 i hi).1 (h3 i hi).2, h2, h3, h4⟩, h5, hd⟩
theorem OutB.push2 {a m m0 m1 m2 id2 : Nat} {o : Option Nat} {rs : List AV} {H H1 H2 : HP} {W : List (List Int)} {r1 : AV} {X : List Int} {ids1 : List Nat} (h : OutB a m o rs H W) (ho : Own m0 m1 H1 r1 (ints X) ids1)
    (hk : ∀ i, a ≤ i → i < m → o ≠ some i → H2 i = H i) (hk1 : ∀ i, m0 ≤ i → i < m1 → H2 i = H1 i) (hd : ∀ i, m2 ≤ i → H2 i = none) (h0 : m ≤ m0) (h1 : m1 ≤ id2) (h2 : id2 < m2) (h01 : m0 ≤ m1) (ha : a ≤ m) :
    OutB a m2 (some id2) (rs ++ [r1]) H2 (W ++ [X]) := by
  obtain ⟨⟨ids, g1, g2, g3, g4⟩, g5, _⟩ := h
  obtain ⟨o1, o2, o3⟩ := ho
  refine ⟨⟨ids ++ (ids1 ++ []), ?_, ?_, ?_, ?_⟩, (fun e => by cases e), hd⟩
  · rw [List.map_append]
    exact OwL.append (g1.keep fun i hi => hk i (g3 i hi).1 (g3 i hi).2 (fun e => (g4 i e).1 hi)) (.cons _ _ _ _ _ _ (o1.keep fun i hi => hk1 i (o3 i hi).1 (o3 i hi).2) .nil)
  · rw [List.append_nil, List.nodup_append]
    exact ⟨g2, o2, fun x hx y hy e => by have := g3 x hx; have := o3 y hy; omega⟩
  · intro i hi
    rw [List.append_nil] at hi
    rcases List.mem_append.1 hi with hi | hi
    · have := g3 i hi; omega
    · have := o3 i hi; omega
  · rintro id e
    cases e
    refine ⟨fun hi => ?_, by omega, h2⟩
    rw [List.append_nil] at hi
    rcases List.mem_append.1 hi with hi | hi
    · have := g3 _ hi; omega
    · have := o3 _ hi; omega
theorem Own.nilF {a b : Nat} {H : HP} {e : Int} : ∃ ids, Own a b H (.t [.g [.i .i64 0, .nl], .i .i64 e]) (resF ((0, []), e)) ids := by
  obtain ⟨ids, h⟩ := Own.fp (a := a) (b := b) (H := H) (g := 0) (rs := []) (ids := []) (r := .nl) ⟨.nl, by simp, by simp⟩
  exact h.pair
end Go.Proofs.Ytgelbdpnpjjbfaa
