import Derived.Test.YtdghgmgppecncaaZ19
set_option linter.unusedVariables false
set_option linter.unusedSimpArgs false
namespace Go.Proofs.Ytdghgmgppecncaa
open Nat (reduceAdd reduceSub reduceGT reduceEqDiff reduceMul)
theorem Ow.ints_inv {H : HP} {r : AV} {a : List Int} {ids : List Nat} (h : Ow H r (Go.Proofs.Ytdghgmgppecncaa.ints a) ids) : (a = [] ∧ (r = .nl ∨ r = .v 0 [])) ∨ ∃ id, r = .h id 0 a.length ∧ id ∈ ids ∧ H id = some (ivs a.length (fun j => a.getD j 0)) := by
  unfold Go.Proofs.Ytdghgmgppecncaa.ints at h
  generalize hX : AV.v a.length (a.map (AV.i .i64)) = X at h
  cases h with
  | leaf _ hf hn =>
    subst hX
    cases a with
    | nil => exact .inl ⟨rfl, .inr rfl⟩
    | cons x xs => cases hf
  | nl =>
    injection hX with h1 h2
    cases a with
    | nil => exact .inl ⟨rfl, .inl rfl⟩
    | cons x xs => simp at h1
  | h id cs ts ids' h1 h2 =>
    injection hX with e1 e2
    subst e2
    have h3 : cs = a.map (AV.i .i64) := by
      apply List.ext_getElem?
      intro k
      by_cases hk : k < cs.length
      · obtain ⟨y, is, g1, g2, _⟩ := h2.get k cs[k] (List.getElem?_eq_getElem hk)
        rw [List.getElem?_eq_getElem hk, g1]
        simp only [List.getElem?_map, Option.map_eq_some_iff] at g1
        obtain ⟨z, _, rfl⟩ := g1
        generalize cs[k] = x at g2
        cases g2
        rfl
      · rw [List.getElem?_eq_none (Nat.le_of_not_lt hk), List.getElem?_eq_none (by rw [h2.len]; omega)]
    refine .inr ⟨id, by rw [e1], by simp, ?_⟩
    rw [h1, h3, map_ivs]
  | q id cs ts ids' h1 h2 => cases hX
  | g cs ts ids' h2 => cases hX
  | t cs ts ids' h2 => cases hX
def MarkC {α : Type} (f : FuncId) (enc : α → AV) (ok : α → Prop) (B C : Int) : Prop :=
  ∀ (nx : Nat) (H : HP) (r : AV) (X : α) (ids : List Nat) (k : Int), Ow H r (enc X) ids → ids.Nodup → ok X → 0 ≤ k → k ≤ C →
    AC Try.prog f nx H [r, .i .i64 k] (fun _ H' res => ∃ k' : Int, res = .i .i64 k' ∧ k ≤ k' ∧ k' ≤ k + B ∧ ∀ i, i ∉ ids → H' i = H i)
theorem Ow.ring_inv {H : HP} {r : AV} {p : Int} {pw : List (List Int)} {br : List (List (List Int))} {ids : List Nat} (h : Ow H r (Go.Proofs.Ytdghgmgppecncaa.ring p pw br) ids) :
    ∃ r1 r2 is js, r = .g [.i .i64 p, r1, r2] ∧ ids = is ++ js ∧ Ow H r1 (rows pw) is ∧ Ow H r2 (cubes br) js := by
  unfold Go.Proofs.Ytdghgmgppecncaa.ring at h
  generalize hX : AV.g [AV.i .i64 p, rows pw, cubes br] = X at h
  cases h with
  | leaf _ hf hn =>
    subst hX
    cases hf with | g _ hf => cases hn with | g _ hn => exact ⟨rows pw, cubes br, [], [], rfl, rfl, .leaf _ (hf 1 _ rfl) (hn 1 _ rfl), .leaf _ (hf 2 _ rfl) (hn 2 _ rfl)⟩
  | nl => cases hX
  | h id cs ts ids' h1 h2 => cases hX
  | q id cs ts ids' h1 h2 => cases hX
  | g cs ts ids' h2 =>
    cases hX
    cases h2 with | cons x0 _ xs _ i0 j0 g1 g2 => cases g2 with | cons x1 _ xs _ i1 j1 g3 g4 => cases g4 with | cons x2 _ xs _ i2 j2 g5 g6 =>
      cases g6
      cases g1 with | leaf _ _ _ => exact ⟨x1, x2, i1, i2, rfl, by simp, g3, g5⟩
  | t cs ts ids' h2 => cases hX
theorem Ow.pair_inv {H : HP} {r X : AV} {k : IntKind} {e : Int} {ids : List Nat} (h : Ow H r (.t [X, .i k e]) ids) : ∃ r1, r = .t [r1, .i k e] ∧ Ow H r1 X ids := by
  generalize hX : AV.t [X, AV.i k e] = Y at h
  cases h with
  | leaf _ hf hn =>
    subst hX
    cases hf with | t _ hf => cases hn with | t _ hn => exact ⟨X, rfl, .leaf _ (hf 0 _ rfl) (hn 0 _ rfl)⟩
  | nl => cases hX
  | h id cs ts ids' h1 h2 => cases hX
  | q id cs ts ids' h1 h2 => cases hX
  | g cs ts ids' h2 => cases hX
  | t cs ts ids' h2 =>
    cases hX
    cases h2 with | cons x0 _ xs _ i0 j0 g1 g2 => cases g2 with | cons x1 _ xs _ i1 j1 g3 g4 =>
      cases g4
      cases g3 with | leaf _ _ _ => exact ⟨x0, rfl, by simpa using g1⟩
def cut (nx : Nat) (H : HP) : HP := fun i => if i < nx then H i else none
theorem one_ow {H : HP} {r : AV} {n : Nat} {ts : List AV} {ids : List Nat} (h : Ow H r (.v n ts) ids) : one r = true := h.slice.2.1
end Go.Proofs.Ytdghgmgppecncaa
namespace Go.Proofs.Ytdghgmgppecncaa
open Nat (reduceAdd reduceSub reduceGT reduceEqDiff reduceMul)
def Hold (H : HP) (lo hi : Nat) (r X : AV) : Prop := ∃ ids, Own lo hi H r X ids
theorem Hold.keep {H H' : HP} {lo hi : Nat} {r X : AV} (h : Hold H lo hi r X) (hk : ∀ i, lo ≤ i → i < hi → H' i = H i) : Hold H' lo hi r X := by
  obtain ⟨ids, h⟩ := h
  exact ⟨ids, h.keep hk (Nat.le_refl _) (Nat.le_refl _)⟩
theorem Hold.vw {H : HP} {lo hi : Nat} {r X : AV} (h : Hold H lo hi r X) : Vw H r X := by obtain ⟨ids, h⟩ := h; exact h.1.vw
theorem AC.hold {P : Program} {f : FuncId} {nx : Nat} {H : HP} {xs ts : List AV} {X : AV} {K : Nat → HP → AV → Prop} (h : ACo P f ts X) (hv : Vws H xs ts)
    (hk : ∀ nx' H' r, nx ≤ nx' → (∀ i, i < nx → H' i = H i) → Hold H' nx nx' r X → K nx' H' r) : AC P f nx H xs K :=
  AC.own h hv (fun nx' H' r ids h1 h2 h3 => hk nx' H' r h1 h2 ⟨ids, h3⟩)
theorem Hold.pair {H : HP} {lo hi : Nat} {r X : AV} {k : IntKind} {e : Int} (h : Hold H lo hi r (.t [X, .i k e])) : ∃ r1, r = .t [r1, .i k e] ∧ Hold H lo hi r1 X := by
  obtain ⟨ids, h1, h2, h3⟩ := h
  obtain ⟨r1, h4, h5⟩ := h1.pair_inv
  exact ⟨r1, h4, ids, h5, h2, h3⟩
theorem Hold.ring {H : HP} {lo hi : Nat} {r : AV} {p : Int} {pw : List (List Int)} {br : List (List (List Int))} (h : Hold H lo hi r (Go.Proofs.Ytdghgmgppecncaa.ring p pw br)) :
    ∃ r1 r2, r = .g [.i .i64 p, r1, r2] ∧ one r1 = true ∧ one r2 = true ∧ Hold H lo hi (.g [.i .i64 p, r1, r2]) (Go.Proofs.Ytdghgmgppecncaa.ring p pw br) := by
  obtain ⟨ids, h1, h2, h3⟩ := h
  obtain ⟨r1, r2, is, js, rfl, _, h5, h6⟩ := h1.ring_inv
  exact ⟨r1, r2, rfl, one_ow h5, one_ow h6, ids, h1, h2, h3⟩
def MarkH {α : Type} (f : FuncId) (enc : α → AV) (ok : α → Prop) (B C : Int) : Prop :=
  ∀ (nx : Nat) (H : HP) (r : AV) (X : α) (lo hi : Nat) (k : Int), Hold H lo hi r (enc X) → hi ≤ nx → ok X → 0 ≤ k → k ≤ C →
    AC Try.prog f nx H [r, .i .i64 k] (fun _ H' res => ∃ k' : Int, res = .i .i64 k' ∧ k ≤ k' ∧ k' ≤ k + B ∧ ∀ i, (i < lo ∨ hi ≤ i) → H' i = H i)
theorem MarkC.h {α : Type} {f : FuncId} {enc : α → AV} {ok : α → Prop} {B C : Int} (h : MarkC f enc ok B C) : MarkH f enc ok B C := by
  intro nx H r X lo hi k ⟨ids, h1, h2, h3⟩ _ hok h0 h5
  refine (h nx H r X ids k h1 h2 hok h0 h5).mono ?_
  rintro _ H' res ⟨k', g1, g2, g3, g4⟩
  exact ⟨k', g1, g2, g3, fun i hi => g4 i (fun hm => by have := h3 i hm; omega)⟩
end Go.Proofs.Ytdghgmgppecncaa
