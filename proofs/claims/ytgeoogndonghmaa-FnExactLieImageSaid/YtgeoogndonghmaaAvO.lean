/-
  Own layer, part O: a slice of owned things under construction.
-/
import Derived.Test.YtgeoogndonghmaaAvN
set_option linter.unusedVariables false
set_option linter.unusedSimpArgs false
namespace Go.Proofs.Ytgeoogndonghmaa

theorem Ow.slice {H : HP} {r : AV} {n : Nat} {ts : List AV} {ids : List Nat} (h : Ow H r (.v n ts) ids) : cellsA r = [r] ∧ one r = true ∧ okA r = true := by
  cases h <;> exact ⟨rfl, rfl, rfl⟩

mutual
theorem Ow.nr {H : HP} {r X : AV} {ids : List Nat} (h : Ow H r X ids) : NR X := by
  cases h with
  | leaf _ hf hn => exact hn
  | nl => exact .v _ _ (by simp)
  | h id cs ts ids h1 h2 => exact .v _ _ h2.nr
  | q id cs ts ids h1 h2 => exact .p _ _ h2.nr
  | g cs ts ids h2 => exact .g _ h2.nr
  | t cs ts ids h2 => exact .t _ h2.nr
theorem OwL.nr {H : HP} {cs ts : List AV} {ids : List Nat} (h : OwL H cs ts ids) : ∀ (k : Nat) (x : AV), ts[k]? = some x → NR x := by
  cases h with
  | nil => intro k x hk; simp at hk
  | cons x y xs ys is js h1 h2 =>
    intro k z hk
    cases k with
    | zero => simp at hk; subst hk; exact h1.nr
    | succ k => exact h2.nr k z (by simpa using hk)
end

/-- A result of one's own, taken as read-only data. -/
theorem ACo.pure {P : Program} {f : FuncId} {as : List AV} {X : AV} (h : ACo P f as X) : ACp P f as X := by
  refine ⟨(h 0).1, fun L M w us hM ⟨n, hn⟩ ha => ((h n).2 L M w us (SR_noH hM) hn (by rw [MM_noH]; exact ha)).mono ?_⟩
  rintro e w' ⟨u, r, L', nx', H', h1, ⟨ids, h2, _⟩, h3, h4, h5, h6, h7, h8⟩
  exact ⟨u, h1, ⟨fun _ _ h => h, h7.os, h7.tape, h7.output, h7.size, h7.keep, fun b _ hb => absurd hb LB_noH⟩, (h2.vw.sound h6 h8).nr h2.nr⟩

/-- The first k places of the block id hold owned things (each of its own blocks), the others z. -/
def OL (nx m id : Nat) (H : HP) (n : Nat) (z : AV) (k : Nat) (rs Xs : List AV) : Prop :=
  ∃ ids, H id = some (rs ++ List.replicate (n - k) z) ∧ rs.length = k ∧ k ≤ n ∧ OwL H rs Xs ids ∧ ids.Nodup ∧ id ∉ ids ∧ nx ≤ id ∧ id < m ∧ ∀ i ∈ ids, nx ≤ i ∧ i < m

theorem OL.start {nx m id : Nat} {H : HP} {n : Nat} {z : AV} (h : H id = some (List.replicate n z)) (h1 : nx ≤ id) (h2 : id < m) : OL nx m id H n z 0 [] [] :=
  ⟨[], by simpa using h, rfl, Nat.zero_le _, .nil, by simp, by simp, h1, h2, by simp⟩

theorem OL.cells {nx m id : Nat} {H : HP} {n : Nat} {z : AV} {k : Nat} {rs Xs : List AV} (h : OL nx m id H n z k rs Xs) : H id = some (rs ++ List.replicate (n - k) z) ∧ rs.length = k ∧ k ≤ n ∧ nx ≤ id ∧ id < m := by
  obtain ⟨ids, h1, h2, h3, h4, h5, h6, h7, h8, h9⟩ := h
  exact ⟨h1, h2, h3, h7, h8⟩

theorem OL.more {nx m m' id : Nat} {H : HP} {n : Nat} {z : AV} {k : Nat} {rs Xs : List AV} (h : OL nx m id H n z k rs Xs) (hm : m ≤ m') : OL nx m' id H n z k rs Xs := by
  obtain ⟨ids, h1, h2, h3, h4, h5, h6, h7, h8, h9⟩ := h
  exact ⟨ids, h1, h2, h3, h4, h5, h6, h7, by omega, fun i hi => ⟨(h9 i hi).1, by have := (h9 i hi).2; omega⟩⟩

theorem OL.step {nx m m1 m' id : Nat} {H H' : HP} {n : Nat} {z : AV} {k : Nat} {rs Xs : List AV} (h : OL nx m id H n z k rs Xs) (hk : k < n) (hH : ∀ i, i < m1 → H' i = H i) (hm : m ≤ m1) (hm' : m1 ≤ m') {r X : AV} {is : List Nat} (ho : Own m1 m' H' r X is) :
    OL nx m' id (upd H' id (some (splice (rs ++ List.replicate (n - k) z) k [r]))) n z (k + 1) (rs ++ [r]) (Xs ++ [X]) := by
  obtain ⟨ids, h1, h2, h3, h4, h5, h6, h7, h8, h9⟩ := h
  obtain ⟨o1, o2, o3⟩ := ho
  have hne : id ∉ is := fun hi => by have := (o3 id hi).1; omega
  refine ⟨ids ++ (is ++ []), ?_, by simp [h2], by omega, ?_, ?_, ?_, h7, by omega, ?_⟩
  · rw [upd_same]
    congr 1
    unfold splice
    rw [List.take_append_of_le_length (by omega), List.take_of_length_le (by omega), List.drop_append, h2]
    rw [List.drop_eq_nil_of_le (by simp; omega), List.nil_append]
    simp only [List.length_cons, List.length_nil, Nat.zero_add]
    rw [show k + 1 - k = 1 by omega, List.drop_replicate, show n - k - 1 = n - (k + 1) by omega]
  · refine OwL.append (h4.keep fun i hi => ?_) (.cons _ _ _ _ _ _ (o1.keep fun i hi => ?_) .nil)
    · rw [upd_ne _ _ (fun e => h6 (by rw [← e]; exact hi)), hH i (by have := (h9 i hi).2; omega)]
    · rw [upd_ne _ _ (fun e => hne (by rw [← e]; exact hi))]
  · rw [List.append_nil, List.nodup_append]
    refine ⟨h5, o2, ?_⟩
    intro a ha b hb e
    have := (h9 a ha).2
    have := (o3 b hb).1
    omega
  · simp [h6, hne]
  · intro i hi
    rw [List.append_nil] at hi
    rcases List.mem_append.1 hi with hi | hi
    · have := h9 i hi; omega
    · have := o3 i hi; omega

theorem OL.done {nx m id : Nat} {H : HP} {n : Nat} {z : AV} {rs Xs : List AV} (h : OL nx m id H n z n rs Xs) : ∃ ids, Own nx m H (.h id 0 n) (.v n Xs) ids := by
  obtain ⟨ids, h1, h2, h3, h4, h5, h6, h7, h8, h9⟩ := h
  refine ⟨id :: ids, ?_, by simp [h6, h5], ?_⟩
  · have := Ow.h (H := H) id rs Xs ids (by simpa using h1) h4
    rw [h2] at this; exact this
  · intro i hi
    rcases List.mem_cons.1 hi with rfl | hi
    · exact ⟨h7, h8⟩
    · exact h9 i hi

theorem Own.keep {a b a' b' : Nat} {H H' : HP} {r X : AV} {ids : List Nat} (h : Own a b H r X ids) (hk : ∀ i, a ≤ i → i < b → H' i = H i) (ha : a' ≤ a) (hb : b ≤ b') : Own a' b' H' r X ids :=
  ⟨h.1.keep fun i hi => hk i (h.2.2 i hi).1 (h.2.2 i hi).2, h.2.1, fun i hi => by have := h.2.2 i hi; omega⟩

def OwnL (a b : Nat) (H : HP) (rs Xs : List AV) (ids : List Nat) : Prop := OwL H rs Xs ids ∧ ids.Nodup ∧ ∀ i ∈ ids, a ≤ i ∧ i < b
theorem OwnL.nil {a b : Nat} {H : HP} : OwnL a b H [] [] [] := ⟨.nil, by simp, by simp⟩
theorem OwnL.leaf {a b : Nat} {H : HP} {x : AV} {rs Xs : List AV} {js : List Nat} (hf : Fl x) (hn : NR x) (h : OwnL a b H rs Xs js) : OwnL a b H (x :: rs) (x :: Xs) js :=
  ⟨by simpa using OwL.cons _ _ _ _ [] js (.leaf x hf hn) h.1, h.2.1, h.2.2⟩
theorem OwnL.cons {a b c : Nat} {H : HP} {r X : AV} {is : List Nat} {rs Xs : List AV} {js : List Nat} (h1 : Own a b H r X is) (h2 : OwnL b c H rs Xs js) (hb : b ≤ c) (ha : a ≤ b) : OwnL a c H (r :: rs) (X :: Xs) (is ++ js) := by
  refine ⟨.cons _ _ _ _ _ _ h1.1 h2.1, ?_, ?_⟩
  · rw [List.nodup_append]
    exact ⟨h1.2.1, h2.2.1, fun x hx y hy e => by have := h1.2.2 x hx; have := h2.2.2 y hy; omega⟩
  · intro i hi
    rcases List.mem_append.1 hi with hi | hi
    · have := h1.2.2 i hi; omega
    · have := h2.2.2 i hi; omega
theorem OwnL.g {a b : Nat} {H : HP} {rs Xs : List AV} {ids : List Nat} (h : OwnL a b H rs Xs ids) : Own a b H (.g rs) (.g Xs) ids := ⟨.g _ _ _ h.1, h.2.1, h.2.2⟩
theorem OwnL.t {a b : Nat} {H : HP} {rs Xs : List AV} {ids : List Nat} (h : OwnL a b H rs Xs ids) : Own a b H (.t rs) (.t Xs) ids := ⟨.t _ _ _ h.1, h.2.1, h.2.2⟩

end Go.Proofs.Ytgeoogndonghmaa
