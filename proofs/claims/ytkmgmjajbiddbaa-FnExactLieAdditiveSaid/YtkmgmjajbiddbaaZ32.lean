import Derived.Test.YtkmgmjajbiddbaaZ31
set_option linter.unusedVariables false
set_option linter.unusedSimpArgs false
namespace Go.Proofs.Ytkmgmjajbiddbaa
open Nat (reduceAdd reduceSub reduceGT reduceEqDiff reduceMul)
structure OutI (nx bb m : Nat) (o : Option Nat) (rs : List AV) (H : HP) (W : List (List Int)) : Prop where
  ex : ∃ ids, OwL H rs (W.map ints) ids ∧ ids.Nodup ∧ bb ∉ ids ∧ (∀ i ∈ ids, nx ≤ i ∧ i < m) ∧ (∀ id, o = some id → id ∉ ids ∧ id ≠ bb ∧ nx ≤ id ∧ id < m)
  no : o = none → rs = []
  dom : ∀ i, m ≤ i → H i = none
theorem OutI.start {nx bb m : Nat} : OutI nx bb m none [] noH [] := ⟨⟨[], .nil, by simp, by simp, by simp, by simp⟩, fun _ => rfl, fun _ _ => rfl⟩
theorem OutI.len {nx bb m : Nat} {o : Option Nat} {rs : List AV} {H : HP} {W : List (List Int)} (h : OutI nx bb m o rs H W) : rs.length = W.length := by
  obtain ⟨ids, h1, _⟩ := h.ex
  have := h1.len
  simpa using this.symm
theorem OutI.more {nx bb m m' : Nat} {o : Option Nat} {rs : List AV} {H : HP} {W : List (List Int)} (h : OutI nx bb m o rs H W) (hm : m ≤ m') : OutI nx bb m' o rs H W := by
  obtain ⟨ids, h1, h2, h3, h4, h5⟩ := h.ex
  exact ⟨⟨ids, h1, h2, h3, fun i hi => ⟨(h4 i hi).1, by have := (h4 i hi).2; omega⟩, fun id hid => ⟨(h5 id hid).1, (h5 id hid).2.1, (h5 id hid).2.2.1, by have := (h5 id hid).2.2.2; omega⟩⟩, h.no, fun i hi => h.dom i (by omega)⟩
theorem OutI.own {nx bb m id : Nat} {rs : List AV} {H : HP} {W : List (List Int)} {c : Option (List AV)} (h : OutI nx bb m (some id) rs H W) : ∃ ids, Own nx m (upd (upd H bb c) id (some rs)) (.h id 0 rs.length) (rows W) ids := by
  have hl := h.len
  obtain ⟨ids, h1, h2, h3, h4, h5⟩ := h.ex
  obtain ⟨q1, q2, q3, q4⟩ := h5 id rfl
  refine ⟨id :: ids, ?_, by simp [q1, h2], ?_⟩
  · have := Ow.h (H := upd (upd H bb c) id (some rs)) id rs (W.map ints) ids (upd_same _ _ _) (h1.keep fun i hi => by
      rw [upd_ne _ _ (fun e => q1 (by rw [← e]; exact hi)), upd_ne _ _ (fun e => h3 (by rw [← e]; exact hi))])
    rw [hl] at this ⊢
    exact this
  · intro i hi
    rcases List.mem_cons.1 hi with rfl | hi
    · exact ⟨q3, q4⟩
    · exact h4 i hi
theorem OutI.push {nx bb m m0 m1 m2 id2 : Nat} {o : Option Nat} {rs : List AV} {H H1 : HP} {W : List (List Int)} {c : Option (List AV)} {r1 : AV} {X : List Int} {ids1 : List Nat} (h : OutI nx bb m o rs H W)
    (hH : ∀ i, i < m0 → H1 i = oH (upd H bb c) o rs i) (ho : Own m0 m1 H1 r1 (ints X) ids1) (hb : bb < m) (hm : m ≤ id2) (h2 : id2 < m0) (h01 : m0 ≤ m1) (h12 : m1 ≤ m2) (hnx : nx ≤ m) : OutI nx bb m2 (some id2) (r1 :: rs) (lim m1 H1) (X :: W) := by
  obtain ⟨ids, g1, g2, g3, g4, g5⟩ := h.ex
  obtain ⟨o1, o2, o3⟩ := ho
  refine ⟨⟨ids1 ++ ids, ?_, ?_, ?_, ?_, ?_⟩, (fun e => by cases e), fun i hi => if_neg (by omega)⟩
  · refine OwL.cons _ _ _ _ _ _ (o1.keep fun i hi => if_pos (o3 i hi).2) (g1.keep fun i hi => ?_)
    have hi2 := g4 i hi
    rw [lim, if_pos (by omega), hH i (by omega)]
    have hib : i ≠ bb := fun e => g3 (by rw [← e]; exact hi)
    cases o with
    | none => exact upd_ne _ _ hib
    | some id =>
      have := (g5 id rfl).1
      simp only [oH]
      rw [upd_ne _ _ (fun e => this (by rw [← e]; exact hi)), upd_ne _ _ hib]
  · rw [List.nodup_append]
    exact ⟨o2, g2, fun a ha b hb' e => by have := o3 a ha; have := g4 b hb'; omega⟩
  · intro hbb
    rcases List.mem_append.1 hbb with hbb | hbb
    · have := o3 _ hbb; omega
    · exact g3 hbb
  · intro i hi
    rcases List.mem_append.1 hi with hi | hi
    · have := o3 i hi; omega
    · have := g4 i hi; omega
  · rintro id hid
    cases hid
    refine ⟨fun hi => ?_, by omega, by omega, by omega⟩
    rcases List.mem_append.1 hi with hi | hi
    · have := o3 _ hi; omega
    · have := g4 _ hi; omega
theorem OutI.le {nx bb m m0 m1 idb id2 : Nat} {o : Option Nat} {rs : List AV} {H H1 : HP} {W : List (List Int)} {c : List AV} {xs : List AV} (h : OutI nx bb m o rs H W)
    (hH : ∀ i, i < m0 → H1 i = oH (upd H bb (some c)) o rs i) (hb : bb < m) (hm : m ≤ idb) (hb0 : idb < m0) (h2 : m ≤ id2) : Le (upd (upd (lim m1 H1) bb (some c)) id2 (some xs)) (upd (upd H1 idb none) id2 (some xs)) := by
  obtain ⟨ids, g1, g2, g3, g4, g5⟩ := h.ex
  have hnone : H1 idb = none := by
    rw [hH idb hb0]
    cases o with
    | none => simp only [oH]; rw [upd_ne _ _ (by omega)]; exact h.dom _ hm
    | some id =>
      have := g5 id rfl
      simp only [oH]; rw [upd_ne _ _ (by omega), upd_ne _ _ (by omega)]; exact h.dom _ hm
  have hbb : H1 bb = some c := by
    rw [hH bb (by omega)]
    cases o with
    | none => simp only [oH]; exact upd_same _ _ _
    | some id =>
      have := g5 id rfl
      simp only [oH]; rw [upd_ne _ _ (by omega)]; exact upd_same _ _ _
  intro i d hi
  by_cases e : i = id2
  · subst e; rw [upd_same] at hi ⊢; exact hi
  · rw [upd_ne _ _ e] at hi ⊢
    by_cases e2 : i = bb
    · subst e2; rw [upd_same] at hi; rw [upd_ne _ _ (by omega), hbb]; exact hi
    · rw [upd_ne _ _ e2] at hi
      unfold lim at hi
      split at hi
      · by_cases e3 : i = idb
        · subst e3; rw [hnone] at hi; cases hi
        · rw [upd_ne _ _ e3]; exact hi
      · cases hi
theorem Ow.one {H : HP} {r : AV} {X : List Int} {ids : List Nat} (h : Ow H r (Go.Proofs.Ytkmgmjajbiddbaa.ints X) ids) : one r = true := h.slice.2.1
theorem OwL.ones {H : HP} : ∀ {W : List (List Int)} {rs : List AV} {ids : List Nat}, OwL H rs (W.map Go.Proofs.Ytkmgmjajbiddbaa.ints) ids → ∀ z ∈ rs, one z = true := by
  intro W
  induction W with
  | nil => intro rs ids h z hz; cases h; cases hz
  | cons x W ih =>
    intro rs ids h z hz
    cases h with
    | cons a b xs ys is js h1 h2 =>
      rcases List.mem_cons.1 hz with rfl | hz
      · exact h1.one
      · exact ih h2 z hz
theorem OutI.one {nx bb m : Nat} {o : Option Nat} {rs : List AV} {H : HP} {W : List (List Int)} (h : OutI nx bb m o rs H W) : (∀ z ∈ rs, one z = true) = True := by
  obtain ⟨ids, h1, _⟩ := h.ex
  exact eq_true h1.ones
theorem OutI.id {nx bb m id : Nat} {o : Option Nat} {rs : List AV} {H : HP} {W : List (List Int)} (h : OutI nx bb m o rs H W) (ho : o = some id) : id ≠ bb ∧ nx ≤ id ∧ id < m := by
  obtain ⟨ids, _, _, _, _, h5⟩ := h.ex
  exact (h5 id ho).2
theorem OutI.nil {nx bb m a b : Nat} {rs : List AV} {H H' : HP} {W : List (List Int)} (h : OutI nx bb m none rs H W) : Own a b H' .nl (rows W) [] := by
  have h1 := h.no rfl
  have h2 := h.len
  rw [h1] at h2
  have h3 : W = [] := List.length_eq_zero_iff.1 h2.symm
  subst h3
  exact ⟨.nl, by simp, by simp⟩
theorem CpR.zero {P : Program} {f : FuncId} {nx : Nat} {H : HP} {xs : List AV} {a : List (List Int)} (hn : a.length = 0) (h : AC P f nx H xs (fun nx' H' r => CpR nx nx' H H' r a)) : AC P f nx H xs (fun _ H' r => r = .v 0 [] ∧ H' = H) := by
  have hEnt := h.1
  refine ⟨hEnt, fun L Av w us a b c => ?_⟩
  have hfr : ∀ i, nx ≤ i → H i = none := by
    intro i hi
    cases hh : H i with
    | none => rfl
    | some cs => obtain ⟨l, h1, _⟩ := a.node i cs hh; rw [b i hi] at h1; cases h1
  refine (AC.hv (AC.exact (h.mono ?_))).2 L Av w us a b c
  rintro nx' H' r (⟨id, rfl, h1, h2, rfl⟩ | ⟨-, rfl, rfl⟩)
  · refine ⟨H, fun i c hi => ?_, .inr ⟨⟨id, 0, by rw [hn]⟩, rfl, rfl⟩⟩
    by_cases e : i = id
    · subst e; rw [hfr i h1] at hi; cases hi
    · rw [upd_ne _ _ e]; exact hi
  · exact ⟨_, Le.refl _, .inl ⟨rfl, rfl⟩⟩
end Go.Proofs.Ytkmgmjajbiddbaa
namespace Go.Proofs.Ytkmgmjajbiddbaa
open Nat (reduceAdd reduceSub reduceGT reduceEqDiff reduceMul)
def spansP (p : Int) (pw : List (List Int)) (br : List (List (List Int))) (us : List (List (List Int))) : Prop := LieR p pw br ∧ ∀ k, k < us.length → SpnP p pw br (us.getD k [])
theorem spansP.one {p : Int} {pw : List (List Int)} {br : List (List (List Int))} {u : List (List Int)} : spansP p pw br [u] ↔ SpnP p pw br u :=
  ⟨fun h => h.2 0 (by simp), fun h => ⟨h.1, fun k hk => by simp at hk; subst hk; exact h⟩⟩
theorem spansP.two {p : Int} {pw : List (List Int)} {br : List (List (List Int))} {u v : List (List Int)} : spansP p pw br [u, v] ↔ SpnP p pw br u ∧ SpnP p pw br v :=
  ⟨fun h => ⟨h.2 0 (by simp), h.2 1 (by simp)⟩, fun h => ⟨h.1.1, fun k hk => by
    match k, hk with
    | 0, _ => exact h.1
    | 1, _ => exact h.2⟩⟩
theorem cubeslen.one {u : List (List Int)} (h : rowslen u) : cubeslen [u] := ⟨by simp, fun x hx => by rw [List.mem_singleton.1 hx]; exact h⟩
theorem cubeslen.two {u v : List (List Int)} (h : rowslen u) (h2 : rowslen v) : cubeslen [u, v] := ⟨by simp, fun x hx => by
  simp at hx
  rcases hx with rfl | rfl
  · exact h
  · exact h2⟩
end Go.Proofs.Ytkmgmjajbiddbaa
