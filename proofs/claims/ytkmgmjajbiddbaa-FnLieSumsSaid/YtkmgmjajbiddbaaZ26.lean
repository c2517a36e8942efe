import Derived.Test.YtkmgmjajbiddbaaZ25
set_option linter.unusedVariables false
set_option linter.unusedSimpArgs false
namespace Go.Proofs.Ytkmgmjajbiddbaa
open Nat (reduceAdd reduceSub reduceGT reduceEqDiff reduceMul)
theorem ACp.ofV {P : Program} {f : FuncId} {xs : List AV} {X : AV} (hX : NR X) (h : ∀ nx, AC P f nx noH xs (fun _ H' r => Vw H' r X)) : ACp P f xs X := by
  refine ⟨(h 0).1, fun L M w us hM ⟨n, hn⟩ ha => ((h n).2 L M w us (SR_noH hM) hn (by rw [MM_noH]; exact ha)).mono ?_⟩
  rintro e w' ⟨u, r, L', nx', H', h1, h2, h3, h4, h5, h6, h7, h8⟩
  exact ⟨u, h1, ⟨fun _ _ h => h, h7.os, h7.tape, h7.output, h7.size, h7.keep, fun b _ hb => absurd hb LB_noH⟩, (h2.sound h6 h8).nr hX⟩
end Go.Proofs.Ytkmgmjajbiddbaa
namespace Go.Proofs.Ytkmgmjajbiddbaa
section
variable {p : Int} {pw : List (List Int)}
def bl : Nat → (Nat → List Int) → List (List Int)
  | 0, _ => []
  | n + 1, B => if B n = [] then bl n B else bl n B ++ [B n]
theorem mem_bl {B : Nat → List Int} {b : List Int} : ∀ {n : Nat}, b ∈ bl n B ↔ ∃ d, d < n ∧ B d = b ∧ b ≠ [] := by
  intro n
  induction n with
  | zero => simp [bl]
  | succ n ih =>
    simp only [bl]
    constructor
    · intro h
      split at h
      · obtain ⟨d, h1, h2⟩ := ih.1 h
        exact ⟨d, by omega, h2⟩
      · rename_i hn
        rcases List.mem_append.1 h with h | h
        · obtain ⟨d, h1, h2⟩ := ih.1 h
          exact ⟨d, by omega, h2⟩
        · rw [List.mem_singleton.1 h]; exact ⟨n, by omega, rfl, hn⟩
    · rintro ⟨d, h1, h2, h3⟩
      by_cases e : d = n
      · subst e
        rw [if_neg (by rw [h2]; exact h3), h2]; simp
      · have := ih.2 ⟨d, by omega, h2, h3⟩
        split
        · exact this
        · exact List.mem_append_left _ this
def BOk (p : Int) (n : Nat) (B : Nat → List Int) : Prop := ∀ d, d < n → B d = [] ∨ (El p n (B d) ∧ dep (B d) = d ∧ (B d).getD d 0 = 1)
def QI (p : Int) (pw : List (List Int)) (B : Nat → List Int) (Q : List (List Int)) : Prop := ∀ b ∈ bl pw.length B, Sp p pw (deeper (bl pw.length B) (dep b + 1)) (fun j => p * fn b j) ∨ nf p pw (fun j => p * fn b j) ∈ Q
theorem QI.clo {B : Nat → List Int} (h : QI p pw B []) : Clo p pw (bl pw.length B) := fun b hb => (h b hb).resolve_right (by simp)
structure RI (p : Int) (pw : List (List Int)) (B : Nat → List Int) (x y : List Int) : Prop where
  el : El p pw.length y
  sp : Sp p pw (deeper (bl pw.length B) (dep x)) (fun j => 1 * fn x j + -1 * fn y j)
  le : dep x ≤ dep y
theorem RI.start {B : Nat → List Int} {x : List Int} (hx : El p pw.length x) : RI p pw B x x :=
  ⟨hx, (Sp.sub _).cg (Sp.sub _).zero (.of fun j _ => by omega), Nat.le_refl _⟩
theorem RI.step (t : Tri p pw) {B : Nat → List Int} {x y : List Int} (hB : BOk p pw.length B) (h : RI p pw B x y) (hd : dep y < pw.length) (hne : B (dep y) ≠ []) : RI p pw B x (stepL p pw (B (dep y)) y) ∧ dep y < dep (stepL p pw (B (dep y)) y) := by
  obtain ⟨b1, b2, b3⟩ := (hB _ hd).resolve_left hne
  have hv : (B (dep y)).getD (dep (B (dep y))) 0 = 1 := by rw [b2]; exact b3
  obtain ⟨g1, g2⟩ := stepL_get t h.el (by rw [b2]; exact hd) hv
  rw [b2] at g1 g2
  have hel := stepL_el t (B (dep y)) y
  have hdd : dep y + 1 ≤ dep (stepL p pw (B (dep y)) y) := dep_ge (by rw [hel.len]; omega) (fun j hj => by
    by_cases e : j = dep y
    · rw [e]; exact g2
    · rw [g1 j (by omega)]; exact dep_zero (by omega))
  refine ⟨⟨hel, ?_, by have := h.le; omega⟩, by omega⟩
  have h2 : Sp p pw (deeper (bl pw.length B) (dep x)) (fn (B (dep y))) := .gen (mem_deeper.2 ⟨mem_bl.2 ⟨_, hd, rfl, hne⟩, by have := h.le; omega⟩)
  have h3 : Cg p pw (fun j => 1 * fn y j + -1 * fn (stepL p pw (B (dep y)) y) j) (fun j => y.getD (dep (B (dep y))) 0 * fn (B (dep y)) j) := by
    refine ((Cg.refl (fn y)).comb 1 (-1) (nf_fn t (fun j => 1 * y.getD j 0 + -(y.getD (dep (B (dep y))) 0) * (B (dep y)).getD j 0))).trans (.of fun j _ => ?_)
    simp only [fn, Int.neg_mul]; omega
  exact (Sp.sub _).cg ((Sp.sub _).add h.sp ((Sp.sub _).cg ((Sp.sub _).mul _ h2) h3)) (.of fun j _ => by omega)
end
end Go.Proofs.Ytkmgmjajbiddbaa
namespace Go.Proofs.Ytkmgmjajbiddbaa
open Nat (reduceAdd reduceSub reduceGT reduceEqDiff reduceMul)
def CpR (nx nx' : Nat) (H H' : HP) (r : AV) (a : List (List Int)) : Prop := (∃ id, r = .h id 0 a.length ∧ nx ≤ id ∧ id < nx' ∧ H' = upd H id (some (a.map ints))) ∨ (a.length = 0 ∧ r = .v 0 [] ∧ H' = H)
def bcell (b : List Int) : AV := if b = [] then .nl else ints b
def bls (n : Nat) (B : Nat → List Int) : List AV := (List.range n).map fun d => bcell (B d)
theorem bls_len {n : Nat} {B : Nat → List Int} : (bls n B).length = n := by simp [bls]
theorem bls_get {n : Nat} {B : Nat → List Int} {d : Nat} (h : d < n) : (bls n B).getD d .j = bcell (B d) := by simp [bls, h]
theorem bls_set {n : Nat} {B : Nat → List Int} {d : Nat} {z : List Int} (h : d < n) (hz : 0 < z.length) : splice (bls n B) d [AV.v z.length (z.map (.i .i64))] = bls n (fun i => if i = d then z else B i) := by
  have hzn : z ≠ [] := by rintro rfl; simp at hz
  rw [splice_one _ _ _ (by rw [bls_len]; exact h)]
  apply List.ext_getElem?
  intro i
  rw [List.getElem?_set]
  by_cases hi : d = i
  · subst hi; simp [bls, h, bcell, hzn, ints]
  · simp only [hi, if_false, bls, List.getElem?_map]
    by_cases hn : i < n
    · simp [hn, Ne.symm hi]
    · simp [hn]
theorem nilop_bc {b : List Int} {k : AV → Prop} : nilop env .neq 27 (bcell b) .nl k = k (.b (tf (b ≠ []))) := by
  unfold bcell
  by_cases h : b = []
  · rw [if_pos h, tf_f (by simp [h])]
    simp only [nilop]
    simp only [bop, go_sem]
    try simp
  · rw [if_neg h, tf_t h]
    simp only [nilop, ints]
    refine propext ⟨fun hh => hh.2.f, fun hh => ⟨⟨_, _, rfl, rfl⟩, ⟨fun h0 => absurd (List.length_eq_zero_iff.1 h0) h, hh⟩⟩⟩
attribute [go_sem high] nilop_bc
attribute [go_sem] bls_len bls_get bls_set
end Go.Proofs.Ytkmgmjajbiddbaa
namespace Go.Proofs.Ytkmgmjajbiddbaa
open Nat (reduceAdd reduceSub reduceGT reduceEqDiff reduceMul)
structure OutI (nx bb m : Nat) (o : Option Nat) (rs : List AV) (H : HP) (W : List (List Int)) : Prop where
  ex : ∃ ids, OwL H rs (W.map ints) ids ∧ ids.Nodup ∧ bb ∉ ids ∧ (∀ i ∈ ids, nx ≤ i ∧ i < m) ∧ (∀ id, o = some id → id ∉ ids ∧ id ≠ bb ∧ nx ≤ id ∧ id < m)
  no : o = none → rs = []
  dom : ∀ i, m ≤ i → H i = none
theorem OutI.start {nx bb m : Nat} : OutI nx bb m none [] noH [] := ⟨⟨[], .nil, by simp, by simp, by simp, by simp⟩, fun _ => rfl, fun _ _ => rfl⟩
theorem OutI.len {nx bb m : Nat} {o : Option Nat} {rs : List AV} {H : HP} {W : List (List Int)} (h : OutI nx bb m o rs H W) : rs.length = W.length := by
  obtain ⟨ids, h1, _⟩ := h.ex
  have := h1.len
  simpa using this.symm
theorem OutI.more {nx bb m m' : Nat} {o : Option Nat} {rs : List AV} {H : HP} {W : List (List Int)} (h : OutI nx bb m o rs H W) (hm : m ≤ m') : OutI nx bb m' o rs H W := by
  obtain ⟨ids, h1, h2, h3, h4, h5⟩ := h.ex
  exact ⟨⟨ids, h1, h2, h3, fun i hi => ⟨(h4 i hi).1, by have := (h4 i hi).2; omega⟩, fun id hid => ⟨(h5 id hid).1, (h5 id hid).2.1, (h5 id hid).2.2.1, by have := (h5 id hid).2.2.2; omega⟩⟩, h.no, fun i hi => h.dom i (by omega)⟩
theorem OutI.own {nx bb m id : Nat} {rs : List AV} {H : HP} {W : List (List Int)} {c : Option (List AV)} (h : OutI nx bb m (some id) rs H W) : ∃ ids, Own nx m (upd (upd H bb c) id (some rs)) (.h id 0 rs.length) (rows W) ids := by
  have hl := h.len
  obtain ⟨ids, h1, h2, h3, h4, h5⟩ := h.ex
  obtain ⟨q1, q2, q3, q4⟩ := h5 id rfl
  refine ⟨id :: ids, ?_, by simp [q1, h2], ?_⟩
  · have := Ow.h (H := upd (upd H bb c) id (some rs)) id rs (W.map ints) ids (upd_same _ _ _) (h1.keep fun i hi => by
      rw [upd_ne _ _ (fun e => q1 (by rw [← e]; exact hi)), upd_ne _ _ (fun e => h3 (by rw [← e]; exact hi))])
    rw [hl] at this ⊢
    exact this
  · intro i hi
    rcases List.mem_cons.1 hi with rfl | hi
    · exact ⟨q3, q4⟩
    · exact h4 i hi
theorem OutI.push {nx bb m m0 m1 m2 id2 : Nat} {o : Option Nat} {rs : List AV} {H H1 : HP} {W : List (List Int)} {c : Option (List AV)} {r1 : AV} {X : List Int} {ids1 : List Nat} (h : OutI nx bb m o rs H W)
    (hH : ∀ i, i < m0 → H1 i = oH (upd H bb c) o rs i) (ho : Own m0 m1 H1 r1 (ints X) ids1) (hb : bb < m) (hm : m ≤ id2) (h2 : id2 < m0) (h01 : m0 ≤ m1) (h12 : m1 ≤ m2) (hnx : nx ≤ m) : OutI nx bb m2 (some id2) (r1 :: rs) (lim m1 H1) (X :: W) := by
  obtain ⟨ids, g1, g2, g3, g4, g5⟩ := h.ex
  obtain ⟨o1, o2, o3⟩ := ho
  refine ⟨⟨ids1 ++ ids, ?_, ?_, ?_, ?_, ?_⟩, (fun e => by cases e), fun i hi => if_neg (by omega)⟩
  · refine OwL.cons _ _ _ _ _ _ (o1.keep fun i hi => if_pos (o3 i hi).2) (g1.keep fun i hi => ?_)
    have hi2 := g4 i hi
    rw [lim, if_pos (by omega), hH i (by omega)]
    have hib : i ≠ bb := fun e => g3 (by rw [← e]; exact hi)
    cases o with
    | none => exact upd_ne _ _ hib
    | some id =>
      have := (g5 id rfl).1
      simp only [oH]
      rw [upd_ne _ _ (fun e => this (by rw [← e]; exact hi)), upd_ne _ _ hib]
  · rw [List.nodup_append]
    exact ⟨o2, g2, fun a ha b hb' e => by have := o3 a ha; have := g4 b hb'; omega⟩
  · intro hbb
    rcases List.mem_append.1 hbb with hbb | hbb
    · have := o3 _ hbb; omega
    · exact g3 hbb
  · intro i hi
    rcases List.mem_append.1 hi with hi | hi
    · have := o3 i hi; omega
    · have := g4 i hi; omega
  · rintro id hid
    cases hid
    refine ⟨fun hi => ?_, by omega, by omega, by omega⟩
    rcases List.mem_append.1 hi with hi | hi
    · have := o3 _ hi; omega
    · have := g4 _ hi; omega
theorem OutI.le {nx bb m m0 m1 idb id2 : Nat} {o : Option Nat} {rs : List AV} {H H1 : HP} {W : List (List Int)} {c : List AV} {xs : List AV} (h : OutI nx bb m o rs H W)
    (hH : ∀ i, i < m0 → H1 i = oH (upd H bb (some c)) o rs i) (hb : bb < m) (hm : m ≤ idb) (hb0 : idb < m0) (h2 : m ≤ id2) : Le (upd (upd (lim m1 H1) bb (some c)) id2 (some xs)) (upd (upd H1 idb none) id2 (some xs)) := by
  obtain ⟨ids, g1, g2, g3, g4, g5⟩ := h.ex
  have hnone : H1 idb = none := by
    rw [hH idb hb0]
    cases o with
    | none => simp only [oH]; rw [upd_ne _ _ (by omega)]; exact h.dom _ hm
    | some id =>
      have := g5 id rfl
      simp only [oH]; rw [upd_ne _ _ (by omega), upd_ne _ _ (by omega)]; exact h.dom _ hm
  have hbb : H1 bb = some c := by
    rw [hH bb (by omega)]
    cases o with
    | none => simp only [oH]; exact upd_same _ _ _
    | some id =>
      have := g5 id rfl
      simp only [oH]; rw [upd_ne _ _ (by omega)]; exact upd_same _ _ _
  intro i d hi
  by_cases e : i = id2
  · subst e; rw [upd_same] at hi ⊢; exact hi
  · rw [upd_ne _ _ e] at hi ⊢
    by_cases e2 : i = bb
    · subst e2; rw [upd_same] at hi; rw [upd_ne _ _ (by omega), hbb]; exact hi
    · rw [upd_ne _ _ e2] at hi
      unfold lim at hi
      split at hi
      · by_cases e3 : i = idb
        · subst e3; rw [hnone] at hi; cases hi
        · rw [upd_ne _ _ e3]; exact hi
      · cases hi
theorem Ow.one {H : HP} {r : AV} {X : List Int} {ids : List Nat} (h : Ow H r (Go.Proofs.Ytkmgmjajbiddbaa.ints X) ids) : one r = true := h.slice.2.1
theorem OwL.ones {H : HP} : ∀ {W : List (List Int)} {rs : List AV} {ids : List Nat}, OwL H rs (W.map Go.Proofs.Ytkmgmjajbiddbaa.ints) ids → ∀ z ∈ rs, one z = true := by
  intro W
  induction W with
  | nil => intro rs ids h z hz; cases h; cases hz
  | cons x W ih =>
    intro rs ids h z hz
    cases h with
    | cons a b xs ys is js h1 h2 =>
      rcases List.mem_cons.1 hz with rfl | hz
      · exact h1.one
      · exact ih h2 z hz
theorem OutI.one {nx bb m : Nat} {o : Option Nat} {rs : List AV} {H : HP} {W : List (List Int)} (h : OutI nx bb m o rs H W) : (∀ z ∈ rs, one z = true) = True := by
  obtain ⟨ids, h1, _⟩ := h.ex
  exact eq_true h1.ones
theorem OutI.id {nx bb m id : Nat} {o : Option Nat} {rs : List AV} {H : HP} {W : List (List Int)} (h : OutI nx bb m o rs H W) (ho : o = some id) : id ≠ bb ∧ nx ≤ id ∧ id < m := by
  obtain ⟨ids, _, _, _, _, h5⟩ := h.ex
  exact (h5 id ho).2
theorem OutI.nil {nx bb m a b : Nat} {rs : List AV} {H H' : HP} {W : List (List Int)} (h : OutI nx bb m none rs H W) : Own a b H' .nl (rows W) [] := by
  have h1 := h.no rfl
  have h2 := h.len
  rw [h1] at h2
  have h3 : W = [] := List.length_eq_zero_iff.1 h2.symm
  subst h3
  exact ⟨.nl, by simp, by simp⟩
theorem CpR.zero {P : Program} {f : FuncId} {nx : Nat} {H : HP} {xs : List AV} {a : List (List Int)} (hn : a.length = 0) (h : AC P f nx H xs (fun nx' H' r => CpR nx nx' H H' r a)) : AC P f nx H xs (fun _ H' r => r = .v 0 [] ∧ H' = H) := by
  have hEnt := h.1
  refine ⟨hEnt, fun L Av w us a b c => ?_⟩
  have hfr : ∀ i, nx ≤ i → H i = none := by
    intro i hi
    cases hh : H i with
    | none => rfl
    | some cs => obtain ⟨l, h1, _⟩ := a.node i cs hh; rw [b i hi] at h1; cases h1
  refine (AC.hv (AC.exact (h.mono ?_))).2 L Av w us a b c
  rintro nx' H' r (⟨id, rfl, h1, h2, rfl⟩ | ⟨-, rfl, rfl⟩)
  · refine ⟨H, fun i c hi => ?_, .inr ⟨⟨id, 0, by rw [hn]⟩, rfl, rfl⟩⟩
    by_cases e : i = id
    · subst e; rw [hfr i h1] at hi; cases hi
    · rw [upd_ne _ _ e]; exact hi
  · exact ⟨_, Le.refl _, .inl ⟨rfl, rfl⟩⟩
end Go.Proofs.Ytkmgmjajbiddbaa
namespace Go.Proofs.Ytkmgmjajbiddbaa
open Nat (reduceAdd reduceSub reduceGT reduceEqDiff reduceMul)
def spansP (p : Int) (pw : List (List Int)) (br : List (List (List Int))) (us : List (List (List Int))) : Prop := LieR p pw br ∧ ∀ k, k < us.length → SpnP p pw br (us.getD k [])
theorem spansP.one {p : Int} {pw : List (List Int)} {br : List (List (List Int))} {u : List (List Int)} : spansP p pw br [u] ↔ SpnP p pw br u :=
  ⟨fun h => h.2 0 (by simp), fun h => ⟨h.1, fun k hk => by simp at hk; subst hk; exact h⟩⟩
theorem spansP.two {p : Int} {pw : List (List Int)} {br : List (List (List Int))} {u v : List (List Int)} : spansP p pw br [u, v] ↔ SpnP p pw br u ∧ SpnP p pw br v :=
  ⟨fun h => ⟨h.2 0 (by simp), h.2 1 (by simp)⟩, fun h => ⟨h.1.1, fun k hk => by
    match k, hk with
    | 0, _ => exact h.1
    | 1, _ => exact h.2⟩⟩
theorem cubeslen.one {u : List (List Int)} (h : rowslen u) : cubeslen [u] := ⟨by simp, fun x hx => by rw [List.mem_singleton.1 hx]; exact h⟩
theorem cubeslen.two {u v : List (List Int)} (h : rowslen u) (h2 : rowslen v) : cubeslen [u, v] := ⟨by simp, fun x hx => by
  simp at hx
  rcases hx with rfl | rfl
  · exact h
  · exact h2⟩
end Go.Proofs.Ytkmgmjajbiddbaa
