/-
  Own layer, later part: arguments given up at a call. Plain law: canonical lists of two subgroups compared.
-/
import Derived.Test.YtbhlindlcfeppaaSt
set_option linter.unusedVariables false
set_option linter.unusedSimpArgs false
namespace Go.Proofs.Ytbhlindlcfeppaa

/-- A call whose arguments' blocks are given up and are read-only data from then on. -/
theorem AC.fz {P : Program} {f : FuncId} {nx : Nat} {H H' : HP} {xs ts : List AV} {Q : Nat → HP → AV → Prop} (hh : FzH H H') (ha : fzs H H' xs ts) (h : AC P f nx H' ts Q) : AC P f nx H xs Q := by
  refine ⟨h.1, fun L Av w us hs hfr hargs => (h.2 L Av w us (hs.fz hh) hfr ?_).mono ?_⟩
  · obtain ⟨h4, h5⟩ := fzs_get ha
    refine ⟨by rw [hargs.1, h4], fun k y hk => ?_⟩
    obtain ⟨x, h6, h7⟩ := h5 k y hk
    exact h7.sound hs hh (hargs.2 k x h6)
  · rintro e w' ⟨u, r, L', nx', H2, h1, h2, h3, h4, h5, h6, h7, h8⟩
    exact ⟨u, r, L', nx', H2, h1, h2, h3, h4, h5, h6, ⟨h7.le, h7.os, h7.tape, h7.output, h7.size, fun b hb hn => h7.keep b hb (fun hl => hn (hh.lb hl)), fun b hb hl => hh.lb (h7.old b hb hl)⟩, h8⟩
theorem Fz.blk {H : HP} {id n : Nat} {cs : List AV} (hc : H id = some cs) (hn : cs.length = n) : Fz H (upd H id none) (.h id 0 n) (.v n cs) :=
  .h id 0 n cs cs hc (upd_same _ _ _) (by omega) hn (fun k x y h1 h2 => by rw [Nat.zero_add, h2] at h1; cases h1; exact .refl _)
theorem Fz.rws {H : HP} {id n : Nat} {cs : List AV} {W : List (List Int)} (hc : H id = some cs) (he : cs = W.map Go.Proofs.Ytbhlindlcfeppaa.ints) (hn : n = W.length) : Fz H (upd H id none) (.h id 0 n) (rows W) := by
  subst he hn
  exact Fz.blk hc (by simp)
theorem one_map {u : List (List Int)} : (∀ z ∈ u.map ints, one z = true) = True := eq_true fun z hz => by
  obtain ⟨a, _, rfl⟩ := List.mem_map.1 hz; rfl

def oN (H : HP) : Option Nat → HP
  | none => H
  | some id => upd H id none
/-- A list under construction: rows of one's own, each behind the one before. -/
structure OutB (nx m : Nat) (o : Option Nat) (rs : List AV) (H : HP) (W : List (List Int)) : Prop where
  ex : ∃ ids, OwL H rs (W.map ints) ids ∧ ids.Nodup ∧ (∀ i ∈ ids, nx ≤ i ∧ i < m) ∧ (∀ id, o = some id → id ∉ ids ∧ nx ≤ id ∧ id < m)
  no : o = none → rs = []
  dom : ∀ i, m ≤ i → H i = none
theorem OutB.start {nx m : Nat} : OutB nx m none [] noH [] := ⟨⟨[], .nil, by simp, by simp, by simp⟩, fun _ => rfl, fun _ _ => rfl⟩
theorem OutB.len {nx m : Nat} {o : Option Nat} {rs : List AV} {H : HP} {W : List (List Int)} (h : OutB nx m o rs H W) : rs.length = W.length := by
  obtain ⟨ids, h1, _⟩ := h.ex
  have := h1.len
  simpa using this.symm
theorem OutB.more {nx m m' : Nat} {o : Option Nat} {rs : List AV} {H : HP} {W : List (List Int)} (h : OutB nx m o rs H W) (hm : m ≤ m') : OutB nx m' o rs H W := by
  obtain ⟨ids, h1, h2, h4, h5⟩ := h.ex
  exact ⟨⟨ids, h1, h2, fun i hi => ⟨(h4 i hi).1, by have := (h4 i hi).2; omega⟩, fun id hid => ⟨(h5 id hid).1, (h5 id hid).2.1, by have := (h5 id hid).2.2; omega⟩⟩, h.no, fun i hi => h.dom i (by omega)⟩
theorem OutB.own {nx m id : Nat} {rs : List AV} {H : HP} {W : List (List Int)} (h : OutB nx m (some id) rs H W) : ∃ ids, Own nx m (upd H id (some rs)) (.h id 0 rs.length) (rows W) ids := by
  have hl := h.len
  obtain ⟨ids, h1, h2, h4, h5⟩ := h.ex
  obtain ⟨q1, q3, q4⟩ := h5 id rfl
  refine ⟨id :: ids, ?_, by simp [q1, h2], ?_⟩
  · have := Ow.h (H := upd H id (some rs)) id rs (W.map ints) ids (upd_same _ _ _) (h1.keep fun i hi => by
      rw [upd_ne _ _ (fun e => q1 (by rw [← e]; exact hi))])
    rw [hl] at this ⊢
    exact this
  · intro i hi
    rcases List.mem_cons.1 hi with rfl | hi
    · exact ⟨q3, q4⟩
    · exact h4 i hi
theorem OutB.nil {nx m a b : Nat} {rs : List AV} {H H' : HP} {W : List (List Int)} (h : OutB nx m none rs H W) : Own a b H' .nl (rows W) [] := by
  have h1 := h.no rfl
  have h2 := h.len
  rw [h1] at h2
  have h3 : W = [] := List.length_eq_zero_iff.1 h2.symm
  subst h3
  exact ⟨.nl, by simp, by simp⟩
theorem OutB.push {nx m m0 m1 m2 id2 : Nat} {o : Option Nat} {rs : List AV} {H H1 : HP} {W : List (List Int)} {r1 : AV} {X : List Int} {ids1 : List Nat} (h : OutB nx m o rs H W)
    (hH : ∀ i, i < m0 → H1 i = oH H o rs i) (ho : Own m0 m1 H1 r1 (ints X) ids1) (hm : m ≤ id2) (h2 : id2 < m0) (h01 : m0 ≤ m1) (h12 : m1 ≤ m2) (hnx : nx ≤ m) : OutB nx m2 (some id2) (rs ++ [r1]) (lim m1 (oN H1 o)) (W ++ [X]) := by
  obtain ⟨ids, g1, g2, g4, g5⟩ := h.ex
  obtain ⟨o1, o2, o3⟩ := ho
  refine ⟨⟨ids ++ ids1, ?_, ?_, ?_, ?_⟩, (fun e => by cases e), fun i hi => if_neg (by omega)⟩
  · rw [List.map_append]
    refine OwL.append (g1.keep fun i hi => ?_) ?_
    · have hi2 := g4 i hi
      rw [lim, if_pos (by omega)]
      cases o with
      | none => simp only [oN]; rw [hH i (by omega)]; rfl
      | some id =>
        have := (g5 id rfl).1
        have hne : i ≠ id := fun e => this (by rw [← e]; exact hi)
        simp only [oN]
        rw [upd_ne _ _ hne, hH i (by omega)]
        simp only [oH]
        exact upd_ne _ _ hne
    · have hs : OwL (lim m1 (oN H1 o)) [r1] [ints X] (ids1 ++ []) := OwL.cons _ _ _ _ _ _ (o1.keep fun i hi => by
        have hi3 := o3 i hi
        rw [lim, if_pos (by omega)]
        cases o with
        | none => rfl
        | some id =>
          have := (g5 id rfl).2
          simp only [oN]; exact upd_ne _ _ (by omega)) .nil
      rw [List.append_nil] at hs
      exact hs
  · rw [List.nodup_append]
    exact ⟨g2, o2, fun a ha b hb' e => by have := o3 b hb'; have := g4 a ha; omega⟩
  · intro i hi
    rcases List.mem_append.1 hi with hi | hi
    · have := g4 i hi; omega
    · have := o3 i hi; omega
  · rintro id hid
    cases hid
    refine ⟨fun hi => ?_, by omega, by omega⟩
    rcases List.mem_append.1 hi with hi | hi
    · have := g4 _ hi; omega
    · have := o3 _ hi; omega
theorem OutB.le {nx m m0 m1 idb id2 : Nat} {o : Option Nat} {rs : List AV} {H H1 : HP} {W : List (List Int)} {c : Option (List AV)} {xs : List AV} (h : OutB nx m o rs H W)
    (hH : ∀ i, i < m0 → H1 i = oH H o rs i) (hm : m ≤ idb) (hb0 : idb < m0) : Le (upd (lim m1 (oN H1 o)) id2 (some xs)) (upd (oN (upd H1 idb c) o) id2 (some xs)) := by
  obtain ⟨ids, g1, g2, g4, g5⟩ := h.ex
  have hnone : H1 idb = none := by
    rw [hH idb hb0]
    cases o with
    | none => simp only [oH]; exact h.dom _ hm
    | some id =>
      have := g5 id rfl
      simp only [oH]; rw [upd_ne _ _ (by omega)]; exact h.dom _ hm
  intro i d hi
  by_cases e : i = id2
  · subst e; rw [upd_same] at hi ⊢; exact hi
  · rw [upd_ne _ _ e] at hi ⊢
    unfold lim at hi
    split at hi
    · cases o with
      | none =>
        simp only [oN] at hi ⊢
        by_cases e3 : i = idb
        · subst e3; rw [hnone] at hi; cases hi
        · rw [upd_ne _ _ e3]; exact hi
      | some id =>
        simp only [oN] at hi ⊢
        by_cases e4 : i = id
        · subst e4; rw [upd_same] at hi; cases hi
        · rw [upd_ne _ _ e4] at hi ⊢
          by_cases e3 : i = idb
          · subst e3; rw [hnone] at hi; cases hi
          · rw [upd_ne _ _ e3]; exact hi
    · cases hi
theorem OutB.id {nx m id : Nat} {o : Option Nat} {rs : List AV} {H : HP} {W : List (List Int)} (h : OutB nx m o rs H W) (ho : o = some id) : nx ≤ id ∧ id < m := by
  obtain ⟨ids, _, _, _, h5⟩ := h.ex
  exact (h5 id ho).2
theorem lim_le {m : Nat} {H : HP} : Le (lim m H) H := by
  intro i d hi
  unfold lim at hi
  split at hi
  · exact hi
  · cases hi
theorem Own.lim {a b m : Nat} {H : HP} {r X : AV} {ids : List Nat} (h : Own a b H r X ids) (hb : b ≤ m) : Own a b (lim m H) r X ids :=
  h.keep (fun i _ hi => if_pos (by omega)) (Nat.le_refl _) (Nat.le_refl _)

theorem nodup_le : ∀ {l1 l2 : List Nat}, l1.Nodup → (∀ x ∈ l1, x ∈ l2) → l1.length ≤ l2.length := by
  intro l1
  induction l1 with
  | nil => intro l2 _ _; simp
  | cons x l1 ih =>
    intro l2 h hs
    obtain ⟨h1, h2⟩ := List.nodup_cons.1 h
    have hx := hs x (by simp)
    have h3 := ih (l2 := l2.erase x) h2 (fun y hy => (List.mem_erase_of_ne (fun e => h1 (by rw [← e]; exact hy))).2 (hs y (by simp [hy])))
    rw [List.length_erase_of_mem hx] at h3
    have := List.length_pos_of_mem hx
    simp only [List.length_cons]; omega
theorem nodup_all {l1 l2 : List Nat} (h : l1.Nodup) (hs : ∀ x ∈ l1, x ∈ l2) (hl : l2.length ≤ l1.length) : ∀ x ∈ l2, x ∈ l1 := by
  intro x hx
  apply Classical.byContradiction
  intro hn
  have h3 := nodup_le (l2 := l2.erase x) h (fun y hy => (List.mem_erase_of_ne (fun e => hn (by rw [← e]; exact hy))).2 (hs y hy))
  rw [List.length_erase_of_mem hx] at h3
  have := List.length_pos_of_mem hx
  omega

section
variable {p : Int} {pw : List (List Int)}
theorem Ech.nodup {n : Nat} {u : List (List Int)} (h : Ech p n u) : (u.map dep).Nodup := by
  refine List.pairwise_iff_getElem.2 fun i j hi hj hij => ?_
  have := h.asc i j hij (by simpa using hj)
  rw [List.length_map] at hi hj
  simp only [List.getD_eq_getElem?_getD, List.getElem?_eq_getElem hi, List.getElem?_eq_getElem hj, Option.getD_some] at this
  simp only [List.getElem_map]
  omega
theorem can_deps {S S' : (Nat → Int) → Prop} {u v : List (List Int)} (hu : Can p pw S u) (hv : Can p pw S' v) (h : ∀ f, S f → S' f) : ∀ x ∈ u.map dep, x ∈ v.map dep := by
  intro x hx
  obtain ⟨b, hb, rfl⟩ := List.mem_map.1 hx
  obtain ⟨c, hc, he⟩ := hv.all b (hu.el b hb) (h _ (hu.mem b hb)) (hu.lt b hb)
  exact List.mem_map.2 ⟨c, hc, he⟩
theorem can_le {S S' : (Nat → Int) → Prop} {u v : List (List Int)} (hu : Can p pw S u) (hv : Can p pw S' v) (h : ∀ f, S f → S' f) : u.length ≤ v.length := by
  have := nodup_le hu.nodup (can_deps hu hv h)
  simpa using this
theorem can_same (t : Tri p pw) {S S' : (Nat → Int) → Prop} (hS : Sub p pw S) (hS' : Sub p pw S') {u v : List (List Int)} (hu : Can p pw S u) (hv : Can p pw S' v) (h : ∀ f, S f → S' f) (hl : v.length ≤ u.length) : v = u := by
  have hd := nodup_all hu.nodup (can_deps hu hv h) (by simpa using hl)
  have hSS : S = S' := by
    funext f
    refine propext ⟨h f, fun hf => ?_⟩
    have hx := nf_el t f
    have hfx : S' (fn (nf p pw f)) := hS'.cg hf (nf_fn t f)
    have hre := redL_el t u hx
    have h1 := (redL_sp t (d := 0) (u := u) (x := nf p pw f) (fun b hb => ⟨hu.lt b hb, hu.one b hb⟩) hx (fun j hj => by omega)).1
    have h2 : S (fun j => 1 * fn (nf p pw f) j + -1 * fn (redL p pw u (nf p pw f)) j) := h1 S hS (fun b hb => hu.mem b (mem_deeper.1 hb).1)
    have h3 : S' (fn (redL p pw u (nf p pw f))) := hS'.cg (hS'.comb 1 (-1) hfx (h _ h2)) (.of fun j _ => by omega)
    have hz : zeros (redL p pw u (nf p pw f)) := by
      refine dep_all.1 ?_
      rcases Nat.lt_or_ge (dep (redL p pw u (nf p pw f))) pw.length with hd2 | hd2
      · obtain ⟨c, hc, hcd⟩ := hv.all _ hre h3 hd2
        obtain ⟨b, hb, hbd⟩ := List.mem_map.1 (hd (dep c) (List.mem_map.2 ⟨c, hc, rfl⟩))
        have h4 := redL_zero t hu.toEch hx b hb
        rw [hbd, hcd] at h4
        exact absurd h4 (dep_nz (by rw [hre.len]; exact hd2))
      · have := dep_le (redL p pw u (nf p pw f))
        rw [hre.len] at this ⊢; omega
    have h5 : S (fn (nf p pw f)) := hS.cg h2 (.of fun j hj => by have := hz j (by rw [hre.len]; exact hj); simp only [fn] at this ⊢; rw [this]; omega)
    exact hS.cg h5 (nf_fn t f).symm
  subst hSS
  exact can_uniq t hS hv hu
end

section
variable {p : Int} {pw : List (List Int)}
def CanU (p : Int) (pw : List (List Int)) (u : List (List Int)) : Prop := Can p pw (Sp p pw u) u
theorem app_el {n : Nat} {u v : List (List Int)} (hu : ∀ b ∈ u, El p n b) (hv : ∀ b ∈ v, El p n b) : ∀ b ∈ u ++ v, El p n b := by
  intro b hb
  rcases List.mem_append.1 hb with hb | hb
  · exact hu b hb
  · exact hv b hb
theorem spanU (t : Tri p pw) (hp : pr4 p) {G : List (List Int)} (h : ∀ b ∈ G, El p pw.length b) : CanU p pw (spanL p pw G) := by
  unfold CanU
  rw [span_sp t hp h]; exact span_can t hp h
theorem spanL_sp (t : Tri p pw) (hp : pr4 p) {G G' : List (List Int)} (h : ∀ b ∈ G, El p pw.length b) (h' : ∀ b ∈ G', El p pw.length b) (he : Sp p pw G = Sp p pw G') : spanL p pw G = spanL p pw G' := by
  have h1 := span_can t hp h
  rw [he] at h1
  exact can_uniq t (Sp.sub _) h1 (span_can t hp h')
end
end Go.Proofs.Ytbhlindlcfeppaa
