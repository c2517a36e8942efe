import Derived.Test.YtkmgmjajbiddbaaZ35
set_option linter.unusedVariables false
set_option linter.unusedSimpArgs false
namespace Go.Proofs.Ytkmgmjajbiddbaa
theorem nodup_leL : ∀ {l1 l2 : List (List Int)}, l1.Nodup → (∀ x ∈ l1, x ∈ l2) → l1.length ≤ l2.length := by
  intro l1
  induction l1 with
  | nil => intro l2 _ _; simp
  | cons x l1 ih =>
    intro l2 h hs
    obtain ⟨h1, h2⟩ := List.nodup_cons.1 h
    have hx := hs x (by simp)
    have h3 := ih (l2 := l2.erase x) h2 (fun y hy => (List.mem_erase_of_ne (fun e => h1 (by rw [← e]; exact hy))).2 (hs y (by simp [hy])))
    rw [List.length_erase_of_mem hx] at h3
    have := List.length_pos_of_mem hx
    simp only [List.length_cons]; omega
theorem nodup_same {l1 l2 : List (List Int)} (h1 : l1.Nodup) (h2 : l2.Nodup) (h : ∀ x, x ∈ l1 ↔ x ∈ l2) : l1.length = l2.length :=
  Nat.le_antisymm (nodup_leL h1 fun x hx => (h x).1 hx) (nodup_leL h2 fun x hx => (h x).2 hx)
theorem flat_len {l : List (List Int)} {f : List Int → List (List Int)} {k : Nat} (h : ∀ x, (f x).length = k) : (l.flatMap f).length = l.length * k := by
  induction l with
  | nil => simp
  | cons x l ih => rw [List.flatMap_cons, List.length_append, ih, h, List.length_cons, Nat.succ_mul]; omega
section
variable {p : Int} {X : List (List Int)}
theorem sp_van {u : List (List Int)} {s : Nat} (h : ∀ b ∈ u, ∀ j, j < s → b.getD j 0 = 0) {f : Nat → Int} (hf : Sp p X u f) : Van p X s f := hf _ (Van.sub s) (fun b hb => .of (h b hb))
def enL (p : Int) (X : List (List Int)) : List (List Int) → List (List Int)
  | [] => [nf p X (fun _ => 0)]
  | v :: u => (enL p X u).flatMap fun y => (List.range p.toNat).map fun (c : Nat) => nf p X (fun j => 1 * y.getD j 0 + (c : Int) * v.getD j 0)
theorem enL_len : ∀ u : List (List Int), (enL p X u).length = p.toNat ^ u.length := by
  intro u
  induction u with
  | nil => rfl
  | cons v u ih =>
    show ((enL p X u).flatMap _).length = _
    rw [flat_len (k := p.toNat) (fun x => by simp), ih, List.length_cons, Nat.pow_succ]
theorem en_key (t : Tri p X) {v y : List Int} (c : Int) (hv0 : ∀ j, j < dep v → v.getD j 0 = 0) (hv1 : v.getD (dep v) 0 = 1) (hdl : dep v < X.length) (hy0 : ∀ j, j < dep v + 1 → y.getD j 0 = 0) : (nf p X (fun j => 1 * y.getD j 0 + c * v.getD j 0)).getD (dep v) 0 = c % p := by
  rw [(nf_van t (s := dep v) (g := fun j => 1 * y.getD j 0 + c * v.getD j 0) (fun j hj => by rw [hy0 j (by omega), hv0 j hj]; simp)).2 hdl]
  rw [hy0 _ (by omega), hv1]; simp
theorem en_facts (t : Tri p X) : ∀ (u : List (List Int)), Ech p X.length u → (∀ x, El p X.length x → Sp p X u (fn x) → zeros (redL p X u x)) → (∀ x, x ∈ enL p X u ↔ El p X.length x ∧ Sp p X u (fn x)) ∧ (enL p X u).Nodup := by
  intro u
  induction u with
  | nil =>
    intro _ Q
    refine ⟨fun x => ⟨fun h => ?_, fun ⟨hx, hs⟩ => ?_⟩, by simp [enL]⟩
    · rw [List.mem_singleton.1 h]
      exact ⟨nf_el t _, (Sp.sub _).cg (Sp.sub _).zero (nf_fn t _)⟩
    · have hz : zeros x := Q x hx hs
      refine List.mem_singleton.2 (El.uniq t hx (nf_el t _) ?_)
      refine Cg.trans (.of fun j hj => ?_) (nf_fn t (fun _ => 0)).symm
      exact hz j (by rw [hx.len]; exact hj)
  | cons v u ih =>
    intro hE Q
    obtain ⟨hE', hd⟩ := hE.tail
    have hv0 : ∀ j, j < dep v → v.getD j 0 = 0 := fun j hj => dep_zero hj
    have hv1 := hE.one v (by simp)
    have hdl := hE.lt v (by simp)
    have hz : ∀ b ∈ u, ∀ j, j < dep v + 1 → b.getD j 0 = 0 := fun b hb j hj => dep_zero (by have := hd b hb; omega)
    have hsub : ∀ x, El p X.length x → Sp p X u (fn x) → ∀ j, j < dep v + 1 → x.getD j 0 = 0 := fun x hx hs => el_van t hx (sp_van hz hs)
    have hred : ∀ x, redL p X (v :: u) x = redL p X u (stepL p X v x) := fun _ => rfl
    obtain ⟨ihm, ihn⟩ := ih hE' (fun x hx hs => by
      have := Q x hx (hs.mono fun b hb => by simp [hb])
      rwa [hred, stepL_id t hx (hsub x hx hs _ (by omega))] at this)
    have hp := t.p2
    refine ⟨fun x => ⟨fun h => ?_, fun ⟨hx, hs⟩ => ?_⟩, ?_⟩
    · obtain ⟨y, hy, h2⟩ := List.mem_flatMap.1 h
      obtain ⟨c, hc, rfl⟩ := List.mem_map.1 h2
      obtain ⟨hy1, hy2⟩ := (ihm y).1 hy
      exact ⟨nf_el t _, (Sp.sub _).cg ((Sp.sub _).comb 1 (c : Int) (hy2.mono fun b hb => by simp [hb]) (.gen (b := v) (by simp))) (nf_fn t _)⟩
    · obtain ⟨h0, h1⟩ := hx.rng (dep v) hdl
      have hy := stepL_el t v x
      have hzz : zeros (redL p X u (stepL p X v x)) := Q x hx hs
      have h3 := (redL_sp t (d := 0) (u := u) (x := stepL p X v x) (fun b hb => ⟨hE'.lt b hb, hE'.one b hb⟩) hy (fun j hj => by omega)).1
      have h4 : Sp p X u (fn (stepL p X v x)) := (Sp.sub u).cg (h3.mono fun b hb => (mem_deeper.1 hb).1) (.of fun j hj => by
        have := hzz j (by rw [(redL_el t u hy).len]; exact hj)
        simp only [fn]; rw [this]; omega)
      refine List.mem_flatMap.2 ⟨stepL p X v x, (ihm _).2 ⟨hy, h4⟩, List.mem_map.2 ⟨(x.getD (dep v) 0).toNat, List.mem_range.2 (by omega), ?_⟩⟩
      rw [Int.toNat_of_nonneg h0]
      refine El.uniq t (nf_el t _) hx ?_
      refine (nf_fn t _).trans ?_
      refine ((nf_fn t (fun j => 1 * x.getD j 0 + -(x.getD (dep v) 0) * v.getD j 0)).comb 1 (x.getD (dep v) 0) (Cg.refl (fn v))).trans (.of fun j _ => ?_)
      simp only [fn, Int.one_mul, Int.neg_mul]; omega
    · refine List.pairwise_flatMap.2 ⟨fun y hy => ?_, ?_⟩
      · obtain ⟨hy1, hy2⟩ := (ihm y).1 hy
        have hy0 := hsub y hy1 hy2
        refine List.pairwise_map.2 (List.Pairwise.imp_of_mem (fun {a b} ha hb hab e => hab ?_) List.nodup_range)
        have e1 := congrArg (fun l : List Int => l.getD (dep v) 0) e
        rw [en_key t _ hv0 hv1 hdl hy0, en_key t _ hv0 hv1 hdl hy0, Int.emod_eq_of_lt (by omega) (by have := List.mem_range.1 ha; omega), Int.emod_eq_of_lt (by omega) (by have := List.mem_range.1 hb; omega)] at e1
        omega
      · refine List.Pairwise.imp_of_mem (fun {y z} hy hz' hyz => ?_) ihn
        intro a ha b hb e
        obtain ⟨hy1, hy2⟩ := (ihm y).1 hy
        obtain ⟨hz1, hz2⟩ := (ihm z).1 hz'
        obtain ⟨c, hc, rfl⟩ := List.mem_map.1 ha
        obtain ⟨d, hd', rfl⟩ := List.mem_map.1 hb
        have e1 := congrArg (fun l : List Int => l.getD (dep v) 0) e
        rw [en_key t _ hv0 hv1 hdl (hsub y hy1 hy2), en_key t _ hv0 hv1 hdl (hsub z hz1 hz2), Int.emod_eq_of_lt (by omega) (by have := List.mem_range.1 hc; omega), Int.emod_eq_of_lt (by omega) (by have := List.mem_range.1 hd'; omega)] at e1
        rw [e1] at e
        refine hyz (El.uniq t hy1 hz1 ?_)
        have c1 := nf_fn t (fun j => 1 * y.getD j 0 + (d : Int) * v.getD j 0)
        have c2 := nf_fn t (fun j => 1 * z.getD j 0 + (d : Int) * v.getD j 0)
        rw [e] at c1
        have c3 := (c1.symm.trans c2).comb 1 (-(d : Int)) (Cg.refl (fn v))
        exact c3.ext (fun j _ => by simp only [fn, Int.one_mul, Int.neg_mul]; omega) (fun j _ => by simp only [fn, Int.one_mul, Int.neg_mul]; omega)
theorem all_nodup : ∀ n, (allL p n).Nodup := by
  intro n
  induction n with
  | zero => simp [allL]
  | succ n ih =>
    refine List.pairwise_flatMap.2 ⟨fun y hy => ?_, ?_⟩
    · refine List.pairwise_map.2 (List.Pairwise.imp (fun {a b} hab e => hab ?_) List.nodup_range)
      have := List.append_cancel_left e
      have h2 : (a : Int) = b := by simpa using this
      omega
    · refine List.Pairwise.imp (fun {y z} hyz => ?_) ih
      intro a ha b hb e
      obtain ⟨c, hc, rfl⟩ := List.mem_map.1 ha
      obtain ⟨d, hd', rfl⟩ := List.mem_map.1 hb
      have := congrArg List.dropLast e
      rw [List.dropLast_concat, List.dropLast_concat] at this
      exact hyz this
theorem count_sp (t : Tri p X) {u : List (List Int)} (hu : CanU p X u) : (filt (fun x => Sp p X u (fn x)) (allL p X.length)).length = p.toNat ^ u.length := by
  obtain ⟨h1, h2⟩ := en_facts t u hu.toEch (fun x hx hs => (zero_iff t hu hx).2 hs)
  rw [← enL_len (p := p) (X := X) u]
  refine nodup_same (List.Nodup.sublist List.filter_sublist (all_nodup _)) h2 fun x => ?_
  rw [h1, mem_filt, mem_all t.p2]
end
end Go.Proofs.Ytkmgmjajbiddbaa
