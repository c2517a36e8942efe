import Derived.Test.YtkmgmjajbiddbaaZ27
set_option linter.unusedVariables false
set_option linter.unusedSimpArgs false
namespace Go.Proofs.Ytkmgmjajbiddbaa
section
variable {p : Int} {pw : List (List Int)} {br : List (List (List Int))}
theorem el_van (t : Tri p pw) {x : List Int} (hx : El p pw.length x) {s : Nat} (h : Van p pw s (fn x)) : ∀ j, j < s → x.getD j 0 = 0 := by
  obtain ⟨g, hg, hz⟩ := h
  intro j hj
  rcases Nat.lt_or_ge j pw.length with hjn | hjn
  · have h1 : vec pw.length (fn x) = nf p pw g := nf_box t (fun k hk => hx.rng k hk) hg
    have h2 := (nf_van t hz).1 j hj
    rw [← h1, vec_get hjn] at h2
    exact h2
  · rw [List.getD_eq_getElem?_getD, List.getElem?_eq_none (by rw [hx.len]; omega)]; rfl
theorem span_nil (t : Tri p pw) : spanL p pw [] = [] := by
  refine spanL_eq t (⟨Ech.nil, fun b hb => absurd hb (by simp), fun b hb => absurd hb (by simp), fun x hx hs hd => ?_⟩ : Can p pw (Sp p pw []) [])
  have h1 : Van p pw pw.length (fn x) := hs _ (Van.sub _) (fun b hb => absurd hb (by simp))
  have h2 := el_van t hx h1 _ hd
  exact absurd h2 (dep_nz (by rw [hx.len]; exact hd))
end
end Go.Proofs.Ytkmgmjajbiddbaa
namespace Go.Proofs.Ytkmgmjajbiddbaa
inductive SerC (F : List (List Int) → List (List Int)) : List (List Int) → List (List (List Int)) → Prop
  | done (u : List (List Int)) (h : F u = u) : SerC F u [u]
  | step (u : List (List Int)) (K : List (List (List Int))) (h : F u ≠ u) (hc : SerC F (F u) K) : SerC F u (u :: K)
theorem SerC.eq {F : List (List Int) → List (List Int)} {u : List (List Int)} {K : List (List (List Int))} (h : SerC F u K) (he : F u = u) : K = [u] := by
  cases h with
  | done => rfl
  | step _ _ h => exact absurd he h
theorem SerC.next {F : List (List Int) → List (List Int)} {u : List (List Int)} {K : List (List (List Int))} (h : SerC F u K) (he : F u ≠ u) : ∃ K', K = u :: K' ∧ SerC F (F u) K' := by
  cases h with
  | done _ h => exact absurd h he
  | step _ K h hc => exact ⟨K, rfl, hc⟩
theorem SerC.pos {F : List (List Int) → List (List Int)} {u : List (List Int)} {K : List (List (List Int))} (h : SerC F u K) : 0 < K.length := by
  cases h <;> simp
def allL (p : Int) : Nat → List (List Int)
  | 0 => [[]]
  | n + 1 => (allL p n).flatMap fun x => (List.range p.toNat).map fun (k : Nat) => x ++ [(k : Int)]
def atL (p : Int) : Nat → Int → List Int
  | 0, _ => []
  | n + 1, k => atL p n (k / p) ++ [k % p]
theorem app_get1 {n : Nat} {y : List Int} {c : Int} (hy : y.length = n) {j : Nat} : (y ++ [c]).getD j 0 = if j < n then y.getD j 0 else if j = n then c else 0 := by
  subst hy
  rw [List.getD_eq_getElem?_getD, List.getD_eq_getElem?_getD, List.getElem?_append]
  split
  · rfl
  · split
    · rename_i h1 h2; subst h2; simp
    · rename_i h1 h2; rw [List.getElem?_eq_none (by simp; omega)]; rfl
theorem el_snoc {p : Int} {n : Nat} {y : List Int} {c : Int} (hy : El p n y) (h0 : 0 ≤ c) (h1 : c < p) : El p (n + 1) (y ++ [c]) :=
  ⟨by rw [List.length_append, hy.len]; rfl, fun j hj => by
    rw [app_get1 hy.len]
    split
    · exact hy.rng j (by omega)
    · rw [if_pos (by omega)]; exact ⟨h0, by omega⟩⟩
theorem el_split {p : Int} {n : Nat} {x : List Int} (hx : El p (n + 1) x) : ∃ y c, x = y ++ [c] ∧ El p n y ∧ 0 ≤ c ∧ c < p := by
  have hl := hx.len
  have hne : x ≠ [] := fun e => by rw [e] at hl; cases hl
  have he := List.dropLast_concat_getLast hne
  obtain ⟨y, hy⟩ : ∃ y, x.dropLast = y := ⟨_, rfl⟩
  obtain ⟨c, hc⟩ : ∃ c, x.getLast hne = c := ⟨_, rfl⟩
  rw [hy, hc] at he
  subst he
  have hyl : y.length = n := by simpa using hl
  refine ⟨y, c, rfl, ⟨hyl, fun j hj => ?_⟩, ?_⟩
  · have := hx.rng j (by omega)
    rw [app_get1 hyl, if_pos (by omega)] at this
    exact this
  · have := hx.rng n (by omega)
    rw [app_get1 hyl, if_neg (by omega), if_pos rfl] at this
    exact ⟨this.1, by omega⟩
theorem el_zero {p : Int} {x : List Int} (hx : El p 0 x) : x = [] := List.length_eq_zero_iff.1 hx.len
theorem mem_all {p : Int} (hp : 2 ≤ p) : ∀ {n : Nat} {x : List Int}, x ∈ allL p n ↔ El p n x := by
  intro n
  induction n with
  | zero => exact fun {x} => ⟨fun h => by simp only [allL, List.mem_singleton] at h; subst h; exact ⟨rfl, fun j hj => by omega⟩, fun h => by rw [el_zero h]; simp [allL]⟩
  | succ n ih =>
    intro x
    simp only [allL, List.mem_flatMap, List.mem_map, List.mem_range]
    constructor
    · rintro ⟨y, hy, k, hk, rfl⟩
      exact el_snoc (ih.1 hy) (by omega) (by omega)
    · intro h
      obtain ⟨y, c, rfl, h1, h2, h3⟩ := el_split h
      exact ⟨y, ih.2 h1, c.toNat, by omega, by rw [Int.toNat_of_nonneg h2]⟩
theorem at_el {p : Int} (hp : 2 ≤ p) : ∀ {n : Nat} {k : Int}, El p n (atL p n k) := by
  intro n
  induction n with
  | zero => intro k; exact ⟨rfl, fun j hj => by omega⟩
  | succ n ih => intro k; exact el_snoc ih (Int.emod_nonneg _ (by omega)) (Int.emod_lt_of_pos _ (by omega))
theorem at_all {p : Int} (hp : 2 ≤ p) : ∀ {n : Nat} {x : List Int}, El p n x → ∃ k : Int, 0 ≤ k ∧ k < p ^ n ∧ atL p n k = x := by
  intro n
  induction n with
  | zero => intro x hx; exact ⟨0, by omega, by simp, (el_zero hx).symm⟩
  | succ n ih =>
    intro x hx
    obtain ⟨y, c, rfl, h1, h2, h3⟩ := el_split hx
    obtain ⟨k, k0, k1, rfl⟩ := ih h1
    have e1 : (k * p + c) / p = k := by
      rw [Int.add_comm, Int.add_mul_ediv_right _ _ (by omega), Int.ediv_eq_zero_of_lt h2 h3]; omega
    have e2 : (k * p + c) % p = c := by
      rw [Int.add_comm, Int.add_mul_emod_self_right, Int.emod_eq_of_lt h2 h3]
    refine ⟨k * p + c, ?_, ?_, ?_⟩
    · have := Int.mul_nonneg k0 (show 0 ≤ p by omega); omega
    · have h5 : (k + 1) * p ≤ p ^ n * p := Int.mul_le_mul_of_nonneg_right (by omega) (by omega)
      rw [Int.pow_succ]
      rw [Int.add_mul] at h5
      omega
    · simp only [atL]; rw [e1, e2]
open Classical in
noncomputable def filt (P : List Int → Prop) (L : List (List Int)) : List (List Int) := L.filter fun x => decide (P x)
theorem mem_filt {P : List Int → Prop} {L : List (List Int)} {x : List Int} : x ∈ filt P L ↔ x ∈ L ∧ P x := by simp [filt]
noncomputable def withL (p : Int) (pw : List (List Int)) (P : List Int → Prop) : List (List Int) := spanL p pw (filt P (allL p pw.length))
def firstL (p : Int) (n k : Nat) : List (List Int) := (List.range k).map fun (j : Nat) => atL p n (j : Int)
section
variable {p : Int} {pw : List (List Int)}
theorem first_s {n k : Nat} : firstL p n (k + 1) = firstL p n k ++ [atL p n k] := by
  unfold firstL; rw [List.range_succ, List.map_append]; rfl
theorem filt_yes {P : List Int → Prop} {L : List (List Int)} {x : List Int} (h : P x) : filt P (L ++ [x]) = filt P L ++ [x] := by simp [filt, h]
theorem filt_no {P : List Int → Prop} {L : List (List Int)} {x : List Int} (h : ¬ P x) : filt P (L ++ [x]) = filt P L := by simp [filt, h]
theorem filta_el (hp : 2 ≤ p) {P : List Int → Prop} {n : Nat} : ∀ b ∈ filt P (allL p n), El p n b := fun b hb => (mem_all hp).1 (mem_filt.1 hb).1
theorem with_can (t : Tri p pw) (hp : pr4 p) {P : List Int → Prop} : CanU p pw (withL p pw P) := spanU t hp (filta_el t.p2)
theorem with_sp (t : Tri p pw) (hp : pr4 p) {P : List Int → Prop} {x : List Int} (hx : El p pw.length x) (h : P x) : Sp p pw (withL p pw P) (fn x) := by
  unfold withL
  rw [span_sp t hp (filta_el t.p2)]
  exact .gen (mem_filt.2 ⟨(mem_all t.p2).2 hx, h⟩)
end
def AbvP (p : Int) (pw : List (List Int)) (br : List (List (List Int))) (u v : List (List Int)) (x : List Int) : Prop := within p pw u (brkLL p pw br [x] v)
section
variable {p : Int} {pw : List (List Int)} {br : List (List (List Int))}
theorem brk_one {x : List Int} {v : List (List Int)} : brkLL p pw br [x] v = v.map (brkL p pw br x) := by simp [brkLL]
theorem abv_iff {u v : List (List Int)} {x : List Int} : AbvP p pw br u v x ↔ ∀ i, i < v.length → zeros (redL p pw u (brkL p pw br x (v.getD i []))) := by
  unfold AbvP within
  rw [brk_one, List.length_map]
  constructor
  · intro h i hi
    have := h i hi
    simpa [hi] using this
  · intro h i hi
    have := h i hi
    simpa [hi] using this
theorem full_len (t : Tri p pw) (hp : pr4 p) {u : List (List Int)} (hu : CanU p pw u) (h : ∀ f, Sp p pw u f) : u.length = pw.length := by
  have h1 := nodup_le (l1 := List.range pw.length) (l2 := u.map dep) List.nodup_range (fun d hd => by
    have hd' := List.mem_range.1 hd
    have hx := wunit_el (p := p) t.p2 (n := pw.length) (k := d)
    have hdep : dep (unitL pw.length d) = d := dep_eq (by rw [hx.len]; omega) (fun j hj => by rw [unitL, vec_get (by omega), if_neg (by omega)]) (fun _ => by rw [unitL, vec_get (by omega), if_pos rfl]; omega)
    obtain ⟨b, hb, hbd⟩ := hu.all _ hx (h _) (by rw [hdep]; exact hd')
    exact List.mem_map.2 ⟨b, hb, by rw [hbd, hdep]⟩)
  rw [List.length_range, List.length_map] at h1
  have := hu.toEch.len
  omega
theorem len_full (t : Tri p pw) {u : List (List Int)} (hu : CanU p pw u) (h : u.length = pw.length) : ∀ f, Sp p pw u f := by
  intro f
  have hall := nodup_all (l2 := List.range pw.length) hu.toEch.nodup (fun d hd => by
    obtain ⟨b, hb, rfl⟩ := List.mem_map.1 hd
    exact List.mem_range.2 (hu.lt b hb)) (by simp [h])
  have hx := nf_el t f
  have hre := redL_el t u hx
  refine (Sp.sub _).cg ((zero_iff t hu hx).1 (dep_all.1 ?_)) (nf_fn t f).symm
  rcases Nat.lt_or_ge (dep (redL p pw u (nf p pw f))) pw.length with hd | hd
  · obtain ⟨b, hb, hbd⟩ := List.mem_map.1 (hall _ (List.mem_range.2 hd))
    have h4 := redL_zero t hu.toEch hx b hb
    rw [hbd] at h4
    exact absurd h4 (dep_nz (by rw [hre.len]; exact hd))
  · have := dep_le (redL p pw u (nf p pw f))
    rw [hre.len] at this ⊢; omega
theorem nil_can (t : Tri p pw) (hp : pr4 p) : CanU p pw [] := by
  have := spanU t hp (G := []) (by simp)
  rwa [span_nil t] at this
end
end Go.Proofs.Ytkmgmjajbiddbaa
namespace Go.Proofs.Ytkmgmjajbiddbaa
theorem nodup_leL : ∀ {l1 l2 : List (List Int)}, l1.Nodup → (∀ x ∈ l1, x ∈ l2) → l1.length ≤ l2.length := by
  intro l1
  induction l1 with
  | nil => intro l2 _ _; simp
  | cons x l1 ih =>
    intro l2 h hs
    obtain ⟨h1, h2⟩ := List.nodup_cons.1 h
    have hx := hs x (by simp)
    have h3 := ih (l2 := l2.erase x) h2 (fun y hy => (List.mem_erase_of_ne (fun e => h1 (by rw [← e]; exact hy))).2 (hs y (by simp [hy])))
    rw [List.length_erase_of_mem hx] at h3
    have := List.length_pos_of_mem hx
    simp only [List.length_cons]; omega
theorem nodup_same {l1 l2 : List (List Int)} (h1 : l1.Nodup) (h2 : l2.Nodup) (h : ∀ x, x ∈ l1 ↔ x ∈ l2) : l1.length = l2.length :=
  Nat.le_antisymm (nodup_leL h1 fun x hx => (h x).1 hx) (nodup_leL h2 fun x hx => (h x).2 hx)
theorem flat_len {l : List (List Int)} {f : List Int → List (List Int)} {k : Nat} (h : ∀ x, (f x).length = k) : (l.flatMap f).length = l.length * k := by
  induction l with
  | nil => simp
  | cons x l ih => rw [List.flatMap_cons, List.length_append, ih, h, List.length_cons, Nat.succ_mul]; omega
section
variable {p : Int} {X : List (List Int)}
theorem sp_van {u : List (List Int)} {s : Nat} (h : ∀ b ∈ u, ∀ j, j < s → b.getD j 0 = 0) {f : Nat → Int} (hf : Sp p X u f) : Van p X s f := hf _ (Van.sub s) (fun b hb => .of (h b hb))
def enL (p : Int) (X : List (List Int)) : List (List Int) → List (List Int)
  | [] => [nf p X (fun _ => 0)]
  | v :: u => (enL p X u).flatMap fun y => (List.range p.toNat).map fun (c : Nat) => nf p X (fun j => 1 * y.getD j 0 + (c : Int) * v.getD j 0)
theorem enL_len : ∀ u : List (List Int), (enL p X u).length = p.toNat ^ u.length := by
  intro u
  induction u with
  | nil => rfl
  | cons v u ih =>
    show ((enL p X u).flatMap _).length = _
    rw [flat_len (k := p.toNat) (fun x => by simp), ih, List.length_cons, Nat.pow_succ]
theorem en_key (t : Tri p X) {v y : List Int} (c : Int) (hv0 : ∀ j, j < dep v → v.getD j 0 = 0) (hv1 : v.getD (dep v) 0 = 1) (hdl : dep v < X.length) (hy0 : ∀ j, j < dep v + 1 → y.getD j 0 = 0) : (nf p X (fun j => 1 * y.getD j 0 + c * v.getD j 0)).getD (dep v) 0 = c % p := by
  rw [(nf_van t (s := dep v) (g := fun j => 1 * y.getD j 0 + c * v.getD j 0) (fun j hj => by rw [hy0 j (by omega), hv0 j hj]; simp)).2 hdl]
  rw [hy0 _ (by omega), hv1]; simp
theorem en_facts (t : Tri p X) : ∀ (u : List (List Int)), Ech p X.length u → (∀ x, El p X.length x → Sp p X u (fn x) → zeros (redL p X u x)) → (∀ x, x ∈ enL p X u ↔ El p X.length x ∧ Sp p X u (fn x)) ∧ (enL p X u).Nodup := by
  intro u
  induction u with
  | nil =>
    intro _ Q
    refine ⟨fun x => ⟨fun h => ?_, fun ⟨hx, hs⟩ => ?_⟩, by simp [enL]⟩
    · rw [List.mem_singleton.1 h]
      exact ⟨nf_el t _, (Sp.sub _).cg (Sp.sub _).zero (nf_fn t _)⟩
    · have hz : zeros x := Q x hx hs
      refine List.mem_singleton.2 (El.uniq t hx (nf_el t _) ?_)
      refine Cg.trans (.of fun j hj => ?_) (nf_fn t (fun _ => 0)).symm
      exact hz j (by rw [hx.len]; exact hj)
  | cons v u ih =>
    intro hE Q
    obtain ⟨hE', hd⟩ := hE.tail
    have hv0 : ∀ j, j < dep v → v.getD j 0 = 0 := fun j hj => dep_zero hj
    have hv1 := hE.one v (by simp)
    have hdl := hE.lt v (by simp)
    have hz : ∀ b ∈ u, ∀ j, j < dep v + 1 → b.getD j 0 = 0 := fun b hb j hj => dep_zero (by have := hd b hb; omega)
    have hsub : ∀ x, El p X.length x → Sp p X u (fn x) → ∀ j, j < dep v + 1 → x.getD j 0 = 0 := fun x hx hs => el_van t hx (sp_van hz hs)
    have hred : ∀ x, redL p X (v :: u) x = redL p X u (stepL p X v x) := fun _ => rfl
    obtain ⟨ihm, ihn⟩ := ih hE' (fun x hx hs => by
      have := Q x hx (hs.mono fun b hb => by simp [hb])
      rwa [hred, stepL_id t hx (hsub x hx hs _ (by omega))] at this)
    have hp := t.p2
    refine ⟨fun x => ⟨fun h => ?_, fun ⟨hx, hs⟩ => ?_⟩, ?_⟩
    · obtain ⟨y, hy, h2⟩ := List.mem_flatMap.1 h
      obtain ⟨c, hc, rfl⟩ := List.mem_map.1 h2
      obtain ⟨hy1, hy2⟩ := (ihm y).1 hy
      exact ⟨nf_el t _, (Sp.sub _).cg ((Sp.sub _).comb 1 (c : Int) (hy2.mono fun b hb => by simp [hb]) (.gen (b := v) (by simp))) (nf_fn t _)⟩
    · obtain ⟨h0, h1⟩ := hx.rng (dep v) hdl
      have hy := stepL_el t v x
      have hzz : zeros (redL p X u (stepL p X v x)) := Q x hx hs
      have h3 := (redL_sp t (d := 0) (u := u) (x := stepL p X v x) (fun b hb => ⟨hE'.lt b hb, hE'.one b hb⟩) hy (fun j hj => by omega)).1
      have h4 : Sp p X u (fn (stepL p X v x)) := (Sp.sub u).cg (h3.mono fun b hb => (mem_deeper.1 hb).1) (.of fun j hj => by
        have := hzz j (by rw [(redL_el t u hy).len]; exact hj)
        simp only [fn]; rw [this]; omega)
      refine List.mem_flatMap.2 ⟨stepL p X v x, (ihm _).2 ⟨hy, h4⟩, List.mem_map.2 ⟨(x.getD (dep v) 0).toNat, List.mem_range.2 (by omega), ?_⟩⟩
      rw [Int.toNat_of_nonneg h0]
      refine El.uniq t (nf_el t _) hx ?_
      refine (nf_fn t _).trans ?_
      refine ((nf_fn t (fun j => 1 * x.getD j 0 + -(x.getD (dep v) 0) * v.getD j 0)).comb 1 (x.getD (dep v) 0) (Cg.refl (fn v))).trans (.of fun j _ => ?_)
      simp only [fn, Int.one_mul, Int.neg_mul]; omega
    · refine List.pairwise_flatMap.2 ⟨fun y hy => ?_, ?_⟩
      · obtain ⟨hy1, hy2⟩ := (ihm y).1 hy
        have hy0 := hsub y hy1 hy2
        refine List.pairwise_map.2 (List.Pairwise.imp_of_mem (fun {a b} ha hb hab e => hab ?_) List.nodup_range)
        have e1 := congrArg (fun l : List Int => l.getD (dep v) 0) e
        rw [en_key t _ hv0 hv1 hdl hy0, en_key t _ hv0 hv1 hdl hy0, Int.emod_eq_of_lt (by omega) (by have := List.mem_range.1 ha; omega), Int.emod_eq_of_lt (by omega) (by have := List.mem_range.1 hb; omega)] at e1
        omega
      · refine List.Pairwise.imp_of_mem (fun {y z} hy hz' hyz => ?_) ihn
        intro a ha b hb e
        obtain ⟨hy1, hy2⟩ := (ihm y).1 hy
        obtain ⟨hz1, hz2⟩ := (ihm z).1 hz'
        obtain ⟨c, hc, rfl⟩ := List.mem_map.1 ha
        obtain ⟨d, hd', rfl⟩ := List.mem_map.1 hb
        have e1 := congrArg (fun l : List Int => l.getD (dep v) 0) e
        rw [en_key t _ hv0 hv1 hdl (hsub y hy1 hy2), en_key t _ hv0 hv1 hdl (hsub z hz1 hz2), Int.emod_eq_of_lt (by omega) (by have := List.mem_range.1 hc; omega), Int.emod_eq_of_lt (by omega) (by have := List.mem_range.1 hd'; omega)] at e1
        rw [e1] at e
        refine hyz (El.uniq t hy1 hz1 ?_)
        have c1 := nf_fn t (fun j => 1 * y.getD j 0 + (d : Int) * v.getD j 0)
        have c2 := nf_fn t (fun j => 1 * z.getD j 0 + (d : Int) * v.getD j 0)
        rw [e] at c1
        have c3 := (c1.symm.trans c2).comb 1 (-(d : Int)) (Cg.refl (fn v))
        exact c3.ext (fun j _ => by simp only [fn, Int.one_mul, Int.neg_mul]; omega) (fun j _ => by simp only [fn, Int.one_mul, Int.neg_mul]; omega)
theorem all_nodup : ∀ n, (allL p n).Nodup := by
  intro n
  induction n with
  | zero => simp [allL]
  | succ n ih =>
    refine List.pairwise_flatMap.2 ⟨fun y hy => ?_, ?_⟩
    · refine List.pairwise_map.2 (List.Pairwise.imp (fun {a b} hab e => hab ?_) List.nodup_range)
      have := List.append_cancel_left e
      have h2 : (a : Int) = b := by simpa using this
      omega
    · refine List.Pairwise.imp (fun {y z} hyz => ?_) ih
      intro a ha b hb e
      obtain ⟨c, hc, rfl⟩ := List.mem_map.1 ha
      obtain ⟨d, hd', rfl⟩ := List.mem_map.1 hb
      have := congrArg List.dropLast e
      rw [List.dropLast_concat, List.dropLast_concat] at this
      exact hyz this
theorem count_sp (t : Tri p X) {u : List (List Int)} (hu : CanU p X u) : (filt (fun x => Sp p X u (fn x)) (allL p X.length)).length = p.toNat ^ u.length := by
  obtain ⟨h1, h2⟩ := en_facts t u hu.toEch (fun x hx hs => (zero_iff t hu hx).2 hs)
  rw [← enL_len (p := p) (X := X) u]
  refine nodup_same (List.Nodup.sublist List.filter_sublist (all_nodup _)) h2 fun x => ?_
  rw [h1, mem_filt, mem_all t.p2]
end
end Go.Proofs.Ytkmgmjajbiddbaa
