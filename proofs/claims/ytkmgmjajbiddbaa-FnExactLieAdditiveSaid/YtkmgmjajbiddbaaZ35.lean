import Derived.Test.YtkmgmjajbiddbaaZ34
set_option linter.unusedVariables false
set_option linter.unusedSimpArgs false
namespace Go.Proofs.Ytkmgmjajbiddbaa
section
variable {p : Int} {pw : List (List Int)} {br : List (List (List Int))}
theorem el_van (t : Tri p pw) {x : List Int} (hx : El p pw.length x) {s : Nat} (h : Van p pw s (fn x)) : ∀ j, j < s → x.getD j 0 = 0 := by
  obtain ⟨g, hg, hz⟩ := h
  intro j hj
  rcases Nat.lt_or_ge j pw.length with hjn | hjn
  · have h1 : vec pw.length (fn x) = nf p pw g := nf_box t (fun k hk => hx.rng k hk) hg
    have h2 := (nf_van t hz).1 j hj
    rw [← h1, vec_get hjn] at h2
    exact h2
  · rw [List.getD_eq_getElem?_getD, List.getElem?_eq_none (by rw [hx.len]; omega)]; rfl
theorem span_nil (t : Tri p pw) : spanL p pw [] = [] := by
  refine spanL_eq t (⟨Ech.nil, fun b hb => absurd hb (by simp), fun b hb => absurd hb (by simp), fun x hx hs hd => ?_⟩ : Can p pw (Sp p pw []) [])
  have h1 : Van p pw pw.length (fn x) := hs _ (Van.sub _) (fun b hb => absurd hb (by simp))
  have h2 := el_van t hx h1 _ hd
  exact absurd h2 (dep_nz (by rw [hx.len]; exact hd))
end
end Go.Proofs.Ytkmgmjajbiddbaa
namespace Go.Proofs.Ytkmgmjajbiddbaa
inductive SerC (F : List (List Int) → List (List Int)) : List (List Int) → List (List (List Int)) → Prop
  | done (u : List (List Int)) (h : F u = u) : SerC F u [u]
  | step (u : List (List Int)) (K : List (List (List Int))) (h : F u ≠ u) (hc : SerC F (F u) K) : SerC F u (u :: K)
theorem SerC.eq {F : List (List Int) → List (List Int)} {u : List (List Int)} {K : List (List (List Int))} (h : SerC F u K) (he : F u = u) : K = [u] := by
  cases h with
  | done => rfl
  | step _ _ h => exact absurd he h
theorem SerC.next {F : List (List Int) → List (List Int)} {u : List (List Int)} {K : List (List (List Int))} (h : SerC F u K) (he : F u ≠ u) : ∃ K', K = u :: K' ∧ SerC F (F u) K' := by
  cases h with
  | done _ h => exact absurd h he
  | step _ K h hc => exact ⟨K, rfl, hc⟩
theorem SerC.pos {F : List (List Int) → List (List Int)} {u : List (List Int)} {K : List (List (List Int))} (h : SerC F u K) : 0 < K.length := by
  cases h <;> simp
def allL (p : Int) : Nat → List (List Int)
  | 0 => [[]]
  | n + 1 => (allL p n).flatMap fun x => (List.range p.toNat).map fun (k : Nat) => x ++ [(k : Int)]
def atL (p : Int) : Nat → Int → List Int
  | 0, _ => []
  | n + 1, k => atL p n (k / p) ++ [k % p]
theorem app_get1 {n : Nat} {y : List Int} {c : Int} (hy : y.length = n) {j : Nat} : (y ++ [c]).getD j 0 = if j < n then y.getD j 0 else if j = n then c else 0 := by
  subst hy
  rw [List.getD_eq_getElem?_getD, List.getD_eq_getElem?_getD, List.getElem?_append]
  split
  · rfl
  · split
    · rename_i h1 h2; subst h2; simp
    · rename_i h1 h2; rw [List.getElem?_eq_none (by simp; omega)]; rfl
theorem el_snoc {p : Int} {n : Nat} {y : List Int} {c : Int} (hy : El p n y) (h0 : 0 ≤ c) (h1 : c < p) : El p (n + 1) (y ++ [c]) :=
  ⟨by rw [List.length_append, hy.len]; rfl, fun j hj => by
    rw [app_get1 hy.len]
    split
    · exact hy.rng j (by omega)
    · rw [if_pos (by omega)]; exact ⟨h0, by omega⟩⟩
theorem el_split {p : Int} {n : Nat} {x : List Int} (hx : El p (n + 1) x) : ∃ y c, x = y ++ [c] ∧ El p n y ∧ 0 ≤ c ∧ c < p := by
  have hl := hx.len
  have hne : x ≠ [] := fun e => by rw [e] at hl; cases hl
  have he := List.dropLast_concat_getLast hne
  obtain ⟨y, hy⟩ : ∃ y, x.dropLast = y := ⟨_, rfl⟩
  obtain ⟨c, hc⟩ : ∃ c, x.getLast hne = c := ⟨_, rfl⟩
  rw [hy, hc] at he
  subst he
  have hyl : y.length = n := by simpa using hl
  refine ⟨y, c, rfl, ⟨hyl, fun j hj => ?_⟩, ?_⟩
  · have := hx.rng j (by omega)
    rw [app_get1 hyl, if_pos (by omega)] at this
    exact this
  · have := hx.rng n (by omega)
    rw [app_get1 hyl, if_neg (by omega), if_pos rfl] at this
    exact ⟨this.1, by omega⟩
theorem el_zero {p : Int} {x : List Int} (hx : El p 0 x) : x = [] := List.length_eq_zero_iff.1 hx.len
theorem mem_all {p : Int} (hp : 2 ≤ p) : ∀ {n : Nat} {x : List Int}, x ∈ allL p n ↔ El p n x := by
  intro n
  induction n with
  | zero => exact fun {x} => ⟨fun h => by simp only [allL, List.mem_singleton] at h; subst h; exact ⟨rfl, fun j hj => by omega⟩, fun h => by rw [el_zero h]; simp [allL]⟩
  | succ n ih =>
    intro x
    simp only [allL, List.mem_flatMap, List.mem_map, List.mem_range]
    constructor
    · rintro ⟨y, hy, k, hk, rfl⟩
      exact el_snoc (ih.1 hy) (by omega) (by omega)
    · intro h
      obtain ⟨y, c, rfl, h1, h2, h3⟩ := el_split h
      exact ⟨y, ih.2 h1, c.toNat, by omega, by rw [Int.toNat_of_nonneg h2]⟩
theorem at_el {p : Int} (hp : 2 ≤ p) : ∀ {n : Nat} {k : Int}, El p n (atL p n k) := by
  intro n
  induction n with
  | zero => intro k; exact ⟨rfl, fun j hj => by omega⟩
  | succ n ih => intro k; exact el_snoc ih (Int.emod_nonneg _ (by omega)) (Int.emod_lt_of_pos _ (by omega))
theorem at_all {p : Int} (hp : 2 ≤ p) : ∀ {n : Nat} {x : List Int}, El p n x → ∃ k : Int, 0 ≤ k ∧ k < p ^ n ∧ atL p n k = x := by
  intro n
  induction n with
  | zero => intro x hx; exact ⟨0, by omega, by simp, (el_zero hx).symm⟩
  | succ n ih =>
    intro x hx
    obtain ⟨y, c, rfl, h1, h2, h3⟩ := el_split hx
    obtain ⟨k, k0, k1, rfl⟩ := ih h1
    have e1 : (k * p + c) / p = k := by
      rw [Int.add_comm, Int.add_mul_ediv_right _ _ (by omega), Int.ediv_eq_zero_of_lt h2 h3]; omega
    have e2 : (k * p + c) % p = c := by
      rw [Int.add_comm, Int.add_mul_emod_self_right, Int.emod_eq_of_lt h2 h3]
    refine ⟨k * p + c, ?_, ?_, ?_⟩
    · have := Int.mul_nonneg k0 (show 0 ≤ p by omega); omega
    · have h5 : (k + 1) * p ≤ p ^ n * p := Int.mul_le_mul_of_nonneg_right (by omega) (by omega)
      rw [Int.pow_succ]
      rw [Int.add_mul] at h5
      omega
    · simp only [atL]; rw [e1, e2]
open Classical in
noncomputable def filt (P : List Int → Prop) (L : List (List Int)) : List (List Int) := L.filter fun x => decide (P x)
theorem mem_filt {P : List Int → Prop} {L : List (List Int)} {x : List Int} : x ∈ filt P L ↔ x ∈ L ∧ P x := by simp [filt]
noncomputable def withL (p : Int) (pw : List (List Int)) (P : List Int → Prop) : List (List Int) := spanL p pw (filt P (allL p pw.length))
def firstL (p : Int) (n k : Nat) : List (List Int) := (List.range k).map fun (j : Nat) => atL p n (j : Int)
section
variable {p : Int} {pw : List (List Int)}
theorem first_s {n k : Nat} : firstL p n (k + 1) = firstL p n k ++ [atL p n k] := by
  unfold firstL; rw [List.range_succ, List.map_append]; rfl
theorem filt_yes {P : List Int → Prop} {L : List (List Int)} {x : List Int} (h : P x) : filt P (L ++ [x]) = filt P L ++ [x] := by simp [filt, h]
theorem filt_no {P : List Int → Prop} {L : List (List Int)} {x : List Int} (h : ¬ P x) : filt P (L ++ [x]) = filt P L := by simp [filt, h]
theorem filta_el (hp : 2 ≤ p) {P : List Int → Prop} {n : Nat} : ∀ b ∈ filt P (allL p n), El p n b := fun b hb => (mem_all hp).1 (mem_filt.1 hb).1
theorem with_can (t : Tri p pw) (hp : pr4 p) {P : List Int → Prop} : CanU p pw (withL p pw P) := spanU t hp (filta_el t.p2)
theorem with_sp (t : Tri p pw) (hp : pr4 p) {P : List Int → Prop} {x : List Int} (hx : El p pw.length x) (h : P x) : Sp p pw (withL p pw P) (fn x) := by
  unfold withL
  rw [span_sp t hp (filta_el t.p2)]
  exact .gen (mem_filt.2 ⟨(mem_all t.p2).2 hx, h⟩)
end
def AbvP (p : Int) (pw : List (List Int)) (br : List (List (List Int))) (u v : List (List Int)) (x : List Int) : Prop := within p pw u (brkLL p pw br [x] v)
section
variable {p : Int} {pw : List (List Int)} {br : List (List (List Int))}
theorem brk_one {x : List Int} {v : List (List Int)} : brkLL p pw br [x] v = v.map (brkL p pw br x) := by simp [brkLL]
theorem abv_iff {u v : List (List Int)} {x : List Int} : AbvP p pw br u v x ↔ ∀ i, i < v.length → zeros (redL p pw u (brkL p pw br x (v.getD i []))) := by
  unfold AbvP within
  rw [brk_one, List.length_map]
  constructor
  · intro h i hi
    have := h i hi
    simpa [hi] using this
  · intro h i hi
    have := h i hi
    simpa [hi] using this
theorem full_len (t : Tri p pw) (hp : pr4 p) {u : List (List Int)} (hu : CanU p pw u) (h : ∀ f, Sp p pw u f) : u.length = pw.length := by
  have h1 := nodup_le (l1 := List.range pw.length) (l2 := u.map dep) List.nodup_range (fun d hd => by
    have hd' := List.mem_range.1 hd
    have hx := wunit_el (p := p) t.p2 (n := pw.length) (k := d)
    have hdep : dep (unitL pw.length d) = d := dep_eq (by rw [hx.len]; omega) (fun j hj => by rw [unitL, vec_get (by omega), if_neg (by omega)]) (fun _ => by rw [unitL, vec_get (by omega), if_pos rfl]; omega)
    obtain ⟨b, hb, hbd⟩ := hu.all _ hx (h _) (by rw [hdep]; exact hd')
    exact List.mem_map.2 ⟨b, hb, by rw [hbd, hdep]⟩)
  rw [List.length_range, List.length_map] at h1
  have := hu.toEch.len
  omega
theorem nil_can (t : Tri p pw) (hp : pr4 p) : CanU p pw [] := by
  have := spanU t hp (G := []) (by simp)
  rwa [span_nil t] at this
end
end Go.Proofs.Ytkmgmjajbiddbaa
