import Derived.Test.YtdghgmgppecncaaZ41
set_option linter.unusedVariables false
set_option linter.unusedSimpArgs false
namespace Go.Proofs.Ytdghgmgppecncaa
section
variable {p : Int} {pw : List (List Int)} {br : List (List (List Int))}
theorem el_van (t : Tri p pw) {x : List Int} (hx : El p pw.length x) {s : Nat} (h : Van p pw s (fn x)) : ∀ j, j < s → x.getD j 0 = 0 := by
  obtain ⟨g, hg, hz⟩ := h
  intro j hj
  rcases Nat.lt_or_ge j pw.length with hjn | hjn
  · have h1 : vec pw.length (fn x) = nf p pw g := nf_box t (fun k hk => hx.rng k hk) hg
    have h2 := (nf_van t hz).1 j hj
    rw [← h1, vec_get hjn] at h2
    exact h2
  · rw [List.getD_eq_getElem?_getD, List.getElem?_eq_none (by rw [hx.len]; omega)]; rfl
theorem brk_van (h : shapeP p pw br) {a b : List Int} {s : Nat} (ha : ∀ j, j < s → a.getD j 0 = 0) (hb : ∀ j, j < s → b.getD j 0 = 0 ∨ True) : Van p pw (s + 1) (fn (brkL p pw br a b)) := by
  refine (Van.sub (s + 1)).cg (Van.of (f := fun q => bsum a b br pw.length q) fun q hq => ?_) (nf_fn h.tri _)
  have key : ∀ i, i < pw.length → brow a b (br.getD i []) i (br.getD i []).length q = 0 := by
    intro i hi
    obtain ⟨h1, h2, h3, h4⟩ := h.2.2.2.2 i hi
    have : brow a b (br.getD i []) i (br.getD i []).length q = rsum (br.getD i []).length (fun _ => 0) := rsum_ext fun r hr => by
      by_cases hc : q ≤ i + 1 + r
      · rw [(h4 r hr).2 q hc, Int.mul_zero]
      · have e1 := ha i (by omega)
        have e2 := ha (i + 1 + r) (by omega)
        simp only [brc]
        rw [e1, e2]; simp
    rw [this, rsum_zero]
  have : bsum a b br pw.length q = rsum pw.length (fun _ => 0) := rsum_ext fun i hi => key i hi
  show bsum a b br pw.length q = 0
  rw [this, rsum_zero]
def CanQ (p : Int) (pw u : List (List Int)) : Prop := Ech p pw.length u
noncomputable def lowS (p : Int) (pw : List (List Int)) (br : List (List (List Int))) (u : List (List Int)) : List (List Int) := spanL p pw (brkLL p pw br u (wholeL pw.length))
theorem low_step (h : shapeP p pw br) {u : List (List Int)} {s : Nat} (hu : ∀ b ∈ u, ∀ j, j < s → b.getD j 0 = 0) : ∀ b ∈ lowS p pw br u, ∀ j, j < s + 1 → b.getD j 0 = 0 := by
  intro b hb
  have hc := span_can h.tri h.1 (brkLL_el h.sh (u := u) (v := wholeL pw.length))
  refine el_van h.tri (hc.el b hb) (hc.mem b hb _ (Van.sub (s + 1)) fun c hcm => ?_)
  obtain ⟨x, hx, h1⟩ := List.mem_flatMap.1 hcm
  obtain ⟨y, hy, rfl⟩ := List.mem_map.1 h1
  exact brk_van h (hu x hx) (fun _ _ => .inr trivial)
theorem low_fix (h : shapeP p pw br) {u : List (List Int)} {S : (Nat → Int) → Prop} (hc : Can p pw S u) (hf : lowS p pw br u = u) : u = [] := by
  have hz : ∀ s, ∀ b ∈ u, ∀ j, j < s → b.getD j 0 = 0 := by
    intro s
    induction s with
    | zero => intro b _ j hj; omega
    | succ s ih =>
      have := low_step h ih
      rwa [hf] at this
  cases u with
  | nil => rfl
  | cons b u =>
    have h1 := hz (dep b + 1) b (by simp) (dep b) (by omega)
    rw [hc.one b (by simp)] at h1
    cases h1
theorem span_nil (t : Tri p pw) : spanL p pw [] = [] := by
  refine spanL_eq t (⟨Ech.nil, fun b hb => absurd hb (by simp), fun b hb => absurd hb (by simp), fun x hx hs hd => ?_⟩ : Can p pw (Sp p pw []) [])
  have h1 : Van p pw pw.length (fn x) := hs _ (Van.sub _) (fun b hb => absurd hb (by simp))
  have h2 := el_van t hx h1 _ hd
  exact absurd h2 (dep_nz (by rw [hx.len]; exact hd))
theorem low_nil (t : Tri p pw) : lowS p pw br [] = [] := span_nil t
inductive LowC (p : Int) (pw : List (List Int)) (br : List (List (List Int))) : List (List Int) → List (List (List Int)) → Prop
  | done : LowC p pw br [] [[]]
  | step (u : List (List Int)) (K : List (List (List Int))) (h : u ≠ []) (hc : LowC p pw br (lowS p pw br u) K) : LowC p pw br u (u :: K)
theorem lowC_ex (h : shapeP p pw br) : ∀ (d s : Nat) {u : List (List Int)}, CanQ p pw u → (∀ b ∈ u, ∀ j, j < s → b.getD j 0 = 0) → pw.length - s ≤ d → ∃ K, LowC p pw br u K ∧ K.length ≤ d + 1 := by
  intro d
  induction d with
  | zero =>
    intro s u hu hz hd
    have : u = [] := by
      cases u with
      | nil => rfl
      | cons b u =>
        have h1 := hz b (by simp) (dep b) (by have := Fam.lt (Ech.toFam hu) b (by simp); omega)
        rw [Fam.one (Ech.toFam hu) b (by simp)] at h1
        cases h1
    subst this
    exact ⟨_, .done, by simp⟩
  | succ d ih =>
    intro s u hu hz hd
    by_cases e : u = []
    · subst e; exact ⟨_, .done, by simp⟩
    · have hc := span_can h.tri h.1 (brkLL_el h.sh (u := u) (v := wholeL pw.length))
      obtain ⟨K, h1, h2⟩ := ih (s + 1) (u := lowS p pw br u) (by unfold CanQ; exact hc.toEch) (low_step h hz) (by omega)
      exact ⟨_, .step u K e h1, by simp; omega⟩
end
end Go.Proofs.Ytdghgmgppecncaa
namespace Go.Proofs.Ytdghgmgppecncaa
inductive SerC (F : List (List Int) → List (List Int)) : List (List Int) → List (List (List Int)) → Prop
  | done (u : List (List Int)) (h : F u = u) : SerC F u [u]
  | step (u : List (List Int)) (K : List (List (List Int))) (h : F u ≠ u) (hc : SerC F (F u) K) : SerC F u (u :: K)
theorem SerC.eq {F : List (List Int) → List (List Int)} {u : List (List Int)} {K : List (List (List Int))} (h : SerC F u K) (he : F u = u) : K = [u] := by
  cases h with
  | done => rfl
  | step _ _ h => exact absurd he h
theorem SerC.next {F : List (List Int) → List (List Int)} {u : List (List Int)} {K : List (List (List Int))} (h : SerC F u K) (he : F u ≠ u) : ∃ K', K = u :: K' ∧ SerC F (F u) K' := by
  cases h with
  | done _ h => exact absurd h he
  | step _ K h hc => exact ⟨K, rfl, hc⟩
theorem SerC.pos {F : List (List Int) → List (List Int)} {u : List (List Int)} {K : List (List (List Int))} (h : SerC F u K) : 0 < K.length := by
  cases h <;> simp
theorem LowC.ser {p : Int} {pw : List (List Int)} {br : List (List (List Int))} (t : Tri p pw) (hp : pr4 p) (hs : shapeP p pw br) {u : List (List Int)} {K : List (List (List Int))} (h : LowC p pw br u K) : CanU p pw u → SerC (lowS p pw br) u K := by
  induction h with
  | done => intro _; exact .done _ (low_nil t)
  | step u K h hc ih =>
    intro hu
    exact .step _ _ (fun e => h (low_fix hs hu e)) (ih (spanU t hp (brkLL_el hs.sh)))
def allL (p : Int) : Nat → List (List Int)
  | 0 => [[]]
  | n + 1 => (allL p n).flatMap fun x => (List.range p.toNat).map fun (k : Nat) => x ++ [(k : Int)]
def atL (p : Int) : Nat → Int → List Int
  | 0, _ => []
  | n + 1, k => atL p n (k / p) ++ [k % p]
theorem app_get1 {n : Nat} {y : List Int} {c : Int} (hy : y.length = n) {j : Nat} : (y ++ [c]).getD j 0 = if j < n then y.getD j 0 else if j = n then c else 0 := by
  subst hy
  rw [List.getD_eq_getElem?_getD, List.getD_eq_getElem?_getD, List.getElem?_append]
  split
  · rfl
  · split
    · rename_i h1 h2; subst h2; simp
    · rename_i h1 h2; rw [List.getElem?_eq_none (by simp; omega)]; rfl
theorem el_snoc {p : Int} {n : Nat} {y : List Int} {c : Int} (hy : El p n y) (h0 : 0 ≤ c) (h1 : c < p) : El p (n + 1) (y ++ [c]) :=
  ⟨by rw [List.length_append, hy.len]; rfl, fun j hj => by
    rw [app_get1 hy.len]
    split
    · exact hy.rng j (by omega)
    · rw [if_pos (by omega)]; exact ⟨h0, by omega⟩⟩
theorem el_split {p : Int} {n : Nat} {x : List Int} (hx : El p (n + 1) x) : ∃ y c, x = y ++ [c] ∧ El p n y ∧ 0 ≤ c ∧ c < p := by
  have hl := hx.len
  have hne : x ≠ [] := fun e => by rw [e] at hl; cases hl
  have he := List.dropLast_concat_getLast hne
  obtain ⟨y, hy⟩ : ∃ y, x.dropLast = y := ⟨_, rfl⟩
  obtain ⟨c, hc⟩ : ∃ c, x.getLast hne = c := ⟨_, rfl⟩
  rw [hy, hc] at he
  subst he
  have hyl : y.length = n := by simpa using hl
  refine ⟨y, c, rfl, ⟨hyl, fun j hj => ?_⟩, ?_⟩
  · have := hx.rng j (by omega)
    rw [app_get1 hyl, if_pos (by omega)] at this
    exact this
  · have := hx.rng n (by omega)
    rw [app_get1 hyl, if_neg (by omega), if_pos rfl] at this
    exact ⟨this.1, by omega⟩
theorem el_zero {p : Int} {x : List Int} (hx : El p 0 x) : x = [] := List.length_eq_zero_iff.1 hx.len
theorem mem_all {p : Int} (hp : 2 ≤ p) : ∀ {n : Nat} {x : List Int}, x ∈ allL p n ↔ El p n x := by
  intro n
  induction n with
  | zero => exact fun {x} => ⟨fun h => by simp only [allL, List.mem_singleton] at h; subst h; exact ⟨rfl, fun j hj => by omega⟩, fun h => by rw [el_zero h]; simp [allL]⟩
  | succ n ih =>
    intro x
    simp only [allL, List.mem_flatMap, List.mem_map, List.mem_range]
    constructor
    · rintro ⟨y, hy, k, hk, rfl⟩
      exact el_snoc (ih.1 hy) (by omega) (by omega)
    · intro h
      obtain ⟨y, c, rfl, h1, h2, h3⟩ := el_split h
      exact ⟨y, ih.2 h1, c.toNat, by omega, by rw [Int.toNat_of_nonneg h2]⟩
theorem at_el {p : Int} (hp : 2 ≤ p) : ∀ {n : Nat} {k : Int}, El p n (atL p n k) := by
  intro n
  induction n with
  | zero => intro k; exact ⟨rfl, fun j hj => by omega⟩
  | succ n ih => intro k; exact el_snoc ih (Int.emod_nonneg _ (by omega)) (Int.emod_lt_of_pos _ (by omega))
theorem at_all {p : Int} (hp : 2 ≤ p) : ∀ {n : Nat} {x : List Int}, El p n x → ∃ k : Int, 0 ≤ k ∧ k < p ^ n ∧ atL p n k = x := by
  intro n
  induction n with
  | zero => intro x hx; exact ⟨0, by omega, by simp, (el_zero hx).symm⟩
  | succ n ih =>
    intro x hx
    obtain ⟨y, c, rfl, h1, h2, h3⟩ := el_split hx
    obtain ⟨k, k0, k1, rfl⟩ := ih h1
    have e1 : (k * p + c) / p = k := by
      rw [Int.add_comm, Int.add_mul_ediv_right _ _ (by omega), Int.ediv_eq_zero_of_lt h2 h3]; omega
    have e2 : (k * p + c) % p = c := by
      rw [Int.add_comm, Int.add_mul_emod_self_right, Int.emod_eq_of_lt h2 h3]
    refine ⟨k * p + c, ?_, ?_, ?_⟩
    · have := Int.mul_nonneg k0 (show 0 ≤ p by omega); omega
    · have h5 : (k + 1) * p ≤ p ^ n * p := Int.mul_le_mul_of_nonneg_right (by omega) (by omega)
      rw [Int.pow_succ]
      rw [Int.add_mul] at h5
      omega
    · simp only [atL]; rw [e1, e2]
open Classical in
noncomputable def filt (P : List Int → Prop) (L : List (List Int)) : List (List Int) := L.filter fun x => decide (P x)
theorem mem_filt {P : List Int → Prop} {L : List (List Int)} {x : List Int} : x ∈ filt P L ↔ x ∈ L ∧ P x := by simp [filt]
noncomputable def withL (p : Int) (pw : List (List Int)) (P : List Int → Prop) : List (List Int) := spanL p pw (filt P (allL p pw.length))
def firstL (p : Int) (n k : Nat) : List (List Int) := (List.range k).map fun (j : Nat) => atL p n (j : Int)
noncomputable def upTo (p : Int) (pw : List (List Int)) (P : List Int → Prop) (k : Nat) : List (List Int) := spanL p pw (filt P (firstL p pw.length k))
section
variable {p : Int} {pw : List (List Int)}
theorem first_s {n k : Nat} : firstL p n (k + 1) = firstL p n k ++ [atL p n k] := by
  unfold firstL; rw [List.range_succ, List.map_append]; rfl
theorem filt_yes {P : List Int → Prop} {L : List (List Int)} {x : List Int} (h : P x) : filt P (L ++ [x]) = filt P L ++ [x] := by simp [filt, h]
theorem filt_no {P : List Int → Prop} {L : List (List Int)} {x : List Int} (h : ¬ P x) : filt P (L ++ [x]) = filt P L := by simp [filt, h]
theorem filt_el (hp : 2 ≤ p) {P : List Int → Prop} {n k : Nat} : ∀ b ∈ filt P (firstL p n k), El p n b := by
  intro b hb
  obtain ⟨j, _, rfl⟩ := List.mem_map.1 (mem_filt.1 hb).1
  exact at_el hp
theorem filta_el (hp : 2 ≤ p) {P : List Int → Prop} {n : Nat} : ∀ b ∈ filt P (allL p n), El p n b := fun b hb => (mem_all hp).1 (mem_filt.1 hb).1
theorem upTo_z (t : Tri p pw) {P : List Int → Prop} : upTo p pw P 0 = [] := by
  have : filt P (firstL p pw.length 0) = [] := by simp [filt, firstL]
  unfold upTo; rw [this]; exact span_nil t
theorem upTo_can (t : Tri p pw) (hp : pr4 p) {P : List Int → Prop} {k : Nat} : CanU p pw (upTo p pw P k) := spanU t hp (filt_el t.p2)
theorem upTo_no {P : List Int → Prop} {k : Nat} (h : ¬ P (atL p pw.length k)) : upTo p pw P (k + 1) = upTo p pw P k := by
  unfold upTo; rw [first_s, filt_no h]
theorem upTo_in (t : Tri p pw) (hp : pr4 p) {P : List Int → Prop} {k : Nat} (h : zeros (redL p pw (upTo p pw P k) (atL p pw.length k))) : upTo p pw P (k + 1) = upTo p pw P k := by
  by_cases hP : P (atL p pw.length k)
  · have h1 := (zero_iff t (upTo_can t hp) (at_el t.p2)).1 h
    unfold upTo at h1 ⊢
    rw [span_sp t hp (filt_el t.p2)] at h1
    rw [first_s, filt_yes hP]
    refine spanL_sp t hp (app_el (filt_el t.p2) fun b hb => ?_) (filt_el t.p2) (Sp.eqv (fun b hb => ?_) (fun b hb => .gen (by simp [hb])))
    · rw [List.mem_singleton.1 hb]; exact at_el t.p2
    · rcases List.mem_append.1 hb with hb | hb
      · exact .gen hb
      · rw [List.mem_singleton.1 hb]; exact h1
  · exact upTo_no hP
theorem upTo_yes (t : Tri p pw) (hp : pr4 p) {P : List Int → Prop} {k : Nat} (h : P (atL p pw.length k)) : upTo p pw P (k + 1) = spanL p pw (upTo p pw P k ++ [atL p pw.length k]) := by
  have ha : ∀ b ∈ [atL p pw.length k], El p pw.length b := fun b hb => by rw [List.mem_singleton.1 hb]; exact at_el t.p2
  have hs := span_sp t hp (filt_el (P := P) (k := k) (n := pw.length) t.p2)
  unfold upTo
  rw [first_s, filt_yes h]
  refine spanL_sp t hp (app_el (filt_el t.p2) ha) (app_el (span_can t hp (filt_el t.p2)).el ha) (Sp.eqv (fun b hb => ?_) (fun b hb => ?_))
  · rcases List.mem_append.1 hb with hb | hb
    · have : Sp p pw (spanL p pw (filt P (firstL p pw.length k))) (fn b) := by rw [hs]; exact .gen hb
      exact this.mono fun c hc => by simp [hc]
    · exact .gen (by simp [hb])
  · rcases List.mem_append.1 hb with hb | hb
    · have : Sp p pw (filt P (firstL p pw.length k)) (fn b) := by rw [← hs]; exact .gen hb
      exact this.mono fun c hc => by simp [hc]
    · exact .gen (by simp [hb])
theorem upTo_all (t : Tri p pw) (hp : pr4 p) {P : List Int → Prop} {k : Nat} (hk : p ^ pw.length ≤ (k : Int)) : upTo p pw P k = withL p pw P := by
  refine spanL_sp t hp (filt_el t.p2) (filta_el t.p2) (Sp.eqv (fun b hb => .gen (mem_filt.2 ⟨(mem_all t.p2).2 (filt_el t.p2 b hb), (mem_filt.1 hb).2⟩)) (fun b hb => ?_))
  obtain ⟨j, j0, j1, j2⟩ := at_all t.p2 (filta_el t.p2 b hb)
  refine .gen (mem_filt.2 ⟨List.mem_map.2 ⟨j.toNat, List.mem_range.2 (by omega), ?_⟩, (mem_filt.1 hb).2⟩)
  rw [Int.toNat_of_nonneg j0]; exact j2
theorem with_can (t : Tri p pw) (hp : pr4 p) {P : List Int → Prop} : CanU p pw (withL p pw P) := spanU t hp (filta_el t.p2)
theorem with_sp (t : Tri p pw) (hp : pr4 p) {P : List Int → Prop} {x : List Int} (hx : El p pw.length x) (h : P x) : Sp p pw (withL p pw P) (fn x) := by
  unfold withL
  rw [span_sp t hp (filta_el t.p2)]
  exact .gen (mem_filt.2 ⟨(mem_all t.p2).2 hx, h⟩)
end
def AbvP (p : Int) (pw : List (List Int)) (br : List (List (List Int))) (u v : List (List Int)) (x : List Int) : Prop := within p pw u (brkLL p pw br [x] v)
noncomputable def aboveL (p : Int) (pw : List (List Int)) (br : List (List (List Int))) (u v : List (List Int)) : List (List Int) := withL p pw (AbvP p pw br u v)
noncomputable def upS (p : Int) (pw : List (List Int)) (br : List (List (List Int))) (u : List (List Int)) : List (List Int) := aboveL p pw br u (wholeL pw.length)
section
variable {p : Int} {pw : List (List Int)} {br : List (List (List Int))}
theorem brk_one {x : List Int} {v : List (List Int)} : brkLL p pw br [x] v = v.map (brkL p pw br x) := by simp [brkLL]
theorem abv_iff {u v : List (List Int)} {x : List Int} : AbvP p pw br u v x ↔ ∀ i, i < v.length → zeros (redL p pw u (brkL p pw br x (v.getD i []))) := by
  unfold AbvP within
  rw [brk_one, List.length_map]
  constructor
  · intro h i hi
    have := h i hi
    simpa [hi] using this
  · intro h i hi
    have := h i hi
    simpa [hi] using this
theorem van_el (t : Tri p pw) {s : Nat} {f : Nat → Int} (h : Van p pw s f) : ∃ x, El p pw.length x ∧ Cg p pw (fn x) f ∧ ∀ j, j < s → x.getD j 0 = 0 := by
  obtain ⟨g, hg, hz⟩ := h
  exact ⟨nf p pw g, nf_el t g, (nf_fn t g).trans hg.symm, (nf_van t hz).1⟩
theorem up_van (h : shapeP p pw br) {u : List (List Int)} (hu : CanU p pw u) {s : Nat} (hs : ∀ f, Van p pw (s + 1) f → Sp p pw u f) : ∀ f, Van p pw s f → Sp p pw (upS p pw br u) f := by
  intro f hf
  obtain ⟨x, h1, h2, h3⟩ := van_el h.tri hf
  refine (Sp.sub _).cg (with_sp h.tri h.1 h1 (abv_iff.2 fun i hi => ?_)) h2.symm
  exact (zero_iff h.tri hu (brk_el h.sh _ _)).2 (hs _ (brk_van h h3 (fun _ _ => .inr trivial)))
theorem van_n {u : List (List Int)} : ∀ f, Van p pw pw.length f → Sp p pw u f := fun f hf => (Sp.sub _).cg (Sp.sub _).zero (Van.all hf)
theorem full_len (t : Tri p pw) (hp : pr4 p) {u : List (List Int)} (hu : CanU p pw u) (h : ∀ f, Sp p pw u f) : u.length = pw.length := by
  have h1 := nodup_le (l1 := List.range pw.length) (l2 := u.map dep) List.nodup_range (fun d hd => by
    have hd' := List.mem_range.1 hd
    have hx := wunit_el (p := p) t.p2 (n := pw.length) (k := d)
    have hdep : dep (unitL pw.length d) = d := dep_eq (by rw [hx.len]; omega) (fun j hj => by rw [unitL, vec_get (by omega), if_neg (by omega)]) (fun _ => by rw [unitL, vec_get (by omega), if_pos rfl]; omega)
    obtain ⟨b, hb, hbd⟩ := hu.all _ hx (h _) (by rw [hdep]; exact hd')
    exact List.mem_map.2 ⟨b, hb, by rw [hbd, hdep]⟩)
  rw [List.length_range, List.length_map] at h1
  have := hu.toEch.len
  omega
theorem len_full (t : Tri p pw) {u : List (List Int)} (hu : CanU p pw u) (h : u.length = pw.length) : ∀ f, Sp p pw u f := by
  intro f
  have hall := nodup_all (l2 := List.range pw.length) hu.toEch.nodup (fun d hd => by
    obtain ⟨b, hb, rfl⟩ := List.mem_map.1 hd
    exact List.mem_range.2 (hu.lt b hb)) (by simp [h])
  have hx := nf_el t f
  have hre := redL_el t u hx
  refine (Sp.sub _).cg ((zero_iff t hu hx).1 (dep_all.1 ?_)) (nf_fn t f).symm
  rcases Nat.lt_or_ge (dep (redL p pw u (nf p pw f))) pw.length with hd | hd
  · obtain ⟨b, hb, hbd⟩ := List.mem_map.1 (hall _ (List.mem_range.2 hd))
    have h4 := redL_zero t hu.toEch hx b hb
    rw [hbd] at h4
    exact absurd h4 (dep_nz (by rw [hre.len]; exact hd))
  · have := dep_le (redL p pw u (nf p pw f))
    rw [hre.len] at this ⊢; omega
theorem up_fix (h : shapeP p pw br) {u : List (List Int)} (hu : CanU p pw u) (hf : upS p pw br u = u) : u.length = pw.length := by
  refine full_len h.tri h.1 hu fun f => ?_
  have go : ∀ d s, d + s = pw.length → ∀ f, Van p pw s f → Sp p pw u f := by
    intro d
    induction d with
    | zero => intro s hs; obtain rfl : s = pw.length := by omega
              exact van_n
    | succ d ih => intro s hs f hf'; rw [← hf]; exact up_van h hu (ih (s + 1) (by omega)) f hf'
  exact go pw.length 0 (by omega) f (Van.of fun j hj => by omega)
theorem up_can (t : Tri p pw) (hp : pr4 p) {u : List (List Int)} : CanU p pw (upS p pw br u) := with_can t hp
theorem up_full (h : shapeP p pw br) {u : List (List Int)} (hu : CanU p pw u) (hl : u.length = pw.length) : upS p pw br u = u := by
  have hf := len_full h.tri hu hl
  have hw : ∀ f, Sp p pw (upS p pw br u) f := fun f => up_van h hu (s := 0) (fun g _ => hf g) f (Van.of fun j hj => by omega)
  have h1 : Can p pw (Sp p pw u) (upS p pw br u) := by
    have h2 : Can p pw (Sp p pw (upS p pw br u)) (upS p pw br u) := up_can h.tri h.1
    have e : Sp p pw u = Sp p pw (upS p pw br u) := funext fun f => propext ⟨fun _ => hw f, fun _ => hf f⟩
    rw [e]; exact h2
  exact can_uniq h.tri (Sp.sub _) h1 hu
theorem up_ex (h : shapeP p pw br) : ∀ (s : Nat) {u : List (List Int)}, CanU p pw u → (∀ f, Van p pw s f → Sp p pw u f) → ∃ K, SerC (upS p pw br) u K ∧ K.length ≤ s + 1 := by
  intro s
  induction s with
  | zero =>
    intro u hu hs
    have hl := full_len h.tri h.1 hu fun f => hs f (Van.of fun j hj => by omega)
    exact ⟨_, .done u (up_full h hu hl), by simp⟩
  | succ s ih =>
    intro u hu hs
    by_cases e : upS p pw br u = u
    · exact ⟨_, .done u e, by simp⟩
    · obtain ⟨K, h1, h2⟩ := ih (up_can h.tri h.1) (up_van h hu hs)
      exact ⟨_, .step u K e h1, by simp; omega⟩
theorem nil_can (t : Tri p pw) (hp : pr4 p) : CanU p pw [] := by
  have := spanU t hp (G := []) (by simp)
  rwa [span_nil t] at this
end
end Go.Proofs.Ytdghgmgppecncaa
