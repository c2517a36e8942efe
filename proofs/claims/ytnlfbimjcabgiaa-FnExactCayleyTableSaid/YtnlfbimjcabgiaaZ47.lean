import Derived.Test.YtnlfbimjcabgiaaZ46
set_option linter.unusedVariables false
set_option linter.unusedSimpArgs false
namespace Go.Proofs.Ytnlfbimjcabgiaa
def nmV (os : List Int) (x : V) : Nat → Int
  | 0 => 0
  | k + 1 => nmV os x k * os.getD k 0 + x k
section
variable {os : List Int} {pw : List (List Int)} {cj : List (List (List Int))} (hp : ∀ i, i < os.length → pr4 (os.getD i 0))
include hp
theorem nmV_bd {x : V} (hx : T (pc os pw cj) 0 x) : ∀ k, k ≤ os.length → 0 ≤ nmV os x k ∧ nmV os x k < prd os k := by
  intro k
  induction k with
  | zero => intro _; exact ⟨Int.le_refl _, by simp [nmV, prd]⟩
  | succ k ih =>
    intro hk
    obtain ⟨i1, i2⟩ := ih (by omega)
    have ho := pr4_bd (hp k (by omega))
    have hr := hx.r k (Nat.zero_le k) (show k < os.length by omega)
    have hoe : (pc os pw cj).o k = os.getD k 0 := rfl
    rw [hoe] at hr
    have h1 : 0 ≤ nmV os x k * os.getD k 0 := Int.mul_nonneg i1 (by omega)
    have h2 : (nmV os x k + 1) * os.getD k 0 ≤ prd os k * os.getD k 0 := Int.mul_le_mul_of_nonneg_right (by omega) (by omega)
    rw [Int.add_mul, Int.one_mul] at h2
    rw [nmV, prd]
    omega
theorem nmV_inj {x y : V} (hx : T (pc os pw cj) 0 x) (hy : T (pc os pw cj) 0 y) : ∀ k, k ≤ os.length → nmV os x k = nmV os y k → ∀ j, j < k → x j = y j := by
  intro k
  induction k with
  | zero => intro _ _ j hj; omega
  | succ k ih =>
    intro hk he j hj
    have ho := pr4_bd (hp k (by omega))
    have h1 := hx.r k (Nat.zero_le k) (show k < os.length by omega)
    have h2 := hy.r k (Nat.zero_le k) (show k < os.length by omega)
    have hoe : (pc os pw cj).o k = os.getD k 0 := rfl
    rw [hoe] at h1 h2
    rw [nmV, nmV] at he
    have key : nmV os x k = nmV os y k := by
      rcases Int.lt_trichotomy (nmV os x k) (nmV os y k) with q | q | q
      · have h3 : (nmV os x k + 1) * os.getD k 0 ≤ nmV os y k * os.getD k 0 := Int.mul_le_mul_of_nonneg_right (by omega) (by omega)
        rw [Int.add_mul, Int.one_mul] at h3
        omega
      · exact q
      · have h3 : (nmV os y k + 1) * os.getD k 0 ≤ nmV os x k * os.getD k 0 := Int.mul_le_mul_of_nonneg_right (by omega) (by omega)
        rw [Int.add_mul, Int.one_mul] at h3
        omega
    rw [key] at he
    rcases Nat.lt_or_ge j k with q | q
    · exact ih (by omega) key j q
    · obtain rfl : j = k := by omega
      omega
theorem nmV_eq {x y : V} (hx : T (pc os pw cj) 0 x) (hy : T (pc os pw cj) 0 y) (h : nmV os x os.length = nmV os y os.length) : x = y := by
  funext k
  rcases Nat.lt_or_ge k os.length with q | q
  · exact nmV_inj hp hx hy os.length (Nat.le_refl _) h k q
  · rw [hx.t k q, hy.t k q]
end
noncomputable def fsI : List V → V → Nat
  | [], _ => 0
  | p :: ps, y => if tf (p = y) = true then 0 else fsI ps y + 1
theorem fsI_sp {y : V} : ∀ pts : List V, fsI pts y ≤ pts.length ∧ (∀ j, j < fsI pts y → pts.getD j z0 ≠ y) ∧ (fsI pts y < pts.length → pts.getD (fsI pts y) z0 = y) := by
  intro pts
  induction pts with
  | nil => exact ⟨Nat.le_refl _, fun j hj => by simp [fsI] at hj, fun h => by simp [fsI] at h⟩
  | cons p ps ih =>
    obtain ⟨i1, i2, i3⟩ := ih
    by_cases h : p = y
    · have e : fsI (p :: ps) y = 0 := by rw [fsI, tf_t h, if_pos rfl]
      rw [e]
      exact ⟨Nat.zero_le _, fun j hj => by omega, fun _ => h⟩
    · have e : fsI (p :: ps) y = fsI ps y + 1 := by rw [fsI, tf_f h, if_neg (by simp)]
      rw [e, List.length_cons]
      refine ⟨by omega, fun j hj => ?_, fun q => i3 (by omega)⟩
      cases j with
      | zero => exact h
      | succ j => exact i2 j (by omega)
theorem fsI_of {pts : List V} {y : V} {k : Nat} (hk : k ≤ pts.length) (h : ∀ j, j < k → pts.getD j z0 ≠ y) (he : k < pts.length → pts.getD k z0 = y) : fsI pts y = k := by
  obtain ⟨i1, i2, i3⟩ := fsI_sp (y := y) pts
  rcases Nat.lt_trichotomy (fsI pts y) k with q | q | q
  · exact absurd (i3 (by omega)) (h _ q)
  · exact q
  · exact absurd (he (by omega)) (i2 k q)
theorem fsI_no {pts : List V} {y : V} (h : fsI pts y = pts.length) : y ∉ pts := by
  intro hm
  obtain ⟨j, hj, e⟩ := List.getElem_of_mem hm
  have := (fsI_sp (y := y) pts).2.1 j (by omega)
  rw [List.getD_eq_getElem?_getD, List.getElem?_eq_getElem hj] at this
  exact this e
noncomputable def psI (pts : List V) (y : V) : List V := if fsI pts y = pts.length then pts ++ [y] else pts
noncomputable def inF (P : Pc) (xs : List V) (x : V) : Nat → List V → List V × List Int
  | 0, pts => (pts, [])
  | j + 1, pts => (psI (inF P xs x j pts).1 (M P 0 x (xs.getD j z0)), (inF P xs x j pts).2 ++ [(fsI (inF P xs x j pts).1 (M P 0 x (xs.getD j z0)) : Int)])
noncomputable def otF (P : Pc) (xs : List V) : Nat → List V × List (List Int)
  | 0 => ([z0], [])
  | i + 1 => ((inF P xs ((otF P xs i).1.getD i z0) xs.length (otF P xs i).1).1, (otF P xs i).2 ++ [(inF P xs ((otF P xs i).1.getD i z0) xs.length (otF P xs i).1).2])
theorem inF_pre {P : Pc} {xs : List V} {x : V} {pts : List V} : ∀ j, ∃ e, (inF P xs x j pts).1 = pts ++ e := by
  intro j
  induction j with
  | zero => exact ⟨[], by simp [inF]⟩
  | succ j ih =>
    obtain ⟨e, he⟩ := ih
    rw [inF]
    dsimp only
    unfold psI
    split
    · exact ⟨e ++ [M P 0 x (xs.getD j z0)], by rw [he, List.append_assoc]⟩
    · exact ⟨e, he⟩
theorem inF_get {P : Pc} {xs : List V} {x : V} {pts : List V} {i j : Nat} (hi : i < pts.length) : (inF P xs x j pts).1.getD i z0 = pts.getD i z0 ∧ pts.length ≤ (inF P xs x j pts).1.length := by
  obtain ⟨e, he⟩ := inF_pre (P := P) (xs := xs) (x := x) (pts := pts) j
  rw [he]
  refine ⟨?_, by rw [List.length_append]; omega⟩
  simp only [List.getD_eq_getElem?_getD]
  rw [List.getElem?_append_left hi]
theorem inF_len {P : Pc} {xs : List V} {x : V} {pts : List V} : ∀ j, (inF P xs x j pts).2.length = j := by
  intro j
  induction j with
  | zero => rfl
  | succ j ih => rw [inF]; simp [ih]
theorem otF_len {P : Pc} {xs : List V} : ∀ i, (otF P xs i).2.length = i := by
  intro i
  induction i with
  | zero => rfl
  | succ i ih => rw [otF]; simp [ih]
def PtI (P : Pc) (pts : List V) : Prop := (∀ p ∈ pts, T P 0 p) ∧ pts.Nodup ∧ 0 < pts.length
theorem PtI.ps {P : Pc} {pts : List V} {y : V} (h : PtI P pts) (hy : T P 0 y) : PtI P (psI pts y) := by
  obtain ⟨h1, h2, h3⟩ := h
  unfold psI
  split
  · rename_i e
    refine ⟨fun p hp => ?_, ?_, by simp⟩
    · rcases List.mem_append.1 hp with q | q
      · exact h1 p q
      · rw [List.mem_singleton.1 q]; exact hy
    · rw [List.nodup_append]
      exact ⟨h2, by simp, fun a ha b hb e2 => by rw [List.mem_singleton.1 hb] at e2; subst e2; exact fsI_no e ha⟩
  · exact ⟨h1, h2, h3⟩
section
variable {P : Pc} (hv : Val P) (hc : Con P 0) {xs : List V} (hxs : ∀ x ∈ xs, T P 0 x)
include hv hc hxs
omit hv hc in
theorem xs_T {j : Nat} (hj : j < xs.length) : T P 0 (xs.getD j z0) := hxs _ (by rw [List.getD_eq_getElem?_getD, List.getElem?_eq_getElem hj]; exact List.getElem_mem _)
theorem PtI.inF {x : V} (hx : T P 0 x) {pts : List V} (h : PtI P pts) : ∀ j, j ≤ xs.length → PtI P (inF P xs x j pts).1 := by
  intro j
  induction j with
  | zero => intro _; exact h
  | succ j ih =>
    intro hj
    rw [Go.Proofs.Ytnlfbimjcabgiaa.inF]
    exact (ih (by omega)).ps ((con_grp hv hc).cl hx (xs_T hxs (by omega)))
theorem PtI.otF : ∀ i, (∀ i', i' < i → i' < (otF P xs i').1.length) → PtI P (otF P xs i).1 := by
  intro i
  induction i with
  | zero => intro _; exact ⟨fun p hp => by rw [List.mem_singleton.1 hp]; exact (con_grp hv hc).e0, by simp [Go.Proofs.Ytnlfbimjcabgiaa.otF], by simp [Go.Proofs.Ytnlfbimjcabgiaa.otF]⟩
  | succ i ih =>
    intro hi
    have h := ih (fun i' h => hi i' (by omega))
    have hl := hi i (by omega)
    rw [Go.Proofs.Ytnlfbimjcabgiaa.otF]
    refine PtI.inF hv hc hxs ?_ h xs.length (Nat.le_refl _)
    exact h.1 _ (by rw [List.getD_eq_getElem?_getD, List.getElem?_eq_getElem hl]; exact List.getElem_mem _)
end
theorem nodup_bd : ∀ (N : Nat) (l : List Nat), l.Nodup → (∀ x ∈ l, x < N) → l.length ≤ N := by
  intro N
  induction N with
  | zero =>
    intro l _ h
    cases l with
    | nil => exact Nat.le_refl _
    | cons a l => have := h a List.mem_cons_self; omega
  | succ N ih =>
    intro l hn h
    have h1 := ih (l.erase N) (hn.erase N) (fun x hx => by
      have h2 := (List.Nodup.mem_erase_iff hn).1 hx
      have := h x h2.2
      have := h2.1
      omega)
    have h2 := List.length_erase (a := N) (l := l)
    split at h2 <;> omega
theorem PtI.len {os : List Int} {pw : List (List Int)} {cj : List (List (List Int))} (hp : presOk os pw cj) {pts : List V} (h : PtI (pc os pw cj) pts) : pts.length ≤ 729 := by
  obtain ⟨h1, h2, h3⟩ := h
  have hb := hp.2.2.1
  have := nodup_bd 729 (pts.map fun p => (nmV os p os.length).toNat) ?_ ?_
  · rwa [List.length_map] at this
  · have go : ∀ pts : List V, (∀ p ∈ pts, T (pc os pw cj) 0 p) → pts.Nodup → (pts.map fun p => (nmV os p os.length).toNat).Nodup := by
      intro pts
      induction pts with
      | nil => intro _ _; simp
      | cons a l ih =>
        intro hT hn
        rw [List.nodup_cons] at hn
        rw [List.map_cons, List.nodup_cons]
        refine ⟨fun hm => ?_, ih (fun p hp => hT p (List.mem_cons_of_mem _ hp)) hn.2⟩
        obtain ⟨b, hb, e⟩ := List.mem_map.1 hm
        have t1 := hT a List.mem_cons_self
        have t2 := hT b (List.mem_cons_of_mem _ hb)
        have b1 := nmV_bd hp.2.1 t1 os.length (Nat.le_refl _)
        have b2 := nmV_bd hp.2.1 t2 os.length (Nat.le_refl _)
        have : b = a := nmV_eq hp.2.1 t2 t1 (by omega)
        rw [this] at hb
        exact hn.1 hb
    exact go pts h1 h2
  · intro x hx
    obtain ⟨p, hm, rfl⟩ := List.mem_map.1 hx
    have b1 := nmV_bd hp.2.1 (h1 p hm) os.length (Nat.le_refl _)
    omega
theorem getI_lt {l e : List Int} {g : Nat} (h : g < l.length) : (l ++ e).getD g 0 = l.getD g 0 := by
  simp only [List.getD_eq_getElem?_getD]
  rw [List.getElem?_append_left h]
theorem getI_end {l : List Int} {a : Int} {g : Nat} (h : g = l.length) : (l ++ [a]).getD g 0 = a := by
  subst h
  simp only [List.getD_eq_getElem?_getD]
  rw [List.getElem?_append_right (Nat.le_refl _), Nat.sub_self]
  rfl
def colP (rws : List (List Int)) (g : Nat) : List Int := rws.map fun r => r.getD g 0
theorem colP_len {rws : List (List Int)} {g : Nat} : (colP rws g).length = rws.length := by simp [colP]
noncomputable def colJ (P : Pc) (xs : List V) (i j g : Nat) : List Int :=
  if g < j then colP (otF P xs i).2 g ++ [(inF P xs ((otF P xs i).1.getD i z0) j (otF P xs i).1).2.getD g 0] else colP (otF P xs i).2 g
theorem colJ_0 {P : Pc} {xs : List V} {i g : Nat} : colJ P xs i 0 g = colP (otF P xs i).2 g := by unfold colJ; rw [if_neg (by omega)]
theorem colJ_len {P : Pc} {xs : List V} {i j g : Nat} : (colJ P xs i j g).length = if g < j then i + 1 else i := by
  unfold colJ
  split
  · rw [List.length_append, colP_len, otF_len]; rfl
  · rw [colP_len, otF_len]
theorem colJ_end {P : Pc} {xs : List V} {i g : Nat} (hg : g < xs.length) : colJ P xs i xs.length g = colJ P xs (i + 1) 0 g := by
  rw [colJ_0]
  unfold colJ
  rw [if_pos hg, otF]
  simp [colP]
theorem colJ_s {P : Pc} {xs : List V} {i j g : Nat} : colJ P xs i (j + 1) g = if g = j then colJ P xs i j j ++ [(fsI (inF P xs ((otF P xs i).1.getD i z0) j (otF P xs i).1).1 (M P 0 ((otF P xs i).1.getD i z0) (xs.getD j z0)) : Int)] else colJ P xs i j g := by
  have hl := inF_len (P := P) (xs := xs) (x := (otF P xs i).1.getD i z0) (pts := (otF P xs i).1) j
  by_cases e : g = j
  · subst e
    rw [if_pos rfl]
    unfold colJ
    rw [if_pos (by omega), if_neg (by omega), inF]
    rw [getI_end hl.symm]
  · rw [if_neg e]
    unfold colJ
    by_cases q : g < j
    · rw [if_pos (by omega), if_pos q, inF]
      rw [getI_lt (by omega)]
    · rw [if_neg (by omega), if_neg q]
def CyQ (P : Pc) (xs : List V) (i : Nat) : Prop := i = (otF P xs i).1.length ∧ ∀ i', i' < i → i' < (otF P xs i').1.length
theorem CyQ.uniq {P : Pc} {xs : List V} {i j : Nat} (h : CyQ P xs i) (h' : CyQ P xs j) : i = j := by
  rcases Nat.lt_trichotomy i j with q | q | q
  · have := h'.2 i q; have := h.1; omega
  · exact q
  · have := h.2 j q; have := h'.1; omega
noncomputable def cyN (P : Pc) (xs : List V) : Nat := open Classical in if h : ∃ i, CyQ P xs i then Classical.choose h else 0
theorem cyN_eq {P : Pc} {xs : List V} {i : Nat} (h : CyQ P xs i) : cyN P xs = i := by
  have hh : ∃ i, CyQ P xs i := ⟨i, h⟩
  unfold cyN
  rw [dif_pos hh]
  exact (Classical.choose_spec hh).uniq h
noncomputable def tabL (P : Pc) (xs : List V) : List (List Int) := (List.range xs.length).map fun g => colJ P xs (cyN P xs) 0 g
def mpF (os : List Int) : Nat → List V → List AV
  | _, [] => []
  | i, p :: ps => .g [.i .i64 (nmV os p os.length), .i .i64 i] :: mpF os (i + 1) ps
theorem mpF_app {os : List Int} {y : V} : ∀ (pts : List V) (i : Nat), mpF os i (pts ++ [y]) = mpF os i pts ++ [.g [.i .i64 (nmV os y os.length), .i .i64 ((i + pts.length : Nat) : Int)]] := by
  intro pts
  induction pts with
  | nil => intro i; rfl
  | cons p ps ih =>
    intro i
    rw [List.cons_append, mpF, mpF, ih, List.cons_append, List.length_cons, show i + 1 + ps.length = i + (ps.length + 1) by omega]
section
variable {os : List Int} {pw : List (List Int)} {cj : List (List (List Int))} (hp : ∀ i, i < os.length → pr4 (os.getD i 0))
include hp
theorem mget_mp {y : V} (hy : T (pc os pw cj) 0 y) : ∀ (pts : List V) (i : Nat), (∀ p ∈ pts, T (pc os pw cj) 0 p) → mget .i64 (nmV os y os.length) (mpF os i pts) = some (if fsI pts y < pts.length then some (.i .i64 ((i + fsI pts y : Nat) : Int)) else none) := by
  intro pts
  induction pts with
  | nil => intro i _; simp [mpF, mget, fsI]
  | cons p ps ih =>
    intro i hT
    have ih := ih (i + 1) (fun q hq => hT q (List.mem_cons_of_mem _ hq))
    rw [mpF, mget, if_pos rfl]
    by_cases h : p = y
    · have e : nmV os y os.length = nmV os p os.length := by rw [h]
      rw [if_pos e, fsI, tf_t h, if_pos rfl, if_pos (by simp), Nat.add_zero]
    · have e2 : fsI (p :: ps) y = fsI ps y + 1 := by rw [fsI, tf_f h]; rfl
      rw [if_neg (fun e => h (nmV_eq hp (hT p List.mem_cons_self) hy e.symm)), ih, e2, List.length_cons]
      by_cases q : fsI ps y < ps.length
      · rw [if_pos q, if_pos (by omega), show i + 1 + fsI ps y = i + (fsI ps y + 1) by omega]
      · rw [if_neg q, if_neg (by omega)]
theorem mset_mp {y : V} (hy : T (pc os pw cj) 0 y) {v : AV} : ∀ (pts : List V) (i : Nat), (∀ p ∈ pts, T (pc os pw cj) 0 p) → fsI pts y = pts.length → mset .i64 (nmV os y os.length) v (mpF os i pts) = some (mpF os i pts ++ [.g [.i .i64 (nmV os y os.length), v]]) := by
  intro pts
  induction pts with
  | nil => intro i _ _; rfl
  | cons p ps ih =>
    intro i hT hf
    have hne : p ≠ y := fun e => by rw [fsI, tf_t e, if_pos rfl] at hf; simp at hf
    rw [fsI, tf_f hne, if_neg (by simp), List.length_cons] at hf
    rw [mpF, mset, if_pos rfl, if_neg (fun e => hne (nmV_eq hp (hT p List.mem_cons_self) hy e.symm)), ih (i + 1) (fun q hq => hT q (List.mem_cons_of_mem _ hq)) (by omega)]
    rfl
end
end Go.Proofs.Ytnlfbimjcabgiaa
