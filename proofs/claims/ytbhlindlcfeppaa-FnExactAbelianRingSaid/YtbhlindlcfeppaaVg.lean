/-
  Abelian rings: plain law; a written entry of a row of one's own.
-/
import Derived.Test.YtbhlindlcfeppaaVd
import Derived.Test.YtbhlindlcfeppaaPc
set_option linter.unusedVariables false
set_option linter.unusedSimpArgs false
namespace Go.Proofs.Ytbhlindlcfeppaa

/-- The rows: row r is the unit at r + 1 where s says so, else zero. -/
def genP (N : Nat) (s : Nat → Bool) : List (List Int) := (List.range N).map fun r => vec N (fun j => if s r = true ∧ j = r + 1 then 1 else 0)
theorem genP_len {N : Nat} {s : Nat → Bool} : (genP N s).length = N := by simp [genP]
theorem genP_get {N r : Nat} {s : Nat → Bool} (h : r < N) : (genP N s).getD r [] = vec N (fun j => if s r = true ∧ j = r + 1 then 1 else 0) := by simp [genP, h]
theorem genP_ext {N : Nat} {X : List (List Int)} {s : Nat → Bool} (hl : X.length = N) (h : ∀ r, r < N → X.getD r [] = vec N (fun j => if s r = true ∧ j = r + 1 then 1 else 0)) : X = genP N s := by
  apply List.ext_getElem?
  intro i
  by_cases hi : i < N
  · have h1 := h i hi
    rw [List.getD_eq_getElem?_getD, List.getElem?_eq_getElem (by omega)] at h1
    rw [List.getElem?_eq_getElem (by omega), List.getElem?_eq_getElem (by rw [genP_len]; omega)]
    have h2 := genP_get (s := s) hi
    rw [List.getD_eq_getElem?_getD, List.getElem?_eq_getElem (by rw [genP_len]; omega)] at h2
    simp only [Option.getD_some] at h1 h2
    rw [h1, h2]
  · rw [List.getElem?_eq_none (by omega), List.getElem?_eq_none (by rw [genP_len]; omega)]
theorem genP_congr {N : Nat} {s s' : Nat → Bool} (h : ∀ r, r < N → s r = s' r) : genP N s = genP N s' :=
  genP_ext genP_len (fun r hr => by rw [genP_get hr, h r hr])
theorem zrow_vec {N : Nat} : zrow N = vec N (fun _ => 0) := by
  apply List.ext_getElem?
  intro i
  by_cases hi : i < N
  · simp [zrow, vec, hi]
  · rw [List.getElem?_eq_none (by rw [zrow_len]; omega), List.getElem?_eq_none (by rw [vec_len]; omega)]
theorem genP_zero {N : Nat} : zP N = genP N (fun _ => false) :=
  genP_ext (by simp [zP]) (fun r hr => by rw [show (zP N).getD r [] = zrow N from by simp [zP, hr], zrow_vec]; exact vec_ext (fun k _ => by simp))
theorem vec_set {N j : Nat} {f : Nat → Int} {x : Int} : (vec N f).set j x = vec N (fun k => if k = j then x else f k) := by
  apply List.ext_getElem?
  intro i
  rw [List.getElem?_set]
  by_cases hi : i < N
  · by_cases e : j = i
    · subst e; simp [vec, hi]
    · simp [vec, hi, e, Ne.symm e]
  · rw [List.getElem?_eq_none (l := vec N _) (by rw [vec_len]; omega), List.getElem?_eq_none (l := vec N _) (by rw [vec_len]; omega), vec_len]
    simp; omega
theorem genP_set {N a : Nat} {s : Nat → Bool} : (genP N s).set a (((genP N s).getD a []).set (a + 1) 1) = genP N (fun i => s i || i == a) :=
  genP_ext (by rw [List.length_set, genP_len]) (fun r hr => by
    rw [List.getD_eq_getElem?_getD, List.getElem?_set]
    by_cases e : a = r
    · subst e
      rw [if_pos rfl, genP_len, if_pos hr, genP_get hr, vec_set, Option.getD_some]
      exact vec_ext (fun k _ => by by_cases hk : k = a + 1 <;> simp [hk])
    · rw [if_neg e, ← List.getD_eq_getElem?_getD, genP_get hr]
      exact vec_ext (fun k _ => by simp [Ne.symm e]))
theorem place_vec {u v n : Nat} {f : Nat → Int} : placeL u (vec n f) v = vec (u + n + v) (fun j => if u ≤ j ∧ j < u + n then f (j - u) else 0) := by
  apply List.ext_getElem?
  intro i
  by_cases hi : i < u + n + v
  · rw [show (vec (u + n + v) fun j => if u ≤ j ∧ j < u + n then f (j - u) else 0)[i]? = some (if u ≤ i ∧ i < u + n then f (i - u) else 0) from by simp [vec, hi]]
    unfold placeL
    rcases Nat.lt_or_ge i u with h1 | h1
    · rw [List.append_assoc, List.getElem?_append_left (by simpa using h1), if_neg (by omega)]
      simp [h1]
    · rcases Nat.lt_or_ge i (u + n) with h2 | h2
      · rw [List.getElem?_append_left (by rw [List.length_append, List.length_replicate, vec_len]; exact h2), List.getElem?_append_right (by simpa using h1), if_pos ⟨h1, h2⟩, List.length_replicate]
        simp [vec, show i - u < n by omega]
      · rw [List.getElem?_append_right (by rw [List.length_append, List.length_replicate, vec_len]; exact h2), if_neg (by omega), List.length_append, List.length_replicate, vec_len]
        simp [show i - (u + n) < v by omega]
  · rw [List.getElem?_eq_none (by rw [placeL_len, vec_len]; omega), List.getElem?_eq_none (by rw [vec_len]; omega)]
/-- The next block. -/
def lkN (n m : Nat) (s : Nat → Bool) : Nat → Bool := fun r => s r || (decide (n ≤ r) && decide (r + 1 < n + m))
theorem sum_gen {n m : Nat} {s : Nat → Bool} (hs : ∀ r, s r = true → r + 1 < n) : sP (genP n s) (cycP m) = genP (n + m) (lkN n m s) := by
  refine genP_ext (by rw [sP_len, genP_len, cycP_len]) (fun r hr => ?_)
  rcases Nat.lt_or_ge r n with h | h
  · rw [sP_1 (by rw [genP_len]; exact h), genP_get h, place_vec, cycP_len, show 0 + n + m = n + m by omega]
    refine vec_ext (fun k _ => ?_)
    simp only [lkN, show ¬ n ≤ r by omega, decide_false, Bool.false_and, Bool.or_false, Nat.sub_zero]
    by_cases h1 : s r = true ∧ k = r + 1
    · have := hs r h1.1
      rw [if_pos h1, if_pos (by omega)]
    · rw [if_neg h1]; split <;> rfl
  · obtain ⟨i, rfl⟩ : ∃ i, r = n + i := ⟨r - n, by omega⟩
    have h2 := sP_2 (A := genP n s) (B := cycP m) (i := i) (by rw [cycP_len]; omega)
    rw [genP_len] at h2
    rw [h2, show (cycP m).getD i [] = vec m (fun j => if j = i + 1 then 1 else 0) from by simp [cycP, show i < m by omega], place_vec, show n + m + 0 = n + m by omega]
    refine vec_ext (fun k hk => ?_)
    have hsr : s (n + i) = false := by
      cases e : s (n + i) with
      | false => rfl
      | true => have := hs _ e; omega
    simp only [lkN, hsr, Bool.false_or, show n ≤ n + i by omega, decide_true, Bool.true_and, decide_eq_true_eq]
    by_cases h3 : n ≤ k ∧ k < n + m
    · rw [if_pos h3]
      by_cases h4 : k = n + i + 1
      · rw [if_pos (by omega), if_pos (by omega)]
      · rw [if_neg (by omega), if_neg (by omega)]
    · rw [if_neg h3, if_neg (by omega)]
theorem cycB_z {m : Nat} : cycB m = zB m := by simp only [cycB, zB, zrow_vec]
theorem place_z {u v n : Nat} : placeL u (zrow n) v = zrow (u + n + v) := by
  rw [zrow_vec, place_vec, zrow_vec]
  exact vec_ext (fun k _ => by split <;> rfl)
theorem sum_z {n m : Nat} : sB n m (zB n) (cycB m) = zB (n + m) := by
  rw [cycB_z]
  unfold sB
  rw [show zB (n + m) = (List.range n).map (fun i => List.replicate (n + m - 1 - i) (zrow (n + m))) ++ (List.range m).map (fun i => List.replicate (m - 1 - i) (zrow (n + m))) from by
    unfold zB
    rw [List.range_add, List.map_append, List.map_map]
    congr 1
    refine List.map_congr_left (fun i hi => ?_)
    simp only [Function.comp]
    congr 1; omega]
  congr 1
  · refine List.map_congr_left (fun i hi => ?_)
    have hi := List.mem_range.1 hi
    rw [zB_get hi]
    unfold sR1
    rw [List.map_replicate, place_z, show 0 + n + m = n + m by omega, List.replicate_append_replicate]
    congr 1; omega
  · refine List.map_congr_left (fun i hi => ?_)
    have hi := List.mem_range.1 hi
    rw [zB_get hi]
    unfold sR2
    rw [List.map_replicate, place_z, show n + m + 0 = n + m by omega]

/-- Length and links of the blocks. -/
def lkS (st : Nat × (Nat → Bool)) (e : Int) : Nat × (Nat → Bool) := (st.1 + e.toNat, lkN st.1 e.toNat st.2)
def lk (es : List Int) : Nat × (Nat → Bool) := es.foldl lkS (0, fun _ => false)
theorem lk_snoc {es : List Int} {i : Nat} (h : i < es.length) : lk (es.take (i + 1)) = lkS (lk (es.take i)) (es.getD i 0) := by
  unfold lk
  rw [take_sn (d := 0) h, List.foldl_append]; rfl
theorem lk_lt {es : List Int} : ∀ i, i ≤ es.length → ∀ r, (lk (es.take i)).2 r = true → r + 1 < (lk (es.take i)).1 := by
  intro i
  induction i with
  | zero => intro _ r h; simp [lk] at h
  | succ i ih =>
    intro h r hr
    rw [lk_snoc (by omega)] at hr ⊢
    simp only [lkS, lkN, Bool.or_eq_true, Bool.and_eq_true, decide_eq_true_eq] at hr ⊢
    rcases hr with hr | hr
    · have := ih (by omega) r hr; omega
    · omega
theorem lk_mono {es : List Int} {i : Nat} : ∀ d, i + d ≤ es.length → (lk (es.take i)).1 ≤ (lk (es.take (i + d))).1 := by
  intro d
  induction d with
  | zero => intro _; exact Nat.le_refl _
  | succ d ih =>
    intro h
    rw [← Nat.add_assoc, lk_snoc (by omega)]
    have := ih (by omega)
    simp only [lkS]; omega
theorem lk_le {es : List Int} {i : Nat} (h : i ≤ es.length) : (lk (es.take i)).1 ≤ (lk es).1 := by
  have := lk_mono (es := es) (i := i) (es.length - i) (by omega)
  rwa [show i + (es.length - i) = es.length by omega, List.take_length] at this
/-- What AbelianRing answers. -/
def abM (p : Int) (es : List Int) (a b c : Bool) : (Int × List (List Int) × List (List (List Int))) × Int := match a, b, c with
  | true, true, true => ((p, genP (lk es).1 (lk es).2, zB (lk es).1), 0)
  | true, true, false => ((0, [], []), 3)
  | true, false, _ => ((0, [], []), 2)
  | false, _, _ => ((0, [], []), 2)
theorem pw_mono {p : Int} (hp : 1 ≤ p) {a b : Nat} (h : a ≤ b) : p ^ a ≤ p ^ b := by
  obtain ⟨d, rfl⟩ : ∃ d, b = a + d := ⟨b - a, by omega⟩
  rw [Int.pow_add]
  have h1 : 0 < p ^ a := Int.pow_pos (by omega)
  have h2 : 0 < p ^ d := Int.pow_pos (by omega)
  have := Int.mul_le_mul_of_nonneg_left (show (1 : Int) ≤ p ^ d by omega) (show (0 : Int) ≤ p ^ a by omega)
  rwa [Int.mul_one] at this

theorem OwL.ints_eq {H : HP} : ∀ {xs : List Int} {cs : List AV} {ks : List Nat}, OwL H cs (xs.map (.i .i64)) ks → cs = xs.map (.i .i64) ∧ ks = [] := by
  intro xs
  induction xs with
  | nil => intro cs ks h; cases h; exact ⟨rfl, rfl⟩
  | cons x xs ih =>
    intro cs ks h
    rw [List.map_cons] at h
    cases h with
    | cons y z ys zs is js h1 h2 =>
      obtain ⟨rfl, rfl⟩ := ih h2
      cases h1
      exact ⟨rfl, rfl⟩
theorem Ow.ints_inv2 {H : HP} {r : AV} {a : List Int} {ids : List Nat} (h : Ow H r (Go.Proofs.Ytbhlindlcfeppaa.ints a) ids) : (a = [] ∧ ids = []) ∨ ∃ id, r = .h id 0 a.length ∧ ids = [id] ∧ H id = some (a.map (.i .i64)) := by
  unfold Go.Proofs.Ytbhlindlcfeppaa.ints at h
  generalize hX : AV.v a.length (a.map (AV.i .i64)) = X at h
  cases h with
  | leaf _ hf hn =>
    subst hX
    cases a with
    | nil => exact .inl ⟨rfl, rfl⟩
    | cons x xs => cases hf
  | nl =>
    injection hX with h1 h2
    cases a with
    | nil => exact .inl ⟨rfl, rfl⟩
    | cons x xs => simp at h1
  | h id cs ts ids' h1 h2 =>
    injection hX with e1 e2
    subst e2
    obtain ⟨rfl, rfl⟩ := h2.ints_eq
    exact .inr ⟨id, by rw [e1], rfl, h1⟩
  | q => cases hX
  | g => cases hX
  | t => cases hX
theorem RgO.r {a m k : Nat} {H : HP} {P B : AV} {X : List (List Int)} {Y : List (List (List Int))} (h : RgO a m H P B X Y) (hk : k < X.length) (hy : 0 < (X.getD k []).length) : ∃ id rs q cs, P = .h id 0 X.length ∧ H id = some rs ∧ rs.length = X.length ∧ rs.getD k .j = .h q 0 (X.getD k []).length ∧ H q = some cs ∧ cs.length = (X.getD k []).length ∧ (a ≤ id ∧ id < m) ∧ a ≤ q ∧ q < m := by
  obtain ⟨is, js, h1, h2, h3, h4⟩ := h
  rcases h1.rows_inv with ⟨rfl, _⟩ | ⟨id, rs, ks, rfl, rfl, g1, g2, g3⟩
  · simp at hk
  · obtain ⟨il, ia, ir, rfl, s1, s2, s3⟩ := g3.split (a := k) (by omega)
    rw [gd_r hk] at s2
    rcases s2.ints_inv2 with ⟨e, _⟩ | ⟨q, e, rfl, t2⟩
    · rw [e] at hy; simp at hy
    · exact ⟨id, rs, q, _, rfl, g2, g1, e, t2, by simp, h4 id (by simp), h4 q (by simp)⟩
theorem RgO.setC {a m id q k l : Nat} {H : HP} {B : AV} {X : List (List Int)} {Y : List (List (List Int))} {rs cs : List AV} {x : Int} (h : RgO a m H (.h id 0 X.length) B X Y) (hid : H id = some rs) (hk : k < X.length) (hl : l < (X.getD k []).length) (hq : rs.getD k .j = .h q 0 (X.getD k []).length) (hc : H q = some cs) :
    RgO a m (upd H q (some (cs.set l (.i .i64 x)))) (.h id 0 X.length) B (X.set k ((X.getD k []).set l x)) Y := by
  obtain ⟨is, js, h1, h2, h3, h4⟩ := h
  rcases h1.rows_inv with ⟨rfl, _⟩ | ⟨id', rs', ks, e1, rfl, g1, g2, g3⟩
  · simp at hk
  cases e1
  rw [hid] at g2; cases g2
  obtain ⟨il, ia, ir, rfl, s1, s2, s3⟩ := g3.split (a := k) (by omega)
  rw [gd_r hk, hq] at s2
  rcases s2.ints_inv2 with ⟨e, _⟩ | ⟨q', e2, rfl, t2⟩
  · rw [e] at hl; simp at hl
  cases e2
  rw [hc] at t2; cases t2
  have hcnt : ∀ i, i = id ∨ i ∈ il ∨ i ∈ ir ∨ i ∈ js → i ≠ q := by
    intro i hi e
    subst e
    have n := h3
    simp only [List.nodup_append, List.nodup_cons, List.mem_append, List.mem_cons, not_or] at n
    grind
  have hall : ∀ i, i = id ∨ i ∈ il ∨ i ∈ ir ∨ i ∈ js → upd H q (some (List.set ((X.getD k []).map (.i .i64)) l (.i .i64 x))) i = H i := fun i hi => upd_ne _ _ (hcnt i hi)
  have hsame := upd_same H q (some (List.set ((X.getD k []).map (.i .i64)) l (.i .i64 x)))
  generalize upd H q (some (List.set ((X.getD k []).map (.i .i64)) l (.i .i64 x))) = H' at hall hsame ⊢
  have v1 : Ow H' (rs.getD k .j) (ints ((X.getD k []).set l x)) [q] := by
    rw [hq]
    exact Ow.ints (by rw [hsame, List.map_set]) (by rw [List.length_set])
  have v4 := OwL.put (s1.keep fun i hi => hall i (by simp [hi])) v1 (s3.keep fun i hi => hall i (by simp [hi])) (by omega) (by simp; omega)
  rw [← List.map_set] at v4
  have hset : rs.set k (rs.getD k .j) = rs := by
    apply List.ext_getElem?
    intro i
    rw [List.getElem?_set]
    split
    · rename_i e
      subst e
      rw [if_pos (by omega), List.getD_eq_getElem?_getD, List.getElem?_eq_getElem (by omega)]; rfl
    · rfl
  rw [hset] at v4
  refine ⟨id :: (il ++ ([q] ++ ir)), js, ?_, h2.keep fun i hi => hall i (by simp [hi]), h3, h4⟩
  have := Ow.h id _ _ _ ((hall id (by simp)).trans hid) v4
  rw [g1] at this
  unfold rows
  rw [List.length_set]; exact this
end Go.Proofs.Ytbhlindlcfeppaa
