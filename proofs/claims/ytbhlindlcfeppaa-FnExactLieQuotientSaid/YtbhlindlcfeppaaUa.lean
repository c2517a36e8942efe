/-
  Plain law: the ring modulo an ideal, as its lists are filled one by one.
-/
import Derived.Test.YtbhlindlcfeppaaTe
import Derived.Test.YtbhlindlcfeppaaTz
set_option linter.unusedVariables false
set_option linter.unusedSimpArgs false
namespace Go.Proofs.Ytbhlindlcfeppaa

/-- The first a of one list, then the rest of the other. -/
def mixR {α : Type} (L Z : List α) (a : Nat) : List α := L.take a ++ Z.drop a
section
variable {α : Type} {L Z : List α} {a : Nat}
theorem mixR_0 : mixR L Z 0 = Z := by simp [mixR]
theorem mixR_all (h : L.length = Z.length) (ha : a = L.length) : mixR L Z a = L := by
  subst ha
  unfold mixR; rw [List.take_length, List.drop_eq_nil_of_le (by omega), List.append_nil]
theorem mixR_len (h : L.length = Z.length) (ha : a ≤ L.length) : (mixR L Z a).length = L.length := by
  unfold mixR; rw [List.length_append, List.length_take, List.length_drop]; omega
theorem mixR_get (h : L.length = Z.length) {d : α} (ha : a < L.length) : (mixR L Z a).getD a d = Z.getD a d := by
  unfold mixR
  rw [List.getD_eq_getElem?_getD, List.getElem?_append_right (by rw [List.length_take]; omega), List.length_take, List.getElem?_drop, List.getD_eq_getElem?_getD, Nat.min_eq_left (by omega)]
  simp
theorem mixR_set (h : L.length = Z.length) {d : α} (ha : a < L.length) : (mixR L Z a).set a (L.getD a d) = mixR L Z (a + 1) := by
  unfold mixR
  rw [List.set_append_right _ _ (by rw [List.length_take]; omega), List.length_take, Nat.min_eq_left (by omega), Nat.sub_self, List.drop_eq_getElem_cons (show a < Z.length by omega), List.set_cons_zero, List.take_add_one, List.getD_eq_getElem?_getD, List.getElem?_eq_getElem ha]
  simp only [Option.getD_some, Option.toList_some, List.append_assoc, List.singleton_append]
end

theorem othK_asc {u : List (List Int)} : ∀ {k i j : Nat}, i < j → j < (othK u k).length → (othK u k).getD i 0 < (othK u k).getD j 0 := by
  intro k
  induction k with
  | zero => intro i j _ h; simp [othK] at h
  | succ k ih =>
    intro i j hij hj
    by_cases h : isOth u k
    · rw [othK_t h] at hj ⊢
      simp only [List.length_append, List.length_cons, List.length_nil] at hj
      have hi : i < (othK u k).length := by omega
      have hle := (othK_ok (u := u) (k := k)).2 _ (ix_mem (d := 0) hi)
      have e1 : (othK u k ++ [(k : Int)]).getD i 0 = (othK u k).getD i 0 := by
        rw [List.getD_eq_getElem?_getD, List.getElem?_append_left hi, List.getD_eq_getElem?_getD]
      by_cases hj2 : j < (othK u k).length
      · have e2 : (othK u k ++ [(k : Int)]).getD j 0 = (othK u k).getD j 0 := by
          rw [List.getD_eq_getElem?_getD, List.getElem?_append_left hj2, List.getD_eq_getElem?_getD]
        rw [e1, e2]; exact ih hij hj2
      · have e2 : (othK u k ++ [(k : Int)]).getD j 0 = k := by
          rw [List.getD_eq_getElem?_getD, List.getElem?_append_right (by omega), show j - (othK u k).length = 0 by omega]; rfl
        rw [e1, e2]; omega
    · rw [othK_f h] at hj ⊢
      exact ih hij hj

section
variable (p : Int) (pw : List (List Int)) (br : List (List (List Int))) (u : List (List Int))
/-- The positions that are left. -/
noncomputable def oN' : Nat → Nat := fun a => ((othK u pw.length).getD a 0).toNat
noncomputable def qM : Nat := (othK u pw.length).length
noncomputable def qP : List (List Int) := (List.range (qM pw u)).map fun a => imgL p pw u (pw.getD (oN' pw u a) [])
noncomputable def qR (a : Nat) : List (List Int) := (List.range (qM pw u - 1 - a)).map fun k => imgL p pw u ((br.getD (oN' pw u a) []).getD (oN' pw u (a + 1 + k) - oN' pw u a - 1) [])
noncomputable def qB : List (List (List Int)) := (List.range (qM pw u)).map fun a => qR p pw br u a
end
section
variable {p : Int} {pw : List (List Int)} {br : List (List (List Int))} {u : List (List Int)}
theorem qP_len : (qP p pw u).length = qM pw u := by simp [qP]
theorem qB_len : (qB p pw br u).length = qM pw u := by simp [qB]
theorem qR_len {a : Nat} : (qR p pw br u a).length = qM pw u - 1 - a := by simp [qR]
theorem qP_get {a : Nat} (h : a < qM pw u) : (qP p pw u).getD a [] = imgL p pw u (pw.getD (oN' pw u a) []) := by simp [qP, h]
theorem qB_get {a : Nat} (h : a < qM pw u) : (qB p pw br u).getD a [] = qR p pw br u a := by simp [qB, h]
theorem qR_get {a k : Nat} (h : k < qM pw u - 1 - a) : (qR p pw br u a).getD k [] = imgL p pw u ((br.getD (oN' pw u a) []).getD (oN' pw u (a + 1 + k) - oN' pw u a - 1) []) := by simp [qR, h]
theorem oN_ok {a : Nat} (h : a < qM pw u) : (othK u pw.length).getD a 0 = (oN' pw u a : Int) ∧ oN' pw u a < pw.length := by
  obtain ⟨h1, h2⟩ := (othK_ok (u := u) (k := pw.length)).2 _ (ix_mem (d := 0) (show a < (othK u pw.length).length from h))
  unfold oN'
  rw [Int.toNat_of_nonneg h1]
  exact ⟨rfl, by omega⟩
theorem oN_asc {a b : Nat} (h : a < b) (hb : b < qM pw u) : oN' pw u a < oN' pw u b := by
  have h1 := othK_asc (u := u) (k := pw.length) h hb
  rw [(oN_ok (pw := pw) (u := u) (show a < qM pw u by omega)).1, (oN_ok hb).1] at h1
  omega
theorem qM_le : qM pw u ≤ pw.length := (othK_ok (u := u) (k := pw.length)).1
/-- The lists of brackets, filled up to row a and there up to place k. -/
noncomputable def qY (p : Int) (pw : List (List Int)) (br : List (List (List Int))) (u : List (List Int)) (a k : Nat) : List (List (List Int)) := (mixR (qB p pw br u) (zB (qM pw u)) a).set a (mixR (qR p pw br u a) (List.replicate (qM pw u - 1 - a) (zrow (qM pw u))) k)
theorem set_getD {α : Type} {l : List α} {a : Nat} {d : α} : l.set a (l.getD a d) = l := by
  apply List.ext_getElem?
  intro i
  rw [List.getElem?_set]
  split
  · rename_i e
    subst e
    split
    · rename_i h; rw [List.getD_eq_getElem?_getD, List.getElem?_eq_getElem h]; rfl
    · rename_i h; rw [List.getElem?_eq_none (by omega)]
  · rfl
theorem qBz : (qB p pw br u).length = (zB (qM pw u)).length := by rw [qB_len, zB_len]
theorem qY_0 {a : Nat} (h : a < qM pw u) : qY p pw br u a 0 = mixR (qB p pw br u) (zB (qM pw u)) a := by
  unfold qY
  rw [mixR_0, ← zB_get h, ← mixR_get (L := qB p pw br u) qBz (d := []) (by rw [qB_len]; exact h), set_getD]
theorem qY_end {a k : Nat} (h : a < qM pw u) (hk : k = qM pw u - 1 - a) : qY p pw br u a k = mixR (qB p pw br u) (zB (qM pw u)) (a + 1) := by
  unfold qY
  rw [mixR_all (L := qR p pw br u a) (by rw [qR_len, List.length_replicate]) (by rw [qR_len]; exact hk), ← qB_get (p := p) (br := br) h]
  exact mixR_set qBz (by rw [qB_len]; exact h)
theorem qY_len {a k : Nat} (h : a < qM pw u) : (qY p pw br u a k).length = qM pw u := by
  unfold qY; rw [List.length_set, mixR_len qBz (by rw [qB_len]; omega), qB_len]
theorem qY_get {a k : Nat} (h : a < qM pw u) : (qY p pw br u a k).getD a [] = mixR (qR p pw br u a) (List.replicate (qM pw u - 1 - a) (zrow (qM pw u))) k := by
  unfold qY
  rw [List.getD_eq_getElem?_getD, List.getElem?_set_self (by rw [mixR_len qBz (by rw [qB_len]; omega), qB_len]; exact h)]; rfl
theorem qY_s {a k : Nat} (h : a < qM pw u) (hk : k < qM pw u - 1 - a) : (qY p pw br u a k).set a (((qY p pw br u a k).getD a []).set k ((qR p pw br u a).getD k [])) = qY p pw br u a (k + 1) := by
  rw [qY_get h, mixR_set (by rw [qR_len, List.length_replicate]) (by rw [qR_len]; exact hk)]
  unfold qY
  rw [List.set_set]
theorem qrow_len {a k : Nat} (h : a < qM pw u) (hk : k ≤ qM pw u - 1 - a) : ((qY p pw br u a k).getD a []).length = qM pw u - 1 - a := by
  rw [qY_get h, mixR_len (by rw [qR_len, List.length_replicate]) (by rw [qR_len]; exact hk), qR_len]
theorem qPz : (qP p pw u).length = (zP (qM pw u)).length := by rw [qP_len]; simp [zP]
end
end Go.Proofs.Ytbhlindlcfeppaa
