/-
  Plain law: rings whose lists are filled one by one; the direct sum of two rings.
-/
import Derived.Test.YtbhlindlcfeppaaVa
import Derived.Test.YtbhlindlcfeppaaTz
set_option linter.unusedVariables false
set_option linter.unusedSimpArgs false
namespace Go.Proofs.Ytbhlindlcfeppaa

/-- The first a of one list, then the rest of the other. -/
def mixR {α : Type} (L Z : List α) (a : Nat) : List α := L.take a ++ Z.drop a
section
variable {α : Type} {L Z : List α} {a : Nat}
theorem mixR_0 : mixR L Z 0 = Z := by simp [mixR]
theorem mixR_all (h : L.length = Z.length) (ha : a = L.length) : mixR L Z a = L := by
  subst ha
  unfold mixR; rw [List.take_length, List.drop_eq_nil_of_le (by omega), List.append_nil]
theorem mixR_len (h : L.length = Z.length) (ha : a ≤ L.length) : (mixR L Z a).length = L.length := by
  unfold mixR; rw [List.length_append, List.length_take, List.length_drop]; omega
theorem mixR_get (h : L.length = Z.length) {d : α} (ha : a < L.length) : (mixR L Z a).getD a d = Z.getD a d := by
  unfold mixR
  rw [List.getD_eq_getElem?_getD, List.getElem?_append_right (by rw [List.length_take]; omega), List.length_take, List.getElem?_drop, List.getD_eq_getElem?_getD, Nat.min_eq_left (by omega)]
  simp
theorem mixR_set (h : L.length = Z.length) {d : α} (ha : a < L.length) : (mixR L Z a).set a (L.getD a d) = mixR L Z (a + 1) := by
  unfold mixR
  rw [List.set_append_right _ _ (by rw [List.length_take]; omega), List.length_take, Nat.min_eq_left (by omega), Nat.sub_self, List.drop_eq_getElem_cons (show a < Z.length by omega), List.set_cons_zero, List.take_add_one, List.getD_eq_getElem?_getD, List.getElem?_eq_getElem ha]
  simp only [Option.getD_some, Option.toList_some, List.append_assoc, List.singleton_append]
end

theorem set_getD {α : Type} {l : List α} {a : Nat} {d : α} : l.set a (l.getD a d) = l := by
  apply List.ext_getElem?
  intro i
  rw [List.getElem?_set]
  split
  · rename_i e
    subst e
    split
    · rename_i h; rw [List.getD_eq_getElem?_getD, List.getElem?_eq_getElem h]; rfl
    · rename_i h; rw [List.getElem?_eq_none (by omega)]
  · rfl

theorem mixR_tail {α : Type} {L Z : List α} {k : Nat} (h : L.drop k = Z.drop k) : mixR L Z k = L := by
  unfold mixR; rw [← h, List.take_append_drop]
theorem zP_len {n : Nat} : (zP n).length = n := by simp [zP]
/-- The shape of a ring with N generators. -/
structure Shp (N : Nat) (X : List (List Int)) (Y : List (List (List Int))) : Prop where
  x : X.length = N
  y : Y.length = N
  r : ∀ a, a < N → (Y.getD a []).length = N - 1 - a
/-- The lists of brackets, filled up to row a and there up to place k. -/
def filY (Y : List (List (List Int))) (N a k : Nat) : List (List (List Int)) := (mixR Y (zB N) a).set a (mixR (Y.getD a []) (List.replicate (N - 1 - a) (zrow N)) k)
section
variable {N : Nat} {X : List (List Int)} {Y : List (List (List Int))}
theorem Shp.yz (h : Shp N X Y) : Y.length = (zB N).length := by rw [h.y, zB_len]
theorem Shp.xz (h : Shp N X Y) : X.length = (zP N).length := by rw [h.x, zP_len]
theorem filY_0 (h : Shp N X Y) {a : Nat} (ha : a < N) : filY Y N a 0 = mixR Y (zB N) a := by
  unfold filY
  rw [mixR_0, ← zB_get ha, ← mixR_get (L := Y) h.yz (d := []) (by rw [h.y]; exact ha), set_getD]
theorem filY_end (h : Shp N X Y) {a k : Nat} (ha : a < N) (hk : (Y.getD a []).drop k = (List.replicate (N - 1 - a) (zrow N)).drop k) : filY Y N a k = mixR Y (zB N) (a + 1) := by
  unfold filY
  rw [mixR_tail (L := Y.getD a []) hk]
  exact mixR_set h.yz (by rw [h.y]; exact ha)
theorem filY_len (h : Shp N X Y) {a k : Nat} (ha : a < N) : (filY Y N a k).length = N := by
  unfold filY; rw [List.length_set, mixR_len h.yz (by rw [h.y]; omega), h.y]
theorem filY_get (h : Shp N X Y) {a k : Nat} (ha : a < N) : (filY Y N a k).getD a [] = mixR (Y.getD a []) (List.replicate (N - 1 - a) (zrow N)) k := by
  unfold filY
  rw [List.getD_eq_getElem?_getD, List.getElem?_set_self (by rw [mixR_len h.yz (by rw [h.y]; omega), h.y]; exact ha)]; rfl
theorem filY_s (h : Shp N X Y) {a k : Nat} (ha : a < N) (hk : k < N - 1 - a) : (filY Y N a k).set a (((filY Y N a k).getD a []).set k ((Y.getD a []).getD k [])) = filY Y N a (k + 1) := by
  rw [filY_get h ha, mixR_set (by rw [h.r a ha, List.length_replicate]) (by rw [h.r a ha]; exact hk)]
  unfold filY
  rw [List.set_set]
theorem filrow_len (h : Shp N X Y) {a k : Nat} (ha : a < N) (hk : k ≤ N - 1 - a) : ((filY Y N a k).getD a []).length = N - 1 - a := by
  rw [filY_get h ha, mixR_len (by rw [h.r a ha, List.length_replicate]) (by rw [h.r a ha]; exact hk), h.r a ha]
/-- The state of a ring that is filled. -/
structure FilI (N : Nat) (X : List (List Int)) (a0 m c : Nat) (G : HP) (P B : AV) (a : Nat) (Z : List (List (List Int))) : Prop where
  le : a0 ≤ m
  R : RgO a0 m G P B (mixR X (zP N) a) Z
  c : G c = some [.i .i64 0, .nl, .nl]
theorem FilI.p (hs : Shp N X Y) {a0 m c a : Nat} {G : HP} {P B : AV} {Z : List (List (List Int))} (h : FilI N X a0 m c G P B a Z) (ha : a < N) : ∃ id rs, P = .h id 0 N ∧ G id = some rs ∧ rs.length = N ∧ a0 ≤ id ∧ id < m := by
  have hl : (mixR X (zP N) a).length = N := by rw [mixR_len hs.xz (by rw [hs.x]; omega), hs.x]
  have := h.R.p (by omega)
  rwa [hl] at this
theorem FilI.setP (hs : Shp N X Y) {a0 m m1 c a id : Nat} {G H1 : HP} {B r1 : AV} {Z : List (List (List Int))} {rs : List AV} {ids1 : List Nat} (h : FilI N X a0 m c G (.h id 0 N) B a Z) (ha : a < N) (hid : G id = some rs) (hc : c < a0) (ho : Own m m1 H1 r1 (ints (X.getD a [])) ids1) (hH : ∀ i, i < m → H1 i = G i) (hm : m ≤ m1) (hi : a0 ≤ id) :
    FilI N X a0 m1 c (upd H1 id (some (rs.set a r1))) (.h id 0 N) B (a + 1) Z := by
  have hl : (mixR X (zP N) a).length = N := by rw [mixR_len hs.xz (by rw [hs.x]; omega), hs.x]
  have h1 : RgO a0 m G (.h id 0 (mixR X (zP N) a).length) B (mixR X (zP N) a) Z := by rw [hl]; exact h.R
  have h2 := h1.setP (k := a) hid (by rw [hl]; exact ha) ho hH hm h.le
  rw [mixR_set hs.xz (by rw [hs.x]; exact ha), hl] at h2
  exact ⟨by have := h.le; omega, h2, by rw [upd_ne _ _ (by omega), hH c (by have := h.le; omega)]; exact h.c⟩
theorem FilI.b (hs : Shp N X Y) {a0 m c a1 a k : Nat} {G : HP} {P B : AV} (h : FilI N X a0 m c G P B a1 (filY Y N a k)) (ha : a < N) (hk : k < N - 1 - a) : ∃ id bs q cs, B = .h id 0 N ∧ G id = some bs ∧ bs.length = N ∧ bs.getD a .j = .h q 0 (N - 1 - a) ∧ G q = some cs ∧ cs.length = N - 1 - a ∧ (a0 ≤ id ∧ id < m) ∧ a0 ≤ q ∧ q < m := by
  have hr := filrow_len hs ha (show k ≤ N - 1 - a by omega)
  have := h.R.b (k := a) (by rw [filY_len hs ha]; exact ha) (by rw [hr]; omega)
  rwa [filY_len hs ha, hr] at this
theorem FilI.setB (hs : Shp N X Y) {a0 m m1 c a1 a k id q : Nat} {G H1 : HP} {P r1 : AV} {bs cs : List AV} {ids1 : List Nat} (h : FilI N X a0 m c G P (.h id 0 N) a1 (filY Y N a k)) (ha : a < N) (hk : k < N - 1 - a) (hid : G id = some bs) (hb : bs.getD a .j = .h q 0 (N - 1 - a)) (hq : G q = some cs) (hc : c < a0) (ho : Own m m1 H1 r1 (ints ((Y.getD a []).getD k [])) ids1) (hH : ∀ i, i < m → H1 i = G i) (hm : m ≤ m1) (hi : a0 ≤ q) :
    FilI N X a0 m1 c (upd H1 q (some (cs.set k r1))) P (.h id 0 N) a1 (filY Y N a (k + 1)) := by
  have hr := filrow_len hs ha (show k ≤ N - 1 - a by omega)
  have hy := filY_len hs (a := a) (k := k) ha
  have h1 : RgO a0 m G P (.h id 0 (filY Y N a k).length) (mixR X (zP N) a1) (filY Y N a k) := by rw [hy]; exact h.R
  rw [← hr] at hb
  have h2 := h1.setB (B := .j) hid (by rw [hy]; exact ha) (by rw [hr]; exact hk) hb hq ho hH hm h.le
  rw [filY_s hs ha hk, hy] at h2
  exact ⟨by have := h.le; omega, h2, by rw [upd_ne _ _ (by omega), hH c (by have := h.le; omega)]; exact h.c⟩
theorem FilI.mm {a0 m m' c a : Nat} {G : HP} {P B : AV} {Z : List (List (List Int))} (h : FilI N X a0 m c G P B a Z) (hm : m ≤ m') : FilI N X a0 m' c G P B a Z := ⟨by have := h.le; omega, h.R.keep (fun _ _ _ => rfl) hm, h.c⟩
end

/-! The sum. -/
def sP (A B : List (List Int)) : List (List Int) := A.map (fun v => placeL 0 v B.length) ++ B.map (fun v => placeL A.length v 0)
def sR1 (n m : Nat) (b : List (List Int)) : List (List Int) := b.map (fun v => placeL 0 v m) ++ List.replicate m (zrow (n + m))
def sR2 (n : Nat) (b : List (List Int)) : List (List Int) := b.map (fun v => placeL n v 0)
def sB (n m : Nat) (A B : List (List (List Int))) : List (List (List Int)) := (List.range n).map (fun i => sR1 n m (A.getD i [])) ++ (List.range m).map (fun i => sR2 n (B.getD i []))
section
variable {n m : Nat} {A B : List (List Int)} {C D : List (List (List Int))}
theorem sP_len : (sP A B).length = A.length + B.length := by simp [sP]
theorem sB_len : (sB n m C D).length = n + m := by simp [sB]
theorem sP_1 {i : Nat} (h : i < A.length) : (sP A B).getD i [] = placeL 0 (A.getD i []) B.length := by
  unfold sP
  rw [List.getD_eq_getElem?_getD, List.getElem?_append_left (by rw [List.length_map]; exact h)]
  simp [h]
theorem sP_2 {i : Nat} (h : i < B.length) : (sP A B).getD (A.length + i) [] = placeL A.length (B.getD i []) 0 := by
  unfold sP
  rw [List.getD_eq_getElem?_getD, List.getElem?_append_right (by rw [List.length_map]; omega), List.length_map, Nat.add_sub_cancel_left]
  simp [h]
theorem sB_1 {i : Nat} (h : i < n) : (sB n m C D).getD i [] = sR1 n m (C.getD i []) := by
  unfold sB
  rw [List.getD_eq_getElem?_getD, List.getElem?_append_left (by simpa using h)]
  simp [h]
theorem sB_2 {i : Nat} (h : i < m) : (sB n m C D).getD (n + i) [] = sR2 n (D.getD i []) := by
  unfold sB
  rw [List.getD_eq_getElem?_getD, List.getElem?_append_right (by simp), List.length_map, List.length_range, Nat.add_sub_cancel_left]
  simp [h]
theorem sR1_len {b : List (List Int)} : (sR1 n m b).length = b.length + m := by simp [sR1]
theorem sR2_len {b : List (List Int)} : (sR2 n b).length = b.length := by simp [sR2]
theorem sR1_get {b : List (List Int)} {k : Nat} (h : k < b.length) : (sR1 n m b).getD k [] = placeL 0 (b.getD k []) m := by
  unfold sR1
  rw [List.getD_eq_getElem?_getD, List.getElem?_append_left (by rw [List.length_map]; exact h)]
  simp [h]
theorem sR1_get2 {b : List (List Int)} {k : Nat} (h : b.length ≤ k) (h2 : k < b.length + m) : (sR1 n m b).getD k [] = zrow (n + m) := by
  unfold sR1
  rw [List.getD_eq_getElem?_getD, List.getElem?_append_right (by rw [List.length_map]; exact h), List.length_map]
  simp [show k - b.length < m by omega]
theorem sR2_get {b : List (List Int)} {k : Nat} (h : k < b.length) : (sR2 n b).getD k [] = placeL n (b.getD k []) 0 := by simp [sR2, h]
theorem sR1_drop {b : List (List Int)} {q : Nat} (hq : q = b.length + m) : (sR1 n m b).drop b.length = (List.replicate q (zrow (n + m))).drop b.length := by
  subst hq
  unfold sR1
  rw [List.drop_append_of_le_length (by rw [List.length_map]; exact Nat.le_refl _), List.drop_eq_nil_of_le (by rw [List.length_map]; exact Nat.le_refl _), List.drop_replicate]
  simp
theorem sR2_drop {b : List (List Int)} {q : Nat} (hq : q = b.length) : (sR2 n b).drop b.length = (List.replicate q (zrow (n + m))).drop b.length := by
  subst hq
  rw [List.drop_eq_nil_of_le (by rw [sR2_len]; exact Nat.le_refl _), List.drop_eq_nil_of_le (by simp)]
theorem sum_shp (hA : A.length = n) (hB : B.length = m) (hC : ∀ i, i < n → (C.getD i []).length + 1 + i = n) (hD : ∀ i, i < m → (D.getD i []).length + 1 + i = m) : Shp (n + m) (sP A B) (sB n m C D) := by
  refine ⟨by rw [sP_len, hA, hB], sB_len, fun a ha => ?_⟩
  rcases Nat.lt_or_ge a n with h | h
  · have := hC a h
    rw [sB_1 h, sR1_len]; omega
  · obtain ⟨i, rfl⟩ : ∃ i, a = n + i := ⟨a - n, by omega⟩
    have := hD i (by omega)
    rw [sB_2 (by omega), sR2_len]; omega
end
end Go.Proofs.Ytbhlindlcfeppaa
