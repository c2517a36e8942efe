/-
  Rings of one's own whose rows are written one by one; the ring with zero relations, by the program.
-/
import Derived.Test.YtbhlindlcfeppaaTi
import Derived.Test.YtbhlindlcfeppaaAvT
set_option linter.unusedVariables false
set_option linter.unusedSimpArgs false
namespace Go.Proofs.Ytbhlindlcfeppaa

theorem OwL.split {H : HP} : ∀ {rs Xs : List AV} {ids : List Nat}, OwL H rs Xs ids → ∀ {a : Nat}, a < rs.length → ∃ il is ir, ids = il ++ (is ++ ir) ∧ OwL H (rs.take a) (Xs.take a) il ∧ Ow H (rs.getD a .j) (Xs.getD a .j) is ∧ OwL H (rs.drop (a + 1)) (Xs.drop (a + 1)) ir := by
  intro rs
  induction rs with
  | nil => intro Xs ids h a ha; simp at ha
  | cons c rs ih =>
    intro Xs ids h a ha
    cases h with
    | cons x y xs ys is js h1 h2 =>
      cases a with
      | zero => exact ⟨[], is, js, rfl, .nil, h1, by simpa using h2⟩
      | succ a =>
        obtain ⟨il, is', ir, rfl, g1, g2, g3⟩ := ih h2 (a := a) (by simpa using ha)
        exact ⟨is ++ il, is', ir, by simp, .cons _ _ _ _ _ _ h1 g1, by simpa using g2, by simpa using g3⟩
theorem OwL.put {H : HP} {rs Xs : List AV} {il is ir : List Nat} {a : Nat} {r X : AV} (h1 : OwL H (rs.take a) (Xs.take a) il) (h2 : Ow H r X is) (h3 : OwL H (rs.drop (a + 1)) (Xs.drop (a + 1)) ir) (ha : a < rs.length) (hX : a < Xs.length) : OwL H (rs.set a r) (Xs.set a X) (il ++ (is ++ ir)) := by
  rw [List.set_eq_take_append_cons_drop, if_pos ha, List.set_eq_take_append_cons_drop, if_pos hX]
  exact OwL.append h1 (.cons _ _ _ _ _ _ h2 h3)

theorem nodup_swap {A B la ls : List Nat} (h : (A ++ (la ++ B)).Nodup) (hs : ls.Nodup) (hd : ∀ x ∈ ls, x ∉ A ∧ x ∉ B) : (A ++ (ls ++ B)).Nodup := by
  rw [List.nodup_append] at h ⊢
  obtain ⟨h1, h2, h3⟩ := h
  rw [List.nodup_append] at h2 ⊢
  refine ⟨h1, ⟨hs, h2.2.1, fun x hx y hy e => (hd x hx).2 (e ▸ hy)⟩, fun x hx y hy e => ?_⟩
  rcases List.mem_append.1 hy with hy | hy
  · exact (hd y hy).1 (e ▸ hx)
  · exact h3 x hx y (List.mem_append_right _ hy) e

/-- The parts of a ring, of one's own. -/
def RgO (a m : Nat) (H : HP) (P B : AV) (X : List (List Int)) (Y : List (List (List Int))) : Prop := ∃ is js, Ow H P (rows X) is ∧ Ow H B (cubes Y) js ∧ (is ++ js).Nodup ∧ ∀ i ∈ is ++ js, a ≤ i ∧ i < m
theorem RgO.keep {a m m' : Nat} {H H' : HP} {P B : AV} {X : List (List Int)} {Y : List (List (List Int))} (h : RgO a m H P B X Y) (hk : ∀ i, a ≤ i → i < m → H' i = H i) (hm : m ≤ m') : RgO a m' H' P B X Y := by
  obtain ⟨is, js, h1, h2, h3, h4⟩ := h
  exact ⟨is, js, h1.keep fun i hi => hk i (h4 i (by simp [hi])).1 (h4 i (by simp [hi])).2, h2.keep fun i hi => hk i (h4 i (by simp [hi])).1 (h4 i (by simp [hi])).2, h3, fun i hi => by have := h4 i hi; omega⟩
theorem RgO.own {a m : Nat} {H : HP} {p : Int} {P B : AV} {X : List (List Int)} {Y : List (List (List Int))} (h : RgO a m H P B X Y) : ∃ ids, Own a m H (.g [.i .i64 p, P, B]) (Go.Proofs.Ytbhlindlcfeppaa.ring p X Y) ids := by
  obtain ⟨is, js, h1, h2, h3, h4⟩ := h
  exact ⟨_, .g _ _ _ (.cons _ _ _ _ _ _ (.leaf _ (.i _ _) (.i _ _)) (.cons _ _ _ _ _ _ h1 (.cons _ _ _ _ _ _ h2 .nil))), by simpa using h3, by simpa using h4⟩
theorem RgO.of {a m : Nat} {H : HP} {p : Int} {r : AV} {X : List (List Int)} {Y : List (List (List Int))} {ids : List Nat} (h : Own a m H r (Go.Proofs.Ytbhlindlcfeppaa.ring p X Y) ids) : ∃ P B, r = .g [.i .i64 p, P, B] ∧ one P = true ∧ one B = true ∧ RgO a m H P B X Y := by
  obtain ⟨h1, h2, h3⟩ := h
  obtain ⟨r1, r2, is, js, rfl, rfl, g1, g2⟩ := h1.ring_inv
  exact ⟨r1, r2, rfl, one_ow g1, one_ow g2, is, js, g1, g2, h2, h3⟩
theorem RgO.p {a m : Nat} {H : HP} {P B : AV} {X : List (List Int)} {Y : List (List (List Int))} (h : RgO a m H P B X Y) (hX : 0 < X.length) : ∃ id rs, P = .h id 0 X.length ∧ H id = some rs ∧ rs.length = X.length ∧ a ≤ id ∧ id < m := by
  obtain ⟨is, js, h1, h2, h3, h4⟩ := h
  rcases h1.rows_inv with ⟨rfl, _⟩ | ⟨id, rs, ks, rfl, rfl, g1, g2, g3⟩
  · simp at hX
  · exact ⟨id, rs, rfl, g2, g1, (h4 id (by simp)).1, (h4 id (by simp)).2⟩
theorem RgO.setP {a m m1 id k : Nat} {H H1 : HP} {B r1 : AV} {X : List (List Int)} {Y : List (List (List Int))} {rs : List AV} {x : List Int} {ids1 : List Nat} (h : RgO a m H (.h id 0 X.length) B X Y) (hid : H id = some rs) (hk : k < X.length) (ho : Own m m1 H1 r1 (ints x) ids1) (hH : ∀ i, i < m → H1 i = H i) (hm : m ≤ m1) (ham : a ≤ m) :
    RgO a m1 (upd H1 id (some (rs.set k r1))) (.h id 0 X.length) B (X.set k x) Y := by
  obtain ⟨is, js, h1, h2, h3, h4⟩ := h
  rcases h1.rows_inv with ⟨rfl, _⟩ | ⟨id', rs', ks, e1, rfl, g1, g2, g3⟩
  · simp at hk
  cases e1
  rw [hid] at g2; cases g2
  obtain ⟨o1, o2, o3⟩ := ho
  rw [List.cons_append] at h3 h4
  obtain ⟨n1, n2⟩ := List.nodup_cons.1 h3
  obtain ⟨n3, n4, n5⟩ := List.nodup_append.1 n2
  have hidb := h4 id (by simp)
  have hk1 : ∀ i, i < m → i ≠ id → upd H1 id (some (rs.set k r1)) i = H i := fun i hi hne => by rw [upd_ne _ _ hne]; exact hH i hi
  have hks : ∀ i ∈ ks, upd H1 id (some (rs.set k r1)) i = H i := fun i hi => hk1 i (h4 i (by simp [hi])).2 (fun e => n1 (by rw [← e]; simp [hi]))
  obtain ⟨il, ia, ir, rfl, s1, s2, s3⟩ := (g3.keep hks).split (a := k) (by omega)
  have s4 := OwL.put s1 (o1.keep (H' := upd H1 id (some (rs.set k r1))) fun i hi => upd_ne _ _ (by have := o3 i hi; omega)) s3 (by omega) (by simp; omega)
  rw [← List.map_set] at s4
  refine ⟨id :: (il ++ (ids1 ++ ir)), js, ?_, h2.keep fun i hi => hk1 i (h4 i (by simp [hi])).2 (fun e => n1 (by rw [← e]; simp [hi])), ?_, ?_⟩
  · have := Ow.h id _ _ _ (upd_same H1 id (some (rs.set k r1))) s4
    rw [List.length_set, g1] at this
    unfold rows
    rw [List.length_set]; exact this
  · rw [List.cons_append, List.nodup_cons]
    obtain ⟨q1, q2, q3⟩ := List.nodup_append.1 n3
    obtain ⟨q4, q5, q6⟩ := List.nodup_append.1 q2
    refine ⟨?_, ?_⟩
    · intro hm'
      simp only [List.mem_append] at hm' n1
      rcases hm' with (hm' | hm' | hm') | hm'
      · exact n1 (.inl (.inl hm'))
      · have := o3 id hm'; omega
      · exact n1 (.inl (.inr (.inr hm')))
      · exact n1 (.inr hm')
    · rw [List.nodup_append]
      refine ⟨?_, n4, ?_⟩
      · rw [List.nodup_append, List.nodup_append]
        refine ⟨q1, ⟨o2, q5, fun x hx y hy e => ?_⟩, fun x hx y hy e => ?_⟩
        · have := o3 x hx; have := h4 y (by simp [hy]); omega
        · rcases List.mem_append.1 hy with hy | hy
          · have := o3 y hy; have := h4 x (by simp [hx]); omega
          · exact q3 x hx y (by simp [hy]) e
      · intro x hx y hy e
        simp only [List.mem_append] at hx
        rcases hx with hx | hx | hx
        · exact n5 x (by simp [hx]) y hy e
        · have := o3 x hx; have := h4 y (by simp [hy]); omega
        · exact n5 x (by simp [hx]) y hy e
  · intro i hi
    simp only [List.cons_append, List.mem_cons, List.mem_append] at hi
    rcases hi with rfl | (hi | hi | hi) | hi
    · omega
    · have := h4 i (by simp [hi]); omega
    · have := o3 i hi; omega
    · have := h4 i (by simp [hi]); omega
    · have := h4 i (by simp [hi]); omega
theorem RgO.b {a m k : Nat} {H : HP} {P B : AV} {X : List (List Int)} {Y : List (List (List Int))} (h : RgO a m H P B X Y) (hk : k < Y.length) (hy : 0 < (Y.getD k []).length) : ∃ id bs q cs, B = .h id 0 Y.length ∧ H id = some bs ∧ bs.length = Y.length ∧ bs.getD k .j = .h q 0 (Y.getD k []).length ∧ H q = some cs ∧ cs.length = (Y.getD k []).length ∧ (a ≤ id ∧ id < m) ∧ a ≤ q ∧ q < m := by
  obtain ⟨is, js, h1, h2, h3, h4⟩ := h
  rcases h2.cubes_inv with ⟨rfl, _⟩ | ⟨id, bs, ks, rfl, rfl, g1, g2, g3⟩
  · simp at hk
  · obtain ⟨il, ia, ir, rfl, s1, s2, s3⟩ := g3.split (a := k) (by omega)
    rw [gd_c hk] at s2
    rcases s2.rows_inv with ⟨e, _⟩ | ⟨q, cs, ls, e, rfl, t1, t2, t3⟩
    · rw [e] at hy; simp at hy
    · exact ⟨id, bs, q, cs, rfl, g2, g1, e, t2, t1, h4 id (by simp), h4 q (by simp)⟩
theorem RgO.setB {a m m1 id q k l : Nat} {H H1 : HP} {P B r1 : AV} {X : List (List Int)} {Y : List (List (List Int))} {bs cs : List AV} {x : List Int} {ids1 : List Nat} (h : RgO a m H P (.h id 0 Y.length) X Y) (hid : H id = some bs) (hk : k < Y.length) (hl : l < (Y.getD k []).length) (hq : bs.getD k .j = .h q 0 (Y.getD k []).length) (hc : H q = some cs) (ho : Own m m1 H1 r1 (ints x) ids1) (hH : ∀ i, i < m → H1 i = H i) (hm : m ≤ m1) (ham : a ≤ m) :
    RgO a m1 (upd H1 q (some (cs.set l r1))) P (.h id 0 Y.length) X (Y.set k ((Y.getD k []).set l x)) := by
  obtain ⟨is, js, h1, h2, h3, h4⟩ := h
  rcases h2.cubes_inv with ⟨rfl, _⟩ | ⟨id', bs', ks, e1, rfl, g1, g2, g3⟩
  · simp at hk
  cases e1
  rw [hid] at g2; cases g2
  obtain ⟨il, ia, ir, rfl, s1, s2, s3⟩ := g3.split (a := k) (by omega)
  rw [gd_c hk, hq] at s2
  rcases s2.rows_inv with ⟨e, _⟩ | ⟨q', cs', ls, e2, rfl, t1, t2, t3⟩
  · rw [e] at hl; simp at hl
  cases e2
  rw [hc] at t2; cases t2
  obtain ⟨ll, la, lr, rfl, u1, u2, u3⟩ := t3.split (a := l) (by omega)
  obtain ⟨o1, o2, o3⟩ := ho
  have hq4 := h4 q (by simp)
  have hid4 := h4 id (by simp)
  have hk1 : ∀ i, i < m → i ≠ q → upd H1 q (some (cs.set l r1)) i = H i := fun i hi hne => by rw [upd_ne _ _ hne]; exact hH i hi
  -- all blocks but q stand where they stood
  have hcnt : ∀ i, i ∈ is ∨ i = id ∨ i ∈ il ∨ i ∈ ll ∨ i ∈ la ∨ i ∈ lr ∨ i ∈ ir → i ≠ q := by
    intro i hi e
    subst e
    have n := h3
    simp only [List.nodup_append, List.nodup_cons, List.mem_append, List.mem_cons, not_or] at n
    grind
  have hb4 : ∀ i, i ∈ is ∨ i = id ∨ i ∈ il ∨ i ∈ ll ∨ i ∈ la ∨ i ∈ lr ∨ i ∈ ir → a ≤ i ∧ i < m := by
    intro i hi
    refine h4 i ?_
    simp only [List.mem_append, List.mem_cons]
    grind
  have hall : ∀ i, i ∈ is ∨ i = id ∨ i ∈ il ∨ i ∈ ll ∨ i ∈ la ∨ i ∈ lr ∨ i ∈ ir → upd H1 q (some (cs.set l r1)) i = H i := fun i hi => hk1 i (hb4 i hi).2 (hcnt i hi)
  have v1 := OwL.put (u1.keep fun i hi => hall i (by simp [hi])) (o1.keep (H' := upd H1 q (some (cs.set l r1))) fun i hi => upd_ne _ _ (by have := o3 i hi; omega)) (u3.keep fun i hi => hall i (by simp [hi])) (by omega) (by rw [List.length_map]; exact hl)
  rw [← List.map_set] at v1
  have v2 := Ow.h q _ _ _ (upd_same H1 q (some (cs.set l r1))) v1
  rw [List.length_set, t1] at v2
  have v3 : Ow (upd H1 q (some (cs.set l r1))) (bs.getD k .j) (rows ((Y.getD k []).set l x)) (q :: (ll ++ (ids1 ++ lr))) := by
    rw [hq]
    unfold rows
    rw [List.length_set]; exact v2
  have v4 := OwL.put (s1.keep fun i hi => hall i (by simp [hi])) v3 (s3.keep fun i hi => hall i (by simp [hi])) (by omega) (by simp; omega)
  rw [← List.map_set] at v4
  have hset : bs.set k (bs.getD k .j) = bs := by
    apply List.ext_getElem?
    intro i
    rw [List.getElem?_set]
    split
    · rename_i e
      subst e
      rw [if_pos (by omega), List.getD_eq_getElem?_getD, List.getElem?_eq_getElem (by omega)]; rfl
    · rfl
  rw [hset] at v4
  refine ⟨is, id :: (il ++ (q :: (ll ++ (ids1 ++ lr)) ++ ir)), h1.keep fun i hi => hall i (by simp [hi]), ?_, ?_, ?_⟩
  · have := Ow.h id _ _ _ ((hall id (by simp)).trans hid) v4
    rw [g1] at this
    unfold cubes
    rw [List.length_set]; exact this
  · have e1 : is ++ id :: (il ++ (q :: (ll ++ (la ++ lr)) ++ ir)) = (is ++ id :: (il ++ q :: ll)) ++ (la ++ (lr ++ ir)) := by simp
    have e2 : is ++ id :: (il ++ (q :: (ll ++ (ids1 ++ lr)) ++ ir)) = (is ++ id :: (il ++ q :: ll)) ++ (ids1 ++ (lr ++ ir)) := by simp
    rw [e2]
    rw [e1] at h3 h4
    exact nodup_swap h3 o2 fun x hx => ⟨fun hm => by have := h4 x (List.mem_append_left _ hm); have := o3 x hx; omega, fun hm => by have := h4 x (List.mem_append_right _ (List.mem_append_right _ hm)); have := o3 x hx; omega⟩
  · intro i hi
    simp only [List.mem_append, List.mem_cons] at hi
    have hx : ∀ i ∈ ids1, m ≤ i ∧ i < m1 := o3
    by_cases hi1 : i ∈ ids1
    · have := o3 i hi1; omega
    · have := h4 i (by simp only [List.mem_append, List.mem_cons]; grind)
      omega

/-- Two lists of one's own under construction. -/
structure ZrO (a m : Nat) (H : HP) (o1 o2 : Option Nat) (rs bs : List AV) (X Y : List AV) : Prop where
  ex : ∃ is js, OwL H rs X is ∧ OwL H bs Y js ∧ (is ++ js).Nodup ∧ (∀ i ∈ is ++ js, a ≤ i ∧ i < m) ∧ (∀ id, (o1 = some id ∨ o2 = some id) → id ∉ is ++ js)
  h1 : ∀ id, o1 = some id → H id = some rs ∧ a ≤ id ∧ id < m
  h2 : ∀ id, o2 = some id → H id = some bs ∧ a ≤ id ∧ id < m
  ne : ∀ i j, o1 = some i → o2 = some j → i ≠ j
theorem ZrO.start {a m : Nat} {H : HP} : ZrO a m H none none [] [] [] [] := ⟨⟨[], [], .nil, .nil, by simp, by simp, by simp⟩, by simp, by simp, by simp⟩
theorem ZrO.swap {a m : Nat} {H : HP} {o1 o2 : Option Nat} {rs bs X Y : List AV} (h : ZrO a m H o1 o2 rs bs X Y) : ZrO a m H o2 o1 bs rs Y X := by
  obtain ⟨⟨is, js, g1, g2, g3, g4, g5⟩, h1, h2, h3⟩ := h
  refine ⟨⟨js, is, g2, g1, ?_, fun i hi => g4 i (by simpa [or_comm] using hi), fun id hid => ?_⟩, h2, h1, fun i j q1 q2 e => h3 j i q2 q1 e.symm⟩
  · obtain ⟨n1, n2, n3⟩ := List.nodup_append.1 g3
    exact List.nodup_append.2 ⟨n2, n1, fun x hx y hy e => n3 y hy x hx e.symm⟩
  · have := g5 id hid.symm
    simpa [and_comm] using this
theorem ZrO.keep {a m m' : Nat} {H H' : HP} {o1 o2 : Option Nat} {rs bs X Y : List AV} (h : ZrO a m H o1 o2 rs bs X Y) (hk : ∀ i, a ≤ i → i < m → H' i = H i) (hm : m ≤ m') : ZrO a m' H' o1 o2 rs bs X Y := by
  obtain ⟨⟨is, js, g1, g2, g3, g4, g5⟩, h1, h2, h3⟩ := h
  refine ⟨⟨is, js, g1.keep fun i hi => hk i (g4 i (by simp [hi])).1 (g4 i (by simp [hi])).2, g2.keep fun i hi => hk i (g4 i (by simp [hi])).1 (g4 i (by simp [hi])).2, g3, fun i hi => by have := g4 i hi; omega, g5⟩, fun id hid => ?_, fun id hid => ?_, h3⟩
  · obtain ⟨q1, q2, q3⟩ := h1 id hid
    exact ⟨(hk id q2 q3).trans q1, q2, by omega⟩
  · obtain ⟨q1, q2, q3⟩ := h2 id hid
    exact ⟨(hk id q2 q3).trans q1, q2, by omega⟩
theorem ZrO.push {a m m1 m2 id2 : Nat} {H H' : HP} {o1 o2 : Option Nat} {rs bs X Y : List AV} {r X1 : AV} {ids1 : List Nat} (h : ZrO a m H o1 o2 rs bs X Y) (ho : Own m m1 H' r X1 ids1) (hk : ∀ i, a ≤ i → i < m → o2 ≠ some i → H' i = H i) (hc : H' id2 = some (bs ++ [r])) (hm : m ≤ m1) (h1 : m1 ≤ id2) (h2 : id2 < m2) (ham : a ≤ m) : ZrO a m2 H' o1 (some id2) rs (bs ++ [r]) X (Y ++ [X1]) := by
  obtain ⟨⟨is, js, g1, g2, g3, g4, g5⟩, q1, q2, q3⟩ := h
  obtain ⟨w1, w2, w3⟩ := ho
  have hk2 : ∀ i ∈ is ++ js, H' i = H i := fun i hi => hk i (g4 i hi).1 (g4 i hi).2 (fun e => g5 i (.inr e) hi)
  refine ⟨⟨is, js ++ ids1, g1.keep fun i hi => hk2 i (by simp [hi]), ?_, ?_, ?_, ?_⟩, fun id hid => ?_, ?_, ?_⟩
  · have := OwL.append (g2.keep fun i hi => hk2 i (by simp [hi])) (.cons _ _ [] [] ids1 [] w1 .nil)
    simpa using this
  · rw [← List.append_assoc, List.nodup_append]
    exact ⟨g3, w2, fun x hx y hy e => by have := g4 x hx; have := w3 y hy; omega⟩
  · intro i hi
    rw [← List.append_assoc] at hi
    rcases List.mem_append.1 hi with hi | hi
    · have := g4 i hi; omega
    · have := w3 i hi; omega
  · intro id hid hi
    rw [← List.append_assoc] at hi
    rcases hid with hid | hid
    · rcases List.mem_append.1 hi with hi | hi
      · exact g5 id (.inl hid) hi
      · have := w3 id hi; have := (q1 id hid).2; omega
    · cases hid
      rcases List.mem_append.1 hi with hi | hi
      · have := g4 _ hi; omega
      · have := w3 _ hi; omega
  · obtain ⟨e1, e2, e3⟩ := q1 id hid
    exact ⟨(hk id e2 e3 (fun e => q3 id id hid e rfl)).trans e1, e2, by omega⟩
  · rintro id hid
    cases hid
    exact ⟨hc, by omega, h2⟩
  · rintro i j hi hj
    cases hj
    have := (q1 i hi).2; omega
theorem ZrO.fin {a m : Nat} {H : HP} {p : Int} {o1 o2 : Option Nat} {rs bs : List AV} {X : List (List Int)} {Y : List (List (List Int))} {P B : AV} (h : ZrO a m H o1 o2 rs bs (X.map Go.Proofs.Ytbhlindlcfeppaa.ints) (Y.map rows)) (hP : P = oA o1 X.length) (hB : B = oA o2 Y.length) (n1 : o1 = none → X = []) (n2 : o2 = none → Y = []) : ∃ ids, Own a m H (.g [.i .i64 p, P, B]) (Go.Proofs.Ytbhlindlcfeppaa.ring p X Y) ids := by
  obtain ⟨⟨is, js, g1, g2, g3, g4, g5⟩, q1, q2, q3⟩ := h
  have l1 := g1.len
  have l2 := g2.len
  rw [List.length_map] at l1 l2
  have e1 : ∃ ks, Ow H P (rows X) ks ∧ (ks = is ∨ ∃ id, o1 = some id ∧ ks = id :: is) := by
    cases o1 with
    | none =>
      have := n1 rfl
      subst this hP
      cases g1 with
      | nil => exact ⟨[], .nl, .inl rfl⟩
    | some id =>
      subst hP
      have := Ow.h id _ _ _ (q1 id rfl).1 g1
      rw [← l1] at this
      exact ⟨_, this, .inr ⟨id, rfl, rfl⟩⟩
  have e2 : ∃ ks, Ow H B (cubes Y) ks ∧ (ks = js ∨ ∃ id, o2 = some id ∧ ks = id :: js) := by
    cases o2 with
    | none =>
      have := n2 rfl
      subst this hB
      cases g2 with
      | nil => exact ⟨[], .nl, .inl rfl⟩
    | some id =>
      subst hB
      have := Ow.h id _ _ _ (q2 id rfl).1 g2
      rw [← l2] at this
      exact ⟨_, this, .inr ⟨id, rfl, rfl⟩⟩
  obtain ⟨k1, w1, c1⟩ := e1
  obtain ⟨k2, w2, c2⟩ := e2
  have hR : RgO a m H P B X Y := by
    refine ⟨k1, k2, w1, w2, ?_, ?_⟩
    · rcases c1 with rfl | ⟨i1, t1, rfl⟩ <;> rcases c2 with rfl | ⟨i2, t2, rfl⟩
      · exact g3
      · have h5 := g5 i2 (.inr t2)
        obtain ⟨m1, m2, m3⟩ := List.nodup_append.1 g3
        simp only [List.mem_append, not_or] at h5
        exact List.nodup_append.2 ⟨m1, List.nodup_cons.2 ⟨h5.2, m2⟩, fun x hx y hy e => by
          rcases List.mem_cons.1 hy with rfl | hy
          · exact h5.1 (e ▸ hx)
          · exact m3 x hx y hy e⟩
      · rw [List.cons_append, List.nodup_cons]; exact ⟨g5 i1 (.inl t1), g3⟩
      · have h5 := g5 i2 (.inr t2)
        have h6 := g5 i1 (.inl t1)
        have h7 := q3 i1 i2 t1 t2
        obtain ⟨m1, m2, m3⟩ := List.nodup_append.1 g3
        simp only [List.mem_append, not_or] at h5 h6
        rw [List.cons_append, List.nodup_cons, List.nodup_append, List.nodup_cons]
        refine ⟨by simp [h6.1, h6.2, h7], m1, ⟨h5.2, m2⟩, fun x hx y hy e => ?_⟩
        rcases List.mem_cons.1 hy with rfl | hy
        · exact h5.1 (e ▸ hx)
        · exact m3 x hx y hy e
    · intro i hi
      rcases List.mem_append.1 hi with hi | hi
      · rcases c1 with rfl | ⟨i1, t1, rfl⟩
        · exact g4 i (by simp [hi])
        · rcases List.mem_cons.1 hi with rfl | hi
          · exact (q1 _ t1).2
          · exact g4 i (by simp [hi])
      · rcases c2 with rfl | ⟨i2, t2, rfl⟩
        · exact g4 i (by simp [hi])
        · rcases List.mem_cons.1 hi with rfl | hi
          · exact (q2 _ t2).2
          · exact g4 i (by simp [hi])
  exact hR.own
end Go.Proofs.Ytbhlindlcfeppaa
