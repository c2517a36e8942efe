import Derived.Test.YtnlfbimjcabgiaaZ47
set_option linter.unusedVariables false
set_option linter.unusedSimpArgs false
namespace Go.Proofs.Ytnlfbimjcabgiaa
open Nat (reduceAdd reduceSub reduceGT reduceEqDiff reduceMul)
structure CtI (a m ob f1 f2 : Nat) (G : HP) (c : Nat) (col : Nat → List Int) (rs : List AV) (ids : Nat → Nat) : Prop where
  at' : G ob = some rs
  len : rs.length = c
  row : ∀ g, g < c → (col g = [] ∧ rs.getD g .j = .nl) ∨ (0 < (col g).length ∧ rs.getD g .j = .h (ids g) 0 (col g).length ∧ G (ids g) = some ((col g).map (.i .i64)) ∧ (a ≤ ids g ∧ ids g < m) ∧ ids g ≠ ob ∧ ids g ≠ f1 ∧ ids g ≠ f2)
  dis : ∀ g g', g < c → g' < c → g ≠ g' → 0 < (col g).length → 0 < (col g').length → ids g ≠ ids g'
  lo : a ≤ ob
  hi : ob < m
theorem CtI.start {a m ob f1 f2 : Nat} {G : HP} {c : Nat} {col : Nat → List Int} (h : G ob = some (List.replicate c .nl)) (h1 : a ≤ ob) (h2 : ob < m) (hc : ∀ g, g < c → col g = []) : CtI a m ob f1 f2 G c col (List.replicate c .nl) (fun _ => 0) :=
  ⟨h, by simp, fun g hg => .inl ⟨hc g hg, by simp [hg]⟩, fun g g' hg _ _ q => by rw [hc g hg] at q; simp at q, h1, h2⟩
theorem CtI.mm {a m m' ob f1 f2 : Nat} {G : HP} {c : Nat} {col : Nat → List Int} {rs : List AV} {ids : Nat → Nat} (h : CtI a m ob f1 f2 G c col rs ids) (hm : m ≤ m') : CtI a m' ob f1 f2 G c col rs ids :=
  ⟨h.at', h.len, fun g hg => (h.row g hg).imp id fun ⟨a1, a2, a3, a4, a5⟩ => ⟨a1, a2, a3, by omega, a5⟩, h.dis, h.lo, by have := h.hi; omega⟩
theorem CtI.cong {a m ob f1 f2 : Nat} {G : HP} {c : Nat} {col col' : Nat → List Int} {rs : List AV} {ids : Nat → Nat} (h : CtI a m ob f1 f2 G c col rs ids) (hc : ∀ g, g < c → col' g = col g) : CtI a m ob f1 f2 G c col' rs ids :=
  ⟨h.at', h.len, fun g hg => by rw [hc g hg]; exact h.row g hg, fun g g' hg hg' hne q1 q2 => h.dis g g' hg hg' hne (by rwa [hc g hg] at q1) (by rwa [hc g' hg'] at q2), h.lo, h.hi⟩
theorem CtI.set {a m m' ob f1 f2 f1' : Nat} {G G' : HP} {c : Nat} {col : Nat → List Int} {rs : List AV} {ids : Nat → Nat} (h : CtI a m ob f1 f2 G c col rs ids) {g : Nat} (hg : g < c) {v : Int} {nid : Nat} (hn : m ≤ nid) (hn' : nid < m') (hm : m ≤ m')
    (hG1 : G' nid = some ((col g ++ [v]).map (.i .i64))) (hG2 : G' ob = some (rs.set g (.h nid 0 ((col g).length + 1)))) (hf1 : f1' = f1 ∨ m ≤ f1') (hf2 : f2 < m) (hnf : nid ≠ f1')
    (hG3 : ∀ i, i < m → i ≠ ob → i ≠ f1 → i ≠ f2 → (0 < (col g).length → i ≠ ids g) → G' i = G i) (hf0 : f1 < m) :
    CtI a m' ob f1' f2 G' c (fun k => if k = g then col g ++ [v] else col k) (rs.set g (.h nid 0 ((col g).length + 1))) (fun k => if k = g then nid else ids k) := by
  have hlo := h.lo
  have hhi := h.hi
  refine ⟨hG2, by rw [List.length_set]; exact h.len, fun k hk => ?_, fun k k' hk hk' hne q1 q2 => ?_, hlo, by omega⟩
  · by_cases e : k = g
    · subst e
      refine .inr ⟨by simp, ?_, ?_, ?_⟩
      · simp only [if_true, List.length_append, List.length_cons, List.length_nil]
        rw [List.getD_eq_getElem?_getD, List.getElem?_set_self (by rw [h.len]; exact hk)]; rfl
      · simp only [if_true]; exact hG1
      · simp only [if_true]; exact ⟨by omega, by omega, hnf, by omega⟩
    · simp only [e, if_false]
      have hget : (rs.set g (.h nid 0 ((col g).length + 1))).getD k .j = rs.getD k .j := by
        simp only [List.getD_eq_getElem?_getD]
        rw [List.getElem?_set_ne (fun q => e q.symm)]
      rw [hget]
      rcases h.row k hk with q | ⟨a1, a2, a3, a4, a5, a6, a7⟩
      · exact .inl q
      · refine .inr ⟨a1, a2, ?_, by omega, a5, ?_, a7⟩
        · rw [hG3 _ a4.2 a5 a6 a7 (fun q => fun e2 => h.dis k g hk hg e a1 q e2)]; exact a3
        · rcases hf1 with q | q
          · rw [q]; exact a6
          · omega
  · have key : ∀ k, k < c → k ≠ g → 0 < (col k).length → ids k < m := fun k hk e q => by
      rcases h.row k hk with ⟨q1, _⟩ | ⟨_, _, _, a4, _⟩
      · rw [q1] at q; simp at q
      · exact a4.2
    by_cases e : k = g
    · have e' : k' ≠ g := fun q => hne (by rw [e, q])
      simp only [e, e', if_true, if_false] at q2 ⊢
      have := key k' hk' e' q2
      omega
    · by_cases e' : k' = g
      · simp only [e, e', if_true, if_false] at q1 ⊢
        have := key k hk e q1
        omega
      · simp only [e, e', if_false] at q1 q2 ⊢
        exact h.dis k k' hk hk' hne q1 q2
theorem CtI.own {a m ob f1 f2 : Nat} {G : HP} {c : Nat} {col : Nat → List Int} {rs : List AV} {ids : Nat → Nat} (h : CtI a m ob f1 f2 G c col rs ids) : ∃ is, Own a m G (.h ob 0 c) (rows ((List.range c).map col)) is := by
  have go : ∀ k, k ≤ c → ∃ L, OwL G (rs.take k) ((List.range k).map fun g => ints (col g)) L ∧ L.Nodup ∧ (∀ i ∈ L, (a ≤ i ∧ i < m) ∧ i ≠ ob) ∧ ∀ i ∈ L, ∃ g, g < k ∧ 0 < (col g).length ∧ i = ids g := by
    intro k
    induction k with
    | zero => intro _; exact ⟨[], .nil, by simp, by simp, by simp⟩
    | succ k ih =>
      intro hk
      obtain ⟨L, l1, l2, l3, l4⟩ := ih (by omega)
      have e1 : rs.take (k + 1) = rs.take k ++ [rs.getD k .j] := by
        rw [List.take_add_one]
        congr 1
        simp [show k < rs.length by rw [h.len]; omega]
      rw [e1, List.range_succ, List.map_append]
      rcases h.row k (by omega) with ⟨q1, q2⟩ | ⟨a1, a2, a3, a4, a5, a6, a7⟩
      · refine ⟨L ++ ([] ++ []), OwL.append l1 (.cons _ _ _ _ _ _ ?_ .nil), by simpa using l2, by simpa using l3, ?_⟩
        · show Ow G (rs.getD k .j) (ints (col k)) []
          rw [q2, q1]; exact .nl
        · intro i hi
          obtain ⟨g, g1, g2, g3⟩ := l4 i (by simpa using hi)
          exact ⟨g, by omega, g2, g3⟩
      · have ho := (Own.ints (nx := a) (nx' := m) a3 rfl a4.1 a4.2).1
        have hnl : ids k ∉ L := fun hi => by
          obtain ⟨g, g1, g2, g3⟩ := l4 _ hi
          exact h.dis k g (by omega) (by omega) (by omega) a1 g2 g3
        refine ⟨L ++ ([ids k] ++ []), OwL.append l1 (.cons _ _ _ _ _ _ ?_ .nil), ?_, ?_, ?_⟩
        · show Ow G (rs.getD k .j) (ints (col k)) _
          rw [a2]; exact ho
        · rw [List.append_nil, List.nodup_append]
          exact ⟨l2, by simp, fun x hx y hy e => by rw [List.mem_singleton.1 hy] at e; subst e; exact hnl hx⟩
        · intro i hi
          rw [List.append_nil] at hi
          rcases List.mem_append.1 hi with q | q
          · exact l3 i q
          · rw [List.mem_singleton.1 q]; exact ⟨a4, a5⟩
        · intro i hi
          rw [List.append_nil] at hi
          rcases List.mem_append.1 hi with q | q
          · obtain ⟨g, g1, g2, g3⟩ := l4 i q
            exact ⟨g, by omega, g2, g3⟩
          · exact ⟨k, by omega, a1, List.mem_singleton.1 q⟩
  obtain ⟨L, l1, l2, l3, _⟩ := go c (Nat.le_refl _)
  have hl := h.len
  rw [List.take_of_length_le (by omega)] at l1
  have e : rows ((List.range c).map col) = .v rs.length ((List.range c).map fun g => ints (col g)) := by
    unfold rows
    rw [List.length_map, List.length_range, List.map_map, hl]
    rfl
  rw [e]
  have e3 : AV.h ob 0 c = .h ob 0 rs.length := by rw [hl]
  rw [e3]
  refine ⟨ob :: L, Ow.h ob rs _ L h.at' l1, List.nodup_cons.2 ⟨fun hi => (l3 ob hi).2 rfl, l2⟩, fun i hi => ?_⟩
  rcases List.mem_cons.1 hi with rfl | q
  · exact ⟨h.lo, h.hi⟩
  · exact (l3 i q).1
structure CsI (os : List Int) (a m ob idm idf : Nat) (G : HP) (c : Nat) (pts : List V) (col : Nat → List Int) (rs : List AV) (ids : Nat → Nat) : Prop where
  t : CtI a m ob idf idm G c col rs ids
  f : G idf = some (pts.map (vi os.length))
  p : G idm = some (mpF os 0 pts)
  n1 : idf ≠ ob
  n2 : idm ≠ ob
  n3 : idf ≠ idm
  b1 : a ≤ idf ∧ idf < m
  b2 : a ≤ idm ∧ idm < m
theorem CsI.mm {os : List Int} {a m m' ob idm idf : Nat} {G : HP} {c : Nat} {pts : List V} {col : Nat → List Int} {rs : List AV} {ids : Nat → Nat} (h : CsI os a m ob idm idf G c pts col rs ids) (hm : m ≤ m') : CsI os a m' ob idm idf G c pts col rs ids :=
  ⟨h.t.mm hm, h.f, h.p, h.n1, h.n2, h.n3, by have := h.b1; omega, by have := h.b2; omega⟩
theorem CsI.next {os : List Int} {a m m' ob idm idf idf' : Nat} {G G' : HP} {c : Nat} {pts pts' : List V} {col col' : Nat → List Int} {rs : List AV} {ids : Nat → Nat} (h : CsI os a m ob idm idf G c pts col rs ids) {g : Nat} (hg : g < c) {v : Int} {nid k : Nat} {cells : List AV}
    (hn : m ≤ nid) (hn' : nid < m') (hm : m ≤ m') (hk : (col g).length = k) (hcell : cells = (col g ++ [v]).map (.i .i64)) (hG1 : G' nid = some cells) (hG2 : G' ob = some (rs.set g (.h nid 0 (k + 1)))) (hf' : idf' = idf ∨ (m ≤ idf' ∧ idf' < m')) (hne : nid ≠ idf')
    (hF : G' idf' = some (pts'.map (vi os.length))) (hP : G' idm = some (mpF os 0 pts')) (hG3 : ∀ i, i < m → i ≠ ob → i ≠ idf → i ≠ idm → (0 < k → i ≠ ids g) → G' i = G i) (hcol : ∀ k', k' < c → col' k' = if k' = g then col g ++ [v] else col k') :
    CsI os a m' ob idm idf' G' c pts' col' (rs.set g (.h nid 0 (k + 1))) (fun k => if k = g then nid else ids k) := by
  subst hcell
  have b1 := h.b1
  have b2 := h.b2
  have hhi := h.t.hi
  have n1 := h.n1
  have n3 := h.n3
  have ht := h.t.set (m' := m') (f1' := idf') (G' := G') (v := v) hg hn hn' hm hG1 (by rw [hk]; exact hG2) (hf'.imp id fun q => q.1) b2.2 hne (by rw [hk]; exact hG3) b1.2
  rw [hk] at ht
  refine ⟨ht.cong hcol, hF, hP, ?_, h.n2, ?_, ?_, by omega⟩
  · rcases hf' with q | q
    · rw [q]; exact n1
    · omega
  · rcases hf' with q | q
    · rw [q]; exact n3
    · omega
  · rcases hf' with q | q
    · rw [q]; omega
    · have := h.t.lo; omega
section
variable (os : List Int) (pw : List (List Int)) (cj : List (List (List Int)))
theorem impl_numberOf_ok (h : presOk os pw cj) (a : V) (ha : T (pc os pw cj) 0 a) : ACp Try.prog 60 [prsP os pw cj, vi os.length a] (.i .i64 (nmV os a os.length)) := by
 have hn6 := h.1.1
 have hb := fun k hk => nmV_bd h.2.1 ha k hk
 have hpb : ∀ k, k ≤ os.length → prd os k ≤ prd os os.length := fun k hk => by
  have := prd_mono h.2.1 (k := k) (os.length - k) (by omega)
  rwa [show k + (os.length - k) = os.length by omega] at this
 have h729 := h.2.2.1
 refine ACp.intro' envOk Try.func60 rfl (by kernel_rfl) Try.ntmps60 Try.results60 (.i _ _) (fun nx => ?_)
 refine AW.sr envOk (fun N hN => ?_)
 simp -dsimp -implicitDefEqProofs (maxSteps := 800000) (disch := omega) only [go_sem, undef, reduceAdd, reduceSub, reduceGT, reduceEqDiff, reduceMul, prsP, vi, ints, gd_i, w64]
 refine hN _ ?_
 try clear hN N
 refine AW.sr envOk (fun N hN => ?_)
 simp -dsimp -implicitDefEqProofs (maxSteps := 800000) (disch := omega) only [go_sem, undef, reduceAdd, reduceSub, reduceGT, reduceEqDiff, reduceMul, prsP, vi, ints, gd_i, w64]
 refine hN _ ?_
 try clear hN N
 refine AW.seq (fun N1 hN1 => ?_)
 refine AW.sr envOk (fun N hN => ?_)
 simp -dsimp -implicitDefEqProofs (maxSteps := 800000) (disch := omega) only [go_sem, undef, reduceAdd, reduceSub, reduceGT, reduceEqDiff, reduceMul, prsP, vi, ints, gd_i, w64]
 refine hN _ ?_
 try clear hN N
 refine AW.block ?_
 refine AW.loopN (α := Nat) (fun x => sl 28 [(0, prsP os pw cj), (5, .i .i64 (nmV os a x)), (8, vi os.length a), (9, .i .i64 os.length), (10, .i .i64 x)]) (fun _ => noH) (fun x m => x ≤ os.length) (fun x => os.length - x) (0) ?_ ?_ (fun _ _ h => h) ?_
 ·omega
 ·simp (disch := omega) [wks, wkA, sl, prsP, ints, rows, cubes, vi, nmV]
 ·skip
  rintro k m hk
  simp only [prsP, vi]
  simp -dsimp -implicitDefEqProofs (maxSteps := 800000) (disch := omega) only [go_sem, undef, reduceAdd, reduceSub, reduceGT, reduceEqDiff, reduceMul]
  refine AW.sr envOk (fun N hN => ?_)
  simp -dsimp -implicitDefEqProofs (maxSteps := 800000) (disch := omega) only [go_sem, undef, reduceAdd, reduceSub, reduceGT, reduceEqDiff, reduceMul, prsP, vi, ints, gd_i, w64]
  refine hN _ ?_
  try clear hN N
  refine AW.seq (fun N2 hN2 => ?_)
  refine AW.cond rfl (fun h1 => ?_) (fun h1 => ?_)
  ·try simp only [cn] at h1
   have hk1 := hb k (by omega)
   have hk2 := hb (k + 1) (by omega)
   have hk3 := hpb k (by omega)
   have hk4 := hpb (k + 1) (by omega)
   have ho := pr4_bd (h.2.1 k (by omega))
   have hr := ha.r k (Nat.zero_le k) (show k < os.length by omega)
   have hoe : (pc os pw cj).o k = os.getD k 0 := rfl
   rw [hoe] at hr
   have hs : nmV os a (k + 1) = nmV os a k * os.getD k 0 + a k := rfl
   have hm0 : 0 ≤ nmV os a k * os.getD k 0 := Int.mul_nonneg hk1.1 (by omega)
   refine AW.skip ?_
   simp only [thn, blk]
   refine hN2 _ ?_
   try clear hN2 N2
   refine AW.seq (fun N3 hN3 => ?_)
   refine AW.block ?_
   refine AW.sr envOk (fun N hN => ?_)
   simp -dsimp -implicitDefEqProofs (maxSteps := 800000) (disch := omega) only [go_sem, undef, reduceAdd, reduceSub, reduceGT, reduceEqDiff, reduceMul, prsP, vi, ints, gd_i, w64]
   refine hN _ ?_
   try clear hN N
   refine AW.regionL envOk ?_
   simp -dsimp -implicitDefEqProofs (maxSteps := 800000) (disch := omega) only [go_sem, undef, reduceAdd, reduceSub, reduceGT, reduceEqDiff, reduceMul, prsP, vi, ints, gd_i, w64, ← hs]
   refine hN3 _ ?_
   try clear hN3 N3
   refine AW.regionL envOk ?_
   simp -dsimp -implicitDefEqProofs (maxSteps := 800000) (disch := omega) only [go_sem, undef, reduceAdd, reduceSub, reduceGT, reduceEqDiff, reduceMul, prsP, vi, ints, gd_i, w64]
   refine ⟨k + 1, ?_, fun _ _ h => h, ?_, ?_⟩
   ·simp (disch := omega) [wks, wkA, sl, prsP, ints, rows, cubes, vi]
   ·first| omega| (simp only; omega)| (dsimp only; omega)
   ·first | omega | (simp only; omega)
  ·try simp only [cn] at h1
   refine AW.exit ?_
   simp only [thn, blk, if_true]
   refine hN1 _ ?_
   try clear hN1 N1
   refine AW.sr envOk (fun N hN => ?_)
   simp -dsimp -implicitDefEqProofs (maxSteps := 800000) (disch := omega) only [go_sem, undef, reduceAdd, reduceSub, reduceGT, reduceEqDiff, reduceMul, prsP, vi, ints, gd_i, w64]
   refine hN _ ?_
   try clear hN N
   refine AW.ret ?_
   simp -dsimp -implicitDefEqProofs (maxSteps := 800000) (disch := omega) only [go_sem, undef, reduceAdd, reduceSub, reduceGT, reduceEqDiff, reduceMul]
   rw [show k = os.length by omega]
theorem impl_sizeOf_v (h : presOk os pw cj) (us : List V) (hl : us.length ≤ 6) (hu : ∀ k, k < us.length → ldV os.length (us.getD k z0) < os.length) : ACp Try.prog 28 [prsP os pw cj, vls os.length us] (.i .i64 (orU os us us.length)) := by
 have hn6 := h.1.1
 have hpv := impl_pivots_v os.length hn6 us (by omega) hu
 have hdl := dpv_len (n := os.length) (us := us)
 refine ACp.intro' envOk Try.func28 rfl (by kernel_rfl) Try.ntmps28 Try.results28 (.i _ _) (fun nx => ?_)
 refine AW.sr envOk (fun N hN => ?_)
 simp -dsimp -implicitDefEqProofs (maxSteps := 800000) (disch := omega) only [go_sem, undef, reduceAdd, reduceSub, reduceGT, reduceEqDiff, reduceMul, prsP, ints, gd_i, w64]
 refine hN _ ?_
 try clear hN N
 refine AW.sr envOk (fun N hN => ?_)
 simp -dsimp -implicitDefEqProofs (maxSteps := 800000) (disch := omega) only [go_sem, undef, reduceAdd, reduceSub, reduceGT, reduceEqDiff, reduceMul, prsP, ints, gd_i, w64]
 refine hN _ ?_
 try clear hN N
 refine AW.seq (fun N1 hN1 => ?_)
 refine AW.sr envOk (fun N hN => ?_)
 simp -dsimp -implicitDefEqProofs (maxSteps := 800000) (disch := omega) only [go_sem, undef, reduceAdd, reduceSub, reduceGT, reduceEqDiff, reduceMul, prsP, ints, gd_i, w64]
 refine AC.pure (.of (hpv )) ?_
 try simp -dsimp -implicitDefEqProofs (maxSteps := 800000) (disch := omega) only [go_sem, undef, reduceAdd, reduceSub, reduceGT, reduceEqDiff, reduceMul, prsP, ints, gd_i, w64]
 refine hN _ ?_
 try clear hN N
 refine AW.block ?_
 refine AW.loopN (α := Nat) (fun x => sl 26 [(0, prsP os pw cj), (5, .i .i64 (orU os us x)), (9, ints (dpv os.length us)), (10, .i .i64 us.length), (11, .i .i64 x)]) (fun _ => noH) (fun x m => x ≤ us.length) (fun x => us.length - x) (0) ?_ ?_ (fun _ _ h => h) ?_
 ·omega
 ·simp (disch := omega) [wks, wkA, sl, prsP, ints, rows, cubes, orU, dpv_len]
 ·skip
  rintro k m hk
  simp only [prsP]
  simp -dsimp -implicitDefEqProofs (maxSteps := 800000) (disch := omega) only [go_sem, undef, reduceAdd, reduceSub, reduceGT, reduceEqDiff, reduceMul]
  refine AW.sr envOk (fun N hN => ?_)
  simp -dsimp -implicitDefEqProofs (maxSteps := 800000) (disch := omega) only [go_sem, undef, reduceAdd, reduceSub, reduceGT, reduceEqDiff, reduceMul, prsP, ints, gd_i, w64]
  refine hN _ ?_
  try clear hN N
  refine AW.seq (fun N2 hN2 => ?_)
  refine AW.cond rfl (fun h1 => ?_) (fun h1 => ?_)
  ·try simp only [cn] at h1
   have hd := hu k (by omega)
   have hg := dpv_get (n := os.length) (us := us) (show k < us.length by omega)
   obtain ⟨d, hde⟩ : ∃ d, ldV os.length (us.getD k z0) = d := ⟨_, rfl⟩
   rw [hde] at hd hg
   have ho := pr4_bd (h.2.1 d (by omega))
   have hb := orU_bd h.2.1 hu (k + 1) (by omega)
   have h7 : (7 ^ (k + 1) : Nat) ≤ 7 ^ 6 := Nat.pow_le_pow_right (by omega) (by omega)
   have hs : orU os us (k + 1) = orU os us k * os.getD d 0 := by rw [← hde]; rfl
   refine AW.skip ?_
   simp only [thn, blk]
   refine hN2 _ ?_
   try clear hN2 N2
   refine AW.seq (fun N3 hN3 => ?_)
   refine AW.block ?_
   refine AW.sr envOk (fun N hN => ?_)
   simp -dsimp -implicitDefEqProofs (maxSteps := 800000) (disch := omega) only [go_sem, undef, reduceAdd, reduceSub, reduceGT, reduceEqDiff, reduceMul, prsP, ints, gd_i, w64, hg]
   refine hN _ ?_
   try clear hN N
   refine AW.regionL envOk ?_
   simp -dsimp -implicitDefEqProofs (maxSteps := 800000) (disch := omega) only [go_sem, undef, reduceAdd, reduceSub, reduceGT, reduceEqDiff, reduceMul, prsP, ints, gd_i, w64, ← hs]
   refine hN3 _ ?_
   try clear hN3 N3
   refine AW.regionL envOk ?_
   simp -dsimp -implicitDefEqProofs (maxSteps := 800000) (disch := omega) only [go_sem, undef, reduceAdd, reduceSub, reduceGT, reduceEqDiff, reduceMul, prsP, ints, gd_i, w64]
   refine ⟨k + 1, ?_, fun _ _ h => h, ?_, ?_⟩
   ·simp (disch := omega) [wks, wkA, sl, w64, ints, rows, cubes, prsP, ints, gd_i, w64] <;> omega
   ·first| omega| (simp only; omega)| (dsimp only; omega)
   ·first | omega | (simp only; omega)
  ·try simp only [cn] at h1
   refine AW.exit ?_
   simp only [thn, blk, if_true]
   refine hN1 _ ?_
   try clear hN1 N1
   refine AW.sr envOk (fun N hN => ?_)
   simp -dsimp -implicitDefEqProofs (maxSteps := 800000) (disch := omega) only [go_sem, undef, reduceAdd, reduceSub, reduceGT, reduceEqDiff, reduceMul, prsP, ints, gd_i, w64]
   refine hN _ ?_
   try clear hN N
   refine AW.ret ?_
   simp -dsimp -implicitDefEqProofs (maxSteps := 800000) (disch := omega) only [go_sem, undef, reduceAdd, reduceSub, reduceGT, reduceEqDiff, reduceMul]
   rw [show k = us.length by omega]
end
end Go.Proofs.Ytnlfbimjcabgiaa
