import Derived.Test.YtdghgmgppecncaaZ42
set_option linter.unusedVariables false
set_option linter.unusedSimpArgs false
namespace Go.Proofs.Ytdghgmgppecncaa
open Nat (reduceAdd reduceSub reduceGT reduceEqDiff reduceMul)
theorem app_get {pre cs : List AV} : (pre ++ cs).getD pre.length .j = cs.getD 0 .j := by
  simp only [List.getD_eq_getElem?_getD]
  rw [List.getElem?_append_right (Nat.le_refl _), Nat.sub_self]
theorem app_drop {pre : List AV} {a : AV} {Q : List (List Int)} : List.take Q.length (List.drop (pre.length + 1) (pre ++ a :: Q.map ints)) = Q.map ints := by
  rw [List.drop_append, List.drop_eq_nil_of_le (by omega), List.nil_append, show pre.length + 1 - pre.length = 1 by omega]
  exact List.take_of_length_le (by simp)
theorem ci1 {d : Nat} : ((d + 1 : Nat) : Int) - 1 = (d : Int) := by omega
theorem bcell_nil {z : List Int} (hz : z.length = 0) : bcell z = .nl := by simp [bcell, List.length_eq_zero_iff.1 hz]
theorem bcell_e : bcell [] = .nl := by simp [bcell]
theorem nilB_pos {n : Nat} {t f : Prop} (h : 0 < n) : nilB n t f = f := propext ⟨fun hh => hh.f, fun hh => ⟨fun h0 => by omega, hh⟩⟩
theorem ex_sl {t : TypeId} {s b : Nat} {z : Value} {q : Bool} : (∃ e el, (⟨.slice t, s, b, z, q⟩ : TE) = e ∧ e.d = TD.slice el) = True := eq_true ⟨_, _, rfl, rfl⟩
theorem bl_nil {n : Nat} : bl n (fun _ => []) = [] := by
  induction n with
  | zero => rfl
  | succ n ih => simp [bl, ih]
structure OutI (nx bb m : Nat) (o : Option Nat) (rs : List AV) (H : HP) (W : List (List Int)) : Prop where
  ex : ∃ ids, OwL H rs (W.map ints) ids ∧ ids.Nodup ∧ bb ∉ ids ∧ (∀ i ∈ ids, nx ≤ i ∧ i < m) ∧ (∀ id, o = some id → id ∉ ids ∧ id ≠ bb ∧ nx ≤ id ∧ id < m)
  no : o = none → rs = []
  dom : ∀ i, m ≤ i → H i = none
theorem OutI.start {nx bb m : Nat} : OutI nx bb m none [] noH [] := ⟨⟨[], .nil, by simp, by simp, by simp, by simp⟩, fun _ => rfl, fun _ _ => rfl⟩
theorem OutI.len {nx bb m : Nat} {o : Option Nat} {rs : List AV} {H : HP} {W : List (List Int)} (h : OutI nx bb m o rs H W) : rs.length = W.length := by
  obtain ⟨ids, h1, _⟩ := h.ex
  have := h1.len
  simpa using this.symm
theorem OutI.more {nx bb m m' : Nat} {o : Option Nat} {rs : List AV} {H : HP} {W : List (List Int)} (h : OutI nx bb m o rs H W) (hm : m ≤ m') : OutI nx bb m' o rs H W := by
  obtain ⟨ids, h1, h2, h3, h4, h5⟩ := h.ex
  exact ⟨⟨ids, h1, h2, h3, fun i hi => ⟨(h4 i hi).1, by have := (h4 i hi).2; omega⟩, fun id hid => ⟨(h5 id hid).1, (h5 id hid).2.1, (h5 id hid).2.2.1, by have := (h5 id hid).2.2.2; omega⟩⟩, h.no, fun i hi => h.dom i (by omega)⟩
theorem OutI.own {nx bb m id : Nat} {rs : List AV} {H : HP} {W : List (List Int)} {c : Option (List AV)} (h : OutI nx bb m (some id) rs H W) : ∃ ids, Own nx m (upd (upd H bb c) id (some rs)) (.h id 0 rs.length) (rows W) ids := by
  have hl := h.len
  obtain ⟨ids, h1, h2, h3, h4, h5⟩ := h.ex
  obtain ⟨q1, q2, q3, q4⟩ := h5 id rfl
  refine ⟨id :: ids, ?_, by simp [q1, h2], ?_⟩
  · have := Ow.h (H := upd (upd H bb c) id (some rs)) id rs (W.map ints) ids (upd_same _ _ _) (h1.keep fun i hi => by
      rw [upd_ne _ _ (fun e => q1 (by rw [← e]; exact hi)), upd_ne _ _ (fun e => h3 (by rw [← e]; exact hi))])
    rw [hl] at this ⊢
    exact this
  · intro i hi
    rcases List.mem_cons.1 hi with rfl | hi
    · exact ⟨q3, q4⟩
    · exact h4 i hi
theorem OutI.push {nx bb m m0 m1 m2 id2 : Nat} {o : Option Nat} {rs : List AV} {H H1 : HP} {W : List (List Int)} {c : Option (List AV)} {r1 : AV} {X : List Int} {ids1 : List Nat} (h : OutI nx bb m o rs H W)
    (hH : ∀ i, i < m0 → H1 i = oH (upd H bb c) o rs i) (ho : Own m0 m1 H1 r1 (ints X) ids1) (hb : bb < m) (hm : m ≤ id2) (h2 : id2 < m0) (h01 : m0 ≤ m1) (h12 : m1 ≤ m2) (hnx : nx ≤ m) : OutI nx bb m2 (some id2) (r1 :: rs) (lim m1 H1) (X :: W) := by
  obtain ⟨ids, g1, g2, g3, g4, g5⟩ := h.ex
  obtain ⟨o1, o2, o3⟩ := ho
  refine ⟨⟨ids1 ++ ids, ?_, ?_, ?_, ?_, ?_⟩, (fun e => by cases e), fun i hi => if_neg (by omega)⟩
  · refine OwL.cons _ _ _ _ _ _ (o1.keep fun i hi => if_pos (o3 i hi).2) (g1.keep fun i hi => ?_)
    have hi2 := g4 i hi
    rw [lim, if_pos (by omega), hH i (by omega)]
    have hib : i ≠ bb := fun e => g3 (by rw [← e]; exact hi)
    cases o with
    | none => exact upd_ne _ _ hib
    | some id =>
      have := (g5 id rfl).1
      simp only [oH]
      rw [upd_ne _ _ (fun e => this (by rw [← e]; exact hi)), upd_ne _ _ hib]
  · rw [List.nodup_append]
    exact ⟨o2, g2, fun a ha b hb' e => by have := o3 a ha; have := g4 b hb'; omega⟩
  · intro hbb
    rcases List.mem_append.1 hbb with hbb | hbb
    · have := o3 _ hbb; omega
    · exact g3 hbb
  · intro i hi
    rcases List.mem_append.1 hi with hi | hi
    · have := o3 i hi; omega
    · have := g4 i hi; omega
  · rintro id hid
    cases hid
    refine ⟨fun hi => ?_, by omega, by omega, by omega⟩
    rcases List.mem_append.1 hi with hi | hi
    · have := o3 _ hi; omega
    · have := g4 _ hi; omega
theorem OutI.le {nx bb m m0 m1 idb id2 : Nat} {o : Option Nat} {rs : List AV} {H H1 : HP} {W : List (List Int)} {c : List AV} {xs : List AV} (h : OutI nx bb m o rs H W)
    (hH : ∀ i, i < m0 → H1 i = oH (upd H bb (some c)) o rs i) (hb : bb < m) (hm : m ≤ idb) (hb0 : idb < m0) (h2 : m ≤ id2) : Le (upd (upd (lim m1 H1) bb (some c)) id2 (some xs)) (upd (upd H1 idb none) id2 (some xs)) := by
  obtain ⟨ids, g1, g2, g3, g4, g5⟩ := h.ex
  have hnone : H1 idb = none := by
    rw [hH idb hb0]
    cases o with
    | none => simp only [oH]; rw [upd_ne _ _ (by omega)]; exact h.dom _ hm
    | some id =>
      have := g5 id rfl
      simp only [oH]; rw [upd_ne _ _ (by omega), upd_ne _ _ (by omega)]; exact h.dom _ hm
  have hbb : H1 bb = some c := by
    rw [hH bb (by omega)]
    cases o with
    | none => simp only [oH]; exact upd_same _ _ _
    | some id =>
      have := g5 id rfl
      simp only [oH]; rw [upd_ne _ _ (by omega)]; exact upd_same _ _ _
  intro i d hi
  by_cases e : i = id2
  · subst e; rw [upd_same] at hi ⊢; exact hi
  · rw [upd_ne _ _ e] at hi ⊢
    by_cases e2 : i = bb
    · subst e2; rw [upd_same] at hi; rw [upd_ne _ _ (by omega), hbb]; exact hi
    · rw [upd_ne _ _ e2] at hi
      unfold lim at hi
      split at hi
      · by_cases e3 : i = idb
        · subst e3; rw [hnone] at hi; cases hi
        · rw [upd_ne _ _ e3]; exact hi
      · cases hi
theorem le_q {bb id idb id2 : Nat} {b0 b1 c0 c1 d : Option (List AV)} (h1 : bb ≠ id) (h2 : bb ≠ idb) (h3 : bb ≠ id2) (h4 : id ≠ id2) : Le (upd (upd noH bb b1) id2 d) (upd (upd (upd (upd (upd (upd noH bb b0) id c0) bb b1) idb c1) id none) id2 d) := by
  intro i c hi
  simp only [upd, noH] at hi ⊢
  grind
theorem le_sub {bb id : Nat} {c d : Option (List AV)} (h : bb ≠ id) : Le (upd noH bb c) (upd (upd noH bb c) id d) := by
  intro i e hi
  by_cases e1 : i = bb
  · subst e1; rw [upd_ne _ _ h]; exact hi
  · rw [upd_ne _ _ e1] at hi; cases hi
theorem blf_step {n : Nat} {B : Nat → List Int} {d : Nat} (hd : d < n) : blf n B (n - d) = if B d = [] then blf n B (n - (d + 1)) else B d :: blf n B (n - (d + 1)) := by
  rw [show n - d = n - (d + 1) + 1 by omega, blf, show n - (n - (d + 1) + 1) = d by omega]
theorem blf_ech {p : Int} {n : Nat} {B : Nat → List Int} (h : BOk p n B) {q : Nat} (hq : q ≤ n) : Ech p n (blf n B q) := by
  have h1 := h.ech.drop (bl (n - q) B).length
  rw [bl_split q hq, List.drop_left] at h1
  exact h1
theorem Ow.one {H : HP} {r : AV} {X : List Int} {ids : List Nat} (h : Ow H r (Go.Proofs.Ytdghgmgppecncaa.ints X) ids) : one r = true := h.slice.2.1
theorem OwL.ones {H : HP} : ∀ {W : List (List Int)} {rs : List AV} {ids : List Nat}, OwL H rs (W.map Go.Proofs.Ytdghgmgppecncaa.ints) ids → ∀ z ∈ rs, one z = true := by
  intro W
  induction W with
  | nil => intro rs ids h z hz; cases h; cases hz
  | cons x W ih =>
    intro rs ids h z hz
    cases h with
    | cons a b xs ys is js h1 h2 =>
      rcases List.mem_cons.1 hz with rfl | hz
      · exact h1.one
      · exact ih h2 z hz
theorem OutI.one {nx bb m : Nat} {o : Option Nat} {rs : List AV} {H : HP} {W : List (List Int)} (h : OutI nx bb m o rs H W) : (∀ z ∈ rs, one z = true) = True := by
  obtain ⟨ids, h1, _⟩ := h.ex
  exact eq_true h1.ones
theorem OutI.id {nx bb m id : Nat} {o : Option Nat} {rs : List AV} {H : HP} {W : List (List Int)} (h : OutI nx bb m o rs H W) (ho : o = some id) : id ≠ bb ∧ nx ≤ id ∧ id < m := by
  obtain ⟨ids, _, _, _, _, h5⟩ := h.ex
  exact (h5 id ho).2
theorem OutI.nil {nx bb m a b : Nat} {rs : List AV} {H H' : HP} {W : List (List Int)} (h : OutI nx bb m none rs H W) : Own a b H' .nl (rows W) [] := by
  have h1 := h.no rfl
  have h2 := h.len
  rw [h1] at h2
  have h3 : W = [] := List.length_eq_zero_iff.1 h2.symm
  subst h3
  exact ⟨.nl, by simp, by simp⟩
theorem queue_el {p : Int} {n : Nat} {a w : List Int} {Q : List (List Int)} (h : ∀ b ∈ a :: Q, El p n b) (hw : El p n w) : ∀ b ∈ Q ++ [w], El p n b := by
  intro b hb
  rcases List.mem_append.1 hb with hb | hb
  · exact h b (by simp [hb])
  · rw [List.mem_singleton.1 hb]; exact hw
theorem span_start {p : Int} {pw : List (List Int)} {G : List (List Int)} (hel : ∀ k, k < G.length → El p pw.length (G.getD k [])) {P : Prop} (hP : P) : P ∧ BOk p pw.length (fun _ => []) ∧ QI p pw (fun _ => []) G ∧ (∀ b ∈ G, El p pw.length b) ∧ Sp p pw (bl pw.length (fun _ => []) ++ G) = Sp p pw G ∧ G.length ≤ G.length := by
  refine ⟨hP, fun d _ => .inl rfl, fun b hb => ?_, fun b hb => ?_, ?_, Nat.le_refl _⟩
  · rw [bl_nil] at hb; cases hb
  · obtain ⟨k, hk, rfl⟩ := mem_ix (d := []) hb; exact hel k hk
  · rw [bl_nil, List.nil_append]
set_option maxHeartbeats 4000000 in
theorem impl_lieSpan_ne (p : Int) (pw : List (List Int)) (br : List (List (List Int))) (ht : Tri p pw) (hp : pr4 p) (G : List (List Int)) (hG : G.length ≤ 1048576) (hel : ∀ k, k < G.length → El p pw.length (G.getD k [])) (hne : 0 < G.length) : ACo Try.prog 157 [ringP p pw br, rows G] (rows (spanL p pw G)) := by
 have h6 := ht.n6
 have hp7 := ht.p7
 have hp2 := ht.p2
 intro nx
 refine AC.intro' envOk Try.func157 rfl (by kernel_rfl) Try.ntmps157 Try.results157 ?_
 refine AW.sr envOk (fun N hN => ?_)
 simp -dsimp -implicitDefEqProofs (disch := omega) only [go_sem, undef, reduceAdd, reduceSub, reduceGT, reduceEqDiff, reduceMul, ringP, rows, ints, gd_i, gd_r, w64, app_get, app_drop, ci1, bcell_ne, bcell_nil, nilB_pos, ex_sl, eq_self, Nat.add_sub_cancel]
 refine hN _ ?_
 try clear hN N
 refine AW.sr envOk (fun N hN => ?_)
 simp -dsimp -implicitDefEqProofs (disch := omega) only [go_sem, undef, reduceAdd, reduceSub, reduceGT, reduceEqDiff, reduceMul, ringP, rows, ints, gd_i, gd_r, w64, app_get, app_drop, ci1, bcell_ne, bcell_nil, nilB_pos, ex_sl, eq_self, Nat.add_sub_cancel]
 refine hN _ ?_
 try clear hN N
 refine AW.sr envOk (fun N hN => ?_)
 simp -dsimp -implicitDefEqProofs (disch := omega) only [go_sem, undef, reduceAdd, reduceSub, reduceGT, reduceEqDiff, reduceMul, ringP, rows, ints, gd_i, gd_r, w64, app_get, app_drop, ci1, bcell_ne, bcell_nil, nilB_pos, ex_sl, eq_self, Nat.add_sub_cancel]
 refine (slices_Clone_rows_ok G (by omega) _ _).mono2 ?_
 rintro nx1 H1 r hx1 (⟨id0, rfl, hid1, hid2, rfl⟩ | ⟨h0, -, -⟩)
 rotate_left
 ·omega
 try simp -dsimp -implicitDefEqProofs (disch := omega) only [go_sem, undef, reduceAdd, reduceSub, reduceGT, reduceEqDiff, reduceMul, ringP, rows, ints, gd_i, gd_r, w64, app_get, app_drop, ci1, bcell_ne, bcell_nil, nilB_pos, ex_sl, eq_self, Nat.add_sub_cancel]
 refine hN _ ?_
 try clear hN N
 refine AW.seq (fun N1 hN1 => ?_)
 refine AW.block ?_
 refine AW.loopN (α := (Nat → List Int) × List (List Int) × Nat × List AV) (fun x => sl 117 [(0, ringP p pw br), (5, .h (nx + 1 + 5) 0 pw.length), (6, .h x.2.2.1 x.2.2.2.length x.2.1.length)]) (fun x => upd (upd noH (nx + 1 + 5) (some (bls pw.length x.1))) x.2.2.1 (some (x.2.2.2 ++ x.2.1.map ints))) (fun x m => (nx + 8 ≤ m ∧ nx + 1 + 5 < x.2.2.1 ∧ x.2.2.1 < m) ∧ BOk p pw.length x.1 ∧ QI p pw x.1 x.2.1 ∧ (∀ b ∈ x.2.1, El p pw.length b) ∧ Sp p pw (bl pw.length x.1 ++ x.2.1) = Sp p pw G ∧ x.2.1.length ≤ G.length) (fun x => nilc pw.length x.1 + x.2.1.length) (((fun _ => []), G, id0, [])) ?_ ?_ (by rw [bls_zero]; exact Le.refl _) ?_
 ·exact span_start hel (by first| omega| (simp only; omega)| (dsimp only; omega))
 ·simp (disch := omega) [wks, wkA, sl, w64, ints, rows, cubes, ringP, rows, ints, gd_i, gd_r, w64, app_get, app_drop, ci1, bcell_ne, bcell_nil, nilB_pos, ex_sl, eq_self, Nat.add_sub_cancel] <;> omega
 ·skip
  rintro ⟨B, Q, id, pre⟩ m ⟨⟨hm, hid, hidm⟩, hB, hQ, hQe, hS, hQl⟩
  dsimp only at hm hid hidm hB hQ hQe hS hQl
  simp -dsimp -implicitDefEqProofs (disch := omega) only [go_sem, undef, reduceAdd, reduceSub, reduceGT, reduceEqDiff, reduceMul]
  refine AW.seq (fun N2 hN2 => ?_)
  refine AW.sr envOk (fun N hN => ?_)
  simp -dsimp -implicitDefEqProofs (disch := omega) only [go_sem, undef, reduceAdd, reduceSub, reduceGT, reduceEqDiff, reduceMul, ringP, rows, ints, gd_i, gd_r, w64, app_get, app_drop, ci1, bcell_ne, bcell_nil, nilB_pos, ex_sl, eq_self, Nat.add_sub_cancel]
  refine hN _ ?_
  try clear hN N
  refine AW.cond rfl (fun h1 => ?_) (fun h1 => ?_)
  ·try simp only [cn] at h1
   obtain ⟨a, Q', rfl⟩ : ∃ a Q', Q = a :: Q' := by
    cases Q with
    | nil => simp at h1
    | cons a Q' => exact ⟨a, Q', rfl⟩
   have hae := hQe a (by simp)
   have hal := hae.len
   have hQl' : Q'.length + 1 ≤ G.length := by simpa using hQl
   refine AW.skip ?_
   simp only [thn, blk]
   refine hN2 _ ?_
   try clear hN2 N2
   refine AW.block ?_
   refine AW.sr envOk (fun N hN => ?_)
   simp -dsimp -implicitDefEqProofs (disch := omega) only [go_sem, undef, reduceAdd, reduceSub, reduceGT, reduceEqDiff, reduceMul, ringP, rows, ints, gd_i, gd_r, w64, app_get, app_drop, ci1, bcell_ne, bcell_nil, nilB_pos, ex_sl, eq_self, Nat.add_sub_cancel]
   refine hN _ ?_
   try clear hN N
   refine AW.sr envOk (fun N hN => ?_)
   simp -dsimp -implicitDefEqProofs (disch := omega) only [go_sem, undef, reduceAdd, reduceSub, reduceGT, reduceEqDiff, reduceMul, ringP, rows, ints, gd_i, gd_r, w64, app_get, app_drop, ci1, bcell_ne, bcell_nil, nilB_pos, ex_sl, eq_self, Nat.add_sub_cancel]
   refine hN _ ?_
   try clear hN N
   refine AW.sr envOk (fun N hN => ?_)
   simp -dsimp -implicitDefEqProofs (disch := omega) only [go_sem, undef, reduceAdd, reduceSub, reduceGT, reduceEqDiff, reduceMul, ringP, rows, ints, gd_i, gd_r, w64, app_get, app_drop, ci1, bcell_ne, bcell_nil, nilB_pos, ex_sl, eq_self, Nat.add_sub_cancel]
   refine AC.pure (.of (impl_depthOf_ok a (by omega))) ?_
   try simp -dsimp -implicitDefEqProofs (disch := omega) only [go_sem, undef, reduceAdd, reduceSub, reduceGT, reduceEqDiff, reduceMul, ringP, rows, ints, gd_i, gd_r, w64, app_get, app_drop, ci1, bcell_ne, bcell_nil, nilB_pos, ex_sl, eq_self, Nat.add_sub_cancel]
   refine hN _ ?_
   try clear hN N
   refine AW.seq (fun N3 hN3 => ?_)
   refine AW.block ?_
   refine AW.loopN (α := List Int) (fun x => sl 117 [(0, ringP p pw br), (5, .h (nx + 1 + 5) 0 pw.length), (6, .h id (pre.length + 1) Q'.length), (7, ints x), (8, .i .i64 (dep x))]) (fun _ => upd (upd noH (nx + 1 + 5) (some (bls pw.length B))) id (some (pre ++ ints a :: Q'.map ints))) (fun x m => (nx + 8 ≤ m ∧ id < m) ∧ RI p pw B a x) (fun x => pw.length - dep x) (a) ?_ ?_ (fun _ _ h => h) ?_
   ·exact ⟨by first| omega| (simp only; omega)| (dsimp only; omega), RI.start hae⟩
   ·simp (disch := omega) [wks, wkA, sl, w64, ints, rows, cubes, ringP, rows, ints, gd_i, gd_r, w64, app_get, app_drop, ci1, bcell_ne, bcell_nil, nilB_pos, ex_sl, eq_self, Nat.add_sub_cancel] <;> omega
   ·skip
    rintro y m2 ⟨⟨hm2, hidm2⟩, hR⟩
    have hyl := hR.el.len
    have hdy := dep_le y
    by_cases hb : B (dep y) = []
    ·skip
     simp -dsimp -implicitDefEqProofs (disch := omega) only [go_sem, undef, reduceAdd, reduceSub, reduceGT, reduceEqDiff, reduceMul]
     have hbl : (B (dep y)).length = 0 := by rw [hb]; rfl
     refine AW.seq (fun N4 hN4 => ?_)
     refine AW.sr envOk (fun N hN => ?_)
     simp -dsimp -implicitDefEqProofs (disch := omega) only [go_sem, undef, reduceAdd, reduceSub, reduceGT, reduceEqDiff, reduceMul, ringP, rows, ints, gd_i, gd_r, w64, app_get, app_drop, ci1, bcell_ne, bcell_nil, nilB_pos, ex_sl, eq_self, Nat.add_sub_cancel]
     refine gopB.mk' (fun h2 => ?_) (fun h2 => ?_)
     ·try simp only [cn] at h2
      try simp -dsimp -implicitDefEqProofs (disch := omega) only [go_sem, undef, reduceAdd, reduceSub, reduceGT, reduceEqDiff, reduceMul, ringP, rows, ints, gd_i, gd_r, w64, app_get, app_drop, ci1, bcell_ne, bcell_nil, nilB_pos, ex_sl, eq_self, Nat.add_sub_cancel]
      refine hN _ ?_
      try clear hN N
      refine AW.cond rfl (fun h3 => ?_) (fun h3 => ?_)
      ·try simp only [cn] at h3
       first| done| (cases h3)
      ·try simp only [cn] at h3
       refine AW.exit ?_
       simp only [thn, blk, if_true]
       refine hN3 _ ?_
       try clear hN3 N3
       refine AW.seq (fun N5 hN5 => ?_)
       refine AW.sr envOk (fun N hN => ?_)
       simp -dsimp -implicitDefEqProofs (disch := omega) only [go_sem, undef, reduceAdd, reduceSub, reduceGT, reduceEqDiff, reduceMul, ringP, rows, ints, gd_i, gd_r, w64, app_get, app_drop, ci1, bcell_ne, bcell_nil, nilB_pos, ex_sl, eq_self, Nat.add_sub_cancel]
       refine hN _ ?_
       try clear hN N
       refine AW.cond rfl (fun h4 => ?_) (fun h4 => ?_)
       ·try simp only [cn] at h4
        exfalso; omega
       ·try simp only [cn] at h4
        have hrg := hR.el.rng (dep y) (by omega)
        have hynz := dep_nz (a := y) (by omega)
        have hii := invP_ok hp (a := y.getD (dep y) 0) (by omega) (by omega)
        obtain ⟨z, hz⟩ : ∃ z, mulL p pw (invP p (y.getD (dep y) 0)) y = z := ⟨_, rfl⟩
        have hze : El p pw.length z := by rw [← hz]; exact nf_el ht _
        have hzl := hze.len
        obtain ⟨n1, n2, n3, n4⟩ := queue_new ht hp hB hQ hR (by omega) hb hii hz.symm
        have hnc := nilc_set (n := pw.length) n4 hb
        rw [if_pos (by omega)] at hnc
        obtain ⟨w, hw⟩ : ∃ w, mulL p pw p z = w := ⟨_, rfl⟩
        have hwe : El p pw.length w := by rw [← hw]; exact nf_el ht _
        have hww : nf p pw (fun j => p * fn z j) = w := hw
        rw [hww] at n2 n3
        refine AW.skip ?_
        simp only [thn, blk]
        refine hN5 _ ?_
        try clear hN5 N5
        refine AW.seq (fun N hN => ?_)
        refine AW.drawL envOk (by kernel_rfl) 14 (by kernel_rfl) ?_
        simp -dsimp -implicitDefEqProofs (disch := omega) only [hr_nil, hr_one, hr_if, List.take_succ_cons, List.take_zero, List.drop_succ_cons, List.drop_zero, List.take_nil, List.drop_nil, go_sem, undef, reduceAdd, reduceSub, reduceGT, reduceEqDiff, reduceMul, ringP, rows, ints, gd_i, gd_r, w64, app_get, app_drop, ci1, bcell_ne, bcell_nil, nilB_pos, ex_sl, eq_self, Nat.add_sub_cancel]
        refine ⟨_, .of (impl_inverseMod_ok (y.getD (dep y) 0) p hp (by omega) (by omega) ), ?_⟩
        try simp -dsimp -implicitDefEqProofs (disch := omega) only [go_sem, undef, reduceAdd, reduceSub, reduceGT, reduceEqDiff, reduceMul, ringP, rows, ints, gd_i, gd_r, w64, app_get, app_drop, ci1, bcell_ne, bcell_nil, nilB_pos, ex_sl, eq_self, Nat.add_sub_cancel]
        refine hN _ ?_
        try clear hN N
        refine AW.sr envOk (fun N hN => ?_)
        simp -dsimp -implicitDefEqProofs (disch := omega) only [go_sem, undef, reduceAdd, reduceSub, reduceGT, reduceEqDiff, reduceMul, ringP, rows, ints, gd_i, gd_r, w64, app_get, app_drop, ci1, bcell_ne, bcell_nil, nilB_pos, ex_sl, eq_self, Nat.add_sub_cancel]
        refine AC.pure (.of ((impl_timesLie_ok p pw br ht (invP p (y.getD (dep y) 0)) y hyl (hR.el.smlk hp7 (by have := hii.1; omega) (by have := hii.2.1; omega)) ⟨by have := hii.1; omega, by have := hii.2.1; omega⟩).pure )) ?_
        try simp -dsimp -implicitDefEqProofs (disch := omega) only [go_sem, undef, reduceAdd, reduceSub, reduceGT, reduceEqDiff, reduceMul, ringP, rows, ints, gd_i, gd_r, w64, app_get, app_drop, ci1, bcell_ne, bcell_nil, nilB_pos, ex_sl, eq_self, Nat.add_sub_cancel]
        rw [hz]
        try simp -dsimp -implicitDefEqProofs (disch := omega) only [go_sem, undef, reduceAdd, reduceSub, reduceGT, reduceEqDiff, reduceMul, ringP, rows, ints, gd_i, gd_r, w64, app_get, app_drop, ci1, bcell_ne, bcell_nil, eq_self]
        refine hN _ ?_
        try clear hN N
        refine AW.drawL envOk (by kernel_rfl) 12 (by kernel_rfl) ?_
        simp -dsimp -implicitDefEqProofs (disch := omega) only [hr_nil, hr_one, hr_if, List.take_succ_cons, List.take_zero, List.drop_succ_cons, List.drop_zero, List.take_nil, List.drop_nil, go_sem, undef, reduceAdd, reduceSub, reduceGT, reduceEqDiff, reduceMul, ringP, rows, ints, gd_i, gd_r, w64, app_get, app_drop, ci1, bcell_ne, bcell_nil, nilB_pos, ex_sl, eq_self, Nat.add_sub_cancel]
        refine ⟨_, .of ((impl_timesLie_ok p pw br ht p z hzl (hze.smlk hp7 (by omega) (by omega)) ⟨by omega, by omega⟩).pure ), ?_⟩
        try simp -dsimp -implicitDefEqProofs (disch := omega) only [go_sem, undef, reduceAdd, reduceSub, reduceGT, reduceEqDiff, reduceMul, ringP, rows, ints, gd_i, gd_r, w64, app_get, app_drop, ci1, bcell_ne, bcell_nil, nilB_pos, ex_sl, eq_self, Nat.add_sub_cancel]
        rw [hw]
        refine ⟨(fun d => if d = dep y then z else B d, Q' ++ [w], m2 + 11 + 4 + 14 + 8 + 12, []), ?_, by dsimp only; rw [List.nil_append, List.map_append]; exact le_q (by omega) (by omega) (by omega) (by omega), ?_, ?_⟩
        ·simp (disch := omega) [wks, wkA, sl, w64, ints, rows, cubes, ringP, rows, ints, gd_i, gd_r, w64, app_get, app_drop, ci1, bcell_ne, bcell_nil, nilB_pos, ex_sl, eq_self, Nat.add_sub_cancel] <;> omega
        ·exact ⟨by first| omega| (simp only; omega)| (dsimp only; omega), n1, n2, queue_el hQe hwe, n3.trans hS, by simp; omega⟩
        ·simp only [List.length_append, List.length_cons, List.length_nil]; omega
     ·try simp only [cn] at h2
      try simp -dsimp -implicitDefEqProofs (disch := omega) only [go_sem, undef, reduceAdd, reduceSub, reduceGT, reduceEqDiff, reduceMul, ringP, rows, ints, gd_i, gd_r, w64, app_get, app_drop, ci1, bcell_ne, bcell_nil, nilB_pos, ex_sl, eq_self, Nat.add_sub_cancel]
      refine hN _ ?_
      try clear hN N
      refine AW.condF rfl ?_
      refine AW.exit ?_
      simp only [thn, blk, if_true]
      refine hN3 _ ?_
      try clear hN3 N3
      refine AW.seq (fun N6 hN6 => ?_)
      refine AW.sr envOk (fun N hN => ?_)
      simp -dsimp -implicitDefEqProofs (disch := omega) only [go_sem, undef, reduceAdd, reduceSub, reduceGT, reduceEqDiff, reduceMul, ringP, rows, ints, gd_i, gd_r, w64, app_get, app_drop, ci1, bcell_ne, bcell_nil, nilB_pos, ex_sl, eq_self, Nat.add_sub_cancel]
      refine hN _ ?_
      try clear hN N
      refine AW.cond rfl (fun h5 => ?_) (fun h5 => ?_)
      ·try simp only [cn] at h5
       have hz0 : ∀ j, j < pw.length → y.getD j 0 = 0 := fun j hj => dep_zero (by omega)
       obtain ⟨z1, z2⟩ := queue_zero ht hB hQ hR hz0
       refine AW.exit ?_
       simp only [thn, blk, if_true]
       refine ⟨(B, Q', id, pre ++ [ints a]), ?_, by rw [List.append_assoc]; exact Le.refl _, ?_, ?_⟩
       ·simp (disch := omega) [wks, wkA, sl, w64, ints, rows, cubes, ringP, rows, ints, gd_i, gd_r, w64, app_get, app_drop, ci1, bcell_ne, bcell_nil, nilB_pos, ex_sl, eq_self, Nat.add_sub_cancel] <;> omega
       ·exact ⟨by first| omega| (simp only; omega)| (dsimp only; omega), hB, z1, fun b hb => hQe b (by simp [hb]), z2.trans hS, by first| omega| (simp only; omega)| (dsimp only; omega)⟩
       ·simp only [List.length_cons]; omega
      ·try simp only [cn] at h5
       exfalso; omega
    ·skip
     simp -dsimp -implicitDefEqProofs (disch := omega) only [go_sem, undef, reduceAdd, reduceSub, reduceGT, reduceEqDiff, reduceMul]
     have hbl : 0 < (B (dep y)).length := List.length_pos_iff.2 hb
     refine AW.seq (fun N7 hN7 => ?_)
     refine AW.sr envOk (fun N hN => ?_)
     simp -dsimp -implicitDefEqProofs (disch := omega) only [go_sem, undef, reduceAdd, reduceSub, reduceGT, reduceEqDiff, reduceMul, ringP, rows, ints, gd_i, gd_r, w64, app_get, app_drop, ci1, bcell_ne, bcell_nil, nilB_pos, ex_sl, eq_self, Nat.add_sub_cancel]
     refine gopB.mk' (fun h6 => ?_) (fun h6 => ?_)
     ·try simp only [cn] at h6
      try simp -dsimp -implicitDefEqProofs (disch := omega) only [go_sem, undef, reduceAdd, reduceSub, reduceGT, reduceEqDiff, reduceMul, ringP, rows, ints, gd_i, gd_r, w64, app_get, app_drop, ci1, bcell_ne, bcell_nil, nilB_pos, ex_sl, eq_self, Nat.add_sub_cancel]
      refine hN _ ?_
      try clear hN N
      refine AW.cond rfl (fun h7 => ?_) (fun h7 => ?_)
      ·try simp only [cn] at h7
       have hbk := (hB (dep y) (by omega)).resolve_left hb
       have hrg := hR.el.rng (dep y) (by omega)
       obtain ⟨hR', hlt⟩ := hR.step ht hB (by omega) hb
       have hbl2 := hbk.1.len
       have hML : El p pw.length (mulL p pw (0 - y.getD (dep y) 0) (B (dep y))) := nf_el ht _
       have hst : mixL p pw 1 y 1 (mulL p pw (0 - y.getD (dep y) 0) (B (dep y))) = stepL p pw (B (dep y)) y := by
        have := add_mul_step ht (v := B (dep y)) (x := y)
        rw [hbk.2.1] at this; exact this
       have hRl' := hR'.el.len
       refine AW.skip ?_
       simp only [thn, blk]
       refine hN7 _ ?_
       try clear hN7 N7
       refine AW.block ?_
       refine AW.seq (fun N hN => ?_)
       refine AW.drawL envOk (by kernel_rfl) 15 (by kernel_rfl) ?_
       simp -dsimp -implicitDefEqProofs (disch := omega) only [hr_nil, hr_one, hr_if, List.take_succ_cons, List.take_zero, List.drop_succ_cons, List.drop_zero, List.take_nil, List.drop_nil, go_sem, undef, reduceAdd, reduceSub, reduceGT, reduceEqDiff, reduceMul, ringP, rows, ints, gd_i, gd_r, w64, app_get, app_drop, ci1, bcell_ne, bcell_nil, nilB_pos, ex_sl, eq_self, Nat.add_sub_cancel]
       refine ⟨_, .of ((impl_timesLie_ok p pw br ht (0 - y.getD (dep y) 0) (B (dep y)) hbl2 (hbk.1.smlk hp7 (by omega) (by omega)) ⟨by omega, by omega⟩).pure ), ?_⟩
       try simp -dsimp -implicitDefEqProofs (disch := omega) only [go_sem, undef, reduceAdd, reduceSub, reduceGT, reduceEqDiff, reduceMul, ringP, rows, ints, gd_i, gd_r, w64, app_get, app_drop, ci1, bcell_ne, bcell_nil, nilB_pos, ex_sl, eq_self, Nat.add_sub_cancel]
       refine ⟨_, .of ((impl_addLie_ok p pw br ht y (mulL p pw (0 - y.getD (dep y) 0) (B (dep y))) hyl hML.len (hR.el.sml1 hp7) (hML.sml1 hp7)).pure ), ?_⟩
       try simp -dsimp -implicitDefEqProofs (disch := omega) only [go_sem, undef, reduceAdd, reduceSub, reduceGT, reduceEqDiff, reduceMul, ringP, rows, ints, gd_i, gd_r, w64, app_get, app_drop, ci1, bcell_ne, bcell_nil, nilB_pos, ex_sl, eq_self, Nat.add_sub_cancel]
       rw [hst]
       refine hN _ ?_
       try clear hN N
       refine AW.regionL envOk ?_
       simp -dsimp -implicitDefEqProofs (disch := omega) only [go_sem, undef, reduceAdd, reduceSub, reduceGT, reduceEqDiff, reduceMul, ringP, rows, ints, gd_i, gd_r, w64, app_get, app_drop, ci1, bcell_ne, bcell_nil, nilB_pos, ex_sl, eq_self, Nat.add_sub_cancel]
       refine AC.pure (.of (impl_depthOf_ok (stepL p pw (B (dep y)) y) (by omega) )) ?_
       try simp -dsimp -implicitDefEqProofs (disch := omega) only [go_sem, undef, reduceAdd, reduceSub, reduceGT, reduceEqDiff, reduceMul, ringP, rows, ints, gd_i, gd_r, w64, app_get, app_drop, ci1, bcell_ne, bcell_nil, nilB_pos, ex_sl, eq_self, Nat.add_sub_cancel]
       refine ⟨stepL p pw (B (dep y)) y, ?_, fun _ _ h => h, ?_, ?_⟩
       ·simp (disch := omega) [wks, wkA, sl, w64, ints, rows, cubes, ringP, rows, ints, gd_i, gd_r, w64, app_get, app_drop, ci1, bcell_ne, bcell_nil, nilB_pos, ex_sl, eq_self, Nat.add_sub_cancel] <;> omega
       ·first| exact hR'| exact ⟨by first| omega| (simp only; omega)| (dsimp only; omega), hR'⟩
       ·first | omega | (simp only; omega)
      ·try simp only [cn] at h7
       first| done| (cases h7)| (simp at h7)
     ·try simp only [cn] at h6
      try simp -dsimp -implicitDefEqProofs (disch := omega) only [go_sem, undef, reduceAdd, reduceSub, reduceGT, reduceEqDiff, reduceMul, ringP, rows, ints, gd_i, gd_r, w64, app_get, app_drop, ci1, bcell_ne, bcell_nil, nilB_pos, ex_sl, eq_self, Nat.add_sub_cancel]
      refine hN _ ?_
      try clear hN N
      refine AW.condF rfl ?_
      refine AW.exit ?_
      simp only [thn, blk, if_true]
      refine hN3 _ ?_
      try clear hN3 N3
      refine AW.seq (fun N8 hN8 => ?_)
      refine AW.sr envOk (fun N hN => ?_)
      simp -dsimp -implicitDefEqProofs (disch := omega) only [go_sem, undef, reduceAdd, reduceSub, reduceGT, reduceEqDiff, reduceMul, ringP, rows, ints, gd_i, gd_r, w64, app_get, app_drop, ci1, bcell_ne, bcell_nil, nilB_pos, ex_sl, eq_self, Nat.add_sub_cancel]
      refine hN _ ?_
      try clear hN N
      refine AW.cond rfl (fun h8 => ?_) (fun h8 => ?_)
      ·try simp only [cn] at h8
       have hz0 : ∀ j, j < pw.length → y.getD j 0 = 0 := fun j hj => dep_zero (by omega)
       obtain ⟨z1, z2⟩ := queue_zero ht hB hQ hR hz0
       refine AW.exit ?_
       simp only [thn, blk, if_true]
       refine ⟨(B, Q', id, pre ++ [ints a]), ?_, by rw [List.append_assoc]; exact Le.refl _, ?_, ?_⟩
       ·simp (disch := omega) [wks, wkA, sl, w64, ints, rows, cubes, ringP, rows, ints, gd_i, gd_r, w64, app_get, app_drop, ci1, bcell_ne, bcell_nil, nilB_pos, ex_sl, eq_self, Nat.add_sub_cancel] <;> omega
       ·exact ⟨by first| omega| (simp only; omega)| (dsimp only; omega), hB, z1, fun b hb => hQe b (by simp [hb]), z2.trans hS, by first| omega| (simp only; omega)| (dsimp only; omega)⟩
       ·simp only [List.length_cons]; omega
      ·try simp only [cn] at h8
       exfalso; omega
  ·try simp only [cn] at h1
   have hQ0 : Q = [] := List.length_eq_zero_iff.1 (by omega)
   subst hQ0
   have hout := span_out ht hB hQ hS
   refine AW.exit ?_
   simp only [thn, blk, if_true]
   refine hN1 _ ?_
   try clear hN1 N1
   refine AW.sr envOk (fun N hN => ?_)
   simp -dsimp -implicitDefEqProofs (disch := omega) only [go_sem, undef, reduceAdd, reduceSub, reduceGT, reduceEqDiff, reduceMul, ringP, rows, ints, gd_i, gd_r, w64, app_get, app_drop, ci1, bcell_ne, bcell_nil, nilB_pos, ex_sl, eq_self, Nat.add_sub_cancel]
   refine hN _ ?_
   try clear hN N
   refine AW.seq (fun N9 hN9 => ?_)
   refine AW.sr envOk (fun N hN => ?_)
   simp -dsimp -implicitDefEqProofs (disch := omega) only [go_sem, undef, reduceAdd, reduceSub, reduceGT, reduceEqDiff, reduceMul, ringP, rows, ints, gd_i, gd_r, w64, app_get, app_drop, ci1, bcell_ne, bcell_nil, nilB_pos, ex_sl, eq_self, Nat.add_sub_cancel]
   refine hN _ ?_
   try clear hN N
   refine AW.block ?_
   refine AW.loopN (α := Nat × Option Nat × List AV × HP) (fun x => sl 117 [(0, ringP p pw br), (5, .h (nx + 1 + 5) 0 pw.length), (11, oA x.2.1 x.2.2.1.length), (12, .i .i64 ((x.1 : Int) - 1))]) (fun x => oH (upd x.2.2.2 (nx + 1 + 5) (some (bls pw.length B))) x.2.1 x.2.2.1) (fun x m => (x.1 ≤ pw.length ∧ nx + 8 ≤ m) ∧ OutI nx (nx + 1 + 5) m x.2.1 x.2.2.1 x.2.2.2 (outF p pw (blf pw.length B (pw.length - x.1)))) (fun x => x.1) ((pw.length, none, [], noH)) ?_ ?_ (le_sub (by omega)) ?_
   ·exact ⟨by first| omega| (simp only; omega)| (dsimp only; omega), by dsimp only; rw [Nat.sub_self]; exact OutI.start⟩
   ·simp (disch := omega) [wks, wkA, sl, rows, ints, ringP, oA, w64] <;> omega
   ·skip
    rintro ⟨r, (_ | id3), rs, Hx⟩ m3 ⟨⟨hr, hm3⟩, hO⟩
    all_goals dsimp only at hr hm3 hO
    all_goals by_cases hb : B (r - 1) = []
    ·skip
     simp -dsimp -implicitDefEqProofs (disch := omega) only [go_sem, undef, reduceAdd, reduceSub, reduceGT, reduceEqDiff, reduceMul]
     dsimp only [oA, oH]
     have hrs := hO.no rfl
     subst hrs
     refine AW.seq (fun N10 hN10 => ?_)
     refine AW.sr envOk (fun N hN => ?_)
     simp -dsimp -implicitDefEqProofs (disch := omega) only [go_sem, undef, reduceAdd, reduceSub, reduceGT, reduceEqDiff, reduceMul, ringP, rows, ints, gd_i, gd_r, w64, app_get, app_drop, ci1, bcell_ne, bcell_nil, nilB_pos, ex_sl, eq_self, Nat.add_sub_cancel]
     refine hN _ ?_
     try clear hN N
     refine AW.cond rfl (fun h9 => ?_) (fun h9 => ?_)
     ·try simp only [cn] at h9
      obtain ⟨d, rfl⟩ : ∃ d, r = d + 1 := ⟨r - 1, by omega⟩
      simp only [Nat.add_sub_cancel] at hb
      have hbl : (B d).length = 0 := by rw [hb]; rfl
      have hstp := blf_step (n := pw.length) (B := B) (d := d) (by omega)
      rw [if_pos hb] at hstp
      rw [← hstp] at hO
      refine AW.skip ?_
      simp only [thn, blk]
      refine hN10 _ ?_
      try clear hN10 N10
      refine AW.seq (fun N11 hN11 => ?_)
      refine AW.block ?_
      refine AW.sr envOk (fun N hN => ?_)
      simp -dsimp -implicitDefEqProofs (disch := omega) only [go_sem, undef, reduceAdd, reduceSub, reduceGT, reduceEqDiff, reduceMul, ringP, rows, ints, gd_i, gd_r, w64, app_get, app_drop, ci1, bcell_ne, bcell_nil, nilB_pos, ex_sl, eq_self, Nat.add_sub_cancel]
      refine hN _ ?_
      try clear hN N
      refine AW.cond rfl (fun h10 => ?_) (fun h10 => ?_)
      ·try simp only [cn] at h10
       first| done| (cases h10)| (simp at h10)
      ·try simp only [cn] at h10
       refine AW.skip ?_
       simp only [thn, blk]
       refine hN11 _ ?_
       try clear hN11 N11
       refine AW.regionL envOk ?_
       simp -dsimp -implicitDefEqProofs (disch := omega) only [go_sem, undef, reduceAdd, reduceSub, reduceGT, reduceEqDiff, reduceMul, ringP, rows, ints, gd_i, gd_r, w64, app_get, app_drop, ci1, bcell_ne, bcell_nil, nilB_pos, ex_sl, eq_self, Nat.add_sub_cancel]
       refine ⟨(d, none, [], Hx), ?_, fun _ _ h => h, ?_, ?_⟩
       ·simp (disch := omega) [wks, wkA, sl, rows, ints, ringP, oA, w64] <;> omega
       ·exact ⟨by first| omega| (simp only; omega)| (dsimp only; omega), hO.more (by first| omega| (simp only; omega)| (dsimp only; omega))⟩
       ·first | omega | (simp only; omega)
     ·try simp only [cn] at h9
      refine AW.exit ?_
      simp only [thn, blk, if_true]
      refine hN9 _ ?_
      try clear hN9 N9
      refine AW.sr envOk (fun N hN => ?_)
      simp -dsimp -implicitDefEqProofs (disch := omega) only [go_sem, undef, reduceAdd, reduceSub, reduceGT, reduceEqDiff, reduceMul, ringP, rows, ints, gd_i, gd_r, w64, app_get, app_drop, ci1, bcell_ne, bcell_nil, nilB_pos, ex_sl, eq_self, Nat.add_sub_cancel]
      refine hN _ ?_
      try clear hN N
      refine AW.ret ?_
      simp -dsimp -implicitDefEqProofs (disch := omega) only [go_sem, undef, reduceAdd, reduceSub, reduceGT, reduceEqDiff, reduceMul]
      have hr0 : r = 0 := by omega
      subst hr0
      rw [Nat.sub_zero] at hO
      rw [hout, ← blf_all]
      exact ⟨[], hO.nil⟩
    ·skip
     simp -dsimp -implicitDefEqProofs (disch := omega) only [go_sem, undef, reduceAdd, reduceSub, reduceGT, reduceEqDiff, reduceMul]
     dsimp only [oA, oH]
     have hrs := hO.no rfl
     subst hrs
     refine AW.seq (fun N12 hN12 => ?_)
     refine AW.sr envOk (fun N hN => ?_)
     simp -dsimp -implicitDefEqProofs (disch := omega) only [go_sem, undef, reduceAdd, reduceSub, reduceGT, reduceEqDiff, reduceMul, ringP, rows, ints, gd_i, gd_r, w64, app_get, app_drop, ci1, bcell_ne, bcell_nil, nilB_pos, ex_sl, eq_self, Nat.add_sub_cancel]
     refine hN _ ?_
     try clear hN N
     refine AW.cond rfl (fun h11 => ?_) (fun h11 => ?_)
     ·try simp only [cn] at h11
      obtain ⟨d, rfl⟩ : ∃ d, r = d + 1 := ⟨r - 1, by omega⟩
      simp only [Nat.add_sub_cancel] at hb
      have hbl : 0 < (B d).length := List.length_pos_iff.2 hb
      have hbk := (hB d (by omega)).resolve_left hb
      have hstp := blf_step (n := pw.length) (B := B) (d := d) (by omega)
      rw [if_neg hb] at hstp
      obtain ⟨W, hW⟩ : ∃ W, outF p pw (blf pw.length B (pw.length - (d + 1))) = W := ⟨_, rfl⟩
      rw [hW] at hO
      have hWe : Ech p pw.length W := by rw [← hW]; exact (outF_ok ht (blf_ech hB (by omega))).ech (blf_ech hB (by omega))
      have hlen := hO.len
      have hWl := hWe.len
      have hone := hO.one
      have hstp2 : outF p pw (blf pw.length B (pw.length - d)) = redL p pw W (B d) :: W := by rw [hstp, outF, hW]
      refine AW.skip ?_
      simp only [thn, blk]
      refine hN12 _ ?_
      try clear hN12 N12
      refine AW.seq (fun N13 hN13 => ?_)
      refine AW.block ?_
      refine AW.sr envOk (fun N hN => ?_)
      simp -dsimp -implicitDefEqProofs (disch := omega) only [go_sem, undef, reduceAdd, reduceSub, reduceGT, reduceEqDiff, reduceMul, ringP, rows, ints, gd_i, gd_r, w64, app_get, app_drop, ci1, bcell_ne, bcell_nil, nilB_pos, ex_sl, eq_self, Nat.add_sub_cancel]
      refine hN _ ?_
      try clear hN N
      refine AW.cond rfl (fun h12 => ?_) (fun h12 => ?_)
      ·try simp only [cn] at h12
       refine AW.regionL envOk ?_
       simp -dsimp -implicitDefEqProofs (disch := omega) only [go_sem, undef, reduceAdd, reduceSub, reduceGT, reduceEqDiff, reduceMul, ringP, rows, ints, gd_i, gd_r, w64, app_get, app_drop, ci1, bcell_ne, bcell_nil, nilB_pos, ex_sl, eq_self, Nat.add_sub_cancel]
       refine AC.own (impl_reduceLie_ok p pw br ht W (hWe.rws h6) (B d) hbk.1) (.cons (.refl _) (.cons ?_ (.cons (.refl _) .nil))) ?_
       ·have hW0 : W = [] := List.length_eq_zero_iff.1 hlen.symm
        rw [hW0]; exact .nl
       intro m1 H1 r1 ids1 hm1 hH1 hown1
       obtain ⟨q1, q2, q3⟩ := hown1.1.slice
       have hr1 : (∀ z ∈ [r1], one z = true) = True := eq_true (fun z hz => by rw [List.mem_singleton.1 hz]; exact q2)
       try simp -dsimp -implicitDefEqProofs (disch := omega) only [go_sem, undef, reduceAdd, reduceSub, reduceGT, reduceEqDiff, reduceMul, q1, q2, q3, hr1, hone, ringP, rows, ints, w64, ci1, eq_self, List.nil_append, List.take_length]
       refine hN13 _ ?_
       try clear hN13 N13
       refine AW.regionL envOk ?_
       simp -dsimp -implicitDefEqProofs (disch := omega) only [go_sem, undef, reduceAdd, reduceSub, reduceGT, reduceEqDiff, reduceMul, ringP, rows, ints, gd_i, gd_r, w64, app_get, app_drop, ci1, bcell_ne, bcell_nil, nilB_pos, ex_sl, eq_self, Nat.add_sub_cancel]
       refine ⟨(d, some (m3 + 2 + 5 + 9), [r1], lim m1 H1), ?_, hO.le (m0 := m3 + 2 + 5 + 11) (idb := m3 + 2 + 5 + 7) hH1 (by omega) (by omega) (by omega) (by omega), ?_, ?_⟩
       ·simp (disch := omega) [wks, wkA, sl, rows, ints, ringP, oA, w64] <;> omega
       ·exact ⟨by first| omega| (simp only; omega)| (dsimp only; omega), by dsimp only; rw [hstp2]; exact hO.push (m0 := m3 + 2 + 5 + 11) hH1 hown1 (by omega) (by omega) (by omega) (by omega) (by first| omega| (simp only; omega)| (dsimp only; omega)) (by omega)⟩
       ·first | omega | (simp only; omega)
      ·try simp only [cn] at h12
       first| done| (cases h12)| (simp at h12)
     ·try simp only [cn] at h11
      refine AW.exit ?_
      simp only [thn, blk, if_true]
      refine hN9 _ ?_
      try clear hN9 N9
      refine AW.sr envOk (fun N hN => ?_)
      simp -dsimp -implicitDefEqProofs (disch := omega) only [go_sem, undef, reduceAdd, reduceSub, reduceGT, reduceEqDiff, reduceMul, ringP, rows, ints, gd_i, gd_r, w64, app_get, app_drop, ci1, bcell_ne, bcell_nil, nilB_pos, ex_sl, eq_self, Nat.add_sub_cancel]
      refine hN _ ?_
      try clear hN N
      refine AW.ret ?_
      simp -dsimp -implicitDefEqProofs (disch := omega) only [go_sem, undef, reduceAdd, reduceSub, reduceGT, reduceEqDiff, reduceMul]
      have hr0 : r = 0 := by omega
      subst hr0
      rw [Nat.sub_zero] at hO
      rw [hout, ← blf_all]
      exact ⟨[], hO.nil⟩
    ·skip
     simp -dsimp -implicitDefEqProofs (disch := omega) only [go_sem, undef, reduceAdd, reduceSub, reduceGT, reduceEqDiff, reduceMul]
     dsimp only [oA, oH]
     obtain ⟨i1, i2, i3⟩ := hO.id rfl
     refine AW.seq (fun N14 hN14 => ?_)
     refine AW.sr envOk (fun N hN => ?_)
     simp -dsimp -implicitDefEqProofs (disch := omega) only [go_sem, undef, reduceAdd, reduceSub, reduceGT, reduceEqDiff, reduceMul, ringP, rows, ints, gd_i, gd_r, w64, app_get, app_drop, ci1, bcell_ne, bcell_nil, nilB_pos, ex_sl, eq_self, Nat.add_sub_cancel]
     refine hN _ ?_
     try clear hN N
     refine AW.cond rfl (fun h13 => ?_) (fun h13 => ?_)
     ·try simp only [cn] at h13
      obtain ⟨d, rfl⟩ : ∃ d, r = d + 1 := ⟨r - 1, by omega⟩
      simp only [Nat.add_sub_cancel] at hb
      have hbl : (B d).length = 0 := by rw [hb]; rfl
      have hstp := blf_step (n := pw.length) (B := B) (d := d) (by omega)
      rw [if_pos hb] at hstp
      rw [← hstp] at hO
      refine AW.skip ?_
      simp only [thn, blk]
      refine hN14 _ ?_
      try clear hN14 N14
      refine AW.seq (fun N15 hN15 => ?_)
      refine AW.block ?_
      refine AW.sr envOk (fun N hN => ?_)
      simp -dsimp -implicitDefEqProofs (disch := omega) only [go_sem, undef, reduceAdd, reduceSub, reduceGT, reduceEqDiff, reduceMul, ringP, rows, ints, gd_i, gd_r, w64, app_get, app_drop, ci1, bcell_ne, bcell_nil, nilB_pos, ex_sl, eq_self, Nat.add_sub_cancel]
      refine hN _ ?_
      try clear hN N
      refine AW.cond rfl (fun h14 => ?_) (fun h14 => ?_)
      ·try simp only [cn] at h14
       first| done| (cases h14)| (simp at h14)
      ·try simp only [cn] at h14
       refine AW.skip ?_
       simp only [thn, blk]
       refine hN15 _ ?_
       try clear hN15 N15
       refine AW.regionL envOk ?_
       simp -dsimp -implicitDefEqProofs (disch := omega) only [go_sem, undef, reduceAdd, reduceSub, reduceGT, reduceEqDiff, reduceMul, ringP, rows, ints, gd_i, gd_r, w64, app_get, app_drop, ci1, bcell_ne, bcell_nil, nilB_pos, ex_sl, eq_self, Nat.add_sub_cancel]
       refine ⟨(d, some id3, rs, Hx), ?_, fun _ _ h => h, ?_, ?_⟩
       ·simp (disch := omega) [wks, wkA, sl, rows, ints, ringP, oA, w64] <;> omega
       ·exact ⟨by first| omega| (simp only; omega)| (dsimp only; omega), hO.more (by first| omega| (simp only; omega)| (dsimp only; omega))⟩
       ·first | omega | (simp only; omega)
     ·try simp only [cn] at h13
      refine AW.exit ?_
      simp only [thn, blk, if_true]
      refine hN9 _ ?_
      try clear hN9 N9
      refine AW.sr envOk (fun N hN => ?_)
      simp -dsimp -implicitDefEqProofs (disch := omega) only [go_sem, undef, reduceAdd, reduceSub, reduceGT, reduceEqDiff, reduceMul, ringP, rows, ints, gd_i, gd_r, w64, app_get, app_drop, ci1, bcell_ne, bcell_nil, nilB_pos, ex_sl, eq_self, Nat.add_sub_cancel]
      refine hN _ ?_
      try clear hN N
      refine AW.ret ?_
      simp -dsimp -implicitDefEqProofs (disch := omega) only [go_sem, undef, reduceAdd, reduceSub, reduceGT, reduceEqDiff, reduceMul]
      have hr0 : r = 0 := by omega
      subst hr0
      rw [Nat.sub_zero] at hO
      rw [hout, ← blf_all]
      obtain ⟨ids0, hown0⟩ := hO.own (c := some (bls pw.length B))
      exact ⟨ids0, hown0.keep (fun _ _ _ => rfl) (by omega) (by omega)⟩
    ·skip
     simp -dsimp -implicitDefEqProofs (disch := omega) only [go_sem, undef, reduceAdd, reduceSub, reduceGT, reduceEqDiff, reduceMul]
     dsimp only [oA, oH]
     obtain ⟨i1, i2, i3⟩ := hO.id rfl
     refine AW.seq (fun N16 hN16 => ?_)
     refine AW.sr envOk (fun N hN => ?_)
     simp -dsimp -implicitDefEqProofs (disch := omega) only [go_sem, undef, reduceAdd, reduceSub, reduceGT, reduceEqDiff, reduceMul, ringP, rows, ints, gd_i, gd_r, w64, app_get, app_drop, ci1, bcell_ne, bcell_nil, nilB_pos, ex_sl, eq_self, Nat.add_sub_cancel]
     refine hN _ ?_
     try clear hN N
     refine AW.cond rfl (fun h15 => ?_) (fun h15 => ?_)
     ·try simp only [cn] at h15
      obtain ⟨d, rfl⟩ : ∃ d, r = d + 1 := ⟨r - 1, by omega⟩
      simp only [Nat.add_sub_cancel] at hb
      have hbl : 0 < (B d).length := List.length_pos_iff.2 hb
      have hbk := (hB d (by omega)).resolve_left hb
      have hstp := blf_step (n := pw.length) (B := B) (d := d) (by omega)
      rw [if_neg hb] at hstp
      obtain ⟨W, hW⟩ : ∃ W, outF p pw (blf pw.length B (pw.length - (d + 1))) = W := ⟨_, rfl⟩
      rw [hW] at hO
      have hWe : Ech p pw.length W := by rw [← hW]; exact (outF_ok ht (blf_ech hB (by omega))).ech (blf_ech hB (by omega))
      have hlen := hO.len
      have hWl := hWe.len
      have hone := hO.one
      have hstp2 : outF p pw (blf pw.length B (pw.length - d)) = redL p pw W (B d) :: W := by rw [hstp, outF, hW]
      refine AW.skip ?_
      simp only [thn, blk]
      refine hN16 _ ?_
      try clear hN16 N16
      refine AW.seq (fun N17 hN17 => ?_)
      refine AW.block ?_
      refine AW.sr envOk (fun N hN => ?_)
      simp -dsimp -implicitDefEqProofs (disch := omega) only [go_sem, undef, reduceAdd, reduceSub, reduceGT, reduceEqDiff, reduceMul, ringP, rows, ints, gd_i, gd_r, w64, app_get, app_drop, ci1, bcell_ne, bcell_nil, nilB_pos, ex_sl, eq_self, Nat.add_sub_cancel]
      refine hN _ ?_
      try clear hN N
      refine AW.cond rfl (fun h16 => ?_) (fun h16 => ?_)
      ·try simp only [cn] at h16
       refine AW.regionL envOk ?_
       simp -dsimp -implicitDefEqProofs (disch := omega) only [go_sem, undef, reduceAdd, reduceSub, reduceGT, reduceEqDiff, reduceMul, ringP, rows, ints, gd_i, gd_r, w64, app_get, app_drop, ci1, bcell_ne, bcell_nil, nilB_pos, ex_sl, eq_self, Nat.add_sub_cancel]
       obtain ⟨ids0, hown0⟩ := hO.own (c := some (bls pw.length B))
       refine AC.own (impl_reduceLie_ok p pw br ht W (hWe.rws h6) (B d) hbk.1) (.cons (.refl _) (.cons hown0.1.vw (.cons (.refl _) .nil))) ?_
       intro m1 H1 r1 ids1 hm1 hH1 hown1
       obtain ⟨q1, q2, q3⟩ := hown1.1.slice
       have hr1 : (∀ z ∈ [r1], one z = true) = True := eq_true (fun z hz => by rw [List.mem_singleton.1 hz]; exact q2)
       have hid3 : H1 id3 = some rs := (hH1 id3 (by omega)).trans (upd_same _ _ _)
       try simp -dsimp -implicitDefEqProofs (disch := omega) only [go_sem, undef, reduceAdd, reduceSub, reduceGT, reduceEqDiff, reduceMul, q1, q2, q3, hr1, hid3, hone, ringP, rows, ints, w64, ci1, eq_self, List.nil_append, List.take_length]
       refine hN17 _ ?_
       try clear hN17 N17
       refine AW.regionL envOk ?_
       simp -dsimp -implicitDefEqProofs (disch := omega) only [go_sem, undef, reduceAdd, reduceSub, reduceGT, reduceEqDiff, reduceMul, ringP, rows, ints, gd_i, gd_r, w64, app_get, app_drop, ci1, bcell_ne, bcell_nil, nilB_pos, ex_sl, eq_self, Nat.add_sub_cancel]
       refine ⟨(d, some (m3 + 2 + 5 + 9), r1 :: rs, lim m1 H1), ?_, hO.le (m0 := m3 + 2 + 5 + 11) (idb := m3 + 2 + 5 + 7) hH1 (by omega) (by omega) (by omega) (by omega), ?_, ?_⟩
       ·simp (disch := omega) [wks, wkA, sl, rows, ints, ringP, oA, w64] <;> omega
       ·exact ⟨by first| omega| (simp only; omega)| (dsimp only; omega), by dsimp only; rw [hstp2]; exact hO.push (m0 := m3 + 2 + 5 + 11) hH1 hown1 (by omega) (by omega) (by omega) (by omega) (by first| omega| (simp only; omega)| (dsimp only; omega)) (by omega)⟩
       ·first | omega | (simp only; omega)
      ·try simp only [cn] at h16
       first| done| (cases h16)| (simp at h16)
     ·try simp only [cn] at h15
      refine AW.exit ?_
      simp only [thn, blk, if_true]
      refine hN9 _ ?_
      try clear hN9 N9
      refine AW.sr envOk (fun N hN => ?_)
      simp -dsimp -implicitDefEqProofs (disch := omega) only [go_sem, undef, reduceAdd, reduceSub, reduceGT, reduceEqDiff, reduceMul, ringP, rows, ints, gd_i, gd_r, w64, app_get, app_drop, ci1, bcell_ne, bcell_nil, nilB_pos, ex_sl, eq_self, Nat.add_sub_cancel]
      refine hN _ ?_
      try clear hN N
      refine AW.ret ?_
      simp -dsimp -implicitDefEqProofs (disch := omega) only [go_sem, undef, reduceAdd, reduceSub, reduceGT, reduceEqDiff, reduceMul]
      have hr0 : r = 0 := by omega
      subst hr0
      rw [Nat.sub_zero] at hO
      rw [hout, ← blf_all]
      obtain ⟨ids0, hown0⟩ := hO.own (c := some (bls pw.length B))
      exact ⟨ids0, hown0.keep (fun _ _ _ => rfl) (by omega) (by omega)⟩
theorem CpR.zero {P : Program} {f : FuncId} {nx : Nat} {H : HP} {xs : List AV} {a : List (List Int)} (hn : a.length = 0) (h : AC P f nx H xs (fun nx' H' r => CpR nx nx' H H' r a)) : AC P f nx H xs (fun _ H' r => r = .v 0 [] ∧ H' = H) := by
  have hEnt := h.1
  refine ⟨hEnt, fun L Av w us a b c => ?_⟩
  have hfr : ∀ i, nx ≤ i → H i = none := by
    intro i hi
    cases hh : H i with
    | none => rfl
    | some cs => obtain ⟨l, h1, _⟩ := a.node i cs hh; rw [b i hi] at h1; cases h1
  refine (AC.hv (AC.exact (h.mono ?_))).2 L Av w us a b c
  rintro nx' H' r (⟨id, rfl, h1, h2, rfl⟩ | ⟨-, rfl, rfl⟩)
  · refine ⟨H, fun i c hi => ?_, .inr ⟨⟨id, 0, by rw [hn]⟩, rfl, rfl⟩⟩
    by_cases e : i = id
    · subst e; rw [hfr i h1] at hi; cases hi
    · rw [upd_ne _ _ e]; exact hi
  · exact ⟨_, Le.refl _, .inl ⟨rfl, rfl⟩⟩
theorem impl_lieSpan_nil (p : Int) (pw : List (List Int)) (br : List (List (List Int))) (ht : Tri p pw) : ACo Try.prog 157 [ringP p pw br, rows []] (rows (spanL p pw [])) := by
 have h6 := ht.n6
 have hout := span_out (p := p) (pw := pw) ht (B := fun _ => []) (G := []) (fun d _ => .inl rfl) (fun b hb => by rw [bl_nil] at hb; cases hb) (by rw [bl_nil]; rfl)
 rw [bl_nil] at hout
 intro nx
 refine AC.intro' envOk Try.func157 rfl (by kernel_rfl) Try.ntmps157 Try.results157 ?_
 refine AW.sr envOk (fun N hN => ?_)
 simp -dsimp -implicitDefEqProofs (disch := omega) only [go_sem, undef, reduceAdd, reduceSub, reduceGT, reduceEqDiff, reduceMul, ringP, rows, ints, w64, ci1, bcell_e, ex_sl, List.length_nil, List.map_nil]
 refine hN _ ?_
 try clear hN N
 refine AW.sr envOk (fun N hN => ?_)
 simp -dsimp -implicitDefEqProofs (disch := omega) only [go_sem, undef, reduceAdd, reduceSub, reduceGT, reduceEqDiff, reduceMul, ringP, rows, ints, w64, ci1, bcell_e, ex_sl, List.length_nil, List.map_nil]
 refine hN _ ?_
 try clear hN N
 refine AW.sr envOk (fun N hN => ?_)
 simp -dsimp -implicitDefEqProofs (disch := omega) only [go_sem, undef, reduceAdd, reduceSub, reduceGT, reduceEqDiff, reduceMul, ringP, rows, ints, w64, ci1, bcell_e, ex_sl, List.length_nil, List.map_nil]
 refine (CpR.zero rfl (slices_Clone_rows_ok [] (by simp) _ _)).mono2 ?_
 rintro nx1 H1 r hx1 ⟨rfl, rfl⟩
 try simp -dsimp -implicitDefEqProofs (disch := omega) only [go_sem, undef, reduceAdd, reduceSub, reduceGT, reduceEqDiff, reduceMul, ringP, rows, ints, w64, ci1, bcell_e, ex_sl, List.length_nil, List.map_nil]
 refine hN _ ?_
 try clear hN N
 refine AW.seq (fun N1 hN1 => ?_)
 refine AW.block ?_
 refine AW.loop1 ?_
 refine AW.seq (fun N2 hN2 => ?_)
 refine AW.sr envOk (fun N hN => ?_)
 simp -dsimp -implicitDefEqProofs (disch := omega) only [go_sem, undef, reduceAdd, reduceSub, reduceGT, reduceEqDiff, reduceMul, ringP, rows, ints, w64, ci1, bcell_e, ex_sl, List.length_nil, List.map_nil]
 refine hN _ ?_
 try clear hN N
 refine AW.cond rfl (fun h => absurd h (by simp)) (fun _ => ?_)
 refine AW.exit ?_
 simp only [thn, blk, if_true]
 refine hN1 _ ?_
 try clear hN1 N1
 refine AW.sr envOk (fun N hN => ?_)
 simp -dsimp -implicitDefEqProofs (disch := omega) only [go_sem, undef, reduceAdd, reduceSub, reduceGT, reduceEqDiff, reduceMul, ringP, rows, ints, w64, ci1, bcell_e, ex_sl, List.length_nil, List.map_nil]
 refine hN _ ?_
 try clear hN N
 refine AW.seq (fun N3 hN3 => ?_)
 refine AW.sr envOk (fun N hN => ?_)
 simp -dsimp -implicitDefEqProofs (disch := omega) only [go_sem, undef, reduceAdd, reduceSub, reduceGT, reduceEqDiff, reduceMul, ringP, rows, ints, w64, ci1, bcell_e, ex_sl, List.length_nil, List.map_nil]
 refine hN _ ?_
 try clear hN N
 refine AW.block ?_
 refine AW.loopN (α := Nat) (fun x => sl 117 [(0, ringP p pw br), (5, .h (nx + 1 + 5) 0 pw.length), (11, .nl), (12, .i .i64 ((x : Int) - 1))]) (fun _ => upd noH (nx + 1 + 5) (some (bls pw.length (fun _ => [])))) (fun x m => x ≤ pw.length) (fun x => x) (pw.length) ?_ ?_ (by rw [bls_zero]; exact Le.refl _) ?_
 ·first| omega| (simp only; omega)| (dsimp only; omega)
 ·simp (disch := omega) [wks, wkA, sl, w64, ints, rows, cubes, ringP, rows, ints, w64, ci1, bcell_e, ex_sl, List.length_nil, List.map_nil] <;> omega
 ·skip
  rintro r m hr
  simp -dsimp -implicitDefEqProofs (disch := omega) only [go_sem, undef, reduceAdd, reduceSub, reduceGT, reduceEqDiff, reduceMul]
  refine AW.seq (fun N4 hN4 => ?_)
  refine AW.sr envOk (fun N hN => ?_)
  simp -dsimp -implicitDefEqProofs (disch := omega) only [go_sem, undef, reduceAdd, reduceSub, reduceGT, reduceEqDiff, reduceMul, ringP, rows, ints, w64, ci1, bcell_e, ex_sl, List.length_nil, List.map_nil]
  refine hN _ ?_
  try clear hN N
  refine AW.cond rfl (fun h1 => ?_) (fun h1 => ?_)
  ·try simp only [cn] at h1
   obtain ⟨d, rfl⟩ : ∃ d, r = d + 1 := ⟨r - 1, by omega⟩
   refine AW.skip ?_
   simp only [thn, blk]
   refine hN4 _ ?_
   try clear hN4 N4
   refine AW.seq (fun N5 hN5 => ?_)
   refine AW.block ?_
   refine AW.sr envOk (fun N hN => ?_)
   simp -dsimp -implicitDefEqProofs (disch := omega) only [go_sem, undef, reduceAdd, reduceSub, reduceGT, reduceEqDiff, reduceMul, ringP, rows, ints, w64, ci1, bcell_e, ex_sl, List.length_nil, List.map_nil]
   refine hN _ ?_
   try clear hN N
   refine AW.cond rfl (fun h2 => ?_) (fun h2 => ?_)
   ·try simp only [cn] at h2
    first| done| (cases h2)| (simp at h2)
   ·try simp only [cn] at h2
    refine AW.skip ?_
    simp only [thn, blk]
    refine hN5 _ ?_
    try clear hN5 N5
    refine AW.regionL envOk ?_
    simp -dsimp -implicitDefEqProofs (disch := omega) only [go_sem, undef, reduceAdd, reduceSub, reduceGT, reduceEqDiff, reduceMul, ringP, rows, ints, w64, ci1, bcell_e, ex_sl, List.length_nil, List.map_nil]
    refine ⟨d, ?_, fun _ _ h => h, ?_, ?_⟩
    ·simp (disch := omega) [wks, wkA, sl, w64, ints, rows, cubes, ringP, rows, ints, w64, ci1, bcell_e, ex_sl, List.length_nil, List.map_nil] <;> omega
    ·first| omega| (simp only; omega)| (dsimp only; omega)
    ·first | omega | (simp only; omega)
  ·try simp only [cn] at h1
   refine AW.exit ?_
   simp only [thn, blk, if_true]
   refine hN3 _ ?_
   try clear hN3 N3
   refine AW.sr envOk (fun N hN => ?_)
   simp -dsimp -implicitDefEqProofs (disch := omega) only [go_sem, undef, reduceAdd, reduceSub, reduceGT, reduceEqDiff, reduceMul, ringP, rows, ints, w64, ci1, bcell_e, ex_sl, List.length_nil, List.map_nil]
   refine hN _ ?_
   try clear hN N
   refine AW.ret ?_
   simp -dsimp -implicitDefEqProofs (disch := omega) only [go_sem, undef, reduceAdd, reduceSub, reduceGT, reduceEqDiff, reduceMul]
   rw [hout]
   exact ⟨[], .nl, by simp, by simp⟩
theorem impl_lieSpan_ok (p : Int) (pw : List (List Int)) (br : List (List (List Int))) (ht : Tri p pw) (hp : pr4 p) (G : List (List Int)) (hG : G.length ≤ 1048576) (hel : ∀ k, k < G.length → El p pw.length (G.getD k [])) : ACo Try.prog 157 [ringP p pw br, rows G] (rows (spanL p pw G)) := by
  cases G with
  | nil => exact impl_lieSpan_nil p pw br ht
  | cons g G => exact impl_lieSpan_ne p pw br ht hp (g :: G) hG hel (by simp)
end Go.Proofs.Ytdghgmgppecncaa
