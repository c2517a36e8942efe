/-
  Series of subgroups: lists of lists of one's own under construction; impl.series; the generators of one's own.
-/
import Derived.Test.YtbhlindlcfeppaaTh
set_option linter.unusedVariables false
set_option linter.unusedSimpArgs false
namespace Go.Proofs.Ytbhlindlcfeppaa
open Nat (reduceAdd reduceSub reduceGT reduceEqDiff reduceMul)

/-- A call that reads what is data to it, beside owned blocks that it does not see. -/
theorem AC.frame {P : Program} {f : FuncId} {nx : Nat} {H : HP} {xs : List AV} {Q : Nat → HP → AV → Prop} (h : AC P f nx noH xs Q) : AC P f nx H xs fun nx' H' r => ∃ H0, Q nx' H0 r ∧ (∀ i, i < nx → H' i = H i) ∧ ∀ i, nx ≤ i → H' i = H0 i := by
  refine ⟨h.1, fun L Av w us hs hfr ha => (h.2 L (MM L H Av) w us (SR_noH (MM_lt hs)) hfr (by rw [MM_noH]; exact ha)).mono ?_⟩
  rintro e w' ⟨u, r, L', nx', H0, h1, h2, h3, h4, h5, h6, h7, h8⟩
  let H2 : HP := fun i => if i < nx then H i else H0 i
  have hlow : ∀ i, i < nx → H2 i = H i := fun i hi => by simp only [H2, hi, if_true]
  have hhigh : ∀ i, nx ≤ i → H2 i = H0 i := fun i hi => by simp only [H2]; rw [if_neg (by omega)]
  have hk' : ∀ b, b < w.heap.size → w'.heap[b]? = w.heap[b]? := fun b hb => h7.keep b hb LB_noH
  have hHn : ∀ i cs, H i = some cs → i < nx := fun i cs hi => by
    apply Classical.byContradiction; intro hn
    obtain ⟨l, g1, _⟩ := hs.node i cs hi
    rw [hfr i (by omega)] at g1; cases g1
  have live : ∀ i cs, H2 i = some cs → (i < nx ∧ H i = some cs) ∨ (nx ≤ i ∧ H0 i = some cs) := by
    intro i cs hi
    rcases Nat.lt_or_ge i nx with h | h
    · rw [hlow i h] at hi; exact .inl ⟨h, hi⟩
    · rw [hhigh i h] at hi; exact .inr ⟨h, hi⟩
  have newblk : ∀ i cs l, H0 i = some cs → L' i = some l → w.heap.size ≤ l.blk := by
    intro i cs l g1 g2
    apply Classical.byContradiction
    intro hlt
    exact LB_noH (h7.old l.blk (by omega) ⟨i, cs, l, g1, g2, rfl⟩)
  have hlb : ∀ b, LB L' H2 b → LB L H b ∨ LB L' H0 b := by
    rintro b ⟨i, cs, l, g1, g2, g3⟩
    rcases live i cs g1 with ⟨q1, q2⟩ | ⟨q1, q2⟩
    · exact .inl ⟨i, cs, l, q2, by rw [← h5 i q1]; exact g2, g3⟩
    · exact .inr ⟨i, cs, l, q2, g2, g3⟩
  have hMM : ∀ b, MM L' H2 Av b → MM L' H0 (MM L H Av) b := by
    rintro b (hb | hb)
    · exact .inl (.inl hb)
    · exact (hlb b hb).elim (fun h => .inl (.inr h)) .inr
  have hst : Step L H w L' H2 w' := by
    refine ⟨h7.le, h7.os, h7.tape, h7.output, h7.size, fun b hb _ => hk' b hb, ?_⟩
    rintro b hb hl
    rcases hlb b hl with g | ⟨i, cs, l, g1, g2, g3⟩
    · exact g
    · have := newblk i cs l g1 g2; omega
  refine ⟨u, r, L', nx', H2, h1, ⟨H0, h2, hlow, hhigh⟩, h3, h4, h5, ⟨?_, ?_, ?_, fun b hb => Nat.lt_of_lt_of_le (hs.avlt b hb) h7.size⟩, hst, h8.mono (fun _ _ h => h) (fun _ _ _ => rfl) (fun b _ hb => hMM b hb)⟩
  · intro i cs hi
    rcases live i cs hi with ⟨g4, g5⟩ | ⟨g4, g5⟩
    · obtain ⟨l, g7, ⟨arr, et, g8, g9, g10, g11⟩⟩ := hs.node i cs g5
      exact ⟨l, by rw [h5 i g4]; exact g7, ⟨arr, et, by rw [hk' _ (getElem?_lt g8)]; exact g8, g9, g10, fun k x hk => by
        obtain ⟨c, g12, g13⟩ := g11 k x hk
        exact ⟨c, g12, g13.step hst⟩⟩⟩
    · obtain ⟨l, g7, ⟨arr, et, g8, g9, g10, g11⟩⟩ := h6.node i cs g5
      exact ⟨l, g7, ⟨arr, et, g8, g9, g10, fun k x hk => by
        obtain ⟨c, g12, g13⟩ := g11 k x hk
        exact ⟨c, g12, g13.mono (fun _ _ h => h) (fun _ _ _ => rfl) (fun b _ hb => hMM b hb)⟩⟩⟩
  · intro i i' cs cs' l l' g1 g2 g3 g4 g5
    rcases live i cs g1 with ⟨q1, q2⟩ | ⟨q1, q2⟩ <;> rcases live i' cs' g2 with ⟨q4, q5⟩ | ⟨q4, q5⟩
    · exact hs.inj i i' cs cs' l l' q2 q5 (by rw [← h5 i q1]; exact g3) (by rw [← h5 i' q4]; exact g4) g5
    · have a1 := LB_lt hs ⟨i, cs, l, q2, by rw [← h5 i q1]; exact g3, rfl⟩
      have a2 := newblk i' cs' l' q5 g4
      omega
    · have a1 := LB_lt hs ⟨i', cs', l', q5, by rw [← h5 i' q4]; exact g4, rfl⟩
      have a2 := newblk i cs l q2 g3
      omega
    · exact h6.inj i i' cs cs' l l' q2 q5 g3 g4 g5
  · intro i cs l g1 g2
    rcases live i cs g1 with ⟨q1, q2⟩ | ⟨q1, q2⟩
    · exact hs.av i cs l q2 (by rw [← h5 i q1]; exact g2)
    · exact fun hv => h6.av i cs l q2 g2 (.inl hv)

/-- A list of lists under construction, all of it of one's own. -/
structure OutG (a m : Nat) (id : Nat) (rs : List AV) (H : HP) (X : List AV) : Prop where
  ex : ∃ ids, OwL H rs X ids ∧ ids.Nodup ∧ (∀ i ∈ ids, a ≤ i ∧ i < m) ∧ id ∉ ids
  at' : H id = some rs
  lo : a ≤ id
  hi : id < m
theorem OutG.more {a m m' id : Nat} {rs : List AV} {H : HP} {X : List AV} (h : OutG a m id rs H X) (hm : m ≤ m') : OutG a m' id rs H X := by
  obtain ⟨⟨ids, h1, h2, h3, h4⟩, h5, h6, h7⟩ := h
  exact ⟨⟨ids, h1, h2, fun i hi => by have := h3 i hi; omega, h4⟩, h5, h6, by omega⟩
theorem OutG.len {a m id : Nat} {rs : List AV} {H : HP} {X : List AV} (h : OutG a m id rs H X) : X.length = rs.length := by
  obtain ⟨⟨ids, h1, _⟩, _⟩ := h
  exact h1.len
theorem OutG.one {a nx m id : Nat} {r X : AV} {H H' : HP} {ids : List Nat} (h : Own a nx H r X ids) (hk : ∀ i, a ≤ i → i < nx → H' i = H i) (hc : H' id = some [r]) (h1 : nx ≤ id) (h2 : id < m) (h3 : a ≤ nx) : OutG a m id [r] H' [X] := by
  obtain ⟨g1, g2, g3⟩ := h.keep hk (Nat.le_refl _) (Nat.le_refl _)
  refine ⟨⟨ids ++ [], .cons _ _ _ _ _ _ g1 .nil, by simpa using g2, fun i hi => ?_, fun hi => ?_⟩, hc, by omega, h2⟩
  · have := g3 i (by simpa using hi); omega
  · have := g3 id (by simpa using hi); omega
theorem OutG.last {a m id : Nat} {rs : List AV} {z : AV} {H : HP} {Xs : List AV} {X : AV} (h : OutG a m id (rs ++ [z]) H (Xs ++ [X])) : ∃ is, Ow H z X is ∧ ∀ i ∈ is, a ≤ i ∧ i < m := by
  have hl := h.len
  obtain ⟨⟨ids, h1, h2, h3, h4⟩, h5, h6, h7⟩ := h
  simp only [List.length_append, List.length_cons, List.length_nil] at hl
  obtain ⟨y, is, g1, g2, g3⟩ := h1.get rs.length z (by simp)
  rw [show rs.length = Xs.length by omega] at g1
  simp only [List.getElem?_append_right (Nat.le_refl _), Nat.sub_self, List.getElem?_cons_zero, Option.some.injEq] at g1
  subst g1
  exact ⟨is, g2, fun i hi => h3 i (g3 i hi)⟩
theorem OutG.push {a m m1 m2 id id2 : Nat} {rs : List AV} {r1 X1 : AV} {H H1 H2 : HP} {X : List AV} {ids1 : List Nat} (h : OutG a m id rs H X) (ho : Own m m1 H1 r1 X1 ids1)
    (h1 : ∀ i, i < m → i ≠ id → H2 i = H i) (h2 : ∀ i, m ≤ i → i < m1 → H2 i = H1 i) (hc : H2 id2 = some (rs ++ [r1])) (hm : m ≤ m1) (hi : m1 ≤ id2) (hi2 : id2 < m2) : OutG a m2 id2 (rs ++ [r1]) H2 (X ++ [X1]) := by
  obtain ⟨⟨ids, g1, g2, g3, g4⟩, g5, g6, g7⟩ := h
  obtain ⟨o1, o2, o3⟩ := ho.keep h2 (Nat.le_refl _) (Nat.le_refl _)
  refine ⟨⟨ids ++ (ids1 ++ []), OwL.append (g1.keep fun i hi => h1 i (g3 i hi).2 (fun e => g4 (by rw [← e]; exact hi))) (.cons _ _ _ _ _ _ o1 .nil), ?_, ?_, ?_⟩, hc, by omega, hi2⟩
  · rw [List.append_nil, List.nodup_append]
    exact ⟨g2, o2, fun x hx y hy e => by have := g3 x hx; have := o3 y hy; omega⟩
  · intro i hi
    rw [List.append_nil] at hi
    rcases List.mem_append.1 hi with hi | hi
    · have := g3 i hi; omega
    · have := o3 i hi; omega
  · intro hi
    rw [List.append_nil] at hi
    rcases List.mem_append.1 hi with hi | hi
    · have := g3 _ hi; omega
    · have := o3 _ hi; omega
theorem OutG.own {a m id n : Nat} {rs : List AV} {H : HP} {X : List AV} (h : OutG a m id rs H X) (hn : n = rs.length) : ∃ ids, Own a m H (.h id 0 n) (.v X.length X) ids := by
  have hl := h.len
  obtain ⟨⟨ids, h1, h2, h3, h4⟩, h5, h6, h7⟩ := h
  subst hn
  refine ⟨id :: ids, ?_, List.nodup_cons.2 ⟨h4, h2⟩, ?_⟩
  · rw [hl]
    exact Ow.h id rs X ids h5 h1
  · intro i hi
    rcases List.mem_cons.1 hi with rfl | hi
    · exact ⟨h6, h7⟩
    · exact h3 i hi
theorem Le.only {H : HP} {id : Nat} {d : Option (List AV)} : Le (upd noH id d) (upd H id d) := by
  intro i c hi
  by_cases e : i = id
  · subst e; rw [upd_same] at hi ⊢; exact hi
  · rw [upd_ne _ _ e] at hi; cases hi
theorem Vw.blk {H : HP} {id n : Nat} {cs : List AV} (hc : H id = some cs) (hn : n = cs.length) : Vw H (.h id 0 n) (.v n cs) := by
  subst hn
  exact .h id 0 cs.length cs cs hc (by omega) rfl (fun k x y hx hy => by rw [Nat.zero_add, hy] at hx; cases hx; exact .refl _)
theorem Vw.t2 {H : HP} {a X : AV} {k : IntKind} {e : Int} (h : Vw H a X) : Vw H (.t [a, .i k e]) (.t [X, .i k e]) := by
  refine .t _ _ rfl (fun k x y hx hy => ?_)
  match k, hx, hy with
  | 0, hx, hy => cases hx; cases hy; exact h
  | 1, hx, hy => cases hx; cases hy; exact .refl _
theorem Vws.rfl {H : HP} : ∀ {cs : List AV}, Vws H cs cs := by
  intro cs
  induction cs with
  | nil => exact .nil
  | cons c cs ih => exact .cons (.refl _) ih
theorem cubes_nr (a : List (List (List Int))) : NR (cubes a) := .v _ _ (fun k y hk => by
  simp only [List.getElem?_map, Option.map_eq_some_iff] at hk
  obtain ⟨z, _, rfl⟩ := hk
  exact rows_nr z)
theorem one_list {r : AV} (h : one r = true) : (∀ z ∈ [r], one z = true) = True := eq_true (fun z hz => by rw [List.mem_singleton.1 hz]; exact h)
theorem ring_cell {p : Int} {pw : List (List Int)} {br : List (List (List Int))} : cellsA (ringP p pw br) = [ringP p pw br] := rfl
theorem ring_ok {p : Int} {pw : List (List Int)} {br : List (List (List Int))} : okA (ringP p pw br) = true := rfl
theorem one_rows {u : List (List Int)} : (∀ z ∈ [rows u], one z = true) = True := one_list rfl
theorem rows_one {u : List (List Int)} : one (rows u) = true := rfl
theorem last_get {rs : List AV} {z d : AV} {n : Nat} (h : n = rs.length) : (rs ++ [z]).getD n d = z := by
  subst h; simp

theorem impl_series_ok (F : FuncId) (cs : List AV) (G : List (List Int) → List (List Int)) (P : List (List Int) → Prop) (hP : ∀ u, P u → P (G u)) (hl : ∀ u, P u → rowslen u) (hF : ∀ u, P u → ACo Try.prog F ([rows u] ++ cs) (rows (G u))) (u0 : List (List Int)) (K : List (List (List Int))) (h0 : P u0) (hK : SerC G u0 K) (hn : K.length ≤ 1000) (a nx : Nat) (H : HP) (r0 : AV) (ids0 : List Nat) (hr0 : Own a nx H r0 (rows u0) ids0) (han : a ≤ nx) : AC Try.prog 92 nx H [r0, .f F cs] (fun nx' H' r => ∃ ids, Own a nx' H' r (cubes K) ids) := by
 obtain ⟨q1, q2, q3⟩ := hr0.1.slice
 have hr1 := one_list q2
 refine AC.introx envOk Try.func92 rfl (by kernel_rfl) Try.ntmps92 Try.results92 (fun hfr => ?_)
 refine AW.sr envOk (fun N hN => ?_)
 simp -dsimp -implicitDefEqProofs (disch := omega) only [go_sem, reduceAdd, reduceSub, reduceGT, reduceEqDiff, reduceMul, w64]
 refine hN _ ?_
 try clear hN N
 refine AW.sr envOk (fun N hN => ?_)
 simp -dsimp -implicitDefEqProofs (disch := omega) only [go_sem, reduceAdd, reduceSub, reduceGT, reduceEqDiff, reduceMul, w64, hr1, q1, q2, q3]
 refine hN _ ?_
 try clear hN N
 refine AW.block ?_
 refine AW.loopN (α := Nat × List AV × AV × HP × List (List (List Int)) × List (List Int)) (fun x => sl 30 [(1, .f F cs), (5, .h x.1 0 (x.2.1.length + 1))]) (fun x => x.2.2.2.1) (fun x m => (nx ≤ m ∧ OutG a m x.1 (x.2.1 ++ [x.2.2.1]) x.2.2.2.1 (x.2.2.2.2.1.map rows ++ [rows x.2.2.2.2.2])) ∧ P x.2.2.2.2.2 ∧ ∃ K', SerC G x.2.2.2.2.2 K' ∧ K = x.2.2.2.2.1 ++ K') (fun x => K.length - x.2.2.2.2.1.length) ((nx + 2, [], r0, upd H (nx + 2) (some [r0]), [], u0)) ?_ ?_ (fun _ _ h => h) ?_
 ·exact ⟨⟨by first| omega| (simp only; omega)| (dsimp only; omega), OutG.one hr0 (fun i _ hi => upd_ne _ _ (by omega)) (upd_same _ _ _) (by omega) (by first| omega| (simp only; omega)| (dsimp only; omega)) han⟩, h0, K, hK, rfl⟩
 ·simp (disch := omega) [wks, wkA, sl, w64, ints, rows, cubes, w64] <;> omega
 ·skip
  rintro ⟨id, rs, z, Hx, K0, u⟩ m ⟨⟨hm, hO⟩, hu, K', hS, hKK⟩
  dsimp only at hm hO hu hS hKK
  simp -dsimp -implicitDefEqProofs (disch := omega) only [go_sem, reduceAdd, reduceSub, reduceGT, reduceEqDiff, reduceMul]
  have hid := hO.at'
  have hidm := hO.hi
  obtain ⟨is, hz, his⟩ := hO.last
  obtain ⟨q4, q5, q6⟩ := hz.slice
  have hlen := hO.len
  have hKl := congrArg List.length hKK
  have hKp := hS.pos
  simp only [List.length_append, List.length_cons, List.length_nil, List.length_map] at hlen hKl
  refine AW.block ?_
  refine AW.sr envOk (fun N hN => ?_)
  simp -dsimp -implicitDefEqProofs (disch := omega) only [go_sem, reduceAdd, reduceSub, reduceGT, reduceEqDiff, reduceMul, w64, hid, q4, q5, q6, last_get]
  refine AC.own (hF u hu) (.cons hz.vw Vws.rfl) ?_
  intro m1 H1 r1 ids1 hm1 hH1 hown1
  obtain ⟨q7, q8, q9⟩ := hown1.1.slice
  have hr2 := one_list q8
  have hid1 : H1 id = some (rs ++ [z]) := (hH1 id (by omega)).trans hid
  try simp -dsimp -implicitDefEqProofs (disch := omega) only [go_sem, reduceAdd, reduceSub, reduceGT, reduceEqDiff, reduceMul, q7, q8, q9, hr2, hid1, w64]
  refine hN _ ?_
  try clear hN N
  refine AW.seq (fun N1 hN1 => ?_)
  refine AW.sr envOk (fun N hN => ?_)
  simp -dsimp -implicitDefEqProofs (disch := omega) only [go_sem, reduceAdd, reduceSub, reduceGT, reduceEqDiff, reduceMul, w64, hid1, q4, q5, q6, q7, q8, q9, last_get]
  refine AC.pure (.lent (impl_sameRows_ok (G u) u (hl _ (hP u hu)) (hl _ hu)) (.cons hown1.1.vw (.cons (hz.keep fun i hi => hH1 i (by have := (his i hi).2; omega)).vw .nil)) (.b _)) ?_
  try simp -dsimp -implicitDefEqProofs (disch := omega) only [go_sem, reduceAdd, reduceSub, reduceGT, reduceEqDiff, reduceMul, w64]
  refine hN _ ?_
  try clear hN N
  refine AW.cond rfl (fun h1 => ?_) (fun h1 => ?_)
  ·try simp only [cn] at h1
   refine AW.sr envOk (fun N hN => ?_)
   simp -dsimp -implicitDefEqProofs (disch := omega) only [go_sem, reduceAdd, reduceSub, reduceGT, reduceEqDiff, reduceMul, w64]
   refine hN _ ?_
   try clear hN N
   refine AW.ret ?_
   simp -dsimp -implicitDefEqProofs (disch := omega) only [go_sem, reduceAdd, reduceSub, reduceGT, reduceEqDiff, reduceMul]
   rw [hS.eq h1] at hKK
   subst hKK
   obtain ⟨ids, hown⟩ := hO.own (n := rs.length + 1) (by simp)
   refine ⟨_, Le.refl _, ids, ?_⟩
   have := hown.keep (a' := a) (b' := m1 + 8 + 2) (H' := H1) (fun i _ hi => hH1 i (by omega)) (Nat.le_refl _) (by omega)
   simpa [cubes] using this
  ·try simp only [cn] at h1
   refine AW.skip ?_
   simp only [thn, blk]
   refine hN1 _ ?_
   try clear hN1 N1
   refine AW.regionL envOk ?_
   simp -dsimp -implicitDefEqProofs (disch := omega) only [go_sem, reduceAdd, reduceSub, reduceGT, reduceEqDiff, reduceMul, w64, hid1, q7, q8, q9, hr2, ex_sl, List.take_length, List.length_append, List.length_cons, List.length_nil]
   refine ⟨(m1 + 8 + 3, rs ++ [z], r1, upd (upd (upd H1 (m1 + 8 + 2) (some [r1])) id none) (m1 + 8 + 3) (some (List.take (rs.length + 1) (rs ++ [z]) ++ [r1])), K0 ++ [u], G u), ?_, Le.refl _, ?_, ?_⟩
   ·simp (disch := omega) [wks, wkA, sl, w64, ints, rows, cubes, w64] <;> omega
   ·refine ⟨?_, hP u hu, ?_⟩
    ·have := OutG.push (m2 := m1 + 8 + 5) (id2 := m1 + 8 + 3) (H2 := upd (upd (upd H1 (m1 + 8 + 2) (some [r1])) id none) (m1 + 8 + 3) (some (List.take (rs.length + 1) (rs ++ [z]) ++ [r1]))) (hO.more (m' := m + 9) (by omega)) hown1 (fun i h2 h3 => by rw [upd_ne _ _ (by omega), upd_ne _ _ h3, upd_ne _ _ (by omega)]; exact hH1 i h2) (fun i h2 h3 => by rw [upd_ne _ _ (by omega), upd_ne _ _ (by omega), upd_ne _ _ (by omega)]) (by rw [upd_same, List.take_of_length_le (by simp)]) (by omega) (by omega) (by omega)
     simpa using this
    ·obtain ⟨K2, rfl, hS2⟩ := hS.next h1
     exact ⟨K2, hS2, by rw [hKK]; simp⟩
   ·simp only [List.length_append, List.length_cons, List.length_nil]; omega

/-- The generators under construction, of one's own. -/
def WhO (n i nx m : Nat) (o : Option Nat) (rs : List AV) (H : HP) : Prop := nx ≤ m ∧ OutB nx m o rs H ((wholeL n).take i)
theorem impl_wholeLie_own (p : Int) (pw : List (List Int)) (br : List (List (List Int))) (hn : pw.length ≤ 1048576) : ACo Try.prog 91 [ringP p pw br] (rows (wholeL pw.length)) := by
 intro nx
 refine AC.intro' envOk Try.func91 rfl (by kernel_rfl) Try.ntmps91 Try.results91 ?_
 refine AW.sr envOk (fun N hN => ?_)
 simp -dsimp -implicitDefEqProofs (disch := omega) only [go_sem, reduceAdd, reduceSub, reduceGT, reduceEqDiff, reduceMul, ringP, rows, w64]
 refine hN _ ?_
 try clear hN N
 refine AW.sr envOk (fun N hN => ?_)
 simp -dsimp -implicitDefEqProofs (disch := omega) only [go_sem, reduceAdd, reduceSub, reduceGT, reduceEqDiff, reduceMul, ringP, rows, w64]
 refine hN _ ?_
 try clear hN N
 refine AW.seq (fun N1 hN1 => ?_)
 refine AW.sr envOk (fun N hN => ?_)
 simp -dsimp -implicitDefEqProofs (disch := omega) only [go_sem, reduceAdd, reduceSub, reduceGT, reduceEqDiff, reduceMul, ringP, rows, w64]
 refine hN _ ?_
 try clear hN N
 refine AW.block ?_
 refine AW.loopN (α := Nat × Option Nat × List AV × HP) (fun x => sl 25 [(0, ringP p pw br), (3, oA x.2.1 x.2.2.1.length), (9, .i .i64 pw.length), (10, .i .i64 x.1)]) (fun x => oH x.2.2.2 x.2.1 x.2.2.1) (fun x m => x.1 ≤ pw.length ∧ WhO pw.length x.1 nx m x.2.1 x.2.2.1 x.2.2.2) (fun x => pw.length - x.1) ((0, none, [], noH)) ?_ ?_ (fun _ _ h => h) ?_
 ·exact ⟨by simp, by first| omega| (simp only; omega)| (dsimp only; omega), by simpa using OutB.start⟩
 ·simp [wks, wkA, sl, rows, ringP, oA]
 ·skip
  rintro ⟨i, (_ | id), rs, Hx⟩ m ⟨hi, hnx, hB⟩
  ·skip
   simp -dsimp -implicitDefEqProofs (disch := omega) only [go_sem, reduceAdd, reduceSub, reduceGT, reduceEqDiff, reduceMul]
   dsimp only [oA, oH] at hi hnx hB ⊢
   obtain rfl := hB.no rfl
   refine AW.sr envOk (fun N hN => ?_)
   simp -dsimp -implicitDefEqProofs (disch := omega) only [go_sem, reduceAdd, reduceSub, reduceGT, reduceEqDiff, reduceMul, ringP, rows, w64]
   refine hN _ ?_
   try clear hN N
   refine AW.seq (fun N2 hN2 => ?_)
   refine AW.cond rfl (fun h1 => ?_) (fun h1 => ?_)
   ·try simp only [cn] at h1
    refine AW.skip ?_
    simp only [thn, blk]
    refine hN2 _ ?_
    try clear hN2 N2
    refine AW.seq (fun N3 hN3 => ?_)
    refine AW.block ?_
    refine AW.sr envOk (fun N hN => ?_)
    simp -dsimp -implicitDefEqProofs (disch := omega) only [go_sem, reduceAdd, reduceSub, reduceGT, reduceEqDiff, reduceMul, ringP, rows, w64]
    refine hN _ ?_
    try clear hN N
    refine AW.regionL envOk ?_
    simp -dsimp -implicitDefEqProofs (disch := omega) only [go_sem, reduceAdd, reduceSub, reduceGT, reduceEqDiff, reduceMul, ringP, rows, w64]
    refine AC.own (impl_unitVector_ok pw.length i hn (by omega)) (.cons (.refl _) (.cons (.refl _) .nil)) ?_
    intro m1 H1 r1 ids1 hm1 hH1 hown1
    obtain ⟨q1, q2, q3⟩ := hown1.1.slice
    have hr1 := one_list q2
    try simp -dsimp -implicitDefEqProofs (disch := omega) only [go_sem, reduceAdd, reduceSub, reduceGT, reduceEqDiff, reduceMul, q1, q2, q3, hr1, rows, w64]
    refine hN3 _ ?_
    try clear hN3 N3
    refine AW.regionL envOk ?_
    simp -dsimp -implicitDefEqProofs (disch := omega) only [go_sem, reduceAdd, reduceSub, reduceGT, reduceEqDiff, reduceMul, ringP, rows, w64]
    refine ⟨(i + 1, some (m + 1 + 3 + 8), [] ++ [r1], lim m1 (oN H1 none)), ?_, by have := hB.le (o := none) (m1 := m1) (c := some [r1]) (xs := [r1]) (id2 := m + 1 + 3 + 8) (idb := m + 1 + 3 + 7) hH1 (by omega) (by omega); exact this, ?_, ?_⟩
    ·simp (disch := omega) [wks, wkA, sl, rows, ringP, oA, w64]
    ·exact ⟨by first| omega| (simp only; omega)| (dsimp only; omega), by first| omega| (simp only; omega)| (dsimp only; omega), by dsimp only; rw [whole_take (by omega)]; exact hB.push hH1 hown1 (by omega) (by omega) (by omega) (by first| omega| (simp only; omega)| (dsimp only; omega)) hnx⟩
    ·first | omega | (simp only; omega)
   ·try simp only [cn] at h1
    refine AW.exit ?_
    simp only [thn, blk, if_true]
    refine hN1 _ ?_
    try clear hN1 N1
    refine AW.sr envOk (fun N hN => ?_)
    simp -dsimp -implicitDefEqProofs (disch := omega) only [go_sem, reduceAdd, reduceSub, reduceGT, reduceEqDiff, reduceMul, ringP, rows, w64]
    refine hN _ ?_
    try clear hN N
    refine AW.ret ?_
    simp -dsimp -implicitDefEqProofs (disch := omega) only [go_sem, reduceAdd, reduceSub, reduceGT, reduceEqDiff, reduceMul]
    obtain rfl : i = pw.length := by omega
    rw [show (wholeL pw.length).take pw.length = wholeL pw.length from List.take_of_length_le (by rw [whole_len]; omega)] at hB
    exact ⟨[], hB.nil⟩
  ·skip
   simp -dsimp -implicitDefEqProofs (disch := omega) only [go_sem, reduceAdd, reduceSub, reduceGT, reduceEqDiff, reduceMul]
   dsimp only [oA, oH] at hi hnx hB ⊢
   obtain ⟨i2, i3⟩ := hB.id rfl
   have hlen := hB.len
   have hlt : ((wholeL pw.length).take i).length ≤ pw.length := by rw [List.length_take, whole_len]; omega
   refine AW.sr envOk (fun N hN => ?_)
   simp -dsimp -implicitDefEqProofs (disch := omega) only [go_sem, reduceAdd, reduceSub, reduceGT, reduceEqDiff, reduceMul, ringP, rows, w64]
   refine hN _ ?_
   try clear hN N
   refine AW.seq (fun N4 hN4 => ?_)
   refine AW.cond rfl (fun h2 => ?_) (fun h2 => ?_)
   ·try simp only [cn] at h2
    refine AW.skip ?_
    simp only [thn, blk]
    refine hN4 _ ?_
    try clear hN4 N4
    refine AW.seq (fun N5 hN5 => ?_)
    refine AW.block ?_
    refine AW.sr envOk (fun N hN => ?_)
    simp -dsimp -implicitDefEqProofs (disch := omega) only [go_sem, reduceAdd, reduceSub, reduceGT, reduceEqDiff, reduceMul, ringP, rows, w64]
    refine hN _ ?_
    try clear hN N
    refine AW.regionL envOk ?_
    simp -dsimp -implicitDefEqProofs (disch := omega) only [go_sem, reduceAdd, reduceSub, reduceGT, reduceEqDiff, reduceMul, ringP, rows, w64]
    refine AC.own (impl_unitVector_ok pw.length i hn (by omega)) (.cons (.refl _) (.cons (.refl _) .nil)) ?_
    intro m1 H1 r1 ids1 hm1 hH1 hown1
    obtain ⟨q1, q2, q3⟩ := hown1.1.slice
    have hr1 := one_list q2
    have hidm : H1 id = some rs := (hH1 id (by omega)).trans (upd_same _ _ _)
    try simp -dsimp -implicitDefEqProofs (disch := omega) only [go_sem, reduceAdd, reduceSub, reduceGT, reduceEqDiff, reduceMul, q1, q2, q3, hr1, hidm, rows, w64, List.take_length]
    refine hN5 _ ?_
    try clear hN5 N5
    refine AW.regionL envOk ?_
    simp -dsimp -implicitDefEqProofs (disch := omega) only [go_sem, reduceAdd, reduceSub, reduceGT, reduceEqDiff, reduceMul, ringP, rows, w64]
    refine ⟨(i + 1, some (m + 1 + 3 + 8), rs ++ [r1], lim m1 (oN H1 (some id))), ?_, by have := hB.le (o := some id) (m1 := m1) (c := some [r1]) (xs := rs ++ [r1]) (id2 := m + 1 + 3 + 8) (idb := m + 1 + 3 + 7) hH1 (by omega) (by omega); exact this, ?_, ?_⟩
    ·simp (disch := omega) [wks, wkA, sl, rows, ringP, oA, w64]
    ·exact ⟨by first| omega| (simp only; omega)| (dsimp only; omega), by first| omega| (simp only; omega)| (dsimp only; omega), by dsimp only; rw [whole_take (by omega)]; exact hB.push hH1 hown1 (by omega) (by omega) (by omega) (by first| omega| (simp only; omega)| (dsimp only; omega)) hnx⟩
    ·first | omega | (simp only; omega)
   ·try simp only [cn] at h2
    refine AW.exit ?_
    simp only [thn, blk, if_true]
    refine hN1 _ ?_
    try clear hN1 N1
    refine AW.sr envOk (fun N hN => ?_)
    simp -dsimp -implicitDefEqProofs (disch := omega) only [go_sem, reduceAdd, reduceSub, reduceGT, reduceEqDiff, reduceMul, ringP, rows, w64]
    refine hN _ ?_
    try clear hN N
    refine AW.ret ?_
    simp -dsimp -implicitDefEqProofs (disch := omega) only [go_sem, reduceAdd, reduceSub, reduceGT, reduceEqDiff, reduceMul]
    obtain rfl : i = pw.length := by omega
    rw [show (wholeL pw.length).take pw.length = wholeL pw.length from List.take_of_length_le (by rw [whole_len]; omega)] at hB
    obtain ⟨ids, hown⟩ := hB.own
    exact ⟨ids, hown.keep (fun _ _ _ => rfl) (by omega) (by omega)⟩

end Go.Proofs.Ytbhlindlcfeppaa
