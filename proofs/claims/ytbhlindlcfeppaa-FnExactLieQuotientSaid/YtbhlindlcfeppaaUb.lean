/-
  LieQuotient, by the program.
-/
import Derived.Test.YtbhlindlcfeppaaUa
set_option linter.unusedVariables false
set_option linter.unusedSimpArgs false
namespace Go.Proofs.Ytbhlindlcfeppaa
open Nat (reduceAdd reduceSub reduceGT reduceEqDiff reduceMul)

/-- A ring and an error. -/
def resG (m : (Int × List (List Int) × List (List (List Int))) × Int) : AV := .t [ring m.1.1 m.1.2.1 m.1.2.2, .i .i64 m.2]
noncomputable def quoM (p : Int) (pw : List (List Int)) (br : List (List (List Int))) (u : List (List Int)) (a b : Bool) : (Int × List (List Int) × List (List (List Int))) × Int := match a, b with
  | true, true => ((p, qP p pw u, qB p pw br u), 0)
  | true, false => ((0, [], []), 5)
  | false, _ => ((0, [], []), 1)
theorem Own.nilG {a b : Nat} {H : HP} {e : Int} : ∃ ids, Own a b H (.t [.g [.i .i64 0, .nl, .nl], .i .i64 e]) (resG ((0, [], []), e)) ids :=
  ⟨_, .t _ _ _ (.cons _ _ _ _ _ _ (.g _ _ _ (.cons _ _ _ _ _ _ (.leaf _ (.i _ _) (.i _ _)) (.cons _ _ _ _ _ _ .nl (.cons _ _ _ _ _ _ .nl .nil)))) (.cons _ _ _ _ _ _ (.leaf _ (.i _ _) (.i _ _)) .nil)), by simp, by simp⟩

theorem gd_drop {O : List Int} {a k : Nat} (h : a + k < O.length) : (List.drop a (O.map (AV.i .i64))).getD k .j = .i .i64 (O.getD (a + k) 0) := by
  rw [List.getD_eq_getElem?_getD, List.getElem?_drop, ← List.getD_eq_getElem?_getD, gd_i h]
theorem tn_sub {x y : Nat} : ((x : Int) - (y : Int) - 1).toNat = x - y - 1 := by omega
theorem zP_len {n : Nat} : (zP n).length = n := by simp [zP]
/-- The state of the quotient's lists. -/
structure QuI (p : Int) (pw : List (List Int)) (u : List (List Int)) (a0 m c : Nat) (G : HP) (P B : AV) (a : Nat) (Y : List (List (List Int))) : Prop where
  le : a0 ≤ m
  R : RgO a0 m G P B (mixR (qP p pw u) (zP (qM pw u)) a) Y
  c : G c = some [.i .i64 0, .nl, .nl]
theorem QuI.p {p : Int} {pw u : List (List Int)} {a0 m c a : Nat} {G : HP} {P B : AV} {Y : List (List (List Int))} (h : QuI p pw u a0 m c G P B a Y) (ha : a < qM pw u) : ∃ id rs, P = .h id 0 (qM pw u) ∧ G id = some rs ∧ rs.length = qM pw u ∧ a0 ≤ id ∧ id < m := by
  have hl : (mixR (qP p pw u) (zP (qM pw u)) a).length = qM pw u := by rw [mixR_len qPz (by rw [qP_len]; omega), qP_len]
  have := h.R.p (by omega)
  rwa [hl] at this
theorem QuI.setP {p : Int} {pw u : List (List Int)} {a0 m m1 c a id : Nat} {G H1 : HP} {B r1 : AV} {Y : List (List (List Int))} {rs : List AV} {ids1 : List Nat} (h : QuI p pw u a0 m c G (.h id 0 (qM pw u)) B a Y) (ha : a < qM pw u) (hid : G id = some rs) (hc : c < a0) (ho : Own m m1 H1 r1 (ints ((qP p pw u).getD a [])) ids1) (hH : ∀ i, i < m → H1 i = G i) (hm : m ≤ m1) (hi : a0 ≤ id) :
    QuI p pw u a0 m1 c (upd H1 id (some (rs.set a r1))) (.h id 0 (qM pw u)) B (a + 1) Y := by
  have hl : (mixR (qP p pw u) (zP (qM pw u)) a).length = qM pw u := by rw [mixR_len qPz (by rw [qP_len]; omega), qP_len]
  have h1 : RgO a0 m G (.h id 0 (mixR (qP p pw u) (zP (qM pw u)) a).length) B (mixR (qP p pw u) (zP (qM pw u)) a) Y := by rw [hl]; exact h.R
  have h2 := h1.setP (k := a) hid (by rw [hl]; exact ha) ho hH hm h.le
  rw [mixR_set qPz (by rw [qP_len]; exact ha), hl] at h2
  exact ⟨by have := h.le; omega, h2, by rw [upd_ne _ _ (by omega), hH c (by have := h.le; omega)]; exact h.c⟩
theorem QuI.b {p : Int} {pw u : List (List Int)} {br : List (List (List Int))} {a0 m c a1 a k : Nat} {G : HP} {P B : AV} (h : QuI p pw u a0 m c G P B a1 (qY p pw br u a k)) (ha : a < qM pw u) (hk : k < qM pw u - 1 - a) : ∃ id bs q cs, B = .h id 0 (qM pw u) ∧ G id = some bs ∧ bs.length = qM pw u ∧ bs.getD a .j = .h q 0 (qM pw u - 1 - a) ∧ G q = some cs ∧ cs.length = qM pw u - 1 - a ∧ (a0 ≤ id ∧ id < m) ∧ a0 ≤ q ∧ q < m := by
  have hr := qrow_len (p := p) (pw := pw) (br := br) (u := u) ha (show k ≤ qM pw u - 1 - a by omega)
  have := h.R.b (k := a) (by rw [qY_len ha]; exact ha) (by rw [hr]; omega)
  rwa [qY_len ha, hr] at this
theorem QuI.setB {p : Int} {pw u : List (List Int)} {br : List (List (List Int))} {a0 m m1 c a1 a k id q : Nat} {G H1 : HP} {P r1 : AV} {bs cs : List AV} {ids1 : List Nat} (h : QuI p pw u a0 m c G P (.h id 0 (qM pw u)) a1 (qY p pw br u a k)) (ha : a < qM pw u) (hk : k < qM pw u - 1 - a) (hid : G id = some bs) (hb : bs.getD a .j = .h q 0 (qM pw u - 1 - a)) (hq : G q = some cs) (hc : c < a0) (ho : Own m m1 H1 r1 (ints ((qR p pw br u a).getD k [])) ids1) (hH : ∀ i, i < m → H1 i = G i) (hm : m ≤ m1) (hi : a0 ≤ q) :
    QuI p pw u a0 m1 c (upd H1 q (some (cs.set k r1))) P (.h id 0 (qM pw u)) a1 (qY p pw br u a (k + 1)) := by
  have hr := qrow_len (p := p) (pw := pw) (br := br) (u := u) ha (show k ≤ qM pw u - 1 - a by omega)
  have hy := qY_len (p := p) (pw := pw) (br := br) (u := u) (a := a) (k := k) ha
  have h1 : RgO a0 m G P (.h id 0 (qY p pw br u a k).length) (mixR (qP p pw u) (zP (qM pw u)) a1) (qY p pw br u a k) := by rw [hy]; exact h.R
  rw [← hr] at hb
  have h2 := h1.setB (B := .j) hid (by rw [qY_len ha]; exact ha) (by rw [hr]; exact hk) hb hq ho hH hm h.le
  rw [qY_s ha hk, hy] at h2
  exact ⟨by have := h.le; omega, h2, by rw [upd_ne _ _ (by omega), hH c (by have := h.le; omega)]; exact h.c⟩
theorem QuI.mm {p : Int} {pw u : List (List Int)} {a0 m m' c a : Nat} {G : HP} {P B : AV} {Y : List (List (List Int))} (h : QuI p pw u a0 m c G P B a Y) (hm : m ≤ m') : QuI p pw u a0 m' c G P B a Y := ⟨by have := h.le; omega, h.R.keep (fun _ _ _ => rfl) hm, h.c⟩

set_option maxHeartbeats 4000000 in
theorem impl_LieQuotient_ok (p : Int) (pw : List (List Int)) (br : List (List (List Int))) (hl : ringlen pw br) (u : List (List Int)) (hu : rowslen u) : ACo Try.prog 40 [ring p pw br, rows u] (resG (quoM p pw br u (tf (SpnP p pw br u)) (tf (within p pw u (brkLL p pw br u (wholeL pw.length)))))) := by
 have hln := hl.n
 obtain ⟨O, hO⟩ : ∃ O, othK u pw.length = O := ⟨_, rfl⟩
 have hM : qM pw u = O.length := by rw [← hO]; rfl
 intro nx
 refine AC.intro' envOk Try.func40 rfl (by kernel_rfl) Try.ntmps40 Try.results40 ?_
 refine AW.sr envOk (fun N hN => ?_)
 simp -dsimp -implicitDefEqProofs (disch := omega) only [go_sem, reduceAdd, reduceSub, reduceGT, reduceEqDiff, reduceMul, ring, w64]
 refine hN _ ?_
 try clear hN N
 refine AW.seq (fun N1 hN1 => ?_)
 refine AW.freezeQ 2 nx _ rfl ((upd_ne _ _ (by omega)).trans (upd_same _ _ _)) ?_
 simp -dsimp -implicitDefEqProofs (disch := omega) only [go_sem, reduceAdd, reduceSub, reduceGT, reduceEqDiff, reduceMul]
 refine AW.sr envOk (fun N hN => ?_)
 simp -dsimp -implicitDefEqProofs (disch := omega) only [go_sem, reduceAdd, reduceSub, reduceGT, reduceEqDiff, reduceMul, ring, w64]
 refine AC.pure (.lent (impl_areLieSpans_ok p pw br hl [u] (.one hu)) (.cons (.refl _) (.cons (Vw.cb rfl (upd_same _ _ _)) .nil)) (.b _)) ?_
 try simp -dsimp -implicitDefEqProofs (disch := omega) only [go_sem, reduceAdd, reduceSub, reduceGT, reduceEqDiff, reduceMul, ring, w64]
 refine hN _ ?_
 try clear hN N
 refine AW.cond rfl (fun h1 => ?_) (fun h1 => ?_)
 ·try simp only [cn] at h1
  refine AW.sr envOk (fun N hN => ?_)
  simp -dsimp -implicitDefEqProofs (disch := omega) only [go_sem, reduceAdd, reduceSub, reduceGT, reduceEqDiff, reduceMul, ring, w64]
  refine hN _ ?_
  try clear hN N
  refine AW.ret ?_
  simp -dsimp -implicitDefEqProofs (disch := omega) only [go_sem, reduceAdd, reduceSub, reduceGT, reduceEqDiff, reduceMul]
  rw [tf_f (fun h => h1 (spansP.one.2 h))]
  exact Own.nilG
 ·try simp only [cn] at h1
  have hs := spansP.one.1 h1
  have ht := hs.1.1.tri
  have h6 := ht.n6
  have hu6 := hs.2.1
  have hwl := whole_len (n := pw.length)
  refine AW.skip ?_
  simp only [thn, blk]
  refine hN1 _ ?_
  try clear hN1 N1
  refine AW.seq (fun N2 hN2 => ?_)
  refine AW.sr envOk (fun N hN => ?_)
  simp -dsimp -implicitDefEqProofs (disch := omega) only [go_sem, reduceAdd, reduceSub, reduceGT, reduceEqDiff, reduceMul, ring, w64]
  refine AC.pure (.of (impl_wholeLie_ok p pw br (by omega))) ?_
  try simp -dsimp -implicitDefEqProofs (disch := omega) only [go_sem, reduceAdd, reduceSub, reduceGT, reduceEqDiff, reduceMul, ring, w64]
  refine AC.pure (.of (impl_bracketsIn_ok p pw br hs.1.1.sh ht u (wholeL pw.length) u (by omega) (by omega) hs.2.2.1.mem (whole_el ht.p2) (hs.can.rws ht.n6) )) ?_
  try simp -dsimp -implicitDefEqProofs (disch := omega) only [go_sem, reduceAdd, reduceSub, reduceGT, reduceEqDiff, reduceMul, ring, w64]
  refine hN _ ?_
  try clear hN N
  refine AW.cond rfl (fun h2 => ?_) (fun h2 => ?_)
  ·try simp only [cn] at h2
   refine AW.sr envOk (fun N hN => ?_)
   simp -dsimp -implicitDefEqProofs (disch := omega) only [go_sem, reduceAdd, reduceSub, reduceGT, reduceEqDiff, reduceMul, ring, w64]
   refine hN _ ?_
   try clear hN N
   refine AW.ret ?_
   simp -dsimp -implicitDefEqProofs (disch := omega) only [go_sem, reduceAdd, reduceSub, reduceGT, reduceEqDiff, reduceMul]
   first| rw [tf_t hs, tf_f h2]| rw [tf_t hs]
   exact Own.nilG
  ·try simp only [cn] at h2
   have hM6 : O.length ≤ pw.length := by rw [← hM]; exact qM_le
   have hOg : ∀ a, a < O.length → O.getD a 0 = (oN' pw u a : Int) ∧ oN' pw u a < pw.length := fun a ha => by
    have := oN_ok (pw := pw) (u := u) (a := a) (by omega)
    rwa [hO] at this
   refine AW.skip ?_
   simp only [thn, blk]
   refine hN2 _ ?_
   try clear hN2 N2
   refine AW.sr envOk (fun N hN => ?_)
   simp -dsimp -implicitDefEqProofs (disch := omega) only [go_sem, reduceAdd, reduceSub, reduceGT, reduceEqDiff, reduceMul, ring, w64]
   refine AC.pure (.of (impl_otherDepths_ok p pw br u h6 (by omega) hs.dl )) ?_
   try simp -dsimp -implicitDefEqProofs (disch := omega) only [go_sem, reduceAdd, reduceSub, reduceGT, reduceEqDiff, reduceMul, ring, w64]
   rw [hO]
   try simp -dsimp -implicitDefEqProofs (disch := omega) only [go_sem, reduceAdd, reduceSub, reduceGT, reduceEqDiff, reduceMul, ring, w64]
   refine hN _ ?_
   try clear hN N
   refine AW.sr envOk (fun N hN => ?_)
   simp -dsimp -implicitDefEqProofs (disch := omega) only [go_sem, reduceAdd, reduceSub, reduceGT, reduceEqDiff, reduceMul, ring, w64, ints]
   refine AC.own (impl_zeroRing_ok p O.length (by omega)) (.cons (.refl _) (.cons (.refl _) .nil)) ?_
   intro m1 H1 r1 ids1 hm1 hH1 hown1
   obtain ⟨P, B, rfl, hP1, hB1, hR⟩ := RgO.of hown1
   try simp -dsimp -implicitDefEqProofs (disch := omega) only [go_sem, reduceAdd, reduceSub, reduceGT, reduceEqDiff, reduceMul, hP1, hB1]
   refine hN _ ?_
   try clear hN N
   refine AW.seq (fun N3 hN3 => ?_)
   refine AW.freezeQ 7 (nx + 3 + 4 + 5 + 3 + 5) _ rfl (upd_same _ _ _) ?_
   refine AW.nameH (fun G0 hG0 => ?_)
   dsimp only at hG0
   have hQ0 : QuI p pw u (nx + 3 + 4 + 5 + 3 + 7) m1 (nx + 1) G0 P B 0 (mixR (qB p pw br u) (zB (qM pw u)) 0) := by
    refine ⟨hm1, ?_, ?_⟩
    ·rw [mixR_0, mixR_0, hM]
     exact hR.keep (fun i q1 q2 => by rw [← hG0]; simp (disch := omega) only [upd_ne]) (Nat.le_refl _)
    ·rw [← hG0]; simp (disch := omega) only [upd_ne, upd_same, hH1]
   simp -dsimp -implicitDefEqProofs (disch := omega) only [go_sem, reduceAdd, reduceSub, reduceGT, reduceEqDiff, reduceMul]
   refine AW.sr envOk (fun N hN => ?_)
   simp -dsimp -implicitDefEqProofs (disch := omega) only [go_sem, reduceAdd, reduceSub, reduceGT, reduceEqDiff, reduceMul, ring, w64]
   refine hN _ ?_
   try clear hN N
   refine AW.block ?_
   refine AW.loopN (α := Nat × HP) (fun x => sl 81 [(1, rows u), (2, ringP p pw br), (4, .q (nx + 1) 0), (6, ints O), (7, .p 0 [.i .i64 p, P, B]), (30, ints O), (31, .i .i64 O.length), (32, .i .i64 x.1)]) (fun x => x.2) (fun x m => x.1 ≤ O.length ∧ QuI p pw u (nx + 3 + 4 + 5 + 3 + 7) m (nx + 1) x.2 P B x.1 (mixR (qB p pw br u) (zB (qM pw u)) x.1)) (fun x => O.length - x.1) ((0, G0)) ?_ ?_ (fun _ _ h => h) ?_
   ·exact ⟨by simp, hQ0.mm (by first| omega| (simp only; omega)| (dsimp only; omega))⟩
   ·simp (disch := omega) [wks, wkA, sl, rows, ringP, ints]
   ·skip
    rintro ⟨a, G⟩ m2 ⟨ha, hQ⟩
    dsimp only at ha hQ
    simp -dsimp -implicitDefEqProofs (disch := omega) only [go_sem, reduceAdd, reduceSub, reduceGT, reduceEqDiff, reduceMul]
    refine AW.sr envOk (fun N hN => ?_)
    simp -dsimp -implicitDefEqProofs (disch := omega) only [go_sem, reduceAdd, reduceSub, reduceGT, reduceEqDiff, reduceMul, ring, w64]
    refine hN _ ?_
    try clear hN N
    refine AW.seq (fun N4 hN4 => ?_)
    refine AW.cond rfl (fun h3 => ?_) (fun h3 => ?_)
    ·try simp only [cn] at h3
     obtain ⟨Pid, rs, rfl, hPid, hrl, hP2, hP3⟩ := hQ.p (by omega)
     obtain ⟨ho1, ho2⟩ := hOg a (by omega)
     have hle := hQ.le
     have hpe : El p pw.length (pw.getD (oN' pw u a) []) := ((hs.1.1.2.2.2.2 _ ho2).1).el
     have himg := impl_lieImage_ok p pw br ht u (hs.can.rws h6) hs.dl _ hpe
     rw [← qP_get (p := p) (show a < qM pw u by omega)] at himg
     refine AW.skip ?_
     simp only [thn, blk]
     refine hN4 _ ?_
     try clear hN4 N4
     refine AW.seq (fun N5 hN5 => ?_)
     refine AW.block ?_
     refine AW.sr envOk (fun N hN => ?_)
     simp -dsimp -implicitDefEqProofs (disch := omega) only [go_sem, reduceAdd, reduceSub, reduceGT, reduceEqDiff, reduceMul, ring, w64, ints, gd_i, ho1]
     refine hN _ ?_
     try clear hN N
     refine AW.seq (fun N hN => ?_)
     refine AW.drawF envOk (by kernel_rfl) [true, true, true, true, true, true, true, true, true, false, true, false] (by kernel_rfl) ?_
     simp -dsimp -implicitDefEqProofs (disch := omega) only [go_sem, reduceAdd, reduceSub, reduceGT, reduceEqDiff, reduceMul, ring, w64, ringP, rows, gd_r, hM]
     refine AC.own himg (.cons (.refl _) (.cons (.refl _) (.cons (.refl _) .nil))) ?_
     intro m3 H3 r3 ids3 hm3 hH3 hown3
     obtain ⟨q1, q2, q3⟩ := hown3.1.slice
     have hPid3 := (hH3 Pid (by omega)).trans hPid
     try simp -dsimp -implicitDefEqProofs (disch := omega) only [go_sem, reduceAdd, reduceSub, reduceGT, reduceEqDiff, reduceMul, q1, q2, q3, hPid3, hM, splice_one]
     refine hN _ ?_
     try clear hN N
     refine AW.nameH (fun G2 hG2 => ?_)
     dsimp only at hG2
     have hQ2 : QuI p pw u (nx + 3 + 4 + 5 + 3 + 7) m3 (nx + 1) G2 (.h Pid 0 (qM pw u)) B (a + 1) (mixR (qB p pw br u) (zB (qM pw u)) a) := by
      rw [← hG2]
      exact (hQ.mm (by omega)).setP (by omega) hPid (by omega) hown3 hH3 (by omega) hP2
     rw [← qY_0 (p := p) (br := br) (show a < qM pw u by omega)] at hQ2
     simp -dsimp -implicitDefEqProofs (disch := omega) only [go_sem, reduceAdd, reduceSub, reduceGT, reduceEqDiff, reduceMul]
     refine AW.sr envOk (fun N hN => ?_)
     simp -dsimp -implicitDefEqProofs (disch := omega) only [go_sem, reduceAdd, reduceSub, reduceGT, reduceEqDiff, reduceMul, ring, w64, ints, hM]
     refine hN _ ?_
     try clear hN N
     refine AW.block ?_
     refine AW.loopN (α := Nat × HP) (fun x => sl 81 [(1, rows u), (2, ringP p pw br), (4, .q (nx + 1) 0), (6, ints O), (7, .p 0 [.i .i64 p, .h Pid 0 (qM pw u), B]), (8, .i .i64 a), (9, .i .i64 (oN' pw u a)), (30, ints O), (31, .i .i64 O.length), (32, .i .i64 a), (51, .v (O.length - (a + 1)) (List.drop (a + 1) (O.map (AV.i .i64)))), (52, .i .i64 (O.length - (a + 1) : Nat)), (53, .i .i64 x.1)]) (fun x => x.2) (fun x m => x.1 ≤ O.length - 1 - a ∧ QuI p pw u (nx + 3 + 4 + 5 + 3 + 7) m (nx + 1) x.2 (.h Pid 0 (qM pw u)) B (a + 1) (qY p pw br u a x.1)) (fun x => O.length - x.1) ((0, G2)) ?_ ?_ (fun _ _ h => h) ?_
     ·exact ⟨by simp, hQ2.mm (by first| omega| (simp only; omega)| (dsimp only; omega))⟩
     ·simp (disch := omega) [wks, wkA, sl, rows, ringP, ints, hM] <;> exact List.take_of_length_le (by simp)
     ·skip
      rintro ⟨k, G3⟩ m4 ⟨hk, hQ3⟩
      dsimp only at hk hQ3
      simp -dsimp -implicitDefEqProofs (disch := omega) only [go_sem, reduceAdd, reduceSub, reduceGT, reduceEqDiff, reduceMul]
      refine AW.sr envOk (fun N hN => ?_)
      simp -dsimp -implicitDefEqProofs (disch := omega) only [go_sem, reduceAdd, reduceSub, reduceGT, reduceEqDiff, reduceMul, ring, w64]
      refine hN _ ?_
      try clear hN N
      refine AW.seq (fun N6 hN6 => ?_)
      refine AW.cond rfl (fun h4 => ?_) (fun h4 => ?_)
      ·try simp only [cn] at h4
       obtain ⟨Bid, bs, q, cs, rfl, hBid, hbl, hbq, hq, hcl, ⟨hb1, hb2⟩, hq3, hq4⟩ := hQ3.b (by omega) (by omega)
       obtain ⟨hp1, hp2⟩ := hOg (a + 1 + k) (by omega)
       have hasc := oN_asc (pw := pw) (u := u) (show a < a + 1 + k by omega) (by omega)
       have hrow := hs.1.1.sh.rl _ ho2
       have hbrl := hs.1.1.sh.bl
       have hbe := hs.1.1.sh.el (oN' pw u a) (oN' pw u (a + 1 + k) - oN' pw u a - 1) ho2 (by omega)
       have hle4 := hQ3.le
       have himg2 := impl_lieImage_ok p pw br ht u (hs.can.rws h6) hs.dl _ hbe
       rw [← qR_get (p := p) (pw := pw) (br := br) (u := u) (show k < qM pw u - 1 - a by omega)] at himg2
       refine AW.skip ?_
       simp only [thn, blk]
       refine hN6 _ ?_
       try clear hN6 N6
       refine AW.seq (fun N7 hN7 => ?_)
       refine AW.block ?_
       refine AW.sr envOk (fun N hN => ?_)
       simp -dsimp -implicitDefEqProofs (disch := omega) only [go_sem, reduceAdd, reduceSub, reduceGT, reduceEqDiff, reduceMul, ring, w64, gd_drop, hp1]
       refine hN _ ?_
       try clear hN N
       refine AW.drawT envOk (by kernel_rfl) [true, true, true, true, false, true, true, true, true, true, true, true, true, true, true, true, true, true, false, false, false] (.br 4 (.br 19 (.br 18 (.br 20 .nil .nil) .nil) (.br 18 (.br 19 (.br 20 .nil .nil) .nil) .nil)) (.br 18 (.br 4 (.br 19 (.br 20 .nil .nil) .nil) .nil) .nil)) (by kernel_rfl) ?_
       simp -dsimp -implicitDefEqProofs (disch := omega) only [go_sem, reduceAdd, reduceSub, reduceGT, reduceEqDiff, reduceMul, ring, w64, ringP, rows, cubes, gd_r, gd_c, hM, tn_sub, hBid, hbq, hbl]
       refine ⟨⟨?_, ?_⟩, ?_⟩
       all_goals
        refine AC.own himg2 (.cons (.refl _) (.cons (.refl _) (.cons (.refl _) .nil))) ?_
        intro m5 H5 r5 ids5 hm5 hH5 hown5
        obtain ⟨q1, q2, q3⟩ := hown5.1.slice
        have hBid5 := (hH5 Bid (by omega)).trans hBid
        have hq5 := (hH5 q (by omega)).trans hq
        try simp -dsimp -implicitDefEqProofs (disch := omega) only [go_sem, reduceAdd, reduceSub, reduceGT, reduceEqDiff, reduceMul, q1, q2, q3, hBid5, hbq, hbl, hq5, hcl, hM, splice_one]
        refine hN7 _ ?_
        try clear hN7 N7
        refine AW.nameH (fun G5 hG5 => ?_)
        dsimp only at hG5
        have hQ5 : QuI p pw u (nx + 3 + 4 + 5 + 3 + 7) m5 (nx + 1) G5 (.h Pid 0 (qM pw u)) (.h Bid 0 (qM pw u)) (a + 1) (qY p pw br u a (k + 1)) := by
         rw [← hG5]
         exact (hQ3.mm (by omega)).setB (by omega) (by omega) hBid hbq hq (by omega) hown5 hH5 (by omega) hq3
        simp -dsimp -implicitDefEqProofs (disch := omega) only [go_sem, reduceAdd, reduceSub, reduceGT, reduceEqDiff, reduceMul]
        refine AW.regionL envOk ?_
        simp -dsimp -implicitDefEqProofs (disch := omega) only [go_sem, reduceAdd, reduceSub, reduceGT, reduceEqDiff, reduceMul, ring, w64]
        refine ⟨(k + 1, G5), ?_, fun _ _ h => h, ?_, ?_⟩
        ·simp (disch := omega) [wks, wkA, sl, rows, cubes, ringP, ints, hM, w64]
        ·exact ⟨by first| omega| (simp only; omega)| (dsimp only; omega), hQ5.mm (by first| omega| (simp only; omega)| (dsimp only; omega))⟩
        ·first | omega | (simp only; omega)
      ·try simp only [cn] at h4
       have hend := qY_end (p := p) (pw := pw) (br := br) (u := u) (a := a) (k := k) (by omega) (by omega)
       rw [hend] at hQ3
       refine AW.exit ?_
       simp only [thn, blk, if_true]
       refine hN5 _ ?_
       try clear hN5 N5
       refine AW.regionL envOk ?_
       simp -dsimp -implicitDefEqProofs (disch := omega) only [go_sem, reduceAdd, reduceSub, reduceGT, reduceEqDiff, reduceMul, ring, w64]
       refine ⟨(a + 1, G3), ?_, fun _ _ h => h, ?_, ?_⟩
       ·simp (disch := omega) [wks, wkA, sl, rows, ringP, ints, hM, w64]
       ·exact ⟨by first| omega| (simp only; omega)| (dsimp only; omega), hQ3.mm (by first| omega| (simp only; omega)| (dsimp only; omega))⟩
       ·first | omega | (simp only; omega)
    ·try simp only [cn] at h3
     have hc4 := hQ.c
     refine AW.exit ?_
     simp only [thn, blk, if_true]
     refine hN3 _ ?_
     try clear hN3 N3
     refine AW.sr envOk (fun N hN => ?_)
     simp -dsimp -implicitDefEqProofs (disch := omega) only [go_sem, reduceAdd, reduceSub, reduceGT, reduceEqDiff, reduceMul, ring, w64, hc4, hP1, hB1, Bool.and_self]
     refine hN _ ?_
     try clear hN N
     refine AW.ret ?_
     simp -dsimp -implicitDefEqProofs (disch := omega) only [go_sem, reduceAdd, reduceSub, reduceGT, reduceEqDiff, reduceMul]
     rw [tf_t hs, tf_t h2]
     have haO : a = qM pw u := by omega
     have hR4 := hQ.R
     rw [mixR_all qPz (by rw [qP_len]; exact haO), mixR_all qBz (by rw [qB_len]; exact haO)] at hR4
     have hle := hQ.le
     obtain ⟨ids, hown⟩ := (hR4.keep (H' := upd G (nx + 1) (some [.i .i64 p, P, B])) (fun i q1 q2 => upd_ne _ _ (by omega)) (Nat.le_refl _)).own (p := p)
     exact (hown.keep (fun _ _ _ => rfl) (by omega) (by omega)).pair

end Go.Proofs.Ytbhlindlcfeppaa
