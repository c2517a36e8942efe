import Derived.Test.YtdghgmgppecncaaZ19
import Derived.Test.YtdghgmgppecncaaZ39
import Derived.Test.YtdghgmgppecncaaZ45
import Derived.Test.YtdghgmgppecncaaZ46
import Derived.Test.YtdghgmgppecncaaZ47
set_option linter.unusedVariables false
set_option linter.unusedSimpArgs false
namespace Go.Proofs.Ytdghgmgppecncaa
open Nat (reduceAdd reduceSub reduceGT reduceEqDiff reduceMul)
theorem rws_nil {p : Int} {n : Nat} (h6 : n ≤ 6) : Rws p n [] := (Ech.nil (p := p) (n := n)).rws h6
theorem impl_LieCentre_ok (p : Int) (pw : List (List Int)) (br : List (List (List Int))) (hl : ringlen pw br) : ACo Try.prog 80 [ring p pw br] (resRR (orRR (tf (LieR p pw br)) (aboveL p pw br [] (wholeL pw.length), 0))) := by
 intro nx
 refine AC.intro' envOk Try.func80 rfl (by kernel_rfl) Try.ntmps80 Try.results80 ?_
 refine AW.sr envOk (fun N hN => ?_)
 simp -dsimp -implicitDefEqProofs (disch := omega) only [go_sem, undef, reduceAdd, reduceSub, reduceGT, reduceEqDiff, reduceMul, ring, w64]
 refine hN _ ?_
 try clear hN N
 refine AW.freezeQ 1 nx _ rfl (upd_same _ _ _) ?_
 simp -dsimp -implicitDefEqProofs (disch := omega) only [go_sem, undef, reduceAdd, reduceSub, reduceGT, reduceEqDiff, reduceMul]
 refine AW.seq (fun N1 hN1 => ?_)
 refine AW.sr envOk (fun N hN => ?_)
 simp -dsimp -implicitDefEqProofs (disch := omega) only [go_sem, undef, reduceAdd, reduceSub, reduceGT, reduceEqDiff, reduceMul, ring, w64]
 refine AC.pure (.of (impl_IsLieRing_ok p pw br hl)) ?_
 try simp -dsimp -implicitDefEqProofs (disch := omega) only [go_sem, undef, reduceAdd, reduceSub, reduceGT, reduceEqDiff, reduceMul, ring, w64]
 refine hN _ ?_
 try clear hN N
 refine AW.cond rfl (fun h1 => ?_) (fun h1 => ?_)
 ·try simp only [cn] at h1
  refine AW.sr envOk (fun N hN => ?_)
  simp -dsimp -implicitDefEqProofs (disch := omega) only [go_sem, undef, reduceAdd, reduceSub, reduceGT, reduceEqDiff, reduceMul, ring, w64]
  refine hN _ ?_
  try clear hN N
  refine AW.ret ?_
  simp -dsimp -implicitDefEqProofs (disch := omega) only [go_sem, undef, reduceAdd, reduceSub, reduceGT, reduceEqDiff, reduceMul]
  rw [tf_f h1]
  exact Own.nilRR
 ·try simp only [cn] at h1
  have ht := h1.1.tri
  have h6 := ht.n6
  refine AW.skip ?_
  simp only [thn, blk]
  refine hN1 _ ?_
  try clear hN1 N1
  refine AW.sr envOk (fun N hN => ?_)
  simp -dsimp -implicitDefEqProofs (disch := omega) only [go_sem, undef, reduceAdd, reduceSub, reduceGT, reduceEqDiff, reduceMul, ring, w64]
  refine AC.pure (.of (impl_wholeLie_ok p pw br (by omega))) ?_
  try simp -dsimp -implicitDefEqProofs (disch := omega) only [go_sem, undef, reduceAdd, reduceSub, reduceGT, reduceEqDiff, reduceMul, ring, w64]
  refine AC.own (impl_lieAbove_ok p pw br h1.1.sh ht h1.1.1 h1.1.2.2.2.1 [] (wholeL pw.length) (rws_nil h6) (by rw [whole_len]; omega) (whole_el ht.p2)) (.cons (.refl _) (.cons .nl (.cons (.refl _) .nil))) ?_
  intro m1 H3 r3 ids hm1 hH1 hown1
  try simp -dsimp -implicitDefEqProofs (disch := omega) only [go_sem, undef, reduceAdd, reduceSub, reduceGT, reduceEqDiff, reduceMul, ring, w64]
  refine hN _ ?_
  try clear hN N
  refine AW.ret ?_
  simp -dsimp -implicitDefEqProofs (disch := omega) only [go_sem, undef, reduceAdd, reduceSub, reduceGT, reduceEqDiff, reduceMul]
  rw [tf_t h1]
  exact (hown1.keep (fun _ _ _ => rfl) (by omega) (by omega)).pair
end Go.Proofs.Ytdghgmgppecncaa
namespace Go.Proofs.Ytdghgmgppecncaa
open Nat (reduceAdd reduceSub reduceGT reduceEqDiff reduceMul)
structure cubesml (a : List (List (List Int))) : Prop where
  n : a.length ≤ 1000
  v : ∀ x ∈ a, x.length ≤ 1000 ∧ ∀ y ∈ x, y.length ≤ 1000
theorem cubesml.nil : cubesml [] := ⟨by simp, by simp⟩
theorem cubesml.row {a : List (List (List Int))} (h : cubesml a) (i : Nat) : rowslen (a.getD i []) ∧ tot (a.getD i []) ≤ 1000000 := by
  have hg : (a.getD i []).length ≤ 1000 ∧ ∀ y ∈ a.getD i [], y.length ≤ 1000 := getD_mem (P := fun x : List (List Int) => x.length ≤ 1000 ∧ ∀ y ∈ x, y.length ≤ 1000) h.v (by simp) i
  refine ⟨⟨by omega, fun x hx => by have := hg.2 x hx; omega⟩, ?_⟩
  have go : ∀ xs : List (List Int), (∀ y ∈ xs, y.length ≤ 1000) → tot xs ≤ 1000 * xs.length := by
    intro xs
    induction xs with
    | nil => intro _; simp [tot]
    | cons x xs ih =>
      intro h
      have h1 := h x (by simp)
      have h2 := ih (fun y hy => h y (by simp [hy]))
      simp only [tot, List.length_cons]; omega
  have := go _ hg.2
  omega
theorem cubesml.len {a : List (List (List Int))} (h : cubesml a) : cubeslen a := ⟨by have := h.n; omega, fun x hx => by
  obtain ⟨k, hk, rfl⟩ := mem_ix (d := []) hx
  exact (h.row k).1⟩
def tot3 : List (List (List Int)) → Nat
  | [] => 0
  | x :: xs => tot x + tot3 xs
theorem tot3_take {xs : List (List (List Int))} {i : Nat} (h : i < xs.length) : tot3 (xs.take (i + 1)) = tot3 (xs.take i) + tot (xs.getD i []) := by
  induction xs generalizing i with
  | nil => simp at h
  | cons x xs ih =>
    cases i with
    | zero => simp [tot3]
    | succ i =>
      simp only [List.take_succ_cons, tot3, List.getD_cons_succ]
      rw [ih (by simpa using h)]; omega
theorem cubesml.tot {a : List (List (List Int))} (h : cubesml a) : ∀ i, i ≤ a.length → tot3 (a.take i) ≤ 1000000 * i := by
  intro i
  induction i with
  | zero => intro _; simp [tot3]
  | succ i ih =>
    intro hi
    have h1 := ih (by omega)
    have h2 := (h.row i).2
    rw [tot3_take (by omega)]; omega
end Go.Proofs.Ytdghgmgppecncaa
namespace Go.Proofs.Ytdghgmgppecncaa
open Nat (reduceAdd reduceSub reduceGT reduceEqDiff reduceMul)
def resCC (m : List (List (List Int)) × Int) : AV := .t [cubes m.1, .i .i64 m.2]
def orCC (b : Bool) (m : List (List (List Int)) × Int) : List (List (List Int)) × Int := match b with
  | true => m
  | false => ([], 1)
theorem resCC_nr (m : List (List (List Int)) × Int) : NR (resCC m) := NR.ts (fun x hx => by
  simp at hx
  rcases hx with rfl | rfl
  · exact cubes_nr _
  · exact .i _ _)
theorem resCC_nl {e : Int} : Rd (.t [.nl, .i .i64 e]) (resCC ([], e)) := Rd.t2 .nl (.refl _)
theorem Own.nilCC {a b : Nat} {H : HP} {e : Int} : ∃ ids, Own a b H (.t [.nl, .i .i64 e]) (resCC ([], e)) ids :=
  ⟨[] ++ ([] ++ []), .t _ _ _ (.cons _ _ _ _ _ _ .nl (.cons _ _ _ _ _ _ (.leaf _ (.i _ _) (.i _ _)) .nil)), by simp, by simp⟩
theorem can_sml {p : Int} {pw u : List (List Int)} {S : (Nat → Int) → Prop} (h : Can p pw S u) (h6 : pw.length ≤ 6) : u.length ≤ 1000 ∧ ∀ y ∈ u, y.length ≤ 1000 :=
  ⟨by have := h.toEch.len; omega, fun y hy => by have := (h.el y hy).len; omega⟩
theorem ser_sml {p : Int} {pw : List (List Int)} {F : List (List Int) → List (List Int)} (h6 : pw.length ≤ 6) (hF : ∀ u, CanU p pw u → CanU p pw (F u)) {u : List (List Int)} {K : List (List (List Int))} (h : SerC F u K) : CanU p pw u → ∀ x ∈ K, x.length ≤ 1000 ∧ ∀ y ∈ x, y.length ≤ 1000 := by
  induction h with
  | done u _ => intro hu x hx; rw [List.mem_singleton.1 hx]; exact can_sml hu h6
  | step u K _ _ ih =>
    intro hu x hx
    rcases List.mem_cons.1 hx with rfl | hx
    · exact can_sml hu h6
    · exact ih (hF _ hu) x hx
theorem lowK_sml {p : Int} {pw : List (List Int)} {br : List (List (List Int))} (h : shapeP p pw br) : cubesml (lowK p pw br) := by
  obtain ⟨g1, g2⟩ := lowK_ok h
  have h6 := h.tri.n6
  have hw := wholeU h.tri h.1
  exact ⟨by omega, ser_sml h6 (fun u hu => spanU h.tri h.1 (brkLL_el h.sh)) (g1.ser h.tri h.1 h hw) hw⟩
theorem spec_LowerLieSeries_ok (p : Int) (pw : List (List Int)) (br : List (List (List Int))) (hl : ringlen pw br) : ACp Try.prog 75 [ring p pw br] (resCC (orCC (tf (LieR p pw br)) (lowK p pw br, 0))) := by
 refine ACp.introR envOk Try.func75 rfl (by kernel_rfl) Try.ntmps75 Try.results75 (resCC_nr _) (fun nx => ?_)
 refine AW.sr envOk (fun N hN => ?_)
 simp -dsimp -implicitDefEqProofs (disch := omega) only [go_sem, undef, reduceAdd, reduceSub, reduceGT, reduceEqDiff, reduceMul, ring, w64]
 refine hN _ ?_
 try clear hN N
 refine AW.seq (fun N1 hN1 => ?_)
 refine AW.sr envOk (fun N hN => ?_)
 simp -dsimp -implicitDefEqProofs (disch := omega) only [go_sem, undef, reduceAdd, reduceSub, reduceGT, reduceEqDiff, reduceMul, ring, w64]
 refine AC.pure (.of (spec_IsLieRing_ok p pw br hl)) ?_
 try simp -dsimp -implicitDefEqProofs (disch := omega) only [go_sem, undef, reduceAdd, reduceSub, reduceGT, reduceEqDiff, reduceMul, ring, w64]
 refine hN _ ?_
 try clear hN N
 refine AW.cond rfl (fun h1 => ?_) (fun h1 => ?_)
 ·try simp only [cn] at h1
  refine AW.sr envOk (fun N hN => ?_)
  simp -dsimp -implicitDefEqProofs (disch := omega) only [go_sem, undef, reduceAdd, reduceSub, reduceGT, reduceEqDiff, reduceMul, ring, w64]
  refine hN _ ?_
  try clear hN N
  refine AW.ret ?_
  simp -dsimp -implicitDefEqProofs (disch := omega) only [go_sem, undef, reduceAdd, reduceSub, reduceGT, reduceEqDiff, reduceMul]
  rw [tf_f h1]
  exact resCC_nl
 ·try simp only [cn] at h1
  obtain ⟨g1, g2⟩ := lowK_ok h1.1
  have h6 := h1.1.tri.n6
  refine AW.skip ?_
  simp only [thn, blk]
  refine hN1 _ ?_
  try clear hN1 N1
  refine AW.sr envOk (fun N hN => ?_)
  simp -dsimp -implicitDefEqProofs (disch := omega) only [go_sem, undef, reduceAdd, reduceSub, reduceGT, reduceEqDiff, reduceMul, ring, w64]
  refine AC.pure (.of (spec_l32Lower_ok p pw br h1.1 _ g1 (by omega))) ?_
  try simp -dsimp -implicitDefEqProofs (disch := omega) only [go_sem, undef, reduceAdd, reduceSub, reduceGT, reduceEqDiff, reduceMul, ring, w64]
  refine hN _ ?_
  try clear hN N
  refine AW.ret ?_
  simp -dsimp -implicitDefEqProofs (disch := omega) only [go_sem, undef, reduceAdd, reduceSub, reduceGT, reduceEqDiff, reduceMul]
  rw [tf_t h1]
  exact .refl _
theorem impl_LowerLieSeries_ok (p : Int) (pw : List (List Int)) (br : List (List (List Int))) (hl : ringlen pw br) : ACo Try.prog 74 [ring p pw br] (resCC (orCC (tf (LieR p pw br)) (lowK p pw br, 0))) := by
 intro nx
 refine AC.intro' envOk Try.func74 rfl (by kernel_rfl) Try.ntmps74 Try.results74 ?_
 refine AW.sr envOk (fun N hN => ?_)
 simp -dsimp -implicitDefEqProofs (disch := omega) only [go_sem, undef, reduceAdd, reduceSub, reduceGT, reduceEqDiff, reduceMul, ring, w64]
 refine hN _ ?_
 try clear hN N
 refine AW.freezeQ 1 nx _ rfl (upd_same _ _ _) ?_
 simp -dsimp -implicitDefEqProofs (disch := omega) only [go_sem, undef, reduceAdd, reduceSub, reduceGT, reduceEqDiff, reduceMul]
 refine AW.seq (fun N1 hN1 => ?_)
 refine AW.sr envOk (fun N hN => ?_)
 simp -dsimp -implicitDefEqProofs (disch := omega) only [go_sem, undef, reduceAdd, reduceSub, reduceGT, reduceEqDiff, reduceMul, ring, w64]
 refine AC.pure (.of (impl_IsLieRing_ok p pw br hl)) ?_
 try simp -dsimp -implicitDefEqProofs (disch := omega) only [go_sem, undef, reduceAdd, reduceSub, reduceGT, reduceEqDiff, reduceMul, ring, w64]
 refine hN _ ?_
 try clear hN N
 refine AW.cond rfl (fun h1 => ?_) (fun h1 => ?_)
 ·try simp only [cn] at h1
  refine AW.sr envOk (fun N hN => ?_)
  simp -dsimp -implicitDefEqProofs (disch := omega) only [go_sem, undef, reduceAdd, reduceSub, reduceGT, reduceEqDiff, reduceMul, ring, w64]
  refine hN _ ?_
  try clear hN N
  refine AW.ret ?_
  simp -dsimp -implicitDefEqProofs (disch := omega) only [go_sem, undef, reduceAdd, reduceSub, reduceGT, reduceEqDiff, reduceMul]
  rw [tf_f h1]
  exact Own.nilCC
 ·try simp only [cn] at h1
  obtain ⟨g1, g2⟩ := lowK_ok h1.1
  have h6 := h1.1.tri.n6
  refine AW.skip ?_
  simp only [thn, blk]
  refine hN1 _ ?_
  try clear hN1 N1
  refine AW.sr envOk (fun N hN => ?_)
  simp -dsimp -implicitDefEqProofs (disch := omega) only [go_sem, undef, reduceAdd, reduceSub, reduceGT, reduceEqDiff, reduceMul, ring, w64]
  refine AC.own (impl_lowerLie_ok p pw br h1.1 _ g1 (by omega)) (.cons (.refl _) .nil) ?_
  intro m1 H3 r3 ids hm1 hH1 hown1
  try simp -dsimp -implicitDefEqProofs (disch := omega) only [go_sem, undef, reduceAdd, reduceSub, reduceGT, reduceEqDiff, reduceMul, ring, w64]
  refine hN _ ?_
  try clear hN N
  refine AW.ret ?_
  simp -dsimp -implicitDefEqProofs (disch := omega) only [go_sem, undef, reduceAdd, reduceSub, reduceGT, reduceEqDiff, reduceMul]
  rw [tf_t h1]
  exact (hown1.keep (fun _ _ _ => rfl) (by omega) (by omega)).pair
end Go.Proofs.Ytdghgmgppecncaa
