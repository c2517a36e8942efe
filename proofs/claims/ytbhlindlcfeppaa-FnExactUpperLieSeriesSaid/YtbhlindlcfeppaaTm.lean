/-
  LowerLieSeries, by the reference and by the program; results that are lists of lists of rows.
-/
import Derived.Test.YtbhlindlcfeppaaTj
import Derived.Test.YtbhlindlcfeppaaTl
set_option linter.unusedVariables false
set_option linter.unusedSimpArgs false
namespace Go.Proofs.Ytbhlindlcfeppaa
open Nat (reduceAdd reduceSub reduceGT reduceEqDiff reduceMul)

def resCC (m : List (List (List Int)) × Int) : AV := .t [cubes m.1, .i .i64 m.2]
def orCC (b : Bool) (m : List (List (List Int)) × Int) : List (List (List Int)) × Int := match b with
  | true => m
  | false => ([], 1)
theorem resCC_nr (m : List (List (List Int)) × Int) : NR (resCC m) := NR.ts (fun x hx => by
  simp at hx
  rcases hx with rfl | rfl
  · exact cubes_nr _
  · exact .i _ _)
theorem resCC_nl {e : Int} : Rd (.t [.nl, .i .i64 e]) (resCC ([], e)) := Rd.t2 .nl (.refl _)
theorem Own.nilCC {a b : Nat} {H : HP} {e : Int} : ∃ ids, Own a b H (.t [.nl, .i .i64 e]) (resCC ([], e)) ids :=
  ⟨[] ++ ([] ++ []), .t _ _ _ (.cons _ _ _ _ _ _ .nl (.cons _ _ _ _ _ _ (.leaf _ (.i _ _) (.i _ _)) .nil)), by simp, by simp⟩
theorem orCC_ok {q : Prop} {X : List (List (List Int))} (h : q → cubesml X) : (orCC (tf q) (X, 0)).1.length ≤ 1048576 ∧ cubesml (orCC (tf q) (X, 0)).1 := by
  by_cases hq : q
  · rw [tf_t hq]; have := (h hq).n; exact ⟨by simp only [orCC]; omega, h hq⟩
  · rw [tf_f hq]; exact ⟨by simp [orCC], .nil⟩
theorem can_sml {p : Int} {pw u : List (List Int)} {S : (Nat → Int) → Prop} (h : Can p pw S u) (h6 : pw.length ≤ 6) : u.length ≤ 1000 ∧ ∀ y ∈ u, y.length ≤ 1000 :=
  ⟨by have := h.toEch.len; omega, fun y hy => by have := (h.el y hy).len; omega⟩
theorem ser_sml {p : Int} {pw : List (List Int)} {F : List (List Int) → List (List Int)} (h6 : pw.length ≤ 6) (hF : ∀ u, CanU p pw u → CanU p pw (F u)) {u : List (List Int)} {K : List (List (List Int))} (h : SerC F u K) : CanU p pw u → ∀ x ∈ K, x.length ≤ 1000 ∧ ∀ y ∈ x, y.length ≤ 1000 := by
  induction h with
  | done u _ => intro hu x hx; rw [List.mem_singleton.1 hx]; exact can_sml hu h6
  | step u K _ _ ih =>
    intro hu x hx
    rcases List.mem_cons.1 hx with rfl | hx
    · exact can_sml hu h6
    · exact ih (hF _ hu) x hx
theorem lowK_sml {p : Int} {pw : List (List Int)} {br : List (List (List Int))} (h : shapeP p pw br) : cubesml (lowK p pw br) := by
  obtain ⟨g1, g2⟩ := lowK_ok h
  have h6 := h.tri.n6
  have hw := wholeU h.tri h.1
  exact ⟨by omega, ser_sml h6 (fun u hu => spanU h.tri h.1 (brkLL_el h.sh)) (g1.ser h.tri h.1 h hw) hw⟩

theorem spec_LowerLieSeries_ok (p : Int) (pw : List (List Int)) (br : List (List (List Int))) (hl : ringlen pw br) : ACp Try.prog 20 [ring p pw br] (resCC (orCC (tf (LieR p pw br)) (lowK p pw br, 0))) := by
 refine ACp.introR envOk Try.func20 rfl (by kernel_rfl) Try.ntmps20 Try.results20 (resCC_nr _) (fun nx => ?_)
 refine AW.sr envOk (fun N hN => ?_)
 simp -dsimp -implicitDefEqProofs (disch := omega) only [go_sem, reduceAdd, reduceSub, reduceGT, reduceEqDiff, reduceMul, ring, w64]
 refine hN _ ?_
 try clear hN N
 refine AW.seq (fun N1 hN1 => ?_)
 refine AW.sr envOk (fun N hN => ?_)
 simp -dsimp -implicitDefEqProofs (disch := omega) only [go_sem, reduceAdd, reduceSub, reduceGT, reduceEqDiff, reduceMul, ring, w64]
 refine AC.pure (.of (spec_IsLieRing_ok p pw br hl)) ?_
 try simp -dsimp -implicitDefEqProofs (disch := omega) only [go_sem, reduceAdd, reduceSub, reduceGT, reduceEqDiff, reduceMul, ring, w64]
 refine hN _ ?_
 try clear hN N
 refine AW.cond rfl (fun h1 => ?_) (fun h1 => ?_)
 ·try simp only [cn] at h1
  refine AW.sr envOk (fun N hN => ?_)
  simp -dsimp -implicitDefEqProofs (disch := omega) only [go_sem, reduceAdd, reduceSub, reduceGT, reduceEqDiff, reduceMul, ring, w64]
  refine hN _ ?_
  try clear hN N
  refine AW.ret ?_
  simp -dsimp -implicitDefEqProofs (disch := omega) only [go_sem, reduceAdd, reduceSub, reduceGT, reduceEqDiff, reduceMul]
  rw [tf_f h1]
  exact resCC_nl
 ·try simp only [cn] at h1
  obtain ⟨g1, g2⟩ := lowK_ok h1.1
  have h6 := h1.1.tri.n6
  refine AW.skip ?_
  simp only [thn, blk]
  refine hN1 _ ?_
  try clear hN1 N1
  refine AW.sr envOk (fun N hN => ?_)
  simp -dsimp -implicitDefEqProofs (disch := omega) only [go_sem, reduceAdd, reduceSub, reduceGT, reduceEqDiff, reduceMul, ring, w64]
  refine AC.pure (.of (spec_l32Lower_ok p pw br h1.1 _ g1 (by omega))) ?_
  try simp -dsimp -implicitDefEqProofs (disch := omega) only [go_sem, reduceAdd, reduceSub, reduceGT, reduceEqDiff, reduceMul, ring, w64]
  refine hN _ ?_
  try clear hN N
  refine AW.ret ?_
  simp -dsimp -implicitDefEqProofs (disch := omega) only [go_sem, reduceAdd, reduceSub, reduceGT, reduceEqDiff, reduceMul]
  rw [tf_t h1]
  exact .refl _

theorem impl_LowerLieSeries_ok (p : Int) (pw : List (List Int)) (br : List (List (List Int))) (hl : ringlen pw br) : ACo Try.prog 21 [ring p pw br] (resCC (orCC (tf (LieR p pw br)) (lowK p pw br, 0))) := by
 intro nx
 refine AC.intro' envOk Try.func21 rfl (by kernel_rfl) Try.ntmps21 Try.results21 ?_
 refine AW.sr envOk (fun N hN => ?_)
 simp -dsimp -implicitDefEqProofs (disch := omega) only [go_sem, reduceAdd, reduceSub, reduceGT, reduceEqDiff, reduceMul, ring, w64]
 refine hN _ ?_
 try clear hN N
 refine AW.freezeQ 1 nx _ rfl (upd_same _ _ _) ?_
 simp -dsimp -implicitDefEqProofs (disch := omega) only [go_sem, reduceAdd, reduceSub, reduceGT, reduceEqDiff, reduceMul]
 refine AW.seq (fun N1 hN1 => ?_)
 refine AW.sr envOk (fun N hN => ?_)
 simp -dsimp -implicitDefEqProofs (disch := omega) only [go_sem, reduceAdd, reduceSub, reduceGT, reduceEqDiff, reduceMul, ring, w64]
 refine AC.pure (.of (impl_IsLieRing_ok p pw br hl)) ?_
 try simp -dsimp -implicitDefEqProofs (disch := omega) only [go_sem, reduceAdd, reduceSub, reduceGT, reduceEqDiff, reduceMul, ring, w64]
 refine hN _ ?_
 try clear hN N
 refine AW.cond rfl (fun h1 => ?_) (fun h1 => ?_)
 ·try simp only [cn] at h1
  refine AW.sr envOk (fun N hN => ?_)
  simp -dsimp -implicitDefEqProofs (disch := omega) only [go_sem, reduceAdd, reduceSub, reduceGT, reduceEqDiff, reduceMul, ring, w64]
  refine hN _ ?_
  try clear hN N
  refine AW.ret ?_
  simp -dsimp -implicitDefEqProofs (disch := omega) only [go_sem, reduceAdd, reduceSub, reduceGT, reduceEqDiff, reduceMul]
  rw [tf_f h1]
  exact Own.nilCC
 ·try simp only [cn] at h1
  obtain ⟨g1, g2⟩ := lowK_ok h1.1
  have h6 := h1.1.tri.n6
  refine AW.skip ?_
  simp only [thn, blk]
  refine hN1 _ ?_
  try clear hN1 N1
  refine AW.sr envOk (fun N hN => ?_)
  simp -dsimp -implicitDefEqProofs (disch := omega) only [go_sem, reduceAdd, reduceSub, reduceGT, reduceEqDiff, reduceMul, ring, w64]
  refine AC.own (impl_lowerLie_ok p pw br h1.1 _ g1 (by omega)) (.cons (.refl _) .nil) ?_
  intro m1 H3 r3 ids hm1 hH1 hown1
  try simp -dsimp -implicitDefEqProofs (disch := omega) only [go_sem, reduceAdd, reduceSub, reduceGT, reduceEqDiff, reduceMul, ring, w64]
  refine hN _ ?_
  try clear hN N
  refine AW.ret ?_
  simp -dsimp -implicitDefEqProofs (disch := omega) only [go_sem, reduceAdd, reduceSub, reduceGT, reduceEqDiff, reduceMul]
  rw [tf_t h1]
  exact (hown1.keep (fun _ _ _ => rfl) (by omega) (by omega)).pair

end Go.Proofs.Ytbhlindlcfeppaa
