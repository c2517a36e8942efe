import Derived.Test.YtdghgmgppecncaaZ47
set_option linter.unusedVariables false
set_option linter.unusedSimpArgs false
namespace Go.Proofs.Ytdghgmgppecncaa
open Nat (reduceAdd reduceSub reduceGT reduceEqDiff reduceMul)
def BrO (p : Int) (pw : List (List Int)) (br : List (List (List Int))) (u v : List (List Int)) (i j nx m : Nat) (o : Option Nat) (rs : List AV) (H : HP) : Prop := nx ≤ m ∧ OutB nx m o rs H (brkIJ p pw br u v i j)
theorem BrO.row {p : Int} {pw : List (List Int)} {br : List (List (List Int))} {u v : List (List Int)} {i j nx m m' : Nat} {o : Option Nat} {rs : List AV} {H : HP} (h : BrO p pw br u v i j nx m o rs H) (hi : i < u.length) (hj : j = v.length) (hm : m ≤ m') : BrO p pw br u v (i + 1) 0 nx m' o rs H := by
  refine ⟨by have := h.1; omega, ?_⟩
  rw [brkIJ_z, ← brkIJ_n hi, ← hj]
  exact h.2.more hm
theorem BrO.mm {p : Int} {pw : List (List Int)} {br : List (List (List Int))} {u v : List (List Int)} {i j nx m m' : Nat} {o : Option Nat} {rs : List AV} {H : HP} (h : BrO p pw br u v i j nx m o rs H) (hm : m ≤ m') : BrO p pw br u v i j nx m' o rs H := ⟨by have := h.1; omega, h.2.more hm⟩
theorem BrO.fin {p : Int} {pw : List (List Int)} {br : List (List (List Int))} {u v : List (List Int)} {i nx m : Nat} {o : Option Nat} {rs : List AV} {H : HP} (h : BrO p pw br u v i 0 nx m o rs H) (hi : i = u.length) : OutB nx m o rs H (brkLL p pw br u v) := by
  have := h.2
  rwa [brkIJ_z, hi, List.take_length] at this
theorem CatP.own {nx nx' : Nat} {H H' : HP} {r : AV} {U V : List (List Int)} {rs vs : List AV} (h : CatP nx H [rs, vs].flatten nx' H' r) (hl : rs.length = U.length) (hl2 : vs.length = V.length)
    (h1 : ∀ (k : Nat) (x y : AV), rs[k]? = some x → (U.map Go.Proofs.Ytdghgmgppecncaa.ints)[k]? = some y → Vw H' x y) (h2 : ∀ (k : Nat) (x y : AV), vs[k]? = some x → (V.map Go.Proofs.Ytdghgmgppecncaa.ints)[k]? = some y → Vw H' x y) : Vw H' r (rows (U ++ V)) := by
  refine h.vw (by simp [hl, hl2]) fun k x y hx hy => ?_
  simp only [List.flatten_cons, List.flatten_nil, List.append_nil, List.map_append] at hx hy
  rw [List.getElem?_append] at hx hy
  rw [List.length_map] at hy
  rw [hl] at hx
  split at hx
  · rename_i hk
    rw [if_pos hk] at hy
    exact h1 k x y hx hy
  · rename_i hk
    rw [if_neg hk] at hy
    exact h2 _ x y hx hy
noncomputable def closR (p : Int) (pw : List (List Int)) (br : List (List (List Int))) (Y G : List (List Int)) : List (List Int) := open Classical in if h : ∃ r, Clos p pw br Y (spanL p pw G) r ∧ CanU p pw r then Classical.choose h else []
theorem closR_ok {p : Int} {pw : List (List Int)} {br : List (List (List Int))} {Y G : List (List Int)} (h : AllEl p pw br G) : Clos p pw br Y (spanL p pw G) (closR p pw br Y G) ∧ CanU p pw (closR p pw br Y G) := by
  have ht := h.1.1.tri
  have hex : ∃ r, Clos p pw br Y (spanL p pw G) r ∧ CanU p pw r := clos_ex h.1.1.sh ht h.1.1.1 _ (spanU ht h.1.1.1 (allEl.mem h.2)) (Nat.le_refl _)
  unfold closR
  rw [dif_pos hex]
  exact Classical.choose_spec hex
theorem spec_l32Ring_ok (p : Int) (pw : List (List Int)) (br : List (List (List Int))) (s : Sh p pw br) (ht : Tri p pw) (hp : pr4 p) (G R : List (List Int)) (hG : G.length ≤ 1048576) (hGe : ∀ b ∈ G, El p pw.length b) (hR : Clos p pw br [] (spanL p pw G) R) : ACp Try.prog 278 [ring p pw br, rows G] (rows R) := by
 have h6 := ht.n6
 refine ACp.intro' envOk Try.func278 rfl (by kernel_rfl) Try.ntmps278 Try.results278 (rows_nr _) (fun nx => ?_)
 refine AW.sr envOk (fun N hN => ?_)
 simp -dsimp -implicitDefEqProofs (disch := omega) only [go_sem, undef, reduceAdd, reduceSub, reduceGT, reduceEqDiff, reduceMul, ringP, ring, w64]
 refine hN _ ?_
 try clear hN N
 refine AW.freezeQ 2 nx _ rfl (upd_same _ _ _) ?_
 simp -dsimp -implicitDefEqProofs (disch := omega) only [go_sem, undef, reduceAdd, reduceSub, reduceGT, reduceEqDiff, reduceMul]
 refine AW.sr envOk (fun N hN => ?_)
 simp -dsimp -implicitDefEqProofs (disch := omega) only [go_sem, undef, reduceAdd, reduceSub, reduceGT, reduceEqDiff, reduceMul, ringP, ring, w64]
 refine AC.pure (.of (spec_l32Span_ok p pw br ht hp G hG (fun k hk => hGe _ (ix_mem hk)))) ?_
 try simp -dsimp -implicitDefEqProofs (disch := omega) only [go_sem, undef, reduceAdd, reduceSub, reduceGT, reduceEqDiff, reduceMul, ringP, ring, w64]
 refine hN _ ?_
 try clear hN N
 refine AW.block ?_
 refine AW.loopN (α := List (List Int)) (fun x => sl 24 [(2, ringP p pw br), (5, rows x)]) (fun _ => noH) (fun x m => CanU p pw x ∧ Clos p pw br [] x R) (fun x => pw.length - x.length) (spanL p pw G) ?_ ?_ (Le.del (by simp [noH])) ?_
 ·exact ⟨spanU ht hp hGe, hR⟩
 ·simp (disch := omega) [wks, wkA, sl, w64, ints, rows, cubes, ringP, ring, w64] <;> omega
 ·skip
  rintro U m ⟨hU, hC⟩
  have hUl := hU.toEch.len
  have hcc := cstep_can s ht hp (y := []) hU.el
  have hcl := hcc.toEch.len
  obtain ⟨hg1, hg2⟩ := cstep_grow s ht hp (y := []) hU
  have hb := brkLL_el s (u := U) (v := U)
  have hsb := spanU ht hp hb
  have hsl := hsb.toEch.len
  have hgr := spec_l32Grown_ok p pw br ht hp U (spanL p pw (brkLL p pw br U U)) (by omega) (by omega) hU.el hsb.el
  rw [ring_step s ht hp hU.el] at hgr
  simp -dsimp -implicitDefEqProofs (disch := omega) only [go_sem, undef, reduceAdd, reduceSub, reduceGT, reduceEqDiff, reduceMul]
  refine AW.block ?_
  refine AW.seq (fun N hN => ?_)
  refine AW.drawL envOk (by kernel_rfl) 8 (by kernel_rfl) ?_
  simp -dsimp -implicitDefEqProofs (disch := omega) only [hr_nil, hr_one, hr_if, List.take_succ_cons, List.take_zero, List.drop_succ_cons, List.drop_zero, List.take_nil, List.drop_nil, go_sem, undef, reduceAdd, reduceSub, reduceGT, reduceEqDiff, reduceMul, ringP, ring, w64]
  refine ⟨_, .of (spec_l32Brackets_ok p pw br s ht hp U U (by omega) (by omega) hU.el hU.el), ?_⟩
  try simp -dsimp -implicitDefEqProofs (disch := omega) only [go_sem, undef, reduceAdd, reduceSub, reduceGT, reduceEqDiff, reduceMul, ringP, ring, w64]
  refine ⟨_, .of (hgr ), ?_⟩
  try simp -dsimp -implicitDefEqProofs (disch := omega) only [go_sem, undef, reduceAdd, reduceSub, reduceGT, reduceEqDiff, reduceMul, ringP, ring, w64]
  refine hN _ ?_
  try clear hN N
  refine AW.seq (fun N1 hN1 => ?_)
  refine AW.sr envOk (fun N hN => ?_)
  simp -dsimp -implicitDefEqProofs (disch := omega) only [go_sem, undef, reduceAdd, reduceSub, reduceGT, reduceEqDiff, reduceMul, ringP, ring, w64]
  refine hN _ ?_
  try clear hN N
  refine AW.cond rfl (fun h1 => ?_) (fun h1 => ?_)
  ·try simp only [cn] at h1
   refine AW.sr envOk (fun N hN => ?_)
   simp -dsimp -implicitDefEqProofs (disch := omega) only [go_sem, undef, reduceAdd, reduceSub, reduceGT, reduceEqDiff, reduceMul, ringP, ring, w64]
   refine hN _ ?_
   try clear hN N
   refine AW.ret ?_
   simp -dsimp -implicitDefEqProofs (disch := omega) only [go_sem, undef, reduceAdd, reduceSub, reduceGT, reduceEqDiff, reduceMul]
   rw [hC.eq (hg2 (by omega))]
  ·try simp only [cn] at h1
   refine AW.skip ?_
   simp only [thn, blk]
   refine hN1 _ ?_
   try clear hN1 N1
   refine AW.regionL envOk ?_
   simp -dsimp -implicitDefEqProofs (disch := omega) only [go_sem, undef, reduceAdd, reduceSub, reduceGT, reduceEqDiff, reduceMul, ringP, ring, w64]
   refine ⟨cstep p pw br [] U, ?_, fun _ _ h => h, ?_, ?_⟩
   ·simp (disch := omega) [wks, wkA, sl, w64, ints, rows, cubes, ringP, ring, w64] <;> omega
   ·exact ⟨hcc, hC.next (fun e => h1 (by rw [e]))⟩
   ·exact Nat.sub_lt_sub_left (by omega) (show U.length < (cstep p pw br [] U).length by omega)
theorem spec_l32Ideal_ok (p : Int) (pw : List (List Int)) (br : List (List (List Int))) (s : Sh p pw br) (ht : Tri p pw) (hp : pr4 p) (G R : List (List Int)) (hG : G.length ≤ 1048576) (hGe : ∀ b ∈ G, El p pw.length b) (hR : Clos p pw br (wholeL pw.length) (spanL p pw G) R) : ACp Try.prog 279 [ring p pw br, rows G] (rows R) := by
 have h6 := ht.n6
 refine ACp.intro' envOk Try.func279 rfl (by kernel_rfl) Try.ntmps279 Try.results279 (rows_nr _) (fun nx => ?_)
 refine AW.sr envOk (fun N hN => ?_)
 simp -dsimp -implicitDefEqProofs (disch := omega) only [go_sem, undef, reduceAdd, reduceSub, reduceGT, reduceEqDiff, reduceMul, ringP, ring, w64]
 refine hN _ ?_
 try clear hN N
 refine AW.freezeQ 2 nx _ rfl (upd_same _ _ _) ?_
 simp -dsimp -implicitDefEqProofs (disch := omega) only [go_sem, undef, reduceAdd, reduceSub, reduceGT, reduceEqDiff, reduceMul]
 refine AW.sr envOk (fun N hN => ?_)
 simp -dsimp -implicitDefEqProofs (disch := omega) only [go_sem, undef, reduceAdd, reduceSub, reduceGT, reduceEqDiff, reduceMul, ringP, ring, w64]
 refine AC.pure (.of (spec_l32Span_ok p pw br ht hp G hG (fun k hk => hGe _ (ix_mem hk)))) ?_
 try simp -dsimp -implicitDefEqProofs (disch := omega) only [go_sem, undef, reduceAdd, reduceSub, reduceGT, reduceEqDiff, reduceMul, ringP, ring, w64]
 refine hN _ ?_
 try clear hN N
 refine AW.block ?_
 refine AW.loopN (α := List (List Int)) (fun x => sl 25 [(2, ringP p pw br), (5, rows x)]) (fun _ => noH) (fun x m => CanU p pw x ∧ Clos p pw br (wholeL pw.length) x R) (fun x => pw.length - x.length) (spanL p pw G) ?_ ?_ (Le.del (by simp [noH])) ?_
 ·exact ⟨spanU ht hp hGe, hR⟩
 ·simp (disch := omega) [wks, wkA, sl, w64, ints, rows, cubes, ringP, ring, w64] <;> omega
 ·skip
  rintro U m ⟨hU, hC⟩
  have hUl := hU.toEch.len
  have hcc := cstep_can s ht hp (y := (wholeL pw.length)) hU.el
  have hcl := hcc.toEch.len
  obtain ⟨hg1, hg2⟩ := cstep_grow s ht hp (y := (wholeL pw.length)) hU
  have hb := brkLL_el s (u := U) (v := wholeL pw.length)
  have hsb := spanU ht hp hb
  have hsl := hsb.toEch.len
  have hgr := spec_l32Grown_ok p pw br ht hp U (spanL p pw (brkLL p pw br U (wholeL pw.length))) (by omega) (by omega) hU.el hsb.el
  rw [ideal_step s ht hp hU.el] at hgr
  simp -dsimp -implicitDefEqProofs (disch := omega) only [go_sem, undef, reduceAdd, reduceSub, reduceGT, reduceEqDiff, reduceMul]
  refine AW.block ?_
  refine AW.seq (fun N hN => ?_)
  refine AW.drawL envOk (by kernel_rfl) 9 (by kernel_rfl) ?_
  simp -dsimp -implicitDefEqProofs (disch := omega) only [hr_nil, hr_one, hr_if, List.take_succ_cons, List.take_zero, List.drop_succ_cons, List.drop_zero, List.take_nil, List.drop_nil, go_sem, undef, reduceAdd, reduceSub, reduceGT, reduceEqDiff, reduceMul, ringP, ring, w64]
  refine ⟨_, .of (spec_l32Whole_ok p pw br (by omega)), ?_⟩
  try simp -dsimp -implicitDefEqProofs (disch := omega) only [go_sem, undef, reduceAdd, reduceSub, reduceGT, reduceEqDiff, reduceMul, ringP, ring, w64]
  refine ⟨_, .of (spec_l32Brackets_ok p pw br s ht hp U (wholeL pw.length) (by omega) (by rw [whole_len]; omega) hU.el (whole_el ht.p2)), ?_⟩
  try simp -dsimp -implicitDefEqProofs (disch := omega) only [go_sem, undef, reduceAdd, reduceSub, reduceGT, reduceEqDiff, reduceMul, ringP, ring, w64]
  refine ⟨_, .of (hgr ), ?_⟩
  try simp -dsimp -implicitDefEqProofs (disch := omega) only [go_sem, undef, reduceAdd, reduceSub, reduceGT, reduceEqDiff, reduceMul, ringP, ring, w64]
  refine hN _ ?_
  try clear hN N
  refine AW.seq (fun N1 hN1 => ?_)
  refine AW.sr envOk (fun N hN => ?_)
  simp -dsimp -implicitDefEqProofs (disch := omega) only [go_sem, undef, reduceAdd, reduceSub, reduceGT, reduceEqDiff, reduceMul, ringP, ring, w64]
  refine hN _ ?_
  try clear hN N
  refine AW.cond rfl (fun h1 => ?_) (fun h1 => ?_)
  ·try simp only [cn] at h1
   refine AW.sr envOk (fun N hN => ?_)
   simp -dsimp -implicitDefEqProofs (disch := omega) only [go_sem, undef, reduceAdd, reduceSub, reduceGT, reduceEqDiff, reduceMul, ringP, ring, w64]
   refine hN _ ?_
   try clear hN N
   refine AW.ret ?_
   simp -dsimp -implicitDefEqProofs (disch := omega) only [go_sem, undef, reduceAdd, reduceSub, reduceGT, reduceEqDiff, reduceMul]
   rw [hC.eq (hg2 (by omega))]
  ·try simp only [cn] at h1
   refine AW.skip ?_
   simp only [thn, blk]
   refine hN1 _ ?_
   try clear hN1 N1
   refine AW.regionL envOk ?_
   simp -dsimp -implicitDefEqProofs (disch := omega) only [go_sem, undef, reduceAdd, reduceSub, reduceGT, reduceEqDiff, reduceMul, ringP, ring, w64]
   refine ⟨cstep p pw br (wholeL pw.length) U, ?_, fun _ _ h => h, ?_, ?_⟩
   ·simp (disch := omega) [wks, wkA, sl, w64, ints, rows, cubes, ringP, ring, w64] <;> omega
   ·exact ⟨hcc, hC.next (fun e => h1 (by rw [e]))⟩
   ·exact Nat.sub_lt_sub_left (by omega) (show U.length < (cstep p pw br (wholeL pw.length) U).length by omega)
end Go.Proofs.Ytdghgmgppecncaa
