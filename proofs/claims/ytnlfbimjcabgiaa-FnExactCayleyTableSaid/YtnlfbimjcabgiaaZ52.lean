import Derived.Test.YtnlfbimjcabgiaaZ50
import Derived.Test.YtnlfbimjcabgiaaZ51
set_option linter.unusedVariables false
set_option linter.unusedSimpArgs false
namespace Go.Proofs.Ytnlfbimjcabgiaa
open Nat (reduceAdd reduceSub reduceGT reduceEqDiff reduceMul)
theorem cloU_ln {P : Pc} {us : List V} : (cloU P us).length ≤ P.n := outS_len
def resTb (m : List (List Int) × Int) : AV := .t [rows m.1, .i .i64 m.2]
theorem resTb_nr (m : List (List Int) × Int) : NR (resTb m) := NR.ts (fun x hx => by
  simp only [List.mem_cons, List.not_mem_nil, or_false] at hx
  rcases hx with rfl | rfl
  · exact rows_nr _
  · exact .i _ _)
theorem resTb_nl {e : Int} : Rd (.t [.nl, .i .i64 e]) (resTb ([], e)) := Rd.t2 .nl (.refl _)
theorem Own.nilTb {a b : Nat} {H : HP} {e : Int} : ∃ ids, Own a b H (.t [.nl, .i .i64 e]) (resTb ([], e)) ids :=
  ⟨_, .t _ _ _ (.cons _ _ _ _ _ _ .nl (.cons _ _ _ _ _ _ (.leaf _ (.i _ _) (.i _ _)) .nil)), by simp, by simp⟩
def ctP (os : List Int) (pw : List (List Int)) (cj : List (List (List Int))) (xs : List (List Int)) : Prop := grpP os pw cj ∧ xs.length ≤ 4 ∧ exsP os xs
noncomputable def ctO (os : List Int) (pw : List (List Int)) (cj : List (List (List Int))) (xs : List (List Int)) : Int := orU os (cloU (pc os pw cj) (xs.map fl)) (cloU (pc os pw cj) (xs.map fl)).length
noncomputable def ctM (os : List Int) (pw : List (List Int)) (cj : List (List (List Int))) (xs : List (List Int)) : List (List Int) × Int :=
  if tf (ctP os pw cj xs) = true then (if ctO os pw cj xs ≤ 128 then (tabL (pc os pw cj) (xs.map fl), 0) else ([], 3)) else ([], 1)
section
variable (os : List Int) (pw : List (List Int)) (cj : List (List (List Int))) (xs : List (List Int))
theorem ctM_1 (h : ¬ctP os pw cj xs) : ctM os pw cj xs = ([], 1) := by rw [ctM, tf_f h]; rfl
theorem ctM_3 (h : ctP os pw cj xs) (h2 : ¬ctO os pw cj xs ≤ 128) : ctM os pw cj xs = ([], 3) := by rw [ctM, tf_t h, if_pos rfl, if_neg h2]
theorem ctM_0 (h : ctP os pw cj xs) (h2 : ctO os pw cj xs ≤ 128) : ctM os pw cj xs = (tabL (pc os pw cj) (xs.map fl), 0) := by rw [ctM, tf_t h, if_pos rfl, if_pos h2]
theorem tabL_rl (hp : presOk os pw cj) (hc : Con (pc os pw cj) 0) {ys : List V} (hl : ys.length ≤ 4) (hys : ∀ x ∈ ys, T (pc os pw cj) 0 x) : rowslen (tabL (pc os pw cj) ys) := by
  have hcy : cyN (pc os pw cj) ys ≤ 729 := by
    unfold cyN
    split
    · rename_i h
      have hq := Classical.choose_spec h
      have hPt := PtI.otF hp.val hc hys _ hq.2
      have := hPt.len hp
      have := hq.1
      omega
    · omega
  refine ⟨by rw [tabL, List.length_map, List.length_range]; omega, fun x hx => ?_⟩
  obtain ⟨g, _, rfl⟩ := List.mem_map.1 hx
  rw [colJ_len, if_neg (by omega)]
  omega
theorem ctM_rl (h : ctP os pw cj xs → True) : rowslen (ctM os pw cj xs).1 := by
  by_cases h1 : ctP os pw cj xs
  · by_cases h2 : ctO os pw cj xs ≤ 128
    · rw [ctM_0 os pw cj xs h1 h2]
      exact tabL_rl os pw cj h1.1.1 h1.1.2 (by rw [List.length_map]; exact h1.2.1) (exs_T os pw cj h1.2.2)
    · rw [ctM_3 os pw cj xs h1 h2]; exact .nil
  · rw [ctM_1 os pw cj xs h1]; exact .nil
theorem impl_CayleyTable_ok (hl : prlen os pw cj) (hx : rowslen xs) : ACo Try.prog 10 [prs os pw cj, rows xs] (resTb (ctM os pw cj xs)) := by
 have hlo := hl.o
 have hxn := hx.n
 intro nx
 refine AC.intro' envOk Try.func10 rfl (by kernel_rfl) Try.ntmps10 Try.results10 ?_
 refine AW.sr envOk (fun N hN => ?_)
 simp -dsimp -implicitDefEqProofs (disch := omega) only [go_sem, undef, reduceAdd, reduceSub, reduceGT, reduceEqDiff, reduceMul, prs, prsP, rows, w64]
 refine hN _ ?_
 try clear hN N
 refine AW.seq (fun N1 hN1 => ?_)
 refine AW.freezeQ 2 nx _ rfl (upd_same _ _ _) ?_
 simp -dsimp -implicitDefEqProofs (disch := omega) only [go_sem, undef, reduceAdd, reduceSub, reduceGT, reduceEqDiff, reduceMul]
 refine AW.sr envOk (fun N hN => ?_)
 simp -dsimp -implicitDefEqProofs (disch := omega) only [go_sem, undef, reduceAdd, reduceSub, reduceGT, reduceEqDiff, reduceMul, prs, prsP, rows, w64]
 refine AC.pure (.of (impl_areElements_ok os pw cj hl xs hx)) ?_
 try simp -dsimp -implicitDefEqProofs (disch := omega) only [go_sem, undef, reduceAdd, reduceSub, reduceGT, reduceEqDiff, reduceMul, prs, prsP, rows, w64]
 refine gopB.mk' (fun h1 => ?_) (fun h1 => ?_)
 ·try simp only [cn] at h1
  try simp -dsimp -implicitDefEqProofs (disch := omega) only [go_sem, undef, reduceAdd, reduceSub, reduceGT, reduceEqDiff, reduceMul, prs, prsP, rows, w64]
  refine hN _ ?_
  try clear hN N
  refine AW.cond rfl (fun h2 => ?_) (fun h2 => ?_)
  ·try simp only [cn] at h2
   refine AW.sr envOk (fun N hN => ?_)
   simp -dsimp -implicitDefEqProofs (disch := omega) only [go_sem, undef, reduceAdd, reduceSub, reduceGT, reduceEqDiff, reduceMul, prs, prsP, rows, w64]
   refine hN _ ?_
   try clear hN N
   refine AW.ret ?_
   simp -dsimp -implicitDefEqProofs (disch := omega) only [go_sem, undef, reduceAdd, reduceSub, reduceGT, reduceEqDiff, reduceMul]
   rw [ctM_1 os pw cj xs (fun q => by have := q.2.1; omega)]
   exact Own.nilTb
  ·try simp only [cn] at h2
   have hok : ctP os pw cj xs := ⟨h1.1, by omega, h1.2⟩
   have hT := exs_T os pw cj h1.2
   have hml : (xs.map fl).length = xs.length := List.length_map _
   have hge := impl_generated_ok os pw cj h1.1.1 h1.1.2 (xs.map fl) (by omega) hT
   rw [← rows_vls os h1.2] at hge
   have hld := cloU_ld os pw cj h1.1.1 h1.1.2 hT
   have hcl := cloU_ln (P := pc os pw cj) (us := xs.map fl)
   have hn0 : (pc os pw cj).n = os.length := rfl
   have hn6 := h1.1.1.1.1
   have hsz := impl_sizeOf_v os pw cj h1.1.1 (cloU (pc os pw cj) (xs.map fl)) (by omega) hld
   have hct := impl_cayleyTable_ok os pw cj h1.1.1 h1.1.2 (xs.map fl) (by omega) hT
   rw [← rows_vls os h1.2] at hct
   refine AW.skip ?_
   simp only [thn, blk]
   refine hN1 _ ?_
   try clear hN1 N1
   refine AW.seq (fun N2 hN2 => ?_)
   refine AW.sr envOk (fun N hN => ?_)
   simp -dsimp -implicitDefEqProofs (disch := omega) only [go_sem, undef, reduceAdd, reduceSub, reduceGT, reduceEqDiff, reduceMul, prs, prsP, rows, w64]
   refine AC.pure (.of (hge )) ?_
   try simp -dsimp -implicitDefEqProofs (disch := omega) only [go_sem, undef, reduceAdd, reduceSub, reduceGT, reduceEqDiff, reduceMul, prs, prsP, rows, w64]
   refine AC.pure (.of (hsz )) ?_
   try simp -dsimp -implicitDefEqProofs (disch := omega) only [go_sem, undef, reduceAdd, reduceSub, reduceGT, reduceEqDiff, reduceMul, prs, prsP, rows, w64]
   refine hN _ ?_
   try clear hN N
   refine AW.cond rfl (fun h3 => ?_) (fun h3 => ?_)
   ·try simp only [cn] at h3
    refine AW.sr envOk (fun N hN => ?_)
    simp -dsimp -implicitDefEqProofs (disch := omega) only [go_sem, undef, reduceAdd, reduceSub, reduceGT, reduceEqDiff, reduceMul, prs, prsP, rows, w64]
    refine hN _ ?_
    try clear hN N
    refine AW.ret ?_
    simp -dsimp -implicitDefEqProofs (disch := omega) only [go_sem, undef, reduceAdd, reduceSub, reduceGT, reduceEqDiff, reduceMul]
    rw [ctM_3 os pw cj xs hok (by unfold ctO; omega)]
    exact Own.nilTb
   ·try simp only [cn] at h3
    refine AW.skip ?_
    simp only [thn, blk]
    refine hN2 _ ?_
    try clear hN2 N2
    refine AW.sr envOk (fun N hN => ?_)
    simp -dsimp -implicitDefEqProofs (disch := omega) only [go_sem, undef, reduceAdd, reduceSub, reduceGT, reduceEqDiff, reduceMul, prs, prsP, rows, w64]
    refine AC.own hct (.cons (.refl _) (.cons (.refl _) .nil)) ?_
    intro m1 H1 r1 ids1 hm1 hH1 hown1
    try simp -dsimp -implicitDefEqProofs (disch := omega) only [go_sem, undef, reduceAdd, reduceSub, reduceGT, reduceEqDiff, reduceMul, prs, prsP, rows, w64]
    refine hN _ ?_
    try clear hN N
    refine AW.ret ?_
    simp -dsimp -implicitDefEqProofs (disch := omega) only [go_sem, undef, reduceAdd, reduceSub, reduceGT, reduceEqDiff, reduceMul]
    rw [ctM_0 os pw cj xs hok (by unfold ctO; omega)]
    exact (hown1.keep (fun _ _ _ => rfl) (by omega) (by omega)).pair
 ·try simp only [cn] at h1
  try simp -dsimp -implicitDefEqProofs (disch := omega) only [go_sem, undef, reduceAdd, reduceSub, reduceGT, reduceEqDiff, reduceMul, prs, prsP, rows, w64]
  refine hN _ ?_
  try clear hN N
  refine AW.condT rfl ?_
  refine AW.sr envOk (fun N hN => ?_)
  simp -dsimp -implicitDefEqProofs (disch := omega) only [go_sem, undef, reduceAdd, reduceSub, reduceGT, reduceEqDiff, reduceMul, prs, prsP, rows, w64]
  refine hN _ ?_
  try clear hN N
  refine AW.ret ?_
  simp -dsimp -implicitDefEqProofs (disch := omega) only [go_sem, undef, reduceAdd, reduceSub, reduceGT, reduceEqDiff, reduceMul]
  rw [ctM_1 os pw cj xs (fun q => h1 ⟨q.1, q.2.2⟩)]
  exact Own.nilTb
theorem spec_CayleyTable_ok (hl : prlen os pw cj) (hx : rowslen xs) : ACp Try.prog 7 [prs os pw cj, rows xs] (resTb (ctM os pw cj xs)) := by
 have hlo := hl.o
 have hxn := hx.n
 refine ACp.introR envOk Try.func7 rfl (by kernel_rfl) Try.ntmps7 Try.results7 ((resTb_nr _)) (fun nx => ?_)
 refine AW.sr envOk (fun N hN => ?_)
 simp -dsimp -implicitDefEqProofs (disch := omega) only [go_sem, undef, reduceAdd, reduceSub, reduceGT, reduceEqDiff, reduceMul, prs, prsP, rows, w64]
 refine hN _ ?_
 try clear hN N
 refine AW.seq (fun N1 hN1 => ?_)
 refine AW.freezeQ 2 nx _ rfl (upd_same _ _ _) ?_
 simp -dsimp -implicitDefEqProofs (disch := omega) only [go_sem, undef, reduceAdd, reduceSub, reduceGT, reduceEqDiff, reduceMul]
 refine AW.sr envOk (fun N hN => ?_)
 simp -dsimp -implicitDefEqProofs (disch := omega) only [go_sem, undef, reduceAdd, reduceSub, reduceGT, reduceEqDiff, reduceMul, prs, prsP, rows, w64]
 refine AC.pure (.of (spec_l08Group_ok os pw cj hl)) ?_
 try simp -dsimp -implicitDefEqProofs (disch := omega) only [go_sem, undef, reduceAdd, reduceSub, reduceGT, reduceEqDiff, reduceMul, prs, prsP, rows, w64]
 refine gopB.mk' (fun h1 => ?_) (fun h1 => ?_)
 ·try simp only [cn] at h1
  try simp -dsimp -implicitDefEqProofs (disch := omega) only [go_sem, undef, reduceAdd, reduceSub, reduceGT, reduceEqDiff, reduceMul, prs, prsP, rows, w64]
  refine gopB.mk' (fun h2 => ?_) (fun h2 => ?_)
  ·try simp only [cn] at h2
   have hob := presOk.ob (pw := pw) (cj := cj) h1.1.2.1
   have hn6 := h1.1.1.1
   try simp -dsimp -implicitDefEqProofs (disch := omega) only [go_sem, undef, reduceAdd, reduceSub, reduceGT, reduceEqDiff, reduceMul, prs, prsP, rows, w64]
   refine AC.pure (.of (spec_l10Elements_ok os pw cj (by omega) hob xs hx )) ?_
   try simp -dsimp -implicitDefEqProofs (disch := omega) only [go_sem, undef, reduceAdd, reduceSub, reduceGT, reduceEqDiff, reduceMul, prs, prsP, rows, w64]
   refine hN _ ?_
   try clear hN N
   refine AW.cond rfl (fun h3 => ?_) (fun h3 => ?_)
   ·try simp only [cn] at h3
    refine AW.sr envOk (fun N hN => ?_)
    simp -dsimp -implicitDefEqProofs (disch := omega) only [go_sem, undef, reduceAdd, reduceSub, reduceGT, reduceEqDiff, reduceMul, prs, prsP, rows, w64]
    refine hN _ ?_
    try clear hN N
    refine AW.ret ?_
    simp -dsimp -implicitDefEqProofs (disch := omega) only [go_sem, undef, reduceAdd, reduceSub, reduceGT, reduceEqDiff, reduceMul]
    rw [ctM_1 os pw cj xs (fun q => h3 q.2.2)]
    exact resTb_nl
   ·try simp only [cn] at h3
    have hok : ctP os pw cj xs := ⟨h1, by omega, h3⟩
    have hT := exs_T os pw cj h3
    have hml : (xs.map fl).length = xs.length := List.length_map _
    have hge := spec_l12Close_ok os pw cj h1.1 h1.2 (xs.map fl) (by omega) hT
    rw [← rows_vls os h3] at hge
    have hld := cloU_ld os pw cj h1.1 h1.2 hT
    have hcl := cloU_ln (P := pc os pw cj) (us := xs.map fl)
    have hn0 : (pc os pw cj).n = os.length := rfl
    have hsz := spec_l12Order_ok os pw cj h1.1 (cloU (pc os pw cj) (xs.map fl)) (by omega) hld
    have hct := spec_l27Table_ok os pw cj h1.1 h1.2 (xs.map fl) (by omega) hT
    rw [← rows_vls os h3] at hct
    refine AW.skip ?_
    simp only [thn, blk]
    refine hN1 _ ?_
    try clear hN1 N1
    refine AW.seq (fun N2 hN2 => ?_)
    refine AW.seq (fun N hN => ?_)
    refine AW.drawL envOk (by kernel_rfl) 6 (by kernel_rfl) ?_
    simp -dsimp -implicitDefEqProofs (disch := omega) only [hr_nil, hr_one, hr_if, List.take_succ_cons, List.take_zero, List.drop_succ_cons, List.drop_zero, List.take_nil, List.drop_nil, go_sem, undef, reduceAdd, reduceSub, reduceGT, reduceEqDiff, reduceMul, prs, prsP, rows, w64]
    refine ⟨_, .of (hge ), ?_⟩
    try simp -dsimp -implicitDefEqProofs (disch := omega) only [go_sem, undef, reduceAdd, reduceSub, reduceGT, reduceEqDiff, reduceMul, prs, prsP, rows, w64]
    refine ⟨_, .of (hsz ), ?_⟩
    try simp -dsimp -implicitDefEqProofs (disch := omega) only [go_sem, undef, reduceAdd, reduceSub, reduceGT, reduceEqDiff, reduceMul, prs, prsP, rows, w64]
    refine hN _ ?_
    try clear hN N
    refine AW.cond rfl (fun h4 => ?_) (fun h4 => ?_)
    ·try simp only [cn] at h4
     refine AW.sr envOk (fun N hN => ?_)
     simp -dsimp -implicitDefEqProofs (disch := omega) only [go_sem, undef, reduceAdd, reduceSub, reduceGT, reduceEqDiff, reduceMul, prs, prsP, rows, w64]
     refine hN _ ?_
     try clear hN N
     refine AW.ret ?_
     simp -dsimp -implicitDefEqProofs (disch := omega) only [go_sem, undef, reduceAdd, reduceSub, reduceGT, reduceEqDiff, reduceMul]
     rw [ctM_3 os pw cj xs hok (by unfold ctO; omega)]
     exact resTb_nl
    ·try simp only [cn] at h4
     refine AW.skip ?_
     simp only [thn, blk]
     refine hN2 _ ?_
     try clear hN2 N2
     refine AW.sr envOk (fun N hN => ?_)
     simp -dsimp -implicitDefEqProofs (disch := omega) only [go_sem, undef, reduceAdd, reduceSub, reduceGT, reduceEqDiff, reduceMul, prs, prsP, rows, w64]
     refine AC.pure (.of (hct )) ?_
     try simp -dsimp -implicitDefEqProofs (disch := omega) only [go_sem, undef, reduceAdd, reduceSub, reduceGT, reduceEqDiff, reduceMul, prs, prsP, rows, w64]
     refine hN _ ?_
     try clear hN N
     refine AW.ret ?_
     simp -dsimp -implicitDefEqProofs (disch := omega) only [go_sem, undef, reduceAdd, reduceSub, reduceGT, reduceEqDiff, reduceMul]
     rw [ctM_0 os pw cj xs hok (by unfold ctO; omega)]
     exact .refl _
  ·try simp only [cn] at h2
   try simp -dsimp -implicitDefEqProofs (disch := omega) only [go_sem, undef, reduceAdd, reduceSub, reduceGT, reduceEqDiff, reduceMul, prs, prsP, rows, w64]
   refine hN _ ?_
   try clear hN N
   refine AW.condT rfl ?_
   refine AW.sr envOk (fun N hN => ?_)
   simp -dsimp -implicitDefEqProofs (disch := omega) only [go_sem, undef, reduceAdd, reduceSub, reduceGT, reduceEqDiff, reduceMul, prs, prsP, rows, w64]
   refine hN _ ?_
   try clear hN N
   refine AW.ret ?_
   simp -dsimp -implicitDefEqProofs (disch := omega) only [go_sem, undef, reduceAdd, reduceSub, reduceGT, reduceEqDiff, reduceMul]
   rw [ctM_1 os pw cj xs (fun q => by have := q.2.1; omega)]
   exact resTb_nl
 ·try simp only [cn] at h1
  try simp -dsimp -implicitDefEqProofs (disch := omega) only [go_sem, undef, reduceAdd, reduceSub, reduceGT, reduceEqDiff, reduceMul, prs, prsP, rows, w64]
  refine hN _ ?_
  try clear hN N
  refine AW.condT rfl ?_
  refine AW.sr envOk (fun N hN => ?_)
  simp -dsimp -implicitDefEqProofs (disch := omega) only [go_sem, undef, reduceAdd, reduceSub, reduceGT, reduceEqDiff, reduceMul, prs, prsP, rows, w64]
  refine hN _ ?_
  try clear hN N
  refine AW.ret ?_
  simp -dsimp -implicitDefEqProofs (disch := omega) only [go_sem, undef, reduceAdd, reduceSub, reduceGT, reduceEqDiff, reduceMul]
  rw [ctM_1 os pw cj xs (fun q => h1 q.1)]
  exact resTb_nl
end
theorem law_CayleyTable (os : List Int) (pw : List (List Int)) (cj : List (List (List Int))) (u : List (List Int)) (h0 : intsok os) (hpw : rowsok pw) (hcj : cubesok cj) (hi_u : rowsok u) : ACp Try.prog 3 [prs os pw cj, rows u] (.b true) := by
 have hlo0 := h0.1
 obtain ⟨M, hM⟩ : ∃ M, ctM os pw cj u = M := ⟨_, rfl⟩
 refine ACp.intro' envOk Try.func3 rfl (by kernel_rfl) Try.ntmps3 Try.results3 (.b _) (fun nx => ?_)
 refine AW.sr envOk (fun N hN => ?_)
 simp -dsimp -implicitDefEqProofs (disch := omega) only [go_sem, undef, reduceAdd, reduceSub, reduceGT, reduceEqDiff, reduceMul, prs, w64, resTb]
 refine hN _ ?_
 try clear hN N
 refine AW.freezeQ 2 nx _ rfl (upd_same _ _ _) ?_
 simp -dsimp -implicitDefEqProofs (disch := omega) only [go_sem, undef, reduceAdd, reduceSub, reduceGT, reduceEqDiff, reduceMul]
 refine AW.sr envOk (fun N hN => ?_)
 simp -dsimp -implicitDefEqProofs (disch := omega) only [go_sem, undef, reduceAdd, reduceSub, reduceGT, reduceEqDiff, reduceMul, prs, w64, resTb]
 refine hN _ ?_
 try clear hN N
 refine AW.sr envOk (fun N hN => ?_)
 simp -dsimp -implicitDefEqProofs (disch := omega) only [go_sem, undef, reduceAdd, reduceSub, reduceGT, reduceEqDiff, reduceMul, prs, w64, resTb]
 have hs1 := szP_le os pw cj 1048576 (by omega)
 refine AC.pure (.of (laws_szPresentation_ok os pw cj 1048576 (by omega) (by omega) h0 hpw hcj )) ?_
 try simp -dsimp -implicitDefEqProofs (disch := omega) only [go_sem, undef, reduceAdd, reduceSub, reduceGT, reduceEqDiff, reduceMul, prs, w64, resTb]
 refine hN _ ?_
 try clear hN N
 refine AW.seq (fun N1 hN1 => ?_)
 refine AW.sr envOk (fun N hN => ?_)
 simp -dsimp -implicitDefEqProofs (disch := omega) only [go_sem, undef, reduceAdd, reduceSub, reduceGT, reduceEqDiff, reduceMul, prs, w64, resTb]
 refine hN _ ?_
 try clear hN N
 refine AW.cond rfl (fun h1 => ?_) (fun h1 => ?_)
 ·try simp only [cn] at h1
  refine AW.sr envOk (fun N hN => ?_)
  simp -dsimp -implicitDefEqProofs (disch := omega) only [go_sem, undef, reduceAdd, reduceSub, reduceGT, reduceEqDiff, reduceMul, prs, w64, resTb]
  refine hN _ ?_
  try clear hN N
  refine AW.ret ?_
  simp -dsimp -implicitDefEqProofs (disch := omega) only [go_sem, undef, reduceAdd, reduceSub, reduceGT, reduceEqDiff, reduceMul]
  try (exfalso; first | omega | (simp_all; done))
 ·try simp only [cn] at h1
  obtain ⟨hl, g1, g2⟩ := szP_mem (by omega) (by omega) h1
  have hlo := hl.o
  refine AW.skip ?_
  simp only [thn, blk]
  refine hN1 _ ?_
  try clear hN1 N1
  refine AW.sr envOk (fun N hN => ?_)
  simp -dsimp -implicitDefEqProofs (disch := omega) only [go_sem, undef, reduceAdd, reduceSub, reduceGT, reduceEqDiff, reduceMul, prs, w64, resTb]
  refine AC.pure (.of (szSS_ok u (szP os pw cj 1048576) (by omega) (by omega) hi_u )) ?_
  try simp -dsimp -implicitDefEqProofs (disch := omega) only [go_sem, undef, reduceAdd, reduceSub, reduceGT, reduceEqDiff, reduceMul, prs, w64, resTb]
  refine hN _ ?_
  try clear hN N
  refine AW.seq (fun N2 hN2 => ?_)
  refine AW.sr envOk (fun N hN => ?_)
  simp -dsimp -implicitDefEqProofs (disch := omega) only [go_sem, undef, reduceAdd, reduceSub, reduceGT, reduceEqDiff, reduceMul, prs, w64, resTb]
  refine hN _ ?_
  try clear hN N
  refine AW.cond rfl (fun h2 => ?_) (fun h2 => ?_)
  ·try simp only [cn] at h2
   refine AW.sr envOk (fun N hN => ?_)
   simp -dsimp -implicitDefEqProofs (disch := omega) only [go_sem, undef, reduceAdd, reduceSub, reduceGT, reduceEqDiff, reduceMul, prs, w64, resTb]
   refine hN _ ?_
   try clear hN N
   refine AW.ret ?_
   simp -dsimp -implicitDefEqProofs (disch := omega) only [go_sem, undef, reduceAdd, reduceSub, reduceGT, reduceEqDiff, reduceMul]
   try (exfalso; first | omega | (simp_all; done))
  ·try simp only [cn] at h2
   have hl_u := szSS_mem (by omega) (by omega) h2
   have hto := laws_toPresentation_ok os pw cj hlo g1 g2
   have ht_u := toSS_ok u (by have := hl_u.n; omega) (fun x hx => by have := hl_u.v x hx; omega)
   have hML : rowslen M.1 := by rw [← hM]; exact ctM_rl os pw cj u (fun _ => trivial)
   have hspec := spec_CayleyTable_ok os pw cj u hl hl_u
   have himpl := impl_CayleyTable_ok os pw cj u hl hl_u
   rw [hM] at hspec himpl
   have heq := laws_eqInt64SS_l M.1 M.1 hML hML
   refine AW.skip ?_
   simp only [thn, blk]
   refine hN2 _ ?_
   try clear hN2 N2
   refine AW.sr envOk (fun N hN => ?_)
   simp -dsimp -implicitDefEqProofs (disch := omega) only [go_sem, undef, reduceAdd, reduceSub, reduceGT, reduceEqDiff, reduceMul, prs, w64, resTb]
   refine AC.pure (.of (hto.pure )) ?_
   try simp -dsimp -implicitDefEqProofs (disch := omega) only [go_sem, undef, reduceAdd, reduceSub, reduceGT, reduceEqDiff, reduceMul, prs, w64, resTb]
   refine AC.pure (.of (ht_u.pure )) ?_
   try simp -dsimp -implicitDefEqProofs (disch := omega) only [go_sem, undef, reduceAdd, reduceSub, reduceGT, reduceEqDiff, reduceMul, prs, w64, resTb]
   refine AC.pure (.of (hspec )) ?_
   try simp -dsimp -implicitDefEqProofs (disch := omega) only [go_sem, undef, reduceAdd, reduceSub, reduceGT, reduceEqDiff, reduceMul, prs, w64, resTb]
   refine hN _ ?_
   try clear hN N
   refine AW.sr envOk (fun N hN => ?_)
   simp -dsimp -implicitDefEqProofs (disch := omega) only [go_sem, undef, reduceAdd, reduceSub, reduceGT, reduceEqDiff, reduceMul, prs, w64, resTb]
   refine AC.hold hto (.cons (.refl _) .nil) ?_
   intro m6 H6 r_r hm6 hH6 ho_r
   obtain ⟨r1, r2, r3, rfl, ⟨u1, u2, u3⟩, ho_r⟩ := ho_r.prs
   try simp -dsimp -implicitDefEqProofs (disch := omega) only [go_sem, undef, reduceAdd, reduceSub, reduceGT, reduceEqDiff, reduceMul, u1, u2, u3]
   refine hN _ ?_
   try clear hN N
   refine AW.freezeQ 8 (nx + 2 + 1 + 4 + 2 + 4 + 2 + 10 + 2) _ rfl (upd_same _ _ _) ?_
   refine AW.nameH (fun G6 hG6 => ?_)
   dsimp only at hG6
   replace ho_r := ho_r.keep (H' := G6) (fun i q1 q2 => by rw [← hG6]; simp (disch := omega) only [upd_ne])
   simp -dsimp -implicitDefEqProofs (disch := omega) only [go_sem, undef, reduceAdd, reduceSub, reduceGT, reduceEqDiff, reduceMul]
   refine AW.sr envOk (fun N hN => ?_)
   simp -dsimp -implicitDefEqProofs (disch := omega) only [go_sem, undef, reduceAdd, reduceSub, reduceGT, reduceEqDiff, reduceMul, prs, w64, resTb]
   refine AC.hold ht_u (.cons (.refl _) .nil) ?_
   intro m7 H7 r_u hm7 hH7 ho_u
   replace ho_r := ho_r.keep (fun i q1 q2 => hH7 i (by omega))
   try simp -dsimp -implicitDefEqProofs (disch := omega) only [go_sem, undef, reduceAdd, reduceSub, reduceGT, reduceEqDiff, reduceMul, prs, w64, resTb]
   refine hN _ ?_
   try clear hN N
   refine AW.sr envOk (fun N hN => ?_)
   simp -dsimp -implicitDefEqProofs (disch := omega) only [go_sem, undef, reduceAdd, reduceSub, reduceGT, reduceEqDiff, reduceMul, prs, w64, resTb]
   refine AC.hold himpl (.cons ho_r.vw (.cons ho_u.vw .nil)) ?_
   intro m8 H8 r_z hm8 hH8 ho_z
   replace ho_r := ho_r.keep (fun i q1 q2 => hH8 i (by omega))
   replace ho_u := ho_u.keep (fun i q1 q2 => hH8 i (by omega))
   obtain ⟨g0, rfl, hg⟩ := ho_z.pair
   clear ho_z
   try simp -dsimp -implicitDefEqProofs (disch := omega) only [go_sem, undef, reduceAdd, reduceSub, reduceGT, reduceEqDiff, reduceMul, prs, w64, resTb]
   refine hN _ ?_
   try clear hN N
   refine AW.seq (fun N3 hN3 => ?_)
   refine AW.sr envOk (fun N hN => ?_)
   simp -dsimp -implicitDefEqProofs (disch := omega) only [go_sem, undef, reduceAdd, reduceSub, reduceGT, reduceEqDiff, reduceMul, prs, w64, resTb]
   refine AC.pure (.lent (heq) (.cons hg.vw (.cons (.refl _) .nil)) (.b _)) ?_
   try simp -dsimp -implicitDefEqProofs (disch := omega) only [go_sem, undef, reduceAdd, reduceSub, reduceGT, reduceEqDiff, reduceMul, prs, w64, resTb]
   refine gopB.mk' (fun h3 => ?_) (fun h3 => ?_)
   ·try simp only [cn] at h3
    try simp -dsimp -implicitDefEqProofs (disch := omega) only [go_sem, undef, reduceAdd, reduceSub, reduceGT, reduceEqDiff, reduceMul, prs, w64, resTb]
    refine hN _ ?_
    try clear hN N
    refine AW.cond rfl (fun h4 => ?_) (fun h4 => ?_)
    ·try simp only [cn] at h4
     refine AW.sr envOk (fun N hN => ?_)
     simp -dsimp -implicitDefEqProofs (disch := omega) only [go_sem, undef, reduceAdd, reduceSub, reduceGT, reduceEqDiff, reduceMul, prs, w64, resTb]
     refine hN _ ?_
     try clear hN N
     refine AW.ret ?_
     simp -dsimp -implicitDefEqProofs (disch := omega) only [go_sem, undef, reduceAdd, reduceSub, reduceGT, reduceEqDiff, reduceMul]
     try (exfalso; first | omega | (simp_all; done))
    ·try simp only [cn] at h4
     refine AW.skip ?_
     simp only [thn, blk]
     refine hN3 _ ?_
     try clear hN3 N3
     refine AW.seq (fun N4 hN4 => ?_)
     refine AW.seq (fun N hN => ?_)
     refine AW.drawL envOk (by kernel_rfl) 5 (by kernel_rfl) ?_
     simp -dsimp -implicitDefEqProofs (disch := omega) only [hr_nil, hr_one, hr_if, List.take_succ_cons, List.take_zero, List.drop_succ_cons, List.drop_zero, List.take_nil, List.drop_nil, go_sem, undef, reduceAdd, reduceSub, reduceGT, reduceEqDiff, reduceMul, prs, w64, resTb]
     refine ⟨_, .of (hto.pure ), ?_⟩
     try simp -dsimp -implicitDefEqProofs (disch := omega) only [go_sem, undef, reduceAdd, reduceSub, reduceGT, reduceEqDiff, reduceMul, prs, w64, resTb]
     refine ⟨_, .lent (laws_eqPresentation_ok os os pw pw cj cj (by omega) (by omega) hpw hpw hcj hcj) (.cons ho_r.vw (.cons (.refl _) .nil)) (.b _), ?_⟩
     try simp -dsimp -implicitDefEqProofs (disch := omega) only [go_sem, undef, reduceAdd, reduceSub, reduceGT, reduceEqDiff, reduceMul, prs, w64, resTb]
     refine hN _ ?_
     try clear hN N
     refine AW.cond rfl (fun h5 => ?_) (fun h5 => ?_)
     ·try simp only [cn] at h5
      refine AW.sr envOk (fun N hN => ?_)
      simp -dsimp -implicitDefEqProofs (disch := omega) only [go_sem, undef, reduceAdd, reduceSub, reduceGT, reduceEqDiff, reduceMul, prs, w64, resTb]
      refine hN _ ?_
      try clear hN N
      refine AW.ret ?_
      simp -dsimp -implicitDefEqProofs (disch := omega) only [go_sem, undef, reduceAdd, reduceSub, reduceGT, reduceEqDiff, reduceMul]
      try (exfalso; first | omega | (simp_all; done))
     ·try simp only [cn] at h5
      refine AW.skip ?_
      simp only [thn, blk]
      refine hN4 _ ?_
      try clear hN4 N4
      refine AW.seq (fun N5 hN5 => ?_)
      refine AW.sr envOk (fun N hN => ?_)
      simp -dsimp -implicitDefEqProofs (disch := omega) only [go_sem, undef, reduceAdd, reduceSub, reduceGT, reduceEqDiff, reduceMul, prs, w64, resTb]
      refine AC.pure (.of (ht_u.pure )) ?_
      try simp -dsimp -implicitDefEqProofs (disch := omega) only [go_sem, undef, reduceAdd, reduceSub, reduceGT, reduceEqDiff, reduceMul, prs, w64, resTb]
      refine AC.pure (.lent (laws_eqInt64SS_ok u u hi_u hi_u) (.cons ho_u.vw (.cons (.refl _) .nil)) (.b _)) ?_
      try simp -dsimp -implicitDefEqProofs (disch := omega) only [go_sem, undef, reduceAdd, reduceSub, reduceGT, reduceEqDiff, reduceMul, prs, w64, resTb]
      refine hN _ ?_
      try clear hN N
      refine AW.cond rfl (fun h6 => ?_) (fun h6 => ?_)
      ·try simp only [cn] at h6
       refine AW.sr envOk (fun N hN => ?_)
       simp -dsimp -implicitDefEqProofs (disch := omega) only [go_sem, undef, reduceAdd, reduceSub, reduceGT, reduceEqDiff, reduceMul, prs, w64, resTb]
       refine hN _ ?_
       try clear hN N
       refine AW.ret ?_
       simp -dsimp -implicitDefEqProofs (disch := omega) only [go_sem, undef, reduceAdd, reduceSub, reduceGT, reduceEqDiff, reduceMul]
       try (exfalso; first | omega | (simp_all; done))
      ·try simp only [cn] at h6
       refine AW.skip ?_
       simp only [thn, blk]
       refine hN5 _ ?_
       try clear hN5 N5
       refine AW.sr envOk (fun N hN => ?_)
       simp -dsimp -implicitDefEqProofs (disch := omega) only [go_sem, undef, reduceAdd, reduceSub, reduceGT, reduceEqDiff, reduceMul, prs, w64, resTb]
       refine hN _ ?_
       try clear hN N
       refine AW.sr envOk (fun N hN => ?_)
       simp -dsimp -implicitDefEqProofs (disch := omega) only [go_sem, undef, reduceAdd, reduceSub, reduceGT, reduceEqDiff, reduceMul, prs, w64, resTb]
       refine (markP_g hlo g1 g2 ho_r (by omega) (by omega) (by omega)).mono2 ?_
       rintro m14 H14 res hm14 ⟨k14, rfl, hk14, hH14⟩
       replace ho_u := ho_u.keep (fun i q1 q2 => hH14 i (by omega))
       replace hg := hg.keep (fun i q1 q2 => hH14 i (by omega))
       try simp -dsimp -implicitDefEqProofs (disch := omega) only [go_sem, undef, reduceAdd, reduceSub, reduceGT, reduceEqDiff, reduceMul, prs, w64, resTb]
       refine hN _ ?_
       try clear hN N
       refine AW.sr envOk (fun N hN => ?_)
       simp -dsimp -implicitDefEqProofs (disch := omega) only [go_sem, undef, reduceAdd, reduceSub, reduceGT, reduceEqDiff, reduceMul, prs, w64, resTb]
       refine (laws_markInt64SS_c.h _ _ _ u _ _ k14 ho_u (by omega) hl_u (by omega) (by omega)).mono2 ?_
       rintro m15 H15 res hm15 ⟨k15, rfl, hk15, hk15', hH15⟩
       replace hg := hg.keep (fun i q1 q2 => hH15 i (by omega))
       try simp -dsimp -implicitDefEqProofs (disch := omega) only [go_sem, undef, reduceAdd, reduceSub, reduceGT, reduceEqDiff, reduceMul, prs, w64, resTb]
       refine hN _ ?_
       try clear hN N
       refine AW.seq (fun N6 hN6 => ?_)
       refine AW.sr envOk (fun N hN => ?_)
       simp -dsimp -implicitDefEqProofs (disch := omega) only [go_sem, undef, reduceAdd, reduceSub, reduceGT, reduceEqDiff, reduceMul, prs, w64, resTb]
       refine gopB.mk' (fun h7 => ?_) (fun h7 => ?_)
       ·try simp only [cn] at h7
        try simp -dsimp -implicitDefEqProofs (disch := omega) only [go_sem, undef, reduceAdd, reduceSub, reduceGT, reduceEqDiff, reduceMul, prs, w64, resTb]
        refine AC.pure (.lent (heq) (.cons hg.vw (.cons (.refl _) .nil)) (.b _)) ?_
        try simp -dsimp -implicitDefEqProofs (disch := omega) only [go_sem, undef, reduceAdd, reduceSub, reduceGT, reduceEqDiff, reduceMul, prs, w64, resTb]
        refine gopB.mk' (fun h8 => ?_) (fun h8 => ?_)
        ·try simp only [cn] at h8
         try simp -dsimp -implicitDefEqProofs (disch := omega) only [go_sem, undef, reduceAdd, reduceSub, reduceGT, reduceEqDiff, reduceMul, prs, w64, resTb]
         refine hN _ ?_
         try clear hN N
         refine AW.cond rfl (fun h9 => ?_) (fun h9 => ?_)
         ·try simp only [cn] at h9
          refine AW.sr envOk (fun N hN => ?_)
          simp -dsimp -implicitDefEqProofs (disch := omega) only [go_sem, undef, reduceAdd, reduceSub, reduceGT, reduceEqDiff, reduceMul, prs, w64, resTb]
          refine hN _ ?_
          try clear hN N
          refine AW.ret ?_
          simp -dsimp -implicitDefEqProofs (disch := omega) only [go_sem, undef, reduceAdd, reduceSub, reduceGT, reduceEqDiff, reduceMul]
          try (exfalso; first | omega | (simp_all; done))
         ·try simp only [cn] at h9
          refine AW.skip ?_
          simp only [thn, blk]
          refine hN6 _ ?_
          try clear hN6 N6
          refine AW.sr envOk (fun N hN => ?_)
          simp -dsimp -implicitDefEqProofs (disch := omega) only [go_sem, undef, reduceAdd, reduceSub, reduceGT, reduceEqDiff, reduceMul, prs, w64, resTb]
          refine hN _ ?_
          try clear hN N
          refine AW.sr envOk (fun N hN => ?_)
          simp -dsimp -implicitDefEqProofs (disch := omega) only [go_sem, undef, reduceAdd, reduceSub, reduceGT, reduceEqDiff, reduceMul, prs, w64, resTb]
          refine (markRR_g hML hg (by omega) (by omega)).mono2 ?_
          rintro m17 H17 res hm17 ⟨rfl, hg2, hH17⟩
          try simp -dsimp -implicitDefEqProofs (disch := omega) only [go_sem, undef, reduceAdd, reduceSub, reduceGT, reduceEqDiff, reduceMul, prs, w64, resTb]
          refine hN _ ?_
          try clear hN N
          refine AW.sr envOk (fun N hN => ?_)
          simp -dsimp -implicitDefEqProofs (disch := omega) only [go_sem, undef, reduceAdd, reduceSub, reduceGT, reduceEqDiff, reduceMul, prs, w64, resTb]
          refine hN _ ?_
          try clear hN N
          refine AW.sr envOk (fun N hN => ?_)
          simp -dsimp -implicitDefEqProofs (disch := omega) only [go_sem, undef, reduceAdd, reduceSub, reduceGT, reduceEqDiff, reduceMul, prs, w64, resTb]
          refine AC.pure (.lent (heldRR_g hML (by omega) (by omega)) (.cons hg2.vw (.cons (.refl _) .nil)) (.i _ _)) ?_
          try simp -dsimp -implicitDefEqProofs (disch := omega) only [go_sem, undef, reduceAdd, reduceSub, reduceGT, reduceEqDiff, reduceMul, prs, w64, resTb]
          refine hN _ ?_
          try clear hN N
          refine AW.seq (fun N7 hN7 => ?_)
          refine AW.sr envOk (fun N hN => ?_)
          simp -dsimp -implicitDefEqProofs (disch := omega) only [go_sem, undef, reduceAdd, reduceSub, reduceGT, reduceEqDiff, reduceMul, prs, w64, resTb]
          refine hN _ ?_
          try clear hN N
          refine AW.cond rfl (fun h10 => ?_) (fun h10 => ?_)
          ·try simp only [cn] at h10
           refine AW.sr envOk (fun N hN => ?_)
           simp -dsimp -implicitDefEqProofs (disch := omega) only [go_sem, undef, reduceAdd, reduceSub, reduceGT, reduceEqDiff, reduceMul, prs, w64, resTb]
           refine hN _ ?_
           try clear hN N
           refine AW.ret ?_
           simp -dsimp -implicitDefEqProofs (disch := omega) only [go_sem, undef, reduceAdd, reduceSub, reduceGT, reduceEqDiff, reduceMul]
           try (exfalso; first | omega | (simp_all; done))
          ·try simp only [cn] at h10
           refine AW.skip ?_
           simp only [thn, blk]
           refine hN7 _ ?_
           try clear hN7 N7
           refine AW.seq (fun N8 hN8 => ?_)
           refine AW.sr envOk (fun N hN => ?_)
           simp -dsimp -implicitDefEqProofs (disch := omega) only [go_sem, undef, reduceAdd, reduceSub, reduceGT, reduceEqDiff, reduceMul, prs, w64, resTb]
           refine hN _ ?_
           try clear hN N
           refine AW.cond rfl (fun h11 => ?_) (fun h11 => ?_)
           ·try simp only [cn] at h11
            refine AW.sr envOk (fun N hN => ?_)
            simp -dsimp -implicitDefEqProofs (disch := omega) only [go_sem, undef, reduceAdd, reduceSub, reduceGT, reduceEqDiff, reduceMul, prs, w64, resTb]
            refine hN _ ?_
            try clear hN N
            refine AW.ret ?_
            simp -dsimp -implicitDefEqProofs (disch := omega) only [go_sem, undef, reduceAdd, reduceSub, reduceGT, reduceEqDiff, reduceMul]
            try (exfalso; first | omega | (simp_all; done))
           ·try simp only [cn] at h11
            refine AW.skip ?_
            simp only [thn, blk]
            refine hN8 _ ?_
            try clear hN8 N8
            refine AW.sr envOk (fun N hN => ?_)
            simp -dsimp -implicitDefEqProofs (disch := omega) only [go_sem, undef, reduceAdd, reduceSub, reduceGT, reduceEqDiff, reduceMul, prs, w64, resTb]
            refine AC.pure (.of (hto.pure )) ?_
            try simp -dsimp -implicitDefEqProofs (disch := omega) only [go_sem, undef, reduceAdd, reduceSub, reduceGT, reduceEqDiff, reduceMul, prs, w64, resTb]
            refine AC.pure (.of (ht_u.pure )) ?_
            try simp -dsimp -implicitDefEqProofs (disch := omega) only [go_sem, undef, reduceAdd, reduceSub, reduceGT, reduceEqDiff, reduceMul, prs, w64, resTb]
            refine AC.pure (.of (himpl.pure )) ?_
            try simp -dsimp -implicitDefEqProofs (disch := omega) only [go_sem, undef, reduceAdd, reduceSub, reduceGT, reduceEqDiff, reduceMul, prs, w64, resTb]
            refine hN _ ?_
            try clear hN N
            refine AW.seq (fun N9 hN9 => ?_)
            refine AW.sr envOk (fun N hN => ?_)
            simp -dsimp -implicitDefEqProofs (disch := omega) only [go_sem, undef, reduceAdd, reduceSub, reduceGT, reduceEqDiff, reduceMul, prs, w64, resTb]
            refine AC.pure (.of (heq )) ?_
            try simp -dsimp -implicitDefEqProofs (disch := omega) only [go_sem, undef, reduceAdd, reduceSub, reduceGT, reduceEqDiff, reduceMul, prs, w64, resTb]
            refine gopB.mk' (fun h12 => ?_) (fun h12 => ?_)
            ·try simp only [cn] at h12
             try simp -dsimp -implicitDefEqProofs (disch := omega) only [go_sem, undef, reduceAdd, reduceSub, reduceGT, reduceEqDiff, reduceMul, prs, w64, resTb]
             refine hN _ ?_
             try clear hN N
             refine AW.cond rfl (fun h13 => ?_) (fun h13 => ?_)
             ·try simp only [cn] at h13
              refine AW.sr envOk (fun N hN => ?_)
              simp -dsimp -implicitDefEqProofs (disch := omega) only [go_sem, undef, reduceAdd, reduceSub, reduceGT, reduceEqDiff, reduceMul, prs, w64, resTb]
              refine hN _ ?_
              try clear hN N
              refine AW.ret ?_
              simp -dsimp -implicitDefEqProofs (disch := omega) only [go_sem, undef, reduceAdd, reduceSub, reduceGT, reduceEqDiff, reduceMul]
              try (exfalso; first | omega | (simp_all; done))
             ·try simp only [cn] at h13
              refine AW.skip ?_
              simp only [thn, blk]
              refine hN9 _ ?_
              try clear hN9 N9
              refine AW.sr envOk (fun N hN => ?_)
              simp -dsimp -implicitDefEqProofs (disch := omega) only [go_sem, undef, reduceAdd, reduceSub, reduceGT, reduceEqDiff, reduceMul, prs, w64, resTb]
              refine hN _ ?_
              try clear hN N
              refine AW.sr envOk (fun N hN => ?_)
              simp -dsimp -implicitDefEqProofs (disch := omega) only [go_sem, undef, reduceAdd, reduceSub, reduceGT, reduceEqDiff, reduceMul, prs, w64, resTb]
              refine AC.pure (.lent (heldRR_g hML (by omega) (by omega)) (.cons hg2.vw (.cons (.refl _) .nil)) (.i _ _)) ?_
              try simp -dsimp -implicitDefEqProofs (disch := omega) only [go_sem, undef, reduceAdd, reduceSub, reduceGT, reduceEqDiff, reduceMul, prs, w64, resTb]
              refine hN _ ?_
              try clear hN N
              refine AW.seq (fun N10 hN10 => ?_)
              refine AW.sr envOk (fun N hN => ?_)
              simp -dsimp -implicitDefEqProofs (disch := omega) only [go_sem, undef, reduceAdd, reduceSub, reduceGT, reduceEqDiff, reduceMul, prs, w64, resTb]
              refine hN _ ?_
              try clear hN N
              refine AW.cond rfl (fun h14 => ?_) (fun h14 => ?_)
              ·try simp only [cn] at h14
               refine AW.sr envOk (fun N hN => ?_)
               simp -dsimp -implicitDefEqProofs (disch := omega) only [go_sem, undef, reduceAdd, reduceSub, reduceGT, reduceEqDiff, reduceMul, prs, w64, resTb]
               refine hN _ ?_
               try clear hN N
               refine AW.ret ?_
               simp -dsimp -implicitDefEqProofs (disch := omega) only [go_sem, undef, reduceAdd, reduceSub, reduceGT, reduceEqDiff, reduceMul]
               try (exfalso; first | omega | (simp_all; done))
              ·try simp only [cn] at h14
               refine AW.skip ?_
               simp only [thn, blk]
               refine hN10 _ ?_
               try clear hN10 N10
               refine AW.seq (fun N11 hN11 => ?_)
               refine AW.sr envOk (fun N hN => ?_)
               simp -dsimp -implicitDefEqProofs (disch := omega) only [go_sem, undef, reduceAdd, reduceSub, reduceGT, reduceEqDiff, reduceMul, prs, w64, resTb]
               refine hN _ ?_
               try clear hN N
               refine AW.cond rfl (fun h15 => ?_) (fun h15 => ?_)
               ·try simp only [cn] at h15
                refine AW.sr envOk (fun N hN => ?_)
                simp -dsimp -implicitDefEqProofs (disch := omega) only [go_sem, undef, reduceAdd, reduceSub, reduceGT, reduceEqDiff, reduceMul, prs, w64, resTb]
                refine hN _ ?_
                try clear hN N
                refine AW.ret ?_
                simp -dsimp -implicitDefEqProofs (disch := omega) only [go_sem, undef, reduceAdd, reduceSub, reduceGT, reduceEqDiff, reduceMul]
                try (exfalso; first | omega | (simp_all; done))
               ·try simp only [cn] at h15
                refine AW.skip ?_
                simp only [thn, blk]
                refine hN11 _ ?_
                try clear hN11 N11
                refine AW.sr envOk (fun N hN => ?_)
                simp -dsimp -implicitDefEqProofs (disch := omega) only [go_sem, undef, reduceAdd, reduceSub, reduceGT, reduceEqDiff, reduceMul, prs, w64, resTb]
                refine hN _ ?_
                try clear hN N
                refine AW.ret ?_
                simp -dsimp -implicitDefEqProofs (disch := omega) only [go_sem, undef, reduceAdd, reduceSub, reduceGT, reduceEqDiff, reduceMul]
                try (exfalso; first | omega | (simp_all; done))
            ·try simp only [cn] at h12
             try simp -dsimp -implicitDefEqProofs (disch := omega) only [go_sem, undef, reduceAdd, reduceSub, reduceGT, reduceEqDiff, reduceMul, prs, w64, resTb]
             refine hN _ ?_
             try clear hN N
             refine AW.condT rfl ?_
             refine AW.sr envOk (fun N hN => ?_)
             simp -dsimp -implicitDefEqProofs (disch := omega) only [go_sem, undef, reduceAdd, reduceSub, reduceGT, reduceEqDiff, reduceMul, prs, w64, resTb]
             refine hN _ ?_
             try clear hN N
             refine AW.ret ?_
             simp -dsimp -implicitDefEqProofs (disch := omega) only [go_sem, undef, reduceAdd, reduceSub, reduceGT, reduceEqDiff, reduceMul]
             try (exfalso; first | omega | (simp_all; done))
        ·try simp only [cn] at h8
         try simp -dsimp -implicitDefEqProofs (disch := omega) only [go_sem, undef, reduceAdd, reduceSub, reduceGT, reduceEqDiff, reduceMul, prs, w64, resTb]
         refine hN _ ?_
         try clear hN N
         refine AW.condT rfl ?_
         refine AW.sr envOk (fun N hN => ?_)
         simp -dsimp -implicitDefEqProofs (disch := omega) only [go_sem, undef, reduceAdd, reduceSub, reduceGT, reduceEqDiff, reduceMul, prs, w64, resTb]
         refine hN _ ?_
         try clear hN N
         refine AW.ret ?_
         simp -dsimp -implicitDefEqProofs (disch := omega) only [go_sem, undef, reduceAdd, reduceSub, reduceGT, reduceEqDiff, reduceMul]
         try (exfalso; first | omega | (simp_all; done))
       ·try simp only [cn] at h7
        try simp -dsimp -implicitDefEqProofs (disch := omega) only [go_sem, undef, reduceAdd, reduceSub, reduceGT, reduceEqDiff, reduceMul, prs, w64, resTb]
        refine hN _ ?_
        try clear hN N
        refine AW.condT rfl ?_
        refine AW.sr envOk (fun N hN => ?_)
        simp -dsimp -implicitDefEqProofs (disch := omega) only [go_sem, undef, reduceAdd, reduceSub, reduceGT, reduceEqDiff, reduceMul, prs, w64, resTb]
        refine hN _ ?_
        try clear hN N
        refine AW.ret ?_
        simp -dsimp -implicitDefEqProofs (disch := omega) only [go_sem, undef, reduceAdd, reduceSub, reduceGT, reduceEqDiff, reduceMul]
        try (exfalso; first | omega | (simp_all; done))
   ·try simp only [cn] at h3
    try simp -dsimp -implicitDefEqProofs (disch := omega) only [go_sem, undef, reduceAdd, reduceSub, reduceGT, reduceEqDiff, reduceMul, prs, w64, resTb]
    refine hN _ ?_
    try clear hN N
    refine AW.condT rfl ?_
    refine AW.sr envOk (fun N hN => ?_)
    simp -dsimp -implicitDefEqProofs (disch := omega) only [go_sem, undef, reduceAdd, reduceSub, reduceGT, reduceEqDiff, reduceMul, prs, w64, resTb]
    refine hN _ ?_
    try clear hN N
    refine AW.ret ?_
    simp -dsimp -implicitDefEqProofs (disch := omega) only [go_sem, undef, reduceAdd, reduceSub, reduceGT, reduceEqDiff, reduceMul]
    try (exfalso; first | omega | (simp_all; done))
end Go.Proofs.Ytnlfbimjcabgiaa
