import Derived.Test.YtdghgmgppecncaaZ44
set_option linter.unusedVariables false
set_option linter.unusedSimpArgs false
namespace Go.Proofs.Ytdghgmgppecncaa
open Nat (reduceAdd reduceSub reduceGT reduceEqDiff reduceMul)
def FlI (P : List Int → Prop) (A : List (List Int)) (k nx m : Nat) (o : Option Nat) : Prop := nx ≤ m ∧ (o = none → filt P (A.take k) = []) ∧ (∀ id, o = some id → nx ≤ id ∧ id < m)
theorem FlI.start {P : List Int → Prop} {A : List (List Int)} {nx m : Nat} (h : nx ≤ m) : FlI P A 0 nx m none := ⟨h, fun _ => by simp [filt], by simp⟩
theorem take_snoc_getD2 {A : List (List Int)} {k : Nat} (h : k < A.length) : A.take (k + 1) = A.take k ++ [A.getD k []] := by
  rw [List.take_add_one]; simp [h]
theorem take_yes {P : List Int → Prop} {A : List (List Int)} {k : Nat} (hk : k < A.length) (h : P (A.getD k [])) : filt P (A.take (k + 1)) = filt P (A.take k) ++ [A.getD k []] := by
  rw [take_snoc_getD2 hk, filt_yes h]
theorem take_no {P : List Int → Prop} {A : List (List Int)} {k : Nat} (hk : k < A.length) (h : ¬ P (A.getD k [])) : filt P (A.take (k + 1)) = filt P (A.take k) := by
  rw [take_snoc_getD2 hk, filt_no h]
theorem FlI.yes {P : List Int → Prop} {A : List (List Int)} {k nx m m' id' : Nat} {o : Option Nat} (h : FlI P A k nx m o) (h1 : nx ≤ id') (h2 : id' < m') : FlI P A (k + 1) nx m' (some id') := ⟨by omega, by simp, fun id hid => by cases hid; exact ⟨h1, h2⟩⟩
theorem FlI.no {P : List Int → Prop} {A : List (List Int)} {k nx m m' : Nat} {o : Option Nat} (h : FlI P A k nx m o) (hk : k < A.length) (hP : ¬ P (A.getD k [])) (hm : m ≤ m') : FlI P A (k + 1) nx m' o :=
  ⟨by have := h.1; omega, by rw [take_no hk hP]; exact h.2.1, fun id hid => by have := h.2.2 id hid; omega⟩
theorem filt_le {P : List Int → Prop} {A : List (List Int)} {k : Nat} : (filt P (A.take k)).length ≤ A.length := by
  have h1 : (filt P (A.take k)).length ≤ (A.take k).length := List.length_filter_le _ _
  rw [List.length_take] at h1; omega
theorem filt_le2 {P : List Int → Prop} {A : List (List Int)} : (filt P A).length ≤ A.length := List.length_filter_le _ _
theorem rows_cell {u : List (List Int)} : cellsA (rows u) = [rows u] := rfl
theorem rows_ok {u : List (List Int)} : okA (rows u) = true := rfl
theorem one_ints1 {x : List Int} : (∀ z ∈ [ints x], one z = true) = True := one_list rfl
theorem impl_lieWith_ok (p : Int) (pw : List (List Int)) (br : List (List (List Int))) (ht : Tri p pw) (hp : pr4 p) (h9 : p ^ pw.length ≤ 729) (F : FuncId) (cs : List AV) (P : List Int → Prop) (hF : ∀ x, El p pw.length x → ACp Try.prog F ([ints x] ++ cs) (.b (tf (P x)))) : ACo Try.prog 238 [ringP p pw br, .f F cs] (rows (withL p pw P)) := by
 obtain ⟨A, hA⟩ : ∃ A, allL p pw.length = A := ⟨_, rfl⟩
 have hAl : A.length ≤ 729 := by rw [← hA]; exact (all_le ht.p2 h9 (Nat.le_refl _)).1
 have hAe : ∀ x ∈ A, El p pw.length x := fun x hx => (mem_all ht.p2).1 (by rw [hA]; exact hx)
 have hall := impl_allLie_ok p pw br ht.p2 (pr4_bd hp).2 ht.n6 h9
 rw [hA] at hall
 intro nx
 refine AC.intro' envOk Try.func238 rfl (by kernel_rfl) Try.ntmps238 Try.results238 ?_
 refine AW.sr envOk (fun N hN => ?_)
 simp -dsimp -implicitDefEqProofs (disch := omega) only [go_sem, undef, reduceAdd, reduceSub, reduceGT, reduceEqDiff, reduceMul, rows, gd_r, w64]
 refine hN _ ?_
 try clear hN N
 refine AW.sr envOk (fun N hN => ?_)
 simp -dsimp -implicitDefEqProofs (disch := omega) only [go_sem, undef, reduceAdd, reduceSub, reduceGT, reduceEqDiff, reduceMul, rows, gd_r, w64]
 refine hN _ ?_
 try clear hN N
 refine AW.seq (fun N1 hN1 => ?_)
 refine AW.sr envOk (fun N hN => ?_)
 simp -dsimp -implicitDefEqProofs (disch := omega) only [go_sem, undef, reduceAdd, reduceSub, reduceGT, reduceEqDiff, reduceMul, rows, gd_r, w64]
 refine AC.pure (.of (hall )) ?_
 try simp -dsimp -implicitDefEqProofs (disch := omega) only [go_sem, undef, reduceAdd, reduceSub, reduceGT, reduceEqDiff, reduceMul, rows, gd_r, w64]
 refine hN _ ?_
 try clear hN N
 refine AW.block ?_
 refine AW.loopN (α := Nat × Option Nat) (fun x => sl 26 [(0, ringP p pw br), (1, .f F cs), (5, oA x.2 (filt P (A.take x.1)).length), (9, rows A), (10, .i .i64 A.length), (11, .i .i64 x.1)]) (fun x => oH noH x.2 ((filt P (A.take x.1)).map ints)) (fun x m => x.1 ≤ A.length ∧ FlI P A x.1 nx m x.2) (fun x => A.length - x.1) ((0, none)) ?_ ?_ (fun _ _ h => h) ?_
 ·exact ⟨by simp, .start (by first| omega| (simp only; omega)| (dsimp only; omega))⟩
 ·simp [wks, wkA, sl, rows, ringP, oA]
 ·skip
  rintro ⟨k, (_ | q)⟩ m ⟨hk, hB⟩
  ·skip
   simp -dsimp -implicitDefEqProofs (disch := omega) only [go_sem, undef, reduceAdd, reduceSub, reduceGT, reduceEqDiff, reduceMul]
   dsimp only [oA, oH] at hk hB ⊢
   have hnil := hB.2.1 rfl
   have hnm := hB.1
   refine AW.sr envOk (fun N hN => ?_)
   simp -dsimp -implicitDefEqProofs (disch := omega) only [go_sem, undef, reduceAdd, reduceSub, reduceGT, reduceEqDiff, reduceMul, rows, gd_r, w64]
   refine hN _ ?_
   try clear hN N
   refine AW.seq (fun N2 hN2 => ?_)
   refine AW.cond rfl (fun h1 => ?_) (fun h1 => ?_)
   ·try simp only [cn] at h1
    have hxe := hAe _ (ix_mem (d := []) (show k < A.length by omega))
    refine AW.skip ?_
    simp only [thn, blk]
    refine hN2 _ ?_
    try clear hN2 N2
    refine AW.seq (fun N3 hN3 => ?_)
    refine AW.block ?_
    refine AW.sr envOk (fun N hN => ?_)
    simp -dsimp -implicitDefEqProofs (disch := omega) only [go_sem, undef, reduceAdd, reduceSub, reduceGT, reduceEqDiff, reduceMul, rows, gd_r, w64]
    refine hN _ ?_
    try clear hN N
    refine AW.sr envOk (fun N hN => ?_)
    simp -dsimp -implicitDefEqProofs (disch := omega) only [go_sem, undef, reduceAdd, reduceSub, reduceGT, reduceEqDiff, reduceMul, rows, gd_r, w64]
    refine AC.pure (.of (hF (A.getD k []) hxe )) ?_
    try simp -dsimp -implicitDefEqProofs (disch := omega) only [go_sem, undef, reduceAdd, reduceSub, reduceGT, reduceEqDiff, reduceMul, rows, gd_r, w64]
    refine hN _ ?_
    try clear hN N
    refine AW.cond rfl (fun h2 => ?_) (fun h2 => ?_)
    ·try simp only [cn] at h2
     have htk := take_yes (show k < A.length by omega) h2
     refine AW.regionL envOk ?_
     simp -dsimp -implicitDefEqProofs (disch := omega) only [go_sem, undef, reduceAdd, reduceSub, reduceGT, reduceEqDiff, reduceMul, rows, gd_r, w64]
     refine hN3 _ ?_
     try clear hN3 N3
     refine AW.regionL envOk ?_
     simp -dsimp -implicitDefEqProofs (disch := omega) only [go_sem, undef, reduceAdd, reduceSub, reduceGT, reduceEqDiff, reduceMul, rows, gd_r, w64]
     refine ⟨(k + 1, some (m + 1 + 3 + 3 + 3)), ?_, by show Le (upd noH _ _) _; rw [htk, hnil]; exact Le.only, ?_, ?_⟩
     ·simp (disch := omega) [wks, wkA, sl, w64, rows, ringP, oA, htk, hnil]
     ·exact ⟨by first| omega| (simp only; omega)| (dsimp only; omega), hB.yes (by first| omega| (simp only; omega)| (dsimp only; omega)) (by first| omega| (simp only; omega)| (dsimp only; omega))⟩
     ·first | omega | (simp only; omega)
    ·try simp only [cn] at h2
     have htk := take_no (show k < A.length by omega) h2
     refine AW.skip ?_
     simp only [thn, blk]
     refine hN3 _ ?_
     try clear hN3 N3
     refine AW.regionL envOk ?_
     simp -dsimp -implicitDefEqProofs (disch := omega) only [go_sem, undef, reduceAdd, reduceSub, reduceGT, reduceEqDiff, reduceMul, rows, gd_r, w64]
     refine ⟨(k + 1, none), ?_, fun _ _ h => h, ?_, ?_⟩
     ·simp (disch := omega) [wks, wkA, sl, w64, rows, ringP, oA, htk, hnil]
     ·exact ⟨by first| omega| (simp only; omega)| (dsimp only; omega), hB.no (by omega) h2 (by first| omega| (simp only; omega)| (dsimp only; omega))⟩
     ·first | omega | (simp only; omega)
   ·try simp only [cn] at h1
    have hfA : A.take k = A := List.take_of_length_le (by omega)
    have hfl2 := filt_le2 (P := P) (A := A)
    refine AW.exit ?_
    simp only [thn, blk, if_true]
    refine hN1 _ ?_
    try clear hN1 N1
    refine AW.sr envOk (fun N hN => ?_)
    simp -dsimp -implicitDefEqProofs (disch := omega) only [go_sem, undef, reduceAdd, reduceSub, reduceGT, reduceEqDiff, reduceMul, rows, gd_r, w64]
    refine AC.own (impl_lieSpan_ok p pw br ht hp (filt P A) (by omega) (fun k hk => hAe _ (mem_filt.1 (ix_mem hk)).1)) (.cons (.refl _) (.cons (by rw [hfA] at hnil; rw [hnil]; exact .nl) .nil)) ?_
    intro m1 H1 r1 ids1 hm1 hH1 hown1
    try simp -dsimp -implicitDefEqProofs (disch := omega) only [go_sem, undef, reduceAdd, reduceSub, reduceGT, reduceEqDiff, reduceMul, rows, gd_r, w64]
    refine hN _ ?_
    try clear hN N
    refine AW.ret ?_
    simp -dsimp -implicitDefEqProofs (disch := omega) only [go_sem, undef, reduceAdd, reduceSub, reduceGT, reduceEqDiff, reduceMul]
    unfold withL
    rw [hA]
    exact ⟨ids1, hown1.keep (fun _ _ _ => rfl) (by omega) (by omega)⟩
  ·skip
   simp -dsimp -implicitDefEqProofs (disch := omega) only [go_sem, undef, reduceAdd, reduceSub, reduceGT, reduceEqDiff, reduceMul]
   dsimp only [oA, oH] at hk hB ⊢
   obtain ⟨i2, i3⟩ := hB.2.2 q rfl
   have hnm := hB.1
   have hnil : filt P ([] : List (List Int)) = [] := rfl
   have hfl := filt_le (P := P) (A := A) (k := k)
   refine AW.sr envOk (fun N hN => ?_)
   simp -dsimp -implicitDefEqProofs (disch := omega) only [go_sem, undef, reduceAdd, reduceSub, reduceGT, reduceEqDiff, reduceMul, rows, gd_r, w64]
   refine hN _ ?_
   try clear hN N
   refine AW.seq (fun N4 hN4 => ?_)
   refine AW.cond rfl (fun h3 => ?_) (fun h3 => ?_)
   ·try simp only [cn] at h3
    have hxe := hAe _ (ix_mem (d := []) (show k < A.length by omega))
    refine AW.skip ?_
    simp only [thn, blk]
    refine hN4 _ ?_
    try clear hN4 N4
    refine AW.seq (fun N5 hN5 => ?_)
    refine AW.block ?_
    refine AW.sr envOk (fun N hN => ?_)
    simp -dsimp -implicitDefEqProofs (disch := omega) only [go_sem, undef, reduceAdd, reduceSub, reduceGT, reduceEqDiff, reduceMul, rows, gd_r, w64]
    refine hN _ ?_
    try clear hN N
    refine AW.sr envOk (fun N hN => ?_)
    simp -dsimp -implicitDefEqProofs (disch := omega) only [go_sem, undef, reduceAdd, reduceSub, reduceGT, reduceEqDiff, reduceMul, rows, gd_r, w64]
    refine AC.pure (.of (hF (A.getD k []) hxe )) ?_
    try simp -dsimp -implicitDefEqProofs (disch := omega) only [go_sem, undef, reduceAdd, reduceSub, reduceGT, reduceEqDiff, reduceMul, rows, gd_r, w64]
    refine hN _ ?_
    try clear hN N
    refine AW.cond rfl (fun h4 => ?_) (fun h4 => ?_)
    ·try simp only [cn] at h4
     have htk := take_yes (show k < A.length by omega) h4
     refine AW.regionL envOk ?_
     simp -dsimp -implicitDefEqProofs (disch := omega) only [go_sem, undef, reduceAdd, reduceSub, reduceGT, reduceEqDiff, reduceMul, rows, gd_r, w64]
     refine hN5 _ ?_
     try clear hN5 N5
     refine AW.regionL envOk ?_
     simp -dsimp -implicitDefEqProofs (disch := omega) only [go_sem, undef, reduceAdd, reduceSub, reduceGT, reduceEqDiff, reduceMul, rows, gd_r, w64]
     refine ⟨(k + 1, some (m + 1 + 3 + 3 + 3)), ?_, by show Le (upd noH _ _) _; rw [htk, List.take_of_length_le (l := (filt P (A.take k)).map ints) (by simp), List.map_append]; exact Le.only, ?_, ?_⟩
     ·simp (disch := omega) [wks, wkA, sl, w64, rows, ringP, oA, htk, hnil]
     ·exact ⟨by first| omega| (simp only; omega)| (dsimp only; omega), hB.yes (by first| omega| (simp only; omega)| (dsimp only; omega)) (by first| omega| (simp only; omega)| (dsimp only; omega))⟩
     ·first | omega | (simp only; omega)
    ·try simp only [cn] at h4
     have htk := take_no (show k < A.length by omega) h4
     refine AW.skip ?_
     simp only [thn, blk]
     refine hN5 _ ?_
     try clear hN5 N5
     refine AW.regionL envOk ?_
     simp -dsimp -implicitDefEqProofs (disch := omega) only [go_sem, undef, reduceAdd, reduceSub, reduceGT, reduceEqDiff, reduceMul, rows, gd_r, w64]
     refine ⟨(k + 1, some q), ?_, by show Le (upd noH q _) _; rw [htk]; exact Le.refl _, ?_, ?_⟩
     ·simp (disch := omega) [wks, wkA, sl, w64, rows, ringP, oA, htk, hnil]
     ·exact ⟨by first| omega| (simp only; omega)| (dsimp only; omega), hB.no (by omega) h4 (by first| omega| (simp only; omega)| (dsimp only; omega))⟩
     ·first | omega | (simp only; omega)
   ·try simp only [cn] at h3
    have hfA : A.take k = A := List.take_of_length_le (by omega)
    have hfl2 := filt_le2 (P := P) (A := A)
    refine AW.exit ?_
    simp only [thn, blk, if_true]
    refine hN1 _ ?_
    try clear hN1 N1
    refine AW.sr envOk (fun N hN => ?_)
    simp -dsimp -implicitDefEqProofs (disch := omega) only [go_sem, undef, reduceAdd, reduceSub, reduceGT, reduceEqDiff, reduceMul, rows, gd_r, w64]
    refine AC.own (impl_lieSpan_ok p pw br ht hp (filt P A) (by omega) (fun k hk => hAe _ (mem_filt.1 (ix_mem hk)).1)) (.cons (.refl _) (.cons (by rw [hfA]; exact Vw.rws rfl (upd_same _ _ _)) .nil)) ?_
    intro m1 H1 r1 ids1 hm1 hH1 hown1
    try simp -dsimp -implicitDefEqProofs (disch := omega) only [go_sem, undef, reduceAdd, reduceSub, reduceGT, reduceEqDiff, reduceMul, rows, gd_r, w64]
    refine hN _ ?_
    try clear hN N
    refine AW.ret ?_
    simp -dsimp -implicitDefEqProofs (disch := omega) only [go_sem, undef, reduceAdd, reduceSub, reduceGT, reduceEqDiff, reduceMul]
    unfold withL
    rw [hA]
    exact ⟨ids1, hown1.keep (fun _ _ _ => rfl) (by omega) (by omega)⟩
theorem impl_lieAbove_1_ok (p : Int) (pw : List (List Int)) (br : List (List (List Int))) (s : Sh p pw br) (ht : Tri p pw) (u v : List (List Int)) (hu : Rws p pw.length u) (hv : v.length ≤ 1000) (hve : ∀ b ∈ v, El p pw.length b) (x : List Int) (hx : El p pw.length x) : ACp Try.prog 239 [ints x, .p 0 [ringP p pw br], .p 0 [rows v], .p 0 [rows u]] (.b (tf (AbvP p pw br u v x))) := by
 refine ACp.intro' envOk Try.func239 rfl (by kernel_rfl) Try.ntmps239 Try.results239 (.b _) (fun nx => ?_)
 refine AW.sr envOk (fun N hN => ?_)
 simp -dsimp -implicitDefEqProofs (disch := omega) only [go_sem, undef, reduceAdd, reduceSub, reduceGT, reduceEqDiff, reduceMul, w64, one_ints1]
 refine hN _ ?_
 try clear hN N
 refine AW.sr envOk (fun N hN => ?_)
 simp -dsimp -implicitDefEqProofs (disch := omega) only [go_sem, undef, reduceAdd, reduceSub, reduceGT, reduceEqDiff, reduceMul, w64, one_ints1]
 refine AC.pure (.lent (impl_bracketsIn_ok p pw br s ht [x] v u (by simp) hv (fun b hb => by rw [List.mem_singleton.1 hb]; exact hx) hve hu) (.cons (.refl _) (.cons (Vw.blk (upd_same _ _ _) rfl) (.cons (.refl _) (.cons (.refl _) .nil)))) (.b _)) ?_
 try simp -dsimp -implicitDefEqProofs (disch := omega) only [go_sem, undef, reduceAdd, reduceSub, reduceGT, reduceEqDiff, reduceMul, w64, one_ints1]
 refine hN _ ?_
 try clear hN N
 refine AW.ret ?_
 simp -dsimp -implicitDefEqProofs (disch := omega) only [go_sem, undef, reduceAdd, reduceSub, reduceGT, reduceEqDiff, reduceMul]
 rfl
theorem impl_lieAbove_ok (p : Int) (pw : List (List Int)) (br : List (List (List Int))) (s : Sh p pw br) (ht : Tri p pw) (hp : pr4 p) (h9 : p ^ pw.length ≤ 729) (u v : List (List Int)) (hu : Rws p pw.length u) (hv : v.length ≤ 1000) (hve : ∀ b ∈ v, El p pw.length b) : ACo Try.prog 152 [ringP p pw br, rows u, rows v] (rows (aboveL p pw br u v)) := by
 intro nx
 refine AC.intro' envOk Try.func152 rfl (by kernel_rfl) Try.ntmps152 Try.results152 ?_
 refine AW.sr envOk (fun N hN => ?_)
 simp -dsimp -implicitDefEqProofs (disch := omega) only [go_sem, undef, reduceAdd, reduceSub, reduceGT, reduceEqDiff, reduceMul, w64, ring_cell, ring_ok, rows_cell, rows_ok]
 refine hN _ ?_
 try clear hN N
 refine AW.freezeQ 3 nx [ringP p pw br] rfl ((upd_ne _ _ (by omega)).trans ((upd_ne _ _ (by omega)).trans (upd_same _ _ _))) ?_
 refine AW.freezeQ 4 (nx + 1) [rows u] rfl ((upd_ne _ _ (by omega)).trans ((upd_ne _ _ (by omega)).trans (upd_same _ _ _))) ?_
 refine AW.freezeQ 5 (nx + 2) [rows v] rfl ((upd_ne _ _ (by omega)).trans ((upd_ne _ _ (by omega)).trans (upd_same _ _ _))) ?_
 simp -dsimp -implicitDefEqProofs (disch := omega) only [go_sem, undef, reduceAdd, reduceSub, reduceGT, reduceEqDiff, reduceMul]
 refine AW.sr envOk (fun N hN => ?_)
 simp -dsimp -implicitDefEqProofs (disch := omega) only [go_sem, undef, reduceAdd, reduceSub, reduceGT, reduceEqDiff, reduceMul, w64, ring_cell, ring_ok, rows_cell, rows_ok]
 refine AC.own (impl_lieWith_ok p pw br ht hp h9 239 [.p 0 [ringP p pw br], .p 0 [rows v], .p 0 [rows u]] (AbvP p pw br u v) (fun x hx => impl_lieAbove_1_ok p pw br s ht u v hu hv hve x hx)) (.cons (.refl _) (.cons (.refl _) .nil)) ?_
 intro m1 H1 r1 ids1 hm1 hH1 hown1
 try simp -dsimp -implicitDefEqProofs (disch := omega) only [go_sem, undef, reduceAdd, reduceSub, reduceGT, reduceEqDiff, reduceMul, w64, ring_cell, ring_ok, rows_cell, rows_ok]
 refine hN _ ?_
 try clear hN N
 refine AW.ret ?_
 simp -dsimp -implicitDefEqProofs (disch := omega) only [go_sem, undef, reduceAdd, reduceSub, reduceGT, reduceEqDiff, reduceMul]
 exact ⟨ids1, hown1.keep (fun _ _ _ => rfl) (by omega) (by omega)⟩
end Go.Proofs.Ytdghgmgppecncaa
