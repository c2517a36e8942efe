import Derived.Test.YtdghgmgppecncaaZ26
import Derived.Test.YtdghgmgppecncaaZ46
set_option linter.unusedVariables false
set_option linter.unusedSimpArgs false
namespace Go.Proofs.Ytdghgmgppecncaa
open Nat (reduceAdd reduceSub reduceGT reduceEqDiff reduceMul)
def Sls (H : HP) (nx : Nat) (x : AV) (xs : List AV) : Prop := (∀ z ∈ xs, one z = true) ∧ (x = .v xs.length xs ∨ (x = .nl ∧ xs = []) ∨ ∃ i, i < nx ∧ x = .h i 0 xs.length ∧ H i = some xs)
def CatP (nx : Nat) (H : HP) (zs : List AV) (nx' : Nat) (H' : HP) (r : AV) : Prop := nx ≤ nx' ∧ (∀ i, i < nx → H' i = H i) ∧
  ((zs = [] ∧ r = .nl) ∨ ∃ id cs, nx ≤ id ∧ id < nx' ∧ r = .h id 0 zs.length ∧ H' id = some cs ∧ cs.take zs.length = zs)
def fl (xss : List (List AV)) (k : Nat) : List AV := (xss.take k).flatten
end Go.Proofs.Ytdghgmgppecncaa
namespace Go.Proofs.Ytdghgmgppecncaa
open Nat (reduceAdd reduceSub reduceGT reduceEqDiff reduceMul)
theorem rsum_lin {q : Nat} {F G K : Nat → Int} {c : Int} (h : ∀ i, i < q → F i = G i + c * K i) : rsum q F = rsum q G + c * rsum q K := by
  induction q with
  | zero => simp [rsum]
  | succ q ih =>
    have h1 := ih fun i hi => h i (by omega)
    have h2 := h q (by omega)
    simp only [rsum]
    grind
section
variable {p : Int} {pw : List (List Int)} {br : List (List (List Int))}
theorem bsum_lin (s : Sh p pw br) {a x y z : List Int} {c : Int} (h : ∀ j, j < pw.length → z.getD j 0 = x.getD j 0 + c * y.getD j 0) {t : Nat} : bsum a z br pw.length t = bsum a x br pw.length t + c * bsum a y br pw.length t := by
  refine rsum_lin fun i hi => rsum_lin fun r hr => ?_
  have h1 := h i hi
  have h2 := h (i + 1 + r) (by have := s.rl i hi; omega)
  simp only [brc]
  rw [h1, h2]
  grind
theorem brk_units (s : Sh p pw br) (t : Tri p pw) {S : (Nat → Int) → Prop} (hS : Sub p pw S) {a b : List Int} (h : ∀ k, k < pw.length → S (fn (brkL p pw br a (unitL pw.length k)))) : S (fn (brkL p pw br a b)) := by
  have hu : ∀ k, k < pw.length → S (fun q => bsum a (unitL pw.length k) br pw.length q) := fun k hk => hS.cg (h k hk) (nf_fn t _).symm
  have go : ∀ k, k ≤ pw.length → S (fun q => bsum a (vec pw.length fun j => if j < k then b.getD j 0 else 0) br pw.length q) := by
    intro k
    induction k with
    | zero =>
      intro _
      refine hS.cg hS.zero (.of fun q _ => ?_)
      have := bsum_lin s (a := a) (x := []) (y := []) (z := vec pw.length fun j => if j < 0 then b.getD j 0 else 0) (c := -1) (fun j hj => by rw [vec_get hj]; simp) (t := q)
      rw [this]; omega
    | succ k ih =>
      intro hk
      refine hS.cg (hS.comb 1 (b.getD k 0) (ih (by omega)) (hu k (by omega))) (.of fun q _ => ?_)
      have := bsum_lin s (a := a) (x := vec pw.length fun j => if j < k then b.getD j 0 else 0) (y := unitL pw.length k) (z := vec pw.length fun j => if j < k + 1 then b.getD j 0 else 0) (c := b.getD k 0) (fun j hj => by
        rw [vec_get hj, vec_get hj, unitL, vec_get hj]
        by_cases e : j = k
        · subst e; simp
        · rw [if_neg e]
          by_cases e2 : j < k
          · rw [if_pos e2, if_pos (by omega)]; omega
          · rw [if_neg e2, if_neg (by omega)]; omega) (t := q)
      rw [this]; omega
  have hb := go pw.length (Nat.le_refl _)
  refine hS.cg hb (Cg.trans (nf_fn t _) (.of fun q _ => ?_))
  have := bsum_lin s (a := a) (x := b) (y := []) (z := vec pw.length fun j => if j < pw.length then b.getD j 0 else 0) (c := 0) (fun j hj => by rw [vec_get hj, if_pos hj]; simp) (t := q)
  rw [this]; omega
noncomputable def cstep (p : Int) (pw : List (List Int)) (br : List (List (List Int))) (y u : List (List Int)) : List (List Int) := spanL p pw (u ++ brkLL p pw br u (u ++ y))
inductive Clos (p : Int) (pw : List (List Int)) (br : List (List (List Int))) (y : List (List Int)) : List (List Int) → List (List Int) → Prop
  | done (u : List (List Int)) (h : cstep p pw br y u = u) : Clos p pw br y u u
  | step (u r : List (List Int)) (h : cstep p pw br y u ≠ u) (hc : Clos p pw br y (cstep p pw br y u) r) : Clos p pw br y u r
theorem cstep_can (s : Sh p pw br) (t : Tri p pw) (hp : pr4 p) {y u : List (List Int)} (hu : ∀ b ∈ u, El p pw.length b) : CanU p pw (cstep p pw br y u) := spanU t hp (app_el hu (brkLL_el s))
theorem cstep_grow (s : Sh p pw br) (t : Tri p pw) (hp : pr4 p) {y u : List (List Int)} (hu : CanU p pw u) : u.length ≤ (cstep p pw br y u).length ∧ ((cstep p pw br y u).length ≤ u.length → cstep p pw br y u = u) := by
  have hc := span_can t hp (app_el hu.el (brkLL_el s (u := u) (v := u ++ y)))
  have hm : ∀ f, Sp p pw u f → Sp p pw (u ++ brkLL p pw br u (u ++ y)) f := fun f hf => hf.mono fun b hb => by simp [hb]
  exact ⟨can_le hu hc hm, fun hl => can_same t (Sp.sub _) (Sp.sub _) hu hc hm hl⟩
theorem clos_ex (s : Sh p pw br) (t : Tri p pw) (hp : pr4 p) {y : List (List Int)} : ∀ (d : Nat) {u : List (List Int)}, CanU p pw u → pw.length - u.length ≤ d → ∃ r, Clos p pw br y u r ∧ CanU p pw r := by
  intro d
  induction d with
  | zero =>
    intro u hu hd
    have h1 := cstep_can s t hp (y := y) hu.el
    obtain ⟨h2, h3⟩ := cstep_grow s t hp (y := y) hu
    have := h1.toEch.len
    exact ⟨u, .done u (h3 (by omega)), hu⟩
  | succ d ih =>
    intro u hu hd
    obtain ⟨h2, h3⟩ := cstep_grow s t hp (y := y) hu
    by_cases e : cstep p pw br y u = u
    · exact ⟨u, .done u e, hu⟩
    · have hlt : u.length < (cstep p pw br y u).length := by
        rcases Nat.lt_or_ge u.length (cstep p pw br y u).length with h | h
        · exact h
        · exact absurd (h3 h) e
      obtain ⟨r, h4, h5⟩ := ih (cstep_can s t hp (y := y) hu.el) (by omega)
      exact ⟨r, .step u r e h4, h5⟩
theorem Clos.eq {y u r : List (List Int)} (h : Clos p pw br y u r) (he : cstep p pw br y u = u) : r = u := by
  cases h with
  | done => rfl
  | step _ _ h => exact absurd he h
theorem Clos.next {y u r : List (List Int)} (h : Clos p pw br y u r) (he : cstep p pw br y u ≠ u) : Clos p pw br y (cstep p pw br y u) r := by
  cases h with
  | done _ h => exact absurd h he
  | step _ _ _ h => exact h
theorem sp_app {u v v' : List (List Int)} (h : ∀ f, Sp p pw v f → Sp p pw (u ++ v') f) (h' : ∀ f, Sp p pw v' f → Sp p pw (u ++ v) f) : Sp p pw (u ++ v) = Sp p pw (u ++ v') := by
  refine Sp.eqv (fun b hb => ?_) (fun b hb => ?_)
  · rcases List.mem_append.1 hb with hb | hb
    · exact .gen (by simp [hb])
    · exact h _ (.gen hb)
  · rcases List.mem_append.1 hb with hb | hb
    · exact .gen (by simp [hb])
    · exact h' _ (.gen hb)
theorem ring_step (s : Sh p pw br) (t : Tri p pw) (hp : pr4 p) {u : List (List Int)} (hu : ∀ b ∈ u, El p pw.length b) : spanL p pw (u ++ spanL p pw (brkLL p pw br u u)) = cstep p pw br [] u := by
  unfold cstep
  rw [List.append_nil]
  have hb := brkLL_el s (u := u) (v := u)
  have he := span_sp t hp hb
  exact spanL_sp t hp (app_el hu (spanU t hp hb).el) (app_el hu hb) (sp_app (fun f hf => by rw [he] at hf; exact hf.mono fun b hb => by simp [hb]) (fun f hf => by rw [← he] at hf; exact hf.mono fun b hb => by simp [hb]))
theorem ideal_step (s : Sh p pw br) (t : Tri p pw) (hp : pr4 p) {u : List (List Int)} (hu : ∀ b ∈ u, El p pw.length b) : spanL p pw (u ++ spanL p pw (brkLL p pw br u (wholeL pw.length))) = cstep p pw br (wholeL pw.length) u := by
  unfold cstep
  have hb := brkLL_el s (u := u) (v := wholeL pw.length)
  have hb2 := brkLL_el s (u := u) (v := u ++ wholeL pw.length)
  have he := span_sp t hp hb
  have key : ∀ f, Sp p pw (brkLL p pw br u (u ++ wholeL pw.length)) f → Sp p pw (brkLL p pw br u (wholeL pw.length)) f := by
    intro f hf
    refine hf.le fun b hb => ?_
    obtain ⟨x, hx, h1⟩ := List.mem_flatMap.1 hb
    obtain ⟨z, hz, rfl⟩ := List.mem_map.1 h1
    refine brk_units s t (Sp.sub _) fun k hk => .gen ?_
    exact List.mem_flatMap.2 ⟨x, hx, List.mem_map.2 ⟨_, by rw [← whole_get hk]; exact ix_mem (by rw [whole_len]; exact hk), rfl⟩⟩
  have back : ∀ f, Sp p pw (brkLL p pw br u (wholeL pw.length)) f → Sp p pw (brkLL p pw br u (u ++ wholeL pw.length)) f := by
    intro f hf
    refine hf.mono fun b hb => ?_
    obtain ⟨x, hx, h1⟩ := List.mem_flatMap.1 hb
    obtain ⟨z, hz, rfl⟩ := List.mem_map.1 h1
    exact List.mem_flatMap.2 ⟨x, hx, List.mem_map.2 ⟨z, by simp [hz], rfl⟩⟩
  exact spanL_sp t hp (app_el hu (spanU t hp hb).el) (app_el hu hb2) (sp_app (fun f hf => by rw [he] at hf; exact (back f hf).mono fun b hb => by simp [hb]) (fun f hf => by
    have := key f hf
    rw [← he] at this; exact this.mono fun b hb => by simp [hb]))
end
end Go.Proofs.Ytdghgmgppecncaa
namespace Go.Proofs.Ytdghgmgppecncaa
open Nat (reduceAdd reduceSub reduceGT reduceEqDiff reduceMul)
theorem Sls.rws {H : HP} {nx : Nat} {u : List (List Int)} : Sls H nx (rows u) (u.map ints) := by
  refine ⟨fun z hz => ?_, .inl (by rw [List.length_map]; rfl)⟩
  obtain ⟨a, _, rfl⟩ := List.mem_map.1 hz
  rfl
theorem Sls.nl {H : HP} {nx : Nat} : Sls H nx .nl [] := ⟨by simp, .inr (.inl ⟨rfl, rfl⟩)⟩
theorem Sls.two {H : HP} {nx : Nat} {x y : AV} {xs ys : List AV} (hx : Sls H nx x xs) (hy : Sls H nx y ys) : ∀ i, i < [xs, ys].length → Sls H nx ([x, y].getD i .j) ([xs, ys].getD i []) := by
  intro i hi
  match i, hi with
  | 0, _ => exact hx
  | 1, _ => exact hy
theorem CatP.vw {nx nx' : Nat} {H H' : HP} {zs : List AV} {r : AV} {W : List (List Int)} (h : CatP nx H zs nx' H' r) (hl : zs.length = W.length) (hv : ∀ (k : Nat) (x y : AV), zs[k]? = some x → (W.map Go.Proofs.Ytdghgmgppecncaa.ints)[k]? = some y → Vw H' x y) : Vw H' r (rows W) := by
  obtain ⟨h1, h2, ⟨rfl, rfl⟩ | ⟨id, cs, h3, h4, rfl, h5, h6⟩⟩ := h
  · obtain rfl : W = [] := List.length_eq_zero_iff.1 hl.symm
    exact .nl
  · have hle : zs.length ≤ cs.length := by have := congrArg List.length h6; rw [List.length_take] at this; omega
    rw [hl] at *
    unfold rows
    refine .h id 0 W.length cs _ h5 (by omega) (by simp) fun k x y hx hy => ?_
    have hk : k < W.length := by
      have := (List.getElem?_eq_some_iff.1 hy).1
      simpa using this
    refine hv k x y ?_ hy
    rw [← h6, List.getElem?_take, if_pos hk, ← hx, Nat.zero_add]
theorem CatP.rws {nx nx' : Nat} {H H' : HP} {r : AV} {u v : List (List Int)} (h : CatP nx H [u.map Go.Proofs.Ytdghgmgppecncaa.ints, v.map Go.Proofs.Ytdghgmgppecncaa.ints].flatten nx' H' r) : Vw H' r (rows (u ++ v)) := by
  refine h.vw (by simp) fun k x y hx hy => ?_
  simp only [List.flatten_cons, List.flatten_nil, List.append_nil, List.map_append] at hx hy
  rw [hx] at hy; cases hy; exact .refl _
theorem spec_l32Grown_ok (p : Int) (pw : List (List Int)) (br : List (List (List Int))) (ht : Tri p pw) (hp : pr4 p) (u v : List (List Int)) (hu : u.length ≤ 1000) (hv : v.length ≤ 1000) (hue : ∀ b ∈ u, El p pw.length b) (hve : ∀ b ∈ v, El p pw.length b) : ACp Try.prog 307 [ring p pw br, rows u, rows v] (rows (spanL p pw (u ++ v))) := by
 refine ACp.intro' envOk Try.func307 rfl (by kernel_rfl) Try.ntmps307 Try.results307 (rows_nr _) (fun nx => ?_)
 refine AW.sr envOk (fun N hN => ?_)
 simp -dsimp -implicitDefEqProofs (disch := omega) only [go_sem, undef, reduceAdd, reduceSub, reduceGT, reduceEqDiff, reduceMul, ringP, ring, rows, w64, one_map]
 refine hN _ ?_
 try clear hN N
 refine AW.freezeQ 3 nx _ rfl (upd_same _ _ _) ?_
 simp -dsimp -implicitDefEqProofs (disch := omega) only [go_sem, undef, reduceAdd, reduceSub, reduceGT, reduceEqDiff, reduceMul]
 refine AW.seq (fun N hN => ?_)
 refine AW.drawF envOk (by kernel_rfl) [true, false, true, false, true, false, false, false] (by kernel_rfl) ?_
 simp -dsimp -implicitDefEqProofs (disch := omega) only [go_sem, undef, reduceAdd, reduceSub, reduceGT, reduceEqDiff, reduceMul, ringP, ring, rows, w64, one_map]
 refine AC.fz (ts := [ring p pw br, rows (u ++ v)]) FzH.del ⟨.refl _, Fz.rws (upd_same _ _ _) (by simp [tk_map]) (by simp), trivial⟩ (AC.pure (.of (spec_l32Span_ok p pw br ht hp (u ++ v) (by simp; omega) (fun k hk => app_el hue hve _ (ix_mem hk)))) ?_)
 try simp -dsimp -implicitDefEqProofs (disch := omega) only [go_sem, undef, reduceAdd, reduceSub, reduceGT, reduceEqDiff, reduceMul, ringP, ring, rows, w64, one_map]
 refine hN _ ?_
 try clear hN N
 refine AW.ret ?_
 simp -dsimp -implicitDefEqProofs (disch := omega) only [go_sem, undef, reduceAdd, reduceSub, reduceGT, reduceEqDiff, reduceMul]
 rfl
end Go.Proofs.Ytdghgmgppecncaa
