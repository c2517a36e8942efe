/-
  Homomorphisms from the groups of Cayley tables, by the reference and by the program.
-/
import Derived.Test.YtdghgmgppecncaaGp
import Derived.Test.YtdghgmgppecncaaQb
set_option linter.unusedVariables false
set_option linter.unusedSimpArgs false
namespace Go.Proofs.Ytdghgmgppecncaa
open Nat (reduceAdd reduceSub reduceGT reduceEqDiff reduceMul)

def vset (m : Nat → V) (k : Nat) (y : V) : Nat → V := fun t => if t = k then y else m t
def vrs (n v : Nat) (m : Nat → V) : List AV := (List.range v).map fun k => vi n (m k)
theorem vrs_len {n v : Nat} {m : Nat → V} : (vrs n v m).length = v := by simp [vrs]
theorem vrs_get {n v : Nat} {m : Nat → V} {k : Nat} (h : k < v) : (vrs n v m).getD k .j = vi n (m k) := by simp [vrs, h]
theorem vrs_take {n v : Nat} {m : Nat → V} : List.take v (vrs n v m) = vrs n v m := List.take_of_length_le (by rw [vrs_len]; exact Nat.le_refl _)
theorem vrs_ext {n v : Nat} {m m' : Nat → V} (h : ∀ k, k < v → m k = m' k) : vrs n v m = vrs n v m' := by
  unfold vrs
  refine List.map_congr_left fun k hk => ?_
  rw [h k (List.mem_range.1 hk)]
theorem vrs_one {n : Nat} : vrs n 1 (fun _ => z0) = [vi n z0] := rfl
theorem vrs_push {n v : Nat} {m : Nat → V} {y : V} : vrs n v m ++ [vi n y] = vrs n (v + 1) (vset m v y) := by
  unfold vrs
  rw [List.range_succ, List.map_append]
  congr 1
  · refine List.map_congr_left fun k hk => ?_
    have := List.mem_range.1 hk
    rw [vset, if_neg (by omega)]
  · simp [vset]

attribute [go_sem] vrs_len vrs_get
theorem vset_T {P : Pc} {i k : Nat} {m : Nat → V} {y : V} (hm : ∀ j, T P i (m j)) (hy : T P i y) : ∀ j, T P i (vset m k y j) := by
  intro j
  unfold vset
  split
  · exact hy
  · exact hm j

/-- The values that are known. -/
noncomputable def winn (P : Pc) (xs tb : List (List Int)) (x : Nat) : Nat → Int → (Nat → V) → Nat → V
  | 0, _, m => m
  | g + 1, v, m => if (tb.getD g []).getD x 0 = ninn tb x g v then vset (winn P xs tb x g v m) (ninn tb x g v).toNat (M P 0 (winn P xs tb x g v m x) (imX xs g)) else winn P xs tb x g v m
noncomputable def wout (P : Pc) (xs tb : List (List Int)) : Nat → Nat → V
  | 0 => fun _ => z0
  | x + 1 => winn P xs tb x tb.length (nout tb x) (wout P xs tb x)
def mapAt (P : Pc) (xs tb : List (List Int)) (x g : Nat) : Prop :=
  winn P xs tb x (g + 1) (nout tb x) (wout P xs tb x) ((tb.getD g []).getD x 0).toNat = M P 0 (winn P xs tb x g (nout tb x) (wout P xs tb x) x) (imX xs g)
def mapP (P : Pc) (xs tb : List (List Int)) : Prop := tb.length = 0 ∨ ∀ x, x < (tb.getD 0 []).length → ∀ g, g < tb.length → mapAt P xs tb x g

section
variable {os : List Int} {pw : List (List Int)} {cj : List (List (List Int))} (h : presOk os pw cj) {xs : List (List Int)} (hx : exsP os xs) {tb : List (List Int)} (hl : tb.length ≤ xs.length)
include h hx hl
theorem winn_T {x : Nat} {v : Int} {m : Nat → V} (hm : ∀ k, T (pc os pw cj) 0 (m k)) : ∀ g, g ≤ tb.length → ∀ k, T (pc os pw cj) 0 (winn (pc os pw cj) xs tb x g v m k) := by
  intro g
  induction g with
  | zero => intro _; exact hm
  | succ g ih =>
    intro hg k
    have ih' := ih (by omega)
    rw [winn]
    split
    · unfold vset
      split
      · exact M_T h.val (ih' x) (imX_T hx (by omega))
      · exact ih' k
    · exact ih' k
theorem wout_T : ∀ x k, T (pc os pw cj) 0 (wout (pc os pw cj) xs tb x k) := by
  intro x
  induction x with
  | zero => intro k; exact T.zero h.val 0
  | succ x ih => exact winn_T h hx hl ih tb.length (Nat.le_refl _)
end

/-- A cell of a block is an owned block: this one becomes read-only. -/
theorem FzH.cell {H : HP} {i j n k : Nat} {cs ds : List AV} (h1 : H i = some cs) (hk : cs[k]? = some (.h j 0 n)) (h2 : H j = some ds) (hn : ds.length = n) (hij : i ≠ j) : FzH H (upd (upd H j none) i (some (cs.set k (.v n ds)))) := by
  intro q cs' hq
  by_cases e : q = i
  · subst e
    rw [upd_same] at hq; cases hq
    refine ⟨_, h1, by simp, fun z x y hx hy => ?_⟩
    rw [List.getElem?_set] at hy
    split at hy
    · rename_i hz
      subst hz
      rw [hk] at hx; cases hx
      split at hy
      · cases hy
        exact .h j 0 n ds ds h2 (by rw [upd_ne _ _ (Ne.symm hij), upd_same]) (by omega) hn (fun q x y h1 h2 => by rw [Nat.zero_add, h2] at h1; cases h1; exact .refl _)
      · cases hy
    · rw [hx] at hy; cases hy; exact .refl _
  · rw [upd_ne _ _ e] at hq
    by_cases e2 : q = j
    · subst e2; rw [upd_same] at hq; cases hq
    · rw [upd_ne _ _ e2] at hq
      exact ⟨cs', hq, rfl, fun q x y h1 h2 => by rw [h1] at h2; cases h2; exact .refl _⟩
theorem AW.fzcell {P : Program} {c : Code} {s : St} {K : Exit → St → Prop} (i j n k : Nat) (cs ds : List AV) (h1 : s.H i = some cs) (hk : cs[k]? = some (.h j 0 n)) (h2 : s.H j = some ds) (hn : ds.length = n) (hij : i ≠ j)
    (hs : AW P c ⟨s.t, upd (upd s.H j none) i (some (cs.set k (.v n ds))), s.nx⟩ K) : AW P c s K :=
  AW.fz (s' := ⟨s.t, upd (upd s.H j none) i (some (cs.set k (.v n ds))), s.nx⟩) ⟨fzs_refl, FzH.cell h1 hk h2 hn hij, Nat.le_refl _⟩ hs

/-- The values that are known, the others nil. -/
def cvs (N n v : Nat) (m : Nat → V) : List AV := (List.range N).map fun k => if k < v then vi n (m k) else .nl
theorem cvs_len {N n v : Nat} {m : Nat → V} : (cvs N n v m).length = N := by simp [cvs]
theorem cvs_get {N n v : Nat} {m : Nat → V} {t : Nat} (h : t < N) (h2 : t < v) : (cvs N n v m).getD t .j = vi n (m t) := by simp [cvs, h, h2]
theorem cvs_nl {N n v : Nat} {m : Nat → V} {t : Nat} (h : t < N) (h2 : v ≤ t) : (cvs N n v m).getD t .j = .nl := by simp [cvs, h]; omega
theorem cvs_ext {N n v : Nat} {m m' : Nat → V} (h : ∀ k, k < v → m k = m' k) : cvs N n v m = cvs N n v m' := by
  unfold cvs
  refine List.map_congr_left fun k hk => ?_
  split
  · rename_i h'; rw [h k h']
  · rfl
theorem cvs_new {N n v : Nat} {m : Nat → V} {y : V} (h : v < N) : splice (cvs N n v m) v [vi n y] = cvs N n (v + 1) (vset m v y) := by
  rw [splice_one _ _ _ (by rw [cvs_len]; exact h)]
  apply List.ext_getElem?
  intro i
  rw [List.getElem?_set]
  by_cases hi : v = i
  · subst hi; simp [cvs, vset, h]
  · simp only [hi, if_false, cvs, List.getElem?_map]
    by_cases hn : i < N
    · simp only [List.getElem?_range hn, Option.map_some, vset, Ne.symm hi, if_false]
      by_cases h3 : i < v
      · rw [if_pos h3, if_pos (by omega)]
      · rw [if_neg h3, if_neg (by omega)]
    · simp [hn]
theorem cvs_old {N n v t : Nat} {m : Nat → V} {y : V} (h : t < N) (h2 : t < v) : splice (cvs N n v m) t [vi n y] = cvs N n v (vset m t y) := by
  rw [splice_one _ _ _ (by rw [cvs_len]; exact h)]
  apply List.ext_getElem?
  intro i
  rw [List.getElem?_set]
  by_cases hi : t = i
  · subst hi; simp [cvs, vset, h, h2]
  · simp only [hi, if_false, cvs, List.getElem?_map]
    by_cases hn : i < N
    · simp only [List.getElem?_range hn, Option.map_some, vset, Ne.symm hi, if_false]
    · simp [hn]
theorem cvs_one {N n q n' : Nat} (h : 0 < N) : (splice (List.replicate N AV.nl) 0 [AV.h q 0 n']).set 0 (vi n z0) = cvs N n 1 (fun _ => z0) := by
  rw [splice_one _ _ _ (by simpa using h)]
  apply List.ext_getElem?
  intro i
  cases i with
  | zero => simp [cvs, h]
  | succ i => simp [cvs, List.getElem?_replicate]; by_cases hn : i + 1 < N <;> simp [hn]


/-- The images are fit for a homomorphism. -/
def cmP (tb : List (List Int)) (os : List Int) (pw : List (List Int)) (cj : List (List (List Int))) (xs : List (List Int)) : Prop := cayP tb ∧ (presOk os pw cj ∧ Con (pc os pw cj) 0) ∧ xs.length = tb.length ∧ exsP os xs
end Go.Proofs.Ytdghgmgppecncaa
