import Derived.Test.YtnlfbimjcabgiaaZ32
import Derived.Test.YtnlfbimjcabgiaaZ36
set_option linter.unusedVariables false
set_option linter.unusedSimpArgs false
namespace Go.Proofs.Ytnlfbimjcabgiaa
open Nat (reduceAdd reduceSub reduceGT reduceEqDiff reduceMul)
theorem cloF_G {P : Pc} (hv : Val P) (hc : Con P 0) (hp : ∀ d, d < P.n → pr4 (P.o d)) : ∀ (f : Nat) (t : Nat → Option V) (w : List V), tbG P t → (∀ x ∈ w, T P 0 x) → tbG P (cloF P f t w) := by
  intro f
  induction f with
  | zero => intro t w ht _; exact ht
  | succ f ih =>
    intro t w ht hw
    rw [cloF]
    split
    · exact ht
    · rename_i hne
      have hx : T P 0 (w.getD (w.length - 1) z0) := hw _ (by rw [List.getD_eq_getElem?_getD, List.getElem?_eq_getElem (by omega)]; exact List.getElem_mem _)
      obtain ⟨g1, g2⟩ := clR_G hv hc hp ht (w := w.take (w.length - 1)) (fun x h => hw x (List.mem_of_mem_take h)) hx
      exact ih _ _ g1 g2
theorem redF_G {P : Pc} (hv : Val P) (hc : Con P 0) (hp : ∀ d, d < P.n → pr4 (P.o d)) {dn : Nat → Option V} (hd : tbG P dn) {d : Nat} (hdn : d < P.n) : ∀ (f e : Nat) (x : V), d < e → T P d x → x d = 1 → T P d (redF P dn f e x) ∧ redF P dn f e x d = 1 := by
  intro f
  induction f with
  | zero => intro e x _ h1 h2; exact ⟨h1, h2⟩
  | succ f ih =>
    intro e x he hx h1
    rw [redF]
    cases hz : dn e with
    | none => exact ih _ _ (by omega) hx h1
    | some z =>
      dsimp only
      split
      · exact ih _ _ (by omega) hx h1
      · obtain ⟨z1, z2, z3⟩ := hd e z hz
        obtain ⟨p1, p2⟩ := pw_lead hv hc z1 z2 (0 - x e)
        have p3 := p1.mono hv (Nat.le_of_lt he)
        have p4 : pwV P z (0 - x e) d = 0 := p1.z d he
        refine ih _ _ (by omega) (M_Td hv hx p3) ?_
        have := pr4_bd (hp d hdn)
        rw [M_lead hv hdn hx p3, p4, h1, Int.add_zero, Int.emod_eq_of_lt (by omega) (by omega)]
theorem dnS_G {P : Pc} (hv : Val P) (hc : Con P 0) (hp : ∀ d, d < P.n → pr4 (P.o d)) {t : Nat → Option V} (ht : tbG P t) : ∀ j, j ≤ P.n → tbG P (dnS P P.n t j) := by
  intro j
  induction j with
  | zero => intro _ d y h; cases h
  | succ j ih =>
    intro hj
    rw [dnS]
    split
    · exact ih (by omega)
    · rename_i y hy
      intro d z hz
      unfold oset at hz
      split at hz
      · rename_i e
        subst e; cases hz
        obtain ⟨y1, y2, y3⟩ := ht _ y hy
        exact ⟨y1, redF_G hv hc hp (ih (by omega)) y1 j (P.n - j) y (by omega) y2 y3⟩
      · exact ih (by omega) d z hz
theorem ldV_lt {P : Pc} {d : Nat} {y : V} (hd : d < P.n) (h1 : y d = 1) : ldV P.n y < P.n := by
  apply Classical.byContradiction
  intro hn
  have h := (ldG_sp (x := y) P.n 0).2.2.1 d (Nat.zero_le _) (by unfold ldV at hn; omega)
  omega
theorem outS_mem {dn : Nat → Option V} {k : Nat} {y : V} (h : y ∈ outS dn k) : ∃ d, dn d = some y := by
  obtain ⟨d, _, hd⟩ := List.mem_filterMap.1 h
  exact ⟨d, hd⟩
section
variable (os : List Int) (pw : List (List Int)) (cj : List (List (List Int)))
noncomputable def cloU (P : Pc) (us : List V) : List V := outS (dnS P P.n (cloF P (clM P (fun _ => none) us) (fun _ => none) us) P.n) P.n
theorem cloU_ld (h : presOk os pw cj) (hc : Con (pc os pw cj) 0) {us : List V} (hu : ∀ x ∈ us, T (pc os pw cj) 0 x) : ∀ k, k < (cloU (pc os pw cj) us).length → ldV os.length ((cloU (pc os pw cj) us).getD k z0) < os.length := by
  intro k hk
  have hm : (cloU (pc os pw cj) us).getD k z0 ∈ cloU (pc os pw cj) us := by rw [List.getD_eq_getElem?_getD, List.getElem?_eq_getElem hk]; exact List.getElem_mem _
  obtain ⟨d, hd⟩ := outS_mem hm
  have hG := cloF_G h.val hc (fun d hd => h.2.1 d hd) (clM (pc os pw cj) (fun _ => none) us) (fun _ => none) us (fun d y hy => by cases hy) hu
  obtain ⟨g1, g2, g3⟩ := dnS_G h.val hc (fun d hd => h.2.1 d hd) hG (pc os pw cj).n (Nat.le_refl _) d _ hd
  exact ldV_lt (P := pc os pw cj) g1 g3
theorem rows_vls {xs : List (List Int)} (hx : exsP os xs) : rows xs = vls os.length (xs.map fl) := by
  unfold rows vls
  rw [List.map_map, List.length_map]
  congr 1
  refine List.map_congr_left fun x hm => ?_
  obtain ⟨k, hk, rfl⟩ := List.getElem_of_mem hm
  have := (hx k hk).1
  rw [List.getD_eq_getElem?_getD, List.getElem?_eq_getElem hk] at this
  exact ints_vi this
theorem exs_T {xs : List (List Int)} (hx : exsP os xs) : ∀ v ∈ xs.map fl, T (pc os pw cj) 0 v := by
  intro v hv
  obtain ⟨x, hm, rfl⟩ := List.mem_map.1 hv
  obtain ⟨k, hk, rfl⟩ := List.getElem_of_mem hm
  have := imX_T (pw := pw) (cj := cj) hx hk
  unfold imX at this
  rwa [List.getD_eq_getElem?_getD, List.getElem?_eq_getElem hk] at this
end
end Go.Proofs.Ytnlfbimjcabgiaa
namespace Go.Proofs.Ytnlfbimjcabgiaa
open Nat (reduceAdd reduceSub reduceGT reduceEqDiff reduceMul)
end Go.Proofs.Ytnlfbimjcabgiaa
namespace Go.Proofs.Ytnlfbimjcabgiaa
open Nat (reduceAdd reduceSub reduceGT reduceEqDiff reduceMul)
end Go.Proofs.Ytnlfbimjcabgiaa
