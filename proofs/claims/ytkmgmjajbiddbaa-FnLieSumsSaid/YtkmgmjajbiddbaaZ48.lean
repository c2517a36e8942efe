import Derived.Test.YtkmgmjajbiddbaaZ20
import Derived.Test.YtkmgmjajbiddbaaZ36
import Derived.Test.YtkmgmjajbiddbaaZ47
set_option linter.unusedVariables false
set_option linter.unusedSimpArgs false
namespace Go.Proofs.Ytkmgmjajbiddbaa
open Nat (reduceAdd reduceSub reduceGT reduceEqDiff reduceMul)
theorem RgV.rl {lo m n P o : Nat} {q : Nat → Nat} {X : List (List Int)} {Y : List (List (List Int))} {H : HP} (h : RgV lo m n P q X Y H) (hn : n ≤ 6) : ringlen X (Y.drop o) := by
  obtain ⟨h1, h2, h4, h5, h6, h7, h8⟩ := h
  have hY : ∀ i, (∀ x ∈ (Y.drop o).getD i [], x.length ≤ 6) ∧ ((Y.drop o).getD i []).length ≤ 6 := by
    intro i
    by_cases hi : o + i < n
    · have : (Y.drop o).getD i [] = Y.getD (o + i) [] := by simp [List.getD_eq_getElem?_getD, List.getElem?_drop]
      rw [this]
      exact ⟨getDY_le h8.2 _, by rw [(h5 _ hi).2.1]; omega⟩
    · have : (Y.drop o).getD i [] = [] := by rw [List.getD_eq_getElem?_getD, List.getElem?_eq_none (by rw [List.length_drop]; omega)]; rfl
      rw [this]
      exact ⟨fun x hx => (by cases hx), Nat.zero_le _⟩
  refine ⟨by omega, fun i => ?_, by rw [List.length_drop]; omega, fun i => by have := (hY i).2; omega, fun i j => ?_⟩
  · by_cases hi : i < X.length
    · have := h8.1 (X.getD i []) (by rw [List.getD_eq_getElem?_getD, List.getElem?_eq_getElem hi]; exact List.getElem_mem hi)
      omega
    · rw [List.getD_eq_getElem?_getD, List.getElem?_eq_none (by omega)]; exact Nat.zero_le _
  · obtain ⟨Z, hZ⟩ : ∃ Z, (Y.drop o).getD i [] = Z := ⟨_, rfl⟩
    have hz := hY i
    rw [hZ] at hz ⊢
    by_cases hj : j < Z.length
    · have := hz.1 (Z.getD j []) (by rw [List.getD_eq_getElem?_getD, List.getElem?_eq_getElem hj]; exact List.getElem_mem hj)
      omega
    · rw [List.getD_eq_getElem?_getD, List.getElem?_eq_none (by omega)]; exact Nat.zero_le _
end Go.Proofs.Ytkmgmjajbiddbaa
namespace Go.Proofs.Ytkmgmjajbiddbaa
open Nat (reduceAdd reduceSub reduceGT reduceEqDiff reduceMul)
theorem FzH.refl {H : HP} : FzH H H := fun id cs' h => ⟨cs', h, rfl, fun k x y h1 h2 => by rw [h1] at h2; cases h2; exact .refl _⟩
theorem nil_fz {H H' : HP} : Fz H H' (.g [.i .i64 3, .nl, .nl]) (ring 3 [] []) := .g _ _ rfl fun k x y hx hy => by
  match k, hx, hy with
  | 0, hx, hy => cases hx; cases hy; exact .refl _
  | 1, hx, hy => cases hx; cases hy; exact .nl
  | 2, hx, hy => cases hx; cases hy; exact .nl
theorem laws_big_ok (bs : List Int) (hb : bs.length ≤ 9223372036854775807) : ACp Try.prog 14 [byts bs] (.b (decide ((bs.length : Int) > 4096))) := by
 refine ACp.intro' envOk Try.func14 rfl (by kernel_rfl) Try.ntmps14 Try.results14 (.b _) (fun nx => ?_)
 refine AW.sr envOk (fun N hN => ?_)
 simp -dsimp -implicitDefEqProofs (disch := omega) only [go_sem, undef, reduceAdd, reduceSub, reduceGT, reduceEqDiff, reduceMul, byts, w64]
 refine hN _ ?_
 try clear hN N
 refine AW.sr envOk (fun N hN => ?_)
 simp -dsimp -implicitDefEqProofs (disch := omega) only [go_sem, undef, reduceAdd, reduceSub, reduceGT, reduceEqDiff, reduceMul, byts, w64]
 refine hN _ ?_
 try clear hN N
 refine AW.ret ?_
 simp -dsimp -implicitDefEqProofs (disch := omega) only [go_sem, undef, reduceAdd, reduceSub, reduceGT, reduceEqDiff, reduceMul]
 try rfl
end Go.Proofs.Ytkmgmjajbiddbaa
