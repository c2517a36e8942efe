import Derived.Test.YtdghgmgppecncaaZ18
import Derived.Test.YtdghgmgppecncaaZ26
import Derived.Test.YtdghgmgppecncaaZ29
set_option linter.unusedVariables false
set_option linter.unusedSimpArgs false
namespace Go.Proofs.Ytdghgmgppecncaa
section
variable {P : Program} {Γ : TEnv}
inductive Tr
  | nil
  | br (j : Nat) (sub next : Tr)
def opAt : List Oper → Nat → (Oper → Prop) → Prop
  | [], _, _ => False
  | o :: _, 0, k => k o
  | _ :: l, n + 1, k => opAt l n k
def trun (Γ : TEnv) (P : Program) (base : Nat) (ops : List Oper) : Tr → St → (St → Prop) → Prop
  | .nil, s, K => K s
  | .br j sub .nil, s, K => opAt ops j fun o => aop Γ P o.dst o.op (base + j) s fun s' => trun Γ P base ops sub s' K
  | .br j sub (.br k a b), s, K => (opAt ops j fun o => aop Γ P o.dst o.op (base + j) s fun s' => trun Γ P base ops sub s' K) ∧ trun Γ P base ops (.br k a b) s K
end
section
variable {P : Program} {Γ : TEnv} {nx0 : Nat} {L0 : LM} {H0 : HP} {w0 : World} {Av : Nat → Prop}
end
section
variable {P : Program} {Γ : TEnv}
@[congr] theorem trun_cg {base : Nat} {ops : List Oper} {t : Tr} {s s' : St} {K : St → Prop} (h : s = s') : trun Γ P base ops t s K = trun Γ P base ops t s' K := by rw [h]
@[congr] theorem opAt_cg {ops : List Oper} {i : Nat} {k : Oper → Prop} : opAt ops i k = opAt ops i k := rfl
theorem tr_n {base : Nat} {ops : List Oper} {s : St} {K : St → Prop} : trun Γ P base ops .nil s K = K s := by rw [trun]
theorem tr_1 {base j : Nat} {ops : List Oper} {sub : Tr} {s : St} {K : St → Prop} : trun Γ P base ops (.br j sub .nil) s K = opAt ops j fun o => aop Γ P o.dst o.op (base + j) s fun s' => trun Γ P base ops sub s' K := by rw [trun]
theorem tr_2 {base j k : Nat} {ops : List Oper} {sub a b : Tr} {s : St} {K : St → Prop} : trun Γ P base ops (.br j sub (.br k a b)) s K = ((opAt ops j fun o => aop Γ P o.dst o.op (base + j) s fun s' => trun Γ P base ops sub s' K) ∧ trun Γ P base ops (.br k a b) s K) := by rw [trun]
theorem at_s {o : Oper} {l : List Oper} {n : Nat} {k : Oper → Prop} : opAt (o :: l) (n + 1) k = opAt l n k := by rw [opAt]
theorem at_0 {dst : Option Nat} {op : Op} {ty : TypeId} {pos : String} {after : Array Edge} {g : Option (Nat × Bool)} {l : List Oper} {id : Nat} {s : St} {K : St → Prop} : opAt (⟨dst, op, ty, pos, after, g⟩ :: l) 0 (fun o => aop Γ P o.dst o.op id s K) = aop Γ P dst op id s K := by rw [opAt]
end
attribute [go_sem ↓] tr_n tr_1 tr_2 at_s at_0
end Go.Proofs.Ytdghgmgppecncaa
namespace Go.Proofs.Ytdghgmgppecncaa
open Nat (reduceAdd reduceSub reduceGT reduceEqDiff reduceMul)
theorem RgV.rl {lo m n P o : Nat} {q : Nat → Nat} {X : List (List Int)} {Y : List (List (List Int))} {H : HP} (h : RgV lo m n P q X Y H) (hn : n ≤ 6) : ringlen X (Y.drop o) := by
  obtain ⟨h1, h2, h4, h5, h6, h7, h8⟩ := h
  have hY : ∀ i, (∀ x ∈ (Y.drop o).getD i [], x.length ≤ 6) ∧ ((Y.drop o).getD i []).length ≤ 6 := by
    intro i
    by_cases hi : o + i < n
    · have : (Y.drop o).getD i [] = Y.getD (o + i) [] := by simp [List.getD_eq_getElem?_getD, List.getElem?_drop]
      rw [this]
      exact ⟨getDY_le h8.2 _, by rw [(h5 _ hi).2.1]; omega⟩
    · have : (Y.drop o).getD i [] = [] := by rw [List.getD_eq_getElem?_getD, List.getElem?_eq_none (by rw [List.length_drop]; omega)]; rfl
      rw [this]
      exact ⟨fun x hx => (by cases hx), Nat.zero_le _⟩
  refine ⟨by omega, fun i => ?_, by rw [List.length_drop]; omega, fun i => by have := (hY i).2; omega, fun i j => ?_⟩
  · by_cases hi : i < X.length
    · have := h8.1 (X.getD i []) (by rw [List.getD_eq_getElem?_getD, List.getElem?_eq_getElem hi]; exact List.getElem_mem hi)
      omega
    · rw [List.getD_eq_getElem?_getD, List.getElem?_eq_none (by omega)]; exact Nat.zero_le _
  · obtain ⟨Z, hZ⟩ : ∃ Z, (Y.drop o).getD i [] = Z := ⟨_, rfl⟩
    have hz := hY i
    rw [hZ] at hz ⊢
    by_cases hj : j < Z.length
    · have := hz.1 (Z.getD j []) (by rw [List.getD_eq_getElem?_getD, List.getElem?_eq_getElem hj]; exact List.getElem_mem hj)
      omega
    · rw [List.getD_eq_getElem?_getD, List.getElem?_eq_none (by omega)]; exact Nat.zero_le _
end Go.Proofs.Ytdghgmgppecncaa
namespace Go.Proofs.Ytdghgmgppecncaa
open Nat (reduceAdd reduceSub reduceGT reduceEqDiff reduceMul)
theorem FzH.refl {H : HP} : FzH H H := fun id cs' h => ⟨cs', h, rfl, fun k x y h1 h2 => by rw [h1] at h2; cases h2; exact .refl _⟩
theorem nil_fz {H H' : HP} : Fz H H' (.g [.i .i64 3, .nl, .nl]) (ring 3 [] []) := .g _ _ rfl fun k x y hx hy => by
  match k, hx, hy with
  | 0, hx, hy => cases hx; cases hy; exact .refl _
  | 1, hx, hy => cases hx; cases hy; exact .nl
  | 2, hx, hy => cases hx; cases hy; exact .nl
theorem laws_big_ok (bs : List Int) (hb : bs.length ≤ 9223372036854775807) : ACp Try.prog 35 [byts bs] (.b (decide ((bs.length : Int) > 4096))) := by
 refine ACp.intro' envOk Try.func35 rfl (by kernel_rfl) Try.ntmps35 Try.results35 (.b _) (fun nx => ?_)
 refine AW.sr envOk (fun N hN => ?_)
 simp -dsimp -implicitDefEqProofs (disch := omega) only [go_sem, undef, reduceAdd, reduceSub, reduceGT, reduceEqDiff, reduceMul, byts, w64]
 refine hN _ ?_
 try clear hN N
 refine AW.sr envOk (fun N hN => ?_)
 simp -dsimp -implicitDefEqProofs (disch := omega) only [go_sem, undef, reduceAdd, reduceSub, reduceGT, reduceEqDiff, reduceMul, byts, w64]
 refine hN _ ?_
 try clear hN N
 refine AW.ret ?_
 simp -dsimp -implicitDefEqProofs (disch := omega) only [go_sem, undef, reduceAdd, reduceSub, reduceGT, reduceEqDiff, reduceMul]
 try rfl
end Go.Proofs.Ytdghgmgppecncaa
