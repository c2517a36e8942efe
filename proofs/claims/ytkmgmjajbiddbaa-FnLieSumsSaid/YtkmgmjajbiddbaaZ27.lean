import Derived.Test.YtkmgmjajbiddbaaZ26
set_option linter.unusedVariables false
set_option linter.unusedSimpArgs false
namespace Go.Proofs.Ytkmgmjajbiddbaa
open Nat (reduceAdd reduceSub reduceGT reduceEqDiff reduceMul)
section
variable {p : Int} {pw : List (List Int)}
theorem zero_iff (t : Tri p pw) {u : List (List Int)} (h : Can p pw (Sp p pw u) u) {y : List Int} (hy : El p pw.length y) : zeros (redL p pw u y) ↔ Sp p pw u (fn y) := by
  have hre := redL_el t u hy
  have h1 := (redL_sp t (d := 0) (u := u) (x := y) (fun b hb => ⟨h.lt b hb, h.one b hb⟩) hy (fun j hj => by omega)).1
  have h2 : Sp p pw u (fun j => 1 * fn y j + -1 * fn (redL p pw u y) j) := h1.mono fun b hb => (mem_deeper.1 hb).1
  constructor
  · intro hz
    exact (Sp.sub _).cg h2 (.of fun j hj => by have := hz j (by rw [hre.len]; exact hj); simp only [fn]; rw [this]; omega)
  · intro hs
    have h3 : Sp p pw u (fn (redL p pw u y)) := (Sp.sub _).cg ((Sp.sub _).comb 1 (-1) hs h2) (.of fun j _ => by omega)
    refine dep_all.1 ?_
    rcases Nat.lt_or_ge (dep (redL p pw u y)) pw.length with hd | hd
    · obtain ⟨b, hb, hbd⟩ := h.all _ hre h3 hd
      have h4 := redL_zero t h.toEch hy b hb
      rw [hbd] at h4
      exact absurd h4 (dep_nz (by rw [hre.len]; exact hd))
    · have := dep_le (redL p pw u y)
      rw [hre.len] at this ⊢; omega
theorem can_sp (t : Tri p pw) {G w : List (List Int)} (h : Can p pw (Sp p pw G) w) : Sp p pw w = Sp p pw G := by
  funext f
  refine propext ⟨fun hf => hf.le fun b hb => h.mem b hb, fun hf => ?_⟩
  have hx := nf_el t f
  have hfx : Sp p pw G (fn (nf p pw f)) := (Sp.sub _).cg hf (nf_fn t f)
  have hre := redL_el t w hx
  have h1 := (redL_sp t (d := 0) (u := w) (x := nf p pw f) (fun b hb => ⟨h.lt b hb, h.one b hb⟩) hx (fun j hj => by omega)).1
  have h2 : Sp p pw w (fun j => 1 * fn (nf p pw f) j + -1 * fn (redL p pw w (nf p pw f)) j) := h1.mono fun b hb => (mem_deeper.1 hb).1
  have h3 : Sp p pw G (fn (redL p pw w (nf p pw f))) := (Sp.sub _).cg ((Sp.sub _).comb 1 (-1) hfx (h2.le fun b hb => h.mem b hb)) (.of fun j _ => by omega)
  have hz : zeros (redL p pw w (nf p pw f)) := by
    refine dep_all.1 ?_
    rcases Nat.lt_or_ge (dep (redL p pw w (nf p pw f))) pw.length with hd | hd
    · obtain ⟨b, hb, hbd⟩ := h.all _ hre h3 hd
      have h4 := redL_zero t h.toEch hx b hb
      rw [hbd] at h4
      exact absurd h4 (dep_nz (by rw [hre.len]; exact hd))
    · have := dep_le (redL p pw w (nf p pw f))
      rw [hre.len] at this ⊢; omega
  have h5 : Sp p pw w (fn (nf p pw f)) := (Sp.sub _).cg h2 (.of fun j hj => by have := hz j (by rw [hre.len]; exact hj); simp only [fn] at this ⊢; rw [this]; omega)
  exact (Sp.sub _).cg h5 (nf_fn t f).symm
theorem span_sp (t : Tri p pw) (hp : pr4 p) {G : List (List Int)} (h : ∀ b ∈ G, El p pw.length b) : Sp p pw (spanL p pw G) = Sp p pw G := can_sp t (span_can t hp h)
def within (p : Int) (pw : List (List Int)) (u L : List (List Int)) : Prop := ∀ k, k < L.length → zeros (redL p pw u (L.getD k []))
end
def brkLL (p : Int) (pw : List (List Int)) (br : List (List (List Int))) (u v : List (List Int)) : List (List Int) := u.flatMap fun a => v.map fun b => brkL p pw br a b
def wholeL (n : Nat) : List (List Int) := (List.range n).map (unitL n)
section
variable {p : Int} {pw : List (List Int)} {br : List (List (List Int))}
theorem brkLL_len {u v : List (List Int)} : (brkLL p pw br u v).length = u.length * v.length := by
  induction u with
  | nil => simp [brkLL]
  | cons a u ih =>
    have : brkLL p pw br (a :: u) v = v.map (brkL p pw br a) ++ brkLL p pw br u v := rfl
    rw [this, List.length_append, List.length_map, ih, List.length_cons, Nat.succ_mul]; omega
theorem brkLL_take {u v : List (List Int)} {i : Nat} (h : i < u.length) : brkLL p pw br (u.take (i + 1)) v = brkLL p pw br (u.take i) v ++ v.map (brkL p pw br (u.getD i [])) := by
  unfold brkLL
  rw [List.take_add_one, List.flatMap_append]
  congr 1
  simp [h]
def brkIJ (p : Int) (pw : List (List Int)) (br : List (List (List Int))) (u v : List (List Int)) (i j : Nat) : List (List Int) := brkLL p pw br (u.take i) v ++ (v.take j).map (brkL p pw br (u.getD i []))
theorem brkIJ_z {u v : List (List Int)} {i : Nat} : brkIJ p pw br u v i 0 = brkLL p pw br (u.take i) v := by simp [brkIJ]
theorem brkIJ_s {u v : List (List Int)} {i j : Nat} (h : j < v.length) : brkIJ p pw br u v i (j + 1) = brkIJ p pw br u v i j ++ [brkL p pw br (u.getD i []) (v.getD j [])] := by
  unfold brkIJ
  rw [List.take_add_one, List.map_append, List.append_assoc]
  simp [h]
theorem brkIJ_n {u v : List (List Int)} {i : Nat} (h : i < u.length) : brkIJ p pw br u v i v.length = brkLL p pw br (u.take (i + 1)) v := by
  rw [brkLL_take h, brkIJ, List.take_length]
theorem brkIJ_len {u v : List (List Int)} {i j : Nat} (hu : u.length ≤ 1000) (hv : v.length ≤ 1000) : (brkIJ p pw br u v i j).length ≤ 2000000 := by
  unfold brkIJ
  rw [List.length_append, brkLL_len, List.length_map, List.length_take, List.length_take]
  have h1 : min i u.length * v.length ≤ 1000 * 1000 := Nat.mul_le_mul (by omega) hv
  omega
theorem whole_len {n : Nat} : (wholeL n).length = n := by simp [wholeL]
theorem whole_take {n k : Nat} (h : k < n) : (wholeL n).take (k + 1) = (wholeL n).take k ++ [unitL n k] := by
  rw [List.take_add_one]
  have : (wholeL n)[k]? = some (unitL n k) := by simp [wholeL, h]
  rw [this]; rfl
theorem wunit_el (hp : 2 ≤ p) {n k : Nat} : El p n (unitL n k) := ⟨vec_len, fun j hj => by
  rw [unitL, vec_get hj]; split <;> omega⟩
end
def BrI (p : Int) (pw : List (List Int)) (br : List (List (List Int))) (u v : List (List Int)) (i j nx m : Nat) (o : Option Nat) (L : List (List Int)) : Prop := nx ≤ m ∧ L = brkIJ p pw br u v i j ∧ (o = none → L = []) ∧ (∀ id, o = some id → nx ≤ id ∧ id < m)
theorem BrI.start {p : Int} {pw : List (List Int)} {br : List (List (List Int))} {u v : List (List Int)} {nx m : Nat} (h : nx ≤ m) : BrI p pw br u v 0 0 nx m none [] := ⟨h, by simp [brkIJ, brkLL], fun _ => rfl, by simp⟩
theorem BrI.next {p : Int} {pw : List (List Int)} {br : List (List (List Int))} {u v : List (List Int)} {i j nx m m' id' : Nat} {o : Option Nat} {L : List (List Int)} (h : BrI p pw br u v i j nx m o L) (hj : j < v.length) (h1 : nx ≤ id') (h2 : id' < m') : BrI p pw br u v i (j + 1) nx m' (some id') (L ++ [brkL p pw br (u.getD i []) (v.getD j [])]) :=
  ⟨by omega, by rw [brkIJ_s hj, h.2.1], by simp, fun id hid => by cases hid; exact ⟨h1, h2⟩⟩
theorem BrI.row {p : Int} {pw : List (List Int)} {br : List (List (List Int))} {u v : List (List Int)} {i j nx m m' : Nat} {o : Option Nat} {L : List (List Int)} (h : BrI p pw br u v i j nx m o L) (hi : i < u.length) (hj : j = v.length) (hm : m ≤ m') : BrI p pw br u v (i + 1) 0 nx m' o L :=
  ⟨by have := h.1; omega, by rw [brkIJ_z, ← brkIJ_n hi, h.2.1, hj], h.2.2.1, fun id hid => by have := h.2.2.2 id hid; omega⟩
theorem BrI.mm {p : Int} {pw : List (List Int)} {br : List (List (List Int))} {u v : List (List Int)} {i j nx m m' : Nat} {o : Option Nat} {L : List (List Int)} (h : BrI p pw br u v i j nx m o L) (hm : m ≤ m') : BrI p pw br u v i j nx m' o L := ⟨by have := h.1; omega, h.2.1, h.2.2.1, fun id hid => by have := h.2.2.2 id hid; omega⟩
theorem BrI.fin {p : Int} {pw : List (List Int)} {br : List (List (List Int))} {u v : List (List Int)} {i nx m : Nat} {o : Option Nat} {L : List (List Int)} (h : BrI p pw br u v i 0 nx m o L) (hi : i = u.length) : L = brkLL p pw br u v := by rw [h.2.1, brkIJ_z, hi, List.take_length]
theorem BrI.len {p : Int} {pw : List (List Int)} {br : List (List (List Int))} {u v : List (List Int)} {i j nx m : Nat} {o : Option Nat} {L : List (List Int)} (h : BrI p pw br u v i j nx m o L) (hu : u.length ≤ 1000) (hv : v.length ≤ 1000) : L.length ≤ 2000000 := by rw [h.2.1]; exact brkIJ_len hu hv
def WhI (n i nx m : Nat) (o : Option Nat) (L : List (List Int)) : Prop := nx ≤ m ∧ L = (wholeL n).take i ∧ (o = none → L = []) ∧ (∀ id, o = some id → nx ≤ id ∧ id < m)
theorem WhI.start {n nx m : Nat} (h : nx ≤ m) : WhI n 0 nx m none [] := ⟨h, by simp, fun _ => rfl, by simp⟩
theorem WhI.next {n i nx m m' id' : Nat} {o : Option Nat} {L : List (List Int)} (h : WhI n i nx m o L) (hi : i < n) (h1 : nx ≤ id') (h2 : id' < m') : WhI n (i + 1) nx m' (some id') (L ++ [unitL n i]) :=
  ⟨by omega, by rw [whole_take hi, h.2.1], by simp, fun id hid => by cases hid; exact ⟨h1, h2⟩⟩
theorem WhI.fin {n i nx m : Nat} {o : Option Nat} {L : List (List Int)} (h : WhI n i nx m o L) (hi : i = n) : L = wholeL n := by rw [h.2.1, hi, List.take_of_length_le (by rw [whole_len]; omega)]
theorem WhI.len {n i nx m : Nat} {o : Option Nat} {L : List (List Int)} (h : WhI n i nx m o L) : L.length ≤ n := by rw [h.2.1, List.length_take, whole_len]; omega
end Go.Proofs.Ytkmgmjajbiddbaa
namespace Go.Proofs.Ytkmgmjajbiddbaa
theorem nodup_le : ∀ {l1 l2 : List Nat}, l1.Nodup → (∀ x ∈ l1, x ∈ l2) → l1.length ≤ l2.length := by
  intro l1
  induction l1 with
  | nil => intro l2 _ _; simp
  | cons x l1 ih =>
    intro l2 h hs
    obtain ⟨h1, h2⟩ := List.nodup_cons.1 h
    have hx := hs x (by simp)
    have h3 := ih (l2 := l2.erase x) h2 (fun y hy => (List.mem_erase_of_ne (fun e => h1 (by rw [← e]; exact hy))).2 (hs y (by simp [hy])))
    rw [List.length_erase_of_mem hx] at h3
    have := List.length_pos_of_mem hx
    simp only [List.length_cons]; omega
theorem nodup_all {l1 l2 : List Nat} (h : l1.Nodup) (hs : ∀ x ∈ l1, x ∈ l2) (hl : l2.length ≤ l1.length) : ∀ x ∈ l2, x ∈ l1 := by
  intro x hx
  apply Classical.byContradiction
  intro hn
  have h3 := nodup_le (l2 := l2.erase x) h (fun y hy => (List.mem_erase_of_ne (fun e => hn (by rw [← e]; exact hy))).2 (hs y hy))
  rw [List.length_erase_of_mem hx] at h3
  have := List.length_pos_of_mem hx
  omega
section
variable {p : Int} {pw : List (List Int)}
theorem Ech.nodup {n : Nat} {u : List (List Int)} (h : Ech p n u) : (u.map dep).Nodup := by
  refine List.pairwise_iff_getElem.2 fun i j hi hj hij => ?_
  have := h.asc i j hij (by simpa using hj)
  rw [List.length_map] at hi hj
  simp only [List.getD_eq_getElem?_getD, List.getElem?_eq_getElem hi, List.getElem?_eq_getElem hj, Option.getD_some] at this
  simp only [List.getElem_map]
  omega
theorem can_deps {S S' : (Nat → Int) → Prop} {u v : List (List Int)} (hu : Can p pw S u) (hv : Can p pw S' v) (h : ∀ f, S f → S' f) : ∀ x ∈ u.map dep, x ∈ v.map dep := by
  intro x hx
  obtain ⟨b, hb, rfl⟩ := List.mem_map.1 hx
  obtain ⟨c, hc, he⟩ := hv.all b (hu.el b hb) (h _ (hu.mem b hb)) (hu.lt b hb)
  exact List.mem_map.2 ⟨c, hc, he⟩
theorem can_le {S S' : (Nat → Int) → Prop} {u v : List (List Int)} (hu : Can p pw S u) (hv : Can p pw S' v) (h : ∀ f, S f → S' f) : u.length ≤ v.length := by
  have := nodup_le hu.nodup (can_deps hu hv h)
  simpa using this
end
section
variable {p : Int} {pw : List (List Int)}
def CanU (p : Int) (pw : List (List Int)) (u : List (List Int)) : Prop := Can p pw (Sp p pw u) u
theorem spanU (t : Tri p pw) (hp : pr4 p) {G : List (List Int)} (h : ∀ b ∈ G, El p pw.length b) : CanU p pw (spanL p pw G) := by
  unfold CanU
  rw [span_sp t hp h]; exact span_can t hp h
end
end Go.Proofs.Ytkmgmjajbiddbaa
