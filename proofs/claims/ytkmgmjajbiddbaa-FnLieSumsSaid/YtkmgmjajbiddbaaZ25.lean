import Derived.Test.YtkmgmjajbiddbaaZ24
set_option linter.unusedVariables false
set_option linter.unusedSimpArgs false
namespace Go.Proofs.Ytkmgmjajbiddbaa
open Nat (reduceAdd reduceSub reduceGT reduceEqDiff reduceMul)
structure Rws (p : Int) (n : Nat) (u : List (List Int)) : Prop where
  len : u.length ≤ 1048576
  el : ∀ k, k < u.length → El p n (u.getD k [])
  lt : ∀ k, k < u.length → dep (u.getD k []) < n
theorem Ech.rws {p : Int} {n : Nat} {u : List (List Int)} (h : Ech p n u) (hn : n ≤ 6) : Rws p n u :=
  ⟨by have := h.len; omega, fun k hk => h.el _ (ix_mem hk), fun k hk => h.lt _ (ix_mem hk)⟩
theorem ins_len {x : List Int} : ∀ {u : List (List Int)}, (insL x u).length = u.length + 1 := by
  intro u
  induction u with
  | nil => rfl
  | cons v u ih => simp only [insL]; split <;> simp [ih]
end Go.Proofs.Ytkmgmjajbiddbaa
namespace Go.Proofs.Ytkmgmjajbiddbaa
open Nat (reduceAdd reduceSub reduceGT reduceEqDiff reduceMul)
def allEl (p : Int) (n : Nat) (xs : List (List Int)) : Prop := ∀ k, k < xs.length → isEl p n (xs.getD k [])
theorem allEl.el {p : Int} {n : Nat} {xs : List (List Int)} (h : allEl p n xs) : ∀ k, k < xs.length → El p n (xs.getD k []) := fun k hk => (h k hk).el
def SpnP (p : Int) (pw : List (List Int)) (br : List (List (List Int))) (u : List (List Int)) : Prop := LieR p pw br ∧ u.length ≤ pw.length ∧ allEl p pw.length u ∧ u = spanL p pw u
section
variable {p : Int} {pw : List (List Int)}
theorem clo_add (t : Tri p pw) (hp : pr4 p) : ∀ (d : Nat) (u : List (List Int)) (x : List Int), d + u.length = pw.length → Ech p pw.length u → El p pw.length x → (∀ b ∈ u, x.getD (dep b) 0 = 0) → PClo p pw u x → ∃ u', Ech p pw.length u' ∧ Clo p pw u' ∧ Sp p pw u' = Sp p pw (x :: u) := by
  intro d
  induction d with
  | zero =>
    intro u x hd hu hx hz hc
    by_cases hdx : dep x < pw.length
    · have hlead := hx.rng (dep x) hdx
      have hlnz := dep_nz (a := x) (by rw [hx.len]; exact hdx)
      have hii := invP_ok hp (a := x.getD (dep x) 0) (by omega) (by omega)
      obtain ⟨e1, _⟩ := close_step t hp hu hx hdx hz hc hii rfl rfl
      have := e1.len
      rw [ins_len] at this; omega
    · have hl := dep_le x
      have hz0 : ∀ j, j < pw.length → x.getD j 0 = 0 := fun j hj => dep_zero (by omega)
      exact ⟨u, hu, hc.clo hz0, (sp_zero hz0).symm⟩
  | succ d ih =>
    intro u x hd hu hx hz hc
    by_cases hdx : dep x < pw.length
    · have hlead := hx.rng (dep x) hdx
      have hlnz := dep_nz (a := x) (by rw [hx.len]; exact hdx)
      have hii := invP_ok hp (a := x.getD (dep x) 0) (by omega) (by omega)
      obtain ⟨e1, e2, e3, e4, e5⟩ := close_step t hp hu hx hdx hz hc hii rfl rfl
      obtain ⟨u', q1, q2, q3⟩ := ih _ _ (by rw [ins_len]; omega) e1 e2 e3 e4
      exact ⟨u', q1, q2, q3.trans e5⟩
    · have hl := dep_le x
      have hz0 : ∀ j, j < pw.length → x.getD j 0 = 0 := fun j hj => dep_zero (by omega)
      exact ⟨u, hu, hc.clo hz0, (sp_zero hz0).symm⟩
theorem sp_cong {x : List Int} {u G : List (List Int)} (h : Sp p pw u = Sp p pw G) : Sp p pw (x :: u) = Sp p pw (x :: G) := by
  refine Sp.eqv (fun b hb => ?_) (fun b hb => ?_)
  · rcases List.mem_cons.1 hb with rfl | hb
    · exact .gen (by simp)
    · have : Sp p pw u (fn b) := .gen hb
      rw [h] at this
      exact this.mono fun c hc => by simp [hc]
  · rcases List.mem_cons.1 hb with rfl | hb
    · exact .gen (by simp)
    · have : Sp p pw G (fn b) := .gen hb
      rw [← h] at this
      exact this.mono fun c hc => by simp [hc]
theorem fam_ex (t : Tri p pw) (hp : pr4 p) : ∀ (G : List (List Int)), (∀ b ∈ G, El p pw.length b) → ∃ u, Ech p pw.length u ∧ Clo p pw u ∧ Sp p pw u = Sp p pw G := by
  intro G
  induction G with
  | nil => intro _; exact ⟨[], Ech.nil, fun b hb => absurd hb (by simp), rfl⟩
  | cons g G ih =>
    intro h
    obtain ⟨u, h1, h2, h3⟩ := ih (fun b hb => h b (by simp [hb]))
    obtain ⟨q1, q2, q3⟩ := red_start t h1 (h g (by simp))
    obtain ⟨u', e1, e2, e3⟩ := clo_add t hp (pw.length - u.length) u _ (by have := h1.len; omega) h1 q1 q2 (h2.pclo _)
    exact ⟨u', e1, e2, e3.trans (q3.trans (sp_cong h3))⟩
theorem span_can (t : Tri p pw) (hp : pr4 p) {G : List (List Int)} (h : ∀ b ∈ G, El p pw.length b) : Can p pw (Sp p pw G) (spanL p pw G) := by
  obtain ⟨u, h1, h2, h3⟩ := fam_ex t hp G h
  have := wL_can t h1 h2
  rw [h3] at this
  rw [spanL_eq t this]; exact this
theorem allEl.mem {xs : List (List Int)} (h : allEl p pw.length xs) : ∀ b ∈ xs, El p pw.length b := fun b hb => by
  obtain ⟨k, hk, rfl⟩ := mem_ix (d := []) hb
  exact (h k hk).el
theorem Can.rws {S : (Nat → Int) → Prop} {u : List (List Int)} (h : Can p pw S u) (hn : pw.length ≤ 6) : Rws p pw.length u := h.toEch.rws hn
theorem Can.rl {S : (Nat → Int) → Prop} {u : List (List Int)} (h : Can p pw S u) (hn : pw.length ≤ 6) : rowslen u :=
  ⟨by have := h.toEch.len; omega, fun x hx => by have := (h.el x hx).len; omega⟩
end
end Go.Proofs.Ytkmgmjajbiddbaa
namespace Go.Proofs.Ytkmgmjajbiddbaa
open Nat (reduceAdd reduceSub reduceGT reduceEqDiff reduceMul)
structure Euc (m a r n x y X Y : Int) : Prop where
  r0 : 0 < r
  rm : r ≤ m
  n0 : 0 ≤ n
  nm : n ≤ m
  X0 : 0 ≤ X
  Y0 : 0 ≤ Y
  sx : (x = X ∧ y = -Y) ∨ (x = -X ∧ y = Y)
  sum : Y * r + X * n = m
  bz : ∃ u v, u * r + v * n = 1
  cx : ∃ k, x * a - r = k * m
  cy : ∃ k, y * a - n = k * m
theorem Euc.start {m a : Int} (hm : 0 < m) (ha : 0 ≤ a) (ham : a ≤ m) (hb : ∃ u v, u * m + v * a = 1) : Euc m a m a 0 1 0 1 :=
  ⟨hm, by omega, ha, ham, by omega, by omega, .inr ⟨by omega, rfl⟩, by omega, hb, ⟨-1, by omega⟩, ⟨0, by omega⟩⟩
theorem Euc.ybd {m a r n x y X Y : Int} (h : Euc m a r n x y X Y) : Y ≤ m := by
  have h1 : 0 ≤ X * n := Int.mul_nonneg h.X0 h.n0
  have h2 : Y * 1 ≤ Y * r := Int.mul_le_mul_of_nonneg_left (by have := h.r0; omega) h.Y0
  have h3 := h.sum
  omega
theorem Euc.step {m a r n x y X Y : Int} (h : Euc m a r n x y X Y) (hn : 0 < n) : Euc m a n (r - r / n * n) y (x - r / n * y) Y (X + r / n * Y) ∧ 0 ≤ r / n ∧ r / n ≤ m ∧ 0 ≤ r / n * n ∧ r / n * n ≤ m ∧ -m ≤ r / n * y ∧ r / n * y ≤ m := by
  have hr := h.r0
  obtain ⟨q, hq⟩ : ∃ q, r / n = q := ⟨_, rfl⟩
  have e1 := Int.emod_add_mul_ediv r n
  have e2 := Int.emod_nonneg r (show n ≠ 0 by omega)
  have e3 := Int.emod_lt_of_pos r hn
  rw [hq, Int.mul_comm n q] at e1
  have hq0 : 0 ≤ q := by rw [← hq]; exact Int.ediv_nonneg (by omega) (by omega)
  rw [hq]
  have hqn : q * 1 ≤ q * n := Int.mul_le_mul_of_nonneg_left (by omega) hq0
  have hqY : 0 ≤ q * Y := Int.mul_nonneg hq0 h.Y0
  have hst : Euc m a n (r - q * n) y (x - q * y) Y (X + q * Y) := by
    refine ⟨hn, h.nm, by omega, by have := h.nm; omega, h.Y0, by have := h.X0; omega, ?_, ?_, ?_, h.cy, ?_⟩
    · rcases h.sx with ⟨h1, h2⟩ | ⟨h1, h2⟩
      · exact .inr ⟨h2, by rw [h1, h2, Int.mul_neg]; omega⟩
      · exact .inl ⟨h2, by rw [h1, h2]; omega⟩
    · have := h.sum
      rw [Int.add_mul, Int.mul_sub]
      have e4 : q * Y * n = Y * (q * n) := by rw [Int.mul_comm q Y, Int.mul_assoc]
      omega
    · obtain ⟨u, v, h1⟩ := h.bz
      refine ⟨v + u * q, u, ?_⟩
      rw [Int.add_mul, Int.mul_sub, Int.mul_assoc]; omega
    · obtain ⟨k1, h1⟩ := h.cx
      obtain ⟨k2, h2⟩ := h.cy
      refine ⟨k1 - q * k2, ?_⟩
      have e5 : q * (y * a - n) = q * (k2 * m) := by rw [h2]
      rw [Int.mul_sub, ← Int.mul_assoc, ← Int.mul_assoc] at e5
      rw [Int.sub_mul, Int.sub_mul]; omega
  have hY := hst.ybd
  have hX0 := h.X0
  have hrm := h.rm
  refine ⟨hst, hq0, by omega, by omega, by omega, ?_, ?_⟩
  · rcases h.sx with ⟨_, h2⟩ | ⟨_, h2⟩
    · rw [h2, Int.mul_neg]; omega
    · rw [h2]; omega
  · rcases h.sx with ⟨_, h2⟩ | ⟨_, h2⟩
    · rw [h2, Int.mul_neg]; omega
    · rw [h2]; omega
theorem Euc.fin {m a r x y X Y : Int} (h : Euc m a r 0 x y X Y) (hm : 2 ≤ m) : r = 1 ∧ isInv m a (x % m) := by
  have hr := h.r0
  have hr1 : r = 1 := by
    obtain ⟨u, v, h1⟩ := h.bz
    rcases Int.lt_or_le u 1 with hu | hu
    · have : u * r ≤ 0 * r := Int.mul_le_mul_of_nonneg_right (by omega) (by omega)
      omega
    · have : 1 * r ≤ u * r := Int.mul_le_mul_of_nonneg_right hu (by omega)
      omega
  subst hr1
  refine ⟨rfl, ?_⟩
  obtain ⟨k, hk⟩ := h.cx
  have h1 : a * x % m = 1 := by
    have : a * x = 1 + k * m := by rw [Int.mul_comm]; omega
    rw [this, Int.add_mul_emod_self_right, Int.emod_eq_of_lt (by omega) (by omega)]
  have h2 : a * (x % m) % m = 1 := by rw [Int.mul_emod, Int.emod_emod, ← Int.mul_emod]; exact h1
  have h3 := Int.emod_nonneg x (show m ≠ 0 by omega)
  refine ⟨?_, Int.emod_lt_of_pos x (by omega), h2⟩
  rcases Int.lt_or_le 0 (x % m) with h4 | h4
  · omega
  · have h5 : x % m = 0 := by omega
    rw [h5] at h2; simp at h2
end Go.Proofs.Ytkmgmjajbiddbaa
