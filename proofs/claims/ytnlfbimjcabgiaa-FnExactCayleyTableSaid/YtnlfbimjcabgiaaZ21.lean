import Derived.Test.YtnlfbimjcabgiaaZ20
set_option linter.unusedVariables false
set_option linter.unusedSimpArgs false
set_option linter.unusedSectionVars false
namespace Go.Proofs.Ytnlfbimjcabgiaa
variable {P : Pc}
def tl (l : Nat) (e : V) : V := fun k => if k < l then 0 else e k
def app (P : Pc) (l : Nat) (e f : V) : V := fun k => if k < l then e k else M P l (tl l e) f k
theorem tl_T (hv : Val P) {e : V} (h : T P 0 e) (l : Nat) : T P l (tl l e) :=
  ⟨fun k hk => by simp [tl, hk], fun k h1 h2 => by rw [tl, if_neg (by omega)]; exact h.r k (by omega) h2, fun k hk => by rw [tl]; split; rfl; exact h.t k hk⟩
theorem tl_id {l : Nat} {e : V} (h : T P l e) : tl l e = e := by
  funext k; rw [tl]; split
  · exact (h.z k (by assumption)).symm
  · rfl
theorem app_T (hv : Val P) {l : Nat} {e f : V} (he : T P 0 e) (hf : T P l f) : T P 0 (app P l e f) := by
  have h := M_T hv (tl_T hv he l) hf
  refine ⟨fun k hk => by omega, fun k _ h2 => ?_, fun k hk => ?_⟩
  · rw [app]; split
    · exact he.r k (by omega) h2
    · exact h.r k (by omega) h2
  · rw [app]; split
    · exact he.t k hk
    · exact h.t k hk
theorem app_M (hv : Val P) {l : Nat} {e f : V} (he : T P l e) (hf : T P l f) : app P l e f = M P l e f := by
  funext k; rw [app, tl_id he]; split
  · rename_i hk; rw [he.z k hk, (M_T hv he hf).z k hk]
  · rfl
theorem itr_img0 (hv : Val P) (j : Nat) (q : Nat) : itr (img P (M P (j + 1)) j) q z0 = z0 := by
  have hz : img P (M P (j + 1)) j z0 = z0 := by
    unfold img
    have this : fim (M P (j + 1)) (P.cj j) z0 (P.n - (j + 1)) (j + 1) z0 = fim (M P (j + 1)) (P.cj j) z0 0 (j + 1 + (P.n - (j + 1))) z0 := fim_skip (P.n - (j + 1)) 0 (j + 1) (fun k _ _ => rfl)
    rw [this]; rfl
  induction q with
  | zero => rfl
  | succ q ihq => rw [itr, ihq, hz]
theorem M_tail (hv : Val P) : ∀ d {l : Nat} {x u : V}, T P l x → T P (l + d) u → M P l x u = fun k => if k < l + d then x k else M P (l + d) (tl (l + d) x) u k := by
  intro d
  induction d with
  | zero =>
    intro l x u hx hu
    have := app_M hv hx hu
    rw [← this]; rfl
  | succ d ih =>
    intro l x u hx hu
    by_cases hl : l < P.n
    · rw [M_lt hl]
      unfold stp
      have h1 := hu.z l (by omega)
      have h2 := hx.r l (by omega) hl
      rw [h1, if_neg (by omega), fset_id h1]
      show fset (M P (l + 1) (fset x l 0) u) l (x l + 0) = _
      rw [show l + (d + 1) = l + 1 + d by omega] at hu ⊢
      rw [ih hx.cut hu]
      funext k
      simp only [fset]
      by_cases e : k = l
      · subst e; rw [if_pos rfl, if_pos (by omega)]; omega
      · rw [if_neg e, if_neg e]
        have : tl (l + 1 + d) (fset x l 0) = tl (l + 1 + d) x := by
          funext q; simp only [tl]; split
          · rfl
          · rw [fset_ne (by omega)]
        rw [this]
    · have e1 := hx.ge (by omega)
      rw [M_ge (by omega), e1]
      funext k
      split
      · rfl
      · rw [M_ge (by omega)]
theorem app_eq (hv : Val P) {l j : Nat} (hl : l ≤ j) {e u : V} (he : T P 0 e) (hu : T P j u) : app P l e u = app P j e u := by
  obtain ⟨d, rfl⟩ : ∃ d, j = l + d := ⟨j - l, by omega⟩
  funext k
  have ht := M_tail hv d (tl_T hv he l) hu
  rw [app, app, ht]
  have : tl (l + d) (tl l e) = tl (l + d) e := by
    funext q; simp only [tl]; split
    · rfl
    · rw [if_neg (by omega)]
  rw [this]
  by_cases h1 : k < l
  · rw [if_pos h1, if_pos (by omega)]
  · rw [if_neg h1]
    show (if k < l + d then tl l e k else M P (l + d) (tl (l + d) e) u k) = _
    by_cases h2 : k < l + d
    · rw [if_pos h2, if_pos h2, tl, if_neg h1]
    · rw [if_neg h2, if_neg h2]
theorem app_app (hv : Val P) {l : Nat} (hg : Grp (T P l) (M P l)) {e u v : V} (he : T P 0 e) (hu : T P l u) (hw : T P l v) : app P l (app P l e u) v = app P l e (M P l u v) := by
  funext k
  have h1 := tl_T hv he l
  have : tl l (app P l e u) = M P l (tl l e) u := by
    funext q; simp only [tl, app]; split
    · rw [(M_T hv h1 hu).z q (by assumption)]
    · rfl
  show (if k < l then app P l e u k else M P l (tl l (app P l e u)) v k) = if k < l then e k else M P l (tl l e) (M P l u v) k
  rw [this]
  by_cases h : k < l
  · rw [if_pos h, if_pos h, app, if_pos h]
  · rw [if_neg h, if_neg h, hg.ac h1 hu hw]
theorem app_z0 (hv : Val P) {l : Nat} (hg : Grp (T P l) (M P l)) {e : V} (he : T P 0 e) : app P l e z0 = e := by
  funext k
  rw [app, hg.r1 (tl_T hv he l), tl]; split
  · rfl
  · rfl
theorem un_mul (hv : Val P) {j : Nat} (hj : j < P.n) (hg : Grp (T P (j + 1)) (M P (j + 1))) {y : V} (ty : T P (j + 1) y) {a : Int} (h0 : 0 ≤ a) (h1 : a + 1 < P.o j) :
    M P j (un j) (fset y j a) = fset y j (a + 1) := by
  rw [M_lt hj]
  unfold stp
  rw [show un j j = 1 from fset_at, fset_at, if_neg (by omega), show fset (un j) j 0 = z0 by rw [un, fset_fset, fset_z0], T.cutput ty, itr_img0 hv, hg.l1 ty]
  congr 1; omega
def cmb (j : Nat) (e : V) (c : Int) (t : V) : V := fun k => if k < j then e k else if k = j then c else t k
theorem cmb_T (hv : Val P) {j : Nat} {e t : V} {c : Int} (hj : j < P.n) (he : T P 0 e) (h0 : 0 ≤ c) (h1 : c < P.o j) (ht : T P (j + 1) t) : T P 0 (cmb j e c t) := by
  refine ⟨fun k hk => by omega, fun k _ h2 => ?_, fun k hk => ?_⟩
  · rw [cmb]; split
    · exact he.r k (by omega) h2
    · split
      · rename_i h; subst h; exact ⟨h0, h1⟩
      · exact ht.r k (by omega) h2
  · rw [cmb, if_neg (by omega), if_neg (by omega)]; exact ht.t k hk
theorem cmb_tl {j : Nat} {e t : V} {c : Int} (ht : T P (j + 1) t) : tl (j + 1) (cmb j e c t) = t := by
  funext k; simp only [tl, cmb]; split
  · exact (ht.z k (by assumption)).symm
  · rw [if_neg (by omega), if_neg (by omega)]
theorem cmb_app (hv : Val P) {j : Nat} {e t u : V} {c : Int} (ht : T P (j + 1) t) (hu : T P (j + 1) u) : app P (j + 1) (cmb j e c t) u = cmb j e c (M P (j + 1) t u) := by
  funext k
  rw [app, cmb_tl ht]
  simp only [cmb]
  by_cases h : k < j + 1
  · rw [if_pos h]
    by_cases h2 : k < j
    · rw [if_pos h2, if_pos h2]
    · rw [if_neg h2, if_neg h2, if_pos (by omega), if_pos (by omega)]
  · rw [if_neg h, if_neg (by omega), if_neg (by omega)]
def tg0 (P : Pc) (j : Nat) (e : V) : Int × V := if e j + 1 = P.o j then (0, P.pw j) else (e j + 1, z0)
theorem tg_eq (hv : Val P) {j : Nat} (hj : j < P.n) (hg : Grp (T P (j + 1)) (M P (j + 1))) {e : V} (he : T P 0 e) :
    app P j e (un j) = cmb j e (tg0 P j e).1 (fim (M P (j + 1)) (P.cj j) e (P.n - (j + 1)) (j + 1) (tg0 P j e).2) := by
  have h1 := tl_T hv he j
  have h2 := he.r j (by omega) hj
  have h3 : un j j = 1 := fset_at
  have h4 : fset (un j) j 0 = z0 := by rw [un, fset_fset, fset_z0]
  have h5 : tl j e j = e j := by rw [tl, if_neg (by omega)]
  have h6 : T P (j + 1) (img P (M P (j + 1)) j (fset (tl j e) j 0)) := img_T hv (fun _ _ => M_T hv) _
  have h7 : img P (M P (j + 1)) j (fset (tl j e) j 0) = fim (M P (j + 1)) (P.cj j) e (P.n - (j + 1)) (j + 1) z0 := by
    unfold img
    exact fim_ext _ _ _ (fun k q1 q2 => by rw [fset_ne (by omega), tl, if_neg (by omega)])
  funext k
  rw [app, M_lt hj]
  unfold stp
  rw [h3, h4, h5]
  show (if k < j then e k else (if P.o j ≤ e j + 1 then fset (M P (j + 1) (P.pw j) (M P (j + 1) (img P (M P (j + 1)) j (fset (tl j e) j 0)) z0)) j (e j + 1 - P.o j) else fset (M P (j + 1) (img P (M P (j + 1)) j (fset (tl j e) j 0)) z0) j (e j + 1)) k) = _
  rw [hg.r1 h6, h7, cmb]
  by_cases hk : k < j
  · rw [if_pos hk, if_pos hk]
  · rw [if_neg hk, if_neg hk]
    unfold tg0
    by_cases hc : e j + 1 = P.o j
    · rw [if_pos (by omega), if_pos hc]
      simp only
      rw [hg.fim _ _ (P.pw j) (fun k q1 q2 => hv.cj j k (by omega) (by omega)) (hv.pw j hj)]
      simp only [fset]
      split
      · omega
      · rfl
    · rw [if_neg (by omega), if_neg hc]
      rfl
noncomputable def inv (P : Pc) (l : Nat) (a : V) : V := open Classical in if h : ∃ b, T P l b ∧ M P l a b = z0 then Classical.choose h else z0
section
variable {l : Nat} (hg : Grp (T P l) (M P l))
include hg
theorem inv_T {a : V} (ha : T P l a) : T P l (inv P l a) ∧ M P l a (inv P l a) = z0 := by
  obtain ⟨b, h1, h2, h3⟩ := hg.iv ha
  have h : ∃ b, T P l b ∧ M P l a b = z0 := ⟨b, h1, h3⟩
  unfold inv
  rw [dif_pos h]
  exact Classical.choose_spec h
theorem inv_eq {a b : V} (ha : T P l a) (hb : T P l b) (h : M P l a b = z0) : b = inv P l a := by
  obtain ⟨h1, h2⟩ := inv_T hg ha
  exact hg.lc ha hb h1 (by rw [h, h2])
theorem inv_l {a : V} (ha : T P l a) : M P l (inv P l a) a = z0 := by
  obtain ⟨h1, h2⟩ := inv_T hg ha
  obtain ⟨b, h3, h4, h5⟩ := hg.iv ha
  rw [← inv_eq hg ha h3 h5, h4]
theorem conj_iff {a b x : V} (ha : T P l a) (hb : T P l b) (hx : T P l x) : M P l (inv P l b) (M P l a b) = x ↔ M P l a b = M P l b x := by
  obtain ⟨h1, h2⟩ := inv_T hg hb
  constructor
  · intro h; rw [← h, ← hg.ac hb h1 (hg.cl ha hb), h2, hg.l1 (hg.cl ha hb)]
  · intro h; rw [h, ← hg.ac h1 hb hx, inv_l hg hb, hg.l1 hx]
end
end Go.Proofs.Ytnlfbimjcabgiaa
