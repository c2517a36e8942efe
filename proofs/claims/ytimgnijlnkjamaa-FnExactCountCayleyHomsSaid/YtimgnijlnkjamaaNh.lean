/-
  Lie rings: AddLie, NegateLie, TimesLie, Bracket, LieElementOrder, by the reference and by the program.
-/
import Derived.Test.YtimgnijlnkjamaaNg
set_option linter.unusedVariables false
set_option linter.unusedSimpArgs false
namespace Go.Proofs.Ytimgnijlnkjamaa
open Nat (reduceAdd reduceSub reduceGT reduceEqDiff reduceMul)

theorem o_ints (a : List Int) : one (ints a) = true := rfl
theorem o_rows (a : List (List Int)) : one (rows a) = true := rfl
theorem o_cubes (a : List (List (List Int))) : one (cubes a) = true := rfl
theorem k_ints (a : List Int) : okA (ints a) = true := rfl
theorem k_rows (a : List (List Int)) : okA (rows a) = true := rfl
theorem k_cubes (a : List (List (List Int))) : okA (cubes a) = true := rfl
theorem c_ints (a : List Int) : cellsA (ints a) = [ints a] := rfl
theorem c_rows (a : List (List Int)) : cellsA (rows a) = [rows a] := rfl
theorem c_cubes (a : List (List (List Int))) : cellsA (cubes a) = [cubes a] := rfl
attribute [go_sem] o_ints o_rows o_cubes k_ints k_rows k_cubes c_ints c_rows c_cubes Bool.true_and ne_eq not_true_eq_false not_false_eq_true or_false false_or or_self

/-- What reads as r reads as X. -/
def Rd (r X : AV) : Prop := ∀ (L : LM) (w : World) (M : Nat → Prop) (u : Value), R L w M r u → R L w M X u
theorem Rd.refl (r : AV) : Rd r r := fun _ _ _ _ h => h
theorem Rd.nl : Rd .nl (.v 0 []) := fun _ _ _ _ h => h.nl_v0
theorem Rd.t2 {a b x y : AV} (h1 : Rd a x) (h2 : Rd b y) : Rd (.t [a, b]) (.t [x, y]) := by
  intro L w M u h
  cases h with
  | t _ us hs hr =>
    refine .t _ us hs ?_
    intro k z hk
    match k, hk with
    | 0, hk => cases hk; exact h1 _ _ _ _ (hr 0 _ rfl)
    | 1, hk => cases hk; exact h2 _ _ _ _ (hr 1 _ rfl)
theorem ACp.introR {P : Program} {Γ : TEnv} (hG : GOk P Γ) {f : FuncId} {fn : Func} {c : Code} {n : Nat} {rs : Array ResultVar} (hf : P.funcs[f]? = some fn) (hb : fn.body = some c) (hn : (fn.name == "runtime.NumGoroutine") = false) (hnt : fn.ntmps = n) (hres : fn.results = rs) {xs : List AV} {r : AV} (hr : NR r)
    (h : ∀ nx, AW P c ⟨xs ++ List.replicate (n - xs.length) .j, noH, nx⟩ (finK Γ rs.toList fun _ _ r' => Rd r' r)) : ACp P f xs r := by
  refine ⟨⟨fn, hf, by rw [hb]; rfl, hn⟩, ?_⟩
  rintro L M w us hM ⟨nx, hfr⟩ ha
  refine ((AC.intro' hG hf hb hn hnt hres (h nx)).2 L M w us (SR_noH hM) hfr (by rw [MM_noH]; exact ha)).mono ?_
  rintro e w' ⟨u, r', L', nx', H', g1, g0, g2, g3, g4, g5, g6, g7⟩
  refine ⟨u, g1, ⟨fun _ _ h => h, g6.os, g6.tape, g6.output, g6.size, g6.keep, fun b _ hl => hl⟩, ?_⟩
  exact R.mono (L := L) (M := MM L' H' M) (w := w') (fun _ _ h => h) (fun _ _ _ => rfl) (fun b _ hb => .inl hb) ((g0 _ _ _ _ g7).nr hr)

theorem ints_nr (a : List Int) : NR (ints a) := by
  unfold Go.Proofs.Ytimgnijlnkjamaa.ints
  exact .v _ _ (by intro k x hk; obtain ⟨y, _, rfl⟩ := List.mem_map.1 (List.mem_of_getElem? hk); exact .i _ _)

/-- A list, or an error. -/
def resL (m : List Int × Int) : AV := .t [ints m.1, .i .i64 m.2]
def orE (b : Bool) (m : List Int × Int) : List Int × Int := match b with
  | true => m
  | false => ([], 1)
theorem resL_nr (m : List Int × Int) : NR (resL m) := NR.ts (fun x hx => by
  simp at hx
  rcases hx with rfl | rfl
  · exact ints_nr _
  · exact .i _ _)
theorem resL_nl {e : Int} : Rd (.t [.nl, .i .i64 e]) (resL ([], e)) := Rd.t2 .nl (.refl _)
theorem Own.pair {a b : Nat} {H : HP} {r X : AV} {ids : List Nat} {k : IntKind} {e : Int} (h : Own a b H r X ids) : ∃ ids, Own a b H (.t [r, .i k e]) (.t [X, .i k e]) ids := by
  refine ⟨ids ++ ([] ++ []), .t _ _ _ (.cons _ _ _ _ _ _ h.1 (.cons _ _ _ _ _ _ (.leaf _ (.i _ _) (.i _ _)) .nil)), ?_, ?_⟩
  · simpa using h.2.1
  · simpa using h.2.2
theorem Own.nilE {a b : Nat} {H : HP} {e : Int} : ∃ ids, Own a b H (.t [.nl, .i .i64 e]) (resL ([], e)) ids :=
  ⟨[] ++ ([] ++ []), .t _ _ _ (.cons _ _ _ _ _ _ .nl (.cons _ _ _ _ _ _ (.leaf _ (.i _ _) (.i _ _)) .nil)), by simp, by simp⟩

theorem shapeP.pb {p : Int} {pw : List (List Int)} {br : List (List (List Int))} (h : shapeP p pw br) : -1000 ≤ p ∧ p ≤ 1000 := by have := pr4_bd h.1; omega

/-- r is a ring and all lists are elements. -/
def AllEl (p : Int) (pw : List (List Int)) (br : List (List (List Int))) (xs : List (List Int)) : Prop := LieR p pw br ∧ ∀ k, k < xs.length → isEl p pw.length (xs.getD k [])
theorem AllEl.one {p : Int} {pw : List (List Int)} {br : List (List (List Int))} {a : List Int} : AllEl p pw br [a] ↔ LieR p pw br ∧ isEl p pw.length a :=
  ⟨fun h => ⟨h.1, h.2 0 (by simp)⟩, fun h => ⟨h.1, fun k hk => by
    simp at hk; subst hk; exact h.2⟩⟩
theorem AllEl.two {p : Int} {pw : List (List Int)} {br : List (List (List Int))} {a b : List Int} : AllEl p pw br [a, b] ↔ LieR p pw br ∧ isEl p pw.length a ∧ isEl p pw.length b :=
  ⟨fun h => ⟨h.1, h.2 0 (by simp), h.2 1 (by simp)⟩, fun h => ⟨h.1, fun k hk => by
    match k, hk with
    | 0, _ => exact h.2.1
    | 1, _ => exact h.2.2⟩⟩


theorem Vw.rws {H : HP} {id : Nat} {xs : List (List Int)} {n : Nat} (hn : n = xs.length) (h : H id = some (xs.map Go.Proofs.Ytimgnijlnkjamaa.ints)) : Vw H (.h id 0 n) (rows xs) := by
  subst hn
  unfold rows
  exact .h id 0 xs.length _ _ h (by simp) (by simp) (fun k x y hx hy => by rw [Nat.zero_add, hy] at hx; cases hx; exact .refl _)




def inM (k : Int) : Prop := -1000000 ≤ k ∧ k ≤ 1000000
def orR (b : Bool) (m : List Int × Int) : List Int × Int := match b with
  | true => m
  | false => ([], 2)
end Go.Proofs.Ytimgnijlnkjamaa
