import Derived.Test.YtlcddiojeghfgaaDoorZ20
set_option linter.unusedVariables false
set_option linter.unusedSimpArgs false
namespace Go.Proofs.YtlcddiojeghfgaaDoor
open Nat (reduceAdd reduceSub reduceGT reduceEqDiff reduceMul)
theorem o_ints (a:List Int):one (ints a)=true:=rfl
theorem o_rows (a:List (List Int)):one (rows a)=true:=rfl
theorem o_cubes (a:List (List (List Int))):one (cubes a)=true:=rfl
theorem k_ints (a:List Int):okA (ints a)=true:=rfl
theorem k_rows (a:List (List Int)):okA (rows a)=true:=rfl
theorem k_cubes (a:List (List (List Int))):okA (cubes a)=true:=rfl
theorem c_ints (a:List Int):cellsA (ints a)=[ints a]:=rfl
theorem c_rows (a:List (List Int)):cellsA (rows a)=[rows a]:=rfl
theorem c_cubes (a:List (List (List Int))):cellsA (cubes a)=[cubes a]:=rfl
attribute [go_sem] o_ints o_rows o_cubes k_ints k_rows k_cubes c_ints c_rows c_cubes Bool.true_and ne_eq not_true_eq_false not_false_eq_true or_false false_or or_self
def Rd (r X:AV):Prop:=∀(L:LM) (w:World) (M:Nat→Prop) (u:Value),R L w M r u→R L w M X u
theorem Rd.refl (r:AV):Rd r r:=fun _ _ _ _ h=>h
theorem Rd.nl:Rd .nl (.v 0 []):=fun _ _ _ _ h=>h.nl_v0
theorem Rd.t2 {a b x y:AV} (h1:Rd a x) (h2:Rd b y):Rd (.t [a,b]) (.t [x,y]):=by
  intro L w M u h
  cases h with
  | t _ us hs hr=>
    refine .t _ us hs ?_
    intro k z hk
    match k,hk with
    |0,hk=>cases hk;exact h1 _ _ _ _ (hr 0 _ rfl)
    |1,hk=>cases hk;exact h2 _ _ _ _ (hr 1 _ rfl)
theorem ints_nr (a:List Int):NR (ints a):=by
  unfold Go.Proofs.YtlcddiojeghfgaaDoor.ints
  exact .v _ _ (by intro k x hk;obtain⟨y,_,rfl⟩:=List.mem_map.1 (List.mem_of_getElem? hk);exact .i _ _)
theorem Own.pair {a b:Nat} {H:HP} {r X:AV} {ids:List Nat} {k:IntKind} {e:Int} (h:Own a b H r X ids):∃ids,Own a b H (.t [r,.i k e]) (.t [X,.i k e]) ids:=by
  refine⟨ids++([]++[]),.t _ _ _ (.cons _ _ _ _ _ _ h.1 (.cons _ _ _ _ _ _ (.leaf _ (.i _ _) (.i _ _)) .nil)),?_,?_⟩
  · simpa using h.2.1
  · simpa using h.2.2
def AllEl (p:Int) (pw:List (List Int)) (br:List (List (List Int))) (xs:List (List Int)):Prop:=LieR p pw br∧∀k,k<xs.length→isEl p pw.length (xs.getD k [])
theorem AllEl.one {p:Int} {pw:List (List Int)} {br:List (List (List Int))} {a:List Int}:AllEl p pw br [a]↔LieR p pw br∧isEl p pw.length a:=
  ⟨fun h=>⟨h.1,h.2 0 (by simp)⟩,fun h=>⟨h.1,fun k hk=>by
    simp at hk;subst hk;exact h.2⟩⟩
theorem AllEl.two {p:Int} {pw:List (List Int)} {br:List (List (List Int))} {a b:List Int}:AllEl p pw br [a,b]↔LieR p pw br∧isEl p pw.length a∧isEl p pw.length b:=
  ⟨fun h=>⟨h.1,h.2 0 (by simp),h.2 1 (by simp)⟩,fun h=>⟨h.1,fun k hk=>by
    match k,hk with
    |0,_=>exact h.2.1
    |1,_=>exact h.2.2⟩⟩
theorem Vw.rws {H:HP} {id:Nat} {xs:List (List Int)} {n:Nat} (hn:n=xs.length) (h:H id=some (xs.map Go.Proofs.YtlcddiojeghfgaaDoor.ints)):Vw H (.h id 0 n) (rows xs):=by
  subst hn
  unfold rows
  exact .h id 0 xs.length _ _ h (by simp) (by simp) (fun k x y hx hy=>by rw[Nat.zero_add,hy]at hx;cases hx;exact .refl _)
end Go.Proofs.YtlcddiojeghfgaaDoor
