import Derived.Test.YtghmeeifjeafmaaGreatRows
import Derived.WalkKit
import Derived.ProofKit
import Derived.OpenShut
import Derived.ShutString
import Derived.ChangeOld
import Derived.Below
import Derived.Test.YtghmeeifjeafmaaGreatZ40
set_option linter.unusedVariables false
set_option linter.unusedSimpArgs false
namespace Go.Proofs.YtghmeeifjeafmaaGreat
open Go.ChangeShapes Go.WideShapes Go.ChangeAt Go.RowKit
theorem own:ownKnob Tryz.prog.godebug=none:=by kernel_rfl
theorem laidOut:laidOutB Tryz.prog=true:=by kernel_rfl
set_option maxRecDepth 100000 in
theorem lifted(os:Os)(started:os.Started)(H:Type)(enc:TypeId×Value→H):
    ReturnsInHanded {} Tryz.checked os 4 .any (Rows.fnCayleyTablesSpec.pre6 enc Tryz.prog Tryz.f4 Rows.fnCayleyTablesRow.domain false) (Rows.fnCayleyTablesSpec.post enc Tryz.prog Tryz.f4 false true false false):=by
  refine returnsInHanded_of_change (C:=Tryz.checked) own started (by kernel_rfl) Tryz.func4
    (ChangeSpec.witness6 (enc:=enc) (C:=Tryz.checked) false ⟨#[],#[.slice none 0 0],[]⟩ 8 (by kernel_rfl) (by kernel_rfl) (by kernel_rfl) (by kernel_rfl)) ?_
  intro W base args ds gs before Cu hW A4O _;have PG:∀(j:Nat) t v,Tryz.f4.params[j]? =some t→args[j]? =some v→Value.okWide Tryz.prog W .any base t v:=Cu;have Yx:=hW;obtain⟨p,q,hA0,hV,rfl,hfz,CY⟩:=hW;have hA:DataW.TrodAll enc Tryz.prog W 0 (fun _=>true) true Tryz.f4.params.toList args.toList ds p:=hA0;rw[Tryz.params4]at hA PG;obtain⟨v0,vs0,d0,ds0,p0,q0,oS,rfl,rfl,h0,r0⟩:=trodAll_cons hA;obtain⟨rfl,rfl,rfl⟩:=trodAll_nil r0;obtain rfl:args=#[v0]:=by cases args;simp_all
  obtain⟨rfl,rfl⟩:=trodVars_none hV;have k0:=h0;have lt0:∀x∈p0,x.block<W.heap.size:=by obtain⟨m,hm⟩:=k0;exact DataW.trod_lt m _ _ _ hm
  obtain⟨s0,l0,e0,rfl⟩:=okWide_slice Tryz.underlying22 (PG 0 22 v0 rfl rfl);obtain⟨n0,g0⟩:=h0;obtain⟨a0,R0,ok0⟩:=sX Tryz.underlying22 Tryz.underlying5 (by kernel_rfl) g0;clear hA0 Cu;refine(wA (P5 a0 ok0) (us:=#[.slice s0 l0 e0]) ⟨rfl,fun k x hk=>by
    match k,hk with
    |0,hk=>cases hk;exact R0⟩).mono fun e W' ⟨he,bel⟩=>?_
  subst he;exact⟨_,rfl,_,_,_,[],_,[],Yx,trodAll_mk1 (shut_bool Tryz.underlying4 _),(trodAll_cons_mk (Below.trod laidOut (by kernel_rfl) (of_decide_eq_true (by kernel_rfl)) k0 bel lt0) trodAll_mk0),rfl,bel.frame _,fun h=>by cases h⟩
theorem jfa:laidOutB Tryz.pinned.checked.prog=true:=by kernel_rfl
theorem jfb:mapsRowed Tryz.pinned.checked.prog=true:=by kernel_rfl
theorem jfc:(Rows.fnCayleyTablesRow.inPlace==Program.inPlace Tryz.pinned.checked.prog 4)=true:=by kernel_rfl
theorem jfd:(Rows.fnCayleyTablesRow.unfollowed==Program.unfollowed Tryz.pinned.checked.prog 4)=true:=by kernel_rfl
theorem jfe:(Rows.fnCayleyTablesRow.recurses==Program.recurses Tryz.pinned.checked.prog 4)=true:=by kernel_rfl
theorem jfg:(Rows.fnCayleyTablesRow.named==Program.varsNamed Tryz.pinned.checked.prog 4)=true:=by kernel_rfl
theorem jfh:Program.stopsHeard Tryz.pinned.checked.prog=true:=by kernel_rfl
theorem jfi:Program.mayEnter Tryz.pinned.checked.prog=true:=by kernel_rfl
theorem jfk:(Rows.fnCayleyTablesRow.plainKeys==Program.plainKeys Tryz.pinned.checked.prog)=true:=by kernel_rfl
theorem jfl:(Rows.fnCayleyTablesRow.lifted==Program.liftsFinal Tryz.pinned.checked.prog)=true:=by kernel_rfl
theorem closed:joinedFacts Tryz.pinned.checked.prog 4 Tryz.f4 Rows.fnCayleyTablesSpec Rows.fnCayleyTablesRow=true:=by
  unfold joinedFacts;rw[jfa,jfb,jfc,jfd,jfe,jfg,jfh,jfi,jfk,jfl];kernel_rfl
theorem Dy:Rows.fnCayleyTablesRow.holds Tryz.pinned (OpenSpec.ofChange Rows.fnCayleyTablesSpec):=
  OpenClaim.holds_of_wide 4 Tryz.f4 rfl rfl rfl rfl rfl rfl rfl ⟨rfl,rfl,rfl,rfl,rfl⟩ rfl rfl rfl rfl rfl (by kernel_rfl) Tryz.func4 closed
    (of_decide_eq_true (by kernel_rfl)) (by unfold Func.isWrapper;first|(rw[if_pos (by decide+kernel)];kernel_rfl)|(rw[if_neg (by decide+kernel)];exact⟨rfl,rfl⟩))
    (fun os started H enc _=>lifted os started H enc)
theorem proved:Rows.FnCayleyTablesSaid:=Dy
end Go.Proofs.YtghmeeifjeafmaaGreat
