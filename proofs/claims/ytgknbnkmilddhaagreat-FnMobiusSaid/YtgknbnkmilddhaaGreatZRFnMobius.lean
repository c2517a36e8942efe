import Derived.Test.YtgknbnkmilddhaaGreatRows
import Derived.WalkKit
import Derived.ProofKit
import Derived.OpenShut
import Derived.ShutString
import Derived.ChangeOld
import Derived.Below
import Derived.Test.YtgknbnkmilddhaaGreatZ40
set_option linter.unusedVariables false
set_option linter.unusedSimpArgs false

namespace Go.Proofs.YtgknbnkmilddhaaGreat
open Go.ChangeShapes Go.WideShapes Go.ChangeAt Go.RowKit
theorem own:ownKnob Tryz.prog.godebug=none:=A7
theorem laidOut:laidOutB Tryz.prog=true:=A7
set_option maxRecDepth 100000 in
theorem lifted(os:Os)(started:os.Started)(H:Type)(enc:TypeId×Value->H):
    ReturnsInHanded {} Tryz.checked os 3 .any (Rows.fnMobiusSpec.pre6 enc Tryz.prog Tryz.f3 Rows.fnMobiusRow.domain false) (Rows.fnMobiusSpec.post enc Tryz.prog Tryz.f3 false true false false):=by
  refine returnsInHanded_of_change (C:=Tryz.checked) own started A7 Tryz.func3
    (ChangeSpec.witness6 (enc:=enc) (C:=Tryz.checked) false ⟨#[],#[.slice none 0 0],[]⟩ 8 A7 A7 A7 A7) ?_
  intro W base args ds gs before We hW AF3 _;have MZ:∀(j:Nat) t v,Tryz.f3.params[j]? =some t->args[j]? =some v->Value.okWide Tryz.prog W .any base t v:=We;have hW':=hW;obtain⟨p,q,hA0,hV,rfl,hfz,D0⟩:=hW;have hA:DataW.TrodAll enc Tryz.prog W 0 (λ_=>true) true Tryz.f3.params.toList args.toList ds p:=hA0;rw[Tryz.params3]at hA MZ;obtain⟨v0,vs0,d0,ds0,p0,q0,Dj,rfl,rfl,h0,r0⟩:=trodAll_cons hA;obtain⟨rfl,rfl,rfl⟩:=trodAll_nil r0;obtain rfl:args=#[v0]:=by cases args;simp_all
  obtain⟨rfl,rfl⟩:=trodVars_none hV;have k0:=h0;have lt0:∀x∈p0,x.block<W.heap.size:=by obtain⟨m,hm⟩:=k0;exact DataW.trod_lt m _ _ _ hm
  obtain⟨s0,l0,e0,rfl⟩:=okWide_slice Tryz.underlying22 (MZ 0 22 v0 rfl rfl);obtain⟨n0,g0⟩:=h0;obtain⟨a0,R0,ok0⟩:=Jo Tryz.underlying22 Tryz.underlying5 A7 g0;clear hA0 We;refine(Nz (mB a0 ok0) (us:=#[.slice s0 l0 e0]) ⟨rfl,λk x hk=>by
    match k,hk with
    |0,hk=>cases hk;exact R0⟩).mono λe W' ⟨he,bel⟩=>?_
  subst he;exact⟨_,rfl,_,_,_,[],_,[],hW',trodAll_mk1 (shut_bool Tryz.underlying4 _),(trodAll_cons_mk (Below.trod laidOut A7 (of_decide_eq_true A7) k0 bel lt0) trodAll_mk0),rfl,bel.frame _,λh=>by cases h⟩
theorem jfa:laidOutB Tryz.pinned.checked.prog=true:=A7
theorem jfb:mapsRowed Tryz.pinned.checked.prog=true:=A7
theorem jfc:(Rows.fnMobiusRow.inPlace==Program.inPlace Tryz.pinned.checked.prog 3)=true:=A7
theorem jfd:(Rows.fnMobiusRow.unfollowed==Program.unfollowed Tryz.pinned.checked.prog 3)=true:=A7
theorem jfe:(Rows.fnMobiusRow.recurses==Program.recurses Tryz.pinned.checked.prog 3)=true:=A7
theorem jfg:(Rows.fnMobiusRow.named==Program.varsNamed Tryz.pinned.checked.prog 3)=true:=A7
theorem jfh:Program.stopsHeard Tryz.pinned.checked.prog=true:=A7
theorem jfi:Program.mayEnter Tryz.pinned.checked.prog=true:=A7
theorem jfk:(Rows.fnMobiusRow.plainKeys==Program.plainKeys Tryz.pinned.checked.prog)=true:=A7
theorem jfl:(Rows.fnMobiusRow.lifted==Program.liftsFinal Tryz.pinned.checked.prog)=true:=A7
theorem closed:joinedFacts Tryz.pinned.checked.prog 3 Tryz.f3 Rows.fnMobiusSpec Rows.fnMobiusRow=true:=by
  unfold joinedFacts;rw[jfa,jfb,jfc,jfd,jfe,jfg,jfh,jfi,jfk,jfl];kernel_rfl
theorem Xl:Rows.fnMobiusRow.holds Tryz.pinned (OpenSpec.ofChange Rows.fnMobiusSpec):=
  OpenClaim.holds_of_wide 3 Tryz.f3 rfl rfl rfl rfl rfl rfl rfl ⟨rfl,rfl,rfl,rfl,rfl⟩ rfl rfl rfl rfl rfl A7 Tryz.func3 closed
    (of_decide_eq_true A7) (by unfold Func.isWrapper;first|(rw[if_pos (by decide+kernel)];kernel_rfl)|(rw[if_neg (by decide+kernel)];exact⟨rfl,rfl⟩))
    (λos started H enc _=>lifted os started H enc)
theorem proved:Rows.FnMobiusSaid:=Xl
end Go.Proofs.YtgknbnkmilddhaaGreat
