import Derived.Test.YtgknbnkmilddhaaGreatRows
import Derived.WalkKit
import Derived.ProofKit
import Derived.OpenShut
import Derived.ShutString
import Derived.ChangeOld
import Derived.Below
import Derived.Test.YtgknbnkmilddhaaGreatZ26
set_option linter.all false

open Go.Proofs.Tryz
namespace Go.Proofs.YtgknbnkmilddhaaGreat
open Go.ChangeShapes Go.WideShapes Go.ChangeAt Go.RowKit
def own:ownKnob Tryz.prog.godebug=none:=AP
def laidOut:laidOutB prog=true:=AP
set_option maxRecDepth 100000 in
def lifted(U:Os)(started:U.Started)(H:Type)(enc:TypeId×Value->H):
    ReturnsInHanded {} Tryz.checked U 4 .any (Rows.fnPrimaryInvariantsSpec.pre6 enc prog Tryz.f4 Rows.fnPrimaryInvariantsRow.domain false) (Rows.fnPrimaryInvariantsSpec.post enc prog Tryz.f4 false true false false):=by
  refine returnsInHanded_of_change (C:=Tryz.checked) own started AP func4
    (ChangeSpec.witness6 (enc:=enc) (C:=Tryz.checked) false ⟨#[],#[.slice none 0 0],[]⟩ 8 AP AP AP AP) ?_
  intro W base args ds gs before AAD hW ASF _;have X8:∀(j:Nat) t v,Tryz.f4.params[j]? =some t->args[j]? =some v->Value.okWide prog W .any base t v:=AAD;have hW':=hW;obtain⟨p,q,hA0,hV,rfl,hfz,JO⟩:=hW;have hA:DataW.TrodAll enc prog W 0 (λ_=>true) true Tryz.f4.params.toList args.toList ds p:=hA0;rw[Tryz.params4]at hA X8;obtain⟨v0,vs0,d0,ds0,p0,q0,Zw,rfl,rfl,h0,r0⟩:=trodAll_cons hA;obtain⟨rfl,rfl,rfl⟩:=trodAll_nil r0;obtain rfl:args=#[v0]:=by cases args;simp_all
  obtain⟨rfl,rfl⟩:=trodVars_none hV;have k0:=h0;have lt0:∀x∈p0,x.block<W.heap.size:=by obtain⟨m,hm⟩:=k0;exact DataW.trod_lt m _ _ _ hm
  obtain⟨s0,l0,e0,rfl⟩:=okWide_slice Tryz.underlying22 (X8 0 22 v0 rfl rfl);obtain⟨n0,g0⟩:=h0;obtain⟨a0,R0,ok0⟩:=A3H Tryz.underlying22 Tryz.underlying5 AP g0;clear hA0 AAD;refine(A5B (Y6 a0 ok0) (us:=#[.slice s0 l0 e0]) ⟨rfl,λk x hk=>by
    match k,hk with
    |0,hk=>cases hk;exact R0⟩).mono λe W' ⟨he,bel⟩=>?_
  subst he;exact⟨_,rfl,_,_,_,[],_,[],hW',trodAll_mk1 (shut_bool Tryz.underlying4 _),(trodAll_cons_mk (Below.trod laidOut AP (of_decide_eq_true AP) k0 bel lt0) trodAll_mk0),rfl,bel.frame _,λh=>by cases h⟩
def jfa:laidOutB Tryz.pinned.checked.prog=true:=AP
def jfb:mapsRowed Tryz.pinned.checked.prog=true:=AP
def jfc:(Rows.fnPrimaryInvariantsRow.inPlace==Program.inPlace Tryz.pinned.checked.prog 4)=true:=AP
def jfd:(Rows.fnPrimaryInvariantsRow.unfollowed==Program.unfollowed Tryz.pinned.checked.prog 4)=true:=AP
def jfe:(Rows.fnPrimaryInvariantsRow.recurses==Program.recurses Tryz.pinned.checked.prog 4)=true:=AP
def jfg:(Rows.fnPrimaryInvariantsRow.named==Program.varsNamed Tryz.pinned.checked.prog 4)=true:=AP
def jfh:Program.stopsHeard Tryz.pinned.checked.prog=true:=AP
def jfi:Program.mayEnter Tryz.pinned.checked.prog=true:=AP
def jfk:(Rows.fnPrimaryInvariantsRow.plainKeys==Program.plainKeys Tryz.pinned.checked.prog)=true:=AP
def jfl:(Rows.fnPrimaryInvariantsRow.lifted==Program.liftsFinal Tryz.pinned.checked.prog)=true:=AP
def closed:joinedFacts Tryz.pinned.checked.prog 4 Tryz.f4 Rows.fnPrimaryInvariantsSpec Rows.fnPrimaryInvariantsRow=true:=by
 unfold joinedFacts;rw[jfa,jfb,jfc,jfd,jfe,jfg,jfh,jfi,jfk,jfl];kernel_rfl
def AR3:Rows.fnPrimaryInvariantsRow.holds Tryz.pinned (OpenSpec.ofChange Rows.fnPrimaryInvariantsSpec):=
 OpenClaim.holds_of_wide 4 Tryz.f4 rfl rfl rfl rfl rfl rfl rfl ⟨rfl,rfl,rfl,rfl,rfl⟩ rfl rfl rfl rfl rfl AP func4 closed
  (of_decide_eq_true AP) (by unfold Func.isWrapper;first|(rw[if_pos (by decide+kernel)];kernel_rfl)|(rw[if_neg (by decide+kernel)];exact⟨rfl,rfl⟩))
  (λU started H enc _=>lifted U started H enc)
theorem proved:Rows.FnPrimaryInvariantsSaid:=AR3
end Go.Proofs.YtgknbnkmilddhaaGreat