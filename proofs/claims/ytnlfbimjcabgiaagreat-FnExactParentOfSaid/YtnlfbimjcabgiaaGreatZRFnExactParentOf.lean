import Derived.Test.YtnlfbimjcabgiaaGreatRows
import Derived.WalkKit
import Derived.ProofKit
import Derived.OpenShut
import Derived.ShutString
import Derived.ChangeOld
import Derived.Below
import Derived.Test.YtnlfbimjcabgiaaGreatZ52
set_option linter.unusedVariables false
set_option linter.unusedSimpArgs false
namespace Go.Proofs.YtnlfbimjcabgiaaGreat
open Go.ChangeShapes Go.WideShapes Go.ChangeAt Go.RowKit
theorem own:ownKnob Tryz.prog.godebug=none:=by kernel_rfl
theorem laidOut:laidOutB Tryz.prog=true:=by kernel_rfl
set_option maxRecDepth 100000 in
theorem lifted (os:Os) (started:os.Started) (H:Type) (enc:TypeId×Value→H):
    ReturnsInHanded {} Tryz.checked os 5 .any (Rows.fnExactParentOfSpec.pre6 enc Tryz.prog Tryz.f5 Rows.fnExactParentOfRow.domain false) (Rows.fnExactParentOfSpec.post enc Tryz.prog Tryz.f5 false true false false):=by
  refine returnsInHanded_of_change (C:=Tryz.checked) own started (by kernel_rfl) Tryz.func5
    (ChangeSpec.witness6 (enc:=enc) (C:=Tryz.checked) false ⟨#[],#[.agg #[.slice none 0 0,.slice none 0 0,.slice none 0 0]],[]⟩ 8 (by kernel_rfl) (by kernel_rfl) (by kernel_rfl) (by kernel_rfl)) ?_
  intro W base args ds gs before hval0 hW hcnd _
  have hval:∀(j:Nat) t v,Tryz.f5.params[j]? =some t→args[j]? =some v→Value.okWide Tryz.prog W .any base t v:=hval0
  have hW':=hW
  obtain⟨p,q,hA0,hV,rfl,hfz,hnd⟩:=hW
  have hA:DataW.TrodAll enc Tryz.prog W 0 (fun _=>true) true Tryz.f5.params.toList args.toList ds p:=hA0
  rw[Tryz.params5]at hA hval
  obtain⟨v0,vs0,d0,ds0,p0,q0,hargs,rfl,rfl,h0,r0⟩:=trodAll_cons hA
  obtain⟨rfl,rfl,rfl⟩:=trodAll_nil r0
  obtain rfl:args=#[v0]:=by cases args;simp_all
  obtain⟨rfl,rfl⟩:=trodVars_none hV
  have k0:=h0
  have lt0:∀x∈p0,x.block<W.heap.size:=by obtain⟨m,hm⟩:=k0;exact DataW.trod_lt m _ _ _ hm
  obtain⟨x00,x01,x02,y00,y01,y02,n0,rfl,_,_,g00,g01,g02⟩:=Joins.open_agg3 Tryz.underlying28 (by kernel_rfl) (by kernel_rfl) (hval 0 28 v0 rfl rfl) h0
  obtain⟨a00,R00,ok00⟩:=rd_ints Tryz.underlying25 Tryz.underlying2 (by kernel_rfl) g00
  obtain⟨a01,R01,ok01⟩:=rd_rows Tryz.underlying22 Tryz.underlying25 Tryz.underlying2 (by kernel_rfl) (by kernel_rfl) g01
  obtain⟨a02,R02,ok02⟩:=rd_cubes Tryz.underlying26 Tryz.underlying22 Tryz.underlying25 Tryz.underlying2 (by kernel_rfl) (by kernel_rfl) (by kernel_rfl) g02
  have hR0:R noL W noM (prs a00 a01 a02) (.agg #[x00,x01,x02]):=by
    refine .g _ _ rfl ?_
    intro k x hk
    match k,hk with
    |0,hk=>cases hk;exact R00
    |1,hk=>cases hk;exact R01
    |2,hk=>cases hk;exact R02
  clear hA0 hval0
  refine(law_run (law_ParentOf a00 a01 a02 ok00 ok01 ok02) (us:=#[.agg #[x00,x01,x02]]) ⟨rfl,fun k x hk=>by
    match k,hk with
    |0,hk=>cases hk;exact hR0⟩).mono fun e W' ⟨he,bel⟩=> ?_
  subst he
  exact⟨_,rfl,_,_,_,[],_,[],hW',trodAll_mk1 (shut_bool Tryz.underlying4 _),(trodAll_cons_mk (Below.trod laidOut (by kernel_rfl) (of_decide_eq_true (by kernel_rfl)) k0 bel lt0) trodAll_mk0),rfl,bel.frame _,fun h=>by cases h⟩
theorem jfa:laidOutB Tryz.pinned.checked.prog=true:=by kernel_rfl
theorem jfb:mapsRowed Tryz.pinned.checked.prog=true:=by kernel_rfl
theorem jfc:(Rows.fnExactParentOfRow.inPlace==Program.inPlace Tryz.pinned.checked.prog 5)=true:=by kernel_rfl
theorem jfd:(Rows.fnExactParentOfRow.unfollowed==Program.unfollowed Tryz.pinned.checked.prog 5)=true:=by kernel_rfl
theorem jfe:(Rows.fnExactParentOfRow.recurses==Program.recurses Tryz.pinned.checked.prog 5)=true:=by kernel_rfl
theorem jfg:(Rows.fnExactParentOfRow.named==Program.varsNamed Tryz.pinned.checked.prog 5)=true:=by kernel_rfl
theorem jfh:Program.stopsHeard Tryz.pinned.checked.prog=true:=by kernel_rfl
theorem jfi:Program.mayEnter Tryz.pinned.checked.prog=true:=by kernel_rfl
theorem jfk:(Rows.fnExactParentOfRow.plainKeys==Program.plainKeys Tryz.pinned.checked.prog)=true:=by kernel_rfl
theorem jfl:(Rows.fnExactParentOfRow.lifted==Program.liftsFinal Tryz.pinned.checked.prog)=true:=by kernel_rfl
theorem closed:joinedFacts Tryz.pinned.checked.prog 5 Tryz.f5 Rows.fnExactParentOfSpec Rows.fnExactParentOfRow=true:=by
  unfold joinedFacts
  rw[jfa,jfb,jfc,jfd,jfe,jfg,jfh,jfi,jfk,jfl]
  kernel_rfl
theorem over:Rows.fnExactParentOfRow.holds Tryz.pinned (OpenSpec.ofChange Rows.fnExactParentOfSpec):=
  OpenClaim.holds_of_wide 5 Tryz.f5 rfl rfl rfl rfl rfl rfl rfl ⟨rfl,rfl,rfl,rfl,rfl⟩ rfl rfl rfl rfl rfl (by kernel_rfl) Tryz.func5 closed
    (of_decide_eq_true (by kernel_rfl)) (by unfold Func.isWrapper;first|(rw[if_pos (by decide+kernel)];kernel_rfl)|(rw[if_neg (by decide+kernel)];exact⟨rfl,rfl⟩))
    (fun os started H enc _=>lifted os started H enc)
theorem proved:Rows.FnExactParentOfSaid:=over
end Go.Proofs.YtnlfbimjcabgiaaGreat
