import Derived.Test.YteoeedlcpalgbaaDoorRows
import Derived.Test.YteoeedlcpalgbaaDoorTie
import Derived.Test.YteoeedlcpalgbaaDoorCards
import Derived.LaidMore
import Derived.Lay
import Derived.SevenTiedAt
import Derived.Stop.Joined
import Derived.WalkKit
import Derived.ProofKit
import Derived.OpenShut
import Derived.ShutString
import Derived.ChangeOld
import Derived.Below
import Derived.Test.YteoeedlcpalgbaaDoorZ36
set_option linter.unusedVariables false
set_option linter.unusedSimpArgs false
namespace Go.Proofs.YteoeedlcpalgbaaDoor
open Go.ChangeShapes Go.WideShapes Go.ChangeAt Go.RowKit
theorem own:ownKnob Tryd.prog.godebug=none:=by kernel_rfl
theorem laidOut:laidOutB Tryd.prog=true:=by kernel_rfl
theorem door_met (os:Os) (args:Array Value):laidMetH Tryd.prog Rows.fnExactListedOrdersRow.laid ((World.laidAll Tryd.prog os Rows.fnExactListedOrdersRow.laid).forCall (fun _ _=>0) ⟨#[],args,[]⟩).memory:=by
  rw[MakeChecks.laidMetH_plain _ _ _ (by kernel_rfl)]
  exact laidMet_laidAll _ (by kernel_rfl) (by kernel_rfl)
set_option maxRecDepth 100000 in
theorem lifted (os:Os) (started:os.Started) (H:Type) (enc:TypeId×Value→H):
    ReturnsInHanded {} Tryd.checked os 6 .any (fun w args=>(Rows.fnExactListedOrdersSpec.pre enc Tryd.prog Tryd.f6 Rows.fnExactListedOrdersRow.domain false w args∧laidMetH Tryd.prog Rows.fnExactListedOrdersRow.laid w)∧sizedMet enc Tryd.prog Tryd.f6 (OpenSpec.ofChange Rows.fnExactListedOrdersSpec) false w args)
      (Rows.fnExactListedOrdersSpec.post enc Tryd.prog Tryd.f6 false true false false):=by
  refine returnsInHanded_of_change_and (C:=Tryd.checked) (X:=fun w _=>laidMetH Tryd.prog Rows.fnExactListedOrdersRow.laid w) (fun _ _ _ hh h=>h.of_heap hh) own started (by kernel_rfl) Tryd.func6
    (ChangeSpec.witness_shaped (enc:=enc) (C:=Tryd.checked) (os:=os) (X:=fun w _=>laidMetH Tryd.prog Rows.fnExactListedOrdersRow.laid w) false (World.laidAll Tryd.prog os Rows.fnExactListedOrdersRow.laid) #[] 8 (World.laidAll_os _ _ _) (World.shaped_of_ZipB (by kernel_rfl) (by kernel_rfl)) (by kernel_rfl) (by kernel_rfl) (by kernel_rfl) (door_met os _)) ?_
  intro W base args ds gs before hval0 hW hcnd _ hL _
  have hval:∀(j:Nat) t v,Tryd.f6.params[j]? =some t→args[j]? =some v→Value.okWide Tryd.prog W .any base t v:=hval0
  have hW':=hW
  obtain⟨p,q,hA0,hV,rfl,hfz,hnd⟩:=hW
  have hA:DataW.TrodAll enc Tryd.prog W 0 (fun _=>true) true Tryd.f6.params.toList args.toList ds p:=hA0
  rw[Tryd.params6]at hA hval
  obtain⟨hargs,rfl,rfl⟩:=trodAll_nil hA
  obtain rfl:args=#[]:=by cases args;simp_all
  obtain⟨rfl,rfl⟩:=trodVars_none hV
  clear hA0 hval0
  refine(law_run (law_ListedOrders) (us:=#[]) ⟨rfl,fun k x hk=>by
    simp at hk⟩).mono fun e W' ⟨he,bel⟩=> ?_
  subst he
  exact⟨_,rfl,_,_,_,[],_,[],hW',trodAll_mk1 (shut_bool Tryd.underlying4 _),trodAll_mk0,rfl,bel.frame _,fun h=>by cases h⟩
theorem jfa:laidOutB Tryd.pinned.checked.prog=true:=by kernel_rfl
theorem jfb:mapsRowed Tryd.pinned.checked.prog=true:=by kernel_rfl
theorem jfc:(Rows.fnExactListedOrdersRow.inPlace==Program.inPlace Tryd.pinned.checked.prog 6)=true:=by kernel_rfl
theorem jfd:(Rows.fnExactListedOrdersRow.unfollowed==Program.unfollowed Tryd.pinned.checked.prog 6)=true:=by kernel_rfl
theorem jfe:(Rows.fnExactListedOrdersRow.recurses==Program.recurses Tryd.pinned.checked.prog 6)=true:=by kernel_rfl
theorem jfg:(Rows.fnExactListedOrdersRow.named==Program.varsNamed Tryd.pinned.checked.prog 6)=true:=by kernel_rfl
theorem jfh:Program.stopsHeard Tryd.pinned.checked.prog=true:=by kernel_rfl
theorem jfi:Program.mayEnter Tryd.pinned.checked.prog=true:=by kernel_rfl
theorem jfk:(Rows.fnExactListedOrdersRow.plainKeys==Program.plainKeys Tryd.pinned.checked.prog)=true:=by kernel_rfl
theorem jfl:(Rows.fnExactListedOrdersRow.lifted==Program.liftsFinal Tryd.pinned.checked.prog)=true:=by kernel_rfl
theorem closed:joinedFacts Tryd.pinned.checked.prog 6 Tryd.f6 Rows.fnExactListedOrdersSpec Rows.fnExactListedOrdersRow=true:=by
  unfold joinedFacts
  rw[jfa,jfb,jfc,jfd,jfe,jfg,jfh,jfi,jfk,jfl]
  kernel_rfl
theorem over:Rows.fnExactListedOrdersRow.holds Tryd.pinned (OpenSpec.ofChange Rows.fnExactListedOrdersSpec):=
  OpenClaim.holds_of_wide 6 Tryd.f6 rfl rfl rfl rfl rfl rfl rfl ⟨rfl,rfl,rfl,rfl,rfl⟩ rfl rfl rfl rfl rfl (by kernel_rfl) Tryd.func6 closed
    (of_decide_eq_true (by kernel_rfl)) (by unfold Func.isWrapper;first|(rw[if_pos (by decide+kernel)];kernel_rfl)|(rw[if_neg (by decide+kernel)];exact⟨rfl,rfl⟩))
    (fun os started H enc _=>lifted os started H enc)
theorem proved:Rows.FnExactListedOrdersCardSaid:=
  Claim7.holds_tied_plain_at .later [] [.data,.data,.data,.data,.sentinel,.sentinel,.pinned] true (true, "db217dca3c511c58c65f155c1f174c82cdebe3bab6bdb7a5868f8c9e6efd82b2") true
    over (fun _ h=>by cases h) (by kernel_rfl) (fun _ h=>by cases h) fnExactListedOrders_row_tie rfl ⟨rfl,rfl⟩ (by kernel_rfl) rfl
    (fun f fn hf hfn=>by
      obtain rfl:f=6:=Option.some.inj ((show Tryd.prog.funcNamed "loop.example/g01076/laws.FnExactListedOrders" =some 6 by kernel_rfl).symm.trans hf)|>.symm
      obtain rfl:fn=Tryd.f6:=(Option.some.inj (Tryd.func6.symm.trans hfn)).symm
      exact⟨by kernel_rfl,fun j t ht=>by
        rw[Tryd.params6]at ht
        simp at ht⟩)
    (by kernel_rfl)
end Go.Proofs.YteoeedlcpalgbaaDoor
