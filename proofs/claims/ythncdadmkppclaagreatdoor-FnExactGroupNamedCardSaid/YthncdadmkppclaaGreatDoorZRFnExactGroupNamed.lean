import Derived.Test.YthncdadmkppclaaGreatDoorRows
import Derived.Test.YthncdadmkppclaaGreatDoorTie
import Derived.Test.YthncdadmkppclaaGreatDoorCards
import Derived.LaidMore
import Derived.Lay
import Derived.SevenTiedAt
import Derived.Stop.Joined
import Derived.WalkKit
import Derived.ProofKit
import Derived.OpenShut
import Derived.ShutString
import Derived.ChangeOld
import Derived.ChangeMaps5
import Derived.Below
import Derived.Test.YthncdadmkppclaaGreatDoorZ52
set_option linter.unusedVariables false
set_option linter.unusedSimpArgs false
namespace Go.Proofs.YthncdadmkppclaaGreatDoor
open Go.ChangeShapes Go.WideShapes Go.ChangeAt Go.RowKit
theorem own:ownKnob Tryz.prog.godebug=none:=by kernel_rfl
theorem laidOut:laidOutB Tryz.prog=true:=by kernel_rfl
theorem door_met (os:Os) (args:Array Value):laidMetH Tryz.prog Rows.fnExactGroupNamedRow.laid ((World.laidAll Tryz.prog os Rows.fnExactGroupNamedRow.laid).forCall (fun _ _=>0) ⟨#[],args,[]⟩).memory:=by
  rw[MakeChecks.laidMetH_plain _ _ _ (by kernel_rfl)]
  exact laidMet_laidAll _ (by kernel_rfl) (by kernel_rfl)
set_option maxRecDepth 100000 in
theorem lifted (os:Os) (started:os.Started) (H:Type) (enc:TypeId×Value→H):
    ReturnsInHanded {} Tryz.checked os 4 .any (fun w args=>(Rows.fnExactGroupNamedSpec.pre enc Tryz.prog Tryz.f4 Rows.fnExactGroupNamedRow.domain false w args∧laidMetH Tryz.prog Rows.fnExactGroupNamedRow.laid w)∧sizedMet enc Tryz.prog Tryz.f4 (OpenSpec.ofChange Rows.fnExactGroupNamedSpec) false w args)
      (Rows.fnExactGroupNamedSpec.post enc Tryz.prog Tryz.f4 false true false false):=by
  refine row_wrap (C:=Tryz.checked) (X:=fun w _=>laidMetH Tryz.prog Rows.fnExactGroupNamedRow.laid w) (fun _ _ _ hh h=>h.of_heap hh) own started (by kernel_rfl) Tryz.func4
    (ChangeSpec.witness_shaped (enc:=enc) (C:=Tryz.checked) (os:=os) (X:=fun w _=>laidMetH Tryz.prog Rows.fnExactGroupNamedRow.laid w) false (World.laidAll Tryz.prog os Rows.fnExactGroupNamedRow.laid) #[.string ⟨#[]⟩] 8 (World.laidAll_os _ _ _) (World.shaped_of_ZipB (by kernel_rfl) (by kernel_rfl)) (by kernel_rfl) (by kernel_rfl) (by kernel_rfl) (door_met os _)) ?_
  intro W base args ds gs before hval0 hW hcnd hL hsh
  have hval:∀(j:Nat) t v,Tryz.f4.params[j]? =some t→args[j]? =some v→Value.okWide Tryz.prog W .any base t v:=hval0
  have hW':=hW
  obtain⟨p,q,hA0,hV,rfl,hfz,hnd⟩:=hW
  have hA:DataW.TrodAll enc Tryz.prog W 0 (fun _=>true) true Tryz.f4.params.toList args.toList ds p:=hA0
  rw[Tryz.params4]at hA hval
  obtain⟨v0,vs0,d0,ds0,p0,q0,hargs,rfl,rfl,h0,r0⟩:=trodAll_cons hA
  obtain⟨rfl,rfl,rfl⟩:=trodAll_nil r0
  obtain rfl:args=#[v0]:=by cases args;simp_all
  obtain⟨rfl,rfl⟩:=trodVars_none hV
  have k0:=h0
  have lt0:∀x∈p0,x.block<W.heap.size:=by obtain⟨m,hm⟩:=k0;exact DataW.trod_lt m _ _ _ hm
  obtain⟨a0,rfl,rfl,rfl,ok0⟩:=Go.ChangeMaps.open_string Tryz.underlying9 (hval 0 9 v0 rfl rfl) h0
  clear hA0 hval0
  refine(law_runW (maxLen_gv hsh) (law_GroupNamed a0 ok0) (us:=#[.string a0]) ⟨rfl,fun k x hk=>by
    match k,hk with
    |0,hk=>cases hk;exact .s a0⟩).mono fun e W' ⟨he,bel⟩=> ?_
  subst he
  exact⟨_,rfl,_,_,_,[],_,[],hW',trodAll_mk1 (shut_bool Tryz.underlying4 _),(trodAll_cons_mk (Below.trod laidOut (by kernel_rfl) (of_decide_eq_true (by kernel_rfl)) k0 bel lt0) trodAll_mk0),rfl,bel.frame _,fun h=>by cases h⟩
theorem jfa:laidOutB Tryz.pinned.checked.prog=true:=by kernel_rfl
theorem jfb:mapsRowed Tryz.pinned.checked.prog=true:=by kernel_rfl
theorem jfc:(Rows.fnExactGroupNamedRow.inPlace==Program.inPlace Tryz.pinned.checked.prog 4)=true:=by kernel_rfl
theorem jfd:(Rows.fnExactGroupNamedRow.unfollowed==Program.unfollowed Tryz.pinned.checked.prog 4)=true:=by kernel_rfl
theorem jfe:(Rows.fnExactGroupNamedRow.recurses==Program.recurses Tryz.pinned.checked.prog 4)=true:=by kernel_rfl
theorem jfg:(Rows.fnExactGroupNamedRow.named==Program.varsNamed Tryz.pinned.checked.prog 4)=true:=by kernel_rfl
theorem jfh:Program.stopsHeard Tryz.pinned.checked.prog=true:=by kernel_rfl
theorem jfi:Program.mayEnter Tryz.pinned.checked.prog=true:=by kernel_rfl
theorem jfk:(Rows.fnExactGroupNamedRow.plainKeys==Program.plainKeys Tryz.pinned.checked.prog)=true:=by kernel_rfl
theorem jfl:(Rows.fnExactGroupNamedRow.lifted==Program.liftsFinal Tryz.pinned.checked.prog)=true:=by kernel_rfl
theorem closed:joinedFacts Tryz.pinned.checked.prog 4 Tryz.f4 Rows.fnExactGroupNamedSpec Rows.fnExactGroupNamedRow=true:=by
  unfold joinedFacts
  rw[jfa,jfb,jfc,jfd,jfe,jfg,jfh,jfi,jfk,jfl]
  kernel_rfl
theorem over:Rows.fnExactGroupNamedRow.holds Tryz.pinned (OpenSpec.ofChange Rows.fnExactGroupNamedSpec):=
  OpenClaim.holds_of_wide 4 Tryz.f4 rfl rfl rfl rfl rfl rfl rfl ⟨rfl,rfl,rfl,rfl,rfl⟩ rfl rfl rfl rfl rfl (by kernel_rfl) Tryz.func4 closed
    (of_decide_eq_true (by kernel_rfl)) (by unfold Func.isWrapper;first|(rw[if_pos (by decide+kernel)];kernel_rfl)|(rw[if_neg (by decide+kernel)];exact⟨rfl,rfl⟩))
    (fun os started H enc _=>lifted os started H enc)
theorem proved:Rows.FnExactGroupNamedCardSaid:=
  Claim7.holds_tied_plain_at .later [] [.data,.data,.data,.data,.sentinel,.sentinel,.pinned] true (true, "29bcbb80285117db71314188905a371c12e21590047825fe4203b878385f2dfc") true
    over (fun _ h=>by cases h) (by kernel_rfl) (fun _ h=>by cases h) fnExactGroupNamed_row_tie rfl ⟨rfl,rfl⟩ (by kernel_rfl) rfl
    (fun f fn hf hfn=>by
      obtain rfl:f=4:=Option.some.inj ((show Tryz.prog.funcNamed "loop.example/g01076/laws.FnExactGroupNamed" =some 4 by kernel_rfl).symm.trans hf)|>.symm
      obtain rfl:fn=Tryz.f4:=(Option.some.inj (Tryz.func4.symm.trans hfn)).symm
      exact⟨by kernel_rfl,fun j t ht=>by
        rw[Tryz.params4]at ht
        have hm:t∈ [9]:=by simpa using Array.mem_of_getElem? ht
        have hall:([9].all fun u=> !Tryz.prog.wantsStandIn u)=true:=by kernel_rfl
        exact(show Tryz.prog.wantsStandIn t=false by simpa using List.all_eq_true.1 hall t hm)⟩)
    (by kernel_rfl)
end Go.Proofs.YthncdadmkppclaaGreatDoor
