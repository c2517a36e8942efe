import Derived.Test.YteoeedlcpalgbaaDoorRows
import Derived.Test.YteoeedlcpalgbaaDoorTie
import Derived.Test.YteoeedlcpalgbaaDoorCards
import Derived.LaidMore
import Derived.Lay
import Derived.SevenTiedAt
import Derived.Stop.Joined
import Derived.WalkKit
import Derived.ProofKit
import Derived.OpenShut
import Derived.ShutString
import Derived.ChangeOld
import Derived.ChangeMaps5
import Derived.Below
import Derived.Test.YteoeedlcpalgbaaDoorZ34
set_option linter.unusedVariables false
set_option linter.unusedSimpArgs false
namespace Go.Proofs.YteoeedlcpalgbaaDoor
open Go.ChangeShapes Go.WideShapes Go.ChangeAt Go.RowKit
theorem own:ownKnob Tryd.prog.godebug=none:=by kernel_rfl
theorem laidOut:laidOutB Tryd.prog=true:=by kernel_rfl
theorem door_met (os:Os) (args:Array Value):laidMetH Tryd.prog Rows.fnExactPlaceOfNameRow.laid ((World.laidAll Tryd.prog os Rows.fnExactPlaceOfNameRow.laid).forCall (fun _ _=>0) ⟨#[],args,[]⟩).memory:=by
  rw[MakeChecks.laidMetH_plain _ _ _ (by kernel_rfl)]
  exact laidMet_laidAll _ (by kernel_rfl) (by kernel_rfl)
set_option maxRecDepth 100000 in
theorem lifted (os:Os) (started:os.Started) (H:Type) (enc:TypeId×Value→H):
    ReturnsInHanded {} Tryd.checked os 4 .any (fun w args=>(Rows.fnExactPlaceOfNameSpec.pre enc Tryd.prog Tryd.f4 Rows.fnExactPlaceOfNameRow.domain false w args∧laidMetH Tryd.prog Rows.fnExactPlaceOfNameRow.laid w)∧sizedMet enc Tryd.prog Tryd.f4 (OpenSpec.ofChange Rows.fnExactPlaceOfNameSpec) false w args)
      (Rows.fnExactPlaceOfNameSpec.post enc Tryd.prog Tryd.f4 false true false false):=by
  refine returnsInHanded_of_change_and (C:=Tryd.checked) (X:=fun w _=>laidMetH Tryd.prog Rows.fnExactPlaceOfNameRow.laid w) (fun _ _ _ hh h=>h.of_heap hh) own started (by kernel_rfl) Tryd.func4
    (ChangeSpec.witness_shaped (enc:=enc) (C:=Tryd.checked) (os:=os) (X:=fun w _=>laidMetH Tryd.prog Rows.fnExactPlaceOfNameRow.laid w) false (World.laidAll Tryd.prog os Rows.fnExactPlaceOfNameRow.laid) #[.string ⟨#[]⟩] 8 (World.laidAll_os _ _ _) (World.shaped_of_ZipB (by kernel_rfl) (by kernel_rfl)) (by kernel_rfl) (by kernel_rfl) (by kernel_rfl) (door_met os _)) ?_
  intro W base args ds gs before hval0 hW hcnd _ hL _
  have hval:∀(j:Nat) t v,Tryd.f4.params[j]? =some t→args[j]? =some v→Value.okWide Tryd.prog W .any base t v:=hval0
  have hW':=hW
  obtain⟨p,q,hA0,hV,rfl,hfz,hnd⟩:=hW
  have hA:DataW.TrodAll enc Tryd.prog W 0 (fun _=>true) true Tryd.f4.params.toList args.toList ds p:=hA0
  rw[Tryd.params4]at hA hval
  obtain⟨v0,vs0,d0,ds0,p0,q0,hargs,rfl,rfl,h0,r0⟩:=trodAll_cons hA
  obtain⟨rfl,rfl,rfl⟩:=trodAll_nil r0
  obtain rfl:args=#[v0]:=by cases args;simp_all
  obtain⟨rfl,rfl⟩:=trodVars_none hV
  have k0:=h0
  have lt0:∀x∈p0,x.block<W.heap.size:=by obtain⟨m,hm⟩:=k0;exact DataW.trod_lt m _ _ _ hm
  obtain⟨a0,rfl,rfl,rfl,ok0⟩:=Go.ChangeMaps.open_string Tryd.underlying9 (hval 0 9 v0 rfl rfl) h0
  clear hA0 hval0
  refine(law_run (law_PlaceOfName a0 ok0) (us:=#[.string a0]) ⟨rfl,fun k x hk=>by
    match k,hk with
    |0,hk=>cases hk;exact .s a0⟩).mono fun e W' ⟨he,bel⟩=> ?_
  subst he
  exact⟨_,rfl,_,_,_,[],_,[],hW',trodAll_mk1 (shut_bool Tryd.underlying4 _),(trodAll_cons_mk (Below.trod laidOut (by kernel_rfl) (of_decide_eq_true (by kernel_rfl)) k0 bel lt0) trodAll_mk0),rfl,bel.frame _,fun h=>by cases h⟩
theorem jfa:laidOutB Tryd.pinned.checked.prog=true:=by kernel_rfl
theorem jfb:mapsRowed Tryd.pinned.checked.prog=true:=by kernel_rfl
theorem jfc:(Rows.fnExactPlaceOfNameRow.inPlace==Program.inPlace Tryd.pinned.checked.prog 4)=true:=by kernel_rfl
theorem jfd:(Rows.fnExactPlaceOfNameRow.unfollowed==Program.unfollowed Tryd.pinned.checked.prog 4)=true:=by kernel_rfl
theorem jfe:(Rows.fnExactPlaceOfNameRow.recurses==Program.recurses Tryd.pinned.checked.prog 4)=true:=by kernel_rfl
theorem jfg:(Rows.fnExactPlaceOfNameRow.named==Program.varsNamed Tryd.pinned.checked.prog 4)=true:=by kernel_rfl
theorem jfh:Program.stopsHeard Tryd.pinned.checked.prog=true:=by kernel_rfl
theorem jfi:Program.mayEnter Tryd.pinned.checked.prog=true:=by kernel_rfl
theorem jfk:(Rows.fnExactPlaceOfNameRow.plainKeys==Program.plainKeys Tryd.pinned.checked.prog)=true:=by kernel_rfl
theorem jfl:(Rows.fnExactPlaceOfNameRow.lifted==Program.liftsFinal Tryd.pinned.checked.prog)=true:=by kernel_rfl
theorem closed:joinedFacts Tryd.pinned.checked.prog 4 Tryd.f4 Rows.fnExactPlaceOfNameSpec Rows.fnExactPlaceOfNameRow=true:=by
  unfold joinedFacts
  rw[jfa,jfb,jfc,jfd,jfe,jfg,jfh,jfi,jfk,jfl]
  kernel_rfl
theorem over:Rows.fnExactPlaceOfNameRow.holds Tryd.pinned (OpenSpec.ofChange Rows.fnExactPlaceOfNameSpec):=
  OpenClaim.holds_of_wide 4 Tryd.f4 rfl rfl rfl rfl rfl rfl rfl ⟨rfl,rfl,rfl,rfl,rfl⟩ rfl rfl rfl rfl rfl (by kernel_rfl) Tryd.func4 closed
    (of_decide_eq_true (by kernel_rfl)) (by unfold Func.isWrapper;first|(rw[if_pos (by decide+kernel)];kernel_rfl)|(rw[if_neg (by decide+kernel)];exact⟨rfl,rfl⟩))
    (fun os started H enc _=>lifted os started H enc)
theorem proved:Rows.FnExactPlaceOfNameCardSaid:=
  Claim7.holds_tied_plain_at .later [] [.data,.data,.data,.data,.sentinel,.sentinel,.pinned] true (true, "db217dca3c511c58c65f155c1f174c82cdebe3bab6bdb7a5868f8c9e6efd82b2") true
    over (fun _ h=>by cases h) (by kernel_rfl) (fun _ h=>by cases h) fnExactPlaceOfName_row_tie rfl ⟨rfl,rfl⟩ (by kernel_rfl) rfl
    (fun f fn hf hfn=>by
      obtain rfl:f=4:=Option.some.inj ((show Tryd.prog.funcNamed "loop.example/g01076/laws.FnExactPlaceOfName" =some 4 by kernel_rfl).symm.trans hf)|>.symm
      obtain rfl:fn=Tryd.f4:=(Option.some.inj (Tryd.func4.symm.trans hfn)).symm
      exact⟨by kernel_rfl,fun j t ht=>by
        rw[Tryd.params4]at ht
        have hm:t∈ [9]:=by simpa using Array.mem_of_getElem? ht
        have hall:([9].all fun u=> !Tryd.prog.wantsStandIn u)=true:=by kernel_rfl
        exact(show Tryd.prog.wantsStandIn t=false by simpa using List.all_eq_true.1 hall t hm)⟩)
    (by kernel_rfl)
end Go.Proofs.YteoeedlcpalgbaaDoor
