import Derived.Test.YteoeedlcpalgbaaDoorRows
import Derived.Test.YteoeedlcpalgbaaDoorTie
import Derived.Test.YteoeedlcpalgbaaDoorCards
import Derived.LaidMore
import Derived.SevenTiedAt
import Derived.Stop.Joined
import Derived.WalkKit
import Derived.ProofKit
import Derived.OpenShut
import Derived.ShutString
import Derived.ChangeOld
import Derived.Below
import Derived.Test.YteoeedlcpalgbaaDoorZ30
set_option linter.unusedVariables false
set_option linter.unusedSimpArgs false
namespace Go.Proofs.YteoeedlcpalgbaaDoor
open Go.ChangeShapes Go.WideShapes Go.ChangeAt Go.RowKit
theorem own:ownKnob Tryd.prog.godebug=none:=by kernel_rfl
theorem laidOut:laidOutB Tryd.prog=true:=by kernel_rfl
theorem door_met (os:Os) (args:Array Value):laidMetH Tryd.prog Rows.fnExactFpTextRow.laid ((World.doorLaid Tryd.prog 72 os).forCall (fun _ _=>0) ⟨#[],args,[]⟩).memory:=
  laidMetH_of_parts3 (fuel:=8) (laidMet_of_run' 8 (by kernel_rfl) (by kernel_rfl)) (by kernel_rfl) (by kernel_rfl)
set_option maxRecDepth 100000 in
theorem lifted (os:Os) (started:os.Started) (H:Type) (enc:TypeId×Value→H):
    ReturnsInHanded {} Tryd.checked os 3 .any (fun w args=>(Rows.fnExactFpTextSpec.pre enc Tryd.prog Tryd.f3 Rows.fnExactFpTextRow.domain false w args∧laidMetH Tryd.prog Rows.fnExactFpTextRow.laid w)∧sizedMet enc Tryd.prog Tryd.f3 (OpenSpec.ofChange Rows.fnExactFpTextSpec) false w args)
      (Rows.fnExactFpTextSpec.post enc Tryd.prog Tryd.f3 false true false false):=by
  refine returnsInHanded_of_change_and (C:=Tryd.checked) (X:=fun w _=>laidMetH Tryd.prog Rows.fnExactFpTextRow.laid w) (fun _ _ _ hh h=>h.of_heap hh) own started (by kernel_rfl) Tryd.func3
    (ChangeSpec.witness_shaped (enc:=enc) (C:=Tryd.checked) (os:=os) (X:=fun w _=>laidMetH Tryd.prog Rows.fnExactFpTextRow.laid w) false (World.doorLaid Tryd.prog 72 os) #[.agg #[.int .i64 0,.slice none 0 0]] 8 rfl (World.shaped_of_RefB (by kernel_rfl) (by kernel_rfl)) (by kernel_rfl) (by kernel_rfl) (by kernel_rfl) (door_met os _)) ?_
  intro W base args ds gs before hval0 hW hcnd _ hL _
  have hval:∀(j:Nat) t v,Tryd.f3.params[j]? =some t→args[j]? =some v→Value.okWide Tryd.prog W .any base t v:=hval0
  have hW':=hW
  obtain⟨p,q,hA0,hV,rfl,hfz,hnd⟩:=hW
  have hA:DataW.TrodAll enc Tryd.prog W 0 (fun _=>true) true Tryd.f3.params.toList args.toList ds p:=hA0
  rw[Tryd.params3]at hA hval
  obtain⟨v0,vs0,d0,ds0,p0,q0,hargs,rfl,rfl,h0,r0⟩:=trodAll_cons hA
  obtain⟨rfl,rfl,rfl⟩:=trodAll_nil r0
  obtain rfl:args=#[v0]:=by cases args;simp_all
  obtain⟨rfl,rfl⟩:=trodVars_none hV
  have k0:=h0
  have lt0:∀x∈p0,x.block<W.heap.size:=by obtain⟨m,hm⟩:=k0;exact DataW.trod_lt m _ _ _ hm
  obtain⟨x00,x01,y00,y01,n0,rfl,_,_,g00,g01⟩:=Joins.open_agg2 Tryd.underlying24 (by kernel_rfl) (by kernel_rfl) (hval 0 24 v0 rfl rfl) h0
  obtain⟨a00,R00,ok00⟩:=rd_int Tryd.underlying2 g00
  obtain⟨a01,R01,ok01⟩:=rd_rows Tryd.underlying22 Tryd.underlying38 Tryd.underlying2 (by kernel_rfl) (by kernel_rfl) g01
  have hR0:R noL W noM (fp a00 a01) (.agg #[x00,x01]):=by
    refine .g _ _ rfl ?_
    intro k x hk
    match k,hk with
    |0,hk=>cases hk;exact R00
    |1,hk=>cases hk;exact R01
  clear hA0 hval0
  refine(law_run (law_FpText a00 a01 ok00 ok01) (us:=#[.agg #[x00,x01]]) ⟨rfl,fun k x hk=>by
    match k,hk with
    |0,hk=>cases hk;exact hR0⟩).mono fun e W' ⟨he,bel⟩=> ?_
  subst he
  exact⟨_,rfl,_,_,_,[],_,[],hW',trodAll_mk1 (shut_bool Tryd.underlying4 _),(trodAll_cons_mk (Below.trod laidOut (by kernel_rfl) (of_decide_eq_true (by kernel_rfl)) k0 bel lt0) trodAll_mk0),rfl,bel.frame _,fun h=>by cases h⟩
theorem jfa:laidOutB Tryd.pinned.checked.prog=true:=by kernel_rfl
theorem jfb:mapsRowed Tryd.pinned.checked.prog=true:=by kernel_rfl
theorem jfc:(Rows.fnExactFpTextRow.inPlace==Program.inPlace Tryd.pinned.checked.prog 3)=true:=by kernel_rfl
theorem jfd:(Rows.fnExactFpTextRow.unfollowed==Program.unfollowed Tryd.pinned.checked.prog 3)=true:=by kernel_rfl
theorem jfe:(Rows.fnExactFpTextRow.recurses==Program.recurses Tryd.pinned.checked.prog 3)=true:=by kernel_rfl
theorem jfg:(Rows.fnExactFpTextRow.named==Program.varsNamed Tryd.pinned.checked.prog 3)=true:=by kernel_rfl
theorem jfh:Program.stopsHeard Tryd.pinned.checked.prog=true:=by kernel_rfl
theorem jfi:Program.mayEnter Tryd.pinned.checked.prog=true:=by kernel_rfl
theorem jfk:(Rows.fnExactFpTextRow.plainKeys==Program.plainKeys Tryd.pinned.checked.prog)=true:=by kernel_rfl
theorem jfl:(Rows.fnExactFpTextRow.lifted==Program.liftsFinal Tryd.pinned.checked.prog)=true:=by kernel_rfl
theorem closed:joinedFacts Tryd.pinned.checked.prog 3 Tryd.f3 Rows.fnExactFpTextSpec Rows.fnExactFpTextRow=true:=by
  unfold joinedFacts
  rw[jfa,jfb,jfc,jfd,jfe,jfg,jfh,jfi,jfk,jfl]
  kernel_rfl
theorem over:Rows.fnExactFpTextRow.holds Tryd.pinned (OpenSpec.ofChange Rows.fnExactFpTextSpec):=
  OpenClaim.holds_of_wide 3 Tryd.f3 rfl rfl rfl rfl rfl rfl rfl ⟨rfl,rfl,rfl,rfl,rfl⟩ rfl rfl rfl rfl rfl (by kernel_rfl) Tryd.func3 closed
    (of_decide_eq_true (by kernel_rfl)) (by unfold Func.isWrapper;first|(rw[if_pos (by decide+kernel)];kernel_rfl)|(rw[if_neg (by decide+kernel)];exact⟨rfl,rfl⟩))
    (fun os started H enc _=>lifted os started H enc)
theorem proved:Rows.FnExactFpTextCardSaid:=
  Claim7.holds_tied_plain_at .later [] [.data,.data,.data] true (true, "db217dca3c511c58c65f155c1f174c82cdebe3bab6bdb7a5868f8c9e6efd82b2") true
    over (fun _ h=>by cases h) (by kernel_rfl) (fun _ h=>by cases h) fnExactFpText_row_tie rfl ⟨rfl,rfl⟩ (by kernel_rfl) rfl
    (fun f fn hf hfn=>by
      obtain rfl:f=3:=Option.some.inj ((show Tryd.prog.funcNamed "loop.example/g01076/laws.FnExactFpText" =some 3 by kernel_rfl).symm.trans hf)|>.symm
      obtain rfl:fn=Tryd.f3:=(Option.some.inj (Tryd.func3.symm.trans hfn)).symm
      exact⟨by kernel_rfl,fun j t ht=>by
        rw[Tryd.params3]at ht
        have hm:t∈ [24]:=by simpa using Array.mem_of_getElem? ht
        have hall:([24].all fun u=> !Tryd.prog.wantsStandIn u)=true:=by kernel_rfl
        exact(show Tryd.prog.wantsStandIn t=false by simpa using List.all_eq_true.1 hall t hm)⟩)
    (by kernel_rfl)
end Go.Proofs.YteoeedlcpalgbaaDoor
