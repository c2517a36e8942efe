import Derived.Test.YtlcddiojeghfgaaGreatDoorRows
import Derived.Test.YtlcddiojeghfgaaGreatDoorTie
import Derived.Test.YtlcddiojeghfgaaGreatDoorCards
import Derived.LaidMore
import Derived.Lay
import Derived.SevenTiedAt
import Derived.Stop.Joined
import Derived.Stop.LaidErr
import Derived.WalkKit
import Derived.ProofKit
import Derived.OpenShut
import Derived.ShutString
import Derived.ChangeOld
import Derived.Below
import Derived.Test.YtlcddiojeghfgaaGreatDoorZ52
set_option linter.unusedVariables false
set_option linter.unusedSimpArgs false
namespace Go.Proofs.YtlcddiojeghfgaaGreatDoor
open Go.ChangeShapes Go.WideShapes Go.ChangeAt Go.RowKit
theorem own:ownKnob Tryz.prog.godebug=none:=by kernel_rfl
theorem laidOut:laidOutB Tryz.prog=true:=by kernel_rfl
theorem rowES (u:TypeId) (h:Tryz.prog.typeName? 3 u=some "*errors.errorString"):u=131:=
  typeName_ptr_named (nm:= "errors.errorString") (by rw[show "*" ++ "errors.errorString" = "*errors.errorString" by decide];kernel_rfl) (by kernel_rfl) (by decide) u (by rw[show "*" ++ "errors.errorString" = "*errors.errorString" by decide];exact h)
theorem GP.of {x:Nat×(Value→Prop)} {w:World} (h:∃v,w.cell? ⟨x.1,0,none⟩=some v∧x.2 v):GP x w:=by
  refine⟨?_,h⟩
  obtain⟨v,h,_⟩:=h
  apply Classical.byContradiction
  intro hn
  have:w.heap[x.1]? =none:=by rw[Array.getElem?_eq_none_iff];omega
  simp[World.cell?,this]at h
theorem gvs {W:World} (h:laidMetH Tryz.prog Rows.fnFpTextsRow.laid W):GVs erV W:=by
  rw[MakeChecks.laidMetH_plain _ _ _ (by kernel_rfl)]at h
  have h4:=laidMet.tail (laidMet.tail (laidMet.tail (laidMet.tail h)))
  obtain⟨a0,s0,hv0,-,-,-⟩:=laid_sentinel h4 (show Tryz.prog.globalNamed "strconv.ErrRange" =some 1 by kernel_rfl) (show(Tryz.prog.globals[1]?).map (·.type)=some 45 by kernel_rfl) Tryz.underlying45 rowES Tryz.underlying131 Tryz.underlying133 rfl rfl Tryz.underlying9 (by kernel_rfl) (by kernel_rfl)
  obtain⟨a1,s1,hv1,-,-,-⟩:=laid_sentinel (laidMet.tail h4) (show Tryz.prog.globalNamed "strconv.ErrSyntax" =some 0 by kernel_rfl) (show(Tryz.prog.globals[0]?).map (·.type)=some 45 by kernel_rfl) Tryz.underlying45 rowES Tryz.underlying131 Tryz.underlying133 rfl rfl Tryz.underlying9 (by kernel_rfl) (by kernel_rfl)
  intro x hx
  simp only[erV,List.mem_cons,List.not_mem_nil,or_false]at hx
  rcases hx with rfl|rfl
  · exact .of ⟨_,by have:=World.var?_cell (show Tryz.prog.globalNamed "strconv.ErrSyntax" =some 0 by kernel_rfl) hv1 0;simpa using this,.inr ⟨_,_,rfl⟩⟩
  · exact .of ⟨_,by have:=World.var?_cell (show Tryz.prog.globalNamed "strconv.ErrRange" =some 1 by kernel_rfl) hv0 0;simpa using this,.inr ⟨_,_,rfl⟩⟩
theorem door_met (os:Os) (args:Array Value):laidMetH Tryz.prog Rows.fnFpTextsRow.laid ((World.laidAll Tryz.prog os Rows.fnFpTextsRow.laid).forCall (fun _ _=>0) ⟨#[],args,[]⟩).memory:=by
  rw[MakeChecks.laidMetH_plain _ _ _ (by kernel_rfl)]
  exact laidMet_laidAll _ (by kernel_rfl) (by kernel_rfl)
set_option maxRecDepth 100000 in
theorem lifted (os:Os) (started:os.Started) (H:Type) (enc:TypeId×Value→H):
    ReturnsInHanded {} Tryz.checked os 3 .any (fun w args=>(Rows.fnFpTextsSpec.pre enc Tryz.prog Tryz.f3 Rows.fnFpTextsRow.domain false w args∧laidMetH Tryz.prog Rows.fnFpTextsRow.laid w)∧sizedMet enc Tryz.prog Tryz.f3 (OpenSpec.ofChange Rows.fnFpTextsSpec) false w args)
      (Rows.fnFpTextsSpec.post enc Tryz.prog Tryz.f3 false true false false):=by
  refine returnsInHanded_of_change_and (C:=Tryz.checked) (X:=fun w _=>laidMetH Tryz.prog Rows.fnFpTextsRow.laid w) (fun _ _ _ hh h=>h.of_heap hh) own started (by kernel_rfl) Tryz.func3
    (ChangeSpec.witness_shaped (enc:=enc) (C:=Tryz.checked) (os:=os) (X:=fun w _=>laidMetH Tryz.prog Rows.fnFpTextsRow.laid w) false (World.laidAll Tryz.prog os Rows.fnFpTextsRow.laid) #[.slice none 0 0] 8 (World.laidAll_os _ _ _) (World.shaped_of_ZipB (by kernel_rfl) (by kernel_rfl)) (by kernel_rfl) (by kernel_rfl) (by kernel_rfl) (door_met os _)) ?_
  intro W base args ds gs before hval0 hW hcnd _ hL _
  have hval:∀(j:Nat) t v,Tryz.f3.params[j]? =some t→args[j]? =some v→Value.okWide Tryz.prog W .any base t v:=hval0
  have hW':=hW
  obtain⟨p,q,hA0,hV,rfl,hfz,hnd⟩:=hW
  have hA:DataW.TrodAll enc Tryz.prog W 0 (fun _=>true) true Tryz.f3.params.toList args.toList ds p:=hA0
  rw[Tryz.params3]at hA hval
  obtain⟨v0,vs0,d0,ds0,p0,q0,hargs,rfl,rfl,h0,r0⟩:=trodAll_cons hA
  obtain⟨rfl,rfl,rfl⟩:=trodAll_nil r0
  obtain rfl:args=#[v0]:=by cases args;simp_all
  obtain⟨rfl,rfl⟩:=trodVars_none hV
  have k0:=h0
  have lt0:∀x∈p0,x.block<W.heap.size:=by obtain⟨m,hm⟩:=k0;exact DataW.trod_lt m _ _ _ hm
  obtain⟨s0,l0,e0,rfl⟩:=okWide_slice Tryz.underlying22 (hval 0 22 v0 rfl rfl)
  obtain⟨n0,g0⟩:=h0
  obtain⟨a0,R0,ok0⟩:=rd_bytes Tryz.underlying22 Tryz.underlying5 (by kernel_rfl) g0
  clear hA0 hval0
  refine(law_runV (gvs hL) (law_FnFpTexts a0 ok0) (us:=#[.slice s0 l0 e0]) ⟨rfl,fun k x hk=>by
    match k,hk with
    |0,hk=>cases hk;exact R0⟩).mono fun e W' ⟨he,bel⟩=> ?_
  subst he
  exact⟨_,rfl,_,_,_,[],_,[],hW',trodAll_mk1 (shut_bool Tryz.underlying4 _),(trodAll_cons_mk (Below.trod laidOut (by kernel_rfl) (of_decide_eq_true (by kernel_rfl)) k0 bel lt0) trodAll_mk0),rfl,bel.frame _,fun h=>by cases h⟩
theorem jfa:laidOutB Tryz.pinned.checked.prog=true:=by kernel_rfl
theorem jfb:mapsRowed Tryz.pinned.checked.prog=true:=by kernel_rfl
theorem jfc:(Rows.fnFpTextsRow.inPlace==Program.inPlace Tryz.pinned.checked.prog 3)=true:=by kernel_rfl
theorem jfd:(Rows.fnFpTextsRow.unfollowed==Program.unfollowed Tryz.pinned.checked.prog 3)=true:=by kernel_rfl
theorem jfe:(Rows.fnFpTextsRow.recurses==Program.recurses Tryz.pinned.checked.prog 3)=true:=by kernel_rfl
theorem jfg:(Rows.fnFpTextsRow.named==Program.varsNamed Tryz.pinned.checked.prog 3)=true:=by kernel_rfl
theorem jfh:Program.stopsHeard Tryz.pinned.checked.prog=true:=by kernel_rfl
theorem jfi:Program.mayEnter Tryz.pinned.checked.prog=true:=by kernel_rfl
theorem jfk:(Rows.fnFpTextsRow.plainKeys==Program.plainKeys Tryz.pinned.checked.prog)=true:=by kernel_rfl
theorem jfl:(Rows.fnFpTextsRow.lifted==Program.liftsFinal Tryz.pinned.checked.prog)=true:=by kernel_rfl
theorem closed:joinedFacts Tryz.pinned.checked.prog 3 Tryz.f3 Rows.fnFpTextsSpec Rows.fnFpTextsRow=true:=by
  unfold joinedFacts
  rw[jfa,jfb,jfc,jfd,jfe,jfg,jfh,jfi,jfk,jfl]
  kernel_rfl
theorem over:Rows.fnFpTextsRow.holds Tryz.pinned (OpenSpec.ofChange Rows.fnFpTextsSpec):=
  OpenClaim.holds_of_wide 3 Tryz.f3 rfl rfl rfl rfl rfl rfl rfl ⟨rfl,rfl,rfl,rfl,rfl⟩ rfl rfl rfl rfl rfl (by kernel_rfl) Tryz.func3 closed
    (of_decide_eq_true (by kernel_rfl)) (by unfold Func.isWrapper;first|(rw[if_pos (by decide+kernel)];kernel_rfl)|(rw[if_neg (by decide+kernel)];exact⟨rfl,rfl⟩))
    (fun os started H enc _=>lifted os started H enc)
theorem proved:Rows.FnFpTextsCardSaid:=
  Claim7.holds_tied_plain_at .later [] [.data,.data,.data,.data,.sentinel,.sentinel,.pinned] true (true, "92802fcdda4bc5451a01bbd77a9835cdad7e7fd40317b3eb83d1a2c8799fec8e") true
    over (fun _ h=>by cases h) (by kernel_rfl) (fun _ h=>by cases h) fnFpTexts_row_tie rfl ⟨rfl,rfl⟩ (by kernel_rfl) rfl
    (fun f fn hf hfn=>by
      obtain rfl:f=3:=Option.some.inj ((show Tryz.prog.funcNamed "loop.example/g01076/laws.FnFpTexts" =some 3 by kernel_rfl).symm.trans hf)|>.symm
      obtain rfl:fn=Tryz.f3:=(Option.some.inj (Tryz.func3.symm.trans hfn)).symm
      exact⟨by kernel_rfl,fun j t ht=>by
        rw[Tryz.params3]at ht
        have hm:t∈ [22]:=by simpa using Array.mem_of_getElem? ht
        have hall:([22].all fun u=> !Tryz.prog.wantsStandIn u)=true:=by kernel_rfl
        exact(show Tryz.prog.wantsStandIn t=false by simpa using List.all_eq_true.1 hall t hm)⟩)
    (by kernel_rfl)
end Go.Proofs.YtlcddiojeghfgaaGreatDoor
