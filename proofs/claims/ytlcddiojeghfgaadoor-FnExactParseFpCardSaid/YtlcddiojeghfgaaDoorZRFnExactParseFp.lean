import Derived.Test.YtlcddiojeghfgaaDoorRows
import Derived.Test.YtlcddiojeghfgaaDoorTie
import Derived.Test.YtlcddiojeghfgaaDoorCards
import Derived.LaidMore
import Derived.Lay
import Derived.SevenTiedAt
import Derived.Stop.Joined
import Derived.Stop.LaidErr
import Derived.WalkKit
import Derived.ProofKit
import Derived.OpenShut
import Derived.ShutString
import Derived.ChangeOld
import Derived.ChangeMaps5
import Derived.Below
import Derived.Test.YtlcddiojeghfgaaDoorZ49
set_option linter.unusedVariables false
set_option linter.unusedSimpArgs false
namespace Go.Proofs.YtlcddiojeghfgaaDoor
open Go.ChangeShapes Go.WideShapes Go.ChangeAt Go.RowKit
theorem own:ownKnob Tryd.prog.godebug=none:=by kernel_rfl
theorem laidOut:laidOutB Tryd.prog=true:=by kernel_rfl
theorem rowES (u:TypeId) (h:Tryd.prog.typeName? 3 u=some "*errors.errorString"):u=92:=
  typeName_ptr_named (nm:= "errors.errorString") (by rw[show "*" ++ "errors.errorString" = "*errors.errorString" by decide];kernel_rfl) (by kernel_rfl) (by decide) u (by rw[show "*" ++ "errors.errorString" = "*errors.errorString" by decide];exact h)
theorem GP.of {x:Nat×(Value→Prop)} {w:World} (h:∃v,w.cell? ⟨x.1,0,none⟩=some v∧x.2 v):GP x w:=by
  refine⟨?_,h⟩
  obtain⟨v,h,_⟩:=h
  apply Classical.byContradiction
  intro hn
  have:w.heap[x.1]? =none:=by rw[Array.getElem?_eq_none_iff];omega
  simp[World.cell?,this]at h
theorem gvs {W:World} (h:laidMetH Tryd.prog Rows.fnExactParseFpRow.laid W):GVs erV W:=by
  rw[MakeChecks.laidMetH_plain _ _ _ (by kernel_rfl)]at h
  have h4:=laidMet.tail (laidMet.tail (laidMet.tail (laidMet.tail h)))
  obtain⟨a0,s0,hv0,-,-,-⟩:=laid_sentinel h4 (show Tryd.prog.globalNamed "strconv.ErrRange" =some 1 by kernel_rfl) (show(Tryd.prog.globals[1]?).map (·.type)=some 39 by kernel_rfl) Tryd.underlying39 rowES Tryd.underlying92 Tryd.underlying94 rfl rfl Tryd.underlying9 (by kernel_rfl) (by kernel_rfl)
  obtain⟨a1,s1,hv1,-,-,-⟩:=laid_sentinel (laidMet.tail h4) (show Tryd.prog.globalNamed "strconv.ErrSyntax" =some 0 by kernel_rfl) (show(Tryd.prog.globals[0]?).map (·.type)=some 39 by kernel_rfl) Tryd.underlying39 rowES Tryd.underlying92 Tryd.underlying94 rfl rfl Tryd.underlying9 (by kernel_rfl) (by kernel_rfl)
  intro x hx
  simp only[erV,List.mem_cons,List.not_mem_nil,or_false]at hx
  rcases hx with rfl|rfl
  · exact .of ⟨_,by have:=World.var?_cell (show Tryd.prog.globalNamed "strconv.ErrSyntax" =some 0 by kernel_rfl) hv1 0;simpa using this,.inr ⟨_,_,rfl⟩⟩
  · exact .of ⟨_,by have:=World.var?_cell (show Tryd.prog.globalNamed "strconv.ErrRange" =some 1 by kernel_rfl) hv0 0;simpa using this,.inr ⟨_,_,rfl⟩⟩
theorem door_met (os:Os) (args:Array Value):laidMetH Tryd.prog Rows.fnExactParseFpRow.laid ((World.laidAll Tryd.prog os Rows.fnExactParseFpRow.laid).forCall (fun _ _=>0) ⟨#[],args,[]⟩).memory:=by
  rw[MakeChecks.laidMetH_plain _ _ _ (by kernel_rfl)]
  exact laidMet_laidAll _ (by kernel_rfl) (by kernel_rfl)
set_option maxRecDepth 100000 in
theorem lifted (os:Os) (started:os.Started) (H:Type) (enc:TypeId×Value→H):
    ReturnsInHanded {} Tryd.checked os 3 .any (fun w args=>(Rows.fnExactParseFpSpec.pre enc Tryd.prog Tryd.f3 Rows.fnExactParseFpRow.domain false w args∧laidMetH Tryd.prog Rows.fnExactParseFpRow.laid w)∧sizedMet enc Tryd.prog Tryd.f3 (OpenSpec.ofChange Rows.fnExactParseFpSpec) false w args)
      (Rows.fnExactParseFpSpec.post enc Tryd.prog Tryd.f3 false true false false):=by
  refine returnsInHanded_of_change_and (C:=Tryd.checked) (X:=fun w _=>laidMetH Tryd.prog Rows.fnExactParseFpRow.laid w) (fun _ _ _ hh h=>h.of_heap hh) own started (by kernel_rfl) Tryd.func3
    (ChangeSpec.witness_shaped (enc:=enc) (C:=Tryd.checked) (os:=os) (X:=fun w _=>laidMetH Tryd.prog Rows.fnExactParseFpRow.laid w) false (World.laidAll Tryd.prog os Rows.fnExactParseFpRow.laid) #[.string ⟨#[]⟩] 8 (World.laidAll_os _ _ _) (World.shaped_of_ZipB (by kernel_rfl) (by kernel_rfl)) (by kernel_rfl) (by kernel_rfl) (by kernel_rfl) (door_met os _)) ?_
  intro W base args ds gs before hval0 hW hcnd _ hL _
  have hval:∀(j:Nat) t v,Tryd.f3.params[j]? =some t→args[j]? =some v→Value.okWide Tryd.prog W .any base t v:=hval0
  have hW':=hW
  obtain⟨p,q,hA0,hV,rfl,hfz,hnd⟩:=hW
  have hA:DataW.TrodAll enc Tryd.prog W 0 (fun _=>true) true Tryd.f3.params.toList args.toList ds p:=hA0
  rw[Tryd.params3]at hA hval
  obtain⟨v0,vs0,d0,ds0,p0,q0,hargs,rfl,rfl,h0,r0⟩:=trodAll_cons hA
  obtain⟨rfl,rfl,rfl⟩:=trodAll_nil r0
  obtain rfl:args=#[v0]:=by cases args;simp_all
  obtain⟨rfl,rfl⟩:=trodVars_none hV
  have k0:=h0
  have lt0:∀x∈p0,x.block<W.heap.size:=by obtain⟨m,hm⟩:=k0;exact DataW.trod_lt m _ _ _ hm
  obtain⟨a0,rfl,rfl,rfl,ok0⟩:=Go.ChangeMaps.open_string Tryd.underlying9 (hval 0 9 v0 rfl rfl) h0
  clear hA0 hval0
  refine(law_runV (gvs hL) (law_ParseFp a0 ok0) (us:=#[.string a0]) ⟨rfl,fun k x hk=>by
    match k,hk with
    |0,hk=>cases hk;exact .s a0⟩).mono fun e W' ⟨he,bel⟩=> ?_
  subst he
  exact⟨_,rfl,_,_,_,[],_,[],hW',trodAll_mk1 (shut_bool Tryd.underlying4 _),(trodAll_cons_mk (Below.trod laidOut (by kernel_rfl) (of_decide_eq_true (by kernel_rfl)) k0 bel lt0) trodAll_mk0),rfl,bel.frame _,fun h=>by cases h⟩
theorem jfa:laidOutB Tryd.pinned.checked.prog=true:=by kernel_rfl
theorem jfb:mapsRowed Tryd.pinned.checked.prog=true:=by kernel_rfl
theorem jfc:(Rows.fnExactParseFpRow.inPlace==Program.inPlace Tryd.pinned.checked.prog 3)=true:=by kernel_rfl
theorem jfd:(Rows.fnExactParseFpRow.unfollowed==Program.unfollowed Tryd.pinned.checked.prog 3)=true:=by kernel_rfl
theorem jfe:(Rows.fnExactParseFpRow.recurses==Program.recurses Tryd.pinned.checked.prog 3)=true:=by kernel_rfl
theorem jfg:(Rows.fnExactParseFpRow.named==Program.varsNamed Tryd.pinned.checked.prog 3)=true:=by kernel_rfl
theorem jfh:Program.stopsHeard Tryd.pinned.checked.prog=true:=by kernel_rfl
theorem jfi:Program.mayEnter Tryd.pinned.checked.prog=true:=by kernel_rfl
theorem jfk:(Rows.fnExactParseFpRow.plainKeys==Program.plainKeys Tryd.pinned.checked.prog)=true:=by kernel_rfl
theorem jfl:(Rows.fnExactParseFpRow.lifted==Program.liftsFinal Tryd.pinned.checked.prog)=true:=by kernel_rfl
theorem closed:joinedFacts Tryd.pinned.checked.prog 3 Tryd.f3 Rows.fnExactParseFpSpec Rows.fnExactParseFpRow=true:=by
  unfold joinedFacts
  rw[jfa,jfb,jfc,jfd,jfe,jfg,jfh,jfi,jfk,jfl]
  kernel_rfl
theorem over:Rows.fnExactParseFpRow.holds Tryd.pinned (OpenSpec.ofChange Rows.fnExactParseFpSpec):=
  OpenClaim.holds_of_wide 3 Tryd.f3 rfl rfl rfl rfl rfl rfl rfl ⟨rfl,rfl,rfl,rfl,rfl⟩ rfl rfl rfl rfl rfl (by kernel_rfl) Tryd.func3 closed
    (of_decide_eq_true (by kernel_rfl)) (by unfold Func.isWrapper;first|(rw[if_pos (by decide+kernel)];kernel_rfl)|(rw[if_neg (by decide+kernel)];exact⟨rfl,rfl⟩))
    (fun os started H enc _=>lifted os started H enc)
theorem proved:Rows.FnExactParseFpCardSaid:=
  Claim7.holds_tied_plain_at .later [] [.data,.data,.data,.data,.sentinel,.sentinel,.pinned] true (true, "60b288b5238d8c456aef9d867d4d80173a37b937acf8e7810822b554b4e7eb6e") true
    over (fun _ h=>by cases h) (by kernel_rfl) (fun _ h=>by cases h) fnExactParseFp_row_tie rfl ⟨rfl,rfl⟩ (by kernel_rfl) rfl
    (fun f fn hf hfn=>by
      obtain rfl:f=3:=Option.some.inj ((show Tryd.prog.funcNamed "loop.example/g01076/laws.FnExactParseFp" =some 3 by kernel_rfl).symm.trans hf)|>.symm
      obtain rfl:fn=Tryd.f3:=(Option.some.inj (Tryd.func3.symm.trans hfn)).symm
      exact⟨by kernel_rfl,fun j t ht=>by
        rw[Tryd.params3]at ht
        have hm:t∈ [9]:=by simpa using Array.mem_of_getElem? ht
        have hall:([9].all fun u=> !Tryd.prog.wantsStandIn u)=true:=by kernel_rfl
        exact(show Tryd.prog.wantsStandIn t=false by simpa using List.all_eq_true.1 hall t hm)⟩)
    (by kernel_rfl)
end Go.Proofs.YtlcddiojeghfgaaDoor
