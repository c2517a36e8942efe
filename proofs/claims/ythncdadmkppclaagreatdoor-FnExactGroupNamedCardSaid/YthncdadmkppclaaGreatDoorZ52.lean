import Derived.Handed
import Derived.Below
import Derived.Shelf.Vars
import Derived.Test.YthncdadmkppclaaGreatDoorZ49
import Derived.Test.YthncdadmkppclaaGreatDoorZ51
set_option linter.unusedVariables false
set_option linter.unusedSimpArgs false
namespace Go.Proofs.YthncdadmkppclaaGreatDoor
open Nat (reduceAdd reduceSub reduceGT reduceEqDiff reduceMul)
structure psm (M:PD):Prop where
  o:M.1.length≤6
  x:rowslen M.2.1
  t:tot M.2.1≤1000000000000
  y:cubesml M.2.2
theorem psm.nil:psm ([],[],[]):=⟨by simp,⟨by simp,fun x hx=>by simp at hx⟩,by simp[tot],.nil⟩
theorem tot_leQ {xs:List (List Int)} {n:Nat} (h:∀x∈xs,x.length≤n):tot xs≤n*xs.length:=by
  induction xs with
  |nil=>simp[tot]
  | cons x xs ih=>
    have h1:=h x (by simp)
    have h2:=ih (fun y hy=>h y (by simp[hy]))
    simp only[tot,List.length_cons,Nat.mul_succ];omega
theorem psm.ok {M:PD} (h:presOk M.1 M.2.1 M.2.2):psm M:=by
  obtain⟨ho,hp,hc⟩:=h.ent
  have hn:=h.1.1
  have hpl:=h.1.2.1
  have hcl:=h.1.2.2
  have mem:∀{α:Type} (xs:List α) (d x:α),x∈xs→∃i,i<xs.length∧xs.getD i d=x:=fun xs d x hx=>by
    obtain⟨i,hi,e⟩:=List.mem_iff_getElem.1 hx
    exact⟨i,hi,by simp[hi,e]⟩
  have h1:∀x∈M.2.1,x.length≤6:=fun x hx=>by
    obtain⟨i,hi,rfl⟩:=mem _ [] x hx
    have:=(hp i (by omega)).1;omega
  refine⟨hn,⟨by omega,fun x hx=>by have:=h1 x hx;omega⟩,by have:=tot_leQ h1;omega,⟨by omega,fun x hx=> ?_⟩⟩
  obtain⟨i,hi,rfl⟩:=mem _ [] x hx
  obtain⟨q1,q2⟩:=hc i (by omega)
  refine⟨by omega,fun y hy=> ?_⟩
  obtain⟨k,hk,rfl⟩:=mem _ [] y hy
  have:=(q2 k hk).1;omega
theorem pdT_sml {k:Nat} (hk:k<82):psm (pdT k):=psm.ok (ppS_ok (pdT_at hk).1).1
theorem gP_sml (s:ByteArray):psm (gP s):=by
  unfold gP
  split
  · rename_i k h;exact pdT_sml (plc_lt h)
  · exact .nil
set_option maxHeartbeats 4000000 in
theorem law_GroupNamed (s:ByteArray) {p:Prop} (_h:p):∀nx,ACw 2 Tryz.prog 4 nx noH [.s s] (fun _ _ r=>r= .b true):=by
 intro nx
 refine ACw.intro envOk Tryz.func4 rfl (by kernel_rfl) Tryz.ntmps4 Tryz.results4 (fun cX hcg _ _=> ?_)
 obtain⟨M,hM⟩:∃M,gP s=M:=⟨_,rfl⟩
 obtain⟨e,he⟩:∃e,plE s=e:=⟨_,rfl⟩
 have hML:psm M:=by rw[←hM];exact gP_sml s
 have hmo:=hML.o
 have hspec:=spec_GroupNamed_ok s
 have himpl:=impl_GroupNamed_o s
 rw[hM,he]at hspec himpl
 have heq:=laws_eqPresentation_r M.1 M.2.1 M.2.2 (by omega) hML.x hML.y.len
 rw[show decide (M.2.1=M.2.1)=true by simp]at heq
 refine AW.sr envOk (fun N hN=> ?_)
 simp-dsimp-implicitDefEqProofs (disch:=omega) only[go_sem,undef,prs,w64]
 refine hN _ ?_
 try clear hN N
 refine AW.seq (fun N1 hN1=> ?_)
 refine AW.sr envOk (fun N hN=> ?_)
 simp-dsimp-implicitDefEqProofs (disch:=omega) only[go_sem,undef,prs,w64]
 refine hN _ ?_
 try clear hN N
 refine AW.cond rfl (fun h1=> ?_) (fun h1=> ?_)
 ·try simp only[cn]at h1
  refine AW.sr envOk (fun N hN=> ?_)
  simp-dsimp-implicitDefEqProofs (disch:=omega) only[go_sem,undef,prs,w64]
  refine hN _ ?_
  try clear hN N
  refine AW.ret ?_
  simp-dsimp-implicitDefEqProofs (disch:=omega) only[go_sem,undef]
  skip
 ·try simp only[cn]at h1
  refine AW.skip ?_
  simp only[thn,blk]
  refine hN1 _ ?_
  try clear hN1 N1
  refine AW.sr envOk (fun N hN=> ?_)
  simp-dsimp-implicitDefEqProofs (disch:=omega) only[go_sem,undef,prs,w64]
  refine AC.pure (.of (hspec)) ?_
  try simp-dsimp-implicitDefEqProofs (disch:=omega) only[go_sem,undef,prs,w64]
  refine hN _ ?_
  try clear hN N
  refine AW.freezeQ 3 (nx+1+3+5) _ rfl (upd_same _ _ _) ?_
  simp-dsimp-implicitDefEqProofs (disch:=omega) only[go_sem,undef]
  refine AW.seq (fun N hN=> ?_)
  refine AW.regionX envOk 1 _ rfl rfl ?_
  simp-dsimp-implicitDefEqProofs (disch:=omega) only[List.take_succ_cons,List.take_zero,List.drop_succ_cons,List.drop_zero,List.take_nil,List.drop_nil,go_sem,undef,prs,w64]
  refine XC.callw hcg rfl ?_
  refine ACw.hold himpl (.cons (.refl _) .nil) ?_
  intro m5 H5 r_z hm5 hH5 ho_z
  obtain⟨g0,rfl,hg⟩:=ho_z.pair
  obtain⟨s1,s2,s3,rfl,⟨v1,v2,v3⟩,hg2⟩:=hg.prs
  dsimp only at hm5 hH5 hg2
  clear ho_z hg
  try simp-dsimp-implicitDefEqProofs (disch:=omega) only[go_sem,undef,prs,w64,v1,v2,v3,Bool.and_true]
  refine hN _ ?_
  try clear hN N
  refine AW.seq (fun N2 hN2=> ?_)
  refine AW.freezeQ 5 (nx+1+3+8+5) _ rfl (upd_same _ _ _) ?_
  refine AW.nameH (fun G6 hG6=> ?_)
  dsimp only at hG6
  replace hg2:=hg2.keep (H':=G6) (fun i q1 q2=>by rw[←hG6];simp(disch:=omega) only[upd_ne])
  simp-dsimp-implicitDefEqProofs (disch:=omega) only[go_sem,undef]
  refine AW.sr envOk (fun N hN=> ?_)
  simp-dsimp-implicitDefEqProofs (disch:=omega) only[go_sem,undef,prs,w64]
  refine AC.pure (.lent (heq) (.cons hg2.vw (.cons (.refl _) .nil)) (.b _)) ?_
  try simp-dsimp-implicitDefEqProofs (disch:=omega) only[go_sem,undef,prs,w64,Bool.not_true,bne_self_eq_false]
  refine hN _ ?_
  try clear hN N
  refine AW.condF rfl ?_
  refine AW.skip ?_
  simp only[thn,blk]
  refine hN2 _ ?_
  try clear hN2 N2
  refine AW.sr envOk (fun N hN=> ?_)
  simp-dsimp-implicitDefEqProofs (disch:=omega) only[go_sem,undef,prs,w64]
  refine hN _ ?_
  try clear hN N
  refine AW.sr envOk (fun N hN=> ?_)
  simp-dsimp-implicitDefEqProofs (disch:=omega) only[go_sem,undef,prs,w64]
  refine(markP_m (by omega) hML.x hML.y hML.t hg2 (by omega) (by omega) (by omega)).mono2 ?_
  rintro m11 H11 res hm11 ⟨rfl,hg3,hH11⟩
  try simp-dsimp-implicitDefEqProofs (disch:=omega) only[go_sem,undef,prs,w64]
  refine hN _ ?_
  try clear hN N
  refine AW.sr envOk (fun N hN=> ?_)
  simp-dsimp-implicitDefEqProofs (disch:=omega) only[go_sem,undef,prs,w64]
  refine hN _ ?_
  try clear hN N
  refine AW.sr envOk (fun N hN=> ?_)
  simp-dsimp-implicitDefEqProofs (disch:=omega) only[go_sem,undef,prs,w64]
  refine AC.pure (.lent (heldP_g (by omega) hML.x hML.y hML.t (by omega) (by omega)) (.cons hg3.vw (.cons (.refl _) .nil)) (.i _ _)) ?_
  try simp-dsimp-implicitDefEqProofs (disch:=omega) only[go_sem,undef,prs,w64]
  refine hN _ ?_
  try clear hN N
  refine AW.seq (fun N3 hN3=> ?_)
  refine AW.sr envOk (fun N hN=> ?_)
  simp-dsimp-implicitDefEqProofs (disch:=omega) only[go_sem,undef,prs,w64]
  refine hN _ ?_
  try clear hN N
  refine AW.cond rfl (fun h2=> ?_) (fun h2=> ?_)
  ·try simp only[cn]at h2
   omega
  ·try simp only[cn]at h2
   refine AW.skip ?_
   simp only[thn,blk]
   refine hN3 _ ?_
   try clear hN3 N3
   refine AW.seq (fun N4 hN4=> ?_)
   refine AW.sr envOk (fun N hN=> ?_)
   simp-dsimp-implicitDefEqProofs (disch:=omega) only[go_sem,undef,prs,w64]
   refine hN _ ?_
   try clear hN N
   refine AW.cond rfl (fun h3=> ?_) (fun h3=> ?_)
   ·try simp only[cn]at h3
    simp at h3
   ·try simp only[cn]at h3
    refine AW.skip ?_
    simp only[thn,blk]
    refine hN4 _ ?_
    try clear hN4 N4
    refine AW.seq (fun N hN=> ?_)
    refine AW.regionX envOk 1 _ rfl rfl ?_
    simp-dsimp-implicitDefEqProofs (disch:=omega) only[List.take_succ_cons,List.take_zero,List.drop_succ_cons,List.drop_zero,List.take_nil,List.drop_nil,go_sem,undef,prs,w64]
    refine XC.callw hcg rfl ?_
    refine ACw.hold himpl (.cons (.refl _) .nil) ?_
    intro m12 H12 r_z hm12 hH12 ho_z
    obtain⟨g0,rfl,hg⟩:=ho_z.pair
    obtain⟨s4,s5,s6,rfl,⟨v4,v5,v6⟩,hg4⟩:=hg.prs
    dsimp only at hm12 hH12 hg4
    clear ho_z hg
    replace hg3:=hg3.keep (H':=H12) (fun i q1 q2=>hH12 i (by omega))
    try simp-dsimp-implicitDefEqProofs (disch:=omega) only[go_sem,undef,prs,w64,v4,v5,v6,Bool.and_true]
    refine hN _ ?_
    try clear hN N
    refine AW.seq (fun N5 hN5=> ?_)
    refine AW.freezeQ 9 (m11+1+4+2+3+5) _ rfl (upd_same _ _ _) ?_
    refine AW.nameH (fun G13 hG13=> ?_)
    dsimp only at hG13
    replace hg3:=hg3.keep (H':=G13) (fun i q1 q2=>by rw[←hG13];simp(disch:=omega) only[upd_ne])
    replace hg4:=hg4.keep (H':=G13) (fun i q1 q2=>by rw[←hG13];simp(disch:=omega) only[upd_ne])
    simp-dsimp-implicitDefEqProofs (disch:=omega) only[go_sem,undef]
    refine AW.sr envOk (fun N hN=> ?_)
    simp-dsimp-implicitDefEqProofs (disch:=omega) only[go_sem,undef,prs,w64]
    refine AC.pure (.lent (heq) (.cons hg4.vw (.cons (.refl _) .nil)) (.b _)) ?_
    try simp-dsimp-implicitDefEqProofs (disch:=omega) only[go_sem,undef,prs,w64,Bool.not_true,bne_self_eq_false]
    refine hN _ ?_
    try clear hN N
    refine AW.condF rfl ?_
    refine AW.skip ?_
    simp only[thn,blk]
    refine hN5 _ ?_
    try clear hN5 N5
    refine AW.sr envOk (fun N hN=> ?_)
    simp-dsimp-implicitDefEqProofs (disch:=omega) only[go_sem,undef,prs,w64]
    refine hN _ ?_
    try clear hN N
    refine AW.sr envOk (fun N hN=> ?_)
    simp-dsimp-implicitDefEqProofs (disch:=omega) only[go_sem,undef,prs,w64]
    refine AC.pure (.lent (heldP_g (by omega) hML.x hML.y hML.t (by omega) (by omega)) (.cons hg3.vw (.cons (.refl _) .nil)) (.i _ _)) ?_
    try simp-dsimp-implicitDefEqProofs (disch:=omega) only[go_sem,undef,prs,w64]
    refine hN _ ?_
    try clear hN N
    refine AW.seq (fun N6 hN6=> ?_)
    refine AW.sr envOk (fun N hN=> ?_)
    simp-dsimp-implicitDefEqProofs (disch:=omega) only[go_sem,undef,prs,w64]
    refine hN _ ?_
    try clear hN N
    refine AW.cond rfl (fun h4=> ?_) (fun h4=> ?_)
    ·try simp only[cn]at h4
     omega
    ·try simp only[cn]at h4
     refine AW.skip ?_
     simp only[thn,blk]
     refine hN6 _ ?_
     try clear hN6 N6
     refine AW.seq (fun N7 hN7=> ?_)
     refine AW.sr envOk (fun N hN=> ?_)
     simp-dsimp-implicitDefEqProofs (disch:=omega) only[go_sem,undef,prs,w64]
     refine hN _ ?_
     try clear hN N
     refine AW.cond rfl (fun h5=> ?_) (fun h5=> ?_)
     ·try simp only[cn]at h5
      simp at h5
     ·try simp only[cn]at h5
      refine AW.skip ?_
      simp only[thn,blk]
      refine hN7 _ ?_
      try clear hN7 N7
      refine AW.sr envOk (fun N hN=> ?_)
      simp-dsimp-implicitDefEqProofs (disch:=omega) only[go_sem,undef,prs,w64]
      refine hN _ ?_
      try clear hN N
      refine AW.ret ?_
      simp-dsimp-implicitDefEqProofs (disch:=omega) only[go_sem,undef]
      skip
theorem law_runW {P:Program} {w:World} {g:Nat} {f:FuncId} {xs:List AV} {us:Array Value} (hg:GV g w) (h:∀nx,ACw g P f nx noH xs fun _ _ r=>r= .b true) (ha:ArgsR noL w noM xs us):Calls P f us w fun e w'=>e= .returned (.bool true)∧RowKit.Below w.heap.size w w':=by
  refine((h 0).2 noL noM w us (SR_noH (fun _ h=>h.elim)) (fun _ _=>rfl) (by rw[MM_noH];exact ha) LB_noH hg).mono ?_
  rintro e w' ⟨u,r,L',nx',H',h1,rfl,_,_,_,_,h2,h3⟩
  rw[h3.b_inv]at h1
  exact⟨h1,h2.os,h2.tape,h2.output,h2.size,fun k hk=>h2.keep k hk LB_noH⟩
theorem GV.of {w:World} {g:Nat} (h:∃m,w.cell? ⟨g,0,none⟩=some (.int .i64 m)):GV g w:=by
  refine⟨?_,h⟩
  obtain⟨m,h⟩:=h
  apply Classical.byContradiction
  intro hn
  have:w.heap[g]? =none:=by rw[Array.getElem?_eq_none_iff];omega
  simp[World.cell?,this]at h
theorem maxLen_gv {w:World} (h:w.ShapedOpen Tryz.prog):GV 2 w:=
  .of (cell_of_shapedOpen_int (zero:=#[.int .i64 0]) (t:=3) h (of_decide_eq_true (by kernel_rfl)) (by kernel_rfl) rfl (by kernel_rfl) (by kernel_rfl) Tryz.underlying3)
section
variable {T:Type} {enc:TypeId×Value→T}
theorem row_wrap {a:Assume} {C:Checked} {os:Os} {f:FuncId} {fn:Func} {s:ChangeSpec} {conds:List PathCond} {apart fresh handsOn again:Bool} {X:World→Array Value→Prop}
    (hX:∀(w w':World) (args:Array Value),w.heap=w'.heap→X w args→X w' args)
    (own:ownKnob C.prog.godebug=none) (started:os.Started) (noInit:C.prog.inits.idxOf? f=none) (hfn:C.prog.funcs[f]? =some fn)
    (witness:∃(w:World) (tape:Tape) (i:Input),w.os=os∧(w.forCall tape i).Shaped C.prog∧i.vars=[]∧Input.okWide C.prog (w.forCall tape i) .any w.heap.size f i∧
      ((s.pre enc C.prog fn conds apart (w.forCall tape i).memory i.args∧X (w.forCall tape i).memory i.args)∧sizedMet enc C.prog fn (OpenSpec.ofChange s) apart (w.forCall tape i).memory i.args)∧a.holds C.prog (lone (Frame.enter C.prog f i.args .normal) [] (w.forCall tape i)))
    (contract:∀(W:World) (base:Nat) (args:Array Value) (ds gs:List (DataW T)) (before:List MemPlace),
      (∀(j:Nat) t v,fn.params[j]? =some t→args[j]? =some v→Value.okWide C.prog W .any base t v)→
      DataW.Whole enc C.prog fn.params.toList s.vars apart W args.toList ds gs before→
      conds.all (PathCond.test C.prog ⟨fn.params.toList,ds,s.plain.varTypes C.prog,gs⟩)=true→
      X W args→W.ShapedOpen C.prog→
      Calls C.prog f args W fun e W'=>∃v,e= .returned v∧s.post enc C.prog fn apart fresh handsOn again W args v W'):
    ReturnsInHanded a C os f .any (fun w args=>(s.pre enc C.prog fn conds apart w args∧X w args)∧sizedMet enc C.prog fn (OpenSpec.ofChange s) apart w args) (s.post enc C.prog fn apart fresh handsOn again):=by
  refine returnsInHanded_of_calls own started noInit witness ?_
  rintro w tape i _ hsh _ ⟨_,_,_,fn',hfn',_,_,_,_,hval⟩ ⟨⟨⟨ds,gs,before,hw,hc⟩,hx⟩,_⟩ _
  obtain rfl:fn'=fn:=Option.some.inj (hfn'.symm.trans hfn)
  refine(contract (w.forCall tape i) w.heap.size i.args ds gs before hval (DataW.Whole.of_heap (w':=w.forCall tape i) (by rfl) hw) hc (hX _ _ _ (by rfl) hx) hsh).mono fun e W' ⟨v,he,hp⟩=> ?_
  subst he
  exact ChangeSpec.post_blind hp
end
end Go.Proofs.YthncdadmkppclaaGreatDoor
