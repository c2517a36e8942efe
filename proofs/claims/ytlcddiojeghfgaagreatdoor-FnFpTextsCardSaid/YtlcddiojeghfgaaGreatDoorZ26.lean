import Derived.Test.YtlcddiojeghfgaaGreatDoorZ18
import Derived.Test.YtlcddiojeghfgaaGreatDoorZ25
set_option linter.unusedVariables false
set_option linter.unusedSimpArgs false
namespace Go.Proofs.YtlcddiojeghfgaaGreatDoor
def GP (x:Nat×(Value→Prop)) (w:World):Prop:=x.1<w.heap.size∧∃v,w.cell? ⟨x.1,0,none⟩=some v∧x.2 v
abbrev VL:=List (Nat×(Value→Prop))
def GVs (vs:VL) (w:World):Prop:=∀x∈vs,GP x w
def CGs (vs:VL) (cX:Ctx):Prop:=(∀x∈vs,¬LB cX.L0 cX.H0 x.1)∧GVs vs cX.w0
theorem GP.heap {x:Nat×(Value→Prop)} {w w':World} (h:GP x w) (hs:w.heap.size≤w'.heap.size) (hh:w'.heap[x.1]? =w.heap[x.1]?):GP x w':=by
  obtain⟨h1,v,h2,h3⟩:=h
  refine⟨by omega,v,?_,h3⟩
  rw[←h2]
  simp only[World.cell?,hh]
def ACv (vs:VL) (P:Program) (f:FuncId) (nx:Nat) (H:HP) (xs:List AV) (Q:Nat→HP→AV→Prop):Prop:=
  Ent P f∧∀(L:LM) (Av:Nat→Prop) (w:World) (us:Array Value),SR L H Av w→(∀i,nx≤i→L i=none)→ArgsR L w (MM L H Av) xs us→(∀x∈vs,¬LB L H x.1)→GVs vs w→
    Calls P f us w fun e w'=>∃u r L' nx' H',e= .returned u∧Q nx' H' r∧nx≤nx'∧(∀i,nx'≤i→L' i=none)∧(∀i,i<nx→L' i=L i)∧SR L' H' Av w'∧Step L H w L' H' w'∧R L' w' (MM L' H' Av) r u
theorem AC.vv {vs:VL} {P:Program} {f:FuncId} {nx:Nat} {H:HP} {xs:List AV} {Q:Nat→HP→AV→Prop} (h:AC P f nx H xs Q):ACv vs P f nx H xs Q:=⟨h.1,fun L Av w us a b c _ _=>h.2 L Av w us a b c⟩
theorem ACv.mono {vs:VL} {P:Program} {f:FuncId} {nx:Nat} {H:HP} {xs:List AV} {Q Q':Nat→HP→AV→Prop} (h:ACv vs P f nx H xs Q) (hq:∀n H r,Q n H r→Q' n H r):ACv vs P f nx H xs Q':=
  ⟨h.1,fun L Av w us a b c d e=>(h.2 L Av w us a b c d e).mono fun e w' ⟨u,r,L',nx',H',h1,h2,h3⟩=>⟨u,r,L',nx',H',h1,hq _ _ _ h2,h3⟩⟩
theorem ACv.intro {vs:VL} {P:Program} {Γ:TEnv} (hG:GOk P Γ) {f:FuncId} {fn:Func} {c:Code} {n:Nat} {rs:Array ResultVar} (hf:P.funcs[f]? =some fn) (hb:fn.body=some c) (hn:(fn.name== "runtime.NumGoroutine")=false) (hnt:fn.ntmps=n) (hres:fn.results=rs) {xs:List AV} {nx:Nat} {H:HP} {Q:Nat→HP→AV→Prop}
    (h:∀cX:Ctx,CGs vs cX→cX.rd=none→cX.rf=true→AW cX P c ⟨xs++List.replicate (n-xs.length) .j,H,nx⟩ (finK Γ rs.toList Q)):ACv vs P f nx H xs Q:=
  ⟨⟨fn,hf,by rw[hb];rfl,hn⟩,fun L Av w us hs hfr ha hl hg=>AC.run hG hf hb rfl hs hfr ha (by rw[hnt,hres];exact h ⟨none,true,nx,L,H,w,Av⟩ ⟨hl,hg⟩ rfl rfl)⟩
def ACov (vs:VL) (P:Program) (f:FuncId) (xs:List AV) (X:AV):Prop:=∀nx,ACv vs P f nx noH xs fun nx' H' r=>∃ids,Own nx nx' H' r X ids
theorem ACv.own {vs:VL} {P:Program} {f:FuncId} {nx:Nat} {H:HP} {xs ts:List AV} {X:AV} {K:Nat→HP→AV→Prop} (h:ACov vs P f ts X) (hv:Vws H xs ts)
    (hk:∀nx' H' r ids,nx≤nx'→(∀i,i<nx→H' i=H i)→Own nx nx' H' r X ids→K nx' H' r):ACv vs P f nx H xs K:=by
  obtain⟨he,hrun⟩:=h nx
  refine⟨he,fun L Av w us hs hfr ha hgl hgv=>(hrun L Av w us (SR_noH hs.avlt) hfr (by rw[MM_noH];exact ha.view hs hv) (fun _ _=>LB_noH) hgv).mono ?_⟩
  rintro e w' ⟨u,r,L',nx',H',h1,⟨ids,⟨h2,h2',h2''⟩⟩,h3,h4,h5,h6,h7,h8⟩
  obtain⟨hf1,hf2⟩:=h2.fl
  have hHn:∀i,nx≤i→H i=none:=by
    intro i hi
    cases hh:H i with
    |none=>rfl
    |some cs=>obtain⟨l,g1,_⟩:=hs.node i cs hh;rw[hfr i hi]at g1;cases g1
  let H2:HP:=fun i=>if i<nx then H i else if i∈ids then H' i else none
  have hlow:∀i,i<nx→H2 i=H i:=fun i hi=>by simp only[H2,hi,if_true]
  have hids:∀i∈ids,H2 i=H' i:=by
    intro i hi
    have:=h2'' i hi
    simp only[H2]
    rw[if_neg (by omega),if_pos hi]
  have hk':∀b,b<w.heap.size→w'.heap[b]? =w.heap[b]? :=fun b hb=>h7.keep b hb LB_noH
  --the live ones
  have live:∀i cs,H2 i=some cs→(i<nx∧H i=some cs)∨(i∈ids∧nx≤i∧H' i=some cs):=by
    intro i cs hi
    simp only[H2]at hi
    split at hi
    · exact .inl ⟨by assumption,hi⟩
    · split at hi
      · exact .inr ⟨by assumption,by omega,hi⟩
      · cases hi
  have newblk:∀i cs l,H' i=some cs→L' i=some l→w.heap.size≤l.blk:=by
    intro i cs l g1 g2
    apply Classical.byContradiction
    intro hlt
    exact LB_noH (h7.old l.blk (by omega) ⟨i,cs,l,g1,g2,rfl⟩)
  have hst:Step L H w L' H2 w':=by
    refine⟨h7.le,h7.os,h7.tape,h7.output,h7.size,fun b hb _=>hk' b hb,?_⟩
    rintro b hb ⟨i,cs,l,g1,g2,g3⟩
    rcases live i cs g1 with ⟨g4,g5⟩|⟨g4,g5,g6⟩
    · exact⟨i,cs,l,g5,by rw[←h5 i g4];exact g2,g3⟩
    · have:=newblk i cs l g6 g2;omega
  have hsr:SR L' H2 Av w':=by
    refine⟨?_,?_,?_,fun b hb=>Nat.lt_of_lt_of_le (hs.avlt b hb) h7.size⟩
    · intro i cs hi
      rcases live i cs hi with ⟨g4,g5⟩|⟨g4,g5,g6⟩
      · obtain⟨l,g7,hnd⟩:=hs.node i cs g5
        exact⟨l,by rw[h5 i g4];exact g7,hnd.mono (hk' _ hnd.lt) fun k x hk c g13=>g13.step hst⟩
      · obtain⟨l,g7,hnd⟩:=h6.node i cs g6
        refine⟨l,g7,hnd.mono rfl fun k x hk c g13=> ?_⟩
        obtain⟨cs',g14,g15⟩:=hf2 i g4
        rw[g6]at g14;cases g14
        exact g13.fl (fun _ _ h=>h) (g15 k x hk)
    · intro i i' cs cs' l l' g1 g2 g3 g4 g5
      rcases live i cs g1 with ⟨q1,q2⟩|⟨q1,q2,q3⟩<;>rcases live i' cs' g2 with ⟨q4,q5⟩|⟨q4,q5',q6⟩
      · exact hs.inj i i' cs cs' l l' q2 q5 (by rw[←h5 i q1];exact g3) (by rw[←h5 i' q4];exact g4) g5
      · have a1:=LB_lt hs ⟨i,cs,l,q2,by rw[←h5 i q1];exact g3,rfl⟩
        have a2:=newblk i' cs' l' q6 g4
        omega
      · have a1:=LB_lt hs ⟨i',cs',l',q5,by rw[←h5 i' q4];exact g4,rfl⟩
        have a2:=newblk i cs l q3 g3
        omega
      · exact h6.inj i i' cs cs' l l' q3 q6 g3 g4 g5
    · intro i cs l g1 g2
      rcases live i cs g1 with ⟨q1,q2⟩|⟨q1,q2,q3⟩
      · exact hs.av i cs l q2 (by rw[←h5 i q1];exact g2)
      · exact h6.av i cs l q3 g2
  refine⟨u,r,L',nx',H2,h1,hk nx' H2 r ids h3 hlow ⟨h2.keep hids,h2',h2''⟩,h3,h4,h5,hsr,hst,h8.fl (fun _ _ h=>h) hf1⟩
section
variable {P:Program} {Γ:TEnv} {cX:Ctx}
theorem CGs.at {vs:VL} (h:CGs vs cX) {L:LM} {H:HP} {w:World} (st:Step cX.L0 cX.H0 cX.w0 L H w):(∀x∈vs,¬LB L H x.1)∧GVs vs w:=by
  obtain⟨h1,h2⟩:=h
  exact⟨fun x hx hl=>h1 x hx (st.old x.1 (h2 x hx).1 hl),fun x hx=>(h2 x hx).heap st.size (st.keep x.1 (h2 x hx).1 (h1 x hx))⟩
theorem XC.callv {vs:VL} (hcg:CGs vs cX) {o:Oper} {lo hi:Nat} {s:St} {K':St→Prop} {f:FuncId} {args:Array Operand} {tys:Array TypeId} (ho:o.op= .call ⟨.value (.func f),args,tys⟩)
    (h:ACv vs P f s.nx s.H (args.toList.map (evo s.t)) fun nx' H' r=>K' ⟨putA s.t o.dst r,H',nx'⟩):XC cX P o lo hi s K':=by
  intro L a w K Q c hK
  have h1:=run_enter h.1 ho (show a.eval (.func f)= .func (.func f) #[] #[]from rfl) w
  obtain⟨g1,g2⟩:=hcg.at c.st
  have h2:=h.2 L cX.Av w _ c.sr c.fr (args_of ho (fun x _=>c.ev x)) g1 g2
  have h3:QV P o a.eval w fun u w'=>∃r L' nx' H',K' ⟨putA s.t o.dst r,H',nx'⟩∧s.nx≤nx'∧(∀i,nx'≤i→L' i=none)∧(∀i,i<s.nx→L' i=L i)∧SR L' H' cX.Av w'∧Step L s.H w L' H' w'∧R L' w' (MM L' H' cX.Av) r u:=by
    unfold QV
    rw[h1]
    exact h2.mono fun e w' ⟨u,r,L',nx',H',g1,g2,g3,g4,g5,g6,g7,g8⟩=>⟨u,g1,r,L',nx',H',g2,g3,g4,g5,g6,g7,g8⟩
  refine h3.wp ?_
  rintro u w' ⟨r,L',nx',H',g1,g2,g3,g4,g5,g6,g7⟩
  obtain⟨q1,q2,q3⟩:=put_fits (a:=a) c.sz (fun k y hk=>(c.sl k y hk).step g6) o.dst g7
  have h4:=c.hi
  have h5:=c.nlo
  have h6:=c.nx
  refine hK _ L' _ w' g1 ⟨⟨dfp q1 (c.df.step c.sr g6),q2,q3,g5,g3,by simp only;omega,?_,c.st.trans g6⟩,?_,by simp only;omega,by omega⟩
  · intro i hi';rw[g4 i (by omega)];exact c.lo i hi'
  · intro i h7 h8;rw[g4 i (by omega)];exact c.free i (by omega) h8
end
theorem XC.ops {P:Program} {cX:Ctx} {o:Oper} {lo hi:Nat} {s:St} {K':St→Prop} (hlo:lo<hi) (h:OpS P o (evo s.t) s.H lo fun r H'=>K' ⟨putA s.t o.dst r,H',s.nx⟩):XC cX P o lo hi s K':=by
  intro L a w K Q c hK
  exact qv_of_ops h c hlo (fun r H' L' u w' hk hc=>hK _ _ _ _ hk hc)
def ifB (P:Program) (ty:TypeId):Bool:=match P.underlying ty with
  |some (.interface _)=>true
  |_=>false
theorem ifne_ok {P:Program} {o:Oper} {ev:Operand→AV} {H:HP} {id:Nat} {ty rt:TypeId} {x:Operand} (ho:o.op= .binOp .neq ty x (.const .nilIface) rt) (hx:ev x= .c .nilIface) (hxc:ev (.const .nilIface)= .c .nilIface) (hty:ifB P ty=true) {k:AV→HP→Prop} (h:k (.b false) H):OpS P o ev H id k:=by
  intro L Av w ρ hs hfn hL hi hops
  have hu:=hops x (by rw[ho];simp[Op.operands])
  rw[hx]at hu
  have hu2:=hu.c_inv
  have hv:=hops (.const .nilIface) (by rw[ho];simp[Op.operands])
  rw[hxc]at hv
  have hv2:=hv.c_inv
  obtain⟨ms,hms⟩:∃ms,P.underlying ty=some (.interface ms):=by
    unfold ifB at hty
    split at hty
    · exact⟨_,by assumption⟩
    · cases hty
  have rt:(underlying ty).run P w= .ok (.interface ms) w:=by simp[go_sem,underlying,hms]
  have hq:∀dd:Nat,(Op.equalIn (dd+1) ty .nilIface .nilIface).run P w= .ok true w:=by
    intro dd
    rw[Op.equalIn.eq_2]
    simp[rt]
  have:=hq 9999
  refine .of_value (u:= .bool false) (w':=w) ?_ ⟨_,H,L,h,fun _ _=>rfl,hs,Step.refl _ _ _,.b _⟩
  simp[execOp,ho,hu2,hv2,eqGuard_nil_constR,binOp,Op.equal,Op.maxDepth,this]
theorem Ow.pairB_inv {H:HP} {r X:AV} {e:Bool} {ids:List Nat} (h:Ow H r (.t [X,.b e]) ids):∃r1,r= .t [r1,.b e]∧Ow H r1 X ids:=by
  generalize hX:AV.t [X,AV.b e]=Y at h
  cases h with
  | leaf _ hf hn=>
    subst hX
    cases hf with|t _ hf=>cases hn with|t _ hn=>exact⟨X,rfl,.leaf _ (hf 0 _ rfl) (hn 0 _ rfl)⟩
  |nl=>cases hX
  |h id cs ts ids' h1 h2=>cases hX
  |q id cs ts ids' h1 h2=>cases hX
  |g cs ts ids' h2=>cases hX
  | t cs ts ids' h2=>
    cases hX
    cases h2 with|cons x0 _ xs _ i0 j0 g1 g2=>cases g2 with|cons x1 _ xs _ i1 j1 g3 g4=>
      cases g4
      cases g3 with|leaf _ _ _=>exact⟨x0,rfl,by simpa using g1⟩
end Go.Proofs.YtlcddiojeghfgaaGreatDoor
