import Derived.RangeFuncIn
import Derived.Test.YthncdadmkppclaaGreatDoorZ22
set_option linter.unusedVariables false
set_option linter.unusedSimpArgs false
namespace Go.Proofs.YthncdadmkppclaaGreatDoor
def XC (cX:Ctx) (P:Program) (o:Oper) (lo hi:Nat) (s:St) (K':St→Prop):Prop:=
  ∀(L:LM) (a:Act) (w:World) (K:Act→World→Prop) (Q:Exit→Act→World→Prop),Cr cX lo hi s L a w→(∀s' L' a' w',K' s'→Cr cX (lo+1) hi s' L' a' w'→K a' w')→oWp cX.rd P o a w K Q
section
variable {P:Program} {Γ:TEnv} {cX:Ctx}
theorem arun_pre (hG:GOk P Γ) {ops:List Oper} {base hi:Nat} {Q:Exit→Act→World→Prop} {K':St→Prop} (post:List Oper):∀(pre:List Oper) (i:Nat) (s:St) (L:LM) (a:Act) (w:World),arun Γ P ops base pre i s K'→
    Cr cX (base+i) hi s L a w→base+i+pre.length≤hi→(∀s' L' a' w',K' s'→Cr cX (base+i+pre.length) hi s' L' a' w'→wpL cX.rd P ops.toArray Q post a' w')→wpL cX.rd P ops.toArray Q (pre++post) a w:=by
  intro pre
  induction pre with
  |nil=>intro i s L a w h c _ hQ;exact hQ s L a w h c
  | cons o rest ih=>
    intro i s L a w h c hlen hQ
    simp only[List.length_cons]at hlen hQ
    simp only[arun]at h
    show wpL cX.rd P ops.toArray Q (o::(rest++post)) a w
    unfold wpL
    rcases gop_wanted c.toCn h o rfl with ⟨hw,hy⟩|⟨hw,hn⟩
    · rw[if_pos hw]
      refine .inl (aop_sound hG hy c (by omega) ?_)
      intro s' L' a' w' hk hc
      exact ih (i+1) s' L' a' w' hk hc (by omega) (fun s2 L2 a2 w2 h2 c2=>hQ s2 L2 a2 w2 h2 (by rw[show base+i+(rest.length+1)=base+(i+1)+rest.length by omega];exact c2))
    · rw[if_neg (by simp[hw])]
      exact ih (i+1) _ L _ w hn (c.put o.dst (.c _)).skip (by omega) (fun s2 L2 a2 w2 h2 c2=>hQ s2 L2 a2 w2 h2 (by rw[show base+i+(rest.length+1)=base+(i+1)+rest.length by omega];exact c2))
theorem AW.regionX (hG:GOk P Γ) {n:Nat} {ops:List Oper} {s:St} {K:Exit→St→Prop} (i:Nat) (o:Oper) (ho:ops[i]? =some o) (hg:o.guard=none)
    (h:arun Γ P ops s.nx (ops.take i) 0 ⟨s.t,s.H,s.nx+ops.length⟩ fun s1=>XC cX P o (s.nx+i) (s.nx+ops.length) s1 fun s2=>arun Γ P ops s.nx (ops.drop (i+1)) (i+1) s2 (K .normal)):AW cX P (.region n ops.toArray false) s K:=by
  intro L a w Q hc hQ
  refine wpL_region ?_
  have hcr:Cr cX (s.nx+0) (s.nx+ops.length) ⟨s.t,s.H,s.nx+ops.length⟩ L a w:=
    ⟨⟨hc.df,hc.sz,hc.sl,hc.sr,fun i hi=>hc.fr i (by simp only at hi;omega),by have:=hc.nx;simp only;omega,hc.lo,hc.st⟩,fun i h1 _=>hc.fr i (by omega),by simp only;omega,by have:=hc.nx;omega⟩
  have hlt:i<ops.length:=(List.getElem?_eq_some_iff.1 ho).1
  have hsplit:ops=ops.take i++(o::ops.drop (i+1)):=by
    conv=>lhs;rw[←List.take_append_drop i ops]
    rw[List.drop_eq_getElem_cons hlt,(List.getElem?_eq_some_iff.1 ho).2]
  show wpL cX.rd P ops.toArray Q ops a w
  have hpre:=arun_pre (cX:=cX) (Q:=Q) hG (o::ops.drop (i+1)) (ops.take i) 0 _ L a w h hcr (by rw[List.length_take];omega) ?_
  · rw[←hsplit]at hpre
    exact hpre
  · intro s1 L1 a1 w1 hx hc1
    rw[List.length_take,show s.nx+0+min i ops.length=s.nx+i by omega]at hc1
    unfold wpL
    rw[if_pos (by simp[Region.wanted,hg])]
    refine .inl (hx L1 a1 w1 _ Q hc1 ?_)
    intro s2 L2 a2 w2 h2 hc2
    exact arun_sound (Q:=Q) hG (ops.drop (i+1)) (i+1) s2 L2 a2 w2 h2 hc2 (by rw[List.length_drop];omega) (fun s' L' a' w' hk hc'=>hQ _ _ _ _ _ hk hc')
structure LoopBG (cX:Ctx) (l:Nat) (rec:Loop) (tA:List AV):Prop where
  rd:cX.rd=none
  hp:cX.w0.heap[l]? =some (.loop rec)
  st:rec.state= .ready
  pd:rec.pending=none
  sz:rec.tmps.size=tA.length
  sl:∀(k:Nat) (x:AV),tA[k]? =some x→R cX.L0 cX.w0 (MM cX.L0 cX.H0 cX.Av) x (rec.tmps.getD k undef)
  sr:SR cX.L0 cX.H0 cX.Av cX.w0
theorem XC.yield {l:Nat} {rec:Loop} {tA:List AV} (bg:LoopBG cX l rec tA) {o:Oper} {lo hi:Nat} (hlo:lo<hi) {s:St} {K':St→Prop} {n:Nat} {x:Operand} {tys:Array TypeId} {p:Nat}
    (hop:o.op= .call ⟨.value (.tmp n),#[x],tys⟩) (hy:evo s.t (.tmp n)= .c (.func (.yield l) #[] #[])) (hps:rec.params=#[p])
    (body:∀cZ:Ctx,AW cZ P rec.assign ⟨tA.set p (evo s.t x),s.H,s.nx⟩ (thn (fun _ _=>False) fun s2=>∀cZ':Ctx,AW cZ' P rec.body s2 fun e s3=>e= .normal∧K' ⟨putA s.t o.dst (.b true),s3.H,s3.nx⟩)):XC cX P o lo hi s K':=by
  intro L a w K Q c hK
  have hst:=c.st
  have hl:w.heap[l]? =some (.loop rec):=(hst.keep l (getElem?_lt bg.hp) (bg.sr.book bg.hp trivial)).trans bg.hp
  have hv:a.eval (.tmp n)= .func (.yield l) #[] #[]:=by
    have:=c.ev (.tmp n)
    rw[hy]at this
    exact this.c_inv
  have hyr:=run_yield (P:=P) (args:=#[a.eval x]) hl (by rw[hps];rfl)
  have hexec:(execOp a.eval o).run P w= .ok (.round l rec.fn (rec.tmps.setIfInBounds p (a.eval x)) rec.assign rec.body) w:=by
    rw[hps]at hyr
    simp[execOp,hop,resolve,Deferred.ofValue,hv,invoke,hyr]
  refine⟨fun _ _=>trivial,?_⟩
  rw[show(fw cX.rd).round=none by rw[bg.rd];rfl]
  show Oper.uponIn (fw cX.rd) 0 P o a K Q ((execOp a.eval o).run P w)
  rw[hexec]
  show((fw cX.rd).depth.isSome=true→_)∧RoundIn (fw cX.rd) (0-1) P l rec.fn (rec.tmps.setIfInBounds p (a.eval x)) rec.assign rec.body w _
  refine⟨fun h=>(by cases h),roundIn_of_wpIn (show(fw cX.rd).fn rec.fn from trivial) ?_⟩
  --the assignment
  have hlb:=c.sr.book hl trivial
  have hslots:Cn ⟨some l,false,s.nx,L,s.H,w,cX.Av⟩ ⟨tA.set p (evo s.t x),s.H,s.nx⟩ L {tmps:=rec.tmps.setIfInBounds p (a.eval x),defers:=[]} w:=by
    refine⟨DF.nil,by simp[bg.sz],?_,c.sr,c.fr,Nat.le_refl _,fun _ _=>rfl,Step.refl _ _ _⟩
    intro k y hk
    rw[List.getElem?_set]at hk
    simp only[Array.getD_eq_getD_getElem?,Array.getElem?_setIfInBounds]
    split at hk
    · rename_i hkp
      subst hkp
      split at hk
      · rename_i hlt
        cases hk
        simp only[bg.sz,hlt,if_true,Option.getD_some]
        exact c.ev x
      · cases hk
    · rename_i hkp
      simp only[hkp,if_false]
      have:=(bg.sl k y hk).step hst
      simpa using this
  have hfw:fw (some l)=(fw cX.rd).inRound l:=by rw[bg.rd];rfl
  rw[←hfw]
  refine body ⟨some l,false,s.nx,L,s.H,w,cX.Av⟩ L _ w _ hslots ?_
  intro e s2 L2 a1 w1 hk c2
  cases e<;>simp only[thn,Exit.then]at hk ⊢
  have s1:Step L s.H w L2 s2.H w1:=c2.st
  have hl1:w1.heap[l]? =some (.loop rec):=(s1.keep l (getElem?_lt hl) hlb).trans hl
  refine⟨_,run_beginRound hl1 bg.st,?_⟩
  have hb1:(w1.putObj l (.loop {rec with state:= .busy})).heap[l]? =some (.loop {rec with state:= .busy}):=World.putObj_heap_same (getElem?_lt hl1)
  have hsr2:=c2.sr.putBook hl1 trivial (.loop {rec with state:= .busy})
  have hd1:a1.defers=[]:=c2.df.2 rfl
  have c2':Cn ⟨some l,false,s2.nx,L2,s2.H,w1.putObj l (.loop {rec with state:= .busy}),cX.Av⟩ s2 L2 a1 (w1.putObj l (.loop {rec with state:= .busy})):=
    ⟨dfp hd1 DF.nil,c2.sz,fun k y hk=>(c2.sl k y hk).putBook hl1 trivial _,hsr2,c2.fr,Nat.le_refl _,fun _ _=>rfl,Step.refl _ _ _⟩
  refine hk ⟨some l,false,s2.nx,L2,s2.H,w1.putObj l (.loop {rec with state:= .busy}),cX.Av⟩ L2 a1 _ _ c2' ?_
  rintro e s3 L3 a3 w3 ⟨rfl,hK'⟩ c3
  have s2':Step L2 s2.H (w1.putObj l (.loop {rec with state:= .busy})) L3 s3.H w3:=c3.st
  have hl3:w3.heap[l]? =some (.loop {rec with state:= .busy}):=(s2'.keep l (getElem?_lt hb1) (hsr2.book hb1 trivial)).trans hb1
  have hend:=run_endRound (P:=P) none hl3
  have hrec:({{rec with state:= .busy}with state:=if (none:Option Code).isNone then .ready else .done,pending:=none}:Loop)=rec:=by
    have h1:=bg.st
    have h2:=bg.pd
    cases rec
    simp only at h1 h2
    subst h1 h2
    rfl
  rw[hrec]at hend
  refine⟨_,_,hend,?_⟩
  have hstep:Step L s.H w L3 s3.H (w3.putObj l (.loop rec)):=by
    refine⟨fun i m hm=>s2'.le _ _ (s1.le _ _ hm),s2'.os.trans s1.os,s2'.tape.trans s1.tape,s2'.output.trans s1.output,?_,?_,?_⟩
    · have e1:=s1.size
      have e2:=s2'.size
      rw[World.putObj_size]at e2 ⊢
      exact Nat.le_trans e1 e2
    · intro b hb hnl
      have e1:=s1.size
      by_cases hbl:b=l
      · subst hbl
        rw[World.putObj_heap_same (getElem?_lt hl3),hl]
      · rw[World.putObj_heap_other hbl]
        have h1:=s1.keep b hb hnl
        have h2:=s2'.keep b (by rw[World.putObj_size];omega) (fun h=>hnl (s1.old b hb h))
        rw[h2,World.putObj_heap_other hbl,h1]
    · intro b hb h
      have e1:=s1.size
      exact s1.old b hb (s2'.old b (by rw[World.putObj_size];omega) h)
  have hsr3:=c3.sr.putBook hl3 trivial (.loop rec)
  have hL:∀i,i<s.nx→L3 i=L i:=fun i hi=>(c3.lo i (Nat.lt_of_lt_of_le hi c2.nx)).trans (c2.lo i hi)
  obtain⟨q1,q2,q3⟩:=put_fits (a:=a) c.sz (fun k y hk=>(c.sl k y hk).step hstep) o.dst (.b true:R L3 (w3.putObj l (.loop rec)) (MM L3 s3.H cX.Av) (.b true) (.bool true))
  have h4:=c.hi
  have h5:=c.nlo
  have h6:=c.nx
  have h7:s.nx≤s3.nx:=Nat.le_trans c2.nx c3.nx
  refine hK _ L3 _ _ hK' ⟨⟨dfp q1 (c.df.step c.sr hstep),q2,q3,hsr3,c3.fr,by simp only;omega,?_,c.st.trans hstep⟩,?_,by simp only;omega,by omega⟩
  · intro i hi;rw[hL i (by omega)];exact c.lo i hi
  · intro i h8 h9;rw[hL i (by omega)];exact c.free i (by omega) h9
def Rnd (P:Program) (rec:Loop) (tA:List AV) (p:Nat) (v:AV) (H:HP) (m:Nat) (Q:HP→Nat→Prop):Prop:=
  ∀cZ:Ctx,AW cZ P rec.assign ⟨tA.set p v,H,m⟩ (thn (fun _ _=>False) fun s2=>∀cZ':Ctx,AW cZ' P rec.body s2 fun e s3=>e= .normal∧Q s3.H s3.nx)
theorem Rnd.mono {rec:Loop} {tA:List AV} {p:Nat} {v:AV} {H:HP} {m:Nat} {Q Q':HP→Nat→Prop} (h:Rnd P rec tA p v H m Q) (hq:∀H m,Q H m→Q' H m):Rnd P rec tA p v H m Q':=
  fun cZ=>(h cZ).mono fun e s' h=>by
    cases e<;>simp only[thn]at h ⊢
    · exact fun cZ'=>(h cZ').mono fun e s3 h=>⟨h.1,hq _ _ h.2⟩
    all_goals exact h
theorem XC.rnd {l:Nat} {rec:Loop} {tA:List AV} (bg:LoopBG cX l rec tA) {o:Oper} {lo hi:Nat} (hlo:lo<hi) {s:St} {K':St→Prop} {n:Nat} {x:Operand} {tys:Array TypeId} {p:Nat}
    (hop:o.op= .call ⟨.value (.tmp n),#[x],tys⟩) (hy:evo s.t (.tmp n)= .c (.func (.yield l) #[] #[])) (hps:rec.params=#[p])
    (body:Rnd P rec tA p (evo s.t x) s.H s.nx fun H m=>K' ⟨putA s.t o.dst (.b true),H,m⟩):XC cX P o lo hi s K':=
  XC.yield bg hlo hop hy hps body
theorem AW.rangeFunc (hG:GOk P Γ) (hrd:cX.rd=none) (hrf:cX.rf=true) {g:Operand} {ps:Array Tmp} {assign body:Code} {s:St} {K:Exit→St→Prop} {gf:FuncId} {caps:List AV} {fn:Func} {c:Code} {n:Nat}
    (hgv:evo s.t g= .f gf caps) (hf:P.funcs[gf]? =some fn) (hb:fn.body=some c) (hn:(fn.name== "runtime.NumGoroutine")=false) (hnt:fn.ntmps-(caps.length+1)=n)
    (it:∀(cY:Ctx) (l:Nat) (rec:Loop),rec.params=ps→rec.assign=assign→rec.body=body→LoopBG cY l rec s.t→
      AW cY P c ⟨.c (.func (.yield l) #[] #[])::(caps++List.replicate n .j),s.H,s.nx⟩ (finK Γ fn.results.toList fun nx' H' _=>K .normal ⟨s.t,H',nx'⟩)):
    AW cX P (.rangeFunc g ps assign body) s K:=by
  intro L a w Q hc hQ
  refine wpIn_rangeFunc ?_
  intro fn0 _
  obtain⟨us,hev,hus⟩:=(show R L w (MM L s.H cX.Av) (.f gf caps) (a.eval g) by rw[←hgv];exact hc.ev g).f_inv
  rw[show(fw cX.rd).round=none by rw[hrd];rfl]
  obtain⟨rec,hrec⟩:∃rec:Loop,rec={state:= .ready,pending:=none,fn:=fn0,tmps:=a.tmps,params:=ps,assign,body,defers:=w.heap.size}:=⟨_,rfl⟩
  have hen:=run_enterLoop_outer (P:=P) (w:=w) fn0 a.tmps ps assign body
  rw[←hrec]at hen
  obtain⟨w1,hw1⟩:∃w1,(w.alloc (.deferred (some []))).alloc (.loop rec)=w1:=⟨_,rfl⟩
  rw[hw1]at hen
  have hst0:Step L noH w L noH w1:=by
    rw[←hw1]
    exact(Step.of_alloc _ (fun _ _ h=>h) (fun _ _ h=>h)).trans (Step.of_alloc _ (fun _ _ h=>h) (fun _ _ h=>h))
  obtain⟨hsr1,hst1⟩:=hc.sr.kept hst0
  have hsz1:w1.heap.size=w.heap.size+2:=by rw[←hw1];simp
  have hl1:w1.heap[w.heap.size+1]? =some (.loop rec):=by
    rw[←hw1]
    have:=heap_alloc_new (w.alloc (.deferred (some []))) (.loop rec)
    rwa [World.size_alloc]at this
  have hD1:w1.heap[w.heap.size]? =some (.deferred (some [])):=by
    rw[←hw1,heap_alloc_lt _ _ (by simp)]
    exact heap_alloc_new _ _
  have eg:∀(args:Array Value) (w:World),(callFunc gf args).run P w= .ok (.enter gf args) w:=by
    intro args w
    have h2':¬fn.body=none:=by rw[hb];simp
    have h3':¬fn.name= "runtime.NumGoroutine" :=by simpa using hn
    simp[callFunc,hf,h2',h3']
  refine⟨w.heap.size+1,[{target:= .collected w.heap.size,args:=#[]}],w1,{target:= .fn (.func gf) us,args:=#[.func (.yield (w.heap.size+1)) #[] #[]]},w1,gf,
    #[.func (.yield (w.heap.size+1)) #[] #[]]++us,w1,hen,?_,fun _ _=>trivial,?_,fun h=>(by cases h),?_⟩
  · simp only[resolve,hev]
    simp[go_sem,rangeCall,hev]
  · simp[invoke,go_sem,eg]
  have ha:ArgsR L w1 (MM L s.H cX.Av) (.c (.func (.yield (w.heap.size+1)) #[] #[])::caps) (#[.func (.yield (w.heap.size+1)) #[] #[]]++us):=by
    refine⟨by simp[hus.1];omega,?_⟩
    intro k x hk
    cases k with
    | zero=>
      cases hk
      have h0:(#[Value.func (.yield (w.heap.size+1)) #[] #[]]++us).getD 0 undef= .func (.yield (w.heap.size+1)) #[] #[]:=by
        rw[Array.getD_eq_getD_getElem?,Array.getElem?_append_left (by simp)]
        rfl
      rw[h0]
      exact .c _
    | succ k=>
      have:=((hus.2 k x (by simpa using hk)).step hst1)
      simpa[Array.getD_eq_getD_getElem?,Array.getElem?_append]using this
  have hbg:LoopBG ⟨none,true,s.nx,L,s.H,w1,cX.Av⟩ (w.heap.size+1) rec s.t:=
    ⟨rfl,hl1,by rw[hrec],by rw[hrec],by rw[hrec];exact hc.sz,fun k x hk=>by rw[hrec];exact(hc.sl k x hk).step hst1,hsr1⟩
  have hrun:=AC.run (as:= .c (.func (.yield (w.heap.size+1)) #[] #[])::caps) hG hf hb (by simpa using hnt) hsr1 hc.fr ha (it _ _ rec (by rw[hrec]) (by rw[hrec]) (by rw[hrec]) hbg)
  refine fw_calls (hrun.mono ?_)
  rintro e w3 ⟨u,r,L3,nx3,H3,rfl,hK,hnx,hfr3,hlo3,hsr3,hst3,hr⟩
  have hl3:w3.heap[w.heap.size+1]? =some (.loop rec):=(hst3.keep _ (getElem?_lt hl1) (hsr1.book hl1 trivial)).trans hl1
  have hD3:w3.heap[w.heap.size]? =some (.deferred (some [])):=(hst3.keep _ (getElem?_lt hD1) (hsr1.book hD1 trivial)).trans hD1
  have hend:=run_endLoop (P:=P) hl3 (by rw[hrec];simp)
  refine⟨rec.pending,_,hend,?_⟩
  rw[show rec.pending=none by rw[hrec]]
  refine hQ .normal ⟨s.t,H3,nx3⟩ L3 _ _ hK ?_
  have hB:=hc.st.size
  refine⟨⟨?_,fun h=>by rw[hrf]at h;cases h⟩,hc.sz,fun k x hk=>(((hc.sl k x hk).step hst1).step hst3).putBook hl3 trivial _,hsr3.putBook hl3 trivial _,hfr3,Nat.le_trans hc.nx hnx,fun i hi=>(hlo3 i (Nat.lt_of_lt_of_le hi hc.nx)).trans (hc.lo i hi),(hc.st.trans (hst1.trans hst3)).putBook (by omega) _⟩
  refine⟨⟨w.heap.size,rfl,(World.putObj_heap_other (by omega)).trans hD3,hB,?_⟩,?_⟩
  · intro E hE
    have:=getElem?_lt (hc.df.1.mem E hE)
    omega
  · refine hc.df.1.of fun E _ hE=> ?_
    have hlt:=getElem?_lt hE
    have h1:w1.heap[E]? =w.heap[E]? :=hst1.keep E hlt (hc.sr.book hE trivial)
    have h3:w3.heap[E]? =w1.heap[E]? :=hst3.keep E (by omega) (hsr1.book (h1.trans hE) trivial)
    exact(World.putObj_heap_other (by omega)).trans (h3.trans h1)
end
end Go.Proofs.YthncdadmkppclaaGreatDoor
