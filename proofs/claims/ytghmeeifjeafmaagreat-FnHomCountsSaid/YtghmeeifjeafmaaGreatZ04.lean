import Derived.Orders
import Derived.LoopNIn
import Derived.RangeFuncLeaves
import Derived.Test.YtghmeeifjeafmaaGreatZ03
set_option linter.unusedVariables false
set_option linter.unusedSimpArgs false
namespace Go.Proofs.YtghmeeifjeafmaaGreat
structure Ctx where
  rd:Option Nat
  rf:Bool
  nx0:Nat
  L0:LM
  H0:HP
  w0:World
  Av:Nat→Prop
def DF (cX:Ctx) (ds:List Deferred) (w:World):Prop:=DFok cX.w0.heap.size ds w∧(cX.rf=false→ds=[])
theorem DF.step {cX:Ctx} {L L':LM} {H H':HP} {Av:Nat→Prop} {w w':World} {ds:List Deferred} (h:DF cX ds w) (s:SR L H Av w) (st:Step L H w L' H' w'):DF cX ds w':=⟨h.1.step s st,h.2⟩
theorem DF.same {cX:Ctx} {w w':World} {ds:List Deferred} (h:DF cX ds w) (hw:w'.heap=w.heap):DF cX ds w':=⟨h.1.same hw,h.2⟩
theorem dfp {cX:Ctx} {ds ds':List Deferred} {w:World} (h1:ds'=ds) (h:DF cX ds w):DF cX ds' w:=by rw[h1];exact h
theorem DF.nil {cX:Ctx} {w:World}:DF cX [] w:=⟨trivial,fun _=>rfl⟩
structure Cn (cX:Ctx) (s:St) (L:LM) (a:Act) (w:World):Prop where
  df:DF cX a.defers w
  sz:a.tmps.size=s.t.length
  sl:∀(k:Nat) (x:AV),s.t[k]? =some x→R L w (MM L s.H cX.Av) x (a.tmps.getD k undef)
  sr:SR L s.H cX.Av w
  fr:∀i,s.nx≤i→L i=none
  nx:cX.nx0≤s.nx
  lo:∀i,i<cX.nx0→L i=cX.L0 i
  st:Step cX.L0 cX.H0 cX.w0 L s.H w
theorem Cn.ev {cX:Ctx} {s:St} {L:LM} {a:Act} {w:World} (c:Cn cX s L a w) (x:Operand):R L w (MM L s.H cX.Av) (evo s.t x) (a.eval x):=by
  cases x with
  | tmp n=>
    simp only[evo,Act.eval]
    by_cases hn:n<s.t.length
    · have:=c.sl n s.t[n] (List.getElem?_eq_getElem hn)
      simpa[hn]using this
    have hle:s.t.length≤n:=Nat.le_of_not_lt hn
    have:s.t.getD n .j= .j:=by rw[List.getD_eq_getElem?_getD,List.getElem?_eq_none hle];rfl
    rw[this]
    exact .j _
  |const v=>exact R.ofV _ _ _ _
  |global g=>exact .c _
  |func f=>exact .f _ _ #[] rfl (by simp)
def putA (t:List AV) (d:Option Nat) (x:AV):List AV:=
  match d with
  |some d=>t.set d x
  |none=>t
theorem put_fits {L:LM} {w:World} {M:Nat→Prop} {t:List AV} {a:Act} (hs:a.tmps.size=t.length) (hr:∀(k:Nat) (x:AV),t[k]? =some x→R L w M x (a.tmps.getD k undef)) (d:Option Nat) {x:AV} {u:Value} (hx:R L w M x u):
    (a.put d u).defers=a.defers∧(a.put d u).tmps.size=(putA t d x).length∧∀(k:Nat) (y:AV),(putA t d x)[k]? =some y→R L w M y ((a.put d u).tmps.getD k undef):=by
  cases d with
  |none=>exact⟨rfl,hs,hr⟩
  | some d=>
    refine⟨rfl,by simp[Act.put,putA,hs],?_⟩
    intro k y hk
    simp only[putA,List.getElem?_set]at hk
    simp only[Act.put,Array.getD_eq_getD_getElem?,Array.getElem?_setIfInBounds]
    split at hk
    · rename_i hdk
      subst hdk
      split at hk
      · rename_i hlt
        cases hk
        simp[hs,hlt,hx]
      cases hk
    rename_i hdk
    simp only[hdk,if_false];have:=hr k y hk
    simpa using this
def AW (cX:Ctx) (P:Program) (c:Code) (s:St) (K:Exit→St→Prop):Prop:=
  ∀ (L:LM) (a:Act) (w:World) (Q:Exit→Act→World→Prop),Cn cX s L a w→
    (∀e s' L' a' w',K e s'→Cn cX s' L' a' w'→Q e a' w')→c.wpIn (fw cX.rd) 0 P Q a w
variable {cX:Ctx}
theorem AW.mono {P:Program} {c:Code} {s:St} {K K':Exit→St→Prop} (h:AW cX P c s K) (hk:∀e s',K e s'→K' e s'):AW cX P c s K':=
  fun L a w Q hc hQ=>h L a w Q hc (fun e s' L' a' w' k=>hQ e s' L' a' w' (hk e s' k))
theorem AW.skip {P:Program} {s:St} {K:Exit→St→Prop} (h:K .normal s):AW cX P .skip s K:=fun _ _ _ _ hc hQ=>wpIn_skip (hQ _ _ _ _ _ h hc)
theorem AW.ret {P:Program} {s:St} {K:Exit→St→Prop} (h:K .ret s):AW cX P .ret s K:=fun _ _ _ _ hc hQ=>wpIn_ret (hQ _ _ _ _ _ h hc)
theorem AW.exit {P:Program} {s:St} {n:Nat} {K:Exit→St→Prop} (h:K (.exit n) s):AW cX P (.exit n) s K:=fun _ _ _ _ hc hQ=>wpIn_exit (hQ _ _ _ _ _ h hc)
def thn (K:Exit→St→Prop) (next:St→Prop):Exit→St→Prop
  | .normal,s=>next s
  |e,s=>K e s
theorem AW.seq {P:Program} {x y:Code} {s:St} {K:Exit→St→Prop} (h:∀N:St→Prop,(∀s',AW cX P y s' K→N s')→AW cX P x s (thn K N)):AW cX P (.seq x y) s K:=by
  intro L a w Q hc hQ
  refine wpIn_seq (h _ (fun _ h=>h) L a w _ hc ?_)
  intro e s' L' a' w' hk hc'
  cases e<;>simp only[thn,Exit.then]at hk ⊢
  case normal=>exact hk L' a' w' Q hc' hQ
  all_goals exact hQ _ _ _ _ _ hk hc'
theorem AW.cond {P:Program} {c:Operand} {x y:Code} {s:St} {z:Bool} {K:Exit→St→Prop} (hc:evo s.t c= .b z) (ht:z=true→AW cX P x s K) (hf:z=false→AW cX P y s K):AW cX P (.cond c x y) s K:=by
  intro L a w Q hcn hQ
  have:=hcn.ev c
  rw[hc]at this
  exact wpIn_cond_split this.b_inv (fun h=>ht h L a w Q hcn hQ) (fun h=>hf h L a w Q hcn hQ)
def blk (K:Exit→St→Prop) (id:Nat):Exit→St→Prop
  | .exit id',s=>if id'=id then K .normal s else K (.exit id') s
  |e,s=>K e s
theorem AW.block {P:Program} {id:Nat} {c:Code} {s:St} {K:Exit→St→Prop} (h:AW cX P c s (blk K id)):AW cX P (.block id c) s K:=by
  intro L a w Q hc hQ
  refine wpIn_block (h L a w _ hc ?_)
  intro e s' L' a' w' hk hc'
  cases e<;>simp only[blk,Exit.inBlock]at hk ⊢
  case exit id'=>
    split at hk
    · rename_i hid;rw[if_pos hid];exact hQ _ _ _ _ _ hk hc'
    rename_i hid;rw[if_neg hid];exact hQ _ _ _ _ _ hk hc'
  all_goals exact hQ _ _ _ _ _ hk hc'
def wkA (x y:AV):Prop:=y= .j∨x=y∨(x= .nl∧y= .v 0 [])
def wks:List AV→List AV→Prop
  |[],[]=>True
  |x::xs,y::ys=>wkA x y∧wks xs ys
  |_,_=>False
def Wk (s s':St):Prop:=wks s.t s'.t∧(∀id cs,s'.H id=some cs→s.H id=some cs)∧s.nx≤s'.nx
theorem wks_get:∀{xs ys:List AV},wks xs ys→ys.length=xs.length∧∀(k:Nat) (y:AV),ys[k]? =some y→∃x,xs[k]? =some x∧wkA x y:=by
  intro xs
  induction xs with
  |nil=>intro ys h;cases ys with|nil=>exact⟨rfl,by simp⟩|cons=>exact h.elim
  | cons x xs ih=>
    intro ys h
    cases ys with
    |nil=>exact h.elim
    | cons y ys=>
      obtain⟨h1,h2⟩:=ih h.2
      refine⟨by simp[h1],?_⟩
      intro k z hk
      cases k with
      |zero=>simp at hk;subst hk;exact⟨x,rfl,h.1⟩
      |succ k=>exact h2 k z (by simpa using hk)
theorem LB_sub {L:LM} {H H':HP} (h:∀id cs,H' id=some cs→H id=some cs) {b:Nat}:LB L H' b→LB L H b:=
  fun ⟨id,cs,l,h1,h2,h3⟩=>⟨id,cs,l,h id cs h1,h2,h3⟩
theorem SR.sub {L:LM} {H H':HP} {Av:Nat→Prop} {w:World} (s:SR L H Av w) (h:∀id cs,H' id=some cs→H id=some cs):SR L H' Av w:=by
  refine⟨?_,fun i i' c c' l l' h1 h2=>s.inj i i' c c' l l' (h _ _ h1) (h _ _ h2),fun i c l h1=>s.av i c l (h _ _ h1),s.avlt⟩
  intro id cs hid
  obtain⟨l,h1,hnd⟩:=s.node id cs (h _ _ hid)
  exact⟨l,h1,hnd.mono rfl fun k x hk u h7=>h7.mono (fun _ _ h=>h) (fun _ _ _=>rfl) (fun b _ hb=>Or.elim hb .inl (fun hl=> .inr (LB_sub h hl)))⟩
theorem Cn.wk {cX:Ctx} {s s':St} {L:LM} {a:Act} {w:World} (c:Cn cX s L a w) (h:Wk s s'):Cn cX s' L a w:=by
  obtain⟨h1,h2,h3⟩:=h
  obtain⟨h4,h5⟩:=wks_get h1
  have hm:∀{x:AV} {u:Value},R L w (MM L s.H cX.Av) x u→R L w (MM L s'.H cX.Av) x u:=
    fun hr=>hr.mono (fun _ _ h=>h) (fun _ _ _=>rfl) (fun b _ hb=>Or.elim hb .inl (fun hl=> .inr (LB_sub h2 hl)))
  refine⟨c.df,by rw[c.sz,h4],?_,c.sr.sub h2,fun i hi=>c.fr i (by omega),by have:=c.nx;omega,c.lo,?_⟩
  · intro k y hk
    obtain⟨x,h6,h7⟩:=h5 k y hk
    have h8:=c.sl k x h6
    rcases h7 with rfl|rfl|⟨rfl,rfl⟩
    · exact .j _
    · exact hm h8
    rw[h8.nl_inv];exact .v0 _ _
  exact⟨c.st.le,c.st.os,c.st.tape,c.st.output,c.st.size,c.st.keep,fun b hb hl=>c.st.old b hb (LB_sub h2 hl)⟩
theorem wp_loop_rounds' {F:Fence} {n0:Nat} {P:Program} {c:Code} {Q:Exit→Act→World→Prop} (I:Nat→Act→World→Prop)
    (round:∀n a w,I n a w→c.wpIn F n0 P (Exit.then (fun a' w'=>∃m,m<n∧I m a' w') Q) a w) (n:Nat) (a:Act) (w:World) (hI:I n a w):(Code.loop c).wpIn F n0 P Q a w:=by
  refine wpIn_loop_rounds (n+1) ?_
  have key:∀m n a w,n<m→I n a w→Code.roundsIn F n0 P c Q m a w:=by
    intro m
    induction m with
    |zero=>intro n a w h;omega
    | succ m ih=>
      intro n a w hn hI
      unfold Code.roundsIn
      refine wpIn_mono (round n a w hI) ?_
      intro e a' w' h
      cases e<;>simp only[Exit.then]at h ⊢
      case normal=>
        obtain⟨k,hk,hI'⟩:=h
        exact ih k a' w' (by omega) hI'
      all_goals exact h
  exact key (n+1) n a w (by omega) hI
theorem AW.loop {P:Program} {c:Code} {s:St} {K:Exit→St→Prop} {α:Type} (S:α→St) (I:α→Prop) (μ:α→Nat) (x0:α) (h0:I x0) (hw:Wk s (S x0))
    (round:∀x,I x→AW cX P c (S x) (thn K fun s'=>∃y,Wk s' (S y)∧I y∧μ y<μ x)):AW cX P (.loop c) s K:=by
  intro L a w Q hc hQ
  refine wp_loop_rounds' (fun n a w=>∃x L,μ x=n∧I x∧Cn cX (S x) L a w) ?_ (μ x0) a w ⟨x0,L,rfl,h0,hc.wk hw⟩
  rintro n a w ⟨x,L,rfl,hI,hcn⟩
  refine round x hI L a w _ hcn ?_
  intro e s' L' a' w' hk hc'
  cases e<;>simp only[thn,Exit.then]at hk ⊢
  case normal=>
    obtain⟨y,h1,h2,h3⟩:=hk
    exact⟨μ y,h3,y,L',rfl,h2,hc'.wk h1⟩
  all_goals exact hQ _ _ _ _ _ hk hc'
end Go.Proofs.YtghmeeifjeafmaaGreat
namespace Go.Proofs.YtghmeeifjeafmaaGreat
def gop (ops:List Oper) (g:Option (Nat×Bool)) (t:List AV) (yes no:List AV→Prop):Prop:=
  match g with
  |none=>yes t
  | some (j,want)=>match (ops[j]?).bind (·.dst)with
    | some d=>match t[d]? with
      |some (.b x)=>gopB x want (yes (t.set d (.b want))) (no (t.set d (.b (!want)))) (.mk _) (.mk _)
      |some (.c (.tuple _))=>no t
      |_=>False
    |none=>False
structure nilB (n:Nat) (t f:Prop):Prop where
  t:n=0→t
  f:f
def nilop (Γ:TEnv) (op:BinOp) (ty:TypeId) (x y:AV) (k:AV→Prop):Prop:=
  match op,x,y with
  | .eql,.v n _,.nl=>(∃e el,Γ ty=some e∧e.d= .slice el)∧nilB n (k (.b true)) (k (.b false))
  | .neq,.v n _,.nl=>(∃e el,Γ ty=some e∧e.d= .slice el)∧nilB n (k (.b false)) (k (.b true))
  |op,x,y=>bop Γ op ty x y k
theorem nilop_ok {P:Program} {Γ:TEnv} (hG:GOk P Γ) {o:Oper} {ev:Operand→AV} {H:HP} {id:Nat} {op:BinOp} {ty ty2:TypeId} {x y:Operand} (ho:o.op= .binOp op ty x y ty2) {k:AV→Prop} (h:nilop Γ op ty (ev x) (ev y) k):
    OpS P o ev H id fun r H'=>k r∧H'=H:=by
  intro L Av w ρ hs hfn hL hi hops
  have fin:∀{z:Value} {r:AV},k r→(do eqGuard op ty x y (ρ x) (ρ y);binOp op ty (ρ x) (ρ y):Sem Value).run P w= .ok z w→R L w (MM L H Av) r z→
      QV P o ρ w fun u w'=>∃r H' L',(k r∧H'=H)∧(∀i,i≠id→L' i=L i)∧SR L' H' Av w'∧Step L H w L' H' w'∧R L' w' (MM L' H' Av) r u:=by
    intro z r hk h3 h4
    refine .of_value (u:=z) ?_ ⟨r,H,L,⟨hk,rfl⟩,fun _ _=>rfl,hs,Step.refl _ _ _,h4⟩
    simp only[execOp,ho,Sem.run_bind,Sem.run_pure]at h3 ⊢
    rw[h3];rfl
  unfold nilop at h
  split at h
  · rename_i n cs hx hy
    obtain⟨⟨e,el,he,hd⟩,h⟩:=h
    have hu':=((hG ty e he).slice hd).1
    have h1:=hops x (by simp[ho,Op.operands])
    have h2:=hops y (by simp[ho,Op.operands])
    rw[hx]at h1
    rw[hy]at h2
    have h2':=h2.nl_inv
    obtain⟨u,hval⟩:∃u,ρ x=u:=⟨_,rfl⟩
    rw[hval]at h1
    cases h1 with
    | v0 ad cp=>
      cases ad with
      | none=>
        refine fin (h.t rfl) (z:= .bool true) ?_ (.b _)
        rw[hval,h2']
        simp[eqGuard,Lib.run_eql_slice_nil w ty el _ _ _ _ _ hu']
      | some ad=>
        refine fin h.f (z:= .bool false) ?_ (.b _)
        rw[hval,h2']
        simp[eqGuard,Lib.run_eql_slice_nil w ty el _ _ _ _ _ hu']
    | v _ _ b off cp arr et ff us hM hb hn hu hr=>
      refine fin h.f (z:= .bool false) ?_ (.b _)
      rw[hval,h2']
      simp[eqGuard,Lib.run_eql_slice_nil w ty el _ _ _ _ _ hu']
  · rename_i n cs hx hy
    obtain⟨⟨e,el,he,hd⟩,h⟩:=h
    have hu':=((hG ty e he).slice hd).1
    have h1:=hops x (by simp[ho,Op.operands])
    have h2:=hops y (by simp[ho,Op.operands])
    rw[hx]at h1
    rw[hy]at h2
    have h2':=h2.nl_inv
    obtain⟨u,hval⟩:∃u,ρ x=u:=⟨_,rfl⟩
    rw[hval]at h1
    cases h1 with
    | v0 ad cp=>
      cases ad with
      | none=>
        refine fin (h.t rfl) (z:= .bool false) ?_ (.b _)
        rw[hval,h2']
        simp[eqGuard,Go.run_neq_slice_nil_any w ty el _ _ _ _ _ hu']
      | some ad=>
        refine fin h.f (z:= .bool true) ?_ (.b _)
        rw[hval,h2']
        simp[eqGuard,Go.run_neq_slice_nil_any w ty el _ _ _ _ _ hu']
    | v _ _ b off cp arr et ff us hM hb hn hu hr=>
      refine fin h.f (z:= .bool true) ?_ (.b _)
      rw[hval,h2']
      simp[eqGuard,Go.run_neq_slice_nil_any w ty el _ _ _ _ _ hu']
  obtain⟨r,h1,h2⟩:=bop_run hG h x y
  obtain⟨z,h3,h4⟩:=h2 L w _ _ _ (hops x (by simp[ho,Op.operands])) (hops y (by simp[ho,Op.operands]))
  exact fin h1 h3 h4
def aop (Γ:TEnv) (P:Program) (dst:Option Nat) (op:Op) (id:Nat) (s:St) (K:St→Prop):Prop:=
  match op with
  | .binOp op ty x y _=>nilop Γ op ty (evo s.t x) (evo s.t y) fun r=>K ⟨putA s.t dst r,s.H,s.nx⟩
  | .store ty x y=>stop Γ s.H ty (evo s.t x) (evo s.t y) fun r H'=>K ⟨putA s.t dst r,H',s.nx⟩
  | .call ⟨.builtin .append,args,tys⟩=>match args.toList,tys.toList with
    |[x,y],[t1,t2]=>apop Γ s.H t1 t2 (evo s.t x) (evo s.t y) id fun r H'=>K ⟨putA s.t dst r,H',s.nx⟩
    |_,_=>False
  | .call ⟨.value (.func f),args,_⟩=>AC P f s.nx s.H (args.toList.map (evo s.t)) fun nx' H' r=>K ⟨putA s.t dst r,H',nx'⟩
  | .call ⟨.value (.tmp n),args,_⟩=>fnV (evo s.t (.tmp n)) fun f cs=>AC P f s.nx s.H (args.toList.map (evo s.t)++cs) fun nx' H' r=>K ⟨putA s.t dst r,H',nx'⟩
  | .makeMap _ none=>mkopM id (fun r H'=>K ⟨putA s.t dst r,H',s.nx⟩) s.H
  | .lookup ty x i ok=>mlop Γ s.H ty (evo s.t x) (evo s.t i) ok fun r=>K ⟨putA s.t dst r,s.H,s.nx⟩
  | .mapUpdate ty x i v=>muop Γ s.H ty (evo s.t x) (evo s.t i) (evo s.t v) fun r H'=>K ⟨putA s.t dst r,H',s.nx⟩
  | .insert ty x i v=>muop Γ s.H ty (evo s.t x) (evo s.t i) (evo s.t v) fun r H'=>K ⟨putA s.t dst r,H',s.nx⟩
  | .range ty x=>rgop Γ s.H ty (evo s.t x) id fun r H'=>K ⟨putA s.t dst r,H',s.nx⟩
  | .next x false=>nxop s.H (evo s.t x) fun r H'=>K ⟨putA s.t dst r,H',s.nx⟩
  | .entry x=>enop s.H (evo s.t x) fun r=>K ⟨putA s.t dst r,s.H,s.nx⟩
  | .index ty x i=>sxop Γ ty (evo s.t x) (evo s.t i) fun r=>K ⟨putA s.t dst r,s.H,s.nx⟩
  | .convert sty dty x=>cvop Γ s.H sty dty (evo s.t x) fun r=>K ⟨putA s.t dst r,s.H,s.nx⟩
  | .call ⟨.builtin .copy,args,tys⟩=>match args.toList,tys.toList with
    |[x,y],t1::_=>cpop Γ s.H t1 (evo s.t x) (evo s.t y) fun r H'=>K ⟨putA s.t dst r,H',s.nx⟩
    |_,_=>False
  |op=>qop Γ P op s.t s.H id fun r d=>K ⟨putA s.t dst r,updo s.H id d,s.nx⟩
def arun (Γ:TEnv) (P:Program) (ops:List Oper) (base:Nat):List Oper→Nat→St→(St→Prop)→Prop
  |[],_,s,K=>K s
  |o::rest,i,s,K=>gop ops o.guard s.t (fun t=>aop Γ P o.dst o.op (base+i) ⟨t,s.H,s.nx⟩ fun s'=>arun Γ P ops base rest (i+1) s' K) (fun t=>arun Γ P ops base rest (i+1) ⟨putA t o.dst (.c undef),s.H,s.nx⟩ K)
section
variable {P:Program} {Γ:TEnv} {cX:Ctx} {s:St} {L:LM} {a:Act} {w:World}
structure Cr (cX:Ctx) (fa fb:Nat) (s:St) (L:LM) (a:Act) (w:World):Prop extends Cn cX s L a w where
  free:∀i,fa≤i→i<fb→L i=none
  hi:fb≤s.nx
  nlo:cX.nx0≤fa
theorem gop_wanted {ops:List Oper} {g:Option (Nat×Bool)} (c:Cn cX s L a w) {yes no:List AV→Prop} (h:gop ops g s.t yes no) (o:Oper) (ho:o.guard=g):
    (Region.wanted o (yielded ops.toArray a.tmps)=true∧yes s.t)∨(Region.wanted o (yielded ops.toArray a.tmps)=false∧no s.t):=by
  unfold gop at h
  split at h
  · exact .inl ⟨by simp[Region.wanted,ho],h⟩
  rename_i j want
  split at h
  · rename_i d hd
    have hy:yielded ops.toArray a.tmps j=match a.tmps[d]? with|some (.bool b)=>some b|_=>none:=by
      unfold yielded
      simp only[List.getElem?_toArray,hd,Option.bind_some]
      rfl
    split at h
    · rename_i x hx
      have h1:=c.sl d _ hx
      have hlt:d<a.tmps.size:=by rw[c.sz];exact(List.getElem?_eq_some_iff.1 hx).1
      have h2:a.tmps[d]? =some (.bool x):=by
        have:=h1.b_inv
        simp[hlt]at this ⊢
        exact this
      rw[h2]at hy
      simp only at hy
      have hset:s.t.set d (.b x)=s.t:=by
        apply List.ext_getElem?
        intro i
        rw[List.getElem?_set]
        split
        · rename_i hi;subst hi
          rw[if_pos (List.getElem?_eq_some_iff.1 hx).1,hx]
        rfl
      by_cases hxw:x=want
      · exact .inl ⟨by simp[Region.wanted,ho,hy,hxw],by have:=h.1 hxw;rwa [←hxw,hset]at this⟩
      have hxn:x= !want:=by cases x<;>cases want<;>simp at hxw ⊢
      exact .inr ⟨by simp[Region.wanted,ho,hy,hxw],by have:=h.2 hxn;rwa [←hxn,hset]at this⟩
    · rename_i vs hx
      have h1:=c.sl d _ hx
      have hlt:d<a.tmps.size:=by rw[c.sz];exact(List.getElem?_eq_some_iff.1 hx).1
      have h2:a.tmps[d]? =some (.tuple vs):=by
        have:=h1.c_inv
        simp[hlt]at this ⊢
        exact this
      rw[h2]at hy
      simp only at hy
      exact .inr ⟨by simp[Region.wanted,ho,hy],h⟩
    exact h.elim
  exact h.elim
theorem Cr.put {lo hi:Nat} (c:Cr cX lo hi s L a w) (d:Option Nat) {x:AV} {u:Value} (hx:R L w (MM L s.H cX.Av) x u):Cr cX lo hi ⟨putA s.t d x,s.H,s.nx⟩ L (a.put d u) w:=by
  obtain⟨h1,h2,h3⟩:=put_fits c.sz c.sl d hx
  exact⟨⟨dfp h1 c.df,h2,h3,c.sr,c.fr,c.nx,c.lo,c.st⟩,c.free,c.hi,c.nlo⟩
theorem Cr.next {lo hi:Nat} (c:Cr cX lo hi s L a w) (d:Option Nat) {x:AV} {u:Value} {L':LM} {H':HP} {w':World} (hlo:lo<hi) (hL:∀i,i≠lo→L' i=L i) (hs:SR L' H' cX.Av w') (st:Step L s.H w L' H' w')
    (hx:R L' w' (MM L' H' cX.Av) x u):Cr cX (lo+1) hi ⟨putA s.t d x,H',s.nx⟩ L' (a.put d u) w':=by
  obtain⟨h1,h2,h3⟩:=put_fits (a:=a) c.sz (fun k y hk=>(c.sl k y hk).step st) d hx
  have h4:=c.hi
  have h5:=c.nlo
  refine⟨⟨dfp h1 (c.df.step c.sr st),h2,h3,hs,?_,c.nx,?_,c.st.trans st⟩,?_,c.hi,by omega⟩
  · intro i hi';simp only at hi';rw[hL i (by omega)];exact c.fr i hi'
  · intro i hi';rw[hL i (by omega)];exact c.lo i hi'
  intro i h1 h2;rw[hL i (by omega)];exact c.free i (by omega) h2
theorem Cr.skip {lo hi:Nat} (c:Cr cX lo hi s L a w):Cr cX (lo+1) hi s L a w:=
  ⟨c.toCn,fun i h1 h2=>c.free i (by omega) h2,c.hi,by have:=c.nlo;omega⟩
theorem qv_of_ops {o:Oper} {id hi:Nat} {k:AV→HP→Prop} (h:OpS P o (evo s.t) s.H id k) (c:Cr cX id hi s L a w) (hlo:id<hi) {K:Act→World→Prop} {Q:Exit→Act→World→Prop}
    (hK:∀r H' L' u w',k r H'→Cr cX (id+1) hi ⟨putA s.t o.dst r,H',s.nx⟩ L' (a.put o.dst u) w'→K (a.put o.dst u) w'):oWp cX.rd P o a w K Q:=by
  have hL:=c.free id (Nat.le_refl _) hlo
  have hH:s.H id=none:=by
    cases hh:s.H id with
    |none=>rfl
    |some cs=>obtain⟨l,h1,_⟩:=c.sr.node id cs hh;rw[hL]at h1;cases h1
  refine(h L cX.Av w a.eval c.sr ⟨_,c.fr⟩ hL hH (fun x _=>c.ev x)).wp ?_
  rintro u w' ⟨r,H',L',h1,h2,h3,h4,h5⟩
  exact hK r H' L' u w' h1 (c.next o.dst hlo h2 h3 h4 h5)
theorem aop_sound (hG:GOk P Γ) {o:Oper} {id hi:Nat} {K':St→Prop} (h:aop Γ P o.dst o.op id s K') (c:Cr cX id hi s L a w) (hlo:id<hi) {K:Act→World→Prop} {Q:Exit→Act→World→Prop}
    (hK:∀s' L' a' w',K' s'→Cr cX (id+1) hi s' L' a' w'→K a' w'):oWp cX.rd P o a w K Q:=by
  have gen:∀{K':St→Prop},(qop Γ P o.op s.t s.H id fun r d=>K' ⟨putA s.t o.dst r,updo s.H id d,s.nx⟩)→(∀s' L' a' w',K' s'→Cr cX (id+1) hi s' L' a' w'→K a' w')→oWp cX.rd P o a w K Q:=by
    intro K' h hK
    obtain⟨r,d,h1,h2⟩:=qop_ok hG h
    refine qv_of_ops (h2 s.H (fun _ _ h=>h)) c hlo ?_
    rintro r' H' L' u w' ⟨rfl,rfl⟩ hc
    exact hK _ _ _ _ h1 hc
  have callgo:∀(f:FuncId) (xs:List AV) (us:Array Value),AC P f s.nx s.H xs (fun nx' H' r=>K' ⟨putA s.t o.dst r,H',nx'⟩)→ArgsR L w (MM L s.H cX.Av) xs us→(execOp a.eval o).run P w= .ok (.enter f us) w→oWp cX.rd P o a w K Q:=by
    rintro f xs us ⟨he,hrun⟩ ha h1
    have h2:=hrun L cX.Av w _ c.sr c.fr ha
    have h3:QV P o a.eval w fun u w'=>∃r L' nx' H',K' ⟨putA s.t o.dst r,H',nx'⟩∧s.nx≤nx'∧(∀i,nx'≤i→L' i=none)∧(∀i,i<s.nx→L' i=L i)∧SR L' H' cX.Av w'∧Step L s.H w L' H' w'∧R L' w' (MM L' H' cX.Av) r u:=by
      unfold QV
      rw[h1]
      exact h2.mono fun e w' ⟨u,r,L',nx',H',g1,g2,g3,g4,g5,g6,g7,g8⟩=>⟨u,g1,r,L',nx',H',g2,g3,g4,g5,g6,g7,g8⟩
    refine h3.wp ?_
    rintro u w' ⟨r,L',nx',H',g1,g2,g3,g4,g5,g6,g7⟩
    obtain⟨q1,q2,q3⟩:=put_fits (a:=a) c.sz (fun k y hk=>(c.sl k y hk).step g6) o.dst g7
    have h4:=c.hi
    have h5:=c.nlo
    have h6:=c.nx
    refine hK _ L' _ w' g1 ⟨⟨dfp q1 (c.df.step c.sr g6),q2,q3,g5,g3,by simp only;omega,?_,c.st.trans g6⟩,?_,by simp only;omega,by omega⟩
    · intro i hi';rw[g4 i (by omega)];exact c.lo i hi'
    intro i h7 h8;rw[g4 i (by omega)];exact c.free i (by omega) h8
  unfold aop at h
  split at h
  · rename_i op ty x y ty2 ho
    refine qv_of_ops (nilop_ok hG ho h) c hlo ?_
    rintro r H' L' u w' ⟨hk,rfl⟩ hc
    exact hK _ _ _ _ hk hc
  · rename_i ty x y ho
    refine qv_of_ops (stop_ok hG ho h) c hlo ?_
    intro r H' L' u w' hk hc
    exact hK _ _ _ _ hk hc
  · rename_i args tys ho
    split at h
    · rename_i x y t1 t2 ha ht
      have ha':args=#[x,y]:=by apply Array.ext';simpa using ha
      subst ha'
      refine qv_of_ops (apop_ok hG ho (by rw[←Array.getElem?_toList,ht];rfl) (by rw[←Array.getElem?_toList,ht];rfl) h) c hlo ?_
      intro r H' L' u w' hk hc
      exact hK _ _ _ _ hk hc
    exact h.elim
  · rename_i f args tys ho
    have h1:=run_enter h.1 ho (show a.eval (.func f)= .func (.func f) #[] #[]from rfl) w
    exact callgo f _ _ h (args_of ho (fun x _=>c.ev x)) h1
  · rename_i n args tys ho
    unfold fnV at h
    split at h
    · rename_i f cs hv
      have hx:=c.ev (.tmp n)
      rw[hv]at hx
      obtain⟨us,hf,hus⟩:=hx.f_inv
      have h1:=run_enterV h.1 ho hf w
      exact callgo f _ _ h ((args_ofV ho (fun x _=>c.ev x)).append hus) h1
    exact h.elim
  · rename_i ty ho
    exact qv_of_ops (mkopM_ok ho h) c hlo (fun r H' L' u w' hk hc=>hK _ _ _ _ hk hc)
  · rename_i ty x i ok ho
    exact qv_of_ops (mlop_ok hG ho h) c hlo (by rintro r H' L' u w' ⟨hk,rfl⟩ hc;exact hK _ _ _ _ hk hc)
  · rename_i ty x i v ho
    exact qv_of_ops (muop_ok hG (.inl ho) h) c hlo (fun r H' L' u w' hk hc=>hK _ _ _ _ hk hc)
  · rename_i ty x i v ho
    exact qv_of_ops (muop_ok hG (.inr ho) h) c hlo (fun r H' L' u w' hk hc=>hK _ _ _ _ hk hc)
  · rename_i ty x ho
    exact qv_of_ops (rgop_ok hG ho h) c hlo (fun r H' L' u w' hk hc=>hK _ _ _ _ hk hc)
  · rename_i x ho
    exact qv_of_ops (nxop_ok ho h) c hlo (fun r H' L' u w' hk hc=>hK _ _ _ _ hk hc)
  · rename_i x ho
    exact qv_of_ops (enop_ok ho h) c hlo (by rintro r H' L' u w' ⟨hk,rfl⟩ hc;exact hK _ _ _ _ hk hc)
  · rename_i ty x i ho
    exact qv_of_ops (sxop_ok hG ho h) c hlo (by rintro r H' L' u w' ⟨hk,rfl⟩ hc;exact hK _ _ _ _ hk hc)
  · rename_i src dst x ho
    exact qv_of_ops (cvop_ok hG ho h) c hlo (by rintro r H' L' u w' ⟨hk,rfl⟩ hc;exact hK _ _ _ _ hk hc)
  · rename_i args tys ho
    split at h
    · rename_i x y t1 ts ha ht
      have ha':args=#[x,y]:=by apply Array.ext';simpa using ha
      subst ha'
      exact qv_of_ops (cpop_ok hG ho (by rw[←Array.getElem?_toList,ht];rfl) h) c hlo (fun r H' L' u w' hk hc=>hK _ _ _ _ hk hc)
    exact h.elim
  exact gen h hK
theorem arun_sound (hG:GOk P Γ) {ops:List Oper} {base hi:Nat} {Q:Exit→Act→World→Prop} {K':St→Prop}:∀(rest:List Oper) (i:Nat) (s:St) (L:LM) (a:Act) (w:World),arun Γ P ops base rest i s K'→
    Cr cX (base+i) hi s L a w→base+i+rest.length≤hi→(∀s' L' a' w',K' s'→Cn cX s' L' a' w'→Q .normal a' w')→wpL cX.rd P ops.toArray Q rest a w:=by
  intro rest
  induction rest with
  |nil=>intro i s L a w h c _ hQ;exact hQ s L a w h c.toCn
  | cons o rest ih=>
    intro i s L a w h c hlen hQ
    simp only[List.length_cons]at hlen
    simp only[arun]at h
    unfold wpL
    rcases gop_wanted c.toCn h o rfl with ⟨hw,hy⟩|⟨hw,hn⟩
    · rw[if_pos hw]
      refine .inl (aop_sound hG hy c (by omega) ?_)
      intro s' L' a' w' hk hc
      exact ih (i+1) s' L' a' w' hk hc (by omega) hQ
    rw[if_neg (by simp[hw])]
    exact ih (i+1) _ L _ w hn (c.put o.dst (.c _)).skip (by omega) hQ
theorem AW.region (hG:GOk P Γ) {n:Nat} {ops:Array Oper} {K:Exit→St→Prop} (h:arun Γ P ops.toList s.nx ops.toList 0 ⟨s.t,s.H,s.nx+ops.toList.length⟩ (K .normal)):AW cX P (.region n ops false) s K:=by
  intro L a w Q hc hQ
  refine wpL_region ?_
  have hcr:Cr cX (s.nx+0) (s.nx+ops.toList.length) ⟨s.t,s.H,s.nx+ops.toList.length⟩ L a w:=
    ⟨⟨hc.df,hc.sz,hc.sl,hc.sr,fun i hi=>hc.fr i (by simp only at hi;omega),by have:=hc.nx;simp only;omega,hc.lo,hc.st⟩,fun i h1 _=>hc.fr i (by omega),by simp only;omega,by have:=hc.nx;omega⟩
  have:=arun_sound (Q:=Q) hG ops.toList 0 _ L a w h hcr (by omega) (fun s' L' a' w' hk hc'=>hQ _ _ _ _ _ hk hc')
  simpa using this
end
end Go.Proofs.YtghmeeifjeafmaaGreat
namespace Go.Proofs.YtghmeeifjeafmaaGreat
section
variable {P:Program} {Γ:TEnv}
theorem lop_run (hG:GOk P Γ) {H:HP} {ty:TypeId} {x:AV} {k:AV→Prop} (h:lop Γ H ty x k):
    ∃r,k r∧∀(L:LM) (Av:Nat→Prop) (w:World) (u:Value),SR L H Av w→R L w (MM L H Av) x u→∃z ad,u= .pointer (some ad)∧(Instr.loadAt ty u).run P w= .ok z w∧R L w (MM L H Av) r z:=by
  unfold lop at h
  split at h
  · rename_i e oo cs he
    obtain⟨r,hk,hr⟩:=rdc_run (hG ty e he) h
    refine⟨r,hk,fun L Av w u hs hu=>?_⟩
    obtain⟨b,off,arr,et,f,h1,_,h2,h3⟩:=hu.p_inv
    obtain⟨z,h4,h5⟩:=hr L w (MM L H Av) b off arr et f h2 h3
    exact⟨z,_,h1,by rw[h1];exact h4,h5⟩
  · rename_i e id' oo he
    obtain⟨cs,hcs,h⟩:=h
    obtain⟨r,hk,hr⟩:=rdc_run (hG ty e he) h
    refine⟨r,hk,fun L Av w u hs hu=>?_⟩
    obtain⟨l,⟨hl,h0⟩,h1⟩:=hu.q_inv
    obtain⟨l',hl',hnd⟩:=hs.node id' cs hcs
    rw[hl]at hl';cases hl'
    obtain⟨arr,et,h2,_,_,h3⟩:=hnd.ex h0
    obtain⟨z,h4,h5⟩:=hr L w (MM L H Av) l.blk l.off arr et _ h2 h3
    exact⟨z,_,h1,by rw[h1];exact h4,h5⟩
  exact h.elim
def resop (Γ:TEnv) (s:St):List ResultVar→(List AV→Prop)→Prop
  |[],k=>k []
  | .tmp t::r,k=>resop Γ s r fun rs=>k (s.t.getD t .j::rs)
  | .cell a ty::r,k=>lop Γ s.H ty (s.t.getD a .j) fun x=>resop Γ s r fun rs=>k (x::rs)
def oneOr:List AV→AV
  |[x]=>x
  |rs=> .t rs
def finK (Γ:TEnv) (res:List ResultVar) (K:Nat→HP→AV→Prop):Exit→St→Prop
  | .normal,s=>resop Γ s res fun rs=>K s.nx s.H (oneOr rs)
  | .ret,s=>resop Γ s res fun rs=>K s.nx s.H (oneOr rs)
  |_,_=>False
def rv (tmps:Array Value):ResultVar→Sem Value
  | .tmp t=>pure (tmps.getD t undef)
  | .cell b t=>do loadVar t (←asAddr (tmps.getD b undef))
theorem results_rv (fn:Func) (tmps:Array Value):results fn tmps=(do let vs←fn.results.mapM (rv tmps);pure (if h:vs.size=1 then vs[0]else .tuple vs)):=rfl
theorem resop_run (hG:GOk P Γ) {cX:Ctx} {s:St} {L:LM} {a:Act} {w:World} (c:Cn cX s L a w):∀(res:List ResultVar) (k:List AV→Prop),resop Γ s res k→
    ∃ rs us,k rs∧(res.mapM (rv a.tmps)).run P w= .ok us w∧us.length=rs.length∧
      ∀(i:Nat) (x:AV),rs[i]? =some x→R L w (MM L s.H cX.Av) x (us.getD i undef):=by
  intro res
  induction res with
  |nil=>intro k h;exact⟨[],[],h,by simp,rfl,by simp⟩
  | cons x res ih=>
    intro k h
    cases x with
    | tmp t=>
      simp only[resop]at h
      obtain⟨rs,us,h1,h2,h3,h4⟩:=ih _ h
      refine⟨_,a.tmps.getD t undef::us,h1,?_,by simp[h3],?_⟩
      · simp only[List.mapM_cons,rv,Sem.run_bind,Sem.run_pure,Result.andThen_ok,h2]
      intro i y hi
      cases i with
      | zero=>
        simp only[List.getElem?_cons_zero,Option.some.injEq]at hi
        subst hi
        exact c.ev (.tmp t)
      |succ i=>exact h4 i y (by simpa using hi)
    | cell b ty=>
      simp only[resop]at h
      obtain⟨r,h1,h2⟩:=lop_run (P:=P) hG h
      obtain⟨rs,us,h3,h4,h5,h6⟩:=ih _ h1
      obtain⟨z,ad,g1,g2,g3⟩:=h2 L cX.Av w _ c.sr (c.ev (.tmp b))
      refine⟨_,z::us,h3,?_,by simp[h5],?_⟩
      · have g1':a.tmps.getD b undef= .pointer (some ad):=g1
        have g2':(Instr.loadAt ty (a.tmps.getD b undef)).run P w= .ok z w:=g2
        rw[g1']at g2'
        simp only[Instr.loadAt,Instr.sureAddr,Sem.run_bind,Sem.run_pure,Result.andThen_ok]at g2'
        have g3':(rv a.tmps (.cell b ty)).run P w= .ok z w:=by
          simp only[rv,g1',asAddr,Sem.run_bind,Sem.run_pure,Result.andThen_ok,g2']
        simp only[List.mapM_cons,Sem.run_bind,Sem.run_pure,Result.andThen_ok,h4,g3']
      intro i y hi
      cases i with
      | zero=>
        simp only[List.getElem?_cons_zero,Option.some.injEq]at hi
        subst hi
        exact g3
      |succ i=>exact h6 i y (by simpa using hi)
theorem Cn.putBook {cX:Ctx} {s:St} {L:LM} {a:Act} {w:World} (c:Cn cX s L a w) {b:Nat} {o:Obj} (hb:w.heap[b]? =some o) (ho:bookO o) (hB:cX.w0.heap.size≤b) (o':Obj) (hd:a.defers=[]):Cn cX s L a (w.putObj b o'):=
  ⟨dfp hd DF.nil,c.sz,fun k x hk=>(c.sl k x hk).putBook hb ho o',c.sr.putBook hb ho o',c.fr,c.nx,c.lo,c.st.putBook hB o'⟩
theorem AC.run (hG:GOk P Γ) {f:FuncId} {fn:Func} {c:Code} {n:Nat} (hf:P.funcs[f]? =some fn) (hb:fn.body=some c) {as:List AV} (hnt:fn.ntmps-as.length=n) {nx:Nat} {H:HP} {Q:Nat→HP→AV→Prop}
    {L:LM} {Av:Nat→Prop} {w:World} {us:Array Value} (hs:SR L H Av w) (hfr:∀i,nx≤i→L i=none) (ha:ArgsR L w (MM L H Av) as us)
    (h:AW ⟨none,true,nx,L,H,w,Av⟩ P c ⟨as++List.replicate n .j,H,nx⟩ (finK Γ fn.results.toList Q)):
    Calls P f us w fun e w'=>∃u r L' nx' H',e= .returned u∧Q nx' H' r∧nx≤nx'∧(∀i,nx'≤i→L' i=none)∧(∀i,i<nx→L' i=L i)∧SR L' H' Av w'∧Step L H w L' H' w'∧R L' w' (MM L' H' Av) r u:=by
  obtain⟨hsz,hr⟩:=ha
  refine(callsIn_wide (n:=0)).1 (callsIn_of_wp_marks hf hb trivial (h L _ w _ ⟨DF.nil,?_,?_,hs,hfr,Nat.le_refl _,fun _ _=>rfl,Step.refl _ _ _⟩ ?_) rfl)
  · simp[hsz,hnt]
  · intro k x hk
    rw[List.getElem?_append]at hk
    split at hk
    · rename_i hlt
      have:=hr k x hk
      have hlt':k<us.size:=by omega
      simpa[Array.getElem?_append,hlt']using this
    rw[List.getElem?_replicate]at hk
    split at hk
    · cases hk;exact .j _
    cases hk
  intro e s' L' a' w' hk hc
  have fin:∀(a':Act) (w':World),Cn ⟨none,true,nx,L,H,w,Av⟩ s' L' a' w'→(resop Γ s' fn.results.toList fun rs=>Q s'.nx s'.H (oneOr rs))→∃v,(results fn a'.tmps).run P w'= .ok v w'∧∃u r L' nx' H',Ending.returned v= .returned u∧Q nx' H' r∧nx≤nx'∧(∀i,nx'≤i→L' i=none)∧(∀i,i<nx→L' i=L i)∧SR L' H' Av w'∧Step L H w L' H' w'∧R L' w' (MM L' H' Av) r u:=by
    intro a' w' hc hk
    obtain⟨rs,vs,h1,h2,h3,h4⟩:=resop_run hG hc fn.results.toList _ hk
    have hm:(fn.results.mapM (rv a'.tmps)).run P w'= .ok vs.toArray w':=by
      rw[Array.mapM_eq_mapM_toList]
      simp only[Sem.run_map,h2,Result.andThen_ok]
    have hres:(results fn a'.tmps).run P w'= .ok (if h:vs.toArray.size=1 then vs.toArray[0]else .tuple vs.toArray) w':=by
      rw[results_rv]
      simp only[Sem.run_bind]
      rw[hm]
      simp only[Result.andThen_ok,Sem.run_pure]
    refine⟨_,hres,_,oneOr rs,L',s'.nx,s'.H,rfl,h1,hc.nx,hc.fr,hc.lo,hc.sr,hc.st,?_⟩
    match rs,vs,h3,h4 with
    |[],[],_,_=>exact .t _ _ rfl (by simp)
    |[x],[v],_,h4=>simpa[oneOr]using h4 0 x rfl
    | x::y::rs,v::v'::vs,h3,h4=>
      have:¬(v::v'::vs).toArray.size=1:=by simp
      rw[dif_neg this]
      refine .t _ _ (by simpa using h3) ?_
      intro k z hk
      have:=h4 k z hk
      simpa using this
  have both:(resop Γ s' fn.results.toList fun rs=>Q s'.nx s'.H (oneOr rs))→LeavesInM Fence.wide 0 P fn a'.tmps (fun e w'=>∃u r L' nx' H',e= .returned u∧Q nx' H' r∧nx≤nx'∧(∀i,nx'≤i→L' i=none)∧(∀i,i<nx→L' i=L i)∧SR L' H' Av w'∧Step L H w L' H' w'∧R L' w' (MM L' H' Av) r u) a'.defers .returning w':=by
    intro hk
    have key:∀(ds:List Deferred) (w1:World),DFok w.heap.size ds w1→Cn ⟨none,true,nx,L,H,w,Av⟩ s' L' {a' with defers:=[]} w1→LeavesInM Fence.wide 0 P fn a'.tmps (fun e w'=>∃u r L' nx' H',e= .returned u∧Q nx' H' r∧nx≤nx'∧(∀i,nx'≤i→L' i=none)∧(∀i,i<nx→L' i=L i)∧SR L' H' Av w'∧Step L H w L' H' w'∧R L' w' (MM L' H' Av) r u) ds .returning w1:=by
      intro ds
      induction ds with
      |nil=>intro w1 _ hc1;exact fin {a' with defers:=[]} w1 hc1 hk
      | cons d ds ih=>
        rintro w1 ⟨⟨D,rfl,hD,hB,hne⟩,hds⟩ hc1
        refine⟨by simp,.inl ⟨D,_,rfl,run_takeDeferred hD,ih _ ?_ (hc1.putBook hD trivial hB _ rfl)⟩⟩
        exact hds.of fun E hE _=>World.putObj_heap_other (hne E hE)
    exact key a'.defers w' hc.df.1 ⟨DF.nil,hc.sz,hc.sl,hc.sr,hc.fr,hc.nx,hc.lo,hc.st⟩
  cases e<;>simp only[finK,bodyPostM]at hk ⊢
  · exact both hk
  exact both hk
theorem AC.intro (hG:GOk P Γ) {f:FuncId} {fn:Func} {c:Code} {n:Nat} (hf:P.funcs[f]? =some fn) (hb:fn.body=some c) (hn:(fn.name== "runtime.NumGoroutine")=false) {as:List AV} (hnt:fn.ntmps-as.length=n) {nx:Nat} {H:HP} {Q:Nat→HP→AV→Prop}
    (h:∀cX:Ctx,AW cX P c ⟨as++List.replicate n .j,H,nx⟩ (finK Γ fn.results.toList Q)):AC P f nx H as Q:=
  ⟨⟨fn,hf,by rw[hb];rfl,hn⟩,fun L Av w us hs hfr ha=>AC.run hG hf hb hnt hs hfr ha (h _)⟩
theorem AC.pure {f:FuncId} {nx:Nat} {H:HP} {as:List AV} {r:AV} {K:Nat→HP→AV→Prop} (h:RC P f H as r) (hk:K nx H r):AC P f nx H as K:=by
  obtain⟨h1,h2⟩:=h.run (fun _ _ h=>h)
  refine⟨h1,fun L Av w us hs hfr ha=>(h2 L Av w us hs ⟨_,hfr⟩ ha).mono ?_⟩
  rintro e w' ⟨u,g1,g2,g3,g4⟩
  exact⟨u,r,L,nx,H,g1,hk,Nat.le_refl _,hfr,fun _ _=>rfl,g2,g3,g4⟩
theorem ACp.intro (hG:GOk P Γ) {f:FuncId} {fn:Func} {c:Code} {n:Nat} (hf:P.funcs[f]? =some fn) (hb:fn.body=some c) (hn:(fn.name== "runtime.NumGoroutine")=false) {as:List AV} (hnt:fn.ntmps-as.length=n) {r:AV} (hr:NR r)
    (h:∀nx (cX:Ctx),AW cX P c ⟨as++List.replicate n .j,noH,nx⟩ (finK Γ fn.results.toList fun _ _ r'=>r'=r)):ACp P f as r:=by
  refine⟨⟨fn,hf,by rw[hb];rfl,hn⟩,?_⟩
  rintro L M w us hM ⟨nx,hfr⟩ ha
  have hac:=AC.intro (Q:=fun _ _ r'=>r'=r) hG hf hb hn hnt (h nx)
  refine(hac.2 L M w us (SR_noH hM) hfr (by rw[MM_noH];exact ha)).mono ?_
  rintro e w' ⟨u,r',L',nx',H',g1,rfl,g2,g3,g4,g5,g6,g7⟩
  refine⟨u,g1,⟨fun _ _ h=>h,g6.os,g6.tape,g6.output,g6.size,g6.keep,fun b _ hl=>hl⟩,?_⟩
  exact R.mono (L:=L) (M:=MM L' H' M) (w:=w') (fun _ _ h=>h) (fun _ _ _=>rfl) (fun b _ hb=> .inl hb) (g7.nr hr)
theorem RC.of {f:FuncId} {H:HP} {as:List AV} {r:AV} (h:ACp P f as r):RC P f H as r:= .inl h
theorem RC.lent {f:FuncId} {H:HP} {as ts:List AV} {r:AV} (h:ACp P f ts r) (hv:Vws H as ts) (hf:Fl r):RC P f H as r:= .inr ⟨ts,hv,h,hf⟩
end
end Go.Proofs.YtghmeeifjeafmaaGreat
