import Derived.Orders
import Derived.LoopNIn
import Derived.RangeFuncLeaves
import Derived.Test.YtgknbnkmilddhaaGreatZ03
set_option linter.unusedVariables false
set_option linter.unusedSimpArgs false

namespace Go.Proofs.YtgknbnkmilddhaaGreat
structure Ctx where
  rd:Option Nat
  rf:Bool
  Ui:Nat
  L0:LM
  H0:HP
  w0:World
  Av:Nat->Prop
def DF(cX:Ctx)(ds:List Deferred)(w:World):Prop:=YK cX.w0.heap.size ds w/\(cX.rf=false->ds=[])
theorem DF.step{cX:Ctx}{L L':LM}{H H':HP}{Av:Nat->Prop}{w w':World}{ds:List Deferred}(h:DF cX ds w)(s:SR L H Av w)(st:Step L H w L' H' w'):DF cX ds w':=⟨h.1.step s st,h.2⟩
theorem DF.same{cX:Ctx}{w w':World}{ds:List Deferred}(h:DF cX ds w)(hw:w'.heap=w.heap):DF cX ds w':=⟨h.1.same hw,h.2⟩
theorem Nk{cX:Ctx}{ds ds':List Deferred}{w:World}(h1:ds'=ds)(h:DF cX ds w):DF cX ds' w:=by rw[h1];exact h
theorem DF.nil{cX:Ctx}{w:World}:DF cX [] w:=⟨trivial,λ_=>rfl⟩
structure Cn(cX:Ctx)(s:St)(L:LM)(a:Act)(w:World):Prop where
  df:DF cX a.defers w
  sz:a.tmps.size=s.t.length
  sl:∀(k:Nat) (x:AV),s.t[k]? =some x->R L w (MM L s.H cX.Av) x (a.tmps.getD k undef)
  sr:SR L s.H cX.Av w
  fr:∀i,s.nx<=i->L i=none
  nx:cX.Ui<=s.nx
  lo:∀i,i<cX.Ui->L i=cX.L0 i
  st:Step cX.L0 cX.H0 cX.w0 L s.H w
theorem Cn.ev{cX:Ctx}{s:St}{L:LM}{a:Act}{w:World}(c:Cn cX s L a w)(x:Operand):R L w (MM L s.H cX.Av) (BQ s.t x) (a.eval x):=by
  cases x with
  | tmp n=>
    simp only[BQ,Act.eval];by_cases hn:n<s.t.length
    · have:=c.sl n s.t[n] (List.getElem?_eq_getElem hn);simpa[hn]using this
    have hle:s.t.length<=n:=Nat.le_of_not_lt hn;have:s.t.getD n .j= .j:=by rw[List.getD_eq_getElem?_getD,List.getElem?_eq_none hle];rfl
    rw[this];exact .j _
  |const v=>exact R.YM _ _ _ _
  |global g=>exact .c _
  |func f=>exact .f _ _ #[] rfl AB
def BG(t:List AV)(d:Option Nat)(x:AV):List AV:=
  match d with
  |some d=>t.set d x
  |none=>t
theorem J4{L:LM}{w:World}{M:Nat->Prop}{t:List AV}{a:Act}(hs:a.tmps.size=t.length)(hr:∀(k:Nat) (x:AV),t[k]? =some x->R L w M x (a.tmps.getD k undef))(d:Option Nat){x:AV}{u:Value}(hx:R L w M x u):
    (a.put d u).defers=a.defers/\(a.put d u).tmps.size=(BG t d x).length/\∀(k:Nat) (y:AV),(BG t d x)[k]? =some y->R L w M y ((a.put d u).tmps.getD k undef):=by
  cases d with
  |none=>exact⟨rfl,hs,hr⟩
  | some d=>
    refine⟨rfl,by simp[Act.put,BG,hs],?_⟩;intro k y hk;simp only[BG,List.getElem?_set]at hk;simp only[Act.put,Array.getD_eq_getD_getElem?,Array.getElem?_setIfInBounds];split at hk
    · rename_i uR;subst uR;split at hk
      · rename_i C4;cases hk;simp[hs,C4,hx]
      cases hk
    rename_i uR;simp only[uR,if_false];have:=hr k y hk;simpa using this
def AW(cX:Ctx)(P:Program)(c:Code)(s:St)(K:Exit->St->Prop):Prop:=
  ∀ (L:LM) (a:Act) (w:World) (Q:Exit->Act->World->Prop),Cn cX s L a w->
    (∀e s' L' a' w',K e s'->Cn cX s' L' a' w'->Q e a' w')->c.wpIn (fw cX.rd) 0 P Q a w
variable{cX:Ctx}
theorem AW.mono{P:Program}{c:Code}{s:St}{K K':Exit->St->Prop}(h:AW cX P c s K)(hk:∀e s',K e s'->K' e s'):AW cX P c s K':=
  λL a w Q hc hQ=>h L a w Q hc (λe s' L' a' w' k=>hQ e s' L' a' w' (hk e s' k))
theorem AW.skip{P:Program}{s:St}{K:Exit->St->Prop}(h:K .normal s):AW cX P .skip s K:=λ_ _ _ _ hc hQ=>wpIn_skip (hQ _ _ _ _ _ h hc)
theorem AW.ret{P:Program}{s:St}{K:Exit->St->Prop}(h:K .ret s):AW cX P .ret s K:=λ_ _ _ _ hc hQ=>wpIn_ret (hQ _ _ _ _ _ h hc)
theorem AW.exit{P:Program}{s:St}{n:Nat}{K:Exit->St->Prop}(h:K (.exit n) s):AW cX P (.exit n) s K:=λ_ _ _ _ hc hQ=>wpIn_exit (hQ _ _ _ _ _ h hc)
def qW(K:Exit->St->Prop)(next:St->Prop):Exit->St->Prop
  | .normal,s=>next s
  |e,s=>K e s
theorem AW.seq{P:Program}{x y:Code}{s:St}{K:Exit->St->Prop}(h:∀N:St->Prop,(∀s',AW cX P y s' K->N s')->AW cX P x s (qW K N)):AW cX P (.seq x y) s K:=by
  intro L a w Q hc hQ;refine wpIn_seq (h _ (λ_ h=>h) L a w _ hc ?_);intro e s' L' a' w' hk UB;cases e<;>simp only[qW,Exit.then]at hk ⊢
  case normal=>exact hk L' a' w' Q UB hQ
  all_goals exact hQ _ _ _ _ _ hk UB
theorem AW.cond{P:Program}{c:Operand}{x y:Code}{s:St}{z:Bool}{K:Exit->St->Prop}(hc:BQ s.t c= .b z)(ht:z=true->AW cX P x s K)(hf:z=false->AW cX P y s K):AW cX P (.cond c x y) s K:=by
  intro L a w Q Co hQ;have:=Co.ev c;rw[hc]at this;exact wpIn_cond_split this.XY (λh=>ht h L a w Q Co hQ) (λh=>hf h L a w Q Co hQ)
def CP(K:Exit->St->Prop)(id:Nat):Exit->St->Prop
  | .exit id',s=>if id'=id then K .normal s else K (.exit id') s
  |e,s=>K e s
theorem AW.block{P:Program}{id:Nat}{c:Code}{s:St}{K:Exit->St->Prop}(h:AW cX P c s (CP K id)):AW cX P (.block id c) s K:=by
  intro L a w Q hc hQ;refine wpIn_block (h L a w _ hc ?_);intro e s' L' a' w' hk UB;cases e<;>simp only[CP,Exit.inBlock]at hk ⊢
  case exit id'=>
    split at hk
    · rename_i DS;rw[if_pos DS];exact hQ _ _ _ _ _ hk UB
    rename_i DS;rw[if_neg DS];exact hQ _ _ _ _ _ hk UB
  all_goals exact hQ _ _ _ _ _ hk UB
def AO(x y:AV):Prop:=y= .j\/x=y\/(x= .nl/\y= .v 0 [])
def AN:List AV->List AV->Prop
  |[],[]=>True
  |x::xs,y::ys=>AO x y/\AN xs ys
  |_,_=>False
def Wk(s s':St):Prop:=AN s.t s'.t/\(∀id cs,s'.H id=some cs->s.H id=some cs)/\s.nx<=s'.nx
theorem Nl:∀{xs ys:List AV},AN xs ys->ys.length=xs.length/\∀(k:Nat) (y:AV),ys[k]? =some y->∃x,xs[k]? =some x/\AO x y:=by
  intro xs;induction xs with
  |nil=>intro ys h;cases ys with|nil=>exact⟨rfl,AB⟩|cons=>exact h.elim
  | cons x xs ih=>
    intro ys h;cases ys with
    |nil=>exact h.elim
    | cons y ys=>
      obtain⟨h1,h2⟩:=ih h.2;refine⟨by simp[h1],?_⟩;intro k z hk;cases k with
      |zero=>simp at hk;subst hk;exact⟨x,rfl,h.1⟩
      |succ k=>exact h2 k z (by simpa using hk)
theorem WL{L:LM}{H H':HP}(h:∀id cs,H' id=some cs->H id=some cs){b:Nat}:LB L H' b->LB L H b:=
  λ⟨id,cs,l,h1,h2,h3⟩=>⟨id,cs,l,h id cs h1,h2,h3⟩
theorem SR.sub{L:LM}{H H':HP}{Av:Nat->Prop}{w:World}(s:SR L H Av w)(h:∀id cs,H' id=some cs->H id=some cs):SR L H' Av w:=by
  refine⟨?_,λi i' c c' l l' h1 h2=>s.inj i i' c c' l l' (h _ _ h1) (h _ _ h2),λi c l h1=>s.av i c l (h _ _ h1),s.PL⟩;intro id cs DS;obtain⟨l,h1,D0⟩:=s.node id cs (h _ _ DS);exact⟨l,h1,D0.mono rfl λk x hk u h7=>h7.mono (λ_ _ h=>h) (λ_ _ _=>rfl) (λb _ hb=>Or.elim hb .inl (λhl=> .inr (WL h hl)))⟩
theorem Cn.wk{cX:Ctx}{s s':St}{L:LM}{a:Act}{w:World}(c:Cn cX s L a w)(h:Wk s s'):Cn cX s' L a w:=by
  obtain⟨h1,h2,h3⟩:=h;obtain⟨h4,h5⟩:=Nl h1;have hm:∀{x:AV} {u:Value},R L w (MM L s.H cX.Av) x u->R L w (MM L s'.H cX.Av) x u:=
    λhr=>hr.mono (λ_ _ h=>h) (λ_ _ _=>rfl) (λb _ hb=>Or.elim hb .inl (λhl=> .inr (WL h2 hl)))
  refine⟨c.df,by rw[c.sz,h4],?_,c.sr.sub h2,λi hi=>c.fr i A0,by have:=c.nx;omega,c.lo,?_⟩
  · intro k y hk;obtain⟨x,h6,h7⟩:=h5 k y hk;have h8:=c.sl k x h6;rcases h7 with rfl|rfl|⟨rfl,rfl⟩
    · exact .j _
    · exact hm h8
    rw[h8.EV];exact .v0 _ _
  exact⟨c.st.le,c.st.os,c.st.tape,c.st.output,c.st.size,c.st.AJ,λb hb hl=>c.st.old b hb (WL h2 hl)⟩
theorem YQ{F:Fence}{n0:Nat}{P:Program}{c:Code}{Q:Exit->Act->World->Prop}(I:Nat->Act->World->Prop)
    (round:∀n a w,I n a w->c.wpIn F n0 P (Exit.then (λa' w'=>∃m,m<n/\I m a' w') Q) a w) (n:Nat) (a:Act) (w:World) (hI:I n a w):(Code.loop c).wpIn F n0 P Q a w:=by
  refine wpIn_loop_rounds (n+1) ?_;have key:∀m n a w,n<m->I n a w->Code.roundsIn F n0 P c Q m a w:=by
    intro m;induction m with
    |zero=>intro n a w h;omega
    | succ m ih=>
      intro n a w hn hI;unfold Code.roundsIn;refine wpIn_mono (round n a w hI) ?_;intro e a' w' h;cases e<;>simp only[Exit.then]at h ⊢
      case normal=>
        obtain⟨k,hk,hI'⟩:=h;exact ih k a' w' A0 hI'
      all_goals exact h
  exact key (n+1) n a w A0 hI
theorem AW.loop{P:Program}{c:Code}{s:St}{K:Exit->St->Prop}{α:Type}(S:α->St)(I:α->Prop)(μ:α->Nat)(x0:α)(h0:I x0)(hw:Wk s (S x0))
    (round:∀x,I x->AW cX P c (S x) (qW K λs'=>∃y,Wk s' (S y)/\I y/\μ y<μ x)):AW cX P (.loop c) s K:=by
  intro L a w Q hc hQ;refine YQ (λn a w=>∃x L,μ x=n/\I x/\Cn cX (S x) L a w) ?_ (μ x0) a w ⟨x0,L,rfl,h0,hc.wk hw⟩;rintro n a w ⟨x,L,rfl,hI,Co⟩;refine round x hI L a w _ Co ?_;intro e s' L' a' w' hk UB;cases e<;>simp only[qW,Exit.then]at hk ⊢
  case normal=>
    obtain⟨y,h1,h2,h3⟩:=hk;exact⟨μ y,h3,y,L',rfl,h2,UB.wk h1⟩
  all_goals exact hQ _ _ _ _ _ hk UB
end Go.Proofs.YtgknbnkmilddhaaGreat

namespace Go.Proofs.YtgknbnkmilddhaaGreat
def Lk(ops:List Oper)(g:Option (Nat×Bool))(t:List AV)(yes no:List AV->Prop):Prop:=
  match g with
  |none=>yes t
  | some (j,want)=>match (ops[j]?).bind (·.dst)with
    | some d=>match t[d]? with
      |some (.b x)=>CH x want (yes (t.set d (.b want))) (no (t.set d (.b (!want)))) (.mk _) (.mk _)
      |some (.c (.tuple _))=>no t
      |_=>False
    |none=>False
structure Xp(n:Nat)(t f:Prop):Prop where
  t:n=0->t
  f:f
def nB(Γ:CA)(op:BinOp)(ty:TypeId)(x y:AV)(k:AV->Prop):Prop:=
  match op,x,y with
  | .eql,.v n _,.nl=>(∃e el,Γ ty=some e/\e.d= .slice el)/\Xp n (k (.b true)) (k (.b false))
  | .neq,.v n _,.nl=>(∃e el,Γ ty=some e/\e.d= .slice el)/\Xp n (k (.b false)) (k (.b true))
  |op,x,y=>bop Γ op ty x y k
theorem nC{P:Program}{Γ:CA}(hG:IB P Γ){o:Oper}{ev:Operand->AV}{H:HP}{id:Nat}{op:BinOp}{ty ty2:TypeId}{x y:Operand}(ho:o.op= .binOp op ty x y ty2){k:AV->Prop}(h:nB Γ op ty (ev x) (ev y) k):
    fT P o ev H id λr H'=>k r/\H'=H:=by
  intro L Av w ρ hs mC hL hi B0;have fin:∀{z:Value} {r:AV},k r->(do eqGuard op ty x y (ρ x) (ρ y);binOp op ty (ρ x) (ρ y):Sem Value).run P w= .ok z w->R L w (MM L H Av) r z->
      QV P o ρ w λu w'=>∃r H' L',(k r/\H'=H)/\(∀i,i≠id->L' i=L i)/\SR L' H' Av w'/\Step L H w L' H' w'/\R L' w' (MM L' H' Av) r u:=by
    intro z r hk h3 h4;refine .CX (u:=z) ?_ ⟨r,H,L,⟨hk,rfl⟩,λ_ _=>rfl,hs,Step.refl _ _ _,h4⟩;simp only[execOp,ho,Sem.run_bind,Sem.run_pure]at h3 ⊢;rw[h3];rfl
  unfold nB at h;split at h
  · rename_i n cs hx hy;obtain⟨⟨e,el,he,hd⟩,h⟩:=h;have JF:=((hG ty e he).slice hd).1;have h1:=B0 x (by simp[ho,Op.operands]);have h2:=B0 y (by simp[ho,Op.operands]);rw[hx]at h1;rw[hy]at h2;have D9:=h2.EV;obtain⟨u,MZ⟩:∃u,ρ x=u:=⟨_,rfl⟩;rw[MZ]at h1;cases h1 with
    | v0 ad cp=>
      cases ad with
      | none=>
        refine fin (h.t rfl) (z:= .bool true) ?_ (.b _);rw[MZ,D9];simp[eqGuard,Lib.run_eql_slice_nil w ty el _ _ _ _ _ JF]
      | some ad=>
        refine fin h.f (z:= .bool false) ?_ (.b _);rw[MZ,D9];simp[eqGuard,Lib.run_eql_slice_nil w ty el _ _ _ _ _ JF]
    | v _ _ b off cp arr et ff us hM hb hn hu hr=>
      refine fin h.f (z:= .bool false) ?_ (.b _);rw[MZ,D9];simp[eqGuard,Lib.run_eql_slice_nil w ty el _ _ _ _ _ JF]
  · rename_i n cs hx hy;obtain⟨⟨e,el,he,hd⟩,h⟩:=h;have JF:=((hG ty e he).slice hd).1;have h1:=B0 x (by simp[ho,Op.operands]);have h2:=B0 y (by simp[ho,Op.operands]);rw[hx]at h1;rw[hy]at h2;have D9:=h2.EV;obtain⟨u,MZ⟩:∃u,ρ x=u:=⟨_,rfl⟩;rw[MZ]at h1;cases h1 with
    | v0 ad cp=>
      cases ad with
      | none=>
        refine fin (h.t rfl) (z:= .bool false) ?_ (.b _);rw[MZ,D9];simp[eqGuard,Go.run_neq_slice_nil_any w ty el _ _ _ _ _ JF]
      | some ad=>
        refine fin h.f (z:= .bool true) ?_ (.b _);rw[MZ,D9];simp[eqGuard,Go.run_neq_slice_nil_any w ty el _ _ _ _ _ JF]
    | v _ _ b off cp arr et ff us hM hb hn hu hr=>
      refine fin h.f (z:= .bool true) ?_ (.b _);rw[MZ,D9];simp[eqGuard,Go.run_neq_slice_nil_any w ty el _ _ _ _ _ JF]
  obtain⟨r,h1,h2⟩:=tX hG h x y;obtain⟨z,h3,h4⟩:=h2 L w _ _ _ (B0 x (by simp[ho,Op.operands])) (B0 y (by simp[ho,Op.operands]));exact fin h1 h3 h4
def IG(Γ:CA)(P:Program)(dst:Option Nat)(op:Op)(id:Nat)(s:St)(K:St->Prop):Prop:=
  match op with
  | .binOp op ty x y _=>nB Γ op ty (BQ s.t x) (BQ s.t y) λr=>K ⟨BG s.t dst r,s.H,s.nx⟩
  | .store ty x y=>stop Γ s.H ty (BQ s.t x) (BQ s.t y) λr H'=>K ⟨BG s.t dst r,H',s.nx⟩
  | .call ⟨.builtin .append,args,ED⟩=>match args.toList,ED.toList with
    |[x,y],[t1,t2]=>Bw Γ s.H t1 t2 (BQ s.t x) (BQ s.t y) id λr H'=>K ⟨BG s.t dst r,H',s.nx⟩
    |_,_=>False
  | .call ⟨.value (.func f),args,_⟩=>AC P f s.nx s.H (args.toList.map (BQ s.t)) λBB H' r=>K ⟨BG s.t dst r,H',BB⟩
  | .call ⟨.value (.tmp n),args,_⟩=>Nc (BQ s.t (.tmp n)) λf cs=>AC P f s.nx s.H (args.toList.map (BQ s.t)++cs) λBB H' r=>K ⟨BG s.t dst r,H',BB⟩
  | .makeMap _ none=>uG id (λr H'=>K ⟨BG s.t dst r,H',s.nx⟩) s.H
  | .lookup ty x i ok=>Ch Γ s.H ty (BQ s.t x) (BQ s.t i) ok λr=>K ⟨BG s.t dst r,s.H,s.nx⟩
  | .mapUpdate ty x i v=>qT Γ s.H ty (BQ s.t x) (BQ s.t i) (BQ s.t v) λr H'=>K ⟨BG s.t dst r,H',s.nx⟩
  | .insert ty x i v=>qT Γ s.H ty (BQ s.t x) (BQ s.t i) (BQ s.t v) λr H'=>K ⟨BG s.t dst r,H',s.nx⟩
  | .range ty x=>Nh Γ s.H ty (BQ s.t x) id λr H'=>K ⟨BG s.t dst r,H',s.nx⟩
  | .next x false=>Ni s.H (BQ s.t x) λr H'=>K ⟨BG s.t dst r,H',s.nx⟩
  | .entry x=>Nj s.H (BQ s.t x) λr=>K ⟨BG s.t dst r,s.H,s.nx⟩
  | .index ty x i=>jF Γ ty (BQ s.t x) (BQ s.t i) λr=>K ⟨BG s.t dst r,s.H,s.nx⟩
  | .convert sty dty x=>Cl Γ s.H sty dty (BQ s.t x) λr=>K ⟨BG s.t dst r,s.H,s.nx⟩
  | .call ⟨.builtin .copy,args,ED⟩=>match args.toList,ED.toList with
    |[x,y],t1::_=>cpop Γ s.H t1 (BQ s.t x) (BQ s.t y) λr H'=>K ⟨BG s.t dst r,H',s.nx⟩
    |_,_=>False
  |op=>RF Γ P op s.t s.H id λr d=>K ⟨BG s.t dst r,HN s.H id d,s.nx⟩
def DW(Γ:CA)(P:Program)(ops:List Oper)(base:Nat):List Oper->Nat->St->(St->Prop)->Prop
  |[],_,s,K=>K s
  |o::rest,i,s,K=>Lk ops o.guard s.t (λt=>IG Γ P o.dst o.op (base+i) ⟨t,s.H,s.nx⟩ λs'=>DW Γ P ops base rest (i+1) s' K) (λt=>DW Γ P ops base rest (i+1) ⟨BG t o.dst (.c undef),s.H,s.nx⟩ K)
section
variable{P:Program}{Γ:CA}{cX:Ctx}{s:St}{L:LM}{a:Act}{w:World}
structure Cr(cX:Ctx)(fa fb:Nat)(s:St)(L:LM)(a:Act)(w:World):Prop extends Cn cX s L a w where
  free:∀i,fa<=i->i<fb->L i=none
  hi:fb<=s.nx
  nlo:cX.Ui<=fa
theorem O8{ops:List Oper}{g:Option (Nat×Bool)}(c:Cn cX s L a w){yes no:List AV->Prop}(h:Lk ops g s.t yes no)(o:Oper)(ho:o.guard=g):
    (Region.wanted o (yielded ops.toArray a.tmps)=true/\yes s.t)\/(Region.wanted o (yielded ops.toArray a.tmps)=false/\no s.t):=by
  unfold Lk at h;split at h
  · exact .inl ⟨by simp[Region.wanted,ho],h⟩
  rename_i j want;split at h
  · rename_i d hd;have hy:yielded ops.toArray a.tmps j=match a.tmps[d]? with|some (.bool b)=>some b|_=>none:=by
      unfold yielded;simp only[List.getElem?_toArray,hd,Option.bind_some];rfl
    split at h
    · rename_i x hx;have h1:=c.sl d _ hx;have C4:d<a.tmps.size:=by rw[c.sz];exact(List.getElem?_eq_some_iff.1 hx).1
      have h2:a.tmps[d]? =some (.bool x):=by
        have:=h1.XY;simp[C4]at this ⊢;exact this
      rw[h2]at hy;simp only at hy
      have IA:s.t.set d (.b x)=s.t:=by
        apply List.ext_getElem?;intro i;rw[List.getElem?_set];split
        · rename_i hi;subst hi;rw[if_pos (List.getElem?_eq_some_iff.1 hx).1,hx]
        rfl
      by_cases Cp:x=want
      · exact .inl ⟨by simp[Region.wanted,ho,hy,Cp],by have:=h.1 Cp;rwa [<-Cp,IA]at this⟩
      have S7:x= !want:=by cases x<;>cases want<;>simp at Cp ⊢
      exact .inr ⟨by simp[Region.wanted,ho,hy,Cp],by have:=h.2 S7;rwa [<-S7,IA]at this⟩
    · rename_i vs hx;have h1:=c.sl d _ hx;have C4:d<a.tmps.size:=by rw[c.sz];exact(List.getElem?_eq_some_iff.1 hx).1
      have h2:a.tmps[d]? =some (.tuple vs):=by
        have:=h1.A3V;simp[C4]at this ⊢;exact this
      rw[h2]at hy;simp only at hy
      exact .inr ⟨by simp[Region.wanted,ho,hy],h⟩
    exact h.elim
  exact h.elim
theorem Cr.put{lo hi:Nat}(c:Cr cX lo hi s L a w)(d:Option Nat){x:AV}{u:Value}(hx:R L w (MM L s.H cX.Av) x u):Cr cX lo hi ⟨BG s.t d x,s.H,s.nx⟩ L (a.put d u) w:=by
  obtain⟨h1,h2,h3⟩:=J4 c.sz c.sl d hx;exact⟨⟨Nk h1 c.df,h2,h3,c.sr,c.fr,c.nx,c.lo,c.st⟩,c.free,c.hi,c.nlo⟩
theorem Cr.next{lo hi:Nat}(c:Cr cX lo hi s L a w)(d:Option Nat){x:AV}{u:Value}{L':LM}{H':HP}{w':World}(MD:lo<hi)(hL:∀i,i≠lo->L' i=L i)(hs:SR L' H' cX.Av w')(st:Step L s.H w L' H' w')
    (hx:R L' w' (MM L' H' cX.Av) x u):Cr cX (lo+1) hi ⟨BG s.t d x,H',s.nx⟩ L' (a.put d u) w':=by
  obtain⟨h1,h2,h3⟩:=J4 (a:=a) c.sz (λk y hk=>(c.sl k y hk).step st) d hx;have h4:=c.hi;have h5:=c.nlo;refine⟨⟨Nk h1 (c.df.step c.sr st),h2,h3,hs,?_,c.nx,?_,c.st.trans st⟩,?_,c.hi,A0⟩
  · intro i HM;simp only at HM;rw[hL i A0];exact c.fr i HM
  · intro i HM;rw[hL i A0];exact c.lo i HM
  intro i h1 h2;rw[hL i A0];exact c.free i A0 h2
theorem Cr.skip{lo hi:Nat}(c:Cr cX lo hi s L a w):Cr cX (lo+1) hi s L a w:=
  ⟨c.toCn,λi h1 h2=>c.free i A0 h2,c.hi,by have:=c.nlo;omega⟩
theorem DE{o:Oper}{id hi:Nat}{k:AV->HP->Prop}(h:fT P o (BQ s.t) s.H id k)(c:Cr cX id hi s L a w)(MD:id<hi){K:Act->World->Prop}{Q:Exit->Act->World->Prop}
    (hK:∀r H' L' u w',k r H'->Cr cX (id+1) hi ⟨BG s.t o.dst r,H',s.nx⟩ L' (a.put o.dst u) w'->K (a.put o.dst u) w'):Bi cX.rd P o a w K Q:=by
  have hL:=c.free id (Nat.le_refl _) MD;have hH:s.H id=none:=by
    cases hh:s.H id with
    |none=>rfl
    |some cs=>obtain⟨l,h1,_⟩:=c.sr.node id cs hh;rw[hL]at h1;cases h1
  refine(h L cX.Av w a.eval c.sr ⟨_,c.fr⟩ hL hH (λx _=>c.ev x)).wp ?_;rintro u w' ⟨r,H',L',h1,h2,h3,h4,h5⟩;exact hK r H' L' u w' h1 (c.next o.dst MD h2 h3 h4 h5)
theorem hU(hG:IB P Γ){o:Oper}{id hi:Nat}{K':St->Prop}(h:IG Γ P o.dst o.op id s K')(c:Cr cX id hi s L a w)(MD:id<hi){K:Act->World->Prop}{Q:Exit->Act->World->Prop}
    (hK:∀s' L' a' w',K' s'->Cr cX (id+1) hi s' L' a' w'->K a' w'):Bi cX.rd P o a w K Q:=by
  have gen:∀{K':St->Prop},(RF Γ P o.op s.t s.H id λr d=>K' ⟨BG s.t o.dst r,HN s.H id d,s.nx⟩)->(∀s' L' a' w',K' s'->Cr cX (id+1) hi s' L' a' w'->K a' w')->Bi cX.rd P o a w K Q:=by
    intro K' h hK;obtain⟨r,d,h1,h2⟩:=Cd hG h;refine DE (h2 s.H (λ_ _ h=>h)) c MD ?_;rintro r' H' L' u w' ⟨rfl,rfl⟩ hc;exact hK _ _ _ _ h1 hc
  have bK:∀(f:FuncId) (xs:List AV) (us:Array Value),AC P f s.nx s.H xs (λBB H' r=>K' ⟨BG s.t o.dst r,H',BB⟩)->ID L w (MM L s.H cX.Av) xs us->(execOp a.eval o).run P w= .ok (.enter f us) w->Bi cX.rd P o a w K Q:=by
    rintro f xs us ⟨he,E8⟩ ha h1;have h2:=E8 L cX.Av w _ c.sr c.fr ha;have h3:QV P o a.eval w λu w'=>∃r L' BB H',K' ⟨BG s.t o.dst r,H',BB⟩/\s.nx<=BB/\(∀i,BB<=i->L' i=none)/\(∀i,i<s.nx->L' i=L i)/\SR L' H' cX.Av w'/\Step L s.H w L' H' w'/\R L' w' (MM L' H' cX.Av) r u:=by
      unfold QV;rw[h1];exact h2.mono λe w' ⟨u,r,L',BB,H',g1,g2,g3,g4,g5,g6,g7,g8⟩=>⟨u,g1,r,L',BB,H',g2,g3,g4,g5,g6,g7,g8⟩
    refine h3.wp ?_;rintro u w' ⟨r,L',BB,H',g1,g2,g3,g4,g5,g6,g7⟩;obtain⟨q1,q2,q3⟩:=J4 (a:=a) c.sz (λk y hk=>(c.sl k y hk).step g6) o.dst g7;have h4:=c.hi;have h5:=c.nlo;have h6:=c.nx;refine hK _ L' _ w' g1 ⟨⟨Nk q1 (c.df.step c.sr g6),q2,q3,g5,g3,by simp only;omega,?_,c.st.trans g6⟩,?_,by simp only;omega,A0⟩
    · intro i HM;rw[g4 i A0];exact c.lo i HM
    intro i h7 h8;rw[g4 i A0];exact c.free i A0 h8
  unfold IG at h;split at h
  · rename_i op ty x y ty2 ho;refine DE (nC hG ho h) c MD ?_;rintro r H' L' u w' ⟨hk,rfl⟩ hc;exact hK _ _ _ _ hk hc
  · rename_i ty x y ho;refine DE (uA hG ho h) c MD ?_;intro r H' L' u w' hk hc;exact hK _ _ _ _ hk hc
  · rename_i args ED ho;split at h
    · rename_i x y t1 t2 ha ht;have WB:args=#[x,y]:=by apply Array.ext';simpa using ha
      subst WB;refine DE (uD hG ho (by rw[<-Array.getElem?_toList,ht];rfl) (by rw[<-Array.getElem?_toList,ht];rfl) h) c MD ?_;intro r H' L' u w' hk hc;exact hK _ _ _ _ hk hc
    exact h.elim
  · rename_i f args ED ho;have h1:=WK h.1 ho (show a.eval (.func f)= .func (.func f) #[] #[]from rfl) w;exact bK f _ _ h (jI ho (λx _=>c.ev x)) h1
  · rename_i n args ED ho;unfold Nc at h;split at h
    · rename_i f cs hv;have hx:=c.ev (.tmp n);rw[hv]at hx;obtain⟨us,hf,Li⟩:=hx.mY;have h1:=T7 h.1 ho hf w;exact bK f _ _ h ((bG ho (λx _=>c.ev x)).append Li) h1
    exact h.elim
  · rename_i ty ho;exact DE (n7 ho h) c MD (λr H' L' u w' hk hc=>hK _ _ _ _ hk hc)
  · rename_i ty x i ok ho;exact DE (uI hG ho h) c MD (by rintro r H' L' u w' ⟨hk,rfl⟩ hc;exact hK _ _ _ _ hk hc)
  · rename_i ty x i v ho;exact DE (a7 hG (.inl ho) h) c MD (λr H' L' u w' hk hc=>hK _ _ _ _ hk hc)
  · rename_i ty x i v ho;exact DE (a7 hG (.inr ho) h) c MD (λr H' L' u w' hk hc=>hK _ _ _ _ hk hc)
  · rename_i ty x ho;exact DE (uJ hG ho h) c MD (λr H' L' u w' hk hc=>hK _ _ _ _ hk hc)
  · rename_i x ho;exact DE (uL ho h) c MD (λr H' L' u w' hk hc=>hK _ _ _ _ hk hc)
  · rename_i x ho;exact DE (uM ho h) c MD (by rintro r H' L' u w' ⟨hk,rfl⟩ hc;exact hK _ _ _ _ hk hc)
  · rename_i ty x i ho;exact DE (uN hG ho h) c MD (by rintro r H' L' u w' ⟨hk,rfl⟩ hc;exact hK _ _ _ _ hk hc)
  · rename_i src dst x ho;exact DE (uP hG ho h) c MD (by rintro r H' L' u w' ⟨hk,rfl⟩ hc;exact hK _ _ _ _ hk hc)
  · rename_i args ED ho;split at h
    · rename_i x y t1 ts ha ht;have WB:args=#[x,y]:=by apply Array.ext';simpa using ha
      subst WB;exact DE (uQ hG ho (by rw[<-Array.getElem?_toList,ht];rfl) h) c MD (λr H' L' u w' hk hc=>hK _ _ _ _ hk hc)
    exact h.elim
  exact gen h hK
theorem qX(hG:IB P Γ){ops:List Oper}{base hi:Nat}{Q:Exit->Act->World->Prop}{K':St->Prop}:∀(rest:List Oper) (i:Nat) (s:St) (L:LM) (a:Act) (w:World),DW Γ P ops base rest i s K'->
    Cr cX (base+i) hi s L a w->base+i+rest.length<=hi->(∀s' L' a' w',K' s'->Cn cX s' L' a' w'->Q .normal a' w')->Wi cX.rd P ops.toArray Q rest a w:=by
  intro rest;induction rest with
  |nil=>intro i s L a w h c _ hQ;exact hQ s L a w h c.toCn
  | cons o rest ih=>
    intro i s L a w h c hlen hQ;simp only[List.length_cons]at hlen;simp only[DW]at h;unfold Wi;rcases O8 c.toCn h o rfl with ⟨hw,hy⟩|⟨hw,hn⟩
    · rw[if_pos hw];refine .inl (hU hG hy c A0 ?_);intro s' L' a' w' hk hc;exact ih (i+1) s' L' a' w' hk hc A0 hQ
    rw[if_neg (by simp[hw])];exact ih (i+1) _ L _ w hn (c.put o.dst (.c _)).skip A0 hQ
theorem AW.region(hG:IB P Γ){n:Nat}{ops:Array Oper}{K:Exit->St->Prop}(h:DW Γ P ops.toList s.nx ops.toList 0 ⟨s.t,s.H,s.nx+ops.toList.length⟩ (K .normal)):AW cX P (.region n ops false) s K:=by
  intro L a w Q hc hQ;refine qN ?_;have hcr:Cr cX (s.nx+0) (s.nx+ops.toList.length) ⟨s.t,s.H,s.nx+ops.toList.length⟩ L a w:=
    ⟨⟨hc.df,hc.sz,hc.sl,hc.sr,λi hi=>hc.fr i (by simp only at hi;omega),by have:=hc.nx;simp only;omega,hc.lo,hc.st⟩,λi h1 _=>hc.fr i A0,by simp only;omega,by have:=hc.nx;omega⟩
  have:=qX (Q:=Q) hG ops.toList 0 _ L a w h hcr A0 (λs' L' a' w' hk UB=>hQ _ _ _ _ _ hk UB);simpa using this
end
end Go.Proofs.YtgknbnkmilddhaaGreat

namespace Go.Proofs.YtgknbnkmilddhaaGreat
section
variable{P:Program}{Γ:CA}
theorem Nn(hG:IB P Γ){H:HP}{ty:TypeId}{x:AV}{k:AV->Prop}(h:Mj Γ H ty x k):
    ∃r,k r/\∀(L:LM) (Av:Nat->Prop) (w:World) (u:Value),SR L H Av w->R L w (MM L H Av) x u->∃z ad,u= .pointer (some ad)/\(Instr.loadAt ty u).run P w= .ok z w/\R L w (MM L H Av) r z:=by
  unfold Mj at h;split at h
  · rename_i e oo cs he;obtain⟨r,hk,hr⟩:=ZV (hG ty e he) h;refine⟨r,hk,λL Av w u hs hu=>?_⟩;obtain⟨b,off,arr,et,f,h1,_,h2,h3⟩:=hu.Bn;obtain⟨z,h4,h5⟩:=hr L w (MM L H Av) b off arr et f h2 h3;exact⟨z,_,h1,by rw[h1];exact h4,h5⟩
  · rename_i e id' oo he;obtain⟨cs,P6,h⟩:=h;obtain⟨r,hk,hr⟩:=ZV (hG ty e he) h;refine⟨r,hk,λL Av w u hs hu=>?_⟩;obtain⟨l,⟨hl,h0⟩,h1⟩:=hu.gZ;obtain⟨l',I9,D0⟩:=hs.node id' cs P6;rw[hl]at I9;cases I9;obtain⟨arr,et,h2,_,_,h3⟩:=D0.ex h0;obtain⟨z,h4,h5⟩:=hr L w (MM L H Av) l.CP l.off arr et _ h2 h3;exact⟨z,_,h1,by rw[h1];exact h4,h5⟩
  exact h.elim
def S9(Γ:CA)(s:St):List ResultVar->(List AV->Prop)->Prop
  |[],k=>k []
  | .tmp t::r,k=>S9 Γ s r λrs=>k (s.t.getD t .j::rs)
  | .cell a ty::r,k=>Mj Γ s.H ty (s.t.getD a .j) λx=>S9 Γ s r λrs=>k (x::rs)
def bL:List AV->AV
  |[x]=>x
  |rs=> .t rs
def jO(Γ:CA)(res:List ResultVar)(K:Nat->HP->AV->Prop):Exit->St->Prop
  | .normal,s=>S9 Γ s res λrs=>K s.nx s.H (bL rs)
  | .ret,s=>S9 Γ s res λrs=>K s.nx s.H (bL rs)
  |_,_=>False
def rv(tmps:Array Value):ResultVar->Sem Value
  | .tmp t=>pure (tmps.getD t undef)
  | .cell b t=>do loadVar t (<-asAddr (tmps.getD b undef))
theorem qY(fn:Func)(tmps:Array Value):results fn tmps=(do let vs<-fn.results.mapM (rv tmps);pure (if h:vs.size=1 then vs[0]else .tuple vs)):=rfl
theorem yJ(hG:IB P Γ){cX:Ctx}{s:St}{L:LM}{a:Act}{w:World}(c:Cn cX s L a w):∀(res:List ResultVar) (k:List AV->Prop),S9 Γ s res k->
    ∃ rs us,k rs/\(res.mapM (rv a.tmps)).run P w= .ok us w/\us.length=rs.length/\
      ∀(i:Nat) (x:AV),rs[i]? =some x->R L w (MM L s.H cX.Av) x (us.getD i undef):=by
  intro res;induction res with
  |nil=>intro k h;exact⟨[],[],h,AB,rfl,AB⟩
  | cons x res ih=>
    intro k h;cases x with
    | tmp t=>
      simp only[S9]at h;obtain⟨rs,us,h1,h2,h3,h4⟩:=ih _ h;refine⟨_,a.tmps.getD t undef::us,h1,?_,by simp[h3],?_⟩
      · simp only[List.mapM_cons,rv,Sem.run_bind,Sem.run_pure,Result.andThen_ok,h2]
      intro i y hi;cases i with
      | zero=>
        simp only[List.getElem?_cons_zero,Option.some.injEq]at hi;subst hi;exact c.ev (.tmp t)
      |succ i=>exact h4 i y (by simpa using hi)
    | cell b ty=>
      simp only[S9]at h;obtain⟨r,h1,h2⟩:=Nn (P:=P) hG h;obtain⟨rs,us,h3,h4,h5,h6⟩:=ih _ h1;obtain⟨z,ad,g1,g2,g3⟩:=h2 L cX.Av w _ c.sr (c.ev (.tmp b));refine⟨_,z::us,h3,?_,by simp[h5],?_⟩
      · have Nd:a.tmps.getD b undef= .pointer (some ad):=g1;have g2':(Instr.loadAt ty (a.tmps.getD b undef)).run P w= .ok z w:=g2;rw[Nd]at g2';simp only[Instr.loadAt,Instr.sureAddr,Sem.run_bind,Sem.run_pure,Result.andThen_ok]at g2';have g3':(rv a.tmps (.cell b ty)).run P w= .ok z w:=by
          simp only[rv,Nd,asAddr,Sem.run_bind,Sem.run_pure,Result.andThen_ok,g2']
        simp only[List.mapM_cons,Sem.run_bind,Sem.run_pure,Result.andThen_ok,h4,g3']
      intro i y hi;cases i with
      | zero=>
        simp only[List.getElem?_cons_zero,Option.some.injEq]at hi;subst hi;exact g3
      |succ i=>exact h6 i y (by simpa using hi)
theorem Cn.LW{cX:Ctx}{s:St}{L:LM}{a:Act}{w:World}(c:Cn cX s L a w){b:Nat}{o:Obj}(hb:w.heap[b]? =some o)(ho:tU o)(hB:cX.w0.heap.size<=b)(o':Obj)(hd:a.defers=[]):Cn cX s L a (w.putObj b o'):=
  ⟨Nk hd DF.nil,c.sz,λk x hk=>(c.sl k x hk).LW hb ho o',c.sr.LW hb ho o',c.fr,c.nx,c.lo,c.st.LW hB o'⟩
theorem AC.run(hG:IB P Γ){f:FuncId}{fn:Func}{c:Code}{n:Nat}(hf:P.funcs[f]? =some fn)(hb:fn.body=some c){Zz:List AV}(yK:fn.ntmps-Zz.length=n){nx:Nat}{H:HP}{Q:Nat->HP->AV->Prop}
    {L:LM} {Av:Nat->Prop} {w:World} {us:Array Value} (hs:SR L H Av w) (CQ:∀i,nx<=i->L i=none) (ha:ID L w (MM L H Av) Zz us)
    (h:AW ⟨none,true,nx,L,H,w,Av⟩ P c ⟨Zz++List.replicate n .j,H,nx⟩ (jO Γ fn.results.toList Q)):
    Calls P f us w λe w'=>∃u r L' BB H',e= .returned u/\Q BB H' r/\nx<=BB/\(∀i,BB<=i->L' i=none)/\(∀i,i<nx->L' i=L i)/\SR L' H' Av w'/\Step L H w L' H' w'/\R L' w' (MM L' H' Av) r u:=by
  obtain⟨FV,hr⟩:=ha;refine(callsIn_wide (n:=0)).1 (callsIn_of_wp_marks hf hb trivial (h L _ w _ ⟨DF.nil,?_,?_,hs,CQ,Nat.le_refl _,λ_ _=>rfl,Step.refl _ _ _⟩ ?_) rfl)
  · simp[FV,yK]
  · intro k x hk;rw[List.getElem?_append]at hk;split at hk
    · rename_i C4;have:=hr k x hk;have AA0:k<us.size:=A0;simpa[Array.getElem?_append,AA0]using this
    rw[List.getElem?_replicate]at hk;split at hk
    · cases hk;exact .j _
    cases hk
  intro e s' L' a' w' hk hc;have fin:∀(a':Act) (w':World),Cn ⟨none,true,nx,L,H,w,Av⟩ s' L' a' w'->(S9 Γ s' fn.results.toList λrs=>Q s'.nx s'.H (bL rs))->∃v,(results fn a'.tmps).run P w'= .ok v w'/\∃u r L' BB H',Ending.returned v= .returned u/\Q BB H' r/\nx<=BB/\(∀i,BB<=i->L' i=none)/\(∀i,i<nx->L' i=L i)/\SR L' H' Av w'/\Step L H w L' H' w'/\R L' w' (MM L' H' Av) r u:=by
    intro a' w' hc hk;obtain⟨rs,vs,h1,h2,h3,h4⟩:=yJ hG hc fn.results.toList _ hk;have hm:(fn.results.mapM (rv a'.tmps)).run P w'= .ok vs.toArray w':=by
      rw[Array.mapM_eq_mapM_toList];simp only[Sem.run_map,h2,Result.andThen_ok]
    have YR:(results fn a'.tmps).run P w'= .ok (if h:vs.toArray.size=1 then vs.toArray[0]else .tuple vs.toArray) w':=by
      rw[qY];simp only[Sem.run_bind];rw[hm];simp only[Result.andThen_ok,Sem.run_pure]
    refine⟨_,YR,_,bL rs,L',s'.nx,s'.H,rfl,h1,hc.nx,hc.fr,hc.lo,hc.sr,hc.st,?_⟩;match rs,vs,h3,h4 with
    |[],[],_,_=>exact .t _ _ rfl AB
    |[x],[v],_,h4=>simpa[bL]using h4 0 x rfl
    | x::y::rs,v::v'::vs,h3,h4=>
      have:¬(v::v'::vs).toArray.size=1:=AB;rw[dif_neg this];refine .t _ _ (by simpa using h3) ?_;intro k z hk;have:=h4 k z hk;simpa using this
  have both:(S9 Γ s' fn.results.toList λrs=>Q s'.nx s'.H (bL rs))->LeavesInM Fence.wide 0 P fn a'.tmps (λe w'=>∃u r L' BB H',e= .returned u/\Q BB H' r/\nx<=BB/\(∀i,BB<=i->L' i=none)/\(∀i,i<nx->L' i=L i)/\SR L' H' Av w'/\Step L H w L' H' w'/\R L' w' (MM L' H' Av) r u) a'.defers .returning w':=by
    intro hk;have key:∀(ds:List Deferred) (w1:World),YK w.heap.size ds w1->Cn ⟨none,true,nx,L,H,w,Av⟩ s' L' {a' with defers:=[]} w1->LeavesInM Fence.wide 0 P fn a'.tmps (λe w'=>∃u r L' BB H',e= .returned u/\Q BB H' r/\nx<=BB/\(∀i,BB<=i->L' i=none)/\(∀i,i<nx->L' i=L i)/\SR L' H' Av w'/\Step L H w L' H' w'/\R L' w' (MM L' H' Av) r u) ds .returning w1:=by
      intro ds;induction ds with
      |nil=>intro w1 _ yL;exact fin {a' with defers:=[]} w1 yL hk
      | cons d ds ih=>
        rintro w1 ⟨⟨D,rfl,hD,hB,AQ⟩,No⟩ yL;refine⟨AB,.inl ⟨D,_,rfl,run_takeDeferred hD,ih _ ?_ (yL.LW hD trivial hB _ rfl)⟩⟩;exact No.of λE hE _=>World.putObj_heap_other (AQ E hE)
    exact key a'.defers w' hc.df.1 ⟨DF.nil,hc.sz,hc.sl,hc.sr,hc.fr,hc.nx,hc.lo,hc.st⟩
  cases e<;>simp only[jO,bodyPostM]at hk ⊢
  · exact both hk
  exact both hk
theorem AC.intro(hG:IB P Γ){f:FuncId}{fn:Func}{c:Code}{n:Nat}(hf:P.funcs[f]? =some fn)(hb:fn.body=some c)(hn:(fn.name== "runtime.NumGoroutine")=false){Zz:List AV}(yK:fn.ntmps-Zz.length=n){nx:Nat}{H:HP}{Q:Nat->HP->AV->Prop}
    (h:∀cX:Ctx,AW cX P c ⟨Zz++List.replicate n .j,H,nx⟩ (jO Γ fn.results.toList Q)):AC P f nx H Zz Q:=
  ⟨⟨fn,hf,by rw[hb];rfl,hn⟩,λL Av w us hs CQ ha=>AC.run hG hf hb yK hs CQ ha (h _)⟩
theorem AC.pure{f:FuncId}{nx:Nat}{H:HP}{Zz:List AV}{r:AV}{K:Nat->HP->AV->Prop}(h:RC P f H Zz r)(hk:K nx H r):AC P f nx H Zz K:=by
  obtain⟨h1,h2⟩:=h.run (λ_ _ h=>h);refine⟨h1,λL Av w us hs CQ ha=>(h2 L Av w us hs ⟨_,CQ⟩ ha).mono ?_⟩;rintro e w' ⟨u,g1,g2,g3,g4⟩;exact⟨u,r,L,nx,H,g1,hk,Nat.le_refl _,CQ,λ_ _=>rfl,g2,g3,g4⟩
theorem BI.intro(hG:IB P Γ){f:FuncId}{fn:Func}{c:Code}{n:Nat}(hf:P.funcs[f]? =some fn)(hb:fn.body=some c)(hn:(fn.name== "runtime.NumGoroutine")=false){Zz:List AV}(yK:fn.ntmps-Zz.length=n){r:AV}(hr:NR r)
    (h:∀nx (cX:Ctx),AW cX P c ⟨Zz++List.replicate n .j,BM,nx⟩ (jO Γ fn.results.toList λ_ _ r'=>r'=r)):BI P f Zz r:=by
  refine⟨⟨fn,hf,by rw[hb];rfl,hn⟩,?_⟩;rintro L M w us hM ⟨nx,CQ⟩ ha;have hac:=AC.intro (Q:=λ_ _ r'=>r'=r) hG hf hb hn yK (h nx);refine(hac.2 L M w us (WI hM) CQ (by rw[WJ];exact ha)).mono ?_;rintro e w' ⟨u,r',L',BB,H',g1,rfl,g2,g3,g4,g5,g6,g7⟩;refine⟨u,g1,⟨λ_ _ h=>h,g6.os,g6.tape,g6.output,g6.size,g6.AJ,λb _ hl=>hl⟩,?_⟩;exact R.mono (L:=L) (M:=MM L' H' M) (w:=w') (λ_ _ h=>h) (λ_ _ _=>rfl) (λb _ hb=> .inl hb) (g7.nr hr)
theorem RC.of{f:FuncId}{H:HP}{Zz:List AV}{r:AV}(h:BI P f Zz r):RC P f H Zz r:= .inl h
theorem RC.yM{f:FuncId}{H:HP}{Zz ts:List AV}{r:AV}(h:BI P f ts r)(hv:ZY H Zz ts)(hf:Fl r):RC P f H Zz r:= .inr ⟨ts,hv,h,hf⟩
end
end Go.Proofs.YtgknbnkmilddhaaGreat
