import Derived.Test.YtgknbnkmilddhaaGreatZ15
import Derived.Test.YtgknbnkmilddhaaGreatZ19
set_option linter.unusedVariables false
set_option linter.unusedSimpArgs false

namespace Go.Proofs.YtgknbnkmilddhaaGreat
section
variable{os:List Int}{pw:List (List Int)}{cj:List (List (List Int))}(hp:AF os pw cj)(hc:CG (pc os pw cj) 0)
include hp hc
theorem Qz{S:V->Prop}(hS:E5 (T (pc os pw cj) 0) (M (pc os pw cj) 0) S){x m:Nat}(hx:x<nG os)(h1:m<2^nG os)(h2:∀t,(HK os S).testBit t=true\/t=x->m.testBit t=true)(h3:∀t,m.testBit t=true->Jn (pc os pw cj) S (C5 os x) (C5 os t))
    (h4:∀a b,m.testBit a=true->m.testBit b=true->m.testBit (OY os pw cj a b)=true):m=HK os (Jn (pc os pw cj) S (C5 os x)):=by
  have h0:m.testBit 0=true:=h2 0 (.inl (DJ.2 ⟨(JC hp).1,by rw[show((0:Nat):Int)=0 from rfl,I2];exact hS.e⟩));have hA:=A1R hp hc (B:=λt=>m.testBit t=true) h0 λs t _ _=>h4 s t
  refine dH λt=>⟨λh=>DJ.2 ⟨XC h1 h,h3 t h⟩,λh=>?_⟩
  obtain⟨t1,t2⟩:=DJ.1 h;refine(t2 _ hA λu hu=>?_).2 t t1 rfl;rcases hu with q|rfl
  · exact⟨hS.n q,λs s1 e=>h2 s (.inl (DJ.2 ⟨s1,by rw[e];exact q⟩))⟩
  exact⟨DP hp x,λs s1 e=>h2 s (.inr (MH hp s1 hx e))⟩
theorem Gk{S:V->Prop}(hS:E5 (T (pc os pw cj) 0) (M (pc os pw cj) 0) S){x a b:Nat}(ha:Jn (pc os pw cj) S (C5 os x) (C5 os a))(hb:Jn (pc os pw cj) S (C5 os x) (C5 os b)):Jn (pc os pw cj) S (C5 os x) (C5 os (OY os pw cj a b)):=by
  rw[(OJ hp hc a b).2.1];exact(sJ hp hc hS (DP hp x)).mu ha hb
theorem Ra{gs:List Nat}{m:Nat}(hg:∀g∈gs,g<nG os)(h1:m<2^nG os)(h0:m.testBit 0=true)(h4:∀a,m.testBit a=true->∀g∈gs,m.testBit (OY os pw cj a g)=true)
    (h3:∀t,m.testBit t=true->GL (pc os pw cj) (gs.map λg=>C5 os (g:Nat)) (C5 os t)):m=HK os (GL (pc os pw cj) (gs.map λg=>C5 os (g:Nat))):=by
  have g:=(lvl hp.val hc).g 0;have hT0:T (pc os pw cj) 0 z0:=T.zero hp.val 0;refine dH λt=>⟨λh=>DJ.2 ⟨XC h1 h,h3 t h⟩,λh=>?_⟩
  obtain⟨t1,t2⟩:=DJ.1 h;have hB:=V6 hp hc (A:=λy=>T (pc os pw cj) 0 y/\∀s,s<nG os->m.testBit s=true->∀t,t<nG os->C5 os t=M (pc os pw cj) 0 (C5 os s) y->m.testBit t=true) (λx h=>h.1)
    ⟨hT0,λs s1 s2 t t1 e=>by rw[g.r1 (DP hp s)]at e;rw[MH hp t1 s1 e];exact s2⟩
    (λa b ha hb=>⟨g.cl ha.1 hb.1,λs s1 s2 t t1 e=>by
      obtain⟨q,q1,q2,_⟩:=OX hp (g.cl (DP hp s) ha.1);refine hb.2 q q1 (ha.2 s s1 s2 q q1 q2) t t1 ?_;rw[e,q2,g.ac (DP hp s) ha.1 hb.1]⟩)
  have:=(t2 _ hB λu hu=>by
    obtain⟨q,q1,rfl⟩:=List.mem_map.1 hu;refine⟨DP hp q,λs s1 s2 t t1 e=>?_⟩;obtain⟨b1,b2,_⟩:=OJ hp hc s q;rw[MH hp t1 b1 (e.trans b2.symm)];exact h4 s s2 q q1).2 0 (JC hp).1 h0 t t1 (by rw[show((0:Nat):Int)=0 from rfl,I2,g.l1 (DP hp t)])
  exact this
theorem Gl{gs:List Nat}{a b:Nat}(ha:GL (pc os pw cj) (gs.map λg=>C5 os (g:Nat)) (C5 os a))(hb:b∈gs):GL (pc os pw cj) (gs.map λg=>C5 os (g:Nat)) (C5 os (OY os pw cj a b)):=by
  rw[(OJ hp hc a b).2.1];exact λA hA hu=>hA.mu (ha A hA hu) (hu _ (List.mem_map.2 ⟨b,hb,rfl⟩))
omit hp hc in
theorem Rb{us:List V}{x:V}:GL (pc os pw cj) (us++[x])=Jn (pc os pw cj) (GL (pc os pw cj) us) x:=by
  funext y
  refine propext ⟨λh A hA hu=>h A hA λu JF=>?_,λh A hA hu=>h A hA λu JF=>?_⟩
  · rcases List.mem_append.1 JF with q|q
    · exact hu u (.inl (GL.of q))
    exact hu u (.inr (by simpa using q))
  rcases JF with q|rfl
  · exact q A hA λv hv=>hu v (List.mem_append_left _ hv)
  exact hu _ AB
end
def OM:List Int->List Int->Int
  |[],[]=>0
  |[],_::_=> -1
  |_::_,[]=>1
  |a::Xz,b::bs=>if a<b then-1 else if b<a then 1 else OM Xz bs
theorem Rc:∀a b,OM b a= -OM a b:=by
  intro a;induction a with
  |nil=>intro b;cases b<;>rfl
  | cons x a ih=>
    intro b;cases b with
    |nil=>rfl
    | cons y b=>
      rw[OM,OM];rcases Int.lt_trichotomy x y with q|q|q
      · rw[if_neg A0,if_pos q,if_pos q];rfl
      · rw[if_neg A0,if_neg A0,if_neg A0,if_neg A0,ih]
      rw[if_pos q,if_neg A0,if_pos q]
theorem Gm:∀a b,OM a b=0->a=b:=by
  intro a;induction a with
  |nil=>intro b h;cases b with|nil=>rfl|cons=>simp[OM]at h
  | cons x a ih=>
    intro b h;cases b with
    |nil=>simp[OM]at h
    | cons y b=>
      rw[OM]at h;split at h
      · cases h
      split at h
      · cases h
      rw[ih b h,show x=y by omega]
theorem A1U:∀a b c,OM a b<=0->OM b c<=0->OM a c<=0/\(OM a b<0\/OM b c<0->OM a c<0):=by
  intro a;induction a with
  | nil=>
    intro b c h1 h2;cases c with
    | nil=>
      cases b with
      |nil=>simp[OM]
      |cons=>simp[OM]at h2
    |cons=>simp[OM]
  | cons x a ih=>
    intro b c h1 h2;cases b with
    |nil=>simp[OM]at h1
    | cons y b=>
      cases c with
      |nil=>simp[OM]at h2
      | cons z c=>
        have key:=ih b c;rw[OM]at h1 h2 ⊢;rw[OM,OM];by_cases q1:x<y<;>by_cases q2:y<z<;>by_cases q3:y<x<;>by_cases q4:z<y<;>by_cases q5:x<z<;>by_cases q6:z<x<;>simp only[q1,q2,q3,q4,q5,q6,if_true,if_false]at h1 h2 ⊢<;>first|omega|exact⟨A0,λ_=>A0⟩|exact key h1 h2
def JR(os:List Int)(u:List V):Int:=NJ os u u.length
def RO(os:List Int)(u:List V):List Int:=u.flatMap (vec os.length)
def GH(os:List Int)(u v:List V):Int:=if JR os u<JR os v then-1 else if JR os v<JR os u then 1 else OM (RO os u) (RO os v)
theorem JD{os:List Int}(u v:List V):GH os v u= -GH os u v:=by
  unfold GH;rcases Int.lt_trichotomy (JR os u) (JR os v)with q|q|q
  · rw[if_neg A0,if_pos q,if_pos q];rfl
  · rw[if_neg A0,if_neg A0,if_neg A0,if_neg A0,Rc]
  rw[if_pos q,if_neg A0,if_pos q]
theorem aL{os:List Int}{u v w:List V}(h1:GH os u v<=0)(h2:GH os v w<=0):GH os u w<=0/\(GH os u v<0\/GH os v w<0->GH os u w<0):=by
  have key:=A1U (RO os u) (RO os v) (RO os w);unfold GH at*;by_cases q1:JR os u<JR os v<;>by_cases q2:JR os v<JR os w<;>by_cases q3:JR os v<JR os u<;>by_cases q4:JR os w<JR os v<;>by_cases q5:JR os u<JR os w<;>by_cases q6:JR os w<JR os u<;>simp only[q1,q2,q3,q4,q5,q6,if_true,if_false]at h1 h2 ⊢<;>first|omega|exact⟨A0,λ_=>A0⟩|exact key h1 h2
theorem V7{os:List Int}(u:List V):¬GH os u u<0:=by have:=JD (os:=os) u u;omega
theorem kZ{n:Nat}{x y:V}(hx:∀k,n<=k->x k=0)(hy:∀k,n<=k->y k=0)(h:vec n x=vec n y):x=y:=by
  funext k
  by_cases hk:k<n
  · have h1:(vec n x).getD k 0=x k:=by simp[vec,hk]
    have h2:(vec n y).getD k 0=y k:=by simp[vec,hk]
    rw[<-h1,<-h2,h]
  rw[hx k A0,hy k A0]
theorem Re{os:List Int}(hn:0<os.length):∀u v:List V,(∀x∈u,∀k,os.length<=k->x k=0)->(∀x∈v,∀k,os.length<=k->x k=0)->RO os u=RO os v->u=v:=by
  intro u;induction u with
  | nil=>
    intro v _ _ h;cases v with
    |nil=>rfl
    | cons y v=>
      have:=congrArg List.length h;rw[RO,RO,List.flatMap_nil,List.flatMap_cons,List.length_append,BL,List.length_nil]at this;omega
  | cons x u ih=>
    intro v hu hw h;cases v with
    | nil=>
      have:=congrArg List.length h;rw[RO,RO,List.flatMap_nil,List.flatMap_cons,List.length_append,BL,List.length_nil]at this;omega
    | cons y v=>
      rw[RO,RO,List.flatMap_cons,List.flatMap_cons]at h;obtain⟨h1,h2⟩:=List.append_inj h (by rw[BL,BL]);rw[kZ (hu x AB) (hw y AB) h1,ih v (λz hz=>hu z (by simp[hz])) (λz hz=>hw z (by simp[hz])) h2]
theorem Gn{α:Type}{lt:α->α->Prop}(irr:∀a,¬lt a a)(tr:∀a b c,lt a b->lt b c->lt a c):∀l l':List α,l.Pairwise lt->l'.Pairwise lt->(∀x,x∈l↔x∈l')->l=l':=by
  intro l;induction l with
  | nil=>
    intro l' _ _ h;cases l' with
    |nil=>rfl
    |cons b l'=>have:=(h b).2 AB;cases this
  | cons a l ih=>
    intro l' h1 h2 h;cases l' with
    |nil=>have:=(h a).1 AB;cases this
    | cons b l'=>
      rw[List.pairwise_cons]at h1 h2;have jV:a=b:=by
        rcases List.mem_cons.1 ((h a).1 AB)with q|q
        · exact q
        rcases List.mem_cons.1 ((h b).2 AB)with q'|q'
        · exact q'.symm
        exact absurd (tr _ _ _ (h1.1 b q') (h2.1 a q)) (irr a)
      subst jV;congr 1
      refine ih l' h1.2 h2.2 λx=>⟨λhx=>?_,λhx=>?_⟩
      · rcases List.mem_cons.1 ((h x).1 (by simp[hx]))with q|q
        · subst q;exact absurd (h1.1 x hx) (irr x)
        exact q
      rcases List.mem_cons.1 ((h x).2 (by simp[hx]))with q|q
      · subst q;exact absurd (h2.1 x hx) (irr x)
      exact q
structure SJ(os:List Int)(pw:List (List Int))(cj:List (List (List Int)))(L:List (List V)):Prop where
  st:L.Pairwise λu v=>GH os u v<0
  all:∀l,l∈L↔∃S,E5 (T (pc os pw cj) 0) (M (pc os pw cj) 0) S/\SI (pc os pw cj) S l
section
variable{os:List Int}{pw:List (List Int)}{cj:List (List (List Int))}
theorem SJ.uniq{L L':List (List V)}(h:SJ os pw cj L)(h':SJ os pw cj L'):L=L':=
  Gn (lt:=λu v=>GH os u v<0) (λa=>V7 a) (λa b c h1 h2=>(aL (Int.le_of_lt h1) (Int.le_of_lt h2)).2 (.inl h1)) L L' h.st h'.st λx=>(h.all x).trans (h'.all x).symm
theorem oM{S:V->Prop}{l:List V}(hS:E5 (T (pc os pw cj) 0) (M (pc os pw cj) 0) S)(h:SI (pc os pw cj) S l){x:V}(hx:x∈l):T (pc os pw cj) 0 x:=hS.n (h.S hx)
theorem Rf{S S':V->Prop}{l l':List V}(hS:E5 (T (pc os pw cj) 0) (M (pc os pw cj) 0) S)(h:SI (pc os pw cj) S l)(Ax:E5 (T (pc os pw cj) 0) (M (pc os pw cj) 0) S')(h':SI (pc os pw cj) S' l')(he:GH os l l'=0):l=l':=by
  have hlx:OM (RO os l) (RO os l')=0:=by
    unfold GH at he;split at he
    · cases he
    split at he
    · cases he
    exact he
  rcases Nat.eq_zero_or_pos os.length with q|q
  · have h1:=h.len;have h2:=h'.len;have hn:(pc os pw cj).n=os.length:=rfl;rw[List.length_eq_zero_iff.1 (show l.length=0 by omega),List.length_eq_zero_iff.1 (show l'.length=0 by omega)]
  exact Re q l l' (λx hx k hk=>(oM hS h hx).t k hk) (λx hx k hk=>(oM Ax h' hx).t k hk) (Gm _ _ hlx)
variable(hp:AF os pw cj)(hc:CG (pc os pw cj) 0)
include hp
theorem iV{S:V->Prop}:(W4 os S).Nodup:=by
  have:∀l:List Nat,l.Nodup->(∀t∈l,t<nG os)->(l.map λt=>C5 os (t:Nat)).Nodup:=by
    intro l;induction l with
    |nil=>intro _ _;exact List.nodup_nil
    | cons a l ih=>
      intro h1 h2;rw[List.nodup_cons]at h1;rw[List.map_cons,List.nodup_cons];refine⟨λhm=>?_,ih h1.2 λt ht=>h2 t (by simp[ht])⟩;obtain⟨b,hb,e⟩:=List.mem_map.1 hm;have:=MH hp (h2 b (by simp[hb])) (h2 a AB) e;subst this;exact h1.1 hb
  exact this _ (List.nodup_range.filter _) λt ht=>List.mem_range.1 (List.mem_filter.1 ht).1
include hc
theorem dJ{S:V->Prop}{l:List V}(hS:E5 (T (pc os pw cj) 0) (M (pc os pw cj) 0) S)(h:SI (pc os pw cj) S l):((W4 os S).length:Int)=JR os l:=
  Qy hp hc hS h (iV hp) λx=>OL hp λ_ q=>hS.n q
theorem sub_lt{S S':V->Prop}{l l':List V}(hS:E5 (T (pc os pw cj) 0) (M (pc os pw cj) 0) S)(h:SI (pc os pw cj) S l)(Ax:E5 (T (pc os pw cj) 0) (M (pc os pw cj) 0) S')(h':SI (pc os pw cj) S' l')(hs:∀x,S x->S' x)(AQ:S≠S'):JR os l<JR os l'/\GH os l l'<0:=by
  have key:JR os l<JR os l':=by
    rw[<-dJ hp hc hS h,<-dJ hp hc Ax h'];obtain⟨x,iJ,mH⟩:∃x,S' x/\¬S x:=Classical.byContradiction λhn=>AQ (funext λx=>propext ⟨hs x,λhx=>Classical.byContradiction λhk=>hn ⟨x,hx,hk⟩⟩)
    have h1:∀y,y∈W4 os S↔S y:=λy=>OL hp λ_ q=>hS.n q
    have h2:∀y,y∈W4 os S'↔S' y:=λy=>OL hp λ_ q=>Ax.n q
    have:=Gh (x::W4 os S) (W4 os S') (List.nodup_cons.2 ⟨λq=>mH ((h1 x).1 q),iV hp⟩) λy hy=>by
      rcases List.mem_cons.1 hy with rfl|q
      · exact(h2 _).2 iJ
      exact(h2 y).2 (hs y ((h1 y).1 q))
    rw[List.length_cons]at this;omega
  refine⟨key,?_⟩;rw[GH,if_pos key];omega
end
end Go.Proofs.YtgknbnkmilddhaaGreat

namespace Go.Proofs.YtgknbnkmilddhaaGreat
def unL(n:Nat):List V:=(List.range n).map un
section
variable{P:Pc}(hv:GX P)(hc:CG P 0)
include hv hc
omit hc in
theorem A6Y{j:Nat}(hj:j<P.n):T P j (un j)/\un j j=1:=by
  refine⟨⟨λk hk=>?_,λk h1 h2=>?_,λk hk=>?_⟩,by simp[un,AX]⟩
  · have:k≠j:=A0;simp[un,AX,z0,this]
  · have ho:=hv.o k h2;by_cases e:k=j
    · subst e;simp[un,AX];omega
    simp[un,AX,z0,e];omega
  have:k≠j:=A0;simp[un,AX,z0,this]
omit hc in

theorem A1V:SI P (T P 0) (unL P.n):=by
  refine⟨λd=>if d<P.n then some (un d)else none,⟨λd z hz=>?_,λd hd hz=>?_⟩,?_⟩
  · split at hz
    · rename_i hd;cases hz;obtain⟨a1,a2⟩:=A6Y hv hd;refine⟨hd,a1.mono hv (Nat.zero_le d),a1,a2,λe h1 h2 _=>?_⟩;have:e≠d:=A0;simp[un,AX,z0,this]
    cases hz
  · simp[hd]at hz
  have:∀k,k<=P.n->(List.range k).map un=BZ (λd=>if d<P.n then some (un d)else none) k:=by
    intro k;induction k with
    |zero=>intro _;rfl
    |succ k ih=>intro hk;rw[DH (y:=un k) (by simp;omega),<-ih A0,List.range_succ,List.map_append];rfl
  exact this P.n (Nat.le_refl _)
theorem Rg:T P 0=GL P (unL P.n):=SI.gen hv hc (oJ hv hc) (A1V hv)
section
variable{N:V->Prop}(hN:E5 (T P 0) (M P 0) N)
include hN
end
end
section
variable{P:Pc}(hv:GX P)(hc:CG P 0)(hp:∀d,d<P.n->JG (P.o d))
include hv hc hp
end
end Go.Proofs.YtgknbnkmilddhaaGreat

namespace Go.Proofs.YtgknbnkmilddhaaGreat
theorem Gp{f:Nat->Int}{a:Int}:∀n,sm (λk=>a*f k) n=a*sm f n:=by
  intro n;induction n with
  |zero=>simp[sm]
  |succ n ih=>rw[sm,sm,ih,Int.mul_add]
theorem Gq{f:Nat->Int}:∀n,sm f (n+1)=f 0+sm (λk=>f (k+1)) n:=by
  intro n;induction n with
  |zero=>simp[sm]
  |succ n ih=>rw[sm,ih,sm];omega
def oN(m:Nat)(r:List Nat)(s:List Int):Nat->Int:=sm λj=>if m &&& r.getD j 0=m then s.getD j 0 else 0
def D6:List Nat->List Int
  |[]=>[]
  |m::r=>(if r=[]then 1 else-oN m r (D6 r) r.length)::D6 r
theorem FN:∀l,(D6 l).length=l.length:=by
  intro l;induction l with
  |nil=>rfl
  |cons m r ih=>rw[D6,List.length_cons,List.length_cons,ih]
theorem iW:∀(l:List Nat) (k:Nat),D6 (l.drop k)=(D6 l).drop k:=by
  intro l;induction l with
  |nil=>intro k;simp[D6]
  | cons m r ih=>
    intro k;cases k with
    |zero=>rfl
    |succ k=>rw[List.drop_succ_cons,ih,D6,List.drop_succ_cons]
theorem Rh:∀(l:List Nat),(∀i j,i<j->j<l.length->¬(l.getD j 0 &&& l.getD i 0=l.getD j 0))->∀i,i<l.length->oN (l.getD i 0) l (D6 l) l.length=if i+1=l.length then 1 else 0:=by
  intro l;induction l with
  |nil=>intro _ i hi;exact absurd hi (Nat.not_lt_zero i)
  | cons m r ih=>
    intro h i hi;rw[oN,List.length_cons,Gq];have hs:(λk=>if (m::r).getD i 0 &&&(m::r).getD (k+1) 0=(m::r).getD i 0 then (D6 (m::r)).getD (k+1) 0 else 0)=λk=>if (m::r).getD i 0 &&& r.getD k 0=(m::r).getD i 0 then (D6 r).getD k 0 else 0:=by
      funext k;simp[D6]
    rw[hs];cases i with
    | zero=>
      have e0:(m::r).getD 0 0=m:=rfl;rw[e0,if_pos (Nat.and_self m),D6];show(if r=[]then (1:Int)else-oN m r (D6 r) r.length)+oN m r (D6 r) r.length=_
      by_cases hr:r=[]
      · subst hr;simp[oN,sm]
      have:r.length≠0:=λq=>hr (List.length_eq_zero_iff.1 q)
      rw[if_neg hr,if_neg A0];omega
    | succ i=>
      rw[List.length_cons]at hi;have h1:=h 0 (i+1) A0 (by rw[List.length_cons];exact hi);rw[if_neg h1,Int.zero_add];have:=ih (λa b jV hb=>h (a+1) (b+1) A0 (by rw[List.length_cons];omega)) i A0;have e1:(m::r).getD (i+1) 0=r.getD i 0:=rfl;rw[e1];rw[oN]at this;rw[this];by_cases q:i+1=r.length
      · rw[if_pos q,if_pos A0]
      rw[if_neg q,if_neg A0]
def tw(os:List Int):Nat->(List V->Int)->Int
  |0,w=>w []
  |c+1,w=>sm (λt=>tw os c λl=>w (C5 os (t:Nat)::l)) (nG os)
theorem Gr{os:List Int}:∀c {w w':List V->Int},(∀l,(∀x∈l,∃t:Nat,t<nG os/\x=C5 os t)->l.length=c->w l=w' l)->tw os c w=tw os c w':=by
  intro c;induction c with
  |zero=>intro w w' h;exact h [] AB rfl
  | succ c ih=>
    intro w w' h;rw[tw,tw];refine GG _ λt ht=>ih λl hl hc=>h _ (λx hx=>?_) (by simp[hc])
    rcases List.mem_cons.1 hx with rfl|q
    · exact⟨t,ht,rfl⟩
    exact hl x q
theorem A1W{os:List Int}{a:Int}:∀c {w:List V->Int},tw os c (λl=>a*w l)=a*tw os c w:=by
  intro c;induction c with
  |zero=>intro w;rfl
  | succ c ih=>
    intro w;rw[tw,tw,<-Gp];exact GG _ λt _=>ih
theorem A1X{os:List Int}:∀c {w w':List V->Int},tw os c (λl=>w l+w' l)=tw os c w+tw os c w':=by
  intro c;induction c with
  |zero=>intro w w';rfl
  | succ c ih=>
    intro w w';rw[tw,tw,tw,<-Fb];exact GG _ λt _=>ih
theorem wH{os:List Int}(c:Nat):tw os c (λ_=>0)=0:=by
  induction c with
  |zero=>rfl
  | succ c ih=>
    rw[tw];rw[GG (g:=λ_=>0) _ λt _=>ih];exact vS _
theorem A1Y{os:List Int}{c:Nat}{f:Nat->List V->Int}:∀n,tw os c (λl=>sm (λj=>f j l) n)=sm (λj=>tw os c (f j)) n:=by
  intro n;induction n with
  |zero=>exact wH c
  |succ n ih=>rw[sm,<-ih,<-A1X];rfl
theorem Gt{os:List Int}:∀c {w:List V->Int},(∀l,0<=w l/\w l<=1)->0<=tw os c w/\tw os c w<=((nG os^c:Nat):Int):=by
  intro c;induction c with
  |zero=>intro w h;simpa[tw]using h []
  | succ c ih=>
    intro w h;rw[tw];have:∀n,0<=sm (λt=>tw os c λl=>w (C5 os (t:Nat)::l)) n/\sm (λt=>tw os c λl=>w (C5 os (t:Nat)::l)) n<=((nG os^c*n:Nat):Int):=by
      intro n;induction n with
      |zero=>simp[sm]
      | succ n ihn=>
        have:=ih (w:=λl=>w (C5 os (n:Nat)::l)) λl=>h _
        rw[sm,Nat.mul_succ];push_cast at ihn this ⊢
        omega
    have h2:=this (nG os);rw[Nat.pow_succ];exact h2
noncomputable def ind(p:Prop):Int:=if tf p=true then 1 else 0
theorem dK{p:Prop}(h:p):ind p=1:=by rw[ind,D2 h,if_pos rfl]
theorem iX{p:Prop}(h:¬p):ind p=0:=by rw[ind,C8 h];rfl
theorem sL{p:Prop}:0<=ind p/\ind p<=1:=by unfold ind;split<;>omega
theorem sM{os:List Int}:∀c {p:List V->Prop},0<tw os c (λl=>ind (p l))↔∃l,(∀x∈l,∃t:Nat,t<nG os/\x=C5 os t)/\l.length=c/\p l:=by
  intro c;induction c with
  | zero=>
    intro p;rw[tw];by_cases h:p []
    · rw[dK h];exact⟨λ_=>⟨[],AB,rfl,h⟩,λ_=>A0⟩
    rw[iX h];refine⟨λq=>A0,λ⟨l,_,h2,h3⟩=>?_⟩;rw[List.length_eq_zero_iff.1 h2]at h3;exact absurd h3 h
  | succ c ih=>
    intro p;rw[tw];have go :∀n,0<sm (λt=>tw os c λl=>ind (p (C5 os (t:Nat)::l))) n↔∃t,t<n/\0<tw os c λl=>ind (p (C5 os (t:Nat)::l)):=by
      intro n;have hnn:∀n,0<=sm (λt=>tw os c λl=>ind (p (C5 os (t:Nat)::l))) n:=by
        intro n;induction n with
        |zero=>simp[sm]
        |succ n ihn=>have:=(Gt (os:=os) c (w:=λl=>ind (p (C5 os (n:Nat)::l))) λl=>sL).1;rw[sm];omega
      induction n with
      |zero=>simp[sm]
      | succ n ihn=>
        have h1:=(Gt (os:=os) c (w:=λl=>ind (p (C5 os (n:Nat)::l))) λl=>sL).1;have h2:=hnn n;rw[sm];constructor
        · intro q;by_cases q2:0<sm (λt=>tw os c λl=>ind (p (C5 os (t:Nat)::l))) n
          · obtain⟨t,t1,t2⟩:=ihn.1 q2;exact⟨t,A0,t2⟩
          exact⟨n,A0,A0⟩
        rintro⟨t,t1,t2⟩;by_cases q:t=n
        · subst q;omega
        have:=ihn.2 ⟨t,A0,t2⟩;omega
    rw[go];constructor
    · rintro⟨t,t1,t2⟩;obtain⟨l,l1,l2,l3⟩:=ih.1 t2;refine⟨C5 os (t:Nat)::l,λx hx=>?_,by simp[l2],l3⟩;rcases List.mem_cons.1 hx with rfl|q
      · exact⟨t,t1,rfl⟩
      exact l1 x q
    rintro⟨l,l1,l2,l3⟩;cases l with
    |nil=>cases l2
    | cons x l=>
      obtain⟨t,t1,rfl⟩:=l1 x AB;exact⟨t,t1,ih.2 ⟨l,λy hy=>l1 y (by simp[hy]),by simpa using l2,l3⟩⟩
theorem wI{p:Nat->Prop}:∀n,(((List.range n).filter λt=>tf (p t)).length:Int)=sm (λt=>ind (p t)) n:=by
  intro n;induction n with
  |zero=>rfl
  | succ n ih=>
    rw[List.range_succ,List.filter_append,List.length_append,sm,<-ih];unfold ind;cases h:tf (p n)<;>simp[h]
theorem A1Z{os:List Int}{S:V->Prop}:∀c,tw os c (λl=>ind (∀x∈l,S x))=((W4 os S).length:Int)^c:=by
  intro c;induction c with
  |zero=>rw[tw,dK AB];rfl
  | succ c ih=>
    rw[tw,Int.pow_succ,Int.mul_comm,W4,List.length_map,wI,Int.mul_comm,<-Gp];refine GG _ λt _=>?_
    rw[<-wI,show((List.range (nG os)).filter λt=>tf (S (C5 os (t:Nat)))).length=(W4 os S).length by rw[W4,List.length_map],<-ih];by_cases h:S (C5 os (t:Nat))
    · rw[dK h,Int.mul_one];refine Gr c λl _ _=>?_
      have:(∀x∈C5 os (t:Nat)::l,S x)↔∀x∈l,S x:=by simp[h]
      rw[propext this]
    rw[iX h,Int.mul_zero];rw[show(λl=>ind (∀x∈C5 os (t:Nat)::l,S x))=λ_=>(0:Int)from funext λl=>iX λq=>h (q _ AB)];exact wH c
noncomputable def DM(os:List Int)(P:Pc)(L:List (List V)):List Nat:=L.map λl=>HK os (GL P l)
noncomputable def W5(os:List Int)(P:Pc)(c:Nat):Int:=tw os c λl=>ind (GL P l=T P 0)
section
variable{os:List Int}{pw:List (List Int)}{cj:List (List (List Int))}(hp:AF os pw cj)(hc:CG (pc os pw cj) 0){L:List (List V)}(hL:SJ os pw cj L)
include hp hc hL
theorem GI{i:Nat}(hi:i<L.length):E5 (T (pc os pw cj) 0) (M (pc os pw cj) 0) (GL (pc os pw cj) L[i])/\SI (pc os pw cj) (GL (pc os pw cj) L[i]) L[i]:=by
  obtain⟨S,h1,h2⟩:=(hL.all L[i]).1 (List.getElem_mem hi);rw[<-h2.gen hp.val hc h1];exact⟨h1,h2⟩
theorem Gu{S:V->Prop}(hS:E5 (T (pc os pw cj) 0) (M (pc os pw cj) 0) S):∃i,∃h:i<L.length,GL (pc os pw cj) L[i]=S:=by
  obtain⟨i,h,e⟩:=List.getElem_of_mem ((hL.all (Gg os pw cj S)).2 ⟨S,hS,aK hp hc hS⟩);exact⟨i,h,by rw[e];exact oK hp hc hS⟩
omit hp hc in
theorem Gv{i j:Nat}(hi:i<L.length)(hj:j<L.length)(h:GH os L[i] L[j]<0):i<j:=by
  rcases Nat.lt_trichotomy i j with q|q|q
  · exact q
  · subst q;exact absurd h (V7 _)
  have h2:=List.pairwise_iff_getElem.1 hL.st j i hj hi q;have:=JD (os:=os) L[i] L[j];omega
theorem aM{i j:Nat}(hi:i<L.length)(hj:j<L.length)(h:GL (pc os pw cj) L[i]=GL (pc os pw cj) L[j]):i=j:=by
  have h1:=GI hp hc hL hi;have h2:=GI hp hc hL hj;rw[<-h]at h2;have e:=h1.2.uniq hp.val hc h1.1 h2.2;rcases Nat.lt_trichotomy i j with q|q|q
  · have:=List.pairwise_iff_getElem.1 hL.st i j hi hj q;rw[e]at this;exact absurd this (V7 _)
  · exact q
  have:=List.pairwise_iff_getElem.1 hL.st j i hj hi q;rw[e]at this;exact absurd this (V7 _)
omit hp hc hL in
theorem QY{i:Nat}(hi:i<L.length):(DM os (pc os pw cj) L).getD i 0=HK os (GL (pc os pw cj) L[i]):=by simp[DM,hi]
omit hp hc hL in
theorem EG:(DM os (pc os pw cj) L).length=L.length:=by simp[DM]
theorem wJ{i j:Nat}(hi:i<L.length)(hj:j<L.length):(DM os (pc os pw cj) L).getD i 0 &&&(DM os (pc os pw cj) L).getD j 0=(DM os (pc os pw cj) L).getD i 0↔∀x,GL (pc os pw cj) L[i] x->GL (pc os pw cj) L[j] x:=by
  rw[QY hi,QY hj,kY];exact aJ hp λx hx=>(GI hp hc hL hi).1.n hx
theorem Ri:∀i j,i<j->j<(DM os (pc os pw cj) L).length->¬((DM os (pc os pw cj) L).getD j 0 &&&(DM os (pc os pw cj) L).getD i 0=(DM os (pc os pw cj) L).getD j 0):=by
  intro i j NZ hj h;rw[EG]at hj;have hi:i<L.length:=A0;rw[wJ hp hc hL hj hi]at h;have h1:=GI hp hc hL hi;have h2:=GI hp hc hL hj;have AQ:GL (pc os pw cj) L[j]≠GL (pc os pw cj) L[i]:=λq=>by have:=aM hp hc hL hj hi q;omega
  have:=Gv hL hj hi (sub_lt hp hc h2.1 h2.2 h1.1 h1.2 h AQ).2;omega
theorem oO:∃h:L.length-1<L.length,GL (pc os pw cj) L[L.length-1]=T (pc os pw cj) 0:=by
  obtain⟨i,hi,e⟩:=Gu hp hc hL (oJ hp.val hc);have hl:L.length-1<L.length:=A0;have h1:=GI hp hc hL hl;have h2:=GI hp hc hL hi;refine⟨hl,?_⟩;apply Classical.byContradiction;intro hn;have AQ:GL (pc os pw cj) L[L.length-1]≠GL (pc os pw cj) L[i]:=λq=>hn (q.trans e)
  have:=Gv hL hl hi (sub_lt hp hc h1.1 h1.2 h2.1 h2.2 (λx hx=>by rw[e];exact h1.1.n hx) AQ).2;omega
theorem oP{us:List V}(hu:∀x∈us,T (pc os pw cj) 0 x):sm (λj=>(D6 (DM os (pc os pw cj) L)).getD j 0*ind (∀x∈us,GL (pc os pw cj) (L.getD j []) x)) L.length=ind (GL (pc os pw cj) us=T (pc os pw cj) 0):=by
  have hs:=sG hp.val hc (λd hd=>hp.2.1 d hd) hu;obtain⟨i,hi,e⟩:=Gu hp hc hL hs;obtain⟨hl,el⟩:=oO hp hc hL;have h1:=Rh _ (Ri hp hc hL) i (by rw[EG];exact hi);rw[EG]at h1;have h2:oN ((DM os (pc os pw cj) L).getD i 0) (DM os (pc os pw cj) L) (D6 (DM os (pc os pw cj) L)) L.length=sm (λj=>(D6 (DM os (pc os pw cj) L)).getD j 0*ind (∀x∈us,GL (pc os pw cj) (L.getD j []) x)) L.length:=by
    refine GG _ λj hj=>?_
    have hg:L.getD j []=L[j]:=by simp[hj]
    have A6Z:((DM os (pc os pw cj) L).getD i 0 &&&(DM os (pc os pw cj) L).getD j 0=(DM os (pc os pw cj) L).getD i 0)↔∀x∈us,GL (pc os pw cj) (L.getD j []) x:=by
      rw[wJ hp hc hL hi hj,e,hg];exact⟨λh x hx=>h x (GL.of hx),λh x hx=>GL.le (GI hp hc hL hj).1 h hx⟩
    by_cases q:∀x∈us,GL (pc os pw cj) (L.getD j []) x
    · rw[if_pos (A6Z.2 q),dK q,Int.mul_one]
    rw[if_neg (λz=>q (A6Z.1 z)),iX q,Int.mul_zero]
  rw[<-h2,h1];by_cases q:i+1=L.length
  · rw[if_pos q,dK];rw[<-e,<-el];congr 2
    omega
  rw[if_neg q,iX];intro z;rw[z,<-el]at e;have:=aM hp hc hL hi hl e;omega
theorem dL(c:Nat):sm (λj=>(D6 (DM os (pc os pw cj) L)).getD j 0*(JR os (L.getD j []))^c) L.length=W5 os (pc os pw cj) c:=by
  rw[W5,<-Gr (os:=os) c (w:=λus=>sm (λj=>(D6 (DM os (pc os pw cj) L)).getD j 0*ind (∀x∈us,GL (pc os pw cj) (L.getD j []) x)) L.length) λus hu _=>oP hp hc hL λx hx=>?_]
  · rw[A1Y];refine GG _ λj hj=>?_
    rw[A1W,A1Z];have hg:L.getD j []=L[j]:=by simp[hj]
    have h1:=GI hp hc hL hj;rw[hg,<-dJ hp hc h1.1 h1.2]
  obtain⟨t,_,rfl⟩:=hu x hx;exact DP hp t
theorem zN:sm (λj=>(D6 (DM os (pc os pw cj) L)).getD j 0) L.length=ind (∀x,T (pc os pw cj) 0 x->x=z0):=by
  have h:=oP hp hc hL (us:=[]) AB;rw[GG (g:=λj=>(D6 (DM os (pc os pw cj) L)).getD j 0) _ λj _=>by rw[dK AB,Int.mul_one]]at h;rw[h];have hz:GL (pc os pw cj) []=λx=>x=z0:=by
    funext x
    have g:=(lvl hp.val hc).g 0;have hz:E5 (T (pc os pw cj) 0) (M (pc os pw cj) 0) (λx=>x=z0):=V6 hp hc (λx h=>h▸T.zero hp.val 0) rfl (λa b ha hb=>by rw[ha,hb];exact g.l1 (T.zero hp.val 0));exact propext ⟨λq=>q _ hz AB,λq A hA _=>q▸hA.e⟩
  rw[hz];congr 1
  refine propext ⟨λq x hx=>?_,λq=>funext λx=>propext ⟨λe=>e▸T.zero hp.val 0,λhx=>q x hx⟩⟩;rw[<-q]at hx;exact hx
omit hL in

theorem Gw{c d:Nat}(h:c<=d)(hg:0<W5 os (pc os pw cj) c):0<W5 os (pc os pw cj) d:=by
  obtain⟨l,l1,l2,l3⟩:=sM c|>.1 hg
  refine sM d|>.2 ⟨l++List.replicate (d-c) z0,λx hx=>?_,by simp[l2];omega,?_⟩
  · rcases List.mem_append.1 hx with q|q
    · exact l1 x q
    exact⟨0,(JC hp).1,by rw[List.eq_of_mem_replicate q];exact I2.symm⟩
  funext x
  refine propext ⟨λq=>?_,λq=>?_⟩
  · refine q _ (oJ hp.val hc) λu hu=>?_
    rcases List.mem_append.1 hu with z|z
    · obtain⟨t,_,rfl⟩:=l1 u z;exact DP hp t
    rw[List.eq_of_mem_replicate z];exact T.zero hp.val 0
  rw[<-l3]at q;exact λA hA hu=>q A hA λu hz=>hu u (List.mem_append_left _ hz)
omit hL in
theorem A70:0<W5 os (pc os pw cj) os.length:=by
  refine sM _|>.2 ⟨(List.range os.length).map un,λx hx=>?_,AB,?_⟩
  · obtain⟨k,hk,rfl⟩:=List.mem_map.1 hx;obtain⟨t,t1,t2,_⟩:=OX hp (nM hp.val (Nat.zero_le k) (show k<(pc os pw cj).n from List.mem_range.1 hk));exact⟨t,t1,t2.symm⟩
  exact(Rg hp.val hc).symm
omit hp hc hL in
theorem Gx(c:Nat):0<=W5 os (pc os pw cj) c/\W5 os (pc os pw cj) c<=((nG os^c:Nat):Int):=Gt c λl=>sL
end
end Go.Proofs.YtgknbnkmilddhaaGreat

namespace Go.Proofs.YtgknbnkmilddhaaGreat
section
variable(os:List Int)(pw:List (List Int))(cj:List (List (List Int)))
theorem XE(h:AF os pw cj)(a:V)(ha:T (pc os pw cj) 0 a):BI Tryz.prog 145 [A5 os pw cj,vi os.length a] (.i .i64 (JQ os a os.length)):=by
 have FU:=h.1.1
 have hb:=λk hk=>kX h.2.1 ha k hk
 have nP:∀k,k<=os.length->CV os k<=CV os os.length:=λk hk=>by
  have:=ND h.2.1 (k:=k) (os.length-k) A0;rwa [show k+(os.length-k)=os.length by omega]at this
 have Gy:=h.2.2.1
 refine AD AA Tryz.func145 rfl A7 Tryz.ntmps145 Tryz.results145 (.i _ _) (λnx cX=>?_)
 refine iH ?_;refine iH ?_;refine AW.seq λN1 B2=>?_;refine iH ?_;apply AW.block;refine A8 (α:=Nat) (λx=>sl 28 [(0,A5 os pw cj),(5,.i .i64 (JQ os a x)),(8,vi os.length a),(9,.i .i64 os.length),(10,.i .i64 x)]) (λ_=>BM) (λx m=>x<=os.length) (λx=>os.length-x) (0) ?_ ?_ (λ_ _ h=>h) ?_
 ·omega
 ·simp(disch:=omega) [AN,AO,sl,A5,ints,rows,A6,vi,JQ]
 skip
 rintro k m hk
 simp only[A5,vi];refine AG ?_;refine iH ?_;refine AW.seq λN2 B7=>?_;refine AW.cond rfl ?_ ?_<;>intro h1<;>try simp only[cn]at h1
 ·have FH:=hb k A0;have DN:=hb (k+1) A0;have U3:=nP k A0;have oQ:=nP (k+1) A0;have ho:=CE (h.2.1 k A0);have hr:=ha.r k (Nat.zero_le k) (show k<os.length by omega);have s7:(pc os pw cj).o k=os.getD k 0:=rfl;rw[s7]at hr;have hs:JQ os a (k+1)=JQ os a k*os.getD k 0+a k:=rfl;have uC:0<=JQ os a k*os.getD k 0:=Int.mul_nonneg FH.1 A0;apply AW.skip;apply B7;refine AW.seq λN3 BC=>?_;apply AW.block;refine iH ?_;apply rQ;simp-dsimp-implicitDefEqProofs(maxSteps:=800000) (disch:=omega)only[go_sem,A5,vi,ints,AL,<-hs]
  apply BC;apply rQ;simp-dsimp-implicitDefEqProofs(maxSteps:=800000) (disch:=omega)only[go_sem,AL,ints,A5,vi];refine⟨k+1,?_,λ_ _ h=>h,?_,?_⟩
  ·simp(disch:=omega) [AN,AO,sl,A5,ints,rows,A6,vi]
  ·first|omega|(dsimp only;omega)
  first|omega|(simp only;omega)
 apply AW.exit;apply B2;refine iH ?_;refine AH ?_;rw[show k=os.length by omega]
theorem MI(h:AF os pw cj)(us:List V)(hl:us.length<=6)(hu:∀k,k<us.length->E4 os.length (us.getD k z0)<os.length):BI Tryz.prog 84 [A5 os pw cj,AZ os.length us] (.i .i64 (NJ os us us.length)):=by
 have FU:=h.1.1
 have hpv:=MG os.length FU us A0 hu
 have Ve:=FE (n:=os.length) (us:=us)
 refine AD AA Tryz.func84 rfl A7 Tryz.ntmps84 Tryz.results84 (.i _ _) (λnx cX=>?_)
 refine k5 ?_;refine k5 ?_;refine AW.seq λN1 B2=>?_;refine sQ λN hN=>?_;simp-dsimp-implicitDefEqProofs(maxSteps:=800000) (disch:=omega)only[go_sem,AL,ints,A5];refine AC.pure (.of (hpv)) ?_;(try simp-dsimp-implicitDefEqProofs(maxSteps:=800000) (disch:=omega)only[go_sem,AL,ints,A5]);apply hN;apply AW.block;refine A8 (α:=Nat) (λx=>sl 26 [(0,A5 os pw cj),(5,.i .i64 (NJ os us x)),(9,ints (zE os.length us)),(10,.i .i64 us.length),(11,.i .i64 x)]) (λ_=>BM) (λx m=>x<=us.length) (λx=>us.length-x) (0) ?_ ?_ (λ_ _ h=>h) ?_
 ·omega
 ·simp(disch:=omega) [AN,AO,sl,A5,ints,rows,A6,NJ,FE]
 skip
 rintro k m hk
 simp only[A5];refine AG ?_;refine k5 ?_;refine AW.seq λN2 B7=>?_;refine AW.cond rfl ?_ ?_<;>intro h1<;>try simp only[cn]at h1
 ·have hd:=hu k A0;have hg:=K7 (n:=os.length) (us:=us) (show k<us.length by omega);obtain⟨d,hde⟩:∃d,E4 os.length (us.getD k z0)=d:=⟨_,rfl⟩;rw[hde]at hd hg;have ho:=CE (h.2.1 d A0);have hb:=Ew h.2.1 hu (k+1) A0;have h7:(7^(k+1):Nat)<=7^6:=Nat.pow_le_pow_right A0 A0;have hs:NJ os us (k+1)=NJ os us k*os.getD d 0:=by rw[<-hde];rfl
  apply AW.skip;apply B7;refine AW.seq λN3 BC=>?_;apply AW.block;refine sQ λN hN=>?_;simp-dsimp-implicitDefEqProofs(maxSteps:=800000) (disch:=omega)only[go_sem,AL,ints,A5,hg];apply hN;apply rQ;simp-dsimp-implicitDefEqProofs(maxSteps:=800000) (disch:=omega)only[go_sem,A5,ints,AL,<-hs]
  apply BC;apply rQ;simp-dsimp-implicitDefEqProofs(maxSteps:=800000) (disch:=omega)only[go_sem,AL,ints,A5];refine⟨k+1,?_,λ_ _ h=>h,?_,?_⟩
  ·simp(disch:=omega) [AN,AO,sl,AR,ints,rows,A6,A5,ints,AL,AR]<;>omega
  ·first|omega|(dsimp only;omega)
  first|omega|(simp only;omega)
 apply AW.exit;apply B2;refine k5 ?_;refine AH ?_;rw[show k=us.length by omega]
end
end Go.Proofs.YtgknbnkmilddhaaGreat
