import Derived.Test.YtgknbnkmilddhaaGreatZ04
import Derived.Test.YtgknbnkmilddhaaGreatZ09
import Derived.Test.YtgknbnkmilddhaaGreatZ10
set_option linter.all false

open Go.Proofs.Tryz
namespace Go.Proofs.YtgknbnkmilddhaaGreat
section
section
variable{P:Pc}(hv:LK P)(hc:HN P 0)
include hv hc
theorem A68{e}(he:e<P.n){x u}(hx:T P 0 x)(hu:T P e u):(∀k,k<e->M P 0 x u k=x k)/\M P 0 x u e=(x e+u e)%P.o e:=by
 have h:=A0F hv e (l:=0) hx (u:=u) (by rw[BS];exact hu);rw[BS]at h;have ht:T P e (tl e x):=Vm hv hx e;refine⟨λk hk=>by rw[h];simp only[if_pos hk],?_⟩;have h2:M P 0 x u e=M P e (tl e x) u e:=by rw[h];simp only[RE,if_false]
 have h3:M P e (tl e x) u=M P 0 (tl e x) u:=(aJ hv (AE e) ht hu).symm;have h4:tl e x e=x e:=by unfold tl;rw[if_neg A0]
 rw[h2,h3,(lvl hv hc).lead he ht hu,h4]
theorem Lg{S}(hS:NO (T P 0) (M P 0) S){d z z'}(h1:S z)(h2:S z')(z1:T P d z)(z2:T P d z')(hd:d<P.n)(h0:z d=z' d)(hz:∀e,d<e->e<P.n->(∃x,S x/\T P e x/\x e≠0)->z e=0/\z' e=0):z=z':=by
 have l:=lvl hv hc;have g:=l.g 0;have n1:=hS.n h1;have n2:=hS.n h2;obtain⟨w,w1,w2,w3⟩:=g.iv n1;have hw:S w:=hS.iv h1 w1 w3;have hs:S (M P 0 w z'):=hS.mu hw h2;have hzs:M P 0 z (M P 0 w z')=z':=by rw[<-g.ac n1 w1 n2,w3,g.l1 n2]
 have hwd:T P d w:=(l.wZ d).iv z1 w1 w3;have key:∀k,d+k<=P.n->T P (d+k) (M P 0 w z'):=by
  intro k;induction k with
  |zero=>intro _;exact(l.g d).cl hwd z2
  | succ k ih=>
    intro hk;have hT:=ih A0;refine l.up hT ?_;have he:d+k<P.n:=A0;obtain⟨_,a2⟩:=A68 hv hc he n1 hT;rw[hzs]at a2;have hr:=hT.r (d+k) (A1 _) he;have ho:=l.op he;apply AN;intro CP;rcases II k with rfl|VW
    ·have q1:=z1.r d (A1 _) hd;have q2:=z2.r d (A1 _) hd;have CP:¬M P 0 w z' d=0:=CP;rw[HI]at a2 hr;rw[h0]at a2;have q3:(z' d+M P 0 w z' d)%P.o d=z' d%P.o d:=by rw[<-a2,CV q2.1 q2.2]
     have q4:=E1.1 q3;rw[show z' d+M P 0 w z' d-z' d=M P 0 w z' d by omega,CV hr.1 hr.2]at q4;exact CP q4
    obtain⟨b1,b2⟩:=hz (d+k) A0 he ⟨_,hs,hT,CP⟩;rw[b1,b2,KN,CV hr.1 hr.2]at a2;exact CP a2.symm
 have hz0:M P 0 w z'=z0:=(key (P.n-d) A0).ge A0;rw[hz0,g.r1 n1]at hzs;exact hzs
end
def Cy.rep{N m}(y k):Cy N m y (Go.Proofs.YtgknbnkmilddhaaGreat.rep m y k):=λA hA hy=>hA.rep hy k
def Cy.AOO{N m y w}(hw:N w)(h:m y w=z0)(k):Cy N m y (Go.Proofs.YtgknbnkmilddhaaGreat.rep m w k):=λA hA hy=>hA.rep (hA.iv hy hw h) k
noncomputable def mK(P:Pc)(d:Nat)(y x:V):V:=M P 0 (rep (M P 0) y (P.o d-x d).toNat) x
def gR{P}(hv:LK P)(hc:HN P 0):∀d y x,d<P.n->T P d y->y d=1->T P d x->Sm (T P 0) (M P 0) y x (mK P d y x)/\T P (d+1) (mK P d y x):=by
 intro d y x hd hy h1 hx;have l:=lvl hv hc;have hr:=hx.r d (A1 _) hd;have hu:=(l.g d).rep hy (P.o d-x d).toNat;refine⟨Sm.left (l.g 0) (l.le (AE d) hx) (Cy.rep y _),?_⟩;refine l.up ((l.g d).cl hu hx) ?_;show M P 0 (rep (M P 0) y (P.o d-x d).toNat) x d=0
 rw[l.lead hd hu hx,l.N0 hd hy h1,BG A0,IV,show P.o d-x d+x d=P.o d by omega,LU]
def jJ{P Q:Prop}{R0 R1:Prop}(r0:R0)(r1:R1)(q:Q)(e:R0->R1->Q->P:=by intro h0 h1 q;(try simp-dsimp-implicitDefEqProofs(maxSteps:=800000) (disch:=omega)only[go_sem,eq_self,T9,CB,ints,JL,AU,P1,LX,vi,h0,h1]);exact q):P:=e r0 r1 q
def Fo{cX n ops y s s1 K}{R0 R1:Prop}(r0:R0)(r1:R1)(q:AW cX prog y s1 K)(e:R0->R1->HA ops s s1:=by intro h0 h1 N hN;(try simp-dsimp-implicitDefEqProofs(maxSteps:=800000) (disch:=omega)only[go_sem,eq_self,T9,CB,ints,JL,AU,P1,LX,vi,h0,h1]);exact hN):GZ cX n ops y s K:=HF q (e r0 r1)
def eY{cX n ops y s s1 K}(q:AW cX prog y s1 K)(e:HA ops s s1:=by intro N hN;(try simp-dsimp-implicitDefEqProofs(maxSteps:=800000) (disch:=omega)only[go_sem,W7,PG,CB,ints,AU,vi,D7]);exact hN):GZ cX n ops y s K:=HF q e
def Aq{cX n ops y s s1 K f Zz r}(x:DZ prog f Zz r)(q:AW cX prog y s1 K)(e:DZ prog f Zz r->HA ops s s1:=by intro x N hN;(try simp-dsimp-implicitDefEqProofs(maxSteps:=800000) (disch:=omega)only[go_sem,W7,PG,CB,ints,AU,vi,D7]);refine AC.pure (.of x) ?_;(try simp-dsimp-implicitDefEqProofs(maxSteps:=800000) (disch:=omega)only[go_sem,W7,PG,CB,ints,AU,vi,D7]);exact hN):GZ cX n ops y s K:=HF q (e x)
def V5{cX n ops y s s1 K}{R0 R1:Prop}(r0:R0)(r1:R1)(q:AW cX prog y s1 K)(e:R0->R1->HA ops s s1:=by intro h0 h1 N hN;(try simp-dsimp-implicitDefEqProofs(maxSteps:=800000) (disch:=omega)only[go_sem,D6,F9,ci1,eq_self,T9,CB,ints,JL,QA,RX,AU,P1,LX,KD,vi,h0,h1]);exact hN):GZ cX n ops y s K:=HF q (e r0 r1)
def yU{cX n ops s}{K:Exit->St->Prop}{Q:Prop}{R0 R1:Prop}(r0:R0)(r1:R1)(q:Q)(e:R0->R1->Q->KO env prog ops s.nx ops 0 ⟨s.t,s.H,s.nx+ops.length⟩ (K .normal):=by intro h0 h1 q;(try simp-dsimp-implicitDefEqProofs(maxSteps:=800000) (disch:=omega)only[go_sem,D6,F9,ci1,eq_self,T9,CB,ints,JL,QA,RX,AU,P1,LX,KD,vi,h0,h1]);exact q):AW cX prog (.region n ops.toArray false) s K:=rQ (e r0 r1 q)
def A1I{P Q:Prop}{R0 R1 R2:Prop}(r0:R0)(r1:R1)(r2:R2)(q:Q)(e:R0->R1->R2->Q->P:=by intro h0 h1 h2 q;(try simp-dsimp-implicitDefEqProofs(maxSteps:=800000) (disch:=omega)only[go_sem,BD,AR,B4,BE,AT,AS,D6,F9,ci1,eq_self,T9,CB,GJ,ES,ET,ints,JL,QA,RX,AU,P1,LX,KD,vi,DV,h0,h1,h2]);exact q):P:=e r0 r1 r2 q
def A1J{P Q:Prop}{R0 R1:Prop}(r0:R0)(r1:R1)(q:Q)(e:R0->R1->Q->P:=by intro h0 h1 q;(try simp-dsimp-implicitDefEqProofs(maxSteps:=800000) (disch:=omega)only[go_sem,D6,F9,ci1,eq_self,T9,CB,ints,JL,QA,RX,AU,P1,LX,KD,vi,h0,h1]);exact q):P:=e r0 r1 q
end
section
noncomputable def oJ(rd:Nat->V->V->V)(dn:Nat->Option V):Nat->Nat->V->V
 |0,_,x=>x
 | f+1,e,x=>oJ rd dn f (e+1) (match dn e with
   |none=>x
   |some w=>if x e=0 then x else rd e w x)
section
variable{P:Pc}(hv:LK P)(hc:HN P 0){rd:Nat->V->V->V}
 (rk:∀e w x,e<P.n->T P e w->w e=1->T P 0 x->∃u,Cy (T P 0) (M P 0) w u/\T P e u/\rd e w x=M P 0 x u/\(x e+u e)%P.o e=0)
include hv hc rk
theorem uG{S}(hS:NO (T P 0) (M P 0) S){dn}(hd:∀e w,dn e=some w->e<P.n/\S w/\T P e w/\w e=1):
   ∀f e x,e+f<=P.n->S x->S (oJ rd dn f e x)/\(∀k,k<e->oJ rd dn f e x k=x k)/\∀k,e<=k->k<e+f->dn k≠none->oJ rd dn f e x k=0:=by
 intro f;induction f with
 |zero=>intro e x _ hx;exact⟨hx,λ_ _=>rfl,λk h1 h2=>A0⟩
 | succ f ih=>
   intro e x he hx;rw[oJ];have step:∃x',(match dn e with
      |none=>x
      |some w=>if x e=0 then x else rd e w x)=x'/\S x'/\(∀k,k<e->x' k=x k)/\(dn e≠none->x' e=0):=by
    cases hw:dn e with
    |none=>exact⟨x,rfl,hx,λ_ _=>rfl,λh=>absurd rfl h⟩
    | some w=>
      obtain⟨w0,w1,w2,w3⟩:=hd e w hw;by_cases h0:x e=0
      · exact⟨x,by dsimp only;rw[if_pos h0],hx,λ_ _=>rfl,λ_=>h0⟩
      obtain⟨u,u1,u2,u3,u4⟩:=rk e w x w0 w2 w3 (hS.n hx);obtain⟨a1,a2⟩:=A68 hv hc w0 (hS.n hx) u2;exact⟨M P 0 x u,by dsimp only;rw[if_neg h0,u3],hS.mu hx (u1 S hS w1),a1,λ_=>by rw[a2,u4]⟩
   obtain⟨x',e1,s1,s2,s3⟩:=step;rw[e1];obtain⟨i1,i2,i3⟩:=ih (e+1) x' A0 s1;refine⟨i1,λk hk=>by rw[i2 k A0,s2 k hk],λk h1 h2 h3=>?_⟩;by_cases q:k=e
   ·subst q;rw[i2 k A0];exact s3 h3
   exact i3 k A0 A0 h3
end
structure uH(P:Pc)(S:V->Prop)(dn:Nat->Option V):Prop where
 el:∀d z,dn d=some z->d<P.n/\S z/\T P d z/\z d=1/\∀e,d<e->e<P.n->(∃x,S x/\T P e x/\x e≠0)->z e=0
 no:∀d,d<P.n->dn d=none->¬∃x,S x/\T P d x/\x d≠0
def uH.uniq{P}(hv:LK P)(hc:HN P 0){S}(hS:NO (T P 0) (M P 0) S){dn Dl}(h:uH P S dn)(h':uH P S Dl){d}(hd:d<P.n):dn d=Dl d:=by
 cases h1:dn d with
 |none=>
  cases h2:Dl d with
  |none=>rfl
  | some z=>
    obtain⟨_,a1,a2,a3,_⟩:=h'.el d z h2;exact absurd ⟨z,a1,a2,by rw[a3];omega⟩ (h.no d hd h1)
 |some z=>
  obtain⟨_,a1,a2,a3,a4⟩:=h.el d z h1;cases h2:Dl d with
  |none=>exact absurd ⟨z,a1,a2,by rw[a3];omega⟩ (h'.no d hd h2)
  | some z'=>
    obtain⟨_,b1,b2,b3,b4⟩:=h'.el d z' h2;rw[Lg hv hc hS a1 b1 a2 b2 hd (by rw[a3,b3]) (λe q1 q2 q3=>⟨a4 e q1 q2 q3,b4 e q1 q2 q3⟩)]
end
section
noncomputable def dG(rd:Nat->V->V->V)(t:Nat->Option V)(n:Nat):Nat->Nat->Option V
 |0=>λ_=>none
 | j+1=>match t (n-1-j)with
   |none=>dG rd t n j
   |some y=>λk=>if k=n-1-j then some (oJ rd (dG rd t n j) j (n-j) y)else dG rd t n j k
section
variable{P:Pc}(hv:LK P)(hc:HN P 0){rd:Nat->V->V->V}
 (rk:∀e w x,e<P.n->T P e w->w e=1->T P 0 x->∃u,Cy (T P 0) (M P 0) w u/\T P e u/\rd e w x=M P 0 x u/\(x e+u e)%P.o e=0)
include hv hc rk
theorem A19{S}(hS:NO (T P 0) (M P 0) S){t}(ht:∀d y,t d=some y->d<P.n/\S y/\T P d y/\y d=1):∀j,j<=P.n->
   (∀d z,dG rd t P.n j d=some z->P.n-j<=d/\d<P.n/\S z/\T P d z/\z d=1/\∀e,d<e->e<P.n->t e≠none->z e=0)/\∀d,P.n-j<=d->d<P.n->(dG rd t P.n j d=none↔t d=none):=by
 intro j;induction j with
 |zero=>intro _;exact⟨λd z h=>(by cases h),λd h1 h2=>A0⟩
 | succ j ih=>
   intro hj;obtain⟨i1,i2⟩:=ih A0;have eqn:P.n-1-j=P.n-(j+1):=A0;cases hy:t (P.n-1-j)with
   | none=>
     have e1:dG rd t P.n (j+1)=dG rd t P.n j:=by rw[dG,hy]
     rw[e1];refine⟨λd z h=>?_,λd h1 h2=>?_⟩
     ·obtain⟨a1,a2,a3⟩:=i1 d z h;exact⟨A0,a2,a3⟩
     by_cases q:d=P.n-1-j
     ·subst q;rw[hy];refine⟨λ_=>rfl,λ_=>?_⟩;cases hq:dG rd t P.n j (P.n-1-j)with
      |none=>rfl
      |some z=>have:=(i1 _ z hq).1;omega
     exact i2 d A0 h2
   | some y=>
     have e1:dG rd t P.n (j+1)=λk=>if k=P.n-1-j then some (oJ rd (dG rd t P.n j) j (P.n-j) y)else dG rd t P.n j k:=by rw[dG,hy]
     rw[e1];obtain⟨y0,y1,y2,y3⟩:=ht _ y hy;obtain⟨r1,r2,r3⟩:=uG hv hc rk hS (dn:=dG rd t P.n j) (λe w he=>by
      obtain⟨a1,a2,a3,a4,a5,_⟩:=i1 e w he;exact⟨a2,a3,a4,a5⟩) j (P.n-j) y A0 y1
     refine⟨λd z h=>?_,λd h1 h2=>?_⟩
     ·dsimp only at h;split at h
      · rename_i q;cases h;have hT:=hS.n r1;refine⟨A0,A0,r1,⟨λk hk=>?_,λk _ h3=>hT.r k (AE k) h3,hT.t⟩,?_,λe h3 h4 h5=>?_⟩
        ·rw[r2 k A0];exact y2.z k A0
        ·rw[r2 d A0,q];exact y3
        refine r3 e A0 A0 (λh6=>h5 ((i2 e A0 h4).1 h6))
      obtain⟨a1,a2,a3⟩:=i1 d z h;exact⟨A0,a2,a3⟩
     dsimp only;by_cases q:d=P.n-1-j
     ·rw[if_pos q,q,hy];exact⟨λh=>(by cases h),λh=>(by cases h)⟩
     rw[if_neg q];exact i2 d A0 h2
theorem Ar{m}(l:Px P.n P.o (T P) m){t}(c:lA P.n P.o (T P) m t)(hS:NO (T P 0) (M P 0) (Sg (T P 0) m t P.n P.n)):uH P (Sg (T P 0) m t P.n P.n) (dG rd t P.n P.n):=by
 obtain⟨h1,h2⟩:=A19 hv hc rk hS (t:=t) (λd y hy=>by
  obtain⟨a1,a2,a3⟩:=c.tb d y hy;have:=c.down l (AE d) A0 (c.mem l hy);rw[EB]at this;exact⟨a1,this,a2,a3⟩) P.n (A1 _)
 refine⟨λd z h=>?_,λd hd h=>?_⟩
 ·obtain⟨_,a2,a3,a4,a5,a6⟩:=h1 d z h;exact⟨a2,a3,a4,a5,λe q1 q2 q3=>a6 e q1 q2 ((c.depth l q2).2 q3)⟩
 rw[<-c.depth l hd];exact λq=>q ((h2 d A0 hd).1 h)
end
end
section
noncomputable def Fp(P:Pc)(d:Nat)(y x:V):V:=M P 0 x (T6 P y (0-x d))
section
variable{P:Pc}(hv:LK P)(hc:HN P 0)
def A1A{t}:∀f d x,d+f=P.n->OA P t f d x=T8 (Fp P) t P.n f x:=by
 intro f;induction f with
 |zero=>intro d x hd;rw[OA,T8,show d=P.n by omega]
 | succ f ih=>
   intro d x hd;have e:P.n-(f+1)=d:=A0;rw[OA,T8,e];split
   · exact ih _ _ A0
   cases t d with
   |none=>rfl
   |some y=>exact ih _ _ A0
def jK:∀x,T P P.n x->x=z0:=λx hx=>hx.ge (A1 _)
def Fq{t d y}:∀k v,v∈VM P t d y k↔∃e z,e<k/\e≠d/\t e=some z/\v=cmV P y z:=by
 intro k;induction k with
 |zero=>intro v;rw[VM];exact⟨λh=>(by cases h),λ⟨e,z,h,_⟩=> A0⟩
 | succ k ih=>
   intro v;rw[VM];split
   ·rename_i hk;rw[ih v];constructor
    ·rintro⟨e,z,h1,h2,h3,h4⟩;exact⟨e,z,A0,h2,h3,h4⟩
    rintro⟨e,z,h1,h2,h3,h4⟩;refine⟨e,z,?_,h2,h3,h4⟩;rcases BL e k with q|q
    ·exact q
    rw[show e=k by omega,hk]at h3;cases h3
   rename_i w hk;split
   ·rename_i q0;rw[ih v];constructor
    ·rintro⟨e,z,h1,h2,h3,h4⟩;exact⟨e,z,A0,h2,h3,h4⟩
    rintro⟨e,z,h1,h2,h3,h4⟩;exact⟨e,z,A0,h2,h3,h4⟩
   rename_i q0;rw[AG,ih v,BY];constructor
   ·rintro(⟨e,z,h1,h2,h3,h4⟩|h)
    ·exact⟨e,z,A0,h2,h3,h4⟩
    exact⟨k,w,A0,q0,hk,h⟩
   rintro⟨e,z,h1,h2,h3,h4⟩;rcases BL e k with q|q
   ·exact .inl ⟨e,z,q,h2,h3,h4⟩
   obtain rfl:e=k:=A0;rw[hk]at h3;cases h3;exact .inr h4
include hv hc
theorem Cy.pw{y}(hy:T P 0 y)(k):Cy (T P 0) (M P 0) y (T6 P y k):=by
 have hg:=CS hv hc;unfold T6;split
 ·exact Cy.AOO (KJ hg hy).1 (KJ hg hy).2 _
 exact Cy.rep y _
theorem Lh:∀d y x,d<P.n->T P d y->y d=1->T P d x->Sm (T P 0) (M P 0) y x (Fp P d y x)/\T P (d+1) (Fp P d y x):=
 λd y x hd hy h1 hx=>⟨Sm.right (CS hv hc) (hx.mono hv (AE d)) (Cy.pw hv hc (hy.mono hv (AE d)) _),yS hv hc hd hx hy h1⟩
theorem A1B{y z}(hy:T P 0 y)(hz:T P 0 z):Cm (M P 0) y z (cmV P y z):=by
 have g:=CS hv hc;left
 obtain⟨h1,h2⟩:=KJ g (g.cl hz hy);unfold cmV;rw[<-g.ac (g.cl hz hy) h1 (g.cl hy hz),h2,g.l1 (g.cl hy hz)]
variable(hp:∀d,d<P.n->O8 (P.o d)){us:V->Prop}
include hp
theorem A69{t w x}(hG:ZX P t)(h:Inv P.n P.o (T P) (M P 0) (Fp P) us t (λv=>v∈w++[x])):
  Inv P.n P.o (T P) (M P 0) (Fp P) us (Lb P t w (OA P t P.n 0 x)).1 (λv=>v∈(Lb P t w (OA P t P.n 0 x)).2):=by
 have l:=lvl hv hc;have cH:x∈w++[x]:=AG.2 (.inr (BY.2 rfl));have hx:T P 0 x:=h.wn x cH;obtain⟨i1,i2,i3,i4⟩:=Al hv hc hG P.n 0 x A0 hx;have hsf:=A1A (P:=P) (t:=t) P.n 0 x A0;obtain⟨s,hs⟩:=EK (OA P t P.n 0 x);rw[hs]at i1 i2 i3 i4 hsf ⊢;unfold Lb;split
 ·rename_i h1;refine h.drop l jK (Lh hv hc) cH (by rw[<-hsf];exact h1) (λv hw=>?_) (λv hw=>AG.2 (.inl hw));rcases AG.1 hw with q|q
  ·exact .inr q
  exact .inl (BY.1 q)
 rename_i CP;have hd:s.1<P.n:=A0;obtain⟨j1,j2⟩:=i4 hd;obtain⟨y1,y2⟩:=mI hv hc hp hd i3 j2;have j6:=y1.mono hv (AE _);have hs0:=i3.mono hv (AE _);have ho:=l.op hd;have o0:T6 P (iO P s) (P.o s.1)=rep (M P 0) (iO P s) (P.o s.1).toNat:=by unfold T6;rw[if_neg A0]
 have iJ:∀e,e≠s.1->oset t s.1 (iO P s) e=t e:=λe he=>by unfold oset;rw[if_neg he]
 dsimp only;rw[o0];refine Inv.add l (Lh hv hc) h cH (d:=s.1) (r:=s.2) (y:=iO P s) (by rw[<-hsf]) hd y1 y2 (Cy.pw hv hc hs0 _) (λv hw=>?_) ?_ ?_ (λe z h1 h2=>?_) (λv hw=>?_)
 ·rcases AG.1 hw with q|q
  ·exact .inr (by simp[q])
  exact .inl (BY.1 q)
 ·simp
 ·simp
 ·refine⟨cmV P (iO P s) z,?_,A1B hv hc j6 ((hG e z h2).2.1.mono hv (AE _))⟩;refine AG.2 (.inr ((Fq _ _).2 ⟨e,z,(hG e z h2).1,h1,by rw[iJ e h1];exact h2,rfl⟩))
 rcases AG.1 hw with q|q
 ·rcases AG.1 q with q|q
  ·rcases AG.1 q with q|q
   ·exact .inl (AG.2 (.inl q))
   exact .inr (.inl (BY.1 q))
  exact .inr (.inr (.inl (BY.1 q)))
 obtain⟨e,z,e1,e2,e3,rfl⟩:=(Fq _ _).1 q;rw[iJ e e2]at e3;have hz:=(hG e z e3).2.1.mono hv (AE _);exact .inr (.inr (.inr ⟨e,z,e3,A1B hv hc j6 hz,A9B hv hc j6 hz⟩))
theorem A1C:∀(f:Nat) (t:Nat->Option V) (w:List V),ZX P t->Inv P.n P.o (T P) (M P 0) (Fp P) us t (λv=>v∈w)->gQ P t w<=f->
  Inv P.n P.o (T P) (M P 0) (Fp P) us (uD P f t w) (λ_=>False):=by
 have nl:∀(t:Nat->Option V) (w:List V),w.length=0->Inv P.n P.o (T P) (M P 0) (Fp P) us t (λv=>v∈w)->Inv P.n P.o (T P) (M P 0) (Fp P) us t (λ_=>False):=by
  intro t w hw h;have e:w=[]:=LD hw;subst e;have e2:(λv:V=>v∈([]:List V))=λ_=>False:=by funext v;simp
  rw[e2]at h;exact h
 intro f;induction f with
 |zero=>
  intro t w hG h hM;rw[uD];refine nl t w ?_ h;unfold gQ at hM;omega
 |succ f ih=>
  intro t w hG h hM;rw[uD];split
  ·rename_i hw;exact nl t w hw h
  rename_i hw;have hwe:w=w.take (w.length-1)++[w.getD (w.length-1) z0]:=by
   have h1:=B7 (l:=w) (i:=w.length-1) A0;rw[show w.length-1+1=w.length by omega,B2]at h1;rw[A5,A9 (show w.length-1<w.length by omega)];exact h1
  have Py:T P 0 (w.getD (w.length-1) z0):=h.wn _ (by rw[A5,A9 (show w.length-1<w.length by omega)];exact BK _);have aU:=Pv hv hc hG hw Py;obtain⟨x,hx⟩:=EK (w.getD (w.length-1) z0);obtain⟨v,hvv⟩:=EK (w.take (w.length-1));unfold clS at aU ⊢;rw[hx]at aU Py ⊢;rw[hvv]at aU ⊢;rw[hx,hvv]at hwe;rw[hwe]at h;have hi:=A69 hv hc hp hG h;refine ih _ _ (A9C hv hc hp hG (w:=v) (λz hz=>h.wn z (AG.2 (.inl hz))) Py).1 hi A0
noncomputable def tbS(P:Pc)(us:List V):Nat->Option V:=uD P (gQ P (λ_=>none) us) (λ_=>none) us
theorem A6A{us}(hu:∀x∈us,T P 0 x):lA P.n P.o (T P) (M P 0) (tbS P us)/\∀x,Sg (T P 0) (M P 0) (tbS P us) P.n P.n x↔Dk (T P 0) (M P 0) (λv=>v∈us) x:=
 (A1C hv hc hp _ _ us (λd y h=>by cases h) (Inv.start (W:=λv=>v∈us) hu) (A1 _)).fin (lvl hv hc) jK (Lh hv hc)
omit hp in
theorem cI:∀e w x,e<P.n->T P e w->w e=1->T P 0 x->∃u,Cy (T P 0) (M P 0) w u/\T P e u/\Fp P e w x=M P 0 x u/\(x e+u e)%P.o e=0:=by
 intro e w x he hw h1 hx;obtain⟨p1,p2⟩:=qW hv hc he hw (0-x e);refine⟨T6 P w (0-x e),Cy.pw hv hc (hw.mono hv (AE e)) _,p1,rfl,?_⟩;rw[p2,h1,NQ,IW,show x e+(0-x e)=0 by omega,RH]
omit hv hc hp in
theorem jL{dn}:∀f e x,XN P dn f e x=oJ (Fp P) dn f e x:=by
 intro f;induction f with
 |zero=>intro e x;rfl
 |succ f ih=>intro e x;rw[XN,oJ,ih];rfl
omit hv hc hp in
theorem A6B{n t}:∀j,u9 P n t j=dG (Fp P) t n j:=by
 intro j;induction j with
 |zero=>rfl
 | succ j ih=>
   rw[u9,dG,ih];cases t (n-1-j)with
   |none=>rfl
   |some y=>dsimp only;rw[jL];rfl
theorem Pz{us}(hu:∀x∈us,T P 0 x):uH P (Dk (T P 0) (M P 0) (λv=>v∈us)) (u9 P P.n (tbS P us) P.n):=by
 obtain⟨c,hs⟩:=A6A hv hc hp hu;have l:=lvl hv hc;have e:Sg (T P 0) (M P 0) (tbS P us) P.n P.n=Dk (T P 0) (M P 0) (λv=>v∈us):=funext λx=>propext (hs x)
 have h:=Ar hv hc (cI hv hc) l c (c.sub l (A1 _));rw[e,<-A6B]at h;exact h
end
def uI{dn Dl k}(h:∀d,d<k->dn d=Dl d):LW dn k=LW Dl k:=by
 induction k with
 |zero=>rfl
 | succ k ih=>
   have ih:=ih (λd hd=>h d A0);cases hk:dn k with
   |none=>rw[MZ hk,MZ (by rw[<-h k A0];exact hk)];exact ih
   |some y=>rw[O3 hk,O3 (y:=y) (by rw[<-h k A0];exact hk),ih]
end
section
noncomputable def mL(P:Pc)(z y:V):V:=M P 0 (inv P 0 z) (M P 0 (inv P 0 y) (M P 0 z y))
noncomputable def aW(P:Pc)(t:Nat->Option V)(y:V):Nat->List V
 |0=>[]
 | e+1=>match t e with
   |none=>aW P t y e
   |some z=>aW P t y e++[mL P z y]
noncomputable def dH(P:Pc)(t:Nat->Option V)(x:V):Nat×V:=T8 (mK P) t P.n P.n x
noncomputable def As(P:Pc)(t:Nat->Option V)(q:List V)(s:Nat×V):(Nat->Option V)×List V:=
 if s.1=P.n then (t,q)else (oset t s.1 (iO P s),q++[s.2]++[T6 P (iO P s) (P.o s.1)]++aW P t (iO P s) P.n)
noncomputable def Vq(P:Pc):Nat->(Nat->Option V)->List V->Nat->Option V
 |0,t,_=>t
 |f+1,t,w=>if w.length=0 then t else Vq P f (As P t (w.drop 1) (dH P t (w.getD 0 z0))).1 (As P t (w.drop 1) (dH P t (w.getD 0 z0))).2
section
variable{P:Pc}(hv:LK P)(hc:HN P 0)
def Fs{t y}:∀e,(aW P t y e).length<=e:=by
 intro e;induction e with
 |zero=>exact A1 _
 | succ e ih=>
   rw[aW];split
   ·omega
   rw[AH];simp;omega
def uJ{t y}:∀k v,v∈aW P t y k↔∃e z,e<k/\t e=some z/\v=mL P z y:=by
 intro k;induction k with
 |zero=>intro v;rw[aW];exact⟨λh=>(by cases h),λ⟨e,z,h,_⟩=> A0⟩
 | succ k ih=>
   intro v;rw[aW];split
   ·rename_i hk;rw[ih v];constructor
    ·rintro⟨e,z,h1,h3,h4⟩;exact⟨e,z,A0,h3,h4⟩
    rintro⟨e,z,h1,h3,h4⟩;refine⟨e,z,?_,h3,h4⟩;rcases BL e k with q|q
    ·exact q
    rw[show e=k by omega,hk]at h3;cases h3
   rename_i w hk;rw[AG,ih v,BY];constructor
   ·rintro(⟨e,z,h1,h3,h4⟩|h)
    ·exact⟨e,z,A0,h3,h4⟩
    exact⟨k,w,A0,hk,h⟩
   rintro⟨e,z,h1,h3,h4⟩;rcases BL e k with q|q
   ·exact .inl ⟨e,z,q,h3,h4⟩
   obtain rfl:e=k:=A0;rw[hk]at h3;cases h3;exact .inr h4
include hv hc
theorem A9E{y z}(hy:T P 0 y)(hz:T P 0 z):T P 0 (mL P z y):=by
 have g:=CS hv hc;exact g.cl (KJ g hz).1 (g.cl (KJ g hy).1 (g.cl hz hy))
theorem A1D{y z}(hy:T P 0 y)(hz:T P 0 z):Cm (M P 0) y z (mL P z y):=by
 have g:=CS hv hc;right
 obtain⟨y1,y2⟩:=KJ g hy;obtain⟨z1,z2⟩:=KJ g hz;have n1:=g.cl hz hy;unfold mL;rw[g.ac hy hz (g.cl z1 (g.cl y1 n1)),<-g.ac hz z1 (g.cl y1 n1),z2,g.l1 (g.cl y1 n1),<-g.ac hy y1 n1,y2,g.l1 n1]
theorem mM{t}(hG:ZX P t){x}(hx:T P 0 x):(dH P t x).1<=P.n/\T P (dH P t x).1 (dH P t x).2/\((dH P t x).1<P.n->t (dH P t x).1=none/\(dH P t x).2 (dH P t x).1≠0):=by
 have l:=lvl hv hc;have h1:=uE (rd:=mK P) (t:=t) P.n (A1 _) x;have h2:=Ao l (t:=t) (rd:=mK P) (λd y x h1 h2 h3=>gR hv hc d y x h1 (hG d y h2).2.1 (hG d y h2).2.2 h3) P.n (A1 _) x (by rw[CM];exact hx);unfold dH;rcases h1 with h1|⟨h3,h4,h5,h6⟩
 ·exact⟨A0,h2,λh=>A0⟩
 exact⟨A0,h2,λ_=>⟨h5,h6⟩⟩
theorem Qa{t}(hG:ZX P t){q x}(hx:T P 0 x):gQ P (As P t q (dH P t x)).1 (As P t q (dH P t x)).2<UG t P.n*(P.n+3)+(q.length+1):=by
 obtain⟨i2,i3,i4⟩:=mM hv hc hG hx;obtain⟨s,hs⟩:=EK (dH P t x);rw[hs]at i2 i3 i4 ⊢;unfold gQ As;split
 ·dsimp only;omega
 rename_i CP;obtain⟨j1,j2⟩:=i4 A0;have h2:=(Pu (y:=iO P s) j1 P.n).2 A0;have h3:=Fs (P:=P) (t:=t) (y:=iO P s) P.n;dsimp only;rw[<-h2,QG,Nat.one_mul];simp only[AH,C6,CR];omega
variable(hp:∀d,d<P.n->O8 (P.o d)){us:V->Prop}
include hp
theorem Qb{t}(hG:ZX P t){q}(hq:∀x∈q,T P 0 x){x}(hx:T P 0 x):ZX P (As P t q (dH P t x)).1/\∀z∈(As P t q (dH P t x)).2,T P 0 z:=by
 obtain⟨i2,i3,i4⟩:=mM hv hc hG hx;obtain⟨s,hs⟩:=EK (dH P t x);rw[hs]at i2 i3 i4 ⊢;unfold As;split
 ·exact⟨hG,hq⟩
 rename_i CP;obtain⟨j1,j2⟩:=i4 A0;obtain⟨y1,y2⟩:=mI hv hc hp A0 i3 j2;have j6:=y1.mono hv (AE _);refine⟨λd z hz=>?_,λz hz=>?_⟩
 ·dsimp only at hz;unfold oset at hz;split at hz
  ·rename_i e;subst e;cases hz;exact⟨A0,y1,y2⟩
  exact hG d z hz
 dsimp only at hz;rcases AG.1 hz with h|h
 ·rcases AG.1 h with h|h
  ·rcases AG.1 h with h|h
   ·exact hq z h
   rw[BY.1 h];exact i3.mono hv (AE _)
  rw[BY.1 h];exact eU hv hc j6 _
 obtain⟨e,w,_,e3,rfl⟩:=(uJ _ _).1 h;exact A9E hv hc j6 ((hG e w e3).2.1.mono hv (AE _))
theorem A6C{t q x}(hG:ZX P t)(h:Inv P.n P.o (T P) (M P 0) (mK P) us t (λv=>v∈x::q)):
  Inv P.n P.o (T P) (M P 0) (mK P) us (As P t q (dH P t x)).1 (λv=>v∈(As P t q (dH P t x)).2):=by
 have l:=lvl hv hc;have cH:x∈x::q:=CA;have hx:T P 0 x:=h.wn x cH;obtain⟨i2,i3,i4⟩:=mM hv hc hG hx;obtain⟨s,hs⟩:=EK (dH P t x);have hsf:s=T8 (mK P) t P.n P.n x:=hs.symm;rw[hs]at i2 i3 i4 ⊢;unfold As;split
 ·rename_i h1;refine h.drop l jK (gR hv hc) cH (by rw[<-hsf];exact h1) (λv hw=>?_) (λv hw=>C3 _ hw);exact BJ.1 hw
 rename_i CP;have hd:s.1<P.n:=A0;obtain⟨j1,j2⟩:=i4 hd;obtain⟨y1,y2⟩:=mI hv hc hp hd i3 j2;have j6:=y1.mono hv (AE _);have hs0:=i3.mono hv (AE _);have ho:=l.op hd;have o0:T6 P (iO P s) (P.o s.1)=rep (M P 0) (iO P s) (P.o s.1).toNat:=by unfold T6;rw[if_neg A0]
 dsimp only;rw[o0];refine Inv.add l (gR hv hc) h cH (d:=s.1) (r:=s.2) (y:=iO P s) (by rw[<-hsf]) hd y1 y2 (Cy.pw hv hc hs0 _) (λv hw=>?_) ?_ ?_ (λe z h1 h2=>?_) (λv hw=>?_)
 ·rcases BJ.1 hw with q|q
  ·exact .inl q
  exact .inr (by simp[q])
 ·simp
 ·simp
 ·refine⟨mL P z (iO P s),?_,A1D hv hc j6 ((hG e z h2).2.1.mono hv (AE _))⟩;exact AG.2 (.inr ((uJ _ _).2 ⟨e,z,(hG e z h2).1,h2,rfl⟩))
 rcases AG.1 hw with q|q
 ·rcases AG.1 q with q|q
  ·rcases AG.1 q with q|q
   ·exact .inl (C3 _ q)
   exact .inr (.inl (BY.1 q))
  exact .inr (.inr (.inl (BY.1 q)))
 obtain⟨e,z,e1,e3,rfl⟩:=(uJ _ _).1 q;have hz:=(hG e z e3).2.1.mono hv (AE _);exact .inr (.inr (.inr ⟨e,z,e3,A1D hv hc j6 hz,A9E hv hc j6 hz⟩))
theorem Qc:∀(f:Nat) (t:Nat->Option V) (w:List V),ZX P t->Inv P.n P.o (T P) (M P 0) (mK P) us t (λv=>v∈w)->gQ P t w<=f->
  Inv P.n P.o (T P) (M P 0) (mK P) us (Vq P f t w) (λ_=>False):=by
 have nl:∀(t:Nat->Option V) (w:List V),w.length=0->Inv P.n P.o (T P) (M P 0) (mK P) us t (λv=>v∈w)->Inv P.n P.o (T P) (M P 0) (mK P) us t (λ_=>False):=by
  intro t w hw h;have e:w=[]:=LD hw;subst e;have e2:(λv:V=>v∈([]:List V))=λ_=>False:=by funext v;simp
  rw[e2]at h;exact h
 intro f;induction f with
 |zero=>
  intro t w hG h hM;rw[Vq];refine nl t w ?_ h;unfold gQ at hM;omega
 |succ f ih=>
  intro t w hG h hM;rw[Vq];split
  · rename_i hw;exact nl t w hw h
  rename_i hw;cases w with
  |nil=>exact absurd rfl hw
  | cons x q=>
    have Py:T P 0 x:=h.wn _ CA;have aU:=Qa hv hc hG (q:=q) Py;show Inv P.n P.o (T P) (M P 0) (mK P) us (Vq P f (As P t q (dH P t x)).1 (As P t q (dH P t x)).2) _
    refine ih _ _ (Qb hv hc hp hG (λz hz=>h.wn z (C3 _ hz)) Py).1 (A6C hv hc hp hG h) ?_;unfold gQ at hM;rw[C6]at hM;omega
theorem A9F:∀(f:Nat) (t:Nat->Option V) (w:List V),ZX P t->(∀x∈w,T P 0 x)->ZX P (Vq P f t w):=by
 intro f;induction f with
 |zero=>intro t w hG _;exact hG
 | succ f ih=>
   intro t w hG hw;rw[Vq];split
   · exact hG
   rename_i CP;cases w with
   |nil=>exact absurd rfl CP
   | cons x q=>
     obtain⟨g1,g2⟩:=Qb hv hc hp hG (λz hz=>hw z (C3 _ hz)) (hw x CA);exact ih _ _ g1 g2
noncomputable def tbI(P:Pc)(us:List V):Nat->Option V:=Vq P (gQ P (λ_=>none) us) (λ_=>none) us
theorem A9G{us}(hu:∀x∈us,T P 0 x):ZX P (tbI P us):=A9F hv hc hp _ _ us (λd y h=>by cases h) hu
theorem Au{us}(hu:∀x∈us,T P 0 x):lA P.n P.o (T P) (M P 0) (tbI P us)/\∀x,Sg (T P 0) (M P 0) (tbI P us) P.n P.n x↔Dk (T P 0) (M P 0) (λv=>v∈us) x:=
 (Qc hv hc hp _ _ us (λd y h=>by cases h) (Inv.start (W:=λv=>v∈us) hu) (A1 _)).fin (lvl hv hc) jK (gR hv hc)
noncomputable def qX(P:Pc)(e:Nat)(w x:V):V:=M P 0 x (rep (M P 0) w (P.o e-x e).toNat)
omit hp in
theorem cJ:∀e w x,e<P.n->T P e w->w e=1->T P 0 x->∃u,Cy (T P 0) (M P 0) w u/\T P e u/\qX P e w x=M P 0 x u/\(x e+u e)%P.o e=0:=by
 intro e w x he hw h1 hx;have l:=lvl hv hc;have hr:=hx.r e (AE e) he;refine⟨rep (M P 0) w (P.o e-x e).toNat,Cy.rep w _,(l.g e).rep hw _,rfl,?_⟩;rw[l.N0 he hw h1,BG A0,IW,show x e+(P.o e-x e)=P.o e by omega,LU]
noncomputable def dnI(P:Pc)(us:List V)(j:Nat):Nat->Option V:=dG (qX P) (tbI P us) P.n j
theorem A6D{us}(hu:∀x∈us,T P 0 x):uH P (Dk (T P 0) (M P 0) (λv=>v∈us)) (dnI P us P.n):=by
 obtain⟨c,hs⟩:=Au hv hc hp hu;have l:=lvl hv hc;have e:Sg (T P 0) (M P 0) (tbI P us) P.n P.n=Dk (T P 0) (M P 0) (λv=>v∈us):=funext λx=>propext (hs x)
 have h:=Ar hv hc (cJ hv hc) l c (c.sub l (A1 _));rw[e]at h;exact h
theorem Qd{us:List V}(hu:∀x∈us,T P 0 x):NO (T P 0) (M P 0) (Dk (T P 0) (M P 0) (λv=>v∈us)):=by
 obtain⟨c,hs⟩:=Au hv hc hp hu;have e:Sg (T P 0) (M P 0) (tbI P us) P.n P.n=Dk (T P 0) (M P 0) (λv=>v∈us):=funext λx=>propext (hs x)
 rw[<-e];exact c.sub (lvl hv hc) (A1 _)
theorem A1E{us}(hu:∀x∈us,T P 0 x):LW (dnI P us P.n) P.n=TK P us:=
 uI λd hd=>uH.uniq hv hc (Qd hv hc hp hu) (A6D hv hc hp hu) (Pz hv hc hp hu) hd
end
end
section
def uK{n P d y}(hd:d<n)(hT:T P d y)(h1:y d=1):O1 n y=d:=by
 obtain⟨a1,a2,a3,a4⟩:=tV (x:=y) n 0;unfold O1;rcases GR (oF y n 0) d with h|h|h
 ·exact absurd (hT.z _ h) (a4 A0)
 ·exact h
 have:=a3 d (AE d) h;omega
section
variable(U:C2)(pw:D4)(cj:E6)
end
end
section
section
variable{s b:Nat}{z:Value}{q:Bool}{o:Nat}{cs:List AV}{k:AV->Prop}
def ADM{t}:Yi ⟨.slice t,s,b,z,q⟩ o cs k=(o<cs.length/\k (cs.getD o .j)):=by unfold Yi;simp[TE.agg]
def ADN{t}:Yi ⟨.int t,s,b,z,q⟩ o cs k=(o<cs.length/\k (cs.getD o .j)):=by unfold Yi;simp[TE.agg]
def ADO:Yi ⟨.other,s,b,z,q⟩ o cs k=(o<cs.length/\k (cs.getD o .j)):=by unfold Yi;simp[TE.agg]
end
attribute [go_sem ↓] ADM ADN ADO
def V3(n)(hn:n<=1048576)(f):DZ prog 149 [vi n f] (.i .i64 (O1 n f)):=by
 refine BI AY func149 rfl AP ntmps149 results149 (.i _ _) (λnx cX=>?_)
 refine RU ?_;refine A6 λN1 CW=>RU ?_;refine AA<|AM (α:=Nat) (λx=>sl 18 [(0,vi n f),(5,vi n f),(6,.i .i64 n),(7,.i .i64 x)]) (λ_=>DD) (λx m=>x<=n/\oF f (n-x) x=O1 n f) (λx=>n-x) (0) ?_ ?_ (λ_ _ h=>h) ?_
 ·exact⟨A0,rfl⟩
 ·exact gI
 rintro k m ⟨hk,hI⟩
 refine BH ?_;refine RU ?_;refine A6 λN2 DN=>AK ?_ ?_<;>intro h1
 ·have hs:oF f (n-k) k=if f k=0 then oF f (n-(k+1)) (k+1)else k:=by
   obtain⟨q,hq⟩:∃q,n-k=q+1:=⟨n-k-1,A0⟩;rw[hq,oF,show n-(k+1)=q by omega]
  apply AF;apply DN;refine A6 λN3 DO=>AA<|RU ?_;refine RU ?_;refine AK ?_ ?_<;>intro h2
  ·refine RU ?_;refine BQ ?_;rw[<-hI,hs,if_neg h2]
  apply AF;apply DO;apply rQ;simp-dsimp-implicitDefEqProofs(maxSteps:=800000) (disch:=omega)only[go_sem,vi];refine BB (k+1) ?_ ?_ ?_
  ·exact gI
  ·exact⟨A0,by rw[<-hI,hs,if_pos h2]⟩
  exact AI
 apply AO;apply CW;refine RU ?_;refine BQ ?_;rw[<-hI,show n-k=0 by omega,oF,show k=n by omega]
def pE(a):DZ prog 211 [.i .i64 a] (.b (a !=0)):=by
 refine BI AY func211 rfl AP ntmps211 results211 (.b _) (λnx cX=>?_)
 refine CT ?_;refine CT ?_;apply DQ;simp-dsimp-implicitDefEqProofs(maxSteps:=800000) (disch:=omega)only[go_sem];skip
def V4(n f)(hn:n<=1048576)(hd:O1 n f<n):DZ prog 210 [vi n f,.f 211 []] (.i .i64 (O1 n f)):=by
 have hsp:=(tV (x:=f) n 0).2.2.2 (by unfold O1 at hd;omega)
 refine BI AY func210 rfl AP ntmps210 results210 (.i _ _) (λnx cX=>?_)
 refine RU ?_;refine A6 λN1 CW=>RU ?_;refine AA<|AM (α:=Nat) (λx=>sl 19 [(0,vi n f),(1,.f 211 []),(7,.i .i64 n),(8,.i .i64 x)]) (λ_=>DD) (λx m=>x<=n/\oF f (n-x) x=O1 n f) (λx=>n-x) (0) ?_ ?_ (λ_ _ h=>h) ?_
 ·exact⟨A0,rfl⟩
 ·exact gI
 rintro k m ⟨hk,hI⟩
 refine BH ?_;refine RU ?_;refine A6 λN2 DN=>AK ?_ ?_<;>intro h1
 ·have hs:oF f (n-k) k=if f k=0 then oF f (n-(k+1)) (k+1)else k:=by
   obtain⟨q,hq⟩:∃q,n-k=q+1:=⟨n-k-1,A0⟩;rw[hq,oF,show n-(k+1)=q by omega]
  apply AF;apply DN;refine A6 λN3 DO=>AA<|RU ?_;refine sQ λN hN=>?_;simp-dsimp-implicitDefEqProofs(maxSteps:=800000) (disch:=omega)only[go_sem,vi];refine AC.pure (.of (pE (f k))) ?_;(try simp-dsimp-implicitDefEqProofs(maxSteps:=800000) (disch:=omega)only[go_sem,vi]);apply hN;refine AK ?_ ?_<;>intro h2
  ·refine RU ?_;refine BQ ?_;rw[<-hI,hs,if_neg h2]
  apply AF;apply DO;apply rQ;simp-dsimp-implicitDefEqProofs(maxSteps:=800000) (disch:=omega)only[go_sem,vi];refine BB (k+1) ?_ ?_ ?_
  ·exact gI
  ·exact⟨A0,by rw[<-hI,hs,if_pos h2]⟩
  exact AI
 apply AO;apply CW;refine RU ?_;refine BQ ?_;rw[show n-k=0 by omega,oF]at hI;omega
def Ft(n:Nat)(us:List V):C2:=us.map λb=>(O1 n b:Int)
def Fu{n:Nat}{u:List V}{k:Nat}(h:k<u.length):List.map (λb=>AV.i .i64 (O1 n b)) (u.take k)++[AV.i .i64 (O1 n (u.getD k z0))]=List.map (λb=>AV.i .i64 (O1 n b)) (u.take (k+1)):=by
 rw[E5,AZ];congr 1
 simp[h]
def WJ(n)(hn:n<=6)(us)(hu:us.length<=1048576)(hl:∀k,k<us.length->O1 n (us.getD k z0)<n):DZ prog 156 [D7 n us] (ints (Ft n us)):=by
 refine DA AY func156 rfl AP ntmps156 results156 ((IC _)) (λnx cX=>?_)
 refine jH ?_;refine jH ?_;refine A6 λN1 CW=>jH ?_;refine AA<|AM (α:=Nat×Option Nat) (λx=>sl 19 [(3,oA x.2 x.1),(6,D7 n us),(7,.i .i64 us.length),(8,.i .i64 x.1)]) (λx=>oH DD x.2 ((us.take x.1).map λb=>AV.i .i64 (O1 n b))) (λx m=>(x.1<=us.length/\nx<=m)/\(x.2=none->x.1=0)/\(∀id,x.2=some id->nx<=id/\id<m)) (λx=>us.length-x.1) ((0,none)) ?_ ?_ (λ_ _ h=>h) ?_
 ·exact⟨⟨B5,AI⟩,λ_=>rfl,B5⟩
 ·simp[EJ,EN,sl,D7,oA]
 rintro⟨k,_|id⟩ m ⟨⟨hk,hm⟩,h0,GF⟩
 ·refine BH ?_;dsimp only[oA,oH]at hk hm h0 GF ⊢;have VW:k=0:=h0 rfl;refine jH ?_;refine A6 λN2 DN=>AK ?_ ?_<;>intro h1
  ·have UC:=hl k A0;apply AF;apply DN;refine A6 λN3 DO=>AA<|jH ?_;refine Ag ?_;refine AC.pure (.of (V4 n (us.getD k z0) A0 A0)) ?_;(try simp-dsimp-implicitDefEqProofs(maxSteps:=800000) (disch:=omega)only[go_sem,EF,vi,D7])
   apply DO;refine Ag ?_;refine⟨(k+1,some (m+1+3+4)),?_,by subst VW;rw[<-Fu A0];intro d cs hd;simp only[oH,CJ,DD]at hd ⊢;grind,?_,?_⟩
   ·simp(disch:=omega) [EJ,EN,sl,D7,oA,DV]<;>omega
   ·exact⟨⟨A0,AI⟩,B5,by simp;omega⟩
   exact AI
  apply AO;apply CW;refine jH ?_;refine BQ ?_;have h00:us=[]:=AX.1 A0
  subst h00;exact .nl
 refine BH ?_;dsimp only[oA,oH]at hk hm h0 GF ⊢
 have Aw:=GF id rfl
 refine jH ?_;refine A6 λN4 FD=>AK ?_ ?_<;>intro h2
 ·have UC:=hl k A0;apply AF;apply FD;refine A6 λN5 ID=>AA<|jH ?_;refine Ag ?_;refine AC.pure (.of (V4 n (us.getD k z0) A0 A0)) ?_;(try simp-dsimp-implicitDefEqProofs(maxSteps:=800000) (disch:=omega)only[go_sem,EF,vi,D7])
  apply ID;refine Ag ?_;refine⟨(k+1,some (m+1+3+4)),?_,by rw[<-Fu A0];intro d cs hd;simp only[oH,CJ,DD]at hd ⊢;grind,?_,?_⟩
  ·simp(disch:=omega) [EJ,EN,sl,D7,oA,DV]<;>omega
  ·exact⟨⟨A0,AI⟩,B5,by simp;omega⟩
  exact AI
 apply AO;apply CW;refine jH ?_;refine BQ ?_;have Y8:k=us.length:=A0
 subst Y8
 have hx:List.map (λb=>AV.i .i64 (O1 n b)) (us.take us.length)=(Ft n us).map (.i .i64):=by simp[Ft]
 refine cF ?_ (by simp[Ft])
 rw[AD,hx]
def PG{n us}:(Ft n us).length=us.length:=by simp[Ft]
def W7{n us k}(h:k<us.length):(Ft n us).getD k 0=O1 n (us.getD k z0):=by simp[Ft,h]
section
variable(U:C2)(pw:D4)(cj:E6)
def QQ(h:BW U pw cj)(hc:HN (pc U pw cj) 0)(z y)(hz:T (pc U pw cj) 0 z)(hy:T (pc U pw cj) 0 y):DZ prog 125 [AU U pw cj,vi U.length z,vi U.length y] (vi U.length (mL (pc U pw cj) z y)):=by
 have hv:=h.val
 have g:=CS hv hc
 have h1:=(KJ g hz).1
 have h2:=(KJ g hy).1
 refine BI AY func125 rfl AP ntmps125 results125 (RS _ _) (λnx cX=>?_)
 refine CT ?_;refine sQ λN hN=>?_;refine BH ?_;refine sF ((aQ U pw cj h 0 hc z hz).pure) ?_
 refine sF ((FU U pw cj h 0 hc z y hz hy).pure) ?_
 refine sF ((PE U pw cj h 0 hc _ _ h1 (g.cl h2 (g.cl hz hy))).pure) ?_
 apply hN;refine BQ ?_;rfl
end
def tbc(n:Nat):Option V->AV
 |none=> .nl
 |some y=>vi n y
def qY(n:Nat)(t:Nat->Option V):List AV:=(List.range n).map λd=>tbc n (t d)
def Qe{n t}:(qY n t).length=n:=by simp[qY]
def A6E{n t d}(h:d<n):(qY n t).getD d .j=tbc n (t d):=by simp[qY,h]
def A6F{n}:List.replicate n .nl=qY n (λ_=>none):=by
 apply C7;intro i;by_cases h:i<n<;>simp[qY,h,tbc]
def Qf{n d:Nat}{t:Nat->Option V}{y:V}(h:d<n):DH (qY n t) d [.v n (JP n y)]=qY n (oset t d y):=by
 rw[OW _ _ _ (by rw[Qe];exact h)];apply C7;intro i;rw[CL];by_cases hi:d=i
 ·subst hi;simp[qY,oset,h,tbc,vi]
 simp only[hi,if_false,qY,BF];by_cases hn:i<n
 ·simp[hn,oset,I8 hi]
 simp[hn]
def tkf:Option V->Nat
 |none=>0
 |some _=>1
def LX{n o}(h:tkf o=0):tbc n o= .nl:=by
 cases o with
 |none=>rfl
 |some y=>cases h
def P1{n o}(h:0<tkf o):tbc n o= .v n (JP n (o.getD z0)):=by
 cases o with
 |none=>exact absurd h (RE 0)
 |some y=>rfl
def jM{o}(h:o=none):tkf o=0:=by rw[h];rfl
def jN{o}(h:o≠none):0<tkf o/\o=some (o.getD z0):=by
 cases o with
 |none=>exact absurd rfl h
 |some y=>exact⟨Nat.one_pos,rfl⟩
def JL{n}{t f:Prop}(h:0<n):AAT n t f=f:=propext ⟨λhh=>hh.f,λhh=>⟨λh0=>A0,hh⟩⟩
def T9{t s b z q}:(∃e el,(⟨.slice t,s,b,z,q⟩:TE)=e/\e.d=TD.slice el)=True:=eq_true ⟨_,_,rfl,rfl⟩
attribute [go_sem] Qe A6E Qf
section
variable{P:Pc}(hv:LK P)(hc:HN P 0)
def Qg{x}(hx:T P 0 x):O1 P.n x<=P.n/\T P (O1 P.n x) x/\(O1 P.n x<P.n->x (O1 P.n x)≠0):=by
 obtain⟨a1,a2,a3,a4⟩:=tV (x:=x) P.n 0;unfold O1;exact⟨A0,⟨λk hk=>a3 k (AE k) hk,λk _ h2=>hx.r k (AE k) h2,hx.t⟩,λh=>a4 A0⟩
def AJP{x d}(hd:d<=P.n)(hx:T P d x)(h:d<P.n->x d≠0):O1 P.n x=d:=by
 obtain⟨a1,a2,a3,a4⟩:=tV (x:=x) P.n 0;unfold O1;rcases GR (oF x P.n 0) d with q|q|q
 ·exact absurd (hx.z _ q) (a4 A0)
 ·exact q
 exact absurd (a3 d (AE d) q) (h A0)
def AJQ{x d}(hd:d<=P.n)(hx:T P d x):d<=O1 P.n x:=by
 obtain⟨a1,a2,a3,a4⟩:=tV (x:=x) P.n 0;unfold O1;apply AN;intro q;exact absurd (hx.z _ A0) (a4 A0)
def uL{t x d}(hd:d<=P.n)(hx:T P d x):dH P t x=T8 (mK P) t P.n (P.n-d) x:=by
 have:=uF (rd:=mK P) (t:=t) (x:=x) (n:=P.n) d (P.n-d) A0 (λj _ h2=>hx.z j A0);rw[show P.n-d+d=P.n by omega]at this;exact this
def A6G{t x}(hx:T P 0 x)(h:O1 P.n x=P.n\/t (O1 P.n x)=none):dH P t x=(O1 P.n x,x):=by
 obtain⟨h1,h2,h3⟩:=Qg hx;obtain⟨d,hd⟩:=EK (O1 P.n x);rw[hd]at h h1 h2 h3 ⊢;rw[uL h1 h2];by_cases e:d=P.n
 ·rw[e,CM,T8]
 obtain⟨f,hf⟩:∃f,P.n-d=f+1:=⟨P.n-d-1,A0⟩;have e2:P.n-(f+1)=d:=A0;rw[hf,XO (by rw[e2];exact h3 A0) (by rw[e2];exact h.resolve_left e),e2]
include hv hc
theorem A1F{t}(hG:ZX P t){x y}(hx:T P 0 x)(hd:O1 P.n x<P.n)(hy:t (O1 P.n x)=some y):
  dH P t (mK P (O1 P.n x) y x)=dH P t x/\T P (O1 P.n x+1) (mK P (O1 P.n x) y x):=by
 obtain⟨h1,h2,h3⟩:=Qg hx;obtain⟨d,WZ⟩:=EK (O1 P.n x);rw[WZ]at hd hy h1 h2 h3 ⊢;obtain⟨y1,y2,y3⟩:=hG d y hy;have hT:=(gR hv hc d y x hd y2 y3 h2).2;refine⟨?_,hT⟩;rw[uL A0 hT,uL h1 h2];have e2:P.n-(P.n-(d+1)+1)=d:=A0;have:=V2 (rd:=mK P) (t:=t) (n:=P.n) (f:=P.n-(d+1)) (x:=x) (y:=y) (by rw[e2];exact h3 hd) (by rw[e2];exact hy);rw[e2]at this;rw[show P.n-d=P.n-(d+1)+1 by omega,this]
theorem ADP{t}(hG:ZX P t){x}(hx:T P 0 x):O1 P.n (dH P t x).2=(dH P t x).1:=by
 obtain⟨i1,i2,i3⟩:=mM hv hc hG hx;exact AJP i1 i2 (λh=>(i3 h).2)
end
section
variable(U:C2)(pw:D4)(cj:E6)
set_option maxRecDepth 20000 in
set_option maxHeartbeats 4000000 in
def Ax(h:BW U pw cj)(hc:HN (pc U pw cj) 0)(t)(hG:ZX (pc U pw cj) t)(a)(ha:T (pc U pw cj) 0 a)(nx H ids L7)(LF:H ids=some [AU U pw cj,.h L7 0 U.length])(J7:H L7=some (qY U.length t)):AC prog 148 nx H [.q ids 0,vi U.length a] (λ_ H' r=>r=vi U.length (dH (pc U pw cj) t a).2/\H'=H):=by
 have Q4:=h.1.1
 have hv:=h.val
 refine CF AY func148 rfl AP ntmps148 results148 (λGM cX=>?_)
 refine Fo LF J7 ?_;refine A6 λN1 CW=>sQ λN hN=>?_;refine jJ LF J7 ?_
 refine AC.pure (.of (V3 U.length A0 a)) ?_;(try simp-dsimp-implicitDefEqProofs(maxSteps:=800000) (disch:=omega)only[go_sem,eq_self,T9,CB,ints,JL,AU,P1,LX,vi,LF,J7])
 apply hN;refine AA<|AM (α:=V) (λx=>sl 96 [(0,.q ids 0),(1,vi U.length x),(5,.i .i64 (O1 U.length x))]) (λ_=>H) (λx m=>T (pc U pw cj) 0 x/\dH (pc U pw cj) t x=dH (pc U pw cj) t a) (λx=>U.length-O1 U.length x) (a) ?_ ?_ (λ_ _ h=>h) ?_
 ·exact⟨ha,rfl⟩
 ·exact gI
 rintro u m ⟨hu,hI⟩
 dsimp only at hu hI ⊢
 have zO:=Qg hu
 obtain⟨d,hd⟩:=EK (O1 U.length u)
 have hle:d<=U.length:=by rw[<-hd];exact zO.1
 have M4:=λy=>A1F hv hc hG (y:=y) hu
 have iK:=A6G (t:=t) hu
 have AJR:=zO.2.2
 have PN:(pc U pw cj).n=U.length:=rfl
 rw[PN,hd]at M4 iK AJR
 rw[hd]
 by_cases hb:t d=none
 ·have iU:=jM hb;simp only[vi];refine BH ?_;refine A6 λN2 DN=>sQ λN hN=>?_;refine jJ LF J7 ?_
  refine J5.mk' (λh1=>?_) (λh1=>?_)
  ·try simp only[cn]at h1
   refine jJ LF J7 ?_
   apply hN;refine AK ?_ ?_<;>intro h2
   ·first|done|(cases h2)|(simp at h2)
   apply AO;apply CW;refine Fo LF J7 ?_;refine BQ ?_;exact⟨_,λ_ _ h=>h,by rw[<-hI,iK (.inr hb)];rfl,rfl⟩
  try simp only[cn]at h1
  refine jJ LF J7 ?_
  apply hN;refine DJ rfl ?_;apply AO;apply CW;refine Fo LF J7 ?_;refine BQ ?_;exact⟨_,λ_ _ h=>h,by rw[<-hI,iK (.inr hb)];rfl,rfl⟩
 obtain⟨iU,hy⟩:=jN hb
 obtain⟨y,hyy⟩:=EK ((t d).getD z0)
 rw[hyy]at hy
 simp only[vi];refine BH ?_;refine A6 λN3 DO=>sQ λN hN=>?_;refine jJ LF J7 ?_
 refine J5.mk' (λh3=>?_) (λh3=>?_)
 ·try simp only[cn]at h3
  refine jJ LF J7 ?_
  apply hN;refine AK ?_ ?_<;>intro h4
  ·obtain⟨s1,s2⟩:=M4 y A0 hy;have gP:=(hG d y hy).2.1.mono hv (AE d);have hur:=hu.r d (AE d) (show d<U.length by omega);have huo:=FQ (h.2.1 d A0);have Ak:(pc U pw cj).o d=U.getD d 0:=rfl;have hz:mK (pc U pw cj) d y u d=0:=s2.z d A0;have hsT:=s2.mono hv (AE _);have hsl:=AJQ (P:=pc U pw cj) (show d+1<=U.length by omega) s2;rw[PN]at hsl;apply AF;apply DO;refine A6 λN4 FD=>AA<|A6 λN hN=>?_;refine C9 AY AP 34 AP ?_
   (try simp-dsimp-implicitDefEqProofs(maxSteps:=800000) (disch:=omega)only[go_sem,BD,AR,B4,BE,AT,AS,eq_self,T9,CB,GJ,ES,ET,ints,JL,AU,P1,LX,vi,DV,LF,J7,hyy]);refine⟨_,.of (NL h 0 hc y gP (U.getD d 0-u d) A0 A0),?_⟩;refine jJ LF J7 ?_
   refine⟨_,.of ((PE U pw cj h 0 hc (rep (M (pc U pw cj) 0) y (U.getD d 0-u d).toNat) u ((CS hv hc).rep gP _) hu).pure),?_⟩;refine jJ LF J7 ?_
   rw[show M (pc U pw cj) 0 (rep (M (pc U pw cj) 0) y (U.getD d 0-u d).toNat) u=mK (pc U pw cj) d y u from rfl];refine jJ LF J7 ?_
   apply hN;refine Fo LF J7 ?_;refine AK ?_ ?_<;>intro h5
   ·exact absurd hz h5
   apply AF;apply FD;apply rQ;simp-dsimp-implicitDefEqProofs(maxSteps:=800000) (disch:=omega)only[go_sem,eq_self,T9,CB,ints,JL,AU,P1,LX,vi,LF,J7];refine AC.pure (.of (V3 U.length A0 (mK (pc U pw cj) d y u))) ?_;(try simp-dsimp-implicitDefEqProofs(maxSteps:=800000) (disch:=omega)only[go_sem,eq_self,T9,CB,ints,JL,AU,P1,LX,vi,LF,J7])
   refine BB (mK (pc U pw cj) d y u) ?_ ?_ ?_
   ·simp(disch:=omega) [EJ,EN,sl,DV,ints,rows,B6,AU,DV,vi,ints,CB,LF,J7,LX,P1,JL,T9,eq_self]<;>omega
   ·exact⟨hsT,s1.trans hI⟩
   exact AI
  first|done|(cases h4)|(exact absurd h4 B5)
 try simp only[cn]at h3
 refine jJ LF J7 ?_
 apply hN;refine DJ rfl ?_;apply AO;apply CW;refine Fo LF J7 ?_;refine BQ ?_;exact⟨_,λ_ _ h=>h,by rw[<-hI,iK (.inl A0)];rfl,rfl⟩
end
end
section
noncomputable def rdw(P:Pc)(x w:V):V:=if x (O1 P.n w)=0 then x else qX P (O1 P.n w) w x
noncomputable def QY(P:Pc)(us:List V)(x:V):V:=us.foldl (rdw P) x
def Vr{P dn}(hd:∀e w,dn e=some w->O1 P.n w=e):∀f e x,oJ (qX P) dn f e x=QY P ((List.range' e f).filterMap dn) x:=by
 intro f;induction f with
 |zero=>intro e x;rfl
 | succ f ih=>
   intro e x;rw[oJ,ih,List.range'_succ];cases h:dn e with
   |none=>rw[List.filterMap_cons_none h]
   | some w=>
     rw[List.filterMap_cons_some h];unfold QY;rw[K1];unfold rdw;rw[hd e w h]
def Qh{P dn}(hd:∀e w,dn e=some w->O1 P.n w=e)(x):oJ (qX P) dn P.n 0 x=QY P (LW dn P.n) x:=by
 rw[Vr hd];unfold LW;rw[List.range_eq_range']
def A6H{rd dn f}:∀k e x,(∀i,e<=i->i<e+k->dn i=none)->oJ rd dn (f+k) e x=oJ rd dn f (e+k) x:=by
 intro k;induction k with
 |zero=>intro e x _;rfl
 | succ k ih=>
   intro e x h;rw[<-DS,oJ,h e (A1 _) A0];show oJ rd dn (f+k) (e+1) x=_
   rw[ih (e+1) x (λi h1 h2=>h i A0 A0),show e+1+k=e+(k+1) by omega]
def Li{dn d x}(h0:∀e,e<=d->dn e=none):∀k,(k<=d->LW dn k=[])/\(k<=d->LW (λe=>if e=d then some x else dn e) k=[])/\(d<k->LW (λe=>if e=d then some x else dn e) k=x::LW dn k):=by
 intro k;induction k with
 |zero=>exact⟨λ_=>rfl,λ_=>rfl,λh=>A0⟩
 | succ k ih=>
   obtain⟨i1,i2,i3⟩:=ih;refine⟨λh=>?_,λh=>?_,λh=>?_⟩
   ·rw[MZ (h0 k A0)];exact i1 A0
   ·rw[MZ (by rw[if_neg A0];exact h0 k A0)];exact i2 A0
   by_cases e:k=d
   ·subst e;rw[O3 (y:=x) (by rw[if_pos rfl]),i2 (A1 _),MZ (h0 k (A1 _)),i1 (A1 _)];rfl
   cases hk:dn k with
   |none=>
    rw[MZ (by rw[if_neg e];exact hk),MZ hk];exact i3 A0
   |some y=>
    rw[O3 (y:=y) (by rw[if_neg e];exact hk),O3 hk,i3 A0];rfl
def A6I{P}(hv:LK P)(hc:HN P 0){d}(hd:d<P.n){w e}(hw:T P d w)(h1:w d=1)(he:T P 0 e){q}(hq:q<=(P.o d-e d).toNat):
    M P 0 e (rep (M P 0) w q) d=(e d+q)%P.o d:=by
  have l:=lvl hv hc;rw[(A68 hv hc hd he ((l.g d).rep hw q)).2,l.N0 hd hw h1,IW]
section
variable(U:C2)(pw:D4)(cj:E6)
set_option maxHeartbeats 4000000 in
def KG(h:BW U pw cj)(hc:HN (pc U pw cj) 0)(us)(hl:us.length<=6)(hu:∀k,k<us.length->O1 U.length (us.getD k z0)<U.length/\T (pc U pw cj) (O1 U.length (us.getD k z0)) (us.getD k z0)/\us.getD k z0 (O1 U.length (us.getD k z0))=1)(a)(ha:T (pc U pw cj) 0 a):cC prog 151 [AU U pw cj,D7 U.length us,vi U.length a] (vi U.length (QY (pc U pw cj) us a)):=by
 have Q4:=h.1.1
 have hv:=h.val
 have hg:=CS hv hc
 have hTV:=(aP U pw cj h 0 hc).1
 have PN:(pc U pw cj).n=U.length:=rfl
 have Lj:(Ft U.length us).length=us.length:=PG
 intro nx
 refine ED AY func151 rfl AP ntmps151 results151 (λcX=>?_)
 refine eY ?_;refine sQ λN hN=>?_;(try simp-dsimp-implicitDefEqProofs(maxSteps:=800000) (disch:=omega)only[go_sem,W7,PG,CB,ints,AU,vi,D7]);refine(tP a A0 _ _).mono ?_
 rintro m1 H1 r1 (⟨yL,rfl,g1,g2,rfl⟩|⟨h0,rfl,rfl⟩)
 ·(try simp-dsimp-implicitDefEqProofs(maxSteps:=800000) (disch:=omega)only[go_sem,ints,AU,vi,D7])
  apply hN;refine A6 λN1 CW=>Aq (WJ U.length Q4 us A0 (λk hk=>(hu k hk).1)) ?_;refine AA<|AM (α:=Nat×V) (λx=>sl 34 [(0,AU U pw cj),(1,D7 U.length us),(7,.h yL 0 U.length),(13,ints (Ft U.length us)),(14,.i .i64 us.length),(15,.i .i64 x.1)]) (λx=>CJ DD yL (some (JP U.length x.2))) (λx m=>(x.1<=us.length/\nx<=yL/\yL<m)/\T (pc U pw cj) 0 x.2/\QY (pc U pw cj) (us.drop x.1) x.2=QY (pc U pw cj) us a) (λx=>us.length-x.1) ((0,a)) ?_ ?_ (λ_ _ h=>h) ?_
  ·exact⟨⟨AE _,AI,AI⟩,ha,rfl⟩
  ·simp(disch:=omega) [EJ,EN,sl,AU,ints,rows,B6,vi,D7,PG]
  rintro⟨k,e⟩ m ⟨⟨hk,gL,hm⟩,he,hI⟩;dsimp only at hk gL hm he hI ⊢;simp only[AU,D7];refine BH ?_;refine eY ?_;refine A6 λN2 DN=>AK ?_ ?_<;>intro h1
  ·obtain⟨w,hw⟩:=EK (us.getD k z0);obtain⟨d,hd⟩:=EK (O1 U.length w);obtain⟨w1,w2,w3⟩:=hu k A0;rw[hw,hd]at w1 w2 w3;have hwd:O1 U.length (us.getD k z0)=d:=by rw[hw,hd]
   have uM:=w2.mono hv (AE d);have her:=he.r d (AE d) (show d<U.length by omega);have huo:=FQ (h.2.1 d w1);have Ak:(pc U pw cj).o d=U.getD d 0:=rfl;have hdp:us.drop k=w::us.drop (k+1):=by
    rw[<-hw,A5,A9 A0];exact DL A0
   have M4:QY (pc U pw cj) (us.drop k) e=QY (pc U pw cj) (us.drop (k+1)) (rdw (pc U pw cj) e w):=by rw[hdp];rfl
   have AOP:rdw (pc U pw cj) e w=if e d=0 then e else qX (pc U pw cj) d w e:=by unfold rdw;rw[PN,hd]
   have AOQ:=λq hq=>A6I hv hc (e:=e) (show d<(pc U pw cj).n from w1) w2 w3 he (q:=q) hq
   apply AF;apply DN;refine A6 λN3 DO=>AA<|sQ λN hN=>?_;simp-dsimp-implicitDefEqProofs(maxSteps:=800000) (disch:=omega)only[go_sem,W7,PG,CB,ints,AU,vi,D7,hwd];apply hN;refine AA<|AM (α:=Nat×V) (λx=>sl 34 [(0,AU U pw cj),(1,D7 U.length us),(7,.h yL 0 U.length),(8,.i .i64 k),(9,.i .i64 d),(13,ints (Ft U.length us)),(14,.i .i64 us.length),(15,.i .i64 k)]) (λx=>CJ DD yL (some (JP U.length x.2))) (λx m=>(x.1<=(U.getD d 0-e d).toNat/\yL<m)/\(e d=0->x.1=0)/\x.2=M (pc U pw cj) 0 e (rep (M (pc U pw cj) 0) w x.1)) (λx=>(U.getD d 0-e d).toNat-x.1) ((0,e)) ?_ ?_ (λ_ _ h=>h) ?_
   ·exact⟨⟨AE _,AI⟩,λ_=>rfl,(hg.r1 he).symm⟩
   ·simp(disch:=omega) [EJ,EN,sl,AU,ints,rows,B6,vi,D7,PG]
   rintro⟨q,e2⟩ m2 ⟨⟨hq,Q8⟩,eV,dZ⟩;dsimp only at hq Q8 eV dZ ⊢;simp only[AU,D7];refine BH ?_;have hq9:=AOQ q hq;rw[<-dZ,Ak]at hq9;have A1G:T (pc U pw cj) 0 e2:=by rw[dZ];exact hg.cl he (hg.rep uM q)
   refine A6 λN4 FD=>eY ?_;refine AK ?_ ?_<;>intro h2
   ·have CP:e d≠0:=λh0=>by
     rw[eV h0,h0]at hq9;simp at hq9;exact h2 hq9
    have HX:q+1<=(U.getD d 0-e d).toNat:=by
     apply AN;intro hn;have:e d+(q:Int)=U.getD d 0:=A0;rw[this,LU]at hq9;exact h2 hq9
    apply AF;apply FD;apply AA;apply rQ;simp-dsimp-implicitDefEqProofs(maxSteps:=800000) (disch:=omega)only[go_sem,W7,PG,CB,ints,AU,vi,D7,NM,hw];refine(hTV _ _ yL e2 w (AD _ _ _) A1G uM).CD ?_;rintro m3 H3 r3 U5 rfl;rw[sU hv A1G uM];(try simp-dsimp-implicitDefEqProofs(maxSteps:=800000) (disch:=omega)only[go_sem,W7,PG,CB,ints,AU,vi,D7])
    refine BB (q+1,M (pc U pw cj) 0 e2 w) ?_ ?_ ?_
    ·exact GD
    ·have g3:M (pc U pw cj) 0 e2 w=M (pc U pw cj) 0 e (rep (M (pc U pw cj) 0) w (q+1)):=by rw[dZ,hg.ac he (hg.rep uM q) uM];rfl
     first|exact g3|exact⟨λh0=>absurd h0 CP,g3⟩|exact⟨⟨AI,AI⟩,λh0=>absurd h0 CP,g3⟩|exact⟨AI,λh0=>absurd h0 CP,g3⟩|exact⟨AI,g3⟩
    exact AI
   apply AO;apply DO;apply rQ;simp-dsimp-implicitDefEqProofs(maxSteps:=800000) (disch:=omega)only[go_sem,W7,PG,CB,ints,AU,vi,D7];refine BB (k+1,e2) ?_ ?_ ?_
   ·exact GD
   ·have g3:QY (pc U pw cj) (us.drop (k+1)) e2=QY (pc U pw cj) us a:=by
     rw[<-hI,M4,AOP];congr 1
     by_cases h0:e d=0
     ·rw[if_pos h0,dZ,eV h0];exact hg.r1 he
     rw[if_neg h0,dZ];unfold qX;rw[Ak];have hz:e2 d=0:=h2;rw[hz]at hq9;have hqq:q=(U.getD d 0-e d).toNat:=by
      apply AN;intro hn;have HX:e d+(q:Int)<U.getD d 0:=A0;rw[CV A0 HX]at hq9;omega
     rw[hqq]
    first|exact⟨⟨AI,AI,AI⟩,A1G,g3⟩|exact⟨AI,A1G,g3⟩|exact⟨A1G,g3⟩
   exact AI
  apply AO;apply CW;refine eY ?_;refine BQ ?_;rw[show k=us.length by omega,JD]at hI
  have hI2:e=QY (pc U pw cj) us a:=hI;rw[<-hI2];exact Own.vi (AD _ _ _) A0 A0
 (try simp-dsimp-implicitDefEqProofs(maxSteps:=800000) (disch:=omega)only[go_sem,ints,AU,vi,D7])
 apply hN;refine A6 λN5 ID=>Aq (WJ U.length Q4 us A0 (λk hk=>(hu k hk).1)) ?_;refine AA<|AM (α:=Nat) (λx=>sl 34 [(0,AU U pw cj),(1,D7 U.length us),(7,.v 0 []),(13,ints (Ft U.length us)),(14,.i .i64 us.length),(15,.i .i64 0)]) (λ_=>DD) (λx m=>True) (λx=>0) (0) ?_ ?_ (λ_ _ h=>h) ?_
 ·trivial
 ·simp(disch:=omega) [EJ,EN,sl,AU,ints,rows,B6,vi,D7,PG]
 rintro k m hk
 simp only[AU,D7];refine BH ?_;have Xh:us.length=0:=by
  apply AN;intro hn;have:=(hu 0 A0).1;omega
 refine eY ?_;refine A6 λN6 OR=>AK ?_ ?_<;>intro h3
 ·exfalso;omega
 apply AO;apply ID;refine eY ?_;refine BQ ?_;exact Own.vi0 h0
def A1H(h:BW U pw cj)(hc:HN (pc U pw cj) 0){t}(hG:ZX (pc U pw cj) t)(j)(hj:j<=U.length):∀d z,dG (qX (pc U pw cj)) t U.length j d=some z->U.length-j<=d/\d<U.length/\T (pc U pw cj) d z/\z d=1:=by
 have hv:=h.val;have l:=lvl hv hc;have:=(A19 hv hc (cJ hv hc) (l.wZ 0) (t:=t) (λd y hy=>⟨(hG d y hy).1,l.le (AE d) (hG d y hy).2.1,(hG d y hy).2⟩) j hj).1;intro d z hz;obtain⟨a1,a2,a3,a4,a5,_⟩:=this d z hz;exact⟨a1,a2,a4,a5⟩
def A6J(h:BW U pw cj)(hc:HN (pc U pw cj) 0){t}(hG:ZX (pc U pw cj) t)(j)(hj:j<=U.length):∀k,k<(LW (dG (qX (pc U pw cj)) t U.length j) U.length).length->O1 U.length ((LW (dG (qX (pc U pw cj)) t U.length j) U.length).getD k z0)<U.length/\T (pc U pw cj) (O1 U.length ((LW (dG (qX (pc U pw cj)) t U.length j) U.length).getD k z0)) ((LW (dG (qX (pc U pw cj)) t U.length j) U.length).getD k z0)/\(LW (dG (qX (pc U pw cj)) t U.length j) U.length).getD k z0 (O1 U.length ((LW (dG (qX (pc U pw cj)) t U.length j) U.length).getD k z0))=1:=by
 intro k hk;obtain⟨z,hz⟩:=EK ((LW (dG (qX (pc U pw cj)) t U.length j) U.length).getD k z0);have hm:z∈LW (dG (qX (pc U pw cj)) t U.length j) U.length:=by rw[<-hz,A5,A9 hk];exact BK _
 obtain⟨d,hd⟩:=A17 hm;obtain⟨a1,a2,a3,a4⟩:=A1H U pw cj h hc hG j hj d z hd;rw[hz,uK a2 a3 a4];exact⟨a2,a3,a4⟩
end
end
section
def Qi{H G nx b d}(GM:∀i,nx<=i->H i=none)(hG:∀i,i<nx->G i=H i):Le (CJ H b d) (CJ G b d):=by
 intro i e hi;by_cases hb:i=b
 ·subst hb;rw[AD]at hi ⊢;exact hi
 rw[AB _ _ hb]at hi ⊢;by_cases hn:i<nx
 ·rw[hG i hn];exact hi
 rw[GM i A0]at hi;cases hi
def A1K{H id c}(h:H id=none):Le H (CJ H id c):=by
 intro i e hi;by_cases hb:i=id
 ·subst hb;rw[h]at hi;cases hi
 rw[AB _ _ hb];exact hi
def OwZ(n nx DI:Nat)(H H':HP)(r:AV)(X:List V):Prop:=OwS n nx DI H H' r X\/(X=[]/\r= .nl/\H'=H)
def OwZ.vw{n nx DI H H' r X}(h:OwZ n nx DI H H' r X):Vw H' r (D7 n X):=by
 rcases h with h|⟨rfl,rfl,rfl⟩
 ·exact h.vw
 exact .nl
def Qj{P f xs n X}(h:∀nx,AC P f nx DD xs (λDI H' r=>OwZ n nx DI DD H' r X)):DZ P f xs (D7 n X):=
 .A65 (UZ _ _) λnx=>(h nx).mono λ_ _ _ q=>q.vw
def AC.frL{P f nx n H xs X}(h:AC P f nx H xs (λDI H' r=>OwZ n nx DI H H' r X)):AC P f nx H xs (λ_ H' r=>r=D7 n X/\H'=H):=by
 refine A13 h.1 λGM=>⟨h.1,λL Av w us a b c=>(h.2 L Av w us a b c).mono λe w' ⟨u,r,L',DI,H',h1,h2,h3,h4,h5,h6,h7,h8⟩=>?_⟩
 rcases h2 with ⟨id,rfl,i1,i2,rfl⟩|⟨rfl,rfl,rfl⟩
 ·have g1:eL (CJ H id (some (X.map (vi n)))) (CJ (CJ H id (some (X.map (vi n)))) id none):=eL.del;have g2:Fz (CJ H id (some (X.map (vi n)))) (CJ (CJ H id (some (X.map (vi n)))) id none) (.h id 0 X.length) (D7 n X):=Fz.IY (AD _ _ _) B5;have e2:CJ (CJ H id (some (X.map (vi n)))) id none=H:=by
   funext i
   by_cases q:i=id
   ·subst q;rw[AD,GM i i1]
   rw[AB _ _ q,AB _ _ q]
  rw[e2]at g1 g2;exact⟨u,_,L',DI,H,h1,⟨rfl,rfl⟩,h3,h4,h5,h6.fz g1,⟨h7.le,h7.os,h7.tape,h7.output,h7.size,h7.BV,λb hb hl=>h7.old b hb (g1.lb hl)⟩,g2.sound h6 g1 h8⟩
 have g1:eL H' H':=λq LI hq=>⟨LI,hq,rfl,λk x y h1 h2=>by rw[h1]at h2;cases h2;exact .refl _⟩
 exact⟨u,_,L',DI,H',h1,⟨rfl,rfl⟩,h3,h4,h5,h6,h7,(Fz.nl:Fz H' H' .nl (.v 0 [])).sound h6 g1 h8⟩
def QA:(∀z∈([]:List AV),one z=true)=True:=eq_true λz hz=>by cases hz
def RX{n us}:(∀z∈List.map (vi n) us,one z=true)=True:=eq_true λz hz=>by
 obtain⟨a,_,rfl⟩:=AQ.1 hz;rfl
def ci1{d}:((d+1:Nat):Int)-1=(d:Int):=A0
section
variable(U:C2)(pw:D4)(cj:E6)
def U0(hn:U.length<=1000)(nx H):AC prog 74 nx H [AU U pw cj] (λDI H' r=>∃ids L7,r= .q ids 0/\(nx<=L7/\nx<=ids/\ids<DI/\L7<DI/\ids≠L7)/\H'=CJ (CJ H L7 (some (qY U.length (λ_=>none)))) ids (some [AU U pw cj,.h L7 0 U.length])):=by
 refine CF AY func74 rfl AP ntmps74 results74 (λGM cX=>?_)
 refine Q9 ?_;refine Q9 ?_;refine BQ ?_;rw[A6F]
 exact⟨_,Le.refl _,_,_,rfl,⟨A0,A0,A0,A0,A0⟩,rfl⟩
noncomputable def aX(P:Pc)(t:Nat->Option V)(r:Nat):List V:=LW (dG (qX P) t P.n (P.n-r)) P.n
def Vs(h:BW U pw cj)(hc:HN (pc U pw cj) 0){t}(hG:ZX (pc U pw cj) t){d}(hd:d<U.length):
    (t d=none->aX (pc U pw cj) t d=aX (pc U pw cj) t (d+1))/\(∀y,t d=some y->aX (pc U pw cj) t d=QY (pc U pw cj) (aX (pc U pw cj) t (d+1)) y::aX (pc U pw cj) t (d+1)):=by
  have PN:(pc U pw cj).n=U.length:=rfl;obtain⟨j,hj⟩:=EK (U.length-(d+1));have e1:U.length-d=j+1:=A0;have e2:U.length-1-j=d:=A0;have fX:=A1H U pw cj h hc hG j A0;obtain⟨D,hD⟩:=EK (dG (qX (pc U pw cj)) t U.length j);unfold aX;rw[PN,e1,hj,dG,e2];rw[hD]at fX ⊢;refine⟨λh0=>by rw[h0],λy hy=>?_⟩;rw[hy];dsimp only;have IA:∀e,e<=d->D e=none:=λe he=>by
    cases hq:D e with
    |none=>rfl
    |some z=>have:=(fX e z hq).1;omega
  rw[(Li IA U.length).2.2 hd];congr 1
  have h1:=A6H (rd:=qX (pc U pw cj)) (dn:=D) (f:=j) (d+1) 0 y (λi _ h2=>IA i A0);rw[BS,show j+(d+1)=U.length by omega]at h1;rw[show U.length-j=d+1 by omega,<-h1];exact Qh (P:=pc U pw cj) (λe w he=>by
    obtain⟨a1,a2,a3,a4⟩:=fX e w he;exact uK (P:=pc U pw cj) a2 a3 a4) y
def A1L{t}:aX (pc U pw cj) t U.length=[]:=by
 unfold aX;have PN:(pc U pw cj).n=U.length:=rfl;rw[PN,CM];have:∀k,LW (dG (qX (pc U pw cj)) t U.length 0) k=[]:=by
  intro k;induction k with
  |zero=>rfl
  |succ k ih=>rw[MZ (by rfl)];exact ih
 exact this _
set_option maxRecDepth 20000 in
set_option maxHeartbeats 4000000 in
def XP(h:BW U pw cj)(hc:HN (pc U pw cj) 0)(t)(hG:ZX (pc U pw cj) t)(nx H ids L7)(LF:H ids=some [AU U pw cj,.h L7 0 U.length])(J7:H L7=some (qY U.length t)):AC prog 77 nx H [.q ids 0] (λDI H' r=>OwZ U.length nx DI H H' r (aX (pc U pw cj) t 0)):=by
 have Q4:=h.1.1
 have hv:=h.val
 have M4:=λd hd=>Vs U pw cj h hc hG (d:=d) hd
 have hR:=λr=>A6J U pw cj h hc hG (U.length-r) (Nat.sub_le _ _)
 have hlen:=λr=>uA (dn:=dG (qX (pc U pw cj)) t U.length (U.length-r)) (k:=U.length)
 have AJS:=A1L U pw cj (t:=t)
 obtain⟨W,hW⟩:=EK (aX (pc U pw cj) t)
 have hWe:∀r,LW (dG (qX (pc U pw cj)) t U.length (U.length-r)) U.length=W r:=λr=>by rw[<-hW];rfl
 simp only[hWe]at hR hlen
 rw[hW]at M4 AJS
 refine CF AY func77 rfl AP ntmps77 results77 (λGM cX=>?_)
 have AOR:ids<nx:=by
  apply AN;intro hn;rw[GM ids A0]at LF;cases LF
 have AOS:L7<nx:=by
  apply AN;intro hn;rw[GM L7 A0]at J7;cases J7
 refine V5 LF J7 ?_;refine V5 LF J7 ?_;refine A6 λN1 CW=>V5 LF J7 ?_;refine AA<|AM (α:=Nat×Option Nat) (λx=>sl 42 [(0,.q ids 0),(3,oA x.2 (W x.1).length),(4,.i .i64 ((x.1:Int)-1))]) (λx=>oH H x.2 ((W x.1).map (vi U.length))) (λx m=>(x.1<=U.length/\nx<=m)/\(x.2=none->W x.1=[])/\(∀id,x.2=some id->nx<=id/\id<m)) (λx=>x.1) ((U.length,none)) ?_ ?_ (λ_ _ h=>h) ?_
 ·exact⟨⟨A1 _,AI⟩,λ_=>AJS,λid GF=>(by cases GF)⟩
 ·simp(disch:=omega) [EJ,EN,sl,oA,DV]<;>omega
 rintro⟨r,(_|id)⟩ m ⟨⟨hr,hm⟩,lG,GF⟩
 all_goals dsimp only at hr hm lG GF
 all_goals by_cases hb:t (r-1)=none
 ·dsimp only[oA,oH];have uM:=lG rfl;refine A6 λN2 DN=>V5 LF J7 ?_;refine AK ?_ ?_<;>intro h1
  ·obtain⟨d,rfl⟩:∃d,r=d+1:=⟨r-1,A0⟩;simp only[D6]at hb;have iU:=jM hb;have hs:=(M4 d A0).1 hb;apply AF;apply DN;refine A6 λN3 DO=>AA<|V5 LF J7 ?_;refine AK ?_ ?_<;>intro h2
   ·first|done|(cases h2)|(exact absurd h2 B5)
   apply AF;apply DO;refine yU LF J7 ?_;refine BB (d,none) ?_ ?_ ?_
   ·simp(disch:=omega) [EJ,EN,sl,oA,DV,hs,uM,FP]<;>omega
   ·exact⟨⟨AI,AI⟩,λ_=>by dsimp only;rw[hs];exact uM,λid GF=>(by cases GF)⟩
   exact AI
  apply AO;apply CW;obtain rfl:r=0:=A0;refine V5 LF J7 ?_;refine BQ ?_;rw[hW];exact⟨H,Le.refl _,.inr ⟨uM,rfl,rfl⟩⟩
 ·dsimp only[oA,oH];have uM:=lG rfl;refine A6 λN4 FD=>V5 LF J7 ?_;refine AK ?_ ?_<;>intro h3
  ·obtain⟨d,rfl⟩:∃d,r=d+1:=⟨r-1,A0⟩;simp only[D6]at hb;obtain⟨iU,hy⟩:=jN hb;obtain⟨y,hyy⟩:=EK ((t d).getD z0);rw[hyy]at hy;have hs:=(M4 d A0).2 y hy;have gP:=(hG d y hy).2.1.mono hv (AE d);apply AF;apply FD;refine A6 λN5 ID=>AA<|V5 LF J7 ?_;refine AK ?_ ?_<;>intro h4
   ·refine A6 λN hN=>C9 AY AP 12 AP ?_
    refine A1I LF J7 hyy ?_;refine((KG U pw cj h hc [] B5 (λk hk=>absurd hk B5) y gP).vi (.cons (.refl _) (.cons .nl (.cons (.refl _) .nil)))).CD ?_;rintro m1 H1 r1 SF ⟨rfl,rfl⟩;have iN:W d=[QY (pc U pw cj) [] y]:=by rw[hs,uM]
    (refine A1J LF J7 ?_);apply hN;refine yU LF J7 ?_;apply ID;refine yU LF J7 ?_;refine⟨(d,some (m1+3)),?_,(by dsimp only[oH];rw[iN];exact Qi GM (λi hi=>by exact D8)),?_,?_⟩
    ·simp(disch:=omega) [EJ,EN,sl,oA,DV,hs,uM,FP]<;>omega
    ·exact⟨⟨AI,AI⟩,λhh=>(by cases hh),λid GF=>(by cases GF;exact⟨AI,AI⟩)⟩
    exact AI
   first|done|(cases h4)|(exact absurd h4 B5)
  apply AO;apply CW;obtain rfl:r=0:=A0;refine V5 LF J7 ?_;refine BQ ?_;rw[hW];exact⟨H,Le.refl _,.inr ⟨uM,rfl,rfl⟩⟩
 ·dsimp only[oA,oH];obtain⟨i1,i2⟩:=GF id rfl;have uM:=rfl (a:=0);refine A6 λN6 OR=>V5 LF J7 ?_;refine AK ?_ ?_<;>intro h5
  ·obtain⟨d,rfl⟩:∃d,r=d+1:=⟨r-1,A0⟩;simp only[D6]at hb;have iU:=jM hb;have hs:=(M4 d A0).1 hb;apply AF;apply OR;refine A6 λN7 S6=>AA<|V5 LF J7 ?_;refine AK ?_ ?_<;>intro h6
   ·first|done|(cases h6)|(exact absurd h6 B5)
   apply AF;apply S6;refine yU LF J7 ?_;refine⟨(d,some id),?_,(by dsimp only[oH];rw[hs];exact Le.refl _),?_,?_⟩
   ·simp(disch:=omega) [EJ,EN,sl,oA,DV,hs,uM,FP]<;>omega
   ·exact⟨⟨AI,AI⟩,λhh=>(by cases hh),λid' AOT=>(by cases AOT;exact⟨AI,AI⟩)⟩
   exact AI
  apply AO;apply CW;obtain rfl:r=0:=A0;refine V5 LF J7 ?_;refine BQ ?_;rw[hW];exact⟨_,Le.refl _,.inl ⟨id,rfl,i1,A0,rfl⟩⟩
 dsimp only[oA,oH]
 obtain⟨i1,i2⟩:=GF id rfl
 have uM:=rfl (a:=0)
 refine A6 λN8 VK=>V5 LF J7 ?_;refine AK ?_ ?_<;>intro h7
 ·obtain⟨d,rfl⟩:∃d,r=d+1:=⟨r-1,A0⟩;simp only[D6]at hb;obtain⟨iU,hy⟩:=jN hb;obtain⟨y,hyy⟩:=EK ((t d).getD z0);rw[hyy]at hy;have hs:=(M4 d A0).2 y hy;have gP:=(hG d y hy).2.1.mono hv (AE d);have hl9:=hlen (d+1);apply AF;apply VK;refine A6 λN9 ZW=>AA<|V5 LF J7 ?_;refine AK ?_ ?_<;>intro h8
  ·refine A6 λN hN=>C9 AY AP 12 AP ?_
   refine A1I LF J7 hyy ?_;refine((KG U pw cj h hc (W (d+1)) A0 (λk hk=>hR (d+1) k hk) y gP).vi (.cons (.refl _) (.cons (Vw.IY (AD _ _ _) (A4 _).symm) (.cons (.refl _) .nil)))).CD ?_;rintro m1 H1 r1 SF ⟨rfl,rfl⟩;refine A1J LF J7 ?_
   apply hN;refine yU LF J7 ?_;apply ZW;refine yU LF J7 ?_;refine⟨(d,some (m1+3)),?_,(by dsimp only[oH];rw[hs];exact Qi GM (λi hi=>by exact D8)),?_,?_⟩
   ·simp(disch:=omega) [EJ,EN,sl,oA,DV,hs,uM,FP]<;>omega
   ·exact⟨⟨AI,AI⟩,λhh=>(by cases hh),λid GF=>(by cases GF;exact⟨AI,AI⟩)⟩
   exact AI
  first|done|(cases h8)|(exact absurd h8 B5)
 apply AO;apply CW;obtain rfl:r=0:=A0
 refine V5 LF J7 ?_;refine BQ ?_;rw[hW];exact⟨_,Le.refl _,.inl ⟨id,rfl,i1,A0,rfl⟩⟩
def W8(h:BW U pw cj)(hc:HN (pc U pw cj) 0)(t)(hG:ZX (pc U pw cj) t)(nx H ids L7)(LF:H ids=some [AU U pw cj,.h L7 0 U.length])(J7:H L7=some (qY U.length t)):AC prog 77 nx H [.q ids 0] (λ_ H' r=>r=D7 U.length (aX (pc U pw cj) t 0)/\H'=H):=
 (XP U pw cj h hc t hG nx H ids L7 LF J7).frL
end
end
end Go.Proofs.YtgknbnkmilddhaaGreat