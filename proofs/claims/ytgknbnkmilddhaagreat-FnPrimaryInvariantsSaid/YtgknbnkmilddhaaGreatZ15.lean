import Derived.Ground.SlsfProg
import Derived.Shelf.SlSortCmp.Whole1
import Derived.Test.YtgknbnkmilddhaaGreatProg
import Derived.Test.YtgknbnkmilddhaaGreatZ03
import Derived.Test.YtgknbnkmilddhaaGreatZ06
import Derived.Test.YtgknbnkmilddhaaGreatZ09
import Derived.Test.YtgknbnkmilddhaaGreatZ12
import Derived.Test.YtgknbnkmilddhaaGreatZ13
import Derived.Test.YtgknbnkmilddhaaGreatZ14
set_option linter.all false

open Go.Proofs.Tryz
namespace Go.Proofs.YtgknbnkmilddhaaGreat
def S4(P:Pc):Nat->Nat
 |0=>1
 |f+1=>(P.o (P.n-(f+1))).toNat*S4 P f
def Ge(P:Pc):V->Prop:=NG P (Ga P (IT P.n) (IT P.n)) (IT P.n++IT P.n)
section
variable{P:Pc}(hv:LK P)
include hv
theorem rF:∀f,f<=P.n->0<S4 P f/\∀d,P.n-f<=d->d<P.n->P.o d<=S4 P f
 |0,_=>⟨Nat.one_pos,λd h1 h2=>A0⟩
 | f +1,hf=>by
   obtain⟨h1,h2⟩:=rF f A0;have ho:=hv.o (P.n-(f+1)) A0;refine⟨Nat.mul_pos A0 h1,λd h3 h4=>?_⟩;rw[S4,EE,BG A0];by_cases e:d=P.n-(f+1)
   ·subst e;have:P.o (P.n-(f+1))*1<=P.o (P.n-(f+1))*(S4 P f:Int):=CN A0 A0;omega
   have h5:=h2 d A0 h4;have:1*(S4 P f:Int)<=P.o (P.n-(f+1))*(S4 P f:Int):=D5 A0 A0;omega
variable(hc:HN P 0)
include hc
theorem rG{x}(hx:T P 0 x)(a):∀j,rep (M P 0) (rep (M P 0) x a) j=rep (M P 0) x (a*j)
 |0=>rfl
 | j+1=>by
   show M P 0 (rep (M P 0) (rep (M P 0) x a) j) _=_
   rw[rG hx a j,<-(CS hv hc).OJ hx];rfl
theorem bJ:∀f,f<=P.n->∀x,T P (P.n-f) x->rep (M P 0) x (S4 P f)=z0
 |0,_,x,hx=>by rw[jK x hx];exact(CS hv hc).iZ (CS hv hc).e0
 | f+1,hf,x,hx=>by
   have cH:=hx.mono hv (AE _);obtain⟨q1,q2⟩:=N0 hv (show P.n-(f+1)<P.n by omega) hx (P.o (P.n-(f+1))).toNat;have ho:=hv.o (P.n-(f+1)) A0;have hz:rep (M P 0) x (P.o (P.n-(f+1))).toNat (P.n-(f+1))=0:=by rw[q2,BG A0,KB]
   rw[S4,<-rG hv hc cH];exact bJ f A0 _ (by rw[show P.n-f=P.n-(f+1)+1 by omega];exact(lvl hv hc).up q1 hz)
theorem A9S:∀d l,P.n-l=d->∀y,T P l y->PH P (M P 0) z0 un l y=y
 |0,l,hd,y,hy=>by rw[PH,hd];exact(T.ge hy A0).symm
 | d+1,l,hd,y,hy=>by
   have hl:l<P.n:=A0;rw[gY hl (y:=D0 y l 0) λk hk=>(EW A0).symm,A9S d (l+1) A0 _ hy.cut];have hr:=hy.r l (A1 l) hl;show M P 0 (rep (M P 0) (un l) (y l).toNat) _=_
   rw[uU hv hc hl hy.cut _ A0,BG hr.1,sT]
theorem AK4{i}(hi:i<P.n):rep (M P 0) (un i) (P.o i).toNat=P.pw i:=by
 have g:=CS hv hc;have ho:=hv.o i hi;have g1:=CS hv (hc.mono (AE (i+1)));have tu:=O9 hv (A1 i) hi;have e1:rep (M P 0) (un i) ((P.o i).toNat-1)=D0 z0 i ((((P.o i).toNat-1:Nat)):Int):=by
  have:=uU hv hc hi (T.zero hv (i+1)) ((P.o i).toNat-1) A0;rwa [g.r1 (g.rep (tu.mono hv (AE _)) _)]at this
 have tf:T P i (D0 z0 i ((((P.o i).toNat-1:Nat)):Int)):=T.put hi (T.zero hv _) A0 A0;have e2:(P.o i).toNat=((P.o i).toNat-1)+1:=A0;rw[e2];show M P 0 (rep (M P 0) (un i) ((P.o i).toNat-1)) (un i)=_
 rw[e1,aJ hv (AE i) tf tu,YI hi];unfold wX;have u1:un i i=1:=EM;rw[EM,u1,if_pos A0,show D0 (un i) i 0=z0 by rw[un,JW,QI],JW,QI];show D0 (M P (i+1) (P.pw i) (M P (i+1) (IN P (M P (i+1)) i z0) z0)) i _=_
 rw[lS hv g1,g1.l1 g1.e0,g1.r1 (hv.pw i hi)];exact MH (by rw[(hv.pw i hi).z i A0];omega)
theorem A6V{i j}(Q3:i<j)(hj:j<P.n):M P 0 (un j) (un i)=M P 0 (un i) (P.cj i j):=by
 have g:=CS hv hc;have hi:i<P.n:=A0;have ho:=hv.o i hi;have g1:=CS hv (hc.mono (AE (i+1)));have tu:=O9 hv (A1 i) hi;have tj:T P (i+1) (un j):=O9 hv A0 hj;have tc:=hv.cj i j Q3 hj;have e1:=uU hv hc hi tc 1 A0;rw[g.iZ (tu.mono hv (AE _))]at e1;rw[e1,aJ hv (AE i) (tj.mono hv (LN i)) tu,YI hi];unfold wX;have u1:un i i=1:=EM;have u0:un j i=0:=tj.z i A0;rw[u0,u1,if_neg A0,show D0 (un i) i 0=z0 by rw[un,JW,QI],show D0 (un j) i 0=un j from MH u0];show D0 (M P (i+1) (IN P (M P (i+1)) i (un j)) z0) i _=_
 have e2:IN P (M P (i+1)) i (un j)=P.cj i j:=by
  have u2:un j j=1:=EM;rw[aL hv g1 Q3 hj (O9 hv (A1 j) hj),u2,show D0 (un j) j 0=z0 by rw[un,JW,QI],lS hv g1];show M P (i+1) (rep (M P (i+1)) (P.cj i j) 1) z0=_
  rw[g1.iZ tc,g1.r1 tc]
 rw[e2,g1.r1 tc];rfl
theorem YW:NO (T P 0) (M P 0) (Ge P):=by
 have hu:=XS hv;exact NG.wZ hv hc (yX hv hc hu hu) (uR hu hu)
theorem uW{b}(hb:T P 0 b):fC P (Ge P) b:=by
 refine AE5 hv hc (YW hv hc) (λb hb=>NG.cj (List.mem_append_left _ hb)) hb
theorem A2A{x y}(hx:T P 0 x)(hy:T P 0 y):Lu P (Ge P) x y:=by
 have hu:=XS hv;refine Lu.all hv hc (YW hv hc) (λb hb=>uW hv hc hb) hu hu (λa ha b hb=>?_) (us:=IT P.n) (vs:=IT P.n) (by rw[<-jY hv hc];exact hx) (by rw[<-jY hv hc];exact hy);exact⟨mL P a b,NG.of (jZ.2 ⟨a,ha,b,hb,rfl⟩),(mU hv hc (hu a ha) (hu b hb)).2⟩
theorem A9T{x}(hx:Ge P x):QB P x:=by
 have hu:=XS hv;have g:=CS hv hc;refine(hx (λx=>T P 0 x/\QB P x) ⟨λh=>h.1,⟨g.e0,.zero⟩,λ{a b} ha hb=>⟨g.cl ha.1 hb.1,?_⟩,λ{a b} ha hb e=>⟨hb,?_⟩⟩ (λc VJ=>?_) λa b ha hb=>?_).2
 ·exact((V8 hv ha.1 hb.1).add (ha.2.add hb.2)).eq λk=>A0
 ·have:=V8 hv ha.1 hb;rw[e]at this;exact(this.add ha.2).neg.eq λk=>by simp only[z0];omega
 ·obtain⟨a,ha,b,hb,rfl⟩:=jZ.1 VJ;obtain⟨h1,h2⟩:=mU hv hc (hu a ha) (hu b hb);refine⟨h1,?_⟩;have q1:=V8 hv (g.cl (hu b hb) (hu a ha)) h1;rw[h2]at q1;exact(((V8 hv (hu a ha) (hu b hb)).sub q1).sub (V8 hv (hu b hb) (hu a ha))).eq λk=>A0
 have Ij:T P 0 b:=uR hu hu b hb;obtain⟨h1,h2⟩:=MB hv hc ha.1 Ij;refine⟨h1,?_⟩;have q1:=V8 hv Ij h1;rw[h2]at q1;exact(((V8 hv ha.1 Ij).sub q1).add ha.2).eq λk=>A0
theorem A9U(hp:∀d,d<P.n->O8 (P.o d)){x}(hx:T P 0 x)(hl:QB P x):Ge P x:=by
 have g:=CS hv hc;have hS:=YW hv hc;have hu:=XS hv;have MC:RA P (Ge P) (QK P (IT P.n) (IT P.n)):=Bl hv hc hp hu hu;have hn:∀b,T P 0 b->fC P (Ge P) b:=λb hb=>uW hv hc hb
 obtain⟨hE,hEo⟩:=rF hv P.n (A1 _);have tg:=Bq hv hc hS MC hn;have co:CoR (T P 0) (M P 0) z0 (λx y=>QY P (QK P (IT P.n) (IT P.n)) x=QY P (QK P (IT P.n) (IT P.n)) y) (S4 P P.n):=
  ⟨tg,λ{a b} ha hb=>(SN hv hc hS MC (g.cl ha hb) (g.cl hb ha)).2 (A2A hv hc hb ha),hE,λ{a} ha=>by
    show QY P _ (rep (M P 0) a (S4 P P.n))=_
    rw[bJ hv hc P.n (A1 _) a (by rw[CM];exact ha)]⟩
 have hg:∀k,0<=k->k<0+P.n->T P 0 (un k):=λk _ h=>O9 hv (AE k) A0
 have kv:∀y,T P 0 y->dL (M P 0) z0 un (dM (S4 P P.n) y) P.n 0=y:=λy hy=>by
  have e:dL (M P 0) z0 un (dM (S4 P P.n) y) P.n 0=PH P (M P 0) z0 un 0 y:=by
    rw[PH,EB];refine Bj _ _ λk _ hk=>⟨?_,rfl⟩
    have hr:=hy.r k (AE k) A0;exact CV hr.1 (by have:=hEo k A0 A0;omega)
  rw[e,A9S hv hc _ _ rfl _ hy]
 have nn:∀w,T P 0 (dL (M P 0) z0 un (dM (S4 P P.n) w) P.n 0):=λw=>tg.vl _ _ hg
 have single:∀i,i<P.n->∀(c:V),(∀k,k≠i->c k=0)->∀m j,j<=i->i<j+m->j+m<=P.n->QY P (QK P (IT P.n) (IT P.n)) (dL (M P 0) z0 un c m j)=QY P (QK P (IT P.n) (IT P.n)) (rep (M P 0) (un i) (c i).toNat):=by
  intro i hi c Xn m;induction m with
  |zero=>intro j h1 h2;omega
  | succ m ih=>
    intro j h1 h2 h3;have tj:T P 0 (un j):=O9 hv (AE j) A0;have Jb:∀k,j+1<=k->k<j+1+m->T P 0 (un k):=λk _ h=>O9 hv (AE k) A0
    have n1:=tg.vl (g:=un) (x:=c) m (j+1) Jb;by_cases e:j=i
    ·subst e;have z1:=tg.vl0 (g:=un) (x:=c) m (j+1) Jb λk h4 h5=>Xn k A0
     have p:=tg.rp tj (c j).toNat;exact tg.tr (tg.l p n1 tg.ne z1) (tg.er p)
    have e0:(c j).toNat=0:=by rw[Xn j e];rfl
    show QY P _ (M P 0 (YT (M P 0) z0 (un j) (c j).toNat) _)=_
    rw[e0];exact tg.tr (tg.el n1) (ih (j+1) A0 A0 A0)
 have ker:∀w,QB P w->QY P (QK P (IT P.n) (IT P.n)) (dL (M P 0) z0 un (dM (S4 P P.n) w) P.n 0)=QY P (QK P (IT P.n) (IT P.n)) z0:=by
  intro w hw;induction hw with
  |zero=>exact tg.vl0 P.n 0 hg λk _ _=>by simp[dM]
  | gen h =>
    have AK5:∀{a b:V},T P 0 a->T P 0 b->QY P (QK P (IT P.n) (IT P.n)) (M P 0 a b)=QY P (QK P (IT P.n) (IT P.n)) b->QY P (QK P (IT P.n) (IT P.n)) a=QY P (QK P (IT P.n) (IT P.n)) z0:=λ{a b} ha hb q=>
     tg.lc hb ha g.e0 (tg.tr (co.cm hb ha) (tg.tr q (tg.sy (tg.er hb))))
    cases h with
    |pw i hi=>
     have tp:=(hv.pw i hi).mono hv (AE _);refine AK5 (nn _) tp ?_;have h1:=co.Wa (g:=un) (v:=λk=>P.o i*un i k-P.pw i k) (w:=P.pw i) P.n 0 hg;rw[kv _ tp]at h1;refine tg.tr (tg.sy h1) ?_;rw[show(λk=>P.o i*un i k-P.pw i k+P.pw i k)=λk=>P.o i*un i k from by funext k;omega];have h2:=single i hi (dM (S4 P P.n) λk=>P.o i*un i k) (λk hk=>by simp only[dM,un];rw[EW hk];simp[z0]) P.n 0 (AE _) A0 A0;refine tg.tr h2 ?_;have ui:un i i=1:=EM;have ho:=hv.o i hi;have e3:(dM (S4 P P.n) (λk=>P.o i*un i k) i).toNat=(P.o i).toNat%S4 P P.n:=by
      simp only[dM];rw[ui,NQ];have:((P.o i%(S4 P P.n:Int)).toNat:Int)=(((P.o i).toNat%S4 P P.n:Nat):Int):=by
       rw[BG (DK _ A0),Int.natCast_emod,BG A0]
      omega
     rw[e3];refine tg.tr (co.mo (hg i (AE i) A0) _) ?_;show QY P _ (rep (M P 0) (un i) (P.o i).toNat)=_
     rw[AK4 hv hc hi]
    |cj i j Q3 hj=>
     have tcj:=(hv.cj i j Q3 hj).mono hv (AE _);have tj:T P 0 (un j):=O9 hv (AE j) hj;have ti:T P 0 (un i):=O9 hv (AE i) A0;refine AK5 (nn _) tcj ?_;have h1:=co.Wa (g:=un) (v:=λk=>un j k-P.cj i j k) (w:=P.cj i j) P.n 0 hg;rw[kv _ tcj]at h1;refine tg.tr (tg.sy h1) ?_;rw[show(λk=>un j k-P.cj i j k+P.cj i j k)=un j from by funext k;omega,kv _ tj];refine tg.lc ti tj tcj ?_;rw[<-A6V hv hc Q3 hj];exact co.cm ti tj
  | Fa s t _ _ h1 h2=>
    rename_i a b _ _;have q:=co.Wa (g:=un) (v:=λk=>s*a k) (w:=λk=>t*b k) P.n 0 hg;have k1:=co.AK3 (g:=un) (λk hk=>O9 hv (AE k) hk) h1 s;have k2:=co.AK3 (g:=un) (λk hk=>O9 hv (AE k) hk) h2 t;exact tg.tr q (tg.tr (tg.cg (nn _) tg.ne (nn _) tg.ne k1 k2) (tg.el tg.ne))
 have:=ker x hl;rw[kv x hx]at this;have e0:QY P (QK P (IT P.n) (IT P.n)) z0=z0:=(Ra hv hc hS MC g.e0).2 hS.e;exact(Ra hv hc hS MC hx).1 (this.trans e0)
end
end Go.Proofs.YtgknbnkmilddhaaGreat
namespace Go.Proofs.YtgknbnkmilddhaaGreat
def Wb(f:Nat->Int):Nat->List V
 |0=>[z0]
 |k+1=>(List.range (f k).toNat).flatMap λc:Nat=>(Wb f k).map λv=>D0 v k (c:Int)
def k7{f}:∀k v,v∈Wb f k↔(∀i,i<k->0<=v i/\v i<f i)/\∀i,k<=i->v i=0
 |0,v=>by
  rw[Wb,BY];exact⟨λh=>⟨λi hi=>A0,λi _=>by rw[h];rfl⟩,λh=>funext λi=>h.2 i (AE i)⟩
 |k +1,v=>by
  rw[Wb,DM];constructor
  ·rintro⟨c,hc,hv⟩;obtain⟨w,hw,rfl⟩:=AQ.1 hv;obtain⟨h1,h2⟩:=(k7 k w).1 hw;have:=B3.1 hc;refine⟨λi hi=>?_,λi hi=>by rw[EW A0];exact h2 i A0⟩;by_cases e:i=k
   ·subst e;rw[EM];omega
   rw[EW e];exact h1 i A0
  rintro⟨h1,h2⟩;have h3:=h1 k A0;refine⟨(v k).toNat,B3.2 A0,AQ.2 ⟨D0 v k 0,(k7 k _).2 ⟨λi hi=>by rw[EW A0];exact h1 i A0,λi hi=>?_⟩,?_⟩⟩
  ·by_cases e:i=k
   ·subst e;exact EM
   rw[EW e];exact h2 i A0
  rw[BG h3.1,JW];exact MH rfl
def A2B{f}:∀k,(Wb f k).Nodup
 |0=>by simp[Wb]
 | k +1=>by
   rw[Wb,List.Nodup,List.pairwise_flatMap];refine⟨λc _=>?_,?_⟩
   ·rw[L3];refine I3 (λ{a b} ha hb h e=>h ?_) (A2B k);have h1:=((k7 k a).1 ha).2 k (A1 k);have h2:=((k7 k b).1 hb).2 k (A1 k);funext i
    by_cases q:i=k
    ·rw[q,h1,h2]
    have:=congrFun e i;rwa [EW q,EW q]at this
   refine LR.imp ?_;intro a b h x hx y hy e;obtain⟨x',_,rfl⟩:=AQ.1 hx;obtain⟨y',_,rfl⟩:=AQ.1 hy;have:=congrFun e k;rw[EM,EM]at this;omega
def gcN(f K:Nat):Nat:=(List.range f).countP λc=>decide (f∣K*c)
def AK6{q}(hq:0<q):∀g,(List.range (g*q)).countP (λc=>decide (q∣c))=g
 |0=>B5
 | g + 1=>by
   rw[I6,List.range_add,NI,AK6 hq g,ME];have:List.countP ((λc=>decide (q∣c))∘λx=>g*q+x) (List.range q)=1:=by
    obtain⟨p,rfl⟩:∃p,q=p+1:=⟨q-1,A0⟩;rw[List.range_succ_eq_map,JF,ME];have z:List.countP (((λc=>decide (p+1∣c))∘λx=>g*(p+1)+x)∘Nat.succ) (List.range p)=0:=by
     rw[List.countP_eq_zero];intro a ha;have ha:=B3.1 ha;simp only[Function.comp,decide_eq_true_eq];intro h;have:=(Nat.dvd_add_right (Nat.dvd_mul_left (p+1) g)).1 h;have:=FB A0 this;omega
    rw[z];simp[Nat.dvd_mul_left]
   rw[this]
def A2C{f K}(hf:0<f):gcN f K=Nat.gcd f K:=by
 have hg:0<Nat.gcd f K:=Nat.gcd_pos_of_pos_left K hf;obtain⟨q,hq⟩:=Nat.gcd_dvd_left f K;obtain⟨r,hr⟩:=Nat.gcd_dvd_right f K;have cop:Nat.Coprime q r:=by
  have h:=Nat.coprime_div_gcd_div_gcd hg;have e1:f/Nat.gcd f K=q:=MS hg hq;have e2:K/Nat.gcd f K=r:=MS hg hr;rwa [e1,e2]at h
 generalize Nat.gcd f K=g at hg hq hr
 subst hq;subst hr;have eV:0<q:=Nat.pos_of_ne_zero λe=>by subst e;simp at hf
 have h1:∀c,g*q∣g*r*c↔q∣c:=by
  intro c;rw[OC];constructor
  ·intro h;exact cop.dvd_of_dvd_mul_left (Nat.dvd_of_mul_dvd_mul_left hg h)
  intro h;exact Nat.mul_dvd_mul_left g (Nat.dvd_mul_left_of_dvd h r)
 have h2:(λc=>decide (g*q∣g*r*c))=λc=>decide (q∣c):=by funext c;simp only[h1]
 rw[gcN,h2];exact AK6 eV g
def Gf(f:Nat->Int)(K:Nat):Nat->Nat
 |0=>1
 |k+1=>gcN (f k).toNat K*Gf f K k
def Rc{f:Nat->Int}{K:Nat}:∀k,(Wb f k).countP (λv=>decide (∀i,i<k->f i∣K*v i))=Gf f K k
 |0=>by simp[Wb,Gf]
 | k + 1=>by
   rw[Wb,List.countP_flatMap,Gf];have h1:∀c∈List.range (f k).toNat,(List.countP (λv=>decide (∀i,i<k+1->f i∣K*v i))∘λc:Nat=>(Wb f k).map λv=>D0 v k (c:Int)) c=if (f k).toNat∣K*c then Gf f K k else 0:=by
    intro c hc;have hc:=B3.1 hc;simp only[Function.comp];rw[ME];have hd:f k∣(K:Int)*(c:Int)↔(f k).toNat∣K*c:=by
      have:f k=((f k).toNat:Int):=A0;rw[this,<-EE];simp only[CQ];exact Int.natCast_dvd_natCast
    split
    · rename_i q;rw[<-Rc k];refine O5 λv hv=>?_
      simp only[Function.comp,decide_eq_true_eq];constructor
      ·intro h i hi;have:=h i A0;rwa [EW A0]at this
      intro h i hi;by_cases e:i=k
      ·subst e;rw[EM];exact hd.2 q
      rw[EW e];exact h i A0
    rename_i q;rw[List.countP_eq_zero];intro v hv;simp only[Function.comp,decide_eq_true_eq];intro h;have:=h k A0;rw[EM]at this;exact q (hd.1 this)
   rw[FN h1];have h2:∀l:List Nat,(l.map λc=>if (f k).toNat∣K*c then Gf f K k else 0).sum=l.countP (λc=>decide ((f k).toNat∣K*c))*Gf f K k:=by
    intro l;induction l with
    |nil=>simp
    | cons a l ih=>
      rw[BR,List.sum_cons,ih,JF];by_cases q:(f k).toNat∣K*a
      ·simp[q,QG];omega
      simp[q]
   rw[h2];rfl
def A6W{n:Nat}{L:V->Prop}{f:Nat->Int}(hL:LtI n L)(h:Xm n L f)(hf:∀i,i<n->0<f i){A:List V}(hA:A.Nodup){li:V->V}(hs:∀y∈A,XC n (li y))
    (hi:∀y∈A,∀y'∈A,L (λk=>li y k-li y' k)->y=y') (ho:∀w,XC n w->∃y∈A,L (λk=>w k-li y k)) (K:Nat) {p:V->Bool} (hp:∀y∈A,p y=true↔L (λk=>(K:Int)*li y k)):
    A.countP p=Gf f K n:=by
  obtain⟨a,ha⟩:=h.au;let nu:V->V:=λy i=>if i<n then a.p (li y) i%f i else 0
  have dif:∀x y:V,a.p (λk=>x k-y k)=λk=>a.p x k-a.p y k:=λx y=>by
    rw[show(λk=>x k-y k)=RN 1 (-1) x y from by funext k;simp only[RN];omega,a.pl];funext k;simp only[RN];omega
  have scl:∀(s:Int) (x:V),a.p (λk=>s*x k)=λk=>s*a.p x k:=λs x=>by
    rw[show(λk=>s*x k)=RN s 0 x x from by funext k;simp only[RN];omega,a.pl];funext k;simp only[RN];omega
  have AK7:∀y∈A,∀y'∈A,nu y=nu y'->y=y':=by
    intro y hy y' Ja e;refine hi y hy y' Ja ((ha _ λk hk=>by rw[hs y hy k hk,hs y' Ja k hk];rfl).2 λi dC=>?_);have:=congrFun e i;simp only[nu,if_pos dC]at this;rw[dif];exact KA (E1.1 this)
  have Lx:∀w,w∈Wb f n↔w∈A.map nu:=by
    intro w;rw[k7,AQ];constructor
    · rintro⟨h1,h2⟩;have hw:XC n w:=λk hk=>h2 k hk
      obtain⟨y,hy,hl⟩:=ho (a.q w) (a.qs w hw);refine⟨y,hy,?_⟩;have h3:=(ha _ λk hk=>by rw[a.qs w hw k hk,hs y hy k hk];rfl).1 hl;funext i
      simp only[nu];split
      · rename_i dC;have h4:=h3 i dC;rw[dif,a.pq]at h4;have h5:=h1 i dC;have h6:=E1.2 (Int.emod_eq_zero_of_dvd h4);rw[<-h6,CV h5.1 h5.2]
      exact(h2 i A0).symm
    rintro⟨y,hy,rfl⟩;refine⟨λi dC=>?_,λi dC=>if_neg A0⟩;simp only[nu,if_pos dC];have:=hf i dC;exact⟨DK _ A0,DR _ this⟩
  have JO:(A.map nu).Nodup:=by
    rw[List.Nodup,L3];exact I3 (λ{x y} hx hy CP e=>CP (AK7 x hx y hy e)) hA
  have perm:(Wb f n).Perm (A.map nu):=(List.perm_ext_iff_of_nodup (A2B n) JO).2 Lx;rw[<-Rc,perm.countP_eq,ME];refine O5 λy hy=>?_
  rw[hp y hy,ha _ λk hk=>by rw[hs y hy k hk,MQ]];simp only[Function.comp,decide_eq_true_eq,scl];refine forall_congr' λi=>⟨λq dC=>?_,λq dC=>?_⟩
  · simp only[nu,if_pos dC];have h1:=q dC;have h2:(K:Int)*(a.p (li y) i%f i)=(K:Int)*a.p (li y) i-f i*((K:Int)*(a.p (li y) i/f i)):=by rw[P6,K0];ac_rfl
    rw[h2];exact Int.dvd_sub h1 (KY _ _)
  have h1:=q dC;simp only[nu,if_pos dC]at h1;have h2:(K:Int)*a.p (li y) i=(K:Int)*(a.p (li y) i%f i)+f i*((K:Int)*(a.p (li y) i/f i)):=by rw[P6,K0];grind
  rw[h2];exact Int.dvd_add h1 (KY _ _)
end Go.Proofs.YtgknbnkmilddhaaGreat
namespace Go.Proofs.YtgknbnkmilddhaaGreat
section
variable{P:Pc}(hv:LK P)(hc:HN P 0)(hp:∀d,d<P.n->O8 (P.o d))
include hv hc
theorem Re{f}(h:Xm P.n (QB P) f){i}(hi:i<P.n):f i∣(S4 P P.n:Int):=by
 obtain⟨a,ha⟩:=h.au;have us:XC P.n (iL i):=λt ht=>by simp only[iL];rw[if_neg A0]
 obtain⟨x,hx,hl⟩:=A9R hv hc (a.qs _ us);have h1:=A29 hv hx (S4 P P.n);rw[bJ hv hc P.n (A1 _) x (by rw[CM];exact hx)]at h1;have h2:QB P (λk=>(S4 P P.n:Int)*a.q (iL i) k):=((hl.sm (S4 P P.n)).sub h1).eq λk=>by simp only[z0];rw[K0];omega
 have h3:=(ha _ λk hk=>by rw[a.qs _ us k hk,MQ]).1 h2 i hi;rw[show(λk=>(S4 P P.n:Int)*a.q (iL i) k)=a.q (λk=>(S4 P P.n:Int)*iL i k)from ?_,a.pq]at h3
 ·simpa[iL]using h3
 rw[show(λk=>(S4 P P.n:Int)*iL i k)=RN (S4 P P.n) 0 (iL i) (iL i)from by funext k;simp only[RN];omega,a.ql];funext k;simp only[RN];omega
theorem Rf{f}(h:Xm P.n (QB P) f){i}(hi:i<P.n):0<f i/\f i<=S4 P P.n:=by
 have h1:=Re hv hc h hi;have h2:=(rF hv P.n (A1 _)).1;have h3:=h.nn i;have h4:f i≠0:=λe=>by rw[e]at h1;have:=S9.1 h1;omega
 exact⟨A0,Int.le_of_dvd A0 h1⟩
include hp
theorem uX:RA P (Ge P) (QK P (IT P.n) (IT P.n)):=Bl hv hc hp (XS hv) (XS hv)
theorem Ly{f:Nat->Int}(h:Xm P.n (QB P) f){u:List V}(hu:u=QK P (IT P.n) (IT P.n)){A:List V}(hA:A.Nodup)(hm:∀y,y∈A↔T (J0 P u) 0 y)(K:Nat){p:V->Bool}(SJ:∀y∈A,p y=true↔rep (M (J0 P u) 0) y K=z0):
  A.countP p=Gf f K P.n:=by
 subst hu;have g:=CS hv hc;have hS:=YW hv hc;have MC:=uX hv hc hp;have hn:∀b,T P 0 b->fC P (Ge P) b:=λb hb=>uW hv hc hb
 have tl:∀y∈A,T P 0 (gZ P (QK P (IT P.n) (IT P.n)) y):=λy hy=>Gc hv ((hm y).1 hy) λ_ _ _=>AE _
 have red:∀y∈A,QY P (QK P (IT P.n) (IT P.n)) (gZ P (QK P (IT P.n) (IT P.n)) y)=gZ P (QK P (IT P.n) (IT P.n)) y:=λy hy=>WB hv hc hS MC (tl y hy) λd _ h=>rE h
 refine A6W (QB.lt hv) h (λi hi=>(Rf hv hc h hi).1) hA (li:=gZ P (QK P (IT P.n) (IT P.n))) (λy hy=>(tl y hy).t) (λy hy y' Ja hl=>?_) (λw hw=>?_) K λy hy=>?_
 ·obtain⟨i1,i2⟩:=KJ g (tl y' Ja);have tz:=g.cl i1 (tl y hy);have e1:M P 0 (gZ P (QK P (IT P.n) (IT P.n)) y') (M P 0 (inv P 0 (gZ P (QK P (IT P.n) (IT P.n)) y')) (gZ P (QK P (IT P.n) (IT P.n)) y))=gZ P (QK P (IT P.n) (IT P.n)) y:=by
   rw[<-g.ac (tl y' Ja) i1 (tl y hy),i2,g.l1 (tl y hy)]
  have h1:=V8 hv (tl y' Ja) tz;rw[e1]at h1;have h2:=A9U hv hc hp tz ((hl.sub h1).eq λk=>A0);have h3:=(SN hv hc hS MC (tl y' Ja) (tl y hy)).2 ⟨_,h2,e1⟩;rw[red y hy,red y' Ja]at h3;exact Bp ((hm y).1 hy) ((hm y').1 Ja) h3.symm
 ·obtain⟨x,hx,hl⟩:=A9R hv hc hw;refine⟨fl (ZY P (QK P (IT P.n) (IT P.n)) x),(hm _).2 (AK2 hv hc hS MC hx),?_⟩;rw[A24 hv hc hS MC hx];obtain⟨⟨s,s1,s2⟩,_⟩:=YV hv hc hS MC hx;have h1:=V8 hv hx (hS.n s1);have h2:=A9T hv hc s1;rw[s2];exact((hl.sub h1).sub h2).eq λk=>A0
 rw[SJ y hy];have ty:=(hm y).1 hy;have tq:=mX hv hc hS MC;have hq:=CS tq (Lw hv hc hS MC hn);have e1:=A6U hv hc hS MC hn ty K;have tr:=g.rep (tl y hy) K;have tr':=hq.rep ty K;have e2:rep (M (J0 P (QK P (IT P.n) (IT P.n))) 0) y K=z0↔Ge P (rep (M P 0) (gZ P (QK P (IT P.n) (IT P.n)) y) K):=by
  rw[<-Ra hv hc hS MC tr,<-e1];have lz:gZ P (QK P (IT P.n) (IT P.n)) z0=z0:=by funext d;rw[gZ];split<;>rfl
  exact⟨λe=>by rw[e,lz],λe=>Bp tr' hq.e0 (by rw[e,lz])⟩
 rw[e2];have h3:=A29 hv (tl y hy) K;constructor
 ·intro q;exact((A9T hv hc q).sub h3).eq λk=>A0
 intro q;exact A9U hv hc hp tr ((h3.add q).eq λk=>A0)
end
end Go.Proofs.YtgknbnkmilddhaaGreat
namespace Go.Proofs.YtgknbnkmilddhaaGreat
structure Wc(P Q:Pc):Prop where
 n:P.n=Q.n
 o:∀i,i<P.n->P.o i=Q.o i
 pw:∀i,i<P.n->P.pw i=Q.pw i
 cj:∀i j,i<j->j<P.n->P.cj i j=Q.cj i j
def A2D{mul c c' x}:∀m j u,(∀k,j<=k->k<j+m->c k=c' k)->RB mul c x m j u=RB mul c' x m j u
 |0,_,_,_=>rfl
 | m+1,j,u,h=>by
   rw[RB,RB,h j (A1 j) A0,A2D m (j+1) _ λk h1 h2=>h k A0 A0]
section
variable{P Q:Pc}(h:Wc P Q)
include h
theorem Wc.IN{i}(hi:i<P.n)(mul):IN P mul i=Go.Proofs.YtgknbnkmilddhaaGreat.IN Q mul i:=by
 funext x
 rw[Go.Proofs.YtgknbnkmilddhaaGreat.IN,Go.Proofs.YtgknbnkmilddhaaGreat.IN,<-h.n];exact A2D _ _ _ λk h1 h2=>h.cj i k A0 A0
theorem Wc.M:∀d i,P.n-i=d->M P i=Go.Proofs.YtgknbnkmilddhaaGreat.M Q i
 |0,i,hd=>by funext a b;rw[oW A0,oW (by have:=h.n;omega)]
 | d+1,i,hd=>by
   have hi:i<P.n:=A0;rw[YI hi,Wc.M d (i+1) A0,YI (show i<Q.n from h.n▸hi)];funext a b
   simp only[wX,h.o i hi,h.pw i hi,h.IN hi]
theorem Wc.M0(i):Go.Proofs.YtgknbnkmilddhaaGreat.M P i=Go.Proofs.YtgknbnkmilddhaaGreat.M Q i:=h.M _ i rfl
theorem Wc.T{i x}(hx:T P i x):T Q i x:=⟨hx.z,λk h1 h2=>by rw[<-h.n]at h2;rw[<-h.o k h2];exact hx.r k h1 h2,λk hk=>hx.t k (by rw[h.n];exact hk)⟩
theorem Wc.HN(hc:HN P 0):HN Q 0:=λi h0 hi=>by
 rw[<-h.n]at hi;have c:=hc i h0 hi;refine⟨λj hj dA=>?_,λj k hj hk NC=>?_,?_,λj hj dA=>?_⟩
 ·rw[<-h.n]at dA;rw[<-h.M0,<-h.cj i j hj dA,<-h.o j dA,<-h.pw j dA,<-h.IN hi];exact c.pw j hj dA
 ·rw[<-h.n]at NC;rw[<-h.M0,<-h.cj i k A0 NC,<-h.cj i j hj A0,<-h.cj j k hk NC,<-h.IN hi];exact c.cj j k hj hk NC
 ·rw[<-h.M0,<-h.pw i hi,<-h.IN hi];exact c.fx
 rw[<-h.n]at dA;rw[<-h.M0,<-h.pw i hi,<-h.o i hi,<-h.IN hi];exact c.inn j hj dA
end
def Wc.symm{P Q}(h:Wc P Q):Wc Q P:=⟨h.n.symm,λi hi=>(h.o i (h.n▸hi)).symm,λi hi=>(h.pw i (h.n▸hi)).symm,λi j a b=>(h.cj i j a (h.n▸b)).symm⟩
def Rg{U}(SJ:∀i,i<U.length->O8 (U.getD i 0)){n u}:∀k,k<=U.length->((K7 n u k).map λd=>U.getD d 0).foldl (· * ·) 1<=PC U k/\1<=((K7 n u k).map λd=>U.getD d 0).foldl (· * ·) 1
 |0,_=>by simp[K7,PC]
 | k +1,hk=>by
   obtain⟨a,b⟩:=Rg SJ (n:=n) (u:=u) k A0;have h1:=FQ (SJ k A0);have h2:=YJ SJ k A0;rw[ZD,PC];split
   ·rw[AZ,L1];show _*U.getD k 0<=_/\_
    constructor
    ·exact D5 a A0
    show 1<=_*U.getD k 0
    have:=GB b (show(1:Int)<=U.getD k 0 by omega) A0 A0;omega
   refine⟨MP a ?_,b⟩;have:=CN (show(1:Int)<=U.getD k 0 by omega) (show 0<=PC U k by omega);omega
def Gg(U):∀k,k<=U.length->PC U k=(U.take k).foldl (· * ·) 1
 |0,_=>rfl
 | k+1,hk=>by
   rw[PC,Gg U k A0,B7 A0,L1];simp[A5,A9 (show k<U.length by omega)]
section
variable{U:C2}{pw:D4}{cj:E6}{u:List V}
def Br:(TF U u).length=nQ (pc U pw cj) u:=by simp[TF,nQ,pc]
def rH{i}(hi:i<nQ (pc U pw cj) u):(TF U u).getD i 0=U.getD (RY (pc U pw cj) u i) 0:=by
 have OQ:i<(K7 U.length u U.length).length:=hi;simp[TF,RY,pc,OQ]
def Rh{i}(hi:i<nQ (pc U pw cj) u):(WA (pc U pw cj) u).getD i []=pJ (pc U pw cj) u (RY (pc U pw cj) u i):=by
 have OQ:i<(K7 (pc U pw cj).n u (pc U pw cj).n).length:=hi;simp[WA,RY,OQ]
def Ri{i}(hi:i<nQ (pc U pw cj) u):((U8 (pc U pw cj) u).getD i []).length+1+i=nQ (pc U pw cj) u:=by
 have OQ:i<(K7 (pc U pw cj).n u (pc U pw cj).n).length:=hi;have:(U8 (pc U pw cj) u).getD i []=L8 (pc U pw cj) u i:=by simp[U8,OQ]
 rw[this,L8,A4,CC];unfold nQ;omega
def Bs{i k}(hi:i<nQ (pc U pw cj) u)(hk:i+1+k<nQ (pc U pw cj) u):((U8 (pc U pw cj) u).getD i []).getD k []=mV (pc U pw cj) u (RY (pc U pw cj) u i) (RY (pc U pw cj) u (i+1+k)):=by
 have OQ:i<(K7 (pc U pw cj).n u (pc U pw cj).n).length:=hi;have Y8:i+1+k<(K7 (pc U pw cj).n u (pc U pw cj).n).length:=hk;have:(U8 (pc U pw cj) u).getD i []=L8 (pc U pw cj) u i:=by simp[U8,OQ]
 rw[this,L8,A5,BF,CK];have e1:(K7 (pc U pw cj).n u (pc U pw cj).n)[i+1+k]? =some (RY (pc U pw cj) u (i+1+k)):=by rw[RY,A5,A9 Y8];rfl
 rw[e1];rfl
def A2E:Wc (J0 (pc U pw cj) u) (pc (TF U u) (WA (pc U pw cj) u) (U8 (pc U pw cj) u)):=by
 refine⟨(Br (pw:=pw) (cj:=cj)).symm,λi hi=>(rH (pw:=pw) (cj:=cj) hi).symm,λi hi=>?_,λi j Q3 hj=>?_⟩
 ·show fl _=fl _;rw[Rh hi]
 have l6:j<nQ (pc U pw cj) u:=hj;show fl _=fl _
 rw[Bs A0 A0,show i+1+(j-i-1)=j by omega]
def AE6{O v i}(hl:v.length=O.length)(hi:i<O.length)(ht:∀k,k<O.length->(0<=fl v k/\fl v k<O.getD k 0)/\(k<=i->fl v k=0)):Pb O v i:=⟨hl,λk hk=>by
 obtain⟨a,b⟩:=ht k A0;have:fl v k=v.getD k 0:=rfl;rw[this]at a b;exact⟨⟨a.1,A0⟩,λq=>b A0⟩⟩
def A6X(h:BW U pw cj)(hc:HN (pc U pw cj) 0){S}(hS:NO (T (pc U pw cj) 0) (M (pc U pw cj) 0) S)(hu:RA (pc U pw cj) S u):BW (TF U u) (WA (pc U pw cj) u) (U8 (pc U pw cj) u):=by
 have hv:=h.val;have hq:=mX hv hc hS hu;have hL:(TF U u).length=nQ (pc U pw cj) u:=Br;have ZR:nQ (pc U pw cj) u<=U.length:=YU _;have tx:∀(v:C2) i,v.length=nQ (pc U pw cj) u->i<nQ (pc U pw cj) u->T (J0 (pc U pw cj) u) (i+1) (fl v)->Pb (TF U u) v i:=λv i hl hi t=>by
  refine AE6 (by rw[hl,hL]) A0 λk hk=>⟨?_,λq=>t.z k A0⟩
  rw[hL]at hk;rcases BL k (i+1)with q|q
  ·have:=hq.o k hk;rw[t.z k q,rH (pw:=pw) (cj:=cj) hk];have:(J0 (pc U pw cj) u).o k=U.getD (RY (pc U pw cj) u k) 0:=rfl;omega
  have:=t.r k q hk;rw[rH (pw:=pw) (cj:=cj) hk];exact this
 refine⟨⟨by have:=h.1.1;omega,by rw[hL];simp[WA,nQ],by rw[hL];simp[U8,nQ]⟩,λi hi=>?_,?_,λi hi=>?_⟩
 ·rw[hL]at hi;rw[rH (pw:=pw) (cj:=cj) hi];exact h.2.1 _ (M7 hi).1
 ·rw[Gg _ _ (A1 _),B2];exact MP (Rg h.2.1 U.length (A1 _)).1 h.2.2.1
 rw[hL]at hi;have hl:=Ri (pw:=pw) (cj:=cj) hi;refine⟨?_,by rw[hL];exact hl,λk hk=>?_⟩
 ·rw[Rh hi];exact tx _ i k6 hi (hq.pw i hi)
 rw[Bs hi A0];exact tx _ i k6 hi (hq.cj i (i+1+k) A0 (by show i+1+k<nQ _ _;omega))
def A6Y(h:BW U pw cj)(hc:HN (pc U pw cj) 0){S}(hS:NO (T (pc U pw cj) 0) (M (pc U pw cj) 0) S)(hu:RA (pc U pw cj) S u)(hn:∀b,T (pc U pw cj) 0 b->fC (pc U pw cj) S b):HN (pc (TF U u) (WA (pc U pw cj) u) (U8 (pc U pw cj) u)) 0:=
 A2E.HN (Lw (h.val) hc hS hu hn)
end
end Go.Proofs.YtgknbnkmilddhaaGreat
namespace Go.Proofs.YtgknbnkmilddhaaGreat
def lB(U:C2)(x:V):Nat->Int
 |0=>0
 |k+1=>lB U x k*U.getD k 0+x k
section
variable{U:C2}{pw:D4}{cj:E6}(hp:∀i,i<U.length->O8 (U.getD i 0))
include hp
theorem AE7{x}(hx:T (pc U pw cj) 0 x):∀k,k<=U.length->0<=lB U x k/\lB U x k<PC U k:=by
 intro k;induction k with
 |zero=>intro _;exact⟨GG _,by simp[lB,PC]⟩
 | succ k ih=>
   intro hk;obtain⟨i1,i2⟩:=ih A0;have ho:=FQ (hp k A0);have hr:=hx.r k (AE k) (show k<U.length by omega);have Ak:(pc U pw cj).o k=U.getD k 0:=rfl;rw[Ak]at hr;have h1:0<=lB U x k*U.getD k 0:=FH i1 A0;have h2:(lB U x k+1)*U.getD k 0<=PC U k*U.getD k 0:=D5 A0 A0;rw[GI,ER]at h2;rw[lB,PC];omega
theorem A6Z{x y}(hx:T (pc U pw cj) 0 x)(hy:T (pc U pw cj) 0 y):∀k,k<=U.length->lB U x k=lB U y k->∀j,j<k->x j=y j:=by
 intro k;induction k with
 |zero=>intro _ _ j hj;omega
 | succ k ih=>
   intro hk he j hj;have ho:=FQ (hp k A0);have h1:=hx.r k (AE k) (show k<U.length by omega);have h2:=hy.r k (AE k) (show k<U.length by omega);have Ak:(pc U pw cj).o k=U.getD k 0:=rfl;rw[Ak]at h1 h2;rw[lB,lB]at he;have key:lB U x k=lB U y k:=by
    rcases Int.lt_trichotomy (lB U x k) (lB U y k)with q|q|q
    ·have h3:(lB U x k+1)*U.getD k 0<=lB U y k*U.getD k 0:=D5 A0 A0;rw[GI,ER]at h3;omega
    ·exact q
    have h3:(lB U y k+1)*U.getD k 0<=lB U x k*U.getD k 0:=D5 A0 A0;rw[GI,ER]at h3;omega
   rw[key]at he;rcases BL j k with q|q
   ·exact ih A0 key j q
   obtain rfl:j=k:=A0;omega
theorem AE8{x y}(hx:T (pc U pw cj) 0 x)(hy:T (pc U pw cj) 0 y)(h:lB U x U.length=lB U y U.length):x=y:=by
 funext k
 rcases BL k U.length with q|q
 ·exact A6Z hp hx hy U.length (A1 _) h k q
 rw[hx.t k q,hy.t k q]
end
section
variable{P:Pc}(hv:LK P)(hc:HN P 0){xs:List V}(hxs:∀x∈xs,T P 0 x)
include hv hc hxs
end
section
variable{U:C2}{pw:D4}{cj:E6}(hp:∀i,i<U.length->O8 (U.getD i 0))
include hp
end
end Go.Proofs.YtgknbnkmilddhaaGreat
namespace Go.Proofs.YtgknbnkmilddhaaGreat
def nG(U:C2):Nat:=(PC U U.length).toNat
section
variable{U:C2}{pw:D4}{cj:E6}(hp:BW U pw cj)
include hp
theorem oP:(nG U:Int)=PC U U.length:=BG (by have:=YJ hp.2.1 U.length (A1 _);omega)
theorem yY:1<=nG U/\nG U<=729:=by
 have:=YJ hp.2.1 U.length (A1 _);have:=hp.2.2.1;have:=oP hp;omega
theorem Rj(t:Nat):T (pc U pw cj) 0 (iM U t):=by
 refine⟨λk hk=>A0,λk _ hk=>ADH A0 hp.2.1 hk,λk hk=>?_⟩;have NC:¬k<U.length:=OT.2 hk;rw[iM,if_neg NC]
theorem AE9{t}(h:t<nG U):∀d,d<=U.length->yO U t d<PC U (U.length-d):=by
 intro d;induction d with
 |zero=>intro _;have:=oP hp;rw[yO,EB];omega
 | succ d ih=>
   intro hd;have i1:=ih A0;have i2:=aS (num:=(t:Int)) A0 hp.2.1 d A0;have ho:=FQ (hp.2.1 (U.length-1-d) A0);rw[show U.length-d=U.length-(d+1)+1 by omega,PC,show U.length-(d+1)=U.length-1-d by omega]at i1;rw[yO,EC i2.1,show U.length-(d+1)=U.length-1-d by omega];exact Int.ediv_lt_of_lt_mul A0 i1
theorem Lz{t}(h:t<nG U):lB U (iM U t) U.length=t:=by
 have go:∀k,k<=U.length->lB U (iM U t) k=yO U t (U.length-k):=by
  intro k;induction k with
  |zero=>
   intro _;have h1:=AE9 hp h U.length (A1 _);have h2:=(aS (num:=(t:Int)) A0 hp.2.1 U.length (A1 _)).1;rw[CM,PC]at h1;rw[lB,EB];omega
  |succ k ih=>
   intro hk;have h2:=(aS (num:=(t:Int)) A0 hp.2.1 (U.length-1-k) A0).1;rw[lB,ih A0,iM,if_pos A0,show U.length-(k+1)=U.length-1-k by omega,show U.length-k=U.length-1-k+1 by omega,yO,show U.length-1-(U.length-1-k)=k by omega];have:=Int.tmod_add_mul_tdiv (yO U t (U.length-1-k)) (U.getD k 0);rw[F8]at this;omega
 rw[go U.length (A1 _),CM];rfl
theorem AK8{x}(hx:T (pc U pw cj) 0 x):∃t,t<nG U/\iM U t=x/\(t:Int)=lB U x U.length:=by
 have hb:=AE7 (pw:=pw) (cj:=cj) hp.2.1 hx U.length (A1 _);have hn:=oP hp;obtain⟨t,ht⟩:=EK ((lB U x U.length).toNat);have h1:t<nG U:=A0;have h2:(t:Int)=lB U x U.length:=A0;exact⟨t,h1,AE8 (pw:=pw) (cj:=cj) hp.2.1 (Rj hp t) hx (by rw[Lz hp h1,h2]),h2⟩
theorem AEA{s t}(hs:s<nG U)(ht:t<nG U)(h:iM U s=iM U t):s=t:=by
 have h1:=Lz hp hs;have h2:=Lz hp ht;rw[h]at h1;omega
end
section
variable{U:C2}{pw:D4}{cj:E6}(hp:BW U pw cj)(hc:HN (pc U pw cj) 0)
include hp
include hc
end
end Go.Proofs.YtgknbnkmilddhaaGreat
namespace Go.Proofs.YtgknbnkmilddhaaGreat
noncomputable def iP(U:C2)(pw:D4)(cj:E6)(k:Int):Nat->Nat
 |0=>0
 |t+1=>iP U pw cj k t+(if tf (T6 (pc U pw cj) (iM U (t:Nat)) k=z0)then 1 else 0)
def Bt{U pw cj k}:∀t,iP U pw cj k t<=t
 |0=>A1 _
 |t+1=>by rw[iP];have:=Bt (U:=U) (pw:=pw) (cj:=cj) (k:=k) t;split<;>omega
def Rk{U pw cj k}:∀t,iP U pw cj k t=((List.range t).map λi=>iM U (i:Nat)).countP λy=>tf (T6 (pc U pw cj) y k=z0)
 |0=>rfl
 |t+1=>by rw[iP,Rk t,CX,AZ,NI];simp[JF]
section
variable(U:C2)(pw:D4)(cj:E6)
def mY(h:BW U pw cj)(hc:HN (pc U pw cj) 0)(k)(hk:0<=k/\k<=1000000):DZ prog 114 [CI U pw cj,.i .i64 k] (.i .i64 (iP U pw cj k (nG U))):=by
 have Q4:=h.1.1
 have Rl:=XM U pw cj h
 have hnb:=yY h
 rw[<-oP h]at Rl
 refine BI AY func114 rfl AP ntmps114 results114 (.i _ _) (λnx cX=>?_)
 refine GC ?_;refine BN 2 nx _ rfl (AD _ _ _) ?_
 refine BH ?_;refine GC ?_;refine A6 λN1 CW=>GC ?_;refine AA<|AM (α:=Nat) (λx=>sl 23 [(1,.i .i64 k),(2,AU U pw cj),(5,.i .i64 (iP U pw cj k x)),(6,.i .i64 x)]) (λ_=>DD) (λx m=>x<=nG U) (λx=>nG U-x) (0) ?_ ?_ (Le.del (by simp[DD])) ?_
 ·simp
 ·simp(disch:=omega) [EJ,EN,sl,AU,ints,rows,B6,iP]
 rintro t m ht
 simp only[AU];refine BH ?_;have KW:=Bt (U:=U) (pw:=pw) (cj:=cj) (k:=k) t
 refine A6 λN2 DN=>ZK (Rl) ?_;refine AK ?_ ?_<;>intro h1
 ·have htT:=Rj h t;have hpT:T (pc U pw cj) 0 (T6 (pc U pw cj) (iM U t) k):=Cy.pw h.val hc htT k _ (oM h.val hc) htT;apply AF;apply DN;refine A6 λN3 DO=>AA<|A6 λN hN=>?_;refine C9 AY AP 7 AP ?_
  refine A0N ?_;refine⟨_,.of (xN U pw cj h t A0 A0),?_⟩;refine FF ?_
  refine⟨_,.of (JK U pw cj h hc _ htT k A0),?_⟩;refine FF ?_
  refine⟨_,.of (tR (U:=U) (pw:=pw) (cj:=cj) A0 hpT),?_⟩;refine FF ?_
  apply hN;refine AK ?_ ?_<;>intro h2
  ·have M4:iP U pw cj k (t+1)=iP U pw cj k t+1:=by rw[iP,if_pos (KU h2)]
   refine OK ?_;apply DO;refine OK ?_;refine BB (t+1) ?_ ?_ ?_
   ·exact TJ M4
   ·omega
   exact AI
  have M4:iP U pw cj k (t+1)=iP U pw cj k t:=by rw[iP,if_neg (by rw[JQ h2];simp),HI]
  apply AF;apply DO;refine OK ?_;refine BB (t+1) ?_ ?_ ?_
  ·exact TJ M4
  ·omega
  exact AI
 obtain rfl:t=nG U:=by simp at h1;omega
 apply AO;apply CW;refine GC ?_;apply DQ;simp-dsimp-implicitDefEqProofs(disch:=omega)only[go_sem];skip
end
end Go.Proofs.YtgknbnkmilddhaaGreat
namespace Go.Proofs.YtgknbnkmilddhaaGreat
def AEB(l):NR (.t [ints (T4 l),ints (UD l),.i .i64 (0:Nat)]):=NR.t _ λk x hx=>by
 match k,hx with
 |0,hx=>cases hx;exact IC _
 |1,hx=>cases hx;exact IC _
 |2,hx=>cases hx;exact .i _ _
def Rm{f p}:Ip f p 1=[]:=by
 cases f with
 |zero=>rfl
 |succ f=>rw[Ip,if_pos (A1 _)]
def A2F{f p k}(hk:2<=k)(h:k<p*p):Ip (f+1) p k=[(k,1)]:=by
 rw[Ip,if_neg A0,if_pos h,Fe hk,if_pos A0,Rm]
set_option maxHeartbeats 4000000 in
def k8(n:Nat)(wY:1<=n)(h9:n<=1000):DZ prog 113 [.i .i64 n] (.t [ints (T4 (YB n)),ints (UD (YB n)),.i .i64 (0:Nat)]):=by
 have dC:DZ prog 34 [.i .i64 n,.i .i64 1,.i .i64 1000000] (.b true):=by
  have h:=Q7 n 1 1000000;rw[KU ⟨A0,A0⟩]at h;exact h
 refine DA AY func113 rfl AP ntmps113 results113 ((AEB _)) (λnx cX=>?_)
 refine CT ?_;refine A6 λN1 CW=>UN (dC) ?_;refine AK ?_ ?_<;>intro h1
 ·refine CT ?_;refine BQ ?_;cases h1
 apply AF;apply CW;refine CT ?_;refine A6 λN2 DN=>CT ?_;refine AA<|BX (λG0 JM=>?_);dsimp only at JM
 have hA0:LC G0 nx (nx+3+3+4+1) (.h (nx+6) 0 0) ((T4 []).map (.i .i64)):=LC.mk (by rw[<-JM,AB _ _ A0,AD];rfl) rfl A0 A0
 have hB0:LC G0 nx (nx+3+3+4+1) (.h (nx+3+3+1) 0 0) ((UD []).map (.i .i64)):=LC.mk (by rw[<-JM,AD];rfl) rfl A0 A0
 refine AM (α:=(Nat×Nat)×HP×AV×AV×List (Nat×Nat)×Nat) (λx=>sl 51 [(0,.i .i64 x.1.2),(5,x.2.2.1),(6,x.2.2.2.1),(7,.i .i64 x.1.1)]) (λx=>x.2.1) (λx m=>(2<=x.1.1/\x.1.1<=1001/\1<=x.1.2/\x.1.2<=n/\nx<=m)/\(x.2.2.2.2.1++Ip x.2.2.2.2.2 x.1.1 x.1.2=YB n/\fcS x.1.1 x.1.2<x.2.2.2.2.2)/\((bk x.2.2.1=0\/bk x.2.2.1≠bk x.2.2.2.1)/\LC x.2.1 nx m x.2.2.1 ((T4 x.2.2.2.2.1).map (.i .i64))/\LC x.2.1 nx m x.2.2.2.1 ((UD x.2.2.2.2.1).map (.i .i64)))) (λx=>fcS x.1.1 x.1.2) (((2,n),G0,.h (nx+6) 0 0,.h (nx+3+3+1) 0 0,[],2*n+1)) ?_ ?_ (λ_ _ h=>h) ?_
 ·exact⟨⟨B5,B5,wY,B5,AI⟩,⟨rfl,by simp only[fcS];split<;>omega⟩,⟨.inr (by show nx+6+1≠nx+3+3+1+1;omega),hA0,hB0⟩⟩
 ·exact E2
 rintro⟨⟨p,k⟩,G,A,B,l,F⟩ m0 ⟨⟨VL,hp9,eG,hk,hm⟩,⟨hl,hF⟩,⟨CP,hA,hB⟩⟩
 dsimp only at VL hp9 eG hk hl hF CP hA hB ⊢
 have hpp:(p:Int)*p=((p*p:Nat):Int):=(EE p p).symm
 have hpq:p*p<=1001*1001:=CY hp9 hp9
 have hA1:=hA.one
 have UE:=hB.one
 have hAl:=hA.len
 have Iq:=hB.len
 have hlen:l.length<=2*n+1:=by have h1:=Aa (2*n+1) 2 n;have h2:=congrArg List.length hl;rw[AH]at h2;rw[YB]at h2;omega
 have aN:(T4 l).length=l.length:=by simp[T4]
 have dE:(UD l).length=l.length:=by simp[UD]
 rw[A4,aN]at hAl
 rw[A4,dE]at Iq
 have hAb:=hA.bd
 have hBb:=hB.bd
 refine BH ?_;refine A6 λN3 DO=>IZ hpp ?_;refine AK ?_ ?_<;>intro h2
 ·have It:2*2<=p*p:=CY VL VL;obtain⟨E,M,hEM⟩:∃E M,U4 p k k=(E,M):=⟨_,_,rfl⟩;have hR:=FcR.mk1 (n:=k) (p:=p) A0 VL (q:=p) (by rw[if_neg A0]);rw[hEM]at hR;obtain⟨r1,r2,r3,r4,r5,r6,r7⟩:=hR;dsimp only at r1 r2 r3 r6 r7;apply AF;apply DO;refine A6 λN4 FD=>AA<|CT ?_;refine A6 λN5 ID=>AA<|AM (α:=Nat×Nat) (λx=>sl 51 [(0,.i .i64 x.2),(5,A),(6,B),(7,.i .i64 p),(8,.i .i64 x.1)]) (λ_=>G) (λx m=>x.1+(U4 p (k-x.1) x.2).1=E/\(U4 p (k-x.1) x.2).2=M/\1<=x.2/\x.2+x.1<=k/\nx<=m/\m0<=m) (λx=>x.2) ((0,k)) ?_ ?_ (λ_ _ h=>h) ?_
  ·exact⟨by show 0+_=E;rw[BS];exact congrArg Prod.fst hEM,congrArg Prod.snd hEM,AI,AI,AI,AI⟩
  ·exact E2
  rintro⟨d,j⟩ m2 ⟨S3,WZ,yB,hj,Q8,U5⟩;dsimp only at S3 WZ yB hj Q8 U5 ⊢;refine BH ?_;refine A6 λN6 OR=>sQ λN hN=>?_;simp-dsimp-implicitDefEqProofs(disch:=omega)only[go_sem,tmN];apply hN;refine AK ?_ ?_<;>intro h3
  ·have Dh:j%p=0:=A0;obtain⟨g,hg⟩:∃g,k-d=g+1:=⟨k-d-1,A0⟩;have M4:=S3;have j7:=WZ;rw[hg,U4,if_pos Dh]at M4 j7;dsimp only at M4 j7;have hjq:p<=j:=FB yB (DY Dh);have dA:j/p<=j/2:=I9 r4 A0;have hj3:1<=j/p:=(HO A0).2 A0;have hgd:k-(d+1)=g:=A0;apply AF;apply OR;refine AA<|sQ λN hN=>?_;simp-dsimp-implicitDefEqProofs(disch:=omega)only[go_sem,tdN];apply hN;refine K4 ?_;refine BB (d+1,j/p) ?_ ?_ ?_
   ·exact FV
   ·dsimp only;rw[hgd];first|exact⟨A0,j7,hj3,A0,AI,CH U5 A0⟩|exact⟨A0,j7,hj3,A0,CH U5 A0⟩
   exact AI
  have Dh:¬j%p=0:=A0;obtain⟨g,hg⟩:∃g,k-d=g+1:=⟨k-d-1,A0⟩;rw[hg,U4,if_neg Dh]at S3 WZ;dsimp only at S3 WZ;obtain rfl:d=E:=A0;subst WZ;obtain⟨f,hf⟩:∃f,F=f+1:=⟨F-1,A0⟩;subst hf;rw[r7 f]at hl;apply AO;apply ID;refine CT ?_;refine AK ?_ ?_<;>intro h4
  ·refine sQ λN hN=>?_;simp-dsimp-implicitDefEqProofs(disch:=(first|omega|((repeat refine LC.CJ A0 ?_);assumption))) only[go_sem,hA1,hAl,aN,F2 (a:=nx) (b:=m0) (L:=A) (cs:=(T4 l).map (.i .i64)),A4]
   apply hN;refine BX (λG1 K6=>?_);dsimp only at K6;have AD9:LC G1 nx m0 B ((UD l).map (.i .i64)):=hB.RQ λi hi=>by rw[<-K6,AB _ _ A0,DW A0,AB _ _ A0]
   apply rQ;simp-dsimp-implicitDefEqProofs(disch:=(first|omega|((repeat refine LC.CJ A0 ?_);assumption))) only[go_sem,UE,Iq,dE,F2 (a:=nx) (b:=m0) (L:=B) (cs:=(UD l).map (.i .i64)),A4];apply FD;refine BX (λG9 TI=>?_);dsimp only at TI;refine K4 ?_;refine BB ((p+1,j),G9,.h (m2+4+2+3) 0 (l.length+1),.h (m2+4+2+5+3) 0 (l.length+1),l++[(p,d)],f) ?_ ?_ ?_
   ·exact E2
   ·rw[if_pos A0]at hl;have g1:G9 (m2+4+2+3)=some ((T4 (l++[(p,d)])).map (.i .i64)):=by rw[<-TI,AB _ _ A0,DW A0,AB _ _ A0,<-K6,AD,Pj]
    have g2:G9 (m2+4+2+5+3)=some ((UD (l++[(p,d)])).map (.i .i64)):=by rw[<-TI,AD,Pk]
    exact⟨⟨AI,AI,AI,AI,AI⟩,⟨by rw[BO];exact hl,AI⟩,⟨.inr (by show m2+4+2+3+1≠m2+4+2+5+3+1;omega),LC.mk g1 (by simp[T4]) AI AI,LC.mk g2 (by simp[UD]) AI AI⟩⟩
   exact r6
  apply AF;apply FD;refine BX (λG9 TI=>?_);dsimp only at TI;refine K4 ?_;refine BB ((p+1,j),G9,A,B,l,f) ?_ ?_ ?_
  ·exact E2
  ·rw[if_neg A0]at hl;subst TI;exact⟨⟨AI,AI,AI,AI,AI⟩,⟨hl,AI⟩,⟨CP,hA.wide (A1 _) AI,hB.wide (A1 _) AI⟩⟩
  exact r6
 apply AO;apply DN;refine A6 λN7 S6=>CT ?_;refine AK ?_ ?_<;>intro h5
 ·obtain⟨f,hf⟩:∃f,F=f+1:=⟨F-1,A0⟩;subst hf;rw[A2F A0 A0]at hl;refine sQ λN hN=>?_;simp-dsimp-implicitDefEqProofs(disch:=(first|omega|((repeat refine LC.CJ A0 ?_);assumption))) only[go_sem,hA1,hAl,aN,F2 (a:=nx) (b:=m0) (L:=A) (cs:=(T4 l).map (.i .i64)),A4]
  apply hN;refine BX (λG1 K6=>?_);dsimp only at K6;have AD9:LC G1 nx m0 B ((UD l).map (.i .i64)):=hB.RQ λi hi=>by rw[<-K6,AB _ _ A0,DW A0,AB _ _ A0]
  apply rQ;simp-dsimp-implicitDefEqProofs(disch:=(first|omega|((repeat refine LC.CJ A0 ?_);assumption))) only[go_sem,UE,Iq,dE,F2 (a:=nx) (b:=m0) (L:=B) (cs:=(UD l).map (.i .i64)),A4];apply S6;refine BX (λG9 TI=>?_);dsimp only at TI;refine CT ?_;refine BQ ?_;have ARD:(YB n).length=l.length+1:=by rw[<-hl];simp
  have g1:G9 (m0+5+2+3)=some ((T4 (YB n)).map (.i .i64)):=by rw[<-TI,AB _ _ A0,DW A0,AB _ _ A0,<-K6,AD,<-hl,Pj]
  have g2:G9 (m0+5+2+5+2)=some ((UD (YB n)).map (.i .i64)):=by rw[<-TI,AD,<-hl,Pk];rfl
  refine .t _ _ rfl λk x y hx hy=>?_
  match k,hx,hy with
  |0,hx,hy=>cases hx;cases hy;exact LC.tB (a:=0) (b:=m0+5+2+3+1) (LC.mk g1 (by rw[<-hl];simp[T4]) A0 A0)
  |1,hx,hy=>cases hx;cases hy;exact LC.tB (a:=0) (b:=m0+5+2+5+2+1) (LC.mk g2 (by rw[<-hl];simp[UD]) A0 A0)
  |2,hx,hy=>cases hx;cases hy;exact .refl _
 obtain rfl:k=1:=by first|omega|(simp at h5;omega)
 rw[Rm,C5]at hl
 subst hl
 apply AF;apply S6;refine BX (λG9 TI=>?_);dsimp only at TI
 refine CT ?_;refine BQ ?_;subst TI
 refine .t _ _ rfl λk x y hx hy=>?_
 match k,hx,hy with
 |0,hx,hy=>cases hx;cases hy;exact hA.tB
 |1,hx,hy=>cases hx;cases hy;exact hB.tB
 |2,hx,hy=>cases hx;cases hy;exact .refl _
end Go.Proofs.YtgknbnkmilddhaaGreat
namespace Go.Proofs
open Go.Shelf
def Tryz.k9:Go.Shelf.Ren:=⟨fun|6=>141|15=>153|14=>195|28=>207|29=>208|20=>244|21=>245|22=>246|23=>247|24=>248|25=>249|26=>250|27=>251|46=>266|47=>253|48=>254|49=>267|50=>268|57=>276|n=>n,fun|22=>24|24=>2|25=>169|3=>3|39=>130|0=>0|53=>219|55=>116|4=>4|46=>212|45=>211|50=>216|5=>5|9=>9|66=>249|70=>253|76=>266|77=>267|n=>n,fun|n=>n⟩
def Tryz.xR:Go.Proofs.SlLaysF.n6 prog Tryz.k9:={
 mixed:=by kernel_rfl
 f6:=⟨Tryz.f141.name,by decide,Tryz.func141.trans (congrArg some (by kernel_rfl))⟩
 f14:=⟨Tryz.f195.name,by decide,Tryz.func195.trans (congrArg some (by kernel_rfl))⟩
 f15:=Tryz.func153.trans (congrArg some (by kernel_rfl))
 f20:=⟨Tryz.f244.name,by decide,Tryz.func244.trans (congrArg some (by kernel_rfl))⟩
 f21:=⟨Tryz.f245.name,by decide,Tryz.func245.trans (congrArg some (by kernel_rfl))⟩
 f22:=⟨Tryz.f246.name,by decide,Tryz.func246.trans (congrArg some (by kernel_rfl))⟩
 f23:=⟨Tryz.f247.name,by decide,Tryz.func247.trans (congrArg some (by kernel_rfl))⟩
 f24:=⟨Tryz.f248.name,by decide,Tryz.func248.trans (congrArg some (by kernel_rfl))⟩
 f25:=⟨Tryz.f249.name,by decide,Tryz.func249.trans (congrArg some (by kernel_rfl))⟩
 f26:=⟨Tryz.f250.name,by decide,Tryz.func250.trans (congrArg some (by kernel_rfl))⟩
 f27:=⟨Tryz.f251.name,by decide,Tryz.func251.trans (congrArg some (by kernel_rfl))⟩
 f28:=Tryz.func207.trans (congrArg some (by kernel_rfl))
 f29:=Tryz.func208.trans (congrArg some (by kernel_rfl))
 f46:=⟨Tryz.f266.name,by decide,Tryz.func266.trans (congrArg some (by kernel_rfl))⟩
 f47:=Tryz.func253.trans (congrArg some (by kernel_rfl))
 f48:=Tryz.func254.trans (congrArg some (by kernel_rfl))
 f49:=⟨Tryz.f267.name,by decide,Tryz.func267.trans (congrArg some (by kernel_rfl))⟩
 f50:=⟨Tryz.f268.name,by decide,Tryz.func268.trans (congrArg some (by kernel_rfl))⟩
 f57:=⟨Tryz.f276.name,by decide,Tryz.func276.trans (congrArg some (by kernel_rfl))⟩
 t0:=Tryz.underlying0
 a0:=Tryz.isAgg0
 z0:=Tryz.sizeOf0
 v0:=Tryz.zeroValue0
 t3:=Tryz.underlying3
 a3:=Tryz.isAgg3
 z3:=Tryz.sizeOf3
 v3:=Tryz.zeroValue3
 t4:=Tryz.underlying4
 a4:=Tryz.isAgg4
 z4:=Tryz.sizeOf4
 v4:=Tryz.zeroValue4
 t5:=Tryz.underlying5
 a5:=Tryz.isAgg5
 z5:=Tryz.sizeOf5
 v5:=Tryz.zeroValue5
 t9:=Tryz.underlying9
 a9:=Tryz.isAgg9
 z9:=Tryz.sizeOf9
 v9:=Tryz.zeroValue9
 t22:=Tryz.underlying24
 a22:=Tryz.isAgg24
 z22:=Tryz.sizeOf24
 v22:=Tryz.zeroValue24
 a24:=Tryz.isAgg2
 z24:=Tryz.sizeOf2
 t25:=Tryz.underlying169
 a25:=Tryz.isAgg169
 z25:=Tryz.sizeOf169
 v25:=Tryz.zeroValue169
 t39:=Tryz.underlying130
 a39:=Tryz.isAgg130
 z39:=Tryz.sizeOf130
 v39:=Tryz.zeroValue130
 t45:=Tryz.underlying211
 a45:=Tryz.isAgg211
 z45:=Tryz.sizeOf211
 v45:=Tryz.zeroValue211
 t46:=Tryz.underlying212
 a46:=Tryz.isAgg212
 z46:=Tryz.sizeOf212
 v46:=Tryz.zeroValue212
 t50:=Tryz.underlying216
 a50:=Tryz.isAgg216
 z50:=Tryz.sizeOf216
 v50:=Tryz.zeroValue216
 t53:=Tryz.underlying219
 a53:=Tryz.isAgg219
 z53:=Tryz.sizeOf219
 v53:=Tryz.zeroValue219
 t55:=Tryz.underlying116
 a55:=Tryz.isAgg116
 z55:=Tryz.sizeOf116
 v55:=Tryz.zeroValue116
 t66:=Tryz.underlying249
 a66:=Tryz.isAgg249
 z66:=Tryz.sizeOf249
 v66:=Tryz.zeroValue249
 t70:=Tryz.underlying253
 a70:=Tryz.isAgg253
 z70:=Tryz.sizeOf253
 v70:=Tryz.zeroValue253
 t76:=Tryz.underlying266
 a76:=Tryz.isAgg266
 z76:=Tryz.sizeOf266
 v76:=Tryz.zeroValue266
 t77:=Tryz.underlying267
 a77:=Tryz.isAgg267
 z77:=Tryz.sizeOf267
 v77:=Tryz.zeroValue267}
open Go.RowKit Go.Lib Go.Sort in
def Tryz.bK{α:Type}[Inhabited α](enc:α->Value)(h1:OneCell enc)(cf:α->α->Int)(hO:SWO (ltOf cf))(g:Nat)(cb:Array Value)(IY off cap:Nat)(d:Array α)(w:World)(eg:∀args w,(callFunc g args).run prog w= .ok (.enter g args) w)(AEC:CmpLays1 prog g cb enc cf IY off d.size w)(hH:Holds enc w IY off d)(hblk:IY<w.heap.size)(TH:d.size<4611686018427387904):
    Calls prog 141 #[.slice (some ⟨IY,off,none⟩) d.size cap,.func (.func g) #[] cb] w λe w'=>
      e= .returned (.tuple #[])/\∃d' n U,PermIn 0 d.size d d'/\SortedIn (ltOf cf) 0 d.size d'/\w'=sortWorld enc w IY off n d' U:=Any.slices_SortFunc Tryz.xR enc h1 cf hO g cb IY off cap d w eg AEC hH hblk TH
end Go.Proofs
namespace Go.Proofs.YtgknbnkmilddhaaGreat
def Ma{L W W'}(st:Step L DD W L DD W'):∃q U,W'=Sort.grow (W.drewN q) U:=by
 refine⟨W'.drawn-W.drawn,W'.heap.extract W.heap.size W'.heap.size,?_⟩;have hh:W'.heap=W.heap++W'.heap.extract W.heap.size W'.heap.size:=by
  apply Array.ext_getElem?;intro b;rw[FZ];split
  ·exact st.BV b (by assumption) SG
  rename_i hb;have:=st.size;rw[Array.getElem?_extract];split
  ·congr 1;omega
  rw[OS A0]
 have hd:=st.output.2;have ho:=st.output.1;have h1:=st.os;have h2:=st.tape;obtain⟨wh,wt,wd,wo,wp⟩:=W';simp only at hh hd ho h1 h2
 unfold Sort.grow World.drewN;simp only
 rw[<-hh];subst ho h1 h2;congr 1
 omega
def Mb{L}(W q U):Step L DD W L DD (Sort.grow (W.drewN q) U):=by
 refine⟨λ_ _ h=>h,rfl,rfl,⟨rfl,Nat.le_add_right _ _⟩,?_,λb hb _=>?_,λ_ _ h=>h⟩
 ·show W.heap.size<=(W.heap++U).size
  rw[O6];omega
 show(W.heap++U)[b]? =_
 rw[FZ,if_pos hb]
def bL{α:Type}[Inhabited α]{enc:α->Value}{w:World}{IY off:Nat}{d:Array α}{arr:Array Value}{e:TypeId}{m:Nat}(h:w.heap[IY]? =some (.cells arr e (0,0))):
    Sort.putRow enc (Sort.ahead w m) IY off d=(J3 w IY (.cells (Sort.putCells enc off d arr) e (0,0))).drewN m:=by
  unfold Sort.putRow Sort.mapBlock Sort.ahead J3 World.drewN;simp only
  congr 1
  apply Array.ext_getElem?;intro b;rw[Array.getElem?_modify];have HX:=QS h;by_cases hb:IY=b
  · subst hb;rw[if_pos rfl,h,IF HX];rfl
  rw[if_neg hb,KH hb]
def xS{α:Type}[Inhabited α]{enc:α->Value}{off:Nat}{d:Array α}{c:Array Value}{k:Nat}(hk:k<d.size)(hc:off+d.size<=c.size):(Sort.putCells enc off d c)[off+k]? =some (enc d[k]!):=by
 unfold Sort.putCells;rw[Array.getElem?_mapIdx,D1 (show off+k<c.size by omega),DB,if_pos A0,OD]
def A70{L w M x y us}(h:S8 L w M [x,y] us):∃u v,us=#[u,v]/\R L w M x u/\R L w M y v:=by
 obtain⟨h1,h2⟩:=h;obtain⟨l⟩:=us;match l,h1 with
 |[u,v],_=>exact⟨u,v,rfl,h2 0 x rfl,h2 1 y rfl⟩
def iA{β:Type}[Inhabited β](ea:β->AV)(c:β->β->Int)(X:List β)(g:Nat)(AK9:List AV)(h0:0<X.length)(hn:X.length<4611686018427387904)(h1:∀x∈X,one (ea x)=true)(hs1:∀x y,c y x= -c x y)(iN:∀x y z,c x y<=0->c y z<=0->c x z<=0/\(c x y<0\/c y z<0->c x z<0))(heg:Enters prog g)(hc:∀x∈X,∀y∈X,DZ prog g ([ea x,ea y]++AK9) (.i .i64 (c x y)))(id nx:Nat)(H:HP)(hH:H id=some (X.map ea)):
    AC prog 141 nx H [.h id 0 X.length,.f g AK9] (λDI H' r=>DI=nx/\∃Y:List β,Y.Perm X/\Y.Pairwise (λx y=>¬c y x<0)/\H'=CJ H id (some (Y.map ea))):=by
  refine⟨⟨_,func141,AP,AP⟩,λL Av w us hs hL ha=>?_⟩;obtain⟨u,v,rfl,hu,hv⟩:=A70 ha;obtain⟨cb,rfl,uY⟩:=hv.Eh;cases hu with
  | h _ _ _ l a cp hl ARE AGM AKA hkd=>
    obtain⟨l',TT,JO⟩:=hs.node id _ hH;rw[hl]at TT;cases TT;obtain⟨arr,e,e1,e2,e3,e4⟩:=JO.ex hkd;rw[A4]at e3;have rU:cp≠0:=A0;obtain rfl:=AKA.resolve_left rU;rw[HI];have Ye:∀k,k<X.length->∃u,arr[l.off+k]? =some u/\R L w (MM L H Av) (ea (X.getD k default)) u:=λk hk=>by
      obtain⟨u,q1,q2⟩:=e4 k (ea (X.getD k default)) (by simp[hk]);exact⟨u,q1,q2⟩
    obtain⟨val,X8⟩:∃val:Nat->Value,∀k,k<X.length->arr[l.off+k]? =some (val k)/\R L w (MM L H Av) (ea (X.getD k default)) (val k):=
      ⟨λk=>(arr[l.off+k]?).getD undef,λk hk=>by
        obtain⟨u,q1,q2⟩:=Ye k hk;show arr[l.off+k]? =some ((arr[l.off+k]?).getD undef)/\R L w (MM L H Av) _ ((arr[l.off+k]?).getD undef)
        rw[q1];exact⟨rfl,q2⟩⟩
    have mF:∀k,k%X.length<X.length:=λk=>Nat.mod_lt _ h0
    have Lx:∀k,X.getD (k%X.length) default∈X:=λk=>by
      have:=mF k;simp[this]
    obtain⟨enc,A2G⟩:∃enc:Nat->Value,enc=λk=>val (k%X.length):=⟨_,rfl⟩
    obtain⟨cf,hcf⟩:∃cf:Nat->Nat->Int,cf=λi j=>c (X.getD (i%X.length) default) (X.getD (j%X.length) default):=⟨_,rfl⟩
    have AED:∀k,k<X.length->(Array.range X.length)[k]! =k:=λk hk=>by rw[getElem!_pos _ k (by simpa using hk)];simp
    have hblk:=JO.lt;have hb:¬MM L H Av l.IY->False:=λq=>q (.inr ⟨id,_,l,hH,hl,rfl⟩)
    have AKB:OneCell enc:=λk=>by rw[A2G];exact(UB (X8 _ (mF k)).2 (h1 _ (Lx k))).2
    have hO:Sort.SWO (ltOf cf):=by
      rw[hcf];refine⟨λx=>?_,λx y z q1 q2=>?_,λx y z q1 q2=>?_⟩
      · have:=hs1 (X.getD (x%X.length) default) (X.getD (x%X.length) default);simp only[ltOf,decide_eq_false_iff_not];omega
      · simp only[ltOf,decide_eq_true_eq]at q1 q2 ⊢;exact(iN _ _ _ A0 A0).2 (.inl q1)
      simp only[ltOf,decide_eq_false_iff_not]at q1 q2 ⊢;have a1:=hs1 (X.getD (x%X.length) default) (X.getD (y%X.length) default);have a2:=hs1 (X.getD (y%X.length) default) (X.getD (z%X.length) default);have a3:=hs1 (X.getD (x%X.length) default) (X.getD (z%X.length) default);have:=(iN (X.getD (z%X.length) default) (X.getD (y%X.length) default) (X.getD (x%X.length) default) A0 A0).1;omega
    have AEC:CmpLays1 prog g cb enc cf l.IY l.off (Array.range X.length).size w:=by
      intro m U dk Ny x y;obtain⟨W,hW⟩:=EK (sortWorld enc w l.IY l.off m dk U);have hWk:∀b,b<w.heap.size->¬MM L H Av b->W.heap[b]? =w.heap[b]? :=λb UK W3=>by
        rw[<-hW,sortWorld,bL e1];show((J3 w l.IY _).heap++U)[b]? =_
        rw[FZ,if_pos (by rw[VV];exact UK)];exact lD _ _ λq=>W3 (q▸ .inr ⟨id,_,l,hH,hl,rfl⟩)
      have hWs:w.heap.size<=W.heap.size:=by
        rw[<-hW,sortWorld,bL e1];show _<=((J3 w l.IY _).heap++U).size
        rw[O6,VV];omega
      rw[hW];have hRm:∀{x:AV} {u:Value},R L w (MM L H Av) x u->R L W (MM L H Av) x u:=λh=>h.mono (λ_ _ q=>q) hWk λ_ _ q=>q
      have AKC:=(hc _ (Lx x) _ (Lx y)).2 L (MM L H Av) W (#[enc x,enc y]++cb) (λb q=>GA (Ns hs b q) hWs) ⟨nx,hL⟩ (by
        refine⟨by rw[O6,uY.1];simp;omega,λk z hk=>?_⟩;rw[BC,FZ];match k,hk with
        |0,hk=>cases hk;rw[A2G];exact hRm (X8 _ (mF x)).2
        |1,hk=>cases hk;rw[A2G];exact hRm (X8 _ (mF y)).2
        | k+2,hk=>
          have:=uY.2 k z (by simpa using hk);rw[if_neg B5,show k+2-(#[enc x,enc y]:Array Value).size=k from rfl,<-BC];exact hRm this)
      refine AKC.mono ?_;rintro e' w' ⟨z,rfl,st,hz⟩;obtain⟨q,Gh,rfl⟩:=Ma st;rw[hz.OG];exact⟨by rw[hcf],q,Gh,rfl⟩
    have AKD:Sort.Holds enc w l.IY l.off (Array.range X.length):=by
      intro j hj;have l6:j<X.length:=by simpa using hj
      rw[AED j l6];constructor
      · unfold World.cell?;simp only[e1];rw[(X8 j l6).1,A2G];simp[JE l6]
      unfold World.frozen?;simp only[e1];simp
    have key:=Tryz.bK enc AKB cf hO g cb l.IY l.off cp (Array.range X.length) w heg AEC AKD hblk (by simpa using hn);rw[Array.size_range]at key;refine key.mono ?_;rintro e' w' ⟨rfl,d',n0,U,⟨p1,p2,p3⟩,AKE,rfl⟩;have TH:d'.size=X.length:=by rw[p1,Array.size_range]
    have p4:d'.toList.Perm (List.range X.length):=by
      have q1:d'.extract 0 X.length=d':=by rw[<-TH];simp
      have q2:(Array.range X.length).extract 0 X.length=Array.range X.length:=B5;rw[q1,q2]at p3;simpa using p3
    have hdb:∀k,k<X.length->d'[k]! <X.length:=λk hk=>by
      rw[getElem!_pos d' k A0];exact B3.1 (p4.mem_iff.1 B5)
    obtain⟨Y,hY⟩:∃Y:List β,Y=d'.toList.map λk=>X.getD k default:=⟨_,rfl⟩
    have Fw:Y.length=X.length:=by rw[hY,A4,EP,TH]
    have hYg:∀k,k<X.length->Y[k]? =some (X.getD d'[k]! default):=λk hk=>by
      rw[hY,BF,CE,D1 A0,getElem!_pos d' k A0];rfl
    have AEE:∀(k:Nat) (x:AV),(Y.map ea)[k]? =some x->∃u,(Sort.putCells enc l.off d' arr)[l.off+k]? =some u/\R L w (MM L H Av) x u:=by
      intro k x hk;have P5:k<X.length:=by
        have:=(AL.1 hk).1;rw[A4,Fw]at this;exact this
      rw[BF,hYg k P5]at hk;cases hk;refine⟨_,xS A0 A0,?_⟩;rw[A2G];simp only
      rw[JE (hdb k P5)];exact(X8 _ (hdb k P5)).2
    have M4:=c9 (l':=l) (id':=id) hs hH hl (.inl ⟨rfl,rfl⟩) rfl hkd (Sort.putCells enc l.off d' arr) e (Y.map ea) (by unfold Sort.putCells;rw[Array.size_mapIdx];exact e2) (by rw[A4,Fw];exact e3) AEE;rw[zG L hl,cA]at M4;obtain⟨s1,st1⟩:=M4;have hg:=Mb (L:=L) (J3 w l.IY (.cells (Sort.putCells enc l.off d' arr) e (0,0))) n0 U;obtain⟨s2,st2⟩:=s1.kept hg;rw[sortWorld,bL e1];refine⟨_,.t [],L,nx,_,rfl,⟨rfl,Y,?_,?_,rfl⟩,A1 _,hL,λ_ _=>rfl,s2,st1.trans st2,.t _ _ rfl λk x hk=>by simp at hk⟩
    · rw[hY];have:=p4.map λk=>X.getD k default
      refine this.trans ?_;have e6:(List.range X.length).map (λk=>X.getD k default)=X:=by
        apply C7;intro k;rw[BF];by_cases hk:k<X.length
        · simp[hk]
        rw[B8 (by simp;omega),B8 A0];rfl
      rw[e6]
    rw[FX];intro i j hi hj Q3;rw[Fw]at hi hj;have q1:=AKE i j (AE _) Q3 hj;have g1:Y[i]=X.getD d'[i]! default:=by have:=hYg i hi;rw[A9 A0]at this;exact F5 this
    have g2:Y[j]=X.getD d'[j]! default:=by have:=hYg j hj;rw[A9 A0]at this;exact F5 this
    rw[hcf]at q1;simp only[ltOf,decide_eq_false_iff_not,JE (hdb i hi),JE (hdb j hj)]at q1;rw[g1,g2];exact q1
end Go.Proofs.YtgknbnkmilddhaaGreat