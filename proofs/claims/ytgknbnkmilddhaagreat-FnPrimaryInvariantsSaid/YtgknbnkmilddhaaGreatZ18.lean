import Derived.Test.YtgknbnkmilddhaaGreatZ04
import Derived.Test.YtgknbnkmilddhaaGreatZ12
import Derived.Test.YtgknbnkmilddhaaGreatZ14
import Derived.Test.YtgknbnkmilddhaaGreatZ17
set_option linter.all false

open Go.Proofs.Tryz
namespace Go.Proofs.YtgknbnkmilddhaaGreat
section
structure A7K(U:C2)(pw:D4)(cj:E6)(w c:Nat->Nat->Nat)(Y:C2):Prop where
 pr:BW U pw cj
 co:HN (pc U pw cj) 0
 sm:WD (nG U)=true
 rt:RtP (λk=>iP U pw cj (k:Int) (nG U)) w c
 le:(iC (YB (nG U)) c).length<=9
 sq:(iQ (nG U) c (nG U-1)).map (λz:Nat=>(z:Int))=Y
 sY:gV Y
 ii:((iC (YB (nG U)) c).map λz:Nat=>(z:Int)).Perm Y
def AES{F x}(hx:x∈F)(h2:2<=x)(h:x<=729):0<(VA F).length:=by
 have h1:=Bv h2 h;have h3:0<(Gp x).length:=by unfold Gp;rw[A4];exact h1
 obtain⟨y,hy⟩:=KS.1 h3;exact KS.2 ⟨y,DM.2 ⟨x,hx,hy⟩⟩
def Gw{v}:∀n,Du v 0 n=0
 |0=>rfl
 |n+1=>by rw[Du,Gw n,Nat.zero_min]
def A7L{U pw cj}(h:BW U pw cj)(hc:HN (pc U pw cj) 0){u}(hu:u=QK (pc U pw cj) (IT U.length) (IT U.length)):
    ∃ w c Y f,A7K (TF U u) (WA (pc U pw cj) u) (U8 (pc U pw cj) u) w c Y/\Xm U.length (QB (pc U pw cj)) f/\(∀i,i<U.length->0<f i)/\(U.length<=4->yW ((xC f U.length).map λx:Nat=>(x:Int)))
      /\(∀x∈xC f U.length,2<=x/\x<=729/\WD x=true)/\(0<U.length->0<(VA (xC f U.length)).length)/\((VA (xC f U.length)).map λz:Nat=>(z:Int)).Perm Y:=by
  have hv:=h.val;have hp:∀d,d<(pc U pw cj).n->O8 ((pc U pw cj).o d):=λd hd=>h.2.1 d hd
  obtain⟨f,hf⟩:=AJ6 (QB.lt hv);have hf':Xm U.length (QB (pc U pw cj)) f:=hf;have eN:S4 (pc U pw cj) (pc U pw cj).n=nG U:=A30 h;have hnb:=yY h;have fb:∀i,i<(pc U pw cj).n->0<f i/\f i<=729:=λi hi=>by
    have:=Rf hv hc hf hi;rw[eN]at this;exact⟨this.1,A0⟩
  have sN:WD (nG U)=true:=Ca h.2.1 U.length (A1 _) h.2.2.1;have fs:∀i,i<(pc U pw cj).n->WD (f i).toNat=true:=λi hi=>by
    have:=Re hv hc hf hi;rw[eN]at this;refine Bz hnb.1 hnb.2 sN (OE.1 ?_);rw[BG (by have:=(fb i hi).1;omega)];exact this
  have hS:=YW hv hc;have MC:RA (pc U pw cj) (Ge (pc U pw cj)) u:=by rw[hu];exact uX hv hc hp
  have hn:∀b,T (pc U pw cj) 0 b->fC (pc U pw cj) (Ge (pc U pw cj)) b:=λb hb=>uW hv hc hb
  have pr:=A6X h hc hS MC;have co:=A6Y h hc hS MC hn;have hE:Wc (J0 (pc U pw cj) u) (pc (TF U u) (WA (pc U pw cj) u) (U8 (pc U pw cj) u)):=A2E;have qv:=mX hv hc hS MC;have qc:=Lw hv hc hS MC hn;generalize hO:TF U u=Gh at*
  generalize hX:WA (pc U pw cj) u=pw' at*
  generalize hZ:U8 (pc U pw cj) u=cj' at*
  have nb:=yY pr;have sm:WD (nG Gh)=true:=Ca pr.2.1 Gh.length (A1 _) pr.2.2.1;have hA:=AEP pr;have hm:∀y,y∈rI Gh (nG Gh)↔T (J0 (pc U pw cj) u) 0 y:=λy=>(A7J pr).trans ⟨λt=>hE.symm.T t,λt=>hE.T t⟩
  have eQ:S4 (J0 (pc U pw cj) u) (J0 (pc U pw cj) u).n=nG Gh:=by
    rw[A2Z hE _ (A1 _),hE.n];exact A30 pr
  have qp:∀d,d<(J0 (pc U pw cj) u).n->O8 ((J0 (pc U pw cj) u).o d):=λd hd=>by rw[hE.o d hd];exact pr.2.1 d (by rw[hE.n]at hd;exact hd)
  have ht:∀r e,TO r->vN r (nG Gh)<e->Gs (Rw f r) e U.length=0:=λr e hr he=>A2X hv hc hp hf fb hu hA hm qv qc qp (by rw[eQ];exact nb.2) hr (by rw[eQ];exact he)
  have R8:=A7F hv hc hp hf fb fs hu hA hm qv qc qp (by rw[eQ];exact nb.2) (by rw[eQ];exact sm);have hpd:Dv (Wl f U.length)=nG Gh:=by have:=R8.2;rw[WC]at this;exact this
  have iR:∀k:Nat,iP Gh pw' cj' (k:Int) (nG Gh)=Gf f k U.length:=λk=>by
    rw[Rk];refine Ly hv hc hp hf hu hA hm k λy hy=>?_
    rw[sE,T6,if_neg A0,hE.M0,CQ]
  have cpw:∀r e,TO r->iP Gh pw' cj' ((r^e:Nat):Int) (nG Gh)=r^Du (Rw f r) e U.length:=λr e hr=>by
    rw[iR];exact nB hr fb
  have rt:RtP (λk=>iP Gh pw' cj' (k:Int) (nG Gh)) (λr e=>Du (Rw f r) e U.length) (λr e=>Gs (Rw f r) e U.length):=by
    refine⟨cpw,λr e _=>v8 _,λr e _=>Ru _,λr e hr=>?_,λr _=>Gw _⟩;rw[<-cpw r e hr];have:=Bt (U:=Gh) (pw:=pw') (cj:=cj') (k:=((r^e:Nat):Int)) (nG Gh);omega
  have p1:=A7H (f:=f) (n:=U.length) fb fs nb.1 nb.2 sm ht;have p2:=A7I (f:=f) (n:=U.length) fb fs nb.1 nb.2 sm ht;have fX:=vA (f:=f) (n:=U.length) fb fs;have hpa:VA (xC f U.length)=VA (Wl f U.length):=A7G λx hx=>(fX x hx).1
  have hlen:(VA (Wl f U.length)).length<=9:=by
    have a:=Sq (VA (Wl f U.length)) λx hx=>by
      obtain⟨y,hy,Iu⟩:=DM.1 hx;exact(A9X (fX y hy).2.1 (fX y hy).2.2 Iu).1
    rw[A2Y _ fX,hpd]at a;rcases BL 9 (VA (Wl f U.length)).length with q|q
    · have:=DE (show 0<2 by omega) q;omega
    exact q
  have hF:∀x∈xC f U.length,2<=x/\x<=729/\WD x=true:=λx hx=>by
    obtain⟨a,b,i,hi,e⟩:=Su fb hx;exact⟨a,b,by rw[e];exact fs i hi⟩
  refine⟨_,_,_,f,⟨pr,co,sm,rt,by rw[p1.length_eq];exact hlen,rfl,AEQ (A31 _).1,(p1.trans p2.symm).map _⟩,hf',λi hi=>(fb i hi).1,λh4=>AER fb hf.ch h4,hF,λh0=>?_,?_⟩
  ·
    have:∃i,i<U.length/\2<=(f i).toNat:=by
      refine AN λw=>?_
      have h1:∀i,i<U.length->f i=1:=λi hi=>by
        have:=(fb i hi).1;rcases BL (f i).toNat 2 with q|q
        · omega
        exact absurd ⟨i,hi,q⟩ w
      obtain⟨a,ha⟩:=hf.au;have us:XC (pc U pw cj).n (un 0):=λt ht=>by
        have h3:U.length<=t:=ht;rw[un,EW A0];rfl
      have:=(ha _ us).2 λi hi=>by rw[h1 i hi];exact Int.one_dvd _
      have d:=AKS hv h0 this;have ho:=hv.o 0 h0;rw[un,EM]at d;have:=Int.le_of_dvd A0 d;omega
    obtain⟨i,hi,h2⟩:=this;have Dq:=fb i hi;exact AES (F:=xC f U.length) (x:=(f i).toNat) (E0.2 ⟨AQ.2 ⟨i,B3.2 hi,rfl⟩,decide_eq_true A0⟩) h2 A0
  rw[hpa];exact p2.symm.map _
def pS(P:Pc)(t:Nat->Option V):V->Prop:=Sg (T P 0) (M P 0) t P.n P.n
def Sv{t t'}(h:∀d y,t d=some y->t' d=some y):∀k,UG t' k<=UG t k/\∀d,d<k->t d=none->t' d≠none->UG t' k<UG t k:=by
 intro k;induction k with
 |zero=>exact⟨A1 _,λd hd=>A0⟩
 | succ k ih=>
   obtain⟨i1,i2⟩:=ih;cases hk:t k with
   |none=>
    by_cases NC:t' k=none
    ·have e1:UG t (k+1)=UG t k+1:=by rw[UG,hk]
     have e2:UG t' (k+1)=UG t' k+1:=by rw[UG,NC]
     rw[e1,e2];refine⟨A0,λd hd h1 h2=>?_⟩;rcases BL d k with q|q
     · have:=i2 d q h1 h2;omega
     obtain rfl:d=k:=A0;exact absurd NC h2
    obtain⟨y,hy⟩:∃y,t' k=some y:=by
     cases hq:t' k with
     |none=>exact absurd hq NC
     |some y=>exact⟨y,rfl⟩
    have e1:UG t (k+1)=UG t k+1:=by rw[UG,hk]
    have e2:UG t' (k+1)=UG t' k:=by rw[UG,hy]
    rw[e1,e2];exact⟨A0,λd hd h1 h2=>A0⟩
   |some y=>
    have hy:=h k y hk;have e1:UG t (k+1)=UG t k:=by rw[UG,hk]
    have e2:UG t' (k+1)=UG t' k:=by rw[UG,hy]
    rw[e1,e2];refine⟨i1,λd hd h1 h2=>?_⟩;rcases BL d k with q|q
    ·exact i2 d q h1 h2
    obtain rfl:d=k:=A0;rw[hk]at h1;cases h1
section
variable{P:Pc}(hv:LK P)(hc:HN P 0)(hp:∀d,d<P.n->O8 (P.o d))
include hv hc
theorem Sw{t}(c:lA P.n P.o (T P) (M P 0) t){x}(hx:pS P t x):(T8 (mK P) t P.n P.n x).1=P.n:=by
 have l:=lvl hv hc;have rk:∀d y x,d<P.n->t d=some y->T P d x->Sm (T P 0) (M P 0) y x (mK P d y x)/\T P (d+1) (mK P d y x):=λd y x h1 h2 h3=>gR hv hc d y x h1 (c.tb d y h2).2.1 (c.tb d y h2).2.2 h3
 have hS:=c.sub l (A1 _);have Py:T P (P.n-P.n) x:=by rw[CM];exact hS.n hx
 rcases uE (rd:=mK P) (t:=t) P.n (A1 _) x with h|⟨h1,h2,h3,h4⟩
 ·exact h
 have hm:∀d y,t d=some y->pS P t y:=λd y hy=>by
  have:=c.down l (AE d) (SC (c.tb d y hy).1) (c.mem l hy);rwa [EB]at this
 have hg:=(Ap l rk hS hm P.n (A1 _) x Py).1 hx;have hN:=Ao l rk P.n (A1 _) x Py;exact absurd h3 ((c.depth l h2).2 ⟨_,hg,hN,h4⟩)
theorem A7M{t}(c:lA P.n P.o (T P) (M P 0) t){d y}(hy:t d=some y):pS P t y:=by
 have l:=lvl hv hc;have:=c.down l (AE d) (SC (c.tb d y hy).1) (c.mem l hy);rwa [EB]at this
theorem kK{t}(c:lA P.n P.o (T P) (M P 0) t):NO (T P 0) (M P 0) (pS P t):=c.sub (lvl hv hc) (A1 _)
theorem Wm{t:Nat->Option V}(c:lA P.n P.o (T P) (M P 0) t){us:List V}(hu:∀x∈us,T P 0 x):
  Inv P.n P.o (T P) (M P 0) (mK P) (λv=>pS P t v\/v∈us) t (λv=>v∈us):=by
 have l:=lvl hv hc;have hS:=kK hv hc c;have dn:∀{d x},d<P.n->Sg (T P 0) (M P 0) t P.n (P.n-(d+1)) x->pS P t x:=λ{d x} hd hx=>by
  have:=c.down l (AE (d+1)) A0 hx;rwa [EB]at this
 refine⟨c.tb,hu,λd e y z h1 h2 h3=>?_,λd y h=>?_,λd y h A hA q=>q y (.inl (A7M hv hc c h)),λv h A hA q=>q v (.inr h),λu h=>?_⟩
 ·obtain⟨w,w1,w2⟩:=c.cm d e y z h1 h2 h3;have:=dn (c.tb d y h1).1 w1;exact⟨w,hS.n this,.inl w2,.inl (Sw hv hc c this)⟩
 ·exact .inl (Sw hv hc c (dn (c.tb d y h).1 (c.pw d y h)))
 rcases h with h|h
 ·exact λA hA q=>Sg.least (l.g 0) hA (λd y hy=>q y (.inr ⟨d,hy⟩)) P.n u h
 exact λA hA q=>q u (.inl h)
include hp
theorem A7N:∀(f:Nat) (t:Nat->Option V) (w:List V),ZX P t->(∀x∈w,T P 0 x)->∀d y,t d=some y->Vq P f t w d=some y:=by
 intro f;induction f with
 |zero=>intro t w _ _ d y h;exact h
 | succ f ih=>
   intro t w hG hw d y hy;rw[Vq];split
   · exact hy
   rename_i CP;cases w with
   |nil=>exact absurd rfl CP
   | cons x q=>
     have hx:=hw x CA;obtain⟨g1,g2⟩:=Qb hv hc hp hG (λz hz=>hw z (C3 _ hz)) hx;refine ih _ _ g1 g2 d y ?_;show(As P t q (dH P t x)).1 d=some y
     obtain⟨s1,s2,s3⟩:=mM hv hc hG hx;unfold As;split
     ·exact hy
     rename_i hs;show oset t (dH P t x).1 _ d=some y
     unfold oset;split
     ·rename_i e;have:=(s3 A0).1;rw[<-e,hy]at this;cases this
     exact hy
theorem AET{t}(hG:ZX P t)(c:lA P.n P.o (T P) (M P 0) t){us}(hu:∀x∈us,T P 0 x):
  ZX P (mN P t us)/\lA P.n P.o (T P) (M P 0) (mN P t us)/\(∀x,pS P (mN P t us) x↔Dk (T P 0) (M P 0) (λv=>pS P t v\/v∈us) x)/\(∀d y,t d=some y->mN P t us d=some y)/\(mN P t us≠t->UG (mN P t us) P.n<UG t P.n):=by
 have h1:=A9F hv hc hp (gQ P t us) t us hG hu;have h2:=(Qc hv hc hp _ _ us hG (Wm hv hc c hu) (A1 _)).fin (lvl hv hc) jK (gR hv hc);have h3:=A7N hv hc hp (gQ P t us) t us hG hu;refine⟨h1,h2.1,h2.2,h3,λCP=>?_⟩;have:∃d,mN P t us d≠t d:=AN λq=>CP (funext λd=>AN λq2=>q ⟨d,q2⟩)
 obtain⟨d,hd⟩:=this;have ht:t d=none:=by
  cases hq:t d with
  |none=>rfl
  |some y=>exact absurd ((h3 d y hq).trans hq.symm) hd
 rw[ht]at hd;have cB:d<P.n:=by
  cases hq:mN P t us d with
  |none=>exact absurd hq hd
  |some y=>exact(h1 d y hq).1
 exact(Sv h3 P.n).2 d cB ht hd
omit hp in
theorem Sx{t}(c:lA P.n P.o (T P) (M P 0) t):RA P (pS P t) (aX P t 0):=
 ⟨_,Ar hv hc (cJ hv hc) (lvl hv hc) c (kK hv hc c),rfl⟩
structure ClI(P:Pc)(us bs:List V)(t:Nat->Option V):Prop where
 G:ZX P t
 c:lA P.n P.o (T P) (M P 0) t
 a:∀u∈us,pS P t u
 b:∀x,pS P t x->NG P us bs x
theorem ClI.start{us bs}(hu:∀x∈us,T P 0 x)(hb:∀x∈bs,T P 0 x):ClI P us bs (mN P (λ_=>none) us):=by
 obtain⟨c,hs⟩:=Au hv hc hp hu;exact⟨A9G hv hc hp hu,c,λu h=>(hs u).2 (GL.of h),λx hx=>((hs x).1 hx) _ (NG.wZ hv hc hu hb) (λu h=>NG.of h)⟩
theorem ClI.next{us bs:List V}{t:Nat->Option V}(h:ClI P us bs t)(hu:∀x∈us,T P 0 x)(hb:∀x∈bs,T P 0 x){ws:List V}{b:V}(Q5:b∈bs)(hw:∀w∈ws,pS P t w):
  ClI P us bs (mN P t (ws.map λa=>PI P a b))/\(∀x,pS P t x->pS P (mN P t (ws.map λa=>PI P a b)) x)/\(∀w∈ws,pS P (mN P t (ws.map λa=>PI P a b)) (PI P w b))/\(mN P t (ws.map λa=>PI P a b)=t\/UG (mN P t (ws.map λa=>PI P a b)) P.n<UG t P.n)/\∀d y,t d=some y->mN P t (ws.map λa=>PI P a b) d=some y:=by
 have hS:=kK hv hc h.c;have hT:∀x∈ws.map (λa=>PI P a b),T P 0 x:=λx hx=>by
  obtain⟨a,ha,rfl⟩:=AQ.1 hx;exact(MB hv hc (hS.n (hw a ha)) (hb b Q5)).1
 obtain⟨g1,g2,g3,g4,g5⟩:=AET hv hc hp h.G h.c hT;have up:∀x,pS P t x->pS P (mN P t (ws.map λa=>PI P a b)) x:=λx hx=>(g3 x).2 (λA hA q=>q x (.inl hx))
 refine⟨⟨g1,g2,λu jI=>up u (h.a u jI),λx hx=>(g3 x).1 hx _ (NG.wZ hv hc hu hb) (λv Vt=>?_)⟩,up,λw hw2=>(g3 _).2 (λA hA q=>q _ (.inr (AQ.2 ⟨w,hw2,rfl⟩))),(Classical.em _).imp id g5,g4⟩;rcases Vt with h1|h1
 ·exact h.b v h1
 obtain⟨a,ha,rfl⟩:=AQ.1 h1;exact NG.cj Q5 a (h.b a (hw a ha))
theorem ClI.fin{us bs t}(h:ClI P us bs t)(hu:∀x∈us,T P 0 x)(hb:∀x∈bs,T P 0 x)(KW:∀b∈bs,∀a∈aX P t 0,pS P t (PI P a b)):aX P t 0=ccL P us bs:=by
 have hS:=kK hv hc h.c;have cn:=Sx hv hc h.c;have e:=RA.gen hv hc hS cn;have:pS P t=NG P us bs:=NG.eq hS h.a (λb Q5=>fC.of hv hc hS e (hb b Q5) (KW b Q5)) h.b;refine RA.uniq hv hc (NG.wZ hv hc hu hb) ?_ (A1Z hv hc hp hu hb);rw[<-this];exact cn
end
end
section
def rO{n:Nat}{X:List V}{k:Nat}{y:V}(h:k<X.length)(hy:X.getD k z0=y):(X.take k).map (vi n)++[vi n y]=(X.take (k+1)).map (vi n):=by
 rw[E5,AZ];congr 1
 rw[<-hy];simp[h]
def A33{f:V->V}{X:List V}{k:Nat}(h:k<X.length):(X.map f).getD k z0=f (X.getD k z0):=by simp[h]
def AEU{P t t'}(hG:ZX P t')(hx:∀d y,t d=some y->t' d=some y)(CP:t'≠t):UG t' P.n<UG t P.n:=by
 have:∃d,t' d≠t d:=AN λq=>CP (funext λd=>AN λq2=>q ⟨d,q2⟩)
 obtain⟨d,hd⟩:=this;have ht:t d=none:=by
  cases hq:t d with
  |none=>rfl
  |some y=>exact absurd ((hx d y hq).trans hq.symm) hd
 rw[ht]at hd;have cB:d<P.n:=by
  cases hq:t' d with
  |none=>exact absurd hq hd
  |some y=>exact(hG d y hq).1
 exact(Sv hx P.n).2 d cB ht hd
section
variable(U:C2)(pw:D4)(cj:E6)
def WG(hn:U.length<=1000):DZ prog 124 [AU U pw cj] (D7 U.length (IT U.length)):=by
 have zO:=U7 (n:=U.length)
 refine DA AY func124 rfl AP ntmps124 results124 ((UZ _ _)) (λnx cX=>?_)
 refine Q9 ?_;refine Q9 ?_;refine A6 λN1 CW=>Q9 ?_;refine AA<|AM (α:=Nat×Option Nat) (λx=>sl 25 [(0,AU U pw cj),(3,oA x.2 x.1),(9,.i .i64 U.length),(10,.i .i64 x.1)]) (λx=>oH DD x.2 (((IT U.length).take x.1).map (vi U.length))) (λx m=>(x.1<=U.length/\nx<=m)/\(x.2=none->x.1=0)/\(∀id,x.2=some id->nx<=id/\id<m)) (λx=>U.length-x.1) ((0,none)) ?_ ?_ (λ_ _ h=>h) ?_
 ·exact⟨⟨B5,AI⟩,λ_=>rfl,B5⟩
 ·simp[EJ,EN,sl,AU,ints,rows,B6,oA]
 rintro⟨k,_|id⟩ m ⟨⟨hk,hm⟩,h0,GF⟩
 ·refine BH ?_;dsimp only[oA,oH]at hk hm h0 GF ⊢;have VW:k=0:=h0 rfl;refine Q9 ?_;refine A6 λN2 DN=>AK ?_ ?_<;>intro h1
  ·apply AF;apply DN;refine A6 λN3 DO=>AA<|Q9 ?_;refine oC ?_;refine AC.pure (.of (FG U.length k A0 A0)) ?_;(try simp-dsimp-implicitDefEqProofs(maxSteps:=800000) (disch:=omega)only[go_sem,ints,AU,vi])
   apply DO;refine oC ?_;refine⟨(k+1,some (m+1+2+9)),?_,by subst VW;rw[<-rO A0 (rC A0)];intro d cs hd;simp only[oH,CJ,DD,vi]at hd ⊢;grind,?_,?_⟩
   ·simp(disch:=omega) [EJ,EN,sl,AU,ints,rows,B6,oA,DV]<;>omega
   ·exact⟨⟨A0,AI⟩,B5,by simp;omega⟩
   exact AI
  apply AO;apply CW;refine Q9 ?_;refine BQ ?_;have h00:U.length=0:=A0
  have:IT U.length=[]:=AX.1 A0;rw[this];exact .nl
 refine BH ?_;dsimp only[oA,oH]at hk hm h0 GF ⊢
 have Aw:=GF id rfl
 have eD:((IT U.length).take k).length=k:=by rw[B1];omega
 refine Q9 ?_;refine A6 λN4 FD=>AK ?_ ?_<;>intro h2
 ·apply AF;apply FD;refine A6 λN5 ID=>AA<|Q9 ?_;refine oC ?_;refine AC.pure (.of (FG U.length k A0 A0)) ?_;(try simp-dsimp-implicitDefEqProofs(maxSteps:=800000) (disch:=omega)only[go_sem,ints,AU,vi])
  apply ID;refine oC ?_;refine⟨(k+1,some (m+1+2+9)),?_,by rw[<-rO A0 (rC A0)];intro d cs hd;simp only[oH,CJ,DD,vi]at hd ⊢;grind,?_,?_⟩
  ·simp(disch:=omega) [EJ,EN,sl,AU,ints,rows,B6,oA,DV]<;>omega
  ·exact⟨⟨A0,AI⟩,B5,by simp;omega⟩
  exact AI
 apply AO;apply CW;refine Q9 ?_;refine BQ ?_;obtain rfl:k=U.length:=A0
 rw[show(IT U.length).take U.length=IT U.length from AJ A0]
 unfold D7
 rw[zO]
 exact Vw.IY (AD _ _ _) (by simp[zO])
def kL(h:BW U pw cj)(hc:HN (pc U pw cj) 0)(us)(hl:us.length<=1000)(hu:∀x∈us,T (pc U pw cj) 0 x)(b)(hb:T (pc U pw cj) 0 b):DZ prog 186 [AU U pw cj,D7 U.length us,vi U.length b] (D7 U.length (us.map λa=>PI (pc U pw cj) a b)):=by
 have Q4:=h.1.1
 have hT:∀k,k<us.length->T (pc U pw cj) 0 (us.getD k z0):=λk hk=>hu _ (by rw[A5,A9 hk];exact BK _)
 obtain⟨X,hX⟩:=EK (us.map (λa=>PI (pc U pw cj) a b))
 have dE:X.length=us.length:=by rw[<-hX,A4]
 have hXg:∀k,k<us.length->X.getD k z0=PI (pc U pw cj) (us.getD k z0) b:=λk hk=>by rw[<-hX];exact A33 hk
 rw[hX]
 refine DA AY func186 rfl AP ntmps186 results186 ((UZ _ _)) (λnx cX=>?_)
 refine T7 ?_;refine T7 ?_;refine A6 λN1 CW=>T7 ?_;refine AA<|AM (α:=Nat×Option Nat) (λx=>sl 25 [(0,AU U pw cj),(2,vi U.length b),(7,oA x.2 x.1),(10,D7 U.length us),(11,.i .i64 us.length),(12,.i .i64 x.1)]) (λx=>oH DD x.2 ((X.take x.1).map (vi U.length))) (λx m=>(x.1<=us.length/\nx<=m)/\(x.2=none->x.1=0)/\(∀id,x.2=some id->nx<=id/\id<m)) (λx=>us.length-x.1) ((0,none)) ?_ ?_ (λ_ _ h=>h) ?_
 ·exact⟨⟨B5,AI⟩,λ_=>rfl,B5⟩
 ·simp[EJ,EN,sl,D7,vi,oA]
 rintro⟨k,_|id⟩ m ⟨⟨hk,hm⟩,h0,GF⟩
 ·refine BH ?_;dsimp only[oA,oH]at hk hm h0 GF ⊢;have VW:k=0:=h0 rfl;refine T7 ?_;refine A6 λN2 DN=>AK ?_ ?_<;>intro h1
  ·apply AF;apply DN;refine A6 λN3 DO=>AA<|T7 ?_;refine gO ?_;refine Kv ((FU U pw cj h 0 hc _ _ (hT k A0) hb).pure) ?_
   apply DO;refine gO ?_;refine⟨(k+1,some (m+1+3+6)),?_,by subst VW;rw[<-rO A0 (hXg _ A0)];intro d cs hd;simp only[oH,CJ,DD,vi,PI]at hd ⊢;grind,?_,?_⟩
   ·simp(disch:=omega) [EJ,EN,sl,D7,vi,oA,DV]<;>omega
   ·exact⟨⟨A0,AI⟩,B5,by simp;omega⟩
   exact AI
  apply AO;apply CW;refine T7 ?_;refine BQ ?_;have:X=[]:=AX.1 A0
  rw[this];exact .nl
 refine BH ?_;dsimp only[oA,oH]at hk hm h0 GF ⊢
 have Aw:=GF id rfl
 have eD:(X.take k).length=k:=by rw[B1];omega
 refine T7 ?_;refine A6 λN4 FD=>AK ?_ ?_<;>intro h2
 ·apply AF;apply FD;refine A6 λN5 ID=>AA<|T7 ?_;refine gO ?_;refine Kv ((FU U pw cj h 0 hc _ _ (hT k A0) hb).pure) ?_
  apply ID;refine gO ?_;refine⟨(k+1,some (m+1+3+6)),?_,by rw[<-rO A0 (hXg _ A0)];intro d cs hd;simp only[oH,CJ,DD,vi,PI]at hd ⊢;grind,?_,?_⟩
  ·simp(disch:=omega) [EJ,EN,sl,D7,vi,oA,DV]<;>omega
  ·exact⟨⟨A0,AI⟩,B5,by simp;omega⟩
  exact AI
 apply AO;apply CW;refine T7 ?_;refine BQ ?_;obtain rfl:k=us.length:=A0
 rw[show X.take us.length=X from AJ A0]
 unfold D7
 rw[dE]
 exact Vw.IY (AD _ _ _) (by simp[dE])
set_option maxRecDepth 20000 in
set_option maxHeartbeats 4000000 in
def vB(h:BW U pw cj)(hc:HN (pc U pw cj) 0)(us bs)(hl:us.length<=1000)(X5:bs.length<=1000)(hu:∀x∈us,T (pc U pw cj) 0 x)(hb:∀x∈bs,T (pc U pw cj) 0 x)(nx):AC prog 126 nx DD [AU U pw cj,D7 U.length us,D7 U.length bs] (λDI H' r=>OwZ U.length nx DI DD H' r (ccL (pc U pw cj) us bs)):=by
 have Q4:=h.1.1
 have hv:=h.val
 have SJ:=h.2.1
 have hp:∀d,d<(pc U pw cj).n->O8 ((pc U pw cj).o d):=λd hd=>SJ d hd
 have PN:(pc U pw cj).n=U.length:=rfl
 have M4:=ClI.start hv hc hp hu hb
 have hbm:∀k,k<bs.length->bs.getD k z0∈bs:=λk hk=>by rw[A5,A9 hk];exact BK _
 refine CF AY func126 rfl AP ntmps126 results126 (λGM cX=>?_)
 refine tW ?_;refine sQ λN hN=>?_;refine W6 ?_;refine(U0 U pw cj A0 _ _).CD ?_
 rintro m1 H1 r1 SF ⟨ids,L7,rfl,⟨i1,i2,i3,i4,i5⟩,rfl⟩
 refine W6 ?_
 apply hN;refine sQ λN hN=>?_;refine W6 ?_;refine(aY U pw cj h hc (λ_=>none) (λd y hy=>by cases hy) us hl hu _ _ ids L7 i5 (AD _ _ _) ((AB _ _ (I8 i5)).trans (AD _ _ _))).CD ?_
 rintro m2 H2 r2 Q8 ⟨rfl,rfl⟩
 refine W6 ?_
 apply hN;refine A6 λN1 CW=>tW ?_;refine AA<|AM (α:=(Nat->Option V)×Bool) (λx=>sl 35 [(0,AU U pw cj),(2,D7 U.length bs),(7,.q ids 0),(8,.b x.2)]) (λx=>CJ (CJ DD L7 (some (qY U.length x.1))) ids (some [AU U pw cj,.h L7 0 U.length])) (λx m=>ClI (pc U pw cj) us bs x.1/\(x.2=false->∀b∈bs,∀a∈aX (pc U pw cj) x.1 0,pS (pc U pw cj) x.1 (PI (pc U pw cj) a b))/\ids<m/\L7<m/\nx<=m) (λx=>2*UG x.1 U.length+(if x.2=true then 1 else 0)) ((mN (pc U pw cj) (λ_=>none) us,true)) ?_ ?_ (by intro d cs hd;simp only[CJ,DD]at hd ⊢;grind) ?_
 ·exact⟨M4,(λq=>by cases q),AI,AI,AI⟩
 ·exact GD
 rintro⟨t,gr⟩ m ⟨hI,lG,dB,XA,Wn⟩
 dsimp only at hI lG dB XA Wn ⊢
 have A7O:=Sx hv hc hI.c
 have hlen:=A7O.len
 rw[PN]at hlen
 have hSt:=kK hv hc hI.c
 refine BH ?_;refine A6 λN2 DN=>tW ?_;refine AK ?_ ?_<;>intro h1
 ·have hgt:gr=true:=by first|exact h1|simpa using h1
  subst hgt;apply AF;apply DN;refine AA<|tW ?_;refine sQ λN hN=>?_;refine W6 ?_;refine(W8 U pw cj h hc t hI.G _ _ ids L7 (AD _ _ _) ((AB _ _ (I8 i5)).trans (AD _ _ _))).CD ?_
  rintro m3 H3 r3 U5 ⟨rfl,rfl⟩;refine W6 ?_
  obtain⟨ws,hws⟩:=EK (aX (pc U pw cj) t 0);rw[hws]at A7O hlen lG ⊢;refine W6 ?_
  apply hN;refine tW ?_;refine AA<|AM (α:=Nat×(Nat->Option V)) (λx=>sl 35 [(0,AU U pw cj),(2,D7 U.length bs),(7,.q ids 0),(8,.b (tf (x.2≠t))),(9,D7 U.length ws),(20,D7 U.length bs),(21,.i .i64 bs.length),(22,.i .i64 x.1)]) (λx=>CJ (CJ DD L7 (some (qY U.length x.2))) ids (some [AU U pw cj,.h L7 0 U.length])) (λx m=>(x.1<=bs.length/\ids<m/\L7<m/\nx<=m)/\ClI (pc U pw cj) us bs x.2/\(∀v,pS (pc U pw cj) t v->pS (pc U pw cj) x.2 v)/\(∀d y,t d=some y->x.2 d=some y)/\∀k,k<x.1->∀a∈ws,pS (pc U pw cj) x.2 (PI (pc U pw cj) a (bs.getD k z0))) (λx=>bs.length-x.1) ((0,t)) ?_ ?_ (λ_ _ h=>h) ?_
  ·exact⟨⟨AE _,AI,AI,AI⟩,hI,λ_ q=>q,λ_ _ q=>q,λk hk=>A0⟩
  ·simp(disch:=omega) [EJ,EN,sl,AU,ints,rows,B6,D7,tf]<;>omega
  rintro⟨q,t2⟩ m5 ⟨⟨hq,sA,hq4,hq8⟩,hI2,hup,Mi,R8⟩;dsimp only at hq sA hq4 hq8 hI2 hup Mi R8 ⊢;have hwS:∀w∈ws,pS (pc U pw cj) t2 w:=λw hw=>hup w (A7O.S hw)
  refine BH ?_;refine tW ?_;refine A6 λN3 DO=>AK ?_ ?_<;>intro h2
  ·have Sy:=hbm q A0;obtain⟨b,Dm⟩:=EK (bs.getD q z0);rw[Dm]at Sy;have hwT:∀x∈ws,T (pc U pw cj) 0 x:=λx hx=>hSt.n (A7O.S hx)
   obtain⟨n1,n2,n3,n4,n5⟩:=hI2.next hv hc hp hu hb Sy hwS;rw[PN]at n4;have Ya:∀x∈ws.map (λa=>PI (pc U pw cj) a b),T (pc U pw cj) 0 x:=λx hx=>by
    obtain⟨a,ha,rfl⟩:=AQ.1 hx;exact(MB hv hc (hwT a ha) (hb b Sy)).1
   have hcj:=kL U pw cj h hc ws A0 hwT b (hb b Sy);have KW:(ws.map λa=>PI (pc U pw cj) a b).length=ws.length:=A4 _;obtain⟨cs,c8⟩:=EK (ws.map (λa=>PI (pc U pw cj) a b));rw[c8]at n1 n2 n3 n4 n5 Ya hcj KW;apply AF;apply DO;refine A6 λN4 FD=>AA<|sQ λN hN=>?_;simp-dsimp-implicitDefEqProofs(maxSteps:=800000) (disch:=omega)only[go_sem,D7,Dm];apply hN;refine sQ λN hN=>?_;refine W6 ?_;refine AC.pure (.of (hcj)) ?_;(try simp-dsimp-implicitDefEqProofs(maxSteps:=800000) (disch:=omega)only[go_sem,D7])
   refine(aY U pw cj h hc t2 hI2.G cs A0 Ya _ _ ids L7 i5 (AD _ _ _) ((AB _ _ (I8 i5)).trans (AD _ _ _))).CD ?_;rintro m6 H6 r6 hm6 ⟨rfl,rfl⟩;refine W6 ?_
   obtain⟨t3,ht3⟩:=EK (mN (pc U pw cj) t2 cs);rw[ht3]at n1 n2 n3 n4 n5 ⊢;have A7P:∀k,k<q+1->∀a∈ws,pS (pc U pw cj) t3 (PI (pc U pw cj) a (bs.getD k z0)):=λk hk=>by
    rcases BL k q with z|z
    ·exact λa ha=>n2 _ (R8 k z a ha)
    obtain rfl:k=q:=A0;rw[Dm];exact n3
   refine W6 ?_
   apply hN;refine AK ?_ ?_<;>intro h3
   ·have AKT:t3≠t2:=by first|exact h3|(intro e;simp[e]at h3)
    have Jw:t3≠t:=λe=>AKT (funext λd=>by
     cases hq5:t2 d with
     |some y=>exact n5 d y hq5
     | none=>
      cases hq6:t3 d with
      |none=>rfl
      |some y=>
       rw[e]at hq6;rw[Mi d y hq6]at hq5;cases hq5)
    have ARH:tf (t3≠t)=true:=KU Jw;apply rQ;simp-dsimp-implicitDefEqProofs(maxSteps:=800000) (disch:=omega)only[go_sem,D7];apply FD;apply rQ;simp-dsimp-implicitDefEqProofs(maxSteps:=800000) (disch:=omega)only[go_sem,D7];refine⟨(q+1,t3),?_,by intro d cs hd;simp only[CJ,DD]at hd ⊢;grind,?_,?_⟩
    ·exact GD
    ·first|exact⟨⟨AI,AI,AI,AI⟩,n1,λv hv3=>n2 v (hup v hv3),λd y hy=>n5 d y (Mi d y hy),A7P⟩|exact⟨AI,n1,λv hv3=>n2 v (hup v hv3),λd y hy=>n5 d y (Mi d y hy),A7P⟩
    exact AI
   have he3:t3=t2:=by first|exact AN h3|(apply AN;intro e;simp[e]at h3)
   subst he3;apply AF;apply FD;apply rQ;simp-dsimp-implicitDefEqProofs(maxSteps:=800000) (disch:=omega)only[go_sem,D7];refine⟨(q+1,t3),?_,by intro d cs hd;simp only[CJ,DD]at hd ⊢;grind,?_,?_⟩
   ·exact GD
   ·first|exact⟨⟨AI,AI,AI,AI⟩,n1,λv hv3=>n2 v (hup v hv3),λd y hy=>n5 d y (Mi d y hy),A7P⟩|exact⟨AI,n1,λv hv3=>n2 v (hup v hv3),λd y hy=>n5 d y (Mi d y hy),A7P⟩
   exact AI
  have Dw:q=bs.length:=A0;subst Dw;have hmz:2*UG t2 U.length+(if tf (t2≠t)=true then 1 else 0)<2*UG t U.length+1:=by
   by_cases e:t2=t
   ·rw[JQ (λz=>z e),e];simp
   rw[KU e];have:=AEU hI2.G Mi e;rw[PN]at this;simp;omega
  apply AO;simp only[wW,IY,if_true];refine BB (t2,tf (t2≠t)) ?_ ?_ ?_
  ·exact GD
  ·refine⟨hI2,λhf=>?_,AI,AI,AI⟩;have dZ:t2=t:=AN λq=>by rw[KU q]at hf;cases hf
   subst dZ;intro b Q5;obtain⟨k,hk,rfl⟩:=GX Q5;have:=R8 k hk;rw[A5,A9 hk]at this;rw[hws];exact this
  exact hmz
 have hgf:gr=false:=by first|exact h1|simpa using h1
 subst hgf
 apply AO;apply CW;refine sQ λN hN=>?_;refine W6 ?_;refine(XP U pw cj h hc t hI.G _ _ ids L7 (AD _ _ _) ((AB _ _ (I8 i5)).trans (AD _ _ _))).CD ?_
 rintro m9 H9 r9 oI (⟨id9,rfl,hi9,hj9,rfl⟩|⟨he9,rfl,rfl⟩)
 ·refine W6 ?_
  apply hN;refine BQ ?_;rw[hI.fin hv hc hp hu hb (lG rfl)];exact⟨_,uB,.inl ⟨id9,rfl,A0,A0,rfl⟩⟩
 refine W6 ?_
 apply hN;refine BQ ?_;rw[hI.fin hv hc hp hu hb (lG rfl)]at he9
 exact⟨DD,(λ_ _ h=>by cases h),.inr ⟨he9,rfl,rfl⟩⟩
end
end
section
def vlS{n:Nat}{X:List V}{k:Nat}{y:V}(h:k<X.length)(hy:X.getD k z0=y):(X.take k).map (vi n)++[vi n y]=(X.take (k+1)).map (vi n):=by
 rw[E5,AZ];congr 1
 rw[<-hy];simp[h]
def nC{X:List V}{k:Nat}{y:V}(h:k<X.length)(hy:X.getD k z0=y):X.take (k+1)=X.take k++[y]:=by
 rw[E5,<-hy];simp[h]
def P3{X:List V}{k:Nat}(h:k<X.length):X.getD k z0∈X:=by rw[A5,A9 h];exact BK _
def Gy{P:Pc}{us vs:List V}{k:Nat}{x:V}(h:k<us.length)(hx:us.getD k z0=x):Ga P (us.take (k+1)) vs=Ga P (us.take k) vs++vs.map λy=>mL P x y:=by
 rw[nC h hx];unfold Ga;rw[F4];simp
def A34{P:Pc}{us bs:List V}{k:Nat}{b:V}(h:k<bs.length)(hb:bs.getD k z0=b):Dr P us (bs.take (k+1))=Dr P us (bs.take k)++us.map λa=>PI P a b:=by
 rw[nC h hb];unfold Dr;rw[F4];simp
def kM{f:V->V}{X:List V}{k:Nat}{y:V}(h:k<X.length)(hy:X.getD k z0=y):(X.take (k+1)).map f=(X.take k).map f++[f y]:=by
 rw[nC h hy,AZ];rfl
def rP{P us vs}:(Ga P us vs).length=us.length*vs.length:=by
 induction us with
 |nil=>simp[Ga]
 | cons a us ih=>
   show((vs.map λy=>mL P a y)++Ga P us vs).length=_
   rw[AH,ih,A4,C6,I6,FP]
def Sz{P us bs}:(Dr P us bs).length=bs.length*us.length:=by
 induction bs with
 |nil=>simp[Dr]
 | cons b bs ih=>
   show((us.map λa=>PI P a b)++Dr P us bs).length=_
   rw[AH,ih,A4,C6,I6,FP]
def Fz.D7{H id k n cs X}(hc:H id=some cs)(he:cs=X.map (vi n))(hk:k=X.length):Fz H (CJ H id none) (.h id 0 k) (Go.Proofs.YtgknbnkmilddhaaGreat.D7 n X):=by
 subst he hk;exact Fz.IY hc B5
def A7Q{n us}:(∀z∈List.map (vi n) us,one z=true)=True:=eq_true λz hz=>by
 obtain⟨a,_,rfl⟩:=AQ.1 hz;rfl
def A7R{P}(hv:LK P)(hc:HN P 0){x y}(hx:T P 0 x)(hy:T P 0 y):cmV P x y=mL P x y:=by
 have g:=CS hv hc;have h1:=g.cl hy hx;have h2:=g.cl hx hy;obtain⟨i1,i2⟩:=KJ g h1;obtain⟨c1,c2⟩:=mU hv hc hx hy;refine g.lc h1 (g.cl i1 h2) c1 ?_;rw[c2];unfold cmV;rw[<-g.ac h1 i1 h2,i2,g.l1 h2]
def vC(n:Nat)(hn:n<=1000):DZ prog 112 [.i .i64 n] (D7 n (IT n)):=by
 have zO:=U7 (n:=n)
 refine DA AY func112 rfl AP ntmps112 results112 ((UZ _ _)) (λnx cX=>?_)
 refine CT ?_;refine CT ?_;refine A6 λN1 CW=>CT ?_;refine AA<|AM (α:=Nat×Nat) (λx=>sl 22 [(0,.i .i64 n),(3,.h x.2 0 x.1),(4,.i .i64 x.1)]) (λx=>CJ DD x.2 (some (((IT n).take x.1).map (vi n)))) (λx m=>x.1<=n/\nx<=x.2/\x.2<m) (λx=>n-x.1) ((0,nx+1)) ?_ ?_ (by intro d cs hd;simp only[CJ,DD,BU,AS]at hd ⊢;grind) ?_
 ·exact⟨B5,AI,AI⟩
 ·exact E2
 rintro⟨k,id⟩ m ⟨hk,GF,hm⟩
 dsimp only at hk GF hm ⊢
 have eD:((IT n).take k).length=k:=by rw[B1];omega
 refine BH ?_;refine A6 λN2 DN=>CT ?_;refine AK ?_ ?_<;>intro h1
 ·apply AF;apply DN;refine A6 λN3 DO=>AA<|CT ?_;refine CT ?_;rw[IL,cE A0,show(D0 (λ_=>0) k 1:V)=un k from rfl]
  refine IQ 5 (m+3+1) n _ rfl (AD _ _ _) HM ?_;refine BH ?_;refine K4 ?_;apply DO;refine K4 ?_;refine⟨(k+1,m+3+3+4+3),?_,by rw[<-vlS A0 (rC A0)];intro d cs hd;simp only[CJ,DD,vi]at hd ⊢;grind,?_,?_⟩
  ·exact FV
  ·exact⟨A0,AI,AI⟩
  exact AI
 apply AO;apply CW;refine CT ?_;refine BQ ?_;obtain rfl:k=n:=A0
 rw[show(IT k).take k=IT k from AJ A0]
 unfold D7
 rw[zO]
 exact Vw.IY (AD _ _ _) (by simp[zO])
section
variable(U:C2)(pw:D4)(cj:E6)
def pT(hn:U.length<=1000):DZ prog 53 [CI U pw cj] (D7 U.length (IT U.length)):=by
 refine BI AY func53 rfl AP ntmps53 results53 (UZ _ _) (λnx cX=>?_)
 refine NV ?_;refine Pm (vC U.length hn) ?_;apply DQ;simp-dsimp-implicitDefEqProofs(maxSteps:=800000) (disch:=omega)only[go_sem];skip
def TP(h:BW U pw cj)(hc:HN (pc U pw cj) 0)(a b)(ha:T (pc U pw cj) 0 a)(hb:T (pc U pw cj) 0 b):DZ prog 119 [CI U pw cj,vi U.length a,vi U.length b] (vi U.length (PI (pc U pw cj) a b)):=by
 have hg:=CS h.val hc
 refine BI AY func119 rfl AP ntmps119 results119 (RS _ _) (λnx cX=>?_)
 refine NV ?_;refine BN 3 nx _ rfl (AD _ _ _) ?_
 refine BH ?_;refine A6 λN hN=>C9 AY AP 10 AP ?_
 refine Pn ?_;refine⟨_,.of (UW U pw cj h hc _ hb),?_⟩
 refine TW ?_
 refine⟨_,.of (JJ U pw cj h _ _ ha hb),?_⟩
 refine TW ?_
 refine⟨_,.of (JJ U pw cj h _ _ (KJ hg hb).1 (hg.cl ha hb)),?_⟩
 refine TW ?_
 apply hN;apply DQ;simp-dsimp-implicitDefEqProofs(maxSteps:=800000) (disch:=omega)only[go_sem];try rfl
def pU(h:BW U pw cj)(hc:HN (pc U pw cj) 0)(us)(hl:us.length<=1000)(hu:∀x∈us,T (pc U pw cj) 0 x):DZ prog 122 [CI U pw cj,D7 U.length us] (D7 U.length (TK (pc U pw cj) us)):=
 mJ U pw cj h hc us hl hu
def pW(h:BW U pw cj)(hc:HN (pc U pw cj) 0)(us)(hl:us.length<=1000)(hu:∀x∈us,T (pc U pw cj) 0 x)(nx):AC prog 122 nx DD [CI U pw cj,D7 U.length us] (λDI H' r=>OwS U.length nx DI DD H' r (TK (pc U pw cj) us)):=
 ZA U pw cj h hc us hl hu nx
set_option maxRecDepth 20000 in
set_option maxHeartbeats 4000000 in
def nD(h:BW U pw cj)(hc:HN (pc U pw cj) 0)(us bs)(hl:us.length<=6)(X5:bs.length<=20)(hu:∀x∈us,T (pc U pw cj) 0 x)(hb:∀x∈bs,T (pc U pw cj) 0 x)(MC:RA (pc U pw cj) (GL (pc U pw cj) us) us)(nx):AC prog 121 nx DD [CI U pw cj,D7 U.length us,D7 U.length bs] (λDI H' r=>OwS U.length nx DI DD H' r (stF (pc U pw cj) bs (U.length+1) us)):=by
 have Q4:=h.1.1
 have hv:=h.val
 have SJ:=h.2.1
 have hp:∀d,d<(pc U pw cj).n->O8 ((pc U pw cj).o d):=λd hd=>SJ d hd
 have PN:(pc U pw cj).n=U.length:=rfl
 obtain⟨R,hR⟩:=EK (stF (pc U pw cj) bs (U.length+1) us)
 rw[hR]
 refine CF AY func121 rfl AP ntmps121 results121 (λGM cX=>?_)
 refine W4 ?_;refine BN 3 nx _ rfl (AD _ _ _) ?_
 refine BH ?_;refine W4 ?_;refine AA<|AM (α:=List V×Nat) (λx=>sl 50 [(2,D7 U.length bs),(3,AU U pw cj),(7,D7 U.length x.1)]) (λ_=>DD) (λx m=>(x.1.length<=6/\U.length<x.1.length+x.2/\nx<=m)/\(∀y∈x.1,T (pc U pw cj) 0 y)/\RA (pc U pw cj) (GL (pc U pw cj) x.1) x.1/\stF (pc U pw cj) bs x.2 x.1=R) (λx=>x.2) ((us,U.length+1)) ?_ ?_ (by intro d cs hd;cases hd) ?_
 ·exact⟨⟨hl,AI,AI⟩,hu,MC,hR⟩
 ·exact GD
 rintro⟨out,f⟩ m ⟨⟨Eg,hf,AP7⟩,hoT,hoc,hC⟩
 dsimp only at Eg hf AP7 hoT hoc hC ⊢
 simp only[AU,D7];refine BH ?_;refine AA<|sQ λN hN=>?_;refine oG ?_;refine AC.mono (AC.frame (V0 U A0 out A0 _)) ?_
 rintro m1 H1 r1 ⟨H0,⟨id,rfl,gL,UY,tS⟩,IA,LH⟩
 have SM:=(LH id gL).trans tS
 clear tS LH IA
 refine oG ?_
 apply hN;refine A6 λN1 CW=>W4 ?_;refine AA<|AM (α:=Nat×Nat×List V) (λx=>sl 50 [(2,D7 U.length bs),(3,AU U pw cj),(7,D7 U.length out),(8,.h x.2.1 0 x.2.2.length),(9,.i .i64 x.1)]) (λx=>CJ DD x.2.1 (some (x.2.2.map (vi U.length)))) (λx m=>(x.1<=bs.length/\nx<=x.2.1/\x.2.1<m)/\x.2.2=out++Dr (pc U pw cj) out (bs.take x.1)) (λx=>bs.length-x.1) ((0,id,out)) ?_ ?_ (by intro d cs hd;simp only[CJ,DD]at hd ⊢;grind) ?_
 ·exact⟨⟨A0,AI,AI⟩,by simp[Dr]⟩
 ·exact GD
 rintro⟨i,Ir,K⟩ m2 ⟨⟨hi,xO,A16⟩,hK⟩
 dsimp only at hi xO A16 hK ⊢
 simp only[AU,D7];refine BH ?_;refine A6 λN2 DN=>W4 ?_;refine AK ?_ ?_<;>intro h1
 ·obtain⟨b,Dm⟩:=EK (bs.getD i z0);have hbT:T (pc U pw cj) 0 b:=by rw[<-Dm];exact hb _ (P3 A0)
  have Wo:=A34 (P:=pc U pw cj) (us:=out) (show i<bs.length by omega) Dm;have KW:=Sz (P:=pc U pw cj) (us:=out) (bs:=bs.take i);have uY:(bs.take i).length*out.length<=20*6:=CY (by rw[B1];omega) Eg;apply AF;apply DN;refine A6 λN3 DO=>AA<|W4 ?_;refine AA<|AM (α:=Nat×Nat×List V) (λx=>sl 50 [(2,D7 U.length bs),(3,AU U pw cj),(7,D7 U.length out),(8,.h x.2.1 0 x.2.2.length),(9,.i .i64 i),(10,.i .i64 x.1)]) (λx=>CJ DD x.2.1 (some (x.2.2.map (vi U.length)))) (λx m=>(x.1<=out.length/\nx<=x.2.1/\x.2.1<m)/\x.2.2=K++(out.take x.1).map λa=>PI (pc U pw cj) a b) (λx=>out.length-x.1) ((0,Ir,K)) ?_ ?_ (λ_ _ h=>h) ?_
  ·exact⟨⟨A0,AI,AI⟩,B5⟩
  ·exact GD
  rintro⟨j,id5,K2⟩ m3 ⟨⟨hj,Fm,Lc⟩,iS⟩;dsimp only at hj Fm Lc iS ⊢;simp only[AU,D7];refine BH ?_;have Is:K2.length<=1000:=by
   rw[iS,AH,A4,B1,hK,AH,KW];omega
  refine A6 λN4 FD=>W4 ?_;refine AK ?_ ?_<;>intro h2
  ·have hms:=kM (f:=λa=>PI (pc U pw cj) a b) (show j<out.length by omega) rfl;apply AF;apply FD;refine A6 λN5 ID=>AA<|C9 AY AP 12 AP ?_
   refine A12 Dm ?_;refine⟨_,.of (TP U pw cj h hc _ b (hoT _ (P3 A0)) hbT),?_⟩;refine oG ?_
   apply ID;refine tZ ?_;refine⟨(j+1,m3+4+12,K2++[PI (pc U pw cj) (out.getD j z0) b]),?_,by intro d cs hd;simp only[CJ,DD,KD,AZ,BR,BU,vi]at hd ⊢;grind,?_,?_⟩
   ·exact GD
   ·exact⟨⟨A0,AI,AI⟩,by (try simp only[]);rw[hms,iS,BO]⟩
   exact AI
  have lT:j=out.length:=A0;subst lT;apply AO;apply DO;refine tZ ?_;refine BB (i+1,id5,K2) ?_ ?_ ?_
  ·exact GD
  ·exact⟨⟨A0,AI,AI⟩,by (try simp only[]);rw[iS,hK,Wo,B2,BO]⟩
  exact AI
 apply AO;apply CW;obtain rfl:i=bs.length:=A0
 rw[B2]at hK
 have KW:=Sz (P:=pc U pw cj) (us:=out) (bs:=bs)
 have uY:bs.length*out.length<=20*6:=CY X5 Eg
 have Is:K.length<=1000:=by rw[hK,AH,KW];omega
 have Ld:∀x∈K,T (pc U pw cj) 0 x:=λx hx=>by
  rw[hK]at hx;rcases AG.1 hx with z|z
  ·exact hoT x z
  obtain⟨b,b1,a,a1,rfl⟩:=rB.1 z;exact(MB hv hc (hoT a a1) (hb b b1)).1
 have kn:=mT hv hc hp Ld
 have knT:=Qv hv hc hp Ld
 have kl:=kn.len
 have kg:=RA.gen hv hc (WM hv hc hp Ld) kn
 rw[kg]at kn
 have kc:(∀x,GL (pc U pw cj) out x->GL (pc U pw cj) K x)->out.length<=(TK (pc U pw cj) K).length:=λhs=>by
  rw[kg]at hs;exact(RA.cmp hv hc (WM hv hc hp hoT) (WM hv hc hp knT) hoc kn hs).1
 have kc:=kc (λx hx=>hx.le (WM hv hc hp Ld) (λu jI=>GL.of (by rw[hK];exact AG.2 (.inl jI))))
 rw[PN]at kl
 obtain⟨f',rfl⟩:∃f',f=f'+1:=⟨f-1,A0⟩
 rw[stF,<-hK]at hC
 obtain⟨nxt,Xi⟩:=EK (TK (pc U pw cj) K)
 have Mj:=λn9=>pW U pw cj h hc K Is Ld n9
 rw[Xi]at kn knT kl kc hC Mj
 refine IQ 8 Ir K.length _ rfl (AD _ _ _) (A4 _) ?_
 refine BH ?_;refine sQ λN hN=>?_;refine oG ?_;refine(Ky (Mj _)).CD ?_
 rintro m9 H9 r9 oI ⟨id9,rfl,hi9,hj9,rfl⟩
 refine oG ?_
 apply hN;refine A6 λN6 OR=>W4 ?_;refine AK ?_ ?_<;>intro h3
 ·refine W4 ?_;refine BQ ?_;rw[if_pos A0]at hC
  rw[<-hC];exact⟨_,uB,id9,rfl,A0,A0,rfl⟩
 apply AF;apply OR;refine IQ 11 id9 nxt.length _ rfl (AD _ _ _) (A4 _) ?_
 refine BH ?_;refine tZ ?_;refine⟨(nxt,f'),?_,λ_ _ h=>(by cases h),?_,?_⟩
 ·exact GD
 ·exact⟨⟨AI,AI,AI⟩,knT,kn,by dsimp only;rw[if_neg A0]at hC;exact hC⟩
 exact AI
set_option maxRecDepth 20000 in
set_option maxHeartbeats 4000000 in
def vD(h:BW U pw cj)(hc:HN (pc U pw cj) 0)(us vs)(hl:us.length<=6)(oE:vs.length<=6)(hu:∀x∈us,T (pc U pw cj) 0 x)(hw:∀x∈vs,T (pc U pw cj) 0 x)(nx):AC prog 56 nx DD [CI U pw cj,D7 U.length us,D7 U.length vs] (λDI H' r=>OwS U.length nx DI DD H' r (QK (pc U pw cj) us vs)):=by
 have Q4:=h.1.1
 have hv:=h.val
 have SJ:=h.2.1
 have hp:∀d,d<(pc U pw cj).n->O8 ((pc U pw cj).o d):=λd hd=>SJ d hd
 have PN:(pc U pw cj).n=U.length:=rfl
 refine CF AY func56 rfl AP ntmps56 results56 (λGM cX=>?_)
 refine W4 ?_;refine BN 3 nx _ rfl (AD _ _ _) ?_
 refine BH ?_;refine W4 ?_;refine A6 λN1 CW=>W4 ?_;refine AA<|AM (α:=Nat×Nat×List V) (λx=>sl 45 [(1,D7 U.length us),(2,D7 U.length vs),(3,AU U pw cj),(7,.h x.2.1 0 x.2.2.length),(8,.i .i64 x.1)]) (λx=>CJ DD x.2.1 (some (x.2.2.map (vi U.length)))) (λx m=>(x.1<=us.length/\nx<=x.2.1/\x.2.1<m)/\x.2.2=Ga (pc U pw cj) (us.take x.1) vs) (λx=>us.length-x.1) ((0,nx+2,[])) ?_ ?_ (by intro d cs hd;simp only[CJ,DD,BU]at hd ⊢;grind) ?_
 ·exact⟨⟨A0,AI,AI⟩,by simp[Ga]⟩
 ·exact GD
 rintro⟨i,Ir,K⟩ m2 ⟨⟨hi,xO,A16⟩,hK⟩
 dsimp only at hi xO A16 hK ⊢
 simp only[AU,D7];refine BH ?_;refine A6 λN2 DN=>W4 ?_;refine AK ?_ ?_<;>intro h1
 ·obtain⟨b,Dm⟩:=EK (us.getD i z0);have hbT:T (pc U pw cj) 0 b:=by rw[<-Dm];exact hu _ (P3 A0)
  have Wo:=Gy (P:=pc U pw cj) (vs:=vs) (show i<us.length by omega) Dm;have KW:=rP (P:=pc U pw cj) (us:=us.take i) (vs:=vs);have uY:(us.take i).length*vs.length<=6*6:=CY (by rw[B1];omega) oE;apply AF;apply DN;refine A6 λN3 DO=>AA<|W4 ?_;refine AA<|AM (α:=Nat×Nat×List V) (λx=>sl 45 [(1,D7 U.length us),(2,D7 U.length vs),(3,AU U pw cj),(7,.h x.2.1 0 x.2.2.length),(8,.i .i64 i),(9,.i .i64 x.1)]) (λx=>CJ DD x.2.1 (some (x.2.2.map (vi U.length)))) (λx m=>(x.1<=vs.length/\nx<=x.2.1/\x.2.1<m)/\x.2.2=K++(vs.take x.1).map λy=>mL (pc U pw cj) b y) (λx=>vs.length-x.1) ((0,Ir,K)) ?_ ?_ (λ_ _ h=>h) ?_
  ·exact⟨⟨A0,AI,AI⟩,B5⟩
  ·exact GD
  rintro⟨j,id5,K2⟩ m3 ⟨⟨hj,Fm,Lc⟩,iS⟩;dsimp only at hj Fm Lc iS ⊢;simp only[AU,D7];refine BH ?_;have Is:K2.length<=1000:=by
   rw[iS,AH,A4,B1,hK,KW];omega
  refine A6 λN4 FD=>W4 ?_;refine AK ?_ ?_<;>intro h2
  ·have hms:=kM (f:=λy=>mL (pc U pw cj) b y) (show j<vs.length by omega) rfl;have gP:=hw _ (P3 (show j<vs.length by omega));have hco:=Z9 U pw cj h hc b _ hbT gP;rw[A7R hv hc hbT gP]at hco;apply AF;apply FD;refine A6 λN5 ID=>AA<|C9 AY AP 12 AP ?_
   refine A12 Dm ?_;refine⟨_,.of (hco),?_⟩;refine oG ?_
   apply ID;refine tZ ?_;refine⟨(j+1,m3+4+12,K2++[mL (pc U pw cj) b (vs.getD j z0)]),?_,by intro d cs hd;simp only[CJ,DD,KD,AZ,BR,BU,vi]at hd ⊢;grind,?_,?_⟩
   ·exact GD
   ·exact⟨⟨A0,AI,AI⟩,by (try simp only[]);rw[hms,iS,BO]⟩
   exact AI
  have lT:j=vs.length:=A0;subst lT;apply AO;apply DO;refine tZ ?_;refine BB (i+1,id5,K2) ?_ ?_ ?_
  ·exact GD
  ·exact⟨⟨A0,AI,AI⟩,by (try simp only[]);rw[iS,hK,Wo,B2]⟩
  exact AI
 apply AO;apply CW;obtain rfl:i=us.length:=A0
 rw[B2]at hK
 have KW:=rP (P:=pc U pw cj) (us:=us) (vs:=vs)
 have uY:us.length*vs.length<=6*6:=CY hl oE
 have Is:K.length<=1000:=by rw[hK,KW];omega
 have Ld:∀x∈K,T (pc U pw cj) 0 x:=by rw[hK];exact yX hv hc hu hw
 have kn:=mT hv hc hp Ld
 have knT:=Qv hv hc hp Ld
 have kl:=kn.len
 rw[RA.gen hv hc (WM hv hc hp Ld) kn]at kn
 rw[PN]at kl
 have Mj:=pU U pw cj h hc K Is Ld
 have AKU:=λn9=>nD U pw cj h hc (TK (pc U pw cj) K) (us++vs) A0 (by rw[AH];omega) knT (uR hu hw) kn n9
 have YO:stF (pc U pw cj) (us++vs) (U.length+1) (TK (pc U pw cj) K)=QK (pc U pw cj) us vs:=by rw[hK];rfl
 rw[YO]at AKU
 refine IQ 7 Ir K.length _ rfl (AD _ _ _) (A4 _) ?_
 refine BH ?_;refine A6 λN hN=>UR AY AP [true,true,true,false,true,false,true,false,false,false] AP ?_
 refine oG ?_;refine AC.pure (.of (Mj)) ?_;(try simp-dsimp-implicitDefEqProofs(maxSteps:=800000) (disch:=omega)only[go_sem,CI,AU,vi,D7])
 refine AC.mono (AC.frame (V0 U A0 us A0 _)) ?_
 rintro m1 H1 r1 ⟨H0,⟨id,rfl,gL,UY,tS⟩,IA,LH⟩
 have SM:=(LH id gL).trans tS
 clear tS LH IA
 (try simp-dsimp-implicitDefEqProofs(maxSteps:=800000) (disch:=omega)only[go_sem,A4,A7Q,CI,AU,KD,vi,D7,SM])
 refine AC.fz (ts:=[CI U pw cj,D7 U.length (TK (pc U pw cj) K),D7 U.length (us++vs)]) (eL.del (id:=m2+4+7)) ?_ ((Ky (AKU _)).CD ?_)
 ·exact⟨.refl _,.refl _,Fz.D7 (AD _ _ _) B5 B5,trivial⟩
 rintro m9 H9 r9 oI ⟨id9,rfl,hi9,hj9,rfl⟩
 refine oG ?_
 apply hN;refine BQ ?_;exact⟨_,uB,id9,rfl,A0,A0,rfl⟩
def pX(h:BW U pw cj)(hc:HN (pc U pw cj) 0)(us vs)(hl:us.length<=6)(oE:vs.length<=6)(hu:∀x∈us,T (pc U pw cj) 0 x)(hw:∀x∈vs,T (pc U pw cj) 0 x):DZ prog 56 [CI U pw cj,D7 U.length us,D7 U.length vs] (D7 U.length (QK (pc U pw cj) us vs)):= .ofS λnx=>vD U pw cj h hc us vs hl oE hu hw nx
end
end
end Go.Proofs.YtgknbnkmilddhaaGreat