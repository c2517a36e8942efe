import Derived.Test.YtgknbnkmilddhaaGreatZ04
import Derived.Test.YtgknbnkmilddhaaGreatZ05
import Derived.Test.YtgknbnkmilddhaaGreatZ06
import Derived.Test.YtgknbnkmilddhaaGreatZ11
set_option linter.all false

open Go.Proofs.Tryz
namespace Go.Proofs.YtgknbnkmilddhaaGreat
section
def CpV(n:Nat)(nx DI:Nat)(H H':HP)(r:AV)(a:List V):Prop:=(∃id,r= .h id 0 a.length/\nx<=id/\id<DI/\H'=CJ H id (some (a.map (vi n))))\/(a.length=0/\r= .v 0 []/\H'=H)
def XQ(n a)(ha:a.length<=1099511627776)(nx H):AC prog 147 nx H [D7 n a] (λDI H' r=>CpV n nx DI H H' r a):=by
 refine Of ?_;refine CF AY func147 rfl AP ntmps147 results147 (λGM cX=>?_);refine tW ?_;refine A6 λN1 CW=>sQ λN hN=>?_;refine W6 ?_;refine⟨⟨_,_,rfl,rfl⟩,⟨λh0=>?_,?_⟩⟩
 ·apply hN;refine HU rfl ?_;refine CT ?_;refine BQ ?_;exact⟨H,Le.refl _,.inr (.inr ⟨h0,rfl,rfl⟩)⟩
 apply hN;refine DJ rfl ?_;apply AF;apply CW;refine sQ λN hN=>?_;simp-dsimp-implicitDefEqProofs(maxSteps:=800000) (disch:=omega)only[go_sem,RX,D7];apply hN;refine BQ ?_;refine⟨_,?_,.inl (.inl ⟨_,rfl,?_,?_,rfl⟩)⟩
 ·intro i c hi;have HX:H i=some c->i<nx:=λh=>by apply AN;intro hn;rw[GM i A0]at h;cases h
  simp only[CJ]at hi ⊢;split at hi
  ·rename_i e;subst e;cases hi;repeat (first|rw[if_pos rfl]|rw[if_neg A0])
  have:=HX hi;repeat rw[if_neg A0]
  exact hi
 ·omega
 omega
def cK{pre cs:List AV}:(pre++cs).getD pre.length .j=cs.getD 0 .j:=by
 simp only[A5];rw[EA (A1 _),CM]
def UH{n:Nat}{pre:List AV}{a:AV}{Q:List V}:List.take Q.length (List.drop (pre.length+1) (pre++a::Q.map (vi n)))=Q.map (vi n):=by
 rw[List.drop_append,HD A0,C8,show pre.length+1-pre.length=1 by omega];exact AJ B5
noncomputable def mN(P:Pc)(t:Nat->Option V)(us:List V):Nat->Option V:=Vq P (gQ P t us) t us
def A6K{P s}(h:0<=ZO (P.o s.1) (s.2 s.1)):rep (M P 0) s.2 (ZO (P.o s.1) (s.2 s.1)).toNat=iO P s:=by
 unfold iO T6;rw[if_neg A0]
def Ay{P y k}(h:0<=k):rep (M P 0) y k.toNat=T6 P y k:=by
 unfold T6;rw[if_neg A0]
def Qk{H G nx b e d c}(GM:∀i,nx<=i->H i=none)(he:G e=c)(Dm:b≠e)(hG:∀i,i<nx->i≠e->G i=H i):Le (CJ (CJ H e c) b d) (CJ G b d):=by
 intro i f hi;by_cases hb:i=b
 ·subst hb;rw[AD]at hi ⊢;exact hi
 rw[AB _ _ hb]at hi ⊢;by_cases h1:i=e
 ·subst h1;rw[AD]at hi;rw[he];exact hi
 rw[AB _ _ h1]at hi;by_cases hn:i<nx
 ·rw[hG i hn h1];exact hi
 rw[GM i A0]at hi;cases hi
def Ql{H G nx b e d d' c}(GM:∀i,nx<=i->H i=none)(hd:d=d')(he:G e=c)(Dm:b≠e)(hG:∀i,i<nx->i≠e->G i=H i):Le (CJ (CJ H e c) b d) (CJ G b d'):=by
 subst hd;exact Qk GM he Dm hG
section
variable(U:C2)(pw:D4)(cj:E6)
def V6{cX n ops y s s1 K}{R0 R1:Prop}(r0:R0)(r1:R1)(q:AW cX prog y s1 K)(e:R0->R1->HA ops s s1:=by intro h0 h1 N hN;(try simp-dsimp-implicitDefEqProofs(maxSteps:=800000) (disch:=omega)only[go_sem,JT,D6,F9,UH,cK,eq_self,T9,CB,ints,JL,QA,RX,AU,P1,LX,KD,vi,D7,h0,h1]);exact hN):GZ cX n ops y s K:=HF q (e r0 r1)
def oK{P Q:Prop}{R0 R1:Prop}(r0:R0)(r1:R1)(q:Q)(e:R0->R1->Q->P:=by intro h0 h1 q;(try simp-dsimp-implicitDefEqProofs(maxSteps:=800000) (disch:=omega)only[go_sem,JT,D6,F9,UH,cK,eq_self,T9,CB,ints,JL,QA,RX,AU,P1,LX,KD,vi,D7,h0,h1]);exact q):P:=e r0 r1 q
def Qm{cX n ops s}{K:Exit->St->Prop}{Q:Prop}{R0 R1:Prop}(r0:R0)(r1:R1)(q:Q)(e:R0->R1->Q->KO env prog ops s.nx ops 0 ⟨s.t,s.H,s.nx+ops.length⟩ (K .normal):=by intro h0 h1 q;(try simp-dsimp-implicitDefEqProofs(maxSteps:=800000) (disch:=omega)only[go_sem,JT,D6,F9,UH,cK,eq_self,T9,CB,ints,JL,QA,RX,AU,P1,LX,KD,vi,D7,h0,h1]);exact q):AW cX prog (.region n ops.toArray false) s K:=rQ (e r0 r1 q)
def A1M{P f nx H Zz r}{K:Nat->HP->AV->Prop}{Q:Prop}{R0 R1:Prop}(x:DZ P f Zz r)(r0:R0)(r1:R1)(q:Q)(e:R0->R1->Q->K nx H r:=by intro h0 h1 q;(try simp-dsimp-implicitDefEqProofs(maxSteps:=800000) (disch:=omega)only[go_sem,JT,D6,F9,UH,cK,eq_self,T9,CB,ints,JL,QA,RX,AU,P1,LX,KD,vi,D7,h0,h1]);exact q):AC P f nx H Zz K:=AC.pure (.of x) (e r0 r1 q)
def A9H{P Q:Prop}{R0 R1:Prop}(r0:R0)(r1:R1)(q:Q)(e:R0->R1->Q->P:=by intro h0 h1 q;(try simp-dsimp-implicitDefEqProofs(maxSteps:=800000) (disch:=omega)only[go_sem,JT,BD,AR,B4,BE,AT,AS,D6,F9,UH,cK,eq_self,T9,CB,GJ,ES,ET,ints,JL,QA,RX,AU,P1,LX,KD,vi,D7,DV,h0,h1]);exact q):P:=e r0 r1 q
set_option maxRecDepth 20000 in
set_option maxHeartbeats 4000000 in
def Fv(h:BW U pw cj)(hc:HN (pc U pw cj) 0)(t0)(JM:ZX (pc U pw cj) t0)(us)(hl:us.length<=1000)(ARA:0<us.length)(hu:∀x∈us,T (pc U pw cj) 0 x)(nx H ids L7)(CP:ids≠L7)(LF:H ids=some [AU U pw cj,.h L7 0 U.length])(J7:H L7=some (qY U.length t0)):AC prog 75 nx H [.q ids 0,D7 U.length us] (λ_ H' r=>r= .b (tf (mN (pc U pw cj) t0 us≠t0))/\H'=CJ H L7 (some (qY U.length (mN (pc U pw cj) t0 us)))):=by
 have Q4:=h.1.1
 have hv:=h.val
 have SJ:=h.2.1
 have PN:(pc U pw cj).n=U.length:=rfl
 have hM0:gQ (pc U pw cj) t0 us<=2000:=by
  have h1:UG t0 U.length*(U.length+3)<=6*9:=CY (CH (A15 _) Q4) A0;show UG t0 U.length*(U.length+3)+us.length<=2000
  omega
 obtain⟨R,hR⟩:=EK (mN (pc U pw cj) t0 us)
 rw[hR]
 refine CF AY func75 rfl AP ntmps75 results75 (λGM cX=>?_)
 have AOR:ids<nx:=by
  apply AN;intro hn;rw[GM ids A0]at LF;cases LF
 have AOS:L7<nx:=by
  apply AN;intro hn;rw[GM L7 A0]at J7;cases J7
 refine V6 LF J7 ?_;refine V6 LF J7 ?_;refine sQ λN hN=>?_;refine oK LF J7 ?_
 refine(XQ U.length us A0 _ _).CD ?_
 rintro yK H1 r Di (⟨id0,rfl,gL,UY,rfl⟩|⟨h0,-,-⟩)
 rotate_left
 ·omega
 refine oK LF J7 ?_
 apply hN;refine A6 λN1 CW=>AA<|AM (α:=(Nat->Option V)×List V×Nat×List AV×Nat) (λx=>sl 109 [(0,.q ids 0),(5,.b (tf (x.1≠t0))),(6,.h x.2.2.1 x.2.2.2.1.length x.2.1.length)]) (λx=>CJ (CJ H L7 (some (qY U.length x.1))) x.2.2.1 (some (x.2.2.2.1++x.2.1.map (vi U.length)))) (λx m=>(nx<=x.2.2.1/\x.2.2.1<m/\x.2.2.2.2<=2000)/\ZX (pc U pw cj) x.1/\(∀y∈x.2.1,T (pc U pw cj) 0 y)/\(∀d y,t0 d=some y->x.1 d=some y)/\gQ (pc U pw cj) x.1 x.2.1<=x.2.2.2.2/\Vq (pc U pw cj) x.2.2.2.2 x.1 x.2.1=R) (λx=>x.2.2.2.2) ((t0,us,id0,[],gQ (pc U pw cj) t0 us)) ?_ ?_ (by dsimp only;rw[C8];exact Qk GM J7 A0 (λi h1 h2=>rfl)) ?_
 ·exact⟨⟨AI,AI,hM0⟩,JM,hu,λ_ _ q=>q,A1 _,hR⟩
 ·simp(disch:=omega) [EJ,EN,sl,tf]<;>omega
 rintro⟨t,Q,id,pre,f⟩ m ⟨⟨GF,Aw,hf9⟩,hG,hQ,hx,hM,hC⟩
 dsimp only at GF Aw hf9 hG hQ hx hM hC ⊢
 refine BH ?_;refine A6 λN2 DN=>V6 LF J7 ?_;refine AK ?_ ?_<;>intro h1
 ·obtain⟨a,Q',rfl⟩:∃a Q',Q=a::Q':=by
   cases Q with
   |nil=>simp at h1
   |cons a Q'=>exact⟨a,Q',rfl⟩
  have haT:=hQ a CA;have hQ':∀y∈Q',T (pc U pw cj) 0 y:=λy hy=>hQ y (C3 _ hy)
  have hQl:Q'.length<=2000:=by unfold gQ at hM;simp at hM;omega
  obtain⟨i2,i3,i4⟩:=mM hv hc hG haT;have aU:=Qa hv hc hG (q:=Q') haT;have hGR:=Qb hv hc (λd hd=>SJ d hd) hG hQ' haT;have A6L:=ADP hv hc hG haT;obtain⟨f',hf⟩:∃f',f=f'+1:=⟨f-1,by unfold gQ at hM;simp at hM;omega⟩;subst hf;have Am:=hC;rw[Vq,if_neg B5]at Am;rw[show(a::Q').drop 1=Q' from rfl,show(a::Q').getD 0 z0=a from rfl]at Am;have hMl:UG t (pc U pw cj).n*((pc U pw cj).n+3)+(Q'.length+1)<=f'+1:=by unfold gQ at hM;simpa using hM
  have ADQ:=Ax U pw cj h hc t hG a haT;obtain⟨⟨sd,su⟩,hs⟩:∃s,dH (pc U pw cj) t a=s:=⟨_,rfl⟩;rw[hs]at i2 i3 i4 aU Am A6L ADQ hGR;rw[PN]at i2 i4 A6L;dsimp only at i2 i3 i4 A6L ADQ;apply AF;apply DN;refine AA<|sQ λN hN=>?_;refine oK LF J7 ?_
  refine(ADQ _ _ ids L7 (by simp(disch:=omega)only[AB];exact LF) J4).CD ?_;rintro m1 H1 r1 SF ⟨rfl,rfl⟩;refine oK LF J7 ?_
  apply hN;refine V6 LF J7 ?_;refine sQ λN hN=>?_;refine oK LF J7 ?_
  have hdp:=V3 U.length A0 su;rw[A6L]at hdp;refine A1M (hdp) LF J7 ?_
  apply hN;refine A6 λN3 DO=>V6 LF J7 ?_;refine AK ?_ ?_<;>intro h2
  ·have hcr:As (pc U pw cj) t Q' (sd,su)=(t,Q'):=by rw[As,if_pos (show sd=(pc U pw cj).n from (by show sd=U.length;omega))]
   rw[hcr]at Am aU;apply AO;simp only[wW,IY,if_true];refine⟨(t,Q',id,pre++[vi U.length a],f'),?_,by dsimp only;rw[BO];exact Le.refl _,?_,?_⟩
   ·first|(simp(disch:=omega) [EJ,EN,sl,ADR]<;>omega)|(simp(disch:=omega) [EJ,EN,sl]<;>omega)
   ·exact⟨⟨AI,AI,AI⟩,hG,hQ',hx,by (try (dsimp only at aU ⊢));omega,Am⟩
   exact AI
  have S3:sd<U.length:=A0;obtain⟨j1,j2⟩:=i4 S3;have hr:=i3.r sd (A1 _) S3;have Ak:(pc U pw cj).o sd=U.getD sd 0:=rfl;have It:=SJ sd S3;have Pg:=FQ It;have hsT:=i3.mono hv (AE _);obtain⟨v1,v2,v3⟩:=jG It (show 1<=su sd by omega) A0;obtain⟨yT1,yl⟩:=mI hv hc (λd hd=>SJ d hd) (s:=(sd,su)) S3 i3 j2;have gP:=yT1.mono hv (AE _);have hpy:=NL h 0 hc su hsT (ZO (U.getD sd 0) (su sd)) A0 A0;have KW:rep (M (pc U pw cj) 0) su (ZO (U.getD sd 0) (su sd)).toNat=iO (pc U pw cj) (sd,su):=A6K (P:=pc U pw cj) (s:=(sd,su)) (show 0<=ZO (U.getD sd 0) (su sd) by omega);rw[KW]at hpy;obtain⟨y,hy⟩:=EK (iO (pc U pw cj) (sd,su));rw[hy]at gP yT1 yl hpy;have hpz:=NL h 0 hc y gP (U.getD sd 0) A0 A0;rw[Ay A0]at hpz;have Pw:DH (qY U.length t) sd [AV.v U.length (JP U.length y)]=qY U.length (oset t sd y):=Qf S3;have hcr:As (pc U pw cj) t Q' (sd,su)=(oset t sd y,Q'++[su]++[T6 (pc U pw cj) y (U.getD sd 0)]++aW (pc U pw cj) t y U.length):=by
   rw[As,if_neg (show ¬sd=(pc U pw cj).n from (by show ¬sd=U.length;omega)),hy];rfl
  rw[hcr]at Am aU hGR;have htf:tf (oset t sd y≠t0)=true:=KU (λe=>by
   have e1:=congrFun e sd;unfold oset at e1;rw[if_pos rfl]at e1;have e2:=hx sd y e1.symm;rw[j1]at e2;cases e2)
  have ADR:tf (¬oset t sd y=t0)=true:=htf;have Iu:∀d z,t0 d=some z->oset t sd y d=some z:=λd z hz=>by
   unfold oset;rw[if_neg (λe=>by have:=hx d z hz;rw[e,j1]at this;cases this)];exact hx d z hz
  apply AF;apply DO;refine V6 LF J7 ?_;refine A6 λN hN=>C9 AY AP 20 AP ?_
  refine A9H LF J7 ?_;refine⟨_,.of (gM (su sd) (U.getD sd 0) It A0 A0),?_⟩;refine oK LF J7 ?_
  apply hN;refine V6 LF J7 ?_;refine sQ λN hN=>?_;refine oK LF J7 ?_
  refine A1M (hpy) LF J7 ?_
  apply hN;refine A6 λN hN=>C9 AY AP 18 AP ?_
  refine A9H LF J7 ?_;refine⟨_,.of (hpz),?_⟩;refine oK LF J7 ?_
  apply hN;refine A6 λN4 FD=>V6 LF J7 ?_;refine AA<|AM (α:=Nat×Nat×List V) (λx=>sl 109 [(0,.q ids 0),(5,.b true),(6,.h x.2.1 0 x.2.2.length),(7,vi U.length y),(8,.i .i64 sd),(82,.h L7 0 U.length),(83,.i .i64 U.length),(84,.i .i64 x.1)]) (λx=>CJ (CJ H L7 (some (qY U.length t))) x.2.1 (some (x.2.2.map (vi U.length)))) (λx m=>(x.1<=U.length/\nx<=x.2.1/\x.2.1<m)/\x.2.2=Q'++[su]++[T6 (pc U pw cj) y (U.getD sd 0)]++aW (pc U pw cj) t y x.1) (λx=>U.length-x.1) ((0,m1+3+3+4+1+20+5+8+18,Q'++[su]++[T6 (pc U pw cj) y (U.getD sd 0)])) ?_ ?_ (by exact Ql GM (by dsimp only;rw[AJ B5];simp[vi]) J4 AI (λi h1 h2=>by exact D8)) ?_
  ·exact⟨⟨A0,AI,AI⟩,by simp[aW]⟩
  ·exact Kq htf
  rintro⟨e,Ir,K⟩ m2 ⟨⟨he,Fm,Lc⟩,hK⟩;all_goals dsimp only at he Fm Lc hK
  have oY:=Fs (P:=pc U pw cj) (t:=t) (y:=y) e;have Is:K.length<=3000:=by rw[hK];simp only[AH,C6,CR];omega
  by_cases hb:t e=none
  ·have iU:=jM hb;have iN:aW (pc U pw cj) t y (e+1)=aW (pc U pw cj) t y e:=by rw[aW,hb]
   refine BH ?_;refine V6 LF J7 ?_;refine A6 λN5 ID=>AK ?_ ?_<;>intro h3
   ·apply AF;apply ID;refine A6 λN6 OR=>AA<|V6 LF J7 ?_;refine V6 LF J7 ?_;refine AK ?_ ?_<;>intro h4
    ·first|done|(cases h4)|(exact absurd h4 B5)
    apply AF;apply OR;refine Qm LF J7 ?_;refine BB (e+1,Ir,K) ?_ ?_ ?_
    ·exact Kq htf
    ·exact⟨⟨AI,AI,AI⟩,by (try simp only[]);rw[iN];exact hK⟩
    exact AI
   have iK:e=U.length:=A0;subst iK;apply AO;apply FD;refine Qm LF J7 ?_;refine⟨(oset t sd y,K,Ir,[],f'),?_,(by intro i c hi;simp only[CJ,C8]at hi ⊢;grind),?_,?_⟩
   ·first|(simp(disch:=omega) [EJ,EN,sl,ADR]<;>omega)|(simp(disch:=omega) [EJ,EN,sl]<;>omega)
   ·exact⟨⟨AI,AI,AI⟩,hGR.1,by rw[hK];exact hGR.2,Iu,by (try (dsimp only at aU ⊢));rw[hK];omega,by dsimp only;rw[hK];exact Am⟩
   exact AI
  obtain⟨iU,hz⟩:=jN hb;obtain⟨z,hzz⟩:=EK ((t e).getD z0);rw[hzz]at hz;have hzT:=(hG e z hz).2.1.mono hv (AE e);have iN:aW (pc U pw cj) t y (e+1)=aW (pc U pw cj) t y e++[mL (pc U pw cj) z y]:=by rw[aW,hz]
  refine BH ?_;refine V6 LF J7 ?_;refine A6 λN7 S6=>AK ?_ ?_<;>intro h5
  ·apply AF;apply S6;refine A6 λN8 VK=>AA<|V6 LF J7 ?_;refine V6 LF J7 ?_;refine AK ?_ ?_<;>intro h6
   ·apply rQ;simp-dsimp-implicitDefEqProofs(maxSteps:=800000) (disch:=omega)only[go_sem,JT,D6,F9,UH,cK,eq_self,T9,CB,ints,JL,QA,RX,AU,P1,LX,KD,vi,D7,LF,J7,hzz];refine A1M (QQ U pw cj h hc z y hzT gP) LF J7 ?_
    apply VK;refine Qm LF J7 ?_;refine⟨(e+1,m2+1+3+2+9,K++[mL (pc U pw cj) z y]),?_,by exact Ql GM (by dsimp only;simp[vi]) J4 AI (λi h1 h2=>by exact D8),?_,?_⟩
    ·exact Kq htf
    ·exact⟨⟨AI,AI,AI⟩,by (try simp only[]);rw[iN,hK];simp only[BO]⟩
    exact AI
   first|done|(cases h6)|(exact absurd h6 B5)
  have iK:e=U.length:=A0;subst iK;apply AO;apply FD;refine Qm LF J7 ?_;refine⟨(oset t sd y,K,Ir,[],f'),?_,(by intro i c hi;simp only[CJ,C8]at hi ⊢;grind),?_,?_⟩
  ·first|(simp(disch:=omega) [EJ,EN,sl,ADR]<;>omega)|(simp(disch:=omega) [EJ,EN,sl]<;>omega)
  ·exact⟨⟨AI,AI,AI⟩,hGR.1,by rw[hK];exact hGR.2,Iu,by (try (dsimp only at aU ⊢));rw[hK];omega,by dsimp only;rw[hK];exact Am⟩
  exact AI
 apply AO;apply CW;refine V6 LF J7 ?_;refine BQ ?_;have hQ0:Q=[]:=AX.1 A0
 subst hQ0
 have htR:t=R:=by rw[<-hC];cases f with|zero=>rfl|succ f=>rfl
 subst htR
 exact⟨_,A1K (by rw[AB _ _ A0];exact GM id GF),rfl,rfl⟩
end
def eZ{cX n ops y s s1 K}(q:AW cX prog y s1 K)(e:HA ops s s1:=by intro N hN;(try simp-dsimp-implicitDefEqProofs(disch:=omega)only[go_sem,Lk]);exact hN):GZ cX n ops y s K:=HF q e
end
section
def A6M{P t}:mN P t []=t:=by
 unfold mN;cases gQ P t []with
 |zero=>rfl
 |succ f=>rfl
def A1N{H id c}(h:H id=c):CJ H id c=H:=by
 funext i
 unfold CJ;split
 ·rename_i e;rw[e,h]
 rfl
section
variable(U:C2)(pw:D4)(cj:E6)
set_option maxRecDepth 20000 in
def Az(n ids nx H):AC prog 75 nx H [.q ids 0,D7 n []] (λ_ H' r=>r= .b false/\H'=H):=by
 refine CF AY func75 rfl AP ntmps75 results75 (λGM cX=>?_)
 refine mH ?_;refine mH ?_;refine sQ λN hN=>?_;(try simp-dsimp-implicitDefEqProofs(disch:=omega)only[go_sem,ints,vi,D7]);refine(XQ n [] B5 _ _).CD ?_
 rintro yK H1 r Di (⟨id0,rfl,gL,UY,rfl⟩|⟨-,rfl,rfl⟩)
 ·(try simp-dsimp-implicitDefEqProofs(disch:=omega)only[go_sem,ints,vi,D7])
  apply hN;refine A6 λN1 CW=>AA<|AM (α:=Nat) (λx=>sl 109 [(0,.q ids 0),(5,.b false),(6,.h id0 0 0)]) (λ_=>CJ H id0 (some [])) (λx m=>nx<=id0) (λx=>0) (0) ?_ ?_ (λ_ _ h=>h) ?_
  ·omega
  ·exact E2
  rintro k m hk;refine BH ?_;refine A6 λN2 DN=>mH ?_;refine AK ?_ ?_<;>intro h1
  ·first|done|(cases h1)|(exact absurd h1 B5)
  apply AO;apply CW;refine mH ?_;refine BQ ?_;exact⟨_,A1K (GM id0 hk),rfl⟩
 (try simp-dsimp-implicitDefEqProofs(disch:=omega)only[go_sem,ints,vi,D7])
 apply hN;refine A6 λN3 DO=>AA<|AM (α:=Nat) (λx=>sl 109 [(0,.q ids 0),(5,.b false),(6,.v 0 [])]) (λ_=>H1) (λx m=>True) (λx=>0) (0) ?_ ?_ (λ_ _ h=>h) ?_
 ·trivial
 ·exact E2
 rintro k m hk
 refine BH ?_;refine A6 λN4 FD=>mH ?_;refine AK ?_ ?_<;>intro h2
 ·first|done|(cases h2)|(exact absurd h2 B5)
 apply AO;apply DO;refine mH ?_;refine BQ ?_;exact⟨_,Le.refl _,rfl⟩
def aY(h:BW U pw cj)(hc:HN (pc U pw cj) 0)(t0)(JM:ZX (pc U pw cj) t0)(us)(hl:us.length<=1000)(hu:∀x∈us,T (pc U pw cj) 0 x)(nx H ids L7)(CP:ids≠L7)(LF:H ids=some [AU U pw cj,.h L7 0 U.length])(J7:H L7=some (qY U.length t0)):AC prog 75 nx H [.q ids 0,D7 U.length us] (λ_ H' r=>r= .b (tf (mN (pc U pw cj) t0 us≠t0))/\H'=CJ H L7 (some (qY U.length (mN (pc U pw cj) t0 us)))):=by
 by_cases h0:us=[]
 ·subst h0;refine(Az U.length ids nx H).CD ?_;rintro m H1 r hm ⟨rfl,rfl⟩;rw[A6M];exact⟨by rw[JQ (λq=>q rfl)],(A1N J7).symm⟩
 exact Fv U pw cj h hc t0 JM us hl (MJ.2 h0) hu nx H ids L7 CP LF J7
def A1O(h:BW U pw cj)(hc:HN (pc U pw cj) 0)(us)(hu:∀x∈us,T (pc U pw cj) 0 x):aX (pc U pw cj) (mN (pc U pw cj) (λ_=>none) us) 0=TK (pc U pw cj) us:=
 A1E h.val hc (λd hd=>h.2.1 d hd) hu
def jO(h:BW U pw cj)(hc:HN (pc U pw cj) 0)(us)(hl:us.length<=1000)(hu:∀x∈us,T (pc U pw cj) 0 x):DZ prog 44 [AU U pw cj,D7 U.length us] (D7 U.length (TK (pc U pw cj) us)):=by
 have Q4:=h.1.1
 have hG:=A9G h.val hc (λd hd=>h.2.1 d hd) hu
 have AOU:=A1O U pw cj h hc us hu
 refine BI AY func44 rfl AP ntmps44 results44 (UZ _ _) (λnx cX=>?_)
 refine CT ?_;refine sQ λN hN=>?_;refine BH ?_;refine(U0 U pw cj A0 _ _).CD ?_
 rintro m1 H1 r1 SF ⟨ids,L7,rfl,⟨i1,i2,i3,i4,i5⟩,rfl⟩
 refine BH ?_
 apply hN;refine sQ λN hN=>?_;refine BH ?_;refine(aY U pw cj h hc (λ_=>none) (λd y hy=>by cases hy) us hl hu _ _ ids L7 i5 (AD _ _ _) ((AB _ _ (I8 i5)).trans (AD _ _ _))).CD ?_
 rintro m2 H2 r2 Q8 ⟨rfl,rfl⟩
 refine BH ?_
 apply hN;refine sQ λN hN=>?_;refine BH ?_;refine(W8 U pw cj h hc (mN (pc U pw cj) (λ_=>none) us) hG _ _ ids L7 ((AB _ _ i5).trans (AD _ _ _)) (AD _ _ _)).CD ?_
 rintro m3 H3 r3 U5 ⟨rfl,rfl⟩
 refine BH ?_
 apply hN;refine BQ ?_;rw[AOU]
end
end
section
def ZP(a b)(ha:FC a)(hb:FC b):DZ prog 102 [rows a,rows b,.f 103 []] (.b (tf (a=b))):=by
 have han:=ha.n
 have hbn:=hb.n
 refine BI AY func102 rfl AP ntmps102 results102 (.b _) (λnx cX=>?_)
 refine FY ?_;refine A6 λN1 CW=>FY ?_;refine AK ?_ ?_<;>intro h1
 ·refine FY ?_;refine BQ ?_;exact bt (JQ (λh=>h1 (by rw[h]))).symm
 have hl:a.length=b.length:=A0
 apply AF;apply CW;refine A6 λN2 DN=>FY ?_;refine AA<|AM (α:=Nat) (λx=>sl 32 [(1,rows b),(2,.f 103 []),(15,rows a),(16,.i .i64 a.length),(17,.i .i64 x)]) (λ_=>DD) (λx m=>x<=a.length/\a.take x=b.take x) (λx=>a.length-x) (0) ?_ ?_ (λ_ _ h=>h) ?_
 ·exact⟨A0,rfl⟩
 ·simp(disch:=omega) [EJ,EN,sl,DV,ints,rows,B6,rows,EY,DV]<;>omega
 rintro k m ⟨hk,hI⟩
 refine BH ?_;refine FY ?_;refine A6 λN3 DO=>AK ?_ ?_<;>intro h2
 ·have hak:=ha.getD k;have Od:=hb.getD k;apply AF;apply DO;refine A6 λN4 FD=>AA<|FY ?_;refine FY ?_;refine Zp (OI (a.getD k []) (b.getD k []) A0 A0) ?_;refine AK ?_ ?_<;>intro h3
  ·refine FY ?_;refine BQ ?_;exact bt (JQ (λh=>h3 (by rw[h]))).symm
  apply AF;apply FD;refine lP ?_;refine BB (k+1) ?_ ?_ ?_
  ·simp(disch:=omega) [EJ,EN,sl,DV,ints,rows,B6,rows,EY,DV]<;>omega
  ·exact⟨A0,sI [] hl A0 hI h3⟩
  exact AI
 apply AO;apply DN;refine FY ?_;refine BQ ?_;have Y8:k=a.length:=A0
 subst Y8
 rw[B2,hl,B2]at hI
 exact bt (KU hI).symm
def mO(a b)(ha:FC a)(hb:FC b):DZ prog 49 [rows a,rows b] (.b (tf (a=b))):=by
 refine BI AY func49 rfl AP ntmps49 results49 (.b _) (λnx cX=>?_)
 refine CT ?_;refine UN (ZP a b ha hb) ?_;apply DQ;simp-dsimp-implicitDefEqProofs(disch:=omega)only[go_sem];skip
def Sls(H:HP)(nx:Nat)(x:AV)(xs:List AV):Prop:=(∀z∈xs,one z=true)/\(x= .v xs.length xs\/(x= .nl/\xs=[])\/∃i,i<nx/\x= .h i 0 xs.length/\H i=some xs)
def Lk{n:Nat}{z:AV}(h:0<n):(List.replicate n z=[])=False:=by
 cases n with
 |zero=>omega
 |succ n=>simp[MK]
def ZQ(nx H):AC prog 187 nx H [.nl,.i .i64 (0:Nat)] (λDI H' r=>nx<=DI/\H'=H/\r= .nl):=by
 refine CF AY func187 rfl AP ntmps187 results187 (λGM cX=>?_)
 refine CT ?_;refine A6 λN1 CW=>CT ?_;refine AK ?_ ?_<;>intro h1
 ·exfalso;omega
 apply AF;apply CW;refine A6 λN2 DN=>CT ?_;refine CT ?_;refine AK ?_ ?_<;>intro h2
 ·exfalso;omega
 apply AF;apply DN;refine CT ?_;refine BQ ?_;exact⟨H,Le.refl _,rfl⟩
def aZ(n:Nat)(h0:0<n)(hn:n<=4000000)(nx:Nat)(H:HP):AC prog 187 nx H [.nl,.i .i64 n] (λDI H' r=>nx<=DI/\(∀i,i<nx->H' i=H i)/\∃id cs,nx<=id/\id<DI/\r= .h id 0 0/\H' id=some cs):=by
 refine CF AY func187 rfl AP ntmps187 results187 (λGM cX=>?_)
 refine eZ ?_;refine A6 λN1 CW=>eZ ?_;refine AK ?_ ?_<;>intro h1
 ·exfalso;omega
 apply AF;apply CW;refine A6 λN2 DN=>eZ ?_;refine eZ ?_;refine AK ?_ ?_<;>intro h2
 ·apply rQ;simp-dsimp-implicitDefEqProofs(disch:=omega)only[go_sem,Lk];apply DN;refine eZ ?_;refine BQ ?_;exact⟨_,Le.refl _,λi hi=>AB _ _ A0,_,_,A0,A0,rfl,AD _ _ _⟩
 exfalso;omega
def A1P(nx:Nat)(H:HP)(zs:List AV)(DI:Nat)(H':HP)(r:AV):Prop:=nx<=DI/\(∀i,i<nx->H' i=H i)/\
 ((zs=[]/\r= .nl)\/∃id cs,nx<=id/\id<DI/\r= .h id 0 zs.length/\H' id=some cs/\cs.take zs.length=zs)
def Le.cat{nx idg H H1 cs}(GM:∀i,nx<=i->H i=none)(h:∀i,i<nx->H1 i=H i)(hg:H1 idg=some cs)(hn:nx<=idg):Le (CJ H idg (some cs)) H1:=by
 intro i d hi;by_cases e:i=idg
 ·subst e;rw[AD]at hi;rw[hg];exact hi
 rw[AB _ _ e]at hi;rcases BL i nx with HX|HX
 ·rw[h i HX];exact hi
 rw[GM i HX]at hi;cases hi
def Le.AOV{nx id L7 H d}(GM:∀i,nx<=i->H i=none)(h:nx<=id):Le (CJ H L7 d) (CJ (CJ H id none) L7 d):=by
 rw[Yf H (GM id h)];exact Le.refl _
def yV(xss:List (List AV))(k:Nat):List AV:=(xss.take k).flatten
def AJT{xss}:yV xss 0=[]:=by simp[yV]
def Ba{xss}:yV xss xss.length=xss.flatten:=by rw[yV,B2]
def A9I{xss i}(h:i<xss.length):yV xss (i+1)=yV xss i++xss.getD i []:=by
 unfold yV;rw[E5,JU];congr 1
 simp[h]
def Bb{xss i}(h:i<xss.length):(yV xss (i+1)).length=(yV xss i).length+(xss.getD i []).length:=by rw[A9I h,AH]
def Bc{xss i}(h:i<xss.length):(yV xss i).length+(xss.getD i []).length<=xss.flatten.length:=by
 have h1:xss.flatten=yV xss (i+1)++(xss.drop (i+1)).flatten:=by unfold yV;rw[<-JU,HR]
 rw[h1,AH,Bb h];omega
def ADS{xss}:(yV xss 0).length=0:=by simp[yV]
def YR(zs:List AV)(xss:List (List AV))(hz:zs.length=xss.length)(hl:zs.length<=1000)(Bd nx:Nat)(H:HP)(hH:H Bd=some zs)(GF:Bd<nx)(hs:∀i,i<xss.length->Sls H nx (zs.getD i .j) (xss.getD i []))(h0:0<xss.flatten.length)(hn:xss.flatten.length<=4000000):
 AC prog 127 nx H [.h Bd 0 zs.length] (A1P nx H xss.flatten):=by
 have hfz:=ADS (xss:=xss)
 refine CF AY func127 rfl AP ntmps127 results127 (λGM cX=>?_)
 refine IZ hH ?_;refine IZ hH ?_;refine A6 λN1 CW=>IZ hH ?_;refine AA<|AM (α:=Nat) (λx=>sl 36 [(0,.h Bd 0 zs.length),(3,.i .i64 (yV xss x).length),(9,.h Bd 0 zs.length),(10,.i .i64 zs.length),(11,.i .i64 x)]) (λ_=>H) (λx m=>x<=xss.length/\nx<=m) (λx=>xss.length-x) (0) ?_ ?_ (λ_ _ h=>h) ?_
 ·exact⟨A0,AI⟩
 ·exact UM hH
 rintro k m ⟨hk,hm⟩
 refine BH ?_;refine IZ hH ?_;refine A6 λN2 DN=>AK ?_ ?_<;>intro h1
 ·have P5:k<xss.length:=A0;have ZR:=Bc P5;have Ed:=Bb P5;have Ol:=hs k P5;generalize xss.getD k []=y at Ol ZR Ed
  rcases Ol.2 with hx|⟨hx,hxe⟩|⟨i,hi,hx,hxi⟩
  case' inr.inl=>(subst hxe;simp only[CR]at ZR Ed)
  all_goals
   apply AF;apply DN;refine A6 λN3 DO=>AA<|sQ λN hN=>?_;simp-dsimp-implicitDefEqProofs(disch:=omega)only[go_sem,hH,hx];apply hN;refine sQ λN hN=>?_;simp-dsimp-implicitDefEqProofs(disch:=omega)only[go_sem,hH,hx];apply hN;refine IZ hH ?_;refine AK ?_ ?_<;>intro h2
   ·exfalso;omega
   apply AF;apply DO;refine eJ hH ?_;refine BB (k+1) ?_ ?_ ?_
   ·exact UM hH
   ·exact⟨A0,AI⟩
   exact AI
 have Y8:k=xss.length:=A0
 subst Y8
 rw[Ba]
 apply AO;apply CW;refine sQ λN hN=>?_;refine eK hH ?_;refine(aZ _ h0 hn _ _).mono ?_
 rintro yK H1 r ⟨Di,hHH,idg,csg,jC,ZN,rfl,fA⟩
 apply hN;refine A6 λN4 FD=>IZ hH ?_;refine AA<|AM (α:=Nat×Nat×List AV) (λx=>sl 36 [(6,.h x.2.1 0 (yV xss x.1).length),(25,.h Bd 0 zs.length),(26,.i .i64 zs.length),(27,.i .i64 x.1)]) (λx=>CJ H x.2.1 (some x.2.2)) (λx m=>(x.1<=xss.length/\nx<=x.2.1/\x.2.1<m)/\x.2.2.take (yV xss x.1).length=yV xss x.1) (λx=>xss.length-x.1) ((0,idg,csg)) ?_ ?_ (Le.cat (λi hi=>GM i A0) hHH fA AI) ?_
 ·exact⟨⟨B5,AI,AI⟩,by simp[AJT]⟩
 ·exact UM hH
 rintro⟨q,id,cs⟩ m2 ⟨⟨hq,UY,Q8⟩,YA⟩
 dsimp only at hq UY Q8 YA
 refine BH ?_;refine IZ hH ?_;refine A6 λN5 ID=>AK ?_ ?_<;>intro h3
 ·have Xl:q<xss.length:=A0;have hsq:=hs q Xl;have ZJ:=A9I Xl;have KW:(yV xss q).length<=cs.length:=by have:=congrArg List.length YA;rw[B1]at this;omega
  have ZR:=Bc Xl;have Ed:=Bb Xl;generalize xss.getD q []=y at hsq ZR Ed ZJ
  have RJ:=eq_true hsq.1;have hxi:=hH;rcases hsq.2 with hx|⟨hx,hxe⟩|⟨i,hi,hx,hxi⟩
  case' inr.inl=>(subst hxe;simp only[CR]at ZR Ed)
  all_goals
   apply AF;apply ID;refine A6 λN6 OR=>AA<|sQ λN hN=>?_;simp-dsimp-implicitDefEqProofs(disch:=omega)only[go_sem,hH,hx,RJ];apply hN;apply rQ;simp-dsimp-implicitDefEqProofs(disch:=omega)only[go_sem,B2,hH,hx,RJ,hxi];apply OR;refine eJ hH ?_;refine⟨(q+1,m2+1+3+2,yV xss (q+1)),?_,by dsimp only;rw[ZJ,YA];exact Le.AOV GM A0,?_,?_⟩
   ·exact UM hH
   ·exact⟨⟨AI,AI,AI⟩,B2⟩
   exact AI
 have hq':q=xss.length:=A0
 subst hq'
 rw[Ba]at YA
 apply AO;apply FD;refine IZ hH ?_;refine BQ ?_;rw[Ba]
 exact⟨_,Le.refl _,A0,λi hi=>AB _ _ A0,.inr ⟨id,cs,UY,A0,rfl,AD _ _ _,YA⟩⟩
def XR(zs:List AV)(xss:List (List AV))(hz:zs.length=xss.length)(hl:zs.length<=1000)(Bd nx:Nat)(H:HP)(hH:H Bd=some zs)(GF:Bd<nx)(hs:∀i,i<xss.length->Sls H nx (zs.getD i .j) (xss.getD i []))(h0:xss.flatten.length=0):
 AC prog 127 nx H [.h Bd 0 zs.length] (A1P nx H xss.flatten):=by
 refine CF AY func127 rfl AP ntmps127 results127 (λGM cX=>?_)
 refine IZ hH ?_;refine IZ hH ?_;refine A6 λN1 CW=>IZ hH ?_;refine AA<|AM (α:=Nat) (λx=>sl 36 [(0,.h Bd 0 zs.length),(3,.i .i64 (0:Nat)),(9,.h Bd 0 zs.length),(10,.i .i64 zs.length),(11,.i .i64 x)]) (λ_=>H) (λx m=>x<=xss.length/\nx<=m) (λx=>xss.length-x) (0) ?_ ?_ (λ_ _ h=>h) ?_
 ·exact⟨A0,AI⟩
 ·exact UM hH
 rintro k m ⟨hk,hm⟩
 refine BH ?_;refine IZ hH ?_;refine A6 λN2 DN=>AK ?_ ?_<;>intro h1
 ·have P5:k<xss.length:=A0;have ZR:=Bc P5;have Ol:=hs k P5;generalize xss.getD k []=y at Ol ZR
  obtain rfl:y=[]:=AX.1 A0;rcases Ol.2 with hx|⟨hx,hxe⟩|⟨i,hi,hx,hxi⟩
  all_goals
   apply AF;apply DN;refine A6 λN3 DO=>AA<|sQ λN hN=>?_;simp-dsimp-implicitDefEqProofs(disch:=omega)only[go_sem,hH,hx];apply hN;refine sQ λN hN=>?_;simp-dsimp-implicitDefEqProofs(disch:=omega)only[go_sem,CR,hH,hx];apply hN;refine IZ hH ?_;refine AK ?_ ?_<;>intro h2
   ·exfalso;omega
   apply AF;apply DO;refine eJ hH ?_;refine BB (k+1) ?_ ?_ ?_
   ·exact UM hH
   ·exact⟨A0,AI⟩
   exact AI
 apply AO;apply CW;refine sQ λN hN=>?_;refine eK hH ?_;refine(ZQ _ _).mono ?_
 rintro yK H1 r ⟨Di,rfl,rfl⟩
 apply hN;refine A6 λN4 FD=>IZ hH ?_;refine AA<|AM (α:=Nat) (λx=>sl 36 [(6,.nl),(25,.h Bd 0 zs.length),(26,.i .i64 zs.length),(27,.i .i64 x)]) (λ_=>H1) (λx m=>x<=xss.length/\nx<=m) (λx=>xss.length-x) (0) ?_ ?_ (λ_ _ h=>h) ?_
 ·exact⟨A0,AI⟩
 ·exact UM hH
 rintro q m2 ⟨hq,Q8⟩
 refine BH ?_;refine IZ hH ?_;refine A6 λN5 ID=>AK ?_ ?_<;>intro h3
 ·have Xl:q<xss.length:=A0;have hsq:=hs q Xl;have ZR:=Bc Xl;generalize xss.getD q []=y at hsq ZR
  have hxi:=hH;obtain rfl:y=[]:=AX.1 A0;have RJ:(∀z∈([]:List AV),one z=true)=True:=B5;rcases hsq.2 with hx|⟨hx,hxe⟩|⟨i,hi,hx,hxi⟩
  all_goals
   apply AF;apply ID;refine A6 λN6 OR=>AA<|sQ λN hN=>?_;simp-dsimp-implicitDefEqProofs(disch:=omega)only[go_sem,hH,hx,RJ];apply hN;apply rQ;simp-dsimp-implicitDefEqProofs(disch:=omega)only[go_sem,CR,B2,hH,hx,RJ,hxi];apply OR;refine eJ hH ?_;refine BB (q+1) ?_ ?_ ?_
   ·exact UM hH
   ·exact⟨A0,AI⟩
   exact AI
 apply AO;apply FD;refine IZ hH ?_;refine BQ ?_;exact⟨_,Le.refl _,A0,λi hi=>rfl,.inl ⟨AX.1 h0,rfl⟩⟩
def gS(zs:List AV)(xss:List (List AV))(hz:zs.length=xss.length)(hl:zs.length<=1000)(Bd nx:Nat)(H:HP)(hH:H Bd=some zs)(GF:Bd<nx)(hs:∀i,i<xss.length->Sls H nx (zs.getD i .j) (xss.getD i []))(hn:xss.flatten.length<=4000000):
    AC prog 127 nx H [.h Bd 0 zs.length] (A1P nx H xss.flatten):=by
  rcases II xss.flatten.length with h|h
  · exact XR zs xss hz hl Bd nx H hH GF hs h
  exact YR zs xss hz hl Bd nx H hH GF hs h hn
end
section
def rwZ{W:D4}{k:Nat}(h:k<W.length):(W.map ints).getD k .j= .v (W.getD k []).length ((W.getD k []).map (.i .i64)):=by simp[h,ints]
def YS(nx H):AC prog 209 nx H [.nl,.i .i64 (0:Nat)] (λDI H' r=>nx<=DI/\H'=H/\r= .nl):=by
 refine CF AY func209 rfl AP ntmps209 results209 (λGM cX=>?_)
 refine CT ?_;refine A6 λN1 CW=>CT ?_;refine AK ?_ ?_<;>intro h1
 ·exfalso;omega
 apply AF;apply CW;refine A6 λN2 DN=>CT ?_;refine CT ?_;refine AK ?_ ?_<;>intro h2
 ·exfalso;omega
 apply AF;apply DN;refine CT ?_;refine BQ ?_;exact⟨H,Le.refl _,rfl⟩
def ZS(n:Nat)(h0:0<n)(hn:n<=4000000)(nx:Nat)(H:HP):AC prog 209 nx H [.nl,.i .i64 n] (λDI H' r=>nx<=DI/\(∀i,i<nx->H' i=H i)/\∃id cs,nx<=id/\id<DI/\r= .h id 0 0/\H' id=some cs):=by
 refine CF AY func209 rfl AP ntmps209 results209 (λGM cX=>?_)
 refine eZ ?_;refine A6 λN1 CW=>eZ ?_;refine AK ?_ ?_<;>intro h1
 ·exfalso;omega
 apply AF;apply CW;refine A6 λN2 DN=>eZ ?_;refine eZ ?_;refine AK ?_ ?_<;>intro h2
 ·apply rQ;simp-dsimp-implicitDefEqProofs(disch:=omega)only[go_sem,Lk];apply DN;refine eZ ?_;refine BQ ?_;exact⟨_,Le.refl _,λi hi=>AB _ _ A0,_,_,A0,A0,rfl,AD _ _ _⟩
 exfalso;omega
def xP(W:D4)(k:Nat):C2:=(W.take k).flatten
def Qn{W k}(hk:k<W.length):xP W (k+1)=xP W k++W.getD k []:=by
 unfold xP;rw[B7 hk,JU];simp[hk]
def Be{W}:xP W W.length=W.flatten:=by rw[xP,B2]
def Ll{W}:∀k,(xP W k).length<=W.flatten.length:=by
 intro k;unfold xP;have h:W.flatten=(W.take k).flatten++(W.drop k).flatten:=by rw[<-JU,HR]
 rw[h,AH];omega
def dI(W)(hl:W.length<=1000)(hn:W.flatten.length<=100000)(h0:0<W.flatten.length):DZ prog 155 [rows W] (ints W.flatten):=by
 refine DA AY func155 rfl AP ntmps155 results155 ((IC _)) (λnx cX=>?_)
 refine FY ?_;refine FY ?_;refine A6 λN1 CW=>FY ?_;refine AA<|AM (α:=Nat) (λx=>sl 36 [(0,rows W),(3,.i .i64 (xP W x).length),(9,rows W),(10,.i .i64 W.length),(11,.i .i64 x)]) (λ_=>DD) (λx m=>x<=W.length/\nx<=m) (λx=>W.length-x) (0) ?_ ?_ (λ_ _ h=>h) ?_
 ·exact⟨A0,AI⟩
 ·simp(disch:=omega) [EJ,EN,sl,rows,xP]
 rintro k m ⟨hk,hm⟩
 refine BH ?_;refine FY ?_;refine A6 λN2 DN=>AK ?_ ?_<;>intro h1
 ·have Iv:=rwZ (show k<W.length by omega);have hs:(xP W (k+1)).length=(xP W k).length+(W.getD k []).length:=by rw[Qn A0,AH]
  have hle:=Ll (W:=W) (k+1);apply AF;apply DN;refine A6 λN3 DO=>AA<|sQ λN hN=>?_;simp-dsimp-implicitDefEqProofs(disch:=omega)only[go_sem,A4,rows,Iv];apply hN;refine FY ?_;refine FY ?_;refine AK ?_ ?_<;>intro h2
  ·exfalso;omega
  apply AF;apply DO;refine eI ?_;refine BB (k+1) ?_ ?_ ?_
  ·exact lM hs
  ·exact⟨AI,AI⟩
  exact AI
 obtain rfl:k=W.length:=A0
 have AJU:=Be (W:=W)
 apply AO;apply CW;refine sQ λN hN=>?_;(try simp-dsimp-implicitDefEqProofs(disch:=omega)only[go_sem,rows]);refine(ZS _ (by rw[AJU];omega) (by rw[AJU];omega) _ _).mono ?_
 rintro yK H1 r ⟨Di,hHH,idg,csg,jC,ZN,rfl,fA⟩
 apply hN;refine A6 λN4 FD=>FY ?_;refine AA<|AM (α:=Nat×Nat×List AV) (λx=>sl 36 [(6,.h x.2.1 0 (xP W x.1).length),(25,rows W),(26,.i .i64 W.length),(27,.i .i64 x.1)]) (λx=>CJ DD x.2.1 (some x.2.2)) (λx m=>(x.1<=W.length/\nx<=x.2.1/\x.2.1<m)/\x.2.2.take (xP W x.1).length=(xP W x.1).map (.i .i64)/\(0<x.1->x.2.2=(xP W x.1).map (.i .i64))) (λx=>W.length-x.1) ((0,idg,csg)) ?_ ?_ (by intro d cs hd;simp only[CJ,DD]at hd ⊢;grind) ?_
 ·exact⟨⟨B5,AI,AI⟩,by simp[xP],λh=>absurd h B5⟩
 ·simp(disch:=omega) [EJ,EN,sl,rows,xP]
 rintro⟨q,id,cs⟩ m2 ⟨⟨hq,UY,Q8⟩,YA,hex⟩
 dsimp only at hq UY Q8 YA hex
 refine BH ?_;refine FY ?_;refine A6 λN5 ID=>AK ?_ ?_<;>intro h3
 ·have hgq:=rwZ (show q<W.length by omega);have hs:(xP W (q+1)).length=(xP W q).length+(W.getD q []).length:=by rw[Qn A0,AH]
  have hle:=Ll (W:=W) (q+1);have KW:(xP W q).length<=cs.length:=by have:=congrArg List.length YA;rw[B1,A4]at this;omega
  have RJ:(∀z∈(W.getD q []).map (AV.i .i64),one z=true)=True:=eq_true (λz hz=>by obtain⟨y,_,rfl⟩:=AQ.1 hz;rfl);apply AF;apply ID;refine A6 λN6 OR=>AA<|sH hgq ?_;apply rQ;simp-dsimp-implicitDefEqProofs(disch:=omega)only[go_sem,A4,B2,rows,RJ,YA];apply OR;refine eI ?_;refine⟨(q+1,m2+1+3+2,(xP W (q+1)).map (.i .i64)),?_,by dsimp only;rw[Qn A0,AZ];intro d cs hd;simp only[CJ,DD]at hd ⊢;grind,?_,?_⟩
  ·exact lM hs
  ·exact⟨⟨AI,AI,AI⟩,AJ (by rw[A4];exact A1 _),λ_=>rfl⟩
  exact AI
 obtain rfl:q=W.length:=A0
 have s5:0<W.length:=by
  rcases II W.length with h|h
  ·rw[AX.1 h]at h0;simp at h0
  exact h
 apply AO;apply FD;refine FY ?_;refine BQ ?_;refine LC.tB (a:=0) (b:=id+1) (LC.mk (by rw[AD,hex s5,Be]) (by rw[Be,A4]) A0 A0)
def bA(W)(hl:W.length<=1000)(h0:W.flatten.length=0):DZ prog 155 [rows W] (ints W.flatten):=by
 have hz:W.flatten=[]:=AX.1 h0
 have hzk:∀k,k<W.length->W.getD k []=[]:=λk hk=>by
  have:=Ll (W:=W) (k+1);rw[Qn hk,AH]at this;exact AX.1 A0
 refine DA AY func155 rfl AP ntmps155 results155 ((IC _)) (λnx cX=>?_)
 refine FY ?_;refine FY ?_;refine A6 λN1 CW=>FY ?_;refine AA<|AM (α:=Nat) (λx=>sl 36 [(0,rows W),(3,.i .i64 (0:Nat)),(9,rows W),(10,.i .i64 W.length),(11,.i .i64 x)]) (λ_=>DD) (λx m=>x<=W.length/\nx<=m) (λx=>W.length-x) (0) ?_ ?_ (λ_ _ h=>h) ?_
 ·exact⟨A0,AI⟩
 ·exact E2
 rintro k m ⟨hk,hm⟩
 refine BH ?_;refine FY ?_;refine A6 λN2 DN=>AK ?_ ?_<;>intro h1
 ·have Iv:=rwZ (show k<W.length by omega);rw[hzk k A0]at Iv;apply AF;apply DN;refine A6 λN3 DO=>AA<|sQ λN hN=>?_;simp-dsimp-implicitDefEqProofs(disch:=omega)only[go_sem,A4,CR,BU,rows,Iv];apply hN;refine FY ?_;refine FY ?_;refine AK ?_ ?_<;>intro h2
  ·exfalso;omega
  apply AF;apply DO;refine eI ?_;refine BB (k+1) ?_ ?_ ?_
  ·exact FV
  ·exact⟨AI,AI⟩
  exact AI
 apply AO;apply CW;refine sQ λN hN=>?_;(try simp-dsimp-implicitDefEqProofs(disch:=omega)only[go_sem,rows]);refine(YS _ _).mono ?_
 rintro yK H1 r ⟨Di,rfl,rfl⟩
 apply hN;refine A6 λN4 FD=>FY ?_;refine AA<|AM (α:=Nat) (λx=>sl 36 [(6,.nl),(25,rows W),(26,.i .i64 W.length),(27,.i .i64 x)]) (λ_=>DD) (λx m=>x<=W.length/\nx<=m) (λx=>W.length-x) (0) ?_ ?_ (λ_ _ h=>h) ?_
 ·exact⟨A0,AI⟩
 ·exact E2
 rintro q m2 ⟨hq,Q8⟩
 refine BH ?_;refine FY ?_;refine A6 λN5 ID=>AK ?_ ?_<;>intro h3
 ·have hgq:=rwZ (show q<W.length by omega);rw[hzk q A0]at hgq;have RJ:(∀z∈([]:List AV),one z=true)=True:=B5;apply AF;apply ID;refine A6 λN6 OR=>AA<|sQ λN hN=>?_;simp-dsimp-implicitDefEqProofs(disch:=omega)only[go_sem,CR,BU,rows,hgq];apply hN;apply rQ;simp-dsimp-implicitDefEqProofs(disch:=omega)only[go_sem,rows,RJ];apply OR;refine eI ?_;refine BB (q+1) ?_ ?_ ?_
  ·exact FV
  ·exact⟨AI,AI⟩
  exact AI
 apply AO;apply FD;refine FY ?_;refine BQ ?_;rw[hz]
 exact .nl
def pF(W)(hl:W.length<=1000)(hn:W.flatten.length<=100000):DZ prog 155 [rows W] (ints W.flatten):=by
 rcases II W.flatten.length with h|h
 ·exact bA W hl h
 exact dI W hl hn h
def jQ{cX P c s K a b}(k L cs)(hk:s.t[k]? =some L)(hL:LC s.H a b L cs)(hs:AW cX P c ⟨s.t.set k (.v cs.length cs),dl s.H L,s.nx⟩ K):AW cX P c s K:=by
 rcases hL with ⟨rfl,rfl⟩|⟨id,rfl,hc,_,_⟩
 ·refine AW.fz (s':=⟨s.t.set k (.v 0 []),s.H,s.nx⟩) ⟨iX hk .nl,?_,A1 _⟩ hs;intro id LI h;exact⟨LI,h,rfl,λq x y h1 h2=>by rw[h1]at h2;cases h2;exact .refl _⟩
 exact IQ k id cs.length cs hk hc rfl hs
def mP:Nat->D4->Int
 |0,_=>1
 |k+1,W=>QP (W.getD 0 []).length λc=>oX c*(W.getD 0 []).getD c 0*mP k ((W.drop 1).map λr=>r.take c++r.drop (c+1))
def sqP(k:Nat)(W:D4):Prop:=W.length=k/\∀r∈W,r.length=k/\∀x∈r,-64<=x/\x<=64
def Qo:Nat->Int
 |0=>1
 |k+1=>(k+1)*(64*Qo k)
def A1Q:∀k,0<=Qo k
 |0=>by simp[Qo]
 |k+1=>FH A0 (FH A0 (A1Q k))
def sqP.min{k W}(h:sqP (k+1) W){c}(hc:c<k+1):sqP k ((W.drop 1).map λr=>r.take c++r.drop (c+1)):=by
 refine⟨by rw[A4,CC,h.1];omega,λr hr=>?_⟩;obtain⟨r',hr',rfl⟩:=AQ.1 hr;obtain⟨h1,h2⟩:=h.2 r' (M3 hr');refine⟨by rw[AH,B1,CC];omega,λx hx=>?_⟩;rcases AG.1 hx with q|q
 ·exact h2 x (GO q)
 exact h2 x (M3 q)
def Lm(c):oX c=1\/oX c= -1:=by unfold oX;split<;>simp
def Ln{a b A B}(hA:0<=A)(h1: -A<=a/\a<=A)(h2: -B<=b/\b<=B): -(A*B)<=a*b/\a*b<=A*B:=by
 have h3:(a*b).natAbs<=(A*B).natAbs:=by
  rw[Int.natAbs_mul,Int.natAbs_mul];exact CY A0 A0
 have h4:0<=A*B:=FH hA A0;omega
def Lo{g:Nat->Int}{B:Int}:∀n,(∀c,c<n->-B<=g c/\g c<=B)->-((n:Int)*B)<=QP n g/\QP n g<=(n:Int)*B
 |0,_=>by simp[QP]
 | n+1,h=>by
   have h1:=Lo n λc hc=>h c A0
   have h2:=h n A0;rw[QP,HE,GI,ER];omega
def bB{k W}(h:sqP (k+1) W){c}(hc:c<k+1):(W.getD 0 []).length=k+1/\-64<=(W.getD 0 []).getD c 0/\(W.getD 0 []).getD c 0<=64:=by
 have hm:W.getD 0 []∈W:=by rw[A5,A9 (by rw[h.1];omega)];exact BK _
 obtain⟨h1,h2⟩:=h.2 _ hm;exact⟨h1,h2 _ (by rw[A5 (l:=W.getD 0 []),A9 (l:=W.getD 0 []) (by rw[h1];exact hc)];exact BK _)⟩
def mQ:∀k W,sqP k W->-Qo k<=mP k W/\mP k W<=Qo k
 |0,W,_=>by simp[mP,Qo]
 | k +1,W,h=>by
   have hl:=(bB h (c:=0) A0).1;have:=Lo (g:=λc=>oX c*(W.getD 0 []).getD c 0*mP k ((W.drop 1).map λr=>r.take c++r.drop (c+1))) (B:=64*Qo k) (k+1) λc hc=>by
    have h1:=(bB h hc).2;have h2:=mQ k _ (h.min hc);refine Ln A0 ?_ h2;rcases Lm c with e|e<;>rw[e]<;>omega
   rw[mP,hl,Qo];rw[HE]at this;exact this
def A1R{k}(h:k<=4):Qo k<=402653184:=by
 rcases (by omega:k=0\/k=1\/k=2\/k=3\/k=4)with rfl|rfl|rfl|rfl|rfl<;>simp[Qo]
def Iw(W:D4)(c:Nat):D4:=(W.drop 1).map λr=>r.take c++r.drop (c+1)
def Xt(k:Nat)(W:D4)(c:Nat):Int:=QP c λc=>oX c*(W.getD 0 []).getD c 0*mP k (Iw W c)
def AJV{k W c}:Xt k W (c+1)=Xt k W c+oX c*(W.getD 0 []).getD c 0*mP k (Iw W c):=rfl
def A6N{k W}(h:(W.getD 0 []).length=k+1):mP (k+1) W=Xt k W (k+1):=by rw[mP,h];rfl
def ADT{k W}(h:sqP (k+1) W){c}(hc:c<=k+1): -((c:Int)*(64*Qo k))<=Xt k W c/\Xt k W c<=(c:Int)*(64*Qo k):=
 Lo c λd hd=>by
  have h1:=(bB h (show d<k+1 by omega)).2;have h2:=mQ k _ (h.min (show d<k+1 by omega));refine Ln A0 ?_ h2;rcases Lm d with e|e<;>rw[e]<;>omega
def AJW{c}:oX (c+1)=0-oX c:=by unfold oX;split<;>split<;>omega
set_option maxHeartbeats 4000000 in
def TL(k)(hk:k+1<=4)(W)(h:sqP (k+1) W)(ih:∀W',sqP k W'->DZ prog 194 [rows W'] (.i .i64 (mP k W'))):DZ prog 194 [rows W] (.i .i64 (mP (k+1) W)):=by
 obtain⟨R,hR⟩:=EK (W.getD 0 [])
 have Qp:=(bB h (c:=0) A0).1
 have hWl:=h.1
 have hg0:=rwZ (W:=W) (k:=0) A0
 rw[hR]at hg0 Qp
 refine BI AY func194 rfl AP ntmps194 results194 (.i _ _) (λnx cX=>?_)
 refine FY ?_;refine A6 λN1 CW=>FY ?_;refine AK ?_ ?_<;>intro h1
 ·exfalso;omega
 apply AF;apply CW;refine FY ?_;refine A6 λN2 DN=>sQ λN hN=>?_;simp-dsimp-implicitDefEqProofs(disch:=omega)only[go_sem,A4,rows,hg0,Qp];apply hN;refine AA<|AM (α:=Nat) (λx=>sl 56 [(0,rows W),(3,.i .i64 (Xt k W x)),(4,.i .i64 (oX x)),(15,ints R),(16,.i .i64 (k+1:Nat)),(17,.i .i64 x)]) (λ_=>DD) (λx m=>x<=k+1/\nx<=m) (λx=>k+1-x) (0) ?_ ?_ (λ_ _ h=>h) ?_
 ·exact⟨A0,AI⟩
 ·simp(disch:=omega) [EJ,EN,sl,rows,ints,Qp,Xt,QP,oX]
 rintro c m ⟨hc,hm⟩
 refine BH ?_;refine FY ?_;refine A6 λN3 DO=>AK ?_ ?_<;>intro h2
 ·have he:=bB h (show c<k+1 by omega);rw[hR]at he;have iU:=Lm c;have UK: -64<=oX c*R.getD c 0/\oX c*R.getD c 0<=64:=by rcases iU with e|e<;>rw[e]<;>omega
  have W3:=Ln A0 UK (mQ k _ (h.min (show c<k+1 by omega)));have gT:=A1R (k:=k) A0;have Ix:=A1Q k;have gU:=ADT h hc;have Iy:(c:Int)*(64*Qo k)<=4*(64*Qo k):=D5 A0 A0;have fB: -30000000000<=oX c*R.getD c 0*mP k (Iw W c)/\oX c*R.getD c 0*mP k (Iw W c)<=30000000000:=by unfold Iw;omega
  have Xu: -200000000000<=Xt k W c/\Xt k W c<=200000000000:=A0;have Xi:Xt k W (c+1)=Xt k W c+oX c*R.getD c 0*mP k (Iw W c):=by rw[AJV,hR]
  have hsg:oX (c+1)= -oX c:=by rw[AJW];omega
  clear W3 gU Iy;apply AF;apply DO;refine A6 λN4 FD=>AA<|sQ λN hN=>?_;simp-dsimp-implicitDefEqProofs(disch:=omega)only[go_sem,A4,ints,rows,Qp];apply hN;refine FY ?_;refine A6 λN5 ID=>FY ?_;refine AA<|AM (α:=Nat×HP×AV) (λx=>sl 56 [(0,rows W),(3,.i .i64 (Xt k W c)),(4,.i .i64 (oX c)),(5,.i .i64 c),(6,.i .i64 (R.getD c 0)),(7,x.2.2),(15,ints R),(16,.i .i64 (k+1:Nat)),(17,.i .i64 c),(23,rows (W.drop 1)),(24,.i .i64 k),(25,.i .i64 x.1)]) (λx=>x.2.1) (λx m=>x.1<=k/\nx<=m/\LC x.2.1 nx m x.2.2 (((Iw W c).take x.1).map ints)) (λx=>k-x.1) ((0,DD,.nl)) ?_ ?_ (by intro d cs hd;cases hd) ?_
  ·exact⟨B5,AI,by simpa using LC.nil⟩
  ·simp(disch:=omega) [EJ,EN,sl,rows,ints,Qp,hWl]<;>exact AJ (by simp[hWl])
  rintro⟨i,G,L⟩ m2 ⟨hi,Q8,hL⟩;dsimp only at hi Q8 hL ⊢;have hL1:=hL.one;have YC:=hL.len;have hml:(Iw W c).length=k:=by rw[Iw,A4,CC];omega
  rw[A4,B1,EF A0]at YC;refine BH ?_;refine FY ?_;refine A6 λN6 OR=>AK ?_ ?_<;>intro h3
  ·have hri:i+1<W.length:=A0;have hgi:=rwZ (W:=W) hri;obtain⟨UF,dJ⟩:=h.2 _ (show W.getD (i+1) []∈W by rw[A5,A9 hri];exact BK _);obtain⟨r,hr⟩:=EK (W.getD (i+1) []);rw[hr]at hgi UF dJ;have hdr:((W.drop 1).map ints).getD i .j= .v r.length (r.map (.i .i64)):=by rw[<-hgi];simp
   have hv1:AV.v c ((r.map (AV.i .i64)).take c)=ints (r.take c):=by unfold ints;rw[B1,UF,EF A0,JS]
   have Vt:AV.v (k+1-(c+1)) (((r.map (AV.i .i64)).drop (c+1)).take (k+1-(c+1)))=ints (r.drop (c+1)):=by
    unfold ints;rw[CC,UF,AJ (by rw[CC,A4,UF];omega),RF]
   have ZR:[r.take c,r.drop (c+1)].flatten=r.take c++r.drop (c+1):=B5;apply AF;apply OR;refine A6 λN7 S6=>AA<|sH hdr ?_;refine UR AY AP [true,true,true,true,true,true,true,true,false,false,false,false,false] AP ?_
   (try simp-dsimp-implicitDefEqProofs(disch:=omega)only[go_sem,A4,rows,hL1,YC,UF,hdr,hv1,Vt]);refine AC.fz (ts:=[rows [r.take c,r.drop (c+1)]]) (eL.del (id:=m2+1+3+8)) ⟨Fz.IY (AD _ _ _) rfl,trivial⟩ (AC.pure (.of (pF _ B5 (by rw[ZR,AH,B1,CC];omega))) ?_);rw[ZR];try simp-dsimp-implicitDefEqProofs(disch:=(first|omega|((repeat refine LC.CJ A0 ?_);assumption))) only[go_sem,rows,hL1,YC,F2 (a:=nx) (b:=m2) (L:=L) (cs:=((Iw W c).take i).map ints),A4]
   apply S6;refine BX (λG9 TI=>?_);dsimp only at TI;refine eI ?_;refine BB (i+1,G9,.h (m2+1+3+11) 0 (i+1)) ?_ ?_ ?_
   ·exact FV
   ·have xH:(Iw W c).getD i []=r.take c++r.drop (c+1):=by
     rw[<-hr,Iw,A5,BF,CK,FP 1 i,A9 hri,A5,A9 hri];rfl
    have TC:LC G9 nx (m2+1+3+12) (.h (m2+1+3+11) 0 (i+1)) (((Iw W c).take (i+1)).map ints):=LC.mk (by rw[<-TI,AD,<-xH];congr 1;rw[B7 A0,AZ];simp[hml,show i<k by omega]) (by rw[A4,B1];omega) A0 A0;first|exact⟨AI,TC.wide (A1 _) A0⟩|exact⟨AI,AI,TC.wide (A1 _) A0⟩
   exact AI
  obtain rfl:k=i:=A0;have YA:(Iw W c).take k=Iw W c:=AJ A0;rw[YA]at hL;apply AO;apply ID;refine A6 λN8 VK=>jQ 7 L _ rfl hL ?_
  rw[A4];refine FY ?_;refine AK ?_ ?_<;>intro h4
  ·refine eI ?_;refine AC.pure (.of (ih (Iw W c) (h.min (show c<k+1 by omega)))) ?_;(try simp-dsimp-implicitDefEqProofs(disch:=omega)only[go_sem,rows])
   apply VK;refine eI ?_;apply FD;refine eI ?_;refine⟨c+1,?_,(by intro d cs hd;cases hd),?_,?_⟩
   ·simp(disch:=omega) [EJ,EN,sl,DV,rows,ints,Qp,Xi,hsg]
   ·exact⟨AI,AI⟩
   exact AI
  have cH:R.getD c 0=0:=by simpa using h4
  rw[cH,MQ,KM,MO]at Xi;apply AF;apply VK;refine eI ?_;apply FD;refine eI ?_;refine⟨c+1,?_,(by intro d cs hd;cases hd),?_,?_⟩
  ·simp(disch:=omega) [EJ,EN,sl,DV,rows,ints,Qp,Xi,hsg]
  ·exact⟨AI,AI⟩
  exact AI
 obtain rfl:c=k+1:=A0
 apply AO;apply DN;refine FY ?_;refine BQ ?_;rw[A6N (by rw[hR];exact Qp)]
def TM(W)(h:W.length=0):DZ prog 194 [rows W] (.i .i64 1):=by
 refine BI AY func194 rfl AP ntmps194 results194 (.i _ _) (λnx cX=>?_)
 refine sH h ?_;refine A6 λN1 CW=>sH h ?_;refine HU rfl ?_;refine sH h ?_;apply DQ;simp-dsimp-implicitDefEqProofs(disch:=omega)only[go_sem];try rfl
def P2:∀(k:Nat),k<=4->∀W,sqP k W->DZ prog 194 [rows W] (.i .i64 (mP k W))
 |0,_,W,h=>TM W h.1
 |k+1,hk,W,h=>TL k hk W h (P2 k A0)
end
end Go.Proofs.YtgknbnkmilddhaaGreat