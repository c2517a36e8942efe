import Derived.Test.YtgknbnkmilddhaaGreatZ14
import Derived.Test.YtgknbnkmilddhaaGreatZ18
set_option linter.all false

open Go.Proofs.Tryz
namespace Go.Proofs.YtgknbnkmilddhaaGreat
section
def vcs(n:Nat)(K:List (List V)):AV:= .v K.length (K.map (D7 n))
def A35(n K):NR (vcs n K):= .v _ _ (λk y hk=>by
 obtain⟨z,_,rfl⟩:=AQ.1 (D3 hk);exact UZ _ _)
def A7S{n:Nat}{K:List (List V)}{u:List V}:(K.map (D7 n)++[D7 n u]).getD K.length .j=D7 n u:=by
 rw[A5,EA B5];simp
section
variable(U:C2)(pw:D4)(cj:E6)
end
def nE{cX n ops y s s1 K}{R0:Prop}(r0:R0)(q:AW cX prog y s1 K)(e:R0->HA ops s s1:=by intro h0 N hN;(try simp-dsimp-implicitDefEqProofs(maxSteps:=800000) (disch:=omega)only[go_sem,A37,ints,AU,vi,D7,h0]);exact hN):GZ cX n ops y s K:=HF q (e r0)
end
section
def Mk{cX P c s K}(n k o X)(hk:s.t[k]? =some (oA o X.length))(hH:s.H=oH DD o (X.map (vi n)))(h0:o=none->X=[])(hs:AW cX P c ⟨s.t.set k (D7 n X),DD,s.nx⟩ K):AW cX P c s K:=by
 refine AW.fz (s':=⟨s.t.set k (D7 n X),DD,s.nx⟩) ⟨iX hk ?_,λ_ _ h=>(by cases h),A1 _⟩ hs;cases o with
 |none=>rw[h0 rfl];exact .nl
 | some id=>
   refine .h id 0 X.length (X.map (vi n)) _ (by rw[hH];exact AD _ _ _) rfl B5 B5 (λk x y h1 h2=>?_);rw[BS,h2]at h1;cases h1;exact .refl _
def A1P.fz{nx DI n H H' r X zs}(h:A1P nx H zs DI H' r)(hz:zs=X.map (vi n)):Fz H' DD r (D7 n X):=by
 obtain⟨h1,h2,⟨h3,rfl⟩|⟨id,cs,h3,h4,rfl,h6,h7⟩⟩:=h
 ·have:X=[]:=by rw[h3]at hz;exact GY.1 hz.symm
  subst this;exact .nl
 have hl:zs.length=X.length:=by rw[hz,A4]
 have KW:zs.length<=cs.length:=by
  have:=congrArg List.length h7;rw[B1]at this;omega
 unfold D7;rw[hl]at h7 KW ⊢;refine .h id 0 X.length cs _ h6 rfl A0 B5 (λk x y h8 h9=>?_);rw[hz]at h7;have:y=x:=by
  have hk:k<X.length:=by
   have:=(AL.1 h9).1;simpa using this
  rw[<-h7,D9,if_pos hk]at h9;rw[BS]at h8;rw[h8]at h9;exact(F5 h9).symm
 rw[this];exact .refl _
def Sls.D7{n nx H X}:Sls H nx (Go.Proofs.YtgknbnkmilddhaaGreat.D7 n X) (X.map (vi n)):=
 ⟨λz hz=>by obtain⟨a,_,rfl⟩:=AQ.1 hz;rfl,.inl (by simp[Go.Proofs.YtgknbnkmilddhaaGreat.D7])⟩
def Sls.two{n nx H X Y}:∀i,i<[X.map (vi n),Y.map (vi n)].length->Sls H nx ([Go.Proofs.YtgknbnkmilddhaaGreat.D7 n X,Go.Proofs.YtgknbnkmilddhaaGreat.D7 n Y].getD i .j) ([X.map (vi n),Y.map (vi n)].getD i []):=λi hi=>
 match i,hi with
 |0,_=> .D7
 |1,_=> .D7
section
variable(U:C2)(pw:D4)(cj:E6)
set_option maxRecDepth 20000 in
set_option maxHeartbeats 4000000 in
def PV(h:BW U pw cj)(hc:HN (pc U pw cj) 0)(us vs)(hl:us.length<=6)(oE:vs.length<=6)(hu:∀x∈us,T (pc U pw cj) 0 x)(hw:∀x∈vs,T (pc U pw cj) 0 x)(nx):AC prog 60 nx DD [AU U pw cj,D7 U.length us,D7 U.length vs] (λDI H' r=>OwZ U.length nx DI DD H' r (QK (pc U pw cj) us vs)):=by
 have Q4:=h.1.1
 have hv:=h.val
 refine CF AY func60 rfl AP ntmps60 results60 (λGM cX=>?_)
 refine MA ?_;refine MA ?_;refine A6 λN1 CW=>MA ?_;refine AA<|AM (α:=Nat×Option Nat×List V) (λx=>sl 40 [(0,AU U pw cj),(1,D7 U.length us),(2,D7 U.length vs),(7,oA x.2.1 x.2.2.length),(12,D7 U.length us),(13,.i .i64 us.length),(14,.i .i64 x.1)]) (λx=>oH DD x.2.1 (x.2.2.map (vi U.length))) (λx m=>(x.1<=us.length/\nx<=m)/\(x.2.1=none->x.2.2=[])/\(∀id,x.2.1=some id->nx<=id/\id<m)/\x.2.2=Ga (pc U pw cj) (us.take x.1) vs) (λx=>us.length-x.1) ((0,none,[])) ?_ ?_ (λ_ _ h=>h) ?_
 ·exact⟨⟨B5,AI⟩,λ_=>rfl,B5,by simp[Ga]⟩
 ·simp[EJ,EN,sl,AU,ints,rows,B6,D7,vi,oA]
 rintro⟨i,o,K⟩ m2 ⟨⟨hi,Q8⟩,h0,GF,hK⟩
 dsimp only at hi Q8 h0 GF hK ⊢
 refine MA ?_;refine A6 λN2 DN=>AK ?_ ?_<;>intro h1
 ·obtain⟨b,Dm⟩:=EK (us.getD i z0);have hbT:T (pc U pw cj) 0 b:=by rw[<-Dm];exact hu _ (P3 A0)
  have Wo:=Gy (P:=pc U pw cj) (vs:=vs) (show i<us.length by omega) Dm;have KW:=rP (P:=pc U pw cj) (us:=us.take i) (vs:=vs);have uY:(us.take i).length*vs.length<=6*6:=CY (by rw[B1];omega) oE;apply AF;apply DN;refine A6 λN3 DO=>AA<|sQ λN hN=>?_;simp-dsimp-implicitDefEqProofs(maxSteps:=800000) (disch:=omega)only[go_sem,AU,vi,D7,Dm];apply hN;refine MA ?_;refine AA<|AM (α:=Nat×Option Nat×List V) (λx=>sl 40 [(0,AU U pw cj),(1,D7 U.length us),(2,D7 U.length vs),(7,oA x.2.1 x.2.2.length),(9,vi U.length b),(12,D7 U.length us),(13,.i .i64 us.length),(14,.i .i64 i),(18,D7 U.length vs),(19,.i .i64 vs.length),(20,.i .i64 x.1)]) (λx=>oH DD x.2.1 (x.2.2.map (vi U.length))) (λx m=>(x.1<=vs.length/\nx<=m)/\(x.2.1=none->x.2.2=[])/\(∀id,x.2.1=some id->nx<=id/\id<m)/\x.2.2=K++(vs.take x.1).map λy=>mL (pc U pw cj) b y) (λx=>vs.length-x.1) ((0,o,K)) ?_ ?_ (λ_ _ h=>h) ?_
  ·exact⟨⟨B5,AI⟩,h0,λid e=>(have:=GF id e;⟨this.1,AI⟩),B5⟩
  ·simp[EJ,EN,sl,AU,ints,rows,B6,D7,vi]
  rintro⟨j,(_|id),K2⟩ m3 ⟨⟨hj,U5⟩,vE,UY,iS⟩
  ·refine BH ?_;dsimp only[oA,oH]at hj U5 vE UY iS ⊢;have hz2:=vE rfl;refine MA ?_;refine A6 λN4 FD=>AK ?_ ?_<;>intro h2
   ·have hms:=kM (f:=λy=>mL (pc U pw cj) b y) (show j<vs.length by omega) rfl;have gP:=hw _ (P3 (show j<vs.length by omega));apply AF;apply FD;refine A6 λN5 ID=>AA<|MA ?_;refine QX ?_;refine W5 (QQ U pw cj h hc b _ hbT gP) ?_
    apply ID;refine QX ?_;refine⟨(j+1,some (m3+1+3+6),K2++[mL (pc U pw cj) b (vs.getD j z0)]),?_,by rw[hz2];intro d cs hd;simp only[oH,CJ,DD,AZ,BR,BU,C8,vi]at hd ⊢;grind,?_,?_⟩
    ·simp(disch:=omega) [EJ,EN,sl,oA,DV,ints,rows,B6,AU,D7,vi]<;>omega
    ·exact⟨⟨AI,AI⟩,B5,by simp;omega,by (try simp only[]);rw[hms,iS,BO]⟩
    exact AI
   have lT:j=vs.length:=A0;subst lT;apply AO;apply DO;refine QX ?_;refine BB (i+1,none,K2) ?_ ?_ ?_
   ·simp(disch:=omega) [EJ,EN,sl,oA,DV,ints,rows,B6,AU,D7,vi]<;>omega
   ·exact⟨⟨AI,AI⟩,λ_=>hz2,B5,by (try simp only[]);rw[iS,hK,Wo,B2]⟩
   exact AI
  refine BH ?_;dsimp only[oA,oH]at hj U5 vE UY iS ⊢;have Aw:=UY id rfl;have Is:K2.length<=1000:=by
   rw[iS,AH,A4,B1,hK,KW];omega
  refine MA ?_;refine A6 λN6 OR=>AK ?_ ?_<;>intro h3
  ·have hms:=kM (f:=λy=>mL (pc U pw cj) b y) (show j<vs.length by omega) rfl;have gP:=hw _ (P3 (show j<vs.length by omega));apply AF;apply OR;refine A6 λN7 S6=>AA<|MA ?_;refine QX ?_;refine W5 (QQ U pw cj h hc b _ hbT gP) ?_
   apply S6;refine QX ?_;refine⟨(j+1,some (m3+1+3+6),K2++[mL (pc U pw cj) b (vs.getD j z0)]),?_,by intro d cs hd;simp only[oH,CJ,DD,KD,AZ,BR,BU,vi]at hd ⊢;grind,?_,?_⟩
   ·simp(disch:=omega) [EJ,EN,sl,oA,DV,ints,rows,B6,AU,D7,vi]<;>omega
   ·exact⟨⟨AI,AI⟩,B5,by simp;omega,by (try simp only[]);rw[hms,iS,BO]⟩
   exact AI
  have lT:j=vs.length:=A0;subst lT;apply AO;apply DO;refine QX ?_;refine BB (i+1,some id,K2) ?_ ?_ ?_
  ·simp(disch:=omega) [EJ,EN,sl,oA,DV,ints,rows,B6,AU,D7,vi]<;>omega
  ·exact⟨⟨AI,AI⟩,B5,by simp;omega,by (try simp only[]);rw[iS,hK,Wo,B2]⟩
  exact AI
 apply AO;apply CW;obtain rfl:i=us.length:=A0
 rw[B2]at hK
 have KW:=rP (P:=pc U pw cj) (us:=us) (vs:=vs)
 have uY:us.length*vs.length<=6*6:=CY hl oE
 have Is:K.length<=1000:=by rw[hK,KW];omega
 have Ld:∀x∈K,T (pc U pw cj) 0 x:=by rw[hK];exact yX hv hc hu hw
 have Mj:=λn9=>vB U pw cj h hc K (us++vs) Is (by rw[AH];omega) Ld (uR hu hw) n9
 have YO:ccL (pc U pw cj) K (us++vs)=QK (pc U pw cj) us vs:=by rw[hK];rfl
 rw[YO]at Mj
 refine Mk U.length 7 o K rfl rfl h0 ?_
 refine BH ?_;refine sQ λN hN=>?_;refine eX ?_;refine(gS [D7 U.length us,D7 U.length vs] [us.map (vi U.length),vs.map (vi U.length)] rfl B5 _ _ _ (AD _ _ _) AI .two (by simp;omega)).CD ?_
 rintro m5 H5 r5 hm5 AP8
 have hfz:=AP8.fz (n:=U.length) (X:=us++vs) B5
 refine eX ?_
 refine AC.fz (H':=DD) (ts:=[AU U pw cj,D7 U.length K,D7 U.length (us++vs)]) (λ_ _ h=>by cases h) ?_ ((Mj _).CD ?_)
 ·exact⟨.refl _,.refl _,hfz,trivial⟩
 rintro m9 H9 r9 oI (⟨id9,rfl,hi9,hj9,rfl⟩|⟨he9,rfl,rfl⟩)
 ·refine eX ?_
  apply hN;refine BQ ?_;exact⟨_,Le.refl _,.inl ⟨id9,rfl,A0,A0,rfl⟩⟩
 refine eX ?_
 apply hN;refine BQ ?_;exact⟨_,Le.refl _,.inr ⟨he9,rfl,rfl⟩⟩
end
end
section
def Gz{n us}:D7 n us=rows (us.map (vec n)):=by
 unfold D7 rows;rw[GN,A4];congr 1
 refine FN λx _=>?_
 exact(KF).symm
section
variable(U:C2)(pw:D4)(cj:E6)
def Ml{us vs:List V}(hu:∀x∈us,T (pc U pw cj) 0 x)(hw:∀x∈vs,T (pc U pw cj) 0 x):us.map (vec U.length)=vs.map (vec U.length)↔us=vs:=by
 refine⟨λe=>?_,λe=>by rw[e]⟩;induction us generalizing vs with
 |nil=>
  cases vs with
  |nil=>rfl
  |cons b vs=>simp at e
 |cons a us ih=>
  cases vs with
  |nil=>simp at e
  | cons b vs=>
    rw[BR,BR,MD]at e;rw[(T.Kp (hu a CA) (hw b CA)).1 e.1,ih (λx hx=>hu x (C3 _ hx)) (λx hx=>hw x (C3 _ hx)) e.2]
def ZF(hn:U.length<=1000){us vs}(hl:us.length<=1000)(WV:vs.length<=1000)(hu:∀x∈us,T (pc U pw cj) 0 x)(hw:∀x∈vs,T (pc U pw cj) 0 x):DZ prog 49 [D7 U.length us,D7 U.length vs] (.b (tf (us=vs))):=by
 have hr:∀us:List V,us.length<=1000->FC (us.map (vec U.length)):=λus hl=>⟨by rw[A4];omega,λx hx=>by obtain⟨a,_,rfl⟩:=AQ.1 hx;rw[HB];omega⟩
 have:=mO (us.map (vec U.length)) (vs.map (vec U.length)) (hr us hl) (hr vs WV);rw[oB (Ml U pw cj hu hw)]at this;rw[Gz,Gz];exact this
def kN(hn:U.length<=1000):DZ prog 58 [AU U pw cj] (D7 U.length (IT U.length)):=by
 refine BI AY func58 rfl AP ntmps58 results58 (UZ _ _) (λnx cX=>?_)
 refine tG ?_;refine Km (WG U pw cj hn) ?_;apply DQ;simp-dsimp-implicitDefEqProofs(maxSteps:=800000) (disch:=omega)only[go_sem];skip
end
end
section
def ixF(y:Int):C2->Nat->Int
 |[],_=> -1
 |b::l,k=>if b=y then k else ixF y l (k+1)
def Ta{y}:∀{l:C2} {k:Nat},0<=ixF y l k↔y∈l:=by
 intro l;induction l with
 |nil=>intro k;simp[ixF]
 | cons b l ih=>
   intro k;rw[ixF];by_cases e:b=y
   ·rw[if_pos e];simp[e]
   rw[if_neg e,ih];simp[I8 e]
def A36{y:Int}{a:C2}{k:Nat}(h:k<a.length):ixF y (a.drop k) k=if a.getD k 0=y then (k:Int)else ixF y (a.drop (k+1)) (k+1):=by
 rw[DL h,ixF];simp[h]
def dR(a y)(ha:a.length<=1099511627776):DZ prog 241 [ints a,.i .i64 y] (.i .i64 (ixF y a 0)):=by
 refine BI AY func241 rfl AP ntmps241 results241 (.i _ _) (λnx cX=>?_)
 refine EU ?_;refine A6 λN1 CW=>EU ?_;refine AA<|AM (α:=Nat) (λx=>sl 19 [(0,ints a),(1,.i .i64 y),(7,.i .i64 a.length),(8,.i .i64 x)]) (λ_=>DD) (λx m=>x<=a.length/\ixF y a 0=ixF y (a.drop x) x) (λx=>a.length-x) (0) ?_ ?_ (λ_ _ h=>h) ?_
 ·exact⟨A0,rfl⟩
 ·simp(disch:=omega) [EJ,EN,sl,DV,ints,rows,B6,ints,CB,DV]<;>omega
 rintro k m ⟨hk,hI⟩
 refine BH ?_;refine EU ?_;refine A6 λN2 DN=>AK ?_ ?_<;>intro h1
 ·have hs:=A36 (y:=y) (show k<a.length by omega);apply AF;apply DN;refine A6 λN3 DO=>AA<|EU ?_;refine EU ?_;refine AK ?_ ?_<;>intro h2
  ·refine EU ?_;refine BQ ?_;rw[hI,hs,if_pos A0]
  apply AF;apply DO;refine LG ?_;refine BB (k+1) ?_ ?_ ?_
  ·simp(disch:=omega) [EJ,EN,sl,DV,ints,rows,B6,ints,CB,DV]<;>omega
  ·exact⟨A0,by rw[hI,hs,if_neg A0]⟩
  exact AI
 apply AO;apply CW;refine EU ?_;refine BQ ?_;rw[hI,HD A0];rfl
def S0(a y)(ha:a.length<=1099511627776):DZ prog 189 [ints a,.i .i64 y] (.b (tf (y∈a))):=by
 refine BI AY func189 rfl AP ntmps189 results189 (.b _) (λnx cX=>?_)
 refine CT ?_;refine UN (dR a y ha) ?_;refine BQ ?_;by_cases hm:y∈a
 ·rw[KU hm];exact bt (decide_eq_true (Ta.2 hm))
 rw[JQ hm];exact bt (decide_eq_false λh=>hm (Ta.1 h))
def frS{n u k}(h:WN n u k=none):List.map (λd:Nat=>AV.i .i64 (d:Int)) (K7 n u k)++[AV.i .i64 (k:Int)]=List.map (λd:Nat=>AV.i .i64 (d:Int)) (K7 n u (k+1)):=by
 rw[ZD,if_pos h,AZ];rfl
def rR{n:Nat}{u:List V}{k:Nat}:(k:Int)∈Ft n u↔WN n u k≠none:=by
 unfold Ft;constructor
 · intro h;obtain⟨b,hb,e⟩:=AQ.1 h;obtain⟨i,hi,e2⟩:=GX hb;refine Qw u.length (A1 _) ⟨i,hi,?_⟩;rw[A5,A9 hi];show O1 n u[i]=k
   rw[e2];omega
 intro h;cases hz:WN n u k with
 |none=>exact absurd hz h
 | some z=>
   obtain⟨h1,h2⟩:=Gb u.length (A1 _) hz;exact AQ.2 ⟨z,h1,by rw[h2]⟩
section
variable(U:C2)(pw:D4)(cj:E6)
def U1(hn:U.length<=6)(us)(hl:us.length<=1000)(hu:∀k,k<us.length->O1 U.length (us.getD k z0)<U.length):DZ prog 129 [AU U pw cj,D7 U.length us] (ints (oO U.length us)):=by
 have hpv:=WJ U.length hn us A0 hu
 have Lj:=PG (n:=U.length) (us:=us)
 refine DA AY func129 rfl AP ntmps129 results129 ((IC _)) (λnx cX=>?_)
 refine j8 ?_;refine A0M (hpv) ?_;refine j8 ?_;refine A6 λN1 CW=>j8 ?_;refine AA<|AM (α:=Nat×Option Nat) (λx=>sl 28 [(5,ints (Ft U.length us)),(6,oA x.2 (K7 U.length us x.1).length),(14,.i .i64 U.length),(15,.i .i64 x.1)]) (λx=>oH DD x.2 (List.map (λd:Nat=>AV.i .i64 (d:Int)) (K7 U.length us x.1))) (λx m=>(x.1<=U.length/\nx<=m)/\(x.2=none->K7 U.length us x.1=[])/\(∀id,x.2=some id->nx<=id/\id<m)) (λx=>U.length-x.1) ((0,none)) ?_ ?_ (λ_ _ h=>h) ?_
 ·exact⟨⟨B5,AI⟩,λ_=>rfl,B5⟩
 ·simp[EJ,EN,sl,AU,ints,rows,B6,oA]
 rintro⟨k,(_|id)⟩ m ⟨⟨hk,hm⟩,h0,GF⟩
 ·refine BH ?_;dsimp only[oA,oH]at hk hm h0 GF ⊢;have hf0:=h0 rfl;refine j8 ?_;refine A6 λN2 DN=>AK ?_ ?_<;>intro h1
  ·have hco:=S0 (Ft U.length us) (k:Int) A0;apply AF;apply DN;refine A6 λN3 DO=>AA<|j8 ?_;refine A0M (hco) ?_;refine AK ?_ ?_<;>intro h2
   ·have hz:WN U.length us k=none:=AN λq=>h2 (rR.2 q)
    have ZJ:(K7 U.length us (k+1)).length=1:=by rw[ZD,if_pos hz,hf0];rfl
    refine lW ?_;apply DO;refine lW ?_;refine⟨(k+1,some (m+1+2+4+3)),?_,by rw[<-frS hz,hf0];intro d cs hd;simp only[oH,CJ,DD,BU,C8]at hd ⊢;grind,?_,?_⟩
    ·simp(disch:=omega) [EJ,EN,sl,AU,ints,rows,B6,oA,DV,ZJ]<;>omega
    ·exact⟨⟨AI,AI⟩,B5,by simp;omega⟩
    exact AI
   have ZJ:K7 U.length us (k+1)=[]:=by rw[ZD,if_neg (λq=>rR.1 (by simpa using h2) q),hf0]
   apply AF;apply DO;refine lW ?_;refine BB (k+1,none) ?_ ?_ ?_
   ·simp(disch:=omega) [EJ,EN,sl,AU,ints,rows,B6,oA,DV,ZJ]<;>omega
   ·exact⟨⟨AI,AI⟩,λ_=>ZJ,B5⟩
   exact AI
  apply AO;apply CW;refine j8 ?_;refine BQ ?_;have v7:k=U.length:=A0
  subst v7;rw[oO,hf0];exact .nl
 refine BH ?_;dsimp only[oA,oH]at hk hm h0 GF ⊢
 have Aw:=GF id rfl
 have ZR:=YU (n:=U.length) (u:=us) k
 refine j8 ?_;refine A6 λN4 FD=>AK ?_ ?_<;>intro h3
 ·have hco:=S0 (Ft U.length us) (k:Int) A0;apply AF;apply FD;refine A6 λN5 ID=>AA<|j8 ?_;refine A0M (hco) ?_;refine AK ?_ ?_<;>intro h4
  ·have hz:WN U.length us k=none:=AN λq=>h4 (rR.2 q)
   have ZJ:(K7 U.length us (k+1)).length=(K7 U.length us k).length+1:=by rw[ZD,if_pos hz];simp
   refine lW ?_;apply ID;refine lW ?_;refine⟨(k+1,some (m+1+2+4+3)),?_,by rw[<-frS hz];intro d cs hd;simp only[oH,CJ,DD,KD]at hd ⊢;grind,?_,?_⟩
   ·simp(disch:=omega) [EJ,EN,sl,AU,ints,rows,B6,oA,DV,ZJ]<;>omega
   ·exact⟨⟨AI,AI⟩,B5,by simp;omega⟩
   exact AI
  have ZJ:K7 U.length us (k+1)=K7 U.length us k:=by rw[ZD,if_neg (λq=>rR.1 (by simpa using h4) q)]
  apply AF;apply ID;refine lW ?_;refine⟨(k+1,some id),?_,by dsimp only[oH];rw[ZJ];exact Le.refl _,?_,?_⟩
  ·simp(disch:=omega) [EJ,EN,sl,AU,ints,rows,B6,oA,DV,ZJ]<;>omega
  ·exact⟨⟨AI,AI⟩,B5,by simp;omega⟩
  exact AI
 apply AO;apply CW;refine j8 ?_;refine BQ ?_;have v7:k=U.length:=A0
 subst v7
 refine cF ?_ (by rw[cM])
 rw[AD,oO,GN];rfl
set_option maxHeartbeats 4000000 in
def LO(h:BW U pw cj)(hc:HN (pc U pw cj) 0){S}(us)(MC:RA (pc U pw cj) S us)(a)(ha:T (pc U pw cj) 0 a):cC prog 131 [AU U pw cj,D7 U.length us,vi U.length a] (ints (ZY (pc U pw cj) us a)):=by
 have Q4:=h.1.1
 have hv:=h.val
 have aM:=MC.len
 have PN:(pc U pw cj).n=U.length:=rfl
 rw[PN]at aM
 have Lx:∀k,k<us.length->us.getD k z0∈us:=λk hk=>by rw[A5,A9 hk];exact BK _
 have Ye:=λk hk=>MC.at (Lx k hk)
 have hld:∀k,k<us.length->O1 U.length (us.getD k z0)<U.length:=λk hk=>(Ye k hk).1
 have ZR:=YU (n:=U.length) (u:=us) U.length
 have Dq:=cM (n:=U.length) (u:=us)
 intro nx
 refine ED AY func131 rfl AP ntmps131 results131 (λcX=>?_)
 refine eY ?_;refine Aq ((KG U pw cj h hc us A0 Ye a ha).pure) ?_;refine eY ?_;refine A6 λN1 CW=>Aq (U1 U pw cj Q4 us A0 hld) ?_;refine AA<|AM (α:=Nat×Nat) (λx=>sl 33 [(7,vi U.length (QY (pc U pw cj) us a)),(8,.h x.2 0 x.1),(18,ints (oO U.length us)),(19,.i .i64 (K7 U.length us U.length).length),(20,.i .i64 x.1)]) (λx=>CJ DD x.2 (some (((ZY (pc U pw cj) us a).take x.1).map (.i .i64)))) (λx m=>x.1<=(K7 U.length us U.length).length/\nx<=x.2/\x.2<m) (λx=>(K7 U.length us U.length).length-x.1) ((0,nx+1+5)) ?_ ?_ (by intro d cs hd;simp only[CJ,DD,AS,BU]at hd ⊢;grind) ?_
 ·exact⟨B5,AI,AI⟩
 ·simp(disch:=omega) [EJ,EN,sl,AU,ints,rows,B6,vi,oO]
 rintro⟨k,id⟩ m ⟨hk,GF,hm⟩
 dsimp only at hk GF hm ⊢
 have fO:(ZY (pc U pw cj) us a).length=(K7 U.length us U.length).length:=k6
 have eD:((ZY (pc U pw cj) us a).take k).length=k:=by rw[B1,fO];omega
 have hmn:(k<=min k (ZY (pc U pw cj) us a).length)=True:=eq_true (by rw[fO];omega)
 have YA:List.take k (List.map (AV.i .i64) (List.take k (ZY (pc U pw cj) us a)))=List.map (AV.i .i64) (List.take k (ZY (pc U pw cj) us a)):=AJ (by rw[A4,eD];exact A1 _)
 simp only[ints,vi];refine BH ?_;refine eY ?_;refine A6 λN2 DN=>AK ?_ ?_<;>intro h1
 ·obtain⟨d,hd⟩:=EK ((K7 U.length us U.length).getD k 0);have Lj:=Bn (n:=U.length) (u:=us) (k:=U.length) (i:=k) A0;have z6:=rD (n:=U.length) (u:=us) (i:=k) A0;rw[hd]at Lj z6;have n7:((ZY (pc U pw cj) us a).take (k+1)).map (AV.i .i64)=((ZY (pc U pw cj) us a).take k).map (AV.i .i64)++[.i .i64 (QY (pc U pw cj) us a d)]:=by
   rw[E5,AZ];congr 1
   have P5:k<(K7 U.length us U.length).length:=A0;have WZ:(K7 U.length us U.length)[k]=d:=by rw[<-hd];simp[P5]
   simp[ZY,PN,P5,WZ]
  apply AF;apply DN;refine A6 λN3 DO=>AA<|Kx z6 ?_;apply rQ;simp-dsimp-implicitDefEqProofs(maxSteps:=800000) (disch:=omega)only[go_sem,CB,ints,AU,vi,D7,hmn,YA];apply DO;apply rQ;simp-dsimp-implicitDefEqProofs(maxSteps:=800000) (disch:=omega)only[go_sem,CB,ints,AU,vi,D7];refine⟨(k+1,m+1+3+6),?_,by rw[n7];intro d cs hd;simp only[CJ,DD]at hd ⊢;grind,?_,?_⟩
  ·simp(disch:=omega) [EJ,EN,sl,DV,ints,rows,B6,AU,D7,DV,ints,CB,vi]<;>omega
  ·exact⟨AI,AI,AI⟩
  exact AI
 apply AO;apply CW;refine eY ?_;refine BQ ?_;obtain rfl:k=(K7 U.length us U.length).length:=A0
 rw[AJ (by rw[fO];exact A1 _)]
 exact⟨[id],Own.ints (AD _ _ _) fO.symm A0 A0⟩
end
end
section
structure Je(a m:Nat)(H:HP)(x y z:Nat)(xs ys zs:List AV)(oL pL cL:List AV):Prop where
 hx:H x=some xs
 hy:H y=some ys
 hz:H z=some zs
 ex:∃i1 i2 i3,PO H xs oL i1/\PO H ys pL i2/\PO H zs cL i3/\(x::y::z::(i1++(i2++i3))).Nodup/\∀i∈x::y::z::(i1++(i2++i3)),a<=i/\i<m
def Je.bd{a m H x y z xs ys zs oL pL cL}(h:Je a m H x y z xs ys zs oL pL cL):(a<=x/\x<m)/\(a<=y/\y<m)/\(a<=z/\z<m)/\x≠y/\x≠z/\y≠z:=by
 obtain⟨i1,i2,i3,h1,h2,h3,h4,h5⟩:=h.ex;refine⟨h5 x B5,h5 y B5,h5 z B5,?_⟩;simp only[C1,BJ,not_or]at h4;exact⟨h4.1.1,h4.1.2.1,h4.2.1.1⟩
def Je.len{a m H x y z xs ys zs oL pL cL}(h:Je a m H x y z xs ys zs oL pL cL):xs.length=oL.length/\ys.length=pL.length/\zs.length=cL.length:=by
 obtain⟨i1,i2,i3,h1,h2,h3,h4,h5⟩:=h.ex;exact⟨h1.len.symm,h2.len.symm,h3.len.symm⟩
def Je.next{a m m' H H' x y z x' y' z' xs ys zs oL pL cL v r1 X1 L XL JR ZU}(h:Je a m H x y z xs ys zs oL pL cL)(ho:Ow H' r1 X1 JR)(hL:Ow H' L XL ZU)(JO:(x'::y'::z'::(JR++ZU)).Nodup)(hb:∀i∈x'::y'::z'::(JR++ZU),m<=i/\i<m')(hm:m<=m')(ham:a<=m)(hx:H' x'=some (xs++[.i .i64 v]))(hy:H' y'=some (ys++[r1]))(hz:H' z'=some (zs++[L]))(hk:∀i,a<=i->i<m->i≠x->i≠y->i≠z->H' i=H i):
    Je a m' H' x' y' z' (xs++[.i .i64 v]) (ys++[r1]) (zs++[L]) (oL++[.i .i64 v]) (pL++[X1]) (cL++[XL]):=by
  obtain⟨i1,i2,i3,h1,h2,h3,h4,h5⟩:=h.ex;simp only[C1,BJ,AG,not_or,BA]at h4 JO;simp only[BJ,AG]at h5 hb;have k1:∀i∈i1,H' i=H i:=λi hi=>by have:=h5 i (by simp[hi]);exact hk i A0 A0 (λe=>h4.1.2.2.1 (e▸hi)) (λe=>h4.2.1.2.1 (e▸hi)) (λe=>h4.2.2.1.1 (e▸hi))
  have k2:∀i∈i2,H' i=H i:=λi hi=>by have:=h5 i (by simp[hi]);exact hk i A0 A0 (λe=>h4.1.2.2.2.1 (e▸hi)) (λe=>h4.2.1.2.2.1 (e▸hi)) (λe=>h4.2.2.1.2.1 (e▸hi))
  have k3:∀i∈i3,H' i=H i:=λi hi=>by have:=h5 i (by simp[hi]);exact hk i A0 A0 (λe=>h4.1.2.2.2.2 (e▸hi)) (λe=>h4.2.1.2.2.2 (e▸hi)) (λe=>h4.2.2.1.2.2 (e▸hi))
  refine⟨hx,hy,hz,i1++([]++[]),i2++(JR++[]),i3++(ZU++[]),PO.append (h1.BV k1) (.cons _ _ _ _ _ _ (.leaf _ (.i _ _) (.i _ _)) .nil),PO.append (h2.BV k2) (.cons _ _ _ _ _ _ ho .nil),PO.append (h3.BV k3) (.cons _ _ _ _ _ _ hL .nil),?_,?_⟩
  · simp only[C5,C1,BJ,AG,not_or,BA];have o1:∀i∈i1,i<m:=λi hi=>(h5 i (by simp[hi])).2
    have o2:∀i∈i2,i<m:=λi hi=>(h5 i (by simp[hi])).2
    have o3:∀i∈i3,i<m:=λi hi=>(h5 i (by simp[hi])).2
    have n1:∀i∈JR,m<=i:=λi hi=>(hb i (by simp[hi])).1
    have n2:∀i∈ZU,m<=i:=λi hi=>(hb i (by simp[hi])).1
    have nx:=(hb x' B5).1;have ny:=(hb y' B5).1;have nz:=(hb z' B5).1;grind
  intro i hi;simp only[C5,BJ,AG]at hi;grind
def Je.first{a m m' H' x' y' z' v r1 X1 L XL JR ZU}(ho:Ow H' r1 X1 JR)(hL:Ow H' L XL ZU)(JO:(x'::y'::z'::(JR++ZU)).Nodup)(hb:∀i∈x'::y'::z'::(JR++ZU),m<=i/\i<m')(ham:a<=m)(hx:H' x'=some [.i .i64 v])(hy:H' y'=some [r1])(hz:H' z'=some [L]):
    Je a m' H' x' y' z' [.i .i64 v] [r1] [L] [.i .i64 v] [X1] [XL]:=by
  refine⟨hx,hy,hz,[]++[],JR++[],ZU++[],.cons _ _ _ _ _ _ (.leaf _ (.i _ _) (.i _ _)) .nil,.cons _ _ _ _ _ _ ho .nil,.cons _ _ _ _ _ _ hL .nil,by simpa using JO,λi hi=>?_⟩;have:=hb i (by simpa using hi);omega
def Je.own{a m H x y z xs ys zs oL pL cL}(h:Je a m H x y z xs ys zs oL pL cL):∃ids,Own a m H (.g [.h x 0 xs.length,.h y 0 ys.length,.h z 0 zs.length]) (.g [.v oL.length oL,.v pL.length pL,.v cL.length cL]) ids:=by
 obtain⟨l1,l2,l3⟩:=h.len;obtain⟨i1,i2,i3,h1,h2,h3,h4,h5⟩:=h.ex;rw[<-l1,<-l2,<-l3];refine⟨(x::i1)++((y::i2)++((z::i3)++[])),Ow.g _ _ _ (.cons _ _ _ _ _ _ (Ow.h x xs oL i1 h.hx h1) (.cons _ _ _ _ _ _ (Ow.h y ys pL i2 h.hy h2) (.cons _ _ _ _ _ _ (Ow.h z zs cL i3 h.hz h3) .nil))),?_,λi hi=>?_⟩
 ·simp only[C5,C1,BJ,AG,not_or,BA,HC]at h4 ⊢;grind
 refine h5 i ?_;simp only[C5,BJ,AG,HC]at hi ⊢;grind
def gA.AKV{a m m2 L7 r1 X1 H2 JR}(ho:Ow H2 r1 X1 JR)(JO:JR.Nodup)(hb:∀i∈JR,m<=i/\i<m2)(hc:H2 L7=some [r1])(hi:m<=L7)(l5:L7<m2)(CP:L7∉JR)(ham:a<=m):gA a m2 L7 [r1] H2 [X1]:=
 ⟨⟨JR++[],.cons _ _ _ _ _ _ ho .nil,by simpa using JO,λi h=>by have:=hb i (by simpa using h);omega,by simpa using CP⟩,hc,A0,l5⟩
def gA.A9Z{a m m2 id L7 rs r1 X1 H H2 X JR}(h:gA a m id rs H X)(ho:Ow H2 r1 X1 JR)(JO:JR.Nodup)(hb:∀i∈JR,m<=i/\i<m2)(h1:∀i,a<=i->i<m->i≠id->H2 i=H i)(hc:H2 L7=some (rs++[r1]))(hi:m<=L7)(l5:L7<m2)(CP:L7∉JR):gA a m2 L7 (rs++[r1]) H2 (X++[X1]):=by
 obtain⟨⟨ids,g1,g2,g3,g4⟩,g5,g6,g7⟩:=h;refine⟨⟨ids++(JR++[]),PO.append (g1.BV λi hi=>h1 i (g3 i hi).1 (g3 i hi).2 (λe=>g4 (by rw[<-e];exact hi))) (.cons _ _ _ _ _ _ ho .nil),?_,?_,?_⟩,hc,A0,l5⟩
 ·rw[C5,BA];exact⟨g2,JO,λx hx y hy e=>by have:=g3 x hx;have:=hb y hy;omega⟩
 ·intro i hi;rw[C5]at hi;rcases AG.1 hi with hi|hi
  ·have:=g3 i hi;omega
  have:=hb i hi;omega
 intro hi;rw[C5]at hi;rcases AG.1 hi with hi|hi
 ·have:=g3 _ hi;omega
 exact CP hi
end
section
def A37{O:C2}{a k:Nat}(h:a+k<O.length):(List.drop a (O.map (AV.i .i64))).getD k .j= .i .i64 (O.getD (a+k) 0):=by
 rw[A5,CK,<-A5,CB h]
def QsO(a m c:Nat)(H:HP)(x y z:Nat)(xs ys zs:List AV)(k:Nat)(oL pL cL:List AV):Prop:=
 (k=0/\H c=some [.nl,.nl,.nl])\/(0<k/\H c=some [.h x 0 k,.h y 0 k,.h z 0 k]/\Je a m H x y z xs ys zs (oL.take k) (pL.take k) (cL.take k)/\xs.length=k/\ys.length=k/\zs.length=k)
def mk4{N:St->Prop}{C:Nat->HP->AV->List Nat->Prop}{S:Nat->HP->AV->St}{G:Prop}(h1:(∀m H r ids,C m H r ids->N (S m H r))->G)(h2:∀m H r ids,C m H r ids->N (S m H r)):G:=h1 h2
def vF{L:List AV}{k:Nat}{v:AV}(h:k<L.length)(hv:L.getD k .j=v):L.take (k+1)=L.take k++[v]:=by
 rw[E5,<-hv];simp[h]
section
variable(U:C2)(pw:D4)(cj:E6)
set_option maxRecDepth 20000 in
set_option maxHeartbeats 4000000 in
def NY(h:BW U pw cj)(hc:HN (pc U pw cj) 0){S}(us)(MC:RA (pc U pw cj) S us):cC prog 62 [AU U pw cj,D7 U.length us] (CI (TF U us) (WA (pc U pw cj) us) (U8 (pc U pw cj) us)):=by
 have Q4:=h.1.1
 have hv:=h.val
 have PN:(pc U pw cj).n=U.length:=rfl
 have aM:=MC.len
 rw[PN]at aM
 have hld:∀k,k<us.length->O1 U.length (us.getD k z0)<U.length:=λk hk=>(MC.at (by rw[A5,A9 hk];exact BK _)).1
 have Dq:=cM (n:=U.length) (u:=us)
 have ZR:=YU (n:=U.length) (u:=us) U.length
 have z6:∀i,i<(K7 U.length us U.length).length->(oO U.length us).getD i 0=((K7 U.length us U.length).getD i 0:Int)/\(K7 U.length us U.length).getD i 0<U.length:=λi hi=>⟨rD hi,Bn hi⟩
 obtain⟨fr,YZ⟩:∃f,K7 U.length us U.length=f:=⟨_,rfl⟩
 rw[YZ]at Dq ZR z6
 have Xx:((TF U us).map (AV.i .i64)).length=fr.length:=by rw[A4,TF,A4,YZ]
 have hpL:((WA (pc U pw cj) us).map ints).length=fr.length:=by rw[A4,WA,A4,PN,YZ]
 have Xw:((U8 (pc U pw cj) us).map rows).length=fr.length:=by rw[A4,U8,A4,DG,PN,YZ]
 have hoG:∀k,k<fr.length->((TF U us).map (AV.i .i64)).getD k .j= .i .i64 (U.getD (fr.getD k 0) 0):=λk hk=>by simp[TF,YZ,hk]
 have hpG:∀k,k<fr.length->((WA (pc U pw cj) us).map ints).getD k .j=ints (pJ (pc U pw cj) us (fr.getD k 0)):=λk hk=>by simp[WA,PN,YZ,hk]
 have hcG:∀k,k<fr.length->((U8 (pc U pw cj) us).map rows).getD k .j=rows (L8 (pc U pw cj) us k):=λk hk=>by simp[U8,PN,YZ,hk]
 have KW:∀k,(L8 (pc U pw cj) us k).length=fr.length-(k+1):=λk=>by rw[L8,A4,CC,PN,YZ]
 have hce:∀k j,k+1+j<fr.length->((L8 (pc U pw cj) us k).map ints).getD j .j=ints (mV (pc U pw cj) us (fr.getD k 0) (fr.getD (k+1+j) 0)):=λk j hj=>by
  have h1:j<fr.length-(k+1):=A0;simp[L8,PN,YZ,h1,hj,CK]
 intro nx
 refine ED AY func62 rfl AP ntmps62 results62 (λcX=>?_)
 refine MA ?_;refine MA ?_;refine MA ?_;refine Pt (U1 U pw cj Q4 us A0 hld) ?_;refine A6 λN1 CW=>MA ?_;refine AA<|BX (λG0 JM=>?_);dsimp only at JM
 have hQ0:G0 (nx+2)=some [.nl,.nl,.nl]/\G0 nx=some [.nl,.nl,.nl]:=by
  constructor<;>(rw[<-JM];exact J4)
 refine AM (α:=Nat×HP×(Nat×Nat×Nat)×(List AV×List AV×List AV)) (λx=>sl 93 [(0,AU U pw cj),(1,D7 U.length us),(4,.q nx 0),(5,.q (nx+2) 0),(6,.i .i64 U.length),(7,ints (oO U.length us)),(23,ints (oO U.length us)),(24,.i .i64 fr.length),(25,.i .i64 x.1)]) (λx=>x.2.1) (λx m=>(x.1<=fr.length/\nx+3<=m)/\x.2.1 nx=some [.nl,.nl,.nl]/\QsO (nx+3) m (nx+2) x.2.1 x.2.2.1.1 x.2.2.1.2.1 x.2.2.1.2.2 x.2.2.2.1 x.2.2.2.2.1 x.2.2.2.2.2 x.1 ((TF U us).map (AV.i .i64)) ((WA (pc U pw cj) us).map ints) ((U8 (pc U pw cj) us).map rows)) (λx=>fr.length-x.1) ((0,G0,(0,0,0),([],[],[]))) ?_ ?_ (λ_ _ h=>h) ?_
 ·exact⟨⟨B5,AI⟩,hQ0.2,.inl ⟨rfl,hQ0.1⟩⟩
 ·exact GD
 rintro⟨k,H,⟨x,y,z⟩,⟨xs,ys,zs⟩⟩ m ⟨⟨hk,hm⟩,hc4,hQ⟩
 dsimp only at hk hm hc4 hQ
 rcases hQ with ⟨VW,hcF⟩|⟨VW,hcF,hR,UC,WV,YD⟩
 ·refine BH ?_;try dsimp only
  have hx:=hcF;have UC:=hcF;have YD:=hcF;refine MA ?_;refine A6 λN2 DN=>AK ?_ ?_<;>intro h1
  ·have P5:k<fr.length:=A0;obtain⟨d,hd⟩:=EK (fr.getD k 0);obtain⟨Jf,cB⟩:=z6 k P5;rw[hd]at Jf cB;have Pg:=FQ (h.2.1 d cB);have l9:T (pc U pw cj) 0 (un d):=(ZC hv cB).1.mono hv (AE d);have o0:=NL h 0 hc (un d) l9 (U.getD d 0) A0 A0;rw[Ay A0]at o0;have hpj:cC prog 131 [AU U pw cj,D7 U.length us,vi U.length (T6 (pc U pw cj) (un d) (U.getD d 0))] (ints (pJ (pc U pw cj) us d)):=LO U pw cj h hc us MC _ (eU hv hc l9 _);apply AF;apply DN;refine A6 λN3 DO=>AA<|Kx Jf ?_;refine Pt (FG U.length d A0 A0) ?_;refine A6 λN hN=>C9 AY AP 10 AP ?_
   refine A10 hcF hx UC ?_;apply hN;refine A6 λN hN=>?_;apply mk4 (N:=N)
   ·intro key;refine K5 AY AP [true,false,true,true,true,true,true,true,true,true,true,true,true,false,false,false,false,true,false] (.br 1 (.br 13 (.br 14 (.br 15 (.br 16 (.br 18 .nil .nil) .nil) .nil) .nil) .nil) (.br 13 (.br 1 (.br 14 (.br 15 (.br 16 (.br 18 .nil .nil) .nil) .nil) .nil) (.br 14 (.br 1 (.br 15 (.br 16 (.br 18 .nil .nil) .nil) .nil) (.br 15 (.br 1 (.br 16 (.br 18 .nil .nil) .nil) .nil) .nil)) .nil)) .nil)) AP ?_;(try simp-dsimp-implicitDefEqProofs(maxSteps:=800000) (disch:=omega)only[go_sem,CB,ints,AU,vi,D7]);refine⟨AC.pure (.of (o0)) ?_,AC.pure (.of (o0)) ?_⟩
    ·(refine eX ?_);refine AC.own hpj (.cons (.refl _) (.cons (.refl _) (.cons (.refl _) .nil))) ?_;intro m1 H1 r1 JR SF SM EO;obtain⟨q1,q2,q3⟩:=EO.1.slice;have dJ:=FE q2;have o8:H1 (nx+2)=some [.h (m+1+5+4+10) 0 1,.nl,.nl]:=(SM _ A0).trans J4;(try simp-dsimp-implicitDefEqProofs(maxSteps:=800000) (disch:=omega)only[go_sem,AU,vi,D7,q1,q2,q3,dJ,o8])
     exact key m1 H1 r1 JR (And.intro SF (And.intro SM EO))
    (refine eX ?_);refine⟨AC.own hpj (.cons (.refl _) (.cons (.refl _) (.cons (.refl _) .nil))) ?_,AC.own hpj (.cons (.refl _) (.cons (.refl _) (.cons (.refl _) .nil))) ?_⟩
    ·intro m1 H1 r1 JR SF SM EO;obtain⟨q1,q2,q3⟩:=EO.1.slice;have dJ:=FE q2;have o8:H1 (nx+2)=some [.h (m+1+5+4+10) 0 1,.nl,.nl]:=(SM _ A0).trans J4;(try simp-dsimp-implicitDefEqProofs(maxSteps:=800000) (disch:=omega)only[go_sem,AU,vi,D7,q1,q2,q3,dJ,o8])
     exact key m1 H1 r1 JR (And.intro SF (And.intro SM EO))
    intro m1 H1 r1 JR SF SM EO;obtain⟨q1,q2,q3⟩:=EO.1.slice;have dJ:=FE q2;have o8:H1 (nx+2)=some [.h (m+1+5+4+10) 0 1,.nl,.nl]:=(SM _ A0).trans J4;(try simp-dsimp-implicitDefEqProofs(maxSteps:=800000) (disch:=omega)only[go_sem,AU,vi,D7,q1,q2,q3,dJ,o8])
    refine⟨?_,?_⟩<;>exact key m1 H1 r1 JR (And.intro SF (And.intro SM EO))
   intro m1 H1 r1 JR hC;obtain⟨SF,SM,EO⟩:=hC;obtain⟨q1,q2,q3⟩:=EO.1.slice;have dJ:=FE q2;have o8:H1 (nx+2)=some [.h (m+1+5+4+10) 0 1,.nl,.nl]:=(SM _ A0).trans J4;apply hN;refine MA ?_;refine A6 λN4 FD=>nE Dq ?_;refine AA<|BX (λG1 K6=>?_);dsimp only at K6
   have Cd:G1 (nx+2)=some [.h (m+1+5+4+10) 0 1,.h (m+1+5+4+13+16) 0 1,.nl]:=by rw[<-K6];simp(disch:=omega)only[AB,AD]
   have Mc:G1 (m+1+5+4+10)=some ([.i .i64 (U.getD d 0)]):=by rw[<-K6];simp(disch:=omega)only[AB,AD];rw[SM _ A0];simp(disch:=omega)only[AB,AD]
   have Ce:G1 (m+1+5+4+13+16)=some ([r1]):=by rw[<-K6];simp(disch:=omega)only[AB,AD]
   have A38:G1 nx=some [.nl,.nl,.nl]:=by rw[<-K6];simp(disch:=omega)only[AB];rw[SM _ A0];simp(disch:=omega)only[AB];exact hc4
   have Cf:Ow G1 r1 (ints (pJ (pc U pw cj) us d)) JR:=EO.1.BV (λi hi=>by have:=EO.2.2 i hi;rw[<-K6];exact D8);refine AM (α:=Nat×HP×Option Nat×List AV) (λx=>sl 93 [(0,AU U pw cj),(1,D7 U.length us),(4,.q nx 0),(5,.q (nx+2) 0),(6,.i .i64 U.length),(7,ints (oO U.length us)),(10,vi U.length (un d)),(11,oA x.2.2.1 x.1),(23,ints (oO U.length us)),(24,.i .i64 fr.length),(25,.i .i64 k),(66,.v (fr.length-(k+1)) (List.drop (k+1) ((oO U.length us).map (.i .i64)))),(67,.i .i64 ((fr.length-(k+1):Nat):Int)),(68,.i .i64 x.1)]) (λx=>x.2.1) (λx m=>(x.1<=fr.length-(k+1)/\m1<=m)/\(∀i,i<m1->x.2.1 i=G1 i)/\(x.2.2.1=none->x.1=0)/\(∀w,x.2.2.1=some w->gA m1 m w x.2.2.2 x.2.1 (((L8 (pc U pw cj) us k).map ints).take x.1)/\x.2.2.2.length=x.1)) (λx=>fr.length-(k+1)-x.1) ((0,G1,none,[])) ?_ ?_ (λ_ _ h=>h) ?_
   ·exact⟨⟨B5,AI⟩,λ_ _=>rfl,λ_=>rfl,B5⟩
   ·simp(disch:=omega) [EJ,EN,sl,AU,ints,rows,B6,D7,oA,Dq]<;>(repeat' apply And.intro)<;>first|omega|exact .inr rfl|(rw[AJ (by simp[Dq])])
   rintro⟨j,H2,(_|w),zs2⟩ m2 ⟨⟨hj,Q8⟩,PF,lG,Za⟩
   ·refine BH ?_;dsimp only[oA]at hj Q8 PF lG Za ⊢;have hj0:=lG rfl;refine MA ?_;refine A6 λN5 ID=>AK ?_ ?_<;>intro h2
    ·obtain⟨e,he⟩:=EK (fr.getD (k+1+j) 0);obtain⟨zI,iK⟩:=z6 (k+1+j) A0;have bQ:=hce k j A0;rw[he]at zI iK;rw[he,hd]at bQ;have Ha:T (pc U pw cj) 0 (un e):=(ZC hv iK).1.mono hv (AE e);have vG:cC prog 131 [AU U pw cj,D7 U.length us,vi U.length (PI (pc U pw cj) (un e) (un d))] (ints (mV (pc U pw cj) us d e)):=LO U pw cj h hc us MC _ (MB hv hc Ha l9).1;have vH:=KW k;have jX:=vF (L:=(L8 (pc U pw cj) us k).map ints) (k:=j) (by rw[A4];omega) bQ;apply AF;apply ID;refine A6 λN6 OR=>AA<|nE zI ?_;refine QX ?_;refine W5 (FG U.length e A0 A0) ?_
     refine W5 ((FU U pw cj h 0 hc (un e) (un d) Ha l9).pure) ?_
     refine AC.own vG (.cons (.refl _) (.cons (.refl _) (.cons (.refl _) .nil))) ?_;intro m3 H3 r3 A2O U5 Ds IB;obtain⟨u1,u2,u3⟩:=IB.1.slice;have hr4:=FE u2;(try simp-dsimp-implicitDefEqProofs(maxSteps:=800000) (disch:=omega)only[go_sem,AU,vi,D7,u1,u2,u3,hr4])
     apply OR;refine BX (λG3 J6=>?_);dsimp only at J6;refine QX ?_;refine BB (j+1,G3,some (m2+1+3+11),[r3]) ?_ ?_ ?_
     ·exact GD
     ·refine⟨⟨AI,AI⟩,λi hi=>?_,B5,λw' Yv=>?_⟩
      ·dsimp only;rw[<-J6];simp(disch:=omega)only[AB];rw[Ds i A0];exact PF i hi
      cases Yv
      refine⟨?_,by simp;omega⟩;dsimp only;rw[jX];rw[hj0,AS,C8];exact gA.AKV (m:=m2) (IB.1.BV (λi hi=>by have:=IB.2.2 i hi;rw[<-J6];exact D8)) IB.2.1 (λi hi=>by have:=IB.2.2 i hi;omega) (by rw[<-J6];exact J4) A0 A0 (λhi=>by have:=IB.2.2 _ hi;omega) A0
     exact AI
    have hje:j=fr.length-(k+1):=A0;have vH:=KW k;have wV:H2 (nx+2)=some [.h (m+1+5+4+10) 0 1,.h (m+1+5+4+13+16) 0 1,.nl]:=(PF _ A0).trans Cd;have Xn:=wV;have RJ:(∀q∈ [AV.nl],one q=true)=True:=FE rfl;apply AO;apply FD;apply rQ;simp-dsimp-implicitDefEqProofs(maxSteps:=800000) (disch:=omega)only[go_sem,B2,AU,vi,D7,wV,Xn,YD,RJ];apply DO;refine BX (λG5 KK=>?_);dsimp only at KK;refine QX ?_;refine BB (k+1,G5,(m+1+5+4+10,m+1+5+4+13+16,m2+1+4),([.i .i64 (U.getD d 0)],[r1],[.nl])) ?_ ?_ ?_
    ·exact GD
    ·refine⟨⟨AI,AI⟩,?_,.inr ⟨A0,?_,?_,?_,?_,?_⟩⟩
     ·dsimp only;rw[<-KK];simp(disch:=omega)only[AB];rw[PF _ A0];exact A38
     ·dsimp only;rw[<-KK];simp(disch:=omega)only[AB,AD];rw[VW]
     ·dsimp only;rw[vF (by rw[Xx];exact P5) (hoG k P5),vF (by rw[hpL];exact P5) (hpG k P5),vF (by rw[Xw];exact P5) (hcG k P5),hd];rw[VW,AS,AS,AS,C8,C8,C8,<-VW];refine Je.first (m:=m) (Cf.BV (λi hi=>by have:=EO.2.2 i hi;rw[<-KK];simp(disch:=omega)only[AB];exact PF i A0)) (show Ow G5 .nl (rows (L8 (pc U pw cj) us k)) []from by
       rw[AX.1 (show(L8 (pc U pw cj) us k).length=0 by omega)];exact .nl) ?_ ?_ A0 ?_ ?_ ?_
      ·simp only[C1,BJ,AG,not_or,BA,C5];have n1:=EO.2.1;have n2:=λi hi=>EO.2.2 i hi
       grind
      ·intro i hi;simp only[BJ,AG,C5,OU,or_false]at hi;have n2:=λi hi=>EO.2.2 i hi
       grind
      ·rw[<-KK];simp(disch:=omega)only[AB];rw[PF _ A0];exact Mc
      ·rw[<-KK];simp(disch:=omega)only[AB];rw[PF _ A0];exact Ce
      rw[<-KK];simp(disch:=omega)only[AB,AD]
     ·rw[VW];rfl
     ·rw[VW];rfl
     rw[VW];rfl
    exact AI
   refine BH ?_;dsimp only[oA]at hj Q8 PF lG Za ⊢;obtain⟨Wp,hzl⟩:=Za w rfl;have hzw:=Wp.at';have oE:=Wp.lo;have hwh:=Wp.hi;refine MA ?_;refine A6 λN7 S6=>AK ?_ ?_<;>intro h3
   ·obtain⟨e,he⟩:=EK (fr.getD (k+1+j) 0);obtain⟨zI,iK⟩:=z6 (k+1+j) A0;have bQ:=hce k j A0;rw[he]at zI iK;rw[he,hd]at bQ;have Ha:T (pc U pw cj) 0 (un e):=(ZC hv iK).1.mono hv (AE e);have vG:cC prog 131 [AU U pw cj,D7 U.length us,vi U.length (PI (pc U pw cj) (un e) (un d))] (ints (mV (pc U pw cj) us d e)):=LO U pw cj h hc us MC _ (MB hv hc Ha l9).1;have vH:=KW k;have jX:=vF (L:=(L8 (pc U pw cj) us k).map ints) (k:=j) (by rw[A4];omega) bQ;apply AF;apply S6;refine A6 λN8 VK=>AA<|nE zI ?_;refine QX ?_;refine W5 (FG U.length e A0 A0) ?_
    refine W5 ((FU U pw cj h 0 hc (un e) (un d) Ha l9).pure) ?_
    refine AC.own vG (.cons (.refl _) (.cons (.refl _) (.cons (.refl _) .nil))) ?_;intro m3 H3 r3 A2O U5 Ds IB;obtain⟨u1,u2,u3⟩:=IB.1.slice;have hr4:=FE u2;have hw3:H3 w=some zs2:=(Ds w A0).trans hzw;(try simp-dsimp-implicitDefEqProofs(maxSteps:=800000) (disch:=omega)only[go_sem,B2,AU,vi,D7,u1,u2,u3,hr4,hw3,hzl])
    apply VK;refine BX (λG3 J6=>?_);dsimp only at J6;refine QX ?_;refine BB (j+1,G3,some (m2+1+3+11),zs2++[r3]) ?_ ?_ ?_
    ·exact GD
    ·refine⟨⟨AI,AI⟩,λi hi=>?_,B5,λw' Yv=>?_⟩
     ·dsimp only;rw[<-J6];simp(disch:=omega)only[AB];rw[Ds i A0];exact PF i hi
     cases Yv
     refine⟨?_,by simp;omega⟩;dsimp only;rw[jX];exact gA.A9Z Wp (IB.1.BV (λi hi=>by have:=IB.2.2 i hi;rw[<-J6];exact D8)) IB.2.1 (λi hi=>by have:=IB.2.2 i hi;omega) (λi j1 j2 j3=>by rw[<-J6];simp(disch:=omega)only[AB];exact Ds i A0) (by rw[<-J6];simp(disch:=omega)only[AB,AD];rw[AJ (SD hzl)]) A0 A0 (λhi=>by have:=IB.2.2 _ hi;omega)
    exact AI
   have hje:j=fr.length-(k+1):=A0;have vH:=KW k;have wV:H2 (nx+2)=some [.h (m+1+5+4+10) 0 1,.h (m+1+5+4+13+16) 0 1,.nl]:=(PF _ A0).trans Cd;have Xn:=wV;rw[AJ (by rw[A4];omega)]at Wp;obtain⟨ZU,A6P,hnL,hbL⟩:=Wp.own (n:=j) hzl.symm;have RJ:(∀q∈ [AV.h w 0 j],one q=true)=True:=FE rfl;apply AO;apply FD;apply rQ;simp-dsimp-implicitDefEqProofs(maxSteps:=800000) (disch:=omega)only[go_sem,B2,AU,vi,D7,wV,Xn,YD,RJ];apply DO;refine BX (λG5 KK=>?_);dsimp only at KK;refine QX ?_;refine BB (k+1,G5,(m+1+5+4+10,m+1+5+4+13+16,m2+1+4),([.i .i64 (U.getD d 0)],[r1],[.h w 0 j])) ?_ ?_ ?_
   ·exact GD
   ·refine⟨⟨AI,AI⟩,?_,.inr ⟨A0,?_,?_,?_,?_,?_⟩⟩
    ·dsimp only;rw[<-KK];simp(disch:=omega)only[AB];rw[PF _ A0];exact A38
    ·dsimp only;rw[<-KK];simp(disch:=omega)only[AB,AD];rw[VW]
    ·dsimp only;rw[vF (by rw[Xx];exact P5) (hoG k P5),vF (by rw[hpL];exact P5) (hpG k P5),vF (by rw[Xw];exact P5) (hcG k P5),hd];have ht0:∀{α:Type} (l:List α),List.take k l=[]:=λl=>by rw[VW];exact AS
     rw[ht0,ht0,ht0,C8,C8,C8];refine Je.first (m:=m) (Cf.BV (λi hi=>by have:=EO.2.2 i hi;rw[<-KK];simp(disch:=omega)only[AB];exact PF i A0)) (show Ow G5 (.h w 0 j) (rows (L8 (pc U pw cj) us k)) ZU from by
      have e9:rows (L8 (pc U pw cj) us k)= .v ((L8 (pc U pw cj) us k).map ints).length ((L8 (pc U pw cj) us k).map ints):=by unfold rows;rw[A4]
      rw[e9];exact A6P.BV (λi hi=>by have:=hbL i hi;rw[<-KK];exact D8)) ?_ ?_ A0 ?_ ?_ ?_
     ·simp only[C1,BJ,AG,not_or,BA];have n1:=EO.2.1;have n2:=λi hi=>EO.2.2 i hi
      have n3:=hnL;have n4:=λi hi=>hbL i hi
      grind
     ·intro i hi;simp only[BJ,AG]at hi;have n2:=λi hi=>EO.2.2 i hi
      have n4:=λi hi=>hbL i hi
      grind
     ·rw[<-KK];simp(disch:=omega)only[AB];rw[PF _ A0];exact Mc
     ·rw[<-KK];simp(disch:=omega)only[AB];rw[PF _ A0];exact Ce
     rw[<-KK];simp(disch:=omega)only[AB,AD]
    ·rw[VW];rfl
    ·rw[VW];rfl
    rw[VW];rfl
   exact AI
  apply AO;apply CW;refine sQ λN hN=>?_;simp-dsimp-implicitDefEqProofs(maxSteps:=800000) (disch:=omega)only[go_sem,FR,AU,vi,D7,hcF,hc4];apply hN;refine BQ ?_;have hz:fr.length=0:=A0
  have e1:TF U us=[]:=AX.1 (by rw[A4]at Xx;omega);have e2:WA (pc U pw cj) us=[]:=AX.1 (by rw[A4]at hpL;omega);have e3:U8 (pc U pw cj) us=[]:=AX.1 (by rw[A4]at Xw;omega);rw[e1,e2,e3];exact⟨_,.g _ _ _ (.cons _ _ _ _ _ _ .nl (.cons _ _ _ _ _ _ .nl (.cons _ _ _ _ _ _ .nl .nil))),B5,B5⟩
 refine BH ?_;try dsimp only
 obtain⟨⟨bx1,bx2⟩,⟨by1,by2⟩,⟨bz1,bz2⟩,nxy,nxz,nyz⟩:=hR.bd
 have hx:=hR.hx
 have hy:=hR.hy
 have hz:=hR.hz
 refine MA ?_;refine A6 λN9 ZW=>AK ?_ ?_<;>intro h4
 ·have P5:k<fr.length:=A0;obtain⟨d,hd⟩:=EK (fr.getD k 0);obtain⟨Jf,cB⟩:=z6 k P5;rw[hd]at Jf cB;have Pg:=FQ (h.2.1 d cB);have l9:T (pc U pw cj) 0 (un d):=(ZC hv cB).1.mono hv (AE d);have o0:=NL h 0 hc (un d) l9 (U.getD d 0) A0 A0;rw[Ay A0]at o0;have hpj:cC prog 131 [AU U pw cj,D7 U.length us,vi U.length (T6 (pc U pw cj) (un d) (U.getD d 0))] (ints (pJ (pc U pw cj) us d)):=LO U pw cj h hc us MC _ (eU hv hc l9 _);apply AF;apply ZW;refine A6 λPf R9=>AA<|Kx Jf ?_;refine Pt (FG U.length d A0 A0) ?_;refine A6 λN hN=>C9 AY AP 10 AP ?_
  refine A10 hcF hx UC ?_;apply hN;refine A6 λN hN=>?_;apply mk4 (N:=N)
  ·intro key;refine K5 AY AP [true,false,true,true,true,true,true,true,true,true,true,true,true,false,false,false,false,true,false] (.br 1 (.br 13 (.br 14 (.br 15 (.br 16 (.br 18 .nil .nil) .nil) .nil) .nil) .nil) (.br 13 (.br 1 (.br 14 (.br 15 (.br 16 (.br 18 .nil .nil) .nil) .nil) .nil) (.br 14 (.br 1 (.br 15 (.br 16 (.br 18 .nil .nil) .nil) .nil) (.br 15 (.br 1 (.br 16 (.br 18 .nil .nil) .nil) .nil) .nil)) .nil)) .nil)) AP ?_;(try simp-dsimp-implicitDefEqProofs(maxSteps:=800000) (disch:=omega)only[go_sem,CB,ints,AU,vi,D7]);refine⟨AC.pure (.of (o0)) ?_,AC.pure (.of (o0)) ?_⟩
   ·(refine eX ?_);refine AC.own hpj (.cons (.refl _) (.cons (.refl _) (.cons (.refl _) .nil))) ?_;intro m1 H1 r1 JR SF SM EO;obtain⟨q1,q2,q3⟩:=EO.1.slice;have dJ:=FE q2;have o8:H1 (nx+2)=some [.h (m+1+5+4+10) 0 (k+1),.h y 0 k,.h z 0 k]:=(SM _ A0).trans J4;have Xr:H1 y=some ys:=(SM _ A0).trans (by simp(disch:=omega)only[AB,AD];exact hy);(try simp-dsimp-implicitDefEqProofs(maxSteps:=800000) (disch:=omega)only[go_sem,B2,AU,vi,D7,q1,q2,q3,dJ,o8,Xr,WV])
    exact key m1 H1 r1 JR (And.intro SF (And.intro SM EO))
   refine eX ?_
   refine⟨AC.own hpj (.cons (.refl _) (.cons (.refl _) (.cons (.refl _) .nil))) ?_,AC.own hpj (.cons (.refl _) (.cons (.refl _) (.cons (.refl _) .nil))) ?_⟩
   ·intro m1 H1 r1 JR SF SM EO;obtain⟨q1,q2,q3⟩:=EO.1.slice;have dJ:=FE q2;have o8:H1 (nx+2)=some [.h (m+1+5+4+10) 0 (k+1),.h y 0 k,.h z 0 k]:=(SM _ A0).trans J4;have Xr:H1 y=some ys:=(SM _ A0).trans (by simp(disch:=omega)only[AB,AD];exact hy);(try simp-dsimp-implicitDefEqProofs(maxSteps:=800000) (disch:=omega)only[go_sem,B2,AU,vi,D7,q1,q2,q3,dJ,o8,Xr,WV])
    exact key m1 H1 r1 JR (And.intro SF (And.intro SM EO))
   intro m1 H1 r1 JR SF SM EO;obtain⟨q1,q2,q3⟩:=EO.1.slice;have dJ:=FE q2;have o8:H1 (nx+2)=some [.h (m+1+5+4+10) 0 (k+1),.h y 0 k,.h z 0 k]:=(SM _ A0).trans J4;have Xr:H1 y=some ys:=(SM _ A0).trans (by simp(disch:=omega)only[AB,AD];exact hy);(try simp-dsimp-implicitDefEqProofs(maxSteps:=800000) (disch:=omega)only[go_sem,B2,AU,vi,D7,q1,q2,q3,dJ,o8,Xr,WV])
   refine⟨?_,?_⟩<;>exact key m1 H1 r1 JR (And.intro SF (And.intro SM EO))
  intro m1 H1 r1 JR hC;obtain⟨SF,SM,EO⟩:=hC;obtain⟨q1,q2,q3⟩:=EO.1.slice;have dJ:=FE q2;have o8:H1 (nx+2)=some [.h (m+1+5+4+10) 0 (k+1),.h y 0 k,.h z 0 k]:=(SM _ A0).trans J4;have Xr:H1 y=some ys:=(SM _ A0).trans (by simp(disch:=omega)only[AB,AD];exact hy);apply hN;refine MA ?_;refine A6 λXo T3=>nE Dq ?_;refine AA<|BX (λG1 K6=>?_);dsimp only at K6
  have Cd:G1 (nx+2)=some [.h (m+1+5+4+10) 0 (k+1),.h (m+1+5+4+13+16) 0 (k+1),.h z 0 k]:=by rw[<-K6];simp(disch:=omega)only[AB,AD]
  have Mc:G1 (m+1+5+4+10)=some (xs++[.i .i64 (U.getD d 0)]):=by rw[<-K6];simp(disch:=omega)only[AB,AD];rw[SM _ A0];simp(disch:=omega)only[AB,AD];rw[AJ A0]
  have Ce:G1 (m+1+5+4+13+16)=some (ys++[r1]):=by rw[<-K6];simp(disch:=omega)only[AB,AD];rw[AJ A0]
  have A38:G1 nx=some [.nl,.nl,.nl]:=by rw[<-K6];simp(disch:=omega)only[AB];rw[SM _ A0];simp(disch:=omega)only[AB];exact hc4
  have Cf:Ow G1 r1 (ints (pJ (pc U pw cj) us d)) JR:=EO.1.BV (λi hi=>by have:=EO.2.2 i hi;rw[<-K6];exact D8);have Gl:G1 z=some zs:=by rw[<-K6];simp(disch:=omega)only[AB];rw[SM _ A0];simp(disch:=omega)only[AB];exact hz
  have A2N:∀i,nx+3<=i->i<m->i≠x->i≠y->G1 i=H i:=λi j1 j2 j3 j4=>by rw[<-K6];simp(disch:=omega)only[AB];rw[SM _ A0];simp(disch:=omega)only[AB]
  refine AM (α:=Nat×HP×Option Nat×List AV) (λx=>sl 93 [(0,AU U pw cj),(1,D7 U.length us),(4,.q nx 0),(5,.q (nx+2) 0),(6,.i .i64 U.length),(7,ints (oO U.length us)),(10,vi U.length (un d)),(11,oA x.2.2.1 x.1),(23,ints (oO U.length us)),(24,.i .i64 fr.length),(25,.i .i64 k),(66,.v (fr.length-(k+1)) (List.drop (k+1) ((oO U.length us).map (.i .i64)))),(67,.i .i64 ((fr.length-(k+1):Nat):Int)),(68,.i .i64 x.1)]) (λx=>x.2.1) (λx m=>(x.1<=fr.length-(k+1)/\m1<=m)/\(∀i,i<m1->x.2.1 i=G1 i)/\(x.2.2.1=none->x.1=0)/\(∀w,x.2.2.1=some w->gA m1 m w x.2.2.2 x.2.1 (((L8 (pc U pw cj) us k).map ints).take x.1)/\x.2.2.2.length=x.1)) (λx=>fr.length-(k+1)-x.1) ((0,G1,none,[])) ?_ ?_ (λ_ _ h=>h) ?_
  ·exact⟨⟨B5,AI⟩,λ_ _=>rfl,λ_=>rfl,B5⟩
  ·simp(disch:=omega) [EJ,EN,sl,AU,ints,rows,B6,D7,oA,Dq]<;>(repeat' apply And.intro)<;>first|omega|exact .inr rfl|(rw[AJ (by simp[Dq])])
  rintro⟨j,H2,(_|w),zs2⟩ m2 ⟨⟨hj,Q8⟩,PF,lG,Za⟩
  ·refine BH ?_;dsimp only[oA]at hj Q8 PF lG Za ⊢;have hj0:=lG rfl;refine MA ?_;refine A6 λN12 ZL=>AK ?_ ?_<;>intro h5
   ·obtain⟨e,he⟩:=EK (fr.getD (k+1+j) 0);obtain⟨zI,iK⟩:=z6 (k+1+j) A0;have bQ:=hce k j A0;rw[he]at zI iK;rw[he,hd]at bQ;have Ha:T (pc U pw cj) 0 (un e):=(ZC hv iK).1.mono hv (AE e);have vG:cC prog 131 [AU U pw cj,D7 U.length us,vi U.length (PI (pc U pw cj) (un e) (un d))] (ints (mV (pc U pw cj) us d e)):=LO U pw cj h hc us MC _ (MB hv hc Ha l9).1;have vH:=KW k;have jX:=vF (L:=(L8 (pc U pw cj) us k).map ints) (k:=j) (by rw[A4];omega) bQ;apply AF;apply ZL;refine A6 λN13 dF=>AA<|nE zI ?_;refine QX ?_;refine W5 (FG U.length e A0 A0) ?_
    refine W5 ((FU U pw cj h 0 hc (un e) (un d) Ha l9).pure) ?_
    refine AC.own vG (.cons (.refl _) (.cons (.refl _) (.cons (.refl _) .nil))) ?_;intro m3 H3 r3 A2O U5 Ds IB;obtain⟨u1,u2,u3⟩:=IB.1.slice;have hr4:=FE u2;(try simp-dsimp-implicitDefEqProofs(maxSteps:=800000) (disch:=omega)only[go_sem,AU,vi,D7,u1,u2,u3,hr4])
    apply dF;refine BX (λG3 J6=>?_);dsimp only at J6;refine QX ?_;refine BB (j+1,G3,some (m2+1+3+11),[r3]) ?_ ?_ ?_
    ·exact GD
    ·refine⟨⟨AI,AI⟩,λi hi=>?_,B5,λw' Yv=>?_⟩
     ·dsimp only;rw[<-J6];simp(disch:=omega)only[AB];rw[Ds i A0];exact PF i hi
     cases Yv
     refine⟨?_,by simp;omega⟩;dsimp only;rw[jX];rw[hj0,AS,C8];exact gA.AKV (m:=m2) (IB.1.BV (λi hi=>by have:=IB.2.2 i hi;rw[<-J6];exact D8)) IB.2.1 (λi hi=>by have:=IB.2.2 i hi;omega) (by rw[<-J6];exact J4) A0 A0 (λhi=>by have:=IB.2.2 _ hi;omega) A0
    exact AI
   have hje:j=fr.length-(k+1):=A0;have vH:=KW k;have wV:H2 (nx+2)=some [.h (m+1+5+4+10) 0 (k+1),.h (m+1+5+4+13+16) 0 (k+1),.h z 0 k]:=(PF _ A0).trans Cd;have Xn:H2 z=some zs:=(PF _ A0).trans Gl;have RJ:(∀q∈ [AV.nl],one q=true)=True:=FE rfl;apply AO;apply T3;apply rQ;simp-dsimp-implicitDefEqProofs(maxSteps:=800000) (disch:=omega)only[go_sem,B2,AU,vi,D7,wV,Xn,YD,RJ];apply R9;refine BX (λG5 KK=>?_);dsimp only at KK;refine QX ?_;refine BB (k+1,G5,(m+1+5+4+10,m+1+5+4+13+16,m2+1+4),(xs++[.i .i64 (U.getD d 0)],ys++[r1],zs++[.nl])) ?_ ?_ ?_
   ·exact GD
   ·refine⟨⟨AI,AI⟩,?_,.inr ⟨A0,?_,?_,?_,?_,?_⟩⟩
    ·dsimp only;rw[<-KK];simp(disch:=omega)only[AB];rw[PF _ A0];exact A38
    ·dsimp only;rw[<-KK];simp(disch:=omega)only[AB,AD]
    ·dsimp only;rw[vF (by rw[Xx];exact P5) (hoG k P5),vF (by rw[hpL];exact P5) (hpG k P5),vF (by rw[Xw];exact P5) (hcG k P5),hd];refine Je.next hR (Cf.BV (λi hi=>by have:=EO.2.2 i hi;rw[<-KK];simp(disch:=omega)only[AB];exact PF i A0)) (show Ow G5 .nl (rows (L8 (pc U pw cj) us k)) []from by
      rw[AX.1 (show(L8 (pc U pw cj) us k).length=0 by omega)];exact .nl) ?_ ?_ A0 A0 ?_ ?_ ?_ ?_
     ·simp only[C1,BJ,AG,not_or,BA,C5];have n1:=EO.2.1;have n2:=λi hi=>EO.2.2 i hi
      grind
     ·intro i hi;simp only[BJ,AG,C5,OU,or_false]at hi;have n2:=λi hi=>EO.2.2 i hi
      grind
     ·rw[<-KK];simp(disch:=omega)only[AB];rw[PF _ A0];exact Mc
     ·rw[<-KK];simp(disch:=omega)only[AB];rw[PF _ A0];exact Ce
     ·rw[<-KK];simp(disch:=omega)only[AB,AD];rw[AJ A0]
     intro i j1 j2 j3 j4 j5;rw[<-KK];simp(disch:=omega)only[AB];rw[PF _ A0];exact A2N i j1 j2 j3 j4
    ·simp[UC]
    ·simp[WV]
    simp[YD]
   exact AI
  refine BH ?_;dsimp only[oA]at hj Q8 PF lG Za ⊢;obtain⟨Wp,hzl⟩:=Za w rfl;have hzw:=Wp.at';have oE:=Wp.lo;have hwh:=Wp.hi;refine MA ?_;refine A6 λN14 p5=>AK ?_ ?_<;>intro h6
  ·obtain⟨e,he⟩:=EK (fr.getD (k+1+j) 0);obtain⟨zI,iK⟩:=z6 (k+1+j) A0;have bQ:=hce k j A0;rw[he]at zI iK;rw[he,hd]at bQ;have Ha:T (pc U pw cj) 0 (un e):=(ZC hv iK).1.mono hv (AE e);have vG:cC prog 131 [AU U pw cj,D7 U.length us,vi U.length (PI (pc U pw cj) (un e) (un d))] (ints (mV (pc U pw cj) us d e)):=LO U pw cj h hc us MC _ (MB hv hc Ha l9).1;have vH:=KW k;have jX:=vF (L:=(L8 (pc U pw cj) us k).map ints) (k:=j) (by rw[A4];omega) bQ;apply AF;apply p5;refine A6 λN15 Ac=>AA<|nE zI ?_;refine QX ?_;refine W5 (FG U.length e A0 A0) ?_
   refine W5 ((FU U pw cj h 0 hc (un e) (un d) Ha l9).pure) ?_
   refine AC.own vG (.cons (.refl _) (.cons (.refl _) (.cons (.refl _) .nil))) ?_;intro m3 H3 r3 A2O U5 Ds IB;obtain⟨u1,u2,u3⟩:=IB.1.slice;have hr4:=FE u2;have hw3:H3 w=some zs2:=(Ds w A0).trans hzw;(try simp-dsimp-implicitDefEqProofs(maxSteps:=800000) (disch:=omega)only[go_sem,B2,AU,vi,D7,u1,u2,u3,hr4,hw3,hzl])
   apply Ac;refine BX (λG3 J6=>?_);dsimp only at J6;refine QX ?_;refine BB (j+1,G3,some (m2+1+3+11),zs2++[r3]) ?_ ?_ ?_
   ·exact GD
   ·refine⟨⟨AI,AI⟩,λi hi=>?_,B5,λw' Yv=>?_⟩
    ·dsimp only;rw[<-J6];simp(disch:=omega)only[AB];rw[Ds i A0];exact PF i hi
    cases Yv
    refine⟨?_,by simp;omega⟩;dsimp only;rw[jX];exact gA.A9Z Wp (IB.1.BV (λi hi=>by have:=IB.2.2 i hi;rw[<-J6];exact D8)) IB.2.1 (λi hi=>by have:=IB.2.2 i hi;omega) (λi j1 j2 j3=>by rw[<-J6];simp(disch:=omega)only[AB];exact Ds i A0) (by rw[<-J6];simp(disch:=omega)only[AB,AD];rw[AJ (SD hzl)]) A0 A0 (λhi=>by have:=IB.2.2 _ hi;omega)
   exact AI
  have hje:j=fr.length-(k+1):=A0;have vH:=KW k;have wV:H2 (nx+2)=some [.h (m+1+5+4+10) 0 (k+1),.h (m+1+5+4+13+16) 0 (k+1),.h z 0 k]:=(PF _ A0).trans Cd;have Xn:H2 z=some zs:=(PF _ A0).trans Gl;rw[AJ (by rw[A4];omega)]at Wp;obtain⟨ZU,A6P,hnL,hbL⟩:=Wp.own (n:=j) hzl.symm;have RJ:(∀q∈ [AV.h w 0 j],one q=true)=True:=FE rfl;apply AO;apply T3;apply rQ;simp-dsimp-implicitDefEqProofs(maxSteps:=800000) (disch:=omega)only[go_sem,B2,AU,vi,D7,wV,Xn,YD,RJ];apply R9;refine BX (λG5 KK=>?_);dsimp only at KK;refine QX ?_;refine BB (k+1,G5,(m+1+5+4+10,m+1+5+4+13+16,m2+1+4),(xs++[.i .i64 (U.getD d 0)],ys++[r1],zs++[.h w 0 j])) ?_ ?_ ?_
  ·exact GD
  ·refine⟨⟨AI,AI⟩,?_,.inr ⟨A0,?_,?_,?_,?_,?_⟩⟩
   ·dsimp only;rw[<-KK];simp(disch:=omega)only[AB];rw[PF _ A0];exact A38
   ·dsimp only;rw[<-KK];simp(disch:=omega)only[AB,AD]
   ·dsimp only;rw[vF (by rw[Xx];exact P5) (hoG k P5),vF (by rw[hpL];exact P5) (hpG k P5),vF (by rw[Xw];exact P5) (hcG k P5),hd];refine Je.next hR (Cf.BV (λi hi=>by have:=EO.2.2 i hi;rw[<-KK];simp(disch:=omega)only[AB];exact PF i A0)) (show Ow G5 (.h w 0 j) (rows (L8 (pc U pw cj) us k)) ZU from by
     have e9:rows (L8 (pc U pw cj) us k)= .v ((L8 (pc U pw cj) us k).map ints).length ((L8 (pc U pw cj) us k).map ints):=by unfold rows;rw[A4]
     rw[e9];exact A6P.BV (λi hi=>by have:=hbL i hi;rw[<-KK];exact D8)) ?_ ?_ A0 A0 ?_ ?_ ?_ ?_
    ·simp only[C1,BJ,AG,not_or,BA];have n1:=EO.2.1;have n2:=λi hi=>EO.2.2 i hi
     have n3:=hnL;have n4:=λi hi=>hbL i hi
     grind
    ·intro i hi;simp only[BJ,AG]at hi;have n2:=λi hi=>EO.2.2 i hi
     have n4:=λi hi=>hbL i hi
     grind
    ·rw[<-KK];simp(disch:=omega)only[AB];rw[PF _ A0];exact Mc
    ·rw[<-KK];simp(disch:=omega)only[AB];rw[PF _ A0];exact Ce
    ·rw[<-KK];simp(disch:=omega)only[AB,AD];rw[AJ A0]
    intro i j1 j2 j3 j4 j5;rw[<-KK];simp(disch:=omega)only[AB];rw[PF _ A0];exact A2N i j1 j2 j3 j4
   ·simp[UC]
   ·simp[WV]
   simp[YD]
  exact AI
 apply AO;apply CW;refine sQ λN hN=>?_;simp-dsimp-implicitDefEqProofs(maxSteps:=800000) (disch:=omega)only[go_sem,FR,AU,vi,D7,hcF,hc4];apply hN;refine BQ ?_;have v7:k=fr.length:=A0
 obtain⟨ids,ho⟩:=hR.own
 rw[UC,WV,YD,AJ A0,AJ A0,AJ A0]at ho
 have e:CI (TF U us) (WA (pc U pw cj) us) (U8 (pc U pw cj) us)= .g [.v ((TF U us).map (AV.i .i64)).length ((TF U us).map (AV.i .i64)),.v ((WA (pc U pw cj) us).map ints).length ((WA (pc U pw cj) us).map ints),.v ((U8 (pc U pw cj) us).map rows).length ((U8 (pc U pw cj) us).map rows)]:=by
  unfold CI B6;rw[A4,A4,A4];rfl
 rw[e]
 exact⟨ids,ho.BV (λi _ _=>by exact D8) A0 A0⟩
end
end
end Go.Proofs.YtgknbnkmilddhaaGreat