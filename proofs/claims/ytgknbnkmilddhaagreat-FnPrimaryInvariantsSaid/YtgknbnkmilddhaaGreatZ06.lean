import Derived.Test.YtgknbnkmilddhaaGreatZ04
import Derived.Test.YtgknbnkmilddhaaGreatZ05
set_option linter.all false

open Go.Proofs.Tryz
namespace Go.Proofs.YtgknbnkmilddhaaGreat
def CI(U:C2)(pw:D4)(cj:E6):AV:= .g [ints U,rows pw,B6 cj]
def AU(U:C2)(pw:D4)(cj:E6):AV:= .p 0 [ints U,rows pw,B6 cj]
def Pb(U v:C2)(z:Int):Prop:=v.length=U.length/\∀k,k<v.length->(0<=v.getD k 0/\v.getD k 0<=U.getD k 0-1)/\((k:Int)<=z->v.getD k 0=0)
def lvP(U:C2)(pw:D4)(cj:E6)(i:Nat):Prop:=
 Pb U (pw.getD i []) i/\(cj.getD i []).length+1+i=U.length/\∀k,k<(cj.getD i []).length->Pb U ((cj.getD i []).getD k []) i
def PC(U:C2):Nat->Int
 |0=>1
 |k+1=>PC U k*U.getD k 0
def BW(U:C2)(pw:D4)(cj:E6):Prop:=
 (U.length<=6/\pw.length=U.length/\cj.length=U.length)/\(∀i,i<U.length->O8 (U.getD i 0))/\PC U U.length<=729/\∀i,i<U.length->lvP U pw cj i
def XE(U:C2):Nat->Int
 |0=>1
 |k+1=>if XE U k<=729 then XE U k*U.getD k 0 else XE U k
def sV{a b:Int}{A B:Int}(ha:1<=a)(dY:a<=A)(hb:1<=b)(Ij:b<=B):1<=a*b/\a*b<=A*B/\a<=a*b:=by
 have h1:1*1<=a*b:=GB ha hb A0 A0;have h2:a*b<=A*B:=GB dY Ij A0 A0;have h3:a*1<=a*b:=GB (GG _) hb A0 A0;omega
def qU{U}(h:∀i,i<U.length->O8 (U.getD i 0)):∀k,k<=U.length->(1<=XE U k/\XE U k<=5103)/\((XE U k<=729/\XE U k=PC U k)\/(729<XE U k/\729<PC U k)):=by
 intro k;induction k with
 |zero=>intro _;simp[XE,PC]
 | succ k ih=>
   intro hk;obtain⟨⟨h1,h2⟩,h3⟩:=ih A0;have h4:=FQ (h k A0);simp only[XE,PC];split
   ·rename_i hs;have h5:=sV h1 hs (show 1<=U.getD k 0 by omega) (show U.getD k 0<=7 by omega);rcases h3 with h3|h3
    ·rw[<-h3.2];refine⟨A0,?_⟩;omega
    omega
   rename_i hs;rcases h3 with h3|h3
   ·omega
   have h6:1<=PC U k:=A0;have h7:=sV h6 (GG _) (show 1<=U.getD k 0 by omega) (show U.getD k 0<=7 by omega);refine⟨A0,.inr ⟨A0,A0⟩⟩
def YJ{U}(h:∀i,i<U.length->O8 (U.getD i 0)):∀k,k<=U.length->1<=PC U k:=by
 intro k hk;have:=qU h k hk;omega
def sW{U}(h:∀i,i<U.length->O8 (U.getD i 0)){k}:∀d,k+d<=U.length->PC U k<=PC U (k+d):=by
 intro d;induction d with
 |zero=>intro _;exact GG _
 | succ d ih=>
   intro hd;have h1:=ih A0;have h2:=FQ (h (k+d) A0);have h3:=YJ h (k+d) A0;have h4:=sV h3 (GG _) (show 1<=U.getD (k+d) 0 by omega) (show U.getD (k+d) 0<=7 by omega);show PC U k<=PC U (k+d)*U.getD (k+d) 0
   omega
def T2(U v z)(ho:U.length<=1048576)(sX:∀k,k<U.length->0<=U.getD k 0/\U.getD k 0<=1000)(hv:v.length<=1048576):DZ prog 165 [ints U,ints v,.i .i64 z] (.b (tf (Pb U v z))):=by
 refine BI AY func165 rfl AP ntmps165 results165 (.b _) (λnx cX=>?_)
 refine EU ?_;refine A6 λN1 CW=>EU ?_;refine AK ?_ ?_<;>intro h1
 ·refine EU ?_;refine BQ ?_;exact bt (JQ (λh=>h1 (by rw[h.1]))).symm
 apply AF;apply CW;refine A6 λN2 DN=>EU ?_;refine AA<|AM (α:=Nat) (λx=>sl 42 [(0,ints U),(1,ints v),(2,.i .i64 z),(7,.i .i64 x)]) (λ_=>DD) (λx m=>x<=v.length/\∀k,k<x->(0<=v.getD k 0/\v.getD k 0<=U.getD k 0-1)/\((k:Int)<=z->v.getD k 0=0)) (λx=>v.length-x) (0) ?_ ?_ (λ_ _ h=>h) ?_
 ·exact⟨A0,by intro j hj;omega⟩
 ·simp(disch:=omega) [EJ,EN,sl,DV,ints,rows,B6,ints,CB,DV]<;>omega
 rintro k m ⟨hk,hI⟩
 refine BH ?_;refine A6 λN3 DO=>EU ?_;refine AK ?_ ?_<;>intro h2
 ·have hkb:=sX k A0;apply AF;apply DO;refine A6 λN4 FD=>AA<|A6 λN hN=>?_;refine C9 AY AP 23 AP ?_
  refine Ka ?_;refine⟨_,.of (Q7 _ _ _),?_⟩;refine OX ?_
  refine J5.mk' (λh3=>?_) (λh3=>?_)
  ·try simp only[cn]at h3
   refine OX ?_
   refine J5.mk' (λh4=>?_) (λh4=>?_)
   ·(try simp only[cn]at h4);refine OX ?_
    apply hN;refine AK ?_ ?_<;>intro h5
    ·refine EU ?_;refine BQ ?_;exact bt (JQ (λh=>h5 ((h.2 k A0).2 h4))).symm
    apply AF;apply FD;refine LG ?_;refine BB (k+1) ?_ ?_ ?_
    ·simp(disch:=omega) [EJ,EN,sl,DV,ints,rows,B6,ints,CB,DV]<;>omega
    ·refine⟨A0,λj hj=>?_⟩;by_cases e:j=k
     ·subst e;exact⟨h3,λ_=>h5⟩
     exact hI j A0
    exact AI
   try simp only[cn]at h4
   refine OX ?_
   apply hN;refine DJ rfl ?_;apply AF;apply FD;refine LG ?_;refine BB (k+1) ?_ ?_ ?_
   ·simp(disch:=omega) [EJ,EN,sl,DV,ints,rows,B6,ints,CB,DV]<;>omega
   ·refine⟨A0,λj hj=>?_⟩;by_cases e:j=k
    ·subst e;exact⟨h3,λq=>absurd q A0⟩
    exact hI j A0
   exact AI
  try simp only[cn]at h3
  refine OX ?_
  apply hN;refine HU rfl ?_;refine EU ?_;refine BQ ?_;exact bt (JQ (λh=>h3 (h.2 k A0).1)).symm
 apply AO;apply DN;refine EU ?_;refine BQ ?_;exact bt (KU ⟨A0,λj hj=>hI j A0⟩).symm
def exP(U v:C2):Prop:=v.length=U.length/\∀k,k<v.length->0<=v.getD k 0/\v.getD k 0<=U.getD k 0-1
def Pe{U v:C2}{i:Nat}(hi:i<U.length):Pb U v i↔exP U v/\Er (v.take (i+1)):=by
 constructor
 ·intro h;refine⟨⟨h.1,λk hk=>(h.2 k hk).1⟩,λj hj=>?_⟩;have hl:=h.1;rw[B1]at hj;rw[getD_take _ _ A0];exact(h.2 j A0).2 A0
 rintro⟨h1,h2⟩;refine⟨h1.1,λk hk=>⟨h1.2 k hk,λq=>?_⟩⟩;have hl:=h1.1;have:=h2 k (by rw[B1];omega);rwa [getD_take _ _ A0]at this
def Z5{cX n ops y s s1 K}(q:AW cX prog y s1 K)(e:HA ops s s1:=by intro N hN;(try simp-dsimp-implicitDefEqProofs(disch:=omega)only[go_sem,B6,CB,ints,AU,rows]);exact hN):GZ cX n ops y s K:=HF q e
def TV(U pw cj v)(ho:U.length<=1048576)(sX:∀k,k<U.length->0<=U.getD k 0/\U.getD k 0<=1000)(hv:v.length<=1048576):DZ prog 101 [AU U pw cj,ints v] (.b (tf (exP U v))):=by
 refine BI AY func101 rfl AP ntmps101 results101 (.b _) (λnx cX=>?_)
 refine Z5 ?_;refine A6 λN1 CW=>Z5 ?_;refine AK ?_ ?_<;>intro h1
 ·refine Z5 ?_;refine BQ ?_;exact bt (JQ (λh=>h1 (by rw[h.1]))).symm
 apply AF;apply CW;refine A6 λN2 DN=>Z5 ?_;refine AA<|AM (α:=Nat) (λx=>sl 34 [(0,AU U pw cj),(15,ints v),(16,.i .i64 v.length),(17,.i .i64 x)]) (λ_=>DD) (λx m=>x<=v.length/\∀k,k<x->0<=v.getD k 0/\v.getD k 0<=U.getD k 0-1) (λx=>v.length-x) (0) ?_ ?_ (λ_ _ h=>h) ?_
 ·exact⟨A0,by intro j hj;omega⟩
 ·simp(disch:=omega) [EJ,EN,sl,DV,ints,rows,B6,AU,ints,rows,B6,CB,DV]<;>omega
 rintro k m ⟨hk,hI⟩
 refine BH ?_;refine Z5 ?_;refine A6 λN3 DO=>AK ?_ ?_<;>intro h2
 ·have hkb:=sX k A0;apply AF;apply DO;refine A6 λN4 FD=>AA<|Z5 ?_;refine sQ λN hN=>?_;simp-dsimp-implicitDefEqProofs(disch:=omega)only[go_sem,B6,CB,ints,AU,rows];refine AC.pure (.of (KV _ _ _)) ?_;(try simp-dsimp-implicitDefEqProofs(disch:=omega)only[go_sem,B6,CB,ints,AU,rows]);apply hN;refine AK ?_ ?_<;>intro h3
  ·refine Z5 ?_;refine BQ ?_;exact bt (JQ (λh=>h3 (h.2 k A0))).symm
  apply AF;apply FD;apply rQ;simp-dsimp-implicitDefEqProofs(disch:=omega)only[go_sem,B6,CB,ints,AU,rows];refine BB (k+1) ?_ ?_ ?_
  ·simp(disch:=omega) [EJ,EN,sl,DV,ints,rows,B6,AU,ints,rows,B6,CB,DV]<;>omega
  ·refine⟨A0,λj hj=>?_⟩;by_cases e:j=k
   ·subst e;exact h3
   exact hI j A0
  exact AI
 apply AO;apply DN;refine Z5 ?_;refine BQ ?_;exact bt (KU ⟨A0,λj hj=>hI j A0⟩).symm
def US(U:C2)(pw:D4)(cj:E6)(i:Nat)(hi:i<U.length)(v:C2)(ho:U.length<=1048576)(sX:∀k,k<U.length->0<=U.getD k 0/\U.getD k 0<=1000)(hv:v.length<=1048576):DZ prog 168 [AU U pw cj,.i .i64 i,ints v] (.b (tf (Pb U v i))):=by
 refine BI AY func168 rfl AP ntmps168 results168 (.b _) (λnx cX=>?_)
 refine EU ?_;refine sQ λN hN=>?_;refine OX ?_;refine AC.pure (.of (TV U pw cj v ho sX hv)) ?_;(try simp-dsimp-implicitDefEqProofs(disch:=omega)only[go_sem,ints])
 refine J5.mk' (λh1=>?_) (λh1=>?_)
 ·try simp only[cn]at h1
  refine OX ?_
  have hvl:=h1.1;refine⟨A0,?_⟩;rw[Vg _ A0];refine AC.pure (.of (aD (v.take (i+1)) (by simp;omega))) ?_;(try simp-dsimp-implicitDefEqProofs(disch:=omega)only[go_sem,ints])
  apply hN;refine BQ ?_;exact bt (oB (by rw[Pe hi];exact⟨λh=>⟨h1,h⟩,λh=>h.2⟩))
 try simp only[cn]at h1
 refine OX ?_
 apply hN;refine BQ ?_;exact bt (JQ (λh=>h1 ((Pe hi).1 h).1)).symm
def NK(U)(ho:U.length<=6)(hp:∀i,i<U.length->O8 (U.getD i 0)):DZ prog 95 [ints U] (.i .i64 (XE U U.length)):=by
 refine BI AY func95 rfl AP ntmps95 results95 (.i _ _) (λnx cX=>?_)
 refine EU ?_;refine EU ?_;refine A6 λN1 CW=>EU ?_;refine AA<|AM (α:=Nat) (λx=>sl 20 [(0,ints U),(3,.i .i64 (XE U x)),(4,.i .i64 x)]) (λ_=>DD) (λx m=>x<=U.length) (λx=>U.length-x) (0) ?_ ?_ (λ_ _ h=>h) ?_
 ·omega
 ·simp(disch:=omega) [EJ,EN,sl,ints,XE]
 rintro k m hk
 refine BH ?_;refine A6 λN2 DN=>EU ?_;refine AK ?_ ?_<;>intro h1
 ·have h5:=qU hp k A0;have h4:=FQ (hp k A0);apply AF;apply DN;refine A6 λN3 DO=>AA<|EU ?_;refine AK ?_ ?_<;>intro h2
  ·have h6:=sV h5.1.1 h2 (show 1<=U.getD k 0 by omega) (show U.getD k 0<=7 by omega);have h7:XE U (k+1)=XE U k*U.getD k 0:=by rw[XE,if_pos h2]
   refine LG ?_;apply DO;refine LG ?_;refine BB (k+1) ?_ ?_ ?_
   ·exact lM h7
   ·omega
   exact AI
  have h7:XE U (k+1)=XE U k:=by rw[XE,if_neg A0]
  apply AF;apply DO;refine LG ?_;refine BB (k+1) ?_ ?_ ?_
  ·exact lM h7
  ·omega
  exact AI
 apply AO;apply CW;refine EU ?_;refine BQ ?_;rw[show k=U.length by omega]
structure PR(U:C2)(pw:D4)(cj:E6):Prop where
 o:U.length<=1048576
 r:cD pw cj
def BW.ob{U:C2}{pw:D4}{cj:E6}(h:∀i,i<U.length->O8 (U.getD i 0)):∀k,k<U.length->0<=U.getD k 0/\U.getD k 0<=1000:=λk hk=>by have:=FQ (h k hk);omega
def ND{cX n ops y s s1 K}(q:AW cX prog y s1 K)(e:HA ops s s1:=by intro N hN;(try simp-dsimp-implicitDefEqProofs(disch:=omega)only[go_sem,B6,IK,CB,EY,ints,CI,rows]);exact hN):GZ cX n ops y s K:=HF q e
def MX{P Q:Prop}(q:Q)(e:Q->P:=by intro q;(try simp-dsimp-implicitDefEqProofs(disch:=omega)only[go_sem,B6,IK,CB,EY,ints,CI,rows]);exact q):P:=e q
def A0J{cX n ops y s s1 K f Zz r}(x:DZ prog f Zz r)(q:AW cX prog y s1 K)(e:DZ prog f Zz r->HA ops s s1:=by intro x N hN;(try simp-dsimp-implicitDefEqProofs(disch:=omega)only[go_sem,B6,IK,CB,EY,ints,CI,rows]);refine AC.pure (.of x) ?_;(try simp-dsimp-implicitDefEqProofs(disch:=omega)only[go_sem,B6,IK,CB,EY,ints,CI,rows]);exact hN):GZ cX n ops y s K:=HF q (e x)
def sZ{cX n ops s}{K:Exit->St->Prop}{Q:Prop}(q:Q)(e:Q->KO env prog ops s.nx ops 0 ⟨s.t,s.H,s.nx+ops.length⟩ (K .normal):=by intro q;(try simp-dsimp-implicitDefEqProofs(disch:=omega)only[go_sem,B6,IK,CB,EY,ints,CI,rows]);exact q):AW cX prog (.region n ops.toArray false) s K:=rQ (e q)
def A0K{P Q:Prop}(q:Q)(e:Q->P:=by intro q;(try simp-dsimp-implicitDefEqProofs(disch:=omega)only[go_sem,BD,AR,B4,BE,AT,AS,B6,IK,CB,EY,GJ,ES,ET,ints,CI,rows,DV]);exact q):P:=e q
def KE(U pw cj)(hl:PR U pw cj):DZ prog 94 [CI U pw cj] (.b (tf (BW U pw cj))):=by
 have ho:=hl.o
 have hn:=hl.r.n
 have hb:=hl.r.b
 refine BI AY func94 rfl AP ntmps94 results94 (.b _) (λnx cX=>?_)
 refine ND ?_;refine BN 1 nx _ rfl (AD _ _ _) ?_
 refine BH ?_;refine ND ?_;refine A6 λN1 CW=>sQ λN hN=>?_;refine MX ?_;refine J5.mk' (λh1=>?_) (λh1=>?_)
 ·try simp only[cn]at h1
  refine MX ?_
  refine J5.mk' (λh2=>?_) (λh2=>?_)
  ·try simp only[cn]at h2
   refine MX ?_
   apply hN;refine AK ?_ ?_<;>intro h3
   ·refine ND ?_;refine BQ ?_;exact bt (JQ (λh=>h3 (by rw[h.1.2.2]))).symm
   apply AF;apply CW;refine A6 λN2 DN=>ND ?_;refine AA<|AM (α:=Nat) (λx=>sl 93 [(1,AU U pw cj),(3,.i .i64 U.length),(4,.i .i64 x)]) (λ_=>DD) (λx m=>x<=U.length/\∀j,j<x->O8 (U.getD j 0)) (λx=>U.length-x) (0) ?_ ?_ (Le.del (by simp[DD])) ?_
   ·exact⟨A0,by intro j hj;omega⟩
   ·simp(disch:=omega) [EJ,EN,sl,AU,ints,rows,B6]
   rintro k m ⟨hk,hI⟩;refine BH ?_;simp only[AU];refine A6 λN3 DO=>ND ?_;refine AK ?_ ?_<;>intro h4
   ·apply AF;apply DO;refine A6 λN4 FD=>AA<|A0J (SI _) ?_;refine AK ?_ ?_<;>intro h5
    ·refine ND ?_;refine BQ ?_;exact bt (JQ (λh=>h5 (h.2.1 k A0))).symm
    apply AF;apply FD;refine sZ ?_;refine BB (k+1) ?_ ?_ ?_
    ·simp(disch:=omega) [EJ,EN,sl,AU,DV,ints,rows,B6]<;>omega
    ·refine⟨A0,λj hj=>?_⟩;by_cases e:j=k
     ·subst e;exact h5
     exact hI j A0
    exact AI
   have SJ:∀i,i<U.length->O8 (U.getD i 0):=λi hi=>hI i A0
   have sX:=BW.ob (pw:=pw) (cj:=cj) SJ;have hsp:=qU SJ U.length (A1 _);apply AO;apply DN;refine A6 λN5 ID=>A0J (NK U A0 SJ) ?_;refine AK ?_ ?_<;>intro h6
   ·refine ND ?_;refine BQ ?_;exact bt (JQ (λh=>by have:=h.2.2.1;omega)).symm
   apply AF;apply ID;refine A6 λN6 OR=>ND ?_;refine AA<|AM (α:=Nat) (λx=>sl 93 [(1,AU U pw cj),(3,.i .i64 U.length),(5,.i .i64 x)]) (λ_=>DD) (λx m=>x<=U.length/\∀j,j<x->lvP U pw cj j) (λx=>U.length-x) (0) ?_ ?_ (λ_ _ h=>h) ?_
   ·exact⟨A0,by intro j hj;omega⟩
   ·simp(disch:=omega) [EJ,EN,sl,AU,ints,rows,B6]
   rintro q m ⟨hq,hJ⟩;refine BH ?_;simp only[AU];refine A6 λN7 S6=>ND ?_;refine AK ?_ ?_<;>intro h7
   ·have hv:=hl.r.v q;have hr:=hl.r.r q;apply AF;apply S6;refine A6 λN8 VK=>AA<|A6 λN9 ZW=>?_;refine A6 λN hN=>C9 AY AP 23 AP ?_
    refine A0K ?_;refine⟨_,.of (T2 U (pw.getD q []) q A0 sX A0),?_⟩;refine MX ?_
    refine J5.mk' (λh8=>?_) (λh8=>?_)
    ·(try simp only[cn]at h8);refine MX ?_
     apply hN;refine AK ?_ ?_<;>intro h9
     ·refine ND ?_;refine BQ ?_;exact bt (JQ (λh=>h9 (by have:=(h.2.2.2 q A0).2.1;omega))).symm
     apply AF;apply ZW;refine ND ?_;refine AA<|AM (α:=Nat) (λx=>sl 93 [(1,AU U pw cj),(3,.i .i64 U.length),(5,.i .i64 q),(6,.i .i64 x)]) (λ_=>DD) (λx m=>x<=(cj.getD q []).length/\∀j,j<x->Pb U ((cj.getD q []).getD j []) q) (λx=>(cj.getD q []).length-x) (0) ?_ ?_ (λ_ _ h=>h) ?_
     ·exact⟨A0,by intro j hj;omega⟩
     ·simp(disch:=omega) [EJ,EN,sl,AU,ints,rows,B6]
     rintro t m ⟨ht,hT⟩;refine BH ?_;simp only[AU];refine A6 λPf R9=>ND ?_;refine AK ?_ ?_<;>intro Df
     ·have he:=hl.r.e q t;apply AF;apply R9;refine A6 λXo T3=>AA<|A6 λN hN=>?_;refine C9 AY AP 13 AP ?_
      refine A0K ?_;refine⟨_,.of (T2 U ((cj.getD q []).getD t []) q A0 sX A0),?_⟩;refine MX ?_
      apply hN;refine AK ?_ ?_<;>intro iT
      ·refine ND ?_;refine BQ ?_;exact bt (JQ (λh=>iT ((h.2.2.2 q A0).2.2 t A0))).symm
      apply AF;apply T3;refine sZ ?_;refine BB (t+1) ?_ ?_ ?_
      ·simp(disch:=omega) [EJ,EN,sl,AU,DV,ints,rows,B6]<;>omega
      ·refine⟨A0,λj hj=>?_⟩;by_cases e:j=t
       ·subst e;exact iT
       exact hT j A0
      exact AI
     apply AO;apply VK;refine sZ ?_;refine BB (q+1) ?_ ?_ ?_
     ·simp(disch:=omega) [EJ,EN,sl,AU,DV,ints,rows,B6]<;>omega
     ·refine⟨A0,λj hj=>?_⟩;by_cases e:j=q
      ·subst e;exact⟨h8,A0,λi hi=>hT i A0⟩
      exact hJ j A0
     exact AI
    (try simp only[cn]at h8);refine MX ?_
    apply hN;refine HU rfl ?_;refine ND ?_;refine BQ ?_;exact bt (JQ (λh=>h8 (h.2.2.2 q A0).1)).symm
   apply AO;apply OR;refine ND ?_;refine BQ ?_;exact bt (KU ⟨⟨A0,A0,A0⟩,SJ,A0,λi hi=>hJ i A0⟩).symm
  try simp only[cn]at h2
  refine MX ?_
  apply hN;refine HU rfl ?_;refine ND ?_;refine BQ ?_;exact bt (JQ (λh=>h2 (by rw[h.1.2.1]))).symm
 try simp only[cn]at h1
 refine MX ?_
 apply hN;refine HU rfl ?_;refine ND ?_;refine BQ ?_;exact bt (JQ (λh=>by have:=h.1.1;omega)).symm
def RP(U pw cj)(hl:PR U pw cj):DZ prog 97 [CI U pw cj] (.b (tf (BW U pw cj))):=by
 have ho:=hl.o
 have hn:=hl.r.n
 have hb:=hl.r.b
 refine BI AY func97 rfl AP ntmps97 results97 (.b _) (λnx cX=>?_)
 refine ND ?_;refine BN 1 nx _ rfl (AD _ _ _) ?_
 refine BH ?_;refine ND ?_;refine A6 λN1 CW=>sQ λN hN=>?_;refine MX ?_;refine J5.mk' (λh1=>?_) (λh1=>?_)
 ·try simp only[cn]at h1
  refine MX ?_
  refine J5.mk' (λh2=>?_) (λh2=>?_)
  ·try simp only[cn]at h2
   refine MX ?_
   apply hN;refine AK ?_ ?_<;>intro h3
   ·refine ND ?_;refine BQ ?_;exact bt (JQ (λh=>h3 (by rw[h.1.2.2]))).symm
   apply AF;apply CW;refine ND ?_;refine A6 λN2 DN=>ND ?_;refine AA<|AM (α:=Nat) (λx=>sl 90 [(1,AU U pw cj),(3,.i .i64 U.length),(4,.i .i64 (PC U x)),(30,ints U),(31,.i .i64 U.length),(32,.i .i64 x)]) (λ_=>DD) (λx m=>x<=U.length/\(∀j,j<x->O8 (U.getD j 0))/\1<=PC U x/\PC U x<=729) (λx=>U.length-x) (0) ?_ ?_ (Le.del (by simp[DD])) ?_
   ·exact⟨A0,(by intro j hj;omega),by simp[PC],by simp[PC]⟩
   ·simp(disch:=omega) [EJ,EN,sl,AU,ints,rows,B6,PC]
   rintro k m ⟨hk,hI,dD,VL⟩;refine BH ?_;simp only[AU];refine ND ?_;refine A6 λN3 DO=>AK ?_ ?_<;>intro h4
   ·apply AF;apply DO;refine A6 λN4 FD=>AA<|ND ?_;refine A6 λN5 ID=>sQ λN hN=>?_;refine MX ?_;refine AC.pure (.of (aC _)) ?_;(try simp-dsimp-implicitDefEqProofs(disch:=omega)only[go_sem,B6,IK,CB,EY,ints,CI,rows])
    refine J5.mk' (λh5=>?_) (λh5=>?_)
    ·(try simp only[cn]at h5);have Pg:=FQ h5;have hmb:=sV dD VL (show 1<=U.getD k 0 by omega) (show U.getD k 0<=7 by omega);refine MX ?_
     apply hN;refine AK ?_ ?_<;>intro h6
     ·refine ND ?_;refine BQ ?_;exact bt (JQ (λh=>by
       have h7:=sW h.2.1 (k:=k+1) (U.length-(k+1)) A0;rw[show k+1+(U.length-(k+1))=U.length by omega]at h7;have h8:PC U (k+1)=PC U k*U.getD k 0:=rfl;have:=h.2.2.1;omega)).symm
     apply AF;apply ID;refine sZ ?_;apply FD;refine sZ ?_;refine BB (k+1) ?_ ?_ ?_
     ·simp(disch:=omega) [EJ,EN,sl,AU,DV,ints,rows,B6,PC]<;>omega
     ·refine⟨A0,λj hj=>?_,hmb.1,h6⟩;by_cases e:j=k
      ·subst e;exact h5
      exact hI j A0
     exact AI
    (try simp only[cn]at h5);refine MX ?_
    apply hN;refine HU rfl ?_;refine ND ?_;refine BQ ?_;exact bt (JQ (λh=>h5 (h.2.1 k A0))).symm
   have SJ:∀i,i<U.length->O8 (U.getD i 0):=λi hi=>hI i A0
   have sX:=BW.ob (pw:=pw) (cj:=cj) SJ;obtain rfl:k=U.length:=A0;apply AO;apply DN;refine A6 λN6 OR=>ND ?_;refine AA<|AM (α:=Nat) (λx=>sl 90 [(1,AU U pw cj),(3,.i .i64 U.length),(49,.i .i64 U.length),(50,.i .i64 x)]) (λ_=>DD) (λx m=>x<=U.length/\∀j,j<x->lvP U pw cj j) (λx=>U.length-x) (0) ?_ ?_ (λ_ _ h=>h) ?_
   ·exact⟨A0,by intro j hj;omega⟩
   ·simp(disch:=omega) [EJ,EN,sl,AU,ints,rows,B6]
   rintro q m ⟨hq,hJ⟩;refine BH ?_;simp only[AU];refine ND ?_;refine A6 λN7 S6=>AK ?_ ?_<;>intro h7
   ·have hv:=hl.r.v q;have hr:=hl.r.r q;apply AF;apply S6;refine A6 λN8 VK=>AA<|ND ?_;refine A6 λN9 ZW=>sQ λN hN=>?_;refine MX ?_;refine AC.pure (.of (US U pw cj q A0 (pw.getD q []) A0 sX A0)) ?_;(try simp-dsimp-implicitDefEqProofs(disch:=omega)only[go_sem,B6,IK,CB,EY,ints,CI,rows])
    refine J5.mk' (λh8=>?_) (λh8=>?_)
    ·(try simp only[cn]at h8);refine MX ?_
     apply hN;refine AK ?_ ?_<;>intro h9
     ·refine ND ?_;refine BQ ?_;exact bt (JQ (λh=>h9 (by have:=(h.2.2.2 q A0).2.1;omega))).symm
     apply AF;apply ZW;refine ND ?_;refine AA<|AM (α:=Nat) (λx=>sl 90 [(1,AU U pw cj),(3,.i .i64 U.length),(7,.i .i64 q),(49,.i .i64 U.length),(50,.i .i64 q),(78,rows (cj.getD q [])),(79,.i .i64 (cj.getD q []).length),(80,.i .i64 x)]) (λ_=>DD) (λx m=>x<=(cj.getD q []).length/\∀j,j<x->Pb U ((cj.getD q []).getD j []) q) (λx=>(cj.getD q []).length-x) (0) ?_ ?_ (λ_ _ h=>h) ?_
     ·exact⟨A0,by intro j hj;omega⟩
     ·simp(disch:=omega) [EJ,EN,sl,AU,ints,rows,B6]
     rintro t m ⟨ht,hT⟩;refine BH ?_;simp only[AU];refine ND ?_;refine A6 λPf R9=>AK ?_ ?_<;>intro Df
     ·have he:=hl.r.e q t;apply AF;apply R9;refine A6 λXo T3=>AA<|ND ?_;refine A0J (US U pw cj q A0 ((cj.getD q []).getD t []) A0 sX A0) ?_;refine AK ?_ ?_<;>intro iT
      ·refine ND ?_;refine BQ ?_;exact bt (JQ (λh=>iT ((h.2.2.2 q A0).2.2 t A0))).symm
      apply AF;apply T3;refine sZ ?_;refine BB (t+1) ?_ ?_ ?_
      ·simp(disch:=omega) [EJ,EN,sl,AU,DV,ints,rows,B6]<;>omega
      ·refine⟨A0,λj hj=>?_⟩;by_cases e:j=t
       ·subst e;exact iT
       exact hT j A0
      exact AI
     apply AO;apply VK;refine sZ ?_;refine BB (q+1) ?_ ?_ ?_
     ·simp(disch:=omega) [EJ,EN,sl,AU,DV,ints,rows,B6]<;>omega
     ·refine⟨A0,λj hj=>?_⟩;by_cases e:j=q
      ·subst e;exact⟨h8,A0,λi hi=>hT i A0⟩
      exact hJ j A0
     exact AI
    (try simp only[cn]at h8);refine MX ?_
    apply hN;refine HU rfl ?_;refine ND ?_;refine BQ ?_;exact bt (JQ (λh=>h8 (h.2.2.2 q A0).1)).symm
   apply AO;apply OR;refine ND ?_;refine BQ ?_;exact bt (KU ⟨⟨A0,A0,A0⟩,SJ,VL,λi hi=>hJ i A0⟩).symm
  try simp only[cn]at h2
  refine MX ?_
  apply hN;refine HU rfl ?_;refine ND ?_;refine BQ ?_;exact bt (JQ (λh=>h2 (by rw[h.1.2.1]))).symm
 try simp only[cn]at h1
 refine MX ?_
 apply hN;refine HU rfl ?_;refine ND ?_;refine BQ ?_;exact bt (JQ (λh=>by have:=h.1.1;omega)).symm
def AW.name{cX P c s K}(h:∀N:St->Prop,(∀s',K .normal s'->N s')->AW cX P c s (wW K N)):AW cX P c s K:=
 (h _ (λ_ h=>h)).mono (λe s' h=>by cases e<;>exact h)
def bk:AV->Nat
 | .h id _ _=>id+1
 |_=>0
def LC(H:HP)(a b:Nat)(L:AV)(cs:List AV):Prop:=(L= .nl/\cs=[])\/∃id,L= .h id 0 cs.length/\H id=some cs/\a<=id/\id<b
def dl(H:HP):AV->HP
 | .h id _ _=>CJ H id none
 |_=>H
def LC.bd{H a b L cs}(h:LC H a b L cs):bk L=0\/(a+1<=bk L/\bk L<=b):=by
 rcases h with ⟨rfl,_⟩|⟨id,rfl,_,h1,h2⟩
 ·exact .inl rfl
 right;simp only[bk];omega
def LC.one{H a b L cs}(h:LC H a b L cs):one L=true:=by
 rcases h with ⟨rfl,_⟩|⟨id,rfl,_,h1,h2⟩<;>rfl
def LC.cells{H a b L cs}(h:LC H a b L cs):I0 L=[L]/\wS L=true:=by
 rcases h with ⟨rfl,_⟩|⟨id,rfl,_,h1,h2⟩<;>exact⟨rfl,rfl⟩
def LC.len{H a b L cs}(h:LC H a b L cs):rY L=cs.length:=by
 rcases h with ⟨rfl,rfl⟩|⟨id,rfl,_,h1,h2⟩<;>rfl
def LC.CJ{H a b i L cs c}(hi:i<a\/b<=i)(h:LC H a b L cs):LC (CJ H i c) a b L cs:=by
 rcases h with h|⟨id,rfl,h0,h1,h2⟩
 ·exact .inl h
 exact .inr ⟨id,rfl,by rw[AB _ _ A0];exact h0,h1,h2⟩
def LC.BV{H H' a b L cs}(h:LC H a b L cs)(hk:∀i,a<=i->i<b->H' i=H i):LC H' a b L cs:=by
 rcases h with h|⟨id,rfl,h0,h1,h2⟩
 ·exact .inl h
 exact .inr ⟨id,rfl,by rw[hk _ h1 h2];exact h0,h1,h2⟩
def LC.RQ{H H' a b L cs}(h:LC H a b L cs)(hk:∀i,bk L=i+1->H' i=H i):LC H' a b L cs:=by
 rcases h with h|⟨id,rfl,h0,h1,h2⟩
 ·exact .inl h
 exact .inr ⟨id,rfl,by rw[hk _ rfl];exact h0,h1,h2⟩
def LC.wide{H a b a' b' L cs}(h:LC H a b L cs)(h1:a'<=a)(h2:b<=b'):LC H a' b' L cs:=by
 rcases h with h|⟨id,rfl,h0,h3,h4⟩
 ·exact .inl h
 exact .inr ⟨id,rfl,h0,A0,A0⟩
def LC.mk{H a b id cs n}(h:H id=some cs)(hn:n=cs.length)(h1:a<=id)(h2:id<b):LC H a b (.h id 0 n) cs:=by subst hn;exact .inr ⟨id,rfl,h,h1,h2⟩
def LC.nil{H a b}:LC H a b .nl []:= .inl ⟨rfl,rfl⟩
def DW{H L i}(h:bk L≠i+1):dl H L i=H i:=by
 cases L<;>simp only[dl]
 rename_i id o n;simp only[bk]at h;exact AB _ _ A0
def F2{a b L cs H x xs id k}(h:LC H a b L cs):lH H L (x::xs) id k=k (.h id 0 (cs.length+(xs.length+1))) (Go.Proofs.YtgknbnkmilddhaaGreat.CJ (dl H L) id (some (cs++x::xs))):=by
 rcases h with ⟨rfl,rfl⟩|⟨q,rfl,h0,h1,h2⟩
 ·simp[lH,dl]
 simp only[lH,h0,dl,sD];simp
def cne{x:AV}{xs:List AV}:(x::xs≠ [])=True:=eq_true B5
def PO.cut{H}:∀{rs Xs:List AV} {ids:List Nat},PO H rs Xs ids->∀{a:Nat},a<rs.length->∃il is ir,ids=il++(is++ir)/\PO H (rs.take a) (Xs.take a) il/\Ow H (rs.getD a .j) (Xs.getD a .j) is/\PO H (rs.drop (a+1)) (Xs.drop (a+1)) ir:=by
 intro rs;induction rs with
 |nil=>intro Xs ids h a ha;simp at ha
 | cons c rs ih=>
   intro Xs ids h a ha;cases h with
   |cons x y xs ys is js h1 h2=>
    cases a with
    |zero=>exact⟨[],is,js,rfl,.nil,h1,by simpa using h2⟩
    | succ a=>
      obtain⟨il,is',ir,rfl,g1,g2,g3⟩:=ih h2 (a:=a) (by simpa using ha);exact⟨is++il,is',ir,B5,.cons _ _ _ _ _ _ h1 g1,by simpa using g2,by simpa using g3⟩
def PO.set{H:HP}{rs Xs:List AV}{il is ir:List Nat}{a:Nat}{r X:AV}(h1:PO H (rs.take a) (Xs.take a) il)(h2:Ow H r X is)(h3:PO H (rs.drop (a+1)) (Xs.drop (a+1)) ir)(ha:a<rs.length)(hX:a<Xs.length):PO H (rs.set a r) (Xs.set a X) (il++(is++ir)):=by
 rw[FJ,if_pos ha,FJ,if_pos hX];exact PO.append h1 (.cons _ _ _ _ _ _ h2 h3)
def Ow.tA{H r Z ids}(h:Ow H r Z ids):∀n ts,Z= .v n ts->(r=Z/\ids=[])\/(r= .nl/\n=0/\ts=[]/\ids=[])\/∃id cs I1,r= .h id 0 n/\ids=id::I1/\H id=some cs/\cs.length=n/\PO H cs ts I1:=by
 intro n ts hZ;cases h with
 |leaf _ hf hn=>exact .inl ⟨rfl,rfl⟩
 |nl=>cases hZ;exact .inr (.inl ⟨rfl,rfl,rfl,rfl⟩)
 |h id cs ts' I1 g1 g2=>cases hZ;exact .inr (.inr ⟨id,cs,I1,rfl,rfl,g1,rfl,g2⟩)
 |q=>cases hZ
 |g=>cases hZ
 |t=>cases hZ
def Ow.lc{H a b L cs ts ids n}(h:Ow H L (.v n ts) ids)(hL:LC H a b L cs):(L= .nl/\cs=[]/\n=0/\ts=[]/\ids=[])\/∃id I1,L= .h id 0 cs.length/\H id=some cs/\n=cs.length/\ids=id::I1/\PO H cs ts I1:=by
 rcases hL with ⟨rfl,rfl⟩|⟨q,rfl,h0,h1,h2⟩
 ·rcases h.tA _ _ rfl with ⟨e,_⟩|⟨_,rfl,rfl,rfl⟩|⟨id,cs,I1,e,_⟩
  ·cases e
  ·exact .inl ⟨rfl,rfl,rfl,rfl,rfl⟩
  cases e
 rcases h.tA _ _ rfl with ⟨e,_⟩|⟨e,_⟩|⟨id,cs2,I1,e,rfl,g1,g2,g3⟩
 ·cases e
 ·cases e
 injection e with e1 e2 e3
 subst e1;rw[h0]at g1;cases g1;exact .inr ⟨q,I1,rfl,h0,e3.symm,rfl,g3⟩
def Ow.more{H H' a b L cs ts ids id r X is}(h:Ow H L (.v ts.length ts) ids)(hL:LC H a b L cs)(ho:Ow H' r X is)(s7:H' id=some (cs++[r]))(hk:∀i∈ids,bk L≠i+1->H' i=H i)(JO:ids.Nodup):
    ∃I1,Ow H' (.h id 0 (cs.length+1)) (.v (ts++[X]).length (ts++[X])) (id::(I1++is))/\(∀i∈I1,i∈ids)/\I1.Nodup/\cs.length=ts.length:=by
  rcases h.lc hL with ⟨rfl,rfl,_,rfl,rfl⟩|⟨q,AJC,rfl,h0,hl,rfl,g2⟩
  · have:=Ow.h id [r] [X] (is++[]) (by simpa using s7) (.cons _ _ _ _ _ _ ho .nil);exact⟨[],by simpa using this,B5,B5,rfl⟩
  have Xl:=C1.1 JO;have g3:=g2.BV (H':=H') (λi hi=>hk i (by simp[hi]) (by simp only[bk];intro e;exact Xl.1 (by rw[show q=i by omega];exact hi)));have:=Ow.h id (cs++[r]) (ts++[X]) (AJC++(is++[])) s7 (PO.append g3 (.cons _ _ _ _ _ _ ho .nil));refine⟨AJC,?_,λi hi=>by simp[hi],Xl.2,hl.symm⟩;rw[C5]at this;simpa[hl]using this
def xI(a m:Nat)(H:HP)(L:AV)(cs X:List AV):Prop:=LC H a m L cs/\∃ids,Ow H L (.v X.length X) ids/\ids.Nodup/\∀i∈ids,a<=i/\i<m
def xI.empty{a m id H}(h:H id=some [])(h1:a<=id)(h2:id<m):xI a m H (.h id 0 0) [] []:=⟨.mk h rfl h1 h2,[id],.h id [] [] [] h .nil,B5,by simp;omega⟩
def xI.BV{a m m' H H' L cs X}(h:xI a m H L cs X)(hk:∀i,a<=i->i<m->H' i=H i)(hm:m<=m'):xI a m' H' L cs X:=by
 obtain⟨h1,ids,h2,h3,h4⟩:=h;exact⟨(h1.BV hk).wide (A1 _) hm,ids,h2.BV λi hi=>hk i (h4 i hi).1 (h4 i hi).2,h3,λi hi=>by have:=h4 i hi;omega⟩
def xI.len{a m H L cs X}(h:xI a m H L cs X):cs.length=X.length:=by
 obtain⟨h1,ids,h2,h3,h4⟩:=h;rcases h2.lc h1 with ⟨_,rfl,_,rfl,_⟩|⟨_,_,_,_,e,_⟩
 ·rfl
 exact e.symm
def xI.push{a m m' H H' L cs X id r Y is}(h:xI a m H L cs X)(ho:Ow H' r Y is)(JO:is.Nodup)(hb:∀i∈is,m<=i/\i<m')(s7:H' id=some (cs++[r]))(GF:m<=id/\id<m')(hni:id∉is)(ham:a<=m)(hk:∀i,a<=i->i<m->bk L≠i+1->H' i=H i):xI a m' H' (.h id 0 (cs.length+1)) (cs++[r]) (X++[Y]):=by
 obtain⟨h1,ids,h2,h3,h4⟩:=h;obtain⟨I1,g1,g2,g3,g4⟩:=h2.more h1 ho s7 (λi hi=>hk i (h4 i hi).1 (h4 i hi).2) h3;refine⟨.mk s7 B5 A0 GF.2,_,g1,?_,?_⟩
 ·rw[C1,BA];refine⟨?_,g3,JO,?_⟩
  ·intro hm;rcases AG.1 hm with hm|hm
   ·have:=h4 _ (g2 _ hm);omega
   exact hni hm
  intro x hx y hy e;have:=h4 _ (g2 _ hx);have:=hb _ hy;omega
 intro i hi;rcases BJ.1 hi with rfl|hi
 ·omega
 rcases AG.1 hi with hi|hi
 ·have:=h4 _ (g2 _ hi);omega
 have:=hb _ hi;omega
def LV(a m:Nat)(H:HP)(r P B:AV)(U:C2)(X:D4)(Y:E6):Prop:=
 ∃i0 i1 i2,(Ow H r (ints U) i0/\Ow H P (rows X) i1/\Ow H B (B6 Y) i2)/\(i0++(i1++i2)).Nodup/\∀i∈i0++(i1++i2),a<=i/\i<m
def LV.BV{a m m' H H' r P B U X Y}(h:LV a m H r P B U X Y)(hk:∀i,a<=i->i<m->H' i=H i)(hm:m<=m'):LV a m' H' r P B U X Y:=by
 obtain⟨i0,i1,i2,⟨h0,h1,h2⟩,h3,h4⟩:=h;have k:∀i,i∈i0++(i1++i2)->H' i=H i:=λi hi=>hk i (h4 i hi).1 (h4 i hi).2
 exact⟨i0,i1,i2,⟨h0.BV λi hi=>k i (by simp[hi]),h1.BV λi hi=>k i (by simp[hi]),h2.BV λi hi=>k i (by simp[hi])⟩,h3,λi hi=>by have:=h4 i hi;omega⟩
def LV.own{a m H r P B U X Y}(h:LV a m H r P B U X Y):∃ids,Own a m H (.g [r,P,B]) (Go.Proofs.YtgknbnkmilddhaaGreat.CI U X Y) ids:=by
 obtain⟨i0,i1,i2,⟨h0,h1,h2⟩,h3,h4⟩:=h;exact⟨_,.g _ _ _ (.cons _ _ _ _ _ _ h0 (.cons _ _ _ _ _ _ h1 (.cons _ _ _ _ _ _ h2 .nil))),by simpa using h3,by simpa using h4⟩
def SK(X):rows X= .v (X.map ints).length (X.map ints):=by rw[rows,A4]
def YK(Y):B6 Y= .v (Y.map rows).length (Y.map rows):=by rw[B6,A4]
def Ow.yJ{H a b L cs ts ids n}(h:Ow H L (.v n ts) ids)(hL:LC H a b L cs){i}(hi:bk L=i+1):i∈ids:=by
 rcases h.lc hL with ⟨rfl,_⟩|⟨q',I1,rfl,_,_,rfl,_⟩
 ·cases hi
 simp only[bk]at hi;simp;omega
def LV.ne{a m b c b' c' H r P B U X Y cs LI}(h:LV a m H r P B U X Y)(hP:LC H b c P cs)(hB:LC H b' c' B LI):bk P=0\/bk P≠bk B:=by
 obtain⟨i0,i1,i2,⟨h0,h1,h2⟩,h3,h4⟩:=h;by_cases e:bk P=0
 ·exact .inl e
 right
 intro e2;have g1:=h1.yJ hP (i:=bk P-1) A0;have g2:=h2.yJ hB (i:=bk P-1) A0;grind
def LV.AJD{a m m' H H' r P B U X Y b c cs id r1 x is}(h:LV a m H r P B U X Y)(hL:LC H b c P cs)(ho:Ow H' r1 (ints x) is)(JO:is.Nodup)(hb:∀i∈is,m<=i/\i<m')(s7:H' id=some (cs++[r1]))(GF:m<=id/\id<m')(hni:id∉is)(ham:a<=m)(hk:∀i,a<=i->i<m->bk P≠i+1->H' i=H i):LV a m' H' r (.h id 0 (cs.length+1)) B U (X++[x]) Y:=by
 obtain⟨i0,i1,i2,⟨h0,h1,h2⟩,h3,h4⟩:=h;rw[SK]at h1;have wY:i1.Nodup:=by grind
 obtain⟨I1,g1,g2,g3,g4⟩:=h1.more hL ho s7 (λi hi=>hk i (h4 i (by simp[hi])).1 (h4 i (by simp[hi])).2) wY;have Od:∀i,i∈i0\/i∈i2->bk P≠i+1:=by
  intro i hi e;rcases hL with ⟨rfl,_⟩|⟨q,rfl,q0,q1,q2⟩
  ·simp only[bk]at e;omega
  simp only[bk]at e;have hq:q∈i1:=by
   rcases h1.lc (.inr ⟨q,rfl,q0,q1,q2⟩)with ⟨e,_⟩|⟨q',I1,e,_,_,rfl,_⟩
   ·cases e
   injection e with e1;subst e1;simp
  have:q=i:=A0;subst this;grind
 refine⟨i0,id::(I1++is),i2,⟨h0.BV λi hi=>hk i (h4 i (by simp[hi])).1 (h4 i (by simp[hi])).2 (Od i (.inl hi)),?_,h2.BV λi hi=>hk i (h4 i (by simp[hi])).1 (h4 i (by simp[hi])).2 (Od i (.inr hi))⟩,?_,?_⟩
 ·rw[SK,AZ];exact g1
 ·have h5:∀i∈i0++(i1++i2),i<m:=λi hi=>(h4 i hi).2
  simp only[BA,C1,AG,BJ]at h3 h5 ⊢;grind
 intro i hi;simp only[AG,BJ]at hi h4;grind
def LV.A99{a m m' H H' r P B U X Y b c cs id r1 x is}(h:LV a m H r P B U X Y)(hL:LC H b c B cs)(ho:Ow H' r1 (rows x) is)(JO:is.Nodup)(hb:∀i∈is,m<=i/\i<m')(s7:H' id=some (cs++[r1]))(GF:m<=id/\id<m')(hni:id∉is)(ham:a<=m)(hk:∀i,a<=i->i<m->bk B≠i+1->H' i=H i):LV a m' H' r P (.h id 0 (cs.length+1)) U X (Y++[x]):=by
 obtain⟨i0,i1,i2,⟨h0,h1,h2⟩,h3,h4⟩:=h;rw[YK]at h2;have wY:i2.Nodup:=by grind
 obtain⟨I1,g1,g2,g3,g4⟩:=h2.more hL ho s7 (λi hi=>hk i (h4 i (by simp[hi])).1 (h4 i (by simp[hi])).2) wY;have Od:∀i,i∈i0\/i∈i1->bk B≠i+1:=by
  intro i hi e;rcases hL with ⟨rfl,_⟩|⟨q,rfl,q0,q1,q2⟩
  ·simp only[bk]at e;omega
  simp only[bk]at e;have hq:q∈i2:=by
   rcases h2.lc (.inr ⟨q,rfl,q0,q1,q2⟩)with ⟨e,_⟩|⟨q',I1,e,_,_,rfl,_⟩
   ·cases e
   injection e with e1;subst e1;simp
  have:q=i:=A0;subst this;grind
 refine⟨i0,i1,id::(I1++is),⟨h0.BV λi hi=>hk i (h4 i (by simp[hi])).1 (h4 i (by simp[hi])).2 (Od i (.inl hi)),h1.BV λi hi=>hk i (h4 i (by simp[hi])).1 (h4 i (by simp[hi])).2 (Od i (.inr hi)),?_⟩,?_,?_⟩
 ·rw[YK,AZ];exact g1
 ·have h5:∀i∈i0++(i1++i2),i<m:=λi hi=>(h4 i hi).2
  simp only[BA,C1,AG,BJ]at h3 h5 ⊢;grind
 intro i hi;simp only[AG,BJ]at hi h4;grind
def LV.wide{a a' m m' H r P B U X Y}(h:LV a m H r P B U X Y)(ha:a'<=a)(hm:m<=m'):LV a' m' H r P B U X Y:=by
 obtain⟨i0,i1,i2,h0,h3,h4⟩:=h;exact⟨i0,i1,i2,h0,h3,λi hi=>by have:=h4 i hi;omega⟩
def xJ:AV->Bool
 | .nl=>true
 | .h _ 0 _=>true
 |_=>false
def LC.xJ{H a b L cs}(h:LC H a b L cs):xJ L=true:=by
 rcases h with ⟨rfl,_⟩|⟨id,rfl,_,h1,h2⟩<;>rfl
def Ph{cs L}(h:∀x∈cs,xJ x=true)(hL:xJ L=true):∀x∈cs++[L],xJ x=true:=by
 intro y hy;rcases AG.1 hy with hy|hy
 ·exact h y hy
 rw[BY.1 hy];exact hL
def gG(a m:Nat)(H:HP)(r P B:AV)(U:C2)(X:D4)(Y:E6)(cp cb:List AV):Prop:=LV a m H r P B U X Y/\LC H a m P cp/\LC H a m B cb/\∀x∈cb,Go.Proofs.YtgknbnkmilddhaaGreat.xJ x=true
def gG.BV{a m m' H H' r P B U X Y cp cb}(h:gG a m H r P B U X Y cp cb)(hk:∀i,a<=i->i<m->H' i=H i)(hm:m<=m'):gG a m' H' r P B U X Y cp cb:=
 ⟨h.1.BV hk hm,(h.2.1.BV hk).wide (A1 _) hm,(h.2.2.1.BV hk).wide (A1 _) hm,h.2.2.2⟩
def gG.wide{a a' m m' H r P B U X Y cp cb}(h:gG a m H r P B U X Y cp cb)(ha:a'<=a)(hm:m<=m'):gG a' m' H r P B U X Y cp cb:=
 ⟨h.1.wide ha hm,h.2.1.wide ha hm,h.2.2.1.wide ha hm,h.2.2.2⟩
def gG.r0{a m H r P B U X Y cp cb}(h:gG a m H r P B U X Y cp cb):one r=true:=by
 obtain⟨i0,i1,i2,⟨h0,_⟩,_⟩:=h.1;exact zS h0
def U4(q:Nat):Nat->Nat->Nat×Nat
 |0,n=>(0,n)
 |f+1,n=>if n%q=0 then ((U4 q f (n/q)).1+1,(U4 q f (n/q)).2)else (0,n)
def Ip:Nat->Nat->Nat->List (Nat×Nat)
  |0,_,_=>[]
  | f +1,p,n=>if n<=1 then []else
      if 0<(U4 (if n<p*p then n else p) n n).1 then (if n<p*p then n else p,(U4 (if n<p*p then n else p) n n).1)::Ip f ((if n<p*p then n else p)+1) (U4 (if n<p*p then n else p) n n).2
      else Ip f ((if n<p*p then n else p)+1) (U4 (if n<p*p then n else p) n n).2
def YB(n:Nat):List (Nat×Nat):=Ip (2*n+1) 2 n
def T4(l:List (Nat×Nat)):C2:=l.map λx=>(x.1:Int)
def UD(l:List (Nat×Nat)):C2:=l.map λx=>(x.2:Int)
def fcS(p n:Nat):Nat:=if n<=1 then 0 else 1+(2*n-p)
def A0L{q}(hq:2<=q):∀f n,1<=n->n<=f->1<=(U4 q f n).2/\(U4 q f n).2<=n/\(0<(U4 q f n).1->2*(U4 q f n).2<=n)/\((U4 q f n).1=0->(U4 q f n).2=n)/\(U4 q f n).1+1<=n
 |0,n,h1,h2=>A0
 | f +1,n,h1,h2=>by
   rw[U4];split
   ·rename_i h;have h3:q<=n:=FB h1 (DY h);have h4:n/q<=n/2:=I9 hq A0;have h5:1<=n/q:=(HO A0).2 A0;obtain⟨a1,a2,a3,a4,a5⟩:=A0L hq f (n/q) h5 A0;dsimp only;exact⟨a1,A0,λ_=>A0,λh=>A0,A0⟩
   exact⟨h1,A1 n,λh=>by simp at h,λ_=>rfl,by dsimp only;omega⟩
def Fe{n}(h:2<=n):U4 n n n=(1,1):=by
 obtain⟨k,rfl⟩:∃k,n=k+2:=⟨n-2,A0⟩;rw[U4,if_pos (Nat.mod_self _),Nat.div_self A0];have:U4 (k+2) (k+1) 1=(0,1):=by rw[U4,if_neg (by rw[JE A0];omega)]
 rw[this]
structure FcR(n p q:Nat)(e m:Nat):Prop where
 m1:1<=m
 mn:m<=n
 en:e+1<=n
 q2:2<=q
 qn:q<=n
 lt:fcS (q+1) m<fcS p n
 nx:∀f,Ip (f+1) p n=if 0<e then (q,e)::Ip f (q+1) m else Ip f (q+1) m
def FcR.mk1{n p}(hn:2<=n)(hp:2<=p){q}(hq:q=if n<p*p then n else p):FcR n p q (U4 q n n).1 (U4 q n n).2:=by
 have hpp:p*2<=p*p:=Nat.mul_le_mul_left p hp;have q2:2<=q:=by rw[hq];split<;>omega
 have qn:q<=n:=by rw[hq];split<;>omega
 obtain⟨a1,a2,a3,a4,a5⟩:=A0L q2 n n A0 (A1 n);refine⟨a1,a2,a5,q2,qn,?_,λf=>by rw[Ip,if_neg A0,<-hq]⟩;unfold fcS;rw[if_neg (by omega:¬n<=1)];split
 ·omega
 rename_i h;by_cases hnp:n<p*p
 ·rw[if_pos hnp]at hq;subst hq;rw[Fe hn]at h;omega
 rw[if_neg hnp]at hq;subst hq;by_cases e0:(U4 q n n).1=0
 ·have:=a4 e0;omega
 have:=a3 A0;omega
def Aa:∀f p n,(Ip f p n).length<=f
 |0,_,_=>A1 _
 | f+1,p,n=>by
   rw[Ip];split
   ·simp
   generalize (if n<p*p then n else p)=q
   have:=Aa f (q+1) (U4 q n n).2;split
   ·simp only[C6];omega
   omega
def AJE(l):NR (.t [ints (T4 l),ints (UD l)]):=NR.t _ λk x hx=>by
 match k,hx with
 |0,hx=>cases hx;exact IC _
 |1,hx=>cases hx;exact IC _
def LC.tB{H a b L W}(h:LC H a b L (W.map (.i .i64))):Vw H L (ints W):=by
 unfold ints;rcases h with ⟨rfl,h⟩|⟨id,rfl,h0,_,_⟩
 ·obtain rfl:W=[]:=GY.1 h;exact .nl
 rw[A4];exact .h id 0 _ _ _ h0 B5 B5 λk x y hx hy=>by rw[BS]at hx;rw[hx]at hy;cases hy;exact .refl _
def tmN{j k:Nat}:(j:Int).tmod (k:Int)=((j%k:Nat):Int):=rfl
def tdN{j k:Nat}:(j:Int).tdiv (k:Int)=((j/k:Nat):Int):=rfl
def Pj{l q e}:(T4 (l++[(q,e)])).map (AV.i .i64)=(T4 l).map (AV.i .i64)++[.i .i64 (q:Int)]:=by simp[T4]
def Pk{l q e}:(UD (l++[(q,e)])).map (AV.i .i64)=(UD l).map (AV.i .i64)++[.i .i64 (e:Int)]:=by simp[UD]
set_option maxHeartbeats 4000000 in
def RR(n:Nat)(h1:1<=n)(h9:n<=1000):DZ prog 108 [.i .i64 n] (.t [ints (T4 (YB n)),ints (UD (YB n))]):=by
 refine DA AY func108 rfl AP ntmps108 results108 ((AJE _)) (λnx cX=>?_)
 refine CT ?_;refine CT ?_;refine A6 λN1 CW=>CT ?_;refine AA<|AM (α:=(Nat×Nat)×HP×AV×AV×List (Nat×Nat)×Nat) (λx=>sl 39 [(0,.i .i64 x.1.2),(4,x.2.2.1),(5,x.2.2.2.1),(6,.i .i64 x.1.1)]) (λx=>x.2.1) (λx m=>(2<=x.1.1/\x.1.1<=1001/\1<=x.1.2/\x.1.2<=n/\nx<=m)/\(x.2.2.2.2.1++Ip x.2.2.2.2.2 x.1.1 x.1.2=YB n/\fcS x.1.1 x.1.2<x.2.2.2.2.2)/\((bk x.2.2.1=0\/bk x.2.2.1≠bk x.2.2.2.1)/\LC x.2.1 nx m x.2.2.1 ((T4 x.2.2.2.2.1).map (.i .i64))/\LC x.2.1 nx m x.2.2.2.1 ((UD x.2.2.2.2.1).map (.i .i64)))) (λx=>fcS x.1.1 x.1.2) (((2,n),DD,.nl,.nl,[],2*n+1)) ?_ ?_ (λ_ _ h=>h) ?_
 ·exact⟨⟨B5,B5,h1,B5,AI⟩,⟨rfl,by simp only[fcS];split<;>omega⟩,⟨.inl rfl,LC.nil,LC.nil⟩⟩
 ·exact E2
 rintro⟨⟨p,k⟩,G,A,B,l,F⟩ m0 ⟨⟨VL,hp9,eG,hk,hm⟩,⟨hl,hF⟩,⟨CP,hA,hB⟩⟩
 dsimp only at VL hp9 eG hk hl hF CP hA hB ⊢
 have hpp:(p:Int)*p=((p*p:Nat):Int):=(EE p p).symm
 have hpq:p*p<=1001*1001:=CY hp9 hp9
 have hA1:=hA.one
 have UE:=hB.one
 have hAl:=hA.len
 have Iq:=hB.len
 have hlen:l.length<=2*n+1:=by have h1:=Aa (2*n+1) 2 n;have h2:=congrArg List.length hl;rw[AH]at h2;rw[YB]at h2;omega
 have aN:(T4 l).length=l.length:=by simp[T4]
 have dE:(UD l).length=l.length:=by simp[UD]
 rw[A4,aN]at hAl
 rw[A4,dE]at Iq
 have hAb:=hA.bd
 have hBb:=hB.bd
 refine BH ?_;refine A6 λN2 DN=>CT ?_;refine AK ?_ ?_<;>intro h1
 ·apply AF;apply DN;refine A6 λN3 DO=>AA<|A6 λN4 FD=>?_;refine IZ hpp ?_;refine AK ?_ ?_<;>intro h2
  ·obtain⟨E,M,hEM⟩:∃E M,U4 k k k=(E,M):=⟨_,_,rfl⟩;have hR:=FcR.mk1 (n:=k) (p:=p) A0 VL (q:=k) (by rw[if_pos A0]);rw[hEM]at hR;obtain⟨r1,r2,r3,r4,r5,r6,r7⟩:=hR;dsimp only at r1 r2 r3 r6 r7;refine K4 ?_;apply FD;refine CT ?_;refine A6 λN5 ID=>AA<|AM (α:=Nat×Nat) (λx=>sl 39 [(0,.i .i64 x.2),(4,A),(5,B),(6,.i .i64 k),(7,.i .i64 x.1)]) (λ_=>G) (λx m=>x.1+(U4 k (k-x.1) x.2).1=E/\(U4 k (k-x.1) x.2).2=M/\1<=x.2/\x.2+x.1<=k/\nx<=m/\m0<=m) (λx=>x.2) ((0,k)) ?_ ?_ (λ_ _ h=>h) ?_
   ·exact⟨by show 0+_=E;rw[BS];exact congrArg Prod.fst hEM,congrArg Prod.snd hEM,AI,AI,AI,AI⟩
   ·exact E2
   rintro⟨d,j⟩ m2 ⟨S3,WZ,yB,hj,Q8,U5⟩;dsimp only at S3 WZ yB hj Q8 U5 ⊢;refine BH ?_;refine A6 λN6 OR=>sQ λN hN=>?_;simp-dsimp-implicitDefEqProofs(disch:=omega)only[go_sem,tmN];apply hN;refine AK ?_ ?_<;>intro h3
   ·have Dh:j%k=0:=A0;obtain⟨g,hg⟩:∃g,k-d=g+1:=⟨k-d-1,A0⟩;have M4:=S3;have j7:=WZ;rw[hg,U4,if_pos Dh]at M4 j7;dsimp only at M4 j7;have hjq:k<=j:=FB yB (DY Dh);have dA:j/k<=j/2:=I9 r4 A0;have hj3:1<=j/k:=(HO A0).2 A0;have hgd:k-(d+1)=g:=A0;apply AF;apply OR;refine AA<|sQ λN hN=>?_;simp-dsimp-implicitDefEqProofs(disch:=omega)only[go_sem,tdN];apply hN;refine K4 ?_;refine BB (d+1,j/k) ?_ ?_ ?_
    ·exact FV
    ·dsimp only;rw[hgd];first|exact⟨A0,j7,hj3,A0,AI,CH U5 A0⟩|exact⟨A0,j7,hj3,A0,CH U5 A0⟩
    exact AI
   have Dh:¬j%k=0:=A0;obtain⟨g,hg⟩:∃g,k-d=g+1:=⟨k-d-1,A0⟩;rw[hg,U4,if_neg Dh]at S3 WZ;dsimp only at S3 WZ;obtain rfl:d=E:=A0;subst WZ;obtain⟨f,hf⟩:∃f,F=f+1:=⟨F-1,A0⟩;subst hf;rw[r7 f]at hl;apply AO;apply ID;refine CT ?_;refine AK ?_ ?_<;>intro h4
   ·refine sQ λN hN=>?_;simp-dsimp-implicitDefEqProofs(disch:=(first|omega|((repeat refine LC.CJ A0 ?_);assumption))) only[go_sem,hA1,hAl,aN,F2 (a:=nx) (b:=m0) (L:=A) (cs:=(T4 l).map (.i .i64)),A4]
    apply hN;refine BX (λG1 K6=>?_);dsimp only at K6;have AD9:LC G1 nx m0 B ((UD l).map (.i .i64)):=hB.RQ λi hi=>by rw[<-K6,AB _ _ A0,DW A0,AB _ _ A0]
    apply rQ;simp-dsimp-implicitDefEqProofs(disch:=(first|omega|((repeat refine LC.CJ A0 ?_);assumption))) only[go_sem,UE,Iq,dE,F2 (a:=nx) (b:=m0) (L:=B) (cs:=(UD l).map (.i .i64)),A4];apply DO;refine BX (λG9 TI=>?_);dsimp only at TI;refine K4 ?_;refine BB ((k+1,j),G9,.h (m2+4+2+3) 0 (l.length+1),.h (m2+4+2+5+3) 0 (l.length+1),l++[(k,d)],f) ?_ ?_ ?_
    ·exact E2
    ·rw[if_pos A0]at hl;have g1:G9 (m2+4+2+3)=some ((T4 (l++[(k,d)])).map (.i .i64)):=by rw[<-TI,AB _ _ A0,DW A0,AB _ _ A0,<-K6,AD,Pj]
     have g2:G9 (m2+4+2+5+3)=some ((UD (l++[(k,d)])).map (.i .i64)):=by rw[<-TI,AD,Pk]
     exact⟨⟨AI,AI,AI,AI,AI⟩,⟨by rw[BO];exact hl,AI⟩,⟨.inr (by show m2+4+2+3+1≠m2+4+2+5+3+1;omega),LC.mk g1 (by simp[T4]) AI AI,LC.mk g2 (by simp[UD]) AI AI⟩⟩
    exact r6
   apply AF;apply DO;refine BX (λG9 TI=>?_);dsimp only at TI;refine K4 ?_;refine BB ((k+1,j),G9,A,B,l,f) ?_ ?_ ?_
   ·exact E2
   ·rw[if_neg A0]at hl;subst TI;exact⟨⟨AI,AI,AI,AI,AI⟩,⟨hl,AI⟩,⟨CP,hA.wide (A1 _) AI,hB.wide (A1 _) AI⟩⟩
   exact r6
  obtain⟨E,M,hEM⟩:∃E M,U4 p k k=(E,M):=⟨_,_,rfl⟩;have hR:=FcR.mk1 (n:=k) (p:=p) A0 VL (q:=p) (by rw[if_neg A0]);rw[hEM]at hR;obtain⟨r1,r2,r3,r4,r5,r6,r7⟩:=hR;dsimp only at r1 r2 r3 r6 r7;apply AF;apply FD;refine CT ?_;refine A6 λN7 S6=>AA<|AM (α:=Nat×Nat) (λx=>sl 39 [(0,.i .i64 x.2),(4,A),(5,B),(6,.i .i64 p),(7,.i .i64 x.1)]) (λ_=>G) (λx m=>x.1+(U4 p (k-x.1) x.2).1=E/\(U4 p (k-x.1) x.2).2=M/\1<=x.2/\x.2+x.1<=k/\nx<=m/\m0<=m) (λx=>x.2) ((0,k)) ?_ ?_ (λ_ _ h=>h) ?_
  ·exact⟨by show 0+_=E;rw[BS];exact congrArg Prod.fst hEM,congrArg Prod.snd hEM,AI,AI,AI,AI⟩
  ·exact E2
  rintro⟨d,j⟩ m2 ⟨S3,WZ,yB,hj,Q8,U5⟩;dsimp only at S3 WZ yB hj Q8 U5 ⊢;refine BH ?_;refine A6 λN8 VK=>sQ λN hN=>?_;simp-dsimp-implicitDefEqProofs(disch:=omega)only[go_sem,tmN];apply hN;refine AK ?_ ?_<;>intro h5
  ·have Dh:j%p=0:=A0;obtain⟨g,hg⟩:∃g,k-d=g+1:=⟨k-d-1,A0⟩;have M4:=S3;have j7:=WZ;rw[hg,U4,if_pos Dh]at M4 j7;dsimp only at M4 j7;have hjq:p<=j:=FB yB (DY Dh);have dA:j/p<=j/2:=I9 r4 A0;have hj3:1<=j/p:=(HO A0).2 A0;have hgd:k-(d+1)=g:=A0;apply AF;apply VK;refine AA<|sQ λN hN=>?_;simp-dsimp-implicitDefEqProofs(disch:=omega)only[go_sem,tdN];apply hN;refine K4 ?_;refine BB (d+1,j/p) ?_ ?_ ?_
   ·exact FV
   ·dsimp only;rw[hgd];first|exact⟨A0,j7,hj3,A0,AI,CH U5 A0⟩|exact⟨A0,j7,hj3,A0,CH U5 A0⟩
   exact AI
  have Dh:¬j%p=0:=A0;obtain⟨g,hg⟩:∃g,k-d=g+1:=⟨k-d-1,A0⟩;rw[hg,U4,if_neg Dh]at S3 WZ;dsimp only at S3 WZ;obtain rfl:d=E:=A0;subst WZ;obtain⟨f,hf⟩:∃f,F=f+1:=⟨F-1,A0⟩;subst hf;rw[r7 f]at hl;apply AO;apply S6;refine CT ?_;refine AK ?_ ?_<;>intro h6
  ·refine sQ λN hN=>?_;simp-dsimp-implicitDefEqProofs(disch:=(first|omega|((repeat refine LC.CJ A0 ?_);assumption))) only[go_sem,hA1,hAl,aN,F2 (a:=nx) (b:=m0) (L:=A) (cs:=(T4 l).map (.i .i64)),A4]
   apply hN;refine BX (λG1 K6=>?_);dsimp only at K6;have AD9:LC G1 nx m0 B ((UD l).map (.i .i64)):=hB.RQ λi hi=>by rw[<-K6,AB _ _ A0,DW A0,AB _ _ A0]
   apply rQ;simp-dsimp-implicitDefEqProofs(disch:=(first|omega|((repeat refine LC.CJ A0 ?_);assumption))) only[go_sem,UE,Iq,dE,F2 (a:=nx) (b:=m0) (L:=B) (cs:=(UD l).map (.i .i64)),A4];apply DO;refine BX (λG9 TI=>?_);dsimp only at TI;refine K4 ?_;refine BB ((p+1,j),G9,.h (m2+4+2+3) 0 (l.length+1),.h (m2+4+2+5+3) 0 (l.length+1),l++[(p,d)],f) ?_ ?_ ?_
   ·exact E2
   ·rw[if_pos A0]at hl;have g1:G9 (m2+4+2+3)=some ((T4 (l++[(p,d)])).map (.i .i64)):=by rw[<-TI,AB _ _ A0,DW A0,AB _ _ A0,<-K6,AD,Pj]
    have g2:G9 (m2+4+2+5+3)=some ((UD (l++[(p,d)])).map (.i .i64)):=by rw[<-TI,AD,Pk]
    exact⟨⟨AI,AI,AI,AI,AI⟩,⟨by rw[BO];exact hl,AI⟩,⟨.inr (by show m2+4+2+3+1≠m2+4+2+5+3+1;omega),LC.mk g1 (by simp[T4]) AI AI,LC.mk g2 (by simp[UD]) AI AI⟩⟩
   exact r6
  apply AF;apply DO;refine BX (λG9 TI=>?_);dsimp only at TI;refine K4 ?_;refine BB ((p+1,j),G9,A,B,l,f) ?_ ?_ ?_
  ·exact E2
  ·rw[if_neg A0]at hl;subst TI;exact⟨⟨AI,AI,AI,AI,AI⟩,⟨hl,AI⟩,⟨CP,hA.wide (A1 _) AI,hB.wide (A1 _) AI⟩⟩
  exact r6
 apply AO;apply CW;refine CT ?_;refine BQ ?_;obtain⟨f,hf⟩:∃f,F=f+1:=⟨F-1,A0⟩
 subst hf
 rw[Ip,if_pos A0,C5]at hl
 subst hl
 refine .t _ _ rfl λk x y hx hy=>?_
 match k,hx,hy with
 |0,hx,hy=>cases hx;cases hy;exact hA.tB
 |1,hx,hy=>cases hx;cases hy;exact hB.tB
def GC{cX n ops y s s1 K}(q:AW cX prog y s1 K)(e:HA ops s s1:=by intro N hN;(try simp-dsimp-implicitDefEqProofs(maxSteps:=800000) (disch:=omega)only[go_sem,CI]);exact hN):GZ cX n ops y s K:=HF q e
def FF{P Q:Prop}(q:Q)(e:Q->P:=by intro q;(try simp-dsimp-implicitDefEqProofs(maxSteps:=800000) (disch:=omega)only[go_sem,CI]);exact q):P:=e q
def ZK{cX n ops y s s1 K f Zz r}(x:DZ prog f Zz r)(q:AW cX prog y s1 K)(e:DZ prog f Zz r->HA ops s s1:=by intro x N hN;(try simp-dsimp-implicitDefEqProofs(maxSteps:=800000) (disch:=omega)only[go_sem,CI]);refine AC.pure (.of x) ?_;(try simp-dsimp-implicitDefEqProofs(maxSteps:=800000) (disch:=omega)only[go_sem,CI]);exact hN):GZ cX n ops y s K:=HF q (e x)
def NV{cX n ops y s s1 K}(q:AW cX prog y s1 K)(e:HA ops s s1:=by intro N hN;(try simp-dsimp-implicitDefEqProofs(maxSteps:=800000) (disch:=omega)only[go_sem,CI,AU]);exact hN):GZ cX n ops y s K:=HF q e
def QU{cX n ops y s s1 K}(q:AW cX prog y s1 K)(e:HA ops s s1:=by intro N hN;(try simp-dsimp-implicitDefEqProofs(disch:=omega)only[go_sem,CB,ints,CI,AU]);exact hN):GZ cX n ops y s K:=HF q e
def QW{cX n ops y s s1 K}(q:AW cX prog y s1 K)(e:HA ops s s1:=by intro N hN;(try simp-dsimp-implicitDefEqProofs(maxSteps:=800000) (disch:=omega)only[go_sem,ints,CI]);exact hN):GZ cX n ops y s K:=HF q e
def MY{P Q:Prop}{R0:Prop}(r0:R0)(q:Q)(e:R0->Q->P:=by intro h0 q;(try simp-dsimp-implicitDefEqProofs(disch:=omega)only[go_sem,CI,h0]);exact q):P:=e r0 q
def OK{cX n ops s}{K:Exit->St->Prop}{Q:Prop}(q:Q)(e:Q->KO env prog ops s.nx ops 0 ⟨s.t,s.H,s.nx+ops.length⟩ (K .normal):=by intro q;(try simp-dsimp-implicitDefEqProofs(disch:=omega)only[go_sem,CI]);exact q):AW cX prog (.region n ops.toArray false) s K:=rQ (e q)
def UT{cX n ops y s s1 K}{R0:Prop}(r0:R0)(q:AW cX prog y s1 K)(e:R0->HA ops s s1:=by intro h0 N hN;(try simp-dsimp-implicitDefEqProofs(disch:=omega)only[go_sem,ints,CI,h0]);exact hN):GZ cX n ops y s K:=HF q (e r0)
def aO{cX n ops y s s1 K}{R0 R1 R2 R3 R4:Prop}(r0:R0)(r1:R1)(r2:R2)(r3:R3)(r4:R4)(q:AW cX prog y s1 K)(e:R0->R1->R2->R3->R4->HA ops s s1:=by intro h0 h1 h2 h3 h4 N hN;(try simp-dsimp-implicitDefEqProofs(disch:=omega)only[go_sem,EZ,DW,CI,h0,h1,h2,h3,h4]);exact hN):GZ cX n ops y s K:=HF q (e r0 r1 r2 r3 r4)
def TW{P Q:Prop}(q:Q)(e:Q->P:=by intro q;(try simp-dsimp-implicitDefEqProofs(maxSteps:=800000) (disch:=omega)only[go_sem,CI,AU]);exact q):P:=e q
def j8{cX n ops y s s1 K}(q:AW cX prog y s1 K)(e:HA ops s s1:=by intro N hN;(try simp-dsimp-implicitDefEqProofs(maxSteps:=800000) (disch:=omega)only[go_sem,ints,AU]);exact hN):GZ cX n ops y s K:=HF q e
def Z6{cX n ops s}{K:Exit->St->Prop}{Q:Prop}(q:Q)(e:Q->KO env prog ops s.nx ops 0 ⟨s.t,s.H,s.nx+ops.length⟩ (K .normal):=by intro q;(try simp-dsimp-implicitDefEqProofs(maxSteps:=800000) (disch:=omega)only[go_sem,CI,AU]);exact q):AW cX prog (.region n ops.toArray false) s K:=rQ (e q)
def Pm{cX n ops y s s1 K f Zz r}(x:DZ prog f Zz r)(q:AW cX prog y s1 K)(e:DZ prog f Zz r->HA ops s s1:=by intro x N hN;(try simp-dsimp-implicitDefEqProofs(maxSteps:=800000) (disch:=omega)only[go_sem,CI,AU]);refine AC.pure (.of x) ?_;(try simp-dsimp-implicitDefEqProofs(maxSteps:=800000) (disch:=omega)only[go_sem,CI,AU]);exact hN):GZ cX n ops y s K:=HF q (e x)
def Pn{P Q:Prop}(q:Q)(e:Q->P:=by intro q;(try simp-dsimp-implicitDefEqProofs(maxSteps:=800000) (disch:=omega)only[go_sem,BD,AR,B4,BE,AT,AS,GJ,ES,ET,CI,AU,DV]);exact q):P:=e q
def Z7{P Q:Prop}(q:Q)(e:Q->P:=by intro q;(try simp-dsimp-implicitDefEqProofs(maxSteps:=800000) (disch:=omega)only[go_sem,ints,CI]);exact q):P:=e q
def tC{cX n ops y s s1 K}(q:AW cX prog y s1 K)(e:HA ops s s1:=by intro N hN;(try simp-dsimp-implicitDefEqProofs(disch:=omega)only[go_sem,B6,ints,CI,AU,rows]);exact hN):GZ cX n ops y s K:=HF q e
def A0M{cX n ops y s s1 K f Zz r}(x:DZ prog f Zz r)(q:AW cX prog y s1 K)(e:DZ prog f Zz r->HA ops s s1:=by intro x N hN;(try simp-dsimp-implicitDefEqProofs(maxSteps:=800000) (disch:=omega)only[go_sem,ints,AU]);refine AC.pure (.of x) ?_;(try simp-dsimp-implicitDefEqProofs(maxSteps:=800000) (disch:=omega)only[go_sem,ints,AU]);exact hN):GZ cX n ops y s K:=HF q (e x)
def tD{cX n ops y s s1 K}(q:AW cX prog y s1 K)(e:HA ops s s1:=by intro N hN;(try simp-dsimp-implicitDefEqProofs(disch:=omega)only[go_sem,cne,ints]);exact hN):GZ cX n ops y s K:=HF q e
def Km{cX n ops y s s1 K f Zz r}(x:DZ prog f Zz r)(q:AW cX prog y s1 K)(e:DZ prog f Zz r->HA ops s s1:=by intro x N hN;(try simp-dsimp-implicitDefEqProofs(maxSteps:=800000) (disch:=omega)only[go_sem,AU]);refine AC.pure (.of x) ?_;(try simp-dsimp-implicitDefEqProofs(maxSteps:=800000) (disch:=omega)only[go_sem,AU]);exact hN):GZ cX n ops y s K:=HF q (e x)
def tE{P f nx H Zz r}{K:Nat->HP->AV->Prop}{Q:Prop}(x:DZ P f Zz r)(q:Q)(e:Q->K nx H r:=by intro q;(try simp-dsimp-implicitDefEqProofs(disch:=omega)only[go_sem,CI,AU]);exact q):AC P f nx H Zz K:=AC.pure (.of x) (e q)
def lU{cX n ops y s s1 K}(q:AW cX prog y s1 K)(e:HA ops s s1:=by intro N hN;(try simp-dsimp-implicitDefEqProofs(disch:=omega)only[go_sem,B6,AU]);exact hN):GZ cX n ops y s K:=HF q e
def lV{P f nx H Zz r}{K:Nat->HP->AV->Prop}{Q:Prop}(x:DZ P f Zz r)(q:Q)(e:Q->K nx H r:=by intro q;(try simp-dsimp-implicitDefEqProofs(maxSteps:=800000) (disch:=omega)only[go_sem,CI]);exact q):AC P f nx H Zz K:=AC.pure (.of x) (e q)
def lW{cX n ops s}{K:Exit->St->Prop}{Q:Prop}(q:Q)(e:Q->KO env prog ops s.nx ops 0 ⟨s.t,s.H,s.nx+ops.length⟩ (K .normal):=by intro q;(try simp-dsimp-implicitDefEqProofs(maxSteps:=800000) (disch:=omega)only[go_sem,ints,AU]);exact q):AW cX prog (.region n ops.toArray false) s K:=rQ (e q)
def tF{cX n ops y s s1 K}{R0 R1 R2 R3 R4:Prop}(r0:R0)(r1:R1)(r2:R2)(r3:R3)(r4:R4)(q:AW cX prog y s1 K)(e:R0->R1->R2->R3->R4->HA ops s s1:=by intro h0 h1 h2 h3 h4 N hN;(try simp-dsimp-implicitDefEqProofs(maxSteps:=800000) (disch:=omega)only[go_sem,ints,CI,h0,h1,h2,h3,h4]);exact hN):GZ cX n ops y s K:=HF q (e r0 r1 r2 r3 r4)
def tG{cX n ops y s s1 K}(q:AW cX prog y s1 K)(e:HA ops s s1:=by intro N hN;(try simp-dsimp-implicitDefEqProofs(maxSteps:=800000) (disch:=omega)only[go_sem,AU]);exact hN):GZ cX n ops y s K:=HF q e
def lX{cX n ops s}{K:Exit->St->Prop}{Q:Prop}(q:Q)(e:Q->KO env prog ops s.nx ops 0 ⟨s.t,s.H,s.nx+ops.length⟩ (K .normal):=by intro q;(try simp-dsimp-implicitDefEqProofs(disch:=omega)only[go_sem,CB,ints,CI,AU]);exact q):AW cX prog (.region n ops.toArray false) s K:=rQ (e q)
def lY{cX n ops s}{K:Exit->St->Prop}{Q:Prop}(q:Q)(e:Q->KO env prog ops s.nx ops 0 ⟨s.t,s.H,s.nx+ops.length⟩ (K .normal):=by intro q;(try simp-dsimp-implicitDefEqProofs(disch:=omega)only[go_sem,ints,CI]);exact q):AW cX prog (.region n ops.toArray false) s K:=rQ (e q)
def lZ{P Q:Prop}{R0:Prop}(r0:R0)(q:Q)(e:R0->Q->P:=by intro h0 q;(try simp-dsimp-implicitDefEqProofs(disch:=omega)only[go_sem,ints,CI,h0]);exact q):P:=e r0 q
def Kn{cX n ops y s s1 K}{R0 R1 R2:Prop}(r0:R0)(r1:R1)(r2:R2)(q:AW cX prog y s1 K)(e:R0->R1->R2->HA ops s s1:=by intro h0 h1 h2 N hN;(try simp-dsimp-implicitDefEqProofs(maxSteps:=800000) (disch:=omega)only[go_sem,EZ,ints,CI,h0,h1,h2]);exact hN):GZ cX n ops y s K:=HF q (e r0 r1 r2)
def A0N{P Q:Prop}(q:Q)(e:Q->P:=by intro q;(try simp-dsimp-implicitDefEqProofs(disch:=omega)only[go_sem,BD,AR,B4,BE,AT,AS,GJ,ES,ET,CI,DV]);exact q):P:=e q
def Ab{P Q:Prop}(q:Q)(e:Q->P:=by intro q;(try simp-dsimp-implicitDefEqProofs(disch:=omega)only[go_sem,B6,ints,CI,AU,rows]);exact q):P:=e q
def tH{P Q:Prop}{R0 R1 R2:Prop}(r0:R0)(r1:R1)(r2:R2)(q:Q)(e:R0->R1->R2->Q->P:=by intro h0 h1 h2 q;(try simp-dsimp-implicitDefEqProofs(disch:=omega)only[go_sem,CI,h0,h1,h2]);exact q):P:=e r0 r1 r2 q
def Ko{P Q:Prop}(q:Q)(e:Q->P:=by intro q;(try simp-dsimp-implicitDefEqProofs(disch:=omega)only[go_sem,B6,ints,AU,rows]);exact q):P:=e q
def I2{P:Prop}(h:P:=by simp(disch:=omega)[EJ,EN,sl,ints,rows,DV,B6,CI,AU]<;>omega):P:=h
def TJ{P:Prop}{R0:Prop}(r0:R0)(h:R0->P:=by intro h0;simp(disch:=omega)[EJ,EN,sl,ints,rows,DV,B6,CI,AU,h0]<;>omega):P:=h r0
def YL{P:Prop}{R0 R1:Prop}(r0:R0)(r1:R1)(h:R0->R1->P:=by intro h0 h1;simp(disch:=omega)[EJ,EN,sl,ints,rows,DV,B6,CI,AU,h0,h1]<;>omega):P:=h r0 r1
def LL{P:Prop}(h:P:=by simp(disch:=omega)only[AD,AB,DW]):P:=h
end Go.Proofs.YtgknbnkmilddhaaGreat