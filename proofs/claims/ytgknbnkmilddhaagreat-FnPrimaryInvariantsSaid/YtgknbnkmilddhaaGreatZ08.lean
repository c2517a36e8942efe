import Derived.Test.YtgknbnkmilddhaaGreatZ03
import Derived.Test.YtgknbnkmilddhaaGreatZ04
import Derived.Test.YtgknbnkmilddhaaGreatZ07
set_option linter.all false

open Go.Proofs.Tryz
namespace Go.Proofs.YtgknbnkmilddhaaGreat
section
def FT(p:Prop)(r:AV):Prop:=(p/\r= .g [.i .i64 0,.i .i64 0,.i .i64 0,.i .i64 0])\/(¬p/\∃k l a b:Int,k≠0/\r= .g [.i .i64 k,.i .i64 l,.i .i64 a,.i .i64 b])
set_option maxRecDepth 20000 in
set_option maxHeartbeats 4000000 in
def gK(U pw cj)(h:BW U pw cj)(i)(hi:i<U.length)(hc:HN (pc U pw cj) (i+1))(nx H):AC prog 169 nx H [AU U pw cj,.i .i64 i] (λDI H' r=>H'=H/\FT (A0C (pc U pw cj) i) r):=by
 have hv:=h.val
 have hg:=CS hv hc
 have Q4:=h.1.1
 have fO:=h.1.2.1
 have KW:=h.1.2.2
 have oY:=(h.2.2.2 i hi).2.1
 have e2:AV.v (pw.getD i []).length (List.map (AV.i IntKind.i64) (pw.getD i []))=vi U.length ((pc U pw cj).pw i):=JX (h.pwl hi)
 have im:=λ{a:V}=>eM (P:=pc U pw cj) (i:=i) hv (λ_ _=>aH hv) a
 refine CF AY func169 rfl AP ntmps169 results169 (λGM cX=>?_)
 refine GW ?_;refine GW ?_;refine GW ?_;refine A6 λN1 CW=>GW ?_;refine AA<|AM (α:=Nat) (λx=>sl 180 [(0,AU U pw cj),(1,.i .i64 i),(4,.q nx 0),(5,.i .i64 U.length),(6,.i .i64 i),(7,.i .i64 x)]) (λ_=>CJ H nx (some [.i .i64 0,.i .i64 0,.i .i64 0,.i .i64 0])) (λx m=>(i+1<=x/\x<=U.length)/\∀j,i<j->j<x->rep (M (pc U pw cj) (i+1)) ((pc U pw cj).cj i j) ((pc U pw cj).o j).toNat=IN (pc U pw cj) (M (pc U pw cj) (i+1)) i ((pc U pw cj).pw j)) (λx=>U.length-x) (i+1) ?_ ?_ (λ_ _ h=>h) ?_
 ·exact⟨⟨A1 _,hi⟩,by intro j h1 h2;omega⟩
 ·exact E7
 rintro j m ⟨⟨yB,dA⟩,hI⟩
 simp only[AU];refine BH ?_;refine A6 λN2 DN=>GW ?_;refine AK ?_ ?_<;>intro h1
 ·have ej:((j:Int)-i-1).toNat=j-i-1:=A0;have e1:AV.v ((cj.getD i []).getD (j-i-1) []).length (List.map (AV.i IntKind.i64) ((cj.getD i []).getD (j-i-1) []))=vi U.length ((pc U pw cj).cj i j):=JX (h.Xp A0 A0);have e3:AV.v (pw.getD j []).length (List.map (AV.i IntKind.i64) (pw.getD j []))=vi U.length ((pc U pw cj).pw j):=JX (h.pwl A0);have hoj:=h.o7 (show j<U.length by omega);have AJG:(pc U pw cj).o j=U.getD j 0:=rfl;have tj:=hv.cj i j A0 (show j<U.length by omega);have tp:=(hv.pw j (show j<U.length by omega)).mono hv (show i+1<=j+1 by omega);apply AF;apply DN;refine A6 λN3 DO=>AA<|A6 λN hN=>?_;refine C9 AY AP 34 AP ?_
  (try simp-dsimp-implicitDefEqProofs(disch:=omega)only[go_sem,BD,AR,B4,BE,AT,AS,B6,IK,CB,EY,GJ,ES,ET,ints,AU,rows,vi,DV,ej]);rw[e1];refine⟨_,.of (NL h (i+1) hc _ tj _ A0 A0),?_⟩;refine UU ?_
  rw[e3];refine⟨_,.of ((QJ U pw cj h i hi hc _ tp).pure),?_⟩;refine UU ?_
  refine⟨_,.of (P0 A0 (hg.rep tj _) im),?_⟩;refine UU ?_
  apply hN;refine AK ?_ ?_<;>intro h2
  ·refine GW ?_;refine BQ ?_;refine⟨H,by have:=GM nx A0;intro d cs hd;simp only[CJ];grind,rfl,?_⟩
   exact .inr ⟨λq=>h2 (q.pw j A0 (show j<U.length by omega)),_,_,_,_,A0,rfl⟩
  apply AF;apply DO;refine TX ?_;refine BB (j+1) ?_ ?_ ?_
  ·exact E7
  ·refine⟨A0,λk q1 q2=>?_⟩;by_cases e:k=j
   ·subst e;exact h2
   exact hI k q1 A0
  exact AI
 have hI1:∀j,i<j->j<U.length->rep (M (pc U pw cj) (i+1)) ((pc U pw cj).cj i j) ((pc U pw cj).o j).toNat=IN (pc U pw cj) (M (pc U pw cj) (i+1)) i ((pc U pw cj).pw j):=λk q1 q2=>hI k q1 A0
 apply AO;apply CW;refine A6 λN4 FD=>GW ?_;refine AA<|AM (α:=Nat) (λx=>sl 180 [(0,AU U pw cj),(1,.i .i64 i),(4,.q nx 0),(5,.i .i64 U.length),(6,.i .i64 i),(8,.i .i64 x)]) (λ_=>CJ H nx (some [.i .i64 0,.i .i64 0,.i .i64 0,.i .i64 0])) (λx m=>(i+1<=x/\x<=U.length)/\∀j k,i<j->j<x->j<k->k<U.length->M (pc U pw cj) (i+1) ((pc U pw cj).cj i k) ((pc U pw cj).cj i j)=M (pc U pw cj) (i+1) ((pc U pw cj).cj i j) (IN (pc U pw cj) (M (pc U pw cj) (i+1)) i ((pc U pw cj).cj j k))) (λx=>U.length-x) (i+1) ?_ ?_ (λ_ _ h=>h) ?_
 ·exact⟨⟨A1 _,hi⟩,by intro j k h1 h2;omega⟩
 ·exact E7
 rintro j m ⟨⟨yB,dA⟩,hI⟩
 simp only[AU];refine BH ?_;refine A6 λN5 ID=>GW ?_;refine AK ?_ ?_<;>intro h3
 ·apply AF;apply ID;refine A6 λN6 OR=>AA<|GW ?_;refine AA<|AM (α:=Nat) (λx=>sl 180 [(0,AU U pw cj),(1,.i .i64 i),(4,.q nx 0),(5,.i .i64 U.length),(6,.i .i64 i),(8,.i .i64 j),(9,.i .i64 x)]) (λ_=>CJ H nx (some [.i .i64 0,.i .i64 0,.i .i64 0,.i .i64 0])) (λx m=>(j+1<=x/\x<=U.length)/\∀k,j<k->k<x->M (pc U pw cj) (i+1) ((pc U pw cj).cj i k) ((pc U pw cj).cj i j)=M (pc U pw cj) (i+1) ((pc U pw cj).cj i j) (IN (pc U pw cj) (M (pc U pw cj) (i+1)) i ((pc U pw cj).cj j k))) (λx=>U.length-x) (j+1) ?_ ?_ (λ_ _ h=>h) ?_
  ·exact⟨⟨A1 _,A0⟩,by intro k h1 h2;omega⟩
  ·exact E7
  rintro k m ⟨⟨eG,NC⟩,hK⟩;simp only[AU];refine BH ?_;refine A6 λN7 S6=>GW ?_;refine AK ?_ ?_<;>intro h4
  ·have ej:((j:Int)-i-1).toNat=j-i-1:=A0;have ek:((k:Int)-i-1).toNat=k-i-1:=A0;have ejk:((k:Int)-j-1).toNat=k-j-1:=A0;have e1:AV.v ((cj.getD i []).getD (j-i-1) []).length (List.map (AV.i IntKind.i64) ((cj.getD i []).getD (j-i-1) []))=vi U.length ((pc U pw cj).cj i j):=JX (h.Xp A0 A0);have e3:AV.v ((cj.getD i []).getD (k-i-1) []).length (List.map (AV.i IntKind.i64) ((cj.getD i []).getD (k-i-1) []))=vi U.length ((pc U pw cj).cj i k):=JX (h.Xp A0 A0);have e4:AV.v ((cj.getD j []).getD (k-j-1) []).length (List.map (AV.i IntKind.i64) ((cj.getD j []).getD (k-j-1) []))=vi U.length ((pc U pw cj).cj j k):=JX (h.Xp A0 A0);have AOM:=(h.2.2.2 j A0).2.1;have tj:=hv.cj i j A0 (show j<U.length by omega);have tk:=hv.cj i k A0 (show k<U.length by omega);have tjk:=(hv.cj j k A0 (show k<U.length by omega)).mono hv (show i+1<=j+1 by omega);have tcc:=hg.cl (KJ hg tj).1 (hg.cl tk tj);apply AF;apply S6;refine A6 λN8 VK=>AA<|A6 λN hN=>?_;refine C9 AY AP 46 AP ?_
   (try simp-dsimp-implicitDefEqProofs(disch:=omega)only[go_sem,BD,AR,B4,BE,AT,AS,B6,IK,CB,EY,GJ,ES,ET,ints,AU,rows,vi,DV,ej,ek,ejk,e1,e3,e4]);refine⟨_,.of ((FU U pw cj h (i+1) hc _ _ tk tj).pure),?_⟩;refine UU ?_
   rw[show((k:Int)-j-1).toNat=k-j-1 from ejk,e4];refine⟨_,.of ((QJ U pw cj h i hi hc _ tjk).pure),?_⟩;refine UU ?_
   refine⟨_,.of (P0 A0 tcc im),?_⟩;refine UU ?_
   apply hN;refine AK ?_ ?_<;>intro h5
   ·refine GW ?_;refine BQ ?_;refine⟨H,by have:=GM nx A0;intro d cs hd;simp only[CJ];grind,rfl,?_⟩
    exact .inr ⟨λq=>h5 ((XD hg tk tj im).2 (q.cj j k A0 A0 (show k<U.length by omega))),_,_,_,_,A0,rfl⟩
   apply AF;apply VK;refine TX ?_;refine BB (k+1) ?_ ?_ ?_
   ·exact E7
   ·refine⟨A0,λt q1 q2=>?_⟩;by_cases e:t=k
    ·subst e;exact(XD hg tk tj im).1 h5
    exact hK t q1 A0
   exact AI
  apply AO;apply OR;refine TX ?_;refine BB (j+1) ?_ ?_ ?_
  ·exact E7
  ·refine⟨A0,λt k' q1 q2 q3 q4=>?_⟩;by_cases e:t=j
   ·subst e;exact hK k' q3 A0
   exact hI t k' q1 A0 q3 q4
  exact AI
 have hI2:∀j k,i<j->j<k->k<U.length->M (pc U pw cj) (i+1) ((pc U pw cj).cj i k) ((pc U pw cj).cj i j)=M (pc U pw cj) (i+1) ((pc U pw cj).cj i j) (IN (pc U pw cj) (M (pc U pw cj) (i+1)) i ((pc U pw cj).cj j k)):=λt k q1 q2 q3=>hI t k q1 A0 q2 q3
 apply AO;apply FD;refine TY e2 ?_;refine A6 λN9 ZW=>sQ λN hN=>?_;refine UU ?_;refine yM ((QJ U pw cj h i hi hc _ (hv.pw i hi)).pure) ?_
 refine yM (P0 A0 im (hv.pw i hi)) ?_
 apply hN;refine AK ?_ ?_<;>intro h6
 ·refine GW ?_;refine BQ ?_;refine⟨H,by have:=GM nx A0;intro d cs hd;simp only[CJ];grind,rfl,?_⟩
  exact .inr ⟨λq=>h6 q.fx,_,_,_,_,A0,rfl⟩
 apply AF;apply ZW;refine A6 λPf R9=>GW ?_;refine AA<|AM (α:=Nat) (λx=>sl 180 [(0,AU U pw cj),(1,.i .i64 i),(4,.q nx 0),(5,.i .i64 U.length),(6,.i .i64 i),(10,vi U.length ((pc U pw cj).pw i)),(11,.i .i64 x)]) (λ_=>CJ H nx (some [.i .i64 0,.i .i64 0,.i .i64 0,.i .i64 0])) (λx m=>(i+1<=x/\x<=U.length)/\∀j,i<j->j<x->M (pc U pw cj) (i+1) ((pc U pw cj).pw i) (IS (IN (pc U pw cj) (M (pc U pw cj) (i+1)) i) ((pc U pw cj).o i).toNat (un j))=M (pc U pw cj) (i+1) (un j) ((pc U pw cj).pw i)) (λx=>U.length-x) (i+1) ?_ ?_ (λ_ _ h=>h) ?_
 ·exact⟨⟨A1 _,hi⟩,by intro j h1 h2;omega⟩
 ·exact E7
 rintro j m ⟨⟨yB,dA⟩,hI⟩
 simp only[AU,vi];refine BH ?_;refine A6 λXo T3=>GW ?_;refine AK ?_ ?_<;>intro h7
 ·have tu:=O9 hv (show i+1<=j by omega) (show j<U.length by omega);have o9:=h.o7 hi;have ADC:(pc U pw cj).o i=U.getD i 0:=rfl;apply AF;apply T3;refine A6 λN12 ZL=>AA<|sQ λN hN=>?_;simp-dsimp-implicitDefEqProofs(disch:=omega)only[go_sem,B6,IK,CB,EY,ints,AU,rows,vi];refine AC.pure (.of (FG U.length j A0 A0)) ?_;(try simp-dsimp-implicitDefEqProofs(disch:=omega)only[go_sem,B6,IK,CB,EY,ints,AU,rows,vi]);apply hN;refine A6 λN13 dF=>GW ?_;refine AA<|AM (α:=Nat×V) (λx=>sl 180 [(0,AU U pw cj),(1,.i .i64 i),(4,.q nx 0),(5,.i .i64 U.length),(6,.i .i64 i),(10,vi U.length ((pc U pw cj).pw i)),(11,.i .i64 j),(12,vi U.length x.2),(159,.i .i64 (U.getD i 0)),(160,.i .i64 x.1)]) (λ_=>CJ H nx (some [.i .i64 0,.i .i64 0,.i .i64 0,.i .i64 0])) (λx m=>x.1<=(U.getD i 0).toNat/\T (pc U pw cj) (i+1) x.2/\x.2=IS (IN (pc U pw cj) (M (pc U pw cj) (i+1)) i) x.1 (un j)) (λx=>(U.getD i 0).toNat-x.1) ((0,un j)) ?_ ?_ (λ_ _ h=>h) ?_
  ·exact⟨AE _,tu,rfl⟩
  ·exact E7
  rintro⟨q,w⟩ m ⟨hq,hw,he⟩;dsimp only at hq hw he;simp only[AU,vi];refine BH ?_;refine GW ?_;refine A6 λN14 p5=>AK ?_ ?_<;>intro h8
  ·apply AF;apply p5;refine A6 λN15 Ac=>AA<|TX ?_;refine yM ((QJ U pw cj h i hi hc _ hw).pure) ?_
   apply Ac;refine TX ?_;refine BB (q+1,IN (pc U pw cj) (M (pc U pw cj) (i+1)) i w) ?_ ?_ ?_
   ·exact E7
   ·exact⟨AI,im,by rw[he];rfl⟩
   exact AI
  obtain rfl:q=(U.getD i 0).toNat:=A0;have tp:=hv.pw i hi;have tcc:=hg.cl (KJ hg tp).1 (hg.cl tu tp);apply AO;apply dF;refine sQ λN hN=>?_;refine UU ?_;refine yM (FG U.length j A0 A0) ?_
  refine yM ((FU U pw cj h (i+1) hc _ _ tu tp).pure) ?_
  refine yM (P0 A0 hw tcc) ?_
  apply hN;refine AK ?_ ?_<;>intro h9
  ·refine GW ?_;refine BQ ?_;refine⟨H,by have:=GM nx A0;intro d cs hd;simp only[CJ];grind,rfl,?_⟩
   rw[he]at h9;exact .inr ⟨λq=>h9 ((XD hg tu tp (he▸hw)).2 (q.inn j A0 (show j<U.length by omega)).symm).symm,_,_,_,_,A0,rfl⟩
  apply AF;apply ZL;refine TX ?_;refine BB (j+1) ?_ ?_ ?_
  ·exact E7
  ·refine⟨A0,λk q1 q2=>?_⟩;by_cases e:k=j
   ·subst e;rw[he]at h9;exact((XD hg tu tp (he▸hw)).1 h9.symm).symm
   exact hI k q1 A0
  exact AI
 apply AO;apply R9;refine GW ?_;refine BQ ?_;refine⟨H,by have:=GM nx A0;intro d cs hd;simp only[CJ];grind,rfl,?_⟩
 exact .inl ⟨⟨λj q1 q2=>hI1 j q1 q2,λj k q1 q2 q3=>hI2 j k q1 q2 q3,h6,λj q1 q2=>hI j q1 (by have:j<U.length:=q2;omega)⟩,rfl⟩
def YN(U pw cj)(h:BW U pw cj)(nx H):AC prog 98 nx H [AU U pw cj] (λ_ H' r=>H=H'/\∃x:Nat,r= .i .i64 x/\(x=0↔HN (pc U pw cj) 0)):=by
 have hv:=h.val
 have Q4:=h.1.1
 refine CF AY func98 rfl AP ntmps98 results98 (λGM cX=>?_)
 refine Z5 ?_;refine Z5 ?_;refine A6 λN1 CW=>AA<|AM (α:=Nat) (λx=>sl 22 [(0,AU U pw cj),(3,.i .i64 x)]) (λ_=>H) (λx m=>x<=U.length/\HN (pc U pw cj) x) (λx=>x) (U.length) ?_ ?_ (λ_ _ h=>h) ?_
 ·exact⟨A1 _,λi h1 h2=>absurd h2 (by have:(pc U pw cj).n=U.length:=rfl;omega)⟩
 ·exact I2
 rintro x m ⟨hx,hI⟩
 simp only[AU];refine BH ?_;refine A6 λN2 DN=>sQ λN hN=>?_;refine Ko ?_;refine J5.mk' (λh1=>?_) (λh1=>?_)
 ·try simp only[cn]at h1
  obtain⟨i,rfl⟩:∃i,x=i+1:=⟨x-1,A0⟩;refine Ko ?_
  rw[show((i+1:Nat):Int)-1=i by omega];refine(gK U pw cj h i A0 hI _ _).CD ?_;rintro m1 H1 r1 SF ⟨rfl,(⟨hC,rfl⟩|⟨hC,k,l,a,b,hk,rfl⟩)⟩
  ·refine BH ?_
   apply hN;refine AK ?_ ?_<;>intro h2
   ·apply AF;apply DN;apply AA;apply rQ;simp-dsimp-implicitDefEqProofs(disch:=omega)only[go_sem,B6,ints,AU,rows];refine BB i ?_ ?_ ?_
    ·exact I2
    ·refine⟨AI,λt q1 q2=>?_⟩;by_cases e:t=i
     ·subst e;exact hC
     exact hI t A0 q2
    exact AI
   simp at h2
  refine BH ?_
  apply hN;refine AK ?_ ?_<;>intro h3
  ·exact absurd h3.1 hk
  apply AO;apply CW;refine Z5 ?_;refine BQ ?_;exact⟨_,Le.refl _,rfl,i+1,rfl,⟨λq=>A0,λq=>absurd (q i (AE _) (show i<U.length by omega)) hC⟩⟩
 try simp only[cn]at h1
 refine Ko ?_
 apply hN;refine DJ rfl ?_;apply AO;apply CW;refine Z5 ?_;refine BQ ?_;obtain rfl:x=0:=A0
 exact⟨_,Le.refl _,rfl,0,rfl,⟨λ_=>hI,λ_=>rfl⟩⟩
def JI(U pw cj)(hl:PR U pw cj):DZ prog 40 [CI U pw cj] (.b (tf (BW U pw cj/\HN (pc U pw cj) 0))):=by
 refine BI AY func40 rfl AP ntmps40 results40 (.b _) (λnx cX=>?_)
 refine ND ?_;refine BN 1 nx _ rfl (AD _ _ _) ?_
 refine BH ?_;refine sQ λN hN=>?_;refine MX ?_;refine AC.pure (.of (RP U pw cj hl)) ?_;(try simp-dsimp-implicitDefEqProofs(disch:=omega)only[go_sem,B6,ints,CI,rows])
 refine J5.mk' (λh1=>?_) (λh1=>?_)
 ·try simp only[cn]at h1
  refine MX ?_
  refine(YN U pw cj h1 _ _).CD ?_;rintro m1 H1 r1 SF ⟨rfl,x,rfl,hx⟩;refine MX ?_
  apply hN;refine BQ ?_;exact bt (by by_cases q:x=0<;>simp[q,KU,JQ,h1,<-hx])
 try simp only[cn]at h1
 refine MX ?_
 apply hN;apply DQ;simp-dsimp-implicitDefEqProofs(disch:=omega)only[go_sem];all_goals exact bt (JQ (λq=>h1 q.1)).symm
def ADF(U:C2)(pw:D4)(cj:E6):Prop:=BW U pw cj/\HN (pc U pw cj) 0
def W2(g:Int)(w:C2):Prop:=w.length<=64/\∀j,j<w.length->w.getD j 0≠0/\-g<=w.getD j 0/\w.getD j 0<=g
def fpP(g:Int)(rs:D4):Prop:=(0<=g/\g<=4)/\rs.length<=12/\∀k,k<rs.length->W2 g (rs.getD k [])
def fp(g:Int)(rs:D4):AV:= .g [.i .i64 g,rows rs]
def mD(g w)(hg:0<=g/\g<=1000)(hw:w.length<=1099511627776):DZ prog 166 [.i .i64 g,ints w] (.b (tf (W2 g w))):=by
 refine BI AY func166 rfl AP ntmps166 results166 (.b _) (λnx cX=>?_)
 refine EU ?_;refine A6 λN1 CW=>EU ?_;refine AA<|AM (α:=Nat) (λx=>sl 27 [(0,.i .i64 g),(1,ints w),(7,ints w),(8,.i .i64 w.length),(9,.i .i64 x)]) (λ_=>DD) (λx m=>x<=w.length/\∀j,j<x->w.getD j 0≠0/\-g<=w.getD j 0/\w.getD j 0<=g) (λx=>w.length-x) (0) ?_ ?_ (λ_ _ h=>h) ?_
 ·exact⟨A0,by intro j hj;omega⟩
 ·simp(disch:=omega) [EJ,EN,sl,DV,ints,rows,B6,ints,CB,DV]<;>omega
 rintro k m ⟨hk,hI⟩
 refine BH ?_;refine EU ?_;refine A6 λN2 DN=>AK ?_ ?_<;>intro h1
 ·apply AF;apply DN;refine A6 λN3 DO=>AA<|EU ?_;refine sQ λN hN=>?_;refine OX ?_;refine J5.mk' (λh2=>?_) (λh2=>?_)
  ·try simp only[cn]at h2
   refine OX ?_
   refine AC.pure (.of (KV _ _ _)) ?_;(try simp-dsimp-implicitDefEqProofs(disch:=omega)only[go_sem,CB,ints])
   apply hN;refine AK ?_ ?_<;>intro h3
   ·refine EU ?_;refine BQ ?_;exact bt (JQ (λh=>h3 (by have:=(h.2 k A0).2;omega))).symm
   apply AF;apply DO;refine LG ?_;refine BB (k+1) ?_ ?_ ?_
   ·simp(disch:=omega) [EJ,EN,sl,DV,ints,rows,B6,ints,CB,DV]<;>omega
   ·refine⟨A0,λj hj=>?_⟩;by_cases e:j=k
    ·subst e;exact⟨h2,A0⟩
    exact hI j A0
   exact AI
  try simp only[cn]at h2
  refine OX ?_
  apply hN;refine HU rfl ?_;refine EU ?_;refine BQ ?_;exact bt (JQ (λh=>(h.2 k A0).1 h2)).symm
 apply AO;apply CW;refine EU ?_;refine BQ ?_;refine bt ?_
 by_cases hc:w.length<=64
 ·rw[KU ⟨hc,λj hj=>hI j A0⟩];simp;omega
 rw[JQ (λh=>hc h.1)];simp;omega
def p6(k):DZ prog 31 [.i .i64 k] (.b (tf (0<=k/\k<=6))):=by
 refine BI AY func31 rfl AP ntmps31 results31 (.b _) (λnx cX=>?_)
 refine CT ?_;refine UN (KV _ _ _) ?_;apply DQ;simp-dsimp-implicitDefEqProofs(disch:=omega)only[go_sem];skip
def AJH:Bool->Int
 |true=>0
 |false=>1
noncomputable def yN(g:Int)(rs:D4):Int:=AJH (tf (∀k,k<rs.length->W2 g (rs.getD k [])))
def XJ(g rs)(hg:0<=g/\g<=6)(hr:FC rs):DZ prog 96 [.i .i64 g,rows rs] (.i .i64 (yN g rs)):=by
 have hn:=hr.n
 refine BI AY func96 rfl AP ntmps96 results96 (.i _ _) (λnx cX=>?_)
 refine FY ?_;refine A6 λN1 CW=>Zp (p6 _) ?_;refine AK ?_ ?_<;>intro h1
 ·refine FY ?_;refine BQ ?_;exact absurd hg A0
 apply AF;apply CW;refine A6 λN2 DN=>FY ?_;refine AA<|AM (α:=Nat) (λx=>sl 21 [(0,.i .i64 g),(10,rows rs),(11,.i .i64 rs.length),(12,.i .i64 x)]) (λ_=>DD) (λx m=>x<=rs.length/\(∀j,j<x->W2 g (rs.getD j []))) (λx=>rs.length-x) (0) ?_ ?_ (λ_ _ h=>h) ?_
 ·exact⟨A0,by intro j hj;omega⟩
 ·simp(disch:=omega) [EJ,EN,sl,DV,ints,rows,B6,rows,EY,DV]<;>omega
 rintro k m ⟨hk,hI⟩
 refine BH ?_;refine FY ?_;refine A6 λN3 DO=>AK ?_ ?_<;>intro h2
 ·apply AF;apply DO;refine A6 λN4 FD=>AA<|FY ?_;refine Zp (mD g (rs.getD k []) ⟨hg.1,A0⟩ (by have:=hr.getD k;omega)) ?_;refine AK ?_ ?_<;>intro h3
  ·refine FY ?_;refine BQ ?_;rw[yN,JQ (λh=>h3 (h k A0))];rfl
  apply AF;apply FD;refine lP ?_;refine BB (k+1) ?_ ?_ ?_
  ·simp(disch:=omega) [EJ,EN,sl,DV,ints,rows,B6,rows,EY,DV]<;>omega
  ·refine⟨A0,λj hj=>?_⟩;by_cases e:j=k
   ·subst e;exact h3
   exact hI j A0
  exact AI
 apply AO;apply DN;refine FY ?_;refine BQ ?_;rw[yN,KU (λj hj=>hI j A0)];rfl
def XK{cX n ops y s s1 K}(q:AW cX prog y s1 K)(e:HA ops s s1:=by intro N hN;(try simp-dsimp-implicitDefEqProofs(disch:=omega)only[go_sem,fp,EY,rows]);exact hN):GZ cX n ops y s K:=HF q e
def tQ{P Q:Prop}(q:Q)(e:Q->P:=by intro q;(try simp-dsimp-implicitDefEqProofs(disch:=omega)only[go_sem,fp,EY,rows]);exact q):P:=e q
def jB(g rs)(hr:FC rs):DZ prog 39 [fp g rs] (.b (tf (fpP g rs))):=by
 have hn:=hr.n
 refine BI AY func39 rfl AP ntmps39 results39 (.b _) (λnx cX=>?_)
 refine XK ?_;refine A6 λN1 CW=>sQ λN hN=>?_;refine tQ ?_;refine AC.pure (.of (KV _ _ _)) ?_;(try simp-dsimp-implicitDefEqProofs(disch:=omega)only[go_sem,fp,EY,rows])
 refine J5.mk' (λh1=>?_) (λh1=>?_)
 ·try simp only[cn]at h1
  refine tQ ?_
  apply hN;refine AK ?_ ?_<;>intro h2
  ·refine XK ?_;refine BQ ?_;exact bt (JQ (λh=>by have:=h.2.1;omega)).symm
  apply AF;apply CW;refine sQ λN hN=>?_;simp-dsimp-implicitDefEqProofs(disch:=omega)only[go_sem,fp,EY,rows];refine AC.pure (.of (XJ g rs ⟨h1.1,A0⟩ hr)) ?_;(try simp-dsimp-implicitDefEqProofs(disch:=omega)only[go_sem,fp,EY,rows]);apply hN;refine BQ ?_;refine bt ?_;unfold yN;by_cases hc:∀k,k<rs.length->W2 g (rs.getD k [])
  ·rw[KU hc,KU ⟨h1,A0,hc⟩];rfl
  rw[JQ hc,JQ (λh=>hc h.2.2)];rfl
 try simp only[cn]at h1
 refine tQ ?_
 apply hN;refine HU rfl ?_;refine XK ?_;refine BQ ?_;exact bt (JQ (λh=>h1 h.1)).symm
section
variable{P:Pc}
def ADG(hv:LK P){j}(hj:j<P.n)(hg:TU (T P (j+1)) (M P (j+1))){y}(ty:T P (j+1) y){a}(h0:0<=a)(h1:a<P.o j):M P j (D0 z0 j a) y=D0 y j a:=by
 have hy:=ty.z j A0;rw[YI hj];unfold wX;rw[hy,EM,if_neg A0,JW,QI,MH hy];show D0 (M P (j+1) z0 y) j _=_
 rw[hg.l1 ty];congr 1;omega
def AJI(hv:LK P){j}(hj:j<P.n)(hg:TU (T P (j+1)) (M P (j+1))){a}(h0:0<a)(h1:a<P.o j):M P j (D0 z0 j a) (D0 z0 j (P.o j-a))=P.pw j:=by
 rw[YI hj];unfold wX;rw[EM,EM,if_pos A0,JW,JW,QI,Fc hv,hg.l1 hg.e0,hg.r1 (hv.pw j hj)];exact MH (by rw[(hv.pw j hj).z j A0];omega)
def A63(hv:LK P){j}(hj:j<P.n)(hg:TU (T P j) (M P j))(jC:TU (T P (j+1)) (M P (j+1))){x}(hx:T P j x)(h0:x j≠0):
    inv P j x=M P j (M P j (inv P (j+1) (D0 x j 0)) (D0 z0 j (P.o j-x j))) (inv P (j+1) (P.pw j)):=by
  have hr:=hx.r j (A1 _) hj;have tz:=T.zero hv (j+1);obtain⟨t1,t2⟩:=KJ jC hx.cut;obtain⟨t3,t4⟩:=KJ jC (hv.pw j hj);have u1:T P j (D0 z0 j (x j)):=T.put hj tz hr.1 hr.2;have u2:T P j (D0 z0 j (P.o j-x j)):=T.put hj tz A0 A0;have m1:=t1.mono hv (show j<=j+1 by omega);have m3:=t3.mono hv (show j<=j+1 by omega);have mc:=hx.cut.mono hv (show j<=j+1 by omega);have mp:=(hv.pw j hj).mono hv (show j<=j+1 by omega);refine(inv_eq hg hx (hg.cl (hg.cl m1 u2) m3) ?_).symm;have e1:M P j x (inv P (j+1) (D0 x j 0))=D0 z0 j (x j):=by
    have e2:x=M P j (D0 z0 j (x j)) (D0 x j 0):=by rw[ADG hv hj jC hx.cut hr.1 hr.2,sT]
    have e3:M P j (M P j (D0 z0 j (x j)) (D0 x j 0)) (inv P (j+1) (D0 x j 0))=D0 z0 j (x j):=by
      rw[hg.ac u1 mc m1,zY hv hx.cut t1,t2,hg.r1 u1]
    rw[<-e2]at e3;exact e3
  rw[<-hg.ac hx (hg.cl m1 u2) m3,<-hg.ac hx m1 u2,e1,AJI hv hj jC A0 hr.2,zY hv (hv.pw j hj) t3,t4]
def A0X(hv:LK P){j}(hj:j<P.n)(hg:TU (T P j) (M P j))(jC:TU (T P (j+1)) (M P (j+1))){x}(hx:T P j x)(h0:x j=0):inv P j x=inv P (j+1) (D0 x j 0):=by
 obtain⟨t1,t2⟩:=KJ jC hx.cut;refine(inv_eq hg hx (t1.mono hv A0) ?_).symm;have e:D0 x j 0=x:=MH h0;have t0:=hx.cut;rw[e]at t1 t2 t0 ⊢;rw[zY hv t0 t1,t2]
end
def jD(U pw cj)(h:BW U pw cj)(i)(hi:i<U.length)(hc:HN (pc U pw cj) i)(hF:∀a,T (pc U pw cj) (i+1) a->DZ prog 239 [CI U pw cj,.i .i64 ((i:Int)+1),vi U.length a] (vi U.length (inv (pc U pw cj) (i+1) a)))(a)(ha:T (pc U pw cj) i a):DZ prog 239 [CI U pw cj,.i .i64 i,vi U.length a] (vi U.length (inv (pc U pw cj) i a)):=by
 have hv:=h.val
 have Q4:=h.1.1
 have fO:=h.1.2.1
 have hg:=CS hv hc
 have jC:=CS hv (hc.mono (show i<=i+1 by omega))
 have o9:=h.o7 hi
 have ADC:(pc U pw cj).o i=U.getD i 0:=rfl
 have hri:=ha.r i (A1 _) hi
 have e2:AV.v (pw.getD i []).length (List.map (AV.i IntKind.i64) (pw.getD i []))=vi U.length ((pc U pw cj).pw i):=JX (h.pwl hi)
 have t1:=(KJ jC ha.cut).1.mono hv (show i<=i+1 by omega)
 have t3:=(KJ jC (hv.pw i hi)).1.mono hv (show i<=i+1 by omega)
 refine BI AY func239 rfl AP ntmps239 results239 (RS _ _) (λnx cX=>?_)
 refine IE ?_;refine BN 3 nx _ rfl (AD _ _ _) ?_
 refine BH ?_;refine IE ?_;refine A6 λN1 CW=>IE ?_;refine AK ?_ ?_<;>intro h1
 ·exfalso;omega
 apply AF;apply CW;refine sQ λN hN=>?_;refine NW ?_;refine(O0 a A0 _ _).mono ?_
 rintro yK H1 r1 ⟨yL,rfl,g1,g2,rfl⟩
 refine NW ?_
 apply hN;refine IE ?_;refine IQ 8 yL U.length (JP U.length (D0 a i 0)) rfl I5 HM ?_
 refine BH ?_;refine sQ λN hN=>?_;simp-dsimp-implicitDefEqProofs(disch:=omega)only[go_sem,B6,CB,EY,ints,CI,AU,rows,vi];refine AC.pure (.of (hF _ ha.cut)) ?_;(try simp-dsimp-implicitDefEqProofs(disch:=omega)only[go_sem,B6,CB,EY,ints,CI,AU,rows,vi]);apply hN;refine A6 λN2 DN=>IE ?_;refine AK ?_ ?_<;>intro h2
 ·refine IE ?_;refine BQ ?_;rw[A0X hv hi hg jC ha h2];rfl
 have hai:0<a i:=A0
 have tu:T (pc U pw cj) i (D0 z0 i ((pc U pw cj).o i-a i)):=T.put hi (T.zero hv _) A0 A0
 apply AF;apply DN;refine IE ?_;rw[IL]
 refine A6 λN hN=>C9 AY AP 13 AP ?_
 refine tJ ?_;apply hN;refine IQ 10 (yK+4+6+5+1) U.length (JP U.length (D0 z0 i ((pc U pw cj).o i-a i))) rfl (AD _ _ _) HM ?_
 refine BH ?_;refine A6 λN hN=>C9 AY AP 18 AP ?_
 refine tJ ?_;refine⟨_,.of (M6 U pw cj h i A0 _ _ t1 tu),?_⟩
 refine NW ?_
 rw[e2]
 refine⟨_,.of (hF _ (hv.pw i hi)),?_⟩
 refine NW ?_
 refine⟨_,.of (M6 U pw cj h i A0 _ _ (hg.cl t1 tu) t3),?_⟩
 refine NW ?_
 apply hN;refine BQ ?_;rw[A63 hv hi hg jC ha A0];rfl
def mE(U pw cj)(h:BW U pw cj)(a)(ha:T (pc U pw cj) U.length a):DZ prog 239 [CI U pw cj,.i .i64 U.length,vi U.length a] (vi U.length (inv (pc U pw cj) U.length a)):=by
 have Q4:=h.1.1
 have hg:=CS h.val (show HN (pc U pw cj) U.length from λi h1 h2=>absurd h2 (by have:(pc U pw cj).n=U.length:=rfl;omega))
 refine DA AY func239 rfl AP ntmps239 results239 ((RS _ _)) (λnx cX=>?_)
 refine IE ?_;refine BN 3 nx _ rfl (AD _ _ _) ?_
 refine BH ?_;refine IE ?_;refine A6 λN1 CW=>IE ?_;refine AK ?_ ?_<;>intro h1
 ·refine IE ?_;refine BQ ?_;refine Vw.vi ?_
  rw[AD,IL,<-inv_eq hg ha hg.e0 (oW (P:=pc U pw cj) (A1 _) _ _)];rfl
 simp at h1
def p7(U pw cj)(h:BW U pw cj):∀(i:Nat),i<=U.length->HN (pc U pw cj) i->∀a,T (pc U pw cj) i a->
    DZ prog 239 [CI U pw cj,.i .i64 i,vi U.length a] (vi U.length (inv (pc U pw cj) i a)):=by
  have key:∀d i,i+d=U.length->HN (pc U pw cj) i->∀a,T (pc U pw cj) i a->
      DZ prog 239 [CI U pw cj,.i .i64 i,vi U.length a] (vi U.length (inv (pc U pw cj) i a)):=by
    intro d;induction d with
    |zero=>intro i hi _ a ha;obtain rfl:i=U.length:=hi;exact mE U pw cj h a ha
    | succ d ih=>
      intro i hi hc a ha;refine jD U pw cj h i A0 hc (λa ha=>?_) a ha;have:=ih (i+1) A0 (hc.mono A0) a ha;rwa [IP]at this
  exact λi hi=>key (U.length-i) i A0
section
variable(U:C2)(pw:D4)(cj:E6)
def UW(h:BW U pw cj)(hc:HN (pc U pw cj) 0)(a)(ha:T (pc U pw cj) 0 a):DZ prog 182 [CI U pw cj,vi U.length a] (vi U.length (inv (pc U pw cj) 0 a)):=by
 refine BI AY func182 rfl AP ntmps182 results182 (RS _ _) (λnx cX=>?_)
 refine GC ?_;refine BN 2 nx _ rfl (AD _ _ _) ?_
 refine BH ?_;refine ZK (p7 U pw cj h 0 (AE _) hc a ha) ?_;apply DQ;simp-dsimp-implicitDefEqProofs(disch:=omega)only[go_sem];try rfl
def JJ(h:BW U pw cj)(a b)(ha:T (pc U pw cj) 0 a)(hb:T (pc U pw cj) 0 b):DZ prog 158 [CI U pw cj,vi U.length a,vi U.length b] (vi U.length (M (pc U pw cj) 0 a b)):=by
 refine BI AY func158 rfl AP ntmps158 results158 (RS _ _) (λnx cX=>?_)
 refine GC ?_;refine BN 3 nx _ rfl (AD _ _ _) ?_
 refine BH ?_;refine ZK (M6 U pw cj h 0 (AE _) a b ha hb) ?_;apply DQ;simp-dsimp-implicitDefEqProofs(disch:=omega)only[go_sem];try rfl
end
def AON(U:C2)(xs:D4):Prop:=∀k,k<xs.length->exP U (xs.getD k [])
def PT{cX n ops y s s1 K}(q:AW cX prog y s1 K)(e:HA ops s s1:=by intro N hN;(try simp-dsimp-implicitDefEqProofs(disch:=omega)only[go_sem,fp,rows]);exact hN):GZ cX n ops y s K:=HF q e
def Ks{cX n ops y s s1 K f Zz r}(x:DZ prog f Zz r)(q:AW cX prog y s1 K)(e:DZ prog f Zz r->HA ops s s1:=by intro x N hN;(try simp-dsimp-implicitDefEqProofs(disch:=omega)only[go_sem,fp,rows]);refine AC.pure (.of x) ?_;(try simp-dsimp-implicitDefEqProofs(disch:=omega)only[go_sem,fp,rows]);exact hN):GZ cX n ops y s K:=HF q (e x)
def aR{cX n ops s}{K:Exit->St->Prop}{Q:Prop}(q:Q)(e:Q->KO env prog ops s.nx ops 0 ⟨s.t,s.H,s.nx+ops.length⟩ (K .normal):=by intro q;(try simp-dsimp-implicitDefEqProofs(disch:=omega)only[go_sem,fp,rows]);exact q):AW cX prog (.region n ops.toArray false) s K:=rQ (e q)
def Ae{cX n ops y s s1 K}(q:AW cX prog y s1 K)(e:HA ops s s1:=by intro N hN;(try simp-dsimp-implicitDefEqProofs(disch:=omega)only[go_sem,fp,ints,rows]);exact hN):GZ cX n ops y s K:=HF q e
end
section
def lab(l:Int):Int:=if 0<l then l else-l
def oD(l:Int):Nat:=(lab l-1).toNat
def lsg(l:Int):Int:=if 0<l then 1 else-1
def eS(w:C2):Nat->Nat->Int
 |0=>λ_=>0
 |k+1=>D0 (eS w k) (oD (w.getD k 0)) (eS w k (oD (w.getD k 0))+lsg (w.getD k 0))
def A9A{w}:∀(k j:Nat),-(k:Int)<=eS w k j/\eS w k j<=k:=by
 intro k;induction k with
 |zero=>intro j;simp[eS]
 | succ k ih=>
   intro j;have h1:=ih j;have h2:=ih (oD (w.getD k 0));simp only[eS,D0];unfold lsg;repeat' split
   all_goals omega
def W2.get{n:Nat}{w:C2}(h:W2 n w){k:Nat}(hk:k<w.length):oD (w.getD k 0)<n/\lab (w.getD k 0)-1=oD (w.getD k 0)/\1<=lab (w.getD k 0)/\lab (w.getD k 0)<=n:=by
 have:=h.2 k hk;unfold oD lab;split<;>omega
def exS(n:Nat)(w:C2):C2:=vec n (eS w w.length)
def Po{n w}:(exS n w).length=n:=HB
def Ff(l)(hl: -1000<=l/\l<=1000):DZ prog 137 [.i .i64 l] (.i .i64 (lab l)):=by
 refine BI AY func137 rfl AP ntmps137 results137 (.i _ _) (λnx cX=>?_)
 refine CT ?_;refine CT ?_;refine BQ ?_;refine it ?_
 unfold lab
 split<;>split<;>omega
def jE(a):DZ prog 196 [.i .i64 a] (.b false):=by
 refine BI AY func196 rfl AP ntmps196 results196 (.b _) (λnx cX=>?_)
 refine CT ?_;refine CT ?_;refine BQ ?_;simp
def cmp(a b:Int):Int:=if a<b then-1 else if b<a then 1 else 0
def UX(a b):DZ prog 144 [.i .i64 a,.i .i64 b] (.i .i64 (cmp a b)):=by
 refine BI AY func144 rfl AP ntmps144 results144 (.i _ _) (λnx cX=>?_)
 refine CT ?_;refine UN (jE a) ?_;refine UN (jE b) ?_;refine A6 λN1 CW=>CT ?_;refine AK ?_ ?_<;>intro h1
 ·refine A6 λN2 DN=>CT ?_;refine AK ?_ ?_<;>intro h2
  ·refine CT ?_;refine BQ ?_;first|contradiction|skip
   all_goals refine it ?_
   all_goals unfold cmp
   all_goals repeat' split
   all_goals omega
  apply AF;apply DN;refine CT ?_;refine BQ ?_;first|contradiction|skip
  all_goals refine it ?_
  all_goals unfold cmp
  all_goals repeat' split
  all_goals omega
 apply AF;apply CW;refine A6 λN3 DO=>CT ?_;refine AK ?_ ?_<;>intro h3
 ·refine CT ?_;refine BQ ?_;first|contradiction|skip
  all_goals refine it ?_
  all_goals unfold cmp
  all_goals repeat' split
  all_goals omega
 apply AF;apply DO;refine A6 λN4 FD=>CT ?_;refine AK ?_ ?_<;>intro h4
 ·refine CT ?_;refine BQ ?_;first|contradiction|skip
  all_goals refine it ?_
  all_goals unfold cmp
  all_goals repeat' split
  all_goals omega
 apply AF;apply FD;refine A6 λN5 ID=>CT ?_;refine AK ?_ ?_<;>intro h5
 ·refine CT ?_;refine BQ ?_;first|contradiction|skip
  all_goals refine it ?_
  all_goals unfold cmp
  all_goals repeat' split
  all_goals omega
 apply AF;apply ID;refine CT ?_;refine BQ ?_;first|contradiction|skip
 all_goals refine it ?_
 all_goals unfold cmp
 all_goals repeat' split
 all_goals omega
def Af(l)(hl:l≠0):DZ prog 138 [.i .i64 l] (.i .i64 (lsg l)):=by
 refine BI AY func138 rfl AP ntmps138 results138 (.i _ _) (λnx cX=>?_)
 refine CT ?_;refine UN (UX l 0) ?_;refine BQ ?_;refine it ?_
 unfold cmp lsg
 repeat' split
 all_goals omega
def Vp{n:Nat}{w:C2}(h:W2 n w):yN n [w]=0:=by
 unfold yN;rw[KU (λk hk=>by
  have:k=0:=by simp at hk;omega
  subst this;exact h)];rfl
def T5(n:Nat)(w:C2)(hn:n<=4)(hw:W2 n w):cC prog 65 [.i .i64 n,ints w] (.t [ints (exS n w),.i .i64 0]):=by
 have oE:=hw.1
 intro nx
 refine ED AY func65 rfl AP ntmps65 results65 (λcX=>?_)
 refine EU ?_;refine A6 λN1 CW=>sQ λN hN=>?_;refine OX ?_;refine AC.pure (.Va (XJ n [w] A0 ⟨B5,by simp;omega⟩) (.cons (.refl _) (.cons (Vw.rws rfl (AD _ _ _)) .nil)) (.i _ _)) ?_
 refine OX ?_
 rw[Vp hw]
 apply hN;refine EU ?_;refine AK ?_ ?_<;>intro h1
 ·simp at h1
 apply AF;apply CW;refine EU ?_;refine A6 λN2 DN=>EU ?_;refine AA<|AM (α:=Nat) (λx=>sl 37 [(4,.nl),(5,.i .i64 0),(7,.h (nx+2+5+2+1) 0 n),(19,ints w),(20,.i .i64 w.length),(21,.i .i64 x)]) (λx=>CJ DD (nx+2+5+2+1) (some (JP n (eS w x)))) (λx m=>x<=w.length/\nx+11<=m) (λx=>w.length-x) (0) ?_ ?_ (by intro d cs hd;simp only[CJ,DD,IL,eS]at hd ⊢;grind) ?_
 ·exact⟨A0,AI⟩
 ·simp(disch:=omega) [EJ,EN,sl,DV,ints,rows,B6,ints,CB,DV]<;>omega
 rintro k m ⟨hk,hm⟩
 refine BH ?_;refine EU ?_;refine A6 λN3 DO=>AK ?_ ?_<;>intro h2
 ·obtain⟨q1,q2,q3,q4⟩:=hw.get (k:=k) A0;obtain⟨q5,q6⟩:=A9A (w:=w) k (oD (w.getD k 0));have q7:=hw.2 k A0;have q8: -1<=lsg (w.getD k 0)/\lsg (w.getD k 0)<=1:=by unfold lsg;split<;>omega
  have q9:(lab (w.getD k 0)-1).toNat=oD (w.getD k 0):=rfl;apply AF;apply DO;refine A6 λN4 FD=>AA<|EU ?_;refine C9 AY AP 10 AP ?_
  refine Ka ?_;refine⟨_,.of (Ff (w.getD k 0) A0),?_⟩;refine OX ?_
  refine⟨_,.of (Af (w.getD k 0) q7.1),?_⟩;(try simp-dsimp-implicitDefEqProofs(disch:=omega)only[go_sem,CB,ints,q9])
  apply FD;refine LG ?_;refine BB (k+1) ?_ ?_ ?_
  ·simp(disch:=omega) [EJ,EN,sl,DV,ints,rows,B6,ints,CB,DV]<;>omega
  ·exact⟨A0,AI⟩
  exact AI
 apply AO;apply DN;refine EU ?_;refine BQ ?_;refine⟨_,sC.t (.cons (b:=m) (Own.ints (by rw[AD,show k=w.length by omega,exS,VZ]) Po.symm A0 A0) (.leaf (.i _ _) (.i _ _) .nil) A0 A0)⟩
end
section
section
variable{U:C2}{pw:D4}{cj:E6}
def Pp{i f}(hf:T (pc U pw cj) i f):Er (vec U.length f)↔f=z0:=by
 constructor
 ·intro h;funext k
  by_cases e:k<U.length
  ·have:=h k (by rw[HB];exact e);rwa [VY e]at this
  exact hf.t k (by have:(pc U pw cj).n=U.length:=rfl;omega)
 rintro rfl k hk;rw[HB]at hk;rw[VY hk];rfl
def tR{i f}(hn:U.length<=1048576)(hf:T (pc U pw cj) i f):DZ prog 178 [vi U.length f] (.b (tf (f=z0))):=by
 have:=Z3 (vec U.length f) (by rw[HB];omega);rw[KF]at this;rwa [oB (Pp hf)]at this
def eT{i f}(hn:U.length<=1048576)(hf:T (pc U pw cj) i f):DZ prog 99 [vi U.length f] (.b (tf (f=z0))):=by
 have:=aD (vec U.length f) (by rw[HB];omega);rw[KF]at this;rwa [oB (Pp hf)]at this
end
def Kt{P:Prop}(h:P:=by simp(disch:=omega)[EJ,EN,sl,ints,rows,DV,fp]<;>omega):P:=h
def Ku{P:Prop}{R0:Prop}(r0:R0)(h:R0->P:=by intro h0;simp(disch:=omega)[EJ,EN,sl,ints,rows,DV,fp,h0]<;>omega):P:=h r0
end
end Go.Proofs.YtgknbnkmilddhaaGreat