import Derived.Test.YtgknbnkmilddhaaGreatZ07
import Derived.Test.YtgknbnkmilddhaaGreatZ08
import Derived.Test.YtgknbnkmilddhaaGreatZ11
set_option linter.unusedVariables false
set_option linter.unusedSimpArgs false

namespace Go.Proofs.YtgknbnkmilddhaaGreat
def FT(p:Prop)(r:AV):Prop:=(p/\r= .g [.i .i64 0,.i .i64 0,.i .i64 0,.i .i64 0])\/(¬p/\∃k l a b:Int,k≠0/\r= .g [.i .i64 k,.i .i64 l,.i .i64 a,.i .i64 b])
set_option maxRecDepth 20000 in
set_option maxHeartbeats 4000000 in
theorem TI(os:List Int)(pw:List (List Int))(cj:List (List (List Int)))(h:AF os pw cj)(i:Nat)(hi:i<os.length)(hc:CG (pc os pw cj) (i+1))(nx:Nat)(H:HP):AC Tryz.prog 169 nx H [A5 os pw cj,.i .i64 i] (λBB H' r=>H'=H/\FT (Dk (pc os pw cj) i) r):=by
 have hv:=h.val
 have hg:=C0 hv hc
 have FU:=h.1.1
 have YN:=h.1.2.1
 have JN:=h.1.2.2
 have c7:=(h.2.2.2 i hi).2.1
 have e2:AV.v (pw.getD i []).length (List.map (AV.i IntKind.i64) (pw.getD i []))=vi os.length ((pc os pw cj).pw i):=D5 (h.pwl hi)
 have im:=λ{a:V}=>Y6 (P:=pc os pw cj) (i:=i) hv (λ_ _=>gH hv) a
 refine BA AA Tryz.func169 rfl A7 Tryz.ntmps169 Tryz.results169 (λCQ cX=>?_)
 refine ET ?_;refine ET ?_;refine ET ?_;refine AW.seq λN1 B2=>?_;refine ET ?_;apply AW.block;refine A8 (α:=Nat) (λx=>sl 180 [(0,A5 os pw cj),(1,.i .i64 i),(4,.q nx 0),(5,.i .i64 os.length),(6,.i .i64 i),(7,.i .i64 x)]) (λ_=>AT H nx (some [.i .i64 0,.i .i64 0,.i .i64 0,.i .i64 0])) (λx m=>(i+1<=x/\x<=os.length)/\∀j,i<j->j<x->rep (M (pc os pw cj) (i+1)) ((pc os pw cj).cj i j) ((pc os pw cj).o j).toNat=E2 (pc os pw cj) (M (pc os pw cj) (i+1)) i ((pc os pw cj).pw j)) (λx=>os.length-x) (i+1) ?_ ?_ (λ_ _ h=>h) ?_
 ·exact⟨⟨Nat.le_refl _,hi⟩,by intro j h1 h2;omega⟩
 ·simp(disch:=omega) [AN,AO,sl,A5,ints,rows,A6,vi]
 skip
 rintro j m ⟨⟨Cq,u9⟩,hI⟩
 simp only[A5];refine AG ?_;refine AW.seq λN2 B7=>?_;refine ET ?_;refine AW.cond rfl ?_ ?_<;>intro h1<;>try simp only[cn]at h1
 ·have ej:((j:Int)-i-1).toNat=j-i-1:=A0;have e1:AV.v ((cj.getD i []).getD (j-i-1) []).length (List.map (AV.i IntKind.i64) ((cj.getD i []).getD (j-i-1) []))=vi os.length ((pc os pw cj).cj i j):=D5 (h.An A0 A0);have e3:AV.v (pw.getD j []).length (List.map (AV.i IntKind.i64) (pw.getD j []))=vi os.length ((pc os pw cj).pw j):=D5 (h.pwl A0);have Nt:=h.o7 (show j<os.length by omega);have A6C:(pc os pw cj).o j=os.getD j 0:=rfl;have tj:=hv.cj i j A0 (show j<os.length by omega);have tp:=(hv.pw j (show j<os.length by omega)).mono hv (show i+1<=j+1 by omega);apply AW.skip;apply B7;refine AW.seq λN3 BC=>?_;apply AW.block;refine AW.seq λN hN=>?_;refine AM AA A7 34 A7 ?_
  (try simp-dsimp-implicitDefEqProofs(maxSteps:=800000) (disch:=omega)only[go_sem,List.drop_nil,List.drop_succ_cons,List.drop_zero,List.take_nil,List.take_succ_cons,List.take_zero,A6,DT,AL,BN,BW,BE,BF,ints,A5,rows,vi,AR,ej]);rw[e1];refine⟨_,.of (K5 h (i+1) hc _ tj _ A0 A0),?_⟩;refine UR ?_
  rw[e3];refine⟨_,.of ((GY os pw cj h i hi hc _ tp).pure),?_⟩;refine UR ?_
  refine⟨_,.of (HW A0 (hg.rep tj _) im),?_⟩;refine UR ?_
  apply hN;refine AW.cond rfl ?_ ?_<;>intro h2<;>try simp only[cn]at h2
  ·refine ET ?_;refine AH ?_;refine⟨H,by have:=CQ nx A0;intro d cs hd;simp only[AT];grind,rfl,?_⟩
   exact .inr ⟨λq=>h2 (q.pw j A0 (show j<os.length by omega)),_,_,_,_,A0,rfl⟩
  apply AW.skip;apply BC;refine UQ ?_;refine⟨j+1,?_,λ_ _ h=>h,?_,?_⟩
  ·simp(disch:=omega) [AN,AO,sl,A5,AR,ints,rows,A6,vi]<;>omega
  ·refine⟨A0,λk q1 q2=>?_⟩;by_cases e:k=j
   ·subst e;exact h2
   exact hI k q1 A0
  first|omega|(simp only;omega)
 have hI1:∀j,i<j->j<os.length->rep (M (pc os pw cj) (i+1)) ((pc os pw cj).cj i j) ((pc os pw cj).o j).toNat=E2 (pc os pw cj) (M (pc os pw cj) (i+1)) i ((pc os pw cj).pw j):=λk q1 q2=>hI k q1 A0
 apply AW.exit;apply B2;refine AW.seq λN4 CF=>?_;refine ET ?_;apply AW.block;refine A8 (α:=Nat) (λx=>sl 180 [(0,A5 os pw cj),(1,.i .i64 i),(4,.q nx 0),(5,.i .i64 os.length),(6,.i .i64 i),(8,.i .i64 x)]) (λ_=>AT H nx (some [.i .i64 0,.i .i64 0,.i .i64 0,.i .i64 0])) (λx m=>(i+1<=x/\x<=os.length)/\∀j k,i<j->j<x->j<k->k<os.length->M (pc os pw cj) (i+1) ((pc os pw cj).cj i k) ((pc os pw cj).cj i j)=M (pc os pw cj) (i+1) ((pc os pw cj).cj i j) (E2 (pc os pw cj) (M (pc os pw cj) (i+1)) i ((pc os pw cj).cj j k))) (λx=>os.length-x) (i+1) ?_ ?_ (λ_ _ h=>h) ?_
 ·exact⟨⟨Nat.le_refl _,hi⟩,by intro j k h1 h2;omega⟩
 ·simp(disch:=omega) [AN,AO,sl,A5,ints,rows,A6,vi]
 skip
 rintro j m ⟨⟨Cq,u9⟩,hI⟩
 simp only[A5];refine AG ?_;refine AW.seq λN5 DL=>?_;refine ET ?_;refine AW.cond rfl ?_ ?_<;>intro h3<;>try simp only[cn]at h3
 ·apply AW.skip;apply DL;refine AW.seq λN6 FR=>?_;apply AW.block;refine ET ?_;apply AW.block;refine A8 (α:=Nat) (λx=>sl 180 [(0,A5 os pw cj),(1,.i .i64 i),(4,.q nx 0),(5,.i .i64 os.length),(6,.i .i64 i),(8,.i .i64 j),(9,.i .i64 x)]) (λ_=>AT H nx (some [.i .i64 0,.i .i64 0,.i .i64 0,.i .i64 0])) (λx m=>(j+1<=x/\x<=os.length)/\∀k,j<k->k<x->M (pc os pw cj) (i+1) ((pc os pw cj).cj i k) ((pc os pw cj).cj i j)=M (pc os pw cj) (i+1) ((pc os pw cj).cj i j) (E2 (pc os pw cj) (M (pc os pw cj) (i+1)) i ((pc os pw cj).cj j k))) (λx=>os.length-x) (j+1) ?_ ?_ (λ_ _ h=>h) ?_
  ·exact⟨⟨Nat.le_refl _,A0⟩,by intro k h1 h2;omega⟩
  ·simp(disch:=omega) [AN,AO,sl,A5,ints,rows,A6,vi]
  skip
  rintro k m ⟨⟨FH,DN⟩,hK⟩;simp only[A5];refine AG ?_;refine AW.seq λN7 MV=>?_;refine ET ?_;refine AW.cond rfl ?_ ?_<;>intro h4<;>try simp only[cn]at h4
  ·have ej:((j:Int)-i-1).toNat=j-i-1:=A0;have ek:((k:Int)-i-1).toNat=k-i-1:=A0;have ejk:((k:Int)-j-1).toNat=k-j-1:=A0;have e1:AV.v ((cj.getD i []).getD (j-i-1) []).length (List.map (AV.i IntKind.i64) ((cj.getD i []).getD (j-i-1) []))=vi os.length ((pc os pw cj).cj i j):=D5 (h.An A0 A0);have e3:AV.v ((cj.getD i []).getD (k-i-1) []).length (List.map (AV.i IntKind.i64) ((cj.getD i []).getD (k-i-1) []))=vi os.length ((pc os pw cj).cj i k):=D5 (h.An A0 A0);have e4:AV.v ((cj.getD j []).getD (k-j-1) []).length (List.map (AV.i IntKind.i64) ((cj.getD j []).getD (k-j-1) []))=vi os.length ((pc os pw cj).cj j k):=D5 (h.An A0 A0);have AB7:=(h.2.2.2 j A0).2.1;have tj:=hv.cj i j A0 (show j<os.length by omega);have tk:=hv.cj i k A0 (show k<os.length by omega);have tjk:=(hv.cj j k A0 (show k<os.length by omega)).mono hv (show i+1<=j+1 by omega);have tcc:=hg.cl (EK hg tj).1 (hg.cl tk tj);apply AW.skip;apply MV;refine AW.seq λN8 OB=>?_;apply AW.block;refine AW.seq λN hN=>?_;refine AM AA A7 46 A7 ?_
   (try simp-dsimp-implicitDefEqProofs(maxSteps:=800000) (disch:=omega)only[go_sem,List.drop_nil,List.drop_succ_cons,List.drop_zero,List.take_nil,List.take_succ_cons,List.take_zero,A6,DT,AL,BN,BW,BE,BF,ints,A5,rows,vi,AR,ej,ek,ejk,e1,e3,e4]);refine⟨_,.of ((HX os pw cj h (i+1) hc _ _ tk tj).pure),?_⟩;refine UR ?_
   rw[show((k:Int)-j-1).toNat=k-j-1 from ejk,e4];refine⟨_,.of ((GY os pw cj h i hi hc _ tjk).pure),?_⟩;refine UR ?_
   refine⟨_,.of (HW A0 tcc im),?_⟩;refine UR ?_
   apply hN;refine AW.cond rfl ?_ ?_<;>intro h5<;>try simp only[cn]at h5
   ·refine ET ?_;refine AH ?_;refine⟨H,by have:=CQ nx A0;intro d cs hd;simp only[AT];grind,rfl,?_⟩
    exact .inr ⟨λq=>h5 ((UO hg tk tj im).2 (q.cj j k A0 A0 (show k<os.length by omega))),_,_,_,_,A0,rfl⟩
   apply AW.skip;apply OB;refine UQ ?_;refine⟨k+1,?_,λ_ _ h=>h,?_,?_⟩
   ·simp(disch:=omega) [AN,AO,sl,A5,AR,ints,rows,A6,vi]<;>omega
   ·refine⟨A0,λt q1 q2=>?_⟩;by_cases e:t=k
    ·subst e;exact(UO hg tk tj im).1 h5
    exact hK t q1 A0
   first|omega|(simp only;omega)
  apply AW.exit;apply FR;refine UQ ?_;refine⟨j+1,?_,λ_ _ h=>h,?_,?_⟩
  ·simp(disch:=omega) [AN,AO,sl,A5,AR,ints,rows,A6,vi]<;>omega
  ·refine⟨A0,λt k' q1 q2 q3 q4=>?_⟩;by_cases e:t=j
   ·subst e;exact hK k' q3 A0
   exact hI t k' q1 A0 q3 q4
  first|omega|(simp only;omega)
 have Ao:∀j k,i<j->j<k->k<os.length->M (pc os pw cj) (i+1) ((pc os pw cj).cj i k) ((pc os pw cj).cj i j)=M (pc os pw cj) (i+1) ((pc os pw cj).cj i j) (E2 (pc os pw cj) (M (pc os pw cj) (i+1)) i ((pc os pw cj).cj j k)):=λt k q1 q2 q3=>hI t k q1 A0 q2 q3
 apply AW.exit;apply CF;refine sQ λN hN=>?_;simp-dsimp-implicitDefEqProofs(maxSteps:=800000) (disch:=omega)only[go_sem,A6,DT,AL,BN,ints,A5,rows,vi,e2];apply hN;refine AW.seq λN9 SC=>?_;refine sQ λN hN=>?_;refine UR ?_;refine iG ((GY os pw cj h i hi hc _ (hv.pw i hi)).pure) ?_
 refine iG (HW A0 im (hv.pw i hi)) ?_
 apply hN;refine AW.cond rfl ?_ ?_<;>intro h6<;>try simp only[cn]at h6
 ·refine ET ?_;refine AH ?_;refine⟨H,by have:=CQ nx A0;intro d cs hd;simp only[AT];grind,rfl,?_⟩
  exact .inr ⟨λq=>h6 q.fx,_,_,_,_,A0,rfl⟩
 apply AW.skip;apply SC;refine AW.seq λAm IQ=>?_;refine ET ?_;apply AW.block;refine A8 (α:=Nat) (λx=>sl 180 [(0,A5 os pw cj),(1,.i .i64 i),(4,.q nx 0),(5,.i .i64 os.length),(6,.i .i64 i),(10,vi os.length ((pc os pw cj).pw i)),(11,.i .i64 x)]) (λ_=>AT H nx (some [.i .i64 0,.i .i64 0,.i .i64 0,.i .i64 0])) (λx m=>(i+1<=x/\x<=os.length)/\∀j,i<j->j<x->M (pc os pw cj) (i+1) ((pc os pw cj).pw i) (DG (E2 (pc os pw cj) (M (pc os pw cj) (i+1)) i) ((pc os pw cj).o i).toNat (un j))=M (pc os pw cj) (i+1) (un j) ((pc os pw cj).pw i)) (λx=>os.length-x) (i+1) ?_ ?_ (λ_ _ h=>h) ?_
 ·exact⟨⟨Nat.le_refl _,hi⟩,by intro j h1 h2;omega⟩
 ·simp(disch:=omega) [AN,AO,sl,A5,ints,rows,A6,vi]
 skip
 rintro j m ⟨⟨Cq,u9⟩,hI⟩
 simp only[A5,vi];refine AG ?_;refine AW.seq λDu JO=>?_;refine ET ?_;refine AW.cond rfl ?_ ?_<;>intro h7<;>try simp only[cn]at h7
 ·have tu:=nM hv (show i+1<=j by omega) (show j<os.length by omega);have bM:=h.o7 hi;have A0S:(pc os pw cj).o i=os.getD i 0:=rfl;apply AW.skip;apply JO;refine AW.seq λOt PA=>?_;apply AW.block;refine sQ λN hN=>?_;simp-dsimp-implicitDefEqProofs(maxSteps:=800000) (disch:=omega)only[go_sem,A6,DT,AL,BN,ints,A5,rows,vi];refine AC.pure (.of (M4 os.length j A0 A0)) ?_;(try simp-dsimp-implicitDefEqProofs(maxSteps:=800000) (disch:=omega)only[go_sem,A6,DT,AL,BN,ints,A5,rows,vi]);apply hN;refine AW.seq λN13 RG=>?_;refine ET ?_;apply AW.block;refine A8 (α:=Nat×V) (λx=>sl 180 [(0,A5 os pw cj),(1,.i .i64 i),(4,.q nx 0),(5,.i .i64 os.length),(6,.i .i64 i),(10,vi os.length ((pc os pw cj).pw i)),(11,.i .i64 j),(12,vi os.length x.2),(159,.i .i64 (os.getD i 0)),(160,.i .i64 x.1)]) (λ_=>AT H nx (some [.i .i64 0,.i .i64 0,.i .i64 0,.i .i64 0])) (λx m=>x.1<=(os.getD i 0).toNat/\T (pc os pw cj) (i+1) x.2/\x.2=DG (E2 (pc os pw cj) (M (pc os pw cj) (i+1)) i) x.1 (un j)) (λx=>(os.getD i 0).toNat-x.1) ((0,un j)) ?_ ?_ (λ_ _ h=>h) ?_
  ·exact⟨Nat.zero_le _,tu,rfl⟩
  ·simp(disch:=omega) [AN,AO,sl,A5,ints,rows,A6,vi]
  skip
  rintro⟨q,w⟩ m ⟨hq,hw,he⟩;dsimp only at hq hw he;simp only[A5,vi];refine AG ?_;refine ET ?_;refine AW.seq λN14 RH=>?_;refine AW.cond rfl ?_ ?_<;>intro h8<;>try simp only[cn]at h8
  ·apply AW.skip;apply RH;refine AW.seq λN15 kC=>?_;apply AW.block;refine UQ ?_;refine iG ((GY os pw cj h i hi hc _ hw).pure) ?_
   apply kC;refine UQ ?_;refine⟨(q+1,E2 (pc os pw cj) (M (pc os pw cj) (i+1)) i w),?_,λ_ _ h=>h,?_,?_⟩
   ·simp(disch:=omega) [AN,AO,sl,A5,AR,ints,rows,A6,vi]<;>omega
   ·exact⟨A9,im,by rw[he];rfl⟩
   first|omega|(simp only;omega)
  obtain rfl:q=(os.getD i 0).toNat:=A0;have tp:=hv.pw i hi;have tcc:=hg.cl (EK hg tp).1 (hg.cl tu tp);apply AW.exit;apply RG;refine sQ λN hN=>?_;refine UR ?_;refine iG (M4 os.length j A0 A0) ?_
  refine iG ((HX os pw cj h (i+1) hc _ _ tu tp).pure) ?_
  refine iG (HW A0 hw tcc) ?_
  apply hN;refine AW.cond rfl ?_ ?_<;>intro h9<;>try simp only[cn]at h9
  ·refine ET ?_;refine AH ?_;refine⟨H,by have:=CQ nx A0;intro d cs hd;simp only[AT];grind,rfl,?_⟩
   rw[he]at h9;exact .inr ⟨λq=>h9 ((UO hg tu tp (he▸hw)).2 (q.inn j A0 (show j<os.length by omega)).symm).symm,_,_,_,_,A0,rfl⟩
  apply AW.skip;apply PA;refine UQ ?_;refine⟨j+1,?_,λ_ _ h=>h,?_,?_⟩
  ·simp(disch:=omega) [AN,AO,sl,A5,AR,ints,rows,A6,vi]<;>omega
  ·refine⟨A0,λk q1 q2=>?_⟩;by_cases e:k=j
   ·subst e;rw[he]at h9;exact((UO hg tu tp (he▸hw)).1 h9.symm).symm
   exact hI k q1 A0
  first|omega|(simp only;omega)
 apply AW.exit;apply IQ;refine ET ?_;refine AH ?_;refine⟨H,by have:=CQ nx A0;intro d cs hd;simp only[AT];grind,rfl,?_⟩
 exact .inl ⟨⟨λj q1 q2=>hI1 j q1 q2,λj k q1 q2 q3=>Ao j k q1 q2 q3,h6,λj q1 q2=>hI j q1 (by have:j<os.length:=q2;omega)⟩,rfl⟩
theorem OE(os:List Int)(pw:List (List Int))(cj:List (List (List Int)))(h:AF os pw cj)(nx:Nat)(H:HP):AC Tryz.prog 98 nx H [A5 os pw cj] (λ_ H' r=>H=H'/\∃x:Nat,r= .i .i64 x/\(x=0↔CG (pc os pw cj) 0)):=by
 have hv:=h.val
 have FU:=h.1.1
 refine BA AA Tryz.func98 rfl A7 Tryz.ntmps98 Tryz.results98 (λCQ cX=>?_)
 refine jZ ?_;refine jZ ?_;refine AW.seq λN1 B2=>?_;apply AW.block;refine A8 (α:=Nat) (λx=>sl 22 [(0,A5 os pw cj),(3,.i .i64 x)]) (λ_=>H) (λx m=>x<=os.length/\CG (pc os pw cj) x) (λx=>x) (os.length) ?_ ?_ (λ_ _ h=>h) ?_
 ·exact⟨Nat.le_refl _,λi h1 h2=>absurd h2 (by have:(pc os pw cj).n=os.length:=rfl;omega)⟩
 ·simp(disch:=omega) [AN,AO,sl,A5,ints,rows,A6]
 skip
 rintro x m ⟨hx,hI⟩
 simp only[A5];refine AG ?_;refine AW.seq λN2 B7=>?_;refine sQ λN hN=>?_;refine rI ?_;refine CH.mk' (λh1=>?_) (λh1=>?_)
 ·try simp only[cn]at h1
  obtain⟨i,rfl⟩:∃i,x=i+1:=⟨x-1,A0⟩;refine rI ?_
  rw[show((i+1:Nat):Int)-1=i by omega];refine(TI os pw cj h i A0 hI _ _).AS ?_;rintro m1 H1 r1 T6 ⟨rfl,(⟨hC,rfl⟩|⟨hC,k,l,a,b,hk,rfl⟩)⟩
  ·skip
   refine AG ?_
   apply hN;refine AW.cond rfl ?_ ?_<;>intro h2<;>try simp only[cn]at h2
   ·apply AW.skip;apply B7;apply AW.block;apply rQ;simp-dsimp-implicitDefEqProofs(maxSteps:=800000) (disch:=omega)only[go_sem,A6,ints,A5,rows];refine⟨i,?_,λ_ _ h=>h,?_,?_⟩
    ·simp(disch:=omega) [AN,AO,sl,A5,AR,ints,rows,A6]<;>omega
    ·refine⟨A9,λt q1 q2=>?_⟩;by_cases e:t=i
     ·subst e;exact hC
     exact hI t A0 q2
    first|omega|(simp only;omega)
   simp at h2
  skip
  refine AG ?_
  apply hN;refine AW.cond rfl ?_ ?_<;>intro h3<;>try simp only[cn]at h3
  ·exact absurd h3.1 hk
  apply AW.exit;apply B2;refine jZ ?_;refine AH ?_;exact⟨_,Le.refl _,rfl,i+1,rfl,⟨λq=>A0,λq=>absurd (q i (Nat.zero_le _) (show i<os.length by omega)) hC⟩⟩
 try simp only[cn]at h1
 refine rI ?_
 apply hN;refine B4 rfl ?_;apply AW.exit;apply B2;refine jZ ?_;refine AH ?_;obtain rfl:x=0:=A0
 exact⟨_,Le.refl _,rfl,0,rfl,⟨λ_=>hI,λ_=>rfl⟩⟩
theorem FK(os:List Int)(pw:List (List Int))(cj:List (List (List Int)))(hl:GB os pw cj):BI Tryz.prog 40 [AP os pw cj] (.b (tf (AF os pw cj/\CG (pc os pw cj) 0))):=by
 refine AD AA Tryz.func40 rfl A7 Tryz.ntmps40 Tryz.results40 (.b _) (λnx cX=>?_)
 refine sQ λN hN=>?_;simp-dsimp-implicitDefEqProofs(maxSteps:=800000) (disch:=omega)only[go_sem,A6,ints,AP,rows];apply hN;refine AK 1 nx _ rfl (A4 _ _ _) ?_
 refine AG ?_;refine sQ λN hN=>?_;refine bZ ?_;refine rG (OC os pw cj hl) ?_
 refine CH.mk' (λh1=>?_) (λh1=>?_)
 ·try simp only[cn]at h1
  refine bZ ?_
  refine(OE os pw cj h1 _ _).AS ?_;rintro m1 H1 r1 T6 ⟨rfl,x,rfl,hx⟩;refine bZ ?_
  apply hN;refine AH ?_;exact bt (by by_cases q:x=0<;>simp[q,D2,C8,h1,<-hx])
 try simp only[cn]at h1
 refine bZ ?_
 apply hN;apply AW.ret;simp-dsimp-implicitDefEqProofs(disch:=omega)only[go_sem];all_goals exact bt (C8 (λq=>h1 q.1)).symm
def Ed(os:List Int)(pw:List (List Int))(cj:List (List (List Int))):Prop:=AF os pw cj/\CG (pc os pw cj) 0
def Q4(g:Int)(w:List Int):Prop:=w.length<=64/\∀j,j<w.length->w.getD j 0≠0/\-g<=w.getD j 0/\w.getD j 0<=g
def fpP(g:Int)(rs:List (List Int)):Prop:=(0<=g/\g<=4)/\rs.length<=12/\∀k,k<rs.length->Q4 g (rs.getD k [])
def fp(g:Int)(rs:List (List Int)):AV:= .g [.i .i64 g,rows rs]
theorem WV(g:Int)(w:List Int)(hg:0<=g/\g<=1000)(hw:w.length<=1099511627776):BI Tryz.prog 166 [.i .i64 g,ints w] (.b (tf (Q4 g w))):=by
 refine AD AA Tryz.func166 rfl A7 Tryz.ntmps166 Tryz.results166 (.b _) (λnx cX=>?_)
 refine C1 ?_;refine AW.seq λN1 B2=>?_;refine C1 ?_;apply AW.block;refine A8 (α:=Nat) (λx=>sl 27 [(0,.i .i64 g),(1,ints w),(7,ints w),(8,.i .i64 w.length),(9,.i .i64 x)]) (λ_=>BM) (λx m=>x<=w.length/\∀j,j<x->w.getD j 0≠0/\-g<=w.getD j 0/\w.getD j 0<=g) (λx=>w.length-x) (0) ?_ ?_ (λ_ _ h=>h) ?_
 ·exact⟨A0,by intro j hj;omega⟩
 ·simp(disch:=omega) [AN,AO,sl,AR,ints,rows,A6,ints,AL,AR]<;>omega
 skip
 rintro k m ⟨hk,hI⟩
 refine AG ?_;refine C1 ?_;refine AW.seq λN2 B7=>?_;refine AW.cond rfl ?_ ?_<;>intro h1<;>try simp only[cn]at h1
 ·apply AW.skip;apply B7;refine AW.seq λN3 BC=>?_;apply AW.block;refine C1 ?_;refine sQ λN hN=>?_;refine NA ?_;refine CH.mk' (λh2=>?_) (λh2=>?_)
  ·try simp only[cn]at h2
   refine NA ?_
   refine AC.pure (.of (HQ _ _ _)) ?_;(try simp-dsimp-implicitDefEqProofs(maxSteps:=800000) (disch:=omega)only[go_sem,AL,ints])
   apply hN;refine AW.cond rfl ?_ ?_<;>intro h3<;>try simp only[cn]at h3
   ·refine C1 ?_;refine AH ?_;exact bt (C8 (λh=>h3 (by have:=(h.2 k A0).2;omega))).symm
   apply AW.skip;apply BC;refine II ?_;refine⟨k+1,?_,λ_ _ h=>h,?_,?_⟩
   ·simp(disch:=omega) [AN,AO,sl,AR,ints,rows,A6,ints,AL,AR]<;>omega
   ·refine⟨A0,λj hj=>?_⟩;by_cases e:j=k
    ·subst e;exact⟨h2,A0⟩
    exact hI j A0
   first|omega|(simp only;omega)
  try simp only[cn]at h2
  refine NA ?_
  apply hN;refine CI rfl ?_;refine C1 ?_;refine AH ?_;exact bt (C8 (λh=>(h.2 k A0).1 h2)).symm
 apply AW.exit;apply B2;refine C1 ?_;refine AH ?_;refine bt ?_
 by_cases hc:w.length<=64
 ·rw[D2 ⟨hc,λj hj=>hI j A0⟩];simp;omega
 rw[C8 (λh=>hc h.1)];simp;omega
theorem OT(k:Int):BI Tryz.prog 31 [.i .i64 k] (.b (tf (0<=k/\k<=6))):=by
 refine AD AA Tryz.func31 rfl A7 Tryz.ntmps31 Tryz.results31 (.b _) (λnx cX=>?_)
 refine B8 ?_;refine N0 (HQ _ _ _) ?_;apply AW.ret;simp-dsimp-implicitDefEqProofs(disch:=omega)only[go_sem];skip
def A6D:Bool->Int
  |true=>0
  |false=>1
noncomputable def vF(g:Int)(rs:List (List Int)):Int:=A6D (tf (∀k,k<rs.length->Q4 g (rs.getD k [])))
theorem WW(g:Int)(rs:List (List Int))(hg:0<=g/\g<=6)(hr:BO rs):BI Tryz.prog 96 [.i .i64 g,rows rs] (.i .i64 (vF g rs)):=by
 have hn:=hr.n
 refine AD AA Tryz.func96 rfl A7 Tryz.ntmps96 Tryz.results96 (.i _ _) (λnx cX=>?_)
 refine DK ?_;refine AW.seq λN1 B2=>?_;refine Dd (OT _) ?_;refine AW.cond rfl ?_ ?_<;>intro h1<;>try simp only[cn]at h1
 ·refine DK ?_;refine AH ?_;exact absurd hg A0
 apply AW.skip;apply B2;refine AW.seq λN2 B7=>?_;refine DK ?_;apply AW.block;refine A8 (α:=Nat) (λx=>sl 21 [(0,.i .i64 g),(10,rows rs),(11,.i .i64 rs.length),(12,.i .i64 x)]) (λ_=>BM) (λx m=>x<=rs.length/\(∀j,j<x->Q4 g (rs.getD j []))) (λx=>rs.length-x) (0) ?_ ?_ (λ_ _ h=>h) ?_
 ·exact⟨A0,by intro j hj;omega⟩
 ·simp(disch:=omega) [AN,AO,sl,AR,ints,rows,A6,rows,BN,AR]<;>omega
 skip
 rintro k m ⟨hk,hI⟩
 refine AG ?_;refine DK ?_;refine AW.seq λN3 BC=>?_;refine AW.cond rfl ?_ ?_<;>intro h2<;>try simp only[cn]at h2
 ·apply AW.skip;apply BC;refine AW.seq λN4 CF=>?_;apply AW.block;refine DK ?_;refine Dd (WV g (rs.getD k []) ⟨hg.1,A0⟩ (by have:=hr.getD k;omega)) ?_;refine AW.cond rfl ?_ ?_<;>intro h3<;>try simp only[cn]at h3
  ·refine DK ?_;refine AH ?_;rw[vF,C8 (λh=>h3 (h k A0))];rfl
  apply AW.skip;apply CF;refine TA ?_;refine⟨k+1,?_,λ_ _ h=>h,?_,?_⟩
  ·simp(disch:=omega) [AN,AO,sl,AR,ints,rows,A6,rows,BN,AR]<;>omega
  ·refine⟨A0,λj hj=>?_⟩;by_cases e:j=k
   ·subst e;exact h3
   exact hI j A0
  first|omega|(simp only;omega)
 apply AW.exit;apply B7;refine DK ?_;refine AH ?_;rw[vF,D2 (λj hj=>hI j A0)];rfl
theorem rN{cX n ops y s s1 K}(q:AW cX Tryz.prog y s1 K)(e:BV ops s s1:=by intro N hN;(try simp-dsimp-implicitDefEqProofs(maxSteps:=800000) (disch:=omega)only[go_sem,fp,BN,rows]);exact hN):BU cX n ops y s K:=BY q e
theorem rO{P Q:Prop}(q:Q)(e:Q->P:=by intro q;(try simp-dsimp-implicitDefEqProofs(maxSteps:=800000) (disch:=omega)only[go_sem,fp,BN,rows]);exact q):P:=e q
theorem UU(g:Int)(rs:List (List Int))(hr:BO rs):BI Tryz.prog 39 [fp g rs] (.b (tf (fpP g rs))):=by
 have hn:=hr.n
 refine AD AA Tryz.func39 rfl A7 Tryz.ntmps39 Tryz.results39 (.b _) (λnx cX=>?_)
 refine rN ?_;refine AW.seq λN1 B2=>?_;refine sQ λN hN=>?_;refine rO ?_;refine AC.pure (.of (HQ _ _ _)) ?_;(try simp-dsimp-implicitDefEqProofs(maxSteps:=800000) (disch:=omega)only[go_sem,fp,BN,rows])
 refine CH.mk' (λh1=>?_) (λh1=>?_)
 ·try simp only[cn]at h1
  refine rO ?_
  apply hN;refine AW.cond rfl ?_ ?_<;>intro h2<;>try simp only[cn]at h2
  ·refine rN ?_;refine AH ?_;exact bt (C8 (λh=>by have:=h.2.1;omega)).symm
  apply AW.skip;apply B2;refine sQ λN hN=>?_;simp-dsimp-implicitDefEqProofs(maxSteps:=800000) (disch:=omega)only[go_sem,fp,BN,rows];refine AC.pure (.of (WW g rs ⟨h1.1,A0⟩ hr)) ?_;(try simp-dsimp-implicitDefEqProofs(maxSteps:=800000) (disch:=omega)only[go_sem,fp,BN,rows]);apply hN;refine AH ?_;refine bt ?_;unfold vF;by_cases hc:∀k,k<rs.length->Q4 g (rs.getD k [])
  ·rw[D2 hc,D2 ⟨h1,A0,hc⟩];rfl
  rw[C8 hc,C8 (λh=>hc h.2.2)];rfl
 try simp only[cn]at h1
 refine rO ?_
 apply hN;refine CI rfl ?_;refine rN ?_;refine AH ?_;exact bt (C8 (λh=>h1 h.1)).symm
section
variable{P:Pc}
theorem A0W(hv:GX P){j:Nat}(hj:j<P.n)(hg:JU (T P (j+1)) (M P (j+1))){y:V}(ty:T P (j+1) y){a:Int}(h0:0<=a)(h1:a<P.o j):M P j (AX z0 j a) y=AX y j a:=by
  have hy:=ty.z j A0;rw[UL hj];unfold mF;rw[hy,D4,if_neg A0,FW,M0,GW hy];show AX (M P (j+1) z0 y) j _=_
  rw[hg.l1 ty];congr 1;omega
theorem A6E(hv:GX P){j:Nat}(hj:j<P.n)(hg:JU (T P (j+1)) (M P (j+1))){a:Int}(h0:0<a)(h1:a<P.o j):M P j (AX z0 j a) (AX z0 j (P.o j-a))=P.pw j:=by
  rw[UL hj];unfold mF;rw[D4,D4,if_pos A0,FW,FW,M0,nO hv,hg.l1 hg.e0,hg.r1 (hv.pw j hj)];exact GW (by rw[(hv.pw j hj).z j A0];omega)
theorem Oz(hv:GX P){j:Nat}(hj:j<P.n)(hg:JU (T P j) (M P j))(PI:JU (T P (j+1)) (M P (j+1))){x:V}(hx:T P j x)(h0:x j≠0):
    inv P j x=M P j (M P j (inv P (j+1) (AX x j 0)) (AX z0 j (P.o j-x j))) (inv P (j+1) (P.pw j)):=by
  have hr:=hx.r j (Nat.le_refl _) hj;have tz:=T.zero hv (j+1);obtain⟨t1,t2⟩:=EK PI hx.cut;obtain⟨t3,t4⟩:=EK PI (hv.pw j hj);have u1:T P j (AX z0 j (x j)):=T.put hj tz hr.1 hr.2;have u2:T P j (AX z0 j (P.o j-x j)):=T.put hj tz A0 A0;have m1:=t1.mono hv (show j<=j+1 by omega);have m3:=t3.mono hv (show j<=j+1 by omega);have mc:=hx.cut.mono hv (show j<=j+1 by omega);have mp:=(hv.pw j hj).mono hv (show j<=j+1 by omega);refine(inv_eq hg hx (hg.cl (hg.cl m1 u2) m3) ?_).symm;have e1:M P j x (inv P (j+1) (AX x j 0))=AX z0 j (x j):=by
    have e2:x=M P j (AX z0 j (x j)) (AX x j 0):=by rw[A0W hv hj PI hx.cut hr.1 hr.2,nN]
    have e3:M P j (M P j (AX z0 j (x j)) (AX x j 0)) (inv P (j+1) (AX x j 0))=AX z0 j (x j):=by
      rw[hg.ac u1 mc m1,jW hv hx.cut t1,t2,hg.r1 u1]
    rw[<-e2]at e3;exact e3
  rw[<-hg.ac hx (hg.cl m1 u2) m3,<-hg.ac hx m1 u2,e1,A6E hv hj PI A0 hr.2,jW hv (hv.pw j hj) t3,t4]
theorem Ee(hv:GX P){j:Nat}(hj:j<P.n)(hg:JU (T P j) (M P j))(PI:JU (T P (j+1)) (M P (j+1))){x:V}(hx:T P j x)(h0:x j=0):inv P j x=inv P (j+1) (AX x j 0):=by
  obtain⟨t1,t2⟩:=EK PI hx.cut;refine(inv_eq hg hx (t1.mono hv A0) ?_).symm;have e:AX x j 0=x:=GW h0;have t0:=hx.cut;rw[e]at t1 t2 t0 ⊢;rw[jW hv t0 t1,t2]
end
theorem UW(os:List Int)(pw:List (List Int))(cj:List (List (List Int)))(h:AF os pw cj)(i:Nat)(hi:i<os.length)(hc:CG (pc os pw cj) i)(hF:∀a,T (pc os pw cj) (i+1) a->BI Tryz.prog 239 [AP os pw cj,.i .i64 ((i:Int)+1),vi os.length a] (vi os.length (inv (pc os pw cj) (i+1) a)))(a:V)(ha:T (pc os pw cj) i a):BI Tryz.prog 239 [AP os pw cj,.i .i64 i,vi os.length a] (vi os.length (inv (pc os pw cj) i a)):=by
 have hv:=h.val
 have FU:=h.1.1
 have YN:=h.1.2.1
 have hg:=C0 hv hc
 have PI:=C0 hv (hc.mono (show i<=i+1 by omega))
 have bM:=h.o7 hi
 have A0S:(pc os pw cj).o i=os.getD i 0:=rfl
 have hri:=ha.r i (Nat.le_refl _) hi
 have e2:AV.v (pw.getD i []).length (List.map (AV.i IntKind.i64) (pw.getD i []))=vi os.length ((pc os pw cj).pw i):=D5 (h.pwl hi)
 have t1:=(EK PI ha.cut).1.mono hv (show i<=i+1 by omega)
 have t3:=(EK PI (hv.pw i hi)).1.mono hv (show i<=i+1 by omega)
 refine AD AA Tryz.func239 rfl A7 Tryz.ntmps239 Tryz.results239 (J8 _ _) (λnx cX=>?_)
 refine c9 ?_;refine AK 3 nx _ rfl (A4 _ _ _) ?_
 refine AG ?_;refine c9 ?_;refine AW.seq λN1 B2=>?_;refine c9 ?_;refine AW.cond rfl ?_ ?_<;>intro h1<;>try simp only[cn]at h1
 ·exfalso;omega
 apply AW.skip;apply B2;refine sQ λN hN=>?_;refine cF ?_;refine(GP a A0 _ _).mono ?_
 rintro Us H1 r1 ⟨iF,rfl,g1,g2,rfl⟩
 refine cF ?_
 apply hN;refine c9 ?_;refine CZ 8 iF os.length (D3 os.length (AX a i 0)) rfl (by simp(disch:=omega)only[A4,A1]) CR ?_
 refine AG ?_;refine sQ λN hN=>?_;simp-dsimp-implicitDefEqProofs(maxSteps:=800000) (disch:=omega)only[go_sem,A6,AL,BN,ints,AP,A5,rows,vi];refine AC.pure (.of (hF _ ha.cut)) ?_;(try simp-dsimp-implicitDefEqProofs(maxSteps:=800000) (disch:=omega)only[go_sem,A6,AL,BN,ints,AP,A5,rows,vi]);apply hN;refine AW.seq λN2 B7=>?_;refine c9 ?_;refine AW.cond rfl ?_ ?_<;>intro h2<;>try simp only[cn]at h2
 ·refine c9 ?_;refine AH ?_;rw[Ee hv hi hg PI ha h2];rfl
 have hai:0<a i:=A0
 have tu:T (pc os pw cj) i (AX z0 i ((pc os pw cj).o i-a i)):=T.put hi (T.zero hv _) A0 A0
 apply AW.skip;apply B7;refine c9 ?_;rw[CO]
 refine AW.seq λN hN=>?_;refine AM AA A7 13 A7 ?_
 refine Eb ?_;apply hN;refine CZ 10 (Us+4+6+5+1) os.length (D3 os.length (AX z0 i ((pc os pw cj).o i-a i))) rfl (A4 _ _ _) CR ?_
 refine AG ?_;refine AW.seq λN hN=>?_;refine AM AA A7 18 A7 ?_
 refine Eb ?_;refine⟨_,.of (EE os pw cj h i A0 _ _ t1 tu),?_⟩
 refine cF ?_
 rw[e2]
 refine⟨_,.of (hF _ (hv.pw i hi)),?_⟩
 refine cF ?_
 refine⟨_,.of (EE os pw cj h i A0 _ _ (hg.cl t1 tu) t3),?_⟩
 refine cF ?_
 apply hN;refine AH ?_;rw[Oz hv hi hg PI ha A0];rfl
theorem WX(os:List Int)(pw:List (List Int))(cj:List (List (List Int)))(h:AF os pw cj)(a:V)(ha:T (pc os pw cj) os.length a):BI Tryz.prog 239 [AP os pw cj,.i .i64 os.length,vi os.length a] (vi os.length (inv (pc os pw cj) os.length a)):=by
 have FU:=h.1.1
 have hg:=C0 h.val (show CG (pc os pw cj) os.length from λi h1 h2=>absurd h2 (by have:(pc os pw cj).n=os.length:=rfl;omega))
 refine B5 AA Tryz.func239 rfl A7 Tryz.ntmps239 Tryz.results239 ((J8 _ _)) (λnx cX=>?_)
 refine M3 ?_;refine AK 3 nx _ rfl (A4 _ _ _) ?_
 refine AG ?_;refine M3 ?_;refine AW.seq λN1 B2=>?_;refine M3 ?_;refine AW.cond rfl ?_ ?_<;>intro h1<;>try simp only[cn]at h1
 ·refine M3 ?_;refine AH ?_;refine Vw.vi ?_
  rw[A4,CO,<-inv_eq hg ha hg.e0 (gG (P:=pc os pw cj) (Nat.le_refl _) _ _)];rfl
 simp at h1
theorem YX(os:List Int)(pw:List (List Int))(cj:List (List (List Int)))(h:AF os pw cj):∀(i:Nat),i<=os.length->CG (pc os pw cj) i->∀a,T (pc os pw cj) i a->
    BI Tryz.prog 239 [AP os pw cj,.i .i64 i,vi os.length a] (vi os.length (inv (pc os pw cj) i a)):=by
  have key:∀d i,i+d=os.length->CG (pc os pw cj) i->∀a,T (pc os pw cj) i a->
      BI Tryz.prog 239 [AP os pw cj,.i .i64 i,vi os.length a] (vi os.length (inv (pc os pw cj) i a)):=by
    intro d;induction d with
    |zero=>intro i hi _ a ha;obtain rfl:i=os.length:=hi;exact WX os pw cj h a ha
    | succ d ih=>
      intro i hi hc a ha;refine UW os pw cj h i A0 hc (λa ha=>?_) a ha;have:=ih (i+1) A0 (hc.mono A0) a ha;rwa [Int.natCast_add]at this
  exact λi hi=>key (os.length-i) i A0
section
variable(os:List Int)(pw:List (List Int))(cj:List (List (List Int)))
theorem cJ(h:AF os pw cj)(hc:CG (pc os pw cj) 0)(a:V)(ha:T (pc os pw cj) 0 a):BI Tryz.prog 182 [AP os pw cj,vi os.length a] (vi os.length (inv (pc os pw cj) 0 a)):=by
 refine AD AA Tryz.func182 rfl A7 Tryz.ntmps182 Tryz.results182 (J8 _ _) (λnx cX=>?_)
 refine C2 ?_;refine AK 2 nx _ rfl (A4 _ _ _) ?_
 refine AG ?_;refine OS (YX os pw cj h 0 (Nat.zero_le _) hc a ha) ?_;apply AW.ret;simp-dsimp-implicitDefEqProofs(disch:=omega)only[go_sem];try rfl
theorem KX(h:AF os pw cj)(a b:V)(ha:T (pc os pw cj) 0 a)(hb:T (pc os pw cj) 0 b):BI Tryz.prog 158 [AP os pw cj,vi os.length a,vi os.length b] (vi os.length (M (pc os pw cj) 0 a b)):=by
 refine AD AA Tryz.func158 rfl A7 Tryz.ntmps158 Tryz.results158 (J8 _ _) (λnx cX=>?_)
 refine C2 ?_;refine AK 3 nx _ rfl (A4 _ _ _) ?_
 refine AG ?_;refine OS (EE os pw cj h 0 (Nat.zero_le _) a b ha hb) ?_;apply AW.ret;simp-dsimp-implicitDefEqProofs(disch:=omega)only[go_sem];try rfl
theorem cK(hn:os.length<=1048576):BI Tryz.prog 213 [AP os pw cj] (vi os.length z0):=by
 refine B5 AA Tryz.func213 rfl A7 Tryz.ntmps213 Tryz.results213 ((J8 _ _)) (λnx cX=>?_)
 refine HR ?_;refine AK 1 nx _ rfl (A4 _ _ _) ?_
 refine AG ?_;refine HR ?_;refine AH ?_;refine Vw.vi ?_
 rw[A4,CO];rfl
end
def YY(os:List Int)(xs:List (List Int)):Prop:=∀k,k<xs.length->exP os (xs.getD k [])
end Go.Proofs.YtgknbnkmilddhaaGreat

namespace Go.Proofs.YtgknbnkmilddhaaGreat
def Uu(l:Int):Int:=if 0<l then l else-l
def iK(l:Int):Nat:=(Uu l-1).toNat
theorem Q4.get{n:Nat}{w:List Int}(h:Q4 n w){k:Nat}(hk:k<w.length):iK (w.getD k 0)<n/\Uu (w.getD k 0)-1=iK (w.getD k 0)/\1<=Uu (w.getD k 0)/\Uu (w.getD k 0)<=n:=by
  have:=h.2 k hk;unfold iK Uu;split<;>omega
theorem nS(l:Int)(hl: -1000<=l/\l<=1000):BI Tryz.prog 137 [.i .i64 l] (.i .i64 (Uu l)):=by
 refine AD AA Tryz.func137 rfl A7 Tryz.ntmps137 Tryz.results137 (.i _ _) (λnx cX=>?_)
 refine B8 ?_;refine B8 ?_;refine AH ?_;refine it ?_
 unfold Uu
 split<;>split<;>omega
theorem UX(a:Int):BI Tryz.prog 196 [.i .i64 a] (.b false):=by
 refine AD AA Tryz.func196 rfl A7 Tryz.ntmps196 Tryz.results196 (.b _) (λnx cX=>?_)
 refine B8 ?_;refine B8 ?_;refine AH ?_;simp
def cmp(a b:Int):Int:=if a<b then-1 else if b<a then 1 else 0
theorem Q5(a b:Int):BI Tryz.prog 144 [.i .i64 a,.i .i64 b] (.i .i64 (cmp a b)):=by
 refine AD AA Tryz.func144 rfl A7 Tryz.ntmps144 Tryz.results144 (.i _ _) (λnx cX=>?_)
 refine B8 ?_;refine N0 (UX a) ?_;refine N0 (UX b) ?_;refine AW.seq λN1 B2=>?_;refine B8 ?_;refine AW.cond rfl ?_ ?_<;>intro h1<;>try simp only[cn]at h1
 ·refine AW.seq λN2 B7=>?_;refine B8 ?_;refine AW.cond rfl ?_ ?_<;>intro h2<;>try simp only[cn]at h2
  ·refine B8 ?_;refine AH ?_;first|contradiction|skip
   all_goals refine it ?_
   all_goals unfold cmp
   all_goals repeat' split
   all_goals omega
  apply AW.skip;apply B7;refine B8 ?_;refine AH ?_;first|contradiction|skip
  all_goals refine it ?_
  all_goals unfold cmp
  all_goals repeat' split
  all_goals omega
 apply AW.skip;apply B2;refine AW.seq λN3 BC=>?_;refine B8 ?_;refine AW.cond rfl ?_ ?_<;>intro h3<;>try simp only[cn]at h3
 ·refine B8 ?_;refine AH ?_;first|contradiction|skip
  all_goals refine it ?_
  all_goals unfold cmp
  all_goals repeat' split
  all_goals omega
 apply AW.skip;apply BC;refine AW.seq λN4 CF=>?_;refine B8 ?_;refine AW.cond rfl ?_ ?_<;>intro h4<;>try simp only[cn]at h4
 ·refine B8 ?_;refine AH ?_;first|contradiction|skip
  all_goals refine it ?_
  all_goals unfold cmp
  all_goals repeat' split
  all_goals omega
 apply AW.skip;apply CF;refine AW.seq λN5 DL=>?_;refine B8 ?_;refine AW.cond rfl ?_ ?_<;>intro h5<;>try simp only[cn]at h5
 ·refine B8 ?_;refine AH ?_;first|contradiction|skip
  all_goals refine it ?_
  all_goals unfold cmp
  all_goals repeat' split
  all_goals omega
 apply AW.skip;apply DL;refine B8 ?_;refine AH ?_;first|contradiction|skip
 all_goals refine it ?_
 all_goals unfold cmp
 all_goals repeat' split
 all_goals omega
end Go.Proofs.YtgknbnkmilddhaaGreat

namespace Go.Proofs.YtgknbnkmilddhaaGreat
def imX(xs:List (List Int))(k:Nat):V:=fl (xs.getD k [])
noncomputable def ltV(P:Pc)(xs:List (List Int))(l:Int):V:=if 0<l then imX xs (iK l)else inv P 0 (imX xs (iK l))
noncomputable def Ap(P:Pc)(xs:List (List Int))(w:List Int):Nat->V
  |0=>z0
  |k+1=>M P 0 (Ap P xs w k) (ltV P xs (w.getD k 0))
def z6(P:Pc)(xs:List (List Int))(rs:List (List Int)):Prop:=∀i,i<rs.length->Ap P xs (rs.getD i []) (rs.getD i []).length=z0
section
variable{os:List Int}{pw:List (List Int)}{cj:List (List (List Int))}
theorem vG{xs:List (List Int)}(hx:YY os xs){k:Nat}(hk:k<xs.length):T (pc os pw cj) 0 (imX xs k):=(hx k hk).T
theorem A0X{xs:List (List Int)}(hx:YY os xs){k:Nat}(hk:k<xs.length):AV.v (xs.getD k []).length (List.map (AV.i IntKind.i64) (xs.getD k []))=vi os.length (imX xs k):=D5 (hx k hk).1
theorem A6F(h:AF os pw cj)(hc:CG (pc os pw cj) 0){xs:List (List Int)}(hx:YY os xs){l:Int}(hl:iK l<xs.length):T (pc os pw cj) 0 (ltV (pc os pw cj) xs l):=by
  unfold ltV;split
  · exact vG hx hl
  exact(EK (C0 h.val hc) (vG hx hl)).1
theorem Uv(h:AF os pw cj)(hc:CG (pc os pw cj) 0){xs:List (List Int)}(hx:YY os xs){w:List Int}(hw:Q4 xs.length w):∀k,k<=w.length->T (pc os pw cj) 0 (Ap (pc os pw cj) xs w k):=by
  intro k;induction k with
  |zero=>intro _;exact T.zero h.val 0
  | succ k ih=>
    intro hk;exact gH h.val (ih A0) (A6F h hc hx (hw.get A0).1)
theorem Pa{i:Nat}{f:V}(hf:T (pc os pw cj) i f):nK (vec os.length f)↔f=z0:=by
  constructor
  · intro h;funext k
    by_cases e:k<os.length
    · have:=h k (by rw[BL];exact e);rwa [K3 e]at this
    exact hf.t k (by have:(pc os pw cj).n=os.length:=rfl;omega)
  rintro rfl k hk;rw[BL]at hk;rw[K3 hk];rfl
theorem gJ{i:Nat}{f:V}(hn:os.length<=1048576)(hf:T (pc os pw cj) i f):BI Tryz.prog 99 [vi os.length f] (.b (tf (f=z0))):=by
  have:=PX (vec os.length f) (by rw[BL];omega);rw[E3]at this;rwa [bQ (Pa hf)]at this
end
theorem WY(os:List Int)(pw:List (List Int))(cj:List (List (List Int)))(h:AF os pw cj)(hc:CG (pc os pw cj) 0)(xs:List (List Int))(hx:YY os xs)(hxl:xs.length<=1000)(w:List Int)(hw:Q4 xs.length w):gE Tryz.prog 100 [A5 os pw cj,ints w,rows xs] (vi os.length (Ap (pc os pw cj) xs w w.length)):=by
 have FU:=h.1.1
 have nT:=hw.1
 have vE:=(NH os pw cj h 0 hc).1
 intro nx
 refine BS AA Tryz.func100 rfl A7 Tryz.ntmps100 Tryz.results100 (λcX=>?_)
 refine cA ?_;refine cA ?_;refine AW.seq λN1 B2=>?_;refine cA ?_;apply AW.block;refine A8 (α:=Nat) (λx=>sl 40 [(0,A5 os pw cj),(2,rows xs),(7,.h (nx+1+5) 0 os.length),(17,ints w),(18,.i .i64 w.length),(19,.i .i64 x)]) (λx=>AT BM (nx+1+5) (some (D3 os.length (Ap (pc os pw cj) xs w x)))) (λx m=>x<=w.length/\nx+7<=m) (λx=>w.length-x) (0) ?_ ?_ (by rw[CO];exact Le.refl _) ?_
 ·exact⟨A0,A9⟩
 ·simp(disch:=omega) [AN,AO,sl,A5,ints,rows,A6,vi]
 skip
 rintro k m ⟨hk,hm⟩
 simp only[vi,A5];refine AG ?_;refine cA ?_;refine AW.seq λN2 B7=>?_;refine AW.cond rfl ?_ ?_<;>intro h1<;>try simp only[cn]at h1
 ·obtain⟨q1,q2,q3,q4⟩:=hw.get (k:=k) A0;have q7:=hw.2 k A0;have e4:=A0X hx q1;have tx:=vG (pw:=pw) (cj:=cj) hx q1;have tk:=Uv h hc hx hw k hk;have q9:(Uu (w.getD k 0)-1).toNat=iK (w.getD k 0):=rfl;apply AW.skip;apply B7;refine AW.seq λN3 BC=>?_;apply AW.block;refine cA ?_;refine sQ λN hN=>?_;simp-dsimp-implicitDefEqProofs(maxSteps:=800000) (disch:=omega)only[go_sem,A6,AL,BN,ints,A5,rows,vi];refine AC.pure (.of (nS (w.getD k 0) A0)) ?_;(try simp-dsimp-implicitDefEqProofs(maxSteps:=800000) (disch:=omega)only[go_sem,AL,BN,ints,rows,q9,e4]);apply hN;refine AW.seq λN4 CF=>?_;refine cA ?_;refine AW.cond rfl ?_ ?_<;>intro h2<;>try simp only[cn]at h2
  ·have ek:M (pc os pw cj) 0 (Ap (pc os pw cj) xs w k) (inv (pc os pw cj) 0 (imX xs (iK (w.getD k 0))))=Ap (pc os pw cj) xs w (k+1):=by rw[Ap,ltV,if_neg A0]
   have ti:=(EK (C0 h.val hc) tx).1;refine cG ?_;refine AC.pure (.of ((KW os pw cj h 0 hc _ tx).pure)) ?_;(try simp-dsimp-implicitDefEqProofs(maxSteps:=800000) (disch:=omega)only[go_sem,A6,AL,BN,ints,A5,rows,vi])
   apply CF;refine cG ?_;refine(vE _ _ (nx+1+5) _ _ (A4 _ _ _) tk ti).AS ?_;rintro m2 H2 r2 LN rfl;rw[UN h.val tk ti,ek];(try simp-dsimp-implicitDefEqProofs(maxSteps:=800000) (disch:=omega)only[go_sem,A6,AL,BN,ints,A5,rows,vi])
   apply BC;refine cG ?_;refine⟨k+1,?_,λ_ _ h=>h,?_,?_⟩
   ·simp(disch:=omega) [AN,AO,sl,A5,AR,ints,rows,A6,vi]<;>omega
   ·exact⟨A9,A9⟩
   first|omega|(simp only;omega)
  have ek:M (pc os pw cj) 0 (Ap (pc os pw cj) xs w k) (imX xs (iK (w.getD k 0)))=Ap (pc os pw cj) xs w (k+1):=by rw[Ap,ltV,if_pos A0]
  apply AW.skip;apply CF;refine cG ?_;refine(vE _ _ (nx+1+5) _ _ (A4 _ _ _) tk tx).AS ?_;rintro m2 H2 r2 LN rfl;rw[UN h.val tk tx,ek];(try simp-dsimp-implicitDefEqProofs(maxSteps:=800000) (disch:=omega)only[go_sem,A6,AL,BN,ints,A5,rows,vi])
  apply BC;refine cG ?_;refine⟨k+1,?_,λ_ _ h=>h,?_,?_⟩
  ·simp(disch:=omega) [AN,AO,sl,A5,AR,ints,rows,A6,vi]<;>omega
  ·exact⟨A9,A9⟩
  first|omega|(simp only;omega)
 apply AW.exit;apply B2;refine cA ?_;refine AH ?_;obtain rfl:k=w.length:=A0
 exact Own.vi (A4 _ _ _) A0 A0
theorem WZ(rs:List (List Int))(os:List Int)(pw:List (List Int))(cj:List (List (List Int)))(h:AF os pw cj)(hc:CG (pc os pw cj) 0)(xs:List (List Int))(hx:YY os xs)(hxl:xs.length<=1000)(hr:BO rs)(hw:∀k,k<rs.length->Q4 xs.length (rs.getD k [])):BI Tryz.prog 43 [rows rs,A5 os pw cj,rows xs] (.b (tf (z6 (pc os pw cj) xs rs))):=by
 have FU:=h.1.1
 have hrn:=hr.n
 refine AD AA Tryz.func43 rfl A7 Tryz.ntmps43 Tryz.results43 (.b _) (λnx cX=>?_)
 refine iE ?_;refine AW.seq λN1 B2=>?_;refine iE ?_;apply AW.block;refine A8 (α:=Nat) (λx=>sl 22 [(1,A5 os pw cj),(2,rows xs),(9,rows rs),(10,.i .i64 rs.length),(11,.i .i64 x)]) (λ_=>BM) (λx m=>x<=rs.length/\∀j,j<x->Ap (pc os pw cj) xs (rs.getD j []) (rs.getD j []).length=z0) (λx=>rs.length-x) (0) ?_ ?_ (λ_ _ h=>h) ?_
 ·exact⟨A0,by intro j hj;omega⟩
 ·simp(disch:=omega) [AN,AO,sl,A5,ints,rows,A6,vi]
 skip
 rintro k m ⟨hk,hI⟩
 simp only[A5];refine AG ?_;refine iE ?_;refine AW.seq λN2 B7=>?_;refine AW.cond rfl ?_ ?_<;>intro h1<;>try simp only[cn]at h1
 ·apply AW.skip;apply B7;refine AW.seq λN3 BC=>?_;apply AW.block;refine iE ?_;refine sQ λN hN=>?_;(try simp-dsimp-implicitDefEqProofs(maxSteps:=800000) (disch:=omega)only[go_sem,BN,A5,rows]);refine AC.pure (.of ((WY os pw cj h hc xs hx hxl (rs.getD k []) (hw k A0)).pure)) ?_;(try simp-dsimp-implicitDefEqProofs(maxSteps:=800000) (disch:=omega)only[go_sem,BN,A5,rows])
  refine AC.pure (.of (gJ A0 (Uv h hc hx (hw k A0) _ (Nat.le_refl _)))) ?_;(try simp-dsimp-implicitDefEqProofs(maxSteps:=800000) (disch:=omega)only[go_sem,BN,A5,rows])
  apply hN;refine AW.cond rfl ?_ ?_<;>intro h2<;>try simp only[cn]at h2
  ·refine iE ?_;refine AH ?_;exact bt (C8 (λq=>h2 (q k A0))).symm
  apply AW.skip;apply BC;apply rQ;simp-dsimp-implicitDefEqProofs(maxSteps:=800000) (disch:=omega)only[go_sem,BN,A5,rows];refine⟨k+1,?_,λ_ _ h=>h,?_,?_⟩
  ·simp(disch:=omega) [AN,AO,sl,A5,AR,ints,rows,A6,vi]<;>omega
  ·refine⟨A0,λj hj=>?_⟩;by_cases e:j=k
   ·subst e;exact h2
   exact hI j A0
  first|omega|(simp only;omega)
 apply AW.exit;apply B2;refine iE ?_;refine AH ?_;exact bt (D2 (λj hj=>hI j A0)).symm
end Go.Proofs.YtgknbnkmilddhaaGreat

namespace Go.Proofs.YtgknbnkmilddhaaGreat
def aD(n:Nat)(f:Nat->Bool):List AV:=(List.range n).map λk=> .b (f k)
def rP(f:Nat->Bool)(j:Nat)(x:Bool):Nat->Bool:=λk=>if k=j then x else f k
theorem HY{n:Nat}{f:Nat->Bool}:(aD n f).length=n:=by simp[aD]
theorem Pb{n:Nat}{f:Nat->Bool}{j:Nat}(h:j<n):(aD n f).getD j .j= .b (f j):=by simp[aD,h]
theorem vH{n:Nat}{f:Nat->Bool}{j:Nat}{x:Bool}(h:j<n):B3 (aD n f) j [.b x]=aD n (rP f j x):=by
  rw[EW _ _ _ (by rw[HY];exact h)];apply List.ext_getElem?;intro i;rw[List.getElem?_set];by_cases hi:j=i
  · subst hi;simp[aD,rP,h]
  simp only[hi,if_false,aD,List.getElem?_map];by_cases hn:i<n
  · simp[hn,rP,Ne.symm hi]
  simp[hn]
theorem nU{n:Nat}:List.replicate n (.b false)=aD n (λ_=>false):=by
  apply List.ext_getElem?;intro i;by_cases h:i<n<;>simp[aD,h]
attribute [go_sem] HY Pb vH
end Go.Proofs.YtgknbnkmilddhaaGreat

namespace Go.Proofs.YtgknbnkmilddhaaGreat

section
variable{os:List Int}{pw:List (List Int)}{cj:List (List (List Int))}(h:AF os pw cj){xs:List (List Int)}(hx:YY os xs){tb:List (List Int)}(hl:tb.length<=xs.length)
include h hx hl
end
theorem PY.cell{H:HP}{i j n k:Nat}{cs ds:List AV}(h1:H i=some cs)(hk:cs[k]? =some (.h j 0 n))(h2:H j=some ds)(hn:ds.length=n)(NZ:i≠j):PY H (AT (AT H j none) i (some (cs.set k (.v n ds)))):=by
  intro q CT hq;by_cases e:q=i
  · subst e;rw[A4]at hq;cases hq;refine⟨_,h1,AB,λz x y hx hy=>?_⟩;rw[List.getElem?_set]at hy;split at hy
    · rename_i hz;subst hz;rw[hk]at hx;cases hx;split at hy
      · cases hy;exact .h j 0 n ds ds h2 (by rw[A1 _ _ (Ne.symm NZ),A4]) A0 hn (λq x y h1 h2=>by rw[Nat.zero_add,h2]at h1;cases h1;exact .refl _)
      cases hy
    rw[hx]at hy;cases hy;exact .refl _
  rw[A1 _ _ e]at hq;by_cases e2:q=j
  · subst e2;rw[A4]at hq;cases hq
  rw[A1 _ _ e2]at hq;exact⟨CT,hq,rfl,λq x y h1 h2=>by rw[h1]at h2;cases h2;exact .refl _⟩
theorem z7{cX:Ctx}{P:Program}{c:Code}{s:St}{K:Exit->St->Prop}(i j n k:Nat)(cs ds:List AV)(h1:s.H i=some cs)(hk:cs[k]? =some (.h j 0 n))(h2:s.H j=some ds)(hn:ds.length=n)(NZ:i≠j)
    (hs:AW cX P c ⟨s.t,AT (AT s.H j none) i (some (cs.set k (.v n ds))),s.nx⟩ K):AW cX P c s K:=
  AW.fz (s':=⟨s.t,AT (AT s.H j none) i (some (cs.set k (.v n ds))),s.nx⟩) ⟨UH,PY.cell h1 hk h2 hn NZ,Nat.le_refl _⟩ hs
end Go.Proofs.YtgknbnkmilddhaaGreat
