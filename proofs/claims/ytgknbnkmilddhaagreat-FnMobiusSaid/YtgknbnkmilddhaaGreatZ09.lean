import Derived.Test.YtgknbnkmilddhaaGreatZ08
set_option linter.unusedVariables false
set_option linter.unusedSimpArgs false

namespace Go.Proofs.YtgknbnkmilddhaaGreat
def AP(os:List Int)(pw:List (List Int))(cj:List (List (List Int))):AV:= .g [ints os,rows pw,A6 cj]
def A5(os:List Int)(pw:List (List Int))(cj:List (List (List Int))):AV:= .p 0 [ints os,rows pw,A6 cj]
def Dr(os v:List Int)(z:Int):Prop:=v.length=os.length/\∀k,k<v.length->(0<=v.getD k 0/\v.getD k 0<=os.getD k 0-1)/\((k:Int)<=z->v.getD k 0=0)
def lvP(os:List Int)(pw:List (List Int))(cj:List (List (List Int)))(i:Nat):Prop:=
  Dr os (pw.getD i []) i/\(cj.getD i []).length+1+i=os.length/\∀k,k<(cj.getD i []).length->Dr os ((cj.getD i []).getD k []) i
def CV(os:List Int):Nat->Int
  |0=>1
  |k+1=>CV os k*os.getD k 0
def AF(os:List Int)(pw:List (List Int))(cj:List (List (List Int))):Prop:=
  (os.length<=6/\pw.length=os.length/\cj.length=os.length)/\(∀i,i<os.length->JG (os.getD i 0))/\CV os os.length<=729/\∀i,i<os.length->lvP os pw cj i
def NC(os:List Int):Nat->Int
  |0=>1
  |k+1=>if NC os k<=729 then NC os k*os.getD k 0 else NC os k
theorem Q1{a b:Int}{A B:Int}(ha:1<=a)(WB:a<=A)(hb:1<=b)(La:b<=B):1<=a*b/\a*b<=A*B/\a<=a*b:=by
  have h1:1*1<=a*b:=Int.mul_le_mul ha hb A0 A0;have h2:a*b<=A*B:=Int.mul_le_mul WB La A0 A0;have h3:a*1<=a*b:=Int.mul_le_mul (Int.le_refl _) hb A0 A0;omega
theorem aC{os:List Int}(h:∀i,i<os.length->JG (os.getD i 0)):∀k,k<=os.length->(1<=NC os k/\NC os k<=5103)/\((NC os k<=729/\NC os k=CV os k)\/(729<NC os k/\729<CV os k)):=by
  intro k;induction k with
  |zero=>intro _;simp[NC,CV]
  | succ k ih=>
    intro hk;obtain⟨⟨h1,h2⟩,h3⟩:=ih A0;have h4:=CE (h k A0);simp only[NC,CV];split
    · rename_i hs;have h5:=Q1 h1 hs (show 1<=os.getD k 0 by omega) (show os.getD k 0<=7 by omega);rcases h3 with h3|h3
      · rw[<-h3.2];refine⟨A0,?_⟩;omega
      omega
    rename_i hs;rcases h3 with h3|h3
    · omega
    have h6:1<=CV os k:=A0;have h7:=Q1 h6 (Int.le_refl _) (show 1<=os.getD k 0 by omega) (show os.getD k 0<=7 by omega);refine⟨A0,.inr ⟨A0,A0⟩⟩
theorem M1{os:List Int}(h:∀i,i<os.length->JG (os.getD i 0)):∀k,k<=os.length->1<=CV os k:=by
  intro k hk;have:=aC h k hk;omega
theorem ND{os:List Int}(h:∀i,i<os.length->JG (os.getD i 0)){k:Nat}:∀d,k+d<=os.length->CV os k<=CV os (k+d):=by
  intro d;induction d with
  |zero=>intro _;exact Int.le_refl _
  | succ d ih=>
    intro hd;have h1:=ih A0;have h2:=CE (h (k+d) A0);have h3:=M1 h (k+d) A0;have h4:=Q1 h3 (Int.le_refl _) (show 1<=os.getD (k+d) 0 by omega) (show os.getD (k+d) 0<=7 by omega);show CV os k<=CV os (k+d)*os.getD (k+d) 0
    omega
theorem J7(os v:List Int)(z:Int)(ho:os.length<=1048576)(bV:∀k,k<os.length->0<=os.getD k 0/\os.getD k 0<=1000)(hv:v.length<=1048576):BI Tryz.prog 165 [ints os,ints v,.i .i64 z] (.b (tf (Dr os v z))):=by
 refine AD AA Tryz.func165 rfl A7 Tryz.ntmps165 Tryz.results165 (.b _) (λnx cX=>?_)
 refine C1 ?_;refine AW.seq λN1 B2=>?_;refine C1 ?_;refine AW.cond rfl ?_ ?_<;>intro h1<;>try simp only[cn]at h1
 ·refine C1 ?_;refine AH ?_;exact bt (C8 (λh=>h1 (by rw[h.1]))).symm
 apply AW.skip;apply B2;refine AW.seq λN2 B7=>?_;refine C1 ?_;apply AW.block;refine A8 (α:=Nat) (λx=>sl 42 [(0,ints os),(1,ints v),(2,.i .i64 z),(7,.i .i64 x)]) (λ_=>BM) (λx m=>x<=v.length/\∀k,k<x->(0<=v.getD k 0/\v.getD k 0<=os.getD k 0-1)/\((k:Int)<=z->v.getD k 0=0)) (λx=>v.length-x) (0) ?_ ?_ (λ_ _ h=>h) ?_
 ·exact⟨A0,by intro j hj;omega⟩
 ·simp(disch:=omega) [AN,AO,sl,AR,ints,rows,A6,ints,AL,AR]<;>omega
 skip
 rintro k m ⟨hk,hI⟩
 refine AG ?_;refine AW.seq λN3 BC=>?_;refine C1 ?_;refine AW.cond rfl ?_ ?_<;>intro h2<;>try simp only[cn]at h2
 ·have hkb:=bV k A0;apply AW.skip;apply BC;refine AW.seq λN4 CF=>?_;apply AW.block;refine AW.seq λN hN=>?_;refine AM AA A7 23 A7 ?_
  refine De ?_;refine⟨_,.of (GO _ _ _),?_⟩;refine NA ?_
  refine CH.mk' (λh3=>?_) (λh3=>?_)
  ·try simp only[cn]at h3
   refine NA ?_
   refine CH.mk' (λh4=>?_) (λh4=>?_)
   ·(try simp only[cn]at h4);refine NA ?_
    apply hN;refine AW.cond rfl ?_ ?_<;>intro h5<;>try simp only[cn]at h5
    ·refine C1 ?_;refine AH ?_;exact bt (C8 (λh=>h5 ((h.2 k A0).2 h4))).symm
    apply AW.skip;apply CF;refine II ?_;refine⟨k+1,?_,λ_ _ h=>h,?_,?_⟩
    ·simp(disch:=omega) [AN,AO,sl,AR,ints,rows,A6,ints,AL,AR]<;>omega
    ·refine⟨A0,λj hj=>?_⟩;by_cases e:j=k
     ·subst e;exact⟨h3,λ_=>h5⟩
     exact hI j A0
    first|omega|(simp only;omega)
   try simp only[cn]at h4
   refine NA ?_
   apply hN;refine B4 rfl ?_;apply AW.skip;apply CF;refine II ?_;refine⟨k+1,?_,λ_ _ h=>h,?_,?_⟩
   ·simp(disch:=omega) [AN,AO,sl,AR,ints,rows,A6,ints,AL,AR]<;>omega
   ·refine⟨A0,λj hj=>?_⟩;by_cases e:j=k
    ·subst e;exact⟨h3,λq=>absurd q A0⟩
    exact hI j A0
   first|omega|(simp only;omega)
  try simp only[cn]at h3
  refine NA ?_
  apply hN;refine CI rfl ?_;refine C1 ?_;refine AH ?_;exact bt (C8 (λh=>h3 (h.2 k A0).1)).symm
 apply AW.exit;apply B7;refine C1 ?_;refine AH ?_;exact bt (D2 ⟨A0,λj hj=>hI j A0⟩).symm
def exP(os v:List Int):Prop:=v.length=os.length/\∀k,k<v.length->0<=v.getD k 0/\v.getD k 0<=os.getD k 0-1
theorem vD{os v:List Int}{i:Nat}(hi:i<os.length):Dr os v i↔exP os v/\nK (v.take (i+1)):=by
  constructor
  · intro h;refine⟨⟨h.1,λk hk=>(h.2 k hk).1⟩,λj hj=>?_⟩;have hl:=h.1;rw[List.length_take]at hj;rw[getD_take _ _ A0];exact(h.2 j A0).2 A0
  rintro⟨h1,h2⟩;refine⟨h1.1,λk hk=>⟨h1.2 k hk,λq=>?_⟩⟩;have hl:=h1.1;have:=h2 k (by rw[List.length_take];omega);rwa [getD_take _ _ A0]at this
theorem YA{cX n ops y s s1 K}(q:AW cX Tryz.prog y s1 K)(e:BV ops s s1:=by intro N hN;(try simp-dsimp-implicitDefEqProofs(maxSteps:=800000) (disch:=omega)only[go_sem,A6,AL,ints,A5,rows]);exact hN):BU cX n ops y s K:=BY q e
theorem JV(os:List Int)(pw:List (List Int))(cj:List (List (List Int)))(v:List Int)(ho:os.length<=1048576)(bV:∀k,k<os.length->0<=os.getD k 0/\os.getD k 0<=1000)(hv:v.length<=1048576):BI Tryz.prog 101 [A5 os pw cj,ints v] (.b (tf (exP os v))):=by
 refine AD AA Tryz.func101 rfl A7 Tryz.ntmps101 Tryz.results101 (.b _) (λnx cX=>?_)
 refine YA ?_;refine AW.seq λN1 B2=>?_;refine YA ?_;refine AW.cond rfl ?_ ?_<;>intro h1<;>try simp only[cn]at h1
 ·refine YA ?_;refine AH ?_;exact bt (C8 (λh=>h1 (by rw[h.1]))).symm
 apply AW.skip;apply B2;refine AW.seq λN2 B7=>?_;refine YA ?_;apply AW.block;refine A8 (α:=Nat) (λx=>sl 34 [(0,A5 os pw cj),(15,ints v),(16,.i .i64 v.length),(17,.i .i64 x)]) (λ_=>BM) (λx m=>x<=v.length/\∀k,k<x->0<=v.getD k 0/\v.getD k 0<=os.getD k 0-1) (λx=>v.length-x) (0) ?_ ?_ (λ_ _ h=>h) ?_
 ·exact⟨A0,by intro j hj;omega⟩
 ·simp(disch:=omega) [AN,AO,sl,AR,ints,rows,A6,A5,ints,rows,A6,AL,AR]<;>omega
 skip
 rintro k m ⟨hk,hI⟩
 refine AG ?_;refine YA ?_;refine AW.seq λN3 BC=>?_;refine AW.cond rfl ?_ ?_<;>intro h2<;>try simp only[cn]at h2
 ·have hkb:=bV k A0;apply AW.skip;apply BC;refine AW.seq λN4 CF=>?_;apply AW.block;refine YA ?_;refine sQ λN hN=>?_;simp-dsimp-implicitDefEqProofs(maxSteps:=800000) (disch:=omega)only[go_sem,A6,AL,ints,A5,rows];refine AC.pure (.of (HQ _ _ _)) ?_;(try simp-dsimp-implicitDefEqProofs(maxSteps:=800000) (disch:=omega)only[go_sem,A6,AL,ints,A5,rows]);apply hN;refine AW.cond rfl ?_ ?_<;>intro h3<;>try simp only[cn]at h3
  ·refine YA ?_;refine AH ?_;exact bt (C8 (λh=>h3 (h.2 k A0))).symm
  apply AW.skip;apply CF;apply rQ;simp-dsimp-implicitDefEqProofs(maxSteps:=800000) (disch:=omega)only[go_sem,A6,AL,ints,A5,rows];refine⟨k+1,?_,λ_ _ h=>h,?_,?_⟩
  ·simp(disch:=omega) [AN,AO,sl,AR,ints,rows,A6,A5,ints,rows,A6,AL,AR]<;>omega
  ·refine⟨A0,λj hj=>?_⟩;by_cases e:j=k
   ·subst e;exact h3
   exact hI j A0
  first|omega|(simp only;omega)
 apply AW.exit;apply B7;refine YA ?_;refine AH ?_;exact bt (D2 ⟨A0,λj hj=>hI j A0⟩).symm
theorem KR(os:List Int)(pw:List (List Int))(cj:List (List (List Int)))(i:Nat)(hi:i<os.length)(v:List Int)(ho:os.length<=1048576)(bV:∀k,k<os.length->0<=os.getD k 0/\os.getD k 0<=1000)(hv:v.length<=1048576):BI Tryz.prog 168 [A5 os pw cj,.i .i64 i,ints v] (.b (tf (Dr os v i))):=by
 refine AD AA Tryz.func168 rfl A7 Tryz.ntmps168 Tryz.results168 (.b _) (λnx cX=>?_)
 refine jS ?_;refine sQ λN hN=>?_;refine TB ?_;refine AC.pure (.of (JV os pw cj v ho bV hv)) ?_;(try simp-dsimp-implicitDefEqProofs(maxSteps:=800000) (disch:=omega)only[go_sem,ints])
 refine CH.mk' (λh1=>?_) (λh1=>?_)
 ·try simp only[cn]at h1
  refine TB ?_
  have hvl:=h1.1;refine⟨A0,?_⟩;rw[yR _ A0];refine AC.pure (.of (PX (v.take (i+1)) (by simp;omega))) ?_;(try simp-dsimp-implicitDefEqProofs(maxSteps:=800000) (disch:=omega)only[go_sem,ints])
  apply hN;refine AH ?_;exact bt (bQ (by rw[vD hi];exact⟨λh=>⟨h1,h⟩,λh=>h.2⟩))
 try simp only[cn]at h1
 refine TB ?_
 apply hN;refine AH ?_;exact bt (C8 (λh=>h1 ((vD hi).1 h).1)).symm
theorem EX(os:List Int)(ho:os.length<=6)(hp:∀i,i<os.length->JG (os.getD i 0)):BI Tryz.prog 95 [ints os] (.i .i64 (NC os os.length)):=by
 refine AD AA Tryz.func95 rfl A7 Tryz.ntmps95 Tryz.results95 (.i _ _) (λnx cX=>?_)
 refine C1 ?_;refine C1 ?_;refine AW.seq λN1 B2=>?_;refine C1 ?_;apply AW.block;refine A8 (α:=Nat) (λx=>sl 20 [(0,ints os),(3,.i .i64 (NC os x)),(4,.i .i64 x)]) (λ_=>BM) (λx m=>x<=os.length) (λx=>os.length-x) (0) ?_ ?_ (λ_ _ h=>h) ?_
 ·omega
 ·simp(disch:=omega) [AN,AO,sl,ints,NC]
 skip
 rintro k m hk
 refine AG ?_;refine AW.seq λN2 B7=>?_;refine C1 ?_;refine AW.cond rfl ?_ ?_<;>intro h1<;>try simp only[cn]at h1
 ·have h5:=aC hp k A0;have h4:=CE (hp k A0);apply AW.skip;apply B7;refine AW.seq λN3 BC=>?_;apply AW.block;refine C1 ?_;refine AW.cond rfl ?_ ?_<;>intro h2<;>try simp only[cn]at h2
  ·have h6:=Q1 h5.1.1 h2 (show 1<=os.getD k 0 by omega) (show os.getD k 0<=7 by omega);have h7:NC os (k+1)=NC os k*os.getD k 0:=by rw[NC,if_pos h2]
   refine II ?_;apply BC;refine II ?_;refine⟨k+1,?_,λ_ _ h=>h,?_,?_⟩
   ·simp(disch:=omega) [AN,AO,sl,AR,ints,h7]<;>omega
   ·omega
   first|omega|(simp only;omega)
  have h7:NC os (k+1)=NC os k:=by rw[NC,if_neg A0]
  apply AW.skip;apply BC;refine II ?_;refine⟨k+1,?_,λ_ _ h=>h,?_,?_⟩
  ·simp(disch:=omega) [AN,AO,sl,AR,ints,h7]<;>omega
  ·omega
  first|omega|(simp only;omega)
 apply AW.exit;apply B2;refine C1 ?_;refine AH ?_;rw[show k=os.length by omega]
structure GB(os:List Int)(pw:List (List Int))(cj:List (List (List Int))):Prop where
  o:os.length<=1048576
  r:QT pw cj
theorem AF.ob{os:List Int}{pw:List (List Int)}{cj:List (List (List Int))}(h:∀i,i<os.length->JG (os.getD i 0)):∀k,k<os.length->0<=os.getD k 0/\os.getD k 0<=1000:=λk hk=>by have:=CE (h k hk);omega
theorem F2{cX n ops y s s1 K}(q:AW cX Tryz.prog y s1 K)(e:BV ops s s1:=by intro N hN;(try simp-dsimp-implicitDefEqProofs(maxSteps:=800000) (disch:=omega)only[go_sem,A6,DT,AL,BN,ints,AP,rows]);exact hN):BU cX n ops y s K:=BY q e
theorem HF{P Q:Prop}(q:Q)(e:Q->P:=by intro q;(try simp-dsimp-implicitDefEqProofs(maxSteps:=800000) (disch:=omega)only[go_sem,A6,DT,AL,BN,ints,AP,rows]);exact q):P:=e q
theorem Ds{cX n ops y s s1 K f Zz r}(x:BI Tryz.prog f Zz r)(q:AW cX Tryz.prog y s1 K)(e:BI Tryz.prog f Zz r->BV ops s s1:=by intro x N hN;(try simp-dsimp-implicitDefEqProofs(maxSteps:=800000) (disch:=omega)only[go_sem,A6,DT,AL,BN,ints,AP,rows]);refine AC.pure (.of x) ?_;(try simp-dsimp-implicitDefEqProofs(maxSteps:=800000) (disch:=omega)only[go_sem,A6,DT,AL,BN,ints,AP,rows]);exact hN):BU cX n ops y s K:=BY q (e x)
theorem bW{cX n ops s}{K:Exit->St->Prop}{Q:Prop}(q:Q)(e:Q->DW env Tryz.prog ops s.nx ops 0 ⟨s.t,s.H,s.nx+ops.length⟩ (K .normal):=by intro q;(try simp-dsimp-implicitDefEqProofs(maxSteps:=800000) (disch:=omega)only[go_sem,A6,DT,AL,BN,ints,AP,rows]);exact q):AW cX Tryz.prog (.region n ops.toArray false) s K:=rQ (e q)
theorem Dt{P Q:Prop}(q:Q)(e:Q->P:=by intro q;(try simp-dsimp-implicitDefEqProofs(maxSteps:=800000) (disch:=omega)only[go_sem,List.drop_nil,List.drop_succ_cons,List.drop_zero,List.take_nil,List.take_succ_cons,List.take_zero,A6,DT,AL,BN,BW,BE,BF,ints,AP,rows,AR]);exact q):P:=e q
theorem CS(os:List Int)(pw:List (List Int))(cj:List (List (List Int)))(hl:GB os pw cj):BI Tryz.prog 94 [AP os pw cj] (.b (tf (AF os pw cj))):=by
 have ho:=hl.o
 have hn:=hl.r.n
 have hb:=hl.r.b
 refine AD AA Tryz.func94 rfl A7 Tryz.ntmps94 Tryz.results94 (.b _) (λnx cX=>?_)
 refine F2 ?_;refine AK 1 nx _ rfl (A4 _ _ _) ?_
 refine AG ?_;refine F2 ?_;refine AW.seq λN1 B2=>?_;refine sQ λN hN=>?_;refine HF ?_;refine CH.mk' (λh1=>?_) (λh1=>?_)
 ·try simp only[cn]at h1
  refine HF ?_
  refine CH.mk' (λh2=>?_) (λh2=>?_)
  ·try simp only[cn]at h2
   refine HF ?_
   apply hN;refine AW.cond rfl ?_ ?_<;>intro h3<;>try simp only[cn]at h3
   ·refine F2 ?_;refine AH ?_;exact bt (C8 (λh=>h3 (by rw[h.1.2.2]))).symm
   apply AW.skip;apply B2;refine AW.seq λN2 B7=>?_;refine F2 ?_;apply AW.block;refine A8 (α:=Nat) (λx=>sl 93 [(1,A5 os pw cj),(3,.i .i64 os.length),(4,.i .i64 x)]) (λ_=>BM) (λx m=>x<=os.length/\∀j,j<x->JG (os.getD j 0)) (λx=>os.length-x) (0) ?_ ?_ (Le.del (by simp[BM])) ?_
   ·exact⟨A0,by intro j hj;omega⟩
   ·simp(disch:=omega) [AN,AO,sl,A5,ints,rows,A6]
   skip
   rintro k m ⟨hk,hI⟩;refine AG ?_;simp only[A5];refine AW.seq λN3 BC=>?_;refine F2 ?_;refine AW.cond rfl ?_ ?_<;>intro h4<;>try simp only[cn]at h4
   ·apply AW.skip;apply BC;refine AW.seq λN4 CF=>?_;apply AW.block;refine Ds (IN _) ?_;refine AW.cond rfl ?_ ?_<;>intro h5<;>try simp only[cn]at h5
    ·refine F2 ?_;refine AH ?_;exact bt (C8 (λh=>h5 (h.2.1 k A0))).symm
    apply AW.skip;apply CF;refine bW ?_;refine⟨k+1,?_,λ_ _ h=>h,?_,?_⟩
    ·simp(disch:=omega) [AN,AO,sl,A5,AR,ints,rows,A6]<;>omega
    ·refine⟨A0,λj hj=>?_⟩;by_cases e:j=k
     ·subst e;exact h5
     exact hI j A0
    first|omega|(simp only;omega)
   have IY:∀i,i<os.length->JG (os.getD i 0):=λi hi=>hI i A0
   have bV:=AF.ob (pw:=pw) (cj:=cj) IY;have qB:=aC IY os.length (Nat.le_refl _);apply AW.exit;apply B7;refine AW.seq λN5 DL=>?_;refine Ds (EX os A0 IY) ?_;refine AW.cond rfl ?_ ?_<;>intro h6<;>try simp only[cn]at h6
   ·refine F2 ?_;refine AH ?_;exact bt (C8 (λh=>by have:=h.2.2.1;omega)).symm
   apply AW.skip;apply DL;refine AW.seq λN6 FR=>?_;refine F2 ?_;apply AW.block;refine A8 (α:=Nat) (λx=>sl 93 [(1,A5 os pw cj),(3,.i .i64 os.length),(5,.i .i64 x)]) (λ_=>BM) (λx m=>x<=os.length/\∀j,j<x->lvP os pw cj j) (λx=>os.length-x) (0) ?_ ?_ (λ_ _ h=>h) ?_
   ·exact⟨A0,by intro j hj;omega⟩
   ·simp(disch:=omega) [AN,AO,sl,A5,ints,rows,A6]
   skip
   rintro q m ⟨hq,hJ⟩;refine AG ?_;simp only[A5];refine AW.seq λN7 MV=>?_;refine F2 ?_;refine AW.cond rfl ?_ ?_<;>intro h7<;>try simp only[cn]at h7
   ·have hv:=hl.r.v q;have hr:=hl.r.r q;apply AW.skip;apply MV;refine AW.seq λN8 OB=>?_;apply AW.block;refine AW.seq λN9 SC=>?_;refine AW.seq λN hN=>?_;refine AM AA A7 23 A7 ?_
    refine Dt ?_;refine⟨_,.of (J7 os (pw.getD q []) q A0 bV A0),?_⟩;refine HF ?_
    refine CH.mk' (λh8=>?_) (λh8=>?_)
    ·(try simp only[cn]at h8);refine HF ?_
     apply hN;refine AW.cond rfl ?_ ?_<;>intro h9<;>try simp only[cn]at h9
     ·refine F2 ?_;refine AH ?_;exact bt (C8 (λh=>h9 (by have:=(h.2.2.2 q A0).2.1;omega))).symm
     apply AW.skip;apply SC;refine F2 ?_;apply AW.block;refine A8 (α:=Nat) (λx=>sl 93 [(1,A5 os pw cj),(3,.i .i64 os.length),(5,.i .i64 q),(6,.i .i64 x)]) (λ_=>BM) (λx m=>x<=(cj.getD q []).length/\∀j,j<x->Dr os ((cj.getD q []).getD j []) q) (λx=>(cj.getD q []).length-x) (0) ?_ ?_ (λ_ _ h=>h) ?_
     ·exact⟨A0,by intro j hj;omega⟩
     ·simp(disch:=omega) [AN,AO,sl,A5,ints,rows,A6]
     skip
     rintro t m ⟨ht,hT⟩;refine AG ?_;simp only[A5];refine AW.seq λAm IQ=>?_;refine F2 ?_;refine AW.cond rfl ?_ ?_<;>intro VZ<;>try simp only[cn]at VZ
     ·have he:=hl.r.e q t;apply AW.skip;apply IQ;refine AW.seq λDu JO=>?_;apply AW.block;refine AW.seq λN hN=>?_;refine AM AA A7 13 A7 ?_
      refine Dt ?_;refine⟨_,.of (J7 os ((cj.getD q []).getD t []) q A0 bV A0),?_⟩;refine HF ?_
      apply hN;refine AW.cond rfl ?_ ?_<;>intro LL<;>try simp only[cn]at LL
      ·refine F2 ?_;refine AH ?_;exact bt (C8 (λh=>LL ((h.2.2.2 q A0).2.2 t A0))).symm
      apply AW.skip;apply JO;refine bW ?_;refine⟨t+1,?_,λ_ _ h=>h,?_,?_⟩
      ·simp(disch:=omega) [AN,AO,sl,A5,AR,ints,rows,A6]<;>omega
      ·refine⟨A0,λj hj=>?_⟩;by_cases e:j=t
       ·subst e;exact LL
       exact hT j A0
      first|omega|(simp only;omega)
     apply AW.exit;apply OB;refine bW ?_;refine⟨q+1,?_,λ_ _ h=>h,?_,?_⟩
     ·simp(disch:=omega) [AN,AO,sl,A5,AR,ints,rows,A6]<;>omega
     ·refine⟨A0,λj hj=>?_⟩;by_cases e:j=q
      ·subst e;exact⟨h8,A0,λi hi=>hT i A0⟩
      exact hJ j A0
     first|omega|(simp only;omega)
    (try simp only[cn]at h8);refine HF ?_
    apply hN;refine CI rfl ?_;refine F2 ?_;refine AH ?_;exact bt (C8 (λh=>h8 (h.2.2.2 q A0).1)).symm
   apply AW.exit;apply FR;refine F2 ?_;refine AH ?_;exact bt (D2 ⟨⟨A0,A0,A0⟩,IY,A0,λi hi=>hJ i A0⟩).symm
  try simp only[cn]at h2
  refine HF ?_
  apply hN;refine CI rfl ?_;refine F2 ?_;refine AH ?_;exact bt (C8 (λh=>h2 (by rw[h.1.2.1]))).symm
 try simp only[cn]at h1
 refine HF ?_
 apply hN;refine CI rfl ?_;refine F2 ?_;refine AH ?_;exact bt (C8 (λh=>by have:=h.1.1;omega)).symm
theorem OC(os:List Int)(pw:List (List Int))(cj:List (List (List Int)))(hl:GB os pw cj):BI Tryz.prog 97 [AP os pw cj] (.b (tf (AF os pw cj))):=by
 have ho:=hl.o
 have hn:=hl.r.n
 have hb:=hl.r.b
 refine AD AA Tryz.func97 rfl A7 Tryz.ntmps97 Tryz.results97 (.b _) (λnx cX=>?_)
 refine F2 ?_;refine AK 1 nx _ rfl (A4 _ _ _) ?_
 refine AG ?_;refine F2 ?_;refine AW.seq λN1 B2=>?_;refine sQ λN hN=>?_;refine HF ?_;refine CH.mk' (λh1=>?_) (λh1=>?_)
 ·try simp only[cn]at h1
  refine HF ?_
  refine CH.mk' (λh2=>?_) (λh2=>?_)
  ·try simp only[cn]at h2
   refine HF ?_
   apply hN;refine AW.cond rfl ?_ ?_<;>intro h3<;>try simp only[cn]at h3
   ·refine F2 ?_;refine AH ?_;exact bt (C8 (λh=>h3 (by rw[h.1.2.2]))).symm
   apply AW.skip;apply B2;refine F2 ?_;refine AW.seq λN2 B7=>?_;refine F2 ?_;apply AW.block;refine A8 (α:=Nat) (λx=>sl 90 [(1,A5 os pw cj),(3,.i .i64 os.length),(4,.i .i64 (CV os x)),(30,ints os),(31,.i .i64 os.length),(32,.i .i64 x)]) (λ_=>BM) (λx m=>x<=os.length/\(∀j,j<x->JG (os.getD j 0))/\1<=CV os x/\CV os x<=729) (λx=>os.length-x) (0) ?_ ?_ (Le.del (by simp[BM])) ?_
   ·exact⟨A0,(by intro j hj;omega),by simp[CV],by simp[CV]⟩
   ·simp(disch:=omega) [AN,AO,sl,A5,ints,rows,A6,CV]
   skip
   rintro k m ⟨hk,hI,UP,TF⟩;refine AG ?_;simp only[A5];refine F2 ?_;refine AW.seq λN3 BC=>?_;refine AW.cond rfl ?_ ?_<;>intro h4<;>try simp only[cn]at h4
   ·apply AW.skip;apply BC;refine AW.seq λN4 CF=>?_;apply AW.block;refine F2 ?_;refine AW.seq λN5 DL=>?_;refine sQ λN hN=>?_;refine HF ?_;refine AC.pure (.of (PV _)) ?_;(try simp-dsimp-implicitDefEqProofs(maxSteps:=800000) (disch:=omega)only[go_sem,A6,DT,AL,BN,ints,AP,rows])
    refine CH.mk' (λh5=>?_) (λh5=>?_)
    ·(try simp only[cn]at h5);have nP:=CE h5;have ZW:=Q1 UP TF (show 1<=os.getD k 0 by omega) (show os.getD k 0<=7 by omega);refine HF ?_
     apply hN;refine AW.cond rfl ?_ ?_<;>intro h6<;>try simp only[cn]at h6
     ·refine F2 ?_;refine AH ?_;exact bt (C8 (λh=>by
       have h7:=ND h.2.1 (k:=k+1) (os.length-(k+1)) A0;rw[show k+1+(os.length-(k+1))=os.length by omega]at h7;have h8:CV os (k+1)=CV os k*os.getD k 0:=rfl;have:=h.2.2.1;omega)).symm
     apply AW.skip;apply DL;refine bW ?_;apply CF;refine bW ?_;refine⟨k+1,?_,λ_ _ h=>h,?_,?_⟩
     ·simp(disch:=omega) [AN,AO,sl,A5,AR,ints,rows,A6,CV]<;>omega
     ·refine⟨A0,λj hj=>?_,ZW.1,h6⟩;by_cases e:j=k
      ·subst e;exact h5
      exact hI j A0
     first|omega|(simp only;omega)
    (try simp only[cn]at h5);refine HF ?_
    apply hN;refine CI rfl ?_;refine F2 ?_;refine AH ?_;exact bt (C8 (λh=>h5 (h.2.1 k A0))).symm
   have IY:∀i,i<os.length->JG (os.getD i 0):=λi hi=>hI i A0
   have bV:=AF.ob (pw:=pw) (cj:=cj) IY;obtain rfl:k=os.length:=A0;apply AW.exit;apply B7;refine AW.seq λN6 FR=>?_;refine F2 ?_;apply AW.block;refine A8 (α:=Nat) (λx=>sl 90 [(1,A5 os pw cj),(3,.i .i64 os.length),(49,.i .i64 os.length),(50,.i .i64 x)]) (λ_=>BM) (λx m=>x<=os.length/\∀j,j<x->lvP os pw cj j) (λx=>os.length-x) (0) ?_ ?_ (λ_ _ h=>h) ?_
   ·exact⟨A0,by intro j hj;omega⟩
   ·simp(disch:=omega) [AN,AO,sl,A5,ints,rows,A6]
   skip
   rintro q m ⟨hq,hJ⟩;refine AG ?_;simp only[A5];refine F2 ?_;refine AW.seq λN7 MV=>?_;refine AW.cond rfl ?_ ?_<;>intro h7<;>try simp only[cn]at h7
   ·have hv:=hl.r.v q;have hr:=hl.r.r q;apply AW.skip;apply MV;refine AW.seq λN8 OB=>?_;apply AW.block;refine F2 ?_;refine AW.seq λN9 SC=>?_;refine sQ λN hN=>?_;refine HF ?_;refine AC.pure (.of (KR os pw cj q A0 (pw.getD q []) A0 bV A0)) ?_;(try simp-dsimp-implicitDefEqProofs(maxSteps:=800000) (disch:=omega)only[go_sem,A6,DT,AL,BN,ints,AP,rows])
    refine CH.mk' (λh8=>?_) (λh8=>?_)
    ·(try simp only[cn]at h8);refine HF ?_
     apply hN;refine AW.cond rfl ?_ ?_<;>intro h9<;>try simp only[cn]at h9
     ·refine F2 ?_;refine AH ?_;exact bt (C8 (λh=>h9 (by have:=(h.2.2.2 q A0).2.1;omega))).symm
     apply AW.skip;apply SC;refine F2 ?_;apply AW.block;refine A8 (α:=Nat) (λx=>sl 90 [(1,A5 os pw cj),(3,.i .i64 os.length),(7,.i .i64 q),(49,.i .i64 os.length),(50,.i .i64 q),(78,rows (cj.getD q [])),(79,.i .i64 (cj.getD q []).length),(80,.i .i64 x)]) (λ_=>BM) (λx m=>x<=(cj.getD q []).length/\∀j,j<x->Dr os ((cj.getD q []).getD j []) q) (λx=>(cj.getD q []).length-x) (0) ?_ ?_ (λ_ _ h=>h) ?_
     ·exact⟨A0,by intro j hj;omega⟩
     ·simp(disch:=omega) [AN,AO,sl,A5,ints,rows,A6]
     skip
     rintro t m ⟨ht,hT⟩;refine AG ?_;simp only[A5];refine F2 ?_;refine AW.seq λAm IQ=>?_;refine AW.cond rfl ?_ ?_<;>intro VZ<;>try simp only[cn]at VZ
     ·have he:=hl.r.e q t;apply AW.skip;apply IQ;refine AW.seq λDu JO=>?_;apply AW.block;refine F2 ?_;refine Ds (KR os pw cj q A0 ((cj.getD q []).getD t []) A0 bV A0) ?_;refine AW.cond rfl ?_ ?_<;>intro LL<;>try simp only[cn]at LL
      ·refine F2 ?_;refine AH ?_;exact bt (C8 (λh=>LL ((h.2.2.2 q A0).2.2 t A0))).symm
      apply AW.skip;apply JO;refine bW ?_;refine⟨t+1,?_,λ_ _ h=>h,?_,?_⟩
      ·simp(disch:=omega) [AN,AO,sl,A5,AR,ints,rows,A6]<;>omega
      ·refine⟨A0,λj hj=>?_⟩;by_cases e:j=t
       ·subst e;exact LL
       exact hT j A0
      first|omega|(simp only;omega)
     apply AW.exit;apply OB;refine bW ?_;refine⟨q+1,?_,λ_ _ h=>h,?_,?_⟩
     ·simp(disch:=omega) [AN,AO,sl,A5,AR,ints,rows,A6]<;>omega
     ·refine⟨A0,λj hj=>?_⟩;by_cases e:j=q
      ·subst e;exact⟨h8,A0,λi hi=>hT i A0⟩
      exact hJ j A0
     first|omega|(simp only;omega)
    (try simp only[cn]at h8);refine HF ?_
    apply hN;refine CI rfl ?_;refine F2 ?_;refine AH ?_;exact bt (C8 (λh=>h8 (h.2.2.2 q A0).1)).symm
   apply AW.exit;apply FR;refine F2 ?_;refine AH ?_;exact bt (D2 ⟨⟨A0,A0,A0⟩,IY,TF,λi hi=>hJ i A0⟩).symm
  try simp only[cn]at h2
  refine HF ?_
  apply hN;refine CI rfl ?_;refine F2 ?_;refine AH ?_;exact bt (C8 (λh=>h2 (by rw[h.1.2.1]))).symm
 try simp only[cn]at h1
 refine HF ?_
 apply hN;refine CI rfl ?_;refine F2 ?_;refine AH ?_;exact bt (C8 (λh=>by have:=h.1.1;omega)).symm
theorem C2{cX n ops y s s1 K}(q:AW cX Tryz.prog y s1 K)(e:BV ops s s1:=by intro N hN;(try simp-dsimp-implicitDefEqProofs(maxSteps:=800000) (disch:=omega)only[go_sem,AP]);exact hN):BU cX n ops y s K:=BY q e
theorem BR{P Q:Prop}(q:Q)(e:Q->P:=by intro q;(try simp-dsimp-implicitDefEqProofs(maxSteps:=800000) (disch:=omega)only[go_sem,AP]);exact q):P:=e q
theorem EY{cX n ops y s s1 K}(q:AW cX Tryz.prog y s1 K)(e:BV ops s s1:=by intro N hN;(try simp-dsimp-implicitDefEqProofs(maxSteps:=800000) (disch:=omega)only[go_sem,AP,A5]);exact hN):BU cX n ops y s K:=BY q e
theorem FB{cX n ops y s s1 K}(q:AW cX Tryz.prog y s1 K)(e:BV ops s s1:=by intro N hN;(try simp-dsimp-implicitDefEqProofs(maxSteps:=800000) (disch:=omega)only[go_sem,AL,ints,AP,A5]);exact hN):BU cX n ops y s K:=BY q e
theorem OS{cX n ops y s s1 K f Zz r}(x:BI Tryz.prog f Zz r)(q:AW cX Tryz.prog y s1 K)(e:BI Tryz.prog f Zz r->BV ops s s1:=by intro x N hN;(try simp-dsimp-implicitDefEqProofs(maxSteps:=800000) (disch:=omega)only[go_sem,AP]);refine AC.pure (.of x) ?_;(try simp-dsimp-implicitDefEqProofs(maxSteps:=800000) (disch:=omega)only[go_sem,AP]);exact hN):BU cX n ops y s K:=BY q (e x)
theorem DO{P Q:Prop}{R0:Prop}(r0:R0)(q:Q)(e:R0->Q->P:=by intro h0 q;(try simp-dsimp-implicitDefEqProofs(maxSteps:=800000) (disch:=omega)only[go_sem,AP,h0]);exact q):P:=e r0 q
theorem SD{cX n ops y s s1 K f Zz r}(x:BI Tryz.prog f Zz r)(q:AW cX Tryz.prog y s1 K)(e:BI Tryz.prog f Zz r->BV ops s s1:=by intro x N hN;(try simp-dsimp-implicitDefEqProofs(maxSteps:=800000) (disch:=omega)only[go_sem,AP,A5]);refine AC.pure (.of x) ?_;(try simp-dsimp-implicitDefEqProofs(maxSteps:=800000) (disch:=omega)only[go_sem,AP,A5]);exact hN):BU cX n ops y s K:=BY q (e x)
theorem HR{cX n ops y s s1 K}(q:AW cX Tryz.prog y s1 K)(e:BV ops s s1:=by intro N hN;(try simp-dsimp-implicitDefEqProofs(maxSteps:=800000) (disch:=omega)only[go_sem,ints,AP]);exact hN):BU cX n ops y s K:=BY q e
theorem KS{cX n ops y s s1 K}{R0:Prop}(r0:R0)(q:AW cX Tryz.prog y s1 K)(e:R0->BV ops s s1:=by intro h0 N hN;(try simp-dsimp-implicitDefEqProofs(maxSteps:=800000) (disch:=omega)only[go_sem,ints,AP,h0]);exact hN):BU cX n ops y s K:=BY q (e r0)
theorem HS{P Q:Prop}(q:Q)(e:Q->P:=by intro q;(try simp-dsimp-implicitDefEqProofs(maxSteps:=800000) (disch:=omega)only[go_sem,AP,A5]);exact q):P:=e q
theorem KT{cX n ops s}{K:Exit->St->Prop}{Q:Prop}(q:Q)(e:Q->DW env Tryz.prog ops s.nx ops 0 ⟨s.t,s.H,s.nx+ops.length⟩ (K .normal):=by intro q;(try simp-dsimp-implicitDefEqProofs(maxSteps:=800000) (disch:=omega)only[go_sem,AP]);exact q):AW cX Tryz.prog (.region n ops.toArray false) s K:=rQ (e q)
theorem NF{cX n ops s}{K:Exit->St->Prop}{Q:Prop}(q:Q)(e:Q->DW env Tryz.prog ops s.nx ops 0 ⟨s.t,s.H,s.nx+ops.length⟩ (K .normal):=by intro q;(try simp-dsimp-implicitDefEqProofs(maxSteps:=800000) (disch:=omega)only[go_sem,AP,A5]);exact q):AW cX Tryz.prog (.region n ops.toArray false) s K:=rQ (e q)
theorem YB{cX n ops y s s1 K}{R0:Prop}(r0:R0)(q:AW cX Tryz.prog y s1 K)(e:R0->BV ops s s1:=by intro h0 N hN;(try simp-dsimp-implicitDefEqProofs(maxSteps:=800000) (disch:=omega)only[go_sem,List.length_map,ints,AP,A5,h0]);exact hN):BU cX n ops y s K:=BY q (e r0)
theorem Q3{P Q:Prop}(q:Q)(e:Q->P:=by intro q;(try simp-dsimp-implicitDefEqProofs(maxSteps:=800000) (disch:=omega)only[go_sem,ints,AP]);exact q):P:=e q
theorem bX{cX n ops y s s1 K}(q:AW cX Tryz.prog y s1 K)(e:BV ops s s1:=by intro N hN;(try simp-dsimp-implicitDefEqProofs(maxSteps:=800000) (disch:=omega)only[go_sem,A6,ints,AP,A5,rows]);exact hN):BU cX n ops y s K:=BY q e
theorem iE{cX n ops y s s1 K}(q:AW cX Tryz.prog y s1 K)(e:BV ops s s1:=by intro N hN;(try simp-dsimp-implicitDefEqProofs(maxSteps:=800000) (disch:=omega)only[go_sem,BN,A5,rows]);exact hN):BU cX n ops y s K:=BY q e
theorem bY{cX n ops s}{K:Exit->St->Prop}{Q:Prop}(q:Q)(e:Q->DW env Tryz.prog ops s.nx ops 0 ⟨s.t,s.H,s.nx+ops.length⟩ (K .normal):=by intro q;(try simp-dsimp-implicitDefEqProofs(maxSteps:=800000) (disch:=omega)only[go_sem,AL,ints,AP,A5]);exact q):AW cX Tryz.prog (.region n ops.toArray false) s K:=rQ (e q)
theorem bZ{P Q:Prop}(q:Q)(e:Q->P:=by intro q;(try simp-dsimp-implicitDefEqProofs(maxSteps:=800000) (disch:=omega)only[go_sem,A6,ints,AP,rows]);exact q):P:=e q
theorem rD{P Q:Prop}(q:Q)(e:Q->P:=by intro q;(try simp-dsimp-implicitDefEqProofs(maxSteps:=800000) (disch:=omega)only[go_sem,List.drop_nil,List.drop_succ_cons,List.drop_zero,List.take_nil,List.take_succ_cons,List.take_zero,BW,BE,BF,AP,A5,AR]);exact q):P:=e q
theorem WO{cX n ops s}{K:Exit->St->Prop}{Q:Prop}(q:Q)(e:Q->DW env Tryz.prog ops s.nx ops 0 ⟨s.t,s.H,s.nx+ops.length⟩ (K .normal):=by intro q;(try simp-dsimp-implicitDefEqProofs(maxSteps:=800000) (disch:=omega)only[go_sem,ints,AP]);exact q):AW cX Tryz.prog (.region n ops.toArray false) s K:=rQ (e q)
theorem WQ{P Q:Prop}{R0:Prop}(r0:R0)(q:Q)(e:R0->Q->P:=by intro h0 q;(try simp-dsimp-implicitDefEqProofs(maxSteps:=800000) (disch:=omega)only[go_sem,ints,AP,h0]);exact q):P:=e r0 q
theorem jZ{cX n ops y s s1 K}(q:AW cX Tryz.prog y s1 K)(e:BV ops s s1:=by intro N hN;(try simp-dsimp-implicitDefEqProofs(maxSteps:=800000) (disch:=omega)only[go_sem,A6,ints,A5,rows]);exact hN):BU cX n ops y s K:=BY q e
theorem k5{cX n ops y s s1 K}(q:AW cX Tryz.prog y s1 K)(e:BV ops s s1:=by intro N hN;(try simp-dsimp-implicitDefEqProofs(maxSteps:=800000) (disch:=omega)only[go_sem,AL,ints,A5]);exact hN):BU cX n ops y s K:=BY q e
theorem rE{cX n ops y s s1 K}{R0 R1 R2:Prop}(r0:R0)(r1:R1)(r2:R2)(q:AW cX Tryz.prog y s1 K)(e:R0->R1->R2->BV ops s s1:=by intro h0 h1 h2 N hN;(try simp-dsimp-implicitDefEqProofs(maxSteps:=800000) (disch:=omega)only[go_sem,AL,ints,not_false_eq_true,AP,A5,true_and,h0,h1,h2]);exact hN):BU cX n ops y s K:=BY q (e r0 r1 r2)
theorem k6{cX n ops y s s1 K}{R0 R1:Prop}(r0:R0)(r1:R1)(q:AW cX Tryz.prog y s1 K)(e:R0->R1->BV ops s s1:=by intro h0 h1 N hN;(try simp-dsimp-implicitDefEqProofs(maxSteps:=800000) (disch:=omega)only[go_sem,AP,A5,h0,h1]);exact hN):BU cX n ops y s K:=BY q (e r0 r1)
theorem Dv{P Q:Prop}{R0 R1 R2:Prop}(r0:R0)(r1:R1)(r2:R2)(q:Q)(e:R0->R1->R2->Q->P:=by intro h0 h1 h2 q;(try simp-dsimp-implicitDefEqProofs(maxSteps:=800000) (disch:=omega)only[go_sem,List.drop_nil,List.drop_succ_cons,List.drop_zero,List.take_nil,List.take_succ_cons,List.take_zero,BW,BE,BF,ints,AP,AR,h0,h1,h2]);exact q):P:=e r0 r1 r2 q
theorem k7{P f nx H Zz r}{K:Nat->HP->AV->Prop}{Q:Prop}(x:BI P f Zz r)(q:Q)(e:Q->K nx H r:=by intro q;(try simp-dsimp-implicitDefEqProofs(maxSteps:=800000) (disch:=omega)only[go_sem,AP]);exact q):AC P f nx H Zz K:=AC.pure (.of x) (e q)
theorem k8{P Q:Prop}(q:Q)(e:Q->P:=by intro q;(try simp-dsimp-implicitDefEqProofs(maxSteps:=800000) (disch:=omega)only[go_sem,A6,ints,AP,A5,rows]);exact q):P:=e q
theorem c0{P Q:Prop}{R0 R1 R2:Prop}(r0:R0)(r1:R1)(r2:R2)(q:Q)(e:R0->R1->R2->Q->P:=by intro h0 h1 h2 q;(try simp-dsimp-implicitDefEqProofs(maxSteps:=800000) (disch:=omega)only[go_sem,AP,h0,h1,h2]);exact q):P:=e r0 r1 r2 q
theorem k9{P Q:Prop}(q:Q)(e:Q->P:=by intro q;(try simp-dsimp-implicitDefEqProofs(maxSteps:=800000) (disch:=omega)only[go_sem,AL,ints,AP,A5]);exact q):P:=e q
theorem rF{cX n ops y s s1 K}{R0 R1 R2:Prop}(r0:R0)(r1:R1)(r2:R2)(q:AW cX Tryz.prog y s1 K)(e:R0->R1->R2->BV ops s s1:=by intro h0 h1 h2 N hN;(try simp-dsimp-implicitDefEqProofs(maxSteps:=800000) (disch:=omega)only[go_sem,Bool.and_true,ints,AP,h0,h1,h2]);exact hN):BU cX n ops y s K:=BY q (e r0 r1 r2)
theorem rG{P f nx H Zz r}{K:Nat->HP->AV->Prop}{Q:Prop}(x:BI P f Zz r)(q:Q)(e:Q->K nx H r:=by intro q;(try simp-dsimp-implicitDefEqProofs(maxSteps:=800000) (disch:=omega)only[go_sem,A6,ints,AP,rows]);exact q):AC P f nx H Zz K:=AC.pure (.of x) (e q)
theorem kA{P Q:Prop}{R0 R1 R2:Prop}(r0:R0)(r1:R1)(r2:R2)(q:Q)(e:R0->R1->R2->Q->P:=by intro h0 h1 h2 q;(try simp-dsimp-implicitDefEqProofs(maxSteps:=800000) (disch:=omega)only[go_sem,ints,AP,h0,h1,h2]);exact q):P:=e r0 r1 r2 q
theorem rH{P f nx H Zz r}{K:Nat->HP->AV->Prop}{Q:Prop}(x:BI P f Zz r)(q:Q)(e:Q->K nx H r:=by intro q;(try simp-dsimp-implicitDefEqProofs(maxSteps:=800000) (disch:=omega)only[go_sem,AP,A5]);exact q):AC P f nx H Zz K:=AC.pure (.of x) (e q)
theorem rI{P Q:Prop}(q:Q)(e:Q->P:=by intro q;(try simp-dsimp-implicitDefEqProofs(maxSteps:=800000) (disch:=omega)only[go_sem,A6,ints,A5,rows]);exact q):P:=e q
theorem rJ{P Q:Prop}{R0:Prop}(r0:R0)(q:Q)(e:R0->Q->P:=by intro h0 q;(try simp-dsimp-implicitDefEqProofs(maxSteps:=800000) (disch:=omega)only[go_sem,AP,A5,h0]);exact q):P:=e r0 q
end Go.Proofs.YtgknbnkmilddhaaGreat
