import Derived.Test.YtgknbnkmilddhaaGreatZ04
set_option linter.all false

namespace Go.Proofs.YtgknbnkmilddhaaGreat
section
def QP:Nat->(Nat->Int)->Int
 |0,_=>0
 |n+1,g=>QP n g+g n
def W1{n g h}(e:∀c,c<n->g c=h c):QP n g=QP n h:=by
 induction n with
 |zero=>rfl
 |succ n ih=>rw[QP,QP,ih λc hc=>e c A0,e n A0]
def A5S{n g h}:QP n (λc=>g c+h c)=QP n g+QP n h:=by
 induction n with
 |zero=>rfl
 |succ n ih=>rw[QP,QP,QP,ih];omega
def qQ{n g s}:QP n (λc=>s*g c)=s*QP n g:=by
 induction n with
 |zero=>simp[QP]
 |succ n ih=>rw[QP,QP,ih,QE]
def oX(c:Nat):Int:=if c%2=0 then 1 else-1
def QT{α β:Type}(f:α->β->Int):List α->List β->Int
 |[],_=>1
 | x::X,Y=>QP Y.length λc=>match Y[c]? with
   |some y=>oX c*f x y*QT f X (Y.eraseIdx c)
   |none=>0
variable{α β:Type}{f:α->β->Int}
def zW{x y}:QT f [x] [y]=f x y:=by simp[QT,QP,oX]
def Ey{x X y0 y1}:QT f (x::X) [y0,y1]=f x y0*QT f X [y1]-f x y1*QT f X [y0]:=by
 simp[QT,QP,oX,List.eraseIdx];grind
def Vj{x X y0 y1 y2}:QT f (x::X) [y0,y1,y2]=f x y0*QT f X [y1,y2]-f x y1*QT f X [y0,y2]+f x y2*QT f X [y0,y1]:=by
 simp[QT,QP,oX,List.eraseIdx];grind
def AD0{x X y0 y1 y2 y3}:QT f (x::X) [y0,y1,y2,y3]=f x y0*QT f X [y1,y2,y3]-f x y1*QT f X [y0,y2,y3]+f x y2*QT f X [y0,y1,y3]-f x y3*QT f X [y0,y1,y2]:=by
 simp[QT,QP,oX,List.eraseIdx];grind
def Ez{a b X Y}(hl:Y.length=X.length+2)(h4:Y.length<=4):QT f (a::b::X) Y= -QT f (b::a::X) Y:=by
 rcases Y with _|⟨y0,_|⟨y1,_|⟨y2,_|⟨y3,_|⟨y4,Y⟩⟩⟩⟩⟩
 ·simp at hl
 ·simp at hl
 ·obtain rfl:X=[]:=AX.1 (by simp only[C6,CR]at hl;omega);simp only[Ey,zW];grind
 ·simp only[Vj,Ey];grind
 ·simp only[AD0,Vj];grind
 simp at h4
def A07{X Y}(hl:Y.length=X.length)(h4:Y.length<=4):QT f X Y=QT (λy x=>f x y) Y X:=by
 rcases Y with _|⟨y0,_|⟨y1,_|⟨y2,_|⟨y3,_|⟨y4,Y⟩⟩⟩⟩⟩<;>rcases X with _|⟨x0,_|⟨x1,_|⟨x2,_|⟨x3,_|⟨x4,X⟩⟩⟩⟩⟩<;>simp only[C6,CR]at hl h4<;>try omega
 ·rfl
 ·simp only[zW]
 ·simp only[Ey,zW];grind
 ·simp only[Vj,Ey,zW];grind
 simp only[AD0,Vj,Ey,zW];grind
def A08{x X X' s}(h:∀Y:List β,Y.length=X.length->Y.length<=4->QT f X' Y=s*QT f X Y){Y}(hl:Y.length=X.length+1)(h4:Y.length<=4):QT f (x::X') Y=s*QT f (x::X) Y:=by
 simp only[QT];rw[<-qQ];apply W1;intro c hc;have e:Y[c]? =some Y[c]:=A9 hc;rw[e];dsimp only;rw[h (Y.eraseIdx c) (by rw[M1];split<;>omega) (by rw[M1];split<;>omega)];grind
def A09{X X'}(p:X.Perm X'):∃s:Int,(s=1\/s= -1)/\∀Y:List β,Y.length=X.length->Y.length<=4->QT f X' Y=s*QT f X Y:=by
 induction p with
 |nil=>exact⟨1,.inl rfl,λY _ _=>by rw[ER]⟩
 | cons x p ih=>
   obtain⟨s,hs,h⟩:=ih;exact⟨s,hs,λY hl h4=>A08 (λY' h1 h2=>h Y' h1 h2) hl h4⟩
 |swap x y l=>exact⟨-1,.inr rfl,λY hl h4=>by rw[Ez hl h4];grind⟩
 | trans p1 p2 ih1 ih2=>
   obtain⟨s,hs,h⟩:=ih1;obtain⟨s',Ux,h'⟩:=ih2;refine⟨s'*s,?_,λY hl h4=>by rw[h' Y (by rw[hl,p1.length_eq]) h4,h Y hl h4,HY]⟩;rcases hs with rfl|rfl<;>rcases Ux with rfl|rfl<;>simp
def lR{X X'}(p:X.Perm X'){Y}(hl:Y.length=X.length)(h4:Y.length<=4){g}(h:g∣QT f X Y):g∣QT f X' Y:=by
 obtain⟨s,_,e⟩:=A09 (f:=f) p;rw[e Y hl h4];exact GH h
def AD1{a X Y}(hl:Y.length=X.length+2)(h4:Y.length<=4):QT f (a::a::X) Y=0:=by
 have:=Ez (f:=f) (a:=a) (b:=a) hl h4;omega
def A5T{X}(hd:¬X.Nodup){Y}(hl:Y.length=X.length)(h4:Y.length<=4):QT f X Y=0:=by
 have h1:∃a X',X.Perm (a::a::X'):=by
  clear hl;induction X with
  |nil=>simp at hd
  | cons x X ih=>
    by_cases hx:x∈X
    ·obtain⟨A,B,rfl⟩:=List.append_of_mem hx;exact⟨x,A++B,List.Perm.cons _ LS⟩
    obtain⟨a,X',p⟩:=ih (λh=>hd (C1.2 ⟨hx,h⟩));exact⟨a,x::X',(p.cons x).trans ((List.Perm.swap a x _).trans ((List.Perm.swap a x _).cons a))⟩
 obtain⟨a,X',p⟩:=h1;have h2:Y.length=X'.length+2:=by rw[hl,p.length_eq];rfl
 have h3:=lR (f:=f) p.symm (by rw[h2];rfl) h4 (g:=0) (by rw[AD1 h2 h4];exact ML 0);exact S9.1 h3
def qR{f g}:∀{X:List α} {Y:List β},(∀x∈X,∀y∈Y,f x y=g x y)->QT f X Y=QT g X Y
 |[],_,_=>rfl
 | x::X,Y,h=>by
   simp only[QT];apply W1;intro c hc;have e:Y[c]? =some Y[c]:=A9 hc;rw[e];dsimp only;rw[h x (CA ..) _ (BK _),qR λa ha b hb=>h a (C3 _ ha) b ((List.eraseIdx_sublist ..).mem hb)]
def Ou{x y z s t X Y}(h:∀b∈Y,f z b=s*f x b+t*f y b):QT f (z::X) Y=s*QT f (x::X) Y+t*QT f (y::X) Y:=by
 simp only[QT];rw[<-qQ,<-qQ,<-A5S];apply W1;intro c hc;have e:Y[c]? =some Y[c]:=A9 hc;rw[e];dsimp only;rw[h _ (BK _)];grind
inductive sS {γ:Type} (R:(γ->Int)->Prop):(γ->Int)->Prop
 |zero:sS R (λ_=>0)
 |gen {x:γ->Int}:R x->sS R x
 |Fa {x y:γ->Int} (s t:Int):sS R x->sS R y->sS R (λk=>s*x k+t*y k)
def sS.sum{γ:Type}{R:(γ->Int)->Prop}{g:Nat->γ->Int}{c:Nat->Int}:∀n,(∀i,i<n->sS R (g i))->sS R (λk=>QP n λi=>c i*g i k)
 |0,_=> .zero
 | n+1,h=>by
   have:=sS.Fa 1 (c n) (sS.sum (c:=c) n λi hi=>h i A0) (h n A0);simp only[ER]at this;exact this
def qS{γ β:Type}{f:(γ->Int)->β->Int}(hf:∀s t x y b,f (λk=>s*x k+t*y k) b=s*f x b+t*f y b){R:(γ->Int)->Prop}{Y:List β}(h4:Y.length<=4){g:Int}
    (h:∀X,X.length=Y.length->(∀x∈X,R x)->g∣QT f X Y):∀X2 X1,X1.length+X2.length=Y.length->(∀x∈X1,R x)->(∀x∈X2,sS R x)->g∣QT f (X2++X1) Y
  |[],X1,hl,h1,_=>h X1 (by simpa using hl) h1
  | x ::X2,X1,hl,h1,h2=>by
    have hx:=h2 x (CA ..);have hr:=λy hy=>h2 y (C3 x hy)
    have TT:X1.length+(X2.length+1)=Y.length:=hl;clear hl h2;show g∣QT f (x::(X2++X1)) Y
    induction hx with
    | zero=>
      have:=Ou (f:=f) (x:=λ_=>(0:Int)) (y:=λ_=>0) (z:=λ_=>0) (s:=0) (t:=0) (X:=X2++X1) (Y:=Y) (λb _=>by have:=hf 0 0 (λ_=>0) (λ_=>0) b;simpa using this);rw[this];simp
    | gen hx=>
      refine lR (X:=X2++(_::X1)) LS (by simp;omega) h4 ?_;exact qS hf h4 h X2 (_::X1) (by simp;omega) (λy hy=>(BJ.1 hy).elim (λe=>e▸hx) (h1 y)) hr
    | Fa s t _ _ ih1 ih2=>
      rw[Ou (f:=f) (s:=s) (t:=t) λb _=>hf s t _ _ b];exact Int.dvd_add (GH ih1) (GH ih2)
def AD2{β:Type}{f:Nat->β->Int}{Y:List β}(h4:Y.length<=4){g:Int}{m:Nat}(h:∀I:List Nat,I.Pairwise (· < ·)->(∀i∈I,i<m)->I.length=Y.length->g∣QT f I Y)
    (I:List Nat) (hm:∀i∈I,i<m) (hl:I.length=Y.length):g∣QT f I Y:=by
  by_cases hd:I.Nodup
  · have p:=List.mergeSort_perm I (λa b=>decide (a<=b));have s:=List.pairwise_mergeSort (le:=λa b:Nat=>decide (a<=b)) (by simp;omega) (by simp;omega) I;refine lR p (by rw[p.length_eq,hl]) h4 (h _ ?_ (λi hi=>hm i (p.subset hi)) (by rw[p.length_eq,hl]));have nd:=p.nodup_iff.2 hd;refine(s.and nd).imp ?_;intro a b ⟨h1,h2⟩;simp at h1;omega
  rw[A5T hd hl.symm h4];exact MN _
def RM{α α' β β':Type}{f:α->β->Int}{r:α'->α}{q:β'->β}:∀{X:List α'} {Y:List β'},QT f (X.map r) (Y.map q)=QT (λx y=>f (r x) (q y)) X Y
 |[],_=>rfl
 | x::X,Y=>by
   simp only[BR,QT,A4];apply W1;intro c hc;have e:Y[c]? =some Y[c]:=A9 hc;rw[BF,e];simp only[DB];rw[show(Y.map q).eraseIdx c=(Y.eraseIdx c).map q from by rw[HZ,HZ,AZ,JS,RF],RM]
def XC(n:Nat)(x:Nat->Int):Prop:=∀k,n<=k->x k=0
def RN(s t:Int)(x y:Nat->Int):Nat->Int:=λk=>s*x k+t*y k
structure LtI(n:Nat)(S:(Nat->Int)->Prop):Prop where
 sup:∀x,S x->XC n x
 z:S λ_=>0
 Fa:∀s t x y,S x->S y->S (RN s t x y)
def RO(j:Nat)(x:Nat->Int):Nat->Int:=λk=>if k<j then 0 else x k
structure aI(n j:Nat) where
 p:(Nat->Int)->Nat->Int
 q:(Nat->Int)->Nat->Int
 pl:∀s t x y,p (RN s t x y)=RN s t (p x) (p y)
 ql:∀s t x y,q (RN s t x y)=RN s t (q x) (q y)
 ps:∀x,XC n x->XC n (p x)
 qs:∀x,XC n x->XC n (q x)
 pq:∀x,p (q x)=x
 qp:∀x,q (p x)=x
 pf:∀x i,i<j->p x i=x i
 pc:∀x,RO j (p x)=p (RO j x)
def Kh{x y}:RN 0 0 x y=λ_=>0:=by funext k;simp[RN]
def aI.id(n j:Nat):aI n j:=⟨λx=>x,λx=>x,λ_ _ _ _=>rfl,λ_ _ _ _=>rfl,λ_ h=>h,λ_ h=>h,λ_=>rfl,λ_=>rfl,λ_ _ _=>rfl,λ_=>rfl⟩
def aI.comp{n j:Nat}(a b:aI n j):aI n j:=⟨λx=>a.p (b.p x),λx=>b.q (a.q x),λs t x y=>by rw[b.pl,a.pl],λs t x y=>by rw[a.ql,b.ql],λx h=>a.ps _ (b.ps _ h),λx h=>b.qs _ (a.qs _ h),
 λx=>by rw[b.pq,a.pq],λx=>by rw[a.qp,b.qp],λx i h=>by rw[a.pf _ _ h,b.pf _ _ h],λx=>by rw[a.pc,b.pc]⟩
def Ov(a b:Nat)(x:Nat->Int):Nat->Int:=λk=>if k=a then x b else if k=b then x a else x k
def aI.sw{n j a b:Nat}(ha:j<=a)(hb:j<=b)(dY:a<n)(Ij:b<n):aI n j:=
 ⟨Ov a b,Ov a b,λs t x y=>by funext k;simp only[Ov,RN];split<;>(try split)<;>rfl,λs t x y=>by funext k;simp only[Ov,RN];split<;>(try split)<;>rfl,
  λx h k hk=>by simp only[Ov];rw[if_neg A0,if_neg A0];exact h k hk,λx h k hk=>by simp only[Ov];rw[if_neg A0,if_neg A0];exact h k hk,
  λx=>by funext k;simp only[Ov];grind,λx=>by funext k;simp only[Ov];grind,
  λx i h=>by simp only[Ov];rw[if_neg A0,if_neg A0],λx=>by funext k;simp only[Ov,RO];grind⟩
def Ox(n a:Nat)(q:Nat->Int)(x:Nat->Int):Nat->Int:=λk=>if a<k/\k<n then x k+q k*x a else x k
def aI.sh{n j a:Nat}(ha:j<=a)(q:Nat->Int):aI n j:=
 ⟨Ox n a q,Ox n a (λk=> -q k),λs t x y=>by funext k;simp only[Ox,RN];split<;>grind,λs t x y=>by funext k;simp only[Ox,RN];split<;>grind,
  λx h k hk=>by simp only[Ox];rw[if_neg A0];exact h k hk,λx h k hk=>by simp only[Ox];rw[if_neg A0];exact h k hk,
  λx=>by funext k;simp only[Ox];grind,λx=>by funext k;simp only[Ox];grind,
  λx i h=>by simp only[Ox];rw[if_neg A0],λx=>by funext k;simp only[Ox,RO];grind⟩
def aI.dvd{n j}(a:aI n j){d x}(h:∀k,d∣x k)(k:Nat):d∣a.p x k:=by
 have e:x=RN d 0 (λk=>x k/d) (λ_=>0):=by
  funext k;simp only[RN];rw[IU (h k)];simp
 rw[e,a.pl];simp only[RN];rw[KM,MO];exact KY _ _
def aI.q0{n j}(a:aI n j):a.q (λ_=>0)=λ_=>0:=by
 have:=a.ql 0 0 (λ_=>0) (λ_=>0);rw[Kh,Kh]at this;exact this
def zX{j x}(h:∀i,i<j->x i=0):RO j x=x:=by
 funext k;simp only[RO];split
 ·rw[h k ‹_›]
 rfl
def AD3{p:Nat->Prop}(h:∃v,p v):∃v,p v/\∀w,p w->v<=w:=by
 obtain⟨v,hv⟩:=h;induction v using Nat.strongRecOn with
 |_ v ih=>
  by_cases hc:∃w,w<v/\p w
  ·obtain⟨w,h1,h2⟩:=hc;exact ih w h1 h2
  exact⟨v,hv,λw hw=>JC λhl=>hc ⟨w,hl,hw⟩⟩
def AD4{n j}(hj:j<n){T}(hT:LtI n T)(h0:∀x,T x->∀i,i<j->x i=0):
    ∃ (b:aI n j) (m:Int) (T':(Nat->Int)->Prop),0<=m/\LtI n T'/\(∀x,T' x->∀i,i<j+1->x i=0)/\(∀x,T' x->∀i,m∣x i)/\
      (∀d:Int,(∀x,T x->∀i,d∣x i)->d∣m)/\∀y,XC n y->(∀i,i<j->y i=0)->(T y↔m∣b.p y j/\T' (RO (j+1) (b.p y))):=by
  by_cases hp:∃v:Nat,0<v/\∃(b:aI n j) (y:Nat->Int),T y/\b.p y j=v
  · obtain⟨m,⟨hm0,b0,y0,j6,e0⟩,AAW⟩:=AD3 hp;have mn:∀(b:aI n j) (y:Nat->Int),T y->0<b.p y j->(m:Int)<=b.p y j:=λb y hy h=>by
      have:=AAW (b.p y j).toNat ⟨A0,b,y,hy,A0⟩;omega
    have c1:∀(b:aI n j) (y:Nat->Int),T y->b.p y j=m->∀i,j<i->i<n->(m:Int)∣b.p y i:=by
      intro b y hy e i hi dC;let b':aI n j:=(aI.sw (A1 j) (by omega:j<=i) hj dC).comp ((aI.sh (A1 j) λ_=> -(b.p y i/m)).comp b)
      have e':b'.p y j=b.p y i%m:=by
        show Ov j i (Ox n j (λ_=> -(b.p y i/m)) (b.p y)) j=_
        simp only[Ov,if_true,Ox];rw[if_pos ⟨hi,dC⟩,e,P6];grind
      have h1:=DK (b.p y i) (by omega:(m:Int)≠0);have h2:=DR (b.p y i) (by omega:(0:Int)<m);by_cases hz:b.p y i%m=0
      · exact KA hz
      have:=mn b' y hy (by rw[e'];omega);rw[e']at this;omega
    let b1:aI n j:=(aI.sh (A1 j) λi=> -(b0.p y0 i/m)).comp b0
    have e1:b1.p y0=λk=>if k=j then (m:Int)else 0:=by
      funext k
      show Ox n j (λi=> -(b0.p y0 i/m)) (b0.p y0) k=_
      simp only[Ox];by_cases hk:j<k/\k<n
      · rw[if_pos hk,if_neg A0,e0];have:=IU (c1 b0 y0 j6 e0 k hk.1 hk.2);grind
      rw[if_neg hk];by_cases hkj:k=j
      · subst hkj;rw[if_pos rfl,e0]
      rw[if_neg hkj];rcases BL k n with h|h
      · rw[b0.pf _ _ A0];exact h0 _ j6 _ A0
      exact b0.ps _ (hT.sup _ j6) _ h
    have c2:∀y,T y->(m:Int)∣b1.p y j:=by
      intro y hy;have h3:=hT.Fa 1 (-(b1.p y j/m)) _ _ hy j6;have e':b1.p (RN 1 (-(b1.p y j/m)) y y0) j=b1.p y j%m:=by
        rw[b1.pl,e1];simp only[RN,if_true];rw[P6];grind
      have h1:=DK (b1.p y j) (by omega:(m:Int)≠0);have h2:=DR (b1.p y j) (by omega:(0:Int)<m);by_cases hz:b1.p y j%m=0
      · exact KA hz
      have:=mn b1 _ h3 (by rw[e'];omega);rw[e']at this;omega
    have c3:∀y,T y->∀i,(m:Int)∣b1.p y i:=by
      intro y hy i;rcases GR i j with h|h|h
      · rw[b1.pf _ _ h,h0 _ hy _ h];exact MN _
      · subst h;exact c2 y hy
      rcases BL i n with hn|hn
      · have h3:=hT.Fa 1 (1-(b1.p y j/m)) _ _ hy j6;have:=c1 b1 _ h3 (by rw[b1.pl,e1];simp only[RN,if_true];have:=IU (c2 y hy);grind) i h hn;rw[b1.pl,e1]at this;simp only[RN]at this;rw[if_neg A0]at this;simpa using this
      rw[b1.ps _ (hT.sup _ hy) _ hn];exact MN _
    refine⟨b1,m,λw=>XC n w/\(∀i,i<j+1->w i=0)/\T (b1.q w),A0,⟨λx h=>h.1,⟨λ_ _=>rfl,λ_ _=>rfl,by rw[b1.q0];exact hT.z⟩,?_⟩,λx h=>h.2.1,?_,?_,?_⟩
    · rintro s t x y ⟨h1,h2,h3⟩ ⟨g1,g2,g3⟩;exact⟨λk hk=>by simp only[RN];rw[h1 k hk,g1 k hk];simp,λk hk=>by simp only[RN];rw[h2 k hk,g2 k hk];simp,by rw[b1.ql];exact hT.Fa _ _ _ _ h3 g3⟩
    · rintro x ⟨h1,h2,h3⟩ i;have:=c3 _ h3 i;rwa [b1.pq]at this
    · intro d hd;have:=b1.dvd (hd y0 j6) j;rw[e1]at this;simpa using this
    intro y hs hz;have key:(m:Int)∣b1.p y j->b1.q (RO (j+1) (b1.p y))=RN 1 (-(b1.p y j/m)) y y0:=by
      intro hd;have:b1.p (RN 1 (-(b1.p y j/m)) y y0)=RO (j+1) (b1.p y):=by
        rw[b1.pl,e1];funext k;simp only[RN,RO];by_cases hk:k=j
        · subst hk;rw[if_pos rfl,if_pos A0];have:=IU hd;grind
        rw[if_neg hk];by_cases Y8:k<j+1
        · rw[if_pos Y8,b1.pf _ _ A0,hz _ A0];simp
        rw[if_neg Y8];simp
      rw[<-this,b1.qp]
    constructor
    · intro hy;refine⟨c2 y hy,λk hk=>?_,λi hi=>by simp only[RO];rw[if_pos hi],?_⟩
      · simp only[RO];split
        · rfl
        exact b1.ps _ hs _ hk
      rw[key (c2 y hy)];exact hT.Fa _ _ _ _ hy j6
    rintro⟨hd,h1,h2,h3⟩;rw[key hd]at h3;have:=hT.Fa 1 (b1.p y j/m) _ _ h3 j6;have e:RN 1 (b1.p y j/m) (RN 1 (-(b1.p y j/m)) y y0) y0=y:=by funext k;simp only[RN];grind
    rwa [e]at this
  have hz:∀y,T y->y=λ_=>0:=by
    have hn:∀(b:aI n j) (y:Nat->Int),T y->b.p y j=0:=by
      intro b y hy;apply AN;intro CP;rcases Int.lt_or_gt_of_ne CP with h|h
      · have h3:=hT.Fa (-1) 0 _ _ hy hT.z;exact hp ⟨(b.p (RN (-1) 0 y λ_=>0) j).toNat,by rw[b.pl];simp only[RN];omega,b,_,h3,by rw[b.pl];simp only[RN];omega⟩
      exact hp ⟨(b.p y j).toNat,A0,b,y,hy,A0⟩
    intro y hy;funext k;rcases BL k j with h|h
    · exact h0 _ hy _ h
    rcases BL k n with h'|h'
    · have:=hn (aI.sw (A1 j) h hj h') y hy;have e:(aI.sw (A1 j) h hj h').p y j=y k:=by show Ov j k y j=_;simp[Ov]
      rwa [e]at this
    exact hT.sup _ hy _ h'
  refine⟨aI.id n j,0,λw=>w=λ_=>0,GG _,⟨by rintro x rfl k _;rfl,rfl,by rintro s t x y rfl rfl;funext k;simp[RN]⟩,by rintro x rfl i _;rfl,by rintro x rfl i;exact ML 0,λd _=>MN d,?_⟩;intro y hs hz';show T y↔(0:Int)∣y j/\RO (j+1) y=λ_=>0
  constructor
  · intro hy;rw[hz y hy];exact⟨ML 0,by funext k;simp[RO]⟩
  rintro⟨h1,h2⟩;have:y=λ_=>0:=by
    funext k
    rcases GR k j with h|h|h
    · exact hz' _ h
    · subst h;exact S9.1 h1
    have:=congrFun h2 k;simp only[RO]at this;rwa [if_neg A0]at this
  rw[this];exact hT.z
structure Xm(n:Nat)(S:(Nat->Int)->Prop)(f:Nat->Int):Prop where
 nn:∀i,0<=f i
 ch:∀i k,i<=k->k<n->f i∣f k
 au:∃a:aI n 0,∀x,XC n x->(S x↔∀i,i<n->f i∣a.p x i)
def aI.down{n j:Nat}(a:aI n j):aI n 0:={a with pf:=λ_ _ h=>absurd h (GP _),pc:=λx=>by rw[zX λ_ h=>absurd h (GP _),zX λ_ h=>absurd h (GP _)]}
def AJ6{n S}(hS:LtI n S):∃f,Xm n S f:=by
 have st :∀j,j<=n->∃(a:aI n 0) (f:Nat->Int) (T:(Nat->Int)->Prop),LtI n T/\(∀x,T x->∀i,i<j->x i=0)/\(∀k,k<j->∀x,T x->∀i,f k∣x i)/\(∀i,0<=f i)/\(∀i k,i<=k->k<j->f i∣f k)/\
   ∀x,XC n x->(S x↔(∀i,i<j->f i∣a.p x i)/\T (RO j (a.p x))):=by
  intro j;induction j with
  |zero=>
   intro _;refine⟨aI.id n 0,λ_=>0,S,hS,λ_ _ _ h=>absurd h (GP _),λ_ h=>absurd h (GP _),λ_=>GG _,λ_ _ _ h=>absurd h (GP _),λx _=>?_⟩;rw[zX λ_ h=>absurd h (GP _)];exact⟨λh=>⟨λ_ h=>absurd h (GP _),h⟩,λh=>h.2⟩
  |succ j ih=>
   intro hj;obtain⟨a,f,T,hT,h0,hd,hn,hc,hx⟩:=ih A0;obtain⟨b,m,T',hm,hT',h0',Ki,hdm,hy⟩:=AD4 (by omega:j<n) hT h0;refine⟨b.down.comp a,λk=>if k=j then m else if k<j then f k else 0,T',hT',h0',?_,?_,?_,?_⟩
   ·intro k hk x hTx i;dsimp only;by_cases e:k=j
    ·rw[if_pos e];exact Ki x hTx i
    rw[if_neg e,if_pos A0];exact Int.dvd_trans (hdm _ λx hx i=>hd k A0 x hx i) (Ki x hTx i)
   ·intro i;dsimp only;split
    ·exact hm
    split
    ·exact hn i
    exact GG _
   ·intro i k nZ hk;dsimp only;by_cases e:i=j
    ·obtain rfl:k=j:=A0;rw[if_pos e,if_pos rfl];exact ML _
    rw[if_neg e,if_pos A0];by_cases e':k=j
    ·rw[if_pos e'];exact hdm _ λx hx l=>hd i A0 x hx l
    rw[if_neg e',if_pos A0];exact hc i k nZ A0
   intro x hs;show S x↔(∀i,i<j+1->_∣b.p (a.p x) i)/\T' (RO (j+1) (b.p (a.p x)))
   have c8:XC n (RO j (a.p x)):=λk hk=>by
    simp only[RO];split
    ·rfl
    exact a.ps _ hs _ hk
   have Xn:∀i,i<j->RO j (a.p x) i=0:=λi hi=>by simp only[RO];rw[if_pos hi]
   rw[hx x hs,hy _ c8 Xn];have e1:∀k,j<=k->b.p (RO j (a.p x)) k=b.p (a.p x) k:=λk hk=>by
    rw[<-b.pc];simp only[RO];rw[if_neg A0]
   have e2:RO (j+1) (b.p (RO j (a.p x)))=RO (j+1) (b.p (a.p x)):=by
    funext k;simp only[RO]
    by_cases hk:k<j+1
    ·rw[if_pos hk,if_pos hk]
    rw[if_neg hk,if_neg hk];exact e1 k A0
   rw[e1 j (A1 j),e2];constructor
   ·rintro⟨h1,h2,h3⟩;refine⟨λi hi=>?_,h3⟩;by_cases e:i=j
    ·rw[if_pos e,e];exact h2
    rw[if_neg e,if_pos A0,b.pf _ _ A0];exact h1 i A0
   rintro⟨h1,h3⟩;refine⟨λi hi=>?_,?_,h3⟩
   ·have:=h1 i A0;rw[if_neg A0,if_pos hi,b.pf _ _ hi]at this;exact this
   have:=h1 j A0;rwa [if_pos rfl]at this
 obtain⟨a,f,T,hT,h0,hd,hn,hc,hx⟩:=st n (A1 n);refine⟨f,hn,hc,a,λx hs=>?_⟩;rw[hx x hs];constructor
 ·exact λh=>h.1
 intro h;refine⟨h,?_⟩;have:RO n (a.p x)=λ_=>0:=by
  funext k;simp only[RO];split
  ·rfl
  exact a.ps _ hs _ A0
 rw[this];exact hT.z
def Fb(y:(Nat->Int)->Int):Prop:=∀s t a b,y (RN s t a b)=s*y a+t*y b
def PkI(S:(Nat->Int)->Prop)(g:Int)(k:Nat):Prop:=∀X:List (Nat->Int),X.length=k->(∀x∈X,S x)->∀Y:List ((Nat->Int)->Int),Y.length=k->(∀y∈Y,Fb y)->g∣QT (λx y=>y x) X Y
def iL(j:Nat):Nat->Int:=λk=>if k=j then 1 else 0
def Kj(f:Nat->Int):Nat->Nat->Int
 |_,0=>1
 |s,k+1=>f s*Kj f (s+1) k
def A98(f):∀k s,Kj f s (k+1)=Kj f s k*f (s+k)
 |0,s=>by simp[Kj]
 |k+1,s=>by rw[Kj,A98 f k (s+1),Kj,HY,show s+1+k=s+(k+1)from A0]
def prI(f:Nat->Int):List Nat->Int
 |[]=>1
 |i::I=>f i*prI f I
def Oy{f n}(hc:∀i k,i<=k->k<n->f i∣f k):∀(I:List Nat) (s:Nat),I.Pairwise (· < ·)->(∀i∈I,s<=i/\i<n)->Kj f s I.length∣prI f I
 |[],_,_,_=>ML _
 | i::I,s,hp,h=>by
   have h1:=h i (CA ..);have hp':=List.pairwise_cons.1 hp;refine Int.mul_dvd_mul (hc _ _ h1.1 h1.2) (Oy hc I (s+1) hp'.2 λk hk=>?_);have:=hp'.1 k hk;have:=(h k (C3 _ hk)).2;omega
def yI{β:Type}{f h}:∀{I:List Nat} {Y:List β},QT (λt y=>f t*h t y) I Y=prI f I*QT h I Y
 |[],_=>by simp[QT,prI]
 | i::I,Y=>by
   simp only[QT,prI];rw[<-qQ];apply W1;intro c hc;have e:Y[c]? =some Y[c]:=A9 hc;rw[e];dsimp only;rw[yI];grind
def AD5{y}(h:Fb y)(s x):y (RN s 0 x λ_=>0)=s*y x:=by
 rw[h];simp
def aI.AJ7{n:Nat}(a:aI n 0){c:Nat->Int}{g:Nat->Nat->Int}:∀m,a.q (λk=>QP m λi=>c i*g i k)=λk=>QP m λi=>c i*a.q (g i) k
 |0=>a.q0
 | m+1=>by
   have e:(λk=>QP (m+1) λi=>c i*g i k)=RN 1 (c m) (λk=>QP m λi=>c i*g i k) (g m):=by funext k;simp only[QP,RN];rw[ER]
   rw[e,a.ql,aI.AJ7 a m];funext k;simp only[QP,RN];rw[ER]
def Kk{f:Nat->Int}{c:Nat->Int}{k:Nat}:∀n,QP n (λi=>c i*RN (f i) 0 (iL i) (λ_=>0) k)=if k<n then c k*f k else 0
 |0=>by simp[QP]
 | n+1=>by
   rw[QP,Kk n];simp only[RN,iL];by_cases h:k=n
   ·subst h;rw[if_neg A0,if_pos rfl,if_pos A0];simp
   rw[if_neg h];by_cases h':k<n
   ·rw[if_pos h',if_pos A0];simp
   rw[if_neg h',if_neg A0];simp
def Oz{α:Type}{w n}:∀X:List α,(∀x∈X,∃t,t<n/\x=w t)->∃I:List Nat,X=I.map w/\∀i∈I,i<n
 |[],_=>⟨[],rfl,λ_ h=>by simp at h⟩
 | x::X,h=>by
   obtain⟨t,ht,e⟩:=h x (CA ..);obtain⟨I,e',hI⟩:=Oz X λy hy=>h y (C3 _ hy)
   exact⟨t::I,by rw[e,e'];rfl,λi hi=>(BJ.1 hi).elim (λq=>q▸ht) (hI i)⟩
def A0A{α:Type}{p:α->Prop}:∀Y:List α,(∀y∈Y,p y)->∃Z:List {y//p y},Y=Z.map Subtype.val
 |[],_=>⟨[],rfl⟩
 | y::Y,h=>by
   obtain⟨Z,e⟩:=A0A Y λx hx=>h x (C3 _ hx)
   exact⟨⟨y,h y (CA ..)⟩::Z,congrArg (y:: ·) e⟩
def A0B{f k}(hk:k<=4):QT (λt c:Nat=>if c=t then f t else 0) (List.range k) (List.range k)=Kj f 0 k:=by
 rcases k with _|_|_|_|_|k
 ·rfl
 ·simp[List.range,List.range.loop,zW,Kj]
 ·simp[List.range,List.range.loop,zW,Ey,Kj]
 ·simp[List.range,List.range.loop,zW,Ey,Vj,Kj]
 ·simp[List.range,List.range.loop,zW,Ey,Vj,AD0,Kj]
 omega
def A5U{n S f}(hS:LtI n S)(h:Xm n S f){k}(hk:k<=n)(h4:k<=4){g}:PkI S g k↔g∣Kj f 0 k:=by
 obtain⟨a,ha⟩:=h.au;have us:∀t,t<n->XC n (iL t):=λt ht i hi=>by simp only[iL];rw[if_neg A0]
 have ss:∀t,t<n->∀c,XC n (RN c 0 (iL t) λ_=>0):=λt ht c i hi=>by simp only[RN];rw[us t ht i hi];simp
 constructor
 ·intro hp;have:=hp ((List.range k).map λt=>a.q (RN (f t) 0 (iL t) λ_=>0)) B5 ?_ ((List.range k).map λc x=>a.p x c) B5 ?_
  ·rw[RM]at this;rw[qR (g:=λt c:Nat=>if c=t then f t else 0) (λt _ c _=>?_),A0B h4]at this
   ·exact this
   dsimp only;rw[a.pq];simp only[RN,iL];split<;>simp
  ·intro x hx;obtain⟨t,ht,rfl⟩:=AQ.1 hx;have ht:=B3.1 ht;rw[ha _ (a.qs _ (ss t A0 _))];intro i hi;rw[a.pq];simp only[RN,iL];split
   ·rename_i e;subst e;simp
   simp
  intro y hy;obtain⟨c,_,rfl⟩:=AQ.1 hy;intro s t x x';dsimp only;rw[a.pl];rfl
 intro hg X hX hXS Y hY hYa;obtain⟨Z,rfl⟩:=A0A Y hYa;have e1:QT (λx (y:(Nat->Int)->Int)=>y x) X (Z.map Subtype.val)=QT (λx (y:{y//Fb y})=>y.1 x) X Z:=by
  have:=RM (f:=λ(x:Nat->Int) (y:(Nat->Int)->Int)=>y x) (r:=λx=>x) (q:=(Subtype.val:{y//Fb y}->_)) (X:=X) (Y:=Z);rwa [IH]at this
 rw[e1];have hZ:Z.length=k:=by simpa using hY
 have:=qS (f:=λx (y:{y//Fb y})=>y.1 x) (λs t x y b=>b.2 s t x y) (R:=λw=>∃t,t<n/\w=a.q (RN (f t) 0 (iL t) λ_=>0)) (Y:=Z) A0 (g:=g) ?_ X [] (by simp;omega) B5 ?_
 ·simpa using this
 ·intro X' hX' hR;obtain⟨I,rfl,hI⟩:=Oz X' hR;have e2:=RM (f:=λx (y:{y//Fb y})=>y.1 x) (r:=λt=>a.q (RN (f t) 0 (iL t) λ_=>0)) (q:=λy=>y) (X:=I) (Y:=Z);rw[IH]at e2;rw[e2];refine AD2 A0 (m:=n) (λJ hJ hJn hJl=>?_) I hI (by simpa using hX');rw[qR (g:=λt y=>f t*y.1 (a.q (iL t))) (λt _ y _=>?_),yI]
  ·refine Int.dvd_mul_of_dvd_left (Int.dvd_trans hg ?_);have:=Oy h.ch J 0 hJ λi hi=>⟨AE _,hJn i hi⟩
   rwa [hJl,hZ]at this
  rw[a.ql,a.q0];exact AD5 y.2 _ _
 intro x hx;have hs:=hS.sup x (hXS x hx);have hd:=(ha x hs).1 (hXS x hx);have e3:x=λk=>QP n λi=>(a.p x i/f i)*a.q (RN (f i) 0 (iL i) λ_=>0) k:=by
  rw[<-a.AJ7 n];rw[show(λk=>QP n λi=>(a.p x i/f i)*RN (f i) 0 (iL i) (λ_=>0) k)=a.p x from ?_,a.qp];funext k;rw[Kk]
  split
  ·rename_i hk;exact Int.ediv_mul_cancel (hd k hk)
  exact(a.ps x hs k A0).symm
 rw[e3];exact sS.sum n λi hi=> .gen ⟨i,hi,rfl⟩
end
section
variable{P:Pc}
def TU.mk'{N m}(cl:∀{a b},N a->N b->N (m a b))(ac:∀{a b c},N a->N b->N c->m (m a b) c=m a (m b c))(e0:N z0)(l1:∀{a},N a->m z0 a=a)(iv:∀{a},N a->∃b,N b/\m b a=z0):TU N m:=by
 have rv:∀{a b},N a->N b->m b a=z0->m a b=z0:=by
  intro a b ha hb h;obtain⟨c,hc,h2⟩:=iv hb;rw[<-l1 (cl ha hb),<-h2,ac hc hb (cl ha hb),<-ac hb ha hb,h,l1 hb]
 refine⟨cl,ac,e0,l1,?_,?_⟩
 ·intro a ha;obtain⟨b,hb,h⟩:=iv ha;rw[<-h,<-ac ha hb ha,rv ha hb h,l1 ha]
 intro a ha;obtain⟨b,hb,h⟩:=iv ha;exact⟨b,hb,h,rv ha hb h⟩
def un(j:Nat):V:=D0 z0 j 1
def O9(hv:LK P){i j}(h:i<=j)(hj:j<P.n):T P i (un j):=
 T.mono hv h (T.put hj (T.zero hv _) A0 (hv.o j hj))
def sT{x:V}{i:Nat}:D0 (D0 x i 0) i (x i)=x:=by rw[JW];exact MH rfl
def AD6{i mul}(hv:LK P)(hi:i<P.n){a b}(ha:T P i a)(hb:T P i b):
    wX P i mul a b=D0 (xm mul (P.o i).toNat (P.pw i) (IN P mul i) (a i).toNat (D0 a i 0) (b i).toNat (D0 b i 0)).2 i
      (xm mul (P.o i).toNat (P.pw i) (IN P mul i) (a i).toNat (D0 a i 0) (b i).toNat (D0 b i 0)).1:=by
  have h1:=ha.r i A0 hi;have h2:=hb.r i A0 hi;have h3:=hv.o i hi;unfold wX xm;by_cases h:P.o i<=a i+b i
  · rw[if_pos h,if_pos A0];congr 1;omega
  rw[if_neg h,if_neg A0];congr 1;omega
def AJ8(hv:LK P){i}(hi:i<P.n){φ}(h:Ext (T P (i+1)) (M P (i+1)) (P.o i).toNat (P.pw i) φ){a b x y}(ha:a<(P.o i).toNat)(hb:b<(P.o i).toNat)(hx:T P (i+1) x)(hy:T P (i+1) y):
    (xm (M P (i+1)) (P.o i).toNat (P.pw i) φ a x b y).1<(P.o i).toNat/\T P (i+1) (xm (M P (i+1)) (P.o i).toNat (P.pw i) φ a x b y).2:=by
  unfold xm;split
  · exact⟨by simp only;omega,h.g.cl h.hw (h.g.cl (h.ic hx b) hy)⟩
  exact⟨by simp only;omega,h.g.cl (h.ic hx b) hy⟩
def Vk(hv:LK P){i}(hi:i<P.n)(h:Ext (T P (i+1)) (M P (i+1)) (P.o i).toNat (P.pw i) (IN P (M P (i+1)) i)):TU (T P i) (M P i):=by
 have ho:=hv.o i hi;have hM:∀{a b},T P i a->T P i b->M P i a b=D0 (xm (M P (i+1)) (P.o i).toNat (P.pw i) (IN P (M P (i+1)) i) (a i).toNat (D0 a i 0) (b i).toNat (D0 b i 0)).2 i
   (xm (M P (i+1)) (P.o i).toNat (P.pw i) (IN P (M P (i+1)) i) (a i).toNat (D0 a i 0) (b i).toNat (D0 b i 0)).1:=
  λha hb=>by rw[YI hi];exact AD6 hv hi ha hb
 have hr:∀{a},T P i a->(a i).toNat<(P.o i).toNat:=λha=>by have:=ha.r i A0 hi;omega
 refine TU.mk' (λha hb=>aH hv ha hb) ?_ (T.zero hv i) ?_ ?_
 ·intro a b c ha hb hc;obtain⟨u1,u2⟩:=AJ8 hv hi h (hr ha) (hr hb) ha.cut hb.cut;obtain⟨u3,u4⟩:=AJ8 hv hi h (hr hb) (hr hc) hb.cut hc.cut;have l8:=aH hv ha hb;have hbc:=aH hv hb hc;have:=h.assoc (hr ha) (hr hb) (hr hc) ha.cut hb.cut hc.cut;rw[hM l8 hc,hM ha hbc];rw[hM ha hb,hM hb hc];simp only[EM,CQ,T.aG u2,T.aG u4];rw[this]
 ·intro a ha;rw[hM (T.zero hv i) ha,QI];have h1:=hr ha;unfold xm;rw[show(z0 i).toNat=0 from rfl,if_neg A0];simp only[h.i0,h.g.l1 ha.cut];rw[JW];exact MH (by have:=ha.r i A0 hi;omega)
 intro a ha;have h1:=hr ha;by_cases e:(a i).toNat=0
 ·obtain⟨v,q1,q2,q3⟩:=h.g.iv ha.cut;refine⟨D0 v i 0,T.put hi q1 A0 A0,?_⟩;rw[hM (T.put hi q1 A0 A0) ha];unfold xm;rw[EM,show(0:Int).toNat=0 from rfl,e,if_neg A0,T.aG q1];show D0 (M P (i+1) v _) i _=_
  rw[q2];exact QI
 obtain⟨u,q1,q2,q3⟩:=h.g.iv (h.g.cl h.hw ha.cut);have q4:T P (i+1) (IS (IN P (M P (i+1)) i) ((P.o i).toNat-(a i).toNat) u):=h.ic q1 _;refine⟨D0 (IS (IN P (M P (i+1)) i) ((P.o i).toNat-(a i).toNat) u) i (((P.o i).toNat-(a i).toNat:Nat):Int),T.put hi q4 A0 A0,?_⟩;rw[hM (T.put hi q4 A0 A0) ha];unfold xm;rw[EM,CQ,if_pos A0,T.aG q4,<-W0,show(P.o i).toNat-(a i).toNat+(a i).toNat=(P.o i).toNat by omega];simp only
 rw[<-h.g.ac h.hw (h.ic q1 _) ha.cut,h.inn q1,h.g.ac q1 h.hw ha.cut,q2];rw[CM];exact QI
structure A0C(P:Pc)(i:Nat):Prop where
 pw:∀j,i<j->j<P.n->rep (M P (i+1)) (P.cj i j) (P.o j).toNat=IN P (M P (i+1)) i (P.pw j)
 cj:∀j k,i<j->j<k->k<P.n->M P (i+1) (P.cj i k) (P.cj i j)=M P (i+1) (P.cj i j) (IN P (M P (i+1)) i (P.cj j k))
 fx:IN P (M P (i+1)) i (P.pw i)=P.pw i
 inn:∀j,i<j->j<P.n->M P (i+1) (P.pw i) (IS (IN P (M P (i+1)) i) (P.o i).toNat (un j))=M P (i+1) (un j) (P.pw i)
def HN(P:Pc)(l:Nat):Prop:=∀i,l<=i->i<P.n->A0C P i
def HN.mono{l m}(h:HN P l)(hm:l<=m):HN P m:=λi h1 h2=>h i A0 h2
def zY(hv:LK P){i a b}(ha:T P (i+1) a)(hb:T P (i+1) b):M P i a b=M P (i+1) a b:=by
 by_cases hi:i<P.n
 ·rw[YI hi];unfold wX;have:=hv.o i hi;have h1:=ha.z i A0;have h2:=hb.z i A0;rw[h1,h2,if_neg A0,MH h1,MH h2];show D0 (M P (i+1) a b) i (0+0)=_
  exact MH ((aH hv ha hb).z i A0)
 rw[oW A0,oW A0]
def aJ(hv:LK P){i j}(Q3:i<=j){a b}(ha:T P j a)(hb:T P j b):M P i a b=M P j a b:=by
 obtain⟨d,rfl⟩:∃d,j=i+d:=⟨j-i,A0⟩;induction d generalizing i with
 |zero=>rfl
 | succ d ih=>
   have h1:i+(d+1)=i+1+d:=A0;rw[h1]at ha hb;rw[zY hv (ha.mono hv A0) (hb.mono hv A0),ih A0 ha hb,h1]
def aK{mul c x u}:∀d q j,(∀k,j<=k->k<j+d->x k=0)->RB mul c x (d+q) j u=RB mul c x q (j+d) u:=by
 intro d;induction d with
 |zero=>intro q j _;rw[BS];rfl
 | succ d ih=>
   intro q j h;rw[show d+1+q=(d+q)+1 by omega,RB,h j A0 A0];show RB mul c x (d+q) (j+1) u=_
   rw[ih q (j+1) (λk h1 h2=>h k A0 A0),show j+1+d=j+(d+1) by omega]
def Pa{mul c x y}:∀q j u,(∀k,j<=k->k<j+q->x k=y k)->RB mul c x q j u=RB mul c y q j u:=by
 intro q;induction q with
 |zero=>intros;rfl
 |succ q ih=>intro j u h;rw[RB,RB,h j A0 A0,ih _ _ (λk h1 h2=>h k A0 A0)]
section
variable{i:Nat}(hv:LK P)(hg:TU (T P (i+1)) (M P (i+1)))
include hv hg
theorem aL{l}(hl:i<l)(aM:l<P.n){x}(hx:T P l x):
  IN P (M P (i+1)) i x=M P (i+1) (rep (M P (i+1)) (P.cj i l) (x l).toNat) (IN P (M P (i+1)) i (D0 x l 0)):=by
 have e:P.n-(i+1)=(l-(i+1))+((P.n-(l+1))+1):=A0;have e2:i+1+(l-(i+1))=l:=A0;have s1:∀y:V,(∀k,k<l->y k=0)->IN P (M P (i+1)) i y=RB (M P (i+1)) (P.cj i) y (P.n-(l+1)+1) l z0:=by
  intro y hy;have:=aK (mul:=M P (i+1)) (c:=P.cj i) (x:=y) (u:=z0) (l-(i+1)) (P.n-(l+1)+1) (i+1) (λk h1 h2=>hy k A0);rw[<-e,e2]at this;exact this
 rw[s1 x hx.z,s1 (D0 x l 0) (λk hk=>by rw[EW A0];exact hx.z k hk),RB,RB,EM];show _=M P (i+1) _ (RB _ _ _ _ _ z0)
 rw[Pa (x:=D0 x l 0) (y:=x) _ _ _ (λk h1 h2=>EW A0),
  hg.RB _ _ _ (λk h1 h2=>hv.cj i k A0 A0) (RL (λy hy=>hg.cl hy (hv.cj i l hl aM)) _ _ hg.e0)]
 rfl
theorem lS:IN P (M P (i+1)) i z0=z0:=by
 unfold IN;have this:RB (M P (i+1)) (P.cj i) z0 (P.n-(i+1)) (i+1) z0=RB (M P (i+1)) (P.cj i) z0 0 (i+1+(P.n-(i+1))) z0:=aK (P.n-(i+1)) 0 (i+1) (λk _ _=>rfl);rw[this];rfl
theorem A0D{c d x a}(ha:T P (i+1) a):∀q j,(∀k,j<=k->k<j+q->T P (i+1) (c k)/\T P (i+1) (d k)/\M P (i+1) a (d k)=M P (i+1) (c k) a)->
   ∀u v,T P (i+1) u->T P (i+1) v->M P (i+1) a v=M P (i+1) u a->M P (i+1) a (RB (M P (i+1)) d x q j v)=M P (i+1) (RB (M P (i+1)) c x q j u) a:=by
 intro q;induction q with
 |zero=>exact λ_ _ _ _ _ _ h=>h
 | succ q ih=>
   intro j hc u v hu hv' h;obtain⟨c1,c2,c3⟩:=hc j A0 A0;have key:∀k,T P (i+1) (IS (λu=>M P (i+1) u (c j)) k u)/\T P (i+1) (IS (λu=>M P (i+1) u (d j)) k v)/\
      M P (i+1) a (IS (λu=>M P (i+1) u (d j)) k v)=M P (i+1) (IS (λu=>M P (i+1) u (c j)) k u) a:=by
    intro k;induction k with
    |zero=>exact⟨hu,hv',h⟩
    | succ k ihk=>
      obtain⟨k1,k2,k3⟩:=ihk;refine⟨hg.cl k1 c1,hg.cl k2 c2,?_⟩;simp only[IS];rw[<-hg.ac ha k2 c2,k3,hg.ac k1 ha c2,c3,hg.ac k1 c1 ha]
   obtain⟨k1,k2,k3⟩:=key (x j).toNat;exact ih (j+1) (λk h1 h2=>hc k A0 A0) _ _ k1 k2 k3
theorem A5V{l:Nat}(hl:i<l){φ:V->V}(hφ:∀{x},T P (l+1) x->T P (i+1) (φ x))(hh:∀{x y},T P (l+1) x->T P (l+1) y->φ (M P (l+1) x y)=M P (i+1) (φ x) (φ y)){c:Nat->V}{x:V}:
   ∀q j,(∀k,j<=k->k<j+q->T P (l+1) (c k))->∀u,T P (l+1) u->φ (RB (M P (l+1)) c x q j u)=RB (M P (i+1)) (λk=>φ (c k)) x q j (φ u):=by
 intro q;induction q with
 |zero=>intros;rfl
 | succ q ih=>
   intro j hc u hu;have cj:=hc j A0 A0;have key:∀k,T P (l+1) (IS (λu=>M P (l+1) u (c j)) k u)/\φ (IS (λu=>M P (l+1) u (c j)) k u)=IS (λu=>M P (i+1) u (φ (c j))) k (φ u):=by
    intro k;induction k with
    |zero=>exact⟨hu,rfl⟩
    |succ k ihk=>exact⟨aH hv ihk.1 cj,by simp only[IS];rw[hh ihk.1 cj,ihk.2]⟩
   obtain⟨k1,k2⟩:=key (x j).toNat;rw[RB,ih (j+1) (λk h1 h2=>hc k A0 A0) _ k1,k2,RB]
theorem A0E{x}:T P (i+1) (IN P (M P (i+1)) i x):=eM hv (λa b=>hg.cl) x
theorem A5W(hc:A0C P i):∀d l,i<l->P.n-l=d->∀x y,T P l x->T P l y->IN P (M P (i+1)) i (M P l x y)=M P (i+1) (IN P (M P (i+1)) i x) (IN P (M P (i+1)) i y):=by
 intro d;induction d with
 |zero=>
  intro l hl hd x y hx hy;rw[oW A0,hx.ge A0,hy.ge A0,lS hv hg,hg.l1 hg.e0]
 |succ d ih=>
  intro l hl hd x y hx hy;have aM:l<P.n:=A0;have ih':=λ{x y} (hx:T P (l+1) x) (hy:T P (l+1) y)=>ih (l+1) A0 A0 x y hx hy
  have fc:∀{x},T P (i+1) (IN P (M P (i+1)) i x):=A0E hv hg;have KW:=hv.cj i l hl aM;have ex:∀{u},T P (l+1) u->M P (i+1) (P.cj i l) (IN P (M P (i+1)) i (IN P (M P (l+1)) l u))=M P (i+1) (IN P (M P (i+1)) i u) (P.cj i l):=by
   intro u hu;have h1:IN P (M P (i+1)) i (IN P (M P (l+1)) l u)=RB (M P (i+1)) (λk=>IN P (M P (i+1)) i (P.cj l k)) u (P.n-(l+1)) (l+1) z0:=by
     rw[show IN P (M P (l+1)) l u=RB (M P (l+1)) (P.cj l) u (P.n-(l+1)) (l+1) z0 from rfl,A5V hv hg hl (φ:=IN P (M P (i+1)) i) (λ_=>fc) ih' _ _ (λk h1 h2=>hv.cj l k A0 A0) _ (T.zero hv _),lS hv hg]
   have h2:IN P (M P (i+1)) i u=RB (M P (i+1)) (P.cj i) u (P.n-(l+1)) (l+1) z0:=by
     unfold IN;rw[show P.n-(i+1)=(l-i)+(P.n-(l+1)) by omega,aK _ _ _ (λk h1 h2=>hu.z k A0),show i+1+(l-i)=l+1 by omega]
   rw[h1,h2];refine A0D hv hg KW _ _ (λk h3 h4=>⟨hv.cj i k A0 A0,fc,(hc.cj l k hl A0 A0).symm⟩) _ _ hg.e0 hg.e0 ?_;rw[hg.r1 KW,hg.l1 KW]
  have exn:∀b u,T P (l+1) u->M P (i+1) (rep (M P (i+1)) (P.cj i l) b) (IN P (M P (i+1)) i (IS (IN P (M P (l+1)) l) b u))=M P (i+1) (IN P (M P (i+1)) i u) (rep (M P (i+1)) (P.cj i l) b):=by
   intro b;induction b with
   |zero=>intro u hu;show M P (i+1) z0 (IN _ _ _ u)=M P (i+1) _ z0;rw[hg.l1 fc,hg.r1 fc]
   | succ b ihb=>
     intro u hu;have t1:T P (l+1) (IS (IN P (M P (l+1)) l) b u):=RL (λy _=>eM hv (λ_ _=>aH hv) y) _ _ hu;show M P (i+1) (M P (i+1) (rep (M P (i+1)) (P.cj i l) b) (P.cj i l)) (IN P (M P (i+1)) i (IN P (M P (l+1)) l (IS (IN P (M P (l+1)) l) b u)))=M P (i+1) _ (M P (i+1) (rep (M P (i+1)) (P.cj i l) b) (P.cj i l))
     rw[hg.ac (hg.rep KW b) KW fc,ex t1,<-hg.ac (hg.rep KW b) fc KW,ihb u hu,hg.ac fc (hg.rep KW b) KW]
  have rx:=hx.r l A0 aM;have ry:=hy.r l A0 aM;have tl:T P (l+1) (IS (IN P (M P (l+1)) l) (y l).toNat (D0 x l 0)):=RL (λy _=>eM hv (λ_ _=>aH hv) y) _ _ hx.cut;have tr:T P (l+1) (M P (l+1) (IS (IN P (M P (l+1)) l) (y l).toNat (D0 x l 0)) (D0 y l 0)):=aH hv tl hy.cut;have ra:=hg.rep KW (x l).toNat;have rb:=hg.rep KW (y l).toNat;have core:M P (i+1) (M P (i+1) (rep (M P (i+1)) (P.cj i l) (x l).toNat) (rep (M P (i+1)) (P.cj i l) (y l).toNat)) (IN P (M P (i+1)) i (M P (l+1) (IS (IN P (M P (l+1)) l) (y l).toNat (D0 x l 0)) (D0 y l 0)))=
     M P (i+1) (IN P (M P (i+1)) i x) (IN P (M P (i+1)) i y):=by
   rw[ih' tl hy.cut,hg.ac ra rb (hg.cl fc fc),<-hg.ac rb fc fc,exn _ _ hx.cut,hg.ac fc rb fc,<-aL hv hg hl aM hy,<-hg.ac ra fc fc,<-aL hv hg hl aM hx]
  rw[YI aM];unfold wX;by_cases h:P.o l<=x l+y l
  ·rw[if_pos h];have tt:=aH hv (hv.pw l aM) tr;rw[aL hv hg hl aM (T.put aM tt A0 A0),EM,T.aG tt,ih' (hv.pw l aM) tr,<-hc.pw l hl aM,<-hg.ac (hg.rep KW _) (hg.rep KW _) fc,<-hg.OJ KW,
     show(x l+y l-P.o l).toNat+(P.o l).toNat=(x l).toNat+(y l).toNat by omega,hg.OJ KW,core]
  rw[if_neg h,aL hv hg hl aM (T.put aM tr A0 A0),EM,T.aG tr,show(x l+y l).toNat=(x l).toNat+(y l).toNat by omega,hg.OJ KW,core]
end
def A5X(hv:LK P){l:Nat}{p:V->Prop}(h0:p z0)(hm:∀x y,T P l x->T P l y->p x->p y->p (M P l x y))(hu:∀j,l<=j->j<P.n->p (un j))(h1:∀j x,l<=j->T P j x->M P l z0 x=x):∀x,T P l x->p x:=by
 have key:∀d j,l<=j->P.n-j=d->∀x,T P j x->p x:=by
  intro d;induction d with
  |zero=>intro j hj hd x hx;rw[hx.ge A0];exact h0
  | succ d ih =>
    intro j hj hd x hx;have lT:j<P.n:=A0;have pu : ∀(k:Nat) (y:V),(k:Int)<P.o j->T P (j+1) y->p y->p (D0 y j k):=by
     intro k;induction k with
     |zero=>intro y _ ty hy;rw[show D0 y j ((0:Nat):Int)=y from MH (ty.z j A0)];exact hy
     | succ k ihk=>
       intro y hk ty hy;have t1:T P j (D0 y j k):=T.put lT ty A0 A0;have t2:T P j (un j):=O9 hv (A1 _) lT;have e:M P l (un j) (D0 y j k)=D0 y j ((k+1:Nat):Int):=by
        rw[aJ hv hj t2 t1,YI lT];unfold wX;rw[show un j j=1 from EM,EM,if_neg A0,show D0 (un j) j 0=z0 by rw[un,JW,QI],T.aG ty];have:IS (IN P (M P (j+1)) j) ((k:Int)).toNat z0=z0:=by
         have hz:IN P (M P (j+1)) j z0=z0:=by
           unfold IN;have this:RB (M P (j+1)) (P.cj j) z0 (P.n-(j+1)) (j+1) z0=RB (M P (j+1)) (P.cj j) z0 0 (j+1+(P.n-(j+1))) z0:=aK (P.n-(j+1)) 0 (j+1) (λk _ _=>rfl);rw[this];rfl
         generalize ((k:Int)).toNat=q
         induction q with
         |zero=>rfl
         |succ q ihq=>rw[IS,ihq,hz]
        rw[this,<-aJ hv (show l<=j+1 by omega) (T.zero hv _) ty,h1 _ _ A0 ty];congr 1;omega
       rw[<-e];exact hm _ _ (t2.mono hv hj) (t1.mono hv hj) (hu j hj lT) (ihk y A0 ty hy)
    have rx:=hx.r j A0 lT;have:=pu (x j).toNat (D0 x j 0) A0 hx.cut (ih (j+1) A0 A0 _ hx.cut);rw[show(((x j).toNat:Nat):Int)=x j by omega,sT]at this;exact this
 exact λx hx=>key _ l (A1 _) rfl x hx
def Vl(hv:LK P){i}(hi:i<P.n)(hg:TU (T P (i+1)) (M P (i+1)))(hc:A0C P i):Ext (T P (i+1)) (M P (i+1)) (P.o i).toNat (P.pw i) (IN P (M P (i+1)) i):=by
 have fc:∀{x},T P (i+1) (IN P (M P (i+1)) i x):=A0E hv hg;have fm:∀{x y},T P (i+1) x->T P (i+1) y->IN P (M P (i+1)) i (M P (i+1) x y)=M P (i+1) (IN P (M P (i+1)) i x) (IN P (M P (i+1)) i y):=
  λhx hy=>A5W hv hg hc _ (i+1) A0 rfl _ _ hx hy
 have hw:=hv.pw i hi;refine⟨hg,λ_=>fc,fm,lS hv hg,hw,hc.fx,?_⟩;intro x hx;have ic:∀{x} (k:Nat),T P (i+1) x->T P (i+1) (IS (IN P (M P (i+1)) i) k x):=λk hx=>RL (λ_ _=>fc) _ _ hx
 have im:∀{x y} (k:Nat),T P (i+1) x->T P (i+1) y->IS (IN P (M P (i+1)) i) k (M P (i+1) x y)=M P (i+1) (IS (IN P (M P (i+1)) i) k x) (IS (IN P (M P (i+1)) i) k y):=by
  intro x y k hx hy;induction k with
  |zero=>rfl
  |succ k ih=>rw[IS,ih,fm (ic k hx) (ic k hy)];rfl
 have i0:∀k,IS (IN P (M P (i+1)) i) k z0=z0:=by
  intro k;induction k with
  |zero=>rfl
  |succ k ih=>rw[IS,ih,lS hv hg]
 refine A5X (p:=λx=>M P (i+1) (P.pw i) (IS (IN P (M P (i+1)) i) (P.o i).toNat x)=M P (i+1) x (P.pw i)) hv ?_ ?_ ?_ ?_ x hx
 ·show M P (i+1) _ (IS _ _ z0)=_
  rw[i0,hg.r1 hw,hg.l1 hw]
 ·intro x y hx hy h1 h2;show M P (i+1) _ (IS _ _ (M P (i+1) x y))=_
  rw[im _ hx hy,<-hg.ac hw (ic _ hx) (ic _ hy),h1,hg.ac hx hw (ic _ hy),h2,hg.ac hx hy hw]
 ·exact λj h1 h2=>hc.inn j A0 h2
 exact λj x h1 hx=>hg.l1 (hx.mono hv h1)
def CS(hv:LK P):∀{l:Nat},HN P l->TU (T P l) (M P l):=by
 have key:∀d l,P.n-l=d->HN P l->TU (T P l) (M P l):=by
  intro d;induction d with
  |zero=>
   intro l hd _;have hz:∀{x},T P l x->x=z0:=λhx=>hx.ge A0
   have hm:∀{x y},M P l x y=z0:=oW A0 _ _;exact⟨λ_ _=>by rw[hm];exact T.zero hv _,λ_ _ _=>by rw[hm,hm],T.zero hv _,λh=>by rw[hm,hz h],λh=>by rw[hm,hz h],λh=>⟨z0,T.zero hv _,hm,hm⟩⟩
  |succ d ih=>
   intro l hd hc;have hl:l<P.n:=A0;exact Vk hv hl (Vl hv hl (ih (l+1) A0 (hc.mono A0)) (hc l (A1 _) hl))
 exact λ{l} h=>key _ l rfl h
end
section
variable{P:Pc}
def tl(l:Nat)(e:V):V:=λk=>if k<l then 0 else e k
def app(P:Pc)(l:Nat)(e f:V):V:=λk=>if k<l then e k else M P l (tl l e) f k
def Vm(hv:LK P){e}(h:T P 0 e)(l):T P l (tl l e):=
 ⟨λk hk=>by simp[tl,hk],λk h1 h2=>by rw[tl,if_neg A0];exact h.r k A0 h2,λk hk=>by rw[tl];split;rfl;exact h.t k hk⟩
def AJ9{l e}(h:T P l e):tl l e=e:=by
 funext k;rw[tl];split
 ·exact(h.z k (by assumption)).symm
 rfl
def AJA(hv:LK P){l e f}(he:T P 0 e)(hf:T P l f):T P 0 (app P l e f):=by
 have h:=aH hv (Vm hv he l) hf;refine⟨λk hk=>A0,λk _ h2=>?_,λk hk=>?_⟩
 ·rw[app];split
  ·exact he.r k A0 h2
  exact h.r k A0 h2
 rw[app];split
 ·exact he.t k hk
 exact h.t k hk
def sU(hv:LK P){l e f}(he:T P l e)(hf:T P l f):app P l e f=M P l e f:=by
 funext k;rw[app,AJ9 he];split
 ·rename_i hk;rw[he.z k hk,(aH hv he hf).z k hk]
 rfl
def Fc(hv:LK P)(j q):IS (IN P (M P (j+1)) j) q z0=z0:=by
 have hz:IN P (M P (j+1)) j z0=z0:=by
   unfold IN;have this:RB (M P (j+1)) (P.cj j) z0 (P.n-(j+1)) (j+1) z0=RB (M P (j+1)) (P.cj j) z0 0 (j+1+(P.n-(j+1))) z0:=aK (P.n-(j+1)) 0 (j+1) (λk _ _=>rfl);rw[this];rfl
 induction q with
 |zero=>rfl
 |succ q ihq=>rw[IS,ihq,hz]
def A0F(hv:LK P):∀d {l:Nat} {x u:V},T P l x->T P (l+d) u->M P l x u=λk=>if k<l+d then x k else M P (l+d) (tl (l+d) x) u k:=by
 intro d;induction d with
 |zero=>
  intro l x u hx hu;have:=sU hv hx hu;rw[<-this];rfl
 |succ d ih=>
  intro l x u hx hu;by_cases hl:l<P.n
  ·rw[YI hl];unfold wX;have h1:=hu.z l A0;have h2:=hx.r l A0 hl;rw[h1,if_neg A0,MH h1];show D0 (M P (l+1) (D0 x l 0) u) l (x l+0)=_
   rw[show l+(d+1)=l+1+d by omega]at hu ⊢;rw[ih hx.cut hu];funext k
   simp only[D0];by_cases e:k=l
   ·subst e;rw[if_pos rfl,if_pos A0];omega
   rw[if_neg e,if_neg e];have:tl (l+1+d) (D0 x l 0)=tl (l+1+d) x:=by
    funext q;simp only[tl];split
    ·rfl
    rw[EW A0]
   rw[this]
  have e1:=hx.ge A0;rw[oW A0,e1];funext k
  split
  ·rfl
  rw[oW A0]
def Kl(hv:LK P){l j}(hl:l<=j){e u}(he:T P 0 e)(hu:T P j u):app P l e u=app P j e u:=by
 obtain⟨d,rfl⟩:∃d,j=l+d:=⟨j-l,A0⟩;funext k
 have ht:=A0F hv d (Vm hv he l) hu;rw[app,app,ht];have:tl (l+d) (tl l e)=tl (l+d) e:=by
  funext q;simp only[tl];split
  ·rfl
  rw[if_neg A0]
 rw[this];by_cases h1:k<l
 ·rw[if_pos h1,if_pos A0]
 rw[if_neg h1];show(if k<l+d then tl l e k else M P (l+d) (tl (l+d) e) u k)=_
 by_cases h2:k<l+d
 ·rw[if_pos h2,if_pos h2,tl,if_neg h1]
 rw[if_neg h2,if_neg h2]
def A5Y(hv:LK P){l}(hg:TU (T P l) (M P l)){e u v}(he:T P 0 e)(hu:T P l u)(hw:T P l v):app P l (app P l e u) v=app P l e (M P l u v):=by
 funext k
 have h1:=Vm hv he l;have:tl l (app P l e u)=M P l (tl l e) u:=by
  funext q;simp only[tl,app];split
  ·rw[(aH hv h1 hu).z q (by assumption)]
  rfl
 show(if k<l then app P l e u k else M P l (tl l (app P l e u)) v k)=if k<l then e k else M P l (tl l e) (M P l u v) k
 rw[this];by_cases h:k<l
 ·rw[if_pos h,if_pos h,app,if_pos h]
 rw[if_neg h,if_neg h,hg.ac h1 hu hw]
def AD7(hv:LK P){l}(hg:TU (T P l) (M P l)){e}(he:T P 0 e):app P l e z0=e:=by
 funext k
 rw[app,hg.r1 (Vm hv he l),tl];split
 ·rfl
 rfl
def A0G(hv:LK P){j}(hj:j<P.n)(hg:TU (T P (j+1)) (M P (j+1))){y}(ty:T P (j+1) y){a}(h0:0<=a)(h1:a+1<P.o j):
    M P j (un j) (D0 y j a)=D0 y j (a+1):=by
  rw[YI hj];unfold wX;rw[show un j j=1 from EM,EM,if_neg A0,show D0 (un j) j 0=z0 by rw[un,JW,QI],T.aG ty,Fc hv,hg.l1 ty];congr 1;omega
def qT(j:Nat)(e:V)(c:Int)(t:V):V:=λk=>if k<j then e k else if k=j then c else t k
def A0H(hv:LK P){j e t c}(hj:j<P.n)(he:T P 0 e)(h0:0<=c)(h1:c<P.o j)(ht:T P (j+1) t):T P 0 (qT j e c t):=by
 refine⟨λk hk=>A0,λk _ h2=>?_,λk hk=>?_⟩
 ·rw[qT];split
  ·exact he.r k A0 h2
  split
  ·rename_i h;subst h;exact⟨h0,h1⟩
  exact ht.r k A0 h2
 rw[qT,if_neg A0,if_neg A0];exact ht.t k hk
def AD8{j e t c}(ht:T P (j+1) t):tl (j+1) (qT j e c t)=t:=by
 funext k;simp only[tl,qT];split
 ·exact(ht.z k (by assumption)).symm
 rw[if_neg A0,if_neg A0]
def zZ(hv:LK P){j e t u c}(ht:T P (j+1) t)(hu:T P (j+1) u):app P (j+1) (qT j e c t) u=qT j e c (M P (j+1) t u):=by
 funext k
 rw[app,AD8 ht];simp only[qT];by_cases h:k<j+1
 ·rw[if_pos h];by_cases h2:k<j
  ·rw[if_pos h2,if_pos h2]
  rw[if_neg h2,if_neg h2,if_pos A0,if_pos A0]
 rw[if_neg h,if_neg A0,if_neg A0]
def tg0(P:Pc)(j:Nat)(e:V):Int×V:=if e j+1=P.o j then (0,P.pw j)else (e j+1,z0)
def A0I(hv:LK P){j}(hj:j<P.n)(hg:TU (T P (j+1)) (M P (j+1))){e}(he:T P 0 e):
    app P j e (un j)=qT j e (tg0 P j e).1 (RB (M P (j+1)) (P.cj j) e (P.n-(j+1)) (j+1) (tg0 P j e).2):=by
  have h1:=Vm hv he j;have h2:=he.r j A0 hj;have h3:un j j=1:=EM;have h4:D0 (un j) j 0=z0:=by rw[un,JW,QI]
  have h5:tl j e j=e j:=by rw[tl,if_neg A0]
  have h6:T P (j+1) (IN P (M P (j+1)) j (D0 (tl j e) j 0)):=eM hv (λ_ _=>aH hv) _;have h7:IN P (M P (j+1)) j (D0 (tl j e) j 0)=RB (M P (j+1)) (P.cj j) e (P.n-(j+1)) (j+1) z0:=by
    unfold IN;exact Pa _ _ _ (λk q1 q2=>by rw[EW A0,tl,if_neg A0])
  funext k
  rw[app,YI hj];unfold wX;rw[h3,h4,h5];show(if k<j then e k else (if P.o j<=e j+1 then D0 (M P (j+1) (P.pw j) (M P (j+1) (IN P (M P (j+1)) j (D0 (tl j e) j 0)) z0)) j (e j+1-P.o j)else D0 (M P (j+1) (IN P (M P (j+1)) j (D0 (tl j e) j 0)) z0) j (e j+1)) k)=_
  rw[hg.r1 h6,h7,qT];by_cases hk:k<j
  · rw[if_pos hk,if_pos hk]
  rw[if_neg hk,if_neg hk];unfold tg0;by_cases hc:e j+1=P.o j
  · rw[if_pos A0,if_pos hc];simp only
    rw[hg.RB _ _ (P.pw j) (λk q1 q2=>hv.cj j k A0 A0) (hv.pw j hj)];simp only[D0];split
    · omega
    rfl
  rw[if_neg A0,if_neg hc];rfl
noncomputable def inv(P:Pc)(l:Nat)(a:V):V:=open Classical in if h:∃b,T P l b/\M P l a b=z0 then Classical.choose h else z0
section
variable{l:Nat}(hg:TU (T P l) (M P l))
include hg
theorem KJ{a}(ha:T P l a):T P l (inv P l a)/\M P l a (inv P l a)=z0:=by
 obtain⟨b,h1,h2,h3⟩:=hg.iv ha;have h:∃b,T P l b/\M P l a b=z0:=⟨b,h1,h3⟩;unfold inv;rw[dif_pos h];exact PJ h
theorem inv_eq{a b}(ha:T P l a)(hb:T P l b)(h:M P l a b=z0):b=inv P l a:=by
 obtain⟨h1,h2⟩:=KJ hg ha;exact hg.lc ha hb h1 (by rw[h,h2])
theorem AJB{a}(ha:T P l a):M P l (inv P l a) a=z0:=by
 obtain⟨h1,h2⟩:=KJ hg ha;obtain⟨b,h3,h4,h5⟩:=hg.iv ha;rw[<-inv_eq hg ha h3 h5,h4]
theorem XD{a b x}(ha:T P l a)(hb:T P l b)(hx:T P l x):M P l (inv P l b) (M P l a b)=x↔M P l a b=M P l b x:=by
 obtain⟨h1,h2⟩:=KJ hg hb;constructor
 ·intro h;rw[<-h,<-hg.ac hb h1 (hg.cl ha hb),h2,hg.l1 (hg.cl ha hb)]
 intro h;rw[h,<-hg.ac h1 hb hx,AJB hg hb,hg.l1 hx]
end
end
end Go.Proofs.YtgknbnkmilddhaaGreat