import Derived.Test.YtgknbnkmilddhaaGreatZ06
import Derived.Test.YtgknbnkmilddhaaGreatZ09
import Derived.Test.YtgknbnkmilddhaaGreatZ13
import Derived.Test.YtgknbnkmilddhaaGreatZ14
import Derived.Test.YtgknbnkmilddhaaGreatZ15
import Derived.Test.YtgknbnkmilddhaaGreatZ16
set_option linter.all false

open Go.Proofs.Tryz
namespace Go.Proofs.YtgknbnkmilddhaaGreat
section
def vN(r n:Nat):Nat:=(U4 r 10 n).1
def smL(n:Nat):List (Nat×Nat):=([2,3,5,7].map λr=>(r,vN r n)).filter λx=>decide (0<x.2)
def WD(n:Nat):Bool:=n==2^vN 2 n*3^vN 3 n*5^vN 5 n*7^vN 7 n
def AEI:((List.range 730).all λn=> !(WD n && decide (1<=n))||YB n==smL n)=true:=AP
def kJ{n}(h1:1<=n)(h:n<=729)(hs:WD n=true):YB n=smL n:=by
 have:=BM.1 AEI n (B3.2 A0);rw[hs]at this;simpa[h1]using this
def AEJ:((List.range 730).all λn=>decide (n<2)||decide (0<(YB n).length))=true:=AP
def Bv{n}(h2:2<=n)(h:n<=729):0<(YB n).length:=by
 have:=BM.1 AEJ n (B3.2 A0);simp only[HW,decide_eq_true_eq]at this;omega
def Rq(n:Nat):Int:=(T4 (YB n)).getD 0 0
def Yb(x y:Nat):Int:=Wd [cmp (Rq x) (Rq y),cmp x y]
def YX(x y:Nat)(hx:2<=x/\x<=729)(hy:2<=y/\y<=729):DZ prog 142 [.i .i64 x,.i .i64 y] (.i .i64 (Yb x y)):=by
 have Wh:=Bv hx.1 hx.2
 have hly:=Bv hy.1 hy.2
 have hpx:(T4 (YB x)).length=(YB x).length:=by simp[T4]
 have hpy:(T4 (YB y)).length=(YB y).length:=by simp[T4]
 have hgx:(List.map (AV.i .i64) (T4 (YB x))).getD 0 .j= .i .i64 (Rq x):=by rw[A5,BF,Rq,A5,A9 A0];rfl
 have hgy:(List.map (AV.i .i64) (T4 (YB y))).getD 0 .j= .i .i64 (Rq y):=by rw[A5,BF,Rq,A5,A9 A0];rfl
 refine BI AY func142 rfl AP ntmps142 results142 (.i _ _) (λnx cX=>?_)
 refine sQ λN hN=>?_;simp-dsimp-implicitDefEqProofs(disch:=omega)only[go_sem,A4,ints];apply hN;refine sQ λN hN=>?_;simp-dsimp-implicitDefEqProofs(disch:=omega)only[go_sem,A4,ints];refine AC.pure (.of (RR x A0 A0)) ?_;(try simp-dsimp-implicitDefEqProofs(disch:=omega)only[go_sem,A4,ints]);apply hN;refine sQ λN hN=>?_;simp-dsimp-implicitDefEqProofs(disch:=omega)only[go_sem,A4,ints];refine AC.pure (.of (RR y A0 A0)) ?_;(try simp-dsimp-implicitDefEqProofs(disch:=omega)only[go_sem,A4,ints]);apply hN;refine A6 λN hN=>C9 AY AP 13 AP ?_
 (try simp-dsimp-implicitDefEqProofs(disch:=omega)only[go_sem,BD,AR,B4,A4,BE,AT,AS,GJ,ES,ET,ints,DV,hgx,hgy,hpx,hpy]);refine⟨_,.of (UX (Rq x) (Rq y)),?_⟩
 refine Kb ?_
 refine⟨_,.of (UX x y),?_⟩
 refine Kb ?_
 refine⟨_,.Va (We [_,_] B5) (.cons (cF (by rw[AD];rfl) rfl) wU.rfl) (.i _ _),?_⟩
 refine Kb ?_
 apply hN;refine BQ ?_;rfl
def Gp(n:Nat):List Nat:=(YB n).map λx=>x.1^x.2
def VA(F:List Nat):List Nat:=F.flatMap Gp
def AKO{F:List Nat}{k:Nat}(h:k<F.length):VA (F.take (k+1))=VA (F.take k)++Gp (F.getD k 0):=by
 unfold VA;rw[B7 h,F4];simp[h]
def Gq{q}:∀f n,(U4 q f n).1<=f
 |0,_=>A1 _
 | f+1,n=>by
   rw[U4];split
   ·have:=Gq (q:=q) f (n/q);dsimp only;omega
   exact AE _
def Rr{n x}(h:x∈smL n):O8 (x.1:Int)/\1<=x.2/\x.2<=10:=by
 obtain⟨h1,h2⟩:=E0.1 h;obtain⟨r,hr,rfl⟩:=AQ.1 h1;have h3:=Gq (q:=r) 10 n;have h4:0<vN r n:=by simpa using h2
 refine⟨?_,h4,h3⟩;simp at hr;rcases hr with rfl|rfl|rfl|rfl
 ·exact .inl rfl
 ·exact .inr (.inl rfl)
 ·exact .inr (.inr (.inl rfl))
 exact .inr (.inr (.inr rfl))
def Rs{n}:(smL n).length<=4:=CH (F6 _ _) B5
def Rt{F}(hF:∀x∈F,(YB x).length<=4):(VA F).length<=4*F.length:=by
 induction F with
 |nil=>simp[VA]
 | cons x F ih=>
   have h1:=ih λy hy=>hF y (C3 _ hy)
   have h2:=hF x (CA ..);unfold VA at h1 ⊢;rw[GS,AH,C6,Gp,A4];omega
def TA(l:List Nat):List AV:=l.map λx:Nat=>AV.i .i64 (x:Int)
def Gr{l x}:TA (l++[x])=TA l++[.i .i64 (x:Int)]:=by simp[TA]
def JY{l}:(TA l).length=l.length:=by simp[TA]
def AEK:((List.range 730).all λn=> !(WD n)||(Gp n).all λq=>decide (2<=q)&& decide (q<=729))=true:=AP
def A9X{n}(h:n<=729)(hs:WD n=true){q}(hq:q∈Gp n):2<=q/\q<=729:=by
 have h1:=BM.1 AEK n (B3.2 A0);rw[hs]at h1;have h2:=BM.1 (by simpa using h1:((Gp n).all λq=>decide (2<=q)&& decide (q<=729))=true) q hq;simpa using h2
def Mf(x y):(Yb x y<0↔Rq x<Rq y\/(Rq x=Rq y/\x<y))/\(Yb x y=0↔Rq x=Rq y/\x=y):=by
 unfold Yb Wd Wd Wd cmp;repeat' split
 all_goals omega
def A73(x y):Yb y x= -Yb x y:=by
 unfold Yb Wd Wd Wd cmp;repeat' split
 all_goals omega
set_option maxHeartbeats 4000000 in
def dO(F)(hl:F.length<=10)(hF:∀x∈F,2<=x/\x<=729/\WD x=true)(h0:0<(VA F).length)(nx):AC prog 70 nx DD [.g [.v F.length (TA F),.i .i64 0]] (λDI H' r=>∃Y:List Nat,Y.Perm (VA F)/\∃id,r= .h id 0 Y.length/\nx<=id/\H' id=some (TA Y)):=by
 have hf4:∀x∈F,(YB x).length<=4:=λx hx=>by obtain⟨a,b,c⟩:=hF x hx;rw[kJ A0 b c];exact Rs
 have It:=Rt hf4
 refine CF AY func70 rfl AP ntmps70 results70 (λGM cX=>?_)
 refine CT ?_;refine BN 1 nx _ rfl (AD _ _ _) ?_
 refine BH ?_;refine CT ?_;refine A6 λN1 CW=>sQ λN hN=>?_;simp-dsimp-implicitDefEqProofs(disch:=omega)only[go_sem,JY];apply hN;refine AA<|AM (α:=Nat×HP×AV) (λx=>sl 43 [(3,x.2.2),(11,.v F.length (TA F)),(12,.i .i64 F.length),(13,.i .i64 x.1)]) (λx=>x.2.1) (λx m=>(x.1<=F.length/\nx<=m)/\LC x.2.1 nx m x.2.2 (TA (VA (F.take x.1)))) (λx=>F.length-x.1) ((0,DD,.nl)) ?_ ?_ ((by intro d cs hd;cases hd)) ?_
 ·exact⟨⟨B5,AI⟩,LC.nil⟩
 ·exact E2
 rintro⟨k,G,L⟩ m ⟨⟨hk,hm⟩,hL⟩
 dsimp only at hk hm hL ⊢
 refine BH ?_;refine CT ?_;refine A6 λN2 DN=>AK ?_ ?_<;>intro h1
 ·have Iv:(TA F).getD k .j= .i .i64 (F.getD k 0:Nat):=by simp[TA,show k<F.length by omega]
  obtain⟨a,ha⟩:=EK (F.getD k 0);have hap:=hF a (by rw[<-ha];exact QR A0);have hfa:=RR a A0 A0;obtain⟨S,hS⟩:=EK (YB a);have hSm:∀x∈S,O8 (x.1:Int)/\1<=x.2/\x.2<=10:=λx hx=>by rw[<-hS,kJ A0 hap.2.1 hap.2.2]at hx;exact Rr hx
  have hSl:S.length<=4:=by rw[<-hS];exact hf4 a (by rw[<-ha];exact QR A0)
  rw[ha]at Iv;rw[hS]at hfa;have aN:(T4 S).length=S.length:=by simp[T4]
  have dE:(UD S).length=S.length:=by simp[UD]
  have P5:(VA (F.take k)).length<=40:=by
   have:=Rt (F:=F.take k) (λx hx=>hf4 x (GO hx));rw[B1]at this;omega
  apply AF;apply DN;refine A6 λN3 DO=>AA<|sQ λN hN=>?_;simp-dsimp-implicitDefEqProofs(disch:=omega)only[go_sem,JY,Iv];apply hN;refine UN (hfa) ?_;refine sQ λN hN=>?_;simp-dsimp-implicitDefEqProofs(disch:=omega)only[go_sem,A4,ints,aN];apply hN;refine AA<|AM (α:=Nat×HP×AV) (λx=>sl 43 [(3,x.2.2),(7,ints (UD S)),(11,.v F.length (TA F)),(12,.i .i64 F.length),(13,.i .i64 k),(22,ints (T4 S)),(23,.i .i64 S.length),(24,.i .i64 x.1)]) (λx=>x.2.1) (λx m=>(x.1<=S.length/\nx<=m)/\LC x.2.1 nx m x.2.2 (TA (VA (F.take k)++((S.map λx=>x.1^x.2).take x.1)))) (λx=>S.length-x.1) ((0,G,L)) ?_ ?_ (λ_ _ h=>h) ?_
  ·exact⟨⟨B5,AI⟩,by simpa using hL.wide (A1 _) AI⟩
  ·exact Zo aN dE
  rintro⟨j,G2,L2⟩ m2 ⟨⟨hj,Q8⟩,hL2⟩;dsimp only at hj Q8 hL2 ⊢;have AP6:=hL2.one;have AKP:=hL2.len;rw[JY,AH,B1,A4,EF hj]at AKP;refine BH ?_;refine CT ?_;refine A6 λN4 FD=>AK ?_ ?_<;>intro h2
  ·obtain⟨C,hC⟩:=EK (VA (F.take k)++((S.map λx=>x.1^x.2).take j));rw[hC]at hL2;have hCl:C.length=(VA (F.take k)).length+j:=by rw[<-hC,AH,B1,A4,EF hj]
   obtain⟨y,hy⟩:=EK (S.getD j (0,0));have hym:=hSm y (by rw[<-hy];exact QR A0);have hgp:(List.map (AV.i .i64) (T4 S)).getD j .j= .i .i64 (y.1:Nat):=by rw[<-hy];simp[T4,show j<S.length by omega]
   have hgx:(List.map (AV.i .i64) (UD S)).getD j .j= .i .i64 (y.2:Nat):=by rw[<-hy];simp[UD,show j<S.length by omega]
   have hip:=T0 (y.1:Int) y.2 hym.1 A0;have AKQ:((y.1:Int)^y.2)=((y.1^y.2:Nat):Int):=B5;rw[AKQ]at hip;apply AF;apply FD;refine A6 λN5 ID=>AA<|sQ λN hN=>?_;simp-dsimp-implicitDefEqProofs(disch:=omega)only[go_sem,A4,ints,hgp,aN];apply hN;apply rQ;simp-dsimp-implicitDefEqProofs(disch:=omega)only[go_sem,A4,ints,hgx,dE];refine AC.pure (.of (hip)) ?_;try simp-dsimp-implicitDefEqProofs(disch:=(first|omega|((repeat refine LC.CJ A0 ?_);assumption))) only[go_sem,ints,AP6,AKP,F2 (a:=nx) (b:=m2) (L:=L2) (cs:=TA C),JY,hCl]
   apply ID;refine BX (λG5 KK=>?_);dsimp only at KK;refine K4 ?_;refine BB (j+1,G5,.h (m2+1+5+8) 0 ((VA (F.take k)).length+(j+1))) ?_ ?_ ?_
   ·exact Zo aN dE
   ·have c8:VA (F.take k)++((S.map λx=>x.1^x.2).take (j+1))=C++[y.1^y.2]:=by
     rw[B7 (by rw[A4];omega),<-BO,hC,<-hy];simp[show j<S.length by omega]
    have TC:LC G5 nx (m2+1+5+9) (.h (m2+1+5+8) 0 ((VA (F.take k)).length+(j+1))) (TA (VA (F.take k)++((S.map λx=>x.1^x.2).take (j+1)))):=LC.mk (by rw[<-KK,AD,c8,Gr]) (by rw[JY,c8,AH,hCl];rfl) A0 A0;exact⟨⟨AI,AI⟩,TC.wide (A1 _) A0⟩
   exact AI
  obtain rfl:j=S.length:=A0;apply AO;apply DO;refine K4 ?_;refine BB (k+1,G2,L2) ?_ ?_ ?_
  ·exact E2
  ·have hL3:LC G2 nx m2 L2 (TA (VA (F.take (k+1)))):=by rw[show(S.map λx=>x.1^x.2).take S.length=S.map λx=>x.1^x.2 from AJ B5]at hL2;rw[AKO A0,ha,Gp,hS];exact hL2
   exact⟨⟨AI,AI⟩,hL3.wide (A1 _) AI⟩
  exact AI
 obtain rfl:k=F.length:=A0
 rw[B2]at hL
 obtain⟨id,hLi,GF,gL,UY⟩:∃id,L= .h id 0 (VA F).length/\G id=some (TA (VA F))/\nx<=id/\id<m:=by
  rcases hL with ⟨_,e⟩|⟨id,e1,e2,e3,e4⟩
  ·have e':(VA F).length=0:=by rw[<-JY,e];rfl
   omega
  exact⟨id,by rw[e1,JY],e2,e3,e4⟩
 subst hLi
 have jV:∀q∈VA F,2<=q/\q<=729:=λq hq=>by
  obtain⟨a,ha,hq⟩:=DM.1 hq;exact A9X (hF a ha).2.1 (hF a ha).2.2 hq
 apply AO;apply CW;refine sQ λN hN=>?_;refine BH ?_;have hsr:=λnq:Nat=>iA (β:=Nat) (λx=> .i .i64 (x:Int)) Yb (VA F) 142 [] h0 A0 (λ_ _=>rfl) (λx y=>A73 x y) (λx y z h1 h2=>by
  obtain⟨a1,a2⟩:=Mf x y;obtain⟨b1,b2⟩:=Mf y z;obtain⟨c1,c2⟩:=Mf x z;have q1:Yb x y<0\/Yb x y=0:=A0;have q2:Yb y z<0\/Yb y z=0:=A0;have q3:∀a:Int,a<=0↔a<0\/a=0:=λa=>A0
  rw[q3,c1,c2,a1,b1];rw[a1,a2]at q1;rw[b1,b2]at q2;omega) (enters_of func142 AP rfl) (λx hx y hy=>YX x y (jV x hx) (jV y hy)) id nq G GF
 refine(hsr _).CD ?_
 rintro m10 H10 r10 AEL ⟨rfl,Y,hY1,hY2,rfl⟩
 refine BH ?_
 apply hN;refine CT ?_;refine BQ ?_;exact⟨_,Le.refl _,Y,hY1,id,by rw[hY1.length_eq],gL,AD _ _ _⟩
def A2T{l}:AV.v l.length (TA l)=ints (l.map λx:Nat=>(x:Int)):=by unfold ints TA;rw[A4,GN];rfl
def ppQ(F:List Nat)(r:AV):Prop:=∃Y:List Nat,Y.Perm (VA F)/\r=ints (Y.map λx:Nat=>(x:Int))
def dP(F)(hl:F.length<=10)(hF:∀x∈F,2<=x/\x<=729/\WD x=true)(h0:0<(VA F).length)(nx H):AC prog 70 nx H [bG (F.map λx:Nat=>(x:Int))] (zK nx H (ppQ F)):=by
 have e:bG (F.map λx:Nat=>(x:Int))= .g [.v F.length (TA F),.i .i64 0]:=by rw[bG,<-A2T]
 rw[e];refine bP ((dO F hl hF h0 nx).mono ?_) H;rintro DI H' r ⟨Y,hY,id,rfl,h1,h2⟩;refine⟨ints (Y.map λx:Nat=>(x:Int)),LC.fzI (a:=nx) (b:=id+1) (LC.mk (by rw[h2];simp[TA]) B5 h1 A0) (A1 _),Y,hY,rfl⟩
def ppT(F:List Nat)(r:AV):Prop:=∃Y:List Nat,Y.Perm (VA F)/\r= .t [ints (Y.map λx:Nat=>(x:Int)),.i .i64 0]
def dQ(F)(hA:yW (F.map λx:Nat=>(x:Int)))(hF:∀x∈F,2<=x/\x<=729/\WD x=true)(h0:0<(VA F).length)(nx H):AC prog 24 nx H [bG (F.map λx:Nat=>(x:Int))] (zK nx H (ppT F)):=by
 have hl:F.length<=10:=by have:=hA.len;rwa [A4]at this
 refine CF AY func24 rfl AP ntmps24 results24 (λGM cX=>?_)
 refine sQ λN hN=>?_;simp-dsimp-implicitDefEqProofs(disch:=omega)only[go_sem,bG];apply hN;refine BN 1 nx _ rfl (AD _ _ _) ?_
 refine BH ?_;refine A6 λN1 CW=>sQ λN hN=>?_;simp-dsimp-implicitDefEqProofs(disch:=omega)only[go_sem,bG];refine AC.pure (.of (V7 _ hA)) ?_;(try simp-dsimp-implicitDefEqProofs(disch:=omega)only[go_sem,bG]);apply hN;refine AK ?_ ?_<;>intro h1
 ·cases h1
 apply AF;apply CW;refine sQ λN hN=>?_;(try simp-dsimp-implicitDefEqProofs(disch:=omega)only[go_sem,bG]);refine(dP F hl hF h0 _ _).mono ?_
 rintro nx2 H2 r2 ⟨⟨Y,hY,rfl⟩,hk⟩
 (try simp-dsimp-implicitDefEqProofs(disch:=omega)only[go_sem,bG])
 apply hN;refine BQ ?_;exact⟨_,Le.refl _,⟨Y,hY,rfl⟩,λi hi=>(hk i A0).trans (AB _ _ A0)⟩
def Du(v:Nat->Nat)(e:Nat):Nat->Nat
 |0=>0
 |k+1=>Du v e k+min e (v k)
def Gs(v:Nat->Nat)(e:Nat):Nat->Nat
 |0=>0
 |k+1=>Gs v e k+if v k=e then 1 else 0
def Ru{v e}:∀n,2*Du v (e+1) n=Du v e n+Du v (e+2) n+Gs v (e+1) n
 |0=>rfl
 | k+1=>by
   have ih:=Ru (v:=v) (e:=e) k;simp only[Du,Gs];split<;>omega
def v8{v e}:∀n,Du v e n<=Du v (e+1) n
 |0=>A1 _
 |k+1=>by have:=v8 (v:=v) (e:=e) k;simp only[Du];omega
def Rv{f r e v}:∀n,(∀i,i<n->gcN (f i).toNat (r^e)=r^min e (v i))->Gf f (r^e) n=r^Du v e n
 |0,_=>rfl
 |k+1,h=>by rw[Gf,Du,Rv k (λi hi=>h i A0),h k A0,Nat.pow_add,P8]
def rM{q}(hq:2<=q):∀f n,1<=n->n<2^f->n=q^(U4 q f n).1*(U4 q f n).2/\¬q∣(U4 q f n).2
 |0,n,h1,h2=>by rw[Nat.pow_zero]at h2;omega
 | f +1,n,h1,h2=>by
   rw[U4];split
   ·rename_i h;have J7:=h2;rw[HJ]at J7;have h3:q<=n:=FB h1 (DY h);have h4:n/q<=n/2:=I9 hq A0;have h5:1<=n/q:=(HO A0).2 A0;obtain⟨a1,a2⟩:=rM hq f (n/q) h5 A0;have e:n=n/q*q:=(Nat.div_mul_cancel (DY h)).symm;refine⟨?_,a2⟩;dsimp only;rw[HJ,Nat.mul_right_comm,<-a1];exact e
   rename_i h;exact⟨B5,λw=>h (IJ w)⟩
def Wi{r m:Nat}(hr:r=2\/r=3\/r=5\/r=7)(h:¬r∣m):Nat.gcd m r=1:=by
 have h1:Nat.gcd m r∣r:=Nat.gcd_dvd_right m r;have h2:Nat.gcd m r∣m:=Nat.gcd_dvd_left m r;generalize Nat.gcd m r=g at h1 h2
 have h3:g<=r:=FB A0 h1;have h4:g≠r:=λe=>h (e▸h2)
 obtain⟨c,hc⟩:=h1;rcases hr with rfl|rfl|rfl|rfl
 all_goals (have:g<=6:=A0);match g,this with
  |0,_=>simp at hc
  |1,_=>rfl
  |2,_=>omega
  |3,_=>omega
  |4,_=>omega
  |5,_=>omega
  |6,_=>omega
def Gt{r m v e:Nat}(hr:r=2\/r=3\/r=5\/r=7)(h:¬r∣m):Nat.gcd (r^v*m) (r^e)=r^min e v:=by
 have hc:Nat.Coprime m (r^e):=Nat.Coprime.pow_right e (Wi hr h);rw[Nat.Coprime.gcd_mul_right_cancel (r^v) hc];rcases SB e v with q|q
 ·rw[EF q];exact Nat.gcd_eq_right (GQ r q)
 rw[Nat.min_eq_right q];exact Nat.gcd_eq_left (GQ r q)
def Rw(f:Nat->Int)(r:Nat)(i:Nat):Nat:=(U4 r 10 (f i).toNat).1
def nB{f r e n}(hr:r=2\/r=3\/r=5\/r=7)(hf:∀i,i<n->0<f i/\f i<=729):Gf f (r^e) n=r^Du (Rw f r) e n:=by
 refine Rv n λi hi=>?_
 have h0:=hf i hi;have h1:0<(f i).toNat:=A0;obtain⟨a1,a2⟩:=rM (q:=r) A0 10 (f i).toNat h1 A0;rw[A2C h1];rw[show Nat.gcd (f i).toNat (r^e)=Nat.gcd (r^(U4 r 10 (f i).toNat).1*(U4 r 10 (f i).toNat).2) (r^e) by rw[<-a1]];exact Gt hr a2
def TO(r:Nat):Prop:=r=2\/r=3\/r=5\/r=7
def TO.two{r}(h:TO r):2<=r/\r<=7:=by unfold TO at h;omega
def TO.cop{r s}(hr:TO r)(hs:TO s)(h:r≠s):Nat.Coprime r s:=by
 rcases hr with rfl|rfl|rfl|rfl<;>rcases hs with rfl|rfl|rfl|rfl<;>first|exact absurd rfl h|decide
def A2U{r s e a}(hr:TO r)(hs:TO s)(he:1<=e)(h:r^e=s^a):r=s/\e=a:=by
 have h2:=hr.two;have hgt:1<r^e:=QO A0 A0;have hrs:r=s:=by
  by_cases q:r=s
  ·exact q
  have:=Nat.Coprime.pow e a (hr.cop hs q);rw[<-h]at this;have:=(Nat.coprime_self _).1 this;omega
 subst hrs;exact⟨rfl,(Nat.pow_right_inj A0).1 h⟩
def A2V{v:Nat->Nat}{r e:Nat}(hr:TO r)(he:1<=e):∀L:List Nat,L.Nodup->(∀s∈L,TO s)->(((L.map λs=>(s,v s)).filter λx=>decide (0<x.2)).map λx=>x.1^x.2).count (r^e)=if r∈L/\v r=e then 1 else 0
 |[],_,_=>B5
 | s ::L,hn,hL=>by
   have ih:=A2V (v:=v) hr he L (C1.1 hn).2 (λx hx=>hL x (C3 _ hx));have hs:=hL s CA;have WE:=(C1.1 hn).1;rw[BR,LQ];by_cases h0:0<v s
   ·rw[if_pos (by simpa using h0),BR,PZ,ih];by_cases q:s^v s=r^e
    ·obtain⟨e1,e2⟩:=A2U hs hr h0 q;subst e1;simp[e2,WE]
    have:¬((r=s\/r∈L)/\v r=e/\r=s):=λw=>q (by rw[<-w.2.2,w.2.1])
    simp only[beq_iff_eq,q,if_false,HI,BJ];by_cases w:r=s
    ·subst w;have:v r≠e:=λz=>q (by rw[z]);simp[this]
    simp[w]
   rw[if_neg (by simpa using h0),ih];by_cases w:r=s
   ·subst w;have:v r≠e:=A0;simp[this]
   simp[w]
def A74{n r e}(h1:1<=n)(h:n<=729)(hs:WD n=true)(hr:TO r)(he:1<=e):(Gp n).count (r^e)=if vN r n=e then 1 else 0:=by
 unfold Gp;rw[kJ h1 h hs];unfold smL;rw[A2V (v:=λr=>vN r n) hr he [2,3,5,7] HT (by unfold TO;simp)];have:r∈ [2,3,5,7]:=by unfold TO at hr;simpa using hr
 simp[this]
def Rx{n y}(h1:1<=n)(h:n<=729)(hs:WD n=true)(hy:y∈Gp n):∃r e,TO r/\1<=e/\y=r^e:=by
 unfold Gp at hy;rw[kJ h1 h hs]at hy;obtain⟨x,hx,rfl⟩:=AQ.1 hy;unfold smL at hx;obtain⟨a,b⟩:=E0.1 hx;obtain⟨r,c,rfl⟩:=AQ.1 a;exact⟨r,vN r n,by unfold TO;simpa using c,Nat.succ_le_of_lt (of_decide_eq_true b),rfl⟩
def ppP(y:Nat):Prop:=∃r e,TO r/\1<=e/\y=r^e
def Ry{A B:List Nat}(hA:∀y∈A,ppP y)(hB:∀y∈B,ppP y)(h:∀r e,TO r->1<=e->A.count (r^e)=B.count (r^e)):A.Perm B:=by
 rw[List.perm_iff_count];intro y;by_cases hy:ppP y
 ·obtain⟨r,e,h1,h2,rfl⟩:=hy;exact h r e h1 h2
 rw[GK λw=>hy (hA y w),GK λw=>hy (hB y w)]
def A2W{l}(h:gV l):l.Pairwise (· <= ·):=by
 rw[FX];intro i j hi hj Q3;have:=h i j Q3 hj;simpa[A5,hi,hj]using this
def yZ{a b}(ha:gV a)(hb:gV b)(h:a.Perm b):a=b:=
 h.eq_of_pairwise (λx y _ _ h1 h2=>Int.le_antisymm h1 h2) (A2W ha) (A2W hb)
def Bw{r e}(hr:TO r)(he:1<=e):∀F:List Nat,(∀x∈F,1<=x/\x<=729/\WD x=true)->(VA F).count (r^e)=F.countP λx=>decide (vN r x=e)
 |[],_=>rfl
 | x::F,h=>by
   obtain⟨a,b,c⟩:=h x CA;have ih:=Bw hr he F (λy hy=>h y (C3 _ hy));unfold VA at ih ⊢;rw[GS,IX,ih,A74 a b c hr he,JF];by_cases q:vN r x=e<;>simp[q]<;>omega
def Rz{F}(h:∀x∈F,1<=x/\x<=729/\WD x=true):∀y∈VA F,ppP y:=λy hy=>by
 unfold VA at hy;obtain⟨x,hx,hy⟩:=DM.1 hy;obtain⟨a,b,c⟩:=h x hx;exact Rx a b c hy
def Bx{f r e}:∀n,Gs (Rw f r) e n=((List.range n).map λi=>(f i).toNat).countP λx=>decide (vN r x=e)
 |0=>rfl
 | n+1=>by
   rw[Gs,Bx n,CX,AZ,NI,BR,BU,JF,List.countP_nil];show _+(if vN r (f n).toNat=e then 1 else 0)=_
   by_cases q:vN r (f n).toNat=e<;>simp[q]
def By(s:Nat)(c:Nat->Nat)(X:Nat):List Nat:=(List.range X).flatMap λk=>List.replicate (c (k+1)) (s^(k+1))
def Sa{s c X}:By s c (X+1)=By s c X++List.replicate (c (X+1)) (s^(X+1)):=by
 unfold By;rw[CX,F4];simp
def Sb{r s e}(hr:TO r)(hs:TO s)(he:1<=e){c}:∀X,(By s c X).count (r^e)=if s=r/\e<=X then c e else 0
 |0=>by rw[if_neg A0];rfl
 | X +1=>by
   rw[Sa,IX,Sb hr hs he X,List.count_replicate];by_cases q:s^(X+1)=r^e
   ·obtain⟨e1,e2⟩:=A2U hs hr A0 q;subst e1;subst e2;rw[if_neg A0,if_pos B5,if_pos ⟨rfl,A1 _⟩];simp
   have h1:¬(s=r/\X+1=e):=λw=>q (by rw[w.1,w.2])
   simp only[beq_iff_eq,q,if_false,HI];by_cases w:s=r
   ·subst w;have:e<=X↔e<=X+1:=⟨λz=>A0,λz=>by have:X+1≠e:=λz'=>h1 ⟨rfl,z'⟩;omega⟩;simp[this]
   simp[w]
def iC(l:List (Nat×Nat))(c:Nat->Nat->Nat):List Nat:=l.flatMap λx=>By x.1 (c x.1) x.2
def Sc{r e:Nat}(hr:TO r)(he:1<=e){c:Nat->Nat->Nat}{v:Nat->Nat}:∀L:List Nat,L.Nodup->(∀s∈L,TO s)->(iC ((L.map λs=>(s,v s)).filter λx=>decide (0<x.2)) c).count (r^e)=if r∈L/\e<=v r then c r e else 0
 |[],_,_=>by simp[iC]
 | s ::L,hn,hL=>by
   have ih:=Sc (c:=c) (v:=v) hr he L (C1.1 hn).2 (λx hx=>hL x (C3 _ hx));have hs:=hL s CA;have WE:=(C1.1 hn).1;rw[BR,LQ];by_cases h0:0<v s
   ·rw[if_pos (by simpa using h0)];unfold iC at ih ⊢;rw[GS,IX,ih,Sb hr hs he];by_cases w:s=r
    ·subst w;simp[WE]
    simp[w,I8 w]
   rw[if_neg (by simpa using h0),ih];by_cases w:r=s
   ·subst w;have:¬e<=v r:=A0;simp[this]
   simp[w]
def AEM{n r e c}(h1:1<=n)(h:n<=729)(hs:WD n=true)(hr:TO r)(he:1<=e)(hc:vN r n<e->c r e=0):(iC (YB n) c).count (r^e)=c r e:=by
 rw[kJ h1 h hs];unfold smL;rw[Sc (v:=λr=>vN r n) hr he [2,3,5,7] HT (by unfold TO;simp)];have:r∈ [2,3,5,7]:=by unfold TO at hr;simpa using hr
 by_cases q:e<=vN r n
 ·rw[if_pos ⟨this,q⟩]
 rw[if_neg (λw=>q w.2),hc A0]
def A75{n c}(h1:1<=n)(h:n<=729)(hs:WD n=true):∀y∈iC (YB n) c,ppP y:=λy hy=>by
 rw[kJ h1 h hs]at hy;unfold iC at hy;obtain⟨x,hx,hy⟩:=DM.1 hy;unfold smL at hx;obtain⟨a,b⟩:=E0.1 hx;obtain⟨r,q,rfl⟩:=AQ.1 a;unfold By at hy;obtain⟨k,_,hk⟩:=DM.1 hy;exact⟨r,k+1,by unfold TO;simpa using q,A0,(DX.1 hk).2⟩
def A76:((List.range 730).all λn=> !(decide (1<=n)&& WD n)||((List.range (n+1)).all λd=> !(decide (1<=d)&& n%d==0)||WD d))=true:=AP
def Bz{n d}(h1:1<=n)(h:n<=729)(hs:WD n=true)(hd:d∣n):WD d=true:=by
 have a:=BM.1 A76 n (B3.2 A0);rw[hs]at a;have Lj:=FB h1 hd;have S3:1<=d:=PL hd h1;simp only[h1,decide_true,FR,C4,FA]at a;have b:=BM.1 a d (B3.2 A0);simpa[S3,IJ hd]using b
def A77:((List.range 730).all λn=> !(WD n)||([2,3,5,7].all λq=>decide (730<=n*q)||WD (n*q)))=true:=AP
def A78{n q}(hs:WD n=true)(hq:TO q)(h:n*q<=729):WD (n*q)=true:=by
 have h2:=hq.two;have h3:n*1<=n*q:=Nat.mul_le_mul_left n A0;have a:=BM.1 A77 n (B3.2 A0);rw[hs]at a;simp only[C4,FA]at a;have b:=BM.1 a q (by unfold TO at hq;simpa using hq);simpa[show ¬730<=n*q by omega]using b
def A79:([2,3,5,7].all λr=>(List.range 10).all λe=>e==0||decide (730<=r^e)||YB (r^e)==[(r,e)])=true:=AP
def A7A{r e}(hr:TO r)(he:1<=e)(h:r^e<=729):YB (r^e)=[(r,e)]:=by
 have h2:=hr.two;have he9:e<10:=by
  have h3:2^e<=r^e:=MT A0 e;exact(NS (a:=2) A0).1 A0
 have a:=BM.1 A79 r (by unfold TO at hr;simpa using hr);have b:=BM.1 a e (B3.2 he9);simpa[show e≠0 by omega,show ¬730<=r^e by omega]using b
def Sd:((List.range 730).all λq=>match YB q with|[x]=>x.1^x.2==q|_=>true)=true:=AP
def Se(n:Nat)(c:Nat->Nat->Nat)(q:Nat):List Nat:=match YB q with
 |[x]=>if n%q=0 then List.replicate (c x.1 x.2) q else []
 |_=>[]
def iQ(n:Nat)(c:Nat->Nat->Nat)(k:Nat):List Nat:=(List.range k).flatMap λi=>Se n c (i+2)
def Sf{n k c}:iQ n c (k+1)=iQ n c k++Se n c (k+2):=by
 unfold iQ;rw[CX,F4];simp
def Sh{n q r e c}(hr:TO r)(he:1<=e)(h:r^e<=729):(Se n c q).count (r^e)=if q=r^e/\n%q=0 then c r e else 0:=by
 by_cases q1:q=r^e
 ·subst q1;unfold Se;rw[A7A hr he h];by_cases q2:n%r^e=0<;>simp[q2]
 rw[if_neg (λw=>q1 w.1)];refine GK λw=>q1 ?_
 unfold Se at w;split at w
 ·split at w
  ·exact(DX.1 w).2.symm
  simp at w
 simp at w
def Si{n r e c}(hr:TO r)(he:1<=e)(h:r^e<=729):∀k,(iQ n c k).count (r^e)=if r^e<k+2/\n%r^e=0 then c r e else 0
 |0=>by
  have:1<r^e:=QO A0 (by have:=hr.two;omega);rw[if_neg A0];rfl
 |k +1=>by
  rw[Sf,IX,Si hr he h k,Sh hr he h];by_cases q:k+2=r^e
  ·rw[if_neg A0,<-q];simp
  rw[if_neg (c:=k+2=r^e/\_) (λw=>q w.1),HI];have:r^e<k+2↔r^e<k+1+2:=A0;simp only[this]
def A7B{n k c}(h1:1<=n)(h:n<=729)(hs:WD n=true):∀y∈iQ n c k,ppP y:=λy hy=>by
 unfold iQ at hy;obtain⟨i,_,hy⟩:=DM.1 hy;unfold Se at hy;split at hy
 ·rename_i x hx;split at hy
  ·rename_i hm;obtain⟨_,e⟩:=DX.1 hy;have hd:i+2∣n:=DY hm;have hle:=FB h1 hd;have hso:=Bz h1 h hs hd;have hp:Gp (i+2)=[x.1^x.2]:=by unfold Gp;rw[hx];rfl
   obtain⟨r,b,b1,b2,b3⟩:=Rx (n:=i+2) A0 A0 hso (y:=x.1^x.2) (by rw[hp];simp);have hq:i+2=x.1^x.2:=by
    have a:=BM.1 Sd (i+2) (B3.2 A0);rw[hx]at a;exact(by simpa using a:x.1^x.2=i+2).symm
   exact⟨r,b,b1,b2,by rw[e,hq,b3]⟩
  simp at hy
 simp at hy
def Ca{U}(SJ:∀i,i<U.length->O8 (U.getD i 0)):∀k,k<=U.length->PC U k<=729->WD (PC U k).toNat=true
 |0,_,_=>by rfl
 | k+1,hk,h=>by
   have hp:=YJ SJ k A0;have h4:=SJ k A0;have hb:=FQ h4;have hm:PC U k*1<=PC U k*U.getD k 0:=CN A0 A0;have he:PC U (k+1)=PC U k*U.getD k 0:=rfl;have ih:=Ca SJ k A0 A0;have ht:(PC U (k+1)).toNat=(PC U k).toNat*(U.getD k 0).toNat:=by rw[he,Int.toNat_mul A0 A0]
   rw[ht];refine A78 ih ?_ (by rw[<-ht];omega);unfold TO;unfold O8 at h4;omega
def Sj{v e}:∀n,Du v e n=Du v (e+1) n->∀i,i<n->v i<=e
 |0,_,i,hi=>A0
 | n+1,h,i,hi=>by
   have hm:=v8 (v:=v) (e:=e) n;simp only[Du]at h;by_cases q:i=n
   ·subst q;omega
   exact Sj n A0 i A0
def Gu{v e}:∀n,(∀i,i<n->v i<e)->Gs v e n=0
 |0,_=>rfl
 | n+1,h=>by
   rw[Gs,Gu n (λi hi=>h i A0),if_neg (by have:=h n A0;omega)]
def Mg{f r n V e}(hr:TO r)(hf:∀i,i<n->0<f i/\f i<=729)(h:Gf f (r^V) n=Gf f (r^(V+1)) n)(he:V<e):Gs (Rw f r) e n=0:=by
 rw[nB hr hf,nB hr hf]at h;have h2:=hr.two;have h3:=(Nat.pow_right_inj A0).1 h;exact Gu n λi hi=>by have:=Sj n h3 i hi;omega
def Sk(P:Pc):Nat->Nat->V->Nat
 |0,_,_=>1
 |f+1,d,x=>if x d=0 then Sk P f (d+1) x else (P.o d).toNat*Sk P f (d+1) (rep (M P 0) x (P.o d).toNat)
def A9Y{P}:∀f d,Sk P f d z0=1
 |0,_=>rfl
 |f+1,d=>by rw[Sk,if_pos (show z0 d=0 from rfl),A9Y f (d+1)]
def A7C{o a k}(hp:O8 o)(h0:0<a)(h1:a<o)(h:k*a%o=0):o∣k:=by
 rcases hp with rfl|rfl|rfl|rfl
 ·obtain rfl:a=1:=A0;omega
 ·rcases (by omega:a=1\/a=2)with rfl|rfl<;>omega
 ·rcases (by omega:a=1\/a=2\/a=3\/a=4)with rfl|rfl|rfl|rfl<;>omega
 rcases (by omega:a=1\/a=2\/a=3\/a=4\/a=5\/a=6)with rfl|rfl|rfl|rfl|rfl|rfl<;>omega
section
variable{P:Pc}(hv:LK P)(hc:HN P 0)(hp:∀d,d<P.n->O8 (P.o d))
include hv
theorem Cb:∀f d x,d+f<=P.n->1<=Sk P f d x
 |0,_,_,_=>A1 _
 | f+1,d,x,h=>by
   rw[Sk];split
   ·exact Cb f (d+1) x A0
   have h1:=Cb f (d+1) (rep (M P 0) x (P.o d).toNat) A0;have:=hv.o d A0;exact Nat.mul_pos A0 h1
include hc
theorem Sl{d}(hd:d<P.n){x}(hx:T P d x):T P (d+1) (rep (M P 0) x (P.o d).toNat):=by
 obtain⟨q1,q2⟩:=N0 hv hd hx (P.o d).toNat;refine(lvl hv hc).up q1 ?_;rw[q2,BG (by have:=hv.o d hd;omega),KB]
include hp
theorem Cc:∀f d x,P.n-d=f->d<=P.n->T P d x->∀k,rep (M P 0) x k=z0↔Sk P f d x∣k
 |0,d,x,hf,hd,hx,k=>by
  have e:x=z0:=hx.ge A0;rw[Sk,e];refine⟨λ_=>Nat.one_dvd k,λ_=>?_⟩;have g:=CS hv hc;induction k with
  |zero=>rfl
  |succ k ih=>show M P 0 (rep (M P 0) z0 k) z0=z0;rw[ih (Nat.one_dvd k),g.l1 g.e0]
 |f + 1,d,x,hf,hd,hx,k=>by
  have Ki:d<P.n:=A0;have cH:=hx.mono hv (AE d);have ho:=hv.o d Ki;rw[Sk];split
  · rename_i h0;exact Cc f (d+1) x A0 A0 ((lvl hv hc).up hx h0) k
  rename_i h0;have ih:=Cc f (d+1) _ A0 A0 (Sl hv hc Ki hx);constructor
  · intro h;obtain⟨q1,q2⟩:=N0 hv Ki hx k;rw[h]at q2;have hr:=hx.r d (A1 d) Ki;obtain⟨j,hj⟩:=A7C (hp d Ki) A0 hr.2 q2.symm;have hj0:0<=j:=by
     rcases J1 j 0 with q|q
     ·have:P.o d*j<0:=Int.mul_neg_of_pos_of_neg A0 q;omega
     exact q
    obtain⟨t,rfl⟩:∃t:Nat,j=t:=⟨j.toNat,(BG hj0).symm⟩;have hk:k=(P.o d).toNat*t:=by
     have:(k:Int)=(((P.o d).toNat*t:Nat):Int):=by rw[hj,EE,BG A0]
     omega
    rw[hk,<-rG hv hc cH,ih]at h;rw[hk];exact Nat.mul_dvd_mul_left _ h
  rintro⟨j,rfl⟩;rw[OC,<-rG hv hc cH,ih];exact Nat.dvd_mul_right _ _
end
section
variable{U:C2}{pw:D4}{cj:E6}
set_option maxHeartbeats 4000000 in
def YY(h:BW U pw cj)(hc:HN (pc U pw cj) 0)(a)(ha:T (pc U pw cj) 0 a):DZ prog 109 [AU U pw cj,vi U.length a] (.i .i64 (Sk (pc U pw cj) U.length 0 a)):=by
 have Q4:=h.1.1
 have hv:=h.val
 have hpn:(pc U pw cj).n=U.length:=rfl
 refine BI AY func109 rfl AP ntmps109 results109 (.i _ _) (λnx cX=>?_)
 refine Q9 ?_;refine Q9 ?_;refine A6 λN1 CW=>Q9 ?_;refine AA<|AM (α:=Nat×V×Nat) (λx=>sl 39 [(0,AU U pw cj),(5,.i .i64 x.2.2),(6,.i .i64 x.1),(7,vi U.length x.2.1)]) (λ_=>DD) (λx m=>x.1<=U.length/\T (pc U pw cj) x.1 x.2.1/\1<=x.2.2/\x.2.2<=7^x.1/\x.2.2*Sk (pc U pw cj) (U.length-x.1) x.1 x.2.1=Sk (pc U pw cj) U.length 0 a) (λx=>U.length-x.1) ((0,a,1)) ?_ ?_ (λ_ _ h=>h) ?_
 ·exact⟨B5,ha,B5,B5,B5⟩
 ·exact E7
 rintro⟨d,y,k⟩ m ⟨hd,hy,eG,Jd,hI⟩
 dsimp only at hd hy eG Jd hI ⊢
 have hz:=eT A0 hy
 simp only[vi,AU];refine BH ?_;refine A6 λN2 DN=>A0Q (hz) ?_;refine AK ?_ ?_<;>intro h1
 ·have cB:d<U.length:=by
   rcases BL d U.length with q|q
   ·exact q
   exact absurd (hy.ge q) h1
  have hpo:=FQ (h.2.1 d cB);have Ak:(pc U pw cj).o d=U.getD d 0:=rfl;have h7d:7^d<=7^6:=DE A0 A0;have hks:k*(U.getD d 0).toNat<=7^d*7:=CY Jd A0;have VW:1*1<=k*(U.getD d 0).toNat:=CY eG A0;have l7:(k:Int)*U.getD d 0=((k*(U.getD d 0).toNat:Nat):Int):=by rw[EE,BG A0]
  have o0:=NL h 0 hc y (hy.mono hv (AE d)) (U.getD d 0) A0 A0;have hse:U.length-d=(U.length-(d+1))+1:=A0;rw[hse,Sk,Ak]at hI;apply AF;apply DN;refine A6 λN3 DO=>AA<|Q9 ?_;refine AK ?_ ?_<;>intro h2
  ·refine A0Q (o0) ?_;apply rQ;simp-dsimp-implicitDefEqProofs(disch:=omega)only[go_sem,ints,AU,vi,l7];apply DO;refine oC ?_;refine BB (d+1,rep (M (pc U pw cj) 0) y (U.getD d 0).toNat,k*(U.getD d 0).toNat) ?_ ?_ ?_
   ·exact E7
   ·refine⟨AI,?_,AI,?_,?_⟩
    ·have:=Sl hv hc cB hy;rwa [Ak]at this
    ·show k*(U.getD d 0).toNat<=7^(d+1)
     rw[HJ];exact hks
    rw[if_neg (by simpa using h2)]at hI;dsimp only;rw[OC];exact hI
   exact AI
  have j6:y d=0:=by simpa using h2
  apply AF;apply DO;refine oC ?_;refine BB (d+1,y,k) ?_ ?_ ?_
  ·exact E7
  ·refine⟨AI,(lvl hv hc).up hy j6,AI,?_,?_⟩
   ·show k<=7^(d+1)
    rw[HJ];omega
   rw[if_pos j6]at hI;exact hI
  exact AI
 have hyz:y=z0:=by simpa using h1
 rw[hyz,A9Y,JZ]at hI
 apply AO;apply CW;refine Q9 ?_;refine BQ ?_;rw[<-hI]
end
end
section
def A7D{Q}(hv:LK Q)(hc:HN Q 0)(hpo:∀d,d<Q.n->O8 (Q.o d)){r}(hr:TO r)(hN:S4 Q Q.n<=729){y}(hy:T Q 0 y):rep (M Q 0) y (r^vN r (S4 Q Q.n))=z0↔rep (M Q 0) y (r^(vN r (S4 Q Q.n)+1))=z0:=by
 have h2:=hr.two;have hp:=(rF hv Q.n (A1 _)).1;have Ak:=Cc hv hc hpo Q.n 0 y A0 A0 hy;have AKR:=(Ak _).1 (bJ hv hc Q.n (A1 _) y (by rw[CM];exact hy));rw[Ak,Ak];refine⟨λh=>Nat.dvd_trans h (GQ r A0),λh=>?_⟩;have hg:=Nat.dvd_gcd AKR h;obtain⟨a1,a2⟩:=rM (q:=r) A0 10 (S4 Q Q.n) A0 A0;have hV:(U4 r 10 (S4 Q Q.n)).1=vN r (S4 Q Q.n):=rfl;rw[hV]at a1;have e:Nat.gcd (S4 Q Q.n) (r^(vN r (S4 Q Q.n)+1))=r^vN r (S4 Q Q.n):=by
  have:=Gt (v:=vN r (S4 Q Q.n)) (e:=vN r (S4 Q Q.n)+1) hr a2;rw[<-a1,Nat.min_eq_right A0]at this;exact this
 rw[e]at hg;exact hg
end
section
def A2X{P:Pc}(hv:LK P)(hc:HN P 0)(hp:∀d,d<P.n->O8 (P.o d)){f:Nat->Int}(h:Xm P.n (QB P) f)(hf:∀i,i<P.n->0<f i/\f i<=729){u:List V}(hu:u=QK P (IT P.n) (IT P.n)){A:List V}(hA:A.Nodup)(hm:∀y,y∈A↔T (J0 P u) 0 y)
    (hqv:LK (J0 P u)) (hqc:HN (J0 P u) 0) (hqp:∀d,d<(J0 P u).n->O8 ((J0 P u).o d)) (hN:S4 (J0 P u) (J0 P u).n<=729) {r e:Nat} (hr:TO r) (he:vN r (S4 (J0 P u) (J0 P u).n)<e):Gs (Rw f r) e P.n=0:=by
  refine Mg hr hf ?_ he;have k:=λK=>Ly hv hc hp h hu hA hm K (p:=λy=>tf (rep (M (J0 P u) 0) y K=z0)) (λy _=>sE)
  rw[<-k,<-k];refine O5 λy hy=>?_
  rw[sE,sE];exact A7D hqv hqc hqp hr hN ((hm y).1 hy)
end
section
def Sn{a}(h:WD a=true):a=2^vN 2 a*3^vN 3 a*5^vN 5 a*7^vN 7 a:=by
 unfold WD at h;exact(beq_iff_eq.1 h)
def Mh{a b}(ha:WD a=true)(hb:WD b=true)(h:∀r,TO r->vN r a<=vN r b):a∣b:=by
 rw[Sn ha,Sn hb];exact Q0 (Q0 (Q0 (GQ 2 (h 2 (.inl rfl))) (GQ 3 (h 3 (.inr (.inl rfl))))) (GQ 5 (h 5 (.inr (.inr (.inl rfl)))))) (GQ 7 (h 7 (.inr (.inr (.inr rfl)))))
def Dv:List Nat->Nat
 |[]=>1
 |x::l=>x*Dv l
def Sp{a}:∀{b:List Nat},Dv (a++b)=Dv a*Dv b:=by
 intro b;induction a with
 |nil=>simp[Dv]
 |cons x a ih=>rw[HC,Dv,Dv,ih,OC]
def Sq:∀l:List Nat,(∀x∈l,2<=x)->2^l.length<=Dv l
 |[],_=>A1 _
 | x::l,h=>by
   have ih:=Sq l (λy hy=>h y (C3 _ hy));rw[C6,Dv,HJ,P8];exact CY (h x CA) ih
def A7E:((List.range 730).all λn=> !(WD n && decide (1<=n))||Dv (Gp n)==n)=true:=AP
def AEN{n}(h1:1<=n)(h:n<=729)(hs:WD n=true):Dv (Gp n)=n:=by
 have:=BM.1 A7E n (B3.2 A0);rw[hs]at this;simpa[h1]using this
def A2Y:∀F:List Nat,(∀x∈F,1<=x/\x<=729/\WD x=true)->Dv (VA F)=Dv F
 |[],_=>rfl
 | x::F,h=>by
   obtain⟨a,b,c⟩:=h x CA;have ih:=A2Y F (λy hy=>h y (C3 _ hy));unfold VA at ih ⊢;rw[GS,Sp,ih,AEN a b c,Dv]
end
section
def Gv{f N}:∀n,(∀i,i<n->0<f i/\(f i).toNat∣N)->Gf f N n=Dv ((List.range n).map λi=>(f i).toNat)
 |0,_=>rfl
 | n+1,h=>by
   obtain⟨a,b⟩:=h n A0;rw[Gf,Gv n (λi hi=>h i A0),A2C A0,Nat.gcd_eq_left b,CX,AZ,Sp];simp only[BR,BU,Dv];rw[JZ,P8]
def Sr{v e}:∀n i,i<n->v i=e->0<Gs v e n
 |0,i,hi,_=>A0
 | n+1,i,hi,h=>by
   rw[Gs];by_cases q:i=n
   ·subst q;rw[if_pos h];omega
   have:=Sr n i A0 h;omega
def A7F{P:Pc}(hv:LK P)(hc:HN P 0)(hp:∀d,d<P.n->O8 (P.o d)){f:Nat->Int}(h:Xm P.n (QB P) f)(hf:∀i,i<P.n->0<f i/\f i<=729)(hs:∀i,i<P.n->WD (f i).toNat=true){u:List V}(hu:u=QK P (IT P.n) (IT P.n)){A:List V}(hA:A.Nodup)(hm:∀y,y∈A↔T (J0 P u) 0 y)
    (hqv:LK (J0 P u)) (hqc:HN (J0 P u) 0) (hqp:∀d,d<(J0 P u).n->O8 ((J0 P u).o d)) (hN:S4 (J0 P u) (J0 P u).n<=729) (Wj:WD (S4 (J0 P u) (J0 P u).n)=true):
    (∀i,i<P.n->(f i).toNat∣S4 (J0 P u) (J0 P u).n)/\Dv ((List.range P.n).map λi=>(f i).toNat)=A.length:=by
  have h1:∀i,i<P.n->(f i).toNat∣S4 (J0 P u) (J0 P u).n:=λi hi=>Mh (hs i hi) Wj λr hr=>by
    rcases BL (vN r (S4 (J0 P u) (J0 P u).n)) (vN r (f i).toNat)with q|q
    · have a:=A2X hv hc hp h hf hu hA hm hqv hqc hqp hN hr q;have b:=Sr (v:=Rw f r) P.n i hi rfl;have:Rw f r i=vN r (f i).toNat:=rfl;rw[this]at b;omega
    exact q
  refine⟨h1,?_⟩;rw[<-Gv P.n (λi hi=>⟨(hf i hi).1,h1 i hi⟩),<-Ly hv hc hp h hu hA hm (S4 (J0 P u) (J0 P u).n) (p:=λ_=>true) (λy hy=>⟨λ_=>?_,λ_=>rfl⟩)]
  · rw[List.countP_true]
  exact bJ hqv hqc (J0 P u).n (A1 _) y (by rw[CM];exact(hm y).1 hy)
end
section
def Wl(f:Nat->Int)(n:Nat):List Nat:=(List.range n).map λi=>(f i).toNat
def A7G{F}(h:∀x∈F,1<=x):VA (F.filter λx=>decide (1<x))=VA F:=by
 induction F with
 |nil=>rfl
 | cons x F ih=>
   have ih:=ih λy hy=>h y (C3 _ hy)
   have hx:=h x CA;unfold VA at ih ⊢;rw[LQ];by_cases q:1<x
   ·rw[if_pos (by simpa using q),GS,GS,ih]
   obtain rfl:x=1:=A0;rw[if_neg B5,ih,GS];rfl
section
variable{f:Nat->Int}{n N:Nat}(hf:∀i,i<n->0<f i/\f i<=729)(hs:∀i,i<n->WD (f i).toNat=true)(h1:1<=N)(hN:N<=729)(Wj:WD N=true)(ht:∀r e,TO r->vN r N<e->Gs (Rw f r) e n=0)
include hf hs
theorem vA:∀x∈Wl f n,1<=x/\x<=729/\WD x=true:=λx hx=>by
 obtain⟨i,hi,rfl⟩:=AQ.1 hx;have l5:=B3.1 hi;have:=hf i l5;exact⟨A0,A0,hs i l5⟩
include h1 hN Wj ht
theorem A7H:(iC (YB N) λr e=>Gs (Rw f r) e n).Perm (VA (Wl f n)):=
 Ry (A75 h1 hN Wj) (Rz (vA hf hs)) λr e hr he=>by
  rw[AEM h1 hN Wj hr he (ht r e hr),Bw hr he _ (vA hf hs),Bx];rfl
theorem A7I:(iQ N (λr e=>Gs (Rw f r) e n) (N-1)).Perm (VA (Wl f n)):=
 Ry (A7B h1 hN Wj) (Rz (vA hf hs)) λr e hr he=>by
  rw[Bw hr he _ (vA hf hs)];have hc:Gs (Rw f r) e n=(Wl f n).countP λx=>decide (vN r x=e):=Bx n
  rw[<-hc];have h2:=hr.two;rcases BL (vN r N) e with q|q
  ·rw[ht r e hr q];refine GK λw=>?_
   unfold iQ at w;obtain⟨i,hi,w⟩:=DM.1 w;have l5:=B3.1 hi;have hle:r^e<=729:=by
    unfold Se at w;split at w
    ·split at w
     ·have:=(DX.1 w).2;omega
     simp at w
    simp at w
   have w2:=List.count_pos_iff.2 w;rw[Sh hr he hle]at w2;split at w2
   ·rw[ht r e hr q]at w2;omega
   omega
  obtain⟨a1,a2⟩:=rM (q:=r) A0 10 N h1 A0;have hd:r^e∣N:=by
   have:(U4 r 10 N).1=vN r N:=rfl;rw[this]at a1;exact Nat.dvd_trans (GQ r q) ⟨_,a1⟩
  have hle:=FB h1 hd;rw[Si hr he A0,if_pos ⟨A0,IJ hd⟩]
end
end
section
structure RtP(R:Nat->Nat)(w c:Nat->Nat->Nat):Prop where
 pw:∀r e,TO r->R (r^e)=r^w r e
 mo:∀r e,TO r->w r e<=w r (e+1)
 sd:∀r e,TO r->2*w r (e+1)=w r e+w r (e+2)+c r (e+1)
 bd:∀r e,TO r->r^w r e<=729
 zr:∀r,TO r->w r 0=0
def AEO{N q r x}(h1:1<=N)(hN:N<=729)(hs:WD N=true)(hq:q∣N)(hf:YB q=[(r,x)]):TO r/\1<=x/\q=r^x:=by
 have hle:=FB h1 hq;have dB:1<=q:=PL hq h1;have hso:=Bz h1 hN hs hq;have a:=BM.1 Sd q (B3.2 A0);rw[hf]at a;have e:=kJ dB A0 hso;rw[hf]at e;have hm:(r,x)∈smL q:=by rw[<-e];simp
 unfold smL at hm;obtain⟨b1,b2⟩:=E0.1 hm;obtain⟨s,b3,b4⟩:=AQ.1 b1;cases b4;exact⟨by unfold TO;simpa using b3,Nat.succ_le_of_lt (of_decide_eq_true b2),(by simpa using a:r^_=q).symm⟩
def RtP.cond{R w c}(h:RtP R w c){r e j}(hr:TO r)(hj:j<=c r (e+1)):r^w r (e+1)/r^w r e=r^(w r (e+1)-w r e)/\r^(w r (e+2)+j)/r^w r (e+1)=r^(w r (e+2)+j-w r (e+1))/\(r^(w r (e+2)+j-w r (e+1))<r^(w r (e+1)-w r e)↔j<c r (e+1))/\r^(w r (e+2)+j)<=729*729:=by
 have h2:=hr.two;have m1:=h.mo r e hr;have m2:w r (e+1)<=w r (e+2):=h.mo r (e+1) hr;have s:=h.sd r e hr;have b:=h.bd r (e+1) hr;refine⟨Nat.pow_div m1 A0,Nat.pow_div A0 A0,?_,?_⟩
 ·rw[NS A0];constructor<;>intro q<;>omega
 have:r^(w r (e+2)+j)<=r^(w r (e+1)+w r (e+1)):=DE A0 A0;rw[Nat.pow_add r (w r (e+1)) (w r (e+1))]at this;exact CH this (CY b b)
end
section
def A2Z{P Q}(h:Wc P Q):∀f,f<=P.n->S4 P f=S4 Q f
 |0,_=>rfl
 |f+1,hf=>by rw[S4,S4,A2Z h f A0,<-h.n,h.o _ A0]
def Ss{U pw cj}(h:BW U pw cj):∀f,f<=U.length->PC U (U.length-f)*(S4 (pc U pw cj) f:Int)=PC U U.length
 |0,_=>by simp[S4]
 | f +1,hf=>by
   have ih:=Ss h f A0;have ho:=FQ (h.2.1 (U.length-(f+1)) A0);have e1:PC U (U.length-f)=PC U (U.length-(f+1))*U.getD (U.length-(f+1)) 0:=by
    rw[show U.length-f=(U.length-(f+1))+1 by omega,PC]
   have e2:((pc U pw cj).o ((pc U pw cj).n-(f+1))).toNat=(U.getD (U.length-(f+1)) 0).toNat:=rfl;rw[S4,e2,EE,BG A0,<-HY,<-e1];exact ih
def A30{U pw cj}(h:BW U pw cj):S4 (pc U pw cj) U.length=nG U:=by
 have:=Ss h U.length (A1 _);rw[CM,<-oP h]at this;simp only[PC]at this;omega
def A7J{U pw cj}(h:BW U pw cj){y}:y∈rI U (nG U)↔T (pc U pw cj) 0 y:=by
 unfold rI;constructor
 ·intro hy;obtain⟨t,_,rfl⟩:=AQ.1 hy;exact Rj h t
 intro hy;obtain⟨t,ht,e,_⟩:=AK8 h hy;exact AQ.2 ⟨t,B3.2 ht,e⟩
def AEP{U pw cj}(h:BW U pw cj):(rI U (nG U)).Nodup:=by
 unfold rI;rw[List.Nodup,L3];exact I3 (λha hb ne e=>ne (AEA h (B3.1 ha) (B3.1 hb) e)) LR
def rN{n q y c}(h:y∈Se n c q):y=q:=by
 unfold Se at h;split at h
 ·split at h
  ·exact(DX.1 h).2
  simp at h
 simp at h
def A31{n c}:∀k,(iQ n c k).Pairwise (· <= ·)/\∀y∈iQ n c k,y<=k+1
 |0=>by simp[iQ]
 | k +1=>by
   obtain⟨a,b⟩:=A31 (n:=n) (c:=c) k;rw[Sf];refine⟨List.pairwise_append.2 ⟨a,?_,λx hx y hy=>?_⟩,λy hy=>?_⟩
   ·rw[FX];intro i j hi hj Q3;rw[rN (BK hi),rN (BK hj)];exact A1 _
   ·have:=b x hx;rw[rN hy];omega
   rcases AG.1 hy with q|q
   ·have:=b y q;omega
   rw[rN q];omega
def AEQ{l:List Nat}(h:l.Pairwise (· <= ·)):gV (l.map λz:Nat=>(z:Int)):=by
 intro i j Q3 hj;rw[A4]at hj;have:=FX.1 h i j A0 hj Q3;rw[A5,A5,BF,BF,A9 (show i<l.length by omega),A9 hj];simpa using this
def AKS{P}(hv:LK P)(hn:0<P.n){x}(h:QB P x):P.o 0∣x 0:=by
 induction h with
 |zero=>exact MN _
 | gen hx=>
   cases hx with
   |pw i hi=>
    dsimp only;rw[(hv.pw i hi).z 0 A0,Int.sub_zero];by_cases e:i=0
    ·subst e;exact KY _ _
    rw[un,EW A0];simp[z0]
   |cj i j Q3 hj=>
    dsimp only;rw[(hv.cj i j Q3 hj).z 0 A0,un,EW A0];simp[z0]
 |Fa s t _ _ ih1 ih2=>exact Int.dvd_add (GH ih1) (GH ih2)
def xC(f:Nat->Int)(n:Nat):List Nat:=(Wl f n).filter λx=>decide (1<x)
def A32{f n}:VN (λi=>(f i).toNat) n=(xC f n).map λx:Nat=>(x:Int):=by
 unfold VN bD xC Wl;rw[List.filter_map,List.filter_map,GN];congr 1
 refine List.filter_congr λi _=>?_
 simp only[Function.comp];rw[decide_eq_decide];omega
section
variable{f:Nat->Int}{n:Nat}(hf:∀i,i<n->0<f i/\f i<=729)(hs:∀i,i<n->WD (f i).toNat=true)(hd:∀i k,i<=k->k<n->f i∣f k)
include hf
theorem Su{x}(hx:x∈xC f n):2<=x/\x<=729/\∃i,i<n/\x=(f i).toNat:=by
 obtain⟨a,b⟩:=E0.1 hx;obtain⟨i,hi,rfl⟩:=AQ.1 a;have:=hf i (B3.1 hi);have:=of_decide_eq_true b;exact⟨A0,A0,i,B3.1 hi,rfl⟩
include hd
theorem AER(hn:n<=4):yW ((xC f n).map λx:Nat=>(x:Int)):=by
 have o0:(xC f n).Pairwise (· ∣ ·):=by
  refine List.Pairwise.filter _ ?_;unfold Wl;rw[L3];refine I3 (λ{a b} ha hb l8=>?_) (List.pairwise_lt_range (n:=n));have h1:=hf a (B3.1 ha);have h2:=hf b (B3.1 hb);have:=hd a b A0 (B3.1 hb);have e1:((f a).toNat:Int)=f a:=A0;have e2:((f b).toNat:Int)=f b:=A0;rw[<-e1,<-e2]at this;exact OE.1 this
 have hl:(xC f n).length<=4:=CH (F6 _ _) (by simp[Wl];exact hn);have hg:∀k,k<(xC f n).length->((xC f n).map λx:Nat=>(x:Int)).getD k 0=(((xC f n).getD k 0:Nat):Int):=λk hk=>by simp[hk]
 refine⟨by rw[A4];omega,λk hk=>?_,λk hk=>?_⟩
 ·rw[A4]at hk;rw[hg k hk];have:=Su hf (QR (d:=0) hk);omega
 rw[A4]at hk;rw[hg k A0,hg (k+1) hk];have:=FX.1 o0 k (k+1) A0 hk A0;have e1:(xC f n).getD k 0=(xC f n)[k]:=by rw[A5,A9 (show k<(xC f n).length by omega)];rfl
 have e2:(xC f n).getD (k+1) 0=(xC f n)[k+1]:=by rw[A5,A9 hk];rfl
 rw[e1,e2];exact Int.tmod_eq_zero_of_dvd (OE.2 this)
end
end
end Go.Proofs.YtgknbnkmilddhaaGreat