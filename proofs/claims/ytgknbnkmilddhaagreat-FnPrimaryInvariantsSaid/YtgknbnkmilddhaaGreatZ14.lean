import Derived.Test.YtgknbnkmilddhaaGreatZ04
import Derived.Test.YtgknbnkmilddhaaGreatZ05
import Derived.Test.YtgknbnkmilddhaaGreatZ11
import Derived.Test.YtgknbnkmilddhaaGreatZ13
set_option linter.all false

open Go.Proofs.Tryz
namespace Go.Proofs.YtgknbnkmilddhaaGreat
section
def gV(l:C2):Prop:=∀i j,i<j->j<l.length->l.getD i 0<=l.getD j 0
def Ls{a b:C2}{i:Nat}(h:i<a.length):(a++b).getD i 0=a.getD i 0:=by
 rw[A5,F3 h,A5]
def A1V{a b:C2}{i:Nat}(h:a.length<=i):(a++b).getD i 0=b.getD (i-a.length) 0:=by
 rw[A5,EA h,A5]
def A6Q{a:C2}{i k:Nat}(h:i<k):(a.take k).getD i 0=a.getD i 0:=by
 rw[A5,D9,if_pos h,A5]
def A6R{a:C2}{i k:Nat}:(a.drop k).getD i 0=a.getD (k+i) 0:=by
 rw[A5,CK,A5]
def gV.ins{l}(h:gV l){x k}(hk:k<=l.length)(h1:∀i,i<k->l.getD i 0<=x)(h2:∀i,k<=i->i<l.length->x<=l.getD i 0):gV (l.take k++[x]++l.drop k):=by
 have ht:(l.take k).length=k:=by rw[B1];omega
 have hL:(l.take k++[x]++l.drop k).length=l.length+1:=by simp;omega
 have e1:∀i,i<k->(l.take k++[x]++l.drop k).getD i 0=l.getD i 0:=λi hi=>by rw[Ls (by simp;omega),Ls A0,A6Q hi]
 have e2:(l.take k++[x]++l.drop k).getD k 0=x:=by rw[Ls (by simp;omega),A1V A0,ht,CM];rfl
 have e3:∀i,k<i->(l.take k++[x]++l.drop k).getD i 0=l.getD (i-1) 0:=λi hi=>by
  rw[A1V (by simp;omega),A6R];congr 1;simp;omega
 intro i j Q3 hj;rw[hL]at hj;rcases GR i k with q|q|q
 ·rw[e1 i q];rcases GR j k with q'|q'|q'
  ·rw[e1 j q'];exact h i j Q3 A0
  ·subst q';rw[e2];exact h1 i q
  rw[e3 j q'];exact MP (h1 i q) (h2 (j-1) A0 A0)
 ·subst q;rw[e2,e3 j A0];exact h2 _ A0 A0
 rw[e3 i q,e3 j A0];exact h _ _ A0 A0
set_option maxHeartbeats 4000000 in
def uP(xs)(hl:xs.length<=1000)(nx):AC prog 25 nx DD [ints xs] (λDI H' r=>∃Y:C2,Y.Perm xs/\gV Y/\∃id,r= .h id 0 Y.length/\nx<=id/\id<DI/\H' id=some (Y.map (.i .i64))):=by
 refine CF AY func25 rfl AP ntmps25 results25 (λGM cX=>?_)
 refine EU ?_;refine EU ?_;refine A6 λN1 CW=>EU ?_;refine AA<|AM (α:=Nat×HP×Nat×C2) (λx=>sl 50 [(0,ints xs),(3,.h x.2.2.1 0 x.2.2.2.length),(4,.i .i64 x.1)]) (λx=>x.2.1) (λx m=>(x.1<=xs.length/\nx<=x.2.2.1/\x.2.2.1<m)/\x.2.1 x.2.2.1=some (x.2.2.2.map (.i .i64))/\x.2.2.2.Perm (xs.take x.1)/\gV x.2.2.2) (λx=>xs.length-x.1) ((0,CJ DD (nx+1) (some []),nx+1,[])) ?_ ?_ (λ_ _ h=>h) ?_
 ·exact⟨⟨B5,AI,AI⟩,AD _ _ _,B5,λi j _ h=>by simp at h⟩
 ·exact E2
 rintro⟨i,G,id,out⟩ m ⟨⟨hi,GF,Aw⟩,hG,hP,hS⟩
 dsimp only at hi GF Aw hG hP hS ⊢
 have Eg:out.length=i:=by rw[hP.length_eq,B1];omega
 refine BH ?_;refine A6 λN2 DN=>EU ?_;refine AK ?_ ?_<;>intro h1
 ·have hix:i<xs.length:=A0;obtain⟨z,hz⟩:=EK (xs.getD i 0);have hgz:(List.map (AV.i .i64) xs).getD i .j= .i .i64 z:=by rw[<-hz];simp[hix]
  apply AF;apply DN;refine A6 λN3 DO=>AA<|EU ?_;refine A6 λN4 FD=>AA<|AM (α:=Nat) (λx=>sl 50 [(0,ints xs),(3,.h id 0 out.length),(4,.i .i64 i),(5,.i .i64 x)]) (λ_=>G) (λx m=>x<=out.length/\id<m/\∀j,x<=j->j<out.length->z<=out.getD j 0) (λx=>x) (out.length) ?_ ?_ (λ_ _ h=>h) ?_
  ·exact⟨A0,AI,λj h1 h2=>A0⟩
  ·exact E2
  rintro k m2 ⟨hk,Q8,hge⟩;have e7:((k:Int)-1).toNat=k-1:=A0;have Iv:0<k->(List.map (AV.i .i64) out).getD (k-1) .j= .i .i64 (out.getD (k-1) 0):=λh=>by simp[show k-1<out.length by omega]
  have RJ:(∀z∈List.take k (List.map (AV.i .i64) out),one z=true)=True:=eq_true (λz hz=>by obtain⟨y,_,rfl⟩:=AQ.1 (GO hz);rfl);have AJZ:(∀z∈List.drop k (List.map (AV.i .i64) out),one z=true)=True:=eq_true (λz hz=>by obtain⟨y,_,rfl⟩:=AQ.1 (M3 hz);rfl);have eD:(List.take k (List.map (AV.i .i64) out)).length=k:=by rw[B1,A4];omega
  have Oh:k+(out.length-k)<=out.length:=A0;have jX:List.take (out.length-k) (List.drop k (List.map (AV.i .i64) out))=List.drop k (List.map (AV.i .i64) out):=AJ (by rw[CC,A4];omega);have AK0:(List.drop k (List.map (AV.i .i64) out)).length=out.length-k:=by rw[CC,A4]
  refine BH ?_;refine A6 λN5 ID=>A6 λN hN=>?_;refine C9 AY AP 14 AP ?_
  (try simp-dsimp-implicitDefEqProofs(disch:=omega)only[go_sem,BD,AR,B4,BE,AT,AS,GJ,ES,ET,ints,DV,hG,hgz]);refine J5.mk' (λh2=>?_) (λh2=>?_)
  ·try simp only[cn]at h2
   (try simp-dsimp-implicitDefEqProofs(disch:=omega)only[go_sem,A4,ints,hG,hgz,e7,Iv])
   apply hN;refine AK ?_ ?_<;>intro h3
   ·apply AF;apply ID;refine AA<|LG ?_;refine BB (k-1) ?_ ?_ ?_
    ·exact E2
    ·exact⟨AI,λj q1 q2=>by by_cases e:j=k-1;(· subst e;omega);exact hge j A0 q2⟩
    exact AI
   apply AO;apply FD;refine sQ λN hN=>?_;simp-dsimp-implicitDefEqProofs(disch:=omega)only[go_sem,A4,if_true,ints,hG,RJ,eD,hk];apply hN;refine sQ λN hN=>?_;simp-dsimp-implicitDefEqProofs(disch:=omega)only[go_sem,A4,ints,hgz,eD];apply hN;apply rQ;simp-dsimp-implicitDefEqProofs(disch:=omega)only[go_sem,A4,if_true,ints,hG,AJZ,Oh,jX,AK0];apply DO;refine BX (λG9 TI=>?_);dsimp only at TI
   refine LG ?_;refine BB (i+1,G9,m2+14+6+8+4,out.take k++[z]++out.drop k) ?_ ?_ ?_
   ·exact E2
   ·have g1:G9 (m2+14+6+8+4)=some ((out.take k++[z]++out.drop k).map (.i .i64)):=by
     rw[<-TI,AD,AJ (by rw[AH,eD];exact A1 _)];simp
    have g2:(out.take k++[z]++out.drop k).Perm (xs.take (i+1)):=by
     rw[B7 hix,show xs[i]=z by rw[<-hz];simp[hix],BO];refine(LS (l₁:=out.take k) (l₂:=out.drop k) (a:=z)).trans ?_;rw[HR];exact(hP.cons z).trans (MR z (xs.take i)).symm
    have g3:=hS.ins (x:=z) hk (λj hj=>by have q:=hS;rcases BL j (k-1)with w|w;(· have:=hS j (k-1) w A0;omega);(have e:j=k-1:=A0);subst e;omega) hge;exact⟨⟨AI,AI,AI⟩,g1,g2,g3⟩
   exact AI
  try simp only[cn]at h2
  refine OX ?_
  apply hN;refine DJ rfl ?_;apply AO;apply FD;refine sQ λN hN=>?_;simp-dsimp-implicitDefEqProofs(disch:=omega)only[go_sem,A4,if_true,ints,hG,RJ,eD,hk];apply hN;refine sQ λN hN=>?_;simp-dsimp-implicitDefEqProofs(disch:=omega)only[go_sem,A4,ints,hgz,eD];apply hN;apply rQ;simp-dsimp-implicitDefEqProofs(disch:=omega)only[go_sem,A4,if_true,ints,hG,AJZ,Oh,jX,AK0];apply DO;refine BX (λG9 TI=>?_);dsimp only at TI
  refine LG ?_;refine BB (i+1,G9,m2+14+6+8+4,out.take k++[z]++out.drop k) ?_ ?_ ?_
  ·exact E2
  ·have g1:G9 (m2+14+6+8+4)=some ((out.take k++[z]++out.drop k).map (.i .i64)):=by
    rw[<-TI,AD,AJ (by rw[AH,eD];exact A1 _)];simp
   have g2:(out.take k++[z]++out.drop k).Perm (xs.take (i+1)):=by
    rw[B7 hix,show xs[i]=z by rw[<-hz];simp[hix],BO];refine(LS (l₁:=out.take k) (l₂:=out.drop k) (a:=z)).trans ?_;rw[HR];exact(hP.cons z).trans (MR z (xs.take i)).symm
   have g3:=hS.ins (x:=z) hk (λj hj=>A0) hge;exact⟨⟨AI,AI,AI⟩,g1,g2,g3⟩
  exact AI
 obtain rfl:i=xs.length:=A0
 rw[B2]at hP
 apply AO;apply CW;refine EU ?_;refine BQ ?_;exact⟨_,Le.refl _,out,hP,hS,id,rfl,GF,A0,hG⟩
def Lt(X:C2)(j:Nat):C2:=(X.set (j+1) (X.getD j 0)).set j (X.getD (j+1) 0)
def Vz{X j}(h:j+1<X.length):(Lt X j).Perm X:=by
 have:=List.set_set_perm h (show j<X.length by omega);unfold Lt;rw[show X.getD j 0=X[j] by simp[show j<X.length by omega],show X.getD (j+1) 0=X[j+1] by simp[h]];exact this
def Fx{X j a}(h:j+1<X.length):(Lt X j).getD a 0=if a=j then X.getD (j+1) 0 else if a=j+1 then X.getD j 0 else X.getD a 0:=by
 unfold Lt;simp only[A5,CL,D2];by_cases e1:a=j
 ·subst e1;simp[show a<X.length by omega]
 by_cases e2:a=j+1
 ·subst e2;simp[h]
 simp[e1,e2,I8 e1,I8 e2]
def uQ{X:C2}{k:Nat}{v:Int}(h:k<X.length):DH (X.map (.i .i64)) k [.i .i64 v]=(X.set k v).map (AV.i .i64):=by
 unfold DH;rw[FJ,if_pos h];simp
def Fy(X:C2)(i j:Nat):Prop:=∀a b,a<b->b<=i->b≠j->X.getD a 0<=X.getD b 0
def Fy.step{X i j}(h:Fy X i (j+1))(hj:j+1<=i)(hi:i<X.length)(HX:X.getD (j+1) 0<X.getD j 0):Fy (Lt X j) i j:=by
 intro a b l8 hb hbj;rw[Fx (a:=a) (show j+1<X.length by omega),Fx (a:=b) (show j+1<X.length by omega)];by_cases b1:b=j+1
 ·subst b1;rw[if_neg (show ¬j+1=j by omega),if_pos rfl];by_cases a1:a=j
  ·rw[if_pos a1];exact Int.le_of_lt HX
  rw[if_neg a1,if_neg A0];exact h a j A0 A0 A0
 rw[if_neg hbj,if_neg b1];by_cases a1:a=j
 ·rw[if_pos a1];exact h (j+1) b A0 hb b1
 rw[if_neg a1];by_cases a2:a=j+1
 ·rw[if_pos a2];exact h j b A0 hb b1
 rw[if_neg a2];exact h a b l8 hb b1
def Fy.fin{X i j}(h:Fy X i j)(hj:j<=i)(hd:0<j->X.getD (j-1) 0<=X.getD j 0):∀a b,a<b->b<i+1->X.getD a 0<=X.getD b 0:=by
 intro a b l8 hb;by_cases e:b=j
 ·subst e;by_cases e2:a=b-1
  ·subst e2;exact hd A0
  exact MP (h a (b-1) A0 A0 A0) (hd A0)
 exact h a b l8 A0 e
set_option maxHeartbeats 2000000 in
def WK(xs:C2)(hl:xs.length<=12)(id nx:Nat)(H:HP)(hH:H id=some (xs.map (.i .i64))):AC prog 228 nx H [.h id 0 xs.length,.i .i64 0,.i .i64 xs.length] (λ_ H' _=>∃Y:C2,Y.Perm xs/\gV Y/\H'=CJ H id (some (Y.map (.i .i64)))):=by
 refine CF AY func228 rfl AP ntmps228 results228 (λGM cX=>?_)
 refine CT ?_;refine AA<|AM (α:=Nat×C2) (λx=>sl 49 [(0,.h id 0 xs.length),(1,.i .i64 0),(2,.i .i64 xs.length),(6,.i .i64 x.1)]) (λx=>CJ H id (some (x.2.map (.i .i64)))) (λx m=>(1<=x.1/\x.1<=xs.length+1)/\x.2.Perm xs/\∀a b,a<b->b<x.1->b<x.2.length->x.2.getD a 0<=x.2.getD b 0) (λx=>xs.length+1-x.1) ((1,xs)) ?_ ?_ (by intro d cs hd;simp only[CJ]at hd ⊢;grind) ?_
 ·exact⟨B5,.refl _,λa b h1 h2=>A0⟩
 ·exact FV
 rintro⟨i,X⟩ m ⟨⟨Dg,hi⟩,hP,hS⟩
 dsimp only at Dg hi hP hS ⊢
 have dE:=hP.length_eq
 refine BH ?_;refine A6 λN1 CW=>CT ?_;refine AK ?_ ?_<;>intro h1
 ·have hix:i<xs.length:=A0;apply AF;apply CW;refine A6 λN2 DN=>AA<|CT ?_;refine AA<|AM (α:=Nat×C2) (λx=>sl 49 [(0,.h id 0 xs.length),(1,.i .i64 0),(2,.i .i64 xs.length),(6,.i .i64 i),(7,.i .i64 x.1)]) (λx=>CJ H id (some (x.2.map (.i .i64)))) (λx m=>x.1<=i/\x.2.Perm xs/\Fy x.2 i x.1) (λx=>x.1) ((i,X)) ?_ ?_ (λ_ _ h=>h) ?_
  ·exact⟨A1 _,hP,λa b h1 h2 h3=>hS a b h1 A0 A0⟩
  ·exact FV
  rintro⟨j,Y⟩ m2 ⟨hj,hQ,hI⟩;dsimp only at hj hQ hI ⊢;have Fw:=hQ.length_eq;refine BH ?_;refine A6 λN3 DO=>A6 λN hN=>?_;refine C9 AY AP 15 AP ?_
  refine Zr ?_;refine J5.mk' (λh2=>?_) (λh2=>?_)
  ·try simp only[cn]at h2
   obtain⟨q,rfl⟩:∃q,j=q+1:=⟨j-1,by simp at h2;omega⟩;have e7:(((q+1:Nat):Int)-1).toNat=q:=A0;refine eK e7 ?_
   refine⟨_,.of (iY (Y.getD (q+1) 0) (Y.getD q 0)),?_⟩;refine BH ?_
   apply hN;refine AK ?_ ?_<;>intro h3
   ·have s1:=uQ (v:=Y.getD q 0) (show q+1<Y.length by omega);have s2:DH ((Y.set (q+1) (Y.getD q 0)).map (.i .i64)) q [.i .i64 (Y.getD (q+1) 0)]=(Lt Y q).map (.i .i64):=uQ (by rw[D2];omega);have s3:q+1<=(Y.set (q+1) (Y.getD q 0)).length:=by rw[D2];omega
    apply AF;apply DO;refine A6 λN4 FD=>AA<|K5 AY AP [true,true,true,true,true,true,true,true,true,false,true,true,true,false,true,false,true,false] (.br 9 (.br 13 (.br 15 (.br 17 .nil .nil) .nil) .nil) (.br 13 (.br 9 (.br 15 (.br 17 .nil .nil) .nil) .nil) .nil)) AP ?_
    (try simp-dsimp-implicitDefEqProofs(maxSteps:=800000) (disch:=omega)only[go_sem,A4,true_and,e7,s1,s2,s3]);refine⟨?_,?_⟩;all_goals
     apply FD;refine K4 ?_;refine BB (q,Lt Y q) ?_ ?_ ?_
     ·exact FV
     ·exact⟨A0,(Vz A0).trans hQ,hI.step hj A0 h3⟩
     exact AI
   have Dq:=Fy.fin hI hj (λ_=>by simp only[D6];omega);apply AO;apply DN;refine K4 ?_;refine BB (i+1,Y) ?_ ?_ ?_
   ·exact FV
   ·exact⟨⟨A0,A0⟩,hQ,λa b q1 q2 _=>Dq a b q1 q2⟩
   exact AI
  try simp only[cn]at h2
  have Dq:=Fy.fin hI hj (λh=>by simp at h2;omega);refine BH ?_
  apply hN;refine DJ rfl ?_;apply AO;apply DN;refine K4 ?_;refine BB (i+1,Y) ?_ ?_ ?_
  ·exact FV
  ·exact⟨⟨A0,A0⟩,hQ,λa b q1 q2 _=>Dq a b q1 q2⟩
  exact AI
 apply AO;simp only[wW,IY,if_true];exact⟨_,λ_ _ h=>h,X,hP,λa b q1 q2=>hS a b q1 A0 q2,rfl⟩
def gW(xs:C2)(hl:xs.length<=12)(id nx:Nat)(H:HP)(hH:H id=some (xs.map (.i .i64)))(v:Int):AC prog 176 nx H [.h id 0 xs.length,.i .i64 0,.i .i64 xs.length,.i .i64 v] (λ_ H' _=>∃Y:C2,Y.Perm xs/\gV Y/\H'=CJ H id (some (Y.map (.i .i64)))):=by
 refine CF AY func176 rfl AP ntmps176 results176 (λGM cX=>?_)
 refine CT ?_;refine CT ?_;refine AA<|AM (α:=Nat) (λx=>sl 134 [(0,.h id 0 xs.length),(1,.i .i64 0),(2,.i .i64 xs.length),(3,.i .i64 v),(8,.b true),(9,.b true)]) (λ_=>H) (λx m=>x=0) (λx=>0) (0) ?_ ?_ (λ_ _ h=>h) ?_
 ·rfl
 ·exact FV
 rintro k m hk
 refine BH ?_;refine AA<|CT ?_;refine A6 λN1 CW=>CT ?_;refine AK ?_ ?_<;>intro h1
 ·refine sQ λN hN=>?_;refine BH ?_;refine(WK xs hl id _ H hH).CD ?_
  rintro m1 H1 r1 SF ⟨Y,hY1,hY2,rfl⟩;refine BH ?_
  apply hN;refine BQ ?_;exact⟨_,λ_ _ h=>h,Y,hY1,hY2,rfl⟩
 exact absurd h1 A0
def pH(xs:C2)(hl:xs.length<=12)(id nx:Nat)(H:HP)(hH:H id=some (xs.map (.i .i64))):AC prog 110 nx H [.h id 0 xs.length] (λ_ H' _=>∃Y:C2,Y.Perm xs/\gV Y/\H'=CJ H id (some (Y.map (.i .i64)))):=by
 have hw:IntKind.wrap .u64 (xs.length:Int)=xs.length:=by
  simp[IntKind.wrap,IntKind.bits,IntKind.signed];omega
 refine CF AY func110 rfl AP ntmps110 results110 (λGM cX=>?_)
 refine CT ?_;refine eJ hw ?_;refine(sR xs.length A0 A0 _ _).CD ?_
 rintro m1 H1 r1 SF ⟨rfl,v,rfl⟩
 refine BH ?_
 refine(gW xs hl id _ _ hH v).CD ?_
 rintro m2 H2 r2 Q8 ⟨Y,hY1,hY2,rfl⟩
 refine BH ?_
 exact⟨_,λ_ _ h=>h,Y,hY1,hY2,rfl⟩
def WL(nx H):AC prog 228 nx H [.nl,.i .i64 0,.i .i64 (0:Nat)] (λ_ H' _=>H'=H):=by
 refine CF AY func228 rfl AP ntmps228 results228 (λGM cX=>?_)
 refine CT ?_;refine AA<|AM (α:=Nat) (λx=>sl 49 [(0,.nl),(1,.i .i64 0),(2,.i .i64 (0:Nat)),(6,.i .i64 1)]) (λ_=>H) (λx m=>x=0) (λx=>0) (0) ?_ ?_ (λ_ _ h=>h) ?_
 ·rfl
 ·exact FV
 rintro k m hk
 refine BH ?_;refine A6 λN1 CW=>CT ?_;refine AK ?_ ?_<;>intro h1
 ·exact absurd h1 A0
 apply AO;simp only[wW,IY,if_true];exact⟨_,λ_ _ h=>h,rfl⟩
def gX(nx H v):AC prog 176 nx H [.nl,.i .i64 0,.i .i64 (0:Nat),.i .i64 v] (λ_ H' _=>H'=H):=by
 refine CF AY func176 rfl AP ntmps176 results176 (λGM cX=>?_)
 refine CT ?_;refine CT ?_;refine AA<|AM (α:=Nat) (λx=>sl 134 [(0,.nl),(1,.i .i64 0),(2,.i .i64 (0:Nat)),(3,.i .i64 v),(8,.b true),(9,.b true)]) (λ_=>H) (λx m=>x=0) (λx=>0) (0) ?_ ?_ (λ_ _ h=>h) ?_
 ·rfl
 ·exact FV
 rintro k m hk
 refine BH ?_;refine AA<|CT ?_;refine A6 λN1 CW=>CT ?_;refine AK ?_ ?_<;>intro h1
 ·refine sQ λN hN=>?_;refine BH ?_;refine(WL _ H).CD ?_
  rintro m1 H1 r1 SF rfl;refine BH ?_
  apply hN;refine BQ ?_;exact⟨_,λ_ _ h=>h,rfl⟩
 exact absurd h1 A0
def pI(nx H):AC prog 110 nx H [.nl] (λ_ H' _=>H'=H):=by
 have hw:IntKind.wrap .u64 ((0:Nat):Int)=(0:Nat):=by
  simp[IntKind.wrap,IntKind.bits,IntKind.signed]
 refine CF AY func110 rfl AP ntmps110 results110 (λGM cX=>?_)
 refine CT ?_;refine eJ hw ?_;refine(sR 0 A0 A0 _ _).CD ?_
 rintro m1 H1 r1 SF ⟨rfl,v,rfl⟩
 refine BH ?_
 refine(gX _ _ v).CD ?_
 rintro m2 H2 r2 Q8 rfl
 refine BH ?_
 exact⟨_,λ_ _ h=>h,rfl⟩
structure bI(N:V->Prop)(op:V->V->V)(e:V)(R:V->V->Prop):Prop where
 rf:∀a,R a a
 sy:∀{a b},R a b->R b a
 tr:∀{a b c},R a b->R b c->R a c
 cl:∀{a b},N a->N b->N (op a b)
 ne:N e
 cg:∀{a b c d},N a->N b->N c->N d->R a b->R c d->R (op a c) (op b d)
 ac:∀{a b c},N a->N b->N c->R (op (op a b) c) (op a (op b c))
 el:∀{a},N a->R (op e a) a
 er:∀{a},N a->R (op a e) a
 lc:∀{a b c},N a->N b->N c->R (op a b) (op a c)->R b c
def YT(op:V->V->V)(e:V)(x:V)(k:Nat):V:=IS (λu=>op u x) k e
def dL(op:V->V->V)(e:V)(g:Nat->V)(x:V):Nat->Nat->V
 |0,_=>e
 |m+1,j=>op (YT op e (g j) (x j).toNat) (dL op e g x m (j+1))
section
variable{N:V->Prop}{op:V->V->V}{e:V}{R:V->V->Prop}
def bI.rp(h:bI N op e R){x}(hx:N x)(k):N (YT op e x k):=RL (λy hy=>h.cl hy hx) _ _ h.ne
def bI.l(h:bI N op e R){a b c}(ha:N a)(hb:N b)(hc:N c)(q:R b c):R (op a b) (op a c):=h.cg ha ha hb hc (h.rf a) q
def bI.r(h:bI N op e R){a b c}(ha:N a)(hb:N b)(hc:N c)(q:R b c):R (op b a) (op c a):=h.cg hb hc ha ha q (h.rf a)
def bI.IS(h:bI N op e R){x u}(hx:N x)(hu:N u):∀k,N (Go.Proofs.YtgknbnkmilddhaaGreat.IS (λu=>op u x) k u)/\R (Go.Proofs.YtgknbnkmilddhaaGreat.IS (λu=>op u x) k u) (op u (YT op e x k))
 |0=>⟨hu,h.sy (h.er hu)⟩
 | k+1=>by
   obtain⟨h1,h2⟩:=bI.IS h hx hu k;have h3:=h.rp hx k;exact⟨h.cl h1 hx,h.tr (h.r hx h1 (h.cl hu h3) h2) (h.ac hu h3 hx)⟩
def bI.add(h:bI N op e R){x}(hx:N x)(a b):R (YT op e x (a+b)) (op (YT op e x a) (YT op e x b)):=by
 rw[YT,W0];exact(h.IS hx (h.rp hx a) b).2
def bI.vl(h:bI N op e R){g x}:∀m j,(∀k,j<=k->k<j+m->N (g k))->N (dL op e g x m j)
 |0,_,_=>h.ne
 |m+1,j,hg=>h.cl (h.rp (hg j (A1 j) A0) _) (bI.vl h m (j+1) λk h1 h2=>hg k A0 A0)
def Bj{g g' x y}:∀m j,(∀k,j<=k->k<j+m->x k=y k/\g k=g' k)->dL op e g x m j=dL op e g' y m j
 |0,_,_=>rfl
 |m+1,j,h=>by rw[dL,dL,(h j (A1 j) A0).1,(h j (A1 j) A0).2,Bj m (j+1) λk h1 h2=>h k A0 A0]
def bI.rpc(h:bI N op e R){y y' z}(hy:N y)(Ja:N y')(hz:N z)(q:R (op y z) (op z y')):∀k,R (op (YT op e y k) z) (op z (YT op e y' k))
 |0=>h.tr (h.el hz) (h.sy (h.er hz))
 | k+1=>by
   have h1:=h.rp hy k;have h2:=h.rp Ja k;show R (op (op (YT op e y k) y) z) (op z (op (YT op e y' k) y'))
   refine h.tr (h.ac h1 hy hz) (h.tr (h.l h1 (h.cl hy hz) (h.cl hz Ja) q) ?_);refine h.tr (h.sy (h.ac h1 hz Ja)) (h.tr (h.r Ja (h.cl h1 hz) (h.cl hz h2) (bI.rpc h hy Ja hz q k)) (h.ac hz h2 Ja))
def bI.vlc(h:bI N op e R){g g' x z}(hz:N z):∀m j,(∀k,j<=k->k<j+m->N (g k)/\N (g' k)/\R (op (g k) z) (op z (g' k)))->R (op (dL op e g x m j) z) (op z (dL op e g' x m j))
 |0,_,_=>h.tr (h.el hz) (h.sy (h.er hz))
 | m+1,j,hg=>by
   obtain⟨a1,a2,a3⟩:=hg j (A1 j) A0;have Jb:∀k,j+1<=k->k<j+1+m->N (g k)/\N (g' k)/\R (op (g k) z) (op z (g' k)):=λk h1 h2=>hg k A0 A0
   have r1:=h.vl (g:=g) (x:=x) m (j+1) λk h1 h2=>(Jb k h1 h2).1
   have r2:=h.vl (g:=g') (x:=x) m (j+1) λk h1 h2=>(Jb k h1 h2).2.1
   have p1:=h.rp a1 (x j).toNat;have p2:=h.rp a2 (x j).toNat;show R (op (op (YT op e (g j) (x j).toNat) (dL op e g x m (j+1))) z) (op z (op (YT op e (g' j) (x j).toNat) (dL op e g' x m (j+1))))
   refine h.tr (h.ac p1 r1 hz) (h.tr (h.l p1 (h.cl r1 hz) (h.cl hz r2) (bI.vlc h hz m (j+1) Jb)) ?_);refine h.tr (h.sy (h.ac p1 hz r2)) (h.tr (h.r r2 (h.cl p1 hz) (h.cl hz p2) (h.rpc a1 a2 hz a3 _)) (h.ac hz p2 r2))
def bI.vl0(h:bI N op e R){g x}:∀m j,(∀k,j<=k->k<j+m->N (g k))->(∀k,j<=k->k<j+m->x k=0)->R (dL op e g x m j) e
 |0,_,_,_=>h.rf _
 | m+1,j,hg,hx=>by
   show R (op (YT op e (g j) (x j).toNat) (dL op e g x m (j+1))) e
   have e0:(x j).toNat=0:=by rw[hx j (A1 j) A0];rfl
   have ih:=bI.vl0 h (g:=g) (x:=x) m (j+1) (λk h1 h2=>hg k A0 A0) λk h1 h2=>hx k A0 A0
   rw[e0];exact h.tr (h.el (h.vl m (j+1) λk h1 h2=>hg k A0 A0)) ih
end
def PH(P:Pc)(op:V->V->V)(e:V)(g:Nat->V)(l:Nat)(x:V):V:=dL op e g x (P.n-l) l
structure U6(P:Pc)(N:V->Prop)(op:V->V->V)(e:V)(R:V->V->Prop)(g:Nat->V):Prop where
 gN:∀i,i<P.n->N (g i)
 pw:∀i,i<P.n->R (YT op e (g i) (P.o i).toNat) (PH P op e g (i+1) (P.pw i))
 cj:∀i j,i<j->j<P.n->R (op (g j) (g i)) (op (g i) (PH P op e g (i+1) (P.cj i j)))
section
variable{P:Pc}{N:V->Prop}{op:V->V->V}{e:V}{R:V->V->Prop}{g:Nat->V}
def U6.nv(hr:U6 P N op e R g)(h:bI N op e R){l x}:N (PH P op e g l x):=h.vl _ _ λk _ h2=>hr.gN k A0
def U6.z(hr:U6 P N op e R g)(h:bI N op e R){l}:R (PH P op e g l z0) e:=h.vl0 _ _ (λk _ h2=>hr.gN k A0) λ_ _ _=>rfl
def gY{l}(hl:l<P.n){x y}(hy:∀k,l<k->x k=y k):PH P op e g l x=op (YT op e (g l) (x l).toNat) (PH P op e g (l+1) y):=by
 rw[PH,show P.n-l=(P.n-(l+1))+1 by omega,dL,PH];congr 1;exact Bj _ _ λk h1 _=>⟨hy k A0,rfl⟩
def U6.up(hr:U6 P N op e R g)(h:bI N op e R){l x}(hx:T P (l+1) x):R (PH P op e g l x) (PH P op e g (l+1) x):=by
 by_cases hl:l<P.n
 ·rw[gY hl λ_ _=>rfl,hx.z l A0];exact h.el (hr.nv h)
 rw[PH,PH,show P.n-l=0 by omega,show P.n-(l+1)=0 by omega];exact h.rf _
def U6.RB(hv:LK P)(hr:U6 P N op e R g)(h:bI N op e R){i}(ih:∀a b,T P (i+1) a->T P (i+1) b->R (PH P op e g (i+1) (M P (i+1) a b)) (op (PH P op e g (i+1) a) (PH P op e g (i+1) b))){c x}:
    ∀m j u,(∀k,j<=k->k<j+m->T P (i+1) (c k))->T P (i+1) u->R (PH P op e g (i+1) (Go.Proofs.YtgknbnkmilddhaaGreat.RB (M P (i+1)) c x m j u)) (op (PH P op e g (i+1) u) (dL op e (λk=>PH P op e g (i+1) (c k)) x m j))
  |0,j,u,_,hu=>h.sy (h.er (hr.nv h))
  | m + 1,j,u,hc,hu=>by
    have tc:=hc j (A1 j) A0;have key:∀k,T P (i+1) (Go.Proofs.YtgknbnkmilddhaaGreat.IS (λu=>M P (i+1) u (c j)) k u)/\R (PH P op e g (i+1) (Go.Proofs.YtgknbnkmilddhaaGreat.IS (λu=>M P (i+1) u (c j)) k u)) (op (PH P op e g (i+1) u) (YT op e (PH P op e g (i+1) (c j)) k)):=by
      intro k;induction k with
      |zero=>exact⟨hu,h.sy (h.er (hr.nv h))⟩
      | succ k ik=>
        have p:=h.rp (hr.nv h (l:=i+1) (x:=c j)) k;exact⟨aH hv ik.1 tc,h.tr (ih _ _ ik.1 tc) (h.tr (h.r (hr.nv h) (hr.nv h) (h.cl (hr.nv h) p) ik.2) (h.ac (hr.nv h) p (hr.nv h)))⟩
    have k1:=key (x j).toNat;have p:=h.rp (hr.nv h (l:=i+1) (x:=c j)) (x j).toNat;have q:=h.vl (g:=λk=>PH P op e g (i+1) (c k)) (x:=x) m (j+1) λ_ _ _=>hr.nv h
    have:=U6.RB hv hr h ih (c:=c) (x:=x) m (j+1) _ (λk h1 h2=>hc k A0 A0) k1.1;exact h.tr this (h.tr (h.r q (hr.nv h) (h.cl (hr.nv h) p) k1.2) (h.ac (hr.nv h) p q))
def U6.IN(hv:LK P)(hr:U6 P N op e R g)(h:bI N op e R){i}(hi:i<P.n)(ih:∀a b,T P (i+1) a->T P (i+1) b->R (PH P op e g (i+1) (M P (i+1) a b)) (op (PH P op e g (i+1) a) (PH P op e g (i+1) b))){x}(hx:T P (i+1) x):
    R (op (PH P op e g (i+1) x) (g i)) (op (g i) (PH P op e g (i+1) (Go.Proofs.YtgknbnkmilddhaaGreat.IN P (M P (i+1)) i x))):=by
  have q:=h.vl (g:=λk=>PH P op e g (i+1) (P.cj i k)) (x:=x) (P.n-(i+1)) (i+1) λ_ _ _=>hr.nv h
  have h1:=h.vlc (g:=g) (g':=λk=>PH P op e g (i+1) (P.cj i k)) (x:=x) (hr.gN i hi) (P.n-(i+1)) (i+1) λk h1 h2=>⟨hr.gN k A0,hr.nv h,hr.cj i k A0 A0⟩
  have h2:=hr.RB hv h ih (c:=P.cj i) (x:=x) (P.n-(i+1)) (i+1) z0 (λk h1 h2=>hv.cj i k A0 A0) (T.zero hv _);have h3:R (PH P op e g (i+1) (Go.Proofs.YtgknbnkmilddhaaGreat.IN P (M P (i+1)) i x)) (dL op e (λk=>PH P op e g (i+1) (P.cj i k)) x (P.n-(i+1)) (i+1)):=h.tr h2 (h.tr (h.r q (hr.nv h) h.ne (hr.z h)) (h.el q));exact h.tr h1 (h.l (hr.gN i hi) q (hr.nv h) (h.sy h3))
def U6.AE0(hv:LK P)(hr:U6 P N op e R g)(h:bI N op e R){i}(hi:i<P.n)(ih:∀a b,T P (i+1) a->T P (i+1) b->R (PH P op e g (i+1) (M P (i+1) a b)) (op (PH P op e g (i+1) a) (PH P op e g (i+1) b))){x}(hx:T P (i+1) x):
    ∀k,T P (i+1) (Go.Proofs.YtgknbnkmilddhaaGreat.IS (Go.Proofs.YtgknbnkmilddhaaGreat.IN P (M P (i+1)) i) k x)/\R (op (PH P op e g (i+1) x) (YT op e (g i) k)) (op (YT op e (g i) k) (PH P op e g (i+1) (Go.Proofs.YtgknbnkmilddhaaGreat.IS (Go.Proofs.YtgknbnkmilddhaaGreat.IN P (M P (i+1)) i) k x)))
  |0=>⟨hx,h.tr (h.er (hr.nv h)) (h.sy (h.el (hr.nv h)))⟩
  | k+1=>by
    obtain⟨t,r⟩:=U6.AE0 hv hr h hi ih hx k;have p:=h.rp (hr.gN i hi) k;have gi:=hr.gN i hi;refine⟨eM hv (λa b=>aH hv) _,?_⟩;show R (op _ (op (YT op e (g i) k) (g i))) (op (op (YT op e (g i) k) (g i)) _)
    refine h.tr (h.sy (h.ac (hr.nv h) p gi)) (h.tr (h.r gi (h.cl (hr.nv h) p) (h.cl p (hr.nv h)) r) (h.tr (h.ac p (hr.nv h) gi) ?_));exact h.tr (h.l p (h.cl (hr.nv h) gi) (h.cl gi (hr.nv h)) (hr.IN hv h hi ih t)) (h.sy (h.ac p gi (hr.nv h)))
def U6.hom(hv:LK P)(hr:U6 P N op e R g)(h:bI N op e R):∀d l,P.n-l=d->∀a b,T P l a->T P l b->R (PH P op e g l (M P l a b)) (op (PH P op e g l a) (PH P op e g l b))
 |0,l,hd,a,b,_,_=>by rw[PH,PH,PH,hd];exact h.sy (h.el h.ne)
 | d + 1,l,hd,a,b,ha,hb=>by
   have hl:l<P.n:=A0;have ih:=U6.hom hv hr h d (l+1) A0;obtain⟨t1,r1⟩:=hr.AE0 hv h hl ih ha.cut (b l).toNat;have tX:=aH hv t1 hb.cut;have h1:=ha.r l (A1 l) hl;have h2:=hb.r l (A1 l) hl;have gl:=hr.gN l hl;have pA:=h.rp gl (a l).toNat;have pB:=h.rp gl (b l).toNat;have big:R (op (PH P op e g l a) (PH P op e g l b)) (op (YT op e (g l) ((a l).toNat+(b l).toNat)) (PH P op e g (l+1) (M P (l+1) (Go.Proofs.YtgknbnkmilddhaaGreat.IS (Go.Proofs.YtgknbnkmilddhaaGreat.IN P (M P (l+1)) l) (b l).toNat (D0 a l 0)) (D0 b l 0)))):=by
    rw[gY hl (y:=D0 a l 0) λk hk=>(EW A0).symm,gY hl (y:=D0 b l 0) λk hk=>(EW A0).symm];have nA:∀x,N (PH P op e g (l+1) x):=λx=>hr.nv h
    refine h.tr (h.ac pA (nA _) (h.cl pB (nA _))) ?_;have s1:R (op (PH P op e g (l+1) (D0 a l 0)) (op (YT op e (g l) (b l).toNat) (PH P op e g (l+1) (D0 b l 0)))) (op (YT op e (g l) (b l).toNat) (PH P op e g (l+1) (M P (l+1) (Go.Proofs.YtgknbnkmilddhaaGreat.IS (Go.Proofs.YtgknbnkmilddhaaGreat.IN P (M P (l+1)) l) (b l).toNat (D0 a l 0)) (D0 b l 0)))):=by
     refine h.tr (h.sy (h.ac (nA _) pB (nA _))) (h.tr (h.r (nA _) (h.cl (nA _) pB) (h.cl pB (nA _)) r1) (h.tr (h.ac pB (nA _) (nA _)) ?_));exact h.l pB (h.cl (nA _) (nA _)) (nA _) (h.sy (ih _ _ t1 hb.cut))
    refine h.tr (h.l pA (h.cl (nA _) (h.cl pB (nA _))) (h.cl pB (nA _)) s1) (h.tr (h.sy (h.ac pA pB (nA _))) ?_);exact h.r (nA _) (h.cl pA pB) (h.rp gl _) (h.sy (h.add gl _ _))
   rw[YI hl];refine h.tr ?_ (h.sy big);unfold wX;split
   ·rename_i ho;have tp:=hv.pw l hl;rw[gY hl (y:=M P (l+1) (P.pw l) (M P (l+1) (Go.Proofs.YtgknbnkmilddhaaGreat.IS (Go.Proofs.YtgknbnkmilddhaaGreat.IN P (M P (l+1)) l) (b l).toNat (D0 a l 0)) (D0 b l 0))) λk hk=>EW A0,EM];have nA:∀x,N (PH P op e g (l+1) x):=λx=>hr.nv h
    have pC:=h.rp gl (a l+b l-P.o l).toNat;have pO:=h.rp gl (P.o l).toNat;refine h.tr (h.l pC (nA _) (h.cl (nA _) (nA _)) (ih _ _ tp tX)) (h.tr (h.l pC (h.cl (nA _) (nA _)) (h.cl pO (nA _)) (h.r (nA _) (nA _) pO (h.sy (hr.pw l hl)))) (h.tr (h.sy (h.ac pC pO (nA _))) ?_));refine h.r (nA _) (h.cl pC pO) (h.rp gl _) ?_;rw[show(a l).toNat+(b l).toNat=(a l+b l-P.o l).toNat+(P.o l).toNat by have:=hv.o l hl;omega];exact h.sy (h.add gl _ _)
   rw[gY hl (y:=M P (l+1) (Go.Proofs.YtgknbnkmilddhaaGreat.IS (Go.Proofs.YtgknbnkmilddhaaGreat.IN P (M P (l+1)) l) (b l).toNat (D0 a l 0)) (D0 b l 0)) λk hk=>EW A0,EM,show(a l+b l).toNat=(a l).toNat+(b l).toNat by omega];exact h.rf _
def U6.rep(hv:LK P)(hr:U6 P N op e R g)(h:bI N op e R){l x}(hx:T P l x):∀k,T P l (Go.Proofs.YtgknbnkmilddhaaGreat.rep (M P l) x k)/\R (PH P op e g l (Go.Proofs.YtgknbnkmilddhaaGreat.rep (M P l) x k)) (YT op e (PH P op e g l x) k)
 |0=>⟨T.zero hv _,hr.z h⟩
 | k+1=>by
   obtain⟨t,r⟩:=U6.rep hv hr h hx k;exact⟨aH hv t hx,h.tr (hr.hom hv h _ l rfl _ _ t hx) (h.r (hr.nv h) (hr.nv h) (h.rp (hr.nv h) k) r)⟩
def U6.con(hv:LK P)(hr:U6 P N op e R g)(h:bI N op e R)(inj:∀l x y,T P l x->T P l y->R (PH P op e g l x) (PH P op e g l y)->x=y):HN P 0:=by
 intro i _ hi;have gi:=hr.gN i hi;have nA:∀{l x},N (PH P op e g l x):=λ{l x}=>hr.nv h
 have ih:=hr.hom hv h _ (i+1) rfl;have im:=λ{x} hx=>hr.IN hv h hi ih (x:=x) hx
 have tI:∀{x},T P (i+1) (Go.Proofs.YtgknbnkmilddhaaGreat.IN P (M P (i+1)) i x):=λ{x}=>eM hv (λa b=>aH hv) x
 have tp:=hv.pw i hi;refine⟨λj hj lT=>?_,λj k hj hk eA=>?_,?_,λj hj lT=>?_⟩
 ·have tc:=hv.cj i j hj lT;have tpj:T P (i+1) (P.pw j):=(hv.pw j lT).mono hv A0;obtain⟨t1,r1⟩:=hr.rep hv h tc (P.o j).toNat;refine inj (i+1) _ _ t1 tI (h.lc gi nA nA ?_);have gj:=hr.gN j lT;have r2:=h.rpc gj (nA (l:=i+1) (x:=P.cj i j)) gi (hr.cj i j hj lT) (P.o j).toNat;refine h.tr (h.l gi nA (h.rp nA _) r1) (h.tr (h.sy r2) (h.tr (h.r gi (h.rp gj _) nA (hr.pw j lT)) ?_));have up:∀d,i+1+d<=j+1->R (PH P op e g (j+1-d) (P.pw j)) (PH P op e g (j+1) (P.pw j)):=by
   intro d;induction d with
   |zero=>intro _;exact h.rf _
   | succ d id=>
     intro hd;have q:=hr.up h (l:=j+1-(d+1)) (x:=P.pw j) ((hv.pw j lT).mono hv A0);rw[show j+1-(d+1)+1=j+1-d by omega]at q;exact h.tr q (id A0)
  have up1:=up (j-i) A0;rw[show j+1-(j-i)=i+1 by omega]at up1;exact h.tr (h.r gi nA nA (h.sy up1)) (im tpj)
 ·have A6S:j<P.n:=A0;have t1:=hv.cj i j hj A6S;have t2:=hv.cj i k A0 eA;have t3:T P (i+1) (P.cj j k):=(hv.cj j k hk eA).mono hv A0;refine inj (i+1) _ _ (aH hv t2 t1) (aH hv t1 tI) ?_;refine h.tr (ih _ _ t2 t1) (h.tr ?_ (h.sy (ih _ _ t1 tI)));have gj:=hr.gN j A6S;have gk:=hr.gN k eA;refine h.lc gi (h.cl nA nA) (h.cl nA nA) ?_;have s1:R (op (g i) (op (PH P op e g (i+1) (P.cj i k)) (PH P op e g (i+1) (P.cj i j)))) (op (op (g k) (g j)) (g i)):=by
   refine h.tr (h.sy (h.ac gi nA nA)) (h.tr (h.r nA (h.cl gi nA) (h.cl gk gi) (h.sy (hr.cj i k A0 eA))) (h.tr (h.ac gk gi nA) ?_));exact h.tr (h.l gk (h.cl gi nA) (h.cl gj gi) (h.sy (hr.cj i j hj A6S))) (h.sy (h.ac gk gj gi))
  have up:∀d,i+1+d<=j+1->R (PH P op e g (j+1-d) (P.cj j k)) (PH P op e g (j+1) (P.cj j k)):=by
   intro d;induction d with
   |zero=>intro _;exact h.rf _
   | succ d id=>
     intro hd;have q:=hr.up h (l:=j+1-(d+1)) (x:=P.cj j k) ((hv.cj j k hk eA).mono hv A0);rw[show j+1-(d+1)+1=j+1-d by omega]at q;exact h.tr q (id A0)
  have up1:=up (j-i) A0;rw[show j+1-(j-i)=i+1 by omega]at up1;refine h.tr s1 (h.tr (h.r gi (h.cl gk gj) (h.cl gj nA) (hr.cj j k hk eA)) ?_);refine h.tr (h.ac gj nA gi) (h.tr (h.l gj (h.cl nA gi) (h.cl gi nA) (h.tr (h.r gi nA nA (h.sy up1)) (im t3))) ?_);refine h.tr (h.sy (h.ac gj gi nA)) (h.tr (h.r nA (h.cl gj gi) (h.cl gi nA) (hr.cj i j hj A6S)) (h.ac gi nA nA))
 ·refine inj (i+1) _ _ tI tp (h.lc gi nA nA ?_);refine h.tr (h.sy (im tp)) ?_;have p:=h.rp gi (P.o i).toNat;refine h.tr (h.r gi nA p (h.sy (hr.pw i hi))) ?_;have q1:R (op (YT op e (g i) (P.o i).toNat) (g i)) (op (g i) (YT op e (g i) (P.o i).toNat)):=h.rpc gi gi gi (h.rf _) _;exact h.tr q1 (h.l gi p nA (hr.pw i hi))
 have tu:T P (i+1) (Go.Proofs.YtgknbnkmilddhaaGreat.un j):=O9 hv A0 lT;obtain⟨t1,r1⟩:=hr.AE0 hv h hi ih tu (P.o i).toNat;refine inj (i+1) _ _ (aH hv tp t1) (aH hv tu tp) ?_;have p:=h.rp gi (P.o i).toNat;refine h.tr (ih _ _ tp t1) (h.tr ?_ (h.sy (ih _ _ tu tp)));refine h.tr (h.r nA nA p (h.sy (hr.pw i hi))) (h.tr (h.sy r1) (h.l nA p nA (hr.pw i hi)))
end
end
section
def RA(P:Pc)(S:V->Prop)(l:List V):Prop:=∃dn,uH P S dn/\l=LW dn P.n
def GL(P:Pc)(us:List V):V->Prop:=Dk (T P 0) (M P 0) (λv=>v∈us)
def GL.le{P us A}(hA:NO (T P 0) (M P 0) A)(h:∀u∈us,A u){x}(hx:GL P us x):A x:=hx A hA h
def GL.of{P us u}(h:u∈us):GL P us u:=λA hA hu=>hu u h
def UI{dn n y}:y∈LW dn n↔∃d,d<n/\dn d=some y:=by
 unfold LW;rw[IG];exact⟨λ⟨d,h1,h2⟩=>⟨d,B3.1 h1,h2⟩,λ⟨d,h1,h2⟩=>⟨d,B3.2 h1,h2⟩⟩
def A1W{dn Dl n}(h:∀d,d<n->dn d≠none->Dl d≠none):∀k,k<=n->(LW dn k).length<=(LW Dl k).length/\((LW dn k).length=(LW Dl k).length->∀d,d<k->Dl d≠none->dn d≠none):=by
 intro k;induction k with
 |zero=>intro _;exact⟨A1 _,λ_ d hd=>A0⟩
 | succ k ih=>
   intro hk;obtain⟨i1,i2⟩:=ih A0;have Oh:=h k A0;cases h1:dn k with
   |none=>
    rw[MZ h1];cases h2:Dl k with
    | none=>
      rw[MZ h2];refine⟨i1,λe d hd=>?_⟩;rcases BL d k with q|q
      ·exact i2 e d q
      obtain rfl:d=k:=A0;rw[h2];exact λq=>absurd rfl q
    | some z=>
      rw[O3 h2,AH];exact⟨A0,λe=>by simp at e;omega⟩
   |some y=>
    rw[h1]at Oh;cases h2:Dl k with
    |none=>exact absurd h2 (Oh B5)
    | some z=>
      rw[O3 h1,O3 h2,AH,AH];refine⟨by simp;omega,λe d hd=>?_⟩;rcases BL d k with q|q
      ·exact i2 (by simp at e;omega) d q
      obtain rfl:d=k:=A0;rw[h1];exact λ_=>B5
section
variable{P:Pc}(hv:LK P)(hc:HN P 0)
include hv hc
theorem oM:NO (T P 0) (M P 0) (T P 0):=(lvl hv hc).wZ 0
theorem A1X{S A}(hS:NO (T P 0) (M P 0) S)(hA:NO (T P 0) (M P 0) A)(key:∀d,d<P.n->∀x,S x->T P d x->x d≠0->∃z,A z/\S z/\T P d z/\z d=1):∀x,S x->A x:=by
 have l:=lvl hv hc;have go:∀f,f<=P.n->∀x,S x->T P (P.n-f) x->A x:=by
  intro f;induction f with
  |zero=>intro _ x _ hx;rw[jK x hx];exact hA.e
  | succ f ih=>
    intro hf x hx hT;have e:P.n-f=P.n-(f+1)+1:=A0;by_cases h0:x (P.n-(f+1))=0
    ·exact ih A0 x hx (by rw[e];exact l.up hT h0)
    obtain⟨z,z1,z2,z3,z4⟩:=key _ A0 x hx hT h0;obtain⟨u,u1,u2,u3,u4⟩:=cJ hv hc _ z x A0 z3 z4 (hS.n hx);have hm:S (M P 0 x u):=hS.mu hx (u1 S hS z2);have hmT:T P (P.n-(f+1)) (M P 0 x u):=(l.g _).cl hT u2;have hz:M P 0 x u (P.n-(f+1))=0:=by rw[l.lead A0 hT u2,u4]
    have:=ih A0 _ hm (by rw[e];exact l.up hmT hz);exact hA.r (l.g 0) (u1 A hA z1) (hS.n hx) this
 intro x hx;exact go P.n (A1 _) x hx (by rw[CM];exact hS.n hx)
theorem RA.uniq{S l l'}(hS:NO (T P 0) (M P 0) S)(h:RA P S l)(h':RA P S l'):l=l':=by
 obtain⟨dn,h1,rfl⟩:=h;obtain⟨Dl,h2,rfl⟩:=h';exact uI λd hd=>uH.uniq hv hc hS h1 h2 hd
theorem RA.gen{S l}(hS:NO (T P 0) (M P 0) S)(h:RA P S l):S=GL P l:=by
 obtain⟨dn,h1,rfl⟩:=h;funext x
 refine propext ⟨λhx A hA hu=>?_,λhx=>hx S hS (λu hu=>?_)⟩
 ·refine A1X hv hc hS hA (λd hd x hx hT h0=>?_) x hx;cases hz:dn d with
  |none=>exact absurd ⟨x,hx,hT,h0⟩ (h1.no d hd hz)
  | some z=>
    obtain⟨_,a1,a2,a3,_⟩:=h1.el d z hz;exact⟨z,hu z (UI.2 ⟨d,hd,hz⟩),a1,a2,a3⟩
 obtain⟨d,hd,hz⟩:=UI.1 hu;exact(h1.el d u hz).2.1
omit hv hc in
theorem RA.len{S l}(h:RA P S l):l.length<=P.n:=by
 obtain⟨dn,h1,rfl⟩:=h;exact uA
omit hv hc in
theorem RA.S{S l}(h:RA P S l){u}(hu:u∈l):S u:=by
 obtain⟨dn,h1,rfl⟩:=h;obtain⟨d,hd,hz⟩:=UI.1 hu;exact(h1.el d u hz).2.1
omit hv hc in
theorem RA.at{S l}(h:RA P S l){u}(hu:u∈l):O1 P.n u<P.n/\T P (O1 P.n u) u/\u (O1 P.n u)=1:=by
 obtain⟨dn,h1,rfl⟩:=h;obtain⟨d,hd,hz⟩:=UI.1 hu;obtain⟨_,a1,a2,a3,_⟩:=h1.el d u hz;rw[uK (P:=P) hd a2 a3];exact⟨hd,a2,a3⟩
theorem RA.cmp{S S' l l'}(hS:NO (T P 0) (M P 0) S)(hS':NO (T P 0) (M P 0) S')(h:RA P S l)(h':RA P S' l')(hs:∀x,S x->S' x):l.length<=l'.length/\(l.length=l'.length->S=S'):=by
 obtain⟨dn,h1,rfl⟩:=h;obtain⟨Dl,h2,rfl⟩:=h';have hd:∀d,d<P.n->dn d≠none->Dl d≠none:=λd hd hz hz'=>by
   cases hq:dn d with
   |none=>exact hz hq
   | some z=>
     obtain⟨_,a1,a2,a3,_⟩:=h1.el d z hq;exact h2.no d hd hz' ⟨z,hs z a1,a2,by rw[a3];omega⟩
 obtain⟨c1,c2⟩:=A1W hd P.n (A1 _);refine⟨c1,λe=>funext λx=>propext ⟨hs x,λhx=>?_⟩⟩;refine A1X hv hc hS' hS (λd hd x hx hT h0=>?_) x hx;have Ki:Dl d≠none:=λhz=>h2.no d hd hz ⟨x,hx,hT,h0⟩
 have hdd:=c2 e d hd Ki;cases hz:dn d with
 |none=>exact absurd hz hdd
 | some z=>
   obtain⟨_,a1,a2,a3,_⟩:=h1.el d z hz;exact⟨z,a1,hs z a1,a2,a3⟩
theorem A6T{x}(hx:T P 0 x):∃k,M P 0 (rep (M P 0) x k) x=z0:=by
 have l:=lvl hv hc;have g:=l.g 0;have go :∀f,f<=P.n->∀x,T P (P.n-f) x->∃k,rep (M P 0) x (k+1)=z0:=by
  intro f;induction f with
  |zero=>intro _ x hx;exact⟨0,by rw[jK x hx];exact g.iZ g.e0⟩
  | succ f ih=>
    intro hf x hx;obtain⟨q1,q2⟩:=N0 hv (show P.n-(f+1)<P.n by omega) hx (P.o (P.n-(f+1))).toNat;have ho:=hv.o (P.n-(f+1)) A0;have hz:rep (M P 0) x (P.o (P.n-(f+1))).toNat (P.n-(f+1))=0:=by
     rw[q2,BG A0,KB]
    obtain⟨k,hk⟩:=ih A0 _ (by rw[show P.n-f=P.n-(f+1)+1 by omega];exact l.up q1 hz);have cH:=hx.mono hv (AE _);have hm:∀j,rep (M P 0) (rep (M P 0) x (P.o (P.n-(f+1))).toNat) j=rep (M P 0) x ((P.o (P.n-(f+1))).toNat*j):=by
     intro j;induction j with
     |zero=>rfl
     | succ j ihj=>
       show M P 0 (rep (M P 0) (rep (M P 0) x (P.o (P.n-(f+1))).toNat) j) _=_
       rw[ihj,<-g.OJ cH];rfl
    rw[hm]at hk;obtain⟨w,hw⟩:∃w,(P.o (P.n-(f+1))).toNat*(k+1)=w+1:=by
     have:1*1<=(P.o (P.n-(f+1))).toNat*(k+1):=CY A0 A0;exact⟨_,(Nat.sub_add_cancel A0).symm⟩
    exact⟨w,by rw[<-hw];exact hk⟩
 obtain⟨k,hk⟩:=go P.n (A1 _) x (by rw[CM];exact hx);exact⟨k,hk⟩
end
noncomputable def PI(P:Pc)(a b:V):V:=M P 0 (inv P 0 b) (M P 0 a b)
def NG(P:Pc)(us bs:List V)(x:V):Prop:=∀A,NO (T P 0) (M P 0) A->(∀u∈us,A u)->(∀a b,A a->b∈bs->A (PI P a b))->A x
def fC(P:Pc)(S:V->Prop)(b:V):Prop:=∀a,S a->S (PI P a b)
section
variable{P:Pc}(hv:LK P)(hc:HN P 0)
include hv hc
theorem MB{a b}(ha:T P 0 a)(hb:T P 0 b):T P 0 (PI P a b)/\M P 0 b (PI P a b)=M P 0 a b:=by
 have g:=CS hv hc;obtain⟨i1,i2⟩:=KJ g hb;have h1:=g.cl i1 (g.cl ha hb);exact⟨h1,((XD g ha hb h1).1 rfl).symm⟩
theorem Bk{a b c}(ha:T P 0 a)(hb:T P 0 b)(Ya:T P 0 c)(h:M P 0 b c=M P 0 a b):PI P a b=c:=by
 have g:=CS hv hc;exact(XD g ha hb Ya).2 h.symm
theorem Qu{a a' b}(ha:T P 0 a)(dY:T P 0 a')(hb:T P 0 b):PI P (M P 0 a a') b=M P 0 (PI P a b) (PI P a' b):=by
 have g:=CS hv hc;obtain⟨c1,c2⟩:=MB hv hc ha hb;obtain⟨d1,d2⟩:=MB hv hc dY hb;refine Bk hv hc (g.cl ha dY) hb (g.cl c1 d1) ?_;rw[<-g.ac hb c1 d1,c2,g.ac ha hb d1,d2,g.ac ha dY hb]
theorem A9M{b}(hb:T P 0 b):PI P z0 b=z0:=by
 have g:=CS hv hc;exact Bk hv hc g.e0 hb g.e0 (by rw[g.r1 hb,g.l1 hb])
theorem AE1{a}(ha:T P 0 a):PI P a z0=a:=by
 have g:=CS hv hc;exact Bk hv hc ha g.e0 ha (by rw[g.r1 ha,g.l1 ha])
theorem AE2{a b c}(ha:T P 0 a)(hb:T P 0 b)(Ya:T P 0 c):PI P a (M P 0 b c)=PI P (PI P a b) c:=by
 have g:=CS hv hc;obtain⟨c1,c2⟩:=MB hv hc ha hb;obtain⟨d1,d2⟩:=MB hv hc c1 Ya;refine Bk hv hc ha (g.cl hb Ya) d1 ?_;rw[g.ac hb Ya d1,d2,<-g.ac hb c1 Ya,c2,g.ac ha hb Ya]
theorem AE3{S}(hS:NO (T P 0) (M P 0) S){b}(hb:T P 0 b):NO (T P 0) (M P 0) (λa=>T P 0 a/\S (PI P a b)):=by
 have g:=CS hv hc;refine⟨λh=>h.1,⟨g.e0,by rw[A9M hv hc hb];exact hS.e⟩,λ⟨h1,h2⟩ ⟨h3,h4⟩=>⟨g.cl h1 h3,by rw[Qu hv hc h1 h3 hb];exact hS.mu h2 h4⟩,λ{a a'} ⟨h1,h2⟩ h3 h4=>⟨h3,?_⟩⟩;refine hS.iv h2 (MB hv hc h3 hb).1 ?_;rw[<-Qu hv hc h1 h3 hb,h4,A9M hv hc hb]
theorem fC.of{S}(hS:NO (T P 0) (M P 0) S){us}(hu:S=GL P us){b}(hb:T P 0 b)(h:∀u∈us,S (PI P u b)):fC P S b:=by
 intro a ha;have dY:GL P us a:=by rw[<-hu];exact ha
 exact(dY _ (AE3 hv hc hS hb) (λu jI=>⟨hS.n (by rw[hu];exact GL.of jI),h u jI⟩)).2
theorem fC.wZ{S}(hS:NO (T P 0) (M P 0) S):NO (T P 0) (M P 0) (λb=>T P 0 b/\fC P S b):=by
 have g:=CS hv hc;have mu:∀{b c:V},T P 0 b/\fC P S b->T P 0 c/\fC P S c->T P 0 (M P 0 b c)/\fC P S (M P 0 b c):=λ{b c} ⟨h1,h2⟩ ⟨h3,h4⟩=>⟨g.cl h1 h3,λa ha=>by rw[AE2 hv hc (hS.n ha) h1 h3];exact h4 _ (h2 a ha)⟩
 have e:T P 0 z0/\fC P S z0:=⟨g.e0,λa ha=>by rw[AE1 hv hc (hS.n ha)];exact ha⟩;refine⟨λh=>h.1,e,mu,λ{b b'} h h3 h4=>?_⟩;obtain⟨k,hk⟩:=A6T hv hc h.1;have hr:∀j,T P 0 (rep (M P 0) b j)/\fC P S (rep (M P 0) b j):=by
  intro j;induction j with
  |zero=>exact e
  |succ j ih=>exact mu ih h
 have:b'=rep (M P 0) b k:=by
  obtain⟨w,w1,w2,w3⟩:=g.iv h.1;have e1:b'=w:=g.lc h.1 h3 w1 (by rw[h4,w3]);rw[e1];exact g.rc h.1 w1 (g.rep h.1 k) (by rw[w2,hk])
 rw[this];exact hr k
theorem fC.all{S}(hS:NO (T P 0) (M P 0) S){bs}(hb:∀b∈bs,T P 0 b/\fC P S b){b}(h:GL P bs b):fC P S b:=(h _ (fC.wZ hv hc hS) hb).2
theorem NG.wZ{us bs}(hu:∀u∈us,T P 0 u)(hb:∀b∈bs,T P 0 b):NO (T P 0) (M P 0) (NG P us bs):=by
 refine⟨λh=>h _ (oM hv hc) hu (λa b ha Q5=>(MB hv hc ha (hb b Q5)).1),λA hA _ _=>hA.e,λh1 h2 A hA q1 q2=>hA.mu (h1 A hA q1 q2) (h2 A hA q1 q2),λh1 h2 h3 A hA q1 q2=>hA.iv (h1 A hA q1 q2) h2 h3⟩
omit hv hc in
theorem NG.cj{us bs b}(hb:b∈bs):fC P (NG P us bs) b:=λa ha A hA q1 q2=>q2 a b (ha A hA q1 q2) hb
omit hv hc in
theorem NG.of{us bs u}(h:u∈us):NG P us bs u:=λA hA q1 _=>q1 u h
omit hv hc in
theorem NG.eq{us bs S}(hS:NO (T P 0) (M P 0) S)(h1:∀u∈us,S u)(h2:∀b∈bs,fC P S b)(h3:∀x,S x->NG P us bs x):S=NG P us bs:=
 funext λx=>propext ⟨h3 x,λh=>h S hS h1 (λa b ha hb=>h2 b hb a ha)⟩
omit hv hc in
theorem NG.same{us us' bs}(h1:∀u∈us,NG P us' bs u)(h2:∀u∈us',NG P us bs u):NG P us bs=NG P us' bs:=
 funext λx=>propext ⟨λh A hA q1 q2=>h A hA (λu hu=>h1 u hu A hA q1 q2) q2,λh A hA q1 q2=>h A hA (λu hu=>h2 u hu A hA q1 q2) q2⟩
end
noncomputable def Dr(P:Pc)(us bs:List V):List V:=bs.flatMap λb=>us.map λa=>PI P a b
def rB{P us bs x}:x∈Dr P us bs↔∃b∈bs,∃a∈us,PI P a b=x:=by
 unfold Dr;rw[DM];exact⟨λ⟨b,h1,h2⟩=>⟨b,h1,by obtain⟨a,h3,h4⟩:=AQ.1 h2;exact⟨a,h3,h4⟩⟩,λ⟨b,h1,a,h3,h4⟩=>⟨b,h1,AQ.2 ⟨a,h3,h4⟩⟩⟩
noncomputable def stF(P:Pc)(bs:List V):Nat->List V->List V
 |0,us=>us
 |f+1,us=>if (TK P (us++Dr P us bs)).length=us.length then TK P (us++Dr P us bs)else stF P bs f (TK P (us++Dr P us bs))
section
variable{P:Pc}(hv:LK P)(hc:HN P 0)(hp:∀d,d<P.n->O8 (P.o d))
include hv hc hp
theorem WM{us}(hu:∀x∈us,T P 0 x):NO (T P 0) (M P 0) (GL P us):=Qd hv hc hp hu
theorem mT{us}(hu:∀x∈us,T P 0 x):RA P (GL P us) (TK P us):=⟨_,Pz hv hc hp hu,rfl⟩
theorem Qv{us}(hu:∀x∈us,T P 0 x):∀x∈TK P us,T P 0 x:=λx hx=>(WM hv hc hp hu).n ((mT hv hc hp hu).S hx)
theorem AE4{bs}(hb:∀b∈bs,T P 0 b):∀f us,(∀x∈us,T P 0 x)->RA P (GL P us) us->P.n<us.length+f->RA P (NG P us bs) (stF P bs f us):=by
 intro f;induction f with
 |zero=>intro us hu h hl;have:=h.len;omega
 | succ f ih=>
   intro us hu h hl;rw[stF];have hL:∀x∈us++Dr P us bs,T P 0 x:=λx hx=>by
    rcases AG.1 hx with q|q
    ·exact hu x q
    obtain⟨b,h1,a,h2,rfl⟩:=rB.1 q;exact(MB hv hc (hu a h2) (hb b h1)).1
   have cn:=mT hv hc hp hL;have s1:=WM hv hc hp hu;have s2:=WM hv hc hp hL;have fS:∀x,GL P us x->GL P (us++Dr P us bs) x:=λx hx=>hx.le s2 (λu hu=>GL.of (AG.2 (.inl hu)))
   obtain⟨c1,c2⟩:=RA.cmp hv hc s1 s2 h cn fS;have dC:∀u∈us++Dr P us bs,NG P us bs u:=λu hq=>by
    rcases AG.1 hq with q|q
    ·exact NG.of q
    obtain⟨b,h1,a,h2,rfl⟩:=rB.1 q;exact NG.cj h1 a (NG.of h2)
   split
   ·rename_i he;have e:=c2 he.symm;have:GL P us=NG P us bs:=by
     refine NG.eq s1 (λu hu=>GL.of hu) (λb Q5=>?_) (λx hx=>hx.le (NG.wZ hv hc hu hb) (λu hu=>NG.of hu));refine fC.of hv hc s1 rfl (hb b Q5) (λu jI=>?_);rw[e];exact GL.of (AG.2 (.inr (rB.2 ⟨b,Q5,u,jI,rfl⟩)))
    rw[<-this,e];exact cn
   rename_i he;have hT:=Qv hv hc hp hL;have e:=RA.gen hv hc s2 cn;have cn2:=cn;rw[e]at cn2;have:=ih _ hT cn2 A0;rw[NG.same (us:=us) (us':=TK P (us++Dr P us bs)) (bs:=bs)]
   ·exact this
   ·intro u jI;have h3:GL P (TK P (us++Dr P us bs)) u:=by rw[<-e];exact GL.of (AG.2 (.inl jI))
    exact h3.le (NG.wZ hv hc hT hb) (λv Vt=>NG.of Vt)
   intro u jI;exact(cn.S jI).le (NG.wZ hv hc hu hb) dC
end
end
section
def IT(n:Nat):List V:=(List.range n).map un
def U7{n}:(IT n).length=n:=by simp[IT]
def rC{n k}(h:k<n):(IT n).getD k z0=un k:=by simp[IT,h]
def Lu(P:Pc)(N:V->Prop)(x y:V):Prop:=∃c,N c/\M P 0 (M P 0 y x) c=M P 0 x y
section
variable{P:Pc}(hv:LK P)(hc:HN P 0)
include hv hc
theorem mU{x y}(hx:T P 0 x)(hy:T P 0 y):T P 0 (mL P x y)/\M P 0 (M P 0 y x) (mL P x y)=M P 0 x y:=by
 have g:=CS hv hc;obtain⟨i1,i2⟩:=KJ g hx;obtain⟨j1,j2⟩:=KJ g hy;have h1:=g.cl hx hy;have h2:=g.cl j1 h1;refine⟨g.cl i1 h2,?_⟩;unfold mL;rw[g.ac hy hx (g.cl i1 h2),<-g.ac hx i1 h2,i2,g.l1 h2,<-g.ac hy j1 h1,j2,g.l1 h1]
omit hc in
theorem ZC{j}(hj:j<P.n):T P j (un j)/\un j j=1:=by
 refine⟨⟨λk hk=>?_,λk h1 h2=>?_,λk hk=>?_⟩,by simp[un,D0]⟩
 ·have:k≠j:=A0;simp[un,D0,z0,this]
 ·have ho:=hv.o k h2;by_cases e:k=j
  ·subst e;simp[un,D0];omega
  simp[un,D0,z0,e];omega
 have:k≠j:=A0;simp[un,D0,z0,this]
omit hc in
theorem XS:∀x∈IT P.n,T P 0 x:=by
 intro x hx;unfold IT at hx;obtain⟨j,hj,rfl⟩:=AQ.1 hx;exact(ZC hv (B3.1 hj)).1.mono hv (AE j)
omit hc in
theorem A1Y:RA P (T P 0) (IT P.n):=by
 refine⟨λd=>if d<P.n then some (un d)else none,⟨λd z hz=>?_,λd hd hz=>?_⟩,?_⟩
 ·split at hz
  · rename_i hd;cases hz;obtain⟨a1,a2⟩:=ZC hv hd;refine⟨hd,a1.mono hv (AE d),a1,a2,λe h1 h2 _=>?_⟩;have:e≠d:=A0;simp[un,D0,z0,this]
  cases hz
 ·simp[hd]at hz
 have:∀k,k<=P.n->(List.range k).map un=LW (λd=>if d<P.n then some (un d)else none) k:=by
  intro k;induction k with
  |zero=>intro _;rfl
  |succ k ih=>intro hk;rw[O3 (y:=un k) (by simp;omega),<-ih A0,CX,AZ];rfl
 exact this P.n (A1 _)
theorem jY:T P 0=GL P (IT P.n):=RA.gen hv hc (oM hv hc) (A1Y hv)
theorem AE5{S}(hS:NO (T P 0) (M P 0) S)(h:∀b∈IT P.n,fC P S b){b}(hb:T P 0 b):fC P S b:=
 fC.all hv hc hS (bs:=IT P.n) (λb Q5=>⟨XS hv b Q5,h b Q5⟩) (by rw[<-jY hv hc];exact hb)
section
variable{N:V->Prop}(hN:NO (T P 0) (M P 0) N)
include hN
theorem Lu.sy{x y}(hx:T P 0 x)(hy:T P 0 y)(h:Lu P N x y):Lu P N y x:=by
 have g:=CS hv hc;obtain⟨c,c1,c2⟩:=h;obtain⟨w,w1,w2,w3⟩:=g.iv (hN.n c1);refine⟨w,hN.iv c1 w1 w3,?_⟩;rw[<-c2,g.ac (g.cl hy hx) (hN.n c1) w1,w3,g.r1 (g.cl hy hx)]
theorem Lu.wZ(hn:∀b,T P 0 b->fC P N b){u}(hu:T P 0 u):NO (T P 0) (M P 0) (λa=>T P 0 a/\Lu P N u a):=by
  have g:=CS hv hc;refine⟨λh=>h.1,⟨g.e0,z0,hN.e,by rw[g.l1 hu,g.r1 hu]⟩,?_,?_⟩
  · rintro a b ⟨ha,c,c1,c2⟩ ⟨hb,d,d1,d2⟩;have c3:=hN.n c1;have d3:=hN.n d1;obtain⟨e1,e2⟩:=MB hv hc c3 hb;refine⟨g.cl ha hb,M P 0 d (PI P c b),hN.mu d1 (hn b hb c c1),?_⟩;have hau:=g.cl ha hu
    calc M P 0 (M P 0 (M P 0 a b) u) (M P 0 d (PI P c b))
        =M P 0 (M P 0 a (M P 0 b u)) (M P 0 d (PI P c b)):=by rw[g.ac ha hb hu]
      _=M P 0 a (M P 0 (M P 0 b u) (M P 0 d (PI P c b))):=by rw[g.ac ha (g.cl hb hu) (g.cl d3 e1)]
      _=M P 0 a (M P 0 (M P 0 u b) (PI P c b)):=by rw[<-g.ac (g.cl hb hu) d3 e1,d2]
      _=M P 0 a (M P 0 u (M P 0 c b)):=by rw[g.ac hu hb e1,e2]
      _=M P 0 (M P 0 (M P 0 a u) c) b:=by rw[<-g.ac ha hu (g.cl c3 hb),<-g.ac hau c3 hb]
      _=M P 0 u (M P 0 a b):=by rw[c2,g.ac hu ha hb]
  rintro a b ⟨ha,c,c1,c2⟩ hb h0;have c3:=hN.n c1;obtain⟨e1,e2⟩:=MB hv hc c3 hb;have e3:=hn b hb c c1;have hba:M P 0 b a=z0:=by
    obtain⟨w,w1,w2,w3⟩:=g.iv ha;have:b=w:=g.lc ha hb w1 (by rw[h0,w3]);rw[this,w2]
  have h1:M P 0 b u=M P 0 (M P 0 u b) (PI P c b):=by
    have h2:M P 0 (M P 0 b u) a=M P 0 u c:=by
      rw[g.ac hb hu ha,<-c2,<-g.ac hb (g.cl ha hu) c3,<-g.ac hb ha hu,hba,g.l1 hu]
    have h3:=congrArg (λz=>M P 0 z b) h2;rw[g.ac (g.cl hb hu) ha hb,h0,g.r1 (g.cl hb hu),g.ac hu c3 hb,<-e2,<-g.ac hu hb e1]at h3;exact h3
  obtain⟨w,w1,w2,w3⟩:=g.iv e1;refine⟨hb,w,hN.iv e3 w1 w3,?_⟩;rw[h1,g.ac (g.cl hu hb) e1 w1,w3,g.r1 (g.cl hu hb)]
theorem Lu.all(hn:∀b,T P 0 b->fC P N b){us vs}(Xh:∀x∈us,T P 0 x)(hvs:∀x∈vs,T P 0 x)(h:∀x∈us,∀y∈vs,Lu P N x y){a b}(ha:GL P us a)(hb:GL P vs b):Lu P N a b:=by
 have h1:∀x∈us,T P 0 b/\Lu P N x b:=λx hx=>hb _ (Lu.wZ hv hc hN hn (Xh x hx)) (λy hy=>⟨hvs y hy,h x hx y hy⟩)
 have hbT:=hb _ (oM hv hc) hvs;obtain⟨h2,h3⟩:=ha _ (Lu.wZ hv hc hN hn hbT) (λx hx=>⟨Xh x hx,Lu.sy hv hc hN (Xh x hx) hbT (h1 x hx).2⟩);exact Lu.sy hv hc hN hbT h2 h3
end
end
noncomputable def Ga(P:Pc)(us vs:List V):List V:=us.flatMap λx=>vs.map λy=>mL P x y
def jZ{P us vs z}:z∈Ga P us vs↔∃x∈us,∃y∈vs,mL P x y=z:=by
 unfold Ga;rw[DM];exact⟨λ⟨x,h1,h2⟩=>⟨x,h1,by obtain⟨y,h3,h4⟩:=AQ.1 h2;exact⟨y,h3,h4⟩⟩,λ⟨x,h1,y,h3,h4⟩=>⟨x,h1,AQ.2 ⟨y,h3,h4⟩⟩⟩
noncomputable def ccL(P:Pc)(us bs:List V):List V:=stF P bs (P.n+1) (TK P us)
noncomputable def QK(P:Pc)(us vs:List V):List V:=ccL P (Ga P us vs) (us++vs)
section
variable{P:Pc}(hv:LK P)(hc:HN P 0)(hp:∀d,d<P.n->O8 (P.o d))
include hv hc hp
theorem A1Z{us bs}(hu:∀x∈us,T P 0 x)(hb:∀b∈bs,T P 0 b):RA P (NG P us bs) (ccL P us bs):=by
 have cn:=mT hv hc hp hu;have s1:=WM hv hc hp hu;have e:=RA.gen hv hc s1 cn;have hT:=Qv hv hc hp hu;have cn2:=cn;rw[e]at cn2;have:=AE4 hv hc hp hb (P.n+1) (TK P us) hT cn2 A0;rw[NG.same (us:=us) (us':=TK P us) (bs:=bs)]
 ·exact this
 ·intro u jI;have h3:GL P (TK P us) u:=by rw[<-e];exact GL.of jI
  exact h3.le (NG.wZ hv hc hT hb) (λv Vt=>NG.of Vt)
 intro u jI;exact(cn.S jI).le (NG.wZ hv hc hu hb) (λv Vt=>NG.of Vt)
omit hp in
theorem yX{us vs}(hu:∀x∈us,T P 0 x)(hw:∀x∈vs,T P 0 x):∀z∈Ga P us vs,T P 0 z:=by
 intro z hz;obtain⟨x,hx,y,hy,rfl⟩:=jZ.1 hz;exact(mU hv hc (hu x hx) (hw y hy)).1
omit hv hc hp in
theorem uR{us vs:List V}(hu:∀x∈us,T P 0 x)(hw:∀x∈vs,T P 0 x):∀z∈us++vs,T P 0 z:=λz hz=>by
 rcases AG.1 hz with q|q
 ·exact hu z q
 exact hw z q
theorem Bl{us vs}(hu:∀x∈us,T P 0 x)(hw:∀x∈vs,T P 0 x):RA P (NG P (Ga P us vs) (us++vs)) (QK P us vs):=
 A1Z hv hc hp (yX hv hc hu hw) (uR hu hw)
theorem A9N{us vs}(hu:∀x∈us,T P 0 x)(hw:∀x∈vs,T P 0 x):∀z∈QK P us vs,T P 0 z:=
 λz hz=>(NG.wZ hv hc (yX hv hc hu hw) (uR hu hw)).n ((Bl hv hc hp hu hw).S hz)
def ExP(P:Pc)(us:List V):Prop:=(∀x∈us,T P 0 x)/\RA P (GL P us) us/\∀b,T P 0 b->fC P (GL P us) b
omit hp in
theorem ExP.first:ExP P (IT P.n):=by
 refine⟨XS hv,?_,?_⟩
 ·rw[<-jY hv hc];exact A1Y hv
 rw[<-jY hv hc];exact λb hb a ha=>(MB hv hc ha hb).1
end
end
section
def tbU(n:Nat)(u:List V):Nat->Nat->Option V
 |0=>λ_=>none
 |k+1=>oset (tbU n u k) (O1 n (u.getD k z0)) (u.getD k z0)
def Gb{n u d z}:∀k,k<=u.length->tbU n u k d=some z->z∈u/\O1 n z=d:=by
 intro k;induction k with
 |zero=>intro _ h;cases h
 | succ k ih=>
   intro hk h;rw[tbU]at h;unfold oset at h;split at h
   ·rename_i e;cases h;exact⟨by rw[A5,A9 (show k<u.length by omega)];exact BK _,e.symm⟩
   exact ih A0 h
def Qw{n u d}:∀k,k<=u.length->(∃i,i<k/\O1 n (u.getD i z0)=d)->tbU n u k d≠none:=by
 intro k;induction k with
 |zero=>intro _ ⟨i,hi,_⟩;omega
 | succ k ih=>
   intro hk ⟨i,hi,he⟩;rw[tbU];unfold oset;split
   ·simp
   rename_i CP;refine ih A0 ⟨i,?_,he⟩;rcases BL i k with q|q
   ·exact q
   obtain rfl:i=k:=A0;exact absurd he.symm CP
def WN(n:Nat)(u:List V):Nat->Option V:=tbU n u u.length
def k5{P S u}(h:RA P S u):uH P S (WN P.n u)/\u=LW (WN P.n u) P.n:=by
 obtain⟨dn,h1,h2⟩:=h;have hd:∀d z,dn d=some z->O1 P.n z=d:=λd z hz=>by
  obtain⟨a1,_,a2,a3,_⟩:=h1.el d z hz;exact uK (P:=P) a1 a2 a3
 have e:WN P.n u=dn:=by
  funext d
  cases hz:WN P.n u d with
  |none=>
   cases hw:dn d with
   |none=>rfl
   | some w=>
     have cB:=(h1.el d w hw).1;have hm:w∈u:=by rw[h2];exact UI.2 ⟨d,cB,hw⟩
     obtain⟨i,hi,e⟩:=GX hm;refine absurd hz (Qw u.length (A1 _) ⟨i,hi,?_⟩);rw[A5,A9 hi];show O1 P.n u[i]=d
     rw[e];exact hd d w hw
  |some z=>
   obtain⟨hm,hl⟩:=Gb u.length (A1 _) hz;rw[h2]at hm;obtain⟨d',Ki,hz'⟩:=UI.1 hm;have:=hd d' z hz';rw[hl]at this;subst this;exact hz'.symm
 rw[e];exact⟨h1,h2⟩
section
variable{P:Pc}(hv:LK P)(hc:HN P 0)
include hv hc
theorem Bm{rd}(rk:∀e w x,e<P.n->T P e w->w e=1->T P 0 x->∃u,Cy (T P 0) (M P 0) w u/\T P e u/\rd e w x=M P 0 x u/\(x e+u e)%P.o e=0){S}(hS:NO (T P 0) (M P 0) S){dn}(hd:∀e w,dn e=some w->e<P.n/\S w/\T P e w/\w e=1):∀f e x,T P 0 x->∃s,S s/\oJ rd dn f e x=M P 0 x s:=by
 have g:=CS hv hc;intro f;induction f with
 |zero=>intro e x hx;exact⟨z0,hS.e,(g.r1 hx).symm⟩
 | succ f ih=>
   intro e x hx;rw[oJ];cases hw:dn e with
   |none=>exact ih (e+1) x hx
   | some w=>
     obtain⟨w0,w1,w2,w3⟩:=hd e w hw;dsimp only;by_cases h0:x e=0
     ·rw[if_pos h0];exact ih (e+1) x hx
     rw[if_neg h0];obtain⟨v,u1,u2,u3,u4⟩:=rk e w x w0 w2 w3 hx;have hvS:=u1 S hS w1;rw[u3];obtain⟨s,s1,s2⟩:=ih (e+1) (M P 0 x v) (g.cl hx (hS.n hvS));exact⟨M P 0 v s,hS.mu hvS s1,by rw[s2,g.ac hx (hS.n hvS) (hS.n s1)]⟩
theorem uS{S}(hS:NO (T P 0) (M P 0) S){dn}(h:uH P S dn){r s}(hr:T P 0 r)(hs:S s)(h1:∀k,k<P.n->dn k≠none->r k=0)(h2:∀k,k<P.n->dn k≠none->M P 0 r s k=0):s=z0:=by
 have hsT:=hS.n hs;obtain⟨l1,l2,l3⟩:=Qg hsT;rcases BL (O1 P.n s) P.n with q|q
 ·have h3:=l3 q;have cB:dn (O1 P.n s)≠none:=λe=>h.no _ q e ⟨s,hs,l2,h3⟩
  have h4:=(A68 hv hc q hr l2).2;rw[h1 _ q cB,h2 _ q cB,KN]at h4;have dJ:=l2.r _ (A1 _) q;rw[CV dJ.1 dJ.2]at h4;exact absurd h4.symm h3
 have e:O1 P.n s=P.n:=A0;rw[e]at l2;exact jK s l2
theorem uT{S}(hS:NO (T P 0) (M P 0) S){u}(h:RA P S u){x}(hx:T P 0 x):QY P u x=XN P (WN P.n u) P.n 0 x:=by
 have g:=CS hv hc;obtain⟨h1,h2⟩:=k5 h;have hd:∀e w,WN P.n u e=some w->e<P.n/\S w/\T P e w/\w e=1:=λe w he=>by
  obtain⟨a1,a2,a3,a4,_⟩:=h1.el e w he;exact⟨a1,a2,a3,a4⟩
 have l9:∀e w,WN P.n u e=some w->e<P.n/\T P 0 w/\T P e w/\w e=1:=λe w he=>by
  obtain⟨a1,a2,a3,a4⟩:=hd e w he;exact⟨a1,hS.n a2,a3,a4⟩
 have e1:QY P u x=oJ (qX P) (WN P.n u) P.n 0 x:=by
  rw[Qh (λe w he=>by obtain⟨a1,_,a2,a3⟩:=hd e w he;exact uK (P:=P) a1 a2 a3),<-h2]
 rw[e1,jL];obtain⟨s1,a1,a2⟩:=Bm hv hc (cJ hv hc) hS hd P.n 0 x hx;obtain⟨s2,b1,b2⟩:=Bm hv hc (cI hv hc) hS hd P.n 0 x hx;obtain⟨t1,_,z1⟩:=uG hv hc (cJ hv hc) (oM hv hc) l9 P.n 0 x A0 hx;obtain⟨t2,_,z2⟩:=uG hv hc (cI hv hc) (oM hv hc) l9 P.n 0 x A0 hx;obtain⟨w,w1,w2,w3⟩:=g.iv (hS.n a1);have hw:=hS.iv a1 w1 w3;have e2:oJ (Fp P) (WN P.n u) P.n 0 x=M P 0 (oJ (qX P) (WN P.n u) P.n 0 x) (M P 0 w s2):=by
  rw[a2,b2,g.ac hx (hS.n a1) (g.cl w1 (hS.n b1)),<-g.ac (hS.n a1) w1 (hS.n b1),w3,g.l1 (hS.n b1)]
 have e3:M P 0 w s2=z0:=uS hv hc hS h1 t1 (hS.mu hw b1) (λk hk hn=>z1 k (AE k) A0 hn) (λk hk hn=>by rw[<-e2];exact z2 k (AE k) A0 hn);rw[e2,e3,g.r1 t1]
end
def K7(n:Nat)(u:List V)(k:Nat):List Nat:=(List.range k).filter λd=>(WN n u d).isNone
def ZD{n u k}:K7 n u (k+1)=if WN n u k=none then K7 n u k++[k]else K7 n u k:=by
 unfold K7;rw[CX,K9];cases h:WN n u k with
 |none=>simp[h]
 |some z=>simp[h]
def YU{n u}:∀k,(K7 n u k).length<=k:=by
 intro k;have:=F6 (λd=>(WN n u d).isNone) (List.range k);rw[DG]at this;exact this
def Bn{n u k i}(hi:i<(K7 n u k).length):(K7 n u k).getD i 0<k:=by
 have hm:(K7 n u k).getD i 0∈K7 n u k:=by rw[A5,A9 hi];exact BK _
 exact B3.1 (E0.1 hm).1
def oO(n:Nat)(u:List V):C2:=(K7 n u n).map λd:Nat=>(d:Int)
def cM{n u}:(oO n u).length=(K7 n u n).length:=by simp[oO]
def rD{n u i}(h:i<(K7 n u n).length):(oO n u).getD i 0=((K7 n u n).getD i 0:Int):=by simp[oO,h]
noncomputable def ZY(P:Pc)(u:List V)(x:V):C2:=(K7 P.n u P.n).map λd=>QY P u x d
def k6{P u x}:(ZY P u x).length=(K7 P.n u P.n).length:=by simp[ZY]
def TF(U:C2)(u:List V):C2:=(K7 U.length u U.length).map λd=>U.getD d 0
noncomputable def pJ(P:Pc)(u:List V)(d:Nat):C2:=ZY P u (T6 P (un d) (P.o d))
noncomputable def WA(P:Pc)(u:List V):D4:=(K7 P.n u P.n).map λd=>pJ P u d
noncomputable def mV(P:Pc)(u:List V)(d j:Nat):C2:=ZY P u (PI P (un j) (un d))
noncomputable def L8(P:Pc)(u:List V)(a:Nat):D4:=((K7 P.n u P.n).drop (a+1)).map λj=>mV P u ((K7 P.n u P.n).getD a 0) j
noncomputable def U8(P:Pc)(u:List V):E6:=(List.range (K7 P.n u P.n).length).map λa=>L8 P u a
end
section
def RY(P:Pc)(u:List V)(k:Nat):Nat:=(K7 P.n u P.n).getD k 0
def nQ(P:Pc)(u:List V):Nat:=(K7 P.n u P.n).length
noncomputable def J0(P:Pc)(u:List V):Pc:=⟨nQ P u,λi=>P.o (RY P u i),λi=>fl (pJ P u (RY P u i)),λi j=>fl (mV P u (RY P u i) (RY P u j))⟩
def gZ(P:Pc)(u:List V)(y:V):V:=λd=>if d<P.n/\WN P.n u d=none then y (K7 P.n u d).length else 0
def Qx{n u}:∀d m,d<=m->∃r,K7 n u m=K7 n u d++r:=by
 intro d m h;obtain⟨k,rfl⟩:∃k,m=d+k:=⟨m-d,A0⟩;clear h;induction k with
 |zero=>exact⟨[],B5⟩
 | succ k ih=>
   obtain⟨r,e⟩:=ih;rw[show d+(k+1)=d+k+1 from rfl,ZD,e];split
   ·exact⟨r++[d+k],by rw[BO]⟩
   exact⟨r,rfl⟩
section
variable{P:Pc}{u:List V}
def mW{d}(hd:d<P.n)(ht:WN P.n u d=none):(K7 P.n u d).length<nQ P u/\RY P u (K7 P.n u d).length=d:=by
 obtain⟨r,e⟩:=Qx (n:=P.n) (u:=u) (d+1) P.n A0;rw[ZD,if_pos ht]at e;unfold nQ RY;rw[e];refine⟨B5,?_⟩;rw[A5,BO,EA (A1 _)];simp
def M7{k}(hk:k<nQ P u):RY P u k<P.n/\WN P.n u (RY P u k)=none/\(K7 P.n u (RY P u k)).length=k:=by
 have hm:RY P u k∈K7 P.n u P.n:=by unfold RY;rw[A5,A9 hk];exact BK _
 have h1:=E0.1 hm;have h2:=B3.1 h1.1;have h3:WN P.n u (RY P u k)=none:=Option.isNone_iff_eq_none.1 h1.2;refine⟨h2,h3,?_⟩;obtain⟨i1,i2⟩:=mW h2 h3;have nd:(K7 P.n u P.n).Nodup:=List.Pairwise.filter _ LR;have e1:(K7 P.n u P.n)[(K7 P.n u (RY P u k)).length]'i1=(K7 P.n u P.n)[k]'hk:=by
  have a1:RY P u (K7 P.n u (RY P u k)).length=(K7 P.n u P.n)[(K7 P.n u (RY P u k)).length]'i1:=by show(K7 P.n u P.n).getD _ 0=_;rw[A5,A9 (show(K7 P.n u (RY P u k)).length<(K7 P.n u P.n).length from i1)];rfl
  have a2:RY P u k=(K7 P.n u P.n)[k]'hk:=by rw[RY,A5,A9 hk];rfl
  rw[<-a1,<-a2,i2]
 exact(List.getElem_inj nd).1 e1
def A20{n d e}(h:d<=e):(K7 n u d).length<=(K7 n u e).length:=by
 obtain⟨r,q⟩:=Qx (n:=n) (u:=u) d e h;rw[q];simp
def Bo{k l}(hl:l<nQ P u)(h:k<l):RY P u k<RY P u l:=by
 obtain⟨a1,a2,a3⟩:=M7 (P:=P) (u:=u) (k:=k) A0;obtain⟨b1,b2,b3⟩:=M7 hl;rcases BL (RY P u k) (RY P u l)with q|q
 ·exact q
 have:=A20 (u:=u) (n:=P.n) q;omega
def Lv{y k}(hk:k<nQ P u):gZ P u y (RY P u k)=y k:=by
 obtain⟨a1,a2,a3⟩:=M7 hk;rw[gZ,if_pos ⟨a1,a2⟩,a3]
def Gc(hv:LK P){y l}(hy:T (J0 P u) l y){d}(hd:∀k,l<=k->k<nQ P u->d<=RY P u k):T P d (gZ P u y):=by
 refine⟨λk hk=>?_,λk h1 h2=>?_,λk hk=>?_⟩
 ·rw[gZ];split
  ·rename_i q;obtain⟨i1,i2⟩:=mW q.1 q.2;refine hy.z _ ?_;rcases BL (K7 P.n u k).length l with w|w
   ·exact w
   have:=hd _ w i1;rw[i2]at this;omega
  rfl
 ·rw[gZ];split
  ·rename_i q;obtain⟨i1,i2⟩:=mW q.1 q.2;rcases BL (K7 P.n u k).length l with w|w
   ·rw[hy.z _ w];have:=hv.o k h2;omega
   have:=hy.r _ w i1;rw[show(J0 P u).o (K7 P.n u k).length=P.o (RY P u (K7 P.n u k).length)from rfl,i2]at this;exact this
  have:=hv.o k h2;omega
 rw[gZ,if_neg A0]
def rE{y d}(h:WN P.n u d≠none):gZ P u y d=0:=by rw[gZ,if_neg (λq=>h q.2)]
def Bp{l x y}(hx:T (J0 P u) l x)(hy:T (J0 P u) l y)(e:gZ P u x=gZ P u y):x=y:=by
 funext k
 rcases BL k (nQ P u)with h|h
 ·exact(Lv h).symm.trans ((congrFun e _).trans (Lv h))
 rw[hx.t k h,hy.t k h]
def Gd{x k}(hk:k<nQ P u):fl (ZY P u x) k=QY P u x (RY P u k):=by
 have Y8:k<(K7 P.n u P.n).length:=hk;simp[fl,ZY,RY,Y8]
def A21{x k}(hk:nQ P u<=k):fl (ZY P u x) k=0:=by
 rw[fl,A5,B8 (by rw[k6];exact hk)];rfl
def uU(hv:LK P)(hc:HN P 0){j}(hj:j<P.n){y}(ty:T P (j+1) y):∀a:Nat,(a:Int)<P.o j->M P 0 (rep (M P 0) (un j) a) y=D0 y j a
 |0,_=>by
  show M P 0 z0 y=_
  rw[(CS hv hc).l1 (ty.mono hv (AE _))];exact(MH (ty.z j A0)).symm
 |a +1,h=>by
  have g:=CS hv hc;have tu:T P 0 (un j):=O9 hv (AE j) hj;have ty0:=ty.mono hv (AE _);rw[g.yH tu,g.ac tu (g.rep tu a) ty0,uU hv hc hj ty a A0,aJ hv (AE j) (O9 hv (A1 j) hj) (T.put hj ty A0 A0),
   A0G hv hj (CS hv (hc.mono (AE _))) ty A0 A0]
  congr 1
def hU(hv:LK P)(hc:HN P 0):∀d l,nQ P u-l=d->∀y,T (J0 P u) l y->PH (J0 P u) (M P 0) z0 (λk=>un (RY P u k)) l y=gZ P u y
 |0,l,hd,y,hy=>by
  rw[PH,show(J0 P u).n-l=0 from hd];funext d
  show(0:Int)=_
  rw[gZ];split
  ·rename_i q;obtain⟨i1,_⟩:=mW q.1 q.2;exact(hy.z _ A0).symm
  rfl
 |d +1,l,hd,y,hy=>by
  have hl:l<nQ P u:=A0;have TT:l<(J0 P u).n:=hl;rw[gY TT (y:=D0 y l 0) λk hk=>(EW A0).symm,hU hv hc d (l+1) A0 _ hy.cut];obtain⟨a1,a2,a3⟩:=M7 hl;have hr:=hy.r l (A1 l) TT;have e1:=uU hv hc a1 (y:=gZ P u (D0 y l 0)) (Gc hv hy.cut λk hk NC=>Bo NC A0) (y l).toNat (by have:(J0 P u).o l=P.o (RY P u l):=rfl;omega);show M P 0 (rep (M P 0) (un (RY P u l)) (y l).toNat) _=_
  rw[e1];funext k
  by_cases hk:k=RY P u l
  ·subst hk;rw[EM,Lv hl];omega
  rw[EW hk];simp only[gZ];split
  ·rename_i q;obtain⟨i1,i2⟩:=mW q.1 q.2;exact EW λe=>hk (by rw[<-e,i2])
  rfl
end
section
variable{P:Pc}(hv:LK P)(hc:HN P 0){S:V->Prop}(hS:NO (T P 0) (M P 0) S){u:List V}(hu:RA P S u)
include hv hc hS hu
theorem A22{e w}(he:WN P.n u e=some w):e<P.n/\S w/\T P e w/\w e=1:=by
 obtain⟨a1,a2,a3,a4,_⟩:=(k5 hu).1.el e w he;exact⟨a1,a2,a3,a4⟩
theorem YV{x}(hx:T P 0 x):(∃s,S s/\QY P u x=M P 0 x s)/\(∀d,d<P.n->WN P.n u d≠none->QY P u x d=0)/\T P 0 (QY P u x):=by
 have hd:∀e w,WN P.n u e=some w->e<P.n/\S w/\T P e w/\w e=1:=λe w h=>A22 hv hc hS hu h
 have Ki:∀e w,WN P.n u e=some w->e<P.n/\T P 0 w/\T P e w/\w e=1:=λe w h=>by obtain⟨a,b,c⟩:=hd e w h;exact⟨a,hS.n b,c⟩
 have e1:QY P u x=oJ (Fp P) (WN P.n u) P.n 0 x:=by rw[uT hv hc hS hu hx,jL]
 obtain⟨r1,r2,r3⟩:=uG hv hc (cI hv hc) (oM hv hc) Ki P.n 0 x A0 hx;refine⟨?_,λd h1 h2=>by rw[e1];exact r3 d (AE d) A0 h2,by rw[e1];exact r1⟩;rw[e1];exact Bm hv hc (cI hv hc) hS hd P.n 0 x hx
theorem A23{l x}(hl:l<=P.n)(hx:T P l x):T P l (QY P u x):=by
 have cH:=hx.mono hv (AE l);obtain⟨_,_,t⟩:=YV hv hc hS hu cH;have e1:QY P u x=oJ (Fp P) (WN P.n u) P.n 0 x:=by rw[uT hv hc hS hu cH,jL]
 have sk:∀d e,e+d=l->oJ (Fp P) (WN P.n u) (P.n-e) e x=oJ (Fp P) (WN P.n u) (P.n-l) l x:=by
  intro d;induction d with
  |zero=>exact λe h=>by rw[show e=l by omega]
  | succ d ih=>
    intro e h;rw[show P.n-e=(P.n-(e+1))+1 by omega,oJ];cases hq:WN P.n u e with
    |none=>exact ih (e+1) A0
    |some w=>dsimp only;rw[if_pos (hx.z e A0)];exact ih (e+1) A0
 have e2:=sk l 0 A0;rw[EB,<-e1]at e2;have Ki:∀e w,WN P.n u e=some w->e<P.n/\T P 0 w/\T P e w/\w e=1:=λe w h=>by obtain⟨a,b,c⟩:=A22 hv hc hS hu h;exact⟨a,hS.n b,c⟩
 obtain⟨_,r2,_⟩:=uG hv hc (cI hv hc) (oM hv hc) Ki (P.n-l) l x A0 cH;exact⟨λk hk=>by rw[e2,r2 k hk];exact hx.z k hk,λk _ h2=>t.r k (AE k) h2,t.t⟩
theorem A24{x}(hx:T P 0 x):gZ P u (fl (ZY P u x))=QY P u x:=by
 obtain⟨_,h2,t⟩:=YV hv hc hS hu hx;funext d
 rw[gZ];split
 ·rename_i q;obtain⟨i1,i2⟩:=mW q.1 q.2;rw[Gd i1,i2]
 rename_i q;rcases BL d P.n with h|h
 ·exact(h2 d h λe=>q ⟨h,e⟩).symm
 exact(t.t d h).symm
theorem AK1{x i}(hi:i<nQ P u)(hx:T P (RY P u i+1) x):T (J0 P u) (i+1) (fl (ZY P u x)):=by
 have hl:=(M7 hi).1;have t:=A23 hv hc hS hu A0 hx;refine⟨λk hk=>?_,λk h1 h2=>?_,λk hk=>A21 hk⟩
 ·have Y8:k<nQ P u:=A0;rw[Gd Y8];refine t.z _ ?_;rcases BL k i with q|q
  ·have:=Bo hi q;omega
  obtain rfl:k=i:=A0;omega
 rw[Gd h2];exact(t.mono hv (AE _)).r _ (AE _) (M7 h2).1
theorem AK2{x}(hx:T P 0 x):T (J0 P u) 0 (fl (ZY P u x)):=by
 obtain⟨_,_,t⟩:=YV hv hc hS hu hx;exact⟨λk hk=>A0,λk h1 h2=>by rw[Gd h2];exact t.r _ (AE _) (M7 h2).1,λk hk=>A21 hk⟩
theorem A9O{j}(hj:j<P.n):T P (j+1) (T6 P (un j) (P.o j)):=by
 have tu:=O9 hv (A1 j) hj;obtain⟨p1,p2⟩:=qW hv hc hj tu (P.o j);refine(lvl hv hc).up p1 ?_;rw[p2,KB]
theorem Qy{i j}(Q3:i<j)(hj:j<P.n):T P (i+1) (PI P (un j) (un i)):=by
 have l:=lvl hv hc;have tj:T P (i+1) (un j):=O9 hv A0 hj;have ti:T P i (un i):=O9 hv (A1 i) A0;have tj0:=tj.mono hv (AE _);have ti0:=ti.mono hv (AE _);have tc:T P i (PI P (un j) (un i)):=(l.g i).cl (La hv hc ti) ((l.g i).cl (tj.mono hv (LN i)) ti);refine l.up tc ?_;have e:=(MB hv hc tj0 ti0).2;have h1:=l.lead (by omega:i<P.n) ti tc;have h2:=l.lead (by omega:i<P.n) (tj.mono hv (LN i)) ti;rw[e,h2]at h1;rw[show un i i=1 from EM,tj.z i A0]at h1;have hr:=tc.r i (A1 i) A0;have ho:=hv.o i A0;rw[KN,CV A0 ho]at h1;rcases J1 (1+PI P (un j) (un i) i) (P.o i)with q|q
 ·rw[CV A0 q]at h1;omega
 have:1+PI P (un j) (un i) i=P.o i:=A0;rw[this,LU]at h1;omega
theorem mX:LK (J0 P u):=
 ⟨λi hi=>hv.o _ (M7 hi).1,λi hi=>AK1 hv hc hS hu hi (A9O hv hc hS hu (M7 hi).1),λi j Q3 hj=>AK1 hv hc hS hu (by have:j<nQ P u:=hj;omega) (Qy hv hc hS hu (Bo hj Q3) (M7 hj).1)⟩
theorem SN{x y}(hx:T P 0 x)(hy:T P 0 y):QY P u x=QY P u y↔∃s,S s/\M P 0 x s=y:=by
 have g:=CS hv hc;obtain⟨⟨s1,a1,a2⟩,a3,a4⟩:=YV hv hc hS hu hx;obtain⟨⟨s2,b1,b2⟩,b3,b4⟩:=YV hv hc hS hu hy;constructor
 ·intro e;obtain⟨w,w1,w2,w3⟩:=g.iv (hS.n b1);have hw:=hS.iv b1 w1 w3;refine⟨M P 0 s1 w,hS.mu a1 hw,?_⟩;rw[<-g.ac hx (hS.n a1) w1,<-a2,e,b2,g.ac hy (hS.n b1) w1,w3,g.r1 hy]
 rintro⟨s,h1,h2⟩;obtain⟨w,w1,w2,w3⟩:=g.iv (hS.n a1);have hw:=hS.iv a1 w1 w3;have Ux:S (M P 0 w (M P 0 s s2)):=hS.mu hw (hS.mu h1 b1);have e1:M P 0 (QY P u x) (M P 0 w (M P 0 s s2))=QY P u y:=by
  rw[a2,g.ac hx (hS.n a1) (hS.n Ux),<-g.ac (hS.n a1) w1 (hS.n (hS.mu h1 b1)),w3,g.l1 (hS.n (hS.mu h1 b1)),<-g.ac hx (hS.n h1) (hS.n b1),h2,b2]
 have e2:=uS hv hc hS (k5 hu).1 a4 Ux a3 λk h3 h4=>by rw[e1];exact b3 k h3 h4
 rw[e2,g.r1 a4]at e1;exact e1
theorem WB{x}(hx:T P 0 x)(h:∀d,d<P.n->WN P.n u d≠none->x d=0):QY P u x=x:=by
 obtain⟨⟨s1,a1,a2⟩,a3,a4⟩:=YV hv hc hS hu hx;have e2:=uS hv hc hS (k5 hu).1 hx a1 h λk h3 h4=>by rw[<-a2];exact a3 k h3 h4
 rw[a2,e2,(CS hv hc).r1 hx]
theorem Qz{x}(hx:T P 0 x):QY P u (QY P u x)=QY P u x:=by
 obtain⟨_,a3,a4⟩:=YV hv hc hS hu hx;exact WB hv hc hS hu a4 a3
theorem Ra{x}(hx:T P 0 x):QY P u x=z0↔S x:=by
 have g:=CS hv hc;have e0:QY P u z0=z0:=WB hv hc hS hu g.e0 λ_ _ _=>rfl
 constructor
 ·intro e;obtain⟨s,h1,h2⟩:=(SN hv hc hS hu g.e0 hx).1 (by rw[e0,e]);rw[g.l1 (hS.n h1)]at h2;exact h2▸h1
 intro h;rw[<-(SN hv hc hS hu g.e0 hx).2 ⟨x,h,g.l1 hx⟩,e0]
theorem Bq(hn:∀b,T P 0 b->fC P S b):bI (T P 0) (M P 0) z0 (λx y=>QY P u x=QY P u y):=by
 have g:=CS hv hc;refine⟨λ_=>rfl,λh=>h.symm,λh h'=>h.trans h',g.cl,g.e0,λ{a b c d} ha hb VJ hd q r=>?_,λha hb VJ=>by rw[g.ac ha hb VJ],λha=>by rw[g.l1 ha],λha=>by rw[g.r1 ha],λ{a b c} ha hb VJ q=>?_⟩
 ·obtain⟨s,s1,s2⟩:=(SN hv hc hS hu ha hb).1 q;obtain⟨r',r1,r2⟩:=(SN hv hc hS hu VJ hd).1 r;refine(SN hv hc hS hu (g.cl ha VJ) (g.cl hb hd)).2 ⟨M P 0 (PI P s c) r',hS.mu (hn c VJ s s1) r1,?_⟩;obtain⟨k1,k2⟩:=MB hv hc (hS.n s1) VJ;rw[<-s2,<-r2,g.ac ha VJ (g.cl k1 (hS.n r1)),<-g.ac VJ k1 (hS.n r1),k2,g.ac (hS.n s1) VJ (hS.n r1),g.ac ha (hS.n s1) (g.cl VJ (hS.n r1))]
 obtain⟨s,s1,s2⟩:=(SN hv hc hS hu (g.cl ha hb) (g.cl ha VJ)).1 q;refine(SN hv hc hS hu hb VJ).2 ⟨s,s1,?_⟩;rw[g.ac ha hb (hS.n s1)]at s2;exact g.lc ha (g.cl hb (hS.n s1)) VJ s2
theorem A25(hn:∀b,T P 0 b->fC P S b):U6 (J0 P u) (T P 0) (M P 0) z0 (λx y=>QY P u x=QY P u y) (λk=>un (RY P u k)):=by
 have g:=CS hv hc;have tg:=Bq hv hc hS hu hn;have hq:=mX hv hc hS hu;refine⟨λi hi=>O9 hv (AE _) (M7 hi).1,λi hi=>?_,λi j Q3 hj=>?_⟩
 ·rw[hU hv hc _ _ rfl _ (hq.pw i hi)];have tp:=A9O hv hc hS hu (M7 hi).1;show _=QY P u (gZ P u (fl (ZY P u (T6 P (un (RY P u i)) (P.o (RY P u i))))))
  rw[A24 hv hc hS hu (tp.mono hv (AE _)),Qz hv hc hS hu (tp.mono hv (AE _))];have ho:=hv.o _ (M7 hi).1;rw[T6,if_neg A0];rfl
 have l6:j<nQ P u:=hj;have OQ:i<nQ P u:=A0;rw[hU hv hc _ _ rfl _ (hq.cj i j Q3 hj)];have tc:=(Qy hv hc hS hu (Bo l6 Q3) (M7 l6).1).mono hv (AE _);have ti:T P 0 (un (RY P u i)):=O9 hv (AE _) (M7 OQ).1;have tj:T P 0 (un (RY P u j)):=O9 hv (AE _) (M7 l6).1;show QY P u (M P 0 (un (RY P u j)) (un (RY P u i)))=QY P u (M P 0 (un (RY P u i)) (gZ P u (fl (ZY P u (PI P (un (RY P u j)) (un (RY P u i)))))))
 rw[A24 hv hc hS hu tc,<-(MB hv hc tj ti).2];exact tg.l ti tc (YV hv hc hS hu tc).2.2 (Qz hv hc hS hu tc).symm
theorem Lw(hn:∀b,T P 0 b->fC P S b):HN (J0 P u) 0:=by
 refine(A25 hv hc hS hu hn).con (mX hv hc hS hu) (Bq hv hc hS hu hn) λl x y hx hy e=>?_
 rw[hU hv hc _ _ rfl _ hx,hU hv hc _ _ rfl _ hy]at e;rw[WB hv hc hS hu (Gc hv hx λ_ _ _=>AE _) λd _ h=>rE h,WB hv hc hS hu (Gc hv hy λ_ _ _=>AE _) λd _ h=>rE h]at e;exact Bp hx hy e
theorem A6U(hn:∀b,T P 0 b->fC P S b){x}(hx:T (J0 P u) 0 x)(k):gZ P u (rep (M (J0 P u) 0) x k)=QY P u (rep (M P 0) (gZ P u x) k):=by
 obtain⟨t,r⟩:=(A25 hv hc hS hu hn).rep (mX hv hc hS hu) (Bq hv hc hS hu hn) hx k;rw[hU hv hc _ _ rfl _ hx,hU hv hc _ _ rfl _ t,WB hv hc hS hu (Gc hv t λ_ _ _=>AE _) λd _ h=>rE h]at r;exact r
end
end
section
inductive A26 (P:Pc):V->Prop
 |pw (i:Nat) (h:i<P.n):A26 P (λk=>P.o i*un i k-P.pw i k)
 |cj (i j:Nat) (h:i<j) (h2:j<P.n):A26 P (λk=>un j k-P.cj i j k)
def QB(P:Pc):V->Prop:=sS (A26 P)
section
variable{P:Pc}
def QB.add{x y}(hx:QB P x)(hy:QB P y):QB P (λk=>x k+y k):=by
 have:=sS.Fa 1 1 hx hy;refine cast (congrArg (QB P) ?_) this;funext k;omega
def QB.sub{x y}(hx:QB P x)(hy:QB P y):QB P (λk=>x k-y k):=by
 have:=sS.Fa 1 (-1) hx hy;refine cast (congrArg (QB P) ?_) this;funext k;omega
def QB.neg{x}(hx:QB P x):QB P (λk=> -x k):=by
 have:=sS.Fa (-1) 0 hx hx;refine cast (congrArg (QB P) ?_) this;funext k;omega
def QB.sm{x}(hx:QB P x)(s):QB P (λk=>s*x k):=by
 have:=sS.Fa s 0 hx hx;refine cast (congrArg (QB P) ?_) this;funext k;omega
def QB.eq{x y}(h:QB P x)(e:∀k,x k=y k):QB P y:=(funext e:x=y)▸h
def QB.lt(hv:LK P):LtI P.n (QB P):=by
 refine⟨λx h=>?_,.zero,λs t x y hx hy=> .Fa s t hx hy⟩;induction h with
 |zero=>exact λ_ _=>rfl
 | gen h=>
   cases h with
   |pw i h=>intro k hk;dsimp only;rw[(hv.pw i h).t k hk,un,EW A0];simp[z0]
   |cj i j h h2=>intro k hk;dsimp only;rw[(hv.cj i j h h2).t k hk,un,EW A0];simp[z0]
 |Fa s t _ _ h1 h2=>intro k hk;dsimp only;rw[h1 k hk,h2 k hk];simp
def A9P:bI (λ_=>True) (λx y=>λk=>x k+y k) z0 (λx y=>QB P (λk=>x k-y k)):=by
 refine⟨λa=>QB.eq .zero λk=>A0,λh=>h.neg.eq λk=>A0,λh1 h2=>(h1.add h2).eq λk=>A0,λ_ _=>trivial,trivial,λ_ _ _ _ h1 h2=>(h1.add h2).eq λk=>by dsimp only;omega,
  λ_ _ _=>QB.eq .zero λk=>by dsimp only;omega,λ_=>QB.eq .zero λk=>by simp[z0],λ_=>QB.eq .zero λk=>by simp[z0],λ_ _ _ h=>h.eq λk=>by dsimp only;omega⟩
def Rb{x}:∀k:Nat,YT (λx y=>λk=>x k+y k) z0 x k=λd=>(k:Int)*x d
 |0=>by funext d;show(0:Int)=_;simp
 | k+1=>by
   funext d
   show YT (λx y=>λk=>x k+y k) z0 x k d+x d=_
   rw[Rb k,HE,GI,ER]
def A9Q{g x}:∀m j,(∀k,j<=k->k<j+m->0<=x k)->dL (λx y=>λk=>x k+y k) z0 g x m j=λd=>QP m λi=>x (j+i)*g (j+i) d
 |0,j,_=>rfl
 | m +1,j,h=>by
   funext d
   show YT (λx y=>λk=>x k+y k) z0 (g j) (x j).toNat d+dL (λx y=>λk=>x k+y k) z0 g x m (j+1) d=_
   rw[Rb,A9Q m (j+1) λk h1 h2=>h k A0 A0,BG (h j (A1 j) A0)];have sh:∀m,QP (m+1) (λi=>x (j+i)*g (j+i) d)=x j*g j d+QP m λi=>x (j+1+i)*g (j+1+i) d:=by
    intro m;induction m with
    |zero=>simp[QP]
    |succ m ih=>rw[QP,ih,QP,show j+(m+1)=j+1+m by omega];omega
   rw[sh]
def A27{x:V}{d:Nat}:∀m j,QP m (λi=>x (j+i)*un (j+i) d)=if j<=d/\d<j+m then x d else 0
 |0,j=>by rw[QP,if_neg A0]
 | m+1,j=>by
   rw[QP,A27 m j];by_cases h:d=j+m
   ·subst h;rw[if_neg A0,if_pos A0,un,EM];omega
   rw[un,EW h];by_cases h':j<=d/\d<j+m
   ·rw[if_pos h',if_pos A0];simp[z0]
   rw[if_neg h',if_neg A0];simp[z0]
def uV{l x}(hx:T P l x):PH P (λx y=>λk=>x k+y k) z0 un l x=x:=by
 rw[PH,A9Q _ _ λk h1 h2=>(hx.r k h1 A0).1];funext d;rw[A27]
 split
 ·rfl
 rename_i h;rcases BL d l with q|q
 ·exact(hx.z d q).symm
 exact(hx.t d A0).symm
def A28(hv:LK P):U6 P (λ_=>True) (λx y=>λk=>x k+y k) z0 (λx y=>QB P (λk=>x k-y k)) un:=by
 refine⟨λ_ _=>trivial,λi hi=>?_,λi j Q3 hj=>?_⟩
 ·rw[uV (hv.pw i hi),Rb,BG (by have:=hv.o i hi;omega)];exact .gen (.pw i hi)
 rw[uV (hv.cj i j Q3 hj)];exact QB.eq (.gen (.cj i j Q3 hj)) λk=>by dsimp only;omega
def V8(hv:LK P){x y}(hx:T P 0 x)(hy:T P 0 y):QB P (λk=>M P 0 x y k-(x k+y k)):=by
 have:=(A28 hv).hom hv A9P _ 0 rfl x y hx hy;rwa [uV hx,uV hy,uV (aH hv hx hy)]at this
def A29(hv:LK P){x}(hx:T P 0 x)(k):QB P (λd=>rep (M P 0) x k d-(k:Int)*x d):=by
 obtain⟨t,r⟩:=(A28 hv).rep hv A9P hx k;rwa [uV hx,uV t,Rb]at r
def A9R(hv:LK P)(hc:HN P 0){w:V}(hw:XC P.n w):∃x,T P 0 x/\QB P (λk=>w k-x k):=by
 have g:=CS hv hc;have add:∀{a b:V},(∃x,T P 0 x/\QB P (λk=>a k-x k))->(∃x,T P 0 x/\QB P (λk=>b k-x k))->∃x,T P 0 x/\QB P (λk=>a k+b k-x k):=by
  rintro a b ⟨x,hx,h1⟩ ⟨y,hy,h2⟩;exact⟨M P 0 x y,aH hv hx hy,((h1.add h2).sub (V8 hv hx hy)).eq λk=>A0⟩
 have neg:∀{a:V},(∃x,T P 0 x/\QB P (λk=>a k-x k))->∃x,T P 0 x/\QB P (λk=> -a k-x k):=by
  rintro a ⟨x,hx,h1⟩;obtain⟨y,y1,y2,y3⟩:=g.iv hx;have:=V8 hv hx y1;rw[y3]at this;exact⟨y,y1,(this.sub h1).eq λk=>by simp only[z0];omega⟩
 have sc:∀(n:Nat) {a:V},(∃x,T P 0 x/\QB P (λk=>a k-x k))->∃x,T P 0 x/\QB P (λk=>(n:Int)*a k-x k):=by
  intro n a h;induction n with
  |zero=>exact⟨z0,g.e0,QB.eq .zero λk=>by simp[z0]⟩
  | succ n ih=>
    obtain⟨x,hx,h1⟩:=add ih h;exact⟨x,hx,h1.eq λk=>by rw[HE,GI,ER]⟩
 have sc':∀(s:Int) {a:V},(∃x,T P 0 x/\QB P (λk=>a k-x k))->∃x,T P 0 x/\QB P (λk=>s*a k-x k):=by
  intro s a h;rcases Int.le_total 0 s with q|q
  · obtain⟨x,hx,h1⟩:=sc s.toNat h;exact⟨x,hx,h1.eq λk=>by rw[BG q]⟩
  obtain⟨x,hx,h1⟩:=neg (sc (-s).toNat h);exact⟨x,hx,h1.eq λk=>by rw[BG A0,Int.neg_mul];omega⟩
 have all:∀m,m<=P.n->∃x,T P 0 x/\QB P (λk=>QP m (λi=>w (0+i)*un (0+i) k)-x k):=by
  intro m;induction m with
  |zero=>intro _;exact⟨z0,g.e0,QB.eq .zero λk=>by simp[z0,QP]⟩
  | succ m ih=>
    intro hm;have h1:=sc' (w m) (a:=un m) ⟨un m,O9 hv (AE m) A0,QB.eq .zero λk=>A0⟩;obtain⟨x,hx,h2⟩:=add (ih A0) h1;exact⟨x,hx,h2.eq λk=>by rw[QP,BS]⟩
 obtain⟨x,hx,h⟩:=all P.n (A1 _);refine⟨x,hx,h.eq λk=>?_⟩;rw[A27];split
 ·rfl
 rw[hw k A0]
end
structure CoR(N:V->Prop)(op:V->V->V)(e:V)(R:V->V->Prop)(E:Nat):Prop where
 tg:bI N op e R
 cm:∀{a b},N a->N b->R (op a b) (op b a)
 ep:0<E
 ex:∀{a},N a->R (YT op e a E) e
section
variable{N:V->Prop}{op:V->V->V}{e:V}{R:V->V->Prop}{E:Nat}
def CoR.mo(h:CoR N op e R E){a}(ha:N a)(k):R (YT op e a (k%E)) (YT op e a k):=by
 have key:∀q r,R (YT op e a (E*q+r)) (YT op e a r):=by
  intro q r;induction q with
  |zero=>rw[Nat.mul_zero,BS];exact h.tg.rf _
  | succ q ih=>
    have p1:=h.tg.rp ha E;have p2:=h.tg.rp ha (E*q+r);rw[show E*(q+1)+r=E+(E*q+r) by rw[P7];omega];exact h.tg.tr (h.tg.add ha E _) (h.tg.tr (h.tg.r p2 p1 h.tg.ne (h.ex ha)) (h.tg.tr (h.tg.el p2) ih))
 have:=key (k/E) (k%E);rw[PY]at this;exact h.tg.sy this
def CoR.sw(h:CoR N op e R E){a b c d}(ha:N a)(hb:N b)(hc:N c)(hd:N d):R (op (op a b) (op c d)) (op (op a c) (op b d)):=by
 have t:=h.tg;refine t.tr (t.ac ha hb (t.cl hc hd)) (t.tr (t.l ha (t.cl hb (t.cl hc hd)) (t.cl hc (t.cl hb hd)) ?_) (t.sy (t.ac ha hc (t.cl hb hd))));exact t.tr (t.sy (t.ac hb hc hd)) (t.tr (t.r hd (t.cl hb hc) (t.cl hc hb) (h.cm hb hc)) (t.ac hc hb hd))
def dM(E:Nat)(v:V):V:=λk=>v k%(E:Int)
def CoR.Wa(h:CoR N op e R E){g v w}:∀m j,(∀k,j<=k->k<j+m->N (g k))->R (dL op e g (dM E (λk=>v k+w k)) m j) (op (dL op e g (dM E v) m j) (dL op e g (dM E w) m j))
 |0,_,_=>h.tg.sy (h.tg.el h.tg.ne)
 | m + 1,j,hg=>by
   have t:=h.tg;have gj:=hg j (A1 j) A0;have Jb:∀k,j+1<=k->k<j+1+m->N (g k):=λk h1 h2=>hg k A0 A0
   have ih:=CoR.Wa h (v:=v) (w:=w) m (j+1) Jb;have n1:=t.vl (x:=dM E v) m (j+1) Jb;have n2:=t.vl (x:=dM E w) m (j+1) Jb;have n3:=t.vl (x:=dM E (λk=>v k+w k)) m (j+1) Jb;show R (op (YT op e (g j) (dM E (λk=>v k+w k) j).toNat) _) (op (op (YT op e (g j) (dM E v j).toNat) _) (op (YT op e (g j) (dM E w j).toNat) _))
   have p1:=t.rp gj (dM E v j).toNat;have p2:=t.rp gj (dM E w j).toNat;have p3:=t.rp gj (dM E (λk=>v k+w k) j).toNat;have hE:(0:Int)<E:=by have:=h.ep;omega
   have e1:(dM E (λk=>v k+w k) j).toNat=((dM E v j).toNat+(dM E w j).toNat)%E:=by
    simp only[dM];have a1:=DK (v j) (by omega:(E:Int)≠0);have a2:=DK (w j) (by omega:(E:Int)≠0);have a3:=DK (v j+w j) (by omega:(E:Int)≠0);have:(((v j+w j)%(E:Int)).toNat:Int)=((((v j%(E:Int)).toNat+(w j%(E:Int)).toNat)%E:Nat):Int):=by
     rw[BG a3,Int.natCast_emod,IP,BG a1,BG a2];rw[IV,IW]
    omega
   refine t.tr (t.cg p3 (t.cl p1 p2) n3 (t.cl n1 n2) ?_ ih) (h.sw p1 p2 n1 n2);rw[e1];exact t.tr (h.mo gj _) (t.add gj _ _)
def CoR.AK3(h:CoR N op e R E){g v m}(hg:∀k,k<m->N (g k))(hk:R (dL op e g (dM E v) m 0) e)(s):R (dL op e g (dM E (λk=>s*v k)) m 0) e:=by
 have t:=h.tg;have Jb:∀k,0<=k->k<0+m->N (g k):=λk _ h2=>hg k A0
 have nn:∀w,N (dL op e g (dM E w) m 0):=λw=>t.vl _ _ Jb
 have k0:R (dL op e g (dM E (λ_=>0)) m 0) e:=t.vl0 m 0 Jb λk _ _=>by simp[dM]
 have st:∀n:Nat,R (dL op e g (dM E (λk=>(n:Int)*v k)) m 0) e:=by
  intro n;induction n with
  |zero=>refine cast (congrArg (λq=>R (dL op e g (dM E q) m 0) e) ?_) k0;funext k;simp
  | succ n ih=>
    have:=h.Wa (v:=λk=>(n:Int)*v k) (w:=v) m 0 Jb;have h2:=t.tr this (t.tr (t.cg (nn _) t.ne (nn _) t.ne ih hk) (t.el t.ne));refine cast (congrArg (λq=>R (dL op e g (dM E q) m 0) e) ?_) h2;funext k;rw[HE,GI,ER]
 rcases Int.le_total 0 s with q|q
 ·have:=st s.toNat;rwa [BG q]at this
 have h1:=st (-s).toNat;rw[BG A0]at h1;have:=h.Wa (v:=λk=>s*v k) (w:=λk=> -s*v k) m 0 Jb;rw[show(λk=>s*v k+ -s*v k)=λ_=>(0:Int)from by funext k;rw[Int.neg_mul];omega]at this;have h2:=t.tr (t.sy this) k0;have h3:=t.tr (t.l (nn (λk=>s*v k)) t.ne (nn _) (t.sy h1)) h2;exact t.tr (t.sy (t.er (nn _))) h3
end
end
end Go.Proofs.YtgknbnkmilddhaaGreat