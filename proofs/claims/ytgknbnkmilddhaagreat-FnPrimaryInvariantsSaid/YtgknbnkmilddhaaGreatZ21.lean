import Derived.Test.YtgknbnkmilddhaaGreatZ16
import Derived.Test.YtgknbnkmilddhaaGreatZ18
import Derived.Test.YtgknbnkmilddhaaGreatZ19
import Derived.Test.YtgknbnkmilddhaaGreatZ20
set_option linter.all false

open Go.Proofs.Tryz
namespace Go.Proofs.YtgknbnkmilddhaaGreat
section
def A7Y(U pw cj):NR (CI U pw cj):= .g _ (λk x hk=>by
 match k,hk with
 |0,hk=>cases hk;exact IC _
 |1,hk=>cases hk;exact .v _ _ (λk y hk=>by obtain⟨z,_,rfl⟩:=AQ.1 (D3 hk);exact IC _)
 | 2,hk=>cases hk;exact .v _ _ (λk y hk=>by
   obtain⟨z,_,rfl⟩:=AQ.1 (D3 hk);exact .v _ _ (λk y hk=>by obtain⟨z,_,rfl⟩:=AQ.1 (D3 hk);exact IC _))
 |k+3,hk=>simp at hk)
def Vw.CI{H a b c U pw cj}(h1:Vw H a (ints U))(h2:Vw H b (rows pw))(h3:Vw H c (B6 cj)):Vw H (.g [a,b,c]) (Go.Proofs.YtgknbnkmilddhaaGreat.CI U pw cj):=by
 refine .g _ _ rfl (λk x y hx hy=>?_);match k,hx,hy with
 |0,hx,hy=>cases hx;cases hy;exact h1
 |1,hx,hy=>cases hx;cases hy;exact h2
 |2,hx,hy=>cases hx;cases hy;exact h3
 |k+3,hx,hy=>simp at hx
def AKZ{H o n cs}(h0:o=none->n=0)(hn:n=cs.length)(hH:∀id,o=some id->H id=some cs):Vw H (oA o n) (.v n cs):=by
 cases o with
 | none=>
   have h1:n=0:=h0 rfl;have h2:cs=[]:=AX.1 A0;subst h1;subst h2;exact .nl
 |some id=>exact Vw.IY (hH id rfl) hn
def z8{o cs ds a m i}(h:∀id,o=some id->a<=id/\id<m)(hi:oH DD o cs i=some ds):a<=i/\i<m:=by
 cases o with
 |none=>cases hi
 | some id=>
   by_cases e:i=id
   ·rw[e];exact h id rfl
   simp only[oH,CJ,DD,e,if_false]at hi;cases hi
def qH(c a:Nat)(o:Option Nat)(F:Nat)(oL:List AV)(k:Nat)(pL cL:List AV):Option (Nat×Nat)->HP
 |none=>CJ (CJ (oH DD o oL) a (some [.nl,.nl,.nl])) c (some [oA o F,.nl,.nl])
 |some q=>CJ (CJ (CJ (CJ (oH DD o oL) q.1 (some pL)) q.2 (some cL)) a (some [.nl,.nl,.nl])) c (some [oA o F,.h q.1 0 k,.h q.2 0 k])
def AA1{c a F k y z:Nat}{o:Option Nat}{oL pL cL:List AV}{s:HP}(h1:∀i cs,oH DD o oL i=some cs->s i=some cs)(h2:s y=some pL)(h3:s z=some cL)(h4:s a=some [.nl,.nl,.nl])(h5:s c=some [oA o F,.h y 0 k,.h z 0 k]):∀i cs,qH c a o F oL k pL cL (some (y,z)) i=some cs->s i=some cs:=by
 intro i cs hi;simp only[qH,CJ]at hi;split at hi
 ·next e=>rw[e,h5];exact hi
 split at hi
 ·next e=>rw[e,h4];exact hi
 split at hi
 ·next e=>rw[e,h3];exact hi
 split at hi
 ·next e=>rw[e,h2];exact hi
 exact h1 i cs hi
def lp0{G G1:HP}{w:Nat}{l:List AV}(h:G w=some [])(h1:∀i,i<w->G1 i=G i)(h2:∀i cs,G1 i=some cs->i<w):∀i cs,CJ G1 w (some (l.take 0)) i=some cs->G i=some cs:=by
 intro i cs hh;rw[AS]at hh;simp only[CJ]at hh;split at hh
 ·next e=>rw[e,h];exact hh
 rw[<-h1 i (h2 i cs hh)];exact hh
def AL0{H id xs n}(hn:n=xs.length)(h:H id=some (xs.map Go.Proofs.YtgknbnkmilddhaaGreat.rows)):Vw H (.h id 0 n) (B6 xs):=by
 subst hn;exact Vw.IY h B5
section
variable(U:C2)(pw:D4)(cj:E6)
set_option maxRecDepth 20000 in
set_option maxHeartbeats 4000000 in
def xU(h:BW U pw cj)(hc:HN (pc U pw cj) 0){S}(hS:NO (T (pc U pw cj) 0) (M (pc U pw cj) 0) S)(us)(MC:RA (pc U pw cj) S us):DZ prog 55 [CI U pw cj,D7 U.length us] (CI (TF U us) (WA (pc U pw cj) us) (U8 (pc U pw cj) us)):=by
 have Q4:=h.1.1
 have hv:=h.val
 have PN:(pc U pw cj).n=U.length:=rfl
 have aM:=MC.len
 rw[PN]at aM
 have hld:∀k,k<us.length->O1 U.length (us.getD k z0)<U.length:=λk hk=>(MC.at (by rw[A5,A9 hk];exact BK _)).1
 have Dq:=cM (n:=U.length) (u:=us)
 have ZR:=YU (n:=U.length) (u:=us) U.length
 have z6:∀i,i<(K7 U.length us U.length).length->(oO U.length us).getD i 0=((K7 U.length us U.length).getD i 0:Int)/\(K7 U.length us U.length).getD i 0<U.length:=λi hi=>⟨rD hi,Bn hi⟩
 obtain⟨fr,YZ⟩:∃f,K7 U.length us U.length=f:=⟨_,rfl⟩
 rw[YZ]at Dq ZR z6
 have Xx:((TF U us).map (AV.i .i64)).length=fr.length:=by rw[A4,TF,A4,YZ]
 have hpL:((WA (pc U pw cj) us).map ints).length=fr.length:=by rw[A4,WA,A4,PN,YZ]
 have Xw:((U8 (pc U pw cj) us).map rows).length=fr.length:=by rw[A4,U8,A4,DG,PN,YZ]
 have hoG:∀k,k<fr.length->((TF U us).map (AV.i .i64)).getD k .j= .i .i64 (U.getD (fr.getD k 0) 0):=λk hk=>by simp[TF,YZ,hk]
 have hpG:∀k,k<fr.length->((WA (pc U pw cj) us).map ints).getD k .j=ints (pJ (pc U pw cj) us (fr.getD k 0)):=λk hk=>by simp[WA,PN,YZ,hk]
 have hcG:∀k,k<fr.length->((U8 (pc U pw cj) us).map rows).getD k .j=rows (L8 (pc U pw cj) us k):=λk hk=>by simp[U8,PN,YZ,hk]
 have KW:∀k,(L8 (pc U pw cj) us k).length=fr.length-(k+1):=λk=>by rw[L8,A4,CC,PN,YZ]
 have hce:∀k j,k+1+j<fr.length->((L8 (pc U pw cj) us k).map ints).getD j .j=ints (mV (pc U pw cj) us (fr.getD k 0) (fr.getD (k+1+j) 0)):=λk j hj=>by
  have h1:j<fr.length-(k+1):=A0;simp[L8,PN,YZ,h1,hj,CK]
 refine DA AY func55 rfl AP ntmps55 results55 ((A7Y _ _ _)) (λnx cX=>?_)
 refine RW ?_;refine BN 2 nx _ rfl ((AB _ _ A0).trans (AD _ _ _)) ?_
 refine BH ?_;refine RW ?_;refine sQ λN hN=>?_;simp-dsimp-implicitDefEqProofs(maxSteps:=800000) (disch:=omega)only[go_sem,ints,CI,AU,vi,D7];refine AC.pure (.of (bS U pw cj Q4 us A0 hld)) ?_;(try simp-dsimp-implicitDefEqProofs(maxSteps:=800000) (disch:=omega)only[go_sem,ints,CI,AU,vi,D7]);apply hN;refine RW ?_;refine A6 λN1 CW=>RW ?_;refine AA<|AM (α:=Nat×Option Nat) (λx=>sl 101 [(1,D7 U.length us),(2,AU U pw cj),(4,.q (nx+1) 0),(5,.i .i64 U.length),(6,ints (oO U.length us)),(7,.q (nx+2+4+4+1) 0),(8,.i .i64 x.1)]) (λx=>CJ (CJ (oH DD x.2 (((TF U us).map (.i .i64)).take x.1)) (nx+1) (some [.nl,.nl,.nl])) (nx+2+4+4+1) (some [oA x.2 x.1,.nl,.nl])) (λx m=>(x.1<=fr.length/\nx+14<=m)/\(x.2=none->x.1=0)/\(∀id,x.2=some id->nx+14<=id/\id<m)) (λx=>fr.length-x.1) ((0,none)) ?_ ?_ (by intro d cs hd;simp only[oH,oA,CJ,DD]at hd ⊢;grind) ?_
 ·exact⟨⟨B5,AI⟩,λ_=>rfl,B5⟩
 ·exact GD
 rintro⟨k,o⟩ m ⟨⟨hk,hm⟩,h0,GF⟩
 refine BH ?_;dsimp only at hk hm h0 GF ⊢
 refine A6 λN2 DN=>RW ?_;refine AK ?_ ?_<;>intro h1
 ·have P5:k<fr.length:=A0;obtain⟨d,hd⟩:=EK (fr.getD k 0);obtain⟨Jf,cB⟩:=z6 k P5;rw[hd]at Jf cB;have Wr:=vF (L:=(TF U us).map (AV.i .i64)) (k:=k) A0 (hoG k P5);rw[hd]at Wr;have hmn:min k (TF U us).length=k:=by rw[A4]at Xx;omega
  apply AF;apply DN;refine A6 λN3 DO=>AA<|C9 AY AP 11 AP ?_
  refine Kw Jf ?_;rcases o with _|id
  ·dsimp only[oA,oH]at h0 GF ⊢;have VW:k=0:=h0 rfl;have ht0:List.take k ((TF U us).map (AV.i .i64))=[]:=by rw[VW];exact AS
   rw[ht0,C8]at Wr;refine BH ?_
   apply DO;refine tY ?_;refine⟨(k+1,some (m+4+11)),?_,by dsimp only;rw[Wr];intro d cs hd;simp only[oH,oA,CJ,DD]at hd ⊢;grind,?_,?_⟩
   ·exact GD
   ·exact⟨⟨A0,AI⟩,B5,by simp;omega⟩
   exact AI
  dsimp only[oA,oH]at h0 GF ⊢;have Aw:=GF id rfl;(try simp-dsimp-implicitDefEqProofs(maxSteps:=800000) (disch:=omega)only[go_sem,A1,hmn])
  apply DO;refine tY ?_;refine⟨(k+1,some (m+4+11)),?_,by dsimp only;rw[Wr];intro d cs hd;simp only[oH,oA,CJ,DD]at hd ⊢;grind,?_,?_⟩
  ·exact GD
  ·exact⟨⟨A0,AI⟩,B5,by simp;omega⟩
  exact AI
 obtain rfl:k=fr.length:=A0
 have RJ:one (oA o fr.length)=true:=by cases o<;>rfl
 have v1:∀H:HP,(∀i cs,oH DD o ((TF U us).map (AV.i .i64)) i=some cs->H i=some cs)->Vw H (oA o fr.length) (ints (TF U us)):=λH hH=>by
  have:=AKZ (H:=H) (o:=o) (n:=fr.length) (cs:=((TF U us).map (AV.i .i64))) h0 Xx.symm (λid e=>hH id _ (by subst e;exact AD _ _ _));have e2:ints (TF U us)= .v fr.length ((TF U us).map (AV.i .i64)):=by unfold ints;rw[<-Xx,A4]
  rw[e2];exact this
 have YA:List.take fr.length ((TF U us).map (AV.i .i64))=((TF U us).map (AV.i .i64)):=AJ A0
 apply AO;apply CW;refine A6 λN4 FD=>RW ?_;apply AA;rw[YA]
 obtain⟨b0,iU⟩:∃b,m=b:=⟨_,rfl⟩
 refine AM (α:=Nat×Option (Nat×Nat)) (λx=>sl 101 [(1,D7 U.length us),(2,AU U pw cj),(4,.q (nx+1) 0),(5,.i .i64 U.length),(6,ints (oO U.length us)),(7,.q (nx+2+4+4+1) 0),(9,.i .i64 x.1)]) (λx=>qH (nx+2+4+4+1) (nx+1) o fr.length ((TF U us).map (AV.i .i64)) x.1 (((WA (pc U pw cj) us).map ints).take x.1) (((U8 (pc U pw cj) us).map rows).take x.1) x.2) (λx m=>(x.1<=fr.length/\b0<=m)/\(x.2=none->x.1=0)/\(∀q,x.2=some q->(b0<=q.1/\q.1<m)/\(b0<=q.2/\q.2<m)/\q.1≠q.2)) (λx=>fr.length-x.1) ((0,none)) ?_ ?_ (λ_ _ h=>h) ?_
 ·exact⟨⟨B5,AI⟩,λ_=>rfl,B5⟩
 ·exact GD
 rintro⟨k,(_|⟨y,z⟩)⟩ m2 ⟨⟨NC,Q8⟩,h20,XA⟩
 ·refine BH ?_;dsimp only[qH]at NC Q8 h20 XA ⊢;have VW:k=0:=h20 rfl;have AF0:=NC;have AF1:=NC;have Oh:=VW;refine A6 λN5 ID=>RW ?_;refine AK ?_ ?_<;>intro h2
  ·have P5:k<fr.length:=A0;obtain⟨d,hd⟩:=EK (fr.getD k 0);obtain⟨Jf,cB⟩:=z6 k P5;rw[hd]at Jf cB;have Pg:=FQ (h.2.1 d cB);have l9:T (pc U pw cj) 0 (un d):=(ZC hv cB).1.mono hv (AE d);have hpj:DZ prog 117 [CI U pw cj,D7 U.length us,vi U.length (T6 (pc U pw cj) (un d) (U.getD d 0))] (ints (pJ (pc U pw cj) us d)):=OO U pw cj h hc hS us MC _ (eU hv hc l9 _);have vH:=KW k;apply AF;apply ID;refine A6 λN6 OR=>AA<|A0Z (NX U.length d A0 A0) Jf ?_;refine A6 λN hN=>C9 AY AP 17 AP ?_
   refine A11 Jf AF0 ?_;refine⟨_,.of (JK (h:=h) (hc:=hc) (a:=un d) (ha:=l9) (k:=U.getD d 0) (hk:=A0)),?_⟩;refine aT ?_
   refine⟨_,.of (hpj),?_⟩;refine aT ?_
   apply hN;refine RW ?_;refine A6 λN7 S6=>RW ?_;refine AA<|BX (λGx Tb=>?_);dsimp only at Tb
   have Ws:=vF (L:=((WA (pc U pw cj) us).map ints)) (k:=k) (by rw[hpL];exact P5) (hpG k P5);have Wt:=vF (L:=((U8 (pc U pw cj) us).map rows)) (k:=k) (by rw[Xw];exact P5) (hcG k P5);rw[hd]at Ws;have APG:List.take k ((WA (pc U pw cj) us).map ints)=[]:=by rw[VW];exact AS
   have APH:List.take k ((U8 (pc U pw cj) us).map rows)=[]:=by rw[VW];exact AS
   rw[APG,C8]at Ws;rw[APH,C8]at Wt;obtain⟨G1,K6⟩:∃g,lim (m2+31) Gx=g:=⟨_,rfl⟩;have Wh:∀i,i<m2+31->G1 i=Gx i:=λi hi=>by rw[<-K6];exact if_pos hi
   have HX:∀i cs,G1 i=some cs->i<m2+31:=λi cs hi=>by
    rw[<-K6]at hi;by_cases e:i<m2+31
    ·exact e
    simp only[lim,e,if_false]at hi;cases hi
   have Gl:=NC;have Cd:G1 (nx+2+4+4+1)=some [oA o fr.length,.h (m2+4+7+17) 0 1,.nl]:=by rw[Wh _ A0,<-Tb];simp(disch:=omega)only[AB,AD]
   have Ce:G1 (m2+4+7+17)=some (((WA (pc U pw cj) us).map ints).take (k+1)):=by rw[Wh _ A0,<-Tb];simp(disch:=omega)only[AB,AD];rw[Ws];rfl
   have AF2:G1 (nx+1)=some [.nl,.nl,.nl]:=by rw[Wh _ A0,<-Tb];simp(disch:=omega)only[AB,AD]
   have AF3:Gx (m2+31)=some []:=by rw[<-Tb];simp(disch:=omega)only[AB,AD]
   have Cf:∀i cs,oH DD o ((TF U us).map (AV.i .i64)) i=some cs->G1 i=some cs:=λi cs hi=>by
    have hb:=z8 GF hi;rw[Wh _ A0,<-Tb];simp(disch:=omega)only[AB];exact hi
   refine AM (α:=Nat×Nat) (λx=>sl 101 [(1,D7 U.length us),(2,AU U pw cj),(4,.q (nx+1) 0),(5,.i .i64 U.length),(6,ints (oO U.length us)),(7,.q (nx+2+4+4+1) 0),(9,.i .i64 k),(10,vi U.length (un d)),(11,.h x.2 0 x.1),(12,.i .i64 ((k+1+x.1:Nat):Int))]) (λx=>CJ G1 x.2 (some (((L8 (pc U pw cj) us k).map ints).take x.1))) (λx m=>(x.1<=fr.length-(k+1))/\(m2+31)<=x.2/\x.2<m) (λx=>fr.length-(k+1)-x.1) ((0,(m2+31))) ?_ ?_ (lp0 AF3 Wh HX) ?_
   ·exact⟨B5,AI,AI⟩
   ·simp(disch:=omega) [EJ,EN,sl,AU,ints,rows,B6,D7]<;>(repeat' apply And.intro)<;>first|omega|exact .inr rfl
   rintro⟨j,w⟩ m3 ⟨hj,hw1,hw2⟩;refine BH ?_;dsimp only at hj hw1 hw2 ⊢;refine A6 λN8 VK=>RW ?_;refine AK ?_ ?_<;>intro h3
   ·obtain⟨e,he⟩:=EK (fr.getD (k+1+j) 0);obtain⟨zI,iK⟩:=z6 (k+1+j) A0;have bQ:=hce k j A0;rw[he]at zI iK;rw[he,hd]at bQ;have Ha:T (pc U pw cj) 0 (un e):=(ZC hv iK).1.mono hv (AE e);have vG:DZ prog 117 [CI U pw cj,D7 U.length us,vi U.length (PI (pc U pw cj) (un e) (un d))] (ints (mV (pc U pw cj) us d e)):=OO U pw cj h hc hS us MC _ (MB hv hc Ha l9).1;have jX:=vF (L:=((L8 (pc U pw cj) us k).map ints)) (k:=j) (by rw[A4];omega) bQ;apply AF;apply VK;refine A6 λN9 ZW=>AA<|C9 AY AP 14 AP ?_
    refine Kw zI ?_;refine⟨_,.of (NX U.length e A0 A0),?_⟩;refine aT ?_
    refine⟨_,.of (TP (h:=h) (hc:=hc) (a:=un e) (b:=un d) (ha:=Ha) (hb:=l9)),?_⟩;refine aT ?_
    refine⟨_,.of (vG),?_⟩;refine aT ?_
    apply ZW;refine tY ?_;refine⟨(j+1,m3+4+14),?_,by dsimp only;rw[jX];intro i9 cs hd9;simp only[CJ,ints]at hd9 ⊢;grind,?_,?_⟩
    ·simp(disch:=omega) [EJ,EN,sl,AU,ints,rows,B6,D7,DV]<;>(repeat' apply And.intro)<;>first|omega|exact .inr rfl
    ·exact⟨AI,AI,AI⟩
    exact AI
   have hje:j=fr.length-(k+1):=A0;have htz:List.take j ((L8 (pc U pw cj) us k).map ints)=((L8 (pc U pw cj) us k).map ints):=AJ (by rw[A4];omega);have hrz:AV.v j ((L8 (pc U pw cj) us k).map ints)=rows (L8 (pc U pw cj) us k):=by unfold rows;rw[KW k,hje]
   rw[<-hrz]at Wt;apply AO;apply S6;refine IQ 11 w j _ rfl (AD _ _ _) (by rw[B1,A4,vH];omega) ?_;refine BH ?_;rw[htz];apply rQ;simp-dsimp-implicitDefEqProofs(maxSteps:=800000) (disch:=omega)only[go_sem,A1,ints,CI,AU,vi,D7,Cd,Gl,AF1];apply OR;refine BX (λG5 KK=>?_);dsimp only at KK;have hq5:∀i cs,qH (nx+2+4+4+1) (nx+1) o fr.length ((TF U us).map (AV.i .i64)) (k+1) (((WA (pc U pw cj) us).map ints).take (k+1)) (((U8 (pc U pw cj) us).map rows).take (k+1)) (some (m2+4+7+17,m3+4+4)) i=some cs->G5 i=some cs:=by
    refine AA1 (λi cs hi=>?_) ?_ ?_ ?_ ?_
    ·have hb:=z8 GF hi;rw[<-KK];simp(disch:=omega)only[AB];exact Cf i cs hi
    ·rw[<-KK];simp(disch:=omega)only[AB];exact Ce
    ·rw[Wt,<-KK];simp(disch:=omega)only[AB,AD]
    ·rw[<-KK];simp(disch:=omega)only[AB];exact AF2
    rw[<-KK];simp(disch:=omega)only[AB,AD];try simp only[Oh,BS]
   refine tY ?_;refine⟨(k+1,some (m2+4+7+17,m3+4+4)),?_,hq5,?_,?_⟩
   ·exact GD
   ·exact⟨⟨AI,AI⟩,B5,λq hq=>by cases hq;dsimp only;omega⟩
   exact AI
  apply AO;apply FD;refine sQ λN hN=>?_;simp-dsimp-implicitDefEqProofs(maxSteps:=800000) (disch:=omega)only[go_sem,ints,CI,AU,vi,D7,RJ];apply hN;refine BQ ?_;have hF:fr.length=0:=A0
  have e3:WA (pc U pw cj) us=[]:=AX.1 (by rw[A4]at hpL;omega);have e4:U8 (pc U pw cj) us=[]:=AX.1 (by rw[A4]at Xw;omega);rw[e3,e4];exact Vw.CI (v1 _ (λi cs hi=>by have hb:=z8 GF hi;simp(disch:=omega)only[AB];exact hi)) .nl .nl
 refine BH ?_;dsimp only[qH]at NC Q8 h20 XA ⊢
 obtain⟨⟨y1,y2⟩,⟨z1,z2⟩,nyz⟩:=XA _ rfl
 dsimp only at y1 y2 z1 z2 nyz
 have AF0:min k (WA (pc U pw cj) us).length=k:=by rw[A4]at hpL;omega
 have AF1:min k (U8 (pc U pw cj) us).length=k:=by rw[A4]at Xw;omega
 have Oh:=NC
 refine A6 λPf R9=>RW ?_;refine AK ?_ ?_<;>intro h4
 ·have P5:k<fr.length:=A0;obtain⟨d,hd⟩:=EK (fr.getD k 0);obtain⟨Jf,cB⟩:=z6 k P5;rw[hd]at Jf cB;have Pg:=FQ (h.2.1 d cB);have l9:T (pc U pw cj) 0 (un d):=(ZC hv cB).1.mono hv (AE d);have hpj:DZ prog 117 [CI U pw cj,D7 U.length us,vi U.length (T6 (pc U pw cj) (un d) (U.getD d 0))] (ints (pJ (pc U pw cj) us d)):=OO U pw cj h hc hS us MC _ (eU hv hc l9 _);have vH:=KW k;apply AF;apply R9;refine A6 λXo T3=>AA<|A0Z (NX U.length d A0 A0) Jf ?_;refine A6 λN hN=>C9 AY AP 17 AP ?_
  refine A11 Jf AF0 ?_;refine⟨_,.of (JK (h:=h) (hc:=hc) (a:=un d) (ha:=l9) (k:=U.getD d 0) (hk:=A0)),?_⟩;refine aT ?_
  refine⟨_,.of (hpj),?_⟩;refine aT ?_
  apply hN;refine RW ?_;refine A6 λN12 ZL=>RW ?_;refine AA<|BX (λGx Tb=>?_);dsimp only at Tb
  have Ws:=vF (L:=((WA (pc U pw cj) us).map ints)) (k:=k) (by rw[hpL];exact P5) (hpG k P5);have Wt:=vF (L:=((U8 (pc U pw cj) us).map rows)) (k:=k) (by rw[Xw];exact P5) (hcG k P5);rw[hd]at Ws;obtain⟨G1,K6⟩:∃g,lim (m2+31) Gx=g:=⟨_,rfl⟩;have Wh:∀i,i<m2+31->G1 i=Gx i:=λi hi=>by rw[<-K6];exact if_pos hi
  have HX:∀i cs,G1 i=some cs->i<m2+31:=λi cs hi=>by
   rw[<-K6]at hi;by_cases e:i<m2+31
   ·exact e
   simp only[lim,e,if_false]at hi;cases hi
  have Cd:G1 (nx+2+4+4+1)=some [oA o fr.length,.h (m2+4+7+17) 0 (k+1),.h z 0 k]:=by rw[Wh _ A0,<-Tb];simp(disch:=omega)only[AB,AD]
  have Ce:G1 (m2+4+7+17)=some (((WA (pc U pw cj) us).map ints).take (k+1)):=by rw[Wh _ A0,<-Tb];simp(disch:=omega)only[AB,AD];rw[Ws];rfl
  have AF2:G1 (nx+1)=some [.nl,.nl,.nl]:=by rw[Wh _ A0,<-Tb];simp(disch:=omega)only[AB,AD]
  have AF3:Gx (m2+31)=some []:=by rw[<-Tb];simp(disch:=omega)only[AB,AD]
  have Cf:∀i cs,oH DD o ((TF U us).map (AV.i .i64)) i=some cs->G1 i=some cs:=λi cs hi=>by
   have hb:=z8 GF hi;rw[Wh _ A0,<-Tb];simp(disch:=omega)only[AB];exact hi
  have Gl:G1 z=some (((U8 (pc U pw cj) us).map rows).take k):=by rw[Wh _ A0,<-Tb];simp(disch:=omega)only[AB,AD]
  refine AM (α:=Nat×Nat) (λx=>sl 101 [(1,D7 U.length us),(2,AU U pw cj),(4,.q (nx+1) 0),(5,.i .i64 U.length),(6,ints (oO U.length us)),(7,.q (nx+2+4+4+1) 0),(9,.i .i64 k),(10,vi U.length (un d)),(11,.h x.2 0 x.1),(12,.i .i64 ((k+1+x.1:Nat):Int))]) (λx=>CJ G1 x.2 (some (((L8 (pc U pw cj) us k).map ints).take x.1))) (λx m=>(x.1<=fr.length-(k+1))/\(m2+31)<=x.2/\x.2<m) (λx=>fr.length-(k+1)-x.1) ((0,(m2+31))) ?_ ?_ (lp0 AF3 Wh HX) ?_
  ·exact⟨B5,AI,AI⟩
  ·simp(disch:=omega) [EJ,EN,sl,AU,ints,rows,B6,D7]<;>(repeat' apply And.intro)<;>first|omega|exact .inr rfl
  rintro⟨j,w⟩ m3 ⟨hj,hw1,hw2⟩;refine BH ?_;dsimp only at hj hw1 hw2 ⊢;refine A6 λN13 dF=>RW ?_;refine AK ?_ ?_<;>intro h5
  ·obtain⟨e,he⟩:=EK (fr.getD (k+1+j) 0);obtain⟨zI,iK⟩:=z6 (k+1+j) A0;have bQ:=hce k j A0;rw[he]at zI iK;rw[he,hd]at bQ;have Ha:T (pc U pw cj) 0 (un e):=(ZC hv iK).1.mono hv (AE e);have vG:DZ prog 117 [CI U pw cj,D7 U.length us,vi U.length (PI (pc U pw cj) (un e) (un d))] (ints (mV (pc U pw cj) us d e)):=OO U pw cj h hc hS us MC _ (MB hv hc Ha l9).1;have jX:=vF (L:=((L8 (pc U pw cj) us k).map ints)) (k:=j) (by rw[A4];omega) bQ;apply AF;apply dF;refine A6 λN14 p5=>AA<|C9 AY AP 14 AP ?_
   refine Kw zI ?_;refine⟨_,.of (NX U.length e A0 A0),?_⟩;refine aT ?_
   refine⟨_,.of (TP (h:=h) (hc:=hc) (a:=un e) (b:=un d) (ha:=Ha) (hb:=l9)),?_⟩;refine aT ?_
   refine⟨_,.of (vG),?_⟩;refine aT ?_
   apply p5;refine tY ?_;refine⟨(j+1,m3+4+14),?_,by dsimp only;rw[jX];intro i9 cs hd9;simp only[CJ,ints]at hd9 ⊢;grind,?_,?_⟩
   ·simp(disch:=omega) [EJ,EN,sl,AU,ints,rows,B6,D7,DV]<;>(repeat' apply And.intro)<;>first|omega|exact .inr rfl
   ·exact⟨AI,AI,AI⟩
   exact AI
  have hje:j=fr.length-(k+1):=A0;have htz:List.take j ((L8 (pc U pw cj) us k).map ints)=((L8 (pc U pw cj) us k).map ints):=AJ (by rw[A4];omega);have hrz:AV.v j ((L8 (pc U pw cj) us k).map ints)=rows (L8 (pc U pw cj) us k):=by unfold rows;rw[KW k,hje]
  rw[<-hrz]at Wt;apply AO;apply ZL;refine IQ 11 w j _ rfl (AD _ _ _) (by rw[B1,A4,vH];omega) ?_;refine BH ?_;rw[htz];apply rQ;simp-dsimp-implicitDefEqProofs(maxSteps:=800000) (disch:=omega)only[go_sem,A1,ints,CI,AU,vi,D7,Cd,Gl,AF1];apply T3;refine BX (λG5 KK=>?_);dsimp only at KK;have hq5:∀i cs,qH (nx+2+4+4+1) (nx+1) o fr.length ((TF U us).map (AV.i .i64)) (k+1) (((WA (pc U pw cj) us).map ints).take (k+1)) (((U8 (pc U pw cj) us).map rows).take (k+1)) (some (m2+4+7+17,m3+4+4)) i=some cs->G5 i=some cs:=by
   refine AA1 (λi cs hi=>?_) ?_ ?_ ?_ ?_
   ·have hb:=z8 GF hi;rw[<-KK];simp(disch:=omega)only[AB];exact Cf i cs hi
   ·rw[<-KK];simp(disch:=omega)only[AB];exact Ce
   ·rw[Wt,<-KK];simp(disch:=omega)only[AB,AD]
   ·rw[<-KK];simp(disch:=omega)only[AB];exact AF2
   rw[<-KK];simp(disch:=omega)only[AB,AD];try simp only[Oh,BS]
  refine tY ?_;refine⟨(k+1,some (m2+4+7+17,m3+4+4)),?_,hq5,?_,?_⟩
  ·exact GD
  ·exact⟨⟨AI,AI⟩,B5,λq hq=>by cases hq;dsimp only;omega⟩
  exact AI
 apply AO;apply FD;refine sQ λN hN=>?_;simp-dsimp-implicitDefEqProofs(maxSteps:=800000) (disch:=omega)only[go_sem,ints,CI,AU,vi,D7,RJ];apply hN;refine BQ ?_;have hkF:k=fr.length:=A0
 have e3:List.take k ((WA (pc U pw cj) us).map ints)=((WA (pc U pw cj) us).map ints):=AJ A0
 have e4:List.take k ((U8 (pc U pw cj) us).map rows)=((U8 (pc U pw cj) us).map rows):=AJ A0
 rw[e3,e4]
 rw[A4]at hpL Xw
 exact Vw.CI (v1 _ (λi cs hi=>by have hb:=z8 GF hi;simp(disch:=omega)only[AB];exact hi)) (Vw.rws A0 J4) (AL0 A0 J4)
end
end
section
def LP(a)(ha:a.length<=1048576):DZ prog 17 [ints a,ints a] (.b true):=by
 refine BI AY func17 rfl AP ntmps17 results17 (.b _) (λnx cX=>?_)
 refine sG ?_;refine A6 λN1 CW=>sG ?_;refine DJ rfl ?_;apply AF;apply CW;refine A6 λN2 DN=>sG ?_;refine AA<|AM (α:=Nat) (λx=>sl 26 [(0,ints a),(1,ints a),(5,.i .i64 x)]) (λ_=>DD) (λx m=>x<=a.length) (λx=>a.length-x) (0) ?_ ?_ (λ_ _ h=>h) ?_
 ·omega
 ·simp(disch:=omega) [EJ,EN,sl,DV,ints,rows,B6,ints,CB,DV,bne_self_eq_false]<;>omega
 rintro k m hk
 refine BH ?_;refine A6 λN3 DO=>sG ?_;refine AK ?_ ?_<;>intro h1
 ·apply AF;apply DO;refine A6 λN4 FD=>AA<|A6 λN hN=>?_;refine UR AY AP [true,true,true,true,true,true,true,true,true] AP ?_
  (try simp-dsimp-implicitDefEqProofs(disch:=omega)only[go_sem,bne_self_eq_false,CB,ints]);apply hN;refine DJ rfl ?_;apply AF;apply FD;apply rQ;simp-dsimp-implicitDefEqProofs(disch:=omega)only[go_sem,bne_self_eq_false,CB,ints];refine BB (k+1) ?_ ?_ ?_
  ·simp(disch:=omega) [EJ,EN,sl,DV,ints,rows,B6,ints,CB,DV,bne_self_eq_false]<;>omega
  ·omega
  exact AI
 apply AO;apply DN;refine sG ?_;apply DQ;simp-dsimp-implicitDefEqProofs(disch:=omega)only[go_sem];all_goals rfl
def Tc(a e):NR (.t [ints a,.i .i64 e]):=NR.ts (λx hx=>by
 simp at hx;rcases hx with rfl|rfl
 ·exact IC _
 exact .i _ _)
def Td{H e}:Vw H (.t [.nl,.i .i64 e]) (.t [ints [],.i .i64 e]):= .t _ _ rfl λk x y hx hy=>by
 match k,hx,hy with
 |0,hx,hy=>cases hx;cases hy;exact .nl
 |1,hx,hy=>cases hx;cases hy;exact .refl _
section
variable(U:C2)(pw:D4)(cj:E6)
def P4(hl:PR U pw cj)(h:BW U pw cj)(hc:HN (pc U pw cj) 0){u}(hu:u=QK (pc U pw cj) (IT U.length) (IT U.length)){ot qw dj}(hQ:TF U u=ot/\WA (pc U pw cj) u=qw/\U8 (pc U pw cj) u=dj){w c Y}(hI:A7K ot qw dj w c Y):DZ prog 15 [CI U pw cj] (.t [ints Y,.i .i64 (0:Nat)]):=by
 have XU:=JI U pw cj hl
 rw[KU ⟨h,hc⟩]at XU
 have hpi:=WO U pw cj h hc hu hQ hI
 refine BI AY func15 rfl AP ntmps15 results15 (Tc _ _) (λnx cX=>?_)
 refine GC ?_;refine BN 1 nx _ rfl (AD _ _ _) ?_
 refine BH ?_;refine A6 λN1 CW=>ZK (XU) ?_;refine AK ?_ ?_<;>intro h1
 ·refine GC ?_;refine BQ ?_;cases h1
 apply AF;apply CW;refine ZK (hpi) ?_;refine BQ ?_;rfl
def VP(hl:PR U pw cj)(lG:¬(BW U pw cj/\HN (pc U pw cj) 0)):DZ prog 15 [CI U pw cj] (.t [ints [],.i .i64 (1:Nat)]):=by
 have XU:=JI U pw cj hl
 rw[JQ lG]at XU
 refine DA AY func15 rfl AP ntmps15 results15 ((Tc _ _)) (λnx cX=>?_)
 refine GC ?_;refine BN 1 nx _ rfl (AD _ _ _) ?_
 refine BH ?_;refine A6 λN1 CW=>ZK (XU) ?_;refine AK ?_ ?_<;>intro h1
 ·refine GC ?_;refine BQ ?_;exact Td
 exact absurd h1 B5
def VB(hl:PR U pw cj)(h:BW U pw cj)(hc:HN (pc U pw cj) 0){u}(hu:u=QK (pc U pw cj) (IT U.length) (IT U.length)){ot qw dj}(hQ:TF U u=ot/\WA (pc U pw cj) u=qw/\U8 (pc U pw cj) u=dj){w c Y}(hI:A7K ot qw dj w c Y):DZ prog 16 [CI U pw cj] (.t [ints Y,.i .i64 (0:Nat)]):=by
 have Q4:=h.1.1
 have hv:=h.val
 have hp:∀d,d<(pc U pw cj).n->O8 ((pc U pw cj).o d):=λd hd=>h.2.1 d hd
 have hT:=XS hv
 have Lr:=XI U pw cj hl
 rw[KU ⟨h,hc⟩]at Lr
 have hwh:=pT U pw cj A0
 have hcm:=pX U pw cj h hc (IT U.length) (IT U.length) (by rw[U7];omega) (by rw[U7];omega) hT hT
 rw[<-hu]at hcm
 have MC:RA (pc U pw cj) (Ge (pc U pw cj)) u:=by rw[hu];exact uX hv hc hp
 have hqo:=xU U pw cj h hc (YW hv hc) u MC
 rw[hQ.1,hQ.2.1,hQ.2.2]at hqo
 have hiv:=bR ot qw dj hI.pr hI.co hI.rt hI.sm (by have a:=congrArg List.length hI.sq;have b:=hI.ii.length_eq;have d:=hI.le;rw[A4]at a b;omega)
 rw[hI.sq]at hiv
 refine BI AY func16 rfl AP ntmps16 results16 (Tc _ _) (λnx cX=>?_)
 refine GC ?_;refine BN 1 nx _ rfl (AD _ _ _) ?_
 refine BH ?_;refine A6 λN1 CW=>ZK (Lr) ?_;refine AK ?_ ?_<;>intro h1
 ·refine GC ?_;refine BQ ?_;cases h1
 apply AF;apply CW;refine ZK (hwh) ?_;refine A6 λN hN=>C9 AY AP 9 AP ?_
 refine A0N ?_;refine⟨_,.of (hcm),?_⟩
 refine FF ?_
 refine⟨_,.of (hqo),?_⟩
 refine FF ?_
 refine⟨_,.of (hiv),?_⟩
 refine FF ?_
 apply hN;refine BQ ?_;rfl
def VQ(hl:PR U pw cj)(lG:¬(BW U pw cj/\HN (pc U pw cj) 0)):DZ prog 16 [CI U pw cj] (.t [ints [],.i .i64 (1:Nat)]):=by
 have Lr:=XI U pw cj hl
 rw[JQ lG]at Lr
 refine DA AY func16 rfl AP ntmps16 results16 ((Tc _ _)) (λnx cX=>?_)
 refine GC ?_;refine BN 1 nx _ rfl (AD _ _ _) ?_
 refine BH ?_;refine A6 λN1 CW=>ZK (Lr) ?_;refine AK ?_ ?_<;>intro h1
 ·refine GC ?_;refine BQ ?_;exact Td
 exact absurd h1 B5
end
end
section
def A3D{cX P c s K a b}(k L cs)(hk:s.t[k]? =some L)(hL:LC s.H a b L cs)(hs:AW cX P c ⟨s.t.set k (.v cs.length cs),dl s.H L,s.nx⟩ K):AW cX P c s K:=by
 rcases hL with ⟨rfl,rfl⟩|⟨id,rfl,hc,_,_⟩
 ·refine AW.fz (s':=⟨s.t.set k (.v 0 []),s.H,s.nx⟩) ⟨iX hk .nl,?_,A1 _⟩ hs;intro id LI h;exact⟨LI,h,rfl,λq x y h1 h2=>by rw[h1]at h2;cases h2;exact .refl _⟩
 exact IQ k id cs.length cs hk hc rfl hs
structure iD(N:Nat)(U:C2)(X:D4)(Y:E6):Prop where
 o:U.length<=N
 p:X.length=U.length
 c:Y.length=U.length
 r:∀k,k<U.length->(Y.getD k []).length=U.length-1-k
 pl:∀x∈X,x.length<=6*N
 cl:∀y∈Y,∀x∈y,x.length<=6*N
 ob:∀x∈U,-1000<=x/\x<=1000
def iD.more{N M U X Y}(h:iD N U X Y)(hm:N<=M):iD M U X Y:=⟨by have:=h.o;omega,h.p,h.c,h.r,λx hx=>by have:=h.pl x hx;omega,λy hy x hx=>by have:=h.cl y hy x hx;omega,h.ob⟩
def iD.nil:iD 0 [] [] []:=⟨B5,rfl,rfl,B5,B5,B5,B5⟩
def QC{α:Type}{p:α->Prop}{X:List α}{d:α}(h:∀x∈X,p x)(hd:p d)(k:Nat):p (X.getD k d):=by
 by_cases hk:k<X.length
 ·rw[A5,A9 hk];exact h _ (BK hk)
 rw[A5,B8 A0];exact hd
def iD.row{N U X Y}(h:iD N U X Y)(k):(X.getD k []).length<=6*N:=QC h.pl B5 k
def iD.AL1{N U X Y}(h:iD N U X Y)(k l):((Y.getD k []).getD l []).length<=6*N:=
 QC (p:=λx:C2=>x.length<=6*N) (QC (p:=λy:D4=>∀x∈y,x.length<=6*N) h.cl B5 k) B5 l
def iD.bO{N k:Nat}{U:C2}{X:D4}{Y:E6}{w:C2}(h:iD N U X Y)(hw:w.length<=6*N):iD N U (X.set k w) Y:=⟨h.o,by rw[D2];exact h.p,h.c,h.r,rL h.pl hw,h.cl,h.ob⟩
def iD.kB{N k l:Nat}{U:C2}{X:D4}{Y:E6}{w:C2}(h:iD N U X Y)(hw:w.length<=6*N):iD N U X (Y.set k ((Y.getD k []).set l w)):=by
 refine⟨h.o,h.p,by rw[D2];exact h.c,λj hj=>?_,h.pl,rL h.cl (rL (QC (p:=λy:D4=>∀x∈y,x.length<=6*N) h.cl B5 k) hw),h.ob⟩;by_cases e:j=k
 ·subst e;have h1:=h.c;have h2:=h.r j hj;rw[show(Y.set j ((Y.getD j []).set l w)).getD j []=(Y.getD j []).set l w by simp[show j<Y.length by omega],D2];exact h2
 rw[show(Y.set k ((Y.getD k []).set l w)).getD j []=Y.getD j [] by rw[A5,LZ A0,<-A5]];exact h.r j hj
def AA2{N U}(h:U.length<=N)(hN:N<=64)(hb:∀x∈U,-1000<=x/\x<=1000):iD N U (ZE U.length) (U9 U.length):=by
 refine⟨h,rK _,rJ _,λk hk=>?_,λx hx=>?_,λy hy x hx=>?_,hb⟩
 ·rw[show(U9 U.length).getD k []=Wf U.length k by simp[U9,hk],kC];omega
 ·rw[(DX.1 hx).2];simp;omega
 obtain⟨i,_,rfl⟩:=AQ.1 hy;obtain⟨j,_,rfl⟩:=AQ.1 hx;rw[XT];omega
def HG(U)(hn:U.length<=1000)(nx){H xs}(hv:wU H xs [ints U]):AC prog 174 nx H xs (rgK nx H U (ZE U.length) (U9 U.length)):=AC.rg (RZ U hn nx) hv
def VC(n j:Nat)(hn:n<=1048576)(hj:j<n):DZ prog 116 [.i .i64 n,.i .i64 j] (ints (iB n j)):=(V9 n j hn hj).pure
def pY(N:Nat)(r:AV):Prop:=∃U X Y,r=CI U X Y/\iD N U X Y
def AL2(N:Nat)(r:AV):Prop:=∃U X Y e,r= .t [CI U X Y,.i .i64 e]/\iD N U X Y
def A7Z{H H2}:Fz H H2 (.g [.nl,.nl,.nl]) (CI [] [] []):= .g _ _ rfl λk x y hx hy=>by
 match k,hx,hy with
 |0,hx,hy=>cases hx;cases hy;exact .nl
 |1,hx,hy=>cases hx;cases hy;exact .nl
 |2,hx,hy=>cases hx;cases hy;exact .nl
structure QL(N lo m bx:Nat)(U:C2)(P B:AV)(bc:List AV)(X:D4)(Y:E6)(G:HP):Prop where
 cl:G bx=some [ints U,P,B]
 rg:Rn lo m P B X Y bc G
 sh:iD N U X Y
 lt:bx<lo
def QL.BV{N lo m m' bx U P B bc X Y G G'}(h:QL N lo m bx U P B bc X Y G)(hk:∀i,i<m->G' i=G i)(hlm:lo<=m)(hm:m<=m'):QL N lo m' bx U P B bc X Y G':=
 ⟨(hk bx (by have:=h.lt;omega)).trans h.cl,h.rg.BV (λi _ hi=>hk i hi) (A1 _) hm,h.sh,h.lt⟩
def QL.WQ{N lo m bx U P B bc X Y G}(h:QL N lo m bx U P B bc X Y G):one P=true/\one B=true:=⟨h.rg.p.one,h.rg.b.one⟩
def QL.bO{N lo m bx k U P B bc X Y G}(h:QL N lo m bx U P B bc X Y G)(hk:k<U.length):
    ∃p,P= .h p 0 U.length/\G bx=some [ints U,.h p 0 U.length,B]/\G p=some (X.map ints)/\(X.map ints).length=U.length/\(lo<=p/\p<m)/\∀(w:C2) (m':Nat),w.length<=6*N->m<=m'->QL N lo m' bx U P B bc (X.set k w) Y (CJ G p (some (DH (X.map ints) k [ints w]))):=by
  obtain⟨h1,h2,h3,h4⟩:=h;obtain⟨p,e,g1,g2,g3⟩:=h2.bO (k:=k) (by rw[h3.p];exact hk);rw[h3.p]at e;refine⟨p,e,by rw[h1,e],g1,by rw[A4,h3.p],g2,λw m' hw hm=>⟨?_,g3 _ w lo m' (AD _ _ _) (λj _ _ hj=>AB _ _ hj) (A1 _) hm,h3.bO hw,h4⟩⟩;rw[AB _ _ A0,h1]
def QL.kB{N lo m bx k l U P B bc X Y G}(h:QL N lo m bx U P B bc X Y G)(hk:k<U.length)(hl:l<U.length-1-k):
    ∃ b q,B= .h b 0 U.length/\G bx=some [ints U,P,.h b 0 U.length]/\G b=some bc/\bc.length=U.length/\(lo<=b/\b<m)/\bc.getD k .j= .h q 0 (U.length-1-k)/\G q=some ((Y.getD k []).map ints)/\((Y.getD k []).map ints).length=U.length-1-k/\(lo<=q/\q<m)/\b≠q/\
      ∀(w:C2) (m':Nat),w.length<=6*N->m<=m'->QL N lo m' bx U P B bc X (Y.set k ((Y.getD k []).set l w)) (CJ G q (some (DH ((Y.getD k []).map ints) l [ints w]))):=by
  obtain⟨h1,h2,h3,h4⟩:=h;have hr:=h3.r k hk;obtain⟨b,q,e,g1,g2,_,g4,g5,g6,g7,g8⟩:=h2.kB (k:=k) (l:=l) (by rw[h3.c];exact hk) A0;rw[h3.c]at e;rw[hr]at g4;refine⟨b,q,e,by rw[h1,e],g1,by rw[h2.bl,h3.c],g2,g4,g5,by rw[A4,hr],g6,g7,λw m' hw hm=>⟨?_,g8 _ w lo m' (AD _ _ _) (λj _ _ hj=>AB _ _ hj) (A1 _) hm,h3.kB hw,h4⟩⟩;rw[AB _ _ A0,h1]
def QL.start{N nx m bx U r G0 H1}(h:rgK nx G0 U (ZE U.length) (U9 U.length) m H1 r)(ho:U.length<=N)(hN:N<=64)(hb:∀x∈U,-1000<=x/\x<=1000)(I4:bx<nx):
    ∃P B bc,r= .g [ints U,P,B]/\one P=true/\one B=true/\(∀i,i<nx->H1 i=G0 i)/\QL N nx m bx U P B bc (ZE U.length) (U9 U.length) (CJ H1 bx (some [ints U,P,B])):=by
  obtain⟨P,B,bc,e,h1,h2⟩:=h;exact⟨P,B,bc,e,h1.p.one,h1.b.one,h2,AD _ _ _,h1.BV (λj _ _=>AB _ _ A0) (A1 _) (A1 _),AA2 ho hN hb,I4⟩
def QL.fz{N lo m bx n U P B bc X Y G G'}(h:QL N lo m bx U P B bc X Y G)(hk:∀i,lo<=i->G' i=G i)(hn:n<=lo):Fz G' (TN n G') (.g [ints U,P,B]) (CI U X Y):=(h.rg.BV (λi hi _=>hk i hi) (A1 _) (A1 _)).fz hn
set_option maxHeartbeats 2000000 in
def VR(n)(h0:1<=n)(h6:n<=64):∀nx,AC prog 222 nx DD [.i .i64 n] (λDI H' r=>∃r2,Fz H' (TN nx H') r r2/\AL2 6 r2):=by
 intro nx
 refine ED AY func222 rfl AP ntmps222 results222 (λcX=>?_)
 refine QW ?_;refine A6 λN1 CW=>sQ λN hN=>?_;simp-dsimp-implicitDefEqProofs(disch:=omega)only[go_sem,ints,CI];refine AC.pure (.of (Q7 n 1 729)) ?_;(try simp-dsimp-implicitDefEqProofs(disch:=omega)only[go_sem,ints,CI]);apply hN;refine AK ?_ ?_<;>intro h1
 ·omega
 apply AF;apply CW;refine sQ λN hN=>?_;refine Z7 ?_;refine(ON n h0 A0 _ _).CD ?_
 rintro m1 H1 r1 SF ⟨⟨fs,b,rfl,hp,ZJ⟩,vL⟩
 have Mn:H1 nx=some [.nl,.nl,.nl]:=(vL nx A0).trans (AD _ _ _)
 have ZR:=(kF hp A0).2 h6
 refine OX ?_
 apply hN;refine A6 λN2 DN=>QW ?_;refine AK ?_ ?_<;>intro h2
 ·refine UT Mn ?_;refine BQ ?_;exact⟨_,Fz.t2 A7Z,[],[],[],_,rfl,iD.nil.more A0⟩
 apply AF;apply DN;refine A6 λN3 DO=>QW ?_;refine AK ?_ ?_<;>intro h3
 ·omega
 apply AF;apply DO;refine sQ λN hN=>?_;refine Z7 ?_;refine(HG fs A0 _ (.cons (.refl _) .nil)).CD ?_
 intro m2 H2 r2 Q8 Mo
 obtain⟨P,B,bc,rfl,YE,UE,A3E,I4⟩:=QL.start (bx:=m1+2+3+2) Mo ZR A0 (λx hx=>by have:=ZJ x hx;omega) A0
 refine zR YE UE ?_
 apply hN;refine A6 λN4 FD=>BX (λG0 JM=>?_);dsimp only at JM
 have iU:QL 6 (m1+2+3+4) m2 (m1+2+3+2) fs P B bc (ZE fs.length) (U9 fs.length) G0:=by rw[<-JM];exact I4
 have h00:G0 nx=some [.nl,.nl,.nl]:=by rw[<-JM,AB _ _ A0];exact(A3E nx A0).trans Mn
 refine QW ?_;refine AA<|AM (α:=Nat×HP×D4×E6) (λx=>sl 43 [(2,.q nx 0),(3,.i .i64 0),(4,ints fs),(6,.q (m1+2+3+2) 0),(7,.i .i64 x.1)]) (λx=>x.2.1) (λx m=>(x.1<=fs.length/\m2<=m)/\x.2.1 nx=some [.nl,.nl,.nl]/\QL 6 (m1+2+3+4) m (m1+2+3+2) fs P B bc x.2.2.1 x.2.2.2 x.2.1) (λx=>fs.length-x.1) ((0,G0,ZE fs.length,U9 fs.length)) ?_ ?_ (λ_ _ h=>h) ?_
 ·exact⟨⟨B5,AI⟩,h00,iU.BV (λ_ _=>rfl) A0 AI⟩
 ·exact I2
 rintro⟨i,G,X,Y⟩ m ⟨⟨hi,hm⟩,JM,I4⟩
 refine BH ?_;dsimp only at hi hm JM I4 ⊢
 refine A6 λN5 ID=>QW ?_;refine AK ?_ ?_<;>intro h4
 ·obtain⟨p,hPe,VO,dD,VL,hp3,NA⟩:=I4.bO (k:=i) A0;have HX:=I4.lt;apply AF;apply ID;refine A6 λN6 OR=>AA<|C9 AY AP 9 AP ?_
  (try simp-dsimp-implicitDefEqProofs(disch:=omega)only[go_sem,BD,AR,B4,BE,AT,AS,GJ,ES,ET,ints,CI,DV,VO,dD,VL]);refine⟨_,.of (VC fs.length (i+1) A0 A0),?_⟩;(try simp-dsimp-implicitDefEqProofs(disch:=omega)only[go_sem,ints,CI,VO,dD,VL])
  apply OR;refine BX (λG3 J6=>?_);dsimp only at J6;refine lY ?_;refine BB (i+1,G3,X.set i (iB fs.length (i+1)),Y) ?_ ?_ ?_
  ·exact I2
  ·have gT:QL 6 (m1+2+3+4) (m+5+10+3) (m1+2+3+2) fs P B bc (X.set i (iB fs.length (i+1))) Y G3:=by rw[<-J6];exact NA _ _ (by rw[XT];omega) A0
   have bT:G3 nx=some [.nl,.nl,.nl]:=by rw[<-J6,AB _ _ A0];exact JM
   first|exact⟨⟨AI,AI⟩,bT,gT⟩|exact⟨AI,bT,gT⟩
  exact AI
 have Q5:=I4.cl
 have HX:=I4.lt
 apply AO;apply FD;refine sQ λN hN=>?_;simp-dsimp-implicitDefEqProofs(disch:=omega)only[go_sem,ints,CI,Q5,JM,I4.WQ.1,I4.WQ.2];apply hN;refine BQ ?_;exact⟨_,Fz.t2 (I4.fz (λi hi=>AB _ _ A0) A0),fs,X,Y,_,rfl,I4.sh⟩
def VS(n)(h0:1<=n)(h6:n<=64)(nx H):AC prog 222 nx H [.i .i64 n] (zK nx H (AL2 6)):=bP (VR n h0 h6 nx) H
def nH(a b:C2):List.take a.length (JP a.length λk=>a.getD k 0)++b.map (AV.i .i64)=(a++b).map (.i .i64):=by
 rw[<-RK,AJ B5,AZ]
def XV(U:C2)(k:Nat)(x:Int)(hn:U.length<=1000)(hk:k<=U.length)(ho:∀i,i<U.length->2<=U.getD i 0/\U.getD i 0<=1000)(hx:0<=x/\x<=1000000):DZ prog 259 [ints U,.i .i64 k,.i .i64 x] (ints (dgV U k x)):=(n8 U k x hn hk ho hx).pure
def NZ(b:Nat)(v:C2)(e:Nat)(hb:b<=1000)(hv:v.length<=1000)(he:e<=1000):DZ prog 227 [.i .i64 b,ints v,.i .i64 e] (ints (Jc b v e)):=(pM b v e hb hv he).pure
set_option maxHeartbeats 4000000 in
def vM(n q r0 s0)(hn:1<=n/\n<=64)(hq:1<=q/\q<=64)(hr:0<=r0/\r0<=64)(hs:0<=s0/\s0<=64):∀nx,AC prog 223 nx DD [.i .i64 n,.i .i64 q,.i .i64 r0,.i .i64 s0] (λDI H' r=>∃r2,Fz H' (TN nx H') r r2/\pY 12 r2):=by
 have hz:¬q=0:=A0
 intro nx
 refine ED AY func223 rfl AP ntmps223 results223 (λcX=>?_)
 refine UT hz ?_;refine sQ λN hN=>?_;refine lZ hz ?_;refine(ON n hn.1 A0 _ _).CD ?_
 rintro m1 H1 r1 SF ⟨⟨fD,b1,rfl,dD,AL3⟩,vL⟩
 have ARL:=(kF dD A0).2 hn.2
 refine OX ?_
 apply hN;refine sQ λN hN=>?_;refine lZ hz ?_;refine(ON q hq.1 A0 _ _).CD ?_
 rintro m2 H2 r2 Q8 ⟨⟨fs2,b2,rfl,VL,A72⟩,A3E⟩
 have ARM:=(kF VL A0).2 hq.2
 have vE:H2 nx=some [.nl,.nl,.nl]:=(A3E nx A0).trans ((vL nx A0).trans (AD _ _ _))
 refine OX ?_
 apply hN;refine sQ λN hN=>?_;refine lZ hz ?_;refine(IM fD A0 _ _).CD ?_
 rintro m3 H3 r3 U5 ⟨Ir,rfl,Dg,l5,rfl⟩
 refine lZ hz ?_
 apply hN;obtain⟨U,iJ⟩:=EK (fD++fs2)
 have Eg:U.length=fD.length+fs2.length:=by rw[<-iJ,AH]
 have sX:∀x∈U,2<=x/\x<=7:=λx hx=>by
  rw[<-iJ]at hx;rcases AG.1 hx with h|h
  ·exact AL3 x h
  exact A72 x h
 have o9:∀i,i<U.length->2<=U.getD i 0/\U.getD i 0<=1000:=λi hi=>by
  rw[A5,A9 hi];have:=sX _ (BK hi);simp;omega
 refine IQ 13 (m2+3) (fD.length+fs2.length) (U.map (.i .i64)) rfl (by dsimp only;rw[AD,nH,iJ]) (by rw[A4,Eg]) ?_
 rw[<-Eg]
 refine BX (λG0 JM=>?_);dsimp only at JM
 have h0n:G0 nx=some [.nl,.nl,.nl]:=by rw[<-JM];simp(disch:=omega)only[AB];exact vE
 refine BH ?_;refine sQ λN hN=>?_;refine lZ hz ?_;refine(HG U A0 _ (.cons (.refl _) .nil)).CD ?_
 intro m4 H4 r4 Xy Mo
 obtain⟨P,B,bc,rfl,YE,UE,XW,I4⟩:=QL.start (N:=12) (bx:=m3+2) Mo A0 A0 (λx hx=>by have:=sX x hx;omega) A0
 refine zR YE UE ?_
 apply hN;refine UT hz ?_;refine A6 λN1 CW=>BX (λG1 K6=>?_);dsimp only at K6
 have iU:QL 12 (m3+4) m4 (m3+2) U P B bc (ZE U.length) (U9 U.length) G1:=by rw[<-K6];exact I4
 have Df:G1 nx=some [.nl,.nl,.nl]:=by rw[<-K6,AB _ _ A0];exact(XW nx A0).trans h0n
 refine UT hz ?_;refine AA<|AM (α:=Nat×HP×D4) (λx=>sl 106 [(1,.i .i64 q),(2,.i .i64 r0),(3,.i .i64 s0),(8,.q nx 0),(9,ints fD),(13,ints U),(14,.q (m3+2) 0),(15,.i .i64 fD.length),(16,.i .i64 x.1)]) (λx=>x.2.1) (λx m=>(x.1<=U.length/\m4<=m)/\x.2.1 nx=some [.nl,.nl,.nl]/\QL 12 (m3+4) m (m3+2) U P B bc x.2.2 (U9 U.length) x.2.1) (λx=>U.length-x.1) ((0,G1,ZE U.length)) ?_ ?_ (λ_ _ h=>h) ?_
 ·exact⟨⟨B5,AI⟩,Df,iU.BV (λ_ _=>rfl) A0 AI⟩
 ·exact TJ hz
 rintro⟨i,G,X⟩ m ⟨⟨hi,hm⟩,JM,I4⟩
 refine BH ?_;dsimp only at hi hm JM I4 ⊢
 have HX:=I4.lt
 refine A6 λN2 DN=>UT hz ?_;refine AK ?_ ?_<;>intro h1
 ·obtain⟨p,hPe,VO,dD,VL,hp3,NA⟩:=I4.bO (k:=i) A0;apply AF;apply DN;refine A6 λN3 DO=>AA<|UT hz ?_;refine AK ?_ ?_<;>intro h2
  ·refine C9 AY AP 9 AP ?_;(try simp-dsimp-implicitDefEqProofs(disch:=omega)only[go_sem,BD,AR,B4,BE,AT,AS,GJ,ES,ET,ints,CI,DV,hz,VO,dD,VL]);refine⟨_,.of (VC U.length (i+1) A0 A0),?_⟩;(try simp-dsimp-implicitDefEqProofs(disch:=omega)only[go_sem,ints,CI,VO,dD,VL])
   apply DO;refine BX (λG3 J6=>?_);dsimp only at J6;apply rQ;simp-dsimp-implicitDefEqProofs(disch:=omega)only[go_sem,ints,CI,hz];refine BB (i+1,G3,X.set i (iB U.length (i+1))) ?_ ?_ ?_
   ·exact TJ hz
   ·have gT:QL 12 (m3+4) (m+5+4+10+3) (m3+2) U P B bc (X.set i (iB U.length (i+1))) (U9 U.length) G3:=by rw[<-J6];exact NA _ _ (by rw[XT];omega) A0
    have bT:G3 nx=some [.nl,.nl,.nl]:=by rw[<-J6,AB _ _ A0];exact JM
    first|exact⟨⟨AI,AI⟩,bT,gT⟩|exact⟨AI,bT,gT⟩
   exact AI
  apply AF;apply DO;refine BX (λG3 J6=>?_);dsimp only at J6;apply rQ;simp-dsimp-implicitDefEqProofs(disch:=omega)only[go_sem,ints,CI,hz];refine BB (i+1,G3,X) ?_ ?_ ?_
  ·exact TJ hz
  ·rw[J6]at JM I4;have gT:=I4.BV (m':=m+5+4+3) (λ_ _=>rfl) A0 A0;first|exact⟨⟨AI,AI⟩,JM,gT⟩|exact⟨AI,JM,gT⟩
  exact AI
 apply AO;apply CW;refine A6 λN4 FD=>UT hz ?_;refine AK ?_ ?_<;>intro h3
 ·obtain⟨p,hPe,VO,dD,VL,hp3,NA⟩:=I4.bO (k:=fD.length-1) A0;have ek:((fD.length:Int)-1).toNat=fD.length-1:=A0;refine C9 AY AP 9 AP ?_;(try simp-dsimp-implicitDefEqProofs(disch:=omega)only[go_sem,BD,AR,B4,BE,AT,AS,GJ,ES,ET,ints,CI,DV,hz,VO,dD,VL,ek]);refine⟨_,.of (XV U fD.length s0 A0 A0 o9 A0),?_⟩;(try simp-dsimp-implicitDefEqProofs(disch:=omega)only[go_sem,ints,CI,VO,dD,VL,ek])
  apply FD;refine BX (λG3 J6=>?_);dsimp only at J6;refine UT hz ?_;refine A6 λN5 ID=>UT hz ?_;apply AA;obtain⟨X1,hX1⟩:=EK (X.set (fD.length-1) (dgV U fD.length s0))
  obtain⟨mm,hmm⟩:=EK (m+5+2+10+4+1);have Ix:QL 12 (m3+4) mm (m3+2) U P B bc X1 (U9 U.length) G3:=by rw[<-J6,<-hX1];exact NA _ _ (by rw[Bu];omega) A0
  have bT:G3 nx=some [.nl,.nl,.nl]:=by rw[<-J6,AB _ _ A0];exact JM
  refine AM (α:=Nat×HP×E6×Int) (λx=>sl 106 [(1,.i .i64 q),(8,.q nx 0),(9,ints fD),(13,ints U),(14,.q (m3+2) 0),(15,.i .i64 fD.length),(17,.i .i64 x.2.2.2),(18,.i .i64 x.1)]) (λx=>x.2.1) (λx m=>(x.1<=fD.length/\mm<=m)/\x.2.1 nx=some [.nl,.nl,.nl]/\QL 12 (m3+4) m (m3+2) U P B bc X1 x.2.2.1 x.2.1/\0<=x.2.2.2/\x.2.2.2<q) (λx=>fD.length-x.1) ((0,G3,U9 U.length,r0.tmod q)) ?_ ?_ (λ_ _ h=>h) ?_
  ·exact⟨⟨B5,AI⟩,bT,Ix.BV (λ_ _=>rfl) A0 AI,Gn hr.1 hq.1⟩
  ·exact TJ hz
  rintro⟨i,G,Y,pw⟩ m ⟨⟨hi,hm⟩,JM,I4,o0⟩;refine BH ?_;dsimp only at hi hm JM I4 o0 ⊢;refine A6 λN6 OR=>UT hz ?_;refine AK ?_ ?_<;>intro h4
  ·apply AF;apply OR;refine A6 λN7 S6=>AA<|A6 λN8 VK=>?_;refine UT hz ?_;refine AA<|AM (α:=Nat×HP×E6) (λx=>sl 106 [(1,.i .i64 q),(8,.q nx 0),(9,ints fD),(13,ints U),(14,.q (m3+2) 0),(15,.i .i64 fD.length),(17,.i .i64 pw),(18,.i .i64 i),(19,.i .i64 ((fD.length+x.1:Nat):Int))]) (λx=>x.2.1) (λx m=>(fD.length+x.1<=U.length/\mm<=m)/\x.2.1 nx=some [.nl,.nl,.nl]/\QL 12 (m3+4) m (m3+2) U P B bc X1 x.2.2 x.2.1) (λx=>U.length-x.1) ((0,G,Y)) ?_ ?_ (λ_ _ h=>h) ?_
   ·exact⟨⟨by simp;omega,AI⟩,JM,I4.BV (λ_ _=>rfl) A0 AI⟩
   ·exact TJ hz
   rintro⟨d,G,Y⟩ m ⟨⟨hd,hm⟩,JM,I4⟩;refine BH ?_;dsimp only at hd hm JM I4 ⊢;have HX:=I4.lt;refine A6 λN9 ZW=>UT hz ?_;refine AK ?_ ?_<;>intro h5
   ·obtain⟨b,qq,hBe,Q5,UK,W3,gT,eV,dB,XA,sA,Sy,NA⟩:=I4.kB (k:=i) (l:=fD.length+d-i-1) A0 A0;have ek:(((fD.length+d:Nat):Int)-i-1).toNat=fD.length+d-i-1:=A0;apply AF;apply ZW;refine A6 λPf R9=>AA<|C9 AY AP 14 AP ?_
    (try simp-dsimp-implicitDefEqProofs(disch:=omega)only[go_sem,BD,AR,B4,BE,AT,AS,GJ,ES,ET,ints,CI,DV,hz,Q5,UK,W3,eV,dB,XA,ek]);refine⟨_,.of (XV U (fD.length+d) pw A0 A0 o9 A0),?_⟩;(try simp-dsimp-implicitDefEqProofs(disch:=omega)only[go_sem,ints,CI,Q5,UK,W3,eV,dB,XA,ek])
    apply R9;refine BX (λG5 KK=>?_);dsimp only at KK;apply rQ;simp-dsimp-implicitDefEqProofs(disch:=omega)only[go_sem,ints,CI,hz];refine BB (d+1,G5,Y.set i ((Y.getD i []).set (fD.length+d-i-1) (dgV U (fD.length+d) pw))) ?_ ?_ ?_
    ·exact E2
    ·have gU:QL 12 (m3+4) (m+4+15+3) (m3+2) U P B bc X1 (Y.set i ((Y.getD i []).set (fD.length+d-i-1) (dgV U (fD.length+d) pw))) G5:=by rw[<-KK];exact NA _ _ (by rw[Bu];omega) A0
     have vO:G5 nx=some [.nl,.nl,.nl]:=by rw[<-KK,AB _ _ A0];exact JM
     first|exact⟨⟨AI,AI⟩,vO,gU⟩|exact⟨AI,vO,gU⟩
    exact AI
   have nZ:i<fD.length:=A0;have Dq:=QC (p:=λx:Int=>0<=x/\x<=7) (X:=fD) (d:=0) (λx hx=>by have:=AL3 x hx;omega) A0 i;apply AO;apply VK;apply rQ;simp-dsimp-implicitDefEqProofs(disch:=omega)only[go_sem,CB,ints,CI,hz];refine(pP pw (fD.getD i 0) q A0 A0 A0 _ _).CD ?_;rintro m7 H7 r7 hm7 ⟨⟨x7,rfl,hx7⟩,He⟩;have fB:=I4.BV (G':=H7) (m':=m7+3) (λj hj=>He j A0) A0 A0;have h70:=(He nx A0).trans JM;refine lZ hz ?_
   apply S6;apply rQ;simp-dsimp-implicitDefEqProofs(disch:=omega)only[go_sem,ints,CI,hz];refine BB (i+1,H7,Y,x7) ?_ ?_ ?_
   ·exact TJ hz
   ·first|exact⟨⟨AI,AI⟩,h70,fB,hx7⟩|exact⟨AI,h70,fB,hx7⟩
   exact AI
  apply AO;apply ID;first|rw[J6]at I4 JM|skip
  have Q5:=I4.cl;have HX:=I4.lt;refine tF hz Q5 JM I4.WQ.1 I4.WQ.2 ?_;refine BQ ?_;exact⟨_,I4.fz (λi hi=>AB _ _ A0) A0,U,_,_,rfl,I4.sh⟩
 have VW:fD.length=0:=A0
 apply AF;apply FD;refine BX (λG3 J6=>?_);dsimp only at J6
 refine UT hz ?_;refine A6 λXo T3=>UT hz ?_;refine AA<|Es ?_;refine A6 λN12 ZL=>UT hz ?_;refine MG rfl (λh=>absurd h (by first|(simp;done)|(simp only[decide_eq_true_eq];omega))) (λ_=>?_)
 apply AO;apply T3;first|rw[J6]at I4 JM|skip
 have Q5:=I4.cl
 have HX:=I4.lt
 refine tF hz Q5 JM I4.WQ.1 I4.WQ.2 ?_;refine BQ ?_;exact⟨_,I4.fz (λi hi=>AB _ _ A0) A0,U,_,_,rfl,I4.sh⟩
def JN(n q r0 s0)(hn:1<=n/\n<=64)(hq:1<=q/\q<=64)(hr:0<=r0/\r0<=64)(hs:0<=s0/\s0<=64)(nx H):AC prog 223 nx H [.i .i64 n,.i .i64 q,.i .i64 r0,.i .i64 s0] (zK nx H (pY 12)):=bP (vM n q r0 s0 hn hq hr hs nx) H
end
end Go.Proofs.YtgknbnkmilddhaaGreat