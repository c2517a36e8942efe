import Derived.Test.YtgknbnkmilddhaaGreatZ04
import Derived.Test.YtgknbnkmilddhaaGreatZ06
import Derived.Test.YtgknbnkmilddhaaGreatZ14
import Derived.Test.YtgknbnkmilddhaaGreatZ16
import Derived.Test.YtgknbnkmilddhaaGreatZ17
import Derived.Test.YtgknbnkmilddhaaGreatZ18
import Derived.Test.YtgknbnkmilddhaaGreatZ19
set_option linter.all false

open Go.Proofs.Tryz
namespace Go.Proofs.YtgknbnkmilddhaaGreat
section
def AA0{F:List (Nat×Nat)}{c:Nat->Nat->Nat}{k:Nat}(h:k<F.length):iC (F.take (k+1)) c=iC (F.take k) c++By (F.getD k (0,0)).1 (c (F.getD k (0,0)).1) (F.getD k (0,0)).2:=by
 unfold iC;rw[B7 h,F4];simp[h]
def A39{F c k}:(iC (F.take k) c).length<=(iC F c).length:=by
 have:iC F c=iC (F.take k) c++iC (F.drop k) c:=by unfold iC;rw[<-F4,HR]
 rw[this,AH];omega
def Hb{s X c}:∀d,(By s c X).length<=(By s c (X+d)).length
 |0=>A1 _
 |d+1=>by rw[show X+(d+1)=X+d+1 from rfl,Sa,AH];exact CH (Hb d) A0
def A3A{F c k r x e j}(hk:k<F.length)(hy:F.getD k (0,0)=(r,x))(h1:1<=e)(he:e<=x)(hj:j<=c r e):(iC (F.take k) c++By r (c r) (e-1)++List.replicate j (r^e)).length<=(iC F c).length:=by
 have a:=A39 (F:=F) (c:=c) (k:=k+1);rw[AA0 hk,hy,AH]at a;have b:=Hb (s:=r) (c:=c r) (X:=e) (x-e);rw[show e+(x-e)=x by omega]at b;have d:=Sa (s:=r) (c:=c r) (X:=e-1);rw[show e-1+1=e by omega]at d;rw[d,AH,BZ]at b;rw[AH,AH,BZ];dsimp only at a;omega
def A7T{l}:TA l=(l.map λz:Nat=>(z:Int)).map (AV.i .i64):=by unfold TA;rw[GN];rfl
def AEV{g n i}(h:i<n):(TA ((List.range n).map g)).getD i .j= .i .i64 (g i:Nat):=by simp[TA,h]
def vI(xs:C2)(hl:xs.length<=12){a b nx H A}(hL:LC H a b A (xs.map (.i .i64))):AC prog 110 nx H [A] (λ_ H' _=>∃Y:C2,Y.Perm xs/\gV Y/\LC H' a b A (Y.map (.i .i64))):=by
 rcases hL with ⟨rfl,e⟩|⟨id,rfl,h,h1,h2⟩
 ·have e2:xs=[]:=GY.1 e;subst e2;exact(pI nx H).mono λ_ H' _ q=>⟨[],.refl _,λi j _ hj=>by simp at hj,by rw[q];exact LC.nil⟩
 rw[A4];exact(pH xs hl id nx H h).mono λ_ H' _ ⟨Y,y1,y2,q⟩=>⟨Y,y1,y2,by rw[q];exact LC.mk (AD _ _ _) (by rw[A4,y1.length_eq]) h1 h2⟩
section
variable(U:C2)(pw:D4)(cj:E6)
set_option maxHeartbeats 2000000 in
def WO(h:BW U pw cj)(hc:HN (pc U pw cj) 0){u}(hu:u=QK (pc U pw cj) (IT U.length) (IT U.length)){ot qw dj}(hQ:TF U u=ot/\WA (pc U pw cj) u=qw/\U8 (pc U pw cj) u=dj){w c Y}(hI:A7K ot qw dj w c Y):DZ prog 51 [AU U pw cj] (ints Y):=by
 have Q4:=h.1.1
 have hv:=h.val
 have hp:∀d,d<(pc U pw cj).n->O8 ((pc U pw cj).o d):=λd hd=>h.2.1 d hd
 have hT:=XS hv
 have hwh:=kN U pw cj A0
 have hcm:=Qj (PV U pw cj h hc (IT U.length) (IT U.length) (by rw[U7];omega) (by rw[U7];omega) hT hT)
 rw[<-hu]at hcm
 have MC:RA (pc U pw cj) (Ge (pc U pw cj)) u:=by rw[hu];exact uX hv hc hp
 have hqo:=(NY U pw cj h hc u MC).pure
 rw[hQ.1,hQ.2.1,hQ.2.2]at hqo
 clear MC hT hp hv hQ hu
 have hal:=dN ot qw dj hI.pr
 have Rl:=Z8 ot qw dj hI.pr
 have hnb:=yY hI.pr
 rw[<-oP hI.pr]at Rl
 obtain⟨Nq,hNq⟩:=EK (nG ot)
 obtain⟨F,hF⟩:=EK (YB Nq)
 have hle:=hI.le
 have Ur:=hI.ii
 have Wq:=hI.rt
 have Wj:=hI.sm
 rw[hNq]at Rl hnb hal hle Ur Wq Wj
 rw[hF]at hle Ur
 have hfa:=RR Nq A0 A0
 rw[hF]at hfa
 have aN:(T4 F).length=F.length:=by simp[T4]
 have dE:(UD F).length=F.length:=by simp[UD]
 have hFl:F.length<=4:=by rw[<-hF,kJ A0 hnb.2 Wj];exact Rs
 have hSm:∀x∈F,TO x.1/\1<=x.2/\x.2<=10:=λx hx=>by
  rw[<-hF,kJ A0 hnb.2 Wj]at hx;have hb:=Rr hx;unfold smL at hx;obtain⟨y,hy,rfl⟩:=AQ.1 (E0.1 hx).1;exact⟨by unfold TO;simpa using hy,hb.2⟩
 refine DA AY func51 rfl AP ntmps51 results51 ((IC _)) (λnx cX=>?_)
 refine NV ?_;refine sQ λN hN=>?_;refine TW ?_;refine tE (hwh) ?_
 refine tE (hwh) ?_
 refine tE (hcm) ?_
 refine tE (hqo) ?_
 apply hN;refine BN 3 (nx+1+8) [ints ot,rows qw,B6 dj] rfl (AD _ _ _) ?_
 refine BH ?_;refine Pm (hal) ?_;refine NV ?_;refine sQ λN hN=>?_;refine TW ?_;refine tE (Rl) ?_
 refine tE (hfa) ?_
 apply hN;refine A6 λN1 CW=>sQ λN hN=>?_;simp-dsimp-implicitDefEqProofs(disch:=omega)only[go_sem,A4,ints,CI,AU,aN];apply hN;refine AA<|AM (α:=Nat×HP×AV) (λx=>sl 111 [(2,.nl),(3,AU ot qw dj),(4,D7 ot.length (rI ot Nq)),(5,x.2.2),(7,ints (UD F)),(31,ints (T4 F)),(32,.i .i64 F.length),(33,.i .i64 x.1)]) (λx=>x.2.1) (λx m=>(x.1<=F.length/\nx<=m)/\LC x.2.1 nx m x.2.2 (TA (iC (F.take x.1) c))) (λx=>F.length-x.1) ((0,DD,.nl)) ?_ ?_ ((by intro d cs hd;cases hd)) ?_
 ·exact⟨⟨B5,AI⟩,LC.nil⟩
 ·exact YL aN dE
 rintro⟨k,G,A⟩ mA ⟨⟨hk,hm⟩,hA⟩
 dsimp only at hk hm hA ⊢
 simp only[AU];refine BH ?_;refine NV ?_;refine A6 λN2 DN=>AK ?_ ?_<;>intro h1
 ·obtain⟨⟨r,xx⟩,hy⟩:∃y,F.getD k (0,0)=y:=⟨_,rfl⟩;have hym:=hSm (r,xx) (by rw[<-hy];exact QR A0);dsimp only at hym;obtain⟨hr,Di,ARI⟩:=hym;have dJ:=hr.two;have hgp:(List.map (AV.i .i64) (T4 F)).getD k .j= .i .i64 (r:Nat):=by
   have:(List.map (AV.i .i64) (T4 F)).getD k .j= .i .i64 ((F.getD k (0,0)).1:Nat):=by simp[T4,show k<F.length by omega]
   rw[this,hy]
  have hgx:(List.map (AV.i .i64) (UD F)).getD k .j= .i .i64 (xx:Nat):=by
   have:(List.map (AV.i .i64) (UD F)).getD k .j= .i .i64 ((F.getD k (0,0)).2:Nat):=by simp[UD,show k<F.length by omega]
   rw[this,hy]
  have hr4:O8 (r:Int):=by unfold TO at hr;unfold O8;omega
  have hpo:∀e:Nat,e<=20->DZ prog 83 [.i .i64 r,.i .i64 e] (.i .i64 ((r^e:Nat):Int)):=λe he=>by
   have:=T0 (r:Int) e hr4 he;rw[show((r:Int)^e)=((r^e:Nat):Int) by simp]at this;exact this
  apply AF;apply DN;refine A6 λN3 DO=>AA<|sQ λN hN=>?_;simp-dsimp-implicitDefEqProofs(disch:=omega)only[go_sem,A4,ints,CI,AU,hgp,aN];apply hN;refine NV ?_;refine A6 λN4 FD=>NV ?_;refine AA<|AM (α:=Nat×HP×AV) (λx=>sl 111 [(2,.nl),(3,AU ot qw dj),(4,D7 ot.length (rI ot Nq)),(5,A),(7,ints (UD F)),(8,.i .i64 k),(9,.i .i64 r),(10,x.2.2),(11,.i .i64 x.1),(31,ints (T4 F)),(32,.i .i64 F.length),(33,.i .i64 k)]) (λx=>x.2.1) (λx m=>(x.1<=xx+2/\mA<=m)/\LC x.2.1 nx mA A (TA (iC (F.take k) c))/\LC x.2.1 mA m x.2.2 (TA ((List.range x.1).map (w r)))) (λx=>xx+2-x.1) ((0,G,.nl)) ?_ ?_ (λ_ _ h=>h) ?_
  ·exact⟨⟨B5,AI⟩,hA,LC.nil⟩
  ·exact YL aN dE
  rintro⟨e,G2,B⟩ m2 ⟨⟨he,Q8⟩,xT,hB⟩;dsimp only at he Q8 xT hB ⊢;have UE:=hB.one;have Iq:=hB.len;rw[JY,A4,DG]at Iq;simp only[AU];refine BH ?_;refine A6 λN5 ID=>sQ λN hN=>?_;simp-dsimp-implicitDefEqProofs(disch:=omega)only[go_sem,A4,ints,CI,AU,hgx,dE];apply hN;refine AK ?_ ?_<;>intro h2
  ·have dZ:e<=xx+1:=A0;apply AF;apply ID;refine A6 λN6 OR=>AA<|NV ?_;refine A6 λN7 S6=>NV ?_;refine AA<|AM (α:=Nat) (λx=>sl 111 [(2,.nl),(3,AU ot qw dj),(4,D7 ot.length (rI ot Nq)),(5,A),(7,ints (UD F)),(8,.i .i64 k),(9,.i .i64 r),(10,B),(11,.i .i64 e),(12,.i .i64 (iP ot qw dj ((r^e:Nat):Int) x:Nat)),(13,.i .i64 0),(31,ints (T4 F)),(32,.i .i64 F.length),(33,.i .i64 k),(47,D7 ot.length (rI ot Nq)),(48,.i .i64 Nq),(49,.i .i64 x)]) (λ_=>G2) (λx m=>x<=Nq/\m2<=m) (λx=>Nq-x) (0) ?_ ?_ (λ_ _ h=>h) ?_
   ·exact⟨A0,AI⟩
   ·simp(disch:=omega) [EJ,EN,sl,AU,D7,WC,iP,ints,aN,dE]
   rintro t m3 ⟨ht,U5⟩;simp only[AU];refine BH ?_;refine NV ?_;refine A6 λN8 VK=>AK ?_ ?_<;>intro h3
   ·have hgt:((rI ot Nq).map (vi ot.length)).getD t .j=vi ot.length (iM ot (t:Nat)):=AEG A0;have Ye:=Rj hI.pr t;have hqp:∀d,d<(pc ot qw dj).n->O8 ((pc ot qw dj).o d):=λd hd=>hI.pr.2.1 d hd
    have hof:=YY hI.pr hI.co (iM ot (t:Nat)) Ye;have hop:=Cb hI.pr.val ot.length 0 (iM ot (t:Nat)) (SD (BS _));have o9:=Cc hI.pr.val hI.co hqp ot.length 0 (iM ot (t:Nat)) (EB _) (AE _) Ye (r^e);obtain⟨O,hO⟩:=EK (Sk (pc ot qw dj) ot.length 0 (iM ot (t:Nat)));rw[hO]at hof hop o9;have hpv:T6 (pc ot qw dj) (iM ot (t:Nat)) ((r^e:Nat):Int)=rep (M (pc ot qw dj) 0) (iM ot (t:Nat)) (r^e):=by rw[T6,if_neg A0,CQ]
    have mF:(r^e)%O=0↔T6 (pc ot qw dj) (iM ot (t:Nat)) ((r^e:Nat):Int)=z0:=by rw[hpv,o9];exact⟨DY,IJ⟩
    obtain⟨z,hz⟩:=EK ((r^e)%O);rw[hz]at mF;have uY:=Bt (U:=ot) (pw:=qw) (cj:=dj) (k:=((r^e:Nat):Int)) t;apply AF;apply VK;refine A6 λN9 ZW=>AA<|sQ λN hN=>?_;simp-dsimp-implicitDefEqProofs(disch:=omega)only[go_sem,A4,WC,CI,AU,D7,hgt];apply hN;refine sQ λN hN=>?_;refine TW ?_;refine tE (hpo e A0) ?_
    refine AC.pure (.of (hof)) ?_;(try simp-dsimp-implicitDefEqProofs(disch:=omega)only[go_sem,CI,AU,tmN,hz])
    apply hN;refine AK ?_ ?_<;>intro h4
    ·have hs4:iP ot qw dj ((r^e:Nat):Int) (t+1)=iP ot qw dj ((r^e:Nat):Int) t+1:=by rw[iP,KU (mF.1 A0),if_pos rfl]
     refine Z6 ?_;apply ZW;refine Z6 ?_;refine BB (t+1) ?_ ?_ ?_
     ·simp(disch:=omega) [EJ,EN,sl,AU,D7,DV,ints,aN,dE,hs4,WC,-Int.natCast_pow]<;>omega
     ·exact⟨A0,AI⟩
     exact AI
    have hs4:iP ot qw dj ((r^e:Nat):Int) (t+1)=iP ot qw dj ((r^e:Nat):Int) t:=by rw[iP,JQ (λq=>by have:=mF.2 q;omega),if_neg B5];rfl
    apply AF;apply ZW;refine Z6 ?_;refine BB (t+1) ?_ ?_ ?_
    ·simp(disch:=omega) [EJ,EN,sl,AU,D7,DV,ints,aN,dE,hs4,WC,-Int.natCast_pow]<;>omega
    ·exact⟨A0,AI⟩
    exact AI
   obtain rfl:t=Nq:=A0;have hw:=Wq.pw r e hr;try dsimp only at hw
   have hwd:=Wq.bd r e hr;have hwb:w r e<=9:=by
    rcases BL 9 (w r e)with q|q
    ·have:=DE (n:=r) A0 (show 10<=w r e from q);have:=MT (show 2<=r by omega) 10;omega
    exact q
   apply AO;apply S6;refine A6 λPf R9=>AA<|AM (α:=Nat) (λx=>sl 111 [(2,.nl),(3,AU ot qw dj),(4,D7 ot.length (rI ot t)),(5,A),(7,ints (UD F)),(8,.i .i64 k),(9,.i .i64 r),(10,B),(11,.i .i64 e),(12,.i .i64 (r^(w r e-x):Nat)),(13,.i .i64 x),(31,ints (T4 F)),(32,.i .i64 F.length),(33,.i .i64 k)]) (λ_=>G2) (λx m=>x<=w r e/\m2<=m) (λx=>w r e-x) (0) ?_ ?_ (λ_ _ h=>h) ?_
   ·exact⟨A0,AI⟩
   ·simp(disch:=omega) [EJ,EN,sl,AU,ints,aN,dE,hw,-Int.natCast_pow]
   rintro j m4 ⟨hj,Xy⟩;simp only[AU];have Pg:r^(w r e-j)<=729:=CH (DE A0 A0) hwd;refine BH ?_;refine A6 λXo T3=>NV ?_;refine AK ?_ ?_<;>intro h5
   ·have hjw:j<w r e:=by
     rcases BL j (w r e)with q|q
     ·exact q
     rw[show w r e-j=0 by omega]at h5;simp at h5
    have hdv:r^(w r e-j)/r=r^(w r e-(j+1)):=by rw[show w r e-j=(w r e-(j+1))+1 by omega,HJ,Nat.mul_div_cancel _ A0]
    have hdb:r^(w r e-(j+1))<=729:=CH (DE A0 A0) hwd;apply AF;apply T3;refine A6 λN12 ZL=>AA<|Z6 ?_;apply ZL;apply rQ;simp-dsimp-implicitDefEqProofs(disch:=omega)only[go_sem,CI,AU,tdN,hdv];refine BB (j+1) ?_ ?_ ?_
    ·simp(disch:=omega) [EJ,EN,sl,AU,DV,ints,aN,dE,-Int.natCast_pow]<;>omega
    ·exact⟨A0,AI⟩
    exact AI
   have hjw:j=w r e:=by
    rcases BL j (w r e)with q|q
    ·have:=QO (n:=w r e-j) A0 (show 1<r by omega);omega
    omega
   subst hjw;apply AO;apply R9;apply rQ;simp-dsimp-implicitDefEqProofs(disch:=(first|omega|((repeat refine LC.CJ A0 ?_);assumption))) only[go_sem,CI,AU,UE,Iq,JY,F2 (a:=mA) (b:=m2) (L:=B) (cs:=TA ((List.range e).map (w r))),A4,DG];apply OR;refine BX (λG5 KK=>?_);dsimp only at KK;have hBb:=hB.bd;refine Z6 ?_;refine BB (e+1,G5,.h (m4+2+3) 0 (e+1)) ?_ ?_ ?_
   ·exact YL aN dE
   ·have hA5:LC G5 nx mA A (TA (iC (F.take k) c)):=xT.BV λi h1 h2=>by rw[<-KK,AB _ _ A0,DW A0,AB _ _ A0]
    have hB5:LC G5 mA (m4+2+5+3) (.h (m4+2+3) 0 (e+1)) (TA ((List.range (e+1)).map (w r))):=LC.mk (by rw[<-KK,AD,CX,AZ,BR,BU,Gr]) (by rw[JY,A4,DG]) A0 A0;exact⟨⟨AI,AI⟩,hA5,hB5⟩
   exact AI
  obtain rfl:e=xx+2:=A0;have hBb:=hB.bd;obtain⟨R,hR⟩:=EK (TA ((List.range (xx+2)).map (w r)));have Qp:R.length=xx+2:=by rw[<-hR,JY,A4,DG]
  have hRg:∀i,i<xx+2->R.getD i .j= .i .i64 (w r i:Nat):=λi hi=>by rw[<-hR];exact AEV hi
  rw[hR]at hB;clear hR;apply AO;apply FD;refine jQ 10 B _ rfl hB ?_;refine BH ?_;refine BX (λG6 uN=>?_);dsimp only at uN;have hA6:LC G6 nx mA A (TA (iC (F.take k) c++By r (c r) (1-1))):=by
   rw[show By r (c r) (1-1)=[]from rfl,C5];exact xT.BV λi h1 h2=>by rw[<-uN,DW A0]
  refine NV ?_;refine AA<|AM (α:=Nat×HP×AV) (λx=>sl 111 [(2,.nl),(3,AU ot qw dj),(4,D7 ot.length (rI ot Nq)),(5,x.2.2),(7,ints (UD F)),(9,.i .i64 r),(10,.v (xx+2) R),(16,.i .i64 x.1),(31,ints (T4 F)),(32,.i .i64 F.length),(33,.i .i64 k)]) (λx=>x.2.1) (λx m=>(1<=x.1/\x.1<=xx+1/\nx<=m)/\LC x.2.1 nx m x.2.2 (TA (iC (F.take k) c++By r (c r) (x.1-1)))) (λx=>xx+1-x.1) ((1,G6,A)) ?_ ?_ (λ_ _ h=>h) ?_
  ·exact⟨⟨B5,B5,AI⟩,hA6.wide (A1 _) AI⟩
  ·simp(disch:=omega) [EJ,EN,sl,AU,ints,aN,dE,Qp]
  rintro⟨e,G7,A7⟩ m7 ⟨⟨he1,he,hm7⟩,hA7⟩;dsimp only at he1 he hm7 hA7 ⊢;simp only[AU];refine BH ?_;refine A6 λN13 dF=>NV ?_;refine AK ?_ ?_<;>intro h6
  ·have hex:e<=xx:=A0;have hg0:=hRg (e) A0;have jC:=hRg (e-1) A0;have ZN:=hRg (e+1) A0;have wY:((e:Int)-1).toNat=e-1:=A0;have vJ:((e:Int)+1).toNat=e+1:=A0;have hsd:=Wq.sd r (e-1) hr;rw[show e-1+1=e by omega,show e-1+2=e+1 by omega]at hsd;have hwb:w r e<=9:=by
    have hwd:=Wq.bd r e hr;rcases BL 9 (w r e)with q|q
    ·have:=DE (n:=r) A0 (show 10<=w r e from q);have:=MT (show 2<=r by omega) 10;omega
    exact q
   apply AF;apply dF;refine A6 λN14 p5=>AA<|A6 λN hN=>?_;refine C9 AY AP 18 AP ?_
   (try simp-dsimp-implicitDefEqProofs(disch:=omega)only[go_sem,BD,AR,B4,BE,AT,AS,GJ,ES,ET,CI,AU,DV,hg0,jC,ZN,wY,vJ,Qp]);apply hN;refine AA<|AM (α:=Nat×HP×AV) (λx=>sl 111 [(2,.nl),(3,AU ot qw dj),(4,D7 ot.length (rI ot Nq)),(5,x.2.2),(7,ints (UD F)),(9,.i .i64 r),(10,.v (xx+2) R),(16,.i .i64 e),(31,ints (T4 F)),(32,.i .i64 F.length),(33,.i .i64 k),(97,.i .i64 (c r e:Nat)),(98,.i .i64 x.1)]) (λx=>x.2.1) (λx m=>(x.1<=c r e/\nx<=m)/\LC x.2.1 nx m x.2.2 (TA (iC (F.take k) c++By r (c r) (e-1)++List.replicate x.1 (r^e)))) (λx=>c r e-x.1) ((0,G7,A7)) ?_ ?_ (λ_ _ h=>h) ?_
   ·exact⟨⟨B5,AI⟩,by rw[I7,C5];exact hA7.wide (A1 _) AI⟩
   ·exact YL aN dE
   rintro⟨j,G8,A8⟩ m8 ⟨⟨hj,hm8⟩,hA8⟩;dsimp only at hj hm8 hA8 ⊢;have AP9:=hA8.one;have AKW:=hA8.len;simp only[AU];refine BH ?_;refine NV ?_;refine A6 λN15 Ac=>AK ?_ ?_<;>intro h7
   ·obtain⟨C,hC⟩:=EK (iC (F.take k) c++By r (c r) (e-1)++List.replicate j (r^e));have hCl:=A3A (c:=c) (show k<F.length by omega) hy he1 hex (SC (show j<c r e by omega));rw[hC]at hCl;rw[hC]at hA8;rw[hC,JY]at AKW;apply AF;apply Ac;refine A6 λN16 APA=>AA<|Z6 ?_;refine AC.pure (.of (hpo e A0)) ?_;try simp-dsimp-implicitDefEqProofs(disch:=(first|omega|((repeat refine LC.CJ A0 ?_);assumption))) only[go_sem,CI,AU,AP9,AKW,F2 (a:=nx) (b:=m8) (L:=A8) (cs:=TA C),JY]
    apply APA;refine BX (λG9 TI=>?_);dsimp only at TI;refine Z6 ?_;refine BB (j+1,G9,.h (m8+1+5) 0 (C.length+1)) ?_ ?_ ?_
    ·exact YL aN dE
    ·have z7:LC G9 nx (m8+1+7+2) (.h (m8+1+5) 0 (C.length+1)) (TA (iC (F.take k) c++By r (c r) (e-1)++List.replicate (j+1) (r^e))):=by
      rw[HS,<-BO,hC];exact LC.mk (by rw[<-TI,AD,Gr]) (by rw[JY,AH];rfl) A0 A0
     exact⟨⟨AI,AI⟩,z7⟩
    exact AI
   obtain rfl:j=c r e:=A0;have M4:By r (c r) (e+1-1)=By r (c r) (e-1)++List.replicate (c r e) (r^e):=by
    have:=Sa (s:=r) (c:=c r) (X:=e-1);rwa [show e-1+1=e+1-1 by omega,show e+1-1=e by omega]at this
   apply AO;apply p5;refine Z6 ?_;refine BB (e+1,G8,A8) ?_ ?_ ?_
   ·exact YL aN dE
   ·have z7:LC G8 nx m8 A8 (TA (iC (F.take k) c++By r (c r) (e+1-1))):=by rw[M4,<-BO];exact hA8
    exact⟨⟨AI,AI,AI⟩,z7.wide (A1 _) AI⟩
   exact AI
  obtain rfl:e=xx+1:=A0;apply AO;apply DO;refine Z6 ?_;refine BB (k+1,G7,A7) ?_ ?_ ?_
  ·exact YL aN dE
  ·have z7:LC G7 nx m7 A7 (TA (iC (F.take (k+1)) c)):=by rw[AA0 A0,hy];exact hA7
   exact⟨⟨AI,AI⟩,z7.wide (A1 _) AI⟩
  exact AI
 obtain rfl:k=F.length:=A0
 rw[B2,A7T]at hA
 apply AO;apply CW;refine sQ λN hN=>?_;refine TW ?_;refine(vI ((iC F c).map λz:Nat=>(z:Int)) (by rw[A4];omega) hA).CD ?_
 rintro m10 H10 r10 AEL ⟨Y2,hY1,hY2,APB⟩
 refine TW ?_
 apply hN;refine NV ?_;refine BQ ?_;have hYY:=yZ hY2 hI.sY (hY1.trans Ur)
 subst hYY
 exact APB.tB
end
end
section
def A3B{n q c}(h:(YB q).length≠1\/n%q≠0):Se n c q=[]:=by
 unfold Se;split
 ·rename_i x hx;rcases h with h|h
  ·rw[hx]at h;simp at h
  rw[if_neg h]
 rfl
def A7U{n q r x c}(h:YB q=[(r,x)])(h2:n%q=0):Se n c q=List.replicate (c r x) q:=by
 unfold Se;rw[h];simp[h2]
def A3C{l}:TA l=(l.map λz:Nat=>(z:Int)).map (AV.i .i64):=by unfold TA;rw[GN];rfl
def Hc{n c k}:∀d,(iQ n c k).length<=(iQ n c (k+d)).length
 |0=>A1 _
 |d+1=>by rw[show k+(d+1)=k+d+1 from rfl,Sf,AH];exact CH (Hc d) A0
section
variable(U:C2)(pw:D4)(cj:E6)
set_option maxHeartbeats 4000000 in
def bR(h:BW U pw cj)(hc:HN (pc U pw cj) 0){w c}(hR:RtP (λk=>iP U pw cj (k:Int) (nG U)) w c)(Wj:WD (nG U)=true)(hle:(iQ (nG U) c (nG U-1)).length<=9):DZ prog 54 [CI U pw cj] (ints ((iQ (nG U) c (nG U-1)).map λz:Nat=>(z:Int))):=by
 have Q4:=h.1.1
 have Rl:=XM U pw cj h
 have hnb:=yY h
 rw[<-oP h]at Rl
 obtain⟨Nq,hNq⟩:=EK (nG U)
 rw[hNq]at Rl hnb hR Wj hle ⊢
 have Wq:=λk hk=>mY U pw cj h hc k hk
 rw[hNq]at Wq
 refine DA AY func54 rfl AP ntmps54 results54 ((IC _)) (λnx cX=>?_)
 refine GC ?_;refine BN 1 nx _ rfl (AD _ _ _) ?_
 refine BH ?_;refine GC ?_;refine A6 λN1 CW=>GC ?_;refine AA<|BX (λG0 JM=>?_);dsimp only at JM
 have hA0:LC G0 nx (nx+3) (.h (nx+2) 0 0) (TA []):=LC.mk (by rw[<-JM,AD];rfl) rfl A0 A0
 refine AM (α:=Nat×HP×AV) (λx=>sl 70 [(1,AU U pw cj),(3,x.2.2),(4,.i .i64 x.1)]) (λx=>x.2.1) (λx m=>(2<=x.1/\x.1<=Nq+1/\nx<=m)/\LC x.2.1 nx m x.2.2 (TA (iQ Nq c (x.1-2)))) (λx=>Nq+1-x.1) ((2,G0,.h (nx+2) 0 0)) ?_ ?_ (λ_ _ h=>h) ?_
 ·exact⟨⟨B5,by simp;omega,AI⟩,hA0.wide (A1 _) AI⟩
 ·exact I2
 rintro⟨q,G,A⟩ m ⟨⟨XA,hqN,hm⟩,hA⟩
 dsimp only at XA hqN hm hA ⊢
 simp only[AU];refine BH ?_;refine A6 λN2 DN=>ZK (Rl) ?_;refine AK ?_ ?_<;>intro h1
 ·have ARJ:q<=Nq:=A0;obtain⟨F,hF⟩:=EK (YB q);have hfa:=k8 q A0 A0;rw[hF]at hfa;have aN:(T4 F).length=F.length:=by simp[T4]
  have M4:iQ Nq c (q+1-2)=iQ Nq c (q-2)++Se Nq c q:=by
   have:=Sf (n:=Nq) (k:=q-2) (c:=c);rw[show q-2+1=q+1-2 by omega,show q-2+2=q by omega]at this;exact this
  apply AF;apply DN;refine A6 λN3 DO=>AA<|ZK (hfa) ?_;refine A6 λN4 FD=>sQ λN hN=>?_;refine FF ?_;refine J5.mk' (λh2=>?_) (λh2=>?_)
  ·try simp only[cn]at h2
   have hF1:F.length=1:=by rw[aN]at h2;omega
   obtain⟨⟨r,x⟩,rfl⟩:∃y,F=[y]:=List.length_eq_one_iff.1 hF1;obtain⟨z,hz⟩:=EK (Nq%q);refine FF ?_
   refine AC.pure (.of (Rl)) ?_;(try simp-dsimp-implicitDefEqProofs(disch:=omega)only[go_sem,ints,CI,AU,tmN,aN,hz])
   apply hN;refine AK ?_ ?_<;>intro h3
   ·have hz0:z≠0:=by simp at h3;omega
    apply AO;apply DO;refine OK ?_;refine BB (q+1,G,A) ?_ ?_ ?_
    ·exact I2
    ·have z7:LC G nx m A (TA (iQ Nq c (q+1-2))):=by rw[M4,A3B (.inr (by rw[hz];exact hz0)),C5];exact hA
     exact⟨⟨AI,AI,AI⟩,z7.wide (A1 _) AI⟩
    exact AI
   have hz0:z=0:=by simp at h3;omega
   subst hz0;obtain⟨hr,Di,hqr⟩:=AEO hnb.1 hnb.2 Wj (DY hz) hF;have dJ:=hr.two;have hgP:(List.map (AV.i .i64) (T4 [(r,x)])).getD 0 .j= .i .i64 (r:Nat):=rfl;have hgX:(List.map (AV.i .i64) (UD [(r,x)])).getD 0 .j= .i .i64 (x:Nat):=rfl;have UC:(T4 [(r,x)]).length=1:=rfl;have WV:(UD [(r,x)]).length=1:=rfl;obtain⟨e,rfl⟩:∃e,x=e+1:=⟨x-1,A0⟩;have dB:q/r=r^e:=by rw[hqr,HJ,Nat.mul_div_cancel _ A0]
   have APC:q*r=r^(e+2):=by rw[hqr,<-HJ]
   have hpe:r^e<=q:=by rw[hqr];exact DE A0 A0
   have Dw:q*r<=729*7:=CY A0 dJ.2;have uM:=hR.pw r e hr;have hw1:=hR.pw r (e+1) hr;have hw2:=hR.pw r (e+2) hr;try dsimp only at uM hw1 hw2
   have Ik:=Wq ((q/r:Nat):Int) A0;have UF:=Wq (q:Int) A0;have hqi:(q:Int)*(r:Int)=((q*r:Nat):Int):=(EE _ _).symm;have AEW:=Wq ((q:Int)*(r:Int)) A0;rw[show iP U pw cj ((q/r:Nat):Int) Nq=r^w r e by rw[dB];exact uM]at Ik;rw[show iP U pw cj (q:Int) Nq=r^w r (e+1) by rw[<-hw1,<-hqr]]at UF;rw[show iP U pw cj ((q:Int)*(r:Int)) Nq=r^w r (e+2) by rw[hqi,APC];exact hw2]at AEW;have hqs:=A7U (c:=c) hF hz;have hcd:=λj hj=>hR.cond (r:=r) (e:=e) (j:=j) hr hj
   have s5:∀i,0<r^i:=λi=>Nat.pow_pos A0
   have iU:=hR.bd r e hr;have UK:=hR.bd r (e+1) hr;have hz9:e+1=1->r^w r e=1:=λq=>by rw[show e=0 by omega,hR.zr r hr];rfl
   obtain⟨C0,hC0⟩:=EK (c r (e+1));obtain⟨B0,hB0⟩:=EK (r^w r e);obtain⟨H0,Oa⟩:=EK (r^w r (e+1));obtain⟨Mm,haf⟩:∃Mm:Nat->Nat,∀j,r^(w r (e+2)+j)=Mm j:=⟨_,λ_=>rfl⟩;have AKX:r^w r (e+2)=Mm 0:=haf 0;have AKY:∀j,Mm (j+1)=Mm j*r:=λj=>by rw[<-haf,<-haf];rfl
   have hp0:0<B0:=by rw[<-hB0];exact s5 _
   have dD:0<H0:=by rw[<-Oa];exact s5 _
   have A7V:∀j,j<=C0->(Mm j/H0<H0/B0↔j<C0)/\Mm j<=729*729:=λj hj=>by
    obtain⟨k1,k2,k3,k4⟩:=hcd j A0;rw[<-k1,<-k2,hC0,Oa,hB0,haf]at k3;rw[haf]at k4;exact⟨k3,k4⟩
   rw[hC0]at hqs;have hlq:(iQ Nq c (q-2)).length+C0<=9:=by
    have a:=Hc (n:=Nq) (c:=c) (k:=q+1-2) (Nq-q);rw[show q+1-2+(Nq-q)=Nq-1 by omega,M4,hqs,AH,BZ]at a;omega
   rw[hB0]at Ik iU hz9;rw[Oa]at UF UK;rw[AKX]at AEW;clear hcd haf AKX Oa hB0 hC0 s5 uM hw1 hw2;apply AF;apply FD;refine sQ λN hN=>?_;simp-dsimp-implicitDefEqProofs(disch:=omega)only[go_sem,ints,CI,hgP,UC];apply hN;refine A6 λN hN=>C9 AY AP 16 AP ?_
   (try simp-dsimp-implicitDefEqProofs(disch:=omega)only[go_sem,BD,AR,B4,BE,AT,AS,GJ,ES,ET,CI,tdN,DV]);refine⟨_,.of (Ik),?_⟩;refine FF ?_
   refine⟨_,.of (UF),?_⟩;refine FF ?_
   refine⟨_,.of (AEW),?_⟩;refine FF ?_
   apply hN;refine A6 λN5 ID=>sQ λN hN=>?_;simp-dsimp-implicitDefEqProofs(disch:=omega)only[go_sem,ints,CI,hgX,WV];apply hN;refine AK ?_ ?_<;>intro h4
   ·have ARK:=hz9 A0;refine OK ?_;apply ID;refine AA<|AM (α:=Nat×HP×AV) (λx=>sl 70 [(1,AU U pw cj),(3,x.2.2),(4,.i .i64 q),(8,.i .i64 r),(9,.i .i64 B0),(10,.i .i64 H0),(11,.i .i64 (Mm x.1))]) (λx=>x.2.1) (λx m=>(x.1<=C0/\nx<=m)/\LC x.2.1 nx m x.2.2 (TA (iQ Nq c (q-2)++List.replicate x.1 q))) (λx=>C0-x.1) ((0,G,A)) ?_ ?_ (λ_ _ h=>h) ?_
    ·exact⟨⟨B5,AI⟩,by rw[I7,C5];exact hA.wide (A1 _) AI⟩
    ·exact TJ hz9
    rintro⟨j,G2,A2⟩ m2 ⟨⟨hj,Q8⟩,xT⟩;dsimp only at hj Q8 xT ⊢;obtain⟨k3,k4⟩:=A7V j hj;obtain⟨qa,hqa⟩:=EK (Mm j/H0);obtain⟨qb,Dw⟩:=EK (H0/B0);have APD:qa<=729*729:=by rw[<-hqa];exact CH (MF _ _) k4
    have APE:qb<=729:=by rw[<-Dw];exact CH (MF _ _) UK
    rw[hqa,Dw]at k3;have AEX:=xT.one;have Hd:=xT.len;rw[JY]at Hd;simp only[AU];refine BH ?_;refine A6 λN6 OR=>A6 λN hN=>?_;refine C9 AY AP 7 AP ?_
    (try simp-dsimp-implicitDefEqProofs(disch:=omega)only[go_sem,BD,AR,B4,BE,AT,AS,GJ,ES,ET,CI,tdN,DV,hqa,Dw]);apply hN;refine AK ?_ ?_<;>intro h5
    ·have dA:j<C0:=A0;have AEY:((Mm j:Nat):Int)*(r:Int)=((Mm (j+1):Nat):Int):=by rw[AKY j];exact(EE _ _).symm
     have APF:=(A7V (j+1) dA).2;obtain⟨C,hC⟩:=EK (iQ Nq c (q-2)++List.replicate j q);have hCl:C.length<=9:=by rw[<-hC,AH,BZ];omega
     rw[hC]at xT Hd;apply AF;apply OR;refine AA<|sQ λN hN=>?_;simp-dsimp-implicitDefEqProofs(disch:=(first|omega|((repeat refine LC.CJ A0 ?_);assumption))) only[go_sem,CI,AEX,Hd,F2 (a:=nx) (b:=m2) (L:=A2) (cs:=TA C),JY]
     apply hN;refine BX (λG9 TI=>?_);dsimp only at TI;refine OK ?_;refine BB (j+1,G9,.h (m2+7+3) 0 (C.length+1)) ?_ ?_ ?_
     ·exact TJ AEY
     ·have z7:LC G9 nx (m2+7+5+4) (.h (m2+7+3) 0 (C.length+1)) (TA (iQ Nq c (q-2)++List.replicate (j+1) q)):=by
       rw[HS,<-BO,hC];exact LC.mk (by rw[<-TI,AD,Gr]) (by rw[JY,AH];rfl) A0 A0
      exact⟨⟨AI,AI⟩,z7⟩
     exact AI
    obtain rfl:j=C0:=by
     rcases BL j C0 with w1|w1
     ·have:=k3.2 w1;simp at h5;omega
     omega
    apply AO;apply DO;refine OK ?_;refine BB (q+1,G2,A2) ?_ ?_ ?_
    ·exact I2
    ·have z7:LC G2 nx m2 A2 (TA (iQ Nq c (q+1-2))):=by rw[M4,hqs];exact xT
     exact⟨⟨AI,AI,AI⟩,z7.wide (A1 _) AI⟩
    exact AI
   apply AF;apply ID;refine AA<|AM (α:=Nat×HP×AV) (λx=>sl 70 [(1,AU U pw cj),(3,x.2.2),(4,.i .i64 q),(8,.i .i64 r),(9,.i .i64 B0),(10,.i .i64 H0),(11,.i .i64 (Mm x.1))]) (λx=>x.2.1) (λx m=>(x.1<=C0/\nx<=m)/\LC x.2.1 nx m x.2.2 (TA (iQ Nq c (q-2)++List.replicate x.1 q))) (λx=>C0-x.1) ((0,G,A)) ?_ ?_ (λ_ _ h=>h) ?_
   ·exact⟨⟨B5,AI⟩,by rw[I7,C5];exact hA.wide (A1 _) AI⟩
   ·exact TJ hz9
   rintro⟨j,G2,A2⟩ m2 ⟨⟨hj,Q8⟩,xT⟩;dsimp only at hj Q8 xT ⊢;obtain⟨k3,k4⟩:=A7V j hj;obtain⟨qa,hqa⟩:=EK (Mm j/H0);obtain⟨qb,Dw⟩:=EK (H0/B0);have APD:qa<=729*729:=by rw[<-hqa];exact CH (MF _ _) k4
   have APE:qb<=729:=by rw[<-Dw];exact CH (MF _ _) UK
   rw[hqa,Dw]at k3;have AEX:=xT.one;have Hd:=xT.len;rw[JY]at Hd;simp only[AU];refine BH ?_;refine A6 λN7 S6=>A6 λN hN=>?_;refine C9 AY AP 7 AP ?_
   (try simp-dsimp-implicitDefEqProofs(disch:=omega)only[go_sem,BD,AR,B4,BE,AT,AS,GJ,ES,ET,CI,tdN,DV,hqa,Dw]);apply hN;refine AK ?_ ?_<;>intro h6
   ·have dA:j<C0:=A0;have AEY:((Mm j:Nat):Int)*(r:Int)=((Mm (j+1):Nat):Int):=by rw[AKY j];exact(EE _ _).symm
    have APF:=(A7V (j+1) dA).2;obtain⟨C,hC⟩:=EK (iQ Nq c (q-2)++List.replicate j q);have hCl:C.length<=9:=by rw[<-hC,AH,BZ];omega
    rw[hC]at xT Hd;apply AF;apply S6;refine AA<|sQ λN hN=>?_;simp-dsimp-implicitDefEqProofs(disch:=(first|omega|((repeat refine LC.CJ A0 ?_);assumption))) only[go_sem,CI,AEX,Hd,F2 (a:=nx) (b:=m2) (L:=A2) (cs:=TA C),JY]
    apply hN;refine BX (λG9 TI=>?_);dsimp only at TI;refine OK ?_;refine BB (j+1,G9,.h (m2+7+3) 0 (C.length+1)) ?_ ?_ ?_
    ·exact TJ AEY
    ·have z7:LC G9 nx (m2+7+5+4) (.h (m2+7+3) 0 (C.length+1)) (TA (iQ Nq c (q-2)++List.replicate (j+1) q)):=by
      rw[HS,<-BO,hC];exact LC.mk (by rw[<-TI,AD,Gr]) (by rw[JY,AH];rfl) A0 A0
     exact⟨⟨AI,AI⟩,z7⟩
    exact AI
   obtain rfl:j=C0:=by
    rcases BL j C0 with w1|w1
    ·have:=k3.2 w1;simp at h6;omega
    omega
   apply AO;apply DO;refine OK ?_;refine BB (q+1,G2,A2) ?_ ?_ ?_
   ·exact I2
   ·have z7:LC G2 nx m2 A2 (TA (iQ Nq c (q+1-2))):=by rw[M4,hqs];exact xT
    exact⟨⟨AI,AI,AI⟩,z7.wide (A1 _) AI⟩
   exact AI
  try simp only[cn]at h2
  have hF1:F.length≠1:=by rw[aN]at h2;intro q;rw[q]at h2;simp at h2
  (try simp-dsimp-implicitDefEqProofs(disch:=omega)only[go_sem,ints,CI,AU,aN])
  apply hN;refine HU rfl ?_;apply AO;apply DO;refine OK ?_;refine BB (q+1,G,A) ?_ ?_ ?_
  ·exact I2
  ·have z7:LC G nx m A (TA (iQ Nq c (q+1-2))):=by rw[M4,A3B (.inl (by rw[hF];exact hF1)),C5];exact hA
   exact⟨⟨AI,AI,AI⟩,z7.wide (A1 _) AI⟩
  exact AI
 apply AO;apply CW;refine GC ?_;refine BQ ?_;obtain rfl:q=Nq+1:=by simp at h1;omega
 have z7:=hA
 rw[show Nq+1-2=Nq-1 by omega,A3C]at z7
 exact z7.tB
end
end
section
def Ow.A7W{H r U pw cj ids}(h:Ow H r (Go.Proofs.YtgknbnkmilddhaaGreat.CI U pw cj) ids):
    ∃r1 r2 r3 is js ks,r= .g [r1,r2,r3]/\ids=is++(js++ks)/\Ow H r1 (Go.Proofs.YtgknbnkmilddhaaGreat.ints U) is/\Ow H r2 (rows pw) js/\Ow H r3 (B6 cj) ks:=by
  unfold Go.Proofs.YtgknbnkmilddhaaGreat.CI at h;generalize hX:AV.g [Go.Proofs.YtgknbnkmilddhaaGreat.ints U,rows pw,B6 cj]=X at h
  cases h with
  | leaf _ hf hn=>
    subst hX;cases hf with|g _ hf=>cases hn with|g _ hn=>exact⟨Go.Proofs.YtgknbnkmilddhaaGreat.ints U,rows pw,B6 cj,[],[],[],rfl,rfl,.leaf _ (hf 0 _ rfl) (hn 0 _ rfl),.leaf _ (hf 1 _ rfl) (hn 1 _ rfl),.leaf _ (hf 2 _ rfl) (hn 2 _ rfl)⟩
  |nl=>cases hX
  |h id cs ts I1 h1 h2=>cases hX
  |q id cs ts I1 h1 h2=>cases hX
  | g cs ts I1 h2=>
    cases hX;cases h2 with|cons x0 _ xs _ i0 j0 g1 g2=>cases g2 with|cons x1 _ xs _ i1 j1 g3 g4=>cases g4 with|cons x2 _ xs _ i2 j2 g5 g6=>
      cases g6;exact⟨x0,x1,x2,i0,i1,i2,rfl,B5,g1,g3,g5⟩
  |t cs ts I1 h2=>cases hX
end
section
def AEZ(n t):NR (.v n (eW n t)):= .v _ _ (λk y hk=>by
 obtain⟨d,_,rfl⟩:=AQ.1 (D3 hk);cases t d with
 |none=>exact .v _ _ (λk x hk=>by simp[tkc]at hk)
 |some z=>exact RS _ _)
def A7X{n u k}(h:WN n u k=none):List.map (λd:Nat=>AV.i .i64 (d:Int)) (K7 n u k)++[AV.i .i64 (k:Int)]=List.map (λd:Nat=>AV.i .i64 (d:Int)) (K7 n u (k+1)):=by
 rw[ZD,if_pos h,AZ];rfl
section
variable(U:C2)(pw:D4)(cj:E6)
def ZG(hn:U.length<=6)(us)(hl:us.length<=1000)(hu:∀k,k<us.length->O1 U.length (us.getD k z0)<U.length):DZ prog 179 [CI U pw cj,D7 U.length us] (.v U.length (eW U.length (WN U.length us))):=by
 refine DA AY func179 rfl AP ntmps179 results179 ((AEZ _ _)) (λnx cX=>?_)
 refine RW ?_;refine BN 2 nx _ rfl (AD _ _ _) ?_
 refine BH ?_;refine RW ?_;refine A6 λN1 CW=>Ah (nx+2+3) U.length (AD _ _ _) ?_
 rw[Aj]
 refine BH ?_;refine RW ?_;refine AA<|AM (α:=Nat) (λx=>sl 29 [(1,D7 U.length us),(5,.h (nx+2+3) 0 U.length),(6,.i .i64 x)]) (λx=>CJ DD (nx+2+3) (some (eW U.length (tbU U.length us x)))) (λx m=>x<=us.length/\nx+6<=m) (λx=>us.length-x) (0) ?_ ?_ (by rw[tbU];intro d cs hd;simp only[CJ,DD]at hd ⊢;grind) ?_
 ·exact⟨A0,AI⟩
 ·exact GD
 rintro k m ⟨hk,hm⟩
 try simp only[AU]
 refine BH ?_
 refine A6 λN2 DN=>RW ?_;refine AK ?_ ?_<;>intro h1
 ·have hd:=hu k A0;have Pw:DH (eW U.length (tbU U.length us k)) (O1 U.length (us.getD k z0)) [AV.v U.length (JP U.length (us.getD k z0))]=eW U.length (tbU U.length us (k+1)):=by rw[Ai hd];rfl
  apply AF;apply DN;refine A6 λN3 DO=>AA<|C9 AY AP 11 AP ?_
  (try simp-dsimp-implicitDefEqProofs(maxSteps:=800000) (disch:=omega)only[go_sem,BD,AR,B4,BE,AT,AS,GJ,ES,ET,ints,CI,AU,vi,D7,DV]);refine⟨_,.of (mG U.length A0 (us.getD k z0)),?_⟩;refine aT ?_
  apply DO;refine tY ?_;refine⟨k+1,?_,by rw[<-Pw];exact Le.refl _,?_,?_⟩
  ·exact GD
  ·exact⟨AI,AI⟩
  exact AI
 apply AO;apply CW;refine RW ?_;refine BQ ?_;obtain rfl:k=us.length:=A0
 exact Vw.IY (AD _ _ _) qV.symm
set_option maxHeartbeats 4000000 in
def nF(h:BW U pw cj)(hc:HN (pc U pw cj) 0)(t)(ht:tbT (pc U pw cj) t)(a)(ha:T (pc U pw cj) 0 a):DZ prog 238 [CI U pw cj,.v U.length (eW U.length t),vi U.length a] (vi U.length (XN (pc U pw cj) t U.length 0 a)):=by
 have Q4:=h.1.1
 have hv:=h.val
 refine BI AY func238 rfl AP ntmps238 results238 (RS _ _) (λnx cX=>?_)
 refine OZ ?_;refine BN 3 nx _ rfl (AD _ _ _) ?_
 refine BH ?_;refine sQ λN hN=>?_;simp-dsimp-implicitDefEqProofs(maxSteps:=800000) (disch:=omega)only[go_sem,CI,AU,vi];refine AC.pure (.of (xK a A0)) ?_;(try simp-dsimp-implicitDefEqProofs(maxSteps:=800000) (disch:=omega)only[go_sem,CI,AU,vi]);apply hN;refine A6 λN1 CW=>OZ ?_;refine AA<|AM (α:=Nat×V) (λx=>sl 45 [(1,.v U.length (eW U.length t)),(3,AU U pw cj),(7,vi U.length x.2),(8,.i .i64 x.1)]) (λ_=>DD) (λx m=>(x.1<=U.length/\T (pc U pw cj) 0 x.2)/\XN (pc U pw cj) t (U.length-x.1) x.1 x.2=XN (pc U pw cj) t U.length 0 a) (λx=>U.length-x.1) ((0,a)) ?_ ?_ (by intro d cs hd;cases hd) ?_
 ·exact⟨⟨B5,ha⟩,rfl⟩
 ·exact E7
 rintro⟨q,u⟩ m ⟨⟨hq,hu⟩,hI⟩
 dsimp only at hq hu hI ⊢
 simp only[vi,AU];refine BH ?_;refine A6 λN2 DN=>OZ ?_;refine AK ?_ ?_<;>intro h1
 ·have iN:XN (pc U pw cj) t (U.length-q) q u=XN (pc U pw cj) t (U.length-(q+1)) (q+1) (match t q with
    |none=>u
    |some z=>if u q=0 then u else M (pc U pw cj) 0 u (T6 (pc U pw cj) z (0-u q))):=by
   obtain⟨f,hf⟩:∃f,U.length-q=f+1:=⟨U.length-q-1,A0⟩;rw[hf,XN,show U.length-(q+1)=f by omega];rfl
  have hur:=hu.r q (AE q) (show q<U.length by omega);have huo:=FQ (h.2.1 q A0);have Ak:(pc U pw cj).o q=U.getD q 0:=rfl;apply AF;apply DN;refine A6 λN3 DO=>AA<|sQ λN hN=>?_;refine PS ?_;refine J5.mk' (λh2=>?_) (λh2=>?_)
  ·try simp only[cn]at h2
   obtain⟨z,hz,hzv⟩:=yR (n:=U.length) (o:=t q) A0;have hzT:=ht _ z hz;have hpT:=eU hv hc hzT (0-u q);refine PS ?_
   apply hN;refine AK ?_ ?_<;>intro h3
   ·refine C9 AY AP 15 AP ?_;refine A0T ?_;rw[hzv];refine⟨_,.of (JK U pw cj h hc z hzT (0-u q) A0),?_⟩;refine PS ?_
    refine⟨_,.of (JJ U pw cj h _ _ hu hpT),?_⟩;refine PS ?_
    apply DO;refine XH ?_;refine BB (q+1,M (pc U pw cj) 0 u (T6 (pc U pw cj) z (0-u q))) ?_ ?_ ?_
    ·exact E7
    ·first|exact⟨⟨AI,aH hv hu hpT⟩,by (try simp only[]);rw[<-hI,iN,hz];dsimp only;rw[if_neg A0]⟩|exact⟨aH hv hu hpT,by (try simp only[]);rw[<-hI,iN,hz];dsimp only;rw[if_neg A0]⟩
    exact AI
   apply AF;apply DO;refine XH ?_;refine BB (q+1,u) ?_ ?_ ?_
   ·exact E7
   ·first|exact⟨⟨AI,hu⟩,by (try simp only[]);rw[<-hI,iN,hz];dsimp only;rw[if_pos A0]⟩|exact⟨hu,by (try simp only[]);rw[<-hI,iN,hz];dsimp only;rw[if_pos A0]⟩
   exact AI
  try simp only[cn]at h2
  have hz:t q=none:=yQ (n:=U.length) A0 A0;refine PS ?_
  apply hN;refine DJ rfl ?_;apply AF;apply DO;refine XH ?_;refine BB (q+1,u) ?_ ?_ ?_
  ·exact E7
  ·first|exact⟨⟨AI,hu⟩,by (try simp only[]);rw[<-hI,iN,hz]⟩|exact⟨hu,by (try simp only[]);rw[<-hI,iN,hz]⟩
  exact AI
 apply AO;apply CW;refine OZ ?_;refine BQ ?_;rw[show q=U.length by omega,CM]at hI
 rw[<-hI];rfl
def vK(h:BW U pw cj)(hc:HN (pc U pw cj) 0){S}(hS:NO (T (pc U pw cj) 0) (M (pc U pw cj) 0) S)(us)(MC:RA (pc U pw cj) S us)(a)(ha:T (pc U pw cj) 0 a):DZ prog 180 [CI U pw cj,D7 U.length us,vi U.length a] (vi U.length (QY (pc U pw cj) us a)):=by
 have Q4:=h.1.1
 have hv:=h.val
 have aM:=MC.len
 have PN:(pc U pw cj).n=U.length:=rfl
 rw[PN]at aM
 have hld:∀k,k<us.length->O1 U.length (us.getD k z0)<U.length:=λk hk=>(MC.at (P3 hk)).1
 have hT:tbT (pc U pw cj) (WN U.length us):=λd y hy=>hS.n ((k5 MC).1.el d y hy).2.1
 refine BI AY func180 rfl AP ntmps180 results180 (RS _ _) (λnx cX=>?_)
 refine NV ?_;refine BN 3 nx _ rfl (AD _ _ _) ?_
 refine BH ?_;refine A6 λN hN=>C9 AY AP 7 AP ?_
 refine Pn ?_;refine⟨_,.of (ZG U pw cj Q4 us A0 hld),?_⟩
 refine TW ?_
 refine⟨_,.of (nF U pw cj h hc (WN U.length us) hT a ha),?_⟩
 refine TW ?_
 apply hN;refine BQ ?_;rw[uT hv hc hS MC ha];rfl
def bS(hn:U.length<=6)(us)(hl:us.length<=1000)(hu:∀k,k<us.length->O1 U.length (us.getD k z0)<U.length):DZ prog 115 [CI U pw cj,D7 U.length us] (ints (oO U.length us)):=by
 refine DA AY func115 rfl AP ntmps115 results115 ((IC _)) (λnx cX=>?_)
 refine NV ?_;refine BN 2 nx _ rfl (AD _ _ _) ?_
 refine BH ?_;refine Pm (ZG U pw cj hn us hl hu) ?_;refine NV ?_;refine A6 λN1 CW=>NV ?_;refine AA<|AM (α:=Nat×Nat) (λx=>sl 29 [(5,.v U.length (eW U.length (WN U.length us))),(6,.h x.2 0 (K7 U.length us x.1).length),(7,.i .i64 x.1)]) (λx=>CJ DD x.2 (some (List.map (λd:Nat=>AV.i .i64 (d:Int)) (K7 U.length us x.1)))) (λx m=>x.1<=U.length/\nx<=x.2/\x.2<m) (λx=>U.length-x.1) ((0,nx+2+4)) ?_ ?_ (by intro d cs hd;simp only[CJ,DD,K7,List.range_zero,List.filter_nil,BU]at hd ⊢;grind) ?_
 ·exact⟨B5,AI,AI⟩
 ·simp(disch:=omega) [EJ,EN,sl,AU,ints,rows,B6,K7]
 rintro⟨k,id⟩ m ⟨hk,GF,hm⟩
 dsimp only at hk GF hm ⊢
 have ZR:=YU (n:=U.length) (u:=us) k
 refine BH ?_;refine A6 λN2 DN=>NV ?_;refine AK ?_ ?_<;>intro h1
 ·apply AF;apply DN;refine A6 λN3 DO=>AA<|NV ?_;refine AK ?_ ?_<;>intro h2
  ·have hz:WN U.length us k=none:=yQ (n:=U.length) A0 A0;have ZJ:(K7 U.length us (k+1)).length=(K7 U.length us k).length+1:=by rw[ZD,if_pos hz];simp
   refine Z6 ?_;apply DO;refine Z6 ?_;refine⟨(k+1,m+4+6+3),?_,by rw[<-A7X hz];intro d cs hd;simp only[CJ,DD,KD]at hd ⊢;grind,?_,?_⟩
   ·exact lM ZJ
   ·exact⟨AI,AI,AI⟩
   exact AI
  obtain⟨z,hz,hzv⟩:=yR (n:=U.length) (o:=WN U.length us k) A0;have ZJ:K7 U.length us (k+1)=K7 U.length us k:=by rw[ZD,if_neg (by rw[hz];simp)]
  apply AF;apply DO;refine Z6 ?_;refine⟨(k+1,id),?_,by rw[ZJ];exact Le.refl _,?_,?_⟩
  ·exact lM ZJ
  ·exact⟨AI,AI,AI⟩
  exact AI
 apply AO;apply CW;refine NV ?_;refine BQ ?_;obtain rfl:k=U.length:=A0
 refine cF ?_ (by rw[cM])
 rw[AD,oO,GN];rfl
set_option maxHeartbeats 4000000 in
def OO(h:BW U pw cj)(hc:HN (pc U pw cj) 0){S}(hS:NO (T (pc U pw cj) 0) (M (pc U pw cj) 0) S)(us)(MC:RA (pc U pw cj) S us)(a)(ha:T (pc U pw cj) 0 a):DZ prog 117 [CI U pw cj,D7 U.length us,vi U.length a] (ints (ZY (pc U pw cj) us a)):=by
 have Q4:=h.1.1
 have hv:=h.val
 have aM:=MC.len
 have PN:(pc U pw cj).n=U.length:=rfl
 rw[PN]at aM
 have hld:∀k,k<us.length->O1 U.length (us.getD k z0)<U.length:=λk hk=>(MC.at (P3 hk)).1
 have ZR:=YU (n:=U.length) (u:=us) U.length
 have Dq:=cM (n:=U.length) (u:=us)
 refine DA AY func117 rfl AP ntmps117 results117 ((IC _)) (λnx cX=>?_)
 refine tM ?_;refine BN 3 nx _ rfl (AD _ _ _) ?_
 refine BH ?_;refine A0R (vK U pw cj h hc hS us MC a ha) ?_;refine A0R (bS U pw cj Q4 us A0 hld) ?_;refine tM ?_;refine A6 λN1 CW=>tM ?_;refine AA<|AM (α:=Nat×Nat) (λx=>sl 36 [(7,vi U.length (QY (pc U pw cj) us a)),(8,ints (oO U.length us)),(9,.h x.2 0 x.1),(10,.i .i64 x.1)]) (λx=>CJ DD x.2 (some (((ZY (pc U pw cj) us a).take x.1).map (.i .i64)))) (λx m=>x.1<=(K7 U.length us U.length).length/\nx<=x.2/\x.2<m) (λx=>(K7 U.length us U.length).length-x.1) ((0,nx+2+5+4)) ?_ ?_ (by intro d cs hd;simp only[CJ,DD,AS,BU]at hd ⊢;grind) ?_
 ·exact⟨B5,AI,AI⟩
 ·exact E7
 rintro⟨k,id⟩ m ⟨hk,GF,hm⟩
 dsimp only at hk GF hm ⊢
 have fO:(ZY (pc U pw cj) us a).length=(K7 U.length us U.length).length:=k6
 have eD:((ZY (pc U pw cj) us a).take k).length=k:=by rw[B1,fO];omega
 have hmn:(k<=min k (ZY (pc U pw cj) us a).length)=True:=eq_true (by rw[fO];omega)
 have YA:List.take k (List.map (AV.i .i64) (List.take k (ZY (pc U pw cj) us a)))=List.map (AV.i .i64) (List.take k (ZY (pc U pw cj) us a)):=AJ (by rw[A4,eD];exact A1 _)
 simp only[ints,vi];refine BH ?_;refine A6 λN2 DN=>tM ?_;refine AK ?_ ?_<;>intro h1
 ·obtain⟨d,hd⟩:=EK ((K7 U.length us U.length).getD k 0);have Lj:=Bn (n:=U.length) (u:=us) (k:=U.length) (i:=k) A0;have z6:=rD (n:=U.length) (u:=us) (i:=k) A0;rw[hd]at Lj z6;have n7:((ZY (pc U pw cj) us a).take (k+1)).map (AV.i .i64)=((ZY (pc U pw cj) us a).take k).map (AV.i .i64)++[.i .i64 (QY (pc U pw cj) us a d)]:=by
   rw[E5,AZ];congr 1
   have P5:k<(K7 U.length us U.length).length:=A0;have WZ:(K7 U.length us U.length)[k]=d:=by rw[<-hd];simp[P5]
   simp[ZY,PN,P5,WZ]
  apply AF;apply DN;refine A6 λN3 DO=>?_;apply AA;apply rQ;simp-dsimp-implicitDefEqProofs(maxSteps:=800000) (disch:=omega)only[go_sem,CB,ints,CI,AU,vi,z6,hmn,YA];apply DO;apply rQ;simp-dsimp-implicitDefEqProofs(maxSteps:=800000) (disch:=omega)only[go_sem,CB,ints,CI,AU,vi];refine⟨(k+1,m+4+9),?_,by rw[n7];intro d cs hd;simp only[CJ,DD]at hd ⊢;grind,?_,?_⟩
  ·simp(disch:=omega) [EJ,EN,sl,DV,ints,rows,B6,CI,AU,DV,ints,CB,vi]<;>omega
  ·exact⟨AI,AI,AI⟩
  exact AI
 apply AO;apply CW;refine tM ?_;refine BQ ?_;obtain rfl:k=(K7 U.length us U.length).length:=A0
 rw[AJ (by rw[fO];exact A1 _)]
 exact cF (AD _ _ _) fO.symm
end
end
end Go.Proofs.YtgknbnkmilddhaaGreat