import Derived.Test.YtgknbnkmilddhaaGreatZ03
import Derived.Test.YtgknbnkmilddhaaGreatZ06
import Derived.Test.YtgknbnkmilddhaaGreatZ07
import Derived.Test.YtgknbnkmilddhaaGreatZ08
set_option linter.all false

open Go.Proofs.Tryz
namespace Go.Proofs.YtgknbnkmilddhaaGreat
section
def XM(U pw cj)(h:BW U pw cj):DZ prog 85 [CI U pw cj] (.i .i64 (PC U U.length)):=by
 have Q4:=h.1.1
 have SJ:=h.2.1
 have hN:=h.2.2.1
 refine BI AY func85 rfl AP ntmps85 results85 (.i _ _) (λnx cX=>?_)
 refine QU ?_;refine BN 1 nx _ rfl (AD _ _ _) ?_
 refine BH ?_;refine QU ?_;refine A6 λN1 CW=>QU ?_;refine AA<|AM (α:=Nat) (λx=>sl 20 [(1,AU U pw cj),(3,.i .i64 (PC U x)),(4,.i .i64 x)]) (λ_=>DD) (λx m=>x<=U.length) (λx=>U.length-x) (0) ?_ ?_ (by intro d cs hd;cases hd) ?_
 ·omega
 ·simp(disch:=omega) [EJ,EN,sl,AU,ints,rows,B6,PC]
 rintro k m hk
 refine BH ?_;refine A6 λN2 DN=>QU ?_;refine AK ?_ ?_<;>intro h1
 ·have h2:=YJ SJ (k+1) A0;have h3:=sW SJ (k:=k+1) (U.length-(k+1)) A0;have h4:PC U (k+1)=PC U k*U.getD k 0:=rfl;have h6:PC U (k+1+(U.length-(k+1)))=PC U U.length:=by congr 1;omega
  apply AF;apply DN;refine A6 λN3 DO=>AA<|lX ?_;apply DO;refine lX ?_;refine BB (k+1) ?_ ?_ ?_
  ·simp(disch:=omega) [EJ,EN,sl,AU,ints,rows,B6,PC]
  ·omega
  exact AI
 apply AO;apply CW;refine QU ?_;refine BQ ?_;rw[show k=U.length by omega]
def Z8(U pw cj)(h:BW U pw cj):DZ prog 71 [AU U pw cj] (.i .i64 (PC U U.length)):=by
 have Q4:=h.1.1
 have SJ:=h.2.1
 have hN:=h.2.2.1
 refine BI AY func71 rfl AP ntmps71 results71 (.i _ _) (λnx cX=>?_)
 refine QU ?_;refine QU ?_;refine A6 λN1 CW=>QU ?_;refine AA<|AM (α:=Nat) (λx=>sl 20 [(3,.i .i64 (PC U x)),(9,ints U),(10,.i .i64 U.length),(11,.i .i64 x)]) (λ_=>DD) (λx m=>x<=U.length) (λx=>U.length-x) (0) ?_ ?_ (λ_ _ h=>h) ?_
 ·omega
 ·simp(disch:=omega) [EJ,EN,sl,AU,ints,rows,B6,PC]
 rintro k m hk
 refine BH ?_;refine QU ?_;refine A6 λN2 DN=>AK ?_ ?_<;>intro h1
 ·have h2:=YJ SJ (k+1) A0;have h3:=sW SJ (k:=k+1) (U.length-(k+1)) A0;have h4:PC U (k+1)=PC U k*U.getD k 0:=rfl;have h6:PC U (k+1+(U.length-(k+1)))=PC U U.length:=by congr 1;omega
  apply AF;apply DN;refine A6 λN3 DO=>AA<|QU ?_;refine lX ?_;apply DO;refine lX ?_;refine BB (k+1) ?_ ?_ ?_
  ·simp(disch:=omega) [EJ,EN,sl,AU,ints,rows,B6,PC]
  ·omega
  exact AI
 apply AO;apply CW;refine QU ?_;refine BQ ?_;rw[show k=U.length by omega]
def yO(U:C2)(num:Int):Nat->Int
 |0=>num
 |d+1=>(yO U num d).tdiv (U.getD (U.length-1-d) 0)
def iM(U:C2)(num:Int):V:=λi=>if i<U.length then (yO U num (U.length-1-i)).tmod (U.getD i 0)else 0
def aS{U num}(h0:0<=num)(hp:∀i,i<U.length->O8 (U.getD i 0)):∀d,d<=U.length->0<=yO U num d/\yO U num d<=num:=by
 intro d;induction d with
 |zero=>intro _;exact⟨h0,GG _⟩
 | succ d ih=>
   intro hd;have i1:=ih A0;have i2:=FQ (hp (U.length-1-d) A0);rw[yO];rw[EC i1.1];exact⟨PX i1.1 A0,MP (Int.ediv_le_self _ i1.1) i1.2⟩
def ADH{U num}(h0:0<=num)(hp:∀i,i<U.length->O8 (U.getD i 0)){i}(hi:i<U.length):0<=iM U num i/\iM U num i<U.getD i 0:=by
 have i1:=aS h0 hp (U.length-1-i) A0;have i2:=FQ (hp i hi);rw[iM,if_pos hi,CZ i1.1];exact⟨DK _ A0,DR _ A0⟩
def atP(U:C2)(num:Int)(d:Nat):V:=λi=>if U.length<=i+d then iM U num i else 0
def Fg{U num d}(hd:d<U.length):DH (JP U.length (atP U num d)) (U.length-1-d) [.i .i64 ((yO U num d).tmod (U.getD (U.length-1-d) 0))]=JP U.length (atP U num (d+1)):=by
 rw[cE A0];refine L5 λi hi=>?_
 unfold D0 atP;split
 ·rename_i e;subst e;rw[if_pos A0,iM,if_pos A0,show U.length-1-(U.length-1-d)=d by omega]
 by_cases e:U.length<=i+d
 ·rw[if_pos e,if_pos A0]
 rw[if_neg e,if_neg A0]
def Pq{U num}:JP U.length (atP U num U.length)=JP U.length (iM U num):=L5 λi _=>by rw[atP,if_pos A0]
def Fh{U num}:JP U.length (atP U num 0)=JP U.length z0:=L5 λi hi=>by rw[atP,if_neg A0];rfl
def xM(U pw cj)(hn:U.length<=1048576)(nx):AC prog 213 nx DD [CI U pw cj] (λDI H' r=>∃id,r= .h id 0 U.length/\nx<=id/\id<DI/\H' id=some (JP U.length z0)):=by
 refine CF AY func213 rfl AP ntmps213 results213 (λGM cX=>?_)
 refine QW ?_;refine BN 1 nx _ rfl (AD _ _ _) ?_
 refine BH ?_;refine QW ?_;refine BQ ?_;exact⟨_,λ_ _ h=>h,_,rfl,A0,A0,by rw[AD,IL];rfl⟩
def xN(U pw cj)(h:BW U pw cj)(num)(h0:0<=num)(h9:num<=1048576):DZ prog 159 [CI U pw cj,.i .i64 num] (vi U.length (iM U num)):=by
 have Q4:=h.1.1
 have SJ:=h.2.1
 refine DA AY func159 rfl AP ntmps159 results159 ((RS _ _)) (λnx cX=>?_)
 refine QU ?_;refine BN 2 nx _ rfl (AD _ _ _) ?_
 refine BH ?_;refine sQ λN hN=>?_;(try simp-dsimp-implicitDefEqProofs(disch:=omega)only[go_sem,CB,ints,CI,AU]);refine AC.mono (AC.frame (xM U pw cj A0 _)) ?_
 rintro m1 H1 r1 ⟨H0,⟨id,rfl,gL,UY,tS⟩,IA,LH⟩
 have SM:=(LH id gL).trans tS
 clear tS LH IA
 (try simp-dsimp-implicitDefEqProofs(disch:=omega)only[go_sem,CB,ints,CI,AU])
 apply hN;refine A6 λN1 CW=>QU ?_;refine AA<|AM (α:=Nat) (λx=>sl 34 [(1,.i .i64 (yO U num x)),(2,AU U pw cj),(5,.h id 0 U.length),(6,.i .i64 ((U.length:Int)-1-x))]) (λx=>CJ DD id (some (JP U.length (atP U num x)))) (λx m=>x<=U.length) (λx=>U.length-x) (0) ?_ ?_ (by rw[Fh];intro d cs hd;simp only[CJ,DD]at hd ⊢;grind) ?_
 ·omega
 ·simp(disch:=omega) [EJ,EN,sl,AU,ints,rows,B6,yO]
 rintro k m hk
 refine BH ?_;refine A6 λN2 DN=>QU ?_;refine AK ?_ ?_<;>intro h1
 ·have e1:((U.length:Int)-1-k).toNat=U.length-1-k:=A0;have ho:=FQ (SJ (U.length-1-k) A0);have hz:(U.getD (U.length-1-k) 0=0)=False:=eq_false A0;have hb:=aS h0 SJ k hk;have W3:=aS h0 SJ (k+1) A0;have hs:(yO U num k).tdiv (U.getD (U.length-1-k) 0)=yO U num (k+1):=rfl;have hg:=Fg (U:=U) (num:=num) (d:=k) A0;apply AF;apply DN;refine A6 λN3 DO=>AA<|sQ λN hN=>?_;simp-dsimp-implicitDefEqProofs(disch:=omega)only[go_sem,CB,ints,not_false_eq_true,CI,AU,true_and,e1,hz,hg];apply hN;apply rQ;simp-dsimp-implicitDefEqProofs(disch:=omega)only[go_sem,CB,ints,not_false_eq_true,CI,AU,true_and,e1,hz,hs];apply DO;refine lX ?_;refine BB (k+1) ?_ ?_ ?_
  ·exact YL e1 hs
  ·omega
  exact AI
 apply AO;apply CW;refine QU ?_;refine BQ ?_;refine Vw.vi ?_
 rw[AD,show k=U.length by omega,Pq]
def jF(U pw cj)(h:BW U pw cj)(num)(h0:0<=num)(h9:num<=1048576):DZ prog 76 [AU U pw cj,.i .i64 num] (vi U.length (iM U num)):=by
 have Q4:=h.1.1
 have SJ:=h.2.1
 refine DA AY func76 rfl AP ntmps76 results76 ((RS _ _)) (λnx cX=>?_)
 refine QU ?_;refine QU ?_;refine A6 λN1 CW=>QU ?_;refine AA<|AM (α:=Nat) (λx=>sl 42 [(0,AU U pw cj),(1,.i .i64 (yO U num x)),(5,.h (nx+1+5) 0 U.length),(6,.i .i64 ((U.length:Int)-1-x))]) (λx=>CJ DD (nx+1+5) (some (JP U.length (atP U num x)))) (λx m=>x<=U.length) (λx=>U.length-x) (0) ?_ ?_ (by rw[Fh,IL];exact Le.refl _) ?_
 ·omega
 ·simp(disch:=omega) [EJ,EN,sl,AU,ints,rows,B6,yO]
 rintro k m hk
 refine BH ?_;refine A6 λN2 DN=>QU ?_;refine AK ?_ ?_<;>intro h1
 ·have e1:((U.length:Int)-1-k).toNat=U.length-1-k:=A0;have ho:=FQ (SJ (U.length-1-k) A0);have hz:(U.getD (U.length-1-k) 0=0)=False:=eq_false A0;have hb:=aS h0 SJ k hk;have W3:=aS h0 SJ (k+1) A0;have hs:(yO U num k).tdiv (U.getD (U.length-1-k) 0)=yO U num (k+1):=rfl;have hg:=Fg (U:=U) (num:=num) (d:=k) A0;apply AF;apply DN;refine A6 λN3 DO=>AA<|sQ λN hN=>?_;simp-dsimp-implicitDefEqProofs(disch:=omega)only[go_sem,CB,ints,not_false_eq_true,CI,AU,true_and,e1,hz,hg];apply hN;apply rQ;simp-dsimp-implicitDefEqProofs(disch:=omega)only[go_sem,CB,ints,not_false_eq_true,CI,AU,true_and,e1,hz,hs];apply DO;refine lX ?_;refine BB (k+1) ?_ ?_ ?_
  ·exact YL e1 hs
  ·omega
  exact AI
 apply AO;apply CW;refine QU ?_;refine BQ ?_;refine Vw.vi ?_
 rw[AD,show k=U.length by omega,Pq]
def T7{cX n ops y s s1 K}(q:AW cX prog y s1 K)(e:HA ops s s1:=by intro N hN;(try simp-dsimp-implicitDefEqProofs(maxSteps:=800000) (disch:=omega)only[go_sem,vi,D7]);exact hN):GZ cX n ops y s K:=HF q e
def gO{cX n ops s}{K:Exit->St->Prop}{Q:Prop}(q:Q)(e:Q->KO env prog ops s.nx ops 0 ⟨s.t,s.H,s.nx+ops.length⟩ (K .normal):=by intro q;(try simp-dsimp-implicitDefEqProofs(maxSteps:=800000) (disch:=omega)only[go_sem,vi,D7]);exact q):AW cX prog (.region n ops.toArray false) s K:=rQ (e q)
def Kv{P f nx H Zz r}{K:Nat->HP->AV->Prop}{Q:Prop}(x:DZ P f Zz r)(q:Q)(e:Q->K nx H r:=by intro q;(try simp-dsimp-implicitDefEqProofs(maxSteps:=800000) (disch:=omega)only[go_sem,vi,D7]);exact q):AC P f nx H Zz K:=AC.pure (.of x) (e q)
def MA{cX n ops y s s1 K}(q:AW cX prog y s1 K)(e:HA ops s s1:=by intro N hN;(try simp-dsimp-implicitDefEqProofs(maxSteps:=800000) (disch:=omega)only[go_sem,AU,vi,D7]);exact hN):GZ cX n ops y s K:=HF q e
def RW{cX n ops y s s1 K}(q:AW cX prog y s1 K)(e:HA ops s s1:=by intro N hN;(try simp-dsimp-implicitDefEqProofs(maxSteps:=800000) (disch:=omega)only[go_sem,ints,CI,AU,vi,D7]);exact hN):GZ cX n ops y s K:=HF q e
def QX{cX n ops s}{K:Exit->St->Prop}{Q:Prop}(q:Q)(e:Q->KO env prog ops s.nx ops 0 ⟨s.t,s.H,s.nx+ops.length⟩ (K .normal):=by intro q;(try simp-dsimp-implicitDefEqProofs(maxSteps:=800000) (disch:=omega)only[go_sem,AU,vi,D7]);exact q):AW cX prog (.region n ops.toArray false) s K:=rQ (e q)
def W4{cX n ops y s s1 K}(q:AW cX prog y s1 K)(e:HA ops s s1:=by intro N hN;(try simp-dsimp-implicitDefEqProofs(maxSteps:=800000) (disch:=omega)only[go_sem,CI,AU,vi,D7]);exact hN):GZ cX n ops y s K:=HF q e
def W5{P f nx H Zz r}{K:Nat->HP->AV->Prop}{Q:Prop}(x:DZ P f Zz r)(q:Q)(e:Q->K nx H r:=by intro q;(try simp-dsimp-implicitDefEqProofs(maxSteps:=800000) (disch:=omega)only[go_sem,AU,vi,D7]);exact q):AC P f nx H Zz K:=AC.pure (.of x) (e q)
def jH{cX n ops y s s1 K}(q:AW cX prog y s1 K)(e:HA ops s s1:=by intro N hN;(try simp-dsimp-implicitDefEqProofs(maxSteps:=800000) (disch:=omega)only[go_sem,EF,vi,D7]);exact hN):GZ cX n ops y s K:=HF q e
def W6{P Q:Prop}(q:Q)(e:Q->P:=by intro q;(try simp-dsimp-implicitDefEqProofs(maxSteps:=800000) (disch:=omega)only[go_sem,D7]);exact q):P:=e q
def aT{P Q:Prop}(q:Q)(e:Q->P:=by intro q;(try simp-dsimp-implicitDefEqProofs(maxSteps:=800000) (disch:=omega)only[go_sem,ints,CI,AU,vi,D7]);exact q):P:=e q
def Pt{cX n ops y s s1 K f Zz r}(x:DZ prog f Zz r)(q:AW cX prog y s1 K)(e:DZ prog f Zz r->HA ops s s1:=by intro x N hN;(try simp-dsimp-implicitDefEqProofs(maxSteps:=800000) (disch:=omega)only[go_sem,AU,vi,D7]);refine AC.pure (.of x) ?_;(try simp-dsimp-implicitDefEqProofs(maxSteps:=800000) (disch:=omega)only[go_sem,AU,vi,D7]);exact hN):GZ cX n ops y s K:=HF q (e x)
def eX{P Q:Prop}(q:Q)(e:Q->P:=by intro q;(try simp-dsimp-implicitDefEqProofs(maxSteps:=800000) (disch:=omega)only[go_sem,AU,vi,D7]);exact q):P:=e q
def tW{cX n ops y s s1 K}(q:AW cX prog y s1 K)(e:HA ops s s1:=by intro N hN;(try simp-dsimp-implicitDefEqProofs(maxSteps:=800000) (disch:=omega)only[go_sem,D7]);exact hN):GZ cX n ops y s K:=HF q e
def oG{P Q:Prop}(q:Q)(e:Q->P:=by intro q;(try simp-dsimp-implicitDefEqProofs(maxSteps:=800000) (disch:=omega)only[go_sem,CI,AU,vi,D7]);exact q):P:=e q
def tY{cX n ops s}{K:Exit->St->Prop}{Q:Prop}(q:Q)(e:Q->KO env prog ops s.nx ops 0 ⟨s.t,s.H,s.nx+ops.length⟩ (K .normal):=by intro q;(try simp-dsimp-implicitDefEqProofs(maxSteps:=800000) (disch:=omega)only[go_sem,ints,CI,AU,vi,D7]);exact q):AW cX prog (.region n ops.toArray false) s K:=rQ (e q)
def Kw{P Q:Prop}{R0:Prop}(r0:R0)(q:Q)(e:R0->Q->P:=by intro h0 q;(try simp-dsimp-implicitDefEqProofs(maxSteps:=800000) (disch:=omega)only[go_sem,BD,AR,B4,BE,AT,AS,CB,GJ,ES,ET,ints,CI,AU,vi,D7,DV,h0]);exact q):P:=e r0 q
def mH{cX n ops y s s1 K}(q:AW cX prog y s1 K)(e:HA ops s s1:=by intro N hN;(try simp-dsimp-implicitDefEqProofs(disch:=omega)only[go_sem,ints,vi,D7]);exact hN):GZ cX n ops y s K:=HF q e
def A0Z{cX n ops y s s1 K f Zz r}{R0:Prop}(x:DZ prog f Zz r)(r0:R0)(q:AW cX prog y s1 K)(e:DZ prog f Zz r->R0->HA ops s s1:=by intro x h0 N hN;(try simp-dsimp-implicitDefEqProofs(maxSteps:=800000) (disch:=omega)only[go_sem,CB,ints,CI,AU,vi,D7,h0]);refine AC.pure (.of x) ?_;(try simp-dsimp-implicitDefEqProofs(maxSteps:=800000) (disch:=omega)only[go_sem,ints,CI,AU,vi,D7]);exact hN):GZ cX n ops y s K:=HF q (e x r0)
def A10{P Q:Prop}{R0 R1 R2:Prop}(r0:R0)(r1:R1)(r2:R2)(q:Q)(e:R0->R1->R2->Q->P:=by intro h0 h1 h2 q;(try simp-dsimp-implicitDefEqProofs(maxSteps:=800000) (disch:=omega)only[go_sem,BD,AR,B4,B2,BE,AT,AS,CB,GJ,ES,ET,ints,AU,vi,D7,DV,h0,h1,h2]);exact q):P:=e r0 r1 r2 q
def A11{P Q:Prop}{R0 R1:Prop}(r0:R0)(r1:R1)(q:Q)(e:R0->R1->Q->P:=by intro h0 h1 q;(try simp-dsimp-implicitDefEqProofs(maxSteps:=800000) (disch:=omega)only[go_sem,BD,AR,B4,BE,AT,AS,A1,CB,GJ,ES,ET,ints,CI,AU,vi,D7,DV,h0,h1]);exact q):P:=e r0 r1 q
def tZ{cX n ops s}{K:Exit->St->Prop}{Q:Prop}(q:Q)(e:Q->KO env prog ops s.nx ops 0 ⟨s.t,s.H,s.nx+ops.length⟩ (K .normal):=by intro q;(try simp-dsimp-implicitDefEqProofs(maxSteps:=800000) (disch:=omega)only[go_sem,CI,AU,vi,D7]);exact q):AW cX prog (.region n ops.toArray false) s K:=rQ (e q)
def A12{P Q:Prop}{R0:Prop}(r0:R0)(q:Q)(e:R0->Q->P:=by intro h0 q;(try simp-dsimp-implicitDefEqProofs(maxSteps:=800000) (disch:=omega)only[go_sem,BD,AR,B4,BE,AT,AS,GJ,ES,ET,CI,AU,vi,D7,DV,h0]);exact q):P:=e r0 q
def Ag{cX n ops s}{K:Exit->St->Prop}{Q:Prop}(q:Q)(e:Q->KO env prog ops s.nx ops 0 ⟨s.t,s.H,s.nx+ops.length⟩ (K .normal):=by intro q;(try simp-dsimp-implicitDefEqProofs(maxSteps:=800000) (disch:=omega)only[go_sem,EF,vi,D7]);exact q):AW cX prog (.region n ops.toArray false) s K:=rQ (e q)
def Kx{cX n ops y s s1 K}{R0:Prop}(r0:R0)(q:AW cX prog y s1 K)(e:R0->HA ops s s1:=by intro h0 N hN;(try simp-dsimp-implicitDefEqProofs(maxSteps:=800000) (disch:=omega)only[go_sem,CB,ints,AU,vi,D7,h0]);exact hN):GZ cX n ops y s K:=HF q (e r0)
end
section
noncomputable def T6(P:Pc)(x:V)(k:Int):V:=if k<0 then rep (M P 0) (inv P 0 x) (0-k).toNat else rep (M P 0) x k.toNat
noncomputable def cmV(P:Pc)(x y:V):V:=M P 0 (inv P 0 (M P 0 y x)) (M P 0 x y)
def eU{P}(hv:LK P)(hc:HN P 0){x}(hx:T P 0 x)(k):T P 0 (T6 P x k):=by
 have hg:=CS hv hc;unfold T6;split
 ·exact hg.rep (KJ hg hx).1 _
 exact hg.rep hx _
def A9B{P}(hv:LK P)(hc:HN P 0){x y}(hx:T P 0 x)(hy:T P 0 y):T P 0 (cmV P x y):=by
 have hg:=CS hv hc;exact hg.cl (KJ hg (hg.cl hy hx)).1 (hg.cl hx hy)
def Fi{a b:Int}(hb:0<b):(a.tmod b<0->a.tmod b+b=a%b)/\(0<=a.tmod b->a.tmod b=a%b):=by
 rw[Int.tmod_eq_emod];have h1:=DK a (show b≠0 by omega);have h2:=DR a hb;split<;>omega
def tT(a b)(hb:2<=b/\b<=1000000000):DZ prog 240 [.i .i64 a,.i .i64 b] (.i .i64 (a%b)):=by
 have hd:=Fi (a:=a) (show 0<b by omega)
 have h3:=DK a (show b≠0 by omega)
 have h4:=DR a (show 0<b by omega)
 have h5: -b<=a.tmod b/\a.tmod b<b:=by rcases J1 (a.tmod b) 0 with h|h;(have:=hd.1 h;omega);(have:=hd.2 h;omega)
 refine BI AY func240 rfl AP ntmps240 results240 (.i _ _) (λnx cX=>?_)
 refine CT ?_;refine CT ?_;refine A6 λN1 CW=>CT ?_;refine AK ?_ ?_<;>intro h1
 ·refine K4 ?_;apply CW;refine CT ?_;refine BQ ?_;rw[hd.1 h1]
 apply AF;apply CW;refine CT ?_;refine BQ ?_;rw[hd.2 h1]
def yP(p a y:Int):Prop:=1<=y/\y<p/\a*y%p=1
def ADI{p a}(hp:O8 p)(h1:1<=a)(h2:a<p):∃y,yP p a y:=by
 rcases hp with rfl|rfl|rfl|rfl
 ·exact⟨1,A0,A0,A0⟩
 ·rcases (show a=1\/a=2 by omega)with rfl|rfl
  ·exact⟨1,HT,HT,HT⟩
  exact⟨2,HT,HT,HT⟩
 ·rcases (show a=1\/a=2\/a=3\/a=4 by omega)with rfl|rfl|rfl|rfl
  ·exact⟨1,HT,HT,HT⟩
  ·exact⟨3,HT,HT,HT⟩
  ·exact⟨2,HT,HT,HT⟩
  exact⟨4,HT,HT,HT⟩
 rcases (show a=1\/a=2\/a=3\/a=4\/a=5\/a=6 by omega)with rfl|rfl|rfl|rfl|rfl|rfl
 ·exact⟨1,HT,HT,HT⟩
 ·exact⟨4,HT,HT,HT⟩
 ·exact⟨5,HT,HT,HT⟩
 ·exact⟨2,HT,HT,HT⟩
 ·exact⟨3,HT,HT,HT⟩
 exact⟨6,HT,HT,HT⟩
def Fj{p a y z}(hy:yP p a y)(hz:yP p a z):y=z:=by
 obtain⟨h1,h2,h3⟩:=hy;obtain⟨h4,h5,h6⟩:=hz;have e:y*(a*z)=z*(a*y):=by rw[KZ,KZ z,F8 y z]
 have e1:=HQ (a*z) p;have e2:=HQ (a*y) p;rw[h6]at e1;rw[h3]at e2;rw[<-e1,<-e2,QE,QE,NQ,NQ,KZ,KZ z]at e;have e3:y-z=p*(z*(a*y/p)-y*(a*z/p)):=by rw[K0];omega
 obtain⟨q,hq⟩:=EK (z*(a*y/p)-y*(a*z/p));rw[hq]at e3;rcases Int.lt_trichotomy q 0 with h|h|h
 ·have:p*q<=p*(-1):=CN A0 A0;omega
 ·subst h;omega
 have:p*1<=p*q:=CN A0 A0;omega
noncomputable def ZO(p a:Int):Int:=Classical.epsilon (yP p a)
def jG{p a}(hp:O8 p)(h1:1<=a)(h2:a<p):yP p a (ZO p a):=Classical.epsilon_spec (ADI hp h1 h2)
def tU(a p)(hp:O8 p)(ha1:1<=a)(ha2:a<p):DZ prog 184 [.i .i64 a,.i .i64 p] (.i .i64 (ZO p a)):=by
 have hinv:=jG hp ha1 ha2
 have hb:=FQ hp
 have mF:=tT a p A0
 rw[CV A0 ha2]at mF
 refine BI AY func184 rfl AP ntmps184 results184 (.i _ _) (λnx cX=>?_)
 refine CT ?_;refine A6 λN1 CW=>CT ?_;refine AA<|AM (α:=Nat) (λx=>sl 20 [(0,.i .i64 a),(1,.i .i64 p),(5,.i .i64 x)]) (λ_=>DD) (λx m=>1<=x/\(x:Int)<=p/\∀y:Int,1<=y->y<x->a*y%p≠1) (λx=>p.toNat-x) (1) ?_ ?_ (λ_ _ h=>h) ?_
 ·exact⟨A0,A0,by intro y q1 q2;omega⟩
 ·exact FV
 rintro k m ⟨eG,NC,hI⟩
 refine BH ?_;refine A6 λN2 DN=>CT ?_;refine AK ?_ ?_<;>intro h1
 ·apply AF;apply DN;refine A6 λN3 DO=>AA<|sQ λN hN=>?_;refine BH ?_;have hmul:0<=a*(k:Int)/\a*(k:Int)<=49:=⟨FH A0 A0,by have:=GB (show a<=7 by omega) (show(k:Int)<=7 by omega) A0 A0;omega⟩
  have htm:=CZ (b:=p) hmul.1;refine sF (mF) ?_
  apply hN;refine AK ?_ ?_<;>intro h2
  ·refine CT ?_;refine BQ ?_;rw[Fj (y:=(k:Int)) (z:=ZO p a) ⟨A0,A0,by rw[<-htm];exact h2⟩ hinv]
  apply AF;apply DO;refine K4 ?_;refine BB (k+1) ?_ ?_ ?_
  ·exact FV
  ·refine⟨A0,A0,λy q1 q2=>?_⟩;by_cases e:y=k
   ·subst e;rw[<-htm];exact h2
   exact hI y q1 A0
  exact AI
 apply AO;apply CW;refine CT ?_;refine BQ ?_;exact absurd hinv.2.2 (hI _ hinv.1 (by have:=hinv.2.1;omega))
section
variable(U:C2)(pw:D4)(cj:E6)
def JK(h:BW U pw cj)(hc:HN (pc U pw cj) 0)(a)(ha:T (pc U pw cj) 0 a)(k)(hk: -1099511627776<=k/\k<=1099511627776):DZ prog 118 [CI U pw cj,vi U.length a,.i .i64 k] (vi U.length (T6 (pc U pw cj) a k)):=by
 have hg:=CS h.val hc
 refine BI AY func118 rfl AP ntmps118 results118 (RS _ _) (λnx cX=>?_)
 refine NV ?_;refine BN 3 nx _ rfl (AD _ _ _) ?_
 refine BH ?_;refine A6 λN1 CW=>NV ?_;refine AK ?_ ?_<;>intro h1
 ·have hr:=RT U pw cj h 0 (AE _) hg _ (KJ hg ha).1 (0-k).toNat A0;rw[BG (show 0<=0-k by omega)]at hr;refine A6 λN hN=>C9 AY AP 8 AP ?_
  refine Pn ?_;refine⟨_,.of (UW U pw cj h hc a ha),?_⟩;refine TW ?_
  refine⟨_,.of (hr),?_⟩;refine TW ?_
  apply hN;refine BQ ?_;rw[T6,if_pos h1]
 have hr:=RT U pw cj h 0 (AE _) hg _ ha k.toNat A0
 rw[BG (show 0<=k by omega)]at hr
 apply AF;apply CW;refine Pm (hr) ?_;refine BQ ?_;rw[T6,if_neg A0]
def Z9(h:BW U pw cj)(hc:HN (pc U pw cj) 0)(a b)(ha:T (pc U pw cj) 0 a)(hb:T (pc U pw cj) 0 b):DZ prog 120 [CI U pw cj,vi U.length a,vi U.length b] (vi U.length (cmV (pc U pw cj) a b)):=by
 have hg:=CS h.val hc
 refine BI AY func120 rfl AP ntmps120 results120 (RS _ _) (λnx cX=>?_)
 refine NV ?_;refine BN 3 nx _ rfl (AD _ _ _) ?_
 refine BH ?_;refine A6 λN hN=>C9 AY AP 13 AP ?_
 refine Pn ?_;refine⟨_,.of (JJ U pw cj h _ _ hb ha),?_⟩
 refine TW ?_
 refine⟨_,.of (UW U pw cj h hc _ (hg.cl hb ha)),?_⟩
 refine TW ?_
 refine⟨_,.of (JJ U pw cj h _ _ ha hb),?_⟩
 refine TW ?_
 refine⟨_,.of (JJ U pw cj h _ _ (KJ hg (hg.cl hb ha)).1 (hg.cl ha hb)),?_⟩
 refine TW ?_
 apply hN;apply DQ;simp-dsimp-implicitDefEqProofs(disch:=omega)only[go_sem];try rfl
def oF(x:V):Nat->Nat->Nat
 |0,k=>k
 |f+1,k=>if x k=0 then oF x f (k+1)else k
def O1(n:Nat)(x:V):Nat:=oF x n 0
def tV{x}:∀f k,k<=oF x f k/\oF x f k<=k+f/\(∀j,k<=j->j<oF x f k->x j=0)/\(oF x f k<k+f->x (oF x f k)≠0):=by
 intro f;induction f with
 |zero=>intro k;rw[oF];exact⟨A1 _,A0,λj h1 h2=>A0,λh=>A0⟩
 | succ f ih=>
   intro k;rw[oF];split
   ·rename_i h;obtain⟨i1,i2,i3,i4⟩:=ih (k+1);refine⟨A0,A0,λj h1 h2=>?_,λh2=>i4 A0⟩;by_cases e:j=k
    ·subst e;exact h
    exact i3 j A0 h2
   rename_i h;exact⟨A1 _,A0,λj h1 h2=>A0,λ_=>h⟩
def p8(n)(hn:n<=1048576)(f):DZ prog 217 [vi n f] (.i .i64 (O1 n f)):=by
 refine BI AY func217 rfl AP ntmps217 results217 (.i _ _) (λnx cX=>?_)
 refine RU ?_;refine A6 λN1 CW=>RU ?_;refine AA<|AM (α:=Nat) (λx=>sl 18 [(0,vi n f),(3,.i .i64 x)]) (λ_=>DD) (λx m=>x<=n/\oF f (n-x) x=O1 n f) (λx=>n-x) (0) ?_ ?_ (λ_ _ h=>h) ?_
 ·exact⟨A0,rfl⟩
 ·exact gI
 rintro k m ⟨hk,hI⟩
 refine BH ?_;refine A6 λN2 DN=>RU ?_;refine AK ?_ ?_<;>intro h1
 ·have hs:oF f (n-k) k=if f k=0 then oF f (n-(k+1)) (k+1)else k:=by
   obtain⟨q,hq⟩:∃q,n-k=q+1:=⟨n-k-1,A0⟩;rw[hq,oF,show n-(k+1)=q by omega]
  apply AF;apply DN;refine A6 λN3 DO=>AA<|RU ?_;refine AK ?_ ?_<;>intro h2
  ·refine RU ?_;refine BQ ?_;rw[<-hI,hs,if_neg h2]
  apply AF;apply DO;apply rQ;simp-dsimp-implicitDefEqProofs(disch:=omega)only[go_sem,vi];refine BB (k+1) ?_ ?_ ?_
  ·exact gI
  ·exact⟨A0,by rw[<-hI,hs,if_pos h2]⟩
  exact AI
 apply AO;apply CW;refine RU ?_;refine BQ ?_;rw[<-hI,show n-k=0 by omega,oF,show k=n by omega]
def mG(n)(hn:n<=1048576)(f):DZ prog 162 [vi n f] (.i .i64 (O1 n f)):=by
 refine BI AY func162 rfl AP ntmps162 results162 (.i _ _) (λnx cX=>?_)
 refine CT ?_;refine UN (p8 n hn f) ?_;apply DQ;simp-dsimp-implicitDefEqProofs(disch:=omega)only[go_sem];try rfl
end
end
section
def p9(a m)(hm:2<=m/\m<=1000000000):DZ prog 198 [.i .i64 a,.i .i64 m] (.i .i64 (a%m)):=by
 have hd:=Fi (a:=a) (show 0<m by omega)
 have h3:=DK a (show m≠0 by omega)
 have h4:=DR a (show 0<m by omega)
 have h5: -m<=a.tmod m/\a.tmod m<m:=by rcases J1 (a.tmod m) 0 with h|h;(have:=hd.1 h;omega);(have:=hd.2 h;omega)
 have h6:(a.tmod m+m).tmod m=a%m:=by
  rw[CZ A0];rcases J1 (a.tmod m) 0 with h|h
  ·rw[hd.1 h,CV A0 A0]
  rw[hd.2 h,Int.add_emod_right,CV A0 A0]
 refine BI AY func198 rfl AP ntmps198 results198 (.i _ _) (λnx cX=>?_)
 refine CT ?_;refine CT ?_;refine BQ ?_;rw[h6]
structure Pr(m a r n x y X Y:Int):Prop where
 r0:0<r
 rm:r<=m
 n0:0<=n
 nm:n<=m
 X0:0<=X
 Y0:0<=Y
 sx:(x=X/\y= -Y)\/(x= -X/\y=Y)
 sum:Y*r+X*n=m
 bz:∃u v,u*r+v*n=1
 cx:∃k,x*a-r=k*m
 cy:∃k,y*a-n=k*m
def Pr.start{m a}(hm:0<m)(ha:0<=a)(ham:a<=m)(hb:∃u v,u*m+v*a=1):Pr m a m a 0 1 0 1:=
 ⟨hm,A0,ha,ham,A0,A0,.inr ⟨A0,rfl⟩,A0,hb,⟨-1,A0⟩,⟨0,A0⟩⟩
def Pr.ybd{m a r n x y X Y}(h:Pr m a r n x y X Y):Y<=m:=by
 have h1:0<=X*n:=FH h.X0 h.n0;have h2:Y*1<=Y*r:=CN (by have:=h.r0;omega) h.Y0;have h3:=h.sum;omega
def Pr.xbd{m a r n x y X Y}(h:Pr m a r n x y X Y)(hn:0<n):X<=m:=by
 have h1:X*1<=X*n:=CN A0 h.X0;have h2:0<=Y*r:=FH h.Y0 (by have:=h.r0;omega);have h3:=h.sum;omega
def Pr.step{m a r n x y X Y}(h:Pr m a r n x y X Y)(hn:0<n):Pr m a n (r-r/n*n) y (x-r/n*y) Y (X+r/n*Y)/\0<=r/n/\r/n<=m/\0<=r/n*n/\r/n*n<=m/\-m<=r/n*y/\r/n*y<=m:=by
 have hr:=h.r0;obtain⟨q,hq⟩:=EK (r/n);have e1:=HQ r n;have e2:=DK r (show n≠0 by omega);have e3:=DR r hn;rw[hq,F8 n q]at e1;have eV:0<=q:=by rw[<-hq];exact PX A0 A0
 rw[hq];have hqn:q*1<=q*n:=CN A0 eV;have hqY:0<=q*Y:=FH eV h.Y0;have M4:Pr m a n (r-q*n) y (x-q*y) Y (X+q*Y):=by
  refine⟨hn,h.nm,A0,by have:=h.nm;omega,h.Y0,by have:=h.X0;omega,?_,?_,?_,h.cy,?_⟩
  ·rcases h.sx with ⟨h1,h2⟩|⟨h1,h2⟩
   ·exact .inr ⟨h2,by rw[h1,h2,Int.mul_neg];omega⟩
   exact .inl ⟨h2,by rw[h1,h2];omega⟩
  ·have:=h.sum;rw[GI,K0];have e4:q*Y*n=Y*(q*n):=by rw[F8 q Y,HY]
   omega
  ·obtain⟨u,v,h1⟩:=h.bz;refine⟨v+u*q,u,?_⟩;rw[GI,K0,HY];omega
  obtain⟨k1,h1⟩:=h.cx;obtain⟨k2,h2⟩:=h.cy;refine⟨k1-q*k2,?_⟩;have e5:q*(y*a-n)=q*(k2*m):=by rw[h2]
  rw[K0,<-HY,<-HY]at e5;rw[QF,QF];omega
 have hY:=M4.ybd;have hX0:=h.X0;have hrm:=h.rm;refine⟨M4,eV,A0,A0,A0,?_,?_⟩
 ·rcases h.sx with ⟨_,h2⟩|⟨_,h2⟩
  ·rw[h2,Int.mul_neg];omega
  rw[h2];omega
 rcases h.sx with ⟨_,h2⟩|⟨_,h2⟩
 ·rw[h2,Int.mul_neg];omega
 rw[h2];omega
def Pr.fin{m a r x y X Y}(h:Pr m a r 0 x y X Y)(hm:2<=m):r=1/\yP m a (x%m):=by
 have hr:=h.r0;have UF:r=1:=by
  obtain⟨u,v,h1⟩:=h.bz;rcases J1 u 1 with hu|hu
  ·have:u*r<=0*r:=D5 A0 A0;omega
  have:1*r<=u*r:=D5 hu A0;omega
 subst UF;refine⟨rfl,?_⟩;obtain⟨k,hk⟩:=h.cx;have h1:a*x%m=1:=by
  have:a*x=1+k*m:=by rw[F8];omega
  rw[this,Int.add_mul_emod_self_right,CV A0 A0]
 have h2:a*(x%m)%m=1:=by rw[SA,RG,<-SA];exact h1
 have h3:=DK x (show m≠0 by omega);refine⟨?_,DR x A0,h2⟩;rcases J1 0 (x%m)with h4|h4
 ·omega
 have h5:x%m=0:=A0;rw[h5]at h2;simp at h2
def AJJ(k n b):NR (.t [.i k n,.b b]):=NR.ts (λx hx=>by
 simp at hx;rcases hx with rfl|rfl
 ·exact .i _ _
 exact .b _)
def gM(a p)(hp:O8 p)(ha1:1<=a)(ha2:a<p):DZ prog 150 [.i .i64 a,.i .i64 p] (.t [.i .i64 (ZO p a),.b true]):=by
 have hinv:=jG hp ha1 ha2
 have hb:=FQ hp
 have hbz:∃u v,u*p+v*a=1:=by
  have e:=HQ (a*ZO p a) p;rw[hinv.2.2]at e;exact⟨-(a*ZO p a/p),ZO p a,by rw[Int.neg_mul,F8 (ZO p a) a,F8 (a*ZO p a/p) p];omega⟩
 refine BI AY func150 rfl AP ntmps150 results150 (AJJ _ _ _) (λnx cX=>?_)
 refine CT ?_;refine CT ?_;refine A6 λN1 CW=>AA<|AM (α:=(Int×Int)×(Int×Int)×(Int×Int)) (λx=>sl 35 [(1,.i .i64 p),(6,.i .i64 x.1.1),(7,.i .i64 x.1.2),(8,.i .i64 x.2.1.1),(9,.i .i64 x.2.1.2)]) (λ_=>DD) (λx m=>Pr p a x.1.1 x.1.2 x.2.1.1 x.2.1.2 x.2.2.1 x.2.2.2) (λx=>x.1.2.toNat) (((p,a),(0,1),(0,1))) ?_ ?_ (λ_ _ h=>h) ?_
 ·exact Pr.start A0 A0 A0 hbz
 ·exact FV
 rintro⟨⟨r,n⟩,⟨y,z⟩,⟨Y,Z⟩⟩ m he
 dsimp only at he
 refine BH ?_;have PN:=he.n0
 have hrm:=he.rm
 have Ik:=he.r0
 have hnm:=he.nm
 have hzb:=he.ybd
 have hZ0:=he.Y0
 refine A6 λN2 DN=>CT ?_;refine AK ?_ ?_<;>intro h1
 ·obtain⟨e1,e2,e3,e4,e5,e6,e7⟩:=he.step A0;have hxb:=he.xbd A0;have hX0:=he.X0;have hsx:=he.sx;have htd:r.tdiv n=r/n:=EC A0;have mF:r-r/n*n<n:=by
   have q1:=HQ r n;have q2:=DR r (show 0<n by omega);rw[F8 n]at q1;omega
  rw[<-htd]at e1 e2 e3 e4 e5 e6 e7 mF;apply AF;apply DN;refine AA<|CT ?_;refine CT ?_;refine K4 ?_;refine BB ((n,r-r.tdiv n*n),(z,y-r.tdiv n*z),(Z,Y+r.tdiv n*Z)) ?_ ?_ ?_
  ·exact FV
  ·exact e1
  exact AI
 apply AO;apply CW;refine UN (p9 y p A0) ?_;refine BQ ?_;have hn:n=0:=A0
 subst hn
 obtain⟨f1,f2⟩:=he.fin A0
 rw[Fj f2 hinv,f1];rfl
end
section
def tkl(n:Nat):Option V->Nat
 |none=>0
 |some _=>n
def tkc(n:Nat):Option V->List AV
 |none=>[]
 |some y=>JP n y
def eW(n:Nat)(t:Nat->Option V):List AV:=(List.range n).map λd=> .v (tkl n (t d)) (tkc n (t d))
def qV{n t}:(eW n t).length=n:=by simp[eW]
def A64{n t d}(h:d<n):(eW n t).getD d .j= .v (tkl n (t d)) (tkc n (t d)):=by simp[eW,h]
attribute [go_sem] qV A64
def tbT(P:Pc)(t:Nat->Option V):Prop:=∀d y,t d=some y->T P 0 y
noncomputable def OA(P:Pc)(t:Nat->Option V):Nat->Nat->V->Nat×V
 |0,d,x=>(d,x)
 | f+1,d,x=>if x d=0 then OA P t f (d+1) x else match t d with
   |none=>(d,x)
   |some y=>OA P t f (d+1) (M P 0 x (T6 P y (0-x d)))
def AJK(n:Nat)(z:Nat×V):AV:= .t [.i .i64 z.1,vi n z.2]
section
variable(U:C2)(pw:D4)(cj:E6)
def A0Y(f)(hn:U.length<=1048576):DZ prog 87 [vi U.length f] (vi U.length f):=by
 have:=xG (vec U.length f) (by rw[HB];omega);rwa [KF]at this
def D7(n:Nat)(us:List V):AV:= .v us.length (us.map (vi n))
def NM{n:Nat}{us:List V}{k:Nat}(h:k<us.length):(us.map (vi n)).getD k .j=vi n (us.getD k z0):=by simp[h]
attribute [go_sem] NM
end
end
section
def Ah{cX P c s K}(i n)(h:s.H i=some (List.replicate n .nl))(hs:AW cX P c ⟨s.t,CJ s.H i (some (List.replicate n (.v 0 []))),s.nx⟩ K):AW cX P c s K:=by
 refine AW.fz (s':=⟨s.t,CJ s.H i (some (List.replicate n (.v 0 []))),s.nx⟩) ⟨sM,?_,A1 _⟩ hs;intro q LI hq;by_cases e:q=i
 ·subst e;dsimp only at hq;rw[AD]at hq;cases hq;refine⟨_,h,B5,λz x y hx hy=>?_⟩;have hz:z<n:=by have:=(AL.1 hx).1;simpa using this
  rw[EV,if_pos hz]at hx hy;cases hx;cases hy;exact .nl
 dsimp only at hq;rw[AB _ _ e]at hq;exact⟨LI,hq,rfl,λq x y h1 h2=>by rw[h1]at h2;cases h2;exact .refl _⟩
def oset(t:Nat->Option V)(d:Nat)(y:V):Nat->Option V:=λk=>if k=d then some y else t k
def Ai{n d:Nat}{t:Nat->Option V}{y:V}(h:d<n):DH (eW n t) d [.v n (JP n y)]=eW n (oset t d y):=by
 rw[OW _ _ _ (by rw[qV];exact h)];apply C7;intro i;rw[CL];by_cases hi:d=i
 ·subst hi;simp[eW,oset,h,tkl,tkc]
 simp only[hi,if_false,eW,BF];by_cases hn:i<n
 ·simp[hn,oset,I8 hi]
 simp[hn]
def Aj{n}:List.replicate n (AV.v 0 [])=eW n (λ_=>none):=by
 apply C7;intro i;by_cases hn:i<n<;>simp[eW,hn,tkl,tkc]
noncomputable def XN(P:Pc)(dn:Nat->Option V):Nat->Nat->V->V
 |0,_,x=>x
 | f+1,e,x=>XN P dn f (e+1) (match dn e with
   |none=>x
   |some z=>if x e=0 then x else M P 0 x (T6 P z (0-x e)))
noncomputable def u9(P:Pc)(n:Nat)(t:Nat->Option V):Nat->Nat->Option V
 |0=>λ_=>none
 | j+1=>match t (n-1-j)with
   |none=>u9 P n t j
   |some y=>oset (u9 P n t j) (n-1-j) (XN P (u9 P n t j) j (n-j) y)
def ADJ{P}(hv:LK P)(hc:HN P 0){dn}(hd:tbT P dn):∀f e x,T P 0 x->T P 0 (XN P dn f e x):=by
 intro f;induction f with
 |zero=>intro e x hx;exact hx
 | succ f ih=>
   intro e x hx;rw[XN];refine ih _ _ ?_;cases hz:dn e with
   |none=>exact hx
   | some z=>
     dsimp only;split
     ·exact hx
     exact aH hv hx (eU hv hc (hd e z hz) _)
def AJL{P}(hv:LK P)(hc:HN P 0){n t}(ht:tbT P t):∀j,tbT P (u9 P n t j):=by
 intro j;induction j with
 |zero=>intro d y h;cases h
 | succ j ih=>
   rw[u9];split
   ·exact ih
   rename_i y hy;intro d z hz;unfold oset at hz;split at hz
   ·cases hz;exact ADJ hv hc ih _ _ _ (ht _ _ hy)
   exact ih d z hz
def LW(dn:Nat->Option V)(k:Nat):List V:=(List.range k).filterMap dn
def O3{dn k y}(h:dn k=some y):LW dn (k+1)=LW dn k++[y]:=by simp[LW,CX,PK,h]
def MZ{dn k}(h:dn k=none):LW dn (k+1)=LW dn k:=by simp[LW,CX,PK,h]
def uA{dn k}:(LW dn k).length<=k:=by
 have:=List.length_filterMap_le dn (List.range k);rw[DG]at this;exact this
def yQ{n o}(hn:0<n)(h:tkl n o=0):o=none:=by
 cases o with
 |none=>rfl
 |some y=>rw[tkl]at h;omega
def yR{n o}(h:tkl n o≠0):∃y,o=some y/\AV.v (tkl n o) (tkc n o)=vi n y:=by
 cases o with
 |none=>exact absurd rfl h
 |some y=>exact⟨y,rfl,rfl⟩
def UZ(n us):NR (D7 n us):= .v _ _ (λk y hk=>by
 obtain⟨z,_,rfl⟩:=AQ.1 (D3 hk);exact RS _ _)
def OwS(n nx DI:Nat)(H H':HP)(r:AV)(X:List V):Prop:=∃id,r= .h id 0 X.length/\nx<=id/\id<DI/\H'=CJ H id (some (X.map (vi n)))
def A13{P f nx H xs Q}(e:Ent P f)(h:(∀i,nx<=i->H i=none)->AC P f nx H xs Q):AC P f nx H xs Q:=by
 refine⟨e,λL Av w us a b c=>(h λi hi=>?_).2 L Av w us a b c⟩;cases hh:H i with
 |none=>rfl
 |some cs=>obtain⟨l,h1,_⟩:=a.node i cs hh;rw[b i hi]at h1;cases h1
def DZ.A65{P f xs X}(hX:NR X)(h:∀nx,AC P f nx DD xs (λ_ H' r=>Vw H' r X)):DZ P f xs X:=by
 refine⟨(h 0).1,λL M w us hM ⟨n,hn⟩ ha=>((h n).2 L M w us (fT hM) hn (by rw[fU];exact ha)).mono ?_⟩;rintro e w' ⟨u,r,L',DI,H',h1,h2,h3,h4,h5,h6,h7,h8⟩;exact⟨u,h1,⟨λ_ _ h=>h,h7.os,h7.tape,h7.output,h7.size,h7.BV,λb _ hb=>absurd hb SG⟩,(h2.sound h6 h8).nr hX⟩
def OwS.vw{n nx DI H H' r X}(h:OwS n nx DI H H' r X):Vw H' r (D7 n X):=by
 obtain⟨id,rfl,h1,h2,rfl⟩:=h;exact Vw.IY (AD _ _ _) B5
def DZ.ofS{P f xs n X}(h:∀nx,AC P f nx DD xs (λDI H' r=>OwS n nx DI DD H' r X)):DZ P f xs (D7 n X):=
 .A65 (UZ _ _) λnx=>(h nx).mono λ_ _ _ q=>q.vw
def Ky{P f nx n H xs X}(h:AC P f nx DD xs (λDI H' r=>OwS n nx DI DD H' r X)):AC P f nx H xs (λDI H' r=>OwS n nx DI H H' r X):=by
 refine A13 h.1 λGM=>(AC.frame h).mono ?_
 rintro DI H' r ⟨H0,⟨id,rfl,h1,h2,rfl⟩,h3,h4⟩;refine⟨id,rfl,h1,h2,funext λi=>?_⟩;rcases BL i nx with q|q
 ·rw[h3 i q,AB _ _ A0]
 rw[h4 i q];by_cases e:i=id
 ·subst e;rw[AD,AD]
 rw[AB _ _ e,AB _ _ e,GM i q];rfl
def uB{H id c}:Le (CJ DD id c) (CJ H id c):=by
 intro i e hi;by_cases q:i=id
 ·subst q;rw[AD]at hi ⊢;exact hi
 rw[AB _ _ q]at hi;cases hi
section
variable(U:C2)(pw:D4)(cj:E6)
def uC(h:BW U pw cj)(hc:HN (pc U pw cj) 0)(t)(ht:tbT (pc U pw cj) t)(nx):AC prog 185 nx DD [CI U pw cj,.v U.length (eW U.length t)] (λDI H' r=>OwS U.length nx DI DD H' r (LW (u9 (pc U pw cj) U.length t U.length) U.length)):=by
 have Q4:=h.1.1
 have hv:=h.val
 have l9:=λj=>AJL hv hc (n:=U.length) ht j
 refine CF AY func185 rfl AP ntmps185 results185 (λGM cX=>?_)
 refine OZ ?_;refine BN 2 nx _ rfl (AD _ _ _) ?_
 refine BH ?_;refine OZ ?_;refine A6 λN1 CW=>Ah (nx+2+2) U.length (AD _ _ _) ?_
 rw[Aj]
 refine BH ?_;refine OZ ?_;refine AA<|AM (α:=Nat) (λx=>sl 91 [(1,.v U.length (eW U.length t)),(2,AU U pw cj),(5,.h (nx+2+2) 0 U.length),(6,.i .i64 ((U.length:Int)-1-x))]) (λx=>CJ DD (nx+2+2) (some (eW U.length (u9 (pc U pw cj) U.length t x)))) (λx m=>x<=U.length/\nx+2+4<=m) (λx=>U.length-x) (0) ?_ ?_ (by rw[u9];intro d cs hd;simp only[CJ,DD]at hd ⊢;grind) ?_
 ·exact⟨A0,AI⟩
 ·exact E7
 rintro k m ⟨hk,hm⟩
 simp only[vi,AU];refine BH ?_;refine A6 λN2 DN=>OZ ?_;refine AK ?_ ?_<;>intro h1
 ·have e1:((U.length:Int)-1-k).toNat=U.length-1-k:=A0;apply AF;apply DN;refine A6 λN3 DO=>AA<|A6 λN4 FD=>?_;refine eR e1 ?_;refine AK ?_ ?_<;>intro h2
  ·have hy:t (U.length-1-k)=none:=yQ (n:=U.length) A0 A0;have hs:u9 (pc U pw cj) U.length t (k+1)=u9 (pc U pw cj) U.length t k:=by rw[u9,hy]
   apply AO;apply DO;refine XH ?_;refine⟨k+1,?_,(by rw[hs];exact Le.refl _),?_,?_⟩
   ·exact E7
   ·exact⟨A0,AI⟩
   exact AI
  obtain⟨y,hy,hyv⟩:=yR (n:=U.length) (o:=t (U.length-1-k)) A0;have gP:=ht _ y hy;have hs:u9 (pc U pw cj) U.length t (k+1)=oset (u9 (pc U pw cj) U.length t k) (U.length-1-k) (XN (pc U pw cj) (u9 (pc U pw cj) U.length t k) k (U.length-k) y):=by rw[u9,hy]
  have hD:=l9 k;obtain⟨D,hDe⟩:=EK (u9 (pc U pw cj) U.length t k);rw[hDe]at hs hD;rw[hDe];apply AF;apply FD;refine sQ λN hN=>?_;simp-dsimp-implicitDefEqProofs(disch:=omega)only[go_sem,CI,AU,vi,e1,hyv];apply hN;refine A6 λN5 ID=>OZ ?_;refine AA<|AM (α:=Nat×V) (λx=>sl 91 [(1,.v U.length (eW U.length t)),(2,AU U pw cj),(5,.h (nx+2+2) 0 U.length),(6,.i .i64 ((U.length:Int)-1-k)),(7,vi U.length x.2),(8,.i .i64 ((U.length:Int)-k+x.1))]) (λ_=>CJ DD (nx+2+2) (some (eW U.length D))) (λx m=>((x.1<=k/\nx+2+4<=m)/\T (pc U pw cj) 0 x.2)/\XN (pc U pw cj) D (k-x.1) (U.length-k+x.1) x.2=XN (pc U pw cj) D k (U.length-k) y) (λx=>k-x.1) ((0,y)) ?_ ?_ (by exact Le.refl _) ?_
  ·exact⟨⟨⟨A0,AI⟩,gP⟩,rfl⟩
  ·exact E7
  rintro⟨q,u⟩ m2 ⟨⟨⟨hq,Q8⟩,hu⟩,hI⟩;dsimp only at hq hu hI ⊢;simp only[vi,AU];refine BH ?_;refine A6 λN6 OR=>OZ ?_;refine AK ?_ ?_<;>intro h3
  ·have e2:((U.length:Int)-k+q).toNat=U.length-k+q:=A0;have iN:XN (pc U pw cj) D (k-q) (U.length-k+q) u=XN (pc U pw cj) D (k-(q+1)) (U.length-k+(q+1)) (match D (U.length-k+q)with
     |none=>u
     |some z=>if u (U.length-k+q)=0 then u else M (pc U pw cj) 0 u (T6 (pc U pw cj) z (0-u (U.length-k+q)))):=by
    obtain⟨f,hf⟩:∃f,k-q=f+1:=⟨k-q-1,A0⟩;rw[hf,XN,show k-(q+1)=f by omega];rfl
   have hur:=hu.r (U.length-k+q) A0 (show U.length-k+q<U.length by omega);have huo:=FQ (h.2.1 (U.length-k+q) A0);have Ak:(pc U pw cj).o (U.length-k+q)=U.getD (U.length-k+q) 0:=rfl;apply AF;apply OR;refine A6 λN7 S6=>AA<|sQ λN hN=>?_;(try simp-dsimp-implicitDefEqProofs(disch:=omega)only[go_sem,CI,AU,vi,e2]);refine J5.mk' (λh4=>?_) (λh4=>?_)
   ·(try simp only[cn]at h4);obtain⟨z,hz,hzv⟩:=yR (n:=U.length) (o:=D (U.length-k+q)) A0;have hzT:=hD _ z hz;have hpT:=eU hv hc hzT (0-u (U.length-k+q));refine PS ?_
    apply hN;refine AK ?_ ?_<;>intro h5
    ·rw[e2]at h5;refine C9 AY AP 15 AP ?_;refine A0U e2 ?_;rw[hzv];refine⟨_,.of (JK U pw cj h hc z hzT (0-u (U.length-k+q)) A0),?_⟩;refine PS ?_
     refine⟨_,.of (JJ U pw cj h _ _ hu hpT),?_⟩;refine PS ?_
     apply S6;refine XH ?_;refine BB (q+1,M (pc U pw cj) 0 u (T6 (pc U pw cj) z (0-u (U.length-k+q)))) ?_ ?_ ?_
     ·exact E7
     ·exact⟨⟨⟨A0,AI⟩,aH hv hu hpT⟩,by (try simp only[]);rw[<-hI,iN,hz];dsimp only;rw[if_neg A0]⟩
     exact AI
    rw[e2]at h5;apply AF;apply S6;refine XH ?_;refine BB (q+1,u) ?_ ?_ ?_
    ·exact E7
    ·exact⟨⟨⟨A0,AI⟩,hu⟩,by (try simp only[]);rw[<-hI,iN,hz];dsimp only;rw[if_pos A0]⟩
    exact AI
   try simp only[cn]at h4
   have hz:D (U.length-k+q)=none:=yQ (n:=U.length) A0 A0;refine PS ?_
   apply hN;refine DJ rfl ?_;apply AF;apply S6;refine XH ?_;refine BB (q+1,u) ?_ ?_ ?_
   ·exact E7
   ·exact⟨⟨⟨A0,AI⟩,hu⟩,by (try simp only[]);rw[<-hI,iN,hz]⟩
   exact AI
  apply AO;apply ID;have hqk:q=k:=A0;subst hqk;have YO:u=XN (pc U pw cj) D q (U.length-q) y:=by rw[<-hI,CM];rfl
  have hg:DH (eW U.length D) (U.length-1-q) [AV.v U.length (JP U.length u)]=eW U.length (oset D (U.length-1-q) u):=Ai A0;apply rQ;simp-dsimp-implicitDefEqProofs(disch:=omega)only[go_sem,CI,AU,vi,e1,hg];apply DO;refine XH ?_;refine⟨q+1,?_,(by rw[hs,<-YO];exact Le.refl _),?_,?_⟩
  ·exact E7
  ·exact⟨A0,AI⟩
  exact AI
 apply AO;apply CW;refine OZ ?_;refine A6 λN8 VK=>OZ ?_;apply AA;have eA:k=U.length:=A0
 subst eA
 obtain⟨D,hDe⟩:=EK (u9 (pc U pw cj) U.length t U.length)
 rw[hDe]
 refine AM (α:=Nat×Nat×List V) (λx=>sl 91 [(5,.h (nx+2+2) 0 U.length),(9,.h x.2.1 0 x.2.2.length),(10,.i .i64 x.1)]) (λx=>CJ (CJ DD (nx+2+2) (some (eW U.length D))) x.2.1 (some (x.2.2.map (vi U.length)))) (λx m=>(x.1<=U.length/\nx+2+2<x.2.1/\x.2.1<m)/\x.2.2=LW D x.1) (λx=>U.length-x.1) ((0,m+2,[])) ?_ ?_ (by intro d cs hd;simp only[CJ,DD,BU]at hd ⊢;grind) ?_
 ·exact⟨⟨A0,AI,AI⟩,rfl⟩
 ·exact E2
 rintro⟨q,id,K⟩ m3 ⟨⟨hq,GF,xO⟩,hK⟩
 dsimp only at hq GF xO hK ⊢
 refine A6 λN9 ZW=>OZ ?_;refine AK ?_ ?_<;>intro h6
 ·have Is:K.length<=6:=by have:=uA (dn:=D) (k:=q);rw[hK];omega
  apply AF;apply ZW;refine A6 λPf R9=>AA<|OZ ?_;refine AK ?_ ?_<;>intro h7
  ·obtain⟨z,hz,hzv⟩:=yR (n:=U.length) (o:=D q) A0;apply rQ;simp-dsimp-implicitDefEqProofs(disch:=omega)only[go_sem,CI,AU,vi,hzv];apply R9;refine XH ?_;refine⟨(q+1,m3+4+6+6,K++[z]),?_,(by intro d cs hd;simp only[CJ,DD,KD,AZ,BR,BU,vi]at hd ⊢;grind),?_,?_⟩
   ·exact E2
   ·exact⟨⟨A0,AI,AI⟩,by (try simp only[]);rw[O3 hz,hK]⟩
   exact AI
  have hz:D q=none:=yQ (n:=U.length) A0 A0;apply AF;apply R9;refine XH ?_;refine BB (q+1,id,K) ?_ ?_ ?_
  ·exact E2
  ·exact⟨⟨A0,AI,AI⟩,by (try simp only[]);rw[MZ hz,hK]⟩
  exact AI
 apply AO;apply VK;refine OZ ?_;refine BQ ?_;have YO:LW D U.length=K:=by rw[hK,show q=U.length by omega]
 rw[hDe,YO]
 exact⟨_,uB,id,rfl,A0,A0,rfl⟩
end
end
section
section
variable(U:C2)(pw:D4)(cj:E6)
def pD(h:BW U pw cj)(hc:HN (pc U pw cj) 0)(t)(ht:tbT (pc U pw cj) t)(a)(hx:T (pc U pw cj) 0 a)(nx H tid)(hH:H tid=some (eW U.length t)):AC prog 183 nx H [CI U pw cj,.h tid 0 U.length,vi U.length a] (λDI H' r=>r=AJK U.length (OA (pc U pw cj) t U.length 0 a)/\H'=H):=by
 have Q4:=h.1.1
 have hv:=h.val
 refine CF AY func183 rfl AP ntmps183 results183 (λGM cX=>?_)
 refine eR hH ?_;refine BN 3 nx _ rfl (AD _ _ _) ?_
 refine BH ?_;refine sQ λN hN=>?_;simp-dsimp-implicitDefEqProofs(disch:=omega)only[go_sem,CI,AU,vi,hH];refine AC.pure (.of (A0Y U a A0)) ?_;(try simp-dsimp-implicitDefEqProofs(disch:=omega)only[go_sem,CI,AU,vi,hH]);apply hN;refine A6 λN1 CW=>eR hH ?_;refine AA<|AM (α:=Nat×V) (λx=>sl 48 [(1,.h tid 0 U.length),(3,AU U pw cj),(8,vi U.length x.2),(9,.i .i64 x.1)]) (λ_=>H) (λx m=>(x.1<=U.length/\T (pc U pw cj) 0 x.2)/\OA (pc U pw cj) t (U.length-x.1) x.1 x.2=OA (pc U pw cj) t U.length 0 a) (λx=>U.length-x.1) ((0,a)) ?_ ?_ (by intro d cs hd;(try simp only[CJ]);have hnn:=GM nx (A1 _);by_cases e:d=nx;(subst e;rw[hnn]at hd;cases hd);(simp only[e,if_false];exact hd)) ?_
 ·exact⟨⟨A0,hx⟩,rfl⟩
 ·exact E7
 rintro⟨k,u⟩ m ⟨⟨hk,hu⟩,hI⟩
 dsimp only at hk hu hI ⊢
 simp only[vi,AU];refine BH ?_;refine A6 λN2 DN=>eR hH ?_;refine AK ?_ ?_<;>intro h1
 ·have hs:OA (pc U pw cj) t (U.length-k) k u=if u k=0 then OA (pc U pw cj) t (U.length-(k+1)) (k+1) u else match t k with
    |none=>(k,u)
    |some y=>OA (pc U pw cj) t (U.length-(k+1)) (k+1) (M (pc U pw cj) 0 u (T6 (pc U pw cj) y (0-u k))):=by
   obtain⟨q,hq⟩:∃q,U.length-k=q+1:=⟨U.length-k-1,A0⟩;rw[hq,OA,show U.length-(k+1)=q by omega];try (cases t k<;>rfl)
  have hur:=hu.r k A0 (show k<U.length by omega);have huo:=FQ (h.2.1 k A0);have Ak:(pc U pw cj).o k=U.getD k 0:=rfl;apply AF;apply DN;refine A6 λN3 DO=>AA<|A6 λN4 FD=>?_;refine eR hH ?_;refine AK ?_ ?_<;>intro h2
  ·apply AO;apply DO;apply rQ;simp-dsimp-implicitDefEqProofs(disch:=omega)only[go_sem,CI,AU,vi,hH];refine BB (k+1,u) ?_ ?_ ?_
   ·exact A0V hH
   ·exact⟨⟨A0,hu⟩,by (try simp only[]);rw[<-hI,hs,if_pos h2]⟩
   exact AI
  apply AF;apply FD;refine A6 λN5 ID=>eR hH ?_;refine AK ?_ ?_<;>intro h3
  ·have hy:t k=none:=by
    cases hq:t k with
    |none=>rfl
    |some y=>rw[hq,tkl]at h3;omega
   refine eR hH ?_;refine BQ ?_;exact⟨_,λ_ _ h=>h,by rw[<-hI,hs,if_neg h2,hy];rfl,rfl⟩
  obtain⟨y,hy⟩:∃y,t k=some y:=by
   cases hq:t k with
   |none=>rw[hq,tkl]at h3;exact absurd rfl h3
   |some y=>exact⟨y,rfl⟩
  have gP:=ht k y hy;have hyv:AV.v (tkl U.length (t k)) (tkc U.length (t k))=vi U.length y:=by rw[hy];rfl
  have hpT:=eU hv hc gP (0-u k);apply AF;apply ID;refine C9 AY AP 15 AP ?_;refine A0U hH ?_;rw[hyv];refine⟨_,.of (JK U pw cj h hc y gP (0-u k) A0),?_⟩;(try simp-dsimp-implicitDefEqProofs(disch:=omega)only[go_sem,CI,AU,vi,hH])
  refine⟨_,.of (JJ U pw cj h _ _ hu hpT),?_⟩;(try simp-dsimp-implicitDefEqProofs(disch:=omega)only[go_sem,CI,AU,vi,hH])
  apply DO;apply rQ;simp-dsimp-implicitDefEqProofs(disch:=omega)only[go_sem,CI,AU,vi,hH];refine BB (k+1,M (pc U pw cj) 0 u (T6 (pc U pw cj) y (0-u k))) ?_ ?_ ?_
  ·exact A0V hH
  ·exact⟨⟨A0,aH hv hu hpT⟩,by (try simp only[]);rw[<-hI,hs,if_neg h2,hy]⟩
  exact AI
 apply AO;apply CW;refine eR hH ?_;refine BQ ?_;exact⟨_,λ_ _ h=>h,by rw[<-hI,show U.length-k=0 by omega,OA,show k=U.length by omega];rfl,rfl⟩
end
end
section
section
variable{P:Pc}(hv:LK P){d:Nat}
include hv
theorem Kz(hd:d<P.n){a b}(ha:T P d a)(hb:T P d b):M P 0 a b d=(a d+b d)%P.o d:=by
 have h1:=ha.r d (A1 _) hd;have h2:=hb.r d (A1 _) hd;rw[aJ hv (AE d) ha hb,YI hd];unfold wX;split
 ·rw[EM,<-Int.sub_emod_right,CV A0 A0]
 rw[EM,CV A0 A0]
theorem AJM{a b}(ha:T P d a)(hb:T P d b):T P d (M P 0 a b):=by
 rw[aJ hv (AE d) ha hb];exact aH hv ha hb
theorem N0(hd:d<P.n){a}(ha:T P d a):∀k:Nat,T P d (rep (M P 0) a k)/\rep (M P 0) a k d=((k:Int)*a d)%P.o d:=by
 intro k;have h1:=ha.r d (A1 _) hd;induction k with
 |zero=>exact⟨T.zero hv d,by simp[rep,IS,z0]⟩
 | succ k ih=>
   have hs:rep (M P 0) a (k+1)=M P 0 (rep (M P 0) a k) a:=rfl;refine⟨by rw[hs];exact AJM hv ih.1 ha,?_⟩;rw[hs,Kz hv hd ih.1 ha,ih.2,IV,HE,GI,ER]
theorem La(hc:HN P 0){a}(ha:T P d a):T P d (inv P 0 a):=by
 have hg0:=CS hv hc;have hgd:=CS hv (hc.mono (AE d));obtain⟨h1,h2⟩:=KJ hgd ha;have h3:inv P d a=inv P 0 a:=inv_eq hg0 (ha.mono hv (AE d)) (h1.mono hv (AE d)) (by rw[aJ hv (AE d) ha h1];exact h2);rw[<-h3];exact h1
theorem A14(hc:HN P 0)(hd:d<P.n){a}(ha:T P d a):(a d+inv P 0 a d)%P.o d=0:=by
 have hg0:=CS hv hc;have h2:=(KJ hg0 (ha.mono hv (AE d))).2;rw[<-Kz hv hd ha (La hv hc ha),h2];rfl
theorem qW(hc:HN P 0)(hd:d<P.n){a}(ha:T P d a)(k):T P d (T6 P a k)/\T6 P a k d=(k*a d)%P.o d:=by
 unfold T6;split
 ·rename_i hk;obtain⟨h1,h2⟩:=N0 hv hd (La hv hc ha) (0-k).toNat;refine⟨h1,?_⟩;rw[h2,BG A0];have h3:=A14 hv hc hd ha;rw[E1];rw[show(0-k)*inv P 0 a d-k*a d=(0-k)*(a d+inv P 0 a d) by rw[QE,QF,QF,KM,KM];omega];rw[SA,h3,MQ,RH]
 rename_i hk;obtain⟨h1,h2⟩:=N0 hv hd ha k.toNat;refine⟨h1,?_⟩;rw[h2,BG A0]
theorem yS(hc:HN P 0)(hd:d<P.n){u y}(hu:T P d u)(hy:T P d y)(h1:y d=1):T P (d+1) (M P 0 u (T6 P y (0-u d))):=by
 obtain⟨p1,p2⟩:=qW hv hc hd hy (0-u d);have hT:=AJM hv hu p1;have hl:=Kz hv hd hu p1;rw[p2,h1,NQ,IW,show u d+(0-u d)=0 by omega,RH]at hl;refine⟨λk hk=>?_,λk h2 h3=>hT.r k A0 h3,hT.t⟩;by_cases e:k=d
 ·subst e;exact hl
 exact hT.z k A0
end
end
section
section
variable(U:C2)
def V0(hn:U.length<=6)(us)(hl:us.length<=1048576)(nx):AC prog 123 nx DD [D7 U.length us] (λDI H' r=>∃id,r= .h id 0 us.length/\nx<=id/\id<DI/\H' id=some (us.map (vi U.length))):=by
 refine CF AY func123 rfl AP ntmps123 results123 (λGM cX=>?_)
 refine T7 ?_;refine T7 ?_;refine A6 λN1 CW=>T7 ?_;refine AA<|AM (α:=Nat×Nat×List V) (λx=>sl 21 [(0,D7 U.length us),(3,.h x.2.1 0 x.2.2.length),(4,.i .i64 x.1)]) (λx=>CJ DD x.2.1 (some (x.2.2.map (vi U.length)))) (λx m=>(x.1<=us.length/\nx<=x.2.1/\x.2.1<m)/\x.2.2=us.take x.1) (λx=>us.length-x.1) ((0,nx+1,[])) ?_ ?_ (by intro d cs hd;simp only[CJ,DD,BU]at hd ⊢;grind) ?_
 ·exact⟨⟨A0,AI,AI⟩,rfl⟩
 ·simp(disch:=omega) [EJ,EN,sl,D7]
 rintro⟨k,id,K⟩ m ⟨⟨hk,GF,hm⟩,hK⟩
 dsimp only at hk GF hm hK ⊢
 have Is:K.length=k:=by rw[hK,B1];omega
 refine A6 λN2 DN=>T7 ?_;refine AK ?_ ?_<;>intro h1
 ·have ht:us.take (k+1)=us.take k++[us.getD k z0]:=by
   rw[B7 (show k<us.length by omega)];simp[show k<us.length by omega]
  apply AF;apply DN;refine A6 λN3 DO=>AA<|gO ?_;refine Kv (A0Y U (us.getD k z0) A0) ?_
  apply DO;refine gO ?_;refine⟨(k+1,m+4+7,K++[us.getD k z0]),?_,(by intro d cs hd;simp only[CJ,DD,KD,AZ,BR,BU,vi]at hd ⊢;grind),?_,?_⟩
  ·simp(disch:=omega) [EJ,EN,sl,DV,D7]
  ·exact⟨⟨A0,AI,AI⟩,by (try simp only[]);rw[ht,hK]⟩
  exact AI
 apply AO;apply CW;refine T7 ?_;refine BQ ?_;have YO:K=us:=by rw[hK,show k=us.length by omega,B2]
 rw[YO]
 exact⟨_,λ_ _ h=>h,id,rfl,GF,A0,AD _ _ _⟩
end
end
section
def ZX(P:Pc)(t:Nat->Option V):Prop:=∀d y,t d=some y->d<P.n/\T P d y/\y d=1
def ZX.T{P}(hv:LK P){t}(h:ZX P t):tbT P t:=λd y hy=>(h d y hy).2.1.mono hv (AE d)
def T.up{P d x}(h:Go.Proofs.YtgknbnkmilddhaaGreat.T P d x)(h0:x d=0):Go.Proofs.YtgknbnkmilddhaaGreat.T P (d+1) x:=by
 refine⟨λk hk=>?_,λk h2 h3=>h.r k A0 h3,h.t⟩;by_cases e:k=d
 ·subst e;exact h0
 exact h.z k A0
def Al{P}(hv:LK P)(hc:HN P 0){t}(ht:ZX P t):∀f d x,d+f=P.n->T P d x->
    d<=(OA P t f d x).1/\(OA P t f d x).1<=P.n/\T P (OA P t f d x).1 (OA P t f d x).2/\((OA P t f d x).1<P.n->t (OA P t f d x).1=none/\(OA P t f d x).2 (OA P t f d x).1≠0):=by
  intro f;induction f with
  |zero=>intro d x hd hx;rw[OA];exact⟨A1 _,A0,hx,λh=>absurd h (by dsimp only;omega)⟩
  | succ f ih=>
    intro d x hd hx;rw[OA];split
    · rename_i h0;obtain⟨i1,i2,i3,i4⟩:=ih (d+1) x A0 (hx.up h0);exact⟨A0,i2,i3,i4⟩
    rename_i h0;cases hy:t d with
    |none=>exact⟨A1 _,by dsimp only;omega,hx,λ_=>⟨hy,h0⟩⟩
    | some y=>
      obtain⟨y1,y2,y3⟩:=ht d y hy;obtain⟨i1,i2,i3,i4⟩:=ih (d+1) _ A0 (yS hv hc y1 hx y2 y3);exact⟨CH (LN d) i1,i2,i3,i4⟩
noncomputable def VM(P:Pc)(t:Nat->Option V)(d:Nat)(y:V):Nat->List V
 |0=>[]
 | e+1=>match t e with
   |none=>VM P t d y e
   |some z=>if e=d then VM P t d y e else VM P t d y e++[cmV P y z]
def Fk{P t d y}:∀e,(VM P t d y e).length<=e:=by
 intro e;induction e with
 |zero=>exact A1 _
 | succ e ih=>
   rw[VM];split
   ·omega
   split
   ·omega
   rw[AH];simp;omega
noncomputable def iO(P:Pc)(s:Nat×V):V:=T6 P s.2 (ZO (P.o s.1) (s.2 s.1))
noncomputable def Lb(P:Pc)(t:Nat->Option V)(w:List V)(s:Nat×V):(Nat->Option V)×List V:=
 if s.1=P.n then (t,w)else (oset t s.1 (iO P s),w++[s.2]++[T6 P (iO P s) (P.o s.1)]++VM P (oset t s.1 (iO P s)) s.1 (iO P s) P.n)
noncomputable def clS(P:Pc)(t:Nat->Option V)(w:List V):Nat×V:=OA P t P.n 0 (w.getD (w.length-1) z0)
noncomputable def uD(P:Pc):Nat->(Nat->Option V)->List V->Nat->Option V
 |0,t,_=>t
 |f+1,t,w=>if w.length=0 then t else uD P f (Lb P t (w.take (w.length-1)) (clS P t w)).1 (Lb P t (w.take (w.length-1)) (clS P t w)).2
def UG(t:Nat->Option V):Nat->Nat
 |0=>0
 | k+1=>match t k with
   |none=>UG t k+1
   |some _=>UG t k
def Pu{t d y}(hd:t d=none):∀k,(k<=d->UG (oset t d y) k=UG t k)/\(d<k->UG (oset t d y) k+1=UG t k):=by
 intro k;induction k with
 |zero=>exact⟨λ_=>rfl,λh=>A0⟩
 | succ k ih=>
   rw[UG,UG];by_cases e:k=d
   ·subst e;have h1:oset t k y k=some y:=by simp[oset]
    rw[h1,hd];exact⟨λh=>A0,λ_=>by have:=ih.1 (A1 _);dsimp only;omega⟩
   have h1:oset t d y k=t k:=by simp[oset,e]
   rw[h1];refine⟨λh=>?_,λh=>?_⟩
   ·have:=ih.1 A0;cases t k<;>dsimp only<;>omega
   have:=ih.2 A0;cases t k<;>dsimp only<;>omega
def gQ(P:Pc)(t:Nat->Option V)(w:List V):Nat:=UG t P.n*(P.n+3)+w.length
def Pv{P}(hv:LK P)(hc:HN P 0){t}(ht:ZX P t){w}(hw:w.length≠0)(hT:T P 0 (w.getD (w.length-1) z0)):
    gQ P (Lb P t (w.take (w.length-1)) (clS P t w)).1 (Lb P t (w.take (w.length-1)) (clS P t w)).2<gQ P t w:=by
  obtain⟨i1,i2,i3,i4⟩:=Al hv hc ht P.n 0 _ A0 hT;have hl:(w.take (w.length-1)).length=w.length-1:=by rw[B1];omega
  unfold gQ Lb clS;split
  · dsimp only;rw[hl];omega
  rename_i CP;obtain⟨j1,j2⟩:=i4 A0;have h2:=(Pu (y:=iO P (OA P t P.n 0 (w.getD (w.length-1) z0))) j1 P.n).2 A0;have h3:=Fk (P:=P) (t:=oset t (OA P t P.n 0 (w.getD (w.length-1) z0)).1 (iO P (OA P t P.n 0 (w.getD (w.length-1) z0)))) (d:=(OA P t P.n 0 (w.getD (w.length-1) z0)).1) (y:=iO P (OA P t P.n 0 (w.getD (w.length-1) z0))) P.n;dsimp only;rw[<-h2,QG,Nat.one_mul];simp only[AH,C6,CR,hl];omega
def mI{P}(hv:LK P)(hc:HN P 0)(hp:∀d,d<P.n->O8 (P.o d)){s}(h1:s.1<P.n)(hT:T P s.1 s.2)(hn:s.2 s.1≠0):T P s.1 (iO P s)/\iO P s s.1=1:=by
 have hr:=hT.r s.1 (A1 _) h1;obtain⟨p1,p2⟩:=qW hv hc h1 hT (ZO (P.o s.1) (s.2 s.1));obtain⟨q1,q2,q3⟩:=jG (hp _ h1) (show 1<=s.2 s.1 by omega) hr.2;refine⟨p1,?_⟩;rw[iO,p2,F8];exact q3
def ADK{P}(hv:LK P)(hc:HN P 0){t}(ht:tbT P t){d y}(hy:T P 0 y):∀e x,x∈VM P t d y e->T P 0 x:=by
 intro e;induction e with
 |zero=>intro x hx;cases hx
 | succ e ih=>
   intro x hx;rw[VM]at hx;split at hx
   ·exact ih x hx
   rename_i z hz;split at hx
   ·exact ih x hx
   rcases AG.1 hx with h|h
   ·exact ih x h
   rw[BY.1 h];exact A9B hv hc hy (ht _ _ hz)
def A9C{P}(hv:LK P)(hc:HN P 0)(hp:∀d,d<P.n->O8 (P.o d)){t}(ht:ZX P t){w}(hw:∀x∈w,T P 0 x){x}(hx:T P 0 x):
    ZX P (Lb P t w (OA P t P.n 0 x)).1/\∀z∈(Lb P t w (OA P t P.n 0 x)).2,T P 0 z:=by
  obtain⟨i1,i2,i3,i4⟩:=Al hv hc ht P.n 0 x A0 hx;obtain⟨s,hs⟩:=EK (OA P t P.n 0 x);rw[hs]at i1 i2 i3 i4 ⊢;unfold Lb;split
  · exact⟨ht,hw⟩
  rename_i CP;obtain⟨j1,j2⟩:=i4 A0;obtain⟨y1,y2⟩:=mI hv hc hp A0 i3 j2;have j6:=y1.mono hv (AE _);have hG:ZX P (oset t s.1 (iO P s)):=by
    intro d z hz;unfold oset at hz;split at hz
    · rename_i e;subst e;cases hz;exact⟨A0,y1,y2⟩
    exact ht d z hz
  refine⟨hG,λz hz=>?_⟩;rcases AG.1 hz with h|h
  · rcases AG.1 h with h|h
    · rcases AG.1 h with h|h
      · exact hw z h
      rw[BY.1 h];exact i3.mono hv (AE _)
    rw[BY.1 h];exact eU hv hc j6 _
  exact ADK hv hc (hG.T hv) j6 _ z h
end
section
def A15{t}:∀k,UG t k<=k:=by
 intro k;induction k with
 |zero=>exact A1 _
 |succ k ih=>rw[UG];split<;>omega
section
variable(U:C2)(pw:D4)(cj:E6)
set_option maxHeartbeats 4000000 in
def ZA(h:BW U pw cj)(hc:HN (pc U pw cj) 0)(us)(hl:us.length<=1000)(hu:∀x∈us,T (pc U pw cj) 0 x)(nx):AC prog 122 nx DD [CI U pw cj,D7 U.length us] (λDI H' r=>OwS U.length nx DI DD H' r (LW (u9 (pc U pw cj) U.length (uD (pc U pw cj) (gQ (pc U pw cj) (λ_=>none) us) (λ_=>none) us) U.length) U.length)):=by
 have Q4:=h.1.1
 have hv:=h.val
 have SJ:=h.2.1
 have hM0:gQ (pc U pw cj) (λ_=>none) us<=2000:=by
  have h1:UG (λ_=>none) U.length*(U.length+3)<=6*9:=CY (CH (A15 _) Q4) A0;show UG (λ_=>none) U.length*(U.length+3)+us.length<=2000
  omega
 obtain⟨R,hR⟩:=EK (uD (pc U pw cj) (gQ (pc U pw cj) (λ_=>none) us) (λ_=>none) us)
 rw[hR]
 refine CF AY func122 rfl AP ntmps122 results122 (λGM cX=>?_)
 refine OZ ?_;refine BN 2 nx _ rfl (AD _ _ _) ?_
 refine BH ?_;refine OZ ?_;refine OZ ?_;refine Ah (nx+2+4+1) U.length (AD _ _ _) ?_
 rw[Aj]
 refine BH ?_;refine sQ λN hN=>?_;refine PS ?_;refine AC.mono (AC.frame (V0 U A0 us A0 _)) ?_
 rintro m1 H1 r1 ⟨H0,⟨id,rfl,gL,UY,tS⟩,IA,LH⟩
 have SM:=(LH id gL).trans tS
 have PF:H1 (nx+2+4+1)=some (eW U.length (λ_=>none)):=(IA _ A0).trans (AD _ _ _)
 clear tS LH IA
 refine PS ?_
 apply hN;refine A6 λN1 CW=>AA<|AM (α:=(Nat->Option V)×Nat×List V×Nat×Nat) (λx=>sl 105 [(2,AU U pw cj),(5,.i .i64 U.length),(6,.h (nx+2+4+1) 0 U.length),(7,.h x.2.1 0 x.2.2.2.1)]) (λx=>CJ (CJ DD (nx+2+4+1) (some (eW U.length x.1))) x.2.1 (some (x.2.2.1.map (vi U.length)))) (λx m=>((x.2.2.2.1<=x.2.2.1.length/\x.2.2.2.2<=2000)/\nx+2+4+1<x.2.1/\x.2.1<m)/\(ZX (pc U pw cj) x.1/\∀y∈x.2.2.1.take x.2.2.2.1,T (pc U pw cj) 0 y)/\gQ (pc U pw cj) x.1 (x.2.2.1.take x.2.2.2.1)<=x.2.2.2.2/\uD (pc U pw cj) x.2.2.2.2 x.1 (x.2.2.1.take x.2.2.2.1)=R) (λx=>x.2.2.2.2) ((λ_=>none,id,us,us.length,gQ (pc U pw cj) (λ_=>none) us)) ?_ ?_ (by intro d cs hd;simp only[CJ,DD]at hd ⊢;grind) ?_
 ·(refine⟨⟨⟨A1 _,hM0⟩,(by dsimp only;omega),AI⟩,⟨λd y hy=>(by cases hy),λy hy=>hu y (by simpa using hy)⟩,B5,by simpa using hR⟩)
 ·simp(disch:=omega) [EJ,EN,sl,AU,ints,rows,B6,D7]
 rintro⟨t,L7,W,k,f⟩ m ⟨⟨⟨hk,Jx⟩,xO,A16⟩,⟨hG,hW⟩,hM,hC⟩
 dsimp only at hk Jx xO A16 hG hW hM hC ⊢
 simp only[AU];refine BH ?_;refine A6 λN2 DN=>OZ ?_;refine AK ?_ ?_<;>intro h1
 ·have eG:1<=k:=A0;have oE:(W.take k).length=k:=by rw[B1];omega
  have NC:k<=2000:=by unfold gQ at hM;omega
  obtain⟨a,ha⟩:=EK (W.getD (k-1) z0);have hwa:(W.take k).getD ((W.take k).length-1) z0=a:=by
   rw[oE,<-ha];simp only[A5];rw[D9,if_pos A0]
  have haT:T (pc U pw cj) 0 a:=by
   rw[<-hwa];exact hW _ (by rw[A5,A9 A0];exact BK _)
  have e1:((k:Int)-1).toNat=k-1:=A0;have jC:(W.map (vi U.length)).getD (k-1) .j=vi U.length a:=by rw[NM A0,ha]
  apply AF;apply DN;refine AA<|sQ λN hN=>?_;simp-dsimp-implicitDefEqProofs(disch:=omega)only[go_sem,CI,AU,vi,e1,jC];apply hN;refine eR e1 ?_;refine sQ λN hN=>?_;refine PS ?_;refine(pD U pw cj h hc t (hG.T hv) a haT _ _ (nx+2+4+1) ((AB _ _ A0).trans (AD _ _ _))).CD ?_
  rintro m3 _ _ U5 ⟨rfl,rfl⟩;obtain⟨⟨sd,su⟩,hs⟩:∃s,OA (pc U pw cj) t U.length 0 a=s:=⟨_,rfl⟩;rw[hs,AJK];dsimp only;refine PS ?_
  obtain⟨f',hf⟩:∃f',f=f'+1:=⟨f-1,by unfold gQ at hM;omega⟩;subst hf;have c8:clS (pc U pw cj) t (W.take k)=(sd,su):=by rw[clS,hwa];exact hs
  have YA:(W.take k).take ((W.take k).length-1)=W.take (k-1):=by rw[oE,NH];congr 1;omega
  have aU:=Pv hv hc hG (w:=W.take k) A0 (by rw[hwa];exact haT);have Am:=hC;rw[uD,if_neg A0]at Am;rw[c8,YA]at Am aU;have hW':∀y∈W.take (k-1),T (pc U pw cj) 0 y:=λy hy=>hW y (GO (by rw[<-YA]at hy;exact hy))
  apply hN;refine A6 λN3 DO=>OZ ?_;refine AK ?_ ?_<;>intro h2
  ·have hcr:Lb (pc U pw cj) t (W.take (k-1)) (sd,su)=(t,W.take (k-1)):=by rw[Lb,if_pos (show sd=(pc U pw cj).n from (by show sd=U.length;omega))]
   rw[hcr]at Am aU;apply AO;simp only[wW,IY,if_true];refine BB (t,L7,W,k-1,f') ?_ ?_ ?_
   ·exact I2
   ·(try dsimp only);exact⟨⟨⟨A0,A0⟩,xO,AI⟩,⟨hG,hW'⟩,by (try (dsimp only at aU));omega,Am⟩
   exact AI
  obtain⟨i1,i2,i3,i4⟩:=Al hv hc hG U.length 0 a (BS _) haT;rw[hs]at i2 i3 i4;dsimp only at i2 i3 i4;have i2':sd<=U.length:=i2;have S3:sd<U.length:=A0;obtain⟨j1,j2⟩:=i4 S3;have hr:=i3.r sd (A1 _) S3;have Ak:(pc U pw cj).o sd=U.getD sd 0:=rfl;have It:=SJ sd S3;have Pg:=FQ It;have hsT:=i3.mono hv (AE _);obtain⟨v1,v2,v3⟩:=jG It (show 1<=su sd by omega) A0;obtain⟨yT1,yl⟩:=mI hv hc (λd hd=>SJ d hd) (s:=(sd,su)) S3 i3 j2;have gP:=yT1.mono hv (AE _);have hpy:=JK U pw cj h hc su hsT (ZO (U.getD sd 0) (su sd)) A0;obtain⟨y,hy⟩:=EK (iO (pc U pw cj) (sd,su));rw[show T6 (pc U pw cj) su (ZO (U.getD sd 0) (su sd))=y from hy]at hpy;rw[hy]at gP yT1 yl;have hpz:=JK U pw cj h hc y gP (U.getD sd 0) A0;have Pw:DH (eW U.length t) sd [AV.v U.length (JP U.length y)]=eW U.length (oset t sd y):=Ai S3;have hdI:((sd:Int)<(U.length:Int))=True:=eq_true A0;have hGn:ZX (pc U pw cj) (oset t sd y):=by
   intro d z hz;unfold oset at hz;split at hz
   ·rename_i ee;subst ee;cases hz;exact⟨S3,yT1,yl⟩
   exact hG d z hz
  have Dj:=hGn.T hv;have hW9:List.take (k-1+1) (List.take (k-1) (List.map (vi U.length) W)++[AV.v U.length (JP U.length su)])=List.map (vi U.length) (W.take (k-1))++[AV.v U.length (JP U.length su)]:=by
   rw[AJ (by simp;omega),JS]
  apply AF;apply DO;refine A6 λN hN=>C9 AY AP 14 AP ?_
  refine A0S ?_;refine⟨_,.of (tU (su sd) (U.getD sd 0) It A0 A0),?_⟩;refine PS ?_
  refine⟨_,.of (hpy),?_⟩;refine PS ?_
  apply hN;refine eR Pw ?_;refine OZ ?_;refine A6 λN hN=>C9 AY AP 10 AP ?_
  refine A0S ?_;refine⟨_,.of (hpz),?_⟩;refine PS ?_
  apply hN;refine OZ ?_;refine AA<|AM (α:=Nat×Nat×List V) (λx=>sl 105 [(2,AU U pw cj),(5,.i .i64 U.length),(6,.h (nx+2+4+1) 0 U.length),(7,.h x.2.1 0 x.2.2.length),(9,.i .i64 sd),(11,vi U.length y),(12,.i .i64 x.1)]) (λx=>CJ (CJ DD (nx+2+4+1) (some (eW U.length (oset t sd y)))) x.2.1 (some (x.2.2.map (vi U.length)))) (λx m=>(x.1<=U.length/\nx+2+4+1<x.2.1/\x.2.1<m)/\x.2.2=W.take (k-1)++[su]++[T6 (pc U pw cj) y (U.getD sd 0)]++VM (pc U pw cj) (oset t sd y) sd y x.1) (λx=>U.length-x.1) ((0,m3+3+14+5+5+10,W.take (k-1)++[su]++[T6 (pc U pw cj) y (U.getD sd 0)])) ?_ ?_ (by intro d cs hd;dsimp only at hd ⊢;rw[hW9];simp only[CJ,DD,AZ,BR,BU,vi]at hd ⊢;grind) ?_
  ·exact⟨⟨A0,AI,AI⟩,by simp[VM]⟩
  ·exact E7
  rintro⟨e,Ir,K⟩ m2 ⟨⟨he,Fm,Lc⟩,hK⟩;dsimp only at he Fm Lc hK ⊢;simp only[vi,AU];refine BH ?_;have KW:=Fk (P:=pc U pw cj) (t:=oset t sd y) (d:=sd) (y:=y) e;have Is:K.length<=3000:=by rw[hK];simp only[AH,C6,CR,B1];omega
  refine A6 λN4 FD=>OZ ?_;refine AK ?_ ?_<;>intro h3
  ·apply AF;apply FD;refine A6 λN5 ID=>AA<|sQ λN hN=>?_;refine PS ?_;refine J5.mk' (λh4=>?_) (λh4=>?_)
   ·(try simp only[cn]at h4);refine PS ?_
    apply hN;refine AK ?_ ?_<;>intro h5
    ·obtain⟨z,hz,hzv⟩:=yR (n:=U.length) (o:=oset t sd y e) A0;have hzT:T (pc U pw cj) 0 z:=Dj e z hz;have iN:VM (pc U pw cj) (oset t sd y) sd y (e+1)=VM (pc U pw cj) (oset t sd y) sd y e++[cmV (pc U pw cj) y z]:=by rw[VM,hz];dsimp only;rw[if_neg A0]
     refine C9 AY AP 9 AP ?_;refine A0T ?_;rw[hzv];refine⟨_,.of (Z9 U pw cj h hc y z gP hzT),?_⟩;refine PS ?_
     apply ID;refine XH ?_;refine⟨(e+1,m2+3+11+9,K++[cmV (pc U pw cj) y z]),?_,by intro d cs hd;simp only[CJ,DD,KD,AZ,BR,BU,vi]at hd ⊢;grind,?_,?_⟩
     ·exact E7
     ·exact⟨⟨A0,AI,AI⟩,by (try simp only[]);rw[iN,hK];simp only[BO]⟩
     exact AI
    have iN:VM (pc U pw cj) (oset t sd y) sd y (e+1)=VM (pc U pw cj) (oset t sd y) sd y e:=by rw[VM,yQ (n:=U.length) (o:=oset t sd y e) A0 A0]
    apply AF;apply ID;refine XH ?_;refine BB (e+1,Ir,K) ?_ ?_ ?_
    ·exact E7
    ·exact⟨⟨A0,AI,AI⟩,by (try simp only[]);rw[iN,hK]⟩
    exact AI
   try simp only[cn]at h4
   have hse:e=sd:=A0;have iN:VM (pc U pw cj) (oset t sd y) sd y (e+1)=VM (pc U pw cj) (oset t sd y) sd y e:=by rw[VM];split;rfl;rw[if_pos hse]
   refine PS ?_
   apply hN;refine DJ rfl ?_;apply AF;apply ID;refine XH ?_;refine BB (e+1,Ir,K) ?_ ?_ ?_
   ·exact E7
   ·exact⟨⟨A0,AI,AI⟩,by (try simp only[]);rw[iN,hK]⟩
   exact AI
  have iK:e=U.length:=A0;subst iK;have hcr:Lb (pc U pw cj) t (W.take (k-1)) (sd,su)=(oset t sd y,K):=by rw[Lb,if_neg (show ¬sd=(pc U pw cj).n from (by show ¬sd=U.length;omega)),hy,hK];rfl
  obtain⟨TI,Ld⟩:=A9C hv hc (λd hd=>SJ d hd) hG hW' haT;rw[show OA (pc U pw cj) t (pc U pw cj).n 0 a=(sd,su)from hs,hcr]at Ld;rw[hcr]at Am aU;apply AO;simp only[wW,IY,if_true];refine BB (oset t sd y,Ir,K,K.length,f') ?_ ?_ ?_
  ·exact I2
  ·try dsimp only
   rw[B2];exact⟨⟨⟨A1 _,A0⟩,A0,AI⟩,⟨hGn,Ld⟩,by (try (dsimp only at aU));omega,Am⟩
  exact AI
 apply AO;apply CW;have VW:k=0:=A0
 subst VW
 have htR:t=R:=by rw[<-hC];cases f with|zero=>rfl|succ f=>rfl
 subst htR
 refine IQ 6 (nx+2+4+1) U.length _ rfl ((AB _ _ A0).trans (AD _ _ _)) qV ?_
 refine BH ?_;refine sQ λN hN=>?_;refine PS ?_;refine(Ky (uC U pw cj h hc t (hG.T hv) _)).CD ?_
 rintro m9 H9 r9 oI ⟨id9,rfl,hi9,hj9,rfl⟩
 refine PS ?_
 apply hN;refine BQ ?_;exact⟨_,uB,id9,rfl,A0,A0,rfl⟩
def mJ(h:BW U pw cj)(hc:HN (pc U pw cj) 0)(us)(hl:us.length<=1000)(hu:∀x∈us,T (pc U pw cj) 0 x):DZ prog 122 [CI U pw cj,D7 U.length us] (D7 U.length (LW (u9 (pc U pw cj) U.length (uD (pc U pw cj) (gQ (pc U pw cj) (λ_=>none) us) (λ_=>none) us) U.length) U.length)):= .ofS λnx=>ZA U pw cj h hc us hl hu nx
end
def GD{P:Prop}(h:P:=by simp(disch:=omega)[EJ,EN,sl,ints,rows,DV,B6,CI,AU,vi,D7]<;>omega):P:=h
end
end Go.Proofs.YtgknbnkmilddhaaGreat