import Derived.Test.YtgknbnkmilddhaaGreatZ06
set_option linter.all false

open Go.Proofs.Tryz
namespace Go.Proofs.YtgknbnkmilddhaaGreat
section
def fl(a:C2):V:=λk=>a.getD k 0
def vi(n:Nat)(f:V):AV:= .v n (JP n f)
def KF{n:Nat}{f:V}:ints (vec n f)=vi n f:=by unfold ints vi;rw[HB,VZ]
def JX{n a}(h:a.length=n):ints a=vi n (fl a):=by
 subst h;rw[<-KF];congr 1;exact sJ a
def RS(n f):NR (vi n f):=by rw[<-KF];exact IC _
def ADA{n f g}(h:∀k,k<n->f k=g k):vi n f=vi n g:=by unfold vi;rw[L5 h]
def ADB{n:Nat}{f g:V}:vec n f=vec n g↔∀k,k<n->f k=g k:=by
 constructor
 ·intro h k hk;have:=congrArg (λl=>l.getD k 0) h;simp only[VY hk]at this;exact this
 exact A5M
def pc(U:C2)(pw:D4)(cj:E6):Pc:=
 ⟨U.length,λi=>U.getD i 0,λi=>fl (pw.getD i []),λi j=>fl ((cj.getD i []).getD (j-i-1) [])⟩
section
variable{U:C2}{pw:D4}{cj:E6}
def Pb.T{v:C2}{i:Nat}(h:Pb U v i):Go.Proofs.YtgknbnkmilddhaaGreat.T (pc U pw cj) (i+1) (fl v):=by
 have hl:=h.1;refine⟨λk hk=>?_,λk h1 h2=>?_,λk hk=>?_⟩
 ·by_cases e:k<v.length
  ·exact(h.2 k e).2 A0
  simp only[fl];simp[A5,B8 (JC e)]
 ·have h3:k<U.length:=h2;have:=(h.2 k A0).1;refine⟨this.1,?_⟩;show v.getD k 0<U.getD k 0
  omega
 have h3:U.length<=k:=hk;simp only[fl];simp[A5,B8 (show v.length<=k by omega)]
def BW.val(h:BW U pw cj):LK (pc U pw cj):=by
 refine⟨λi hi=>?_,λi hi=>(h.2.2.2 i hi).1.T,λi j Q3 hj=>?_⟩
 ·have:=FQ (h.2.1 i hi);show 1<U.getD i 0
  omega
 have h1:=h.2.2.2 i (Nat.lt_trans Q3 hj);have h2:j<U.length:=hj;exact(h1.2.2 (j-i-1) (by have:=h1.2.1;omega)).T
def BW.o7(h:BW U pw cj){i}(hi:i<U.length):2<=(pc U pw cj).o i/\(pc U pw cj).o i<=7:=FQ (h.2.1 i hi)
def BW.pwl(h:BW U pw cj){i}(hi:i<U.length):(pw.getD i []).length=U.length:=(h.2.2.2 i hi).1.1
def BW.Xp(h:BW U pw cj){i j}(Q3:i<j)(hj:j<U.length):((cj.getD i []).getD (j-i-1) []).length=U.length:=by
 have h1:=h.2.2.2 i (Nat.lt_trans Q3 hj);exact(h1.2.2 (j-i-1) (by have:=h1.2.1;omega)).1
def T.small(h:BW U pw cj){i x}(hx:T (pc U pw cj) i x)(k):0<=x k/\x k<=6:=by
 by_cases h1:k<i
 ·rw[hx.z k h1];omega
 by_cases h2:k<U.length
 ·have h3:=hx.r k A0 h2;have h4:=h.o7 h2;omega
 rw[hx.t k (by have:(pc U pw cj).n=U.length:=rfl;omega)];omega
end
def IE{cX n ops y s s1 K}(q:AW cX prog y s1 K)(e:HA ops s s1:=by intro N hN;(try simp-dsimp-implicitDefEqProofs(disch:=omega)only[go_sem,B6,IK,CB,EY,ints,CI,AU,rows,vi]);exact hN):GZ cX n ops y s K:=HF q e
def NW{P Q:Prop}(q:Q)(e:Q->P:=by intro q;(try simp-dsimp-implicitDefEqProofs(disch:=omega)only[go_sem,B6,IK,CB,EY,ints,CI,AU,rows,vi]);exact q):P:=e q
def XF{cX n ops s}{K:Exit->St->Prop}{Q:Prop}(q:Q)(e:Q->KO env prog ops s.nx ops 0 ⟨s.t,s.H,s.nx+ops.length⟩ (K .normal):=by intro q;(try simp-dsimp-implicitDefEqProofs(disch:=omega)only[go_sem,B6,IK,CB,EY,ints,CI,AU,rows,vi]);exact q):AW cX prog (.region n ops.toArray false) s K:=rQ (e q)
def A0O{P Q:Prop}{R0:Prop}(r0:R0)(q:Q)(e:R0->Q->P:=by intro h0 q;(try simp-dsimp-implicitDefEqProofs(disch:=omega)only[go_sem,BD,AR,B4,BE,AT,AS,B6,IK,CB,EY,GJ,ES,ET,ints,CI,AU,rows,vi,DV,h0]);exact q):P:=e r0 q
def XG(U pw cj)(h:BW U pw cj)(i)(hi:i<U.length)(hAt:∀a b,T (pc U pw cj) (i+1) a->T (pc U pw cj) (i+1) b->DZ prog 212 [CI U pw cj,.i .i64 ((i:Int)+1),vi U.length a,vi U.length b] (vi U.length (M (pc U pw cj) (i+1) a b)))(a)(ha:T (pc U pw cj) (i+1) a):DZ prog 257 [CI U pw cj,.i .i64 i,vi U.length a] (vi U.length (IN (pc U pw cj) (M (pc U pw cj) (i+1)) i a)):=by
 have hv:=h.val
 have Q4:=h.1.1
 have fO:=h.1.2.1
 have KW:=h.1.2.2
 refine BI AY func257 rfl AP ntmps257 results257 (RS _ _) (λnx cX=>?_)
 refine IE ?_;refine BN 3 nx _ rfl (AD _ _ _) ?_
 refine BH ?_;refine IE ?_;refine IE ?_;refine A6 λN1 CW=>IQ 8 (nx+2+4+1) U.length (List.replicate U.length (.i .i64 0)) rfl (AD _ _ _) B5 ?_
 refine BH ?_;refine IE ?_;refine AA<|AM (α:=Nat×V) (λx=>sl 48 [(1,.i .i64 i),(2,vi U.length a),(3,AU U pw cj),(7,.i .i64 U.length),(8,vi U.length x.2),(9,.i .i64 x.1)]) (λ_=>DD) (λx m=>(i+1<=x.1/\x.1<=U.length)/\T (pc U pw cj) (i+1) x.2/\RB (M (pc U pw cj) (i+1)) ((pc U pw cj).cj i) a (U.length-x.1) x.1 x.2=IN (pc U pw cj) (M (pc U pw cj) (i+1)) i a) (λx=>U.length-x.1) ((i+1,z0)) ?_ ?_ (by intro d cs hd;simp only[DD]at hd;cases hd) ?_
 ·exact⟨⟨A1 _,hi⟩,T.zero hv _,rfl⟩
 ·simp(disch:=omega) [EJ,EN,sl,AU,ints,rows,B6,vi,IL]<;>first|omega|rfl
 rintro⟨j,u⟩ m ⟨⟨yB,dA⟩,hu,hf⟩
 dsimp only at yB dA hu hf
 simp only[vi,AU];refine BH ?_;refine A6 λN2 DN=>IE ?_;refine AK ?_ ?_<;>intro h1
 ·have hjo:j<U.length:=A0;have Xq:=T.small h ha j;apply AF;apply DN;refine A6 λN3 DO=>AA<|IE ?_;refine AA<|AM (α:=Nat×V) (λx=>sl 48 [(1,.i .i64 i),(2,vi U.length a),(3,AU U pw cj),(7,.i .i64 U.length),(8,vi U.length x.2),(9,.i .i64 j),(10,.i .i64 x.1)]) (λ_=>DD) (λx m=>x.1<=(a j).toNat/\T (pc U pw cj) (i+1) x.2/\x.2=IS (λw=>M (pc U pw cj) (i+1) w ((pc U pw cj).cj i j)) x.1 u) (λx=>(a j).toNat-x.1) ((0,u)) ?_ ?_ (λ_ _ h=>h) ?_
  ·exact⟨AE _,hu,rfl⟩
  ·simp(disch:=omega) [EJ,EN,sl,AU,ints,rows,B6,vi]
  rintro⟨q,w⟩ m2 ⟨hq,hw,he⟩;dsimp only at hq hw he;simp only[vi,AU];refine BH ?_;refine A6 λN4 FD=>IE ?_;refine AK ?_ ?_<;>intro h2
  ·have ej:((j:Int)-i-1).toNat=j-i-1:=A0;have oY:=(h.2.2.2 i hi).2.1;have e1:AV.v ((cj.getD i []).getD (j-i-1) []).length (List.map (AV.i IntKind.i64) ((cj.getD i []).getD (j-i-1) []))=vi U.length ((pc U pw cj).cj i j):=JX (h.Xp A0 hjo);apply AF;apply FD;refine A6 λN5 ID=>AA<|C9 AY AP 17 AP ?_
   refine A0O ej ?_;rw[e1];refine⟨_,.of (hAt w _ hw (hv.cj i j A0 hjo)),?_⟩;refine NW ?_
   apply ID;refine XF ?_;refine BB (q+1,M (pc U pw cj) (i+1) w ((pc U pw cj).cj i j)) ?_ ?_ ?_
   ·simp(disch:=omega) [EJ,EN,sl,AU,DV,ints,rows,B6,vi]<;>omega
   ·exact⟨A0,aH hv hw (hv.cj i j A0 hjo),by rw[he];rfl⟩
   exact AI
  apply AO;apply DO;refine XF ?_;refine BB (j+1,w) ?_ ?_ ?_
  ·simp(disch:=omega) [EJ,EN,sl,AU,DV,ints,rows,B6,vi]<;>omega
  ·refine⟨A0,hw,?_⟩;rw[<-hf,he,show U.length-j=U.length-(j+1)+1 by omega,RB,show q=(a j).toNat by omega]
  exact AI
 apply AO;apply CW;refine IE ?_;refine BQ ?_;obtain rfl:j=U.length:=A0
 rw[CM]at hf
 rw[<-hf];rfl
def O0{n}(f)(hn:n<=1099511627776)(nx H):AC prog 87 nx H [vi n f] (λDI H' r=>Vh nx DI H H' r n f):=by
 have:=IM (vec n f) (by rw[HB];exact hn) nx H;rw[KF,HB]at this;refine this.mono ?_;rintro DI H' r ⟨id,h1,h2,h3,h4⟩;exact⟨id,h1,h2,h3,by rw[h4,L5 (λk hk=>VY hk)]⟩
def xK{n}(f)(hn:n<=1099511627776):DZ prog 87 [vi n f] (vi n f):=by
 have:=(Vh.aco (λnx=>O0 f hn nx DD)).pure;rwa [KF]at this
def Vw.vi{H:HP}{id n:Nat}{f:V}(h:H id=some (Go.Proofs.YtgknbnkmilddhaaGreat.JP n f)):Vw H (.h id 0 n) (Go.Proofs.YtgknbnkmilddhaaGreat.vi n f):=Vw.IY h HM.symm
def tJ{P Q:Prop}(q:Q)(e:Q->P:=by intro q;(try simp-dsimp-implicitDefEqProofs(disch:=omega)only[go_sem,BD,AR,B4,BE,AT,AS,B6,IK,CB,EY,GJ,ES,ET,ints,CI,AU,rows,vi,DV]);exact q):P:=e q
def tK{P f nx H Zz r}{K:Nat->HP->AV->Prop}{Q:Prop}(x:DZ P f Zz r)(q:Q)(e:Q->K nx H r:=by intro q;(try simp-dsimp-implicitDefEqProofs(disch:=omega)only[go_sem,B6,IK,CB,EY,ints,CI,AU,rows,vi]);exact q):AC P f nx H Zz K:=AC.pure (.of x) (e q)
def oZ(U pw cj)(h:BW U pw cj)(i)(hi:i<U.length)(hAt:∀a b,T (pc U pw cj) (i+1) a->T (pc U pw cj) (i+1) b->DZ prog 212 [CI U pw cj,.i .i64 ((i:Int)+1),vi U.length a,vi U.length b] (vi U.length (M (pc U pw cj) (i+1) a b)))(a b)(ha:T (pc U pw cj) i a)(hb:T (pc U pw cj) i b):DZ prog 212 [CI U pw cj,.i .i64 i,vi U.length a,vi U.length b] (vi U.length (M (pc U pw cj) i a b)):=by
 have hv:=h.val
 have Q4:=h.1.1
 have fO:=h.1.2.1
 have KW:=h.1.2.2
 have hsa:=T.small h ha i
 have hsb:=T.small h hb i
 have o9:=h.o7 hi
 have ADC:(pc U pw cj).o i=U.getD i 0:=rfl
 refine DA AY func212 rfl AP ntmps212 results212 ((RS _ _)) (λnx cX=>?_)
 refine IE ?_;refine BN 4 nx _ rfl (AD _ _ _) ?_
 refine BH ?_;refine IE ?_;refine A6 λN1 CW=>IE ?_;refine AK ?_ ?_<;>intro h1
 ·exfalso;omega
 apply AF;apply CW;refine sQ λN hN=>?_;refine NW ?_;refine(O0 a A0 _ _).mono ?_
 rintro yK H1 r1 ⟨yL,rfl,g1,g2,rfl⟩
 refine NW ?_
 refine(O0 b A0 _ _).mono ?_
 rintro nx2 H2 r2 ⟨L7,rfl,g3,g4,rfl⟩
 refine NW ?_
 apply hN;refine IE ?_;refine IE ?_;refine A6 λN2 DN=>IQ 10 yL U.length (JP U.length (D0 a i 0)) rfl I5 HM ?_
 refine BH ?_;refine IQ 11 L7 U.length (JP U.length (D0 b i 0)) rfl I5 HM ?_
 refine BH ?_;refine IE ?_;refine AA<|AM (α:=Nat×V) (λx=>sl 92 [(1,.i .i64 i),(2,vi U.length a),(3,vi U.length b),(4,AU U pw cj),(10,vi U.length x.2),(11,vi U.length (D0 b i 0)),(12,.i .i64 x.1)]) (λ_=>DD) (λx m=>x.1<=(b i).toNat/\T (pc U pw cj) (i+1) x.2/\x.2=IS (IN (pc U pw cj) (M (pc U pw cj) (i+1)) i) x.1 (D0 a i 0)) (λx=>(b i).toNat-x.1) ((0,D0 a i 0)) ?_ ?_ (by intro d cs hd;simp only[DD]at hd;cases hd) ?_
 ·exact⟨AE _,ha.cut,rfl⟩
 ·simp(disch:=omega) [EJ,EN,sl,AU,ints,rows,B6,vi]
 rintro⟨q,w⟩ m ⟨hq,hw,he⟩
 dsimp only at hq hw he
 simp only[vi,AU];refine BH ?_;refine A6 λN3 DO=>IE ?_;refine AK ?_ ?_<;>intro h2
 ·apply AF;apply DO;refine A6 λN4 FD=>AA<|XF ?_;refine tK (XG U pw cj h i hi hAt w hw) ?_
  apply FD;refine XF ?_;refine BB (q+1,IN (pc U pw cj) (M (pc U pw cj) (i+1)) i w) ?_ ?_ ?_
  ·simp(disch:=omega) [EJ,EN,sl,AU,DV,ints,rows,B6,vi]<;>omega
  ·exact⟨A0,eM hv (λ_ _=>aH hv) _,by rw[he];rfl⟩
  exact AI
 obtain rfl:q=(b i).toNat:=A0
 apply AO;apply DN;refine sQ λN hN=>?_;simp-dsimp-implicitDefEqProofs(disch:=omega)only[go_sem,B6,IK,CB,EY,ints,CI,AU,rows,vi];refine AC.pure (.of (hAt w (D0 b i 0) hw hb.cut)) ?_;(try simp-dsimp-implicitDefEqProofs(disch:=omega)only[go_sem,B6,IK,CB,EY,ints,CI,AU,rows,vi]);apply hN;refine A6 λN hN=>C9 AY AP 10 AP ?_
 refine tJ ?_;apply hN;refine A6 λN5 ID=>IE ?_;refine AK ?_ ?_<;>intro h3
 ·have e2:AV.v (pw.getD i []).length (List.map (AV.i IntKind.i64) (pw.getD i []))=vi U.length ((pc U pw cj).pw i):=JX (h.pwl hi);refine IE ?_;refine C9 AY AP 11 AP ?_
  refine tJ ?_;rw[e2];refine⟨_,.of (hAt _ _ (hv.pw i hi) (aH hv hw hb.cut)),?_⟩;refine NW ?_
  apply ID;refine sQ λN hN=>?_;refine NW ?_;refine(O0 _ A0 _ _).mono ?_
  rintro nx3 H3 r3 ⟨Ir,rfl,g5,g6,rfl⟩;refine NW ?_
  apply hN;refine IE ?_;refine IE ?_;refine BQ ?_;refine Vw.vi ?_
  rw[AD,YI (show i<(pc U pw cj).n from hi)];unfold wX;rw[if_pos (show(pc U pw cj).o i<=a i+b i from h3),<-he];rfl
 apply AF;apply ID;refine sQ λN hN=>?_;refine NW ?_;refine(O0 _ A0 _ _).mono ?_
 rintro nx3 H3 r3 ⟨Ir,rfl,g5,g6,rfl⟩
 refine NW ?_
 apply hN;refine IE ?_;refine IE ?_;refine BQ ?_;refine Vw.vi ?_
 rw[AD,YI (show i<(pc U pw cj).n from hi)]
 unfold wX
 rw[if_neg (show ¬(pc U pw cj).o i<=a i+b i by omega),<-he]
def tL(U pw cj)(h:BW U pw cj)(a b):DZ prog 212 [CI U pw cj,.i .i64 U.length,vi U.length a,vi U.length b] (vi U.length (M (pc U pw cj) U.length a b)):=by
 have Q4:=h.1.1
 refine DA AY func212 rfl AP ntmps212 results212 ((RS _ _)) (λnx cX=>?_)
 refine IE ?_;refine BN 4 nx _ rfl (AD _ _ _) ?_
 refine BH ?_;refine IE ?_;refine A6 λN1 CW=>IE ?_;refine AK ?_ ?_<;>intro h1
 ·refine IE ?_;refine BQ ?_;refine Vw.vi ?_
  rw[AD,show M (pc U pw cj) U.length a b=z0 from oW (P:=pc U pw cj) (A1 _) a b,IL];rfl
 simp at h1
def M6(U pw cj)(h:BW U pw cj):∀(i:Nat),i<=U.length->∀a b,T (pc U pw cj) i a->T (pc U pw cj) i b->
    DZ prog 212 [CI U pw cj,.i .i64 i,vi U.length a,vi U.length b] (vi U.length (M (pc U pw cj) i a b)):=by
  have key:∀d i,i+d=U.length->∀a b,T (pc U pw cj) i a->T (pc U pw cj) i b->
      DZ prog 212 [CI U pw cj,.i .i64 i,vi U.length a,vi U.length b] (vi U.length (M (pc U pw cj) i a b)):=by
    intro d;induction d with
    |zero=>intro i hi a b _ _;obtain rfl:i=U.length:=hi;exact tL U pw cj h a b
    | succ d ih=>
      intro i hi a b ha hb;refine oZ U pw cj h i A0 (λa b ha hb=>?_) a b ha hb;have:=ih (i+1) A0 a b ha hb;rwa [IP]at this
  exact λi hi=>key (U.length-i) i A0
def OY(U pw cj)(h:BW U pw cj)(i)(hi:i<U.length)(a b)(ha:T (pc U pw cj) (i+1) a)(hb:T (pc U pw cj) (i+1) b):
    DZ prog 212 [CI U pw cj,.i .i64 ((i:Int)+1),vi U.length a,vi U.length b] (vi U.length (M (pc U pw cj) (i+1) a b)):=by
  have:=M6 U pw cj h (i+1) hi a b ha hb;rwa [IP]at this
def OL(U pw cj)(h:BW U pw cj)(i)(hi:i<U.length)(a)(ha:T (pc U pw cj) (i+1) a):DZ prog 257 [CI U pw cj,.i .i64 i,vi U.length a] (vi U.length (IN (pc U pw cj) (M (pc U pw cj) (i+1)) i a)):=
 XG U pw cj h i hi (OY U pw cj h i hi) a ha
def A0P{N m}(g:TU N m){x}(hx:N x)(k):rep m (m x x) k=rep m x (2*k):=by
 induction k with
 |zero=>rfl
 | succ k ih=>
   show m (rep m (m x x) k) (m x x)=_
   rw[ih,Nat.mul_add,g.OJ hx];show _=m (rep m x (2*k)) (m (m z0 x) x)
   rw[g.l1 hx]
def RT(U:C2)(pw:D4)(cj:E6)(h:BW U pw cj)(i:Nat)(hi:i<=U.length)(hg:TU (T (pc U pw cj) i) (M (pc U pw cj) i))(a:V)(ha:T (pc U pw cj) i a)(k:Nat)(hk:k<=1099511627776):DZ prog 181 [CI U pw cj,.i .i64 i,vi U.length a,.i .i64 k] (vi U.length (rep (M (pc U pw cj) i) a k)):=by
 have hv:=h.val
 have Q4:=h.1.1
 refine BI AY func181 rfl AP ntmps181 results181 (RS _ _) (λnx cX=>?_)
 refine IE ?_;refine BN 4 nx _ rfl (AD _ _ _) ?_
 refine BH ?_;refine IE ?_;refine IQ 9 (nx+2+3) U.length (List.replicate U.length (.i .i64 0)) rfl (AD _ _ _) B5 ?_
 refine BH ?_;refine IE ?_;refine A6 λN1 CW=>AA<|AM (α:=Nat×V×V) (λx=>sl 34 [(1,.i .i64 i),(3,.i .i64 x.1),(4,AU U pw cj),(9,vi U.length x.2.1),(10,vi U.length x.2.2)]) (λ_=>DD) (λx m=>x.1<=1099511627776/\T (pc U pw cj) i x.2.1/\T (pc U pw cj) i x.2.2/\M (pc U pw cj) i x.2.1 (rep (M (pc U pw cj) i) x.2.2 x.1)=rep (M (pc U pw cj) i) a k) (λx=>x.1) ((k,z0,a)) ?_ ?_ (by intro d cs hd;simp only[DD]at hd;cases hd) ?_
 ·exact⟨hk,T.zero hv _,ha,hg.l1 (hg.rep ha k)⟩
 ·simp(disch:=omega) [EJ,EN,sl,AU,ints,rows,B6,vi,IL]<;>first|omega|rfl
 rintro⟨q,u,w⟩ m ⟨hq,hu,hw,he⟩
 dsimp only at hq hu hw he
 simp only[vi,AU];refine BH ?_;refine A6 λN2 DN=>IE ?_;refine AK ?_ ?_<;>intro h1
 ·apply AF;apply DN;refine AA<|A6 λN3 DO=>IE ?_;refine AK ?_ ?_<;>intro h2
  ·refine XF ?_;refine tK (M6 U pw cj h i hi u w hu hw) ?_
   apply DO;refine sQ λN hN=>?_;simp-dsimp-implicitDefEqProofs(disch:=omega)only[go_sem,B6,ints,CI,AU,rows,vi];refine AC.pure (.of (M6 U pw cj h i hi w w hw hw)) ?_;(try simp-dsimp-implicitDefEqProofs(disch:=omega)only[go_sem,B6,ints,CI,AU,rows,vi]);apply hN;refine XF ?_;refine BB (q/2,M (pc U pw cj) i u w,M (pc U pw cj) i w w) ?_ ?_ ?_
   ·simp(disch:=omega) [EJ,EN,sl,AU,DV,ints,rows,B6,vi]<;>omega
   ·rw[CZ A0]at h2;refine⟨AI,hg.cl hu hw,hg.cl hw hw,?_⟩;show M (pc U pw cj) i (M (pc U pw cj) i u w) (rep (M (pc U pw cj) i) (M (pc U pw cj) i w w) (q/2))=_
    rw[A0P hg hw,hg.ac hu hw (hg.rep hw _),<-hg.yH hw,show 2*(q/2)+1=q by omega,he]
   exact AI
  apply AF;apply DO;refine sQ λN hN=>?_;simp-dsimp-implicitDefEqProofs(disch:=omega)only[go_sem,B6,ints,CI,AU,rows,vi];refine AC.pure (.of (M6 U pw cj h i hi w w hw hw)) ?_;(try simp-dsimp-implicitDefEqProofs(disch:=omega)only[go_sem,B6,ints,CI,AU,rows,vi]);apply hN;refine XF ?_;refine BB (q/2,u,M (pc U pw cj) i w w) ?_ ?_ ?_
  ·simp(disch:=omega) [EJ,EN,sl,AU,DV,ints,rows,B6,vi]<;>omega
  ·rw[CZ A0]at h2;refine⟨AI,hu,hg.cl hw hw,?_⟩;show M (pc U pw cj) i u (rep (M (pc U pw cj) i) (M (pc U pw cj) i w w) (q/2))=_
   rw[A0P hg hw,show 2*(q/2)=q by omega,he]
  exact AI
 apply AO;apply CW;refine IE ?_;refine BQ ?_;obtain rfl:q=0:=A0
 rw[<-he,show rep (M (pc U pw cj) i) w 0=z0 from rfl,hg.r1 hu];rfl
def TY{cX n ops y s s1 K}{R0:Prop}(r0:R0)(q:AW cX prog y s1 K)(e:R0->HA ops s s1:=by intro h0 N hN;(try simp-dsimp-implicitDefEqProofs(disch:=omega)only[go_sem,tN,B6,j9,IK,CB,EY,ints,AU,rows,vi,h0]);exact hN):GZ cX n ops y s K:=HF q (e r0)
def jA{cX n ops s}{K:Exit->St->Prop}{Q:Prop}{R0:Prop}(r0:R0)(q:Q)(e:R0->Q->KO env prog ops s.nx ops 0 ⟨s.t,s.H,s.nx+ops.length⟩ (K .normal):=by intro h0 q;(try simp-dsimp-implicitDefEqProofs(disch:=omega)only[go_sem,tN,B6,j9,IK,CB,EY,ints,AU,rows,vi,h0]);exact q):AW cX prog (.region n ops.toArray false) s K:=rQ (e r0 q)
def tO{P Q:Prop}{R0:Prop}(r0:R0)(q:Q)(e:R0->Q->P:=by intro h0 q;(try simp-dsimp-implicitDefEqProofs(disch:=omega)only[go_sem,tN,B6,j9,IK,CB,EY,ints,AU,rows,vi,h0]);exact q):P:=e r0 q
def Jq{cX n ops y s s1 K}(q:AW cX prog y s1 K)(e:HA ops s s1:=by intro N hN;(try simp-dsimp-implicitDefEqProofs(disch:=omega)only[go_sem,B6,ints,AU,rows,vi]);exact hN):GZ cX n ops y s K:=HF q e
def Ut{cX n ops s}{K:Exit->St->Prop}{Q:Prop}(q:Q)(e:Q->KO env prog ops s.nx ops 0 ⟨s.t,s.H,s.nx+ops.length⟩ (K .normal):=by intro q;(try simp-dsimp-implicitDefEqProofs(disch:=omega)only[go_sem,B6,ints,AU,rows,vi]);exact q):AW cX prog (.region n ops.toArray false) s K:=rQ (e q)
def GW{cX n ops y s s1 K}(q:AW cX prog y s1 K)(e:HA ops s s1:=by intro N hN;(try simp-dsimp-implicitDefEqProofs(disch:=omega)only[go_sem,B6,IK,CB,EY,ints,AU,rows,vi]);exact hN):GZ cX n ops y s K:=HF q e
def TX{cX n ops s}{K:Exit->St->Prop}{Q:Prop}(q:Q)(e:Q->KO env prog ops s.nx ops 0 ⟨s.t,s.H,s.nx+ops.length⟩ (K .normal):=by intro q;(try simp-dsimp-implicitDefEqProofs(disch:=omega)only[go_sem,B6,IK,CB,EY,ints,AU,rows,vi]);exact q):AW cX prog (.region n ops.toArray false) s K:=rQ (e q)
def UU{P Q:Prop}(q:Q)(e:Q->P:=by intro q;(try simp-dsimp-implicitDefEqProofs(disch:=omega)only[go_sem,B6,IK,CB,EY,ints,AU,rows,vi]);exact q):P:=e q
def OZ{cX n ops y s s1 K}(q:AW cX prog y s1 K)(e:HA ops s s1:=by intro N hN;(try simp-dsimp-implicitDefEqProofs(maxSteps:=800000) (disch:=omega)only[go_sem,CI,AU,vi]);exact hN):GZ cX n ops y s K:=HF q e
def Q9{cX n ops y s s1 K}(q:AW cX prog y s1 K)(e:HA ops s s1:=by intro N hN;(try simp-dsimp-implicitDefEqProofs(maxSteps:=800000) (disch:=omega)only[go_sem,ints,AU,vi]);exact hN):GZ cX n ops y s K:=HF q e
def RU{cX n ops y s s1 K}(q:AW cX prog y s1 K)(e:HA ops s s1:=by intro N hN;(try simp-dsimp-implicitDefEqProofs(maxSteps:=800000) (disch:=omega)only[go_sem,vi]);exact hN):GZ cX n ops y s K:=HF q e
def PS{P Q:Prop}(q:Q)(e:Q->P:=by intro q;(try simp-dsimp-implicitDefEqProofs(maxSteps:=800000) (disch:=omega)only[go_sem,CI,AU,vi]);exact q):P:=e q
def XH{cX n ops s}{K:Exit->St->Prop}{Q:Prop}(q:Q)(e:Q->KO env prog ops s.nx ops 0 ⟨s.t,s.H,s.nx+ops.length⟩ (K .normal):=by intro q;(try simp-dsimp-implicitDefEqProofs(maxSteps:=800000) (disch:=omega)only[go_sem,CI,AU,vi]);exact q):AW cX prog (.region n ops.toArray false) s K:=rQ (e q)
def eR{cX n ops y s s1 K}{R0:Prop}(r0:R0)(q:AW cX prog y s1 K)(e:R0->HA ops s s1:=by intro h0 N hN;(try simp-dsimp-implicitDefEqProofs(disch:=omega)only[go_sem,CI,AU,vi,h0]);exact hN):GZ cX n ops y s K:=HF q (e r0)
def yM{P f nx H Zz r}{K:Nat->HP->AV->Prop}{Q:Prop}(x:DZ P f Zz r)(q:Q)(e:Q->K nx H r:=by intro q;(try simp-dsimp-implicitDefEqProofs(disch:=omega)only[go_sem,B6,IK,CB,EY,ints,AU,rows,vi]);exact q):AC P f nx H Zz K:=AC.pure (.of x) (e q)
def oC{cX n ops s}{K:Exit->St->Prop}{Q:Prop}(q:Q)(e:Q->KO env prog ops s.nx ops 0 ⟨s.t,s.H,s.nx+ops.length⟩ (K .normal):=by intro q;(try simp-dsimp-implicitDefEqProofs(maxSteps:=800000) (disch:=omega)only[go_sem,ints,AU,vi]);exact q):AW cX prog (.region n ops.toArray false) s K:=rQ (e q)
def tM{cX n ops y s s1 K}(q:AW cX prog y s1 K)(e:HA ops s s1:=by intro N hN;(try simp-dsimp-implicitDefEqProofs(maxSteps:=800000) (disch:=omega)only[go_sem,CB,ints,CI,AU,vi]);exact hN):GZ cX n ops y s K:=HF q e
def A0Q{cX n ops y s s1 K f Zz r}(x:DZ prog f Zz r)(q:AW cX prog y s1 K)(e:DZ prog f Zz r->HA ops s s1:=by intro x N hN;(try simp-dsimp-implicitDefEqProofs(disch:=omega)only[go_sem,ints,AU,vi]);refine AC.pure (.of x) ?_;(try simp-dsimp-implicitDefEqProofs(disch:=omega)only[go_sem,ints,AU,vi]);exact hN):GZ cX n ops y s K:=HF q (e x)
def A0R{cX n ops y s s1 K f Zz r}(x:DZ prog f Zz r)(q:AW cX prog y s1 K)(e:DZ prog f Zz r->HA ops s s1:=by intro x N hN;(try simp-dsimp-implicitDefEqProofs(maxSteps:=800000) (disch:=omega)only[go_sem,CB,ints,CI,AU,vi]);refine AC.pure (.of x) ?_;(try simp-dsimp-implicitDefEqProofs(maxSteps:=800000) (disch:=omega)only[go_sem,CB,ints,CI,AU,vi]);exact hN):GZ cX n ops y s K:=HF q (e x)
def A0S{P Q:Prop}(q:Q)(e:Q->P:=by intro q;(try simp-dsimp-implicitDefEqProofs(disch:=omega)only[go_sem,BD,AR,B4,BE,AT,AS,CB,GJ,ES,ET,ints,CI,AU,vi,DV]);exact q):P:=e q
def A0T{P Q:Prop}(q:Q)(e:Q->P:=by intro q;(try simp-dsimp-implicitDefEqProofs(maxSteps:=800000) (disch:=omega)only[go_sem,BD,AR,B4,BE,AT,AS,GJ,ES,ET,CI,AU,vi,DV]);exact q):P:=e q
def A0U{P Q:Prop}{R0:Prop}(r0:R0)(q:Q)(e:R0->Q->P:=by intro h0 q;(try simp-dsimp-implicitDefEqProofs(disch:=omega)only[go_sem,BD,AR,B4,BE,AT,AS,GJ,ES,ET,CI,AU,vi,DV,h0]);exact q):P:=e r0 q
end
section
section
variable{U:C2}{pw:D4}{cj:E6}
def T.Kp{i f g}(hf:T (pc U pw cj) i f)(hg:T (pc U pw cj) i g):vec U.length f=vec U.length g↔f=g:=by
 constructor
 ·intro h;funext k
  by_cases e:k<U.length
  ·exact ADB.1 h k e
  rw[hf.t k (by have:(pc U pw cj).n=U.length:=rfl;omega),hg.t k (by have:(pc U pw cj).n=U.length:=rfl;omega)]
 intro h;rw[h]
def RV{i f g}(hn:U.length<=1048576)(hf:T (pc U pw cj) i f)(hg:T (pc U pw cj) i g):DZ prog 214 [vi U.length f,vi U.length g] (.b (tf (f=g))):=by
 have:=Z4 (vec U.length f) (vec U.length g) (by rw[HB];omega) (by rw[HB];omega);rw[KF,KF]at this;rwa [oB (hf.Kp hg)]at this
def gH(h:BW U pw cj)(i)(hi:i<U.length)(hg:TU (T (pc U pw cj) (i+1)) (M (pc U pw cj) (i+1)))(a)(ha:T (pc U pw cj) (i+1) a)(k)(h0:0<=k)(hk:k<=1099511627776):
    DZ prog 181 [CI U pw cj,.i .i64 ((i:Int)+1),vi U.length a,.i .i64 k] (vi U.length (rep (M (pc U pw cj) (i+1)) a k.toNat)):=by
  have:=RT U pw cj h (i+1) hi hg a ha k.toNat A0;rw[BG h0]at this;rwa [IP]at this
end
def NX(n j:Nat)(hn:n<=1048576)(hj:j<n):DZ prog 116 [.i .i64 n,.i .i64 j] (vi n (un j)):=by
 refine DA AY func116 rfl AP ntmps116 results116 ((RS _ _)) (λnx cX=>?_)
 refine CT ?_;refine CT ?_;refine CT ?_;refine CT ?_;refine BQ ?_;refine Vw.vi ?_
 rw[AD,IL,cE hj];rfl
def FO(p:Prop)(r:AV):Prop:=∃k l a b:Int,r= .g [.i .i64 k,.i .i64 l,.i .i64 a,.i .i64 b]/\(k=0↔p)
def FO.bad{p:Prop}{k l a b}(hk:k≠0)(h:¬p):FO p (.g [.i .i64 k,.i .i64 l,.i .i64 a,.i .i64 b]):=⟨k,l,a,b,rfl,⟨λe=>absurd e hk,λe=>absurd e h⟩⟩
def FO.AJF{p:Prop}{l a b}(h:p):FO p (.g [.i .i64 0,.i .i64 l,.i .i64 a,.i .i64 b]):=⟨0,l,a,b,rfl,⟨λ_=>h,λ_=>rfl⟩⟩
set_option maxRecDepth 20000 in
set_option maxHeartbeats 2000000 in
def mB(U pw cj)(h:BW U pw cj)(i)(hi:i<U.length)(hg:TU (T (pc U pw cj) (i+1)) (M (pc U pw cj) (i+1)))(nx H):AC prog 237 nx H [CI U pw cj,.i .i64 i] (λDI H' r=>H'=H/\FO (A0C (pc U pw cj) i) r):=by
 have hv:=h.val
 have Q4:=h.1.1
 have fO:=h.1.2.1
 have KW:=h.1.2.2
 have oY:=(h.2.2.2 i hi).2.1
 have e2:AV.v (pw.getD i []).length (List.map (AV.i IntKind.i64) (pw.getD i []))=vi U.length ((pc U pw cj).pw i):=JX (h.pwl hi)
 have im:=λ{a:V}=>eM (P:=pc U pw cj) (i:=i) hv (λ_ _=>aH hv) a
 refine CF AY func237 rfl AP ntmps237 results237 (λGM cX=>?_)
 refine IE ?_;refine BN 2 nx _ rfl ((AB _ _ A0).trans (AD _ _ _)) ?_
 refine BH ?_;refine IE ?_;refine IE ?_;refine A6 λN1 CW=>IE ?_;refine AA<|AM (α:=Nat) (λx=>sl 188 [(1,.i .i64 i),(2,AU U pw cj),(4,.q (nx+1) 0),(5,.i .i64 U.length),(6,.i .i64 i),(7,.i .i64 x)]) (λ_=>CJ H (nx+1) (some [.i .i64 0,.i .i64 0,.i .i64 0,.i .i64 0])) (λx m=>(i+1<=x/\x<=U.length)/\∀j,i<j->j<x->rep (M (pc U pw cj) (i+1)) ((pc U pw cj).cj i j) ((pc U pw cj).o j).toNat=IN (pc U pw cj) (M (pc U pw cj) (i+1)) i ((pc U pw cj).pw j)) (λx=>U.length-x) (i+1) ?_ ?_ (by have:=GM nx (A1 _);intro d cs hd;simp only[CJ]at hd ⊢;grind) ?_
 ·exact⟨⟨A1 _,hi⟩,by intro j h1 h2;omega⟩
 ·simp(disch:=omega) [EJ,EN,sl,AU,ints,rows,B6,vi]
 rintro j m ⟨⟨yB,dA⟩,hI⟩
 simp only[AU];refine BH ?_;refine A6 λN2 DN=>IE ?_;refine AK ?_ ?_<;>intro h1
 ·have ej:((j:Int)-i-1).toNat=j-i-1:=A0;have e1:AV.v ((cj.getD i []).getD (j-i-1) []).length (List.map (AV.i IntKind.i64) ((cj.getD i []).getD (j-i-1) []))=vi U.length ((pc U pw cj).cj i j):=JX (h.Xp A0 A0);have e3:AV.v (pw.getD j []).length (List.map (AV.i IntKind.i64) (pw.getD j []))=vi U.length ((pc U pw cj).pw j):=JX (h.pwl A0);have hoj:=h.o7 (show j<U.length by omega);have AJG:(pc U pw cj).o j=U.getD j 0:=rfl;have tj:=hv.cj i j A0 (show j<U.length by omega);have tp:=(hv.pw j (show j<U.length by omega)).mono hv (show i+1<=j+1 by omega);apply AF;apply DN;refine A6 λN3 DO=>AA<|A6 λN hN=>?_;refine C9 AY AP 21 AP ?_
  refine A0O ej ?_;rw[e1];refine⟨_,.of (gH h i hi hg _ tj _ A0 A0),?_⟩;refine NW ?_
  apply hN;refine A6 λN hN=>C9 AY AP 11 AP ?_
  refine tJ ?_;rw[e3];refine⟨_,.of (OL U pw cj h i hi _ tp),?_⟩;refine NW ?_
  refine⟨_,.of (RV A0 (hg.rep tj _) im),?_⟩;refine NW ?_
  apply hN;refine AK ?_ ?_<;>intro h2
  ·refine IE ?_;refine BQ ?_;refine⟨H,by have:=GM (nx+1) A0;intro d cs hd;simp only[CJ];grind,rfl,?_⟩
   exact FO.bad A0 (λq=>h2 (q.pw j A0 (show j<U.length by omega)))
  apply AF;apply DO;refine XF ?_;refine BB (j+1) ?_ ?_ ?_
  ·simp(disch:=omega) [EJ,EN,sl,AU,DV,ints,rows,B6,vi]<;>omega
  ·refine⟨A0,λk q1 q2=>?_⟩;by_cases e:k=j
   ·subst e;exact h2
   exact hI k q1 A0
  exact AI
 have hI1:∀j,i<j->j<U.length->rep (M (pc U pw cj) (i+1)) ((pc U pw cj).cj i j) ((pc U pw cj).o j).toNat=IN (pc U pw cj) (M (pc U pw cj) (i+1)) i ((pc U pw cj).pw j):=λk q1 q2=>hI k q1 A0
 apply AO;apply CW;refine A6 λN4 FD=>IE ?_;refine AA<|AM (α:=Nat) (λx=>sl 188 [(1,.i .i64 i),(2,AU U pw cj),(4,.q (nx+1) 0),(5,.i .i64 U.length),(6,.i .i64 i),(9,.i .i64 x)]) (λ_=>CJ H (nx+1) (some [.i .i64 0,.i .i64 0,.i .i64 0,.i .i64 0])) (λx m=>(i+1<=x/\x<=U.length)/\∀j k,i<j->j<x->j<k->k<U.length->M (pc U pw cj) (i+1) ((pc U pw cj).cj i k) ((pc U pw cj).cj i j)=M (pc U pw cj) (i+1) ((pc U pw cj).cj i j) (IN (pc U pw cj) (M (pc U pw cj) (i+1)) i ((pc U pw cj).cj j k))) (λx=>U.length-x) (i+1) ?_ ?_ (λ_ _ h=>h) ?_
 ·exact⟨⟨A1 _,hi⟩,by intro j k h1 h2;omega⟩
 ·simp(disch:=omega) [EJ,EN,sl,AU,ints,rows,B6,vi]
 rintro j m ⟨⟨yB,dA⟩,hI⟩
 simp only[AU];refine BH ?_;refine A6 λN5 ID=>IE ?_;refine AK ?_ ?_<;>intro h3
 ·apply AF;apply ID;refine A6 λN6 OR=>AA<|IE ?_;refine AA<|AM (α:=Nat) (λx=>sl 188 [(1,.i .i64 i),(2,AU U pw cj),(4,.q (nx+1) 0),(5,.i .i64 U.length),(6,.i .i64 i),(9,.i .i64 j),(10,.i .i64 x)]) (λ_=>CJ H (nx+1) (some [.i .i64 0,.i .i64 0,.i .i64 0,.i .i64 0])) (λx m=>(j+1<=x/\x<=U.length)/\∀k,j<k->k<x->M (pc U pw cj) (i+1) ((pc U pw cj).cj i k) ((pc U pw cj).cj i j)=M (pc U pw cj) (i+1) ((pc U pw cj).cj i j) (IN (pc U pw cj) (M (pc U pw cj) (i+1)) i ((pc U pw cj).cj j k))) (λx=>U.length-x) (j+1) ?_ ?_ (λ_ _ h=>h) ?_
  ·exact⟨⟨A1 _,A0⟩,by intro k h1 h2;omega⟩
  ·simp(disch:=omega) [EJ,EN,sl,AU,ints,rows,B6,vi]
  rintro k m ⟨⟨eG,NC⟩,hK⟩;simp only[AU];refine BH ?_;refine A6 λN7 S6=>IE ?_;refine AK ?_ ?_<;>intro h4
  ·have ej:((j:Int)-i-1).toNat=j-i-1:=A0;have ek:((k:Int)-i-1).toNat=k-i-1:=A0;have ejk:((k:Int)-j-1).toNat=k-j-1:=A0;have e1:AV.v ((cj.getD i []).getD (j-i-1) []).length (List.map (AV.i IntKind.i64) ((cj.getD i []).getD (j-i-1) []))=vi U.length ((pc U pw cj).cj i j):=JX (h.Xp A0 A0);have e3:AV.v ((cj.getD i []).getD (k-i-1) []).length (List.map (AV.i IntKind.i64) ((cj.getD i []).getD (k-i-1) []))=vi U.length ((pc U pw cj).cj i k):=JX (h.Xp A0 A0);have e4:AV.v ((cj.getD j []).getD (k-j-1) []).length (List.map (AV.i IntKind.i64) ((cj.getD j []).getD (k-j-1) []))=vi U.length ((pc U pw cj).cj j k):=JX (h.Xp A0 A0);have AOM:=(h.2.2.2 j A0).2.1;have tj:=hv.cj i j A0 (show j<U.length by omega);have tk:=hv.cj i k A0 (show k<U.length by omega);have tjk:=(hv.cj j k A0 (show k<U.length by omega)).mono hv (show i+1<=j+1 by omega);apply AF;apply S6;refine A6 λN8 VK=>AA<|A6 λN hN=>?_;refine C9 AY AP 24 AP ?_
   (try simp-dsimp-implicitDefEqProofs(disch:=omega)only[go_sem,BD,AR,B4,BE,AT,AS,B6,IK,CB,EY,GJ,ES,ET,ints,CI,AU,rows,vi,DV,ej,ek,e1,e3]);apply hN;refine A6 λN hN=>C9 AY AP 15 AP ?_
   refine A0O ejk ?_;rw[e4];refine⟨_,.of (OL U pw cj h i hi _ tjk),?_⟩;refine NW ?_
   apply hN;refine A6 λN hN=>C9 AY AP 14 AP ?_
   refine tJ ?_;refine⟨_,.of (OY U pw cj h i hi _ _ tk tj),?_⟩;refine NW ?_
   refine⟨_,.of (OY U pw cj h i hi _ _ tj im),?_⟩;refine NW ?_
   refine⟨_,.of (RV A0 (hg.cl tk tj) (hg.cl tj im)),?_⟩;refine NW ?_
   apply hN;refine AK ?_ ?_<;>intro h5
   ·refine IE ?_;refine BQ ?_;refine⟨H,by have:=GM (nx+1) A0;intro d cs hd;simp only[CJ];grind,rfl,?_⟩
    exact FO.bad A0 (λq=>h5 (q.cj j k A0 A0 (show k<U.length by omega)))
   apply AF;apply VK;refine XF ?_;refine BB (k+1) ?_ ?_ ?_
   ·simp(disch:=omega) [EJ,EN,sl,AU,DV,ints,rows,B6,vi]<;>omega
   ·refine⟨A0,λt q1 q2=>?_⟩;by_cases e:t=k
    ·subst e;exact h5
    exact hK t q1 A0
   exact AI
  apply AO;apply OR;refine XF ?_;refine BB (j+1) ?_ ?_ ?_
  ·simp(disch:=omega) [EJ,EN,sl,AU,DV,ints,rows,B6,vi]<;>omega
  ·refine⟨A0,λt k' q1 q2 q3 q4=>?_⟩;by_cases e:t=j
   ·subst e;exact hK k' q3 A0
   exact hI t k' q1 A0 q3 q4
  exact AI
 have hI2:∀j k,i<j->j<k->k<U.length->M (pc U pw cj) (i+1) ((pc U pw cj).cj i k) ((pc U pw cj).cj i j)=M (pc U pw cj) (i+1) ((pc U pw cj).cj i j) (IN (pc U pw cj) (M (pc U pw cj) (i+1)) i ((pc U pw cj).cj j k)):=λt k q1 q2 q3=>hI t k q1 A0 q2 q3
 apply AO;apply FD;refine sQ λN hN=>?_;simp-dsimp-implicitDefEqProofs(disch:=omega)only[go_sem,B6,IK,CB,EY,ints,CI,AU,rows,vi,e2];apply hN;refine A6 λN9 ZW=>sQ λN hN=>?_;refine NW ?_;refine tK (OL U pw cj h i hi _ (hv.pw i hi)) ?_
 refine tK (RV A0 im (hv.pw i hi)) ?_
 apply hN;refine AK ?_ ?_<;>intro h6
 ·refine IE ?_;refine BQ ?_;refine⟨H,by have:=GM (nx+1) A0;intro d cs hd;simp only[CJ];grind,rfl,?_⟩
  exact FO.bad A0 (λq=>h6 q.fx)
 apply AF;apply ZW;refine A6 λPf R9=>IE ?_;refine AA<|AM (α:=Nat) (λx=>sl 188 [(1,.i .i64 i),(2,AU U pw cj),(4,.q (nx+1) 0),(5,.i .i64 U.length),(6,.i .i64 i),(14,vi U.length ((pc U pw cj).pw i)),(15,.i .i64 x)]) (λ_=>CJ H (nx+1) (some [.i .i64 0,.i .i64 0,.i .i64 0,.i .i64 0])) (λx m=>(i+1<=x/\x<=U.length)/\∀j,i<j->j<x->M (pc U pw cj) (i+1) ((pc U pw cj).pw i) (IS (IN (pc U pw cj) (M (pc U pw cj) (i+1)) i) ((pc U pw cj).o i).toNat (un j))=M (pc U pw cj) (i+1) (un j) ((pc U pw cj).pw i)) (λx=>U.length-x) (i+1) ?_ ?_ (λ_ _ h=>h) ?_
 ·exact⟨⟨A1 _,hi⟩,by intro j h1 h2;omega⟩
 ·simp(disch:=omega) [EJ,EN,sl,AU,ints,rows,B6,vi]
 rintro j m ⟨⟨yB,dA⟩,hI⟩
 simp only[AU,vi];refine BH ?_;refine A6 λXo T3=>IE ?_;refine AK ?_ ?_<;>intro h7
 ·have tu:=O9 hv (show i+1<=j by omega) (show j<U.length by omega);have o9:=h.o7 hi;have ADC:(pc U pw cj).o i=U.getD i 0:=rfl;apply AF;apply T3;refine A6 λN12 ZL=>AA<|sQ λN hN=>?_;simp-dsimp-implicitDefEqProofs(disch:=omega)only[go_sem,B6,IK,CB,EY,ints,CI,AU,rows,vi];refine AC.pure (.of (NX U.length j A0 A0)) ?_;(try simp-dsimp-implicitDefEqProofs(disch:=omega)only[go_sem,B6,IK,CB,EY,ints,CI,AU,rows,vi]);apply hN;refine IE ?_;refine A6 λN13 dF=>IE ?_;refine AA<|AM (α:=Nat×V) (λx=>sl 188 [(1,.i .i64 i),(2,AU U pw cj),(4,.q (nx+1) 0),(5,.i .i64 U.length),(6,.i .i64 i),(14,vi U.length ((pc U pw cj).pw i)),(15,.i .i64 j),(16,vi U.length (un j)),(17,vi U.length x.2),(18,.i .i64 x.1)]) (λ_=>CJ H (nx+1) (some [.i .i64 0,.i .i64 0,.i .i64 0,.i .i64 0])) (λx m=>x.1<=(U.getD i 0).toNat/\T (pc U pw cj) (i+1) x.2/\x.2=IS (IN (pc U pw cj) (M (pc U pw cj) (i+1)) i) x.1 (un j)) (λx=>(U.getD i 0).toNat-x.1) ((0,un j)) ?_ ?_ (λ_ _ h=>h) ?_
  ·exact⟨AE _,tu,rfl⟩
  ·simp(disch:=omega) [EJ,EN,sl,AU,ints,rows,B6,vi]
  rintro⟨q,w⟩ m ⟨hq,hw,he⟩;dsimp only at hq hw he;simp only[AU,vi];refine BH ?_;refine A6 λN14 p5=>IE ?_;refine AK ?_ ?_<;>intro h8
  ·apply AF;apply p5;refine A6 λN15 Ac=>AA<|XF ?_;refine tK (OL U pw cj h i hi _ hw) ?_
   apply Ac;refine XF ?_;refine BB (q+1,IN (pc U pw cj) (M (pc U pw cj) (i+1)) i w) ?_ ?_ ?_
   ·simp(disch:=omega) [EJ,EN,sl,AU,DV,ints,rows,B6,vi]<;>omega
   ·exact⟨AI,im,by rw[he];rfl⟩
   exact AI
  obtain rfl:q=(U.getD i 0).toNat:=A0;apply AO;apply dF;refine A6 λN hN=>C9 AY AP 14 AP ?_
  refine tJ ?_;refine⟨_,.of (OY U pw cj h i hi _ _ (hv.pw i hi) hw),?_⟩;refine NW ?_
  refine⟨_,.of (OY U pw cj h i hi _ _ tu (hv.pw i hi)),?_⟩;refine NW ?_
  refine⟨_,.of (RV A0 (hg.cl (hv.pw i hi) hw) (hg.cl tu (hv.pw i hi))),?_⟩;refine NW ?_
  apply hN;refine AK ?_ ?_<;>intro h9
  ·refine IE ?_;refine BQ ?_;refine⟨H,by have:=GM (nx+1) A0;intro d cs hd;simp only[CJ];grind,rfl,?_⟩
   rw[he]at h9;exact FO.bad A0 (λq=>h9 (q.inn j A0 (show j<U.length by omega)))
  apply AF;apply ZL;refine XF ?_;refine BB (j+1) ?_ ?_ ?_
  ·simp(disch:=omega) [EJ,EN,sl,AU,DV,ints,rows,B6,vi]<;>omega
  ·refine⟨A0,λk q1 q2=>?_⟩;by_cases e:k=j
   ·subst e;rw[he]at h9;exact h9
   exact hI k q1 A0
  exact AI
 apply AO;apply R9;refine IE ?_;refine BQ ?_;refine⟨H,by have:=GM (nx+1) A0;intro d cs hd;simp only[CJ];grind,rfl,?_⟩
 exact FO.AJF ⟨λj q1 q2=>hI1 j q1 q2,λj k q1 q2 q3=>hI2 j k q1 q2 q3,h6,λj q1 q2=>hI j q1 (by have:j<U.length:=q2;omega)⟩
end
section
def mC(U pw cj)(h:BW U pw cj)(nx H):AC prog 177 nx H [CI U pw cj] (λDI H' r=>H'=H/\FO (HN (pc U pw cj) 0) r):=by
 have hv:=h.val
 have Q4:=h.1.1
 refine CF AY func177 rfl AP ntmps177 results177 (λGM cX=>?_)
 refine tC ?_;refine A6 λN1 CW=>BN 1 nx _ rfl ((AB _ _ A0).trans (AD _ _ _)) ?_
 refine BH ?_;refine tC ?_;refine AA<|AM (α:=Nat) (λx=>sl 21 [(1,AU U pw cj),(2,.q (nx+1) 0),(3,.i .i64 ((x:Int)-1))]) (λ_=>CJ H (nx+1) (some [.i .i64 0,.i .i64 0,.i .i64 0,.i .i64 0])) (λx m=>(x<=U.length/\nx+2<=m)/\HN (pc U pw cj) x) (λx=>x) (U.length) ?_ ?_ (by have:=GM nx (A1 _);intro d cs hd;simp only[CJ]at hd ⊢;grind) ?_
 ·exact⟨⟨A1 _,AI⟩,λi h1 h2=>absurd h2 (by have:(pc U pw cj).n=U.length:=rfl;omega)⟩
 ·exact I2
 rintro x m ⟨⟨hx,hm⟩,hI⟩
 simp only[AU];refine BH ?_;refine A6 λN2 DN=>tC ?_;refine AK ?_ ?_<;>intro h1
 ·obtain⟨i,rfl⟩:∃i,x=i+1:=⟨x-1,A0⟩;rw[show((i+1:Nat):Int)-1=i by omega];apply AF;apply DN;refine A6 λN3 DO=>AA<|sQ λN hN=>?_;refine Ab ?_;refine(mB U pw cj h i A0 (CS hv hI) _ _).CD ?_
  rintro yK H1 r1 Di ⟨rfl,k,l,a,b,rfl,hk⟩;refine Ab ?_
  apply hN;refine tC ?_;refine AK ?_ ?_<;>intro h2
  ·refine tC ?_;refine BQ ?_;refine⟨H,by have q1:=GM (nx+1) A0;have q2:=GM (m+2+3) A0;intro d cs hd;simp only[CJ];grind,rfl,FO.bad h2 (λq=>h2 (hk.2 (q i (AE _) (show i<U.length by omega))))⟩
  apply AF;apply DO;apply rQ;simp-dsimp-implicitDefEqProofs(disch:=omega)only[go_sem,B6,ints,CI,AU,rows];refine⟨i,?_,by have q1:=GM (nx+1) A0;have q2:=GM (m+2+3) A0;intro d cs hd;simp only[CJ]at hd ⊢;grind,?_,?_⟩
  ·exact I2
  ·refine⟨⟨AI,AI⟩,λt q1 q2=>?_⟩;by_cases e:t=i
   ·subst e;exact hk.1 h2
   exact hI t A0 q2
  exact AI
 apply AO;apply CW;refine tC ?_;refine BQ ?_;obtain rfl:x=0:=A0
 exact⟨H,by have q1:=GM (nx+1) A0;intro d cs hd;simp only[CJ];grind,rfl,FO.AJF hI⟩
def ZM(U pw cj)(h:BW U pw cj):DZ prog 111 [CI U pw cj] (.b (tf (HN (pc U pw cj) 0))):=by
 refine BI AY func111 rfl AP ntmps111 results111 (.b _) (λnx cX=>?_)
 refine tC ?_;refine sQ λN hN=>?_;refine Ab ?_;refine(mC U pw cj h _ _).CD ?_
 rintro yK H1 r1 Di ⟨rfl,k,l,a,b,rfl,hk⟩
 refine Ab ?_
 apply hN;refine BQ ?_;exact bt (by rw[<-oB hk];by_cases q:k=0<;>simp[q,tf])
def XI(U pw cj)(hl:PR U pw cj):DZ prog 52 [CI U pw cj] (.b (tf (BW U pw cj/\HN (pc U pw cj) 0))):=by
 refine BI AY func52 rfl AP ntmps52 results52 (.b _) (λnx cX=>?_)
 refine ND ?_;refine sQ λN hN=>?_;refine MX ?_;refine AC.pure (.of (KE U pw cj hl)) ?_;(try simp-dsimp-implicitDefEqProofs(disch:=omega)only[go_sem,B6,ints,CI,rows])
 refine J5.mk' (λh1=>?_) (λh1=>?_)
 ·try simp only[cn]at h1
  refine MX ?_
  refine AC.pure (.of (ZM U pw cj h1)) ?_;(try simp-dsimp-implicitDefEqProofs(disch:=omega)only[go_sem,B6,ints,CI,rows])
  apply hN;apply DQ;simp-dsimp-implicitDefEqProofs(disch:=omega)only[go_sem];all_goals exact bt (oB ⟨λq=>⟨h1,q⟩,λq=>q.2⟩)
 try simp only[cn]at h1
 refine MX ?_
 apply hN;apply DQ;simp-dsimp-implicitDefEqProofs(disch:=omega)only[go_sem];all_goals exact bt (JQ (λq=>h1 q.1)).symm
end
section
def Ow.ADD{H r n f ids}(h:Ow H r (Go.Proofs.YtgknbnkmilddhaaGreat.vi n f) ids):(n=0/\(r= .nl\/r= .v 0 []))\/∃id,r= .h id 0 n/\id∈ids/\H id=some (Go.Proofs.YtgknbnkmilddhaaGreat.JP n f):=by
 rw[<-KF]at h;rcases h.Eu with ⟨h1,h2⟩|⟨id,h1,h2,h3⟩
 ·refine .inl ⟨?_,h2⟩;have:=congrArg List.length h1;rw[HB]at this;simpa using this
 rw[HB]at h1 h3;exact .inr ⟨id,h1,h2,by rw[h3,L5 (λk hk=>VY hk)]⟩
def cC.vi{P f xs ts n g}(h:cC P f ts (Go.Proofs.YtgknbnkmilddhaaGreat.vi n g)){nx H}(hv:wU H xs ts):AC P f nx H xs (λ_ H' r=>r=Go.Proofs.YtgknbnkmilddhaaGreat.vi n g/\H=H'):=by
 have base:=AC.own (K:=λDI H' r=>∃ids,(∀i,i<nx->H' i=H i)/\Own nx DI H' r (Go.Proofs.YtgknbnkmilddhaaGreat.vi n g) ids) h hv (λDI H' r ids _ h2 h3=>⟨ids,h2,h3⟩);refine⟨base.1,λL Av w us hs GM ha=>(base.2 L Av w us hs GM ha).mono ?_⟩;rintro e w' ⟨u,r,L',DI,H',h1,⟨ids,g1,g2,g3,g4⟩,h3,h4,h5,h6,h7,h8⟩;have lG:∀i,nx<=i->H i=none:=λi hi=>by
  cases hc:H i with
  |none=>rfl
  | some cs=>
    obtain⟨l,q1,_⟩:=hs.node i cs hc;rw[GM i hi]at q1;cases q1
 have fS:∀i cs,H i=some cs->H' i=some cs:=λi cs hi=>by
  have:i<nx:=by
    apply AN;intro hn;rw[lG i A0]at hi;cases hi
  rw[g1 i this];exact hi
 have hz:eL H' H:=λi cs hi=>⟨cs,fS i cs hi,rfl,λk x y h1 h2=>by rw[h1]at h2;cases h2;exact .refl _⟩
 refine⟨u,_,L',DI,H,h1,⟨rfl,rfl⟩,h3,h4,h5,h6.sub fS,⟨h7.le,h7.os,h7.tape,h7.output,h7.size,h7.BV,λb hb hl=>h7.old b hb (lK fS hl)⟩,?_⟩;rcases g2.ADD with ⟨rfl,rfl|rfl⟩|⟨id,rfl,GF,hc⟩
 ·rw[h8.Q1];exact .v0 _ _
 ·exact Fz.sound h6 hz (.refl _) h8
 refine Fz.sound h6 hz ?_ h8;exact .h id 0 n _ _ hc (lG id (g4 id GF).1) (by rw[HM];omega) HM (λk x y h1 h2=>by rw[BS,h2]at h1;cases h1;exact .refl _)
def Vn{n}(f)(hn:n<=1099511627776):cC prog 197 [vi n f] (vi n f):=by
 intro nx;have:=OH (vec n f) (by rw[HB];exact hn) nx DD;rw[KF,HB]at this;refine this.mono ?_;rintro DI H' r (h|⟨rfl,rfl,rfl⟩)
 ·obtain⟨ids,h2⟩:=h.own;rw[KF]at h2;exact⟨ids,by unfold vi at h2 ⊢;rwa [L5 (λk hk=>VY hk)]at h2⟩
 exact⟨[],.leaf _ .v0 (.v _ _ B5),B5,B5⟩
def A5Z(U:C2)(pw:D4)(cj:E6)(i:Nat):Prop:=∀(nx:Nat) (H:HP) (id:Nat) (e f:V),H id=some (JP U.length e)->T (pc U pw cj) 0 e->T (pc U pw cj) i f->
 AC prog 171 nx H [AU U pw cj,.h id 0 U.length,vi U.length f] (λ_ H' _=>H'=CJ H id (some (JP U.length (app (pc U pw cj) i e f))))
def Vo(U:C2)(pw:D4)(cj:E6)(j:Nat):Prop:=∀(nx:Nat) (H:HP) (id:Nat) (e:V),H id=some (JP U.length e)->T (pc U pw cj) 0 e->
 AC prog 221 nx H [AU U pw cj,.h id 0 U.length,.i .i64 j] (λ_ H' _=>H'=CJ H id (some (JP U.length (app (pc U pw cj) j e (un j)))))
def Vw.sub{H:HP}{id n o m:Nat}{e:V}(h:H id=some (Go.Proofs.YtgknbnkmilddhaaGreat.JP n e))(hn:o+m=n):Vw H (.h id o m) (Go.Proofs.YtgknbnkmilddhaaGreat.vi m (λk=>e (o+k))):=by
 refine .h id o m _ _ h (by rw[HM];omega) HM (λk x y hx hy=>?_);have hk:k<m:=by
  have:=(AL.1 hy).1;rwa [HM]at this
 have h1:(Go.Proofs.YtgknbnkmilddhaaGreat.JP n e)[o+k]? =some (.i .i64 (e (o+k))):=by simp[Go.Proofs.YtgknbnkmilddhaaGreat.JP,show o+k<n by omega]
 have h2:(Go.Proofs.YtgknbnkmilddhaaGreat.JP m (λk=>e (o+k)))[k]? =some (.i .i64 (e (o+k))):=by simp[Go.Proofs.YtgknbnkmilddhaaGreat.JP,hk]
 rw[h1]at hx;rw[h2]at hy;cases hx;cases hy;exact .refl _
def tN{j e t c}:qT j e c t j=c:=by rw[qT,if_neg A0,if_pos rfl]
def j9{j e t c d}:D0 (qT j e c t) j d=qT j e d t:=by
 funext k;simp only[D0,qT]
 by_cases h:k=j
 ·subst h;rw[if_pos rfl,if_neg A0,if_pos rfl]
 rw[if_neg h,if_neg h];split<;>rfl
set_option maxHeartbeats 4000000 in
def YM(U pw cj)(h:BW U pw cj)(j)(hj:j<U.length)(hg:TU (T (pc U pw cj) (j+1)) (M (pc U pw cj) (j+1)))(hTV:A5Z U pw cj (j+1)):Vo U pw cj j:=by
 intro nx H id e hH he
 have hv:=h.val
 have Q4:=h.1.1
 have fO:=h.1.2.1
 have KW:=h.1.2.2
 have oY:=(h.2.2.2 j hj).2.1
 have Xq:=T.small h he
 have hrj:=he.r j A0 hj
 have hoj:=h.o7 hj
 have AJG:(pc U pw cj).o j=U.getD j 0:=rfl
 have e3:AV.v (pw.getD j []).length (List.map (AV.i IntKind.i64) (pw.getD j []))=vi U.length ((pc U pw cj).pw j):=JX (h.pwl hj)
 have tz:=T.zero hv (j+1)
 have tp:=hv.pw j hj
 refine CF AY func221 rfl AP ntmps221 results221 (λGM cX=>?_)
 refine sQ λN hN=>?_;refine tO hH ?_;refine(cC.vi (Vn (n:=(U.length-(j+1))) (λt=>e (j+1+t)) A0) (.cons (Vw.sub hH A0) .nil)).mono ?_
 rintro _ H1 r1 ⟨rfl,rfl⟩
 refine tO hH ?_
 apply hN;refine A6 λN1 CW=>TY hH ?_;refine AA<|AM (α:=Nat) (λx=>sl 83 [(0,AU U pw cj),(1,.h id 0 U.length),(2,.i .i64 j),(6,vi (U.length-(j+1)) (λt=>e (j+1+t))),(16,.i .i64 ((U.length-(j+1)):Nat)),(17,.i .i64 x)]) (λx=>CJ H id (some (JP U.length (λt=>if j<t/\t<j+1+x then 0 else e t)))) (λx m=>x<=(U.length-(j+1))) (λx=>(U.length-(j+1))-x) (0) ?_ ?_ (by rw[L5 (g:=e) (λt ht=>if_neg A0)];exact Kc (λi c _ h=>h) (λd hd=>by cases hd;exact hH)) ?_
 ·omega
 ·simp(disch:=omega) [EJ,EN,sl,AU,ints,rows,B6,vi]
 rintro k m hk
 simp only[AU,vi];refine BH ?_;refine TY hH ?_;refine A6 λN2 DN=>AK ?_ ?_<;>intro h1
 ·apply AF;apply DN;refine A6 λN3 DO=>AA<|TY hH ?_;refine jA hH ?_;apply DO;refine jA hH ?_;refine⟨k+1,?_,(by rw[L5 (f:=λt=>if j<t/\t<j+1+(k+1)then 0 else e t) (g:=D0 (λt=>if j<t/\t<j+1+k then 0 else e t) (j+1+k) 0) (λt _=>by simp only[D0];split<;>split<;>first|rfl|omega|(split<;>first|rfl|omega))];exact λ_ _ h=>h),?_,?_⟩
  ·simp(disch:=omega) [EJ,EN,sl,AU,DV,ints,rows,B6,vi]<;>omega
  ·omega
  exact AI
 apply AO;apply CW;have hz:JP U.length (λt=>if j<t/\t<j+1+k then 0 else e t)=JP U.length (qT j e (e j) z0):=by
  refine L5 (λt ht=>?_);simp only[qT,z0];by_cases q1:t<j
  ·rw[if_pos q1,if_neg A0]
  by_cases q2:t=j
  ·subst q2;rw[if_neg A0,if_neg A0,if_pos rfl]
  rw[if_pos A0,if_neg q1,if_neg q2]
 rw[hz]
 refine TY hH ?_;refine A6 λN4 FD=>A6 λN hN=>?_;refine C9 AY AP 12 AP ?_
 (try simp-dsimp-implicitDefEqProofs(disch:=omega)only[go_sem,BD,AR,B4,BE,AT,AS,tN,B6,j9,IK,CB,EY,GJ,ES,ET,ints,AU,rows,vi,DV,hH]);apply hN;refine AK ?_ ?_<;>intro h2
 ·refine TY hH ?_;refine jA hH ?_;rw[e3]
  refine(hTV _ _ id (qT j e 0 z0) ((pc U pw cj).pw j) (AD _ _ _) (A0H hv hj he A0 A0 tz) tp).mono ?_;rintro _ H1 r1 rfl;rw[zZ hv tz tp,hg.l1 tp];refine tO hH ?_
  apply FD;refine TY hH ?_;refine AA<|AM (α:=Nat×V) (λx=>sl 83 [(0,AU U pw cj),(1,.h id 0 U.length),(2,.i .i64 j),(58,vi (U.length-(j+1)) (λt=>e (j+1+t))),(59,.i .i64 ((U.length-(j+1)):Nat)),(60,.i .i64 x.1)]) (λx=>CJ H id (some (JP U.length (qT j e 0 x.2)))) (λx m=>x.1<=(U.length-(j+1))/\T (pc U pw cj) (j+1) x.2/\RB (M (pc U pw cj) (j+1)) ((pc U pw cj).cj j) e ((U.length-(j+1))-x.1) (j+1+x.1) x.2=RB (M (pc U pw cj) (j+1)) ((pc U pw cj).cj j) e (U.length-(j+1)) (j+1) ((pc U pw cj).pw j)) (λx=>(U.length-(j+1))-x.1) ((0,((pc U pw cj).pw j))) ?_ ?_ (λ_ _ h=>h) ?_
  ·exact⟨AE _,tp,rfl⟩
  ·simp(disch:=omega) [EJ,EN,sl,AU,ints,rows,B6,vi]
  rintro⟨q,t⟩ m ⟨hq,ht,hf⟩;dsimp only at hq ht hf;simp only[AU,vi];refine BH ?_;refine TY hH ?_;refine A6 λN5 ID=>AK ?_ ?_<;>intro h3
  ·have hjq:j+1+q<U.length:=A0;have hsq:=Xq (j+1+q);apply AF;apply ID;refine A6 λN6 OR=>AA<|TY hH ?_;refine TY hH ?_;refine AA<|AM (α:=Nat×V) (λx=>sl 83 [(0,AU U pw cj),(1,.h id 0 U.length),(2,.i .i64 j),(8,.i .i64 q),(58,vi (U.length-(j+1)) (λt=>e (j+1+t))),(59,.i .i64 ((U.length-(j+1)):Nat)),(60,.i .i64 q),(65,.i .i64 (e (j+1+q))),(66,.i .i64 x.1)]) (λx=>CJ H id (some (JP U.length (qT j e 0 x.2)))) (λx m=>x.1<=(e (j+1+q)).toNat/\T (pc U pw cj) (j+1) x.2/\x.2=IS (λu=>M (pc U pw cj) (j+1) u ((pc U pw cj).cj j (j+1+q))) x.1 t) (λx=>(e (j+1+q)).toNat-x.1) ((0,t)) ?_ ?_ (λ_ _ h=>h) ?_
   ·exact⟨AE _,ht,rfl⟩
   ·simp(disch:=omega) [EJ,EN,sl,AU,ints,rows,B6,vi]
   rintro⟨y,w⟩ m2 ⟨hy,hw,dZ⟩;dsimp only at hy hw dZ;simp only[AU,vi];refine BH ?_;refine TY hH ?_;refine A6 λN7 S6=>AK ?_ ?_<;>intro h4
   ·have e1:AV.v ((cj.getD j []).getD q []).length (List.map (AV.i IntKind.i64) ((cj.getD j []).getD q []))=vi U.length ((pc U pw cj).cj j (j+1+q)):=by
     have:=JX (h.Xp (show j<j+1+q by omega) hjq);rw[show j+1+q-j-1=q by omega]at this;refine this.trans ?_;show vi _ (fl _)=vi _ (fl ((cj.getD j []).getD (j+1+q-j-1) []))
     rw[show j+1+q-j-1=q by omega]
    have tq:=hv.cj j (j+1+q) A0 hjq;apply AF;apply S6;refine A6 λN8 VK=>AA<|jA hH ?_;rw[e1]
    refine(hTV _ _ id (qT j e 0 w) ((pc U pw cj).cj j (j+1+q)) (AD _ _ _) (A0H hv hj he A0 A0 hw) tq).mono ?_;rintro _ H1 r1 rfl;rw[zZ hv hw tq];refine tO hH ?_
    apply VK;refine jA hH ?_;refine BB (y+1,M (pc U pw cj) (j+1) w ((pc U pw cj).cj j (j+1+q))) ?_ ?_ ?_
    ·simp(disch:=omega) [EJ,EN,sl,AU,DV,ints,rows,B6,vi]<;>omega
    ·exact⟨AI,hg.cl hw tq,by rw[dZ];rfl⟩
    exact AI
   apply AO;apply OR;refine jA hH ?_;refine BB (q+1,w) ?_ ?_ ?_
   ·simp(disch:=omega) [EJ,EN,sl,AU,DV,ints,rows,B6,vi]<;>omega
   ·refine⟨AI,hw,?_⟩;show RB (M (pc U pw cj) (j+1)) ((pc U pw cj).cj j) e ((U.length-(j+1))-(q+1)) (j+1+(q+1)) w=_
    rw[<-hf,dZ,show(U.length-(j+1))-q=(U.length-(j+1))-(q+1)+1 by omega,RB,show y=(e (j+1+q)).toNat by omega];rfl
   exact AI
  apply AO;simp only[wW,IY,if_true];refine BH ?_
  have h9:(U.length-(j+1))-q=0:=A0;rw[h9]at hf;have Jx:t=_:=hf;refine⟨_,Le.refl _,?_⟩;rw[A0I hv hj hg he];unfold tg0;first
  |rw[if_pos (show e j+1=(pc U pw cj).o j from h2),Jx];rfl
  |rw[if_neg (show ¬e j+1=(pc U pw cj).o j from h2),Jx];rfl
 apply AF;apply FD;refine TY hH ?_;refine AA<|AM (α:=Nat×V) (λx=>sl 83 [(0,AU U pw cj),(1,.h id 0 U.length),(2,.i .i64 j),(58,vi (U.length-(j+1)) (λt=>e (j+1+t))),(59,.i .i64 ((U.length-(j+1)):Nat)),(60,.i .i64 x.1)]) (λx=>CJ H id (some (JP U.length (qT j e (e j+1) x.2)))) (λx m=>x.1<=(U.length-(j+1))/\T (pc U pw cj) (j+1) x.2/\RB (M (pc U pw cj) (j+1)) ((pc U pw cj).cj j) e ((U.length-(j+1))-x.1) (j+1+x.1) x.2=RB (M (pc U pw cj) (j+1)) ((pc U pw cj).cj j) e (U.length-(j+1)) (j+1) z0) (λx=>(U.length-(j+1))-x.1) ((0,z0)) ?_ ?_ (λ_ _ h=>h) ?_
 ·exact⟨AE _,tz,rfl⟩
 ·simp(disch:=omega) [EJ,EN,sl,AU,ints,rows,B6,vi]
 rintro⟨q,t⟩ m ⟨hq,ht,hf⟩
 dsimp only at hq ht hf
 simp only[AU,vi];refine BH ?_;refine TY hH ?_;refine A6 λN9 ZW=>AK ?_ ?_<;>intro h5
 ·have hjq:j+1+q<U.length:=A0;have hsq:=Xq (j+1+q);apply AF;apply ZW;refine A6 λPf R9=>AA<|TY hH ?_;refine TY hH ?_;refine AA<|AM (α:=Nat×V) (λx=>sl 83 [(0,AU U pw cj),(1,.h id 0 U.length),(2,.i .i64 j),(8,.i .i64 q),(58,vi (U.length-(j+1)) (λt=>e (j+1+t))),(59,.i .i64 ((U.length-(j+1)):Nat)),(60,.i .i64 q),(65,.i .i64 (e (j+1+q))),(66,.i .i64 x.1)]) (λx=>CJ H id (some (JP U.length (qT j e (e j+1) x.2)))) (λx m=>x.1<=(e (j+1+q)).toNat/\T (pc U pw cj) (j+1) x.2/\x.2=IS (λu=>M (pc U pw cj) (j+1) u ((pc U pw cj).cj j (j+1+q))) x.1 t) (λx=>(e (j+1+q)).toNat-x.1) ((0,t)) ?_ ?_ (λ_ _ h=>h) ?_
  ·exact⟨AE _,ht,rfl⟩
  ·simp(disch:=omega) [EJ,EN,sl,AU,ints,rows,B6,vi]
  rintro⟨y,w⟩ m2 ⟨hy,hw,dZ⟩;dsimp only at hy hw dZ;simp only[AU,vi];refine BH ?_;refine TY hH ?_;refine A6 λXo T3=>AK ?_ ?_<;>intro h6
  ·have e1:AV.v ((cj.getD j []).getD q []).length (List.map (AV.i IntKind.i64) ((cj.getD j []).getD q []))=vi U.length ((pc U pw cj).cj j (j+1+q)):=by
    have:=JX (h.Xp (show j<j+1+q by omega) hjq);rw[show j+1+q-j-1=q by omega]at this;refine this.trans ?_;show vi _ (fl _)=vi _ (fl ((cj.getD j []).getD (j+1+q-j-1) []))
    rw[show j+1+q-j-1=q by omega]
   have tq:=hv.cj j (j+1+q) A0 hjq;apply AF;apply T3;refine A6 λN12 ZL=>AA<|jA hH ?_;rw[e1]
   refine(hTV _ _ id (qT j e (e j+1) w) ((pc U pw cj).cj j (j+1+q)) (AD _ _ _) (A0H hv hj he A0 A0 hw) tq).mono ?_;rintro _ H1 r1 rfl;rw[zZ hv hw tq];refine tO hH ?_
   apply ZL;refine jA hH ?_;refine BB (y+1,M (pc U pw cj) (j+1) w ((pc U pw cj).cj j (j+1+q))) ?_ ?_ ?_
   ·simp(disch:=omega) [EJ,EN,sl,AU,DV,ints,rows,B6,vi]<;>omega
   ·exact⟨AI,hg.cl hw tq,by rw[dZ];rfl⟩
   exact AI
  apply AO;apply R9;refine jA hH ?_;refine BB (q+1,w) ?_ ?_ ?_
  ·simp(disch:=omega) [EJ,EN,sl,AU,DV,ints,rows,B6,vi]<;>omega
  ·refine⟨AI,hw,?_⟩;show RB (M (pc U pw cj) (j+1)) ((pc U pw cj).cj j) e ((U.length-(j+1))-(q+1)) (j+1+(q+1)) w=_
   rw[<-hf,dZ,show(U.length-(j+1))-q=(U.length-(j+1))-(q+1)+1 by omega,RB,show y=(e (j+1+q)).toNat by omega];rfl
  exact AI
 apply AO;simp only[wW,IY,if_true];refine BH ?_
 have h9:(U.length-(j+1))-q=0:=A0
 rw[h9]at hf
 have Jx:t=_:=hf
 refine⟨_,Le.refl _,?_⟩
 rw[A0I hv hj hg he]
 unfold tg0
 first
 |rw[if_pos (show e j+1=(pc U pw cj).o j from h2),Jx];rfl
 |rw[if_neg (show ¬e j+1=(pc U pw cj).o j from h2),Jx];rfl
def A60{f}:tl 0 f=f:=by funext k;simp[tl]
def ADE{n f}(h:∀k,n<=k->f k=0):tl n f=z0:=by
 funext k;simp only[tl,z0];split
 ·rfl
 exact h k A0
def Kr{k f a}:D0 (tl k f) k a=D0 (tl (k+1) f) k a:=by
 funext t;simp only[D0,tl]
 by_cases e:t=k
 ·rw[if_pos e,if_pos e]
 rw[if_neg e,if_neg e];by_cases e2:t<k
 ·rw[if_pos e2,if_pos A0]
 rw[if_neg e2,if_neg A0]
def A61{k f}:D0 (tl k f) k (f k)=tl k f:=by
 funext t;simp only[D0,tl];split
 ·rename_i e;subst e;rw[if_neg A0]
 rfl
def A62{k f}:D0 (tl k f) k 0=tl (k+1) f:=by
 rw[Kr];exact MH (by simp[tl])
section
variable{P:Pc}
def T.tail(hv:LK P){i f}(h:T P i f)(k):T P k (tl k f):=
 ⟨λt ht=>by simp[tl,ht],λt h1 h2=>by
  rw[tl,if_neg A0];by_cases e:t<i
  ·rw[h.z t e];have:=hv.o t h2;omega
  ·exact h.r t A0 h2,λt ht=>by
  rw[tl];split
  ·rfl
  exact h.t t ht⟩
def A0W(hv:LK P){i k}(nZ:i<=k)(hk:k<P.n)(hg:TU (T P i) (M P i))(ZN:TU (T P (k+1)) (M P (k+1))){e f}(he:T P 0 e)(hf:T P i f){a}(h0:0<=a)(h1:a+1<P.o k):
    app P i (app P k e (un k)) (D0 (tl k f) k a)=app P i e (D0 (tl k f) k (a+1)):=by
  have tu:=O9 hv (A1 k) hk;have t1:T P (k+1) (tl (k+1) f):=hf.tail hv (k+1);have t2:T P k (D0 (tl (k+1) f) k a):=T.put hk t1 h0 A0;rw[Kr,Kr,<-Kl hv nZ he tu,A5Y hv hg he (tu.mono hv nZ) (t2.mono hv nZ),aJ hv nZ tu t2,A0G hv hk ZN t1 h0 h1]
end
set_option maxHeartbeats 4000000 in
def TZ(U pw cj)(h:BW U pw cj)(i)(hc:HN (pc U pw cj) i)(hTG:∀k,i<=k->k<U.length->Vo U pw cj k):A5Z U pw cj i:=by
 intro nx H id e f hH he hf
 have hv:=h.val
 have Q4:=h.1.1
 have hg:=CS hv hc
 have Xq:=T.small h hf
 have hnn:(pc U pw cj).n=U.length:=rfl
 refine CF AY func171 rfl AP ntmps171 results171 (λGM cX=>?_)
 refine Jq ?_;refine AA<|AM (α:=Nat×V) (λx=>sl 24 [(0,AU U pw cj),(1,.h id 0 U.length),(8,vi U.length f),(9,.i .i64 U.length),(10,.i .i64 x.1)]) (λx=>CJ H id (some (JP U.length x.2))) (λx m=>x.1<=U.length/\T (pc U pw cj) 0 x.2/\app (pc U pw cj) i x.2 (tl x.1 f)=app (pc U pw cj) i e f) (λx=>U.length-x.1) ((0,e)) ?_ ?_ (by exact Kc (λi c _ h=>h) (λd hd=>by cases hd;exact hH)) ?_
 ·exact⟨AE _,he,by rw[A60]⟩
 ·simp(disch:=omega) [EJ,EN,sl,AU,ints,rows,B6,vi]
 rintro⟨k,e1⟩ m ⟨hk,he1,Vf⟩
 dsimp only at hk he1 Vf
 simp only[AU,vi];refine BH ?_;refine Jq ?_;refine A6 λN1 CW=>AK ?_ ?_<;>intro h1
 ·have Ol:=Xq k;apply AF;apply CW;refine A6 λN2 DN=>AA<|Jq ?_;refine Jq ?_;refine AA<|AM (α:=Nat×V) (λx=>sl 24 [(0,AU U pw cj),(1,.h id 0 U.length),(6,.i .i64 k),(8,vi U.length f),(9,.i .i64 U.length),(10,.i .i64 k),(15,.i .i64 (f k)),(16,.i .i64 x.1)]) (λx=>CJ H id (some (JP U.length x.2))) (λx m=>x.1<=(f k).toNat/\T (pc U pw cj) 0 x.2/\app (pc U pw cj) i x.2 (D0 (tl k f) k (f k-x.1))=app (pc U pw cj) i e f) (λx=>(f k).toNat-x.1) ((0,e1)) ?_ ?_ (λ_ _ h=>h) ?_
  ·exact⟨AE _,he1,by dsimp only;rw[show f k-((0:Nat):Int)=f k by omega,A61];exact Vf⟩
  ·simp(disch:=omega) [EJ,EN,sl,AU,ints,rows,B6,vi]
  rintro⟨q,e2⟩ m2 ⟨hq,dZ,Jx⟩;dsimp only at hq dZ Jx;simp only[AU,vi];refine BH ?_;refine Jq ?_;refine A6 λN3 DO=>AK ?_ ?_<;>intro h2
  ·have nZ:i<=k:=by
    apply AN;intro hn;have:=hf.z k A0;omega
   have hrk:=hf.r k nZ A0;apply AF;apply DO;refine A6 λN4 FD=>AA<|Ut ?_;refine(hTG k nZ A0 _ _ id e2 (AD _ _ _) dZ).mono ?_
   rintro _ H1 r1 rfl;(try simp-dsimp-implicitDefEqProofs(disch:=omega)only[go_sem,B6,ints,AU,rows,vi])
   apply FD;refine Ut ?_;refine BB (q+1,app (pc U pw cj) k e2 (un k)) ?_ ?_ ?_
   ·simp(disch:=omega) [EJ,EN,sl,AU,DV,ints,rows,B6,vi]<;>omega
   ·refine⟨AI,AJA hv dZ (O9 hv (A1 k) A0),?_⟩;dsimp only;rw[A0W hv nZ A0 hg (CS hv (hc.mono A0)) dZ hf A0 A0,show f k-((q+1:Nat):Int)+1=f k-q by omega];exact Jx
   exact AI
  apply AO;apply DN;refine Ut ?_;refine BB (k+1,e2) ?_ ?_ ?_
  ·simp(disch:=omega) [EJ,EN,sl,AU,DV,ints,rows,B6,vi]<;>omega
  ·refine⟨AI,dZ,?_⟩;dsimp only;rw[<-A62,<-Jx,show f k-(q:Int)=0 by omega]
  exact AI
 apply AO;simp only[wW,IY,if_true];refine BH ?_
 obtain rfl:k=U.length:=A0
 rw[ADE (n:=U.length) (λt ht=>hf.t t ht),AD7 hv hg he1]at Vf
 exact⟨_,Le.refl _,by rw[Vf]⟩
def aP(U pw cj)(h:BW U pw cj):∀i,HN (pc U pw cj) i->A5Z U pw cj i/\∀j,i<=j->j<U.length->Vo U pw cj j:=by
 have hv:=h.val;have key:∀d i,U.length-i=d->HN (pc U pw cj) i->A5Z U pw cj i/\∀j,i<=j->j<U.length->Vo U pw cj j:=by
  intro d;induction d with
  |zero=>
   intro i hd hc;have hG:∀j,i<=j->j<U.length->Vo U pw cj j:=λj h1 h2=>A0
   exact⟨TZ U pw cj h i hc hG,hG⟩
  |succ d ih=>
   intro i hd hc;have h1:=ih (i+1) A0 (hc.mono A0);have hG:∀j,i<=j->j<U.length->Vo U pw cj j:=λj h2 h3=>by
    by_cases e:j=i
    ·subst e;exact YM U pw cj h j h3 (CS hv (hc.mono A0)) h1.1
    exact h1.2 j A0 h3
   exact⟨TZ U pw cj h i hc hG,hG⟩
 exact λi hc=>key _ i rfl hc
end
section
def tP{n}(f)(hn:n<=1099511627776)(nx H):AC prog 197 nx H [vi n f] (λDI H' r=>CpI nx DI H H' r n f):=by
 have:=OH (vec n f) (by rw[HB];exact hn) nx H;rw[KF,HB]at this;refine this.mono ?_;rintro DI H' r (⟨id,h1,h2,h3,h4⟩|h)
 ·exact .inl ⟨id,h1,h2,h3,by rw[h4,L5 (λk hk=>VY hk)]⟩
 exact .inr h
def Own.vi{a b:Nat}{H:HP}{id n:Nat}{f:V}(h:H id=some (Go.Proofs.YtgknbnkmilddhaaGreat.JP n f))(h1:a<=id)(h2:id<b):∃ids,Own a b H (.h id 0 n) (Go.Proofs.YtgknbnkmilddhaaGreat.vi n f) ids:=by
 rw[<-KF];exact⟨_,Own.ints (by rw[h,VZ]) HB.symm h1 h2⟩
def Own.vi0{a b H n f}(h:n=0):∃ids,Own a b H (.v 0 []) (Go.Proofs.YtgknbnkmilddhaaGreat.vi n f) ids:=by
 subst h;exact⟨[],.leaf _ .v0 (.v _ _ B5),B5,B5⟩
def gJ(U pw cj)(hn:U.length=0)(f nx H):AC prog 171 nx H [AU U pw cj,.v 0 [],vi U.length f] (λ_ H' _=>H=H'):=by
 refine CF AY func171 rfl AP ntmps171 results171 (λGM cX=>?_)
 refine Jq ?_;refine AA<|AM (α:=Nat) (λx=>sl 24 [(0,AU U pw cj),(1,.v 0 []),(8,vi U.length f),(9,.i .i64 U.length),(10,.i .i64 0)]) (λ_=>H) (λx m=>True) (λx=>0) (0) ?_ ?_ (λ_ _ h=>h) ?_
 ·trivial
 ·simp(disch:=omega) [EJ,EN,sl,AU,ints,rows,B6,vi]
 rintro k m hk
 simp only[AU,vi];refine BH ?_;refine Jq ?_;refine A6 λN1 CW=>AK ?_ ?_<;>intro h1
 ·exfalso;omega
 apply AO;simp only[wW,IY,if_true];refine BH ?_
 exact⟨_,Le.refl _,rfl⟩
def PE(U pw cj)(h:BW U pw cj)(i)(hc:HN (pc U pw cj) i)(a b)(ha:T (pc U pw cj) i a)(hb:T (pc U pw cj) i b):cC prog 146 [AU U pw cj,vi U.length a,vi U.length b] (vi U.length (M (pc U pw cj) i a b)):=by
 have hv:=h.val
 have Q4:=h.1.1
 have hTV:=(aP U pw cj h i hc).1
 intro nx
 refine ED AY func146 rfl AP ntmps146 results146 (λcX=>?_)
 refine CT ?_;refine sQ λN hN=>?_;refine BH ?_;refine(tP a A0 _ _).mono ?_
 rintro m1 H1 r1 (⟨yL,rfl,g1,g2,rfl⟩|⟨h0,rfl,rfl⟩)
 ·refine BH ?_
  apply hN;refine sQ λN hN=>?_;refine BH ?_;refine(hTV _ _ yL a b (AD _ _ _) (ha.mono hv A0) hb).CD ?_
  rintro m2 H2 r2 Q8 rfl;refine BH ?_
  apply hN;refine CT ?_;refine BQ ?_;rw[sU hv ha hb]
  exact Own.vi (by simp only[AD]) A0 A0
 refine BH ?_
 apply hN;refine sQ λN hN=>?_;refine BH ?_;refine(gJ U pw cj h0 b _ _).CD ?_
 rintro m2 H2 r2 Q8 rfl
 refine BH ?_
 apply hN;refine CT ?_;refine BQ ?_;exact Own.vi0 h0
def xL(U:C2)(pw:D4)(cj:E6)(h:BW U pw cj)(i:Nat)(hc:HN (pc U pw cj) i)(a:V)(ha:T (pc U pw cj) i a)(k:Nat)(hk:k<=1099511627776):cC prog 132 [AU U pw cj,vi U.length a,.i .i64 k] (vi U.length (rep (M (pc U pw cj) i) a k)):=by
 have hv:=h.val
 have Q4:=h.1.1
 have hg:=CS hv hc
 have hTV:=(aP U pw cj h i hc).1
 intro nx
 refine ED AY func132 rfl AP ntmps132 results132 (λcX=>?_)
 refine Jq ?_;refine Jq ?_;refine A6 λN1 CW=>Jq ?_;refine AA<|AM (α:=Nat) (λx=>sl 20 [(0,AU U pw cj),(1,vi U.length a),(7,.h (nx+1+2) 0 U.length),(11,.i .i64 k),(12,.i .i64 x)]) (λx=>CJ DD (nx+1+2) (some (JP U.length (rep (M (pc U pw cj) i) a x)))) (λx m=>x<=k/\nx+4<=m) (λx=>k-x) (0) ?_ ?_ (by rw[IL];exact Le.refl _) ?_
 ·exact⟨AE _,AI⟩
 ·simp(disch:=omega) [EJ,EN,sl,AU,ints,rows,B6,vi]
 rintro q m ⟨hq,hm⟩
 simp only[AU,vi];refine BH ?_;refine Jq ?_;refine A6 λN2 DN=>AK ?_ ?_<;>intro h1
 ·apply AF;apply DN;refine A6 λN3 DO=>AA<|Ut ?_;refine(hTV _ _ (nx+1+2) _ a (AD _ _ _) ((hg.rep ha q).mono hv A0) ha).CD ?_
  rintro m2 H2 r2 Q8 rfl;rw[sU hv (hg.rep ha q) ha];(try simp-dsimp-implicitDefEqProofs(disch:=omega)only[go_sem,B6,ints,AU,rows,vi])
  apply DO;refine Ut ?_;refine BB (q+1) ?_ ?_ ?_
  ·simp(disch:=omega) [EJ,EN,sl,AU,DV,ints,rows,B6,vi]<;>omega
  ·exact⟨AI,AI⟩
  exact AI
 apply AO;apply CW;refine Jq ?_;refine BQ ?_;obtain rfl:q=k:=A0
 exact Own.vi (AD _ _ _) A0 A0
def QJ(U pw cj)(h:BW U pw cj)(i)(hi:i<U.length)(hc:HN (pc U pw cj) (i+1))(a)(ha:T (pc U pw cj) (i+1) a):cC prog 220 [AU U pw cj,.i .i64 i,vi U.length a] (vi U.length (IN (pc U pw cj) (M (pc U pw cj) (i+1)) i a)):=by
 have hv:=h.val
 have Q4:=h.1.1
 have fO:=h.1.2.1
 have KW:=h.1.2.2
 have oY:=(h.2.2.2 i hi).2.1
 have hg:=CS hv hc
 have Xq:=T.small h ha
 have hTV:=(aP U pw cj h (i+1) hc).1
 intro nx
 refine ED AY func220 rfl AP ntmps220 results220 (λcX=>?_)
 refine GW ?_;refine GW ?_;refine A6 λN1 CW=>GW ?_;refine AA<|AM (α:=Nat×V) (λx=>sl 42 [(0,AU U pw cj),(1,.i .i64 i),(2,vi U.length a),(7,.h (nx+1+2) 0 U.length),(19,rows (cj.getD i [])),(20,.i .i64 (cj.getD i []).length),(21,.i .i64 x.1)]) (λx=>CJ DD (nx+1+2) (some (JP U.length x.2))) (λx m=>(x.1<=(cj.getD i []).length/\nx+4<=m)/\T (pc U pw cj) (i+1) x.2/\RB (M (pc U pw cj) (i+1)) ((pc U pw cj).cj i) a (U.length-(i+1)-x.1) (i+1+x.1) x.2=IN (pc U pw cj) (M (pc U pw cj) (i+1)) i a) (λx=>(cj.getD i []).length-x.1) ((0,z0)) ?_ ?_ (by rw[IL];exact Le.refl _) ?_
 ·exact⟨⟨AE _,AI⟩,T.zero hv _,rfl⟩
 ·simp(disch:=omega) [EJ,EN,sl,AU,ints,rows,B6,vi]
 rintro⟨q,u⟩ m ⟨⟨hq,hm⟩,hu,hf⟩
 dsimp only at hq hm hu hf
 simp only[AU,vi];refine BH ?_;refine GW ?_;refine A6 λN2 DN=>AK ?_ ?_<;>intro h1
 ·have hiq:i+1+q<U.length:=A0;have hsq:=Xq (i+1+q);have e1:AV.v ((cj.getD i []).getD q []).length (List.map (AV.i IntKind.i64) ((cj.getD i []).getD q []))=vi U.length ((pc U pw cj).cj i (i+1+q)):=by
   have:=JX (h.Xp (show i<i+1+q by omega) hiq);rw[show i+1+q-i-1=q by omega]at this;refine this.trans ?_;show vi _ (fl _)=vi _ (fl ((cj.getD i []).getD (i+1+q-i-1) []))
   rw[show i+1+q-i-1=q by omega]
  have tq:=hv.cj i (i+1+q) A0 hiq;apply AF;apply DN;refine A6 λN3 DO=>AA<|GW ?_;refine GW ?_;apply AA;rw[e1]
  refine AM (α:=Nat×V) (λx=>sl 42 [(0,AU U pw cj),(1,.i .i64 i),(2,vi U.length a),(7,.h (nx+1+2) 0 U.length),(9,vi U.length ((pc U pw cj).cj i (i+1+q))),(19,rows (cj.getD i [])),(20,.i .i64 (cj.getD i []).length),(21,.i .i64 q),(32,.i .i64 (a (i+1+q))),(33,.i .i64 x.1)]) (λx=>CJ DD (nx+1+2) (some (JP U.length x.2))) (λx m=>(x.1<=(a (i+1+q)).toNat/\nx+4<=m)/\T (pc U pw cj) (i+1) x.2/\x.2=IS (λw=>M (pc U pw cj) (i+1) w ((pc U pw cj).cj i (i+1+q))) x.1 u) (λx=>(a (i+1+q)).toNat-x.1) ((0,u)) ?_ ?_ (λ_ _ h=>h) ?_
  ·exact⟨⟨AE _,AI⟩,hu,rfl⟩
  ·simp(disch:=omega) [EJ,EN,sl,AU,ints,rows,B6,vi]
  rintro⟨y,w⟩ m2 ⟨⟨hy,Q8⟩,hw,dZ⟩;dsimp only at hy Q8 hw dZ;simp only[AU,vi];refine BH ?_;refine GW ?_;refine A6 λN4 FD=>AK ?_ ?_<;>intro h2
  ·apply AF;apply FD;refine A6 λN5 ID=>AA<|TX ?_;refine(hTV _ _ (nx+1+2) w ((pc U pw cj).cj i (i+1+q)) (AD _ _ _) (hw.mono hv A0) tq).CD ?_
   rintro m3 H1 r1 U5 rfl;rw[sU hv hw tq];refine UU ?_
   apply ID;refine TX ?_;refine BB (y+1,M (pc U pw cj) (i+1) w ((pc U pw cj).cj i (i+1+q))) ?_ ?_ ?_
   ·simp(disch:=omega) [EJ,EN,sl,AU,DV,ints,rows,B6,vi]<;>omega
   ·exact⟨⟨AI,AI⟩,hg.cl hw tq,by rw[dZ];rfl⟩
   exact AI
  apply AO;apply DO;refine TX ?_;refine BB (q+1,w) ?_ ?_ ?_
  ·simp(disch:=omega) [EJ,EN,sl,AU,DV,ints,rows,B6,vi]<;>omega
  ·refine⟨⟨AI,AI⟩,hw,?_⟩;show RB (M (pc U pw cj) (i+1)) ((pc U pw cj).cj i) a (U.length-(i+1)-(q+1)) (i+1+(q+1)) w=_
   rw[<-hf,dZ,show U.length-(i+1)-q=U.length-(i+1)-(q+1)+1 by omega,RB,show y=(a (i+1+q)).toNat by omega];rfl
  exact AI
 apply AO;apply CW;refine GW ?_;refine BQ ?_;rw[show U.length-(i+1)-q=0 by omega]at hf
 rw[<-hf]
 exact Own.vi (AD _ _ _) A0 A0
end
section
def FG(n j:Nat)(hn:n<=1048576)(hj:j<n):DZ prog 130 [.i .i64 n,.i .i64 j] (vi n (un j)):=by
 have:=(fZ n j hn hj).pure;unfold Et at this;rw[KF]at this;rwa [ADA (g:=un j) (λk hk=>by simp only[un,D0,z0])]at this
def P0{U pw cj i f g}(hn:U.length<=1048576)(hf:T (pc U pw cj) i f)(hg:T (pc U pw cj) i g):DZ prog 103 [vi U.length f,vi U.length g] (.b (tf (f=g))):=by
 have:=OI (vec U.length f) (vec U.length g) (by rw[HB];omega) (by rw[HB];omega);rw[KF,KF]at this;rwa [oB (hf.Kp hg)]at this
def NL{U pw cj}(h:BW U pw cj)(i)(hc:HN (pc U pw cj) i)(a)(ha:T (pc U pw cj) i a)(k)(h0:0<=k)(hk:k<=1099511627776):DZ prog 132 [AU U pw cj,vi U.length a,.i .i64 k] (vi U.length (rep (M (pc U pw cj) i) a k.toNat)):=by
 have:=(xL U pw cj h i hc a ha k.toNat A0).pure;rwa [BG h0]at this
def aQ(U pw cj)(h:BW U pw cj)(i)(hc:HN (pc U pw cj) i)(a)(ha:T (pc U pw cj) i a):cC prog 170 [AU U pw cj,vi U.length a] (vi U.length (inv (pc U pw cj) i a)):=by
 have hv:=h.val
 have Q4:=h.1.1
 have hg:=CS hv hc
 have hTG:=(aP U pw cj h i hc).2
 have hnn:(pc U pw cj).n=U.length:=rfl
 intro nx
 refine ED AY func170 rfl AP ntmps170 results170 (λcX=>?_)
 refine Jq ?_;refine sQ λN hN=>?_;refine UU ?_;refine(tP a A0 _ _).CD ?_
 rintro m1 H1 r1 SF (⟨yL,rfl,g1,g2,rfl⟩|⟨h0,rfl,rfl⟩)
 ·refine BH ?_
  apply hN;refine Jq ?_;refine A6 λN1 CW=>Jq ?_;refine AA<|AM (α:=Nat×V×V) (λx=>sl 33 [(0,AU U pw cj),(5,.h yL 0 U.length),(6,.h (m1+2) 0 U.length),(14,.i .i64 U.length),(15,.i .i64 x.1)]) (λx=>CJ (CJ DD yL (some (JP U.length x.2.1))) (m1+2) (some (JP U.length x.2.2))) (λx m=>(x.1<=U.length/\m1+4<=m)/\T (pc U pw cj) i x.2.1/\T (pc U pw cj) i x.2.2/\M (pc U pw cj) i a x.2.2=x.2.1/\∀t,t<x.1->x.2.1 t=0) (λx=>U.length-x.1) ((0,a,z0)) ?_ ?_ (by rw[IL];exact Le.refl _) ?_
  ·exact⟨⟨AE _,AI⟩,ha,hg.e0,hg.r1 ha,by intro t ht;omega⟩
  ·simp(disch:=omega) [EJ,EN,sl,AU,ints,rows,B6,vi]
  rintro⟨k,r,o⟩ m ⟨⟨hk,hm⟩,hr,ho,hao,hz⟩;dsimp only at hk hm hr ho hao hz;simp only[AU,vi];refine BH ?_;refine Jq ?_;refine A6 λN2 DN=>AK ?_ ?_<;>intro h1
  ·apply AF;apply DN;refine A6 λN3 DO=>AA<|Jq ?_;refine AA<|AM (α:=V×V) (λx=>sl 33 [(0,AU U pw cj),(5,.h yL 0 U.length),(6,.h (m1+2) 0 U.length),(7,.i .i64 k),(14,.i .i64 U.length),(15,.i .i64 k)]) (λx=>CJ (CJ DD yL (some (JP U.length x.1))) (m1+2) (some (JP U.length x.2))) (λx m=>(m1+4<=m)/\T (pc U pw cj) i x.1/\T (pc U pw cj) i x.2/\M (pc U pw cj) i a x.2=x.1/\∀t,t<k->x.1 t=0) (λx=>if x.1 k=0 then 0 else ((pc U pw cj).o k-x.1 k).toNat) ((r,o)) ?_ ?_ (λ_ _ h=>h) ?_
   ·exact⟨AI,hr,ho,hao,hz⟩
   ·simp(disch:=omega) [EJ,EN,sl,AU,ints,rows,B6,vi]
   rintro⟨r,o⟩ m ⟨hm,hr,ho,hao,hz⟩;dsimp only at hm hr ho hao hz;simp only[AU,vi];refine BH ?_;refine A6 λN4 FD=>Jq ?_;refine AK ?_ ?_<;>intro h2
   ·have nZ:i<=k:=by
     apply AN;intro hn;exact h2 (hr.z k A0)
    have hrk:=hr.r k nZ A0;have tu:=O9 hv (A1 k) (show k<(pc U pw cj).n by omega);have e1:app (pc U pw cj) k r (un k)=M (pc U pw cj) i r (un k):=by rw[<-Kl hv nZ (hr.mono hv A0) tu,sU hv hr (tu.mono hv nZ)]
    have e2:app (pc U pw cj) k o (un k)=M (pc U pw cj) i o (un k):=by rw[<-Kl hv nZ (ho.mono hv A0) tu,sU hv ho (tu.mono hv nZ)]
    have e3:app (pc U pw cj) k r (un k) k=(tg0 (pc U pw cj) k r).1:=by rw[A0I hv A0 (CS hv (hc.mono A0)) (hr.mono hv A0),tN]
    apply AF;apply FD;refine AA<|sQ λN hN=>?_;refine UU ?_;refine(hTG k nZ A0 _ _ yL r I5 (hr.mono hv A0)).CD ?_
    rintro m2 H2 r2 Q8 rfl;refine UU ?_
    apply hN;refine Ut ?_;refine(hTG k nZ A0 _ _ (m1+2) o I5 (ho.mono hv A0)).CD ?_;rintro m3 H3 r3 U5 rfl;refine UU ?_
    refine⟨(app (pc U pw cj) k r (un k),app (pc U pw cj) k o (un k)),?_,by intro d cs hd;simp only[CJ,DD]at hd ⊢;grind,?_,?_⟩
    ·simp(disch:=omega) [EJ,EN,sl,AU,DV,ints,rows,B6,vi]<;>omega
    ·first|refine⟨AI,?_,?_,?_,?_⟩|refine⟨?_,?_,?_,?_⟩
     ·rw[e1];exact hg.cl hr (tu.mono hv nZ)
     ·rw[e2];exact hg.cl ho (tu.mono hv nZ)
     ·rw[e1,e2,<-hao,hg.ac ha ho (tu.mono hv nZ)]
     intro t ht;show(if t<k then r t else _)=0;rw[if_pos ht];exact hz t ht
    (simp only[e3,if_neg h2];unfold tg0;split<;>split<;>simp_all<;>omega)
   apply AO;apply DO;refine Ut ?_;refine BB (k+1,r,o) ?_ ?_ ?_
   ·simp(disch:=omega) [EJ,EN,sl,AU,DV,ints,rows,B6,vi]<;>omega
   ·refine⟨⟨AI,AI⟩,hr,ho,hao,λt ht=>?_⟩;by_cases e:t=k
    ·subst e;exact h2
    exact hz t AI
   exact AI
  apply AO;apply CW;refine Jq ?_;refine BQ ?_;have hrz:r=z0:=by
   funext t
   by_cases e:t<U.length
   ·exact hz t A0
   exact hr.t t A0
  rw[hrz]at hao;rw[<-inv_eq hg ha ho hao];exact Own.vi (AD _ _ _) A0 A0
 refine BH ?_
 apply hN;refine Jq ?_;refine A6 λN5 ID=>Jq ?_;refine AA<|AM (α:=Nat) (λx=>sl 33 [(0,AU U pw cj),(5,.v 0 []),(6,.h (m1+2) 0 U.length),(14,.i .i64 0),(15,.i .i64 0)]) (λ_=>CJ DD (m1+2) (some (JP U.length z0))) (λx m=>m1+4<=m) (λx=>0) (0) ?_ ?_ (by rw[IL];exact Le.refl _) ?_
 ·exact AI
 ·simp(disch:=omega) [EJ,EN,sl,AU,ints,rows,B6,vi]
 rintro k m hk
 simp only[AU,vi];refine BH ?_;refine Jq ?_;refine A6 λN6 OR=>AK ?_ ?_<;>intro h3
 ·exfalso;omega
 apply AO;apply ID;refine Jq ?_;refine BQ ?_;exact Own.vi (by rw[AD,L5 (f:=z0) (g:=inv (pc U pw cj) i a) (λt ht=>A0)]) A0 A0
def FU(U pw cj)(h:BW U pw cj)(i)(hc:HN (pc U pw cj) i)(a b)(ha:T (pc U pw cj) i a)(hb:T (pc U pw cj) i b):cC prog 133 [AU U pw cj,vi U.length a,vi U.length b] (vi U.length (M (pc U pw cj) i (inv (pc U pw cj) i b) (M (pc U pw cj) i a b))):=by
 have hv:=h.val
 have hg:=CS hv hc
 intro nx
 refine ED AY func133 rfl AP ntmps133 results133 (λcX=>?_)
 refine CT ?_;refine sQ λN hN=>?_;refine BH ?_;refine sF ((aQ U pw cj h i hc b hb).pure) ?_
 refine sF ((PE U pw cj h i hc a b ha hb).pure) ?_
 refine AC.own (PE U pw cj h i hc _ _ (KJ hg hb).1 (hg.cl ha hb)) wU.rfl ?_
 intro m1 H1 r1 JR SF SM EO
 refine BH ?_
 apply hN;refine BQ ?_;exact⟨JR,EO.BV (λ_ _ _=>rfl) A0 A0⟩
def gI{P:Prop}(h:P:=by simp(disch:=omega)[EJ,EN,sl,ints,rows,DV,B6,vi]<;>omega):P:=h
def Kq{P:Prop}{R0:Prop}(r0:R0)(h:R0->P:=by intro h0;simp(disch:=omega)[EJ,EN,sl,ints,rows,DV,B6,vi,h0]<;>omega):P:=h r0
def E7{P:Prop}(h:P:=by simp(disch:=omega)[EJ,EN,sl,ints,rows,DV,B6,CI,AU,vi]<;>omega):P:=h
def A0V{P:Prop}{R0:Prop}(r0:R0)(h:R0->P:=by intro h0;simp(disch:=omega)[EJ,EN,sl,ints,rows,DV,B6,CI,AU,vi,h0]<;>omega):P:=h r0
end
end Go.Proofs.YtgknbnkmilddhaaGreat