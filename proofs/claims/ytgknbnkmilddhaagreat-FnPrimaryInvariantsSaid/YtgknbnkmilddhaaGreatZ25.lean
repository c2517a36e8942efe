import Derived.Test.YtgknbnkmilddhaaGreatZ04
import Derived.Test.YtgknbnkmilddhaaGreatZ05
import Derived.Test.YtgknbnkmilddhaaGreatZ06
import Derived.Test.YtgknbnkmilddhaaGreatZ08
import Derived.Test.YtgknbnkmilddhaaGreatZ13
import Derived.Test.YtgknbnkmilddhaaGreatZ14
import Derived.Test.YtgknbnkmilddhaaGreatZ15
import Derived.Test.YtgknbnkmilddhaaGreatZ16
import Derived.Test.YtgknbnkmilddhaaGreatZ18
import Derived.Test.YtgknbnkmilddhaaGreatZ19
import Derived.Test.YtgknbnkmilddhaaGreatZ23
import Derived.Test.YtgknbnkmilddhaaGreatZ24
set_option linter.all false

open Go.Proofs.Tryz
namespace Go.Proofs.YtgknbnkmilddhaaGreat
section
def Fz.gv{H H2 U X Y}:Fz H H2 (.g [ints U,rows X,B6 Y]) (CI U X Y):= .refl _
def wO{bs DP H}(hg:E9 bs DP H)(lim nx)(WE:DP<nx):AC prog 50 nx H [.q DP 0,.i .i64 lim] (λDI H' r=>∃r2,Fz H' (TN nx H') r r2/\Hq r2/\E9 bs DP H'/\∀i,i<nx->i≠DP->H' i=H i):=by
 refine CF AY func50 rfl AP ntmps50 results50 (λGM cX=>?_)
 refine GC ?_;refine sQ λN hN=>?_;refine FF ?_;refine(qF (hg.BV (AB _ _ A0)) lim _ A0).CD ?_
 rintro m1 H1 r1 SF ⟨⟨U,X,Y,rfl,hp⟩,jC,eG⟩
 have hd:=hp.drw
 have Mn:H1 nx=some [.nl,.nl,.nl]:=(eG nx A0 A0).trans (AD _ _ _)
 have UC:∀i,i<nx->i≠DP->H1 i=H i:=λi hi CP=>(eG i A0 CP).trans (AB _ _ A0)
 refine FF ?_
 apply hN;refine A6 λN1 CW=>BN 5 (nx+1+3) [ints U,rows X,B6 Y] rfl (AD _ _ _) ?_
 refine BX (λG1 K6=>?_);dsimp only at K6
 have hk:∀i,i<nx+1+3->G1 i=H1 i:=λi hi=>by rw[<-K6];simp(disch:=omega)only[AB]
 have Pw:E9 bs DP G1:=jC.BV (hk _ A0)
 replace Mn:=(hk nx A0).trans Mn
 have WV:∀i,i<nx->i≠DP->G1 i=H i:=λi hi CP=>(hk i A0).trans (UC i hi CP)
 clear K6
 refine BH ?_;refine sQ λN hN=>?_;refine FF ?_;refine(DC Pw 24 A0 _).CD ?_
 rintro m2 H2 r2 Q8 ⟨⟨x2,rfl,Iu⟩,ZN,NC⟩
 have vE:=(NC nx A0 A0).trans Mn
 have YD:∀i,i<nx->i≠DP->H2 i=H i:=λi hi CP=>(NC i A0 CP).trans (WV i hi CP)
 refine FF ?_
 apply hN;refine AA<|GC ?_;refine AK ?_ ?_<;>intro h1
 ·refine sQ λN hN=>?_;refine FF ?_;refine(wN ZN U X Y hp _ A0).CD ?_
  rintro m3 H3 r3 U5 ⟨⟨os3,X3,Y3,rfl,hd3⟩,fA,pZ⟩;have lC:=(pZ nx A0 A0).trans vE;have Ty:∀i,i<nx->i≠DP->H3 i=H i:=λi hi CP=>(pZ i A0 CP).trans (YD i hi CP)
  refine MY lC ?_
  apply hN;refine BQ ?_;first
  |exact⟨_,λ_ _ h=>h,_,.gv,⟨os3,X3,Y3,rfl,hd3⟩,fA.BV (AB _ _ A0),λi hi CP=>(AB _ _ A0).trans (Ty i hi CP)⟩
  |exact⟨_,λ_ _ h=>h,_,.gv,⟨U,X,Y,rfl,hd⟩,ZN.BV (AB _ _ A0),λi hi CP=>(AB _ _ A0).trans (YD i hi CP)⟩
 refine A6 λN2 DN=>GC ?_;refine AK ?_ ?_<;>intro h2
 ·apply AF;apply DN;refine AK ?_ ?_<;>intro h3
  ·refine sQ λN hN=>?_;refine FF ?_;refine(bZ ZN U X Y hp _ A0).CD ?_
   rintro m3 H3 r3 U5 ⟨⟨os3,X3,Y3,rfl,hd3⟩,fA,pZ⟩;have lC:=(pZ nx A0 A0).trans vE;have Ty:∀i,i<nx->i≠DP->H3 i=H i:=λi hi CP=>(pZ i A0 CP).trans (YD i hi CP)
   refine MY lC ?_
   apply hN;refine BQ ?_;first
   |exact⟨_,λ_ _ h=>h,_,.gv,⟨os3,X3,Y3,rfl,hd3⟩,fA.BV (AB _ _ A0),λi hi CP=>(AB _ _ A0).trans (Ty i hi CP)⟩
   |exact⟨_,λ_ _ h=>h,_,.gv,⟨U,X,Y,rfl,hd⟩,ZN.BV (AB _ _ A0),λi hi CP=>(AB _ _ A0).trans (YD i hi CP)⟩
  exfalso;first|omega|exact h3 h2|simp_all
 refine OK ?_;apply DN;refine AK ?_ ?_<;>intro h4
 ·refine sQ λN hN=>?_;refine FF ?_;refine(bZ ZN U X Y hp _ A0).CD ?_
  rintro m3 H3 r3 U5 ⟨⟨os3,X3,Y3,rfl,hd3⟩,fA,pZ⟩;have lC:=(pZ nx A0 A0).trans vE;have Ty:∀i,i<nx->i≠DP->H3 i=H i:=λi hi CP=>(pZ i A0 CP).trans (YD i hi CP)
  refine MY lC ?_
  apply hN;refine BQ ?_;first
  |exact⟨_,λ_ _ h=>h,_,.gv,⟨os3,X3,Y3,rfl,hd3⟩,fA.BV (AB _ _ A0),λi hi CP=>(AB _ _ A0).trans (Ty i hi CP)⟩
  |exact⟨_,λ_ _ h=>h,_,.gv,⟨U,X,Y,rfl,hd⟩,ZN.BV (AB _ _ A0),λi hi CP=>(AB _ _ A0).trans (YD i hi CP)⟩
 apply AF;apply CW;refine sQ λN hN=>?_;simp-dsimp-implicitDefEqProofs(disch:=omega)only[go_sem,CI,vE];apply hN;refine BQ ?_;first
 |exact⟨_,λ_ _ h=>h,_,.gv,⟨os3,X3,Y3,rfl,hd3⟩,fA.BV (AB _ _ A0),λi hi CP=>(AB _ _ A0).trans (Ty i hi CP)⟩
 |exact⟨_,λ_ _ h=>h,_,.gv,⟨U,X,Y,rfl,hd⟩,ZN.BV (AB _ _ A0),λi hi CP=>(AB _ _ A0).trans (YD i hi CP)⟩
def wP{bs DP H}(hg:E9 bs DP H)(lim nx)(WE:DP<nx):AC prog 50 nx H [.q DP 0,.i .i64 lim] (sK bs DP nx H Hq):=wD WE (wO hg lim nx WE)
def TR(bs)(hb:nK bs)(Ix:bs.length<=4096)(nx):AC prog 14 nx DD [bU bs] (λ_ _ r=>Hq r):=by
 refine CF AY func14 rfl AP ntmps14 results14 (λGM cX=>?_)
 refine GC ?_;refine sQ λN hN=>?_;refine FF ?_;refine AC.CD (AC.frame (vU bs hb Ix _)) ?_
 rintro m1 H1 r1 SF ⟨H0,⟨DP,a1,s1,rfl,AMI,AR9,ho1,hs0⟩,IA,LH⟩
 have hs1:=(LH DP AMI).trans hs0
 have ha1:H1 nx=some [.nl,.nl,.nl]:=by rw[IA nx A0];simp(disch:=omega)only[AB,AD]
 refine FF ?_
 refine(wP ⟨a1,s1,ho1,hs1⟩ 128 _ A0).CD ?_
 rintro m2 H2 r2 Q8 ⟨⟨U,X,Y,rfl,hd⟩,ZN,NC⟩
 have ha2:=(NC nx A0 A0).trans ha1
 refine MY ha2 ?_
 apply hN;refine BQ ?_;exact⟨_,λ_ _ h=>h,U,X,Y,rfl,hd⟩
def Da:∀(k n:Nat) (l:List Nat),l.length=k->l.Pairwise (· < ·)->(∀x∈l,x<n)->k<=n/\l∈Q2 k n
 |0,n,l,hl,_,_=>by rw[AX.1 hl];simp[Q2]
 | k+1,n,l,hl,hp,hn=>by
   have CP:l≠ []:=λe=>by rw[e]at hl;simp at hl
   obtain⟨c,last,rfl⟩:∃c last,l=c++[last]:=⟨l.dropLast,l.getLast CP,(List.dropLast_concat_getLast CP).symm⟩;rw[AH]at hl;have hp':=List.pairwise_append.1 hp;have TT:c.length=k:=by simpa using hl
   obtain⟨h1,h2⟩:=Da k last c TT hp'.1 λx hx=>hp'.2.2 x hx last B5
   have h3:=hn last B5;refine⟨A0,?_⟩;rw[Q2,DM];exact⟨last,List.mem_range'_1.2 ⟨h1,A0⟩,AQ.2 ⟨c,h2,rfl⟩⟩
def Ng{W}:∀(k:Nat) (I J:List Nat),I.length=k->J.length=k->mP k (S7 W I J)=QT (jU W) I J
 |0,I,J,hI,hJ=>by rw[AX.1 hI];rfl
 |k+1,[],J,hI,hJ=>by simp at hI
 | k +1,i::I,J,hI,hJ=>by
   have hI':I.length=k:=by simpa using hI
   have e0:(S7 W (i::I) J).getD 0 []=J.map λc=>jU W i c:=rfl
   rw[mP,QT,e0,A4];apply W1;intro c hc;have e:J[c]? =some J[c]:=A9 hc;rw[e];dsimp only;have e1:(J.map λc=>jU W i c).getD c 0=jU W i J[c]:=by simp[A5,hc]
   have e2:((S7 W (i::I) J).drop 1).map (λr=>r.take c++r.drop (c+1))=S7 W I (J.eraseIdx c):=by
    simp only[S7,BR,List.drop_one,List.tail_cons,GN];refine FN λr _=>?_
    simp only[Function.comp];rw[HZ,AZ,JS,RF]
   rw[e1,e2,Ng k I (J.eraseIdx c) hI' (by rw[M1,if_pos hc];omega)]
def Uc{W k I d}:∀(Y:List (List Nat)) (g:Nat),d∣Y.foldl (λg J=>Nat.gcd g (mP k (S7 W I J)).natAbs) g↔d∣g/\∀J∈Y,(d:Int)∣mP k (S7 W I J)
 |[],g=>B5
 | J::Y,g=>by
   rw[K1,Uc Y,Nat.dvd_gcd_iff,and_assoc];simp[Int.ofNat_dvd_left]
def Ud{W k Y d}:∀(X:List (List Nat)) (g:Nat),d∣X.foldl (λg I=>xQ W k Y I g Y.length) g↔d∣g/\∀I∈X,∀J∈Y,(d:Int)∣mP k (S7 W I J)
 |[],g=>B5
 | I::X,g=>by
   rw[K1,Ud X,xQ,B2,Uc,and_assoc];simp
def A47{y:(Nat->Int)->Int}(h:Fb y){c:Nat->Int}{g:Nat->Nat->Int}:∀m,y (λk=>QP m λi=>c i*g i k)=QP m λi=>c i*y (g i)
 |0=>by
  have:=h 0 0 (λ_=>0) (λ_=>0);simp only[Kh,KM,MO]at this;exact this
 |m+1=>by
  have:=h 1 (c m) (λk=>QP m λi=>c i*g i k) (g m);rw[ER,A47 h m]at this;rw[show(λk=>QP (m+1) λi=>c i*g i k)=RN 1 (c m) (λk=>QP m λi=>c i*g i k) (g m)from by funext k;simp only[RN,ER];rfl,this];rfl
def A8N{x n}(hx:XC n x):x=λk=>QP n λi=>x i*iL i k:=by
 funext k
 have e:=Kk (f:=λ_=>1) (c:=x) (k:=k) n;have e2:QP n (λi=>x i*iL i k)=QP n λi=>x i*RN 1 0 (iL i) (λ_=>0) k:=W1 λi _=>by simp only[RN];rw[show(1:Int)*iL i k+0*0=iL i k by omega]
 rw[e2,e];split
 ·omega
 exact hx k A0
section
variable{n:Nat}{W:D4}(hW:tbP n W)
include hW
theorem AG8{k}(hk:k<=4){g}(h:∀I∈Q2 k W.length,∀J∈Q2 k n,g∣mP k (S7 W I J)):PkI (sS λx=>∃i,i<W.length/\x=fl (W.getD i [])) g k:=by
 intro X hX hXS Y hY hYa;obtain⟨Z,rfl⟩:=A0A Y hYa;have e1:QT (λx (y:(Nat->Int)->Int)=>y x) X (Z.map Subtype.val)=QT (λx (y:{y//Fb y})=>y.1 x) X Z:=by
  have:=RM (f:=λ(x:Nat->Int) (y:(Nat->Int)->Int)=>y x) (r:=λx=>x) (q:=(Subtype.val:{y//Fb y}->_)) (X:=X) (Y:=Z);rwa [IH]at this
 rw[e1];have hZ:Z.length=k:=by simpa using hY
 have:=qS (f:=λx (y:{y//Fb y})=>y.1 x) (λs t x y b=>b.2 s t x y) (R:=λx=>∃i,i<W.length/\x=fl (W.getD i [])) (Y:=Z) A0 (g:=g) ?_ X [] (by simp;omega) B5 hXS
 ·simpa using this
 intro X' hX' hR;obtain⟨I,rfl,hI⟩:=Oz X' hR;have e2:=RM (f:=λx (y:{y//Fb y})=>y.1 x) (r:=λi=>fl (W.getD i [])) (q:=λy=>y) (X:=I) (Y:=Z);rw[IH]at e2;rw[e2];refine AD2 A0 (m:=W.length) (λI hIp hIn hIl=>?_) I hI (by simpa using hX');have hIk:I.length=k:=A0;have sup:∀i,i<W.length->XC n (fl (W.getD i [])):=λi hi t ht=>by
  have:=(hW.2.2 _ (QR (l:=W) (d:=[]) hi)).1;rw[fl,A5,B8 A0];rfl
 rw[A07 A0 A0];have e3:=RM (f:=λ(x:Nat->Int) (i:Nat)=>x i) (r:=λ(y:{y//Fb y}) i=>y.1 (fl (W.getD i []))) (q:=λi=>i) (X:=Z) (Y:=I);rw[IH]at e3;rw[<-e3];have e4:QT (λ(x:Nat->Int) (i:Nat)=>x i) (Z.map λ(y:{y//Fb y}) i=>y.1 (fl (W.getD i []))) I=QT (λ(x:Nat->Int) (i:Nat)=>x i) (Z.map λ(y:{y//Fb y}) i=>QP n λc=>y.1 (iL c)*fl (W.getD i []) c) I:=by
  have f1:=RM (f:=λ(x:Nat->Int) (i:Nat)=>x i) (r:=λ(y:{y//Fb y}) i=>y.1 (fl (W.getD i []))) (q:=λi=>i) (X:=Z) (Y:=I);have f2:=RM (f:=λ(x:Nat->Int) (i:Nat)=>x i) (r:=λ(y:{y//Fb y}) i=>QP n λc=>y.1 (iL c)*fl (W.getD i []) c) (q:=λi=>i) (X:=Z) (Y:=I);rw[IH]at f1 f2;rw[f1,f2];refine qR λy _ i hi=>?_
  dsimp only;have u:=A8N (sup i (hIn i hi));conv=>lhs;rw[u]
  rw[A47 y.2];exact W1 λc _=>F8 _ _
 rw[e4];have:=qS (f:=λ(x:Nat->Int) (i:Nat)=>x i) (λs t x y b=>rfl) (R:=λx=>∃c,c<n/\x=λi=>fl (W.getD i []) c) (Y:=I) A0 (g:=g) ?_ (Z.map λ(y:{y//Fb y}) i=>QP n λc=>y.1 (iL c)*fl (W.getD i []) c) [] (by simp;omega) B5 ?_
 ·simpa using this
 ·intro X' hX' hR;obtain⟨J,rfl,hJ⟩:=Oz X' hR;have e5:=RM (f:=λ(x:Nat->Int) (i:Nat)=>x i) (r:=λc i=>fl (W.getD i []) c) (q:=λi=>i) (X:=J) (Y:=I);rw[IH]at e5;rw[e5];refine AD2 A0 (m:=n) (λJ hJp hJn hJl=>?_) J hJ (by simpa using hX');rw[A07 A0 A0];have:=h I (Da k _ I hIk hIp hIn).2 J (Da k _ J A0 hJp hJn).2;rw[Ng k I J hIk A0]at this;exact this
 intro x hx;obtain⟨y,_,rfl⟩:=AQ.1 hx;exact sS.sum n λc hc=> .gen ⟨c,hc,rfl⟩
theorem AG9{k g}(h:PkI (sS λx=>∃i,i<W.length/\x=fl (W.getD i [])) g k):∀I∈Q2 k W.length,∀J∈Q2 k n,g∣mP k (S7 W I J):=by
 intro I hI J hJ;have hIl:=W9 _ _ I hI;have hJl:=W9 _ _ J hJ;have:=h (I.map λi=>fl (W.getD i [])) (by simpa using hIl) (λx hx=>?_) (J.map λc x=>x c) (by simpa using hJl) λy hy=>?_
 ·rw[RM]at this;rw[Ng k I J hIl hJl];exact this
 ·obtain⟨i,hi,rfl⟩:=AQ.1 hx;exact .gen ⟨i,mR _ _ I hI i hi,rfl⟩
 obtain⟨c,_,rfl⟩:=AQ.1 hy;intro s t x x';rfl
theorem A48{f}(hf:∀i,0<=f i):∀k,(Iz (λi=>(f i).toNat) k:Int)=Kj f 0 k
 |0=>rfl
 | k+1=>by
   rw[Iz,A98,EE,A48 hf k,BG (hf _),BS]
theorem AMJ{L}(hLt:LtI n L)(hL:∀x,L x↔sS (λx=>∃i,i<W.length/\x=fl (W.getD i [])) x){f}(hs:Xm n L f){k}(hk:k<=n):
  xB W k (Q2 k W.length) (Q2 k n) (Q2 k W.length).length=Iz (λi=>(f i).toNat) k:=by
 have h4:=hW.2.1;obtain rfl:L=sS λx=>∃i,i<W.length/\x=fl (W.getD i []):=funext λx=>propext (hL x)
 have key:∀d:Nat,d∣xB W k (Q2 k W.length) (Q2 k n) (Q2 k W.length).length↔d∣Iz (λi=>(f i).toNat) k:=λd=>by
  rw[xB,B2,Ud];have e1:(d∣Iz (λi=>(f i).toNat) k)↔(d:Int)∣Kj f 0 k:=by rw[<-A48 hW hs.nn,OE]
  rw[e1,<-A5U hLt hs hk A0];exact⟨λh=>AG8 hW A0 h.2,λh=>⟨Nat.dvd_zero d,AG9 hW h⟩⟩
 exact Nat.dvd_antisymm ((key _).1 (Nat.dvd_refl _)) ((key _).2 (Nat.dvd_refl _))
end
def ZI{cX n ops y s s1 K}(q:AW cX prog y s1 K)(e:HA ops s s1:=by intro N hN;(try simp-dsimp-implicitDefEqProofs(maxSteps:=800000) (disch:=omega)only[go_sem,MO,MQ,ER,KN,KM,AMK,AML,kW]);exact hN):GZ cX n ops y s K:=HF q e
def wQ{cX n ops y s s1 K}(q:AW cX prog y s1 K)(e:HA ops s s1:=by intro N hN;(try simp-dsimp-implicitDefEqProofs(maxSteps:=800000) (disch:=omega)only[go_sem,HM,kW]);exact hN):GZ cX n ops y s K:=HF q e
def kX{cX n ops y s s1 K}(q:AW cX prog y s1 K)(e:HA ops s s1:=by intro N hN;(try simp-dsimp-implicitDefEqProofs(disch:=omega)only[go_sem,C4,QM,CI,AU,D7,NM]);exact hN):GZ cX n ops y s K:=HF q e
def WI{cX n ops y s s1 K}(q:AW cX prog y s1 K)(e:HA ops s s1:=by intro N hN;(try simp-dsimp-implicitDefEqProofs(maxSteps:=800000) (disch:=omega)only[go_sem,B6,IK,CB,EY,ints,VG,CI,rows]);exact hN):GZ cX n ops y s K:=HF q e
end
section
def oQ(n:Nat)(rs:D4):D4:=rs.map (exS n)
def cS{n rs}:(oQ n rs).length=rs.length:=by simp[oQ]
def Ht{n rs k}(h:k<rs.length):(oQ n rs).take (k+1)=(oQ n rs).take k++[exS n (rs.getD k [])]:=by
 rw[UP (d:=[]) (by rw[cS];exact h)];congr 2
 simp[oQ,h]
def A49(b:Bool)(g:Int)(rs:D4):(Int×D4)×Int:=match b with
 |false=>((0,[]),1)
 |true=>if g=0 then ((0,[]),5)else ((g,oQ g.toNat rs),0)
def iF(m:(Int×D4)×Int):AV:= .t [fp m.1.1 m.1.2,.i .i64 m.2]
def Own.fp{a b H r ids g rs}(h:Own a b H r (rows rs) ids):∃ids,Own a b H (.g [.i .i64 g,r]) (Go.Proofs.YtgknbnkmilddhaaGreat.fp g rs) ids:=by
 obtain⟨h1,h2,h3⟩:=h;exact⟨[]++(ids++[]),.g _ _ _ (.cons _ _ _ _ [] _ (.leaf _ (.i _ _) (.i _ _)) (.cons _ _ _ _ _ _ h1 .nil)),by simpa using h2,λi hi=>h3 i (by simpa using hi)⟩
def S5.BV{a m o rs H H' W}(h:S5 a m o rs H W)(hk:∀i,a<=i->i<m->H' i=H i)(hd:∀i,m<=i->H' i=none):S5 a m o rs H' W:=by
 obtain⟨⟨ids,h1,h2,h3,h4⟩,h5,_⟩:=h;exact⟨⟨ids,h1.BV λi hi=>hk i (h3 i hi).1 (h3 i hi).2,h2,h3,h4⟩,h5,hd⟩
def S5.A4A{a m m0 m1 m2 L7 o rs H H1 H2 W r1 X JR}(h:S5 a m o rs H W)(ho:Own m0 m1 H1 r1 (ints X) JR)(hk:∀i,a<=i->i<m->o≠some i->H2 i=H i)(eG:∀i,m0<=i->i<m1->H2 i=H1 i)(hd:∀i,m2<=i->H2 i=none)(h0:m<=m0)(h1:m1<=L7)(h2:L7<m2)(Mn:m0<=m1)(ha:a<=m):
    S5 a m2 (some L7) (rs++[r1]) H2 (W++[X]):=by
  obtain⟨⟨ids,g1,g2,g3,g4⟩,g5,_⟩:=h;obtain⟨o1,o2,o3⟩:=ho;refine⟨⟨ids++(JR++[]),?_,?_,?_,?_⟩,(λe=>by cases e),hd⟩
  · rw[AZ];exact PO.append (g1.BV λi hi=>hk i (g3 i hi).1 (g3 i hi).2 (λe=>(g4 i e).1 hi)) (.cons _ _ _ _ _ _ (o1.BV λi hi=>eG i (o3 i hi).1 (o3 i hi).2) .nil)
  · rw[C5,BA];exact⟨g2,o2,λx hx y hy e=>by have:=g3 x hx;have:=o3 y hy;omega⟩
  · intro i hi;rw[C5]at hi;rcases AG.1 hi with hi|hi
    · have:=g3 i hi;omega
    have:=o3 i hi;omega
  rintro id e;cases e;refine⟨λhi=>?_,A0,h2⟩;rw[C5]at hi;rcases AG.1 hi with hi|hi
  · have:=g3 _ hi;omega
  have:=o3 _ hi;omega
def Own.A8O{a b H e}:∃ids,Own a b H (.t [.g [.i .i64 0,.nl],.i .i64 e]) (iF ((0,[]),e)) ids:=by
 obtain⟨ids,h⟩:=Own.fp (a:=a) (b:=b) (H:=H) (g:=0) (rs:=[]) (ids:=[]) (r:= .nl) ⟨.nl,B5,B5⟩;exact h.pair
def ZV(g rs)(hr:FC rs):cC prog 22 [fp g rs] (iF (A49 (tf (fpP g rs)) g rs)):=by
 have hrn:=hr.n
 intro nx
 refine ED AY func22 rfl AP ntmps22 results22 (λcX=>?_)
 refine XK ?_;refine A6 λN1 CW=>BN 1 nx _ rfl ((AB _ _ A0).trans (AD _ _ _)) ?_
 refine BH ?_;refine sQ λN hN=>?_;simp-dsimp-implicitDefEqProofs(disch:=omega)only[go_sem,fp,EY,rows];refine AC.pure (.of (jB g rs hr)) ?_;(try simp-dsimp-implicitDefEqProofs(disch:=omega)only[go_sem,fp,EY,rows]);apply hN;refine AK ?_ ?_<;>intro h1
 ·refine XK ?_;refine BQ ?_;rw[JQ h1]
  exact Own.A8O
 obtain⟨n,rfl⟩:∃n:Nat,g=n:=⟨g.toNat,by have:=h1.1;omega⟩
 have hn4:n<=4:=by have:=h1.1;omega
 apply AF;apply CW;refine A6 λN2 DN=>XK ?_;refine AK ?_ ?_<;>intro h2
 ·refine XK ?_;refine BQ ?_;rw[KU h1,A49,if_pos h2]
  exact Own.A8O
 apply AF;apply DN;refine XK ?_;refine A6 λN3 DO=>XK ?_;refine AA<|AM (α:=Nat×Option Nat×List AV×HP) (λx=>sl 42 [(1,.p 0 [.i .i64 n,rows rs]),(2,.q (nx+1) 0),(3,.i .i64 0),(4,.q (nx+3+3+3+3) 0),(21,rows rs),(22,.i .i64 rs.length),(23,.i .i64 x.1)]) (λx=>oH x.2.2.2 x.2.1 x.2.2.1) (λx m=>(x.1<=rs.length/\nx+3+3+3+5<=m)/\S5 (nx+3+3+3+5) m x.2.1 x.2.2.1 x.2.2.2 ((oQ n rs).take x.1)/\x.2.2.2 (nx+1)=some [.i .i64 0,.nl]/\x.2.2.2 (nx+3+3+3+3)=some [.i .i64 n,oA x.2.1 x.2.2.1.length]) (λx=>rs.length-x.1) ((0,none,[],CJ (CJ DD (nx+1) (some [.i .i64 0,.nl])) (nx+3+3+3+3) (some [.i .i64 n,.nl]))) ?_ ?_ (by intro d cs hd;simp only[CJ,DD,oH,oA]at hd ⊢;grind) ?_
 ·exact⟨⟨A0,AI⟩,by dsimp only;rw[AS];exact S5.start.BV (λi q1 q2=>by rw[AB _ _ A0,AB _ _ A0]) (λi hi=>by rw[AB _ _ A0,AB _ _ A0];rfl),(AB _ _ A0).trans (AD _ _ _),AD _ _ _⟩
 ·simp(disch:=omega) [EJ,EN,sl,DV,ints,rows,B6,fp,rows,EY,DV]<;>omega
 rintro⟨k,(_|id),rw,Hx⟩ m ⟨⟨hk,hm⟩,hB,UK,W3⟩
 ·refine BH ?_;dsimp only[oA,oH]at hk hm hB UK W3 ⊢;obtain rfl:=hB.no rfl;refine XK ?_;refine A6 λN4 FD=>AK ?_ ?_<;>intro h3
  ·have S3:∀H1:HP,∀m1,m<=m1->∀i,m1+7+2<=i->lim m1 H1 i=none:=λH1 m1 _ i hi=>if_neg A0
   apply AF;apply FD;refine A6 λN5 ID=>AA<|XK ?_;refine sQ λN hN=>?_;refine tQ ?_;refine AC.own (T5 n (rs.getD k []) A0 (h1.2.2 k A0)) (.cons (.refl _) (.cons (.refl _) .nil)) ?_
   intro m1 H1 r0 JR SF SM OM;obtain⟨r1,rfl,EO⟩:=OM.1.sL;obtain⟨q1,q2,q3⟩:=EO.slice;have UF:=FE q2;have qO:H1 (nx+3+3+3+3)=_:=(SM _ A0).trans W3;have hc3:=qO;(try simp-dsimp-implicitDefEqProofs(disch:=omega)only[go_sem,rows,q1,q2,q3,UF,qO])
   apply hN;apply rQ;simp-dsimp-implicitDefEqProofs(disch:=omega)only[go_sem,B2,fp,EY,rows,q1,q2,q3,UF,qO,hc3];apply ID;apply rQ;simp-dsimp-implicitDefEqProofs(disch:=omega)only[go_sem,fp,EY,rows];refine⟨(k+1,some (m1+3+1),[]++[r1],CJ (lim m1 H1) (nx+3+3+3+3) (some [.i .i64 n,.h (m1+3+1) 0 1])),?_,by intro d cs hd;dsimp only[oH]at hd;simp only[CJ,lim]at hd ⊢;grind,?_,?_⟩
   ·simp(disch:=omega) [EJ,EN,sl,rows,oA,DV]
   ·dsimp only[oA];rw[Ht A0];refine⟨⟨A0,A0⟩,hB.A4A ⟨EO,OM.2⟩ (λi q4 q5 _=>?_) (λi q4 q5=>?_) (λi hi=>?_) A0 A0 A0 A0 A0,?_,?_⟩
    ·rw[AB _ _ A0,lim,if_pos A0];exact SM i A0
    ·rw[AB _ _ A0,lim,if_pos A0]
    ·rw[AB _ _ A0];exact S3 _ _ A0 i hi
    ·rw[AB _ _ A0,lim,if_pos A0];exact(SM _ A0).trans UK
    exact AD _ _ _
   exact AI
  apply AO;apply DO;refine sQ λN hN=>?_;simp-dsimp-implicitDefEqProofs(disch:=omega)only[go_sem,fp,EY,rows,UK,W3];apply hN;refine BQ ?_;rw[KU h1,A49,if_neg h2,CQ]
  rw[show(oQ n rs).take k=oQ n rs from AJ (by rw[cS];omega)]at hB;obtain⟨ids,h⟩:=Own.fp (g:=n) (hB.nil (a:=nx) (b:=m+1+3) (H':=CJ Hx (nx+1) (some [AV.i IntKind.i64 n,AV.nl])));exact h.pair
 refine BH ?_;dsimp only[oA,oH]at hk hm hB UK W3 ⊢
 obtain⟨i2,i3⟩:=hB.id rfl
 have hlen:=hB.len
 have P5:((oQ n rs).take k).length=k:=by rw[B1,cS];omega
 refine XK ?_;refine A6 λN6 OR=>AK ?_ ?_<;>intro h4
 ·have S3:∀H1:HP,∀m1,m<=m1->∀i,m1+7+2<=i->lim m1 H1 i=none:=λH1 m1 _ i hi=>if_neg A0
  apply AF;apply OR;refine A6 λN7 S6=>AA<|XK ?_;refine sQ λN hN=>?_;refine tQ ?_;refine AC.own (T5 n (rs.getD k []) A0 (h1.2.2 k A0)) (.cons (.refl _) (.cons (.refl _) .nil)) ?_
  intro m1 H1 r0 JR SF SM OM;obtain⟨r1,rfl,EO⟩:=OM.1.sL;obtain⟨q1,q2,q3⟩:=EO.slice;have UF:=FE q2;have qO:H1 (nx+3+3+3+3)=_:=(SM _ A0).trans ((AB _ _ A0).trans W3);have hc3:H1 id=some rw:=(SM _ A0).trans (AD _ _ _);(try simp-dsimp-implicitDefEqProofs(disch:=omega)only[go_sem,B2,rows,q1,q2,q3,UF,qO,hc3])
  apply hN;apply rQ;simp-dsimp-implicitDefEqProofs(disch:=omega)only[go_sem,B2,fp,EY,rows,q1,q2,q3,UF,qO,hc3];apply S6;apply rQ;simp-dsimp-implicitDefEqProofs(disch:=omega)only[go_sem,fp,EY,rows];refine⟨(k+1,some (m1+3+1),rw++[r1],CJ (lim m1 (CJ H1 id none)) (nx+3+3+3+3) (some [.i .i64 n,.h (m1+3+1) 0 (rw.length+1)])),?_,by intro d cs hd;dsimp only[oH]at hd;simp only[CJ,lim]at hd ⊢;grind,?_,?_⟩
  ·simp(disch:=omega) [EJ,EN,sl,rows,oA,DV]
  ·dsimp only[oA];rw[Ht A0];refine⟨⟨A0,A0⟩,hB.A4A ⟨EO,OM.2⟩ (λi q4 q5 q6=>?_) (λi q4 q5=>?_) (λi hi=>?_) A0 A0 A0 A0 A0,?_,?_⟩
   ·have q7:i≠id:=λe=>q6 (by rw[e])
    rw[AB _ _ A0,lim,if_pos A0,AB _ _ q7];exact(SM i A0).trans (AB _ _ q7)
   ·rw[AB _ _ A0,lim,if_pos A0,AB _ _ A0]
   ·rw[AB _ _ A0];exact S3 _ _ A0 i hi
   ·rw[AB _ _ A0,lim,if_pos A0,AB _ _ A0];exact(SM _ A0).trans ((AB _ _ A0).trans UK)
   rw[AD];simp
  exact AI
 apply AO;apply DO;refine sQ λN hN=>?_;simp-dsimp-implicitDefEqProofs(disch:=omega)only[go_sem,fp,EY,rows,UK,W3];apply hN;refine BQ ?_;rw[KU h1,A49,if_neg h2,CQ]
 rw[show(oQ n rs).take k=oQ n rs from AJ (by rw[cS];omega)]at hB
 obtain⟨ids,AGA⟩:=hB.own
 obtain⟨ids,h⟩:=Own.fp (g:=n) (AGA.BV (H':=CJ (CJ Hx id (some rw)) (nx+1) (some [AV.i IntKind.i64 n,AV.h id 0 rw.length])) (λi q1 q2=>AB _ _ A0) (a':=nx) (b':=m+1+3) A0 A0)
 exact h.pair
end
section
def Xb(n:Nat)(f:Nat->Int)(x:Nat):Nat->Int:=λt=>if t<x\/n<=t+x then f (n-1-t)else f t
def A8P{n f x}(h:x<n-1-x):JP n (D0 (D0 (Xb n f x) x (f (n-1-x))) (n-1-x) (f x))=JP n (Xb n f (x+1)):=by
 refine L5 λt ht=>?_
 unfold D0 Xb;by_cases e1:t=n-1-x
 ·rw[if_pos e1,if_pos A0,show n-1-t=x by omega]
 rw[if_neg e1];by_cases e2:t=x
 ·rw[if_pos e2,if_pos A0,show n-1-t=n-1-x by omega]
 rw[if_neg e2];by_cases e3:t<x\/n<=t+x
 ·rw[if_pos e3,if_pos A0]
 rw[if_neg e3,if_neg A0]
def AGB{n f x}(h:¬x<n-1-x)(hx:x<=n):JP n (Xb n f x)=JP n (λt=>f (n-1-t)):=by
 refine L5 λt ht=>?_
 unfold Xb;by_cases e3:t<x\/n<=t+x
 ·rw[if_pos e3]
 rw[if_neg e3,show n-1-t=t by omega]
set_option maxHeartbeats 4000000 in
def nT(n)(hn:n<=1048576)(f nx H id)(hH:H id=some (JP n f)):AC prog 191 nx H [.h id 0 n] (λ_ H' _=>H'=CJ H id (some (JP n (λt=>f (n-1-t))))):=by
 refine CF AY func191 rfl AP ntmps191 results191 (λGM cX=>?_)
 refine IZ hH ?_;refine AA<|AM (α:=Nat) (λx=>sl 28 [(0,.h id 0 n),(2,.i .i64 x),(3,.i .i64 ((n:Int)-1-x))]) (λx=>CJ H id (some (JP n (Xb n f x)))) (λx m=>x<=n) (λx=>n-x) (0) ?_ ?_ (by rw[L5 (f:=Xb n f 0) (g:=f) (λt ht=>by unfold Xb;rw[if_neg A0])];intro d cs hd;simp only[CJ]at hd ⊢;grind) ?_
 ·omega
 ·exact E2
 rintro x m hx
 refine BH ?_;refine A6 λN1 CW=>IZ hH ?_;refine AK ?_ ?_<;>intro h1
 ·have e1:((n:Int)-1-x).toNat=n-1-x:=A0;have e2:Xb n f x (n-1-x)=f (n-1-x):=by unfold Xb;rw[if_neg A0]
  have e3:Xb n f x x=f x:=by unfold Xb;rw[if_neg A0]
  have hg:=A8P (f:=f) (show x<n-1-x by omega);apply AF;apply CW;refine A6 λN2 DN=>AA<|K5 AY AP [true,true,true,true,true,true,true,false,true,true,true,false,true,false,true,false] (.br 7 (.br 11 (.br 13 (.br 15 .nil .nil) .nil) .nil) (.br 11 (.br 7 (.br 13 (.br 15 .nil .nil) .nil) .nil) .nil)) AP ?_
  refine fY hH e1 e2 e3 ?_;refine⟨?_,?_⟩;all_goals
   apply DN;refine eJ hH ?_;refine⟨x+1,?_,(by rw[<-hg];exact λ_ _ h=>h),?_,?_⟩
   ·exact E2
   ·omega
   exact AI
 apply AO;simp only[wW,IY,if_true];have Iu:JP n (Xb n f x)=JP n (λt=>f (n-1-t)):=AGB A0 hx
 rw[Iu]
 exact⟨_,λ_ _ h=>h,rfl⟩
def A8Q(xs:C2):JP xs.length (λt=>xs.getD (xs.length-1-t) 0)=xs.reverse.map (AV.i .i64):=by
 rw[RK,List.length_reverse];exact L5 λk hk=>by simp[A5,List.getElem?_reverse hk]
end
section
def kW{n}(h0:0<=n)(h1:n<=18446744073709551615):IntKind.wrap .u64 n=n:=by
 simp[IntKind.wrap,IntKind.bits,IntKind.signed];omega
def AMK{a}(h0:0<=a)(h1:a<=4294967295):IntKind.wrap .u64 ((BitVec.ofInt (IntKind.bits .u64) a &&& BitVec.ofInt (IntKind.bits .u64) 4294967295).toNat:Int)=a:=by
 have e:(BitVec.ofInt (IntKind.bits .u64) a &&& BitVec.ofInt (IntKind.bits .u64) 4294967295).toNat=a.toNat:=by
  show(BitVec.ofInt 64 a &&& BitVec.ofInt 64 4294967295).toNat=a.toNat
  rw[BitVec.toNat_and,BitVec.toNat_ofInt,BitVec.toNat_ofInt];rw[show((4294967295:Int)%((2^64:Nat):Int)).toNat=2^32-1 from HT,Nat.and_two_pow_sub_one_eq_mod];omega
 rw[e,kW A0 A0];omega
def AML{a:Int}(h0:0<=a)(h1:a<=4294967295):a.fdiv (2^(min (Int.toNat 32) 64))=0:=by
 show a.fdiv (2^32)=0
 rw[Int.fdiv_eq_ediv_of_nonneg _ HT];omega
def Hu(a b):NR (.t [.i .u64 a,.i .u64 b]):= .t _ λk x hx=>by
 match k,hx with
 |0,hx=>cases hx;exact .i _ _
 |1,hx=>cases hx;exact .i _ _
def y6(n)(h0:0<=n)(hn:n<=4294967295):DZ prog 243 [.i .u64 1,.i .u64 n] (.t [.i .u64 0,.i .u64 n]):=by
 refine BI AY func243 rfl AP ntmps243 results243 (Hu _ _) (λnx cX=>?_)
 refine ZI ?_;refine ZI ?_;refine ZI ?_;refine ZI ?_;refine ZI ?_;refine ZI ?_;refine ZI ?_;refine ZI ?_;refine ZI ?_;refine ZI ?_;refine ZI ?_;refine ZI ?_;apply DQ;simp-dsimp-implicitDefEqProofs(maxSteps:=800000) (disch:=omega)only[go_sem];skip
def Hv(n)(h0:0<=n)(hn:n<=4294967295):DZ prog 190 [.i .u64 1,.i .u64 n] (.t [.i .u64 0,.i .u64 n]):=by
 refine BI AY func190 rfl AP ntmps190 results190 (Hu _ _) (λnx cX=>?_)
 refine ZI ?_;refine A6 λN1 CW=>DJ rfl ?_;apply AF;apply CW;refine sQ λN hN=>?_;simp-dsimp-implicitDefEqProofs(maxSteps:=800000) (disch:=omega)only[go_sem,kW];refine AC.pure (.of (y6 n h0 hn)) ?_;(try simp-dsimp-implicitDefEqProofs(maxSteps:=800000) (disch:=omega)only[go_sem,kW]);apply hN;refine ZI ?_;apply DQ;simp-dsimp-implicitDefEqProofs(maxSteps:=800000) (disch:=omega)only[go_sem];skip
def Ue(a:Int)(k:Nat):Nat->Int:=λj=>if j<k then a else 0
def A8R{a n k}(hk:k<=n):DH (JP n (Ue a k)) k (((JP n (Ue a k)).take k).take (n-k))=JP n (Ue a (k+min k (n-k))):=by
 have hl:(((JP n (Ue a k)).take k).take (n-k)).length=min k (n-k):=by simp[HM];omega
 apply C7;intro i;rw[SX _ _ _ (by rw[hl,HM];omega),hl];split
 ·rename_i h;rw[D9,if_pos A0,D9,if_pos A0];simp only[JP,BF,FM (show i-k<n by omega),FM (show i<n by omega),DB,Ue];rw[if_pos A0,if_pos A0]
 rename_i h;by_cases hi:i<n
 ·simp only[JP,BF,FM hi,DB,Ue];by_cases h2:i<k
  ·rw[if_pos h2,if_pos A0]
  rw[if_neg h2,if_neg A0]
 rw[B8 (by rw[HM];omega),B8 (by rw[HM];omega)]
def AGC{a n}(hn:0<n):DH (List.replicate n (AV.i .i64 0)) 0 [.i .i64 a]=JP n (Ue a 1):=by
 apply C7;intro i;rw[SX _ _ _ (by simp;omega)];by_cases hi:i<n
 ·simp only[JP,BF,FM hi,DB,Ue,E3];by_cases h2:i<1
  ·rw[if_pos A0,if_pos h2,show i-0=0 by omega];rfl
  rw[if_neg A0,if_neg h2,EV,if_pos hi]
 rw[if_neg (by simp;omega),B8 (by simp;omega),B8 (by rw[HM];omega)]
def AGD{a n}:JP n (Ue a n)=(List.replicate n a).map (.i .i64):=by
 rw[RK,BZ];exact L5 λk hk=>by simp[Ue,hk]
def AMM{a n k}(hk:k<=n):((JP n (Ue a k)).take k).length=k:=by simp[HM];omega
def AGE{n k f}:(∀z∈List.take k (JP n f),one z=true)=True:=eq_true (λz hz=>by
 have:=GO hz;unfold JP at this;obtain⟨j,_,rfl⟩:=AQ.1 this;rfl)
set_option maxHeartbeats 4000000 in
def nU(a:Int)(n:Nat)(h0:0<n)(hn:n<=1048576):cC prog 134 [ints [a],.i .i64 n] (ints (List.replicate n a)):=by
 have Wr:List.take n [AV.i .i64 a]=[AV.i .i64 a]:=AJ (by simp;omega)
 have AMN:min 1 n=1:=A0
 have AQW:decide ((0:Int)>0)=false:=HT
 intro nx
 refine ED AY func134 rfl AP ntmps134 results134 (λcX=>?_)
 refine wQ ?_;refine A6 λN1 CW=>wQ ?_;refine AK ?_ ?_<;>intro h1
 ·exact absurd h1 A0
 apply AF;apply CW;refine sQ λN hN=>?_;simp-dsimp-implicitDefEqProofs(maxSteps:=800000) (disch:=omega)only[go_sem,HM,kW];refine AC.pure (.of (Hv n A0 A0)) ?_;(try simp-dsimp-implicitDefEqProofs(maxSteps:=800000) (disch:=omega)only[go_sem,HM,kW]);apply hN;refine A6 λN2 DN=>sQ λN hN=>?_;simp-dsimp-implicitDefEqProofs(maxSteps:=800000) (disch:=omega)only[go_sem,HM,kW,AQW];apply hN;refine AK ?_ ?_<;>intro h2
 ·exact absurd h2 A0
 apply AF;apply DN;refine wQ ?_;refine sQ λN hN=>?_;simp-dsimp-implicitDefEqProofs(maxSteps:=800000) (disch:=omega)only[go_sem,kW,HM,ints,Wr,AMN,AGC h0,BR,BU,E3,BZ,Zv];apply hN;refine A6 λN3 DO=>AA<|AM (α:=Nat) (λx=>sl 48 [(7,.h (nx+1+2+11+6+2) 0 n),(8,.i .i64 x)]) (λx=>CJ DD (nx+1+2+11+6+2) (some (JP n (Ue a x)))) (λx m=>(1<=x/\x<=n)/\nx+23<=m) (λx=>n-x) (1) ?_ ?_ (by intro d cs hd;simp only[CJ,DD]at hd ⊢;grind) ?_
 ·exact⟨⟨A0,A0⟩,AI⟩
 ·simp(disch:=omega) [EJ,EN,sl,DV,ints,rows,B6,DV,kW,HM]<;>omega
 rintro k m ⟨⟨eG,hk⟩,hm⟩
 refine BH ?_;have hif:(if k<=n then some (List.take k (JP n (Ue a k)))else none)=some (List.take k (JP n (Ue a k))):=if_pos hk
 refine A6 λN4 FD=>wQ ?_;refine AK ?_ ?_<;>intro h3
 ·apply AF;apply FD;refine AA<|UR AY AP [true,true,true,true,true,true,true,false,false,false] AP ?_;simp-dsimp-implicitDefEqProofs(maxSteps:=800000) (disch:=omega)only[go_sem,kW,HM,hif,AMM hk,AGE,A8R hk];refine BB ((k+min k (n-k):Nat)) ?_ ?_ ?_
  ·simp(disch:=omega) [EJ,EN,sl,DV,ints,rows,B6,DV,kW,HM]<;>omega
  ·first|exact⟨⟨A0,A0⟩,A0⟩|exact⟨A0,A0⟩
  exact AI
 apply AO;apply DO;refine wQ ?_;refine BQ ?_;rw[show k=n by omega,AGD]
 exact⟨_,Own.ints (AD _ _ _) B5 A0 A0⟩
def VH(w)(hw:w.length<=1048576)(hv:∀k,k<w.length->-1048576<=w.getD k 0/\w.getD k 0<=1048576):DZ prog 135 [ints w] (ints (WS w)):=by
 refine DA AY func135 rfl AP ntmps135 results135 ((IC _)) (λnx cX=>?_)
 refine EU ?_;refine EU ?_;refine A6 λN1 CW=>EU ?_;refine AA<|AM (α:=Nat×Option Nat×C2) (λx=>sl 21 [(3,oA x.2.1 x.2.2.length),(6,ints w),(7,.i .i64 w.length),(8,.i .i64 x.1)]) (λx=>oH DD x.2.1 (x.2.2.map (.i .i64))) (λx m=>(x.1<=w.length/\(x.2.1=none->x.2.2=[]))/\(∀id,x.2.1=some id->id<m)/\x.2.2=(w.map λt=> -t).take x.1) (λx=>w.length-x.1) ((0,none,[])) ?_ ?_ (by exact Le.refl _) ?_
 ·exact⟨⟨A0,λ_=>rfl⟩,λid GF=>(by cases GF),rfl⟩
 ·simp[EJ,EN,sl,ints,oA]
 rintro⟨k,(_|L7),K⟩ m ⟨⟨hk,ho⟩,GF,hK⟩
 ·dsimp only[oA,oH]at hk GF hK ho ⊢;have AFF:=ho rfl;subst AFF;refine EU ?_;refine A6 λN2 DN=>AK ?_ ?_<;>intro h1
  ·have hvk:=hv k A0;have YA:(w.map λt=> -t).take (k+1)=(w.map λt=> -t).take k++[-(w.getD k 0)]:=by
    rw[UP (d:=0) (by rw[A4];omega)];congr 2
    simp[show k<w.length by omega]
   apply AF;apply DN;refine A6 λN3 DO=>AA<|EU ?_;refine LG ?_;apply DO;refine LG ?_;refine⟨(k+1,some (m+1+3+4),[-(w.getD k 0)]),?_,(by intro d cs hd;simp only[oH,CJ,DD,BR,BU,SE]at hd ⊢;grind),?_,?_⟩
   ·simp(disch:=omega) [EJ,EN,sl,DV,ints,oA]
   ·exact⟨⟨A0,λh=>by cases h⟩,λid h=>(by cases h;first|omega|(dsimp only;omega)),by (try simp only[]);rw[YA,<-hK];rfl⟩
   exact AI
  apply AO;apply CW;refine sQ λN hN=>?_;refine OX ?_;refine(gE _ _).CD ?_
  rintro m3 H3 r3 U5 rfl;refine OX ?_
  apply hN;refine EU ?_;refine BQ ?_;have YO:WS w=[]:=by
   have:w.length=0:=by
    have:=congrArg List.length hK;simp at this;omega
   rw[AX.1 this];rfl
  rw[YO];exact .nl
 dsimp only[oA,oH]at hk GF hK ho ⊢
 have Is:K.length=k:=by rw[hK,B1,A4];omega
 have xO:=GF L7 rfl
 refine EU ?_;refine A6 λN4 FD=>AK ?_ ?_<;>intro h2
 ·have hvk:=hv k A0;have YA:(w.map λt=> -t).take (k+1)=(w.map λt=> -t).take k++[-(w.getD k 0)]:=by
   rw[UP (d:=0) (by rw[A4];omega)];congr 2
   simp[show k<w.length by omega]
  apply AF;apply FD;refine A6 λN5 ID=>AA<|EU ?_;refine LG ?_;apply ID;refine LG ?_;refine⟨(k+1,some (m+1+3+4),K++[-(w.getD k 0)]),?_,(by intro d cs hd;simp only[oH,CJ,DD,KD,AZ,BR,BU,SE]at hd ⊢;grind),?_,?_⟩
  ·simp(disch:=omega) [EJ,EN,sl,DV,ints,oA]
  ·exact⟨⟨A0,λh=>by cases h⟩,λid h=>(by cases h;first|omega|(dsimp only;omega)),by (try simp only[]);rw[YA,<-hK]⟩
  exact AI
 apply AO;apply CW;refine sQ λN hN=>?_;refine OX ?_;refine(nT K.length A0 (λj=>K.getD j 0) _ _ L7 (by rw[<-RK];exact AD _ _ _)).CD ?_
 rintro m3 H3 r3 U5 rfl
 refine OX ?_
 apply hN;refine EU ?_;refine BQ ?_;have YO:WS w=K.reverse:=by rw[hK,show k=w.length by omega,AJ (by rw[A4];exact A1 _)];rfl
 rw[YO]
 exact Vw.ivl (by rw[AD,A8Q]) B5
end
section
def Dz(e:C2):C2:=WX e e.length
structure okE(e:C2):Prop where
 n:e.length<=6
 v:∀k,k<e.length->0<=e.getD k 0/\e.getD k 0<=1000
def A8S{e}:∀k,∀x∈WX e k,0<=x/\x<=k:=by
 intro k;induction k with
 |zero=>intro x hx;simp[WX]at hx
 | succ k ih=>
   intro x hx;rw[WX]at hx;rcases AG.1 hx with hx|hx
   ·have:=ih x hx;omega
   rw[(DX.1 hx).2];omega
def okE.len{e}(h:okE e):(Dz e).length<=6000:=by
 have h1:=cQ (λk hk=>(h.v k hk).2) e.length (A1 _);have:=h.n;unfold Dz;omega
def okE.bd{e}(h:okE e):∀k,k<(Dz e).length->-1048576<=(Dz e).getD k 0/\(Dz e).getD k 0<=1048576:=by
 intro k hk;have h1:=A8S (e:=e) e.length ((Dz e).getD k 0) (by
  rw[A5,A9 hk];exact BK hk)
 have:=h.n;omega
def BW.pw{U pw cj}(h:BW U pw cj){i}(hi:i<U.length):okE (pw.getD i []):=by
 have h1:=(h.2.2.2 i hi).1;have h6:=h.1.1;refine⟨by rw[h1.1];exact h6,λk hk=>?_⟩;have h2:=(h1.2 k hk).1;have:=FQ (h.2.1 k (by rw[<-h1.1];exact hk));omega
def BW.cj{U pw cj}(h:BW U pw cj){i}(hi:i<U.length):(cj.getD i []).length+1+i=U.length/\∀k,k<(cj.getD i []).length->okE ((cj.getD i []).getD k []):=by
 have h0:=h.2.2.2 i hi;have h6:=h.1.1;refine⟨h0.2.1,λd hd=>?_⟩;have h1:=h0.2.2 d hd;refine⟨by rw[h1.1];exact h6,λk hk=>?_⟩;have h2:=(h1.2 k hk).1;have:=FQ (h.2.1 k (by rw[<-h1.1];exact hk));omega
def iG(U:C2)(pw:D4)(i:Nat):C2:=List.replicate (U.getD i 0).toNat ((i:Int)+1)++WS (Dz (pw.getD i []))
def dU(cj:E6)(i d:Nat):C2:=[-(i:Int)-1,((i+1+d:Nat):Int)+1,(i:Int)+1]++WS (Dz ((cj.getD i []).getD d []))
def c0(U:C2)(pw:D4)(k:Nat):D4:=(List.range k).map (iG U pw)
def c7(cj:E6)(i k:Nat):D4:=(List.range k).map (dU cj i)
def OP(cj:E6)(n:Nat):Nat->D4
 |0=>[]
 |k+1=>OP cj n k++c7 cj k (n-1-k)
def OB(U:C2)(pw:D4)(cj:E6):D4:=c0 U pw U.length++OP cj U.length U.length
def cT{U pw k}:(c0 U pw k).length=k:=by simp[c0]
def A8T{U pw k}:c0 U pw (k+1)=c0 U pw k++[iG U pw k]:=by unfold c0;rw[CX,AZ];rfl
def nV{cj i k}:(c7 cj i k).length=k:=by simp[c7]
def A8U{cj i k}:c7 cj i (k+1)=c7 cj i k++[dU cj i k]:=by unfold c7;rw[CX,AZ];rfl
def zD{cj n}:∀k,k<=n->(OP cj n k).length<=n*k:=by
 intro k;induction k with
 |zero=>intro _;simp[OP]
 | succ k ih=>
   intro hk;have:=ih A0;rw[OP,AH,nV,P7];omega
def A4B{U pw cj}(h:BW U pw cj){i}(hi:i<U.length):(iG U pw i).length<=7000:=by
 have h1:=(h.pw hi).len;have:=FQ (h.2.1 i hi);unfold iG;rw[AH,BZ,XX];omega
def A4C{U pw cj}(h:BW U pw cj){i d}(hi:i<U.length)(hd:d<(cj.getD i []).length):(dU cj i d).length<=7000:=by
 have h1:=((h.cj hi).2 d hd).len;unfold dU;rw[AH,XX];simp only[C6,CR];omega
def Xc{U pw cj}(h:BW U pw cj):∀k,k<=U.length->∀x∈OP cj U.length k,x.length<=7000:=by
 intro k;induction k with
 |zero=>intro _ x hx;simp[OP]at hx
 | succ k ih=>
   intro hk x hx;rw[OP]at hx;rcases AG.1 hx with hx|hx
   ·exact ih A0 x hx
   unfold c7 at hx;obtain⟨d,hd,rfl⟩:=AQ.1 hx;rw[B3]at hd;have:=(h.cj (i:=k) A0).1;exact A4C h A0 A0
def A8V{U pw cj}(h:BW U pw cj):FC (OB U pw cj):=by
 have h6:=h.1.1;refine⟨?_,λx hx=>?_⟩
 ·unfold OB;have:=zD (cj:=cj) (n:=U.length) U.length (A1 _);have h2:U.length*U.length<=6*6:=CY h6 h6;rw[AH,cT];omega
 unfold OB at hx;rcases AG.1 hx with hx|hx
 ·unfold c0 at hx;obtain⟨d,hd,rfl⟩:=AQ.1 hx;rw[B3]at hd;have:=A4B h hd;omega
 have:=Xc h _ (A1 _) x hx;omega
def AGF{α:Type}{f:α->AV}{n:Nat}{a:α}:List.take n (List.map f (List.replicate n a))=List.map f (List.replicate n a):=AJ B5
def VG(a b c):(∀z∈ [AV.h a b c],one z=true)=True:=FE rfl
end
section
def Hw{g w}(h1:w.length<=64)(h2:∀a∈w,a≠0/\-g<=a/\a<=g):W2 g w:=⟨h1,λj hj=>by
 have:=h2 w[j] (BK hj);rw[A5,A9 hj];exact this⟩
def A4D{e}(h:∀k,k<e.length->e.getD k 0<=6):∀k,k<=e.length->(WX e k).length<=6*k:=by
 intro k;induction k with
 |zero=>intro _;simp[WX]
 | succ k ih=>
   intro hk;have:=ih A0;have:=h k A0;rw[WX,AH,BZ];omega
def Ia{e}:∀k,∀x∈WX e k,1<=x/\x<=k:=by
 intro k;induction k with
 |zero=>intro x hx;simp[WX]at hx
 | succ k ih=>
   intro x hx;rw[WX]at hx;rcases AG.1 hx with hx|hx
   ·have:=ih x hx;omega
   rw[(DX.1 hx).2];omega
def A4E{x}(h:O8 x):2<=x/\x<=7:=by unfold O8 at h;omega
section
variable{U:C2}{pw:D4}{cj:E6}(h:BW U pw cj)
include h
theorem Ib{e}(hl:e.length=U.length)(hv:∀k,k<e.length->0<=e.getD k 0/\e.getD k 0<=U.getD k 0-1):(Dz e).length<=36/\∀x∈Dz e,1<=x/\x<=(U.length:Int):=by
 have h6:=h.1.1;refine⟨?_,λx hx=>?_⟩
 ·have:=A4D (e:=e) (λk hk=>by have:=hv k hk;have:=A4E (h.2.1 k A0);omega) e.length (A1 _);unfold Dz;omega
 have:=Ia (e:=e) e.length x hx;omega
theorem Xd{i}(hi:i<U.length):W2 U.length (iG U pw i):=by
 have h1:=(h.2.2.2 i hi).1;have h2:=Ib h (e:=pw.getD i []) h1.1 (λk hk=>(h1.2 k hk).1);have h3:=A4E (h.2.1 i hi);refine Hw ?_ (λa ha=>?_)
 ·unfold iG;rw[AH,BZ,XX];omega
 unfold iG at ha;rcases AG.1 ha with ha|ha
 ·rw[(DX.1 ha).2];omega
 unfold WS at ha;rw[List.mem_reverse,AQ]at ha;obtain⟨x,hx,rfl⟩:=ha;have:=h2.2 x hx;omega
theorem Xe{i d}(hi:i<U.length)(hd:d<(cj.getD i []).length):W2 U.length (dU cj i d):=by
 have h0:=h.2.2.2 i hi;have h1:=h0.2.2 d hd;have h2:=Ib h (e:=(cj.getD i []).getD d []) h1.1 (λk hk=>(h1.2 k hk).1);have h3:=h0.2.1;refine Hw ?_ (λa ha=>?_)
 ·unfold dU;rw[AH,XX];simp only[C6,CR];omega
 unfold dU at ha;rcases AG.1 ha with ha|ha
 ·simp only[BJ,OU,or_false]at ha;omega
 unfold WS at ha;rw[List.mem_reverse,AQ]at ha;obtain⟨x,hx,rfl⟩:=ha;have:=h2.2 x hx;omega
theorem Nh:∀k,k<=U.length->∀x∈OP cj U.length k,W2 U.length x:=by
 intro k;induction k with
 |zero=>intro _ x hx;simp[OP]at hx
 | succ k ih=>
   intro hk x hx;rw[OP]at hx;rcases AG.1 hx with hx|hx
   ·exact ih A0 x hx
   unfold c7 at hx;obtain⟨d,hd,rfl⟩:=AQ.1 hx;rw[B3]at hd;have:=(h.cj (i:=k) A0).1;exact Xe h A0 A0
theorem Xf:∀k,k<(OB U pw cj).length->W2 U.length ((OB U pw cj).getD k []):=by
 intro k hk;have hm:(OB U pw cj).getD k []∈OB U pw cj:=by rw[A5,A9 hk];exact BK _
 generalize (OB U pw cj).getD k []=x at hm
 unfold OB at hm;rcases AG.1 hm with hm|hm
 ·unfold c0 at hm;obtain⟨d,hd,rfl⟩:=AQ.1 hm;exact Xd h (B3.1 hd)
 exact Nh h _ (A1 _) x hm
omit h in
theorem Ni:∀k,k<=U.length->2*(OP cj U.length k).length+k*k+k=2*U.length*k:=by
 intro k;induction k with
 |zero=>intro _;simp[OP]
 | succ k ih=>
   intro hk;have:=ih A0;have e1:(k+1)*(k+1)=k*k+2*k+1:=by rw[QG,Nat.mul_add];omega
   rw[OP,AH,nV,e1,P7];omega
theorem Uf(h4:U.length<=4):fpP U.length (OB U pw cj):=by
 refine⟨A0,?_,Xf h⟩;have h1:=Ni (cj:=cj) (U:=U) U.length (A1 _);unfold OB;rw[AH,cT];generalize (OP cj U.length U.length).length=c at h1 ⊢
 generalize U.length=n at h1 h4 ⊢
 have:n=0\/n=1\/n=2\/n=3\/n=4:=A0;rcases this with rfl|rfl|rfl|rfl|rfl<;>omega
end
def ltC(a:Int)(j:Nat):Int:=if oD a=j then lsg a else 0
def qK:C2->Nat->Int
 |[],_=>0
 |a::w,j=>ltC a j+qK w j
def cU{j}:∀{v w:C2},qK (v++w) j=qK v j+qK w j
 |[],w=>by simp[qK]
 |a::v,w=>by rw[HC,qK,qK,cU];omega
def Db{a j}:∀n:Nat,qK (List.replicate n a) j=n*ltC a j
 |0=>by simp[qK]
 |n+1=>by rw[MK,qK,Db n,IP,GI];omega
def Ug{a}(h:1<=a):oD a=(a-1).toNat/\lsg a=1:=by
 have e:lab a=a:=if_pos A0;exact⟨by unfold oD;rw[e],if_pos A0⟩
def A8W{a}(h:1<=a):oD (-a)=(a-1).toNat/\lsg (-a)= -1:=by
 have e:lab (-a)= - -a:=if_neg A0;exact⟨by unfold oD;rw[e,Int.neg_neg],if_neg A0⟩
def rT{i j:Nat}:ltC ((i:Int)+1) j=if i=j then 1 else 0:=by
 obtain⟨h1,h2⟩:=Ug (a:=(i:Int)+1) A0;have h3:oD ((i:Int)+1)=i:=by rw[h1];omega
 unfold ltC;rw[h3,h2]
def Uh{a}(h:1<=a){j}:ltC (-a) j= -ltC a j:=by
 obtain⟨h1,h2⟩:=Ug h;obtain⟨h3,h4⟩:=A8W h;unfold ltC;rw[h3,h4,h1,h2];split<;>rfl
def Dc{j}:∀{w:C2},(∀x∈w,1<=x)->qK (WS w) j= -qK w j
 |[],_=>rfl
 | a::w,h=>by
   have e:WS (a::w)=WS w++[-a]:=by simp[WS]
   rw[e,cU,Dc λx hx=>h x (C3 _ hx),qK,qK,qK,Uh (h a (CA ..))];omega
def A4F{e j}:∀k,qK (WX e k) j=if j<k then ((e.getD j 0).toNat:Int)else 0
 |0=>rfl
 | k+1=>by
   rw[WX,cU,A4F k,Db,rT];by_cases h:k=j
   ·subst h;rw[if_neg A0,if_pos rfl,if_pos A0];omega
   rw[if_neg h];by_cases h2:j<k
   ·rw[if_pos h2,if_pos A0];omega
   rw[if_neg h2,if_neg A0];omega
def AA9{w j}:∀k,k<=w.length->eS w k j=qK (w.take k) j
 |0,_=>rfl
 | k+1,hk=>by
   rw[B7 A0,cU,<-AA9 k A0,eS];have e:w.getD k 0=w[k]:=by rw[A5,A9 (show k<w.length by omega)];rfl
   rw[e,qK,qK];unfold ltC;by_cases h:oD w[k]=j
   ·rw[if_pos h,<-h,EM];omega
   rw[if_neg h,EW (λq=>h q.symm)];omega
def A4G{n w j}:fl (exS n w) j=if j<n then qK w j else 0:=by
 unfold fl exS;split
 ·rename_i h;rw[VY h,AA9 _ (A1 _),B2]
 rw[A5,B8 (by rw[HB];omega)];rfl
def AAA{i j}:un i j=if i=j then 1 else 0:=by
 by_cases h:i=j
 ·subst h;rw[un,EM,if_pos rfl]
 rw[un,EW (λq=>h q.symm),if_neg h];rfl
def A4H{e j}(h:e.length<=j):fl e j=0:=by rw[fl,A5,B8 h];rfl
def A4I{e}(h:∀k,k<e.length->0<=e.getD k 0)(j):qK (Dz e) j=fl e j:=by
 rw[Dz,A4F];split
 ·rename_i q;have:=h j q;rw[fl];omega
 rw[A4H A0]
def Ui{e}:∀x∈Dz e,1<=x:=λx hx=>(Ia e.length x hx).1
def nW{cj:E6}{n:Nat}{r:C2}:∀k,k<=n->(r∈OP cj n k↔∃i d,i<k/\i+1+d<n/\r=dU cj i d)
 |0,_=>by simp[OP]
 | k +1,hk=>by
   rw[OP,AG,nW k A0];constructor
   ·rintro(⟨i,d,a,b,c⟩|q)
    ·exact⟨i,d,A0,b,c⟩
    obtain⟨d,hd,rfl⟩:=AQ.1 q;have:=B3.1 hd;exact⟨k,d,A0,A0,rfl⟩
   rintro⟨i,d,a,b,c⟩;by_cases e:i=k
   ·subst e;exact .inr (AQ.2 ⟨d,B3.2 A0,c.symm⟩)
   exact .inl ⟨i,d,A0,b,c⟩
section
variable{U:C2}{pw:D4}{cj:E6}(h:BW U pw cj)
include h
theorem Ic{i}(hi:i<U.length):fl (exS U.length (iG U pw i))=λk=>(pc U pw cj).o i*un i k-(pc U pw cj).pw i k:=by
 have h1:=(h.2.2.2 i hi).1;have h3:=A4E (h.2.1 i hi);funext k
 show _=U.getD i 0*un i k-fl (pw.getD i []) k
 rw[A4G,iG,cU,Db,Dc Ui,A4I λk hk=>(h1.2 k hk).1.1,rT,AAA];split
 ·have:((U.getD i 0).toNat:Int)=U.getD i 0:=A0;rw[this];omega
 rw[if_neg A0,A4H (by have:=h1.1;omega)];omega
theorem Ie{i d}(hi:i+1+d<U.length):fl (exS U.length (dU cj i d))=λk=>un (i+1+d) k-(pc U pw cj).cj i (i+1+d) k:=by
 have h0:=h.2.2.2 i A0;have h1:=h0.2.2 d (by have:=h0.2.1;omega);funext k
 show _=un (i+1+d) k-fl ((cj.getD i []).getD (i+1+d-i-1) []) k
 rw[show i+1+d-i-1=d by omega,A4G,dU,cU,Dc Ui,A4I λk hk=>(h1.2 k hk).1.1,qK,qK,qK,qK,show-(i:Int)-1= -((i:Int)+1) by omega,Uh A0,rT,rT,AAA];split
 ·omega
 rw[if_neg A0,A4H (by have:=h1.1;omega)];omega
theorem A8X{x:Nat->Int}:A26 (pc U pw cj) x↔∃t,t<(oQ U.length (OB U pw cj)).length/\x=fl ((oQ U.length (OB U pw cj)).getD t []):=by
 have key:(∃t,t<(oQ U.length (OB U pw cj)).length/\x=fl ((oQ U.length (OB U pw cj)).getD t []))↔∃r∈OB U pw cj,x=fl (exS U.length r):=by
  constructor
  · rintro⟨t,ht,e⟩;have hm:=QR (d:=[]) ht;obtain⟨r,hr,q⟩:=AQ.1 hm;exact⟨r,hr,by rw[e,<-q]⟩
  rintro⟨r,hr,e⟩;obtain⟨t,ht,q⟩:=FI.1 hr;refine⟨t,by rw[cS];exact ht,?_⟩;rw[e,<-q];simp[oQ,A5,ht]
 rw[key];constructor
 ·intro hx;cases hx with
  |pw i hi=>exact⟨iG U pw i,AG.2 (.inl (AQ.2 ⟨i,B3.2 hi,rfl⟩)),(Ic h hi).symm⟩
  | cj i j Q3 hj=>
    have l6:j<U.length:=hj;obtain⟨d,rfl⟩:∃d,j=i+1+d:=⟨j-i-1,A0⟩;exact⟨dU cj i d,AG.2 (.inr ((nW _ (A1 _)).2 ⟨i,d,A0,l6,rfl⟩)),(Ie h l6).symm⟩
 rintro⟨r,hr,rfl⟩;rcases AG.1 hr with q|q
 ·obtain⟨i,hi,rfl⟩:=AQ.1 q;rw[Ic h (B3.1 hi)];exact .pw i (B3.1 hi)
 obtain⟨i,d,a,b,rfl⟩:=(nW _ (A1 _)).1 q;rw[Ie h b];exact .cj i (i+1+d) A0 b
theorem A4J(h4:U.length<=4):tbP U.length (oQ U.length (OB U pw cj)):=by
 have hf:=Uf h h4;refine⟨by rw[cS];exact hf.2.1,h4,λr hr=>?_⟩;obtain⟨w,hw,rfl⟩:=AQ.1 hr;obtain⟨t,ht,q⟩:=FI.1 hw;have hl:=(hf.2.2 t ht).1;have e:(OB U pw cj).getD t []=w:=by rw[A5,A9 ht,<-q];rfl
 rw[e]at hl;refine⟨Po,λx hx=>?_⟩;obtain⟨j,hj,q⟩:=AQ.1 hx;have:=A9A (w:=w) w.length j;omega
theorem AGG{x:Nat->Int}:QB (pc U pw cj) x↔sS (λx=>∃t,t<(oQ U.length (OB U pw cj)).length/\x=fl ((oQ U.length (OB U pw cj)).getD t [])) x:=by
 have:A26 (pc U pw cj)=λx=>∃t,t<(oQ U.length (OB U pw cj)).length/\x=fl ((oQ U.length (OB U pw cj)).getD t []):=funext λx=>propext (A8X h)
 unfold QB;rw[this]
theorem AGH(h4:U.length<=4){f}(hs:Xm U.length (QB (pc U pw cj)) f){k}(hk:k<=U.length):
  xB (oQ U.length (OB U pw cj)) k (Q2 k (oQ U.length (OB U pw cj)).length) (Q2 k U.length) (Q2 k (oQ U.length (OB U pw cj)).length).length=Iz (λi=>(f i).toNat) k:=
 AMJ (A4J h h4) (QB.lt h.val) (λ_=>AGG h) hs hk
end
end
section
def Uj{P S}(h:∀x,S x->x=z0):RA P S []:=by
 refine⟨λ_=>none,⟨λd z q=>by simp at q,λd hd _=>?_⟩,?_⟩
 ·rintro⟨x,sx,_,ne⟩;exact ne (by rw[h x sx];rfl)
 unfold LW;simp
section
variable{P:Pc}(hv:LK P)(hc:HN P 0)
include hv hc
theorem Ig:NO (T P 0) (M P 0) λx=>x=z0:=by
 have g:=CS hv hc;refine⟨λ{a} h=>h▸g.e0,rfl,λ{a b} ha hb=>by rw[ha,hb,g.l1 g.e0],λ{a b} ha hb h=>?_⟩;rw[ha,g.l1 hb]at h;exact h
theorem AMO(l8:∀i j,i<j->j<P.n->P.cj i j=un j):∀x,Ge P x->x=z0:=by
 have g:=CS hv hc;have cm:∀i j,i<P.n->j<P.n->M P 0 (un i) (un j)=M P 0 (un j) (un i):=λi j hi hj=>by
  rcases GR i j with q|q|q
  ·rw[A6V hv hc q hj,l8 i j q hj]
  ·rw[q]
  rw[A6V hv hc q hi,l8 j i q hi]
 intro x hx;refine hx (λx=>x=z0) (Ig hv hc) (λz hz=>?_) λa b ha hb=>?_
 ·obtain⟨a,ha,b,hb,rfl⟩:=jZ.1 hz;obtain⟨i,hi,rfl⟩:=AQ.1 ha;obtain⟨j,hj,rfl⟩:=AQ.1 hb;have hi:=B3.1 hi;have hj:=B3.1 hj;have ti:T P 0 (un i):=O9 hv (AE _) hi;have tj:T P 0 (un j):=O9 hv (AE _) hj;obtain⟨t,e⟩:=mU hv hc ti tj;rw[cm i j hi hj]at e;exact g.lc (g.cl tj ti) t g.e0 (by rw[e,g.r1 (g.cl tj ti)])
 have tb:T P 0 b:=by
  rcases AG.1 hb with q|q<;>exact XS hv b q
 subst ha;obtain⟨t,e⟩:=MB hv hc g.e0 tb;rw[g.l1 tb]at e;exact g.lc tb t g.e0 (by rw[e,g.r1 tb])
theorem AGI(hp:∀d,d<P.n->O8 (P.o d))(l8:∀i j,i<j->j<P.n->P.cj i j=un j):QK P (IT P.n) (IT P.n)=[]:=
 (uX hv hc hp).uniq hv hc (YW hv hc) (Uj (AMO hv hc l8))
end
section
variable{U:C2}{pw:D4}{cj:E6}(h:BW U pw cj)(hc:HN (pc U pw cj) 0)
include h hc
theorem AMP{u}(hu:u=QK (pc U pw cj) (IT U.length) (IT U.length)):∀i j,i<j->j<nQ (pc U pw cj) u->fl (mV (pc U pw cj) u (RY (pc U pw cj) u i) (RY (pc U pw cj) u j))=un j:=by
 have hv:=h.val;have hp:∀d,d<(pc U pw cj).n->O8 ((pc U pw cj).o d):=λd hd=>h.2.1 d hd
 have hS:=YW hv hc;have MC:RA (pc U pw cj) (Ge (pc U pw cj)) u:=by rw[hu];exact uX hv hc hp
 clear hu;have g:=CS hv hc;intro i j Q3 hj;have hi:i<nQ (pc U pw cj) u:=A0;obtain⟨a1,a2,_⟩:=M7 hj;obtain⟨b1,b2,_⟩:=M7 hi;have ta:T (pc U pw cj) 0 (un (RY (pc U pw cj) u j)):=O9 hv (AE _) a1;have tb:T (pc U pw cj) 0 (un (RY (pc U pw cj) u i)):=O9 hv (AE _) b1;obtain⟨c,sc,e⟩:=A2A hv hc ta tb;obtain⟨t,e2⟩:=MB hv hc ta tb;have tc:=hS.n sc;rw[<-e2,g.ac tb ta tc]at e;have e3:=g.lc tb (g.cl ta tc) t e;have e4:=(SN hv hc hS MC ta t).2 ⟨c,sc,e3⟩;rw[WB hv hc hS MC ta λd hd ne=>?_]at e4
 ·funext k
  show fl (ZY (pc U pw cj) u (PI (pc U pw cj) (un (RY (pc U pw cj) u j)) (un (RY (pc U pw cj) u i)))) k=un j k
  rcases BL k (nQ (pc U pw cj) u)with q|q
  ·rw[Gd q,<-e4];by_cases w:k=j
   ·subst w;rw[un,un,EM,EM]
   rw[un,un,EW w,EW]
   ·rfl
   intro w2;have:=(M7 q).2.2;have:=(M7 hj).2.2;rw[w2]at*;omega
  rw[A21 q,un,EW A0];rfl
 by_cases w:d=RY (pc U pw cj) u j
 ·subst w;exact absurd a2 ne
 rw[un,EW w];rfl
theorem AGJ{u}(hu:u=QK (pc U pw cj) (IT U.length) (IT U.length)):∀i,i<(TF U u).length->∀k,k<((U8 (pc U pw cj) u).getD i []).length->fl (((U8 (pc U pw cj) u).getD i []).getD k [])=un (i+1+k):=by
 intro i hi k hk;rw[Br (pw:=pw) (cj:=cj)]at hi;have:=Ri hi;rw[Bs hi A0];exact AMP h hc hu i (i+1+k) A0 A0
omit h hc in
theorem Uk{n d}:WN n [] d=none:=rfl
omit h hc in
theorem cV{n}:∀k,K7 n [] k=List.range k
 |0=>rfl
 |k+1=>by rw[ZD,if_pos Uk,cV k,CX]
omit h hc in
theorem A4K{a n}(hl:a.length=n):(List.range n).map (fl a)=a:=by
 subst hl;exact(sJ a).symm
omit h hc in
theorem Dd{α:Type}{a:List α}{n:Nat}{d:α}{g:Nat->α}(hl:a.length=n)(hg:∀i,i<n->g i=a.getD i d):(List.range n).map g=a:=by
 refine List.ext_getElem (by simp[hl]) λi h1 h2=>?_
 rw[List.getElem_map,K8,hg i A0,A5,A9 h2];rfl
theorem Ul{x}(hx:T (pc U pw cj) 0 x):ZY (pc U pw cj) [] x=(List.range U.length).map x:=by
 have hv:=h.val;have MC:RA (pc U pw cj) (λx=>x=z0) []:=Uj λ_ q=>q
 unfold ZY;rw[cV,WB hv hc (Ig hv hc) MC hx λd _ ne=>absurd Uk ne];rfl
theorem AGK:TF U []=U/\WA (pc U pw cj) []=pw/\U8 (pc U pw cj) []=cj:=by
 have hv:=h.val;have g:=CS hv hc;refine⟨?_,?_,?_⟩
 ·unfold TF;rw[cV];exact Dd rfl λi hi=>rfl
 ·unfold WA;rw[cV];refine Dd (d:=[]) h.1.2.1 λi hi=>?_
  have OQ:i<U.length:=hi;have ho:=hv.o i hi;have hl:=h.2.2.2 i OQ;unfold pJ;rw[T6,if_neg A0,AK4 hv hc hi,Ul h hc ((hv.pw i hi).mono hv (AE _))];exact A4K hl.1.1
 unfold U8;rw[cV,DG];refine Dd (d:=[]) h.1.2.2 λi hi=>?_
 have OQ:i<U.length:=hi;have hl:=h.2.2.2 i OQ;unfold L8;rw[cV];have e0:(List.range (pc U pw cj).n).getD i 0=i:=by simp[A5,hi]
 rw[e0];refine List.ext_getElem (by rw[A4,CC,DG];have:=hl.2.1;show U.length-(i+1)=_;omega) λk h1 h2=>?_
 rw[List.getElem_map,List.getElem_drop,K8];have Q3:i+1+k<U.length:=by have:=hl.2.1;omega
 have ti:T (pc U pw cj) 0 (un i):=O9 hv (AE _) hi;have tj:T (pc U pw cj) 0 (un (i+1+k)):=O9 hv (AE _) Q3;have tc:=(hv.cj i (i+1+k) A0 Q3).mono hv (AE _);obtain⟨t,e⟩:=MB hv hc tj ti;rw[A6V hv hc (show i<i+1+k by omega) Q3]at e;have e2:=g.lc ti t tc e;unfold mV;rw[e2,Ul h hc tc];have e3:(pc U pw cj).cj i (i+1+k)=fl ((cj.getD i []).getD k []):=by show fl ((cj.getD i []).getD (i+1+k-i-1) [])=_;rw[show i+1+k-i-1=k by omega]
 rw[e3,A4K (hl.2.2 k h2).1];rw[A5,A9 h2];rfl
end
end
section
def A4L{U:C2}{pw:D4}{cj:E6}{us:List V}(hu:∀x∈us,T (pc U pw cj) 0 x):AON U (us.map (vec U.length)):=λk hk=>by
 rw[A4]at hk;have h1:(us.map (vec U.length)).getD k []=vec U.length us[k]:=by simp[hk]
 have h2:=hu us[k] (BK hk);rw[h1];refine⟨HB,λj hj=>?_⟩;rw[HB]at hj;have h3:=h2.r j (AE _) hj;have h4:(vec U.length us[k]).getD j 0=us[k] j:=by simp[vec,hj]
 have h5:(pc U pw cj).o j=U.getD j 0:=rfl;rw[h4];omega
def QM{a:AV}{k:Nat}(h:k<1):[a].getD k .j=a:=by
 obtain rfl:k=0:=A0;rfl
section
variable(U:C2)(pw:D4)(cj:E6)
set_option maxHeartbeats 4000000 in
def dV(hl:PR U pw cj)(hg:ADF U pw cj)(us)(hT:∀x∈us,T (pc U pw cj) 0 x)(hn:us.length<=U.length)(KW:TK (pc U pw cj) us=us):DZ prog 45 [AU U pw cj,.v 1 [D7 U.length us]] (.b true):=by
 have Q4:=hg.1.1.1
 have hx:=A4L hT
 have XU:DZ prog 40 [CI U pw cj] (.b true):=by
  have h1:=JI U pw cj hl;rw[KU ⟨hg.1,hg.2⟩]at h1;exact h1
 have hge:=jO U pw cj hg.1 hg.2 us A0 hT
 rw[KW]at hge
 have Xq:=ZF U pw cj A0 A0 A0 hT hT
 rw[KU rfl]at Xq
 have hie:∀k,k<us.length->DZ prog 101 [AU U pw cj,vi U.length (us.getD k z0)] (.b true):=λk hk=>by
  have NC:k<(us.map (vec U.length)).length:=by rw[A4];exact hk
  have h1:=TV U pw cj ((us.map (vec U.length)).getD k []) A0 (BW.ob (pw:=pw) (cj:=cj) hg.1.2.1) (by have:=(hx k NC).1;omega);rw[KU (hx k NC)]at h1;have e:ints ((us.map (vec U.length)).getD k [])=vi U.length (us.getD k z0):=by simp[hk,KF]
  rwa [e]at h1
 refine BI AY func45 rfl AP ntmps45 results45 (.b _) (λnx cX=>?_)
 refine kX ?_;refine A6 λN1 CW=>sQ λN hN=>?_;simp-dsimp-implicitDefEqProofs(disch:=omega)only[go_sem,C4,QM,CI,AU,D7,NM];refine AC.pure (.of (XU)) ?_;(try simp-dsimp-implicitDefEqProofs(disch:=omega)only[go_sem,C4,QM,CI,AU,D7,NM]);apply hN;refine DJ rfl ?_;apply AF;apply CW;refine A6 λN2 DN=>kX ?_;refine AA<|AM (α:=Nat) (λx=>sl 46 [(0,AU U pw cj),(14,.v 1 [D7 U.length us]),(15,.i .i64 1),(16,.i .i64 x)]) (λ_=>DD) (λx m=>x<=1) (λx=>1-x) (0) ?_ ?_ (λ_ _ h=>h) ?_
 ·omega
 ·exact GD
 rintro k m hk
 refine BH ?_;refine kX ?_;refine A6 λN3 DO=>AK ?_ ?_<;>intro h1
 ·apply AF;apply DO;refine A6 λN4 FD=>AA<|kX ?_;refine A6 λN5 ID=>kX ?_;refine AK ?_ ?_<;>intro h2
  ·exact absurd h2 A0
  apply AF;apply ID;refine A6 λN6 OR=>kX ?_;refine AA<|AM (α:=Nat) (λx=>sl 46 [(0,AU U pw cj),(6,D7 U.length us),(14,.v 1 [D7 U.length us]),(15,.i .i64 1),(16,.i .i64 k),(28,D7 U.length us),(29,.i .i64 us.length),(30,.i .i64 x)]) (λ_=>DD) (λx m=>x<=us.length) (λx=>us.length-x) (0) ?_ ?_ (λ_ _ h=>h) ?_
  ·omega
  ·exact GD
  rintro j m2 hj;refine BH ?_;refine kX ?_;refine A6 λN7 S6=>AK ?_ ?_<;>intro h3
  ·apply AF;apply S6;refine A6 λN8 VK=>AA<|kX ?_;refine sQ λN hN=>?_;simp-dsimp-implicitDefEqProofs(disch:=omega)only[go_sem,C4,QM,CI,AU,D7,NM];refine AC.pure (.of (hie j A0)) ?_;(try simp-dsimp-implicitDefEqProofs(disch:=omega)only[go_sem,C4,QM,CI,AU,D7,NM]);apply hN;refine DJ rfl ?_;apply AF;apply VK;apply rQ;simp-dsimp-implicitDefEqProofs(disch:=omega)only[go_sem,C4,QM,CI,AU,D7,NM];refine BB (j+1) ?_ ?_ ?_
   ·simp(disch:=omega) [EJ,EN,sl,DV,ints,rows,B6,CI,AU,D7,QM,NM,DV,C4]<;>omega
   ·omega
   exact AI
  apply AO;apply OR;refine sQ λN hN=>?_;(try simp-dsimp-implicitDefEqProofs(disch:=omega)only[go_sem,C4,QM,CI,AU,D7,NM]);refine AC.pure (.of (hge)) ?_;(try simp-dsimp-implicitDefEqProofs(disch:=omega)only[go_sem,C4,QM,CI,AU,D7,NM])
  refine AC.pure (.of (Xq)) ?_;(try simp-dsimp-implicitDefEqProofs(disch:=omega)only[go_sem,C4,QM,CI,AU,D7,NM])
  apply hN;refine DJ rfl ?_;apply AF;apply FD;apply rQ;simp-dsimp-implicitDefEqProofs(disch:=omega)only[go_sem,C4,QM,CI,AU,D7,NM];refine BB (k+1) ?_ ?_ ?_
  ·simp(disch:=omega) [EJ,EN,sl,DV,ints,rows,B6,CI,AU,D7,QM,NM,DV,C4]<;>omega
  ·omega
  exact AI
 apply AO;apply DN;refine kX ?_;apply DQ;simp-dsimp-implicitDefEqProofs(disch:=omega)only[go_sem];skip
end
end
end Go.Proofs.YtgknbnkmilddhaaGreat