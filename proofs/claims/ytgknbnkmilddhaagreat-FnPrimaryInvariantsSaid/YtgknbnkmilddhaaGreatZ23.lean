import Derived.Test.YtgknbnkmilddhaaGreatZ04
import Derived.Test.YtgknbnkmilddhaaGreatZ22
set_option linter.all false

open Go.Proofs.Tryz
namespace Go.Proofs.YtgknbnkmilddhaaGreat
section
def bV(s:ByteArray)(i:Nat):Int:=((s.data.getD i 0).toNat:Int)
def Mt(s i):0<=bV s i/\bV s i<=255:=by
 have:=(s.data.getD i 0).toNat_lt;unfold bV;omega
def dS(s:ByteArray):Nat->Int
 |0=>0
 |i+1=>10*dS s i+(bV s i-48)
def QZ(s:ByteArray)(i:Nat):Prop:=48<=bV s i/\bV s i<=57
def ALC(s:ByteArray):Prop:=∀i,i<s.size->QZ s i
open Classical in
noncomputable def Cl(s:ByteArray):Int:=
 if s.size=0\/6<s.size\/(1<s.size/\bV s 0=48)then-1 else if ALC s then dS s s.size else-1
def A85{s}:∀i,(∀j,j<i->QZ s j)->0<=dS s i/\dS s i<10^i:=by
 intro i;induction i with
 |zero=>intro _;rw[dS];exact⟨HT,HT⟩
 | succ i ih=>
   intro h;have h1:=ih (λj hj=>h j A0);have h2:=h i A0;have h3:(10:Int)^(i+1)=10*10^i:=by rw[KL];omega
   unfold QZ at h2;rw[dS,h3];omega
def A3P{s i}(hi:i<=6)(h:∀j,j<i->QZ s j):0<=dS s i/\dS s i<1000000:=by
 have h1:=A85 i h;have h2:(10:Int)^i<=1000000:=by
  match i,hi with
  |0,_=>decide
  |1,_=>decide
  |2,_=>decide
  |3,_=>decide
  |4,_=>decide
  |5,_=>decide
  |6,_=>decide
 omega
def Co{s}(h:s.size=0\/6<s.size\/(1<s.size/\bV s 0=48)):Cl s= -1:=by rw[Cl,if_pos h]
def Cp{s k}(hk:k<s.size)(h:¬QZ s k):Cl s= -1:=by
 rw[Cl];split
 ·rfl
 rw[if_neg (λhd=>h (hd k hk))]
def Cq{s}(h:¬(s.size=0\/6<s.size\/(1<s.size/\bV s 0=48)))(hd:∀j,j<s.size->QZ s j):Cl s=dS s s.size:=by
 rw[Cl,if_neg h];exact if_pos (show ALC s from hd)
def A3Q{s k}(hd:∀j,j<k->QZ s j)(hk:QZ s k):∀j,j<k+1->QZ s j:=by
 intro j hj;by_cases e:j=k
 ·subst e;exact hk
 exact hd j A0
def w8{n}(h0:0<=n)(h1:n<=255):IntKind.u8.wrap n=n:=by
 simp only[IntKind.wrap,IntKind.bits,IntKind.signed,Bool.false_and,EG,if_false];omega
set_option maxHeartbeats 2000000 in theorem nL (s):DZ prog 277 [.s s] (.i .i64 (Cl s)):=by
 refine BI AY func277 rfl AP ntmps277 results277 (.i _ _) (λnx cX=>?_)
 refine CT ?_;refine A6 λN1 CW=>sQ λN hN=>?_;refine BH ?_;refine J5.mk' (λh1=>?_) (λh1=>?_)
 ·try simp only[cn]at h1
  refine BH ?_
  refine J5.mk' (λh2=>?_) (λh2=>?_)
  ·try simp only[cn]at h2
   refine BH ?_
   refine J5.mk' (λh3=>?_) (λh3=>?_)
   ·(try simp only[cn]at h3);refine BH ?_
    apply hN;refine AK ?_ ?_<;>intro h4
    ·refine CT ?_;refine BQ ?_;exact congrArg _ (Co (.inr (.inr ⟨A0,h4⟩))).symm
    have fX:¬(s.size=0\/6<s.size\/(1<s.size/\bV s 0=48)):=by
     rintro(h|h|⟨_,h⟩)
     ·omega
     ·omega
     exact h4 h
    apply AF;apply CW;refine CT ?_;refine A6 λN2 DN=>CT ?_;refine AA<|AM (α:=Nat) (λx=>sl 48 [(0,.s s),(3,.i .i64 (dS s x)),(4,.i .i64 x)]) (λ_=>DD) (λx m=>x<=s.size/\∀j,j<x->QZ s j) (λx=>s.size-x) (0) ?_ ?_ (λ_ _ h=>h) ?_
    ·exact⟨A0,by intro j hj;omega⟩
    ·simp(disch:=omega) [EJ,EN,sl,dS]
    rintro k m ⟨hk,hd⟩;have hv:=A3P (s:=s) (i:=k) A0 hd;have hb:=Mt s k;refine A6 λN3 DO=>CT ?_;refine AK ?_ ?_<;>intro h5
    ·have NC:k<s.size:=A0;apply AF;apply DO;refine A6 λN4 FD=>AA<|A6 λN5 ID=>?_;refine sQ λN hN=>?_;refine BH ?_;refine J5.mk' (λh6=>?_) (λh6=>?_)
     ·(try simp only[cn]at h6);refine BH ?_
      apply hN;refine AK ?_ ?_<;>intro h7
      ·refine CT ?_;refine BQ ?_;exact congrArg _ (Cp NC (λhd=>by unfold QZ bV at hd;omega)).symm
      have Ny:QZ s k:=by unfold QZ bV;omega
      apply AF;apply ID;apply rQ;simp-dsimp-implicitDefEqProofs(disch:=omega)only[go_sem,w8];apply FD;refine K4 ?_;refine BB (k+1) ?_ ?_ ?_
      ·simp(disch:=omega) [EJ,EN,sl,dS,bV,DV,w8]
      ·exact⟨A0,A3Q hd Ny⟩
      exact AI
     (try simp only[cn]at h6);refine BH ?_
     apply hN;refine HU rfl ?_;refine CT ?_;refine BQ ?_;exact congrArg _ (Cp NC (λhd=>by unfold QZ bV at hd;omega)).symm
    obtain rfl:k=s.size:=A0;apply AO;apply DN;refine sQ λN hN=>?_;simp-dsimp-implicitDefEqProofs(disch:=omega)only[go_sem,w8];apply hN;refine BQ ?_;exact congrArg _ (Cq fX hd).symm
   try simp only[cn]at h3
   have fX:¬(s.size=0\/6<s.size\/(1<s.size/\bV s 0=48)):=by
    rintro(h|h|⟨h,_⟩)<;>omega
   refine BH ?_
   apply hN;refine DJ rfl ?_;apply AF;apply CW;refine CT ?_;refine A6 λN6 OR=>CT ?_;refine AA<|AM (α:=Nat) (λx=>sl 48 [(0,.s s),(3,.i .i64 (dS s x)),(4,.i .i64 x)]) (λ_=>DD) (λx m=>x<=s.size/\∀j,j<x->QZ s j) (λx=>s.size-x) (0) ?_ ?_ (λ_ _ h=>h) ?_
   ·exact⟨A0,by intro j hj;omega⟩
   ·simp(disch:=omega) [EJ,EN,sl,dS]
   rintro k m ⟨hk,hd⟩;have hv:=A3P (s:=s) (i:=k) A0 hd;have hb:=Mt s k;refine A6 λN7 S6=>CT ?_;refine AK ?_ ?_<;>intro h8
   ·have NC:k<s.size:=A0;apply AF;apply S6;refine A6 λN8 VK=>AA<|A6 λN9 ZW=>?_;refine sQ λN hN=>?_;refine BH ?_;refine J5.mk' (λh9=>?_) (λh9=>?_)
    ·(try simp only[cn]at h9);refine BH ?_
     apply hN;refine AK ?_ ?_<;>intro Df
     ·refine CT ?_;refine BQ ?_;exact congrArg _ (Cp NC (λhd=>by unfold QZ bV at hd;omega)).symm
     have Ny:QZ s k:=by unfold QZ bV;omega
     apply AF;apply ZW;apply rQ;simp-dsimp-implicitDefEqProofs(disch:=omega)only[go_sem,w8];apply VK;refine K4 ?_;refine BB (k+1) ?_ ?_ ?_
     ·simp(disch:=omega) [EJ,EN,sl,dS,bV,DV,w8]
     ·exact⟨A0,A3Q hd Ny⟩
     exact AI
    (try simp only[cn]at h9);refine BH ?_
    apply hN;refine HU rfl ?_;refine CT ?_;refine BQ ?_;exact congrArg _ (Cp NC (λhd=>by unfold QZ bV at hd;omega)).symm
   obtain rfl:k=s.size:=A0;apply AO;apply OR;refine sQ λN hN=>?_;simp-dsimp-implicitDefEqProofs(disch:=omega)only[go_sem,w8];apply hN;refine BQ ?_;exact congrArg _ (Cq fX hd).symm
  try simp only[cn]at h2
  refine BH ?_
  apply hN;refine HU rfl ?_;refine CT ?_;refine BQ ?_;exact congrArg _ (Co (.inr (.inl A0))).symm
 try simp only[cn]at h1
 refine BH ?_
 apply hN;refine HU rfl ?_;refine CT ?_;refine BQ ?_;exact congrArg _ (Co (.inl A0)).symm
def nM{P Q:Prop}(q:Q)(e:Q->P:=by intro q;(try simp-dsimp-implicitDefEqProofs(disch:=omega)only[go_sem,kO,kP,kR,CI,strs]);exact q):P:=e q
def Cs{cX n ops y s s1 K}(q:AW cX prog y s1 K)(e:HA ops s s1:=by intro N hN;(try simp-dsimp-implicitDefEqProofs(disch:=omega)only[go_sem,kO,kP,kR,CI,strs]);exact hN):GZ cX n ops y s K:=HF q e
def VF{cX n ops y s s1 K}(q:AW cX prog y s1 K)(e:HA ops s s1:=by intro N hN;(try simp-dsimp-implicitDefEqProofs(disch:=omega)only[go_sem,kV,B6,IK,CB,EY,ints,M8,CI,AU,rows]);exact hN):GZ cX n ops y s K:=HF q e
def fF{cX n ops s}{K:Exit->St->Prop}{Q:Prop}(q:Q)(e:Q->KO env prog ops s.nx ops 0 ⟨s.t,s.H,s.nx+ops.length⟩ (K .normal):=by intro q;(try simp-dsimp-implicitDefEqProofs(disch:=omega)only[go_sem,kV,B6,IK,CB,EY,ints,M8,CI,AU,rows]);exact q):AW cX prog (.region n ops.toArray false) s K:=rQ (e q)
def fG{P Q:Prop}(q:Q)(e:Q->P:=by intro q;(try simp-dsimp-implicitDefEqProofs(disch:=omega)only[go_sem,kV,B6,IK,CB,EY,ints,M8,CI,AU,rows]);exact q):P:=e q
def A3X{P Q:Prop}{R0:Prop}(r0:R0)(q:Q)(e:R0->Q->P:=by intro h0 q;(try simp-dsimp-implicitDefEqProofs(disch:=omega)only[go_sem,BD,AR,B4,BE,AT,AS,kV,B6,IK,CB,EY,GJ,ES,ET,ints,M8,CI,AU,rows,DV,h0]);exact q):P:=e r0 q
end
section
def Jh(n b:Int):Option Int:=if 1<=b-97+1/\b-97+1<=n then some (b-97+1)else if 1<=b-65+1/\b-65+1<=n then some (-(b-65+1))else none
def Ct(n:Int)(s:ByteArray)(i:Nat):C2:=(List.range i).map λj=>(Jh n (bV s j)).getD 0
def Hj(n:Int)(s:ByteArray):Prop:=∀j,j<s.size->Jh n (bV s j)≠none
open Classical in
noncomputable def A86(n:Int)(s:ByteArray):C2:=if s.toList=(⟨#[49]⟩:ByteArray).toList then []else if Hj n s then Ct n s s.size else []
open Classical in
noncomputable def A87(n:Int)(s:ByteArray):Bool:=if s.toList=(⟨#[49]⟩:ByteArray).toList then true else if Hj n s then decide ((s.size:Int)>0)else false
noncomputable def Cu(n:Int)(s:ByteArray):AV:= .t [ints (A86 n s),.b (A87 n s)]
def A3R{x}(h:NR x)(e):NR (.t [x,.b e]):= .t _ λk y hk=>by
 match k,hk with
 |0,hk=>cases hk;exact h
 |1,hk=>cases hk;exact .b _
def vY{H a b x}(h:Vw H a b):Vw H (.t [a,x]) (.t [b,x]):= .t _ _ rfl λk u v hu hv=>by
 match k,hu,hv with
 |0,hu,hv=>cases hu;cases hv;exact h
 |1,hu,hv=>cases hu;cases hv;exact .refl _
def Hk(n s i):(Ct n s i).length=i:=by simp[Ct]
def AFB{n s i l}(h:Jh n (bV s i)=some l):Ct n s (i+1)=Ct n s i++[l]:=by
 rw[Ct,CX,AZ,BR,BU,h];rfl
def Mu(a):NR (ints a):= .v _ _ λk x h=>by
 rw[BF]at h;obtain⟨y,_,rfl⟩:=CG.1 h;exact .i _ _
noncomputable def lcs(n:Int)(s:ByteArray)(i:Nat):List AV:=(Ct n s i).map (.i .i64)
def Cv(n s i):(lcs n s i).length=i:=by rw[lcs,A4,Hk]
def AA5{n s i l}(h:Jh n (bV s i)=some l):lcs n s (i+1)=lcs n s i++[.i .i64 l]:=by
 rw[lcs,AFB h,AZ];rfl
def ALD{n b}(h:1<=b-97+1/\b-97+1<=n):Jh n b=some (b-97+1):=by rw[Jh,if_pos h]
def APU{n b}(h:¬(1<=b-97+1/\b-97+1<=n))(h2:1<=b-65+1/\b-65+1<=n):Jh n b=some (-(b-65+1)):=by rw[Jh,if_neg h,if_pos h2]
def APV{n b}(h:¬(1<=b-97+1/\b-97+1<=n))(h2:¬(1<=b-65+1/\b-65+1<=n)):Jh n b=none:=by rw[Jh,if_neg h,if_neg h2]
def A88{n s}(h:s.toList=(⟨#[49]⟩:ByteArray).toList):Cu n s= .t [ints [],.b true]:=by rw[Cu,A86,A87,if_pos h,if_pos h]
def AFC{n s k}(h:¬s.toList=(⟨#[49]⟩:ByteArray).toList)(hk:k<s.size)(hn:Jh n (bV s k)=none):Cu n s= .t [ints [],.b false]:=by
 have:¬Hj n s:=λha=>ha k hk hn
 rw[Cu,A86,A87,if_neg h,if_neg h,if_neg this,if_neg this]
def Tn{n s}(h:¬s.toList=(⟨#[49]⟩:ByteArray).toList)(ha:Hj n s):Cu n s= .t [.v s.size (lcs n s s.size),.b (decide ((s.size:Int)>0))]:=by
 rw[Cu,A86,A87,if_neg h,if_neg h,if_pos ha,if_pos ha,ints,Hk];rfl
def AA6{n s k l}(hd:∀j,j<k->Jh n (bV s j)≠none)(h:Jh n (bV s k)=some l):∀j,j<k+1->Jh n (bV s j)≠none:=by
 intro j hj;by_cases e:j=k
 ·subst e;rw[h];simp
 exact hd j A0
set_option maxHeartbeats 4000000 in theorem nN (n s)(hs:s.size<=2097152):DZ prog 278 [.i .i64 n,.s s] (Cu n s):=by
 refine DA AY func278 rfl AP ntmps278 results278 ((A3R (Mu _) _)) (λnx cX=>?_)
 refine CT ?_;refine A6 λN1 CW=>CT ?_;refine AK ?_ ?_<;>intro h1
 ·refine CT ?_;refine BQ ?_;rw[A88 h1];exact vY (Ci (cs:=[]) rfl)
 apply AF;apply CW;refine CT ?_;refine A6 λN2 DN=>CT ?_;refine AA<|AM (α:=Nat×Nat) (λx=>sl 53 [(0,.i .i64 n),(1,.s s),(6,.h x.2 0 x.1),(7,.i .i64 x.1)]) (λx=>CJ DD x.2 (some (lcs n s x.1))) (λx m=>x.1<=s.size/\x.2<m/\∀j,j<x.1->Jh n (bV s j)≠none) (λx=>s.size-x.1) ((0,_)) ?_ ?_ (vX (AD _ _ _)) ?_
 ·exact⟨by simp only;omega,AI,by intro j hj;simp only at hj;omega⟩
 ·exact FV
 rintro⟨k,id⟩ m ⟨hk,GF,hd⟩
 simp only at hk GF hd ⊢
 have hb:=Mt s k
 have Ij:0<=((s.data.getD k 0).toNat:Int)/\((s.data.getD k 0).toNat:Int)<=255:=hb
 have g1:(k+1)*8<=140737488355328:=A0
 have g2:k+1<=9223372036854775807:=A0
 have hle:k<=(lcs n s k).length:=by rw[Cv];exact A1 _
 have YA:List.take k (lcs n s k)=lcs n s k:=AJ (by rw[Cv];omega)
 refine A6 λN3 DO=>CT ?_;refine AK ?_ ?_<;>intro h2
 ·have NC:k<s.size:=A0;apply AF;apply DO;refine A6 λN4 FD=>AA<|A6 λN hN=>?_;refine C9 AY AP 14 AP ?_
  refine Zr ?_;apply hN;refine AA<|UN (Q7 _ 1 n) ?_;refine AK ?_ ?_<;>intro h3
  ·have hl:=ALD (b:=bV s k) ⟨h3.1,h3.2⟩;apply rQ;simp-dsimp-implicitDefEqProofs(disch:=omega)only[go_sem,YA,g1,g2,hle];apply FD;refine K4 ?_;refine⟨(k+1,_),?_,by rw[AA5 hl];exact vX (AD _ _ _),?_,?_⟩
   ·exact FV
   ·exact⟨by simp only;omega,AI,AA6 hd hl⟩
   exact AI
  refine UN (Q7 _ 1 n) ?_;refine AK ?_ ?_<;>intro h4
  ·have hl:=(APU (b:=bV s k) h3 ⟨h4.1,h4.2⟩).trans (congrArg some (SE _).symm);apply rQ;simp-dsimp-implicitDefEqProofs(disch:=omega)only[go_sem,YA,g1,g2,hle];apply FD;refine K4 ?_;refine⟨(k+1,_),?_,by rw[AA5 hl];exact vX (AD _ _ _),?_,?_⟩
   ·exact FV
   ·exact⟨by simp only;omega,AI,AA6 hd hl⟩
   exact AI
  refine CT ?_;refine BQ ?_;rw[AFC h1 NC (APV (b:=bV s k) h3 h4)];exact vY .nl
 obtain rfl:k=s.size:=A0
 apply AO;apply DN;refine CT ?_;refine BQ ?_;rw[Tn h1 hd];exact vY (Ci (Cv _ _ _))
end
section
def Cw(w:C2):Nat->Nat->Int
 |0=>λ_=>0
 |k+1=>D0 (Cw w k) (w.getD k 0-1).toNat (Cw w k (w.getD k 0-1).toNat+1)
def xY(n:Nat)(w:C2):C2:=vec n (Cw w w.length)
def A89(w):∀k j,0<=Cw w k j/\Cw w k j<=k:=by
 intro k;induction k with
 |zero=>intro j;simp[Cw]
 | succ k ih=>
   intro j;have h1:=ih j;have h2:=ih (w.getD k 0-1).toNat;simp only[Cw,D0];split<;>omega
def vZ(n w):(xY n w).length=n:=by simp[xY,vec]
set_option maxHeartbeats 2000000 in theorem nO (n:Nat)(w:C2)(hn:n<=1000)(hw:w.length<=1048576)(hl:∀k,k<w.length->1<=w.getD k 0/\w.getD k 0<=n):∀nx,AC prog 279 nx DD [.i .i64 n,ints w] (λDI H' r=>∃id,r= .t [.h id 0 n,.b true]/\(nx<=id/\id<DI)/\H' id=some ((xY n w).map (.i .i64))):=by
 intro nx
 refine ED AY func279 rfl AP ntmps279 results279 (λcX=>?_)
 refine EU ?_;refine EU ?_;refine A6 λN1 CW=>EU ?_;refine AA<|AM (α:=Nat) (λx=>sl 38 [(1,ints w),(6,.h (nx+3) 0 n),(7,.i .i64 x)]) (λx=>CJ DD (nx+3) (some (JP n (Cw w x)))) (λx m=>x<=w.length/\nx+4<=m) (λx=>w.length-x) (0) ?_ ?_ (by intro d cs h;simp only[CJ,IL,Cw]at h ⊢;exact h) ?_
 ·exact⟨A0,AI⟩
 ·simp(disch:=omega) [EJ,EN,sl,DV,ints,rows,B6,ints,CB,DV]<;>omega
 rintro k m ⟨hk,hm⟩
 refine BH ?_;have Ob:=hl k
 refine A6 λN2 DN=>EU ?_;refine AK ?_ ?_<;>intro h1
 ·have ARN:=Ob A0;apply AF;apply DN;refine A6 λN3 DO=>AA<|A6 λN4 FD=>?_;refine EU ?_;refine AK ?_ ?_<;>intro h2
  ·omega
  have hvb:=A89 w k (w.getD k 0-1).toNat;apply AF;apply FD;refine C9 AY AP 16 AP ?_;refine Ka ?_;apply DO;refine LG ?_;refine⟨k+1,?_,by intro d cs h;exact h,?_,?_⟩
  ·simp(disch:=omega) [EJ,EN,sl,DV,ints,rows,B6,ints,CB,DV]<;>omega
  ·exact⟨AI,AI⟩
  exact AI
 have v7:k=w.length:=A0
 apply AO;apply CW;refine EU ?_;refine BQ ?_;refine⟨_,rfl,⟨A0,A0⟩,?_⟩
 rw[v7,AD,xY,VZ]
structure Shp(n:Nat)(U:C2)(pw:D4)(cj:E6):Prop where
 o:U.length=n
 p:pw.length=n
 c:cj.length=n
 r:∀i,i<n->(cj.getD i []).length=n-1-i
 pl:FC pw
 cl:NU cj
def A3S(U pw cj):NR (CI U pw cj):=by
 unfold CI;exact .g _ λk x hk=>by
  match k,hk with
  |0,hk=>cases hk;exact Mu _
  |1,hk=>cases hk;exact zT _
  |2,hk=>cases hk;exact Zx _
def AFD(x y):(J8 [32,x,94,y]).size=4:=rfl
def q_0(x y):(J8 [32,x,94,y]).data.getD 0 0=32:=rfl
def q_1(x y):(J8 [32,x,94,y]).data.getD 1 0=x:=rfl
def q_2(x y):(J8 [32,x,94,y]).data.getD 2 0=94:=rfl
def q_3(x y):(J8 [32,x,94,y]).data.getD 3 0=y:=rfl
def q_e(x y):(J8 [32,x,94,y]).extract 3 4=J8 [y]:=rfl
def kR:Int.toNat 3=3:=rfl
def APW:(((2:Nat):Int) !=2)=false:=rfl
def APX:(((4:Nat):Int) !=4)=false:=rfl
def APY:(((32:UInt8).toNat:Int) !=32)=false:=rfl
def APZ:(((94:UInt8).toNat:Int) !=94)=false:=rfl
def gG.vwA{a m t k n id:Nat}{G H':HP}{r P B:AV}{U:C2}{x:C2}{rs cb':List AV}{X:C2->D4}{Y:C2->E6}
    {cpf:AV->List AV} (NA:∀(H':HP) (r1:AV) (x:C2) (is:List Nat) (a' m':Nat),Ow H' r1 (ints x) is->is.Nodup->(∀i∈is,(i<a\/m<=i)/\a'<=i/\i<m')->H' t=some (DH rs k [r1])->(∀i,a<=i->i<m->i≠t->H' i=G i)->m<=m'->a'<=a->gG a' m' H' r P B U (X x) (Y x) (cpf r1) cb')
    (hv:H' id=some (x.map (.i .i64))) (hn:n=x.length) (GF:id<a/\id<m) (ht:H' t=some (DH rs k [.h id 0 n])) (hk:∀i,a<=i->i<m->i≠t->H' i=G i):∃ids,Own id m H' (.g [r,P,B]) (Go.Proofs.YtgknbnkmilddhaaGreat.CI U (X x) (Y x)) ids:=
  (NA H' _ x [id] id m (Ow.ints hv hn) B5 (λi hi=>by rw[BY.1 hi];omega) ht hk (A1 _) A0).1.own
set_option maxHeartbeats 8000000 in
def VD(n:Nat)(U:C2)(pw:D4)(cj:E6)(hn:n<=6)(hs:Shp n U pw cj)(ho:∀i,i<n->0<=U.getD i 0/\U.getD i 0<10)(l r:List UInt8)(x y:UInt8)(hll:l.length<=2097152)(VX:r.length<=2097152)(hsp:kQ 61 l=[[32,x,94,y],r])(w:C2)(oE:w.length<=1048576)(hw:Cu n (J8 r)= .t [ints w,.b true])(hwv:∀k,k<w.length->1<=w.getD k 0/\w.getD k 0<=n)(xi:Nat)(hx:(x.toNat:Int)=97+xi)(lI:xi<n)(ZZ:C2)(pw2:D4)(cj2:E6)(oV:((J8 [y]).toList=(dg (U.getD xi 0)).toList/\(ZZ,pw2,cj2)=(U,pw.set xi (xY n w),cj))\/(¬(J8 [y]).toList=(dg (U.getD xi 0)).toList/\∃yi:Nat,(y.toNat:Int)=97+yi/\yi<xi/\(ZZ,pw2,cj2)=(U,pw,cj.set yi ((cj.getD yi []).set (xi-yi-1) (xY n w))))):
 DZ prog 273 [CI U pw cj,.s (J8 l)] (.t [CI ZZ pw2 cj2,.b true]):=by
 have Ww:DZ prog 271 [.s (J8 l),.i .u8 61] (strs [J8 [32,x,94,y],J8 r]):=by
  have:=SL (J8 l) 61 (by rw[M8];omega);rwa [Tl,hsp]at this
 have hon:=hs.o
 subst hon
 have A3T:DZ prog 278 [.i .i64 U.length,.s (J8 r)] (.t [ints w,.b true]):=by
  have:=nN U.length (J8 r) (by rw[M8];omega);rwa [hw]at this
 have AQ0:(x.toNat:Int)-97=xi:=A0
 have hyb:=y.toNat_lt
 have hxa:decide ((xi:Int)<0)=false:=decide_eq_false A0
 have hxb:decide ((xi:Int)>=U.length)=false:=decide_eq_false A0
 have hxc:decide ((U.length:Int)<=xi)=false:=decide_eq_false A0
 refine DA AY func273 rfl AP ntmps273 results273 ((A3R (A3S _ _ _) _)) (λnx cX=>?_)
 refine Cs ?_;refine BN 2 nx [ints U,rows pw,B6 cj] rfl J4 ?_
 refine BH ?_;refine Cs ?_;refine sQ λN hN=>?_;simp-dsimp-implicitDefEqProofs(disch:=omega)only[go_sem,kO,kP,kR,CI,strs];refine AC.pure (.of (Ww)) ?_;(try simp-dsimp-implicitDefEqProofs(disch:=omega)only[go_sem,kO,kP,kR,CI,strs]);apply hN;refine A6 λN1 CW=>sQ λN hN=>?_;simp-dsimp-implicitDefEqProofs(disch:=omega)only[go_sem,kO,kP,kR,APW,APY,APX,APZ,CI,q_0,q_2,AFD,strs];apply hN;refine DJ rfl ?_;apply AF;apply CW;refine sQ λN hN=>?_;simp-dsimp-implicitDefEqProofs(disch:=omega)only[go_sem,kO,kP,kR,CI,strs];refine AC.pure (.of (A3T)) ?_;(try simp-dsimp-implicitDefEqProofs(disch:=omega)only[go_sem,kO,kP,kR,CI,strs]);apply hN;refine A6 λN2 DN=>Cs ?_;refine DJ rfl ?_;apply AF;apply DN;refine sQ λN hN=>?_;refine nM ?_;refine(AC.frame (nO U.length w A0 oE hwv _)).CD ?_
 rintro m0 H0 rv hm0 ⟨G9,⟨idv,rfl,⟨hv1,Vt⟩,hv9⟩,ALE,AFE⟩
 have hv3:=(AFE idv hv1).trans hv9
 have AQ1:H0 (nx+1)=some [.nl,.nl,.nl]:=by rw[ALE _ A0];simp(disch:=omega)only[AB,AD]
 refine nM ?_
 apply hN;refine A6 λN hN=>C9 AY AP 14 AP ?_
 (try simp-dsimp-implicitDefEqProofs(disch:=omega)only[go_sem,BD,AR,B4,BE,AT,AS,GJ,ES,ET,kO,kP,kR,CI,q_1,q_3,AFD,strs,DV,AQ0]);apply hN;refine A6 λN3 DO=>sQ λN hN=>?_;simp-dsimp-implicitDefEqProofs(disch:=omega)only[go_sem,kO,kP,kR,CI,strs,hxa,hxb,hxc];apply hN;refine DJ rfl ?_;apply AF;apply DO;refine sQ λN hN=>?_;refine nM ?_;refine(AC.frame (xV U pw cj A0 hs.pl hs.cl _)).CD ?_
 rintro m1 H1 rr SF ⟨G0,⟨r0,P,B,cp,cb,rfl,hW⟩,IA,LH⟩
 have hW1:=hW.BV (H':=H1) (λi i1 i2=>LH i i1) (A1 _)
 have hPo:=hW1.2.1.one
 have Wg:=hW1.2.2.1.one
 have Il:=hW1.r0
 (try simp-dsimp-implicitDefEqProofs(disch:=omega)only[go_sem,hPo,Wg,Il])
 apply hN;refine A6 λN4 FD=>BX (λG1 K6=>?_);dsimp only at K6
 have hq:G1 (m0+14+11+2)=some [r0,P,B]:=by rw[<-K6];simp(disch:=omega)only[AD]
 have cH:G1 (nx+1)=some [.nl,.nl,.nl]:=by rw[<-K6,AB _ _ A0,IA _ A0];exact AQ1
 have hv4:G1 idv=some ((xY U.length w).map (.i .i64)):=by rw[<-K6,AB _ _ A0,IA _ A0];exact hv3
 have hW2:=hW1.BV (H':=G1) (λi i1 i2=>by rw[<-K6];exact D8) (A1 _)
 have hgi:=CB (xs:=U) (k:=xi) lI
 refine A6 λN hN=>C9 AY AP 11 AP ?_
 (try simp-dsimp-implicitDefEqProofs(disch:=omega)only[go_sem,CQ,BD,AR,B4,BE,AT,AS,GJ,ES,ET,ints,kO,kP,kR,CI,q_e,AFD,strs,DV,hgi]);refine⟨_,.of (S1 (U.getD xi 0) (ho xi lI).1 (ho xi lI).2),?_⟩
 refine nM ?_
 apply hN;refine AK ?_ ?_<;>intro h1
 ·have hdg:(J8 [y]).toList=(dg (U.getD xi 0)).toList:=by simpa using h1
  obtain⟨_,e⟩:=oV.resolve_right (λh=>h.1 hdg);simp only[RD]at e;obtain⟨rfl,rfl,rfl⟩:=e;have hxp:xi<pw.length:=by rw[hs.p];exact lI
  obtain⟨p,rfl,hp,fO,Pg,NA⟩:=hW2.bO (k:=xi) hxp;refine sQ λN hN=>?_;simp-dsimp-implicitDefEqProofs(disch:=omega)only[go_sem,CQ,kO,kP,kR,CI,strs,hq,hp,fO];apply hN;refine sQ λN hN=>?_;simp-dsimp-implicitDefEqProofs(disch:=omega)only[go_sem,kO,kP,kR,CI,strs,cH,hq,hPo,Wg,Il];apply hN;refine BQ ?_;refine vY ?_
  obtain⟨ids,ho⟩:=gG.vwA NA (H':=CJ (CJ G1 p (some (DH cp xi [.h idv 0 ZZ.length]))) (nx+1) (some [r0,.h p 0 pw.length,B])) (id:=idv) (n:=ZZ.length) (by simp(disch:=omega)only[AB];exact hv4) (vZ _ _).symm A0 J4 (λi i1 i2 i3=>by exact D8);exact ho.1.vw
 have hdg:¬(J8 [y]).toList=(dg (U.getD xi 0)).toList:=by simpa using h1
 obtain⟨_,yi,hy,hyx,e⟩:=oV.resolve_left (λh=>hdg h.1)
 simp only[RD]at e
 obtain⟨rfl,rfl,rfl⟩:=e
 apply AF;apply FD;refine A6 λN5 ID=>sQ λN hN=>?_;refine nM ?_;refine J5.mk' (λh2=>?_) (λh2=>?_)
 ·try simp only[cn]at h2
  refine nM ?_
  apply hN;refine AK ?_ ?_<;>intro h3
  ·omega
  have o8:yi<cj.length:=by rw[hs.c];omega
  have qO:xi-yi-1<(cj.getD yi []).length:=by rw[hs.r yi A0];omega
  obtain⟨b,q,ds,rfl,hb,KW,b12,Sy,hd,Lj,q12,Dw,NA⟩:=hW2.kB o8 qO;have ey:(y.toNat:Int)-97=yi:=A0;have exy:((xi:Int)-yi-1).toNat=xi-yi-1:=A0;apply AF;apply ID;refine sQ λN hN=>?_;simp-dsimp-implicitDefEqProofs(disch:=omega)only[go_sem,CQ,kO,kP,kR,CI,strs,hq,hb,KW,Sy,hd,Lj,ey,exy];apply hN;refine sQ λN hN=>?_;simp-dsimp-implicitDefEqProofs(disch:=omega)only[go_sem,kO,kP,kR,CI,strs,cH,hq,hPo,Wg,Il];apply hN;refine BQ ?_;refine vY ?_
  obtain⟨ids,ho⟩:=gG.vwA NA (H':=CJ (CJ G1 q (some (DH ds (xi-yi-1) [.h idv 0 ZZ.length]))) (nx+1) (some [r0,P,.h b 0 cj.length])) (id:=idv) (n:=ZZ.length) (by simp(disch:=omega)only[AB];exact hv4) (vZ _ _).symm A0 J4 (λi i1 i2 i3=>by exact D8);exact ho.1.vw
 try simp only[cn]at h2
 omega
end
section
def A3U:List UInt8->Option Int
 |[c]=>if c=50\/c=51\/c=53\/c=55 then some ((c.toNat:Int)-48)else none
 |_=>none
def Hl:List (List UInt8)->Option C2
 |[]=>some []
 |p::ps=>(A3U p).bind λd=>(Hl ps).bind λds=>some (d::ds)
def A3V(l:List UInt8):Option C2:=if l=[49]then some []else (Hl (kQ 32 l)).bind λU=>if U.length<=6/\PC U U.length<=729 then some U else none
def A8A{c}(h1:48<=(c.toNat:Int))(h2:(c.toNat:Int)<=57):Cl (J8 [c])=(c.toNat:Int)-48:=by
 have hb:bV (J8 [c]) 0=(c.toNat:Int):=rfl;have hs:(J8 [c]).size=1:=rfl;rw[Cq (by rw[hs];omega) (λj hj=>by
  obtain rfl:j=0:=by rw[hs]at hj;omega
  unfold QZ;rw[hb];omega),hs]
 simp only[dS,hb];omega
def w9{p d}(h:A3U p=some d):Cl (J8 p)=d/\O8 d:=by
 unfold A3U at h;split at h
 ·split at h
  ·rename_i c hc;cases h;rcases hc with rfl|rfl|rfl|rfl
   ·exact⟨A8A HT HT,.inl rfl⟩
   ·exact⟨A8A HT HT,.inr (.inl rfl)⟩
   ·exact⟨A8A HT HT,.inr (.inr (.inl rfl))⟩
   exact⟨A8A HT HT,.inr (.inr (.inr rfl))⟩
  cases h
 cases h
def Hm:∀{ps:List (List UInt8)} {U:C2},Hl ps=some U->U.length=ps.length/\∀k,k<ps.length->A3U (ps.getD k [])=some (U.getD k 0):=by
 intro ps;induction ps with
 |nil=>intro U h;cases h;exact⟨rfl,λk hk=>by simp at hk⟩
 | cons p ps ih=>
   intro U h;rw[Hl]at h;cases hd:A3U p with
   |none=>rw[hd]at h;cases h
   | some d=>
     cases hds:Hl ps with
     |none=>rw[hd,hds]at h;cases h
     | some ds=>
       rw[hd,hds]at h;cases h;obtain⟨h1,h2⟩:=ih hds;refine⟨by simp[h1],λk hk=>?_⟩;cases k with
       |zero=>simpa using hd
       |succ k=>simpa using h2 k (by simpa using hk)
set_option maxHeartbeats 4000000 in theorem kS (l U)(hl:l.length<=2097152)(h:A3V l=some U):DZ prog 272 [.s (J8 l)] (.t [ints U,.b true]):=by
 have Ww:DZ prog 271 [.s (J8 l),.i .u8 32] (strs ((kQ 32 l).map J8)):=by
  have:=SL (J8 l) 32 (by rw[M8];omega);rwa [Tl]at this
 refine DA AY func272 rfl AP ntmps272 results272 ((A3R (Mu _) _)) (λnx cX=>?_)
 refine CT ?_;refine CT ?_;refine A6 λN1 CW=>CT ?_;refine AK ?_ ?_<;>intro h1
 ·have UC:l=[49]:=toL_eq.1 h1;have iJ:U=[]:=by rw[A3V,if_pos UC]at h;cases h;rfl
  refine CT ?_;refine BQ ?_;rw[iJ]
  exact vY (Vw.fr (AD _ _ _) rfl)
 have UC:¬l=[49]:=λe=>h1 (toL_eq.2 e)
 rw[A3V,if_neg UC]at h
 obtain⟨ds,hds,h⟩:=E8.1 h
 have zB:ds.length<=6/\PC ds ds.length<=729:=by
  apply AN;intro hn;rw[if_neg hn]at h;cases h
 rw[if_pos zB]at h
 cases h
 obtain⟨Lj,hdg⟩:=Hm hds
 have SJ:∀i,i<U.length->O8 (U.getD i 0):=λi hi=>(w9 (hdg i A0)).2
 apply AF;apply CW;refine UN (Ww) ?_;refine A6 λN2 DN=>CT ?_;refine AA<|AM (α:=Nat×Nat) (λx=>sl 40 [(4,.h x.2 0 x.1),(5,strs ((kQ 32 l).map J8)),(6,.i .i64 x.1)]) (λx=>CJ DD x.2 (some ((U.take x.1).map (.i .i64)))) (λx m=>x.1<=U.length/\x.2<m) (λx=>U.length-x.1) ((0,nx+2)) ?_ ?_ (by intro d cs hd;exact hd) ?_
 ·exact⟨B5,AI⟩
 ·simp(disch:=omega) [EJ,EN,sl,strs]
 rintro⟨k,id⟩ m ⟨hk,GF⟩
 refine BH ?_;dsimp only at hk GF ⊢
 have hlen:((kQ 32 l).map J8).length=U.length:=by rw[A4];omega
 refine A6 λN3 DO=>sQ λN hN=>?_;simp-dsimp-implicitDefEqProofs(disch:=omega)only[go_sem,strs,hlen];apply hN;refine AK ?_ ?_<;>intro h2
 ·have eA:k<U.length:=A0;have hg:=Hi (kQ 32 l) (k:=k) A0;obtain⟨X8,It⟩:=w9 (hdg k A0);have Ix:=FQ It;have Vt:=nL (J8 ((kQ 32 l).getD k []));rw[X8]at Vt;have htf:tf (O8 (U.getD k 0))=true:=KU It;have Dp:decide ((k:Int)>=6)=false:=decide_eq_false A0;have Jd:decide (6<=(k:Int))=false:=decide_eq_false A0;have YA:U.take (k+1)=U.take k++[U.getD k 0]:=by
   rw[B7 eA];simp[eA]
  have hle:((U.take k).map (AV.i .i64)).length=k:=by rw[A4,B1];omega
  have htt:List.take k ((U.take k).map (AV.i .i64))=(U.take k).map (.i .i64):=AJ A0;apply AF;apply DO;refine A6 λN4 FD=>AA<|sQ λN hN=>?_;simp-dsimp-implicitDefEqProofs(disch:=omega)only[go_sem,CQ,strs,hlen,hg];refine AC.pure (.of (Vt)) ?_;(try simp-dsimp-implicitDefEqProofs(disch:=omega)only[go_sem]);apply hN;refine A6 λN5 ID=>sQ λN hN=>?_;simp-dsimp-implicitDefEqProofs(disch:=omega)only[go_sem,htf,Dp,Jd];refine AC.pure (.of (SI (U.getD k 0))) ?_;(try simp-dsimp-implicitDefEqProofs(disch:=omega)only[go_sem,C4,htf,Dp,Jd]);apply hN;refine DJ rfl ?_;apply AF;apply ID;apply rQ;simp-dsimp-implicitDefEqProofs(disch:=omega)only[go_sem,hle,htt];apply FD;refine K4 ?_;refine⟨(k+1,_),?_,by rw[YA,AZ];exact vX (AD _ _ _),?_,?_⟩
  ·simp(disch:=omega) [EJ,EN,sl,DV,strs,hlen]
  ·exact⟨AI,AI⟩
  exact AI
 have v7:k=U.length:=A0
 rw[v7,B2]
 have hsp:=qU SJ U.length (A1 _)
 have ALF:decide (XE U U.length<=729)=true:=decide_eq_true A0
 apply AO;apply DN;refine sQ λN hN=>?_;refine eK ALF ?_;refine AC.pure (.Va (NK U zB.1 SJ) (.cons (Vw.fr (AD _ _ _) (A4 ..)) .nil) (.i _ _)) ?_
 refine BH ?_
 apply hN;refine BQ ?_;rw[ALF]
 exact vY (Vw.fr (AD _ _ _) (A4 ..))
def kT(i:Nat):List UInt8:=[UInt8.ofNat (97+i)]
def A8B(i:Nat)(h:i<6):Mr [(i:Int)+1]=J8 (kT i):=by
 have h0:Mr [((0:Nat):Int)+1]=J8 (kT 0):=AP;have h1:Mr [((1:Nat):Int)+1]=J8 (kT 1):=AP;have h2:Mr [((2:Nat):Int)+1]=J8 (kT 2):=AP;have h3:Mr [((3:Nat):Int)+1]=J8 (kT 3):=AP;have h4:Mr [((4:Nat):Int)+1]=J8 (kT 4):=AP;have h5:Mr [((5:Nat):Int)+1]=J8 (kT 5):=AP;have hi:i=0\/i=1\/i=2\/i=3\/i=4\/i=5:=A0;rcases hi with rfl|rfl|rfl|rfl|rfl|rfl<;>assumption
def S2(i:Nat)(h:i<6):DZ prog 281 [.i .i64 i] (.s (J8 (kT i))):=by
 have Oc:=TQ [(i:Int)+1] B5
 rw[A8B i h]at Oc
 refine BI AY func281 rfl AP ntmps281 results281 (.s _) (λnx cX=>?_)
 refine CT ?_;refine sQ λN hN=>?_;refine BH ?_;refine AC.pure (.Va (Oc) (.cons (Vw.fr (AD _ _ _) rfl) .nil) (.s _)) ?_
 refine BH ?_
 apply hN;apply DQ;simp-dsimp-implicitDefEqProofs(disch:=omega)only[go_sem];skip
end
section
def WX(e:C2):Nat->C2
 |0=>[]
 |k+1=>WX e k++List.replicate (e.getD k 0).toNat ((k:Int)+1)
def WS(w:C2):C2:=(w.map λx=> -x).reverse
def cQ{e}(h:∀k,k<e.length->e.getD k 0<=1000):∀k,k<=e.length->(WX e k).length<=1000*k:=by
 intro k;induction k with
 |zero=>intro _;simp[WX]
 | succ k ih=>
   intro hk;have h1:=ih A0;have h2:=h k A0;rw[WX,AH,BZ];omega
def XX{w}:(WS w).length=w.length:=by simp[WS]
def wA{j:Nat}{a:Int}:List.replicate (j+1) a=List.replicate j a++[a]:=HS
def Vw.ivl{H id n K}(h:H id=some (K.map (AV.i .i64)))(hn:n=K.length):Vw H (.h id 0 n) (ints K):=by
 subst hn;exact Vw.fr h B5
def ZH(e)(he:e.length<=1000)(hv:∀k,k<e.length->0<=e.getD k 0/\e.getD k 0<=1000):DZ prog 283 [ints e] (ints (WX e e.length)):=by
 have oE:=cQ (λk hk=>(hv k hk).2)
 refine DA AY func283 rfl AP ntmps283 results283 ((IC _)) (λnx cX=>?_)
 refine EU ?_;refine EU ?_;refine A6 λN1 CW=>EU ?_;refine AA<|AM (α:=Nat×Nat×C2) (λx=>sl 27 [(0,ints e),(3,.h x.2.1 0 x.2.2.length),(4,.i .i64 x.1)]) (λx=>CJ DD x.2.1 (some (x.2.2.map (.i .i64)))) (λx m=>(x.1<=e.length/\x.2.1<m)/\x.2.2=WX e x.1) (λx=>e.length-x.1) ((0,nx+1,[])) ?_ ?_ (by intro d cs hd;simp only[CJ,DD,BU]at hd ⊢;grind) ?_
 ·exact⟨⟨A0,AI⟩,rfl⟩
 ·simp(disch:=omega) [EJ,EN,sl,DV,ints,rows,B6,ints,DV,CB]<;>omega
 rintro⟨k,id,K⟩ m ⟨⟨hk,GF⟩,hK⟩
 dsimp only at hk GF hK ⊢
 refine A6 λN2 DN=>EU ?_;refine AK ?_ ?_<;>intro h1
 ·apply AF;apply DN;refine A6 λN3 DO=>AA<|EU ?_;refine AA<|AM (α:=Nat×Nat×C2) (λx=>sl 27 [(0,ints e),(3,.h x.2.1 0 x.2.2.length),(4,.i .i64 k),(5,.i .i64 x.1)]) (λx=>CJ DD x.2.1 (some (x.2.2.map (.i .i64)))) (λx m=>(x.1<=(e.getD k 0).toNat/\x.2.1<m)/\x.2.2=K++List.replicate x.1 ((k:Int)+1)) (λx=>(e.getD k 0).toNat-x.1) ((0,id,K)) ?_ ?_ (by exact Le.refl _) ?_
  ·exact⟨⟨A0,AI⟩,B5⟩
  ·simp(disch:=omega) [EJ,EN,sl,DV,ints,rows,B6,ints,DV,CB]<;>omega
  rintro⟨j,L7,K2⟩ m2 ⟨⟨hj,UY⟩,iS⟩;have hvk:=hv k A0;dsimp only at hj UY iS ⊢;have Is:K2.length<=1001000:=by have:=oE k hk;rw[iS,hK,AH,BZ];omega
  refine A6 λN4 FD=>EU ?_;refine AK ?_ ?_<;>intro h2
  ·apply AF;apply FD;refine A6 λN5 ID=>AA<|LG ?_;apply ID;refine LG ?_;refine⟨(j+1,m2+5+5,K2++[(k:Int)+1]),?_,by intro d cs hd;simp only[CJ,DD,KD,AZ,BR,BU]at hd ⊢;grind,?_,?_⟩
   ·simp(disch:=omega) [EJ,EN,sl,DV,ints,rows,B6,ints,DV,CB]<;>omega
   ·exact⟨⟨A0,AI⟩,by simp only[];rw[wA,iS,BO]⟩
   exact AI
  apply AO;apply DO;refine LG ?_;have l6:j=(e.getD k 0).toNat:=A0;refine BB (k+1,L7,K2) ?_ ?_ ?_
  ·simp(disch:=omega) [EJ,EN,sl,DV,ints,rows,B6,ints,DV,CB]<;>omega
  ·exact⟨⟨A0,AI⟩,by simp only[];rw[WX,iS,hK,l6]⟩
  exact AI
 apply AO;apply CW;refine EU ?_;refine BQ ?_;have YO:K=WX e e.length:=by rw[hK,show k=e.length by omega]
 rw[<-YO]
 exact Vw.ivl (AD _ _ _) rfl
def Vw.oAi{o:Option Nat}{K:C2}(h0:o=none->K=[]):Vw (oH DD o (K.map (AV.i .i64))) (Go.Proofs.YtgknbnkmilddhaaGreat.oA o K.length) (ints K):=by
 cases o with
 | none=>
   rw[h0 rfl];exact .nl
 |some id=>exact Vw.ivl (AD _ _ _) rfl
def VE(e)(he:e.length<=1000)(hv:∀k,k<e.length->0<=e.getD k 0/\e.getD k 0<=1000):DZ prog 136 [ints e] (ints (WX e e.length)):=by
 have oE:=cQ (λk hk=>(hv k hk).2)
 refine DA AY func136 rfl AP ntmps136 results136 ((IC _)) (λnx cX=>?_)
 refine EU ?_;refine EU ?_;refine A6 λN1 CW=>EU ?_;refine AA<|AM (α:=Nat×Option Nat×C2) (λx=>sl 24 [(3,oA x.2.1 x.2.2.length),(6,ints e),(7,.i .i64 e.length),(8,.i .i64 x.1)]) (λx=>oH DD x.2.1 (x.2.2.map (.i .i64))) (λx m=>(x.1<=e.length/\(x.2.1=none->x.2.2=[]))/\(∀id,x.2.1=some id->id<m)/\x.2.2=WX e x.1) (λx=>e.length-x.1) ((0,none,[])) ?_ ?_ (by exact Le.refl _) ?_
 ·exact⟨⟨A0,λ_=>rfl⟩,λid GF=>(by cases GF),rfl⟩
 ·simp[EJ,EN,sl,ints,oA]
 rintro⟨k,o,K⟩ m ⟨⟨hk,ho⟩,GF,hK⟩
 dsimp only at hk GF hK ho ⊢
 refine EU ?_;refine A6 λN2 DN=>AK ?_ ?_<;>intro h1
 ·apply AF;apply DN;refine A6 λN3 DO=>AA<|EU ?_;refine EU ?_;refine AA<|AM (α:=Nat×Option Nat×C2) (λx=>sl 24 [(3,oA x.2.1 x.2.2.length),(4,.i .i64 k),(6,ints e),(7,.i .i64 e.length),(8,.i .i64 k),(13,.i .i64 (e.getD k 0)),(14,.i .i64 x.1)]) (λx=>oH DD x.2.1 (x.2.2.map (.i .i64))) (λx m=>(x.1<=(e.getD k 0).toNat/\(x.2.1=none->x.2.2=[]))/\(∀id,x.2.1=some id->id<m)/\x.2.2=K++List.replicate x.1 ((k:Int)+1)) (λx=>(e.getD k 0).toNat-x.1) ((0,o,K)) ?_ ?_ (by exact Le.refl _) ?_
  ·exact⟨⟨A0,ho⟩,λid h=>(by have:=GF id h;first|omega|(dsimp only;omega)),B5⟩
  ·simp(disch:=omega) [EJ,EN,sl,DV,ints,rows,B6,ints,DV,CB]<;>omega
  rintro⟨j,(_|L7),K2⟩ m2 ⟨⟨hj,Xv⟩,UY,iS⟩
  ·have hvk:=hv k A0;dsimp only[oA,oH]at hj UY iS Xv ⊢;have AFF:=Xv rfl;subst AFF;refine EU ?_;refine A6 λN4 FD=>AK ?_ ?_<;>intro h2
   ·apply AF;apply FD;refine A6 λN5 ID=>AA<|LG ?_;apply ID;refine LG ?_;refine⟨(j+1,some (m2+1+4),[(k:Int)+1]),?_,(by intro d cs hd;simp only[oH,CJ,DD,BR,BU]at hd ⊢;grind),?_,?_⟩
    ·simp(disch:=omega) [EJ,EN,sl,DV,ints,oA]
    ·exact⟨⟨A0,λh=>by cases h⟩,λid h=>(by cases h;first|omega|(dsimp only;omega)),by (try simp only[]);rw[wA,<-BO,<-iS];rfl⟩
    exact AI
   apply AO;apply DO;refine LG ?_;have l6:j=(e.getD k 0).toNat:=A0;refine BB (k+1,none,[]) ?_ ?_ ?_
   ·simp(disch:=omega) [EJ,EN,sl,DV,ints,oA]
   ·exact⟨⟨A0,λ_=>rfl⟩,λid h=>(by cases h),by (try simp only[]);rw[WX,iS,hK,l6]⟩
   exact AI
  have hvk:=hv k A0;dsimp only[oA,oH]at hj UY iS Xv ⊢;have Is:K2.length<=1001000:=by have:=oE k hk;rw[iS,hK,AH,BZ];omega
  have xO:=UY L7 rfl;refine EU ?_;refine A6 λN6 OR=>AK ?_ ?_<;>intro h3
  ·apply AF;apply OR;refine A6 λN7 S6=>AA<|LG ?_;apply S6;refine LG ?_;refine⟨(j+1,some (m2+1+4),K2++[(k:Int)+1]),?_,(by intro d cs hd;simp only[oH,CJ,DD,KD,AZ,BR,BU]at hd ⊢;grind),?_,?_⟩
   ·simp(disch:=omega) [EJ,EN,sl,DV,ints,oA]
   ·exact⟨⟨A0,λh=>by cases h⟩,λid h=>(by cases h;first|omega|(dsimp only;omega)),by (try simp only[]);rw[wA,<-BO,<-iS]⟩
   exact AI
  apply AO;apply DO;refine LG ?_;have l6:j=(e.getD k 0).toNat:=A0;refine BB (k+1,some L7,K2) ?_ ?_ ?_
  ·simp(disch:=omega) [EJ,EN,sl,DV,ints,oA]
  ·exact⟨⟨A0,λh=>by cases h⟩,λid h=>(by cases h;first|omega|(dsimp only;omega)),by (try simp only[]);rw[WX,iS,hK,l6]⟩
  exact AI
 apply AO;apply CW;refine EU ?_;refine BQ ?_;have YO:K=WX e e.length:=by rw[hK,show k=e.length by omega]
 rw[<-YO]
 exact Vw.oAi ho
end
section
def dgL(d:Int):List UInt8:=(dg d).data.toList
def wtL(w:C2):List UInt8:=(Mr w).data.toList
def Wx(d):dg d=J8 (dgL d):=(vW _).symm
def ALG(w):Mr w=J8 (wtL w):=(vW _).symm
def UA(a b):J8 a++J8 b=J8 (a++b):=by
 apply toL_inj;rw[ByteArray.data_append];simp[J8]
def zC(a:C2):Bool:=a.all (· ==0)
def A3W{a}:zC a=true↔Er a:=by
 rw[zC,BM];constructor
 ·intro h j hj;have:=h (a.getD j 0) (by simp[hj]);simpa using this
 intro h x hx;obtain⟨j,hj,rfl⟩:=FI.1 hx;have:=h j hj;simpa[hj]using this
def To(U:C2):Nat->List UInt8
 |0=>[]
 |k+1=>(if k>0 then To U k++[32]else To U k)++dgL (U.getD k 0)
def txR(i:Nat)(by':List UInt8)(e:C2):List UInt8:=[59,32]++kT i++[94]++by'++[61]++wtL (WX e e.length)
def Tp(U:C2)(pw:D4):Nat->List UInt8
 |0=>To U U.length
 |k+1=>if zC (pw.getD k [])=true then Tp U pw k else Tp U pw k++txR k (dgL (U.getD k 0)) (pw.getD k [])
def Mv(n i:Nat)(c:D4)(acc:List UInt8):Nat->List UInt8
 |0=>acc
 |t+1=>if c.getD t []=iB n (i+1+t)then Mv n i c acc t else Mv n i c acc t++txR (i+1+t) (kT i) (c.getD t [])
def Ji(U:C2)(pw:D4)(cj:E6):Nat->List UInt8
 |0=>Tp U pw U.length
 |i+1=>Mv U.length i (cj.getD i []) (Ji U pw cj i) (U.length-(i+1))
def txC(U:C2)(pw:D4)(cj:E6):List UInt8:=if U.length=0 then [49]else Ji U pw cj U.length
def Ts{d}(h0:0<=d)(h1:d<10):(dgL d).length=1:=by
 have:=Ch h0 h1;rw[Wx,M8]at this;exact this
def A8C(w):(wtL w).length<=w.length+1:=by
 have:=vV w;rw[ALG,M8]at this;exact this
def kU(i):(kT i).length=1:=rfl
def kV{n m:Nat}(h:n+m<=9000000):((n:Int)+(m:Int)<=9223372036854775807)=True:=eq_true A0
def Tt{i b e}(hb:b.length=1)(he:e.length<=6)(hv:∀k,k<e.length->e.getD k 0<=1000):(txR i b e).length<=7000:=by
 have h1:=cQ hv e.length (A1 _);have h2:=A8C (WX e e.length);simp only[txR,AH,kU,hb,C6,CR];omega
def Tu{U}(h:∀k,k<U.length->0<=U.getD k 0/\U.getD k 0<10):∀k,k<=U.length->(To U k).length<=2*k:=by
 intro k;induction k with
 |zero=>intro _;simp[To]
 | succ k ih=>
   intro hk;have h1:=ih A0;have h2:=Ts (h k A0).1 (h k A0).2;rw[To,AH];split
   ·rw[AH,E3];omega
   omega
def A8D{U pw}(hn:U.length<=6)(h:∀k,k<U.length->0<=U.getD k 0/\U.getD k 0<10)(hp:∀k,k<U.length->(pw.getD k []).length<=6/\∀j,j<(pw.getD k []).length->(pw.getD k []).getD j 0<=1000):∀k,k<=U.length->(Tp U pw k).length<=12+7000*k:=by
 intro k;induction k with
 |zero=>intro _;have:=Tu h U.length (A1 _);rw[Tp];omega
 | succ k ih=>
   intro hk;have h1:=ih A0;have h2:=Tt (i:=k) (b:=dgL (U.getD k 0)) (e:=pw.getD k []) (Ts (h k A0).1 (h k A0).2) (hp k A0).1 (hp k A0).2;rw[Tp];split
   ·omega
   rw[AH];omega
def A8E{n i c acc A}(ha:acc.length<=A)(hp:∀k,k<c.length->(c.getD k []).length<=6/\∀j,j<(c.getD k []).length->(c.getD k []).getD j 0<=1000):∀k,k<=c.length->(Mv n i c acc k).length<=A+7000*k:=by
 intro k;induction k with
 |zero=>intro _;rw[Mv];omega
 | succ k ih=>
   intro hk;have h1:=ih A0;have h2:=Tt (i:=i+1+k) (b:=kT i) (e:=c.getD k []) rfl (hp k A0).1 (hp k A0).2;rw[Mv];split
   ·omega
   rw[AH];omega
def BW.ent{U pw cj}(h:BW U pw cj):
    (∀k,k<U.length->0<=U.getD k 0/\U.getD k 0<10)/\(∀i,i<U.length->(pw.getD i []).length=U.length/\∀j,j<(pw.getD i []).length->0<=(pw.getD i []).getD j 0/\(pw.getD i []).getD j 0<=1000)/\
    ∀i,i<U.length->(cj.getD i []).length+1+i=U.length/\∀t,t<(cj.getD i []).length->((cj.getD i []).getD t []).length=U.length/\∀j,j<((cj.getD i []).getD t []).length->0<=((cj.getD i []).getD t []).getD j 0/\((cj.getD i []).getD t []).getD j 0<=1000:=by
  have ho:∀k,k<U.length->0<=U.getD k 0/\U.getD k 0<10:=λk hk=>by have:=FQ (h.2.1 k hk);omega
  have hx:∀{v:C2} {z:Int},Pb U v z->v.length=U.length/\∀j,j<v.length->0<=v.getD j 0/\v.getD j 0<=1000:=λhv=>⟨hv.1,λj hj=>by
    have h1:=hv.2 j hj;have h2:=ho j (by have:=hv.1;omega);omega⟩
  refine⟨ho,λi hi=>hx (h.2.2.2 i hi).1,λi hi=>⟨(h.2.2.2 i hi).2.1,λt ht=>hx ((h.2.2.2 i hi).2.2 t ht)⟩⟩
def ALH(acc i bl e):((((((J8 acc++⟨#[59,32]⟩)++J8 (kT i))++⟨#[94]⟩)++J8 bl)++⟨#[61]⟩)++Mr (WX e e.length))=J8 (acc++txR i bl e):=by
 rw[show(⟨#[59,32]⟩:ByteArray)=J8 [59,32]from rfl,show(⟨#[94]⟩:ByteArray)=J8 [94]from rfl,show(⟨#[61]⟩:ByteArray)=J8 [61]from rfl,ALG,UA,UA,UA,UA,UA,UA,txR];simp only[BO]
def wB(n j:Nat)(hn:n<=1048576)(hj:j<n):DZ prog 116 [.i .i64 n,.i .i64 j] (ints (iB n j)):=(V9 n j hn hj).pure
set_option maxRecDepth 20000 in
set_option maxHeartbeats 8000000 in
def qA(U pw cj)(h:BW U pw cj):DZ prog 274 [CI U pw cj] (.s (J8 (txC U pw cj))):=by
 have Q4:=h.1.1
 obtain⟨ho,hp,hc⟩:=h.ent
 have z2:(#[(59:UInt8),32]:Array UInt8).size=2:=rfl
 have z1:(#[(94:UInt8)]:Array UInt8).size=1:=rfl
 have z3:(#[(61:UInt8)]:Array UInt8).size=1:=rfl
 have z4:(#[(32:UInt8)]:Array UInt8).size=1:=rfl
 have fO:=h.1.2.1
 have KW:=h.1.2.2
 refine BI AY func274 rfl AP ntmps274 results274 (.s _) (λnx cX=>?_)
 refine VF ?_;refine BN 1 nx _ rfl (AD _ _ _) ?_
 refine BH ?_;refine VF ?_;refine VF ?_;refine A6 λN1 CW=>VF ?_;refine AK ?_ ?_<;>intro h1
 ·refine VF ?_;refine BQ ?_;rw[txC,if_pos A0];rfl
 apply AF;apply CW;refine A6 λN2 DN=>VF ?_;refine AA<|AM (α:=Nat) (λx=>sl 118 [(1,AU U pw cj),(3,.i .i64 U.length),(4,.s (J8 (To U x))),(5,.i .i64 x)]) (λ_=>DD) (λx m=>x<=U.length) (λx=>U.length-x) (0) ?_ ?_ (Le.del (by simp[DD])) ?_
 ·omega
 ·simp(disch:=omega) [EJ,EN,sl,AU,ints,rows,B6,To];rfl
 rintro k m hk
 refine BH ?_;simp only[AU];have eD:=Tu ho k hk
 refine A6 λN3 DO=>VF ?_;refine AK ?_ ?_<;>intro h2
 ·have l7:=ho k A0;have Lj:=Ch l7.1 l7.2;apply AF;apply DO;refine A6 λN4 FD=>AA<|A6 λN5 ID=>?_;refine VF ?_;refine AK ?_ ?_<;>intro h3
  ·have hkp:k>0:=A0;have he:(J8 (To U k)++⟨#[32]⟩)++dg (U.getD k 0)=J8 (To U (k+1)):=by
    rw[To,if_pos hkp,Wx,show(⟨#[32]⟩:ByteArray)=J8 [32]from rfl,UA,UA]
   refine fF ?_;apply ID;refine fF ?_;refine AC.pure (.of (S1 (U.getD k 0) l7.1 l7.2)) ?_;(try simp-dsimp-implicitDefEqProofs(disch:=omega)only[go_sem,kV,B6,IK,CB,EY,ints,M8,CI,AU,rows])
   apply FD;refine fF ?_;simp only[he];refine BB (k+1) ?_ ?_ ?_
   ·exact I2
   ·omega
   exact AI
  have he:J8 (To U k)++dg (U.getD k 0)=J8 (To U (k+1)):=by
   rw[To,if_neg A0,Wx,UA]
  apply AF;apply ID;refine fF ?_;refine AC.pure (.of (S1 (U.getD k 0) l7.1 l7.2)) ?_;(try simp-dsimp-implicitDefEqProofs(disch:=omega)only[go_sem,kV,B6,IK,CB,EY,ints,M8,CI,AU,rows])
  apply FD;refine fF ?_;simp only[he];refine BB (k+1) ?_ ?_ ?_
  ·exact I2
  ·omega
  exact AI
 have v7:k=U.length:=A0
 subst v7
 apply AO;apply DN;refine A6 λN6 OR=>VF ?_;refine AA<|AM (α:=Nat) (λx=>sl 118 [(1,AU U pw cj),(3,.i .i64 U.length),(4,.s (J8 (Tp U pw x))),(6,.i .i64 x)]) (λ_=>DD) (λx m=>x<=U.length) (λx=>U.length-x) (0) ?_ ?_ (λ_ _ h=>h) ?_
 ·omega
 ·simp(disch:=omega) [EJ,EN,sl,AU,ints,rows,B6,Tp]
 rintro k m hk
 refine BH ?_;simp only[AU];have eD:=A8D Q4 ho (λk hk=>⟨by have:=hp k hk;omega,λj hj=>((hp k hk).2 j hj).2⟩) k hk
 refine A6 λN7 S6=>VF ?_;refine AK ?_ ?_<;>intro h4
 ·have hpk:=hp k A0;have fX:=ho k A0;have Lj:=Ch fX.1 fX.2;have oE:=cQ (e:=pw.getD k []) (λj hj=>(hpk.2 j hj).2) _ (A1 _);have hwx:=vV (WX (pw.getD k []) (pw.getD k []).length);have hll:=kU k;apply AF;apply S6;refine A6 λN8 VK=>AA<|sQ λN hN=>?_;simp-dsimp-implicitDefEqProofs(disch:=omega)only[go_sem,kV,B6,IK,CB,EY,ints,M8,CI,AU,rows];refine AC.pure (.of (Z3 (pw.getD k []) A0)) ?_;(try simp-dsimp-implicitDefEqProofs(disch:=omega)only[go_sem,kV,B6,IK,CB,EY,ints,M8,CI,AU,rows]);apply hN;refine AK ?_ ?_<;>intro h5
  ·have hz:¬zC (pw.getD k [])=true:=λe=>by rw[A3W]at e;exact h5 e
   have he:=(ALH (Tp U pw k) k (dgL (U.getD k 0)) (pw.getD k [])).trans (show _=J8 (Tp U pw (k+1)) by rw[Tp,if_neg hz]);rw[<-Wx]at he;refine C9 AY AP 23 AP ?_;(try simp-dsimp-implicitDefEqProofs(disch:=omega)only[go_sem,BD,AR,B4,BE,AT,AS,kV,B6,IK,CB,EY,GJ,ES,ET,ints,M8,CI,AU,rows,DV]);refine⟨_,.of (S2 k A0),?_⟩;refine fG ?_
   refine⟨_,.of (S1 (U.getD k 0) fX.1 fX.2),?_⟩;refine fG ?_
   refine⟨_,.of (ZH (pw.getD k []) A0 hpk.2),?_⟩;refine fG ?_
   refine⟨_,.of (TQ (WX (pw.getD k []) (pw.getD k []).length) A0),?_⟩;refine fG ?_
   apply VK;refine fF ?_;simp only[he];refine BB (k+1) ?_ ?_ ?_
   ·exact I2
   ·omega
   exact AI
  have hz:zC (pw.getD k [])=true:=A3W.2 (by simpa using h5);have he:J8 (Tp U pw k)=J8 (Tp U pw (k+1)):=by rw[Tp,if_pos hz]
  apply AF;apply VK;refine fF ?_;simp only[he];refine BB (k+1) ?_ ?_ ?_
  ·exact I2
  ·omega
  exact AI
 have v7:k=U.length:=A0
 subst v7
 apply AO;apply OR;refine A6 λN9 ZW=>VF ?_;refine AA<|AM (α:=Nat) (λx=>sl 118 [(1,AU U pw cj),(3,.i .i64 U.length),(4,.s (J8 (Ji U pw cj x))),(7,.i .i64 x)]) (λ_=>DD) (λx m=>x<=U.length/\(Ji U pw cj x).length<=42012+42000*x) (λx=>U.length-x) (0) ?_ ?_ (λ_ _ h=>h) ?_
 ·exact⟨A0,by rw[Ji];omega⟩
 ·simp(disch:=omega) [EJ,EN,sl,AU,ints,rows,B6,Ji]
 rintro i m ⟨hk,iI⟩
 refine BH ?_;simp only[AU];refine A6 λPf R9=>VF ?_;refine AK ?_ ?_<;>intro h6
 ·obtain⟨hci,Am⟩:=hc i A0;apply AF;apply R9;refine A6 λXo T3=>AA<|VF ?_;refine AA<|AM (α:=Nat) (λx=>sl 118 [(1,AU U pw cj),(3,.i .i64 U.length),(4,.s (J8 (Mv U.length i (cj.getD i []) (Ji U pw cj i) x))),(7,.i .i64 i),(8,.i .i64 ((i+1+x:Nat):Int))]) (λ_=>DD) (λx m=>x<=(cj.getD i []).length) (λx=>(cj.getD i []).length-x) (0) ?_ ?_ (λ_ _ h=>h) ?_
  ·omega
  ·simp(disch:=omega) [EJ,EN,sl,AU,ints,rows,B6,Mv,DV]<;>omega
  rintro t m ht;refine BH ?_;simp only[AU];have eD:=A8E (n:=U.length) (i:=i) iI (λk hk=>⟨by have:=Am k hk;omega,λj hj=>((Am k hk).2 j hj).2⟩) t ht;refine A6 λN12 ZL=>VF ?_;refine AK ?_ ?_<;>intro h7
  ·have ht2:t<(cj.getD i []).length:=A0;obtain⟨hel,Xk⟩:=Am t ht2;have oE:=cQ (e:=(cj.getD i []).getD t []) (λj hj=>(Xk j hj).2) _ (A1 _);have hwx:=vV (WX ((cj.getD i []).getD t []) ((cj.getD i []).getD t []).length);have hll:=kU (i+1+t);have ARO:=kU i;have e1:(((i+1+t:Nat):Int)-i-1).toNat=t:=A0;apply AF;apply ZL;refine A6 λN13 dF=>AA<|A6 λN hN=>?_;refine C9 AY AP 16 AP ?_
   refine A3X e1 ?_;refine⟨_,.of (wB U.length (i+1+t) A0 A0),?_⟩;refine fG ?_
   refine⟨_,.of (Z4 ((cj.getD i []).getD t []) (iB U.length (i+1+t)) A0 (by rw[XT];omega)),?_⟩;refine fG ?_
   apply hN;refine AK ?_ ?_<;>intro h8
   ·have he:=(ALH (Mv U.length i (cj.getD i []) (Ji U pw cj i) t) (i+1+t) (kT i) ((cj.getD i []).getD t [])).trans (show _=J8 (Mv U.length i (cj.getD i []) (Ji U pw cj i) (t+1)) by rw[Mv,if_neg h8]);refine C9 AY AP 25 AP ?_;refine A3X e1 ?_;refine⟨_,.of (S2 (i+1+t) A0),?_⟩;refine fG ?_
    refine⟨_,.of (S2 i A0),?_⟩;refine fG ?_
    refine⟨_,.of (ZH ((cj.getD i []).getD t []) A0 Xk),?_⟩;refine fG ?_
    refine⟨_,.of (TQ (WX ((cj.getD i []).getD t []) ((cj.getD i []).getD t []).length) A0),?_⟩;refine fG ?_
    apply dF;refine fF ?_;simp only[he];refine BB (t+1) ?_ ?_ ?_
    ·exact I2
    ·omega
    exact AI
   have he:J8 (Mv U.length i (cj.getD i []) (Ji U pw cj i) t)=J8 (Mv U.length i (cj.getD i []) (Ji U pw cj i) (t+1)):=by rw[Mv,if_pos (by simpa using h8)]
   apply AF;apply dF;refine fF ?_;simp only[he];refine BB (t+1) ?_ ?_ ?_
   ·exact I2
   ·omega
   exact AI
  have hte:t=U.length-(i+1):=A0;have he:J8 (Mv U.length i (cj.getD i []) (Ji U pw cj i) t)=J8 (Ji U pw cj (i+1)):=by rw[Ji,hte]
  have HX:(Ji U pw cj (i+1)).length<=42012+42000*(i+1):=by rw[Ji,<-hte];omega
  apply AO;apply T3;refine fF ?_;simp only[he];refine BB (i+1) ?_ ?_ ?_
  ·exact I2
  ·exact⟨A0,HX⟩
  exact AI
 have hie:i=U.length:=A0
 apply AO;apply ZW;refine VF ?_;refine BQ ?_;rw[txC,if_neg A0,hie]
end
section
def ALI{x}(h:NR x)(e):NR (.t [x,.i .i64 e]):= .t _ λk y hk=>by
 match k,hk with
 |0,hk=>cases hk;exact h
 |1,hk=>cases hk;exact .i _ _
abbrev PD:=C2×D4×E6
def AFG(n:Nat)(r:List UInt8):Option C2:=if (r.all λb=>decide (97<=b.toNat)&& decide (b.toNat<97+n))=true/\r≠ []then some (r.map λb=>(b.toNat:Int)-96)else none
def AFH(s:PD)(l:List UInt8):Option PD:=
 match kQ 61 l with
 | [[a,x,b,y],r]=>if a=32/\b=94/\97<=x.toNat/\x.toNat-97<s.1.length then
    (AFG s.1.length r).bind λw=>
      if [y]=dgL (s.1.getD (x.toNat-97) 0)then some (s.1,s.2.1.set (x.toNat-97) (xY s.1.length w),s.2.2)
      else if 97<=y.toNat/\y.toNat-97<x.toNat-97 then some (s.1,s.2.1,s.2.2.set (y.toNat-97) ((s.2.2.getD (y.toNat-97) []).set (x.toNat-97-(y.toNat-97)-1) (xY s.1.length w)))else none
   else none
 |_=>none
def Mw(s:PD)(ps:List (List UInt8)):Nat->Option PD
 |0=>some s
 |k+1=>(Mw s ps k).bind λt=>AFH t (ps.getD k [])
def xpC(U v:C2)(z:Nat):Bool:=decide (v.length=U.length)&&(List.range v.length).all λk=>decide (0<=v.getD k 0)&& decide (v.getD k 0<=U.getD k 0-1)&&(decide (z<k)||decide (v.getD k 0=0))
def Tv(s:PD):Bool:=decide (s.1.length<=6)&& decide (s.2.1.length=s.1.length)&& decide (s.2.2.length=s.1.length)&&((List.range s.1.length).all λi=>decide (s.1.getD i 0=2)||decide (s.1.getD i 0=3)||decide (s.1.getD i 0=5)||decide (s.1.getD i 0=7))&& decide (PC s.1 s.1.length<=729)&&
 (List.range s.1.length).all λi=>xpC s.1 (s.2.1.getD i []) i && decide ((s.2.2.getD i []).length+1+i=s.1.length)&&(List.range (s.2.2.getD i []).length).all λk=>xpC s.1 ((s.2.2.getD i []).getD k []) i
def ppS(l:List UInt8):Option PD:=match kQ 59 l with
 |[]=>none
 |h::ps=>(A3V h).bind λU=>(Mw (U,ZE U.length,U9 U.length) ps ps.length).bind λs=>if Tv s=true/\txC s.1 s.2.1 s.2.2=l then some s else none
def A3Y{U v z}(h:xpC U v z=true):Pb U v z:=by
 simp only[xpC,CU,decide_eq_true_eq,BM,B3,HW]at h;exact⟨h.1,λk hk=>⟨(h.2 k hk).1,λhz=>by have:=(h.2 k hk).2;omega⟩⟩
def wC{s}(h:Tv s=true):BW s.1 s.2.1 s.2.2:=by
 simp only[Tv,CU,decide_eq_true_eq,BM,B3,HW]at h;obtain⟨⟨⟨⟨⟨h1,h2⟩,h3⟩,h4⟩,h5⟩,h6⟩:=h;refine⟨⟨h1,h2,h3⟩,λi hi=>?_,h5,λi hi=>⟨A3Y (h6 i hi).1.1,(h6 i hi).1.2,λk hk=>A3Y ((h6 i hi).2 k hk)⟩⟩;have:=h4 i hi;unfold O8;omega
def A8F{n r w}(h:AFG n r=some w):Cu n (J8 r)= .t [ints w,.b true]/\w.length=r.length/\∀k,k<w.length->1<=w.getD k 0/\w.getD k 0<=n:=by
 unfold AFG at h;split at h
 ·rename_i hc;obtain⟨h1,h2⟩:=hc;cases h;simp only[BM,CU,decide_eq_true_eq]at h1;have hb:∀k,k<r.length->bV (J8 r) k=((r.getD k 0).toNat:Int):=λk hk=>by simp[bV,J8]
  have hr:∀k,k<r.length->97<=(r.getD k 0).toNat/\(r.getD k 0).toNat<97+n:=λk hk=>by
   have:=h1 (r.getD k 0) (by simp[hk]);exact this
  have hp:∀k,k<r.length->Jh n (bV (J8 r) k)=some (((r.getD k 0).toNat:Int)-96):=λk hk=>by
   rw[hb k hk,ALD (by have:=hr k hk;omega)];congr 1;omega
  have h49:¬(J8 r).toList=(⟨#[49]⟩:ByteArray).toList:=by
   intro e;have e2:r=[49]:=toL_eq.1 e;have:=hr 0 (by rw[e2];decide);rw[e2]at this;simp at this
  have R8:Hj n (J8 r):=λj hj=>by rw[M8]at hj;rw[hp j hj];simp
  have hl:Ct n (J8 r) (J8 r).size=r.map λb=>(b.toNat:Int)-96:=by
   rw[M8];apply C7;intro k;simp only[Ct,BF];by_cases hk:k<r.length
   ·rw[FM hk,DB,hp k hk,A9 hk];simp[hk]
   rw[B8 (by simpa using hk),B8 (by simpa using hk)];rfl
  refine⟨?_,B5,λk hk=>?_⟩
  ·rw[Tn h49 R8,lcs,hl];have s5:decide ((((J8 r).size:Nat):Int)>0)=true:=by
    rw[M8,decide_eq_true_eq];have:0<r.length:=MJ.2 h2;omega
   rw[s5,ints,M8,A4]
  rw[A4]at hk;have:=hr k hk;have e:(r.map λb=>(b.toNat:Int)-96).getD k 0=((r.getD k 0).toNat:Int)-96:=by simp[hk]
  rw[e];omega
 cases h
def FC.set{X:D4}{v:C2}{k:Nat}(h:FC X)(hv:v.length<=1048576):FC (X.set k v):=
 ⟨by have:=h.n;simpa using this,λx hx=>by
  rcases JG hx with hx|rfl
  ·exact h.v x hx
  exact hv⟩
def NU.set{Y X k}(h:NU Y)(hv:FC X):NU (Y.set k X):=
 ⟨by have:=h.n;simpa using this,λx hx=>by
  rcases JG hx with hx|rfl
  ·exact h.v x hx
  exact hv⟩
def AFI{α:Type}{L:List α}{k i:Nat}{x d:α}:(L.set k x).getD i d=if k=i/\i<L.length then x else L.getD i d:=by
 rw[A5,CL];by_cases h:k=i
 ·subst h;by_cases h2:k<L.length
  ·simp[h2]
  simp[h2]
 simp[h]
def A8G{s s2 l n}(h:AFH s l=some s2)(hll:l.length<=1048576)(hn:n<=6)(hs:Shp n s.1 s.2.1 s.2.2)(ho:∀i,i<n->0<=s.1.getD i 0/\s.1.getD i 0<10):
    DZ prog 273 [CI s.1 s.2.1 s.2.2,.s (J8 l)] (.t [CI s2.1 s2.2.1 s2.2.2,.b true])/\Shp n s2.1 s2.2.1 s2.2.2/\s2.1=s.1:=by
  have AQ2:=hs.o;unfold AFH at h;split at h
  · rename_i a x b y r hsp;split at h
    · rename_i hc;obtain⟨rfl,rfl,Di,Iu⟩:=hc;obtain⟨w,hw,h⟩:=E8.1 h;obtain⟨A3T,oE,hwv⟩:=A8F hw;rw[AQ2]at Iu A3T hwv h;have lT:=Ck 61 l;rw[hsp]at lT;have VX:r.length<=l.length:=by rw[<-lT];simp[Dx];omega
      have hxi:(x.toNat:Int)=97+((x.toNat-97:Nat):Int):=A0;have hvl:(xY n w).length<=1048576:=by rw[vZ];omega
      split at h
      · rename_i hd;cases h;refine⟨VD n s.1 s.2.1 s.2.2 hn hs ho l r x y A0 A0 hsp w A0 A3T hwv (x.toNat-97) hxi Iu _ _ _ (.inl ⟨?_,rfl⟩),⟨hs.o,by simpa using hs.p,hs.c,hs.r,hs.pl.set hvl,hs.cl⟩,rfl⟩;rw[Wx,toL_eq];exact hd
      rename_i hd;split at h
      · rename_i hy;cases h;have Ik:FC (s.2.2.getD (y.toNat-97) []):=XB hs.cl.v .nil _;refine⟨VD n s.1 s.2.1 s.2.2 hn hs ho l r x y A0 A0 hsp w A0 A3T hwv (x.toNat-97) hxi Iu _ _ _ (.inr ⟨?_,y.toNat-97,A0,hy.2,rfl⟩),⟨hs.o,hs.p,by simpa using hs.c,λi hi=>?_,hs.pl,hs.cl.set (Ik.set hvl)⟩,rfl⟩
        · rw[Wx,toL_eq];exact hd
        rw[AFI];split
        · rename_i e;rw[D2,e.1];exact hs.r i hi
        exact hs.r i hi
      cases h
    cases h
  cases h
def A3Z{s ps}:∀(d k:Nat) {t:PD},Mw s ps (k+d)=some t->∃u,Mw s ps k=some u:=by
 intro d;induction d with
 |zero=>intro k t h;exact⟨t,h⟩
 | succ d ih=>
   intro k t h;rw[Nat.add_succ,Mw]at h;obtain⟨u,hu,_⟩:=E8.1 h;exact ih k hu
def ALJ(U)(h:U.length<=6):Shp U.length U (ZE U.length) (U9 U.length):=by
 refine⟨rfl,rK _,rJ _,λi hi=>?_,⟨by rw[rK];omega,λx hx=>?_⟩,⟨by rw[rJ];omega,λx hx=>?_⟩⟩
 ·have:(U9 U.length).getD i []=Wf U.length i:=by simp[U9,hi]
  rw[this,kC];omega
 ·rw[ZE]at hx;rw[List.eq_of_mem_replicate hx];simp;omega
 rw[U9,AQ]at hx;obtain⟨i,_,rfl⟩:=hx;refine⟨by rw[kC];omega,λy hy=>?_⟩;rw[Wf,AQ]at hy;obtain⟨j,_,rfl⟩:=hy;rw[XT];omega
def A8H(c l):∀p∈kQ c l,p.length<=l.length:=by
 have h:∀ps:List (List UInt8),∀p∈ps,p.length<=(Dx c ps).length:=by
  intro ps;induction ps with
  |nil=>intro p hp;cases hp
  | cons q ps ih=>
    intro p hp;cases ps with
    |nil=>
     rcases BJ.1 hp with rfl|hp
     ·exact A1 _
     cases hp
    |cons r rs=>
     rw[Dx,AH,C6];rcases BJ.1 hp with rfl|hp
     ·omega
     have:=ih p hp;omega
 intro p hp;have:=h (kQ c l) p hp;rwa [Ck]at this
def Wy(a:List UInt8):(a !=a)=false:=B5
set_option maxHeartbeats 8000000 in
def VT(l s2)(hl:l.length<=1048576)(h:ppS l=some s2):DZ prog 262 [.s (J8 l)] (.t [CI s2.1 s2.2.1 s2.2.2,.i .i64 0]):=by
 have Ww:DZ prog 271 [.s (J8 l),.i .u8 59] (strs ((kQ 59 l).map J8)):=by
  have:=SL (J8 l) 59 (by rw[M8];omega);rwa [Tl]at this
 have fO:=A8H 59 l
 have hpc:(kQ 59 l).length<=1048577:=by
  have:=Tj 59 (J8 l);rw[Tl,A4]at this;have h2:=A3J 59 (J8 l);rw[M8]at h2;omega
 unfold ppS at h
 generalize hps:kQ 59 l=ps0 at h Ww fO hpc
 rcases ps0 with _|⟨hd,ps⟩
 ·cases h
 obtain⟨U,iJ,h⟩:=E8.1 h
 obtain⟨s,M4,h⟩:=E8.1 h
 have zB:Tv s=true/\txC s.1 s.2.1 s.2.2=l:=by
  apply AN;intro hn;rw[if_neg hn]at h;cases h
 rw[if_pos zB]at h
 cases h
 have fX:=wC zB.1
 have ARP:ps.length<=1048577:=by rw[C6]at hpc;omega
 have AFJ:U.length<=6/\∀i,i<U.length->0<=U.getD i 0/\U.getD i 0<10:=by
  have h2:=iJ;unfold A3V at h2;split at h2
  ·cases h2;exact⟨B5,λi hi=>by simp at hi⟩
  obtain⟨ds,hds,h3⟩:=E8.1 h2;split at h3
  ·rename_i hc;cases h3;obtain⟨g1,g2⟩:=Hm hds;exact⟨hc.1,λi hi=>by have:=FQ (w9 (g2 i A0)).2;omega⟩
  cases h3
 have Eg:=kS hd U (by have:=fO hd B5;omega) iJ
 refine DA AY func262 rfl AP ntmps262 results262 ((ALI (A3S _ _ _) _)) (λnx cX=>?_)
 refine GC ?_;refine ZK (Ww) ?_;refine sQ λN hN=>?_;simp-dsimp-implicitDefEqProofs(disch:=omega)only[go_sem,CI,strs];refine AC.pure (.of (Eg)) ?_;(try simp-dsimp-implicitDefEqProofs(disch:=omega)only[go_sem,CI]);apply hN;refine A6 λN1 CW=>GC ?_;refine DJ rfl ?_;apply AF;apply CW;refine ZK ((kD U A0).pure) ?_;refine A6 λN2 DN=>GC ?_;refine AA<|AM (α:=Nat×PD) (λx=>sl 52 [(0,.s (J8 l)),(2,.q nx 0),(4,strs ((hd::ps).map J8)),(7,.q (nx+2+3+9+2+2) 0),(8,.i .i64 ((x.1+1:Nat):Int))]) (λx=>CJ (CJ DD nx (some [.nl,.nl,.nl])) (nx+2+3+9+2+2) (some [ints x.2.1,rows x.2.2.1,B6 x.2.2.2])) (λx m=>x.1<=ps.length/\Mw (U,ZE U.length,U9 U.length) ps x.1=some x.2/\Shp U.length x.2.1 x.2.2.1 x.2.2.2/\x.2.1=U) (λx=>ps.length-x.1) ((0,(U,ZE U.length,U9 U.length))) ?_ ?_ (by intro d cs hd;exact hd) ?_
 ·exact⟨B5,rfl,ALJ U AFJ.1,rfl⟩
 ·simp(disch:=omega) [EJ,EN,sl,strs]
 rintro⟨k,s⟩ m ⟨hk,Ol,A40,hso⟩
 refine BH ?_;dsimp only at hk Ol A40 hso ⊢
 refine A6 λN3 DO=>Cs ?_;refine AK ?_ ?_<;>intro h1
 ·have eA:k<ps.length:=A0;obtain⟨u,hu⟩:=A3Z (s:=(U,ZE U.length,U9 U.length)) (ps:=ps) (ps.length-(k+1)) (k+1) (t:=s2) (by rw[show k+1+(ps.length-(k+1))=ps.length by omega];exact M4);have jI:=hu;rw[Mw,Ol]at jI;obtain⟨AQ3,ALK,AQ4⟩:=A8G (n:=U.length) jI (by have:=fO (ps.getD k []) (by simp[eA]);omega) AFJ.1 A40 (by rw[hso];exact AFJ.2);have hg:=Hi ps (k:=k) eA;apply AF;apply DO;refine A6 λN4 FD=>AA<|A6 λN hN=>?_;refine K5 AY AP [false,true,true,true,true,false,false,false,false,false,false] (.br 0 (.br 5 (.br 6 (.br 7 (.br 8 (.br 9 (.br 10 .nil .nil) .nil) (.br 9 (.br 8 (.br 10 .nil .nil) .nil) .nil)) (.br 8 (.br 7 (.br 9 (.br 10 .nil .nil) .nil) .nil) .nil)) .nil) .nil) .nil) AP ?_
  (try simp-dsimp-implicitDefEqProofs(disch:=omega)only[go_sem,CQ,CI,strs,↓On,↓Oo,↓Om,hg]);refine AC.pure (.of (AQ3)) ?_;(try simp-dsimp-implicitDefEqProofs(disch:=omega)only[go_sem,and_self,CI,strs])
  apply hN;refine GC ?_;refine DJ rfl ?_;apply AF;apply FD;refine OK ?_;refine⟨(k+1,u),?_,by intro d cs hd;simp only[CJ]at hd ⊢;grind,?_,?_⟩
  ·simp(disch:=omega) [EJ,EN,sl,strs,DV]<;>rw[DV A0 A0]
  ·exact⟨AI,hu,ALK,AQ4.trans hso⟩
  exact AI
 have v7:k=ps.length:=A0
 rw[v7,M4]at Ol
 cases Ol
 have htf:tf (BW s2.1 s2.2.1 s2.2.2)=true:=KU fX
 have hip:=KE s2.1 s2.2.1 s2.2.2 ⟨by have:=A40.o;omega,cD.of A40.pl A40.cl⟩
 rw[htf]at hip
 have htx:=qA s2.1 s2.2.1 s2.2.2 fX
 rw[zB.2]at htx
 apply AO;apply DN;refine A6 λN5 ID=>sQ λN hN=>?_;refine FF ?_;refine AC.pure (.of (hip)) ?_;(try simp-dsimp-implicitDefEqProofs(disch:=omega)only[go_sem,C4,CI])
 refine AC.pure (.of (htx)) ?_;(try simp-dsimp-implicitDefEqProofs(disch:=omega)only[go_sem,C4,beq_self_eq_true,Wy,bne_self_eq_false,CI,decide_true,decide_not,decide_false])
 apply hN;refine DJ rfl ?_;apply AF;apply ID;refine GC ?_;refine BQ ?_;exact .refl _
def AFK{l s2}(h:ppS l=some s2):BW s2.1 s2.2.1 s2.2.2/\txC s2.1 s2.2.1 s2.2.2=l:=by
 unfold ppS at h;split at h
 ·cases h
 obtain⟨U,iJ,h⟩:=E8.1 h;obtain⟨s,M4,h⟩:=E8.1 h;split at h
 ·rename_i hc;cases h;exact⟨wC hc.1,hc.2⟩
 cases h
end
section
def E9(bs:C2)(DP:Nat)(G:HP):Prop:=∃a s,A81 bs a s/\G DP=some (srB bs a s)
def sK(bs:C2)(DP nx:Nat)(H:HP)(Q:AV->Prop):Nat->HP->AV->Prop:=λ_ H' r=>Q r/\E9 bs DP H'/\∀i,i<nx->i≠DP->H' i=H i
def E9.BV{bs DP G G'}(h:E9 bs DP G)(hk:G' DP=G DP):E9 bs DP G':=by
 obtain⟨a,s,h1,h2⟩:=h;exact⟨a,s,h1,hk.trans h2⟩
def wD{P f xs Q nx DP H bs}(WE:DP<nx)(h:AC P f nx H xs (λDI H' r=>∃r2,Fz H' (TN nx H') r r2/\Q r2/\E9 bs DP H'/\∀i,i<nx->i≠DP->H' i=H i)):AC P f nx H xs (sK bs DP nx H Q):=
 h.frz λDI H' r ⟨r2,g1,g2,g3,g4⟩=>⟨TN nx H',r2,eL.TN,g1,g2,g3.BV (EL WE),λi hi CP=>(EL hi).trans (g4 i hi CP)⟩
def AQ5(n:Int)(r:AV):Prop:=∃x,r= .i .i64 x/\0<=x/\(x<n\/x=0)
def DC{bs DP H}(hg:E9 bs DP H)(n)(hn:n<=1000000000)(nx):AC prog 28 nx H [.q DP 0,.i .i64 n] (sK bs DP nx H (AQ5 n)):=by
 obtain⟨a,s,h1,h2⟩:=hg;refine(vS bs a s h1 n hn nx H DP h2).mono ?_;rintro DI H' r ⟨x,a',s',rfl,hx,ho,rfl⟩;exact⟨⟨x,rfl,hx⟩,⟨a',s',ho,AD _ _ _⟩,λi _ CP=>AB _ _ CP⟩
def wE{bs DP oD H}(hg:E9 bs DP H)(vs:C2)(n:Nat)(hl:H oD=some (vs.map (.i .i64)))(hn:vs.length=n)(h0:0<n)(h1:n<=1000)(nx:Nat)(WE:DP<nx)(aM:oD<nx)(CP:oD≠DP):AC prog 29 nx H [.q DP 0,.h oD 0 n] (λDI H' r=>∃r2,Fz H' (TN nx H') r r2/\(∃x,r2= .i .i64 x/\x∈vs)/\E9 bs DP H'/\∀i,i<nx->i≠DP->H' i=H i):=by
 refine CF AY func29 rfl AP ntmps29 results29 (λGM cX=>?_)
 refine CT ?_;refine sQ λN hN=>?_;refine BH ?_;refine(DC hg n A0 _).CD ?_
 rintro m1 H1 r1 SF ⟨⟨x,rfl,hx⟩,jC,eG⟩
 have UC:=(eG oD A0 CP).trans hl
 have lI:x.toNat<vs.length:=A0
 have Yn:(vs.map (AV.i .i64)).getD x.toNat .j= .i .i64 (vs.getD x.toNat 0):=CB lI
 (try simp-dsimp-implicitDefEqProofs(disch:=omega)only[go_sem,A4,UC,Yn,hn])
 apply hN;refine BQ ?_;exact⟨_,λ_ _ h=>h,_,.refl _,⟨_,rfl,by rw[A5,A9 lI];exact BK lI⟩,jC,λi hi AQ6=>eG i A0 AQ6⟩
def NB{bs DP oD H}(hg:E9 bs DP H)(vs:C2)(n:Nat)(hl:H oD=some (vs.map (.i .i64)))(hn:vs.length=n)(h0:0<n)(h1:n<=1000)(nx:Nat)(WE:DP<nx)(aM:oD<nx)(CP:oD≠DP):AC prog 29 nx H [.q DP 0,.h oD 0 n] (sK bs DP nx H (λr=>∃x,r= .i .i64 x/\x∈vs)):=wD WE (wE hg vs n hl hn h0 h1 nx WE aM CP)
def Mx{pre z y x}:TG (pre++y::z) (pre.length*1) [x]=pre++x::z:=by
 simp[TG]
def Wz:∀(xs pre z:List AV),(∀x∈xs,I0 x=[x]/\wS x=true)->z.length=xs.length->WY (λi=>some (i*1,1)) (pre++z) ((xs.zipIdx pre.length).map λp=>(p.2,p.1))=some (pre++xs):=by
 intro xs;induction xs with
 |nil=>intro pre z _ hz;rw[AX.1 hz];simp[WY]
 | cons x xs ih=>
   intro pre z hx hz;cases z with
   |nil=>simp at hz
   | cons y z=>
     obtain⟨h1,h2⟩:=hx x B5;simp only[List.zipIdx_cons,BR,WY];rw[h1,h2,if_neg B5,Mx];have:=ih (pre++[x]) z (λw hw=>hx w (by simp[hw])) (by simpa using hz);simpa using this
def Ho{Γ ty el e ee n xs parts id k}(h1:Γ ty=some e)(h2:e.d= .slice el)(h3:Γ el=some ee)(h4:(ee.size==1)=true)(h5:ee.zero.cells.size=1)(hn:xs.length=n)(vJ:n<=1000)(hx:∀x∈xs,I0 x=[x]/\wS x=true)(hp:parts=(xs.zipIdx 0).map λp=>(p.2,p.1)):xD Γ ty n parts id k=k (.h id 0 n) (some xs):=by
 unfold xD;simp only[h1,h2,h3];rw[h4,Ep,hp];have:=Wz xs [] (List.replicate n (PA (ee.zero.cells.getD 0 undef))) hx (by simp[hn]);rw[C8,C8,CR]at this;rw[this];simp only[eq_iff_iff];exact⟨λh=>h.2.2.2,λh=>⟨h5,A0,hn,h⟩⟩
def AFL(n:Nat)(vs:C2)(hn:vs.length=n)(vJ:n<=1000){parts id k}(hp:parts=((vs.map (AV.i .i64)).zipIdx 0).map λp=>(p.2,p.1)):xD env 24 n parts id k=k (.h id 0 n) (some (vs.map (.i .i64))):=
 Ho rfl rfl rfl rfl rfl (by rw[A4];exact hn) vJ (λx hx=>by obtain⟨v,_,rfl⟩:=AQ.1 hx;exact⟨rfl,rfl⟩) hp
def AQ7(n:Nat)(vs:List ByteArray)(hn:vs.length=n)(vJ:n<=1000){parts id k}(hp:parts=((vs.map AV.s).zipIdx 0).map λp=>(p.2,p.1)):xD env 260 n parts id k=k (.h id 0 n) (some (vs.map .s)):=
 Ho rfl rfl rfl rfl rfl (by rw[A4];exact hn) vJ (λx hx=>by obtain⟨v,_,rfl⟩:=AQ.1 hx;exact⟨rfl,rfl⟩) hp
def A8I{P dst}(b0 b1 b2 b3 b4 b5 b6 b7 b8 b9 id s K):SZ env P dst (.buildSlice 260 10 #[(0,.const (.string b0)),(1,.const (.string b1)),(2,.const (.string b2)),(3,.const (.string b3)),(4,.const (.string b4)),(5,.const (.string b5)),(6,.const (.string b6)),(7,.const (.string b7)),(8,.const (.string b8)),(9,.const (.string b9))]) id s K=K ⟨EX s.t dst (.h id 0 10),CJ s.H id (some [.s b0,.s b1,.s b2,.s b3,.s b4,.s b5,.s b6,.s b7,.s b8,.s b9]),s.nx⟩:=by
 rw[Zl];exact AQ7 10 [b0,b1,b2,b3,b4,b5,b6,b7,b8,b9] rfl A0 rfl
def A8J{P dst}(b0 b1 b2 b3 b4 b5 b6 b7 b8 b9 b10 id s K):SZ env P dst (.buildSlice 24 11 #[(0,.const (.int .i64 b0)),(1,.const (.int .i64 b1)),(2,.const (.int .i64 b2)),(3,.const (.int .i64 b3)),(4,.const (.int .i64 b4)),(5,.const (.int .i64 b5)),(6,.const (.int .i64 b6)),(7,.const (.int .i64 b7)),(8,.const (.int .i64 b8)),(9,.const (.int .i64 b9)),(10,.const (.int .i64 b10))]) id s K=K ⟨EX s.t dst (.h id 0 11),CJ s.H id (some [.i .i64 b0,.i .i64 b1,.i .i64 b2,.i .i64 b3,.i .i64 b4,.i .i64 b5,.i .i64 b6,.i .i64 b7,.i .i64 b8,.i .i64 b9,.i .i64 b10]),s.nx⟩:=by
 rw[Zl];exact AFL 11 [b0,b1,b2,b3,b4,b5,b6,b7,b8,b9,b10] rfl A0 rfl
def AFM{P dst}(b0 b1 b2 b3 b4 b5 b6 b7 id s K):SZ env P dst (.buildSlice 24 8 #[(0,.const (.int .i64 b0)),(1,.const (.int .i64 b1)),(2,.const (.int .i64 b2)),(3,.const (.int .i64 b3)),(4,.const (.int .i64 b4)),(5,.const (.int .i64 b5)),(6,.const (.int .i64 b6)),(7,.const (.int .i64 b7))]) id s K=K ⟨EX s.t dst (.h id 0 8),CJ s.H id (some [.i .i64 b0,.i .i64 b1,.i .i64 b2,.i .i64 b3,.i .i64 b4,.i .i64 b5,.i .i64 b6,.i .i64 b7]),s.nx⟩:=by
 rw[Zl];exact AFL 8 [b0,b1,b2,b3,b4,b5,b6,b7] rfl A0 rfl
def A41{P dst}(b0 b1 b2 b3 b4 id s K):SZ env P dst (.buildSlice 24 5 #[(0,.const (.int .i64 b0)),(1,.const (.int .i64 b1)),(2,.const (.int .i64 b2)),(3,.const (.int .i64 b3)),(4,.const (.int .i64 b4))]) id s K=K ⟨EX s.t dst (.h id 0 5),CJ s.H id (some [.i .i64 b0,.i .i64 b1,.i .i64 b2,.i .i64 b3,.i .i64 b4]),s.nx⟩:=by
 rw[Zl];exact AFL 5 [b0,b1,b2,b3,b4] rfl A0 rfl
def qB:List (List UInt8):=[[49],
 [50],
 [50,32,50,59,32,97,94,50,61,98],
 [50,32,51,59,32,98,94,97,61,98,98],
 [51,32,50,32,50,59,32,98,94,97,61,99,59,32,99,94,97,61,98,99],
 [50,32,51,32,50,32,50,59,32,98,94,97,61,98,98,59,32,99,94,97,61,100,59,32,100,94,97,61,99,59,32,99,94,98,61,100,59,32,100,94,98,61,99,100],
 [51,32,50,32,50,32,50,59,32,98,94,50,61,100,59,32,99,94,50,61,100,59,32,98,94,97,61,99,59,32,99,94,97,61,98,99,59,32,99,94,98,61,99,100],
 [50,32,50,32,50,59,32,97,94,50,61,99,59,32,98,94,50,61,99,59,32,98,94,97,61,98,99],
 [50,32,50,32,50,59,32,98,94,97,61,98,99],
 [50,32,50,32,50,32,50,59,32,99,94,97,61,99,100,59,32,99,94,98,61,99,100]]
def My:[AV.s ⟨#[49]⟩,AV.s ⟨#[50]⟩,AV.s ⟨#[50,32,50,59,32,97,94,50,61,98]⟩,AV.s ⟨#[50,32,51,59,32,98,94,97,61,98,98]⟩,AV.s ⟨#[51,32,50,32,50,59,32,98,94,97,61,99,59,32,99,94,97,61,98,99]⟩,AV.s ⟨#[50,32,51,32,50,32,50,59,32,98,94,97,61,98,98,59,32,99,94,97,61,100,59,32,100,94,97,61,99,59,32,99,94,98,61,100,59,32,100,94,98,61,99,100]⟩,AV.s ⟨#[51,32,50,32,50,32,50,59,32,98,94,50,61,100,59,32,99,94,50,61,100,59,32,98,94,97,61,99,59,32,99,94,97,61,98,99,59,32,99,94,98,61,99,100]⟩,AV.s ⟨#[50,32,50,32,50,59,32,97,94,50,61,99,59,32,98,94,50,61,99,59,32,98,94,97,61,98,99]⟩,AV.s ⟨#[50,32,50,32,50,59,32,98,94,97,61,98,99]⟩,AV.s ⟨#[50,32,50,32,50,32,50,59,32,99,94,97,61,99,100,59,32,99,94,98,61,99,100]⟩]=qB.map λl=>AV.s (J8 l):=rfl
def AFN:((List.range 10).map λk=>(ppS (qB.getD k [])).isSome)=List.replicate 10 true:=AP
def AFO{k}(hk:k<10):∃s,ppS (qB.getD k [])=some s:=by
 have h:(ppS (qB.getD k [])).isSome=true:=by
  have:=congrArg (λl=>l[k]?) AFN;simp only[BF,FM hk,EV,if_pos hk,DB]at this;exact F5 this
 exact Option.isSome_iff_exists.1 h
def A8K:∀l∈qB,l.length<=100:=HT
def BW.shB{U X Y}(h:BW U X Y):iD 12 U X Y:=by
 obtain⟨⟨h1,h2,h3⟩,h4,h5,h6⟩:=h;have mem:∀{α:Type} (xs:List α) (d x:α),x∈xs->∃i,i<xs.length/\xs.getD i d=x:=λxs d x hx=>by
  obtain⟨i,hi,e⟩:=FI.1 hx;exact⟨i,hi,by simp[hi,e]⟩
 refine⟨A0,h2,h3,λk hk=>by have:=(h6 k hk).2.1;omega,λx hx=>?_,λy hy x hx=>?_,λx hx=>?_⟩
 ·obtain⟨i,hi,rfl⟩:=mem _ [] x hx;have:=(h6 i A0).1.1;omega
 ·obtain⟨i,hi,rfl⟩:=mem _ [] y hy;obtain⟨k,hk,rfl⟩:=mem _ [] x hx;have:=((h6 i A0).2.2 k hk).1;omega
 obtain⟨i,hi,rfl⟩:=mem _ 0 x hx;have:=FQ (h4 i hi);omega
set_option maxHeartbeats 2000000 in
def qC(k:Nat)(hk:k<10):∀nx,AC prog 226 nx DD [.i .i64 k] (λDI H' r=>∃r2,Fz H' (TN nx H') r r2/\pY 12 r2):=by
 obtain⟨s2,iN⟩:=AFO hk
 have hpo:=(AFK iN).1.shB
 have hkm:((k:Int).tmod 10).toNat=k:=by rw[CZ A0];omega
 have VW:(0<=(k:Int).tmod 10)=True:=eq_true (by rw[CZ A0];omega)
 have hgt:(qB.map λl=>AV.s (J8 l)).getD k .j= .s (J8 (qB.getD k [])):=by rw[A5,BF,A9 (show k<qB.length from hk),A5,A9 (show k<qB.length from hk)];rfl
 have eD:(qB.getD k []).length<=100:=QC (p:=λl:List UInt8=>l.length<=100) A8K B5 k
 intro nx
 refine ED AY func226 rfl AP ntmps226 results226 (λcX=>?_)
 refine GC ?_;refine A6 λN hN=>?_;apply rQ;generalize iU:(⟨#[49]⟩:ByteArray)=b0
 generalize UK:(⟨#[50]⟩:ByteArray)=b1
 generalize W3:(⟨#[50,32,50,59,32,97,94,50,61,98]⟩:ByteArray)=b2
 generalize gT:(⟨#[50,32,51,59,32,98,94,97,61,98,98]⟩:ByteArray)=b3
 generalize Ix:(⟨#[51,32,50,32,50,59,32,98,94,97,61,99,59,32,99,94,97,61,98,99]⟩:ByteArray)=b4
 generalize gU:(⟨#[50,32,51,32,50,32,50,59,32,98,94,97,61,98,98,59,32,99,94,97,61,100,59,32,100,94,97,61,99,59,32,99,94,98,61,100,59,32,100,94,98,61,99,100]⟩:ByteArray)=b5
 generalize Iy:(⟨#[51,32,50,32,50,32,50,59,32,98,94,50,61,100,59,32,99,94,50,61,100,59,32,98,94,97,61,99,59,32,99,94,97,61,98,99,59,32,99,94,98,61,99,100]⟩:ByteArray)=b6
 generalize fB:(⟨#[50,32,50,32,50,59,32,97,94,50,61,99,59,32,98,94,50,61,99,59,32,98,94,97,61,98,99]⟩:ByteArray)=b7
 generalize Xu:(⟨#[50,32,50,32,50,59,32,98,94,97,61,98,99]⟩:ByteArray)=b8
 generalize hb9:(⟨#[50,32,50,32,50,32,50,59,32,99,94,97,61,99,100,59,32,99,94,98,61,99,100]⟩:ByteArray)=b9
 have AQ8:[AV.s b0,AV.s b1,AV.s b2,AV.s b3,AV.s b4,AV.s b5,AV.s b6,AV.s b7,AV.s b8,AV.s b9].getD k .j= .s (J8 (qB.getD k [])):=by
  rw[<-hgt,<-My,iU,UK,W3,gT,Ix,gU,Iy,fB,Xu,hb9]
 clear iU UK W3 gT Ix gU Iy fB Xu hb9
 (try simp-dsimp-implicitDefEqProofs(disch:=omega)only[go_sem,CI,DV,↓A8I,hkm,VW,AQ8])
 apply hN;refine ZK (VT (qB.getD k []) s2 A0 iN) ?_;refine A6 λN1 CW=>GC ?_;refine AK ?_ ?_<;>intro h1
 ·simp at h1
 apply AF;apply CW;refine GC ?_;refine BQ ?_;exact⟨_,.refl _,s2.1,s2.2.1,s2.2.2,rfl,hpo⟩
def qD(k:Nat)(hk:k<10)(nx:Nat)(H:HP):AC prog 226 nx H [.i .i64 k] (zK nx H (pY 12)):=bP (qC k hk nx) H
end
section
def eL.ALL{H i j n k cs ds}(h1:H i=some cs)(hk:cs[k]? =some (.h j 0 n))(h2:H j=some ds)(hn:ds.length=n)(Q3:i≠j):eL H (CJ (CJ H j none) i (some (cs.set k (.v n ds)))):=by
 intro l LI hl;by_cases e:l=i
 ·subst e;rw[AD]at hl;cases hl;refine⟨_,h1,B5,λq x y hx hy=>?_⟩;rw[CL]at hy;split at hy
  ·rename_i hq;subst hq;rw[hk]at hx;cases hx;split at hy
   ·cases hy;exact .h j 0 n ds ds h2 (by rw[AB _ _ (I8 Q3),AD]) A0 hn (λq x y h1 h2=>by rw[BS,h2]at h1;cases h1;exact .refl _)
   cases hy
  rw[hx]at hy;cases hy;exact .refl _
 rw[AB _ _ e]at hl;by_cases e2:l=j
 ·subst e2;rw[AD]at hl;cases hl
 rw[AB _ _ e2]at hl;exact⟨LI,hl,rfl,λq x y h1 h2=>by rw[h1]at h2;cases h2;exact .refl _⟩
def Z0{cX P c s K}(i j n k cs ds)(h1:s.H i=some cs)(hk:cs[k]? =some (.h j 0 n))(h2:s.H j=some ds)(hn:ds.length=n)(Q3:i≠j)(hs:AW cX P c ⟨s.t,CJ (CJ s.H j none) i (some (cs.set k (.v n ds))),s.nx⟩ K):AW cX P c s K:=
 AW.fz (s':=⟨s.t,CJ (CJ s.H j none) i (some (cs.set k (.v n ds))),s.nx⟩) ⟨sM,eL.ALL h1 hk h2 hn Q3,A1 _⟩ hs
def QL.Tw{N lo m bx k U P B bc X Y G}(h:QL N lo m bx U P B bc X Y G)(hk:k<U.length):
    ∃p,P= .h p 0 U.length/\G bx=some [ints U,.h p 0 U.length,B]/\G p=some (X.map ints)/\(X.map ints).length=U.length/\(lo<=p/\p<m)/\∀(G':HP) (w:C2) (m':Nat),w.length<=6*N->m<=m'->G' p=some ((X.map ints).set k (ints w))->(∀j,j<m->j≠p->G' j=G j)->QL N lo m' bx U P B bc (X.set k w) Y G':=by
  obtain⟨h1,h2,h3,h4⟩:=h;obtain⟨p,e,g1,g2,g3⟩:=h2.bO (k:=k) (by rw[h3.p];exact hk);rw[h3.p]at e;refine⟨p,e,by rw[h1,e],g1,by rw[A4,h3.p],g2,λG' w m' hw hm hp v7=>⟨?_,g3 _ w lo m' (by rw[hp,OW _ _ _ (by rw[A4,h3.p];exact hk)]) (λj _ hj CP=>v7 j hj CP) (A1 _) hm,h3.bO hw,h4⟩⟩;rw[v7 bx A0 A0,h1]
def QL.ALM{N lo m bx k l U P B bc X Y G}(h:QL N lo m bx U P B bc X Y G)(hk:k<U.length)(hl:l<U.length-1-k):
    ∃ b q,B= .h b 0 U.length/\G bx=some [ints U,P,.h b 0 U.length]/\G b=some bc/\bc.length=U.length/\(lo<=b/\b<m)/\bc.getD k .j= .h q 0 (U.length-1-k)/\G q=some ((Y.getD k []).map ints)/\((Y.getD k []).map ints).length=U.length-1-k/\(lo<=q/\q<m)/\b≠q/\
      ∀(G':HP) (w:C2) (m':Nat),w.length<=6*N->m<=m'->G' q=some (((Y.getD k []).map ints).set l (ints w))->(∀j,j<m->j≠q->G' j=G j)->QL N lo m' bx U P B bc X (Y.set k ((Y.getD k []).set l w)) G':=by
  obtain⟨h1,h2,h3,h4⟩:=h;have hr:=h3.r k hk;obtain⟨b,q,e,g1,g2,_,g4,g5,g6,g7,g8⟩:=h2.kB (k:=k) (l:=l) (by rw[h3.c];exact hk) A0;rw[h3.c]at e;rw[hr]at g4;refine⟨b,q,e,by rw[h1,e],g1,by rw[h2.bl,h3.c],g2,g4,g5,by rw[A4,hr],g6,g7,λG' w m' hw hm hp v7=>⟨?_,g8 _ w lo m' (by rw[hp,OW _ _ _ (by rw[A4,hr];exact hl)]) (λj _ hj CP=>v7 j hj CP) (A1 _) hm,h3.kB hw,h4⟩⟩;rw[v7 bx A0 A0,h1]
def QL.A42{N lo m m' bx DP U P B bc X Y G G'}(h:QL N lo m bx U P B bc X Y G)(hk:∀i,i<m->i≠DP->G' i=G i)(hs:DP<bx)(hlm:lo<=m)(hm:m<=m'):QL N lo m' bx U P B bc X Y G':=by
 have:=h.lt;exact⟨(hk bx A0 A0).trans h.cl,h.rg.BV (λi Dg hi=>hk i hi A0) (A1 _) hm,h.sh,h.lt⟩
def mkS{N:St->Prop}{C:Nat->HP->Int->Prop}{S:Nat->HP->Int->St}{G:Prop}(h1:(∀m H x,C m H x->N (S m H x))->G)(h2:∀m H x,C m H x->N (S m H x)):G:=h1 h2
def bW{cs k x y}(h:k<cs.length):(DH cs k [x])[k]? =some x/\(DH cs k [x]).set k y=cs.set k y:=by
 rw[OW _ _ _ h];exact⟨by simp[h],B5⟩
set_option maxHeartbeats 4000000 in
def bX{bs DP H}(hg:E9 bs DP H)(pr)(hp:2<=pr/\pr<=7)(nx)(WE:DP<nx):AC prog 224 nx H [.q DP 0,.i .i64 pr] (λDI H' r=>∃r2,Fz H' (TN nx H') r r2/\pY 12 r2/\E9 bs DP H'/\∀i,i<nx->i≠DP->H' i=H i):=by
 obtain⟨U,iJ⟩:=EK ([pr,pr,pr])
 have Eg:U.length=3:=by rw[<-iJ];rfl
 have sX:∀x∈U,-1000<=x/\x<=1000:=λx hx=>by rw[<-iJ]at hx;simp at hx;omega
 refine CF AY func224 rfl AP ntmps224 results224 (λGM cX=>?_)
 refine GC ?_;refine sQ λN hN=>?_;refine FF ?_;refine(HG U A0 _ (.cons (nJ (U:=U) (by rw[<-iJ];exact AD _ _ _) Eg) .nil)).CD ?_
 intro m1 H1 r1 SF Mo
 obtain⟨P,B,bc,rfl,YE,UE,vL,I4⟩:=QL.start (N:=12) (bx:=nx+1+5) Mo A0 A0 sX A0
 refine zR YE UE ?_
 apply hN;refine BX (λG1 K6=>?_);dsimp only at K6
 replace I4:QL 12 (nx+1+7) m1 (nx+1+5) U P B bc (ZE U.length) (U9 U.length) G1:=by rw[<-K6];exact I4
 have UC:∀i,i<nx+1->G1 i=CJ H nx (some [.nl,.nl,.nl]) i:=λi hi=>by rw[<-K6,AB _ _ A0,vL i A0,AB _ _ A0]
 obtain⟨b,q,hBe,Q5,UK,W3,gT,eV,dB,XA,sA,Sy,NA⟩:=I4.ALM (k:=0) (l:=0) A0 A0
 refine sQ λN hN=>?_;simp-dsimp-implicitDefEqProofs(disch:=omega)only[go_sem,CI,Q5,UK,W3,eV,dB,XA];apply hN;refine A6 λN1 CW=>Z0 q (m1+4) 3 0 (DH (((U9 U.length).getD 0 []).map ints) 0 [.h (m1+4) 0 3]) [.i .i64 0,.i .i64 1,.i .i64 1] (AD _ _ _) (bW (y:= .nl) A0).1 ((AB _ _ A0).trans (AD _ _ _)) rfl A0 ?_
 refine BX (λG2 Dj=>?_);dsimp only at Dj
 replace I4:=NA G2 [0,1,1] (m1+7) B5 A0 (by rw[<-Dj,AD,(bW A0).2];rfl) (λj hj CP=>by rw[<-Dj,AB _ _ CP,AB _ _ A0,AB _ _ CP,AB _ _ A0])
 have WV:∀i,i<nx+1->G2 i=CJ H nx (some [.nl,.nl,.nl]) i:=λi hi=>by rw[<-UC i hi,<-Dj,AB _ _ A0,AB _ _ A0,AB _ _ A0,AB _ _ A0]
 have Pw:E9 bs DP G2:=hg.BV ((WV DP A0).trans (AB _ _ A0))
 refine BH ?_;refine sQ λN hN=>?_;refine FF ?_;refine(DC Pw 2 A0 _).CD ?_
 rintro m2 H2 r2 Q8 ⟨⟨x,rfl,hx⟩,ZN,NC⟩
 replace I4:=I4.A42 (G':=H2) (m':=m2) (λi hi CP=>NC i A0 CP) A0 A0 A0
 have YD:∀i,i<nx+1->i≠DP->H2 i=CJ H nx (some [.nl,.nl,.nl]) i:=λi hi CP=>(NC i A0 CP).trans (WV i hi)
 refine FF ?_
 apply hN;refine AK ?_ ?_<;>intro h1
 ·obtain⟨p,hPe,VO,dD,VL,hp3,NA⟩:=I4.Tw (k:=0) A0;refine A6 λN hN=>?_;apply mkS (N:=N)
  ·intro key;refine K5 AY AP [true,false,true,true,false,false,false,false] (.br 1 (.br 4 (.br 5 (.br 6 (.br 7 .nil .nil) .nil) .nil) .nil) (.br 4 (.br 1 (.br 5 (.br 6 (.br 7 .nil .nil) .nil) .nil) (.br 5 (.br 1 (.br 6 (.br 7 .nil .nil) .nil) .nil) .nil)) .nil)) AP ?_;refine tH VO dD VL ?_;refine⟨?_,?_⟩;all_goals
    refine(DC ZN pr A0 _).CD ?_;rintro m3 H3 r3 U5 ⟨⟨x3,rfl,hx3⟩,fA,pZ⟩;have It:=(pZ p A0 A0).trans dD;have Ix:=(pZ (nx+1+5) A0 A0).trans VO;(try simp-dsimp-implicitDefEqProofs(disch:=omega)only[go_sem,and_self,CI,It,VL,Ix])
    exact key m3 H3 x3 (And.intro U5 (And.intro fA pZ))
  intro m3 H3 x3 hC;obtain⟨U5,fA,pZ⟩:=hC;replace I4:=I4.A42 (G':=H3) (m':=m2) (λi hi CP=>pZ i A0 CP) A0 A0 A0;obtain⟨p',A43,-,-,-,-,Tx⟩:=I4.Tw (k:=0) A0;obtain rfl:p'=p:=by rw[hPe]at A43;injection A43 with e;exact e.symm
  apply hN;refine Z0 p' (m2+5) 3 0 (DH ((ZE U.length).map ints) 0 [.h (m2+5) 0 3]) [.i .i64 0,.i .i64 0,.i .i64 x3] (AD _ _ _) (bW (y:= .nl) A0).1 ((AB _ _ A0).trans (AD _ _ _)) rfl A0 ?_;refine BX (λG4 hG4=>?_);dsimp only at hG4;replace I4:=Tx G4 [0,0,x3] m3 B5 A0 (by rw[<-hG4,AD,(bW A0).2];rfl) (λj hj CP=>by rw[<-hG4,AB _ _ CP,AB _ _ A0,AB _ _ CP,AB _ _ A0]);have Ty:∀i,i<nx+1->i≠DP->G4 i=CJ H nx (some [.nl,.nl,.nl]) i:=λi hi CP=>by rw[<-YD i hi CP,<-pZ i A0 CP,<-hG4,AB _ _ A0,AB _ _ A0,AB _ _ A0,AB _ _ A0]
  have Tz:E9 bs DP G4:=fA.BV (by rw[<-hG4,AB _ _ A0,AB _ _ A0,AB _ _ A0,AB _ _ A0]);obtain⟨p,hPe,VO,dD,VL,hp3,NA⟩:=I4.Tw (k:=1) A0;refine BH ?_;refine AW.name λN hN=>?_;apply mkS (N:=N)
  ·intro key;refine K5 AY AP [true,false,true,true,false,false,false,false] (.br 1 (.br 4 (.br 5 (.br 6 (.br 7 .nil .nil) .nil) .nil) .nil) (.br 4 (.br 1 (.br 5 (.br 6 (.br 7 .nil .nil) .nil) .nil) (.br 5 (.br 1 (.br 6 (.br 7 .nil .nil) .nil) .nil) .nil)) .nil)) AP ?_;refine tH VO dD VL ?_;refine⟨?_,?_⟩;all_goals
    refine(DC Tz pr A0 _).CD ?_;rintro m5 H5 r5 hm5 ⟨⟨x5,rfl,hx5⟩,hg5,TC⟩;have It:=(TC p A0 A0).trans dD;have Ix:=(TC (nx+1+5) A0 A0).trans VO;(try simp-dsimp-implicitDefEqProofs(disch:=omega)only[go_sem,and_self,CI,It,VL,Ix])
    exact key m5 H5 x5 (And.intro hm5 (And.intro hg5 TC))
  intro m5 H5 x5 hC;obtain⟨hm5,hg5,TC⟩:=hC;replace I4:=I4.A42 (G':=H5) (m':=m3) (λi hi CP=>TC i A0 CP) A0 A0 A0;obtain⟨p',A43,-,-,-,-,Tx⟩:=I4.Tw (k:=1) A0;obtain rfl:p'=p:=by rw[hPe]at A43;injection A43 with e;exact e.symm
  apply hN;apply CW;first|refine Z0 p' (m3+5) 3 1 (DH (((ZE U.length).set 0 [0,0,x3]).map ints) 1 [.h (m3+5) 0 3]) [.i .i64 0,.i .i64 0,.i .i64 x5] (AD _ _ _) (bW (y:= .nl) A0).1 ((AB _ _ A0).trans (AD _ _ _)) rfl A0 ?_|skip
  refine BX (λG6 uN=>?_);dsimp only at uN;obtain⟨M,X6,Iy,hg6,hl6⟩:∃M X6,QL 12 (nx+1+7) M (nx+1+5) U P B bc X6 ((U9 U.length).set 0 (((U9 U.length).getD 0 []).set 0 [0,1,1])) G6/\E9 bs DP G6/\∀i,i<nx+1->i≠DP->G6 i=CJ H nx (some [.nl,.nl,.nl]) i:=by
   first
   |exact⟨m5,_,Tx G6 [0,0,x5] m5 B5 A0 (by rw[<-uN,AD,(bW A0).2];rfl) (λj hj CP=>by rw[<-uN,AB _ _ CP,AB _ _ A0,AB _ _ CP,AB _ _ A0]),hg5.BV (by rw[<-uN,AB _ _ A0,AB _ _ A0,AB _ _ A0,AB _ _ A0]),λi hi CP=>by rw[<-Ty i hi CP,<-TC i A0 CP,<-uN,AB _ _ A0,AB _ _ A0,AB _ _ A0,AB _ _ A0]⟩
   |exact⟨m2,_,by rw[<-uN];exact I4,by rw[<-uN];exact ZN,λi hi CP=>by rw[<-uN];exact YD i hi CP⟩
  have Q5:=Iy.cl;have h60:=(hl6 nx A0 A0).trans (AD _ _ _);refine BH ?_;refine sQ λN hN=>?_;simp-dsimp-implicitDefEqProofs(disch:=omega)only[go_sem,CI,Q5,h60,Iy.WQ.1,Iy.WQ.2];apply hN;refine BQ ?_;exact⟨_,λ_ _ h=>h,_,Iy.fz (λi hi=>AB _ _ A0) A0,⟨U,_,_,rfl,Iy.sh⟩,hg6.BV (AB _ _ A0),λi hi CP=>by rw[AB _ _ A0,hl6 i A0 CP,AB _ _ A0]⟩
 apply AF;apply CW;first|refine Z0 p' (m3+5) 3 1 (DH (((ZE U.length).set 0 [0,0,x3]).map ints) 1 [.h (m3+5) 0 3]) [.i .i64 0,.i .i64 0,.i .i64 x5] (AD _ _ _) (bW (y:= .nl) A0).1 ((AB _ _ A0).trans (AD _ _ _)) rfl A0 ?_|skip
 refine BX (λG6 uN=>?_);dsimp only at uN
 obtain⟨M,X6,Iy,hg6,hl6⟩:∃M X6,QL 12 (nx+1+7) M (nx+1+5) U P B bc X6 ((U9 U.length).set 0 (((U9 U.length).getD 0 []).set 0 [0,1,1])) G6/\E9 bs DP G6/\∀i,i<nx+1->i≠DP->G6 i=CJ H nx (some [.nl,.nl,.nl]) i:=by
  first
  |exact⟨m5,_,Tx G6 [0,0,x5] m5 B5 A0 (by rw[<-uN,AD,(bW A0).2];rfl) (λj hj CP=>by rw[<-uN,AB _ _ CP,AB _ _ A0,AB _ _ CP,AB _ _ A0]),hg5.BV (by rw[<-uN,AB _ _ A0,AB _ _ A0,AB _ _ A0,AB _ _ A0]),λi hi CP=>by rw[<-Ty i hi CP,<-TC i A0 CP,<-uN,AB _ _ A0,AB _ _ A0,AB _ _ A0,AB _ _ A0]⟩
  |exact⟨m2,_,by rw[<-uN];exact I4,by rw[<-uN];exact ZN,λi hi CP=>by rw[<-uN];exact YD i hi CP⟩
 have Q5:=Iy.cl
 have h60:=(hl6 nx A0 A0).trans (AD _ _ _)
 refine BH ?_;refine sQ λN hN=>?_;simp-dsimp-implicitDefEqProofs(disch:=omega)only[go_sem,CI,Q5,h60,Iy.WQ.1,Iy.WQ.2];apply hN;refine BQ ?_;exact⟨_,λ_ _ h=>h,_,Iy.fz (λi hi=>AB _ _ A0) A0,⟨U,_,_,rfl,Iy.sh⟩,hg6.BV (AB _ _ A0),λi hi CP=>by rw[AB _ _ A0,hl6 i A0 CP,AB _ _ A0]⟩
def bY{bs DP H}(hg:E9 bs DP H)(pr)(hp:2<=pr/\pr<=7)(nx)(WE:DP<nx):AC prog 224 nx H [.q DP 0,.i .i64 pr] (sK bs DP nx H (pY 12)):=wD WE (bX hg pr hp nx WE)
end
end Go.Proofs.YtgknbnkmilddhaaGreat