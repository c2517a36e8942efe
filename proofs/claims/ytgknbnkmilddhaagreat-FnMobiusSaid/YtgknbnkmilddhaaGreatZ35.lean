import Derived.Test.YtgknbnkmilddhaaGreatZ08
import Derived.Test.YtgknbnkmilddhaaGreatZ14
import Derived.Test.YtgknbnkmilddhaaGreatZ32
import Derived.Test.YtgknbnkmilddhaaGreatZ34
set_option linter.unusedVariables false
set_option linter.unusedSimpArgs false

namespace Go.Proofs.YtgknbnkmilddhaaGreat
def QM(s:ByteArray)(i:Nat):Int:=((s.data.getD i 0).toNat:Int)
theorem tF(s:ByteArray)(i:Nat):0<=QM s i/\QM s i<=255:=by
  have:=(s.data.getD i 0).toNat_lt;unfold QM;omega
def S3(s:ByteArray):Nat->Int
  |0=>0
  |i+1=>10*S3 s i+(QM s i-48)
def HI(s:ByteArray)(i:Nat):Prop:=48<=QM s i/\QM s i<=57
def A8C(s:ByteArray):Prop:=∀i,i<s.size->HI s i
open Classical in
noncomputable def lR(s:ByteArray):Int:=
  if s.size=0\/6<s.size\/(1<s.size/\QM s 0=48)then-1 else if A8C s then S3 s s.size else-1
theorem Sy{s:ByteArray}:∀i,(∀j,j<i->HI s j)->0<=S3 s i/\S3 s i<10^i:=by
  intro i;induction i with
  |zero=>intro _;rw[S3];exact⟨BX,BX⟩
  | succ i ih=>
    intro h;have h1:=ih (λj hj=>h j A0);have h2:=h i A0;have h3:(10:Int)^(i+1)=10*10^i:=by rw[Int.pow_succ];omega
    unfold HI at h2;rw[S3,h3];omega
theorem Jx{s:ByteArray}{i:Nat}(hi:i<=6)(h:∀j,j<i->HI s j):0<=S3 s i/\S3 s i<1000000:=by
  have h1:=Sy i h;have h2:(10:Int)^i<=1000000:=by
    match i,hi with
    |0,_=>decide
    |1,_=>decide
    |2,_=>decide
    |3,_=>decide
    |4,_=>decide
    |5,_=>decide
    |6,_=>decide
  omega
theorem lS{s:ByteArray}(h:s.size=0\/6<s.size\/(1<s.size/\QM s 0=48)):lR s= -1:=by rw[lR,if_pos h]
theorem lT{s:ByteArray}{k:Nat}(hk:k<s.size)(h:¬HI s k):lR s= -1:=by
  rw[lR];split
  · rfl
  rw[if_neg (λhd=>h (hd k hk))]
theorem lU{s:ByteArray}(h:¬(s.size=0\/6<s.size\/(1<s.size/\QM s 0=48)))(hd:∀j,j<s.size->HI s j):lR s=S3 s s.size:=by
  rw[lR,if_neg h];exact if_pos (show A8C s from hd)
theorem Jy{s:ByteArray}{k:Nat}(hd:∀j,j<k->HI s j)(hk:HI s k):∀j,j<k+1->HI s j:=by
  intro j hj;by_cases e:j=k
  · subst e;exact hk
  exact hd j A0
theorem w8{n:Int}(h0:0<=n)(h1:n<=255):IntKind.u8.wrap n=n:=by
  simp only[IntKind.wrap,IntKind.bits,IntKind.signed,Bool.false_and,Bool.false_eq_true,if_false];omega
set_option maxHeartbeats 2000000 in theorem XR (s:ByteArray):BI Tryz.prog 277 [.s s] (.i .i64 (lR s)):=by
 refine AD AA Tryz.func277 rfl A7 Tryz.ntmps277 Tryz.results277 (.i _ _) (λnx cX=>?_)
 refine B8 ?_;refine AW.seq λN1 B2=>?_;refine sQ λN hN=>?_;refine AG ?_;refine CH.mk' (λh1=>?_) (λh1=>?_)
 ·try simp only[cn]at h1
  refine AG ?_
  refine CH.mk' (λh2=>?_) (λh2=>?_)
  ·try simp only[cn]at h2
   refine AG ?_
   refine CH.mk' (λh3=>?_) (λh3=>?_)
   ·(try simp only[cn]at h3);refine AG ?_
    apply hN;refine AW.cond rfl ?_ ?_<;>intro h4<;>try simp only[cn]at h4
    ·refine B8 ?_;refine AH ?_;exact congrArg _ (lS (.inr (.inr ⟨A0,h4⟩))).symm
    have YT:¬(s.size=0\/6<s.size\/(1<s.size/\QM s 0=48)):=by
     rintro(h|h|⟨_,h⟩)
     ·omega
     ·omega
     exact h4 h
    apply AW.skip;apply B2;refine B8 ?_;refine AW.seq λN2 B7=>?_;refine B8 ?_;apply AW.block;refine A8 (α:=Nat) (λx=>sl 48 [(0,.s s),(3,.i .i64 (S3 s x)),(4,.i .i64 x)]) (λ_=>BM) (λx m=>x<=s.size/\∀j,j<x->HI s j) (λx=>s.size-x) (0) ?_ ?_ (λ_ _ h=>h) ?_
    ·exact⟨A0,by intro j hj;omega⟩
    ·simp(disch:=omega) [AN,AO,sl,S3]
    skip
    rintro k m ⟨hk,hd⟩;have hv:=Jx (s:=s) (i:=k) A0 hd;have hb:=tF s k;refine AW.seq λN3 BC=>?_;refine B8 ?_;refine AW.cond rfl ?_ ?_<;>intro h5<;>try simp only[cn]at h5
    ·have DN:k<s.size:=A0;apply AW.skip;apply BC;refine AW.seq λN4 CF=>?_;apply AW.block;refine AW.seq λN5 DL=>?_;refine sQ λN hN=>?_;refine AG ?_;refine CH.mk' (λh6=>?_) (λh6=>?_)
     ·(try simp only[cn]at h6);refine AG ?_
      apply hN;refine AW.cond rfl ?_ ?_<;>intro h7<;>try simp only[cn]at h7
      ·refine B8 ?_;refine AH ?_;exact congrArg _ (lT DN (λhd=>by unfold HI QM at hd;omega)).symm
      have uR:HI s k:=by unfold HI QM;omega
      apply AW.skip;apply DL;apply rQ;simp-dsimp-implicitDefEqProofs(maxSteps:=800000) (disch:=omega)only[go_sem,w8];apply CF;refine GN ?_;refine⟨k+1,?_,λ_ _ h=>h,?_,?_⟩
      ·simp(disch:=omega) [AN,AO,sl,S3,QM,AR,w8]
      ·exact⟨A0,Jy hd uR⟩
      first|omega|(simp only;omega)
     (try simp only[cn]at h6);refine AG ?_
     apply hN;refine CI rfl ?_;refine B8 ?_;refine AH ?_;exact congrArg _ (lT DN (λhd=>by unfold HI QM at hd;omega)).symm
    obtain rfl:k=s.size:=A0;apply AW.exit;apply B7;refine sQ λN hN=>?_;simp-dsimp-implicitDefEqProofs(maxSteps:=800000) (disch:=omega)only[go_sem,w8];apply hN;refine AH ?_;exact congrArg _ (lU YT hd).symm
   try simp only[cn]at h3
   have YT:¬(s.size=0\/6<s.size\/(1<s.size/\QM s 0=48)):=by
    rintro(h|h|⟨h,_⟩)<;>omega
   refine AG ?_
   apply hN;refine B4 rfl ?_;apply AW.skip;apply B2;refine B8 ?_;refine AW.seq λN6 FR=>?_;refine B8 ?_;apply AW.block;refine A8 (α:=Nat) (λx=>sl 48 [(0,.s s),(3,.i .i64 (S3 s x)),(4,.i .i64 x)]) (λ_=>BM) (λx m=>x<=s.size/\∀j,j<x->HI s j) (λx=>s.size-x) (0) ?_ ?_ (λ_ _ h=>h) ?_
   ·exact⟨A0,by intro j hj;omega⟩
   ·simp(disch:=omega) [AN,AO,sl,S3]
   skip
   rintro k m ⟨hk,hd⟩;have hv:=Jx (s:=s) (i:=k) A0 hd;have hb:=tF s k;refine AW.seq λN7 MV=>?_;refine B8 ?_;refine AW.cond rfl ?_ ?_<;>intro h8<;>try simp only[cn]at h8
   ·have DN:k<s.size:=A0;apply AW.skip;apply MV;refine AW.seq λN8 OB=>?_;apply AW.block;refine AW.seq λN9 SC=>?_;refine sQ λN hN=>?_;refine AG ?_;refine CH.mk' (λh9=>?_) (λh9=>?_)
    ·(try simp only[cn]at h9);refine AG ?_
     apply hN;refine AW.cond rfl ?_ ?_<;>intro VZ<;>try simp only[cn]at VZ
     ·refine B8 ?_;refine AH ?_;exact congrArg _ (lT DN (λhd=>by unfold HI QM at hd;omega)).symm
     have uR:HI s k:=by unfold HI QM;omega
     apply AW.skip;apply SC;apply rQ;simp-dsimp-implicitDefEqProofs(maxSteps:=800000) (disch:=omega)only[go_sem,w8];apply OB;refine GN ?_;refine⟨k+1,?_,λ_ _ h=>h,?_,?_⟩
     ·simp(disch:=omega) [AN,AO,sl,S3,QM,AR,w8]
     ·exact⟨A0,Jy hd uR⟩
     first|omega|(simp only;omega)
    (try simp only[cn]at h9);refine AG ?_
    apply hN;refine CI rfl ?_;refine B8 ?_;refine AH ?_;exact congrArg _ (lT DN (λhd=>by unfold HI QM at hd;omega)).symm
   obtain rfl:k=s.size:=A0;apply AW.exit;apply FR;refine sQ λN hN=>?_;simp-dsimp-implicitDefEqProofs(maxSteps:=800000) (disch:=omega)only[go_sem,w8];apply hN;refine AH ?_;exact congrArg _ (lU YT hd).symm
  try simp only[cn]at h2
  refine AG ?_
  apply hN;refine CI rfl ?_;refine B8 ?_;refine AH ?_;exact congrArg _ (lS (.inr (.inl A0))).symm
 try simp only[cn]at h1
 refine AG ?_
 apply hN;refine CI rfl ?_;refine B8 ?_;refine AH ?_;exact congrArg _ (lS (.inl A0)).symm
theorem Jz{cX n ops y s s1 K f Zz r}(x:BI Tryz.prog f Zz r)(q:AW cX Tryz.prog y s1 K)(e:BI Tryz.prog f Zz r->BV ops s s1:=by intro x N hN;(try simp-dsimp-implicitDefEqProofs(maxSteps:=800000) (disch:=omega)only[go_sem,ZI,ZJ,ZK,AP,strs]);refine AC.pure (.of x) ?_;(try simp-dsimp-implicitDefEqProofs(maxSteps:=800000) (disch:=omega)only[go_sem,ZI,ZJ,ZK,AP,strs]);exact hN):BU cX n ops y s K:=BY q (e x)
theorem eS{P Q:Prop}(q:Q)(e:Q->P:=by intro q;(try simp-dsimp-implicitDefEqProofs(maxSteps:=800000) (disch:=omega)only[go_sem,ZI,ZJ,ZK,AP,strs]);exact q):P:=e q
theorem tG{cX n ops y s s1 K}(q:AW cX Tryz.prog y s1 K)(e:BV ops s s1:=by intro N hN;(try simp-dsimp-implicitDefEqProofs(maxSteps:=800000) (disch:=omega)only[go_sem,ZI,ZJ,ZK,AP,strs]);exact hN):BU cX n ops y s K:=BY q e
end Go.Proofs.YtgknbnkmilddhaaGreat

namespace Go.Proofs.YtgknbnkmilddhaaGreat
def qK(n b:Int):Option Int:=if 1<=b-97+1/\b-97+1<=n then some (b-97+1)else if 1<=b-65+1/\b-65+1<=n then some (-(b-65+1))else none
def lV(n:Int)(s:ByteArray)(i:Nat):List Int:=(List.range i).map λj=>(qK n (QM s j)).getD 0
def pN(n:Int)(s:ByteArray):Prop:=∀j,j<s.size->qK n (QM s j)≠none
open Classical in
noncomputable def Sz(n:Int)(s:ByteArray):List Int:=if s.toList=(⟨#[49]⟩:ByteArray).toList then []else if pN n s then lV n s s.size else []
open Classical in
noncomputable def Ta(n:Int)(s:ByteArray):Bool:=if s.toList=(⟨#[49]⟩:ByteArray).toList then true else if pN n s then decide ((s.size:Int)>0)else false
noncomputable def lW(n:Int)(s:ByteArray):AV:= .t [ints (Sz n s),.b (Ta n s)]
theorem Ka{x:AV}(h:NR x)(e:Bool):NR (.t [x,.b e]):= .t _ λk y hk=>by
  match k,hk with
  |0,hk=>cases hk;exact h
  |1,hk=>cases hk;exact .b _
theorem eT{H:HP}{a b x:AV}(h:Vw H a b):Vw H (.t [a,x]) (.t [b,x]):= .t _ _ rfl λk u v hu hv=>by
  match k,hu,hv with
  |0,hu,hv=>cases hu;cases hv;exact h
  |1,hu,hv=>cases hu;cases hv;exact .refl _
theorem pO(n:Int)(s:ByteArray)(i:Nat):(lV n s i).length=i:=by simp[lV]
theorem A2U{n:Int}{s:ByteArray}{i:Nat}{l:Int}(h:qK n (QM s i)=some l):lV n s (i+1)=lV n s i++[l]:=by
  rw[lV,List.range_succ,List.map_append,List.map_cons,List.map_nil,h];rfl
theorem tH(a:List Int):NR (ints a):= .v _ _ λk x h=>by
  rw[List.getElem?_map]at h;obtain⟨y,_,rfl⟩:=Option.map_eq_some_iff.1 h;exact .i _ _
noncomputable def lcs(n:Int)(s:ByteArray)(i:Nat):List AV:=(lV n s i).map (.i .i64)
theorem lX(n:Int)(s:ByteArray)(i:Nat):(lcs n s i).length=i:=by rw[lcs,List.length_map,pO]
theorem Vz{n:Int}{s:ByteArray}{i:Nat}{l:Int}(h:qK n (QM s i)=some l):lcs n s (i+1)=lcs n s i++[.i .i64 l]:=by
  rw[lcs,A2U h,List.map_append];rfl
theorem A8D{n b:Int}(h:1<=b-97+1/\b-97+1<=n):qK n b=some (b-97+1):=by rw[qK,if_pos h]
theorem ACF{n b:Int}(h:¬(1<=b-97+1/\b-97+1<=n))(h2:1<=b-65+1/\b-65+1<=n):qK n b=some (-(b-65+1)):=by rw[qK,if_neg h,if_pos h2]
theorem ACG{n b:Int}(h:¬(1<=b-97+1/\b-97+1<=n))(h2:¬(1<=b-65+1/\b-65+1<=n)):qK n b=none:=by rw[qK,if_neg h,if_neg h2]
theorem Tb{n:Int}{s:ByteArray}(h:s.toList=(⟨#[49]⟩:ByteArray).toList):lW n s= .t [ints [],.b true]:=by rw[lW,Sz,Ta,if_pos h,if_pos h]
theorem A2V{n:Int}{s:ByteArray}{k:Nat}(h:¬s.toList=(⟨#[49]⟩:ByteArray).toList)(hk:k<s.size)(hn:qK n (QM s k)=none):lW n s= .t [ints [],.b false]:=by
  have:¬pN n s:=λha=>ha k hk hn
  rw[lW,Sz,Ta,if_neg h,if_neg h,if_neg this,if_neg this]
theorem xQ{n:Int}{s:ByteArray}(h:¬s.toList=(⟨#[49]⟩:ByteArray).toList)(ha:pN n s):lW n s= .t [.v s.size (lcs n s s.size),.b (decide ((s.size:Int)>0))]:=by
  rw[lW,Sz,Ta,if_neg h,if_neg h,if_pos ha,if_pos ha,ints,pO];rfl
theorem Wa{n:Int}{s:ByteArray}{k:Nat}{l:Int}(hd:∀j,j<k->qK n (QM s j)≠none)(h:qK n (QM s k)=some l):∀j,j<k+1->qK n (QM s j)≠none:=by
  intro j hj;by_cases e:j=k
  · subst e;rw[h];simp
  exact hd j A0
set_option maxHeartbeats 4000000 in theorem XS (n:Int) (s:ByteArray) (hs:s.size<=2097152):BI Tryz.prog 278 [.i .i64 n,.s s] (lW n s):=by
 refine B5 AA Tryz.func278 rfl A7 Tryz.ntmps278 Tryz.results278 ((Ka (tH _) _)) (λnx cX=>?_)
 refine B8 ?_;refine AW.seq λN1 B2=>?_;refine B8 ?_;refine AW.cond rfl ?_ ?_<;>intro h1<;>try simp only[cn]at h1
 ·refine B8 ?_;refine AH ?_;rw[Tb h1];exact eT (lO (cs:=[]) rfl)
 apply AW.skip;apply B2;refine B8 ?_;refine AW.seq λN2 B7=>?_;refine B8 ?_;apply AW.block;refine A8 (α:=Nat×Nat) (λx=>sl 53 [(0,.i .i64 n),(1,.s s),(6,.h x.2 0 x.1),(7,.i .i64 x.1)]) (λx=>AT BM x.2 (some (lcs n s x.1))) (λx m=>x.1<=s.size/\x.2<m/\∀j,j<x.1->qK n (QM s j)≠none) (λx=>s.size-x.1) ((0,_)) ?_ ?_ (eR (A4 _ _ _)) ?_
 ·exact⟨by simp only;omega,A9,by intro j hj;simp only at hj;omega⟩
 ·simp(disch:=omega) [AN,AO,sl,AR,ints,rows,A6,AR]<;>omega
 skip
 rintro⟨k,id⟩ m ⟨hk,DS,hd⟩
 simp only at hk DS hd ⊢
 have hb:=tF s k
 have La:0<=((s.data.getD k 0).toNat:Int)/\((s.data.getD k 0).toNat:Int)<=255:=hb
 have g1:(k+1)*8<=140737488355328:=A0
 have g2:k+1<=9223372036854775807:=A0
 have hle:k<=(lcs n s k).length:=by rw[lX];exact Nat.le_refl _
 have W0:List.take k (lcs n s k)=lcs n s k:=List.take_of_length_le (by rw[lX];omega)
 refine AW.seq λN3 BC=>?_;refine B8 ?_;refine AW.cond rfl ?_ ?_<;>intro h2<;>try simp only[cn]at h2
 ·have DN:k<s.size:=A0;apply AW.skip;apply BC;refine AW.seq λN4 CF=>?_;apply AW.block;refine AW.seq λN hN=>?_;refine AM AA A7 14 A7 ?_
  (try simp-dsimp-implicitDefEqProofs(maxSteps:=800000) (disch:=omega)only[go_sem,List.drop_nil,List.drop_succ_cons,List.drop_zero,List.take_nil,List.take_succ_cons,List.take_zero,BW,BE,BF,AR]);apply hN;apply AW.block;refine N0 (GO _ 1 n) ?_;refine AW.cond rfl ?_ ?_<;>intro h3<;>try simp only[cn]at h3
  ·have hl:=A8D (b:=QM s k) ⟨h3.1,h3.2⟩;apply rQ;simp-dsimp-implicitDefEqProofs(maxSteps:=800000) (disch:=omega)only[go_sem,W0,g1,g2,hle];apply CF;refine GN ?_;refine⟨(k+1,_),?_,by rw[Vz hl];exact eR (A4 _ _ _),?_,?_⟩
   ·simp(disch:=omega) [AN,AO,sl,AR,ints,rows,A6,AR]<;>omega
   ·exact⟨by simp only;omega,A9,Wa hd hl⟩
   first|omega|(simp only;omega)
  refine N0 (GO _ 1 n) ?_;refine AW.cond rfl ?_ ?_<;>intro h4<;>try simp only[cn]at h4
  ·have hl:=(ACF (b:=QM s k) h3 ⟨h4.1,h4.2⟩).trans (congrArg some (Int.zero_sub _).symm);apply rQ;simp-dsimp-implicitDefEqProofs(maxSteps:=800000) (disch:=omega)only[go_sem,W0,g1,g2,hle];apply CF;refine GN ?_;refine⟨(k+1,_),?_,by rw[Vz hl];exact eR (A4 _ _ _),?_,?_⟩
   ·simp(disch:=omega) [AN,AO,sl,AR,ints,rows,A6,AR]<;>omega
   ·exact⟨by simp only;omega,A9,Wa hd hl⟩
   first|omega|(simp only;omega)
  refine B8 ?_;refine AH ?_;rw[A2V h1 DN (ACG (b:=QM s k) h3 h4)];exact eT .nl
 obtain rfl:k=s.size:=A0
 apply AW.exit;apply B7;refine B8 ?_;refine AH ?_;rw[xQ h1 hd];exact eT (lO (lX _ _ _))
end Go.Proofs.YtgknbnkmilddhaaGreat

namespace Go.Proofs.YtgknbnkmilddhaaGreat
def lY(w:List Int):Nat->Nat->Int
  |0=>λ_=>0
  |k+1=>AX (lY w k) (w.getD k 0-1).toNat (lY w k (w.getD k 0-1).toNat+1)
def gV(n:Nat)(w:List Int):List Int:=vec n (lY w w.length)
theorem Tc(w:List Int):∀k j,0<=lY w k j/\lY w k j<=k:=by
  intro k;induction k with
  |zero=>intro j;simp[lY]
  | succ k ih=>
    intro j;have h1:=ih j;have h2:=ih (w.getD k 0-1).toNat;simp only[lY,AX];split<;>omega
theorem eU(n:Nat)(w:List Int):(gV n w).length=n:=by simp[gV,vec]
set_option maxHeartbeats 2000000 in theorem XT (n:Nat) (w:List Int) (hn:n<=1000) (hw:w.length<=1048576) (hl:∀k,k<w.length->1<=w.getD k 0/\w.getD k 0<=n):∀nx,AC Tryz.prog 279 nx BM [.i .i64 n,ints w] (λBB H' r=>∃id,r= .t [.h id 0 n,.b true]/\(nx<=id/\id<BB)/\H' id=some ((gV n w).map (.i .i64))):=by
 intro nx
 refine BS AA Tryz.func279 rfl A7 Tryz.ntmps279 Tryz.results279 (λcX=>?_)
 refine C1 ?_;refine C1 ?_;refine AW.seq λN1 B2=>?_;refine C1 ?_;apply AW.block;refine A8 (α:=Nat) (λx=>sl 38 [(1,ints w),(6,.h (nx+3) 0 n),(7,.i .i64 x)]) (λx=>AT BM (nx+3) (some (D3 n (lY w x)))) (λx m=>x<=w.length/\nx+4<=m) (λx=>w.length-x) (0) ?_ ?_ (by intro d cs h;simp only[AT,CO,lY]at h ⊢;exact h) ?_
 ·exact⟨A0,A9⟩
 ·simp(disch:=omega) [AN,AO,sl,AR,ints,rows,A6,ints,AL,AR]<;>omega
 skip
 rintro k m ⟨hk,hm⟩
 refine AG ?_;have Cv:=hl k
 refine AW.seq λN2 B7=>?_;refine C1 ?_;refine AW.cond rfl ?_ ?_<;>intro h1<;>try simp only[cn]at h1
 ·have AEB:=Cv A0;apply AW.skip;apply B7;refine AW.seq λN3 BC=>?_;apply AW.block;refine AW.seq λN4 CF=>?_;refine C1 ?_;refine AW.cond rfl ?_ ?_<;>intro h2<;>try simp only[cn]at h2
  ·omega
  have hvb:=Tc w k (w.getD k 0-1).toNat;apply AW.skip;apply CF;refine AM AA A7 16 A7 ?_;refine De ?_;apply BC;refine II ?_;refine⟨k+1,?_,by intro d cs h;exact h,?_,?_⟩
  ·simp(disch:=omega) [AN,AO,sl,AR,ints,rows,A6,ints,AL,AR]<;>omega
  ·exact⟨A9,A9⟩
  first|omega|(simp only;omega)
 have S8:k=w.length:=A0
 apply AW.exit;apply B2;refine C1 ?_;refine AH ?_;refine⟨_,rfl,⟨A0,A0⟩,?_⟩
 rw[S8,A4,gV,K4]
structure Shp(n:Nat)(os:List Int)(pw:List (List Int))(cj:List (List (List Int))):Prop where
  o:os.length=n
  p:pw.length=n
  c:cj.length=n
  r:∀i,i<n->(cj.getD i []).length=n-1-i
  pl:BO pw
  cl:F1 cj
theorem Kb(os:List Int)(pw:List (List Int))(cj:List (List (List Int))):NR (AP os pw cj):=by
  unfold AP;exact .g _ λk x hk=>by
    match k,hk with
    |0,hk=>cases hk;exact tH _
    |1,hk=>cases hk;exact UJ _
    |2,hk=>cases hk;exact nL _
theorem A2W(x y:UInt8):(D8 [32,x,94,y]).size=4:=rfl
theorem q_0(x y:UInt8):(D8 [32,x,94,y]).data.getD 0 0=32:=rfl
theorem q_1(x y:UInt8):(D8 [32,x,94,y]).data.getD 1 0=x:=rfl
theorem q_2(x y:UInt8):(D8 [32,x,94,y]).data.getD 2 0=94:=rfl
theorem q_3(x y:UInt8):(D8 [32,x,94,y]).data.getD 3 0=y:=rfl
theorem q_e(x y:UInt8):(D8 [32,x,94,y]).extract 3 4=D8 [y]:=rfl
theorem ZK:Int.toNat 3=3:=rfl
theorem ACH:(((2:Nat):Int) !=2)=false:=rfl
theorem ACI:(((4:Nat):Int) !=4)=false:=rfl
theorem ACJ:(((32:UInt8).toNat:Int) !=32)=false:=rfl
theorem ACK:(((94:UInt8).toNat:Int) !=94)=false:=rfl
theorem TQ.vwA{a m t k n id:Nat}{G H':HP}{r P B:AV}{os:List Int}{x:List Int}{rs cb':List AV}{X:List Int->List (List Int)}{Y:List Int->List (List (List Int))}
    {cpf:AV->List AV} (EP:∀(H':HP) (r1:AV) (x:List Int) (is:List Nat) (a' m':Nat),Ow H' r1 (ints x) is->is.Nodup->(∀i∈is,(i<a\/m<=i)/\a'<=i/\i<m')->H' t=some (B3 rs k [r1])->(∀i,a<=i->i<m->i≠t->H' i=G i)->m<=m'->a'<=a->TQ a' m' H' r P B os (X x) (Y x) (cpf r1) cb')
    (hv:H' id=some (x.map (.i .i64))) (hn:n=x.length) (DS:id<a/\id<m) (ht:H' t=some (B3 rs k [.h id 0 n])) (hk:∀i,a<=i->i<m->i≠t->H' i=G i):∃ids,Own id m H' (.g [r,P,B]) (Go.Proofs.YtgknbnkmilddhaaGreat.AP os (X x) (Y x)) ids:=
  (EP H' _ x [id] id m (Ow.ints hv hn) AB (λi hi=>by rw[List.mem_singleton.1 hi];omega) ht hk (Nat.le_refl _) A0).1.own
set_option maxHeartbeats 8000000 in
theorem LI(n:Nat)(os:List Int)(pw:List (List Int))(cj:List (List (List Int)))(hn:n<=6)(hs:Shp n os pw cj)(ho:∀i,i<n->0<=os.getD i 0/\os.getD i 0<10)(l r:List UInt8)(x y:UInt8)(Ma:l.length<=2097152)(P7:r.length<=2097152)(qB:VU 61 l=[[32,x,94,y],r])(w:List Int)(nT:w.length<=1048576)(hw:lW n (D8 r)= .t [ints w,.b true])(hwv:∀k,k<w.length->1<=w.getD k 0/\w.getD k 0<=n)
 (xi:Nat) (hx:(x.toNat:Int)=97+xi) (S7:xi<n) (PK:List Int) (pw2:List (List Int)) (cj2:List (List (List Int))) (YR:((D8 [y]).toList=(dg (os.getD xi 0)).toList/\(PK,pw2,cj2)=(os,pw.set xi (gV n w),cj))\/(¬(D8 [y]).toList=(dg (os.getD xi 0)).toList/\∃yi:Nat,(y.toNat:Int)=97+yi/\yi<xi/\(PK,pw2,cj2)=(os,pw,cj.set yi ((cj.getD yi []).set (xi-yi-1) (gV n w))))):
 BI Tryz.prog 273 [AP os pw cj,.s (D8 l)] (.t [AP PK pw2 cj2,.b true]):=by
 have Ac:BI Tryz.prog 271 [.s (D8 l),.i .u8 61] (strs [D8 [32,x,94,y],D8 r]):=by
  have:=IV (D8 l) 61 (by rw[EF];omega);rwa [xO,qB]at this
 have hon:=hs.o
 subst hon
 have Kc:BI Tryz.prog 278 [.i .i64 os.length,.s (D8 r)] (.t [ints w,.b true]):=by
  have:=XS os.length (D8 r) (by rw[EF];omega);rwa [hw]at this
 have ACL:(x.toNat:Int)-97=xi:=A0
 have hyb:=y.toNat_lt
 have hxa:decide ((xi:Int)<0)=false:=decide_eq_false A0
 have hxb:decide ((xi:Int)>=os.length)=false:=decide_eq_false A0
 have hxc:decide ((os.length:Int)<=xi)=false:=decide_eq_false A0
 refine B5 AA Tryz.func273 rfl A7 Tryz.ntmps273 Tryz.results273 ((Ka (Kb _ _ _) _)) (λnx cX=>?_)
 refine tG ?_;refine AK 2 nx [ints os,rows pw,A6 cj] rfl (by simp(disch:=omega)only[A1,A4]) ?_
 refine AG ?_;refine tG ?_;refine Jz (Ac) ?_;refine AW.seq λN1 B2=>?_;refine sQ λN hN=>?_;simp-dsimp-implicitDefEqProofs(maxSteps:=800000) (disch:=omega)only[go_sem,ZI,ZJ,ZK,ACH,ACJ,ACI,ACK,AP,q_0,q_2,A2W,strs];apply hN;refine B4 rfl ?_;apply AW.skip;apply B2;refine Jz (Kc) ?_;refine AW.seq λN2 B7=>?_;refine tG ?_;refine B4 rfl ?_;apply AW.skip;apply B7;refine sQ λN hN=>?_;refine eS ?_;refine(AC.frame (XT os.length w A0 nT hwv _)).AS ?_
 rintro m0 H0 rv uC ⟨G9,⟨idv,rfl,⟨hv1,hv2⟩,hv9⟩,A8E,A2X⟩
 have hv3:=(A2X idv hv1).trans hv9
 have ACN:H0 (nx+1)=some [.nl,.nl,.nl]:=by rw[A8E _ A0];simp(disch:=omega)only[A1,A4]
 (try simp-dsimp-implicitDefEqProofs(maxSteps:=800000) (disch:=omega)only[go_sem,AP,strs])
 apply hN;refine AW.seq λN hN=>?_;refine AM AA A7 14 A7 ?_
 (try simp-dsimp-implicitDefEqProofs(maxSteps:=800000) (disch:=omega)only[go_sem,List.drop_nil,List.drop_succ_cons,List.drop_zero,List.take_nil,List.take_succ_cons,List.take_zero,BW,BE,BF,ZI,ZJ,ZK,AP,q_1,q_3,A2W,strs,AR,ACL]);apply hN;refine AW.seq λN3 BC=>?_;refine sQ λN hN=>?_;simp-dsimp-implicitDefEqProofs(maxSteps:=800000) (disch:=omega)only[go_sem,ZI,ZJ,ZK,AP,strs,hxa,hxb,hxc];apply hN;refine B4 rfl ?_;apply AW.skip;apply BC;refine sQ λN hN=>?_;refine eS ?_;refine(AC.frame (gS os pw cj A0 hs.pl hs.cl _)).AS ?_
 rintro m1 H1 rr T6 ⟨G0,⟨r0,P,B,cp,cb,rfl,hW⟩,CD,FA⟩
 have hW1:=hW.AJ (H':=H1) (λi i1 i2=>FA i i1) (Nat.le_refl _)
 have Vs:=hW1.2.1.one
 have zZ:=hW1.2.2.1.one
 have ZX:=hW1.r0
 (try simp-dsimp-implicitDefEqProofs(maxSteps:=800000) (disch:=omega)only[go_sem,Vs,zZ,ZX])
 apply hN;refine AW.seq λN4 CF=>?_;refine AI (λG1 I8=>?_);dsimp only at I8
 have hq:G1 (m0+14+11+2)=some [r0,P,B]:=by rw[<-I8];simp(disch:=omega)only[A4]
 have cZ:G1 (nx+1)=some [.nl,.nl,.nl]:=by rw[<-I8,A1 _ _ A0,CD _ A0];exact ACN
 have hv4:G1 idv=some ((gV os.length w).map (.i .i64)):=by rw[<-I8,A1 _ _ A0,CD _ A0];exact hv3
 have hW2:=hW1.AJ (H':=G1) (λi i1 i2=>by rw[<-I8];simp(disch:=omega)only[A1]) (Nat.le_refl _)
 have hgi:=AL (xs:=os) (k:=xi) S7
 refine AW.seq λN hN=>?_;refine AM AA A7 11 A7 ?_
 (try simp-dsimp-implicitDefEqProofs(maxSteps:=800000) (disch:=omega)only[go_sem,Int.toNat_natCast,List.drop_nil,List.drop_succ_cons,List.drop_zero,List.take_nil,List.take_succ_cons,List.take_zero,BW,BE,BF,ints,ZI,ZJ,ZK,AP,q_e,A2W,strs,AR,hgi]);refine⟨_,.of (I6 (os.getD xi 0) (ho xi S7).1 (ho xi S7).2),?_⟩
 refine eS ?_
 apply hN;refine AW.cond rfl ?_ ?_<;>intro h1<;>try simp only[cn]at h1
 ·have hdg:(D8 [y]).toList=(dg (os.getD xi 0)).toList:=by simpa using h1
  obtain⟨_,e⟩:=YR.resolve_right (λh=>h.1 hdg);simp only[Prod.mk.injEq]at e;obtain⟨rfl,rfl,rfl⟩:=e;have hxp:xi<pw.length:=by rw[hs.p];exact S7
  obtain⟨p,rfl,hp,YN,nP,EP⟩:=hW2.QE (k:=xi) hxp;refine sQ λN hN=>?_;simp-dsimp-implicitDefEqProofs(maxSteps:=800000) (disch:=omega)only[go_sem,Int.toNat_natCast,ZI,ZJ,ZK,AP,strs,hq,hp,YN];apply hN;refine sQ λN hN=>?_;simp-dsimp-implicitDefEqProofs(maxSteps:=800000) (disch:=omega)only[go_sem,ZI,ZJ,ZK,AP,strs,cZ,hq,Vs,zZ,ZX];apply hN;refine AH ?_;refine eT ?_
  obtain⟨ids,ho⟩:=TQ.vwA EP (H':=AT (AT G1 p (some (B3 cp xi [.h idv 0 PK.length]))) (nx+1) (some [r0,.h p 0 pw.length,B])) (id:=idv) (n:=PK.length) (by simp(disch:=omega)only[A1];exact hv4) (eU _ _).symm A0 (by simp(disch:=omega)only[A1,A4]) (λi i1 i2 i3=>by simp(disch:=omega)only[A1]);exact ho.1.vw
 have hdg:¬(D8 [y]).toList=(dg (os.getD xi 0)).toList:=by simpa using h1
 obtain⟨_,yi,hy,hyx,e⟩:=YR.resolve_left (λh=>hdg h.1)
 simp only[Prod.mk.injEq]at e
 obtain⟨rfl,rfl,rfl⟩:=e
 apply AW.skip;apply CF;refine AW.seq λN5 DL=>?_;refine sQ λN hN=>?_;refine eS ?_;refine CH.mk' (λh2=>?_) (λh2=>?_)
 ·try simp only[cn]at h2
  refine eS ?_
  apply hN;refine AW.cond rfl ?_ ?_<;>intro h3<;>try simp only[cn]at h3
  ·omega
  have yL:yi<cj.length:=by rw[hs.c];omega
  have Ll:xi-yi-1<(cj.getD yi []).length:=by rw[hs.r yi A0];omega
  obtain⟨b,q,ds,rfl,hb,JN,b12,Lz,hd,Ve,q12,hqb,EP⟩:=hW2.V9 yL Ll;have ey:(y.toNat:Int)-97=yi:=A0;have exy:((xi:Int)-yi-1).toNat=xi-yi-1:=A0;apply AW.skip;apply DL;refine sQ λN hN=>?_;simp-dsimp-implicitDefEqProofs(maxSteps:=800000) (disch:=omega)only[go_sem,Int.toNat_natCast,ZI,ZJ,ZK,AP,strs,hq,hb,JN,Lz,hd,Ve,ey,exy];apply hN;refine sQ λN hN=>?_;simp-dsimp-implicitDefEqProofs(maxSteps:=800000) (disch:=omega)only[go_sem,ZI,ZJ,ZK,AP,strs,cZ,hq,Vs,zZ,ZX];apply hN;refine AH ?_;refine eT ?_
  obtain⟨ids,ho⟩:=TQ.vwA EP (H':=AT (AT G1 q (some (B3 ds (xi-yi-1) [.h idv 0 PK.length]))) (nx+1) (some [r0,P,.h b 0 cj.length])) (id:=idv) (n:=PK.length) (by simp(disch:=omega)only[A1];exact hv4) (eU _ _).symm A0 (by simp(disch:=omega)only[A1,A4]) (λi i1 i2 i3=>by simp(disch:=omega)only[A1]);exact ho.1.vw
 try simp only[cn]at h2
 omega
end Go.Proofs.YtgknbnkmilddhaaGreat

namespace Go.Proofs.YtgknbnkmilddhaaGreat
def Kd:List UInt8->Option Int
  |[c]=>if c=50\/c=51\/c=53\/c=55 then some ((c.toNat:Int)-48)else none
  |_=>none
def pP:List (List UInt8)->Option (List Int)
  |[]=>some []
  |p::ps=>(Kd p).bind λd=>(pP ps).bind λds=>some (d::ds)
def Ke(l:List UInt8):Option (List Int):=if l=[49]then some []else (pP (VU 32 l)).bind λos=>if os.length<=6/\CV os os.length<=729 then some os else none
theorem Td{c:UInt8}(h1:48<=(c.toNat:Int))(h2:(c.toNat:Int)<=57):lR (D8 [c])=(c.toNat:Int)-48:=by
  have hb:QM (D8 [c]) 0=(c.toNat:Int):=rfl;have hs:(D8 [c]).size=1:=rfl;rw[lU (by rw[hs];omega) (λj hj=>by
    obtain rfl:j=0:=by rw[hs]at hj;omega
    unfold HI;rw[hb];omega),hs]
  simp only[S3,hb];omega
theorem eV{p:List UInt8}{d:Int}(h:Kd p=some d):lR (D8 p)=d/\JG d:=by
  unfold Kd at h;split at h
  · split at h
    · rename_i c hc;cases h;rcases hc with rfl|rfl|rfl|rfl
      · exact⟨Td BX BX,.inl rfl⟩
      · exact⟨Td BX BX,.inr (.inl rfl)⟩
      · exact⟨Td BX BX,.inr (.inr (.inl rfl))⟩
      exact⟨Td BX BX,.inr (.inr (.inr rfl))⟩
    cases h
  cases h
theorem pQ:∀{ps:List (List UInt8)} {os:List Int},pP ps=some os->os.length=ps.length/\∀k,k<ps.length->Kd (ps.getD k [])=some (os.getD k 0):=by
  intro ps;induction ps with
  |nil=>intro os h;cases h;exact⟨rfl,λk hk=>by simp at hk⟩
  | cons p ps ih=>
    intro os h;rw[pP]at h;cases hd:Kd p with
    |none=>rw[hd]at h;cases h
    | some d=>
      cases No:pP ps with
      |none=>rw[hd,No]at h;cases h
      | some ds=>
        rw[hd,No]at h;cases h;obtain⟨h1,h2⟩:=ih No;refine⟨by simp[h1],λk hk=>?_⟩;cases k with
        |zero=>simpa using hd
        |succ k=>simpa using h2 k (by simpa using hk)
set_option maxHeartbeats 4000000 in theorem VV (l:List UInt8) (os:List Int) (hl:l.length<=2097152) (h:Ke l=some os):BI Tryz.prog 272 [.s (D8 l)] (.t [ints os,.b true]):=by
 have Ac:BI Tryz.prog 271 [.s (D8 l),.i .u8 32] (strs ((VU 32 l).map D8)):=by
  have:=IV (D8 l) 32 (by rw[EF];omega);rwa [xO]at this
 refine B5 AA Tryz.func272 rfl A7 Tryz.ntmps272 Tryz.results272 ((Ka (tH _) _)) (λnx cX=>?_)
 refine B8 ?_;refine B8 ?_;refine AW.seq λN1 B2=>?_;refine B8 ?_;refine AW.cond rfl ?_ ?_<;>intro h1<;>try simp only[cn]at h1
 ·have K0:l=[49]:=toL_eq.1 h1;have U2:os=[]:=by rw[Ke,if_pos K0]at h;cases h;rfl
  refine B8 ?_;refine AH ?_;rw[U2]
  exact eT (Vw.fr (A4 _ _ _) rfl)
 have K0:¬l=[49]:=λe=>h1 (toL_eq.2 e)
 rw[Ke,if_neg K0]at h
 obtain⟨ds,No,h⟩:=Option.bind_eq_some_iff.1 h
 have jA:ds.length<=6/\CV ds ds.length<=729:=by
  apply Classical.byContradiction;intro hn;rw[if_neg hn]at h;cases h
 rw[if_pos jA]at h
 cases h
 obtain⟨Ve,hdg⟩:=pQ No
 have IY:∀i,i<os.length->JG (os.getD i 0):=λi hi=>(eV (hdg i A0)).2
 apply AW.skip;apply B2;refine N0 (Ac) ?_;refine AW.seq λN2 B7=>?_;refine B8 ?_;apply AW.block;refine A8 (α:=Nat×Nat) (λx=>sl 40 [(4,.h x.2 0 x.1),(5,strs ((VU 32 l).map D8)),(6,.i .i64 x.1)]) (λx=>AT BM x.2 (some ((os.take x.1).map (.i .i64)))) (λx m=>x.1<=os.length/\x.2<m) (λx=>os.length-x.1) ((0,nx+2)) ?_ ?_ (by intro d cs hd;exact hd) ?_
 ·exact⟨AB,A9⟩
 ·simp(disch:=omega) [AN,AO,sl,strs]
 skip
 rintro⟨k,id⟩ m ⟨hk,DS⟩
 refine AG ?_;dsimp only at hk DS ⊢
 have hlen:((VU 32 l).map D8).length=os.length:=by rw[List.length_map];omega
 refine AW.seq λN3 BC=>?_;refine sQ λN hN=>?_;simp-dsimp-implicitDefEqProofs(maxSteps:=800000) (disch:=omega)only[go_sem,strs,hlen];apply hN;refine AW.cond rfl ?_ ?_<;>intro h2<;>try simp only[cn]at h2
 ·have WE:k<os.length:=A0;have hg:=pM (VU 32 l) (k:=k) A0;obtain⟨MZ,Ls⟩:=eV (hdg k A0);have mG:=CE Ls;have hv2:=XR (D8 ((VU 32 l).getD k []));rw[MZ]at hv2;have Qs:tf (JG (os.getD k 0))=true:=D2 Ls;have dT:decide ((k:Int)>=6)=false:=decide_eq_false A0;have l5:decide (6<=(k:Int))=false:=decide_eq_false A0;have W0:os.take (k+1)=os.take k++[os.getD k 0]:=by
   rw[List.take_succ_eq_append_getElem WE];simp[WE]
  have hle:((os.take k).map (AV.i .i64)).length=k:=by rw[List.length_map,List.length_take];omega
  have htt:List.take k ((os.take k).map (AV.i .i64))=(os.take k).map (.i .i64):=List.take_of_length_le A0;apply AW.skip;apply BC;refine AW.seq λN4 CF=>?_;apply AW.block;refine sQ λN hN=>?_;simp-dsimp-implicitDefEqProofs(maxSteps:=800000) (disch:=omega)only[go_sem,Int.toNat_natCast,strs,hlen,hg];refine AC.pure (.of (hv2)) ?_;(try simp-dsimp-implicitDefEqProofs(maxSteps:=800000) (disch:=omega)only[go_sem]);apply hN;refine AW.seq λN5 DL=>?_;refine sQ λN hN=>?_;simp-dsimp-implicitDefEqProofs(maxSteps:=800000) (disch:=omega)only[go_sem,Qs,dT,l5];refine AC.pure (.of (IN (os.getD k 0))) ?_;(try simp-dsimp-implicitDefEqProofs(maxSteps:=800000) (disch:=omega)only[go_sem,Bool.not_true,Qs,dT,l5]);apply hN;refine B4 rfl ?_;apply AW.skip;apply DL;apply rQ;simp-dsimp-implicitDefEqProofs(maxSteps:=800000) (disch:=omega)only[go_sem,hle,htt];apply CF;refine GN ?_;refine⟨(k+1,_),?_,by rw[W0,List.map_append];exact eR (A4 _ _ _),?_,?_⟩
  ·simp(disch:=omega) [AN,AO,sl,AR,strs,hlen]
  ·exact⟨A9,A9⟩
  first|omega|(simp only;omega)
 have S8:k=os.length:=A0
 rw[S8,List.take_length]
 have qB:=aC IY os.length (Nat.le_refl _)
 have Gy:decide (NC os os.length<=729)=true:=decide_eq_true A0
 apply AW.exit;apply B7;refine sQ λN hN=>?_;refine bU Gy ?_;refine AC.pure (.yM (EX os jA.1 IY) (.cons (Vw.fr (A4 _ _ _) (List.length_map ..)) .nil) (.i _ _)) ?_
 refine AG ?_
 apply hN;refine AH ?_;rw[Gy]
 exact eT (Vw.fr (A4 _ _ _) (List.length_map ..))
def VW(i:Nat):List UInt8:=[UInt8.ofNat (97+i)]
theorem Te(i:Nat)(h:i<6):tD [(i:Int)+1]=D8 (VW i):=by
  have h0:tD [((0:Nat):Int)+1]=D8 (VW 0):=A7;have h1:tD [((1:Nat):Int)+1]=D8 (VW 1):=A7;have h2:tD [((2:Nat):Int)+1]=D8 (VW 2):=A7;have h3:tD [((3:Nat):Int)+1]=D8 (VW 3):=A7;have h4:tD [((4:Nat):Int)+1]=D8 (VW 4):=A7;have h5:tD [((5:Nat):Int)+1]=D8 (VW 5):=A7;have hi:i=0\/i=1\/i=2\/i=3\/i=4\/i=5:=A0;rcases hi with rfl|rfl|rfl|rfl|rfl|rfl<;>assumption
theorem I7(i:Nat)(h:i<6):BI Tryz.prog 281 [.i .i64 i] (.s (D8 (VW i))):=by
 have uU:=JS [(i:Int)+1] AB
 rw[Te i h]at uU
 refine AD AA Tryz.func281 rfl A7 Tryz.ntmps281 Tryz.results281 (.s _) (λnx cX=>?_)
 refine B8 ?_;refine sQ λN hN=>?_;refine AG ?_;refine AC.pure (.yM (uU) (.cons (Vw.fr (A4 _ _ _) rfl) .nil) (.s _)) ?_
 refine AG ?_
 apply hN;apply AW.ret;simp-dsimp-implicitDefEqProofs(disch:=omega)only[go_sem];skip
end Go.Proofs.YtgknbnkmilddhaaGreat

namespace Go.Proofs.YtgknbnkmilddhaaGreat
def tI(e:List Int):Nat->List Int
  |0=>[]
  |k+1=>tI e k++List.replicate (e.getD k 0).toNat ((k:Int)+1)
theorem bB{e:List Int}(h:∀k,k<e.length->e.getD k 0<=1000):∀k,k<=e.length->(tI e k).length<=1000*k:=by
  intro k;induction k with
  |zero=>intro _;simp[tI]
  | succ k ih=>
    intro hk;have h1:=ih A0;have h2:=h k A0;rw[tI,List.length_append,List.length_replicate];omega
theorem Kf{j:Nat}{a:Int}:List.replicate (j+1) a=List.replicate j a++[a]:=List.replicate_succ'
theorem Vw.ivl{H:HP}{id n:Nat}{K:List Int}(h:H id=some (K.map (AV.i .i64)))(hn:n=K.length):Vw H (.h id 0 n) (ints K):=by
  subst hn;exact Vw.fr h AB
theorem P5(e:List Int)(he:e.length<=1000)(hv:∀k,k<e.length->0<=e.getD k 0/\e.getD k 0<=1000):BI Tryz.prog 283 [ints e] (ints (tI e e.length)):=by
 have nT:=bB (λk hk=>(hv k hk).2)
 refine B5 AA Tryz.func283 rfl A7 Tryz.ntmps283 Tryz.results283 ((GV _)) (λnx cX=>?_)
 refine C1 ?_;refine C1 ?_;refine AW.seq λN1 B2=>?_;refine C1 ?_;apply AW.block;refine A8 (α:=Nat×Nat×List Int) (λx=>sl 27 [(0,ints e),(3,.h x.2.1 0 x.2.2.length),(4,.i .i64 x.1)]) (λx=>AT BM x.2.1 (some (x.2.2.map (.i .i64)))) (λx m=>(x.1<=e.length/\x.2.1<m)/\x.2.2=tI e x.1) (λx=>e.length-x.1) ((0,nx+1,[])) ?_ ?_ (by intro d cs hd;simp only[AT,BM,List.map_nil]at hd ⊢;grind) ?_
 ·exact⟨⟨A0,A9⟩,rfl⟩
 ·simp(disch:=omega) [AN,AO,sl,AR,ints,rows,A6,ints,AR,AL]<;>omega
 skip
 rintro⟨k,id,K⟩ m ⟨⟨hk,DS⟩,hK⟩
 dsimp only at hk DS hK ⊢
 refine AW.seq λN2 B7=>?_;refine C1 ?_;refine AW.cond rfl ?_ ?_<;>intro h1<;>try simp only[cn]at h1
 ·apply AW.skip;apply B7;refine AW.seq λN3 BC=>?_;apply AW.block;refine C1 ?_;apply AW.block;refine A8 (α:=Nat×Nat×List Int) (λx=>sl 27 [(0,ints e),(3,.h x.2.1 0 x.2.2.length),(4,.i .i64 k),(5,.i .i64 x.1)]) (λx=>AT BM x.2.1 (some (x.2.2.map (.i .i64)))) (λx m=>(x.1<=(e.getD k 0).toNat/\x.2.1<m)/\x.2.2=K++List.replicate x.1 ((k:Int)+1)) (λx=>(e.getD k 0).toNat-x.1) ((0,id,K)) ?_ ?_ (by exact Le.refl _) ?_
  ·exact⟨⟨A0,A9⟩,AB⟩
  ·simp(disch:=omega) [AN,AO,sl,AR,ints,rows,A6,ints,AR,AL]<;>omega
  skip
  rintro⟨j,GC,K2⟩ m2 ⟨⟨hj,kE⟩,hK2⟩;have hvk:=hv k A0;dsimp only at hj kE hK2 ⊢;have hKl:K2.length<=1001000:=by have:=nT k hk;rw[hK2,hK,List.length_append,List.length_replicate];omega
  refine AW.seq λN4 CF=>?_;refine C1 ?_;refine AW.cond rfl ?_ ?_<;>intro h2<;>try simp only[cn]at h2
  ·apply AW.skip;apply CF;refine AW.seq λN5 DL=>?_;apply AW.block;refine II ?_;apply DL;refine II ?_;refine⟨(j+1,m2+5+5,K2++[(k:Int)+1]),?_,by intro d cs hd;simp only[AT,BM,IP,List.map_append,List.map_cons,List.map_nil]at hd ⊢;grind,?_,?_⟩
   ·simp(disch:=omega) [AN,AO,sl,AR,ints,rows,A6,ints,AR,AL]<;>omega
   ·exact⟨⟨A0,A9⟩,by simp only[];rw[Kf,hK2,List.append_assoc]⟩
   first|omega|(simp only;omega)
  apply AW.exit;apply BC;refine II ?_;have fM:j=(e.getD k 0).toNat:=A0;refine⟨(k+1,GC,K2),?_,λ_ _ h=>h,?_,?_⟩
  ·simp(disch:=omega) [AN,AO,sl,AR,ints,rows,A6,ints,AR,AL]<;>omega
  ·exact⟨⟨A0,A9⟩,by simp only[];rw[tI,hK2,hK,fM]⟩
  first|omega|(simp only;omega)
 apply AW.exit;apply B2;refine C1 ?_;refine AH ?_;have Hy:K=tI e e.length:=by rw[hK,show k=e.length by omega]
 rw[<-Hy]
 exact Vw.ivl (A4 _ _ _) rfl
end Go.Proofs.YtgknbnkmilddhaaGreat
