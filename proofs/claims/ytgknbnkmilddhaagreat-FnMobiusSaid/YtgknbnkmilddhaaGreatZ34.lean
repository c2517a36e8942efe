import Derived.Test.YtgknbnkmilddhaaGreatProg
import Derived.Lib.ItoaNum
import Derived.Lib.Join
import Derived.Lib.ParseIntB
import Derived.Lib.Bytealg
import Derived.Lib.ConvBytes
import Derived.RangeFuncIn
import Derived.Test.YtgknbnkmilddhaaGreatZ08
import Derived.Test.YtgknbnkmilddhaaGreatZ12
import Derived.Test.YtgknbnkmilddhaaGreatZ14
import Derived.Test.YtgknbnkmilddhaaGreatZ15
set_option linter.unusedVariables false
set_option linter.unusedSimpArgs false

namespace Go.Proofs.YtgknbnkmilddhaaGreat
def S2(bs:List Int):AV:= .v bs.length (bs.map (.i .u8))
def Ss(n:Int):Prop:=0<=n/\n<=255
def U1(bs:List Int):Prop:=bs.length<=9223372036854775807/\∀n∈bs,Ss n
section
variable{T:Type}{enc:TypeId×Value->T}{P:Program}{w:World}{sp:Nat->Bool}{held:Bool}
theorem A87{t:TypeId}{fuel:Nat}{v:Value}{x:DataW T×List MemPlace}(ht:P.underlying t=some (.int .u8))(h:DataW.trod enc P w 0 sp held fuel t [v]=some x):∃n:Int,R Un w Uo (.i .u8 n) v/\Ss n:=by
  cases fuel with
  |zero=>cases h
  | succ fuel=>
    obtain⟨n,h1,_,h2⟩:=DataW.trod_int ht h;simp only[List.cons.injEq,and_true]at h1;subst h1;refine⟨n,.i _ _,?_⟩;simpa[Ss,Lit.wf,IntKind.min,IntKind.max,IntKind.signed,IntKind.bits]using h2
theorem Jo{t e:TypeId}{fuel:Nat}{v:Value}{x:DataW T×List MemPlace}(ht:P.underlying t=some (.slice e))(he:P.underlying e=some (.int .u8))(hc:P.cellsOf e=1)(h:DataW.trod enc P w 0 sp held fuel t [v]=some x):
    ∃xs:List Int,R Un w Uo (S2 xs) v/\U1 xs:=by
  obtain⟨xs,h1,h2,h3⟩:=Cx (f:=AV.i .u8) (ok:=Ss) ht hc (λn u y hy=>A87 he hy) h;exact⟨xs,h1,by simpa[maxLen]using h2,h3⟩
end
theorem Jp{bs:List Int}{k:Nat}(h:k<bs.length):(bs.map (AV.i .u8)).getD k .j= .i .u8 (bs.getD k 0):=by simp[h]
theorem U1.get{bs:List Int}(h:U1 bs){k:Nat}(hk:k<bs.length):0<=bs.getD k 0/\bs.getD k 0<=255:=by
  rw[List.getD_eq_getElem?_getD,List.getElem?_eq_getElem hk];exact h.2 _ (List.getElem_mem hk)
def srB(bs:List Int)(a s:Int):List AV:=[S2 bs,.i .i64 a,.i .i64 s]
structure Su(bs:List Int)(a s:Int):Prop where
  n:bs.length<=4096
  v:∀k,k<bs.length->0<=bs.getD k 0/\bs.getD k 0<=255
  a0:0<=a
  a1:a<=bs.length
  s0:0<=s
  s1:s<2147483647
def ACE(bs:List Int)(B1:Nat)(n:Int)(H:HP):Nat->HP->AV->Prop:=λ_ H' r=>∃x a' s',r= .i .i64 x/\(0<=x/\(x<n\/x=0))/\Su bs a' s'/\H'=AT H B1 (some (srB bs a' s'))
theorem A2S{H:HP}{i:Nat}{c:List AV}(h:H i=some c):AT H i (some c)=H:=by
  funext j
  by_cases e:j=i
  · subst e;rw[A4,h]
  rw[A1 _ _ e]
theorem bA{x n:Int}(h:0<=x)(hn:1<n):0<=x.tmod n/\(x.tmod n<n\/x.tmod n=0):=by
  rw[Int.tmod_eq_emod_of_nonneg h];exact⟨Int.emod_nonneg _ A0,.inl (Int.emod_lt_of_pos _ A0)⟩
theorem eI(bs:List Int)(a s:Int)(ho:Su bs a s)(n:Int)(hn:n<=1000000000)(nx:Nat)(H:HP)(B1:Nat)(hH:H B1=some (srB bs a s)):AC Tryz.prog 28 nx H [.q B1 0,.i .i64 n] (ACE bs B1 n H):=by
 obtain⟨o1,o2,o3,o4,o5,o6⟩:=id ho
 have QZ:=hH
 unfold srB S2 at QZ
 refine BA AA Tryz.func28 rfl A7 Tryz.ntmps28 Tryz.results28 (λCQ cX=>?_)
 refine J5 QZ ?_;refine AW.seq λN1 B2=>?_;refine J5 QZ ?_;refine AW.cond rfl ?_ ?_<;>intro h1<;>try simp only[cn]at h1
 ·refine J5 QZ ?_;refine AH ?_;exact⟨_,λ_ _ h=>h,0,a,s,rfl,⟨A0,.inr rfl⟩,ho,(A2S hH).symm⟩
 apply AW.skip;apply B2;refine J5 QZ ?_;have Ln:0<=(s*48271+71).tmod 2147483647/\(s*48271+71).tmod 2147483647<2147483647:=by
  rw[Int.tmod_eq_emod_of_nonneg A0];omega
 obtain⟨s2,zI⟩:∃s2,(s*48271+71).tmod 2147483647=s2:=⟨_,rfl⟩
 rw[zI]at Ln ⊢
 have Cw:0<=s2.tdiv 47/\s2.tdiv 47<=2147483647:=by
  rw[Int.tdiv_eq_ediv_of_nonneg Ln.1];omega
 refine J5 QZ ?_;refine AW.seq λN2 B7=>?_;obtain⟨x0,cZ⟩:∃x0,s2.tdiv 47=x0:=⟨_,rfl⟩
 rw[cZ]at Cw ⊢
 refine AW.seq λN hN=>?_;refine AM AA A7 10 A7 ?_
 (try simp-dsimp-implicitDefEqProofs(maxSteps:=800000) (disch:=omega)only[go_sem,List.drop_nil,List.drop_succ_cons,List.drop_zero,List.take_nil,List.take_succ_cons,List.take_zero,BW,BE,BF,AR,QZ]);apply hN;refine AW.cond rfl ?_ ?_<;>intro h2<;>try simp only[cn]at h2
 ·have hb:=o2 a.toNat A0;refine AW.seq λN hN=>?_;refine AM AA A7 14 A7 ?_
  (try simp-dsimp-implicitDefEqProofs(maxSteps:=800000) (disch:=omega)only[go_sem,List.drop_nil,List.drop_succ_cons,List.drop_zero,List.take_nil,List.take_succ_cons,List.take_zero,Jp,BW,BE,BF,AR,QZ]);apply hN;refine J5 QZ ?_;refine sQ λN hN=>?_;refine bU QZ ?_;refine CH.mk' (λh3=>?_) (λh3=>?_)
  ·try simp only[cn]at h3
   have jV:(a+1-1).toNat=a.toNat:=A0;refine bU QZ ?_
   apply hN;refine AW.cond rfl ?_ ?_<;>intro h4<;>try simp only[cn]at h4
   ·refine AM AA A7 13 A7 ?_;(try simp-dsimp-implicitDefEqProofs(maxSteps:=800000) (disch:=omega)only[go_sem,List.drop_nil,List.drop_succ_cons,List.drop_zero,List.take_nil,List.take_succ_cons,List.take_zero,Jp,BW,BE,BF,AR,QZ,jV]);apply B7;refine J5 QZ ?_;refine AH ?_;exact⟨_,λ_ _ h=>h,_,a+1,s2,rfl,bA A0 A0,⟨o1,o2,A0,A0,A0,A0⟩,rfl⟩
   apply AW.skip;apply B7;refine J5 QZ ?_;refine AH ?_;exact⟨_,λ_ _ h=>h,_,a+1,s2,rfl,bA A0 A0,⟨o1,o2,A0,A0,A0,A0⟩,rfl⟩
  try simp only[cn]at h3
  refine bU QZ ?_
  apply hN;refine B4 rfl ?_;apply AW.skip;apply B7;refine J5 QZ ?_;refine AH ?_;exact⟨_,λ_ _ h=>h,_,a+1,s2,rfl,bA A0 A0,⟨o1,o2,A0,A0,A0,A0⟩,rfl⟩
 apply AW.skip;apply B7;refine J5 QZ ?_;refine AH ?_;exact⟨_,λ_ _ h=>h,_,a,s2,rfl,bA A0 A0,⟨o1,o2,A0,A0,A0,A0⟩,rfl⟩
theorem eJ{cX n ops y s s1 K}(q:AW cX Tryz.prog y s1 K)(e:BV ops s s1:=by intro N hN;(try simp-dsimp-implicitDefEqProofs(maxSteps:=800000) (disch:=omega)only[go_sem,S2]);exact hN):BU cX n ops y s K:=BY q e
theorem tC{P Q:Prop}(q:Q)(e:Q->P:=by intro q;(try simp-dsimp-implicitDefEqProofs(maxSteps:=800000) (disch:=omega)only[go_sem,S2]);exact q):P:=e q
theorem eK(bs:List Int)(hb:U1 bs)(hn:bs.length<=4096)(nx:Nat):AC Tryz.prog 26 nx BM [S2 bs] (λBB H' r=>∃id a s,r= .q id 0/\nx<=id/\id<BB/\Su bs a s/\H' id=some (srB bs a s)):=by
 refine BA AA Tryz.func26 rfl A7 Tryz.ntmps26 Tryz.results26 (λCQ cX=>?_)
 refine eJ ?_;refine eJ ?_;refine AW.seq λN1 B2=>?_;refine eJ ?_;apply AW.block;refine A8 (α:=Nat×Int) (λx=>sl 34 [(0,S2 bs),(3,.q (nx+1+2) 0),(4,.i .i64 x.1)]) (λx=>AT BM (nx+1+2) (some (srB bs 0 x.2))) (λx m=>(x.1<=bs.length/\nx+3<m)/\(0<=x.2/\x.2<2147483647)) (λx=>bs.length-x.1) ((0,76001)) ?_ ?_ (by exact Le.refl _) ?_
 ·exact⟨⟨Nat.zero_le _,A9⟩,BX⟩
 ·simp(disch:=omega) [AN,AO,sl,S2]<;>omega
 skip
 rintro⟨k,s⟩ m ⟨⟨hk,hm⟩,hs⟩
 dsimp only at hk hm hs ⊢
 simp only[S2,srB];refine AG ?_;refine AW.seq λN2 B7=>?_;refine sQ λN hN=>?_;refine tC ?_;refine CH.mk' (λh1=>?_) (λh1=>?_)
 ·try simp only[cn]at h1
  have jQ:=hb.get (k:=k) A0;have Ln:0<=(s*71+bs.getD k 0).tmod 2147483647/\(s*71+bs.getD k 0).tmod 2147483647<2147483647:=by
   rw[Int.tmod_eq_emod_of_nonneg A0];omega
  refine tC ?_
  apply hN;refine AW.cond rfl ?_ ?_<;>intro h2<;>try simp only[cn]at h2
  ·apply AW.skip;apply B7;refine AW.seq λN3 BC=>?_;apply AW.block;refine AM AA A7 15 A7 ?_
   (try simp-dsimp-implicitDefEqProofs(maxSteps:=800000) (disch:=omega)only[go_sem,List.drop_nil,List.drop_succ_cons,List.drop_zero,List.take_nil,List.take_succ_cons,List.take_zero,S2,Jp,BW,BE,BF,AR]);apply BC;apply rQ;simp-dsimp-implicitDefEqProofs(maxSteps:=800000) (disch:=omega)only[go_sem,S2];refine⟨(k+1,(s*71+bs.getD k 0).tmod 2147483647),?_,λ_ _ h=>h,?_,?_⟩
   ·simp(disch:=omega) [AN,AO,sl,S2]<;>omega
   ·(try dsimp only);omega
   first|omega|(simp only;omega)
  apply AW.exit;apply B2;refine eJ ?_;refine AH ?_;exact⟨_,λ_ _ h=>h,nx+1+2,0,s,rfl,A0,A0,⟨hn,λk hk=>hb.get hk,A0,A0,hs.1,hs.2⟩,A4 _ _ _⟩
 try simp only[cn]at h1
 refine tC ?_
 apply hN;refine B4 rfl ?_;apply AW.exit;apply B2;refine eJ ?_;refine AH ?_;exact⟨_,λ_ _ h=>h,nx+1+2,0,s,rfl,A0,A0,⟨hn,λk hk=>hb.get hk,A0,A0,hs.1,hs.2⟩,A4 _ _ _⟩
end Go.Proofs.YtgknbnkmilddhaaGreat

namespace Go.Proofs.YtgknbnkmilddhaaGreat
theorem A2T(x:ByteArray):(∀z∈ [AV.s x],one z=true)=True:=by simp[one]
attribute [go_sem] A2T
def strs(xs:List ByteArray):AV:= .v xs.length (xs.map .s)
theorem Sv(xs:List ByteArray):NR (strs xs):= .v _ _ λk x hk=>by
  rw[List.getElem?_map]at hk;obtain⟨y,_,rfl⟩:=Option.map_eq_some_iff.1 hk;exact .s _
def Jq(l:Int):Int:=if l>0 then IntKind.u8.wrap (IntKind.i64.wrap (IntKind.i64.wrap (97+l)-1))else IntKind.u8.wrap (IntKind.i64.wrap (IntKind.i64.wrap (65-l)-1))
def tD(w:List Int):ByteArray:=if w=[]then ⟨#[49]⟩else strOfNums (w.map Jq)
theorem eL(w:List Int):(tD w).size<=w.length+1:=by
  unfold tD;split
  · show 1<=_;omega
  rw[strOfNums_size,List.length_map];omega
theorem pK{w:List Int}{k:Nat}(h:k<w.length):(w.map Jq).take (k+1)=(w.map Jq).take k++[Jq (w.getD k 0)]:=by
  rw[List.take_succ_eq_append_getElem (by simpa using h)];simp[h]
theorem A88{α β:Type}(f:α->β)(K:List α):(K.map f).take K.length=K.map f:=by
  have h:=List.take_length (l:=K.map f);rwa [List.length_map]at h
theorem JS(w:List Int)(hw:w.length<=1048576):BI Tryz.prog 282 [ints w] (.s (tD w)):=by
 refine AD AA Tryz.func282 rfl A7 Tryz.ntmps282 Tryz.results282 (.s _) (λnx cX=>?_)
 refine C1 ?_;refine AW.seq λN1 B2=>?_;refine C1 ?_;refine AW.cond rfl ?_ ?_<;>intro h1<;>try simp only[cn]at h1
 ·refine C1 ?_;refine AH ?_;rw[tD,if_pos (List.length_eq_zero_iff.1 A0)]
 apply AW.skip;apply B2;refine C1 ?_;refine AW.seq λN2 B7=>?_;refine C1 ?_;apply AW.block;refine A8 (α:=Nat×Nat×List Int) (λx=>sl 42 [(0,ints w),(3,.h x.2.1 0 x.2.2.length),(4,.i .i64 x.1)]) (λx=>AT BM x.2.1 (some (x.2.2.map (.i .u8)))) (λx m=>(x.1<=w.length/\x.2.1<m)/\x.2.2=(w.map Jq).take x.1) (λx=>w.length-x.1) ((0,nx+4,[])) ?_ ?_ (by intro d cs hd;simp only[AT,BM,List.map_nil]at hd ⊢;grind) ?_
 ·exact⟨⟨A0,A9⟩,AB⟩
 ·simp(disch:=omega) [AN,AO,sl,AR,ints,rows,A6,ints,AL,AR]<;>omega
 skip
 rintro⟨k,id,K⟩ m ⟨⟨hk,DS⟩,hK⟩
 dsimp only at hk DS hK ⊢
 have hKl:K.length=k:=by rw[hK,List.length_take,List.length_map];omega
 refine AW.seq λN3 BC=>?_;refine C1 ?_;refine AW.cond rfl ?_ ?_<;>intro h2<;>try simp only[cn]at h2
 ·apply AW.skip;apply BC;refine AW.seq λN4 CF=>?_;apply AW.block;refine C1 ?_;refine AW.cond rfl ?_ ?_<;>intro h3<;>try simp only[cn]at h3
  ·have Xg:w.getD k 0>0:=A0;refine II ?_;apply CF;apply rQ;simp-dsimp-implicitDefEqProofs(disch:=omega)only[go_sem,ints,AL];skip;refine⟨(k+1,m+4+5+9,K++[Jq (w.getD k 0)]),?_,by intro d cs hd;simp only[AT,BM,IP,List.map_append,List.map_cons,List.map_nil,Jq,if_pos Xg]at hd ⊢;grind,?_,?_⟩
   ·simp(disch:=omega) [AN,AO,sl,AR,ints,rows,A6,ints,AL,AR]<;>omega
   ·exact⟨⟨A0,A9⟩,by simp only[];rw[pK A0,hK]⟩
   first|omega|(simp only;omega)
  have Xg:¬w.getD k 0>0:=A0;refine II ?_;apply CF;apply rQ;simp-dsimp-implicitDefEqProofs(disch:=omega)only[go_sem,ints,AL];skip;refine⟨(k+1,m+4+5+9,K++[Jq (w.getD k 0)]),?_,by intro d cs hd;simp only[AT,BM,IP,List.map_append,List.map_cons,List.map_nil,Jq,if_neg Xg]at hd ⊢;grind,?_,?_⟩
  ·simp(disch:=omega) [AN,AO,sl,AR,ints,rows,A6,ints,AL,AR]<;>omega
  ·exact⟨⟨A0,A9⟩,by simp only[];rw[pK A0,hK]⟩
  first|omega|(simp only;omega)
 apply AW.exit;apply B7;refine sQ λN hN=>?_;simp-dsimp-implicitDefEqProofs(maxSteps:=800000) (disch:=omega)only[go_sem,jN,AL,ints,A88];apply hN;refine AH ?_;have kU:w≠ []:=by rintro rfl;simp at h1
 have Hy:K=w.map Jq:=by rw[hK,show k=(w.map Jq).length by rw[List.length_map];omega,List.take_length]
 rw[tD,if_neg kU,Hy]
def dg(n:Int):ByteArray:=⟨(Lib.decDigits n.toNat).toArray⟩
theorem A89{n:Int}(h0:0<=n)(h1:n<10):strOfNums [IntKind.u8.wrap (48+n)]=dg n:=by
  have h:n=0\/n=1\/n=2\/n=3\/n=4\/n=5\/n=6\/n=7\/n=8\/n=9:=A0;rcases h with rfl|rfl|rfl|rfl|rfl|rfl|rfl|rfl|rfl|rfl<;>(unfold dg Lib.decDigits;rfl)
theorem lN{n:Int}(h0:0<=n)(h1:n<10):(dg n).size=1:=by rw[<-A89 h0 h1,strOfNums_size];rfl
theorem I6(n:Int)(h0:0<=n)(hn:n<10):BI Tryz.prog 280 [.i .i64 n] (.s (dg n)):=by
 refine AD AA Tryz.func280 rfl A7 Tryz.ntmps280 Tryz.results280 (.s _) (λnx cX=>?_)
 refine B8 ?_;refine AW.seq λN1 B2=>?_;refine B8 ?_;refine AW.cond rfl ?_ ?_<;>intro h1<;>try simp only[cn]at h1
 ·refine sQ λN hN=>?_;simp-dsimp-implicitDefEqProofs(maxSteps:=800000) (disch:=omega)only[go_sem,List.map_cons,List.map_nil,q8];apply hN;refine AH ?_;rw[<-A89 h0 hn]
 exfalso;omega
end Go.Proofs.YtgknbnkmilddhaaGreat

namespace Go.Proofs.YtgknbnkmilddhaaGreat
theorem ib(c:UInt8):∀l:List UInt8,(l.count c=0/\Lib.indexByte l c= -1)\/∃m:Nat,Lib.indexByte l c=m/\m<l.length/\l.count c=1+(l.drop (m+1)).count c:=by
  intro l;induction l with
  |nil=>exact .inl ⟨rfl,rfl⟩
  | cons b l ih=>
    by_cases hb:b=c
    · subst hb;exact .inr ⟨0,by simp[Lib.indexByte],AB,by simp;omega⟩
    have AQ:(b==c)=false:=by simpa using hb
    have hc:(b::l).count c=l.count c:=List.count_cons_of_ne hb;rcases ih with ⟨h1,h2⟩|⟨m,h1,h2,h3⟩
    · exact .inl ⟨by rw[hc,h1],by simp[Lib.indexByte,AQ,h2]⟩
    refine .inr ⟨m+1,?_,by simpa using h2,by rw[hc,h3];rfl⟩;have:¬((m:Int)= -1):=A0;simp[Lib.indexByte,AQ,h1,this]
def W6(c:UInt8)(s:ByteArray):Nat:=s.data.toList.count c
def cutAt(c:UInt8)(s:ByteArray):Nat:=(Lib.indexByte s.data.toList c).toNat
def gT(c:UInt8):Nat->ByteArray->ByteArray
  |0,s=>s
  |k+1,s=>(gT c k s).extract (cutAt c (gT c k s)+1) (gT c k s).size
def tE(c:UInt8):Nat->ByteArray->List ByteArray
  |0,_=>[]
  |k+1,s=>tE c k s++[(gT c k s).extract 0 (cutAt c (gT c k s))]
def Bf(c:UInt8)(s:ByteArray):List ByteArray:=tE c (W6 c s) s++[gT c (W6 c s) s]
theorem xJ(c:UInt8)(s:ByteArray):∀k,(tE c k s).length=k:=by
  intro k;induction k with
  |zero=>rfl
  |succ k ih=>rw[tE,List.length_append,ih];rfl
theorem j9(s:ByteArray)(a b:Nat):(s.extract a b).data.toList=(s.data.toList.drop a).take (b-a):=by
  rw[ByteArray.data_extract,Array.toList_extract]
theorem xK{c:UInt8}{s:ByteArray}(h:0<W6 c s):Lib.indexByte s.data.toList c=(cutAt c s:Int)/\cutAt c s<s.size/\W6 c s=1+W6 c (s.extract (cutAt c s+1) s.size):=by
  rcases ib c s.data.toList with ⟨h1,_⟩|⟨m,h1,h2,h3⟩
  · unfold W6 at h;omega
  have hm:cutAt c s=m:=by unfold cutAt;rw[h1];rfl
  rw[hm];have FV:s.data.toList.length=s.size:=by rw[Array.length_toList];rfl
  refine⟨h1,A0,?_⟩;unfold W6;rw[j9,List.take_of_length_le (by rw[List.length_drop];omega)];exact h3
theorem xL(c:UInt8)(s:ByteArray):∀k,k<=W6 c s->W6 c (gT c k s)=W6 c s-k:=by
  intro k;induction k with
  |zero=>intro _;rfl
  | succ k ih=>
    intro hk;have h1:=ih A0;have h2:=(xK (c:=c) (s:=gT c k s) A0).2.2;rw[gT];omega
theorem Jr(c:UInt8)(s:ByteArray):W6 c s<=s.size:=by
  have:=List.count_le_length (a:=c) (l:=s.data.toList);have FV:s.data.toList.length=s.size:=by rw[Array.length_toList];rfl
  unfold W6;omega
theorem xM(c:UInt8)(s:ByteArray):(Bf c s).length=W6 c s+1:=by
  unfold Bf;rw[List.length_append,xJ];rfl
theorem lO{H:HP}{id n:Nat}{cs:List AV}(hn:cs.length=n):Vw (AT H id (some cs)) (.h id 0 n) (.v n cs):=
  .h id 0 n cs cs (A4 _ _ _) A0 hn λk x y hx hy=>by rw[Nat.zero_add]at hx;rw[hx]at hy;cases hy;exact .refl _
theorem pL(c:UInt8)(s:ByteArray):∀k,gT c (k+1) s=gT c k (s.extract (cutAt c s+1) s.size):=by
  intro k;induction k with
  |zero=>rfl
  |succ k ih=>rw[gT,ih,gT]
theorem Js(c:UInt8)(s:ByteArray):∀k,tE c (k+1) s=s.extract 0 (cutAt c s)::tE c k (s.extract (cutAt c s+1) s.size):=by
  intro k;induction k with
  |zero=>rfl
  |succ k ih=>rw[tE,ih,pL,tE];rfl
theorem Jt{c:UInt8}{s:ByteArray}(h:0<W6 c s):Bf c s=s.extract 0 (cutAt c s)::Bf c (s.extract (cutAt c s+1) s.size):=by
  have h2:=(xK h).2.2;obtain⟨n,hn⟩:∃n,W6 c s=n+1:=⟨W6 c s-1,A0⟩;have h3:W6 c (s.extract (cutAt c s+1) s.size)=n:=A0;unfold Bf;rw[hn,h3,Js,pL];rfl
theorem Ju{c:UInt8}{s:ByteArray}(h:W6 c s=0):Bf c s=[s]:=by
  unfold Bf;rw[h];rfl
theorem gU{c:UInt8}(ys:List UInt8):∀xs:List UInt8,xs.count c=0->Lib.indexByte (xs++c::ys) c=xs.length:=by
  intro xs;induction xs with
  |nil=>intro _;simp[Lib.indexByte]
  | cons x xs ih=>
    intro h;rw[List.count_cons]at h;have hx:(x==c)=false:=by
      cases hq:x==c with
      |false=>rfl
      |true=>rw[hq]at h;simp at h
    have h1:=ih A0;have:¬((xs.length:Int)= -1):=A0;simp[Lib.indexByte,hx,h1,this]
def D8(l:List UInt8):ByteArray:=⟨l.toArray⟩
theorem Jv(l:List UInt8):(D8 l).data.toList=l:=rfl
theorem eQ(s:ByteArray):D8 s.data.toList=s:=by cases s;simp[D8]
theorem xN(l:List UInt8)(a b:Nat):(D8 l).extract a b=D8 ((l.drop a).take (b-a)):=by
  rw[<-eQ ((D8 l).extract a b),j9];rfl
theorem EF(l:List UInt8):(D8 l).size=l.length:=by
  show l.toArray.size=l.length;simp
def mO(c:UInt8):List (List UInt8)->List UInt8
  |[]=>[]
  |[x]=>x
  |x::y::xs=>x++c::mO c (y::xs)
theorem Sw(c:UInt8):∀ps:List (List UInt8),ps≠ []->(∀p,p∈ps->p.count c=0)->Bf c (D8 (mO c ps))=ps.map D8:=by
  intro ps;induction ps with
  |nil=>intro h;exact absurd rfl h
  | cons x xs ih=>
    intro _ hp;have hx:=hp x (List.mem_cons_self ..);cases xs with
    |nil=>rw[mO,Ju (by unfold W6;rw[Jv];exact hx)];rfl
    | cons y xs=>
      have hi:=gU (c:=c) (mO c (y::xs)) x hx;have hc:cutAt c (D8 (mO c (x::y::xs)))=x.length:=by
        unfold cutAt;rw[Jv,mO,hi];rfl
      have qQ:0<W6 c (D8 (mO c (x::y::xs))):=by
        unfold W6;rw[Jv,mO,List.count_append,List.count_cons];simp;omega
      rw[Jt qQ,hc,xN,xN,EF,List.drop_zero,Nat.sub_zero,mO,List.take_left,List.map_cons,<-ih AB (λp h=>hp p (List.mem_cons_of_mem _ h))];congr 2
      rw[show x++c::mO c (y::xs)=(x++[c])++mO c (y::xs) by simp,show x.length+1=(x++[c]).length by simp,List.drop_left];congr 1
      exact List.take_of_length_le (by simp;omega)
theorem toL_eq{a b:List UInt8}:(D8 a).toList=(D8 b).toList↔a=b:=by
  rw[ByteArray.toList_eq,ByteArray.toList_eq];exact Iff.rfl
theorem pM(ps:List (List UInt8)){k:Nat}(h:k<ps.length):((ps.map D8).map AV.s).getD k .j= .s (D8 (ps.getD k [])):=by simp[h]
theorem eR{H:HP}{id:Nat}{c:List AV}(h:H id=some c):∀i cs,AT BM id (some c) i=some cs->H i=some cs:=by
  intro i cs hd;simp only[AT]at hd;split at hd
  · rename_i e;subst e;rw[h];exact hd
  cases hd
theorem ZI:Int.toNat 1=1:=rfl
theorem ZJ:Int.toNat 2=2:=rfl
end Go.Proofs.YtgknbnkmilddhaaGreat

namespace Go.Proofs.YtgknbnkmilddhaaGreat
def VU(c:UInt8):List UInt8->List (List UInt8)
  |[]=>[[]]
  | b::l=>if b=c then []::VU c l else match VU c l with
    |x::xs=>(b::x)::xs
    |[]=>[[b]]
theorem lP(c:UInt8):∀l,VU c l≠ []:=by
  intro l;cases l with
  |nil=>simp[VU]
  | cons b l=>
    rw[VU];split
    · simp
    split<;>simp
theorem lQ(c:UInt8):∀l,mO c (VU c l)=l:=by
  intro l;induction l with
  |nil=>rfl
  | cons b l ih=>
    rw[VU];split
    · rename_i h;subst h;cases hs:VU b l with
      |nil=>exact absurd hs (lP _ _)
      |cons x xs=>rw[hs]at ih;rw[mO,ih];rfl
    cases hs:VU c l with
    |nil=>exact absurd hs (lP _ _)
    | cons x xs=>
      rw[hs]at ih;simp only
      cases xs with
      |nil=>rw[mO]at ih ⊢;rw[ih]
      |cons y ys=>rw[mO]at ih ⊢;rw[List.cons_append,ih]
theorem Sx(c:UInt8):∀l,∀p,p∈VU c l->p.count c=0:=by
  intro l;induction l with
  |nil=>intro p hp;simp[VU]at hp;subst hp;rfl
  | cons b l ih=>
    intro p hp;rw[VU]at hp;split at hp
    · rcases List.mem_cons.1 hp with rfl|hp
      · rfl
      exact ih p hp
    rename_i hb;cases hs:VU c l with
    |nil=>exact absurd hs (lP _ _)
    | cons x xs=>
      rw[hs]at hp ih;simp only at hp
      rcases List.mem_cons.1 hp with rfl|hp
      · rw[List.count_cons_of_ne hb];exact ih x (List.mem_cons_self ..)
      exact ih p (List.mem_cons_of_mem _ hp)
theorem xO(c:UInt8)(l:List UInt8):Bf c (D8 l)=(VU c l).map D8:=by
  have h:=Sw c (VU c l) (lP c l) (Sx c l);rwa [lQ]at h
theorem A8A{c:UInt8}:∀{l:List UInt8} {m:Nat},l[m]? =some c->(∀j,j<m->l[j]?≠some c)->Lib.indexByte l c=m:=by
  intro l;induction l with
  |nil=>intro m h;simp at h
  | cons b l ih=>
    intro m h hn;cases m with
    | zero=>
      simp only[List.getElem?_cons_zero,Option.some.injEq]at h;subst h;simp[Lib.indexByte]
    | succ m=>
      have hb:(b==c)=false:=by
        have:=hn 0 A0;simpa using this
      have h1:=ih (m:=m) (by simpa using h) (λj hj=>by have:=hn (j+1) A0;simpa using this);have:¬((m:Int)= -1):=A0;simp[Lib.indexByte,hb,h1,this]
theorem Jw{c:UInt8}:∀{l:List UInt8},(∀j,j<l.length->l[j]?≠some c)->l.count c=0:=by
  intro l h;rw[List.count_eq_zero];intro hm;obtain⟨j,hj,e⟩:=List.mem_iff_getElem.1 hm;exact h j hj (by rw[List.getElem?_eq_getElem hj,e])
def Scan(c:UInt8)(s:ByteArray)(i k f:Nat):Prop:=
  i<=s.size/\f<=i/\k<=W6 c s/\(gT c k s).data.toList=s.data.toList.drop f/\∀j,f<=j->j<i->s.data.toList[j]?≠some c
theorem szl(s:ByteArray):s.data.toList.length=s.size:=by rw[Array.length_toList];rfl
theorem toL_inj{a b:ByteArray}(h:a.data.toList=b.data.toList):a=b:=by
  rw[<-eQ a,<-eQ b,h]
theorem Scan.start(c:UInt8)(s:ByteArray):Scan c s 0 0 0:=⟨A0,A0,A0,by simp[gT],by intro j _ h;omega⟩
theorem Scan.no{c:UInt8}{s:ByteArray}{i k f:Nat}(h:Scan c s i k f)(hi:i<s.size)(hb:s.data.toList[i]?≠some c):Scan c s (i+1) k f:=by
  obtain⟨h1,h2,h3,h4,h5⟩:=h;refine⟨A0,A0,h3,h4,λj hj u9=>?_⟩;by_cases e:j=i
  · subst e;exact hb
  exact h5 j hj A0
theorem Scan.yes{c:UInt8}{s:ByteArray}{i k f:Nat}(h:Scan c s i k f)(hb:s.data.toList[i]? =some c):Scan c s (i+1) (k+1) (i+1)/\tE c (k+1) s=tE c k s++[s.extract f i]:=by
  obtain⟨h1,h2,h3,h4,h5⟩:=h;have C4:i<s.size:=by
    have:=(List.getElem?_eq_some_iff.1 hb).1;rw[szl]at this;exact this
  have hib:Lib.indexByte (gT c k s).data.toList c=((i-f:Nat):Int):=by
    rw[h4];refine A8A (by rw[List.getElem?_drop,show f+(i-f)=i by omega];exact hb) (λj hj=>?_);rw[List.getElem?_drop];exact h5 _ A0 A0
  have A8B:cutAt c (gT c k s)=i-f:=by unfold cutAt;rw[hib];rfl
  have qQ:0<W6 c (gT c k s):=by
    unfold W6;rw[h4];exact List.count_pos_iff.2 (List.mem_of_getElem? (i:=i-f) (by rw[List.getElem?_drop,show f+(i-f)=i by omega];exact hb))
  have hrc:=xL c s k h3;have FV:(gT c k s).size=s.size-f:=by rw[<-szl,h4,List.length_drop,szl]
  refine⟨⟨A0,A0,A0,?_,by intro j hj u9;omega⟩,?_⟩
  · rw[gT,j9,A8B,h4,FV,List.drop_drop,List.take_of_length_le (by rw[List.length_drop,szl];omega)];congr 1;omega
  rw[tE,A8B];congr 2
  apply toL_inj;rw[j9,j9,h4,List.drop_zero,Nat.sub_zero]
theorem Scan.done{c:UInt8}{s:ByteArray}{k f:Nat}(h:Scan c s s.size k f):k=W6 c s/\Bf c s=tE c k s++[s.extract f s.size]:=by
  obtain⟨h1,h2,h3,h4,h5⟩:=h;have h0:W6 c (gT c k s)=0:=by
    unfold W6;rw[h4];refine Jw (λj hj=>?_);rw[List.length_drop,szl]at hj;rw[List.getElem?_drop];exact h5 _ A0 A0
  have hrc:=xL c s k h3;have hk:k=W6 c s:=A0;refine⟨hk,?_⟩;unfold Bf;rw[<-hk];congr 2
  apply toL_inj;rw[h4,j9,List.take_of_length_le (by rw[List.length_drop,szl];omega)]
theorem xP{s:ByteArray}{i:Nat}{c:UInt8}(hi:i<s.size):(((s.data.getD i 0).toNat:Int)=(c.toNat:Int))↔s.data.toList[i]? =some c:=by
  have h:s.data.toList[i]? =some (s.data.getD i 0):=by
    rw[Array.getElem?_toList,Array.getD_eq_getD_getElem?];have:i<s.data.size:=hi;rw[Array.getElem?_eq_getElem this];rfl
  rw[h,Option.some.injEq];constructor
  · intro e;exact UInt8.toNat_inj.1 A0
  intro e;rw[e]
set_option maxHeartbeats 2000000 in theorem IV (s:ByteArray) (c:UInt8) (hs:s.size<=2097152):BI Tryz.prog 271 [.s s,.i .u8 c.toNat] (strs (Bf c s)):=by
 refine B5 AA Tryz.func271 rfl A7 Tryz.ntmps271 Tryz.results271 ((Sv _)) (λnx cX=>?_)
 refine B8 ?_;refine B8 ?_;refine AW.seq λN1 B2=>?_;refine B8 ?_;apply AW.block;refine A8 (α:=Nat×Nat×Nat×Nat) (λx=>sl 35 [(0,.s s),(1,.i .u8 c.toNat),(5,.h x.2.2.2 0 x.2.1),(6,.i .i64 x.2.2.1),(7,.i .i64 x.1)]) (λx=>AT BM x.2.2.2 (some ((tE c x.2.1 s).map .s))) (λx m=>Scan c s x.1 x.2.1 x.2.2.1/\x.2.2.2<m) (λx=>s.size-x.1) ((0,0,0,nx+1+0)) ?_ ?_ (λ_ _ h=>h) ?_
 ·exact⟨Scan.start c s,A9⟩
 ·simp(disch:=omega) [AN,AO,sl,AR,ints,rows,A6,AR]<;>omega
 skip
 rintro⟨i,k,f,id⟩ m ⟨hsc,DS⟩
 simp only at hsc DS ⊢
 have YN:=xJ c s k
 have jG:=hsc.1
 have WC:=hsc.2.1
 have U3:=hsc.2.2.1
 have P6:=Jr c s
 have g1:(k+1)*16<=140737488355328:=A0
 have g2:k+1<=9223372036854775807:=A0
 have W0:List.take k ((tE c k s).map AV.s)=(tE c k s).map .s:=List.take_of_length_le (by rw[List.length_map];omega)
 refine AW.seq λN2 B7=>?_;refine B8 ?_;refine AW.cond rfl ?_ ?_<;>intro h1<;>try simp only[cn]at h1
 ·apply AW.skip;apply B7;refine AW.seq λN3 BC=>?_;apply AW.block;refine sQ λN hN=>?_;simp-dsimp-implicitDefEqProofs(maxSteps:=800000) (disch:=omega)only[go_sem,Int.toNat_natCast];apply hN;refine AW.cond rfl ?_ ?_<;>intro h2<;>try simp only[cn]at h2
  ·have hb:=(xP A0).1 h2;have hy:=hsc.yes hb;refine sQ λN hN=>?_;simp-dsimp-implicitDefEqProofs(maxSteps:=800000) (disch:=omega)only[go_sem,Int.toNat_natCast,W0,g1,g2];apply hN;refine GN ?_;apply BC;refine GN ?_;refine⟨(i+1,k+1,i+1,_),?_,by rw[hy.2,List.map_append];exact eR (A4 _ _ _),?_,?_⟩
   ·simp(disch:=omega) [AN,AO,sl,AR,ints,rows,A6,AR]<;>omega
   ·exact⟨hy.1,A9⟩
   first|omega|(simp only;omega)
  have hb:=λe=>h2 ((xP (c:=c) A0).2 e)
  have hy:=hsc.no A0 hb;apply AW.skip;apply BC;refine GN ?_;refine⟨(i+1,k,f,id),?_,λ_ _ h=>h,?_,?_⟩
  ·simp(disch:=omega) [AN,AO,sl,AR,ints,rows,A6,AR]<;>omega
  ·exact⟨hy,A9⟩
  first|omega|(simp only;omega)
 obtain rfl:i=s.size:=A0
 have hd:=hsc.done
 apply AW.exit;apply B2;refine sQ λN hN=>?_;simp-dsimp-implicitDefEqProofs(maxSteps:=800000) (disch:=omega)only[go_sem,Int.toNat_natCast,W0,g1,g2];apply hN;refine AH ?_;unfold strs
 rw[xM,<-hd.1,hd.2,List.map_append]
 exact lO (by simp[YN])
end Go.Proofs.YtgknbnkmilddhaaGreat
