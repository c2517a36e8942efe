import Derived.Test.YtgknbnkmilddhaaGreatZ32
import Derived.Test.YtgknbnkmilddhaaGreatZ37
set_option linter.unusedVariables false
set_option linter.unusedSimpArgs false

namespace Go.Proofs.YtgknbnkmilddhaaGreat
def A92(r:AV):Prop:=∃os X Y,r=AP os X Y/\AF os X Y
theorem U0.GB{N:Nat}{os:List Int}{X:List (List Int)}{Y:List (List (List Int))}(h:U0 N os X Y)(hN:N<=1000):Go.Proofs.YtgknbnkmilddhaaGreat.GB os X Y:=by
  obtain⟨o,p,c,r,pl,cl,ob⟩:=h;have aN:∀k,(Y.getD k []).length<=1000:=λk=>by
    by_cases hk:k<os.length
    · have:=r k hk;omega
    rw[List.getD_eq_getElem?_getD,List.getElem?_eq_none A0];simp
  refine⟨A0,QT.of ⟨A0,λx hx=>by have:=pl x hx;omega⟩ ⟨A0,λy hy=>⟨?_,λx hx=>by have:=cl y hy x hx;omega⟩⟩⟩;obtain⟨k,hk,rfl⟩:=List.mem_iff_getElem.1 hy;have:=aN k;simp[hk]at this;omega
theorem tN:AF [2] (P3 [(2:Int)].length) (KC [(2:Int)].length):=eX (s:=([2],P3 1,KC 1)) A7
theorem mkG{N:St->Prop}{C:Nat->HP->AV->List Int->List (List Int)->List (List (List Int))->Prop}{S:Nat->HP->AV->List Int->List (List Int)->List (List (List Int))->St}{G:Prop}(h1:(∀m H r o X Y,C m H r o X Y->N (S m H r o X Y))->G)(h2:∀m H r o X Y,C m H r o X Y->N (S m H r o X Y)):G:=h1 h2
set_option maxHeartbeats 4000000 in
theorem ZP{bs:List Int}{B1:Nat}{H:HP}(hg:B6 bs B1 H)(lim:Int)(nx:Nat)(MB:B1<nx):AC Tryz.prog 104 nx H [.q B1 0,.i .i64 lim] (λBB H' r=>∃r2,Fz H' (JI nx H') r r2/\A92 r2/\B6 bs B1 H'/\∀i,i<nx->i≠B1->H' i=H i):=by
 refine BA AA Tryz.func104 rfl A7 Tryz.ntmps104 Tryz.results104 (λCQ cX=>?_)
 refine C2 ?_;refine AW.seq λN1 B2=>?_;refine AI (λG0 C9=>?_);dsimp only at C9
 have hl:∀i,i<nx->i≠B1->G0 i=H i:=λi hi _=>by rw[<-C9,A1 _ _ A0]
 have h0:G0 nx=some [.nl,.nl,.nl]:=by rw[<-C9,A4]
 replace hg:B6 bs B1 G0:=hg.AJ (by rw[<-C9,A1 _ _ A0])
 clear C9
 refine AG ?_;refine C2 ?_;apply AW.block;refine A8 (α:=Nat×HP) (λx=>sl 32 [(0,.q B1 0),(1,.i .i64 lim),(4,.q nx 0),(5,.i .i64 x.1)]) (λx=>x.2) (λx m=>(x.1<=12/\nx+1<=m)/\B6 bs B1 x.2/\(∀i,i<nx->i≠B1->x.2 i=H i)/\x.2 nx=some [.nl,.nl,.nl]) (λx=>12-x.1) ((0,G0)) ?_ ?_ (λ_ _ h=>h) ?_
 ·exact⟨⟨AB,A9⟩,hg,hl,h0⟩
 ·simp(disch:=omega) [AN,AO,sl,AR,ints,rows,A6,AR,AP]<;>omega
 skip
 rintro⟨k,G⟩ m ⟨⟨hk,hm⟩,hg,hl,h0⟩
 refine AG ?_;dsimp only at hk hm hg hl h0 ⊢
 refine AW.seq λN2 B7=>?_;refine C2 ?_;refine AW.cond rfl ?_ ?_<;>intro h1<;>try simp only[cn]at h1
 ·apply AW.skip;apply B7;refine AW.seq λN3 BC=>?_;apply AW.block;refine sQ λN hN=>?_;refine BR ?_;refine(NX hg _ A0).AS ?_
  rintro m1 H1 r1 T6 ⟨⟨os,X,Y,rfl,IF⟩,PI,FH⟩;refine BR ?_
  apply hN;refine AW.seq λN4 CF=>?_;refine AI (λG1 I8=>?_);dsimp only at I8
  have K0:∀i,i<nx->i≠B1->G1 i=H i:=λi hi AQ=>by rw[<-I8,A1 _ _ A0,FH i A0 AQ];exact hl i hi AQ
  have xI:G1 nx=some [.nl,.nl,.nl]:=by rw[<-I8,A1 _ _ A0,FH nx A0 A0];exact h0
  have LZ:G1 (m+2+2)=some [ints os,rows X,A6 Y]:=by rw[<-I8,A4]
  have wG:B6 bs B1 G1:=PI.AJ (by rw[<-I8,A1 _ _ A0]);obtain⟨bx,tB⟩:∃bx,m+2+2=bx:=⟨_,rfl⟩;rw[tB]at LZ ⊢;refine AG ?_;refine sQ λN hN=>?_;refine BR ?_;refine(AU wG 3 A0 _).AS ?_
  rintro m2 H2 r2 LN ⟨⟨x2,rfl,mH⟩,KV,DN⟩;have O1:∀i,i<nx->i≠B1->H2 i=H i:=λi hi AQ=>(DN i A0 AQ).trans (K0 i hi AQ)
  have lL:=(DN nx A0 A0).trans xI;have PJ:=(DN bx A0 A0).trans LZ;refine BR ?_
  apply hN;refine AW.cond rfl ?_ ?_<;>intro h2<;>try simp only[cn]at h2
  ·refine AW.name λN hN=>?_;apply mkG (N:=N)
   ·intro key;refine EO AA A7 [false,true,false,false,false] (.br 0 (.br 2 (.br 3 (.br 4 .nil .nil) .nil) .nil) (.br 2 (.br 0 (.br 3 (.br 4 .nil .nil) .nil) .nil) .nil)) A7 ?_;refine BR ?_;rw[PJ];refine BR ?_
    refine⟨?_,?_⟩;all_goals
     refine(NX KV _ A0).AS ?_;rintro m3 H3 r3 W1 ⟨⟨Tu,X3,Y3,rfl,ACX⟩,SN,U3⟩;have SG:=(U3 bx A0 A0).trans PJ;refine DO SG ?_
     refine(eH os Tu X X3 Y Y3 IF ACX _ _).AS ?_;rintro m4 H4 r4 Bd ⟨⟨os4,X4,Y4,rfl,Tv⟩,oQ⟩;have mG:=(oQ bx A0).trans SG;refine DO mG ?_
     have KA:∀i,i<m2->i≠B1->H4 i=H2 i:=λi hi AQ=>(oQ i A0).trans (U3 i A0 AQ)
     generalize (AV.g [ints Tu,rows X3,A6 Y3])=r9
     exact key m4 H4 r9 os4 X4 Y4 (And.intro (show m2+5<=m4 by omega) (And.intro Tv (And.intro (SN.AJ (oQ B1 A0)) KA)))
   intro m4 H4 r4 os4 X4 Y4 hC;obtain⟨Bd,Tv,sX,oQ⟩:=hC;apply hN;apply CF;refine AI (λG7 XW=>?_);dsimp only at XW;obtain⟨os7,X7,Y7,hs7,S1,jB,tO,tP⟩:∃os X Y,U0 24 os X Y/\G7 bx=some [ints os,rows X,A6 Y]/\B6 bs B1 G7/\(∀i,i<nx->i≠B1->G7 i=H i)/\G7 nx=some [.nl,.nl,.nl]:=by
    first
    |exact⟨os4,X4,Y4,Tv,by rw[<-XW,A4],sX.AJ (by rw[<-XW,A1 _ _ A0]),λi hi AQ=>by rw[<-XW,A1 _ _ A0,oQ i A0 AQ];exact O1 i hi AQ,by rw[<-XW,A1 _ _ A0,oQ nx A0 A0];exact lL⟩
    |exact⟨os,X,Y,IF.more A0,by rw[<-XW];exact PJ,by rw[<-XW];exact KV,λi hi AQ=>by rw[<-XW];exact O1 i hi AQ,by rw[<-XW];exact lL⟩
   refine AG ?_;refine sQ λN hN=>?_;refine DO S1 ?_;refine k7 (CS os7 X7 Y7 (hs7.GB A0)) ?_
   refine CH.mk' (λh3=>?_) (λh3=>?_)
   ·(try simp only[cn]at h3);refine DO S1 ?_
    (refine BR ?_);refine k7 (EX os7 h3.1.1 h3.2.1) ?_
    apply hN;refine AW.cond rfl ?_ ?_<;>intro h4<;>try simp only[cn]at h4
    ·refine sQ λN hN=>?_;simp-dsimp-implicitDefEqProofs(maxSteps:=800000) (disch:=omega)only[go_sem,AP,S1,tP];apply hN;refine AH ?_;exact⟨_,λ_ _ h=>h,_,.refl _,⟨os7,X7,Y7,rfl,h3⟩,jB.AJ (A1 _ _ A0),λi hi AQ=>(A1 _ _ A0).trans (tO i hi AQ)⟩
    apply AW.skip;apply BC;refine KT ?_;refine⟨(k+1,G7),?_,λ_ _ h=>h,?_,?_⟩
    ·simp(disch:=omega) [AN,AO,sl,AR,ints,rows,A6,AR,AP]<;>omega
    ·first|exact⟨⟨A9,A9⟩,jB,tO,tP⟩|exact⟨A9,jB,tO,tP⟩
    first|omega|(simp only;omega)
   try simp only[cn]at h3
   refine BR ?_
   apply hN;refine B4 rfl ?_;apply AW.skip;apply BC;refine KT ?_;refine⟨(k+1,G7),?_,λ_ _ h=>h,?_,?_⟩
   ·simp(disch:=omega) [AN,AO,sl,AR,ints,rows,A6,AR,AP]<;>omega
   ·first|exact⟨⟨A9,A9⟩,jB,tO,tP⟩|exact⟨A9,jB,tO,tP⟩
   first|omega|(simp only;omega)
  apply AW.skip;apply CF;refine AI (λG7 XW=>?_);dsimp only at XW;obtain⟨os7,X7,Y7,hs7,S1,jB,tO,tP⟩:∃os X Y,U0 24 os X Y/\G7 bx=some [ints os,rows X,A6 Y]/\B6 bs B1 G7/\(∀i,i<nx->i≠B1->G7 i=H i)/\G7 nx=some [.nl,.nl,.nl]:=by
   first
   |exact⟨os4,X4,Y4,Tv,by rw[<-XW,A4],sX.AJ (by rw[<-XW,A1 _ _ A0]),λi hi AQ=>by rw[<-XW,A1 _ _ A0,oQ i A0 AQ];exact O1 i hi AQ,by rw[<-XW,A1 _ _ A0,oQ nx A0 A0];exact lL⟩
   |exact⟨os,X,Y,IF.more A0,by rw[<-XW];exact PJ,by rw[<-XW];exact KV,λi hi AQ=>by rw[<-XW];exact O1 i hi AQ,by rw[<-XW];exact lL⟩
  refine AG ?_;refine sQ λN hN=>?_;refine DO S1 ?_;refine k7 (CS os7 X7 Y7 (hs7.GB A0)) ?_
  refine CH.mk' (λh5=>?_) (λh5=>?_)
  ·try simp only[cn]at h5
   refine DO S1 ?_
   refine BR ?_
   refine k7 (EX os7 h5.1.1 h5.2.1) ?_
   apply hN;refine AW.cond rfl ?_ ?_<;>intro h6<;>try simp only[cn]at h6
   ·refine sQ λN hN=>?_;simp-dsimp-implicitDefEqProofs(maxSteps:=800000) (disch:=omega)only[go_sem,AP,S1,tP];apply hN;refine AH ?_;exact⟨_,λ_ _ h=>h,_,.refl _,⟨os7,X7,Y7,rfl,h5⟩,jB.AJ (A1 _ _ A0),λi hi AQ=>(A1 _ _ A0).trans (tO i hi AQ)⟩
   apply AW.skip;apply BC;refine KT ?_;refine⟨(k+1,G7),?_,λ_ _ h=>h,?_,?_⟩
   ·simp(disch:=omega) [AN,AO,sl,AR,ints,rows,A6,AR,AP]<;>omega
   ·first|exact⟨⟨A9,A9⟩,jB,tO,tP⟩|exact⟨A9,jB,tO,tP⟩
   first|omega|(simp only;omega)
  try simp only[cn]at h5
  refine BR ?_
  apply hN;refine B4 rfl ?_;apply AW.skip;apply BC;refine KT ?_;refine⟨(k+1,G7),?_,λ_ _ h=>h,?_,?_⟩
  ·simp(disch:=omega) [AN,AO,sl,AR,ints,rows,A6,AR,AP]<;>omega
  ·first|exact⟨⟨A9,A9⟩,jB,tO,tP⟩|exact⟨A9,jB,tO,tP⟩
  first|omega|(simp only;omega)
 apply AW.exit;apply B2;refine sQ λN hN=>?_;refine BR ?_;refine(C7 [2] AB _ (.cons (XQ (os:=[2]) (A4 _ _ _) rfl) .nil)).AS ?_
 intro m9 H9 r9 gW sZ
 obtain⟨P,B,bc,rfl,O2,O3,Kp,CL⟩:=HA.start (N:=12) (bx:=nx) sZ AB A0 (λx hx=>by simp at hx;omega) A0
 have h09:=(Kp nx A0).trans ((A1 _ _ A0).trans h0)
 have gP:B6 bs B1 H9:=hg.AJ ((Kp B1 A0).trans (A1 _ _ A0))
 have hl9:∀i,i<nx->i≠B1->H9 i=H i:=λi hi AQ=>(Kp i A0).trans ((A1 _ _ A0).trans (hl i hi AQ))
 (try simp-dsimp-implicitDefEqProofs(maxSteps:=800000) (disch:=omega)only[go_sem,Bool.and_true,ints,O2,O3,h09])
 apply hN;refine AH ?_;exact⟨_,λ_ _ h=>h,_,CL.fz (λ_ _=>rfl) A0,⟨[2],_,_,rfl,tN⟩,gP.AJ (A1 _ _ A0),λi hi AQ=>(A1 _ _ A0).trans (hl9 i hi AQ)⟩
theorem ZQ{bs:List Int}{B1:Nat}{H:HP}(hg:B6 bs B1 H)(lim:Int)(nx:Nat)(MB:B1<nx):AC Tryz.prog 104 nx H [.q B1 0,.i .i64 lim] (sK bs B1 nx H A92):=YJ MB (ZP hg lim nx MB)
theorem EB.ids{a m:Nat}{H:HP}{r P B:AV}{os:List Int}{X:List (List Int)}{Y:List (List (List Int))}(h:EB a m H r P B os X Y):
    ∃Z ids,Own a m H (.g [r,P,B]) Z ids/\∀H',(∀i∈ids,H' i=H i)->EB a m H' r P B os X Y:=by
  obtain⟨i0,i1,i2,⟨h0,h1,h2⟩,D0,fQ⟩:=h;exact⟨_,i0++(i1++(i2++[])),⟨.g _ _ _ (.cons _ _ _ _ _ _ h0 (.cons _ _ _ _ _ _ h1 (.cons _ _ _ _ _ _ h2 .nil))),by simpa using D0,by simpa using fQ⟩,λH' hk=>
    ⟨i0,i1,i2,⟨h0.AJ λi hi=>hk i (by simp[hi]),h1.AJ λi hi=>hk i (by simp[hi]),h2.AJ λi hi=>hk i (by simp[hi])⟩,D0,fQ⟩⟩
theorem T0(os:List Int)(X:List (List Int))(Y:List (List (List Int)))(h0:os.length<=1048576)(h1:BO X)(h2:F1 Y)(nx:Nat){H:HP}{xs:List AV}(hv:ZY H xs [AP os X Y]):AC Tryz.prog 175 nx H xs (λBB H' r=>∃r0 P B,r= .g [r0,P,B]/\EB nx BB H' r0 P B os X Y/\gO r0=true/\∀i,i<nx->H' i=H i):=by
  refine(V8 ((SV os X Y h0 h1 h2 nx).mono (Q':=λBB H' r=>∃r0 P B,r= .g [r0,P,B]/\EB nx BB H' r0 P B os X Y/\gO r0=true) λBB H' r ⟨r0,P,B,cp,cb,e,hW,hi⟩=>⟨r0,P,B,e,hW.1,hi⟩) (λn H0 r ⟨r0,P,B,e,hW,hi⟩=>?_) hv).mono λBB H' r ⟨⟨r0,P,B,e,hW,hi⟩,CD⟩=>⟨r0,P,B,e,hW,hi,CD⟩
  obtain⟨Z,ids,ho,hk⟩:=hW.ids;exact⟨Z,ids,by rw[e];exact ho,λH' DN=>⟨r0,P,B,e,hk H' DN,hi⟩⟩
open Classical in

theorem EB.fz0{a m:Nat}{H:HP}{r P B:AV}{os:List Int}{X:List (List Int)}{Y:List (List (List Int))}(h:EB a m H r P B os X Y):
    ∃H2,PY H H2/\Fz H H2 (.g [r,P,B]) (.g [ints os,P,B])/\EB a m H2 .nl P B [] X Y/\∀j,(j<a\/m<=j)->H2 j=H j:=by
  obtain⟨i0,i1,i2,⟨h0,h1,h2⟩,h3,h4⟩:=h;obtain⟨H2,QZ⟩:∃H2:HP,H2=λj=>if j∈i0 then none else H j:=⟨_,rfl⟩
  have z0:∀i∈i0,H2 i=none:=λi hi=>by rw[QZ];simp[hi]
  have z1:∀i,i∉i0->H2 i=H i:=λi hi=>by rw[QZ];simp[hi]
  simp only[List.nodup_append,List.mem_append]at h3;refine⟨H2,λi CT hi=>?_,?_,⟨[],i1,i2,⟨.nl,h1.AJ λi hi=>z1 i (by grind),h2.AJ λi hi=>z1 i (by grind)⟩,by simp only[List.nil_append,List.nodup_append];grind,λi hi=>h4 i (by simp only[List.nil_append,List.mem_append]at hi ⊢;exact .inr hi)⟩,λj hj=>z1 j λhm=>by have:=h4 j (by simp[hm]);omega⟩
  · by_cases e:i∈i0
    · rw[z0 i e]at hi;cases hi
    · rw[z1 i e]at hi;exact⟨CT,hi,rfl,λk x y hx hy=>by rw[hx]at hy;cases hy;exact .refl _⟩
  · refine .g _ _ rfl λk x y hx hy=>?_
    match k,hx,hy with
    |0,hx,hy=>cases hx;cases hy;exact h0.QC z0
    |1,hx,hy=>cases hx;cases hy;exact .refl _
    |2,hx,hy=>cases hx;cases hy;exact .refl _
theorem gX(os:List Int)(X:List (List Int))(Y:List (List (List Int)))(h0:os.length<=1048576)(h1:BO X)(h2:F1 Y)(nx:Nat){H:HP}{xs:List AV}(hv:ZY H xs [AP os X Y]):AC Tryz.prog 175 nx H xs (λBB H' r=>∃P B,r= .g [ints os,P,B]/\EB nx BB H' .nl P B [] X Y/\∀i,i<nx->H' i=H i):=by
  refine(T0 os X Y h0 h1 h2 nx hv).frz λBB H' r ⟨r0,P,B,e,hW,hi,CD⟩=>?_
  obtain⟨H2,g1,g2,g3,g4⟩:=hW.fz0;exact⟨H2,_,g1,by rw[e];exact g2,P,B,rfl,g3,λi hi=>(g4 i (.inl hi)).trans (CD i hi)⟩
theorem EB.fz2{a m n:Nat}{H:HP}{P B:AV}{os:List Int}{X:List (List Int)}{Y:List (List (List Int))}(h:EB a m H .nl P B [] X Y)(hn:n<=a):Fz H (JI n H) (.g [ints os,P,B]) (AP os X Y):=by
  obtain⟨i0,i1,i2,⟨h0,h1,h2⟩,h3,h4⟩:=h;have hz:∀i∈i0++(i1++i2),JI n H i=none:=λi hi=>QD (by have:=h4 i hi;omega)
  refine .g _ _ rfl λk x y hx hy=>?_
  match k,hx,hy with
  |0,hx,hy=>cases hx;cases hy;exact .refl _
  |1,hx,hy=>cases hx;cases hy;exact h1.QC λi hi=>hz i (by simp[hi])
  |2,hx,hy=>cases hx;cases hy;exact h2.QC λi hi=>hz i (by simp[hi])
structure ZR(os:List Int)(X:List (List Int))(Y:List (List (List Int))):Prop where
  o:os.length<=8
  p:BO X
  c:F1 Y
  b:∀x∈os,-1000<=x/\x<=1000
def lZ(r:AV):Prop:=∃os X Y,r=AP os X Y/\ZR os X Y
theorem ZR.pl{os:List Int}{X:List (List Int)}{Y:List (List (List Int))}(h:ZR os X Y):GB os X Y:=⟨by have:=h.o;omega,QT.of h.p h.c⟩
theorem U0.drw{N:Nat}{os:List Int}{X:List (List Int)}{Y:List (List (List Int))}(h:U0 N os X Y)(hN:N<=1000)(h8:os.length<=8):ZR os X Y:=by
  obtain⟨o,p,c,r,pl,cl,ob⟩:=h;have aN:∀k,(Y.getD k []).length<=1000:=λk=>by
    by_cases hk:k<os.length
    · have:=r k hk;omega
    rw[List.getD_eq_getElem?_getD,List.getElem?_eq_none A0];simp
  refine⟨h8,⟨A0,λx hx=>by have:=pl x hx;omega⟩,⟨A0,λy hy=>⟨?_,λx hx=>by have:=cl y hy x hx;omega⟩⟩,ob⟩;obtain⟨k,hk,rfl⟩:=List.mem_iff_getElem.1 hy;have:=aN k;simp[hk]at this;omega
theorem AF.drw{os:List Int}{X:List (List Int)}{Y:List (List (List Int))}(h:AF os X Y):ZR os X Y:=h.shB.drw A0 (by have:=h.1.1;omega)
theorem BO.row{W:List (List Int)}(h:BO W)(k:Nat):(W.getD k []).length<=1048576:=GU (p:=λx:List Int=>x.length<=1048576) h.v AB k
theorem F1.row{W:List (List (List Int))}(h:F1 W)(k:Nat):BO (W.getD k []):=GU (p:=BO) h.v .nil k
end Go.Proofs.YtgknbnkmilddhaaGreat

namespace Go.Proofs.YtgknbnkmilddhaaGreat
theorem tQ{H H':HP}{q z:Nat}{c:Option (List AV)}(h:H' z=H z):AT H' q c z=AT H q c z:=by
  by_cases e:z=q
  · subst e;rw[A4,A4]
  rw[A1 _ _ e,A1 _ _ e];exact h
theorem ZS{Γ:CA}{P:Program}{b:Nat}{ops:List Oper}{t:Tr}{s:St}{K:St->Prop}(t':Tr){S:St}(h1:FZ Γ P b ops t' S K->FZ Γ P b ops t s K)(h2:FZ Γ P b ops t' S K):FZ Γ P b ops t s K:=h1 h2
theorem gY{Γ:CA}{P:Program}{b:Nat}{ops:List Oper}{t:Tr}{s:St}{K:St->Prop}(t':Tr){α:Type}{C:Nat->HP->α->Prop}{S:Nat->HP->α->St}(h1:(∀m H x,C m H x->FZ Γ P b ops t' (S m H x) K)->FZ Γ P b ops t s K)(h2:∀m H x,C m H x->FZ Γ P b ops t' (S m H x) K):FZ Γ P b ops t s K:=h1 h2
def A3K:Tr:= .nil
def tW9:Tr:= .br 20 A3K .nil
def tW8:Tr:= .br 18 tW9 .nil
def tW7:Tr:= .br 19 tW9 .nil
def tW6:Tr:= .br 10 tW7 .nil
def tW5:Tr:= .br 18 tW7 (.br 19 tW8 .nil)
def tW4:Tr:= .br 9 tW6 .nil
def tW3:Tr:= .br 10 tW5 (.br 18 tW6 .nil)
def tW2:Tr:= .br 4 tW4 .nil
def tW1:Tr:= .br 9 tW3 (.br 18 tW4 .nil)
def tW0:Tr:= .br 4 tW1 (.br 18 tW2 .nil)
theorem A3L{N:St->Prop}{α:Type}{C:Nat->HP->α->Prop}{S:Nat->HP->α->St}{G:Prop}(h1:(∀m H x,C m H x->N (S m H x))->G)(h2:∀m H x,C m H x->N (S m H x)):G:=h1 h2
set_option maxHeartbeats 4000000 in
theorem eZ{bs:List Int}{B1:Nat}{H:HP}(hg:B6 bs B1 H)(os:List Int)(X:List (List Int))(Y:List (List (List Int)))(h:AF os X Y)(nx:Nat)(MB:B1<nx):AC Tryz.prog 106 nx H [.q B1 0,AP os X Y] (λBB H' r=>∃r2,Fz H' (JI nx H') r r2/\lZ r2/\B6 bs B1 H'/\∀i,i<nx->i≠B1->H' i=H i):=by
 have hd:=h.drw
 have FU:=h.1.1
 obtain⟨dd1,Kq,Bg,Tw⟩:=id hd
 refine BA AA Tryz.func106 rfl A7 Tryz.ntmps106 Tryz.results106 (λCQ cX=>?_)
 refine C2 ?_;refine AK 3 nx [ints os,rows X,A6 Y] rfl (by simp(disch:=omega)only[A1,A4]) ?_
 refine AG ?_;refine sQ λN hN=>?_;refine BR ?_;refine(gX os X Y A0 Kq Bg _ (.cons (.refl _) .nil)).AS ?_
 rintro m1 H1 r1 T6 ⟨P,B,rfl,eA,CD⟩
 have O2:=eA.MR.2.1
 have O3:=eA.MR.2.2
 (try simp-dsimp-implicitDefEqProofs(maxSteps:=800000) (disch:=omega)only[go_sem,Bool.and_true,ints,AP,O2,O3])
 apply hN;refine AK 5 (nx+2+2) _ rfl (A4 _ _ _) ?_
 refine AI (λG1 I8=>?_);dsimp only at I8
 have K0:∀i,i<nx->i≠B1->G1 i=H i:=λi hi AQ=>by rw[<-I8];simp(disch:=omega)only[A1];rw[CD i A0];simp(disch:=omega)only[A1]
 have xI:G1 (nx+1)=some [.nl,.nl,.nl]:=by rw[<-I8];simp(disch:=omega)only[A1];rw[CD _ A0];simp(disch:=omega)only[A1,A4]
 have wG:B6 bs B1 G1:=hg.AJ (by rw[<-I8];simp(disch:=omega)only[A1];rw[CD _ A0];simp(disch:=omega)only[A1])
 replace eA:EB (nx+2+4) m1 G1 .nl P B [] X Y:=eA.AJ (λi i1 i2=>by rw[<-I8];simp(disch:=omega)only[A1]) (Nat.le_refl _)
 refine AG ?_;refine C2 ?_;refine sQ λN hN=>?_;refine BR ?_;refine(AU wG os.length A0 _).AS ?_
 rintro m2 H2 r2 LN ⟨⟨x2,rfl,mH⟩,KV,DN⟩
 obtain⟨i,rfl⟩:=Int.eq_ofNat_of_zero_le mH.1
 refine BR ?_
 apply hN;refine sQ λN hN=>?_;refine BR ?_;refine(AU KV ((os.length:Int)-1-i) A0 _).AS ?_
 rintro m3 H3 r3 W1 ⟨⟨x3,rfl,hx3⟩,SN,U3⟩
 obtain⟨j,hj⟩:∃j:Nat,(i:Int)+1+x3=j:=⟨((i:Int)+1+x3).toNat,A0⟩
 have hk:∀q,q<m1->q≠B1->H3 q=G1 q:=λq h1 h2=>(U3 q A0 h2).trans (DN q A0 h2)
 have S4:EB (nx+2+4) m1 H3 .nl P B [] X Y:=eA.AJ (λq q1 q2=>hk q q2 A0) (Nat.le_refl _)
 have W7:H3 (nx+1)=some [.nl,.nl,.nl]:=(hk _ A0 A0).trans xI
 have RW:∀q,q<nx->q≠B1->H3 q=H q:=λq h1 h2=>(hk q A0 h2).trans (K0 q h1 h2)
 refine bU hj ?_
 apply hN;refine AW.seq λN1 B2=>?_;refine C2 ?_;refine AW.cond rfl ?_ ?_<;>intro h1<;>try simp only[cn]at h1
 ·refine rF O2 O3 W7 ?_;refine AH ?_;exact⟨_,λ_ _ h=>h,_,(S4.AJ (λq q1 q2=>A1 _ _ A0) (Nat.le_refl _)).fz2 A0,⟨os,X,Y,rfl,hd⟩,SN.AJ (A1 _ _ A0),λq hq AQ=>(A1 _ _ A0).trans (RW q hq AQ)⟩
 have hi:i<os.length:=A0
 have vC:j<os.length:=A0
 have hod:=Tw (os.getD j 0) (by rw[List.getD_eq_getElem?_getD,List.getElem?_eq_getElem vC];exact List.getElem_mem _)
 obtain⟨⟨q1,q2,q3⟩,q4,q5,q6⟩:=id h
 have Z1:=(q6 i hi).1.1
 have Vo:=(q6 i hi).2.1
 have hr3:=λe he=>((q6 i hi).2.2 e he).1
 apply AW.skip;apply B2;refine AW.seq λN2 B7=>?_;refine sQ λN hN=>?_;refine BR ?_;refine(AU SN 3 A0 _).AS ?_
 rintro m4 H4 r4 Bd ⟨⟨x4,rfl,hx4⟩,sX,oQ⟩
 have A93:EB (nx+2+4) m1 H4 .nl P B [] X Y:=S4.AJ (λq q1 q2=>oQ q A0 A0) (Nat.le_refl _)
 have h04:H4 (nx+1)=some [.nl,.nl,.nl]:=(oQ _ A0 A0).trans W7
 have y5:∀q,q<nx->q≠B1->H4 q=H q:=λq h1 h2=>(oQ q A0 h2).trans (RW q h1 h2)
 refine BR ?_
 apply hN;refine AW.cond rfl ?_ ?_<;>intro h2<;>try simp only[cn]at h2
 ·obtain⟨p,rs,q,rfl,hp,P7,fA,hq,nP,hqb,hpq,EP⟩:=A93.Jl (k:=i) (l:=j) A0 A0;refine AW.seq λN hN=>?_;apply A3L (N:=N)
  ·intro key;refine EO AA A7 [true,true,true,true,false,true,true,true,true,true,true,true,false,false,false] (.br 4 (.br 12 (.br 13 (.br 14 .nil .nil) .nil) (.br 13 (.br 12 (.br 14 .nil .nil) .nil) .nil)) (.br 12 (.br 4 (.br 13 (.br 14 .nil .nil) .nil) .nil) .nil)) A7 ?_;(try simp-dsimp-implicitDefEqProofs(maxSteps:=800000) (disch:=omega)only[go_sem,AL,ints,AP,hp,P7,fA,hq]);refine⟨⟨?_,?_⟩,?_⟩;all_goals
    refine(AU sX (os.getD j 0) A0 _).AS ?_;rintro m5 H5 r5 zU ⟨⟨x5,rfl,hx5⟩,Ko,KA⟩;have Tx:=(KA p A0 A0).trans hp;have hq5:=(KA q A0 A0).trans hq;refine bR Tx hq5 P7 fA ?_
    exact key m5 H5 x5 (And.intro zU (And.intro Ko KA))
  intro m5 H5 x5 hC;obtain⟨zU,Ko,KA⟩:=hC;have h05:H5 (nx+1)=some [.nl,.nl,.nl]:=(KA _ A0 A0).trans h04;have hl5:∀z,z<nx->z≠B1->H5 z=H z:=λz h1 h2=>(KA z A0 h2).trans (y5 z h1 h2)
  have Je:=(EP x5).AJ (H':=AT H5 q (some (B3 ((X.getD i []).map (.i .i64)) j [.i .i64 x5]))) (λz z1 z2=>tQ (KA z A0 A0)) (Nat.le_refl _);apply hN;refine rF O2 O3 h05 ?_;refine AH ?_;exact⟨_,λ_ _ h=>h,_,(Je.AJ (λz z1 z2=>A1 _ _ A0) (Nat.le_refl _)).fz2 A0,⟨os,_,Y,rfl,dd1,Kq.set (by rw[List.length_set];omega),Bg,Tw⟩,Ko.AJ ((A1 _ _ A0).trans (A1 _ _ A0)),λz hz AQ=>(A1 _ _ A0).trans ((A1 _ _ A0).trans (hl5 z hz AQ))⟩
 apply AW.skip;apply B7;refine sQ λN hN=>?_;refine BR ?_;refine(AU sX ((os.length:Int)-1-i) A0 _).AS ?_
 rintro m6 H6 r6 hm6 ⟨⟨x6,rfl,hx6⟩,Ts,dT⟩
 obtain⟨e,rfl⟩:=Int.eq_ofNat_of_zero_le hx6.1
 have Lr:e<os.length-1-i:=A0
 have h06:H6 (nx+1)=some [.nl,.nl,.nl]:=(dT _ A0 A0).trans h04
 have hl6:∀z,z<nx->z≠B1->H6 z=H z:=λz h1 h2=>(dT z A0 h2).trans (y5 z h1 h2)
 have ACY:EB (nx+2+4) m1 H6 .nl P B [] X Y:=A93.AJ (λq q1 q2=>dT q A0 A0) (Nat.le_refl _)
 have he:(i:Int)+1+e-i-1=e:=A0
 have hr4:=hr3 e A0
 obtain⟨b,bs1,p,rs,q,rfl,hb,P8,LQ,hp,P7,fA,hq,JZ,nP,hqb,AEZ,EP⟩:=ACY.A2R (c:=i) (k:=e) (l:=j) A0 A0 A0
 refine BR ?_
 apply hN;refine AW.seq λN hN=>?_;apply A3L (N:=N)
 ·intro key;refine EO AA A7 [true,true,true,true,false,true,true,true,true,false,false,true,true,true,true,true,true,true,false,false,false] (tW0) A7 ?_;(try simp-dsimp-implicitDefEqProofs(maxSteps:=800000) (disch:=omega)only[go_sem,AL,ints,AP,hb,P8,LQ,hp,P7,fA,hq,he]);apply gY A3K (C:=λm H x=>m6+21<=m/\B6 bs B1 H/\∀i,i<m6+21->i≠B1->H i=H6 i);intro A94;apply gY tW9 (C:=λm H x=>m6+21<=m/\B6 bs B1 H/\∀i,i<m6+21->i≠B1->H i=H6 i);intro A95;apply ZS tW8;intro ACZ;apply gY tW7 (C:=λm H x=>m6+21<=m/\B6 bs B1 H/\∀i,i<m6+21->i≠B1->H i=H6 i);intro A96;apply gY tW6 (C:=λm H x=>m6+21<=m/\B6 bs B1 H/\∀i,i<m6+21->i≠B1->H i=H6 i);intro A97;apply ZS tW5;intro AD0;apply gY tW4 (C:=λm H x=>m6+21<=m/\B6 bs B1 H/\∀i,i<m6+21->i≠B1->H i=H6 i);intro A98;apply ZS tW3;intro AD1;apply gY tW2 (C:=λm H x=>m6+21<=m/\B6 bs B1 H/\∀i,i<m6+21->i≠B1->H i=H6 i);intro AD2;apply ZS tW1;intro AD3
  ·rw[tW0];refine SB hb P8 LQ hp P7 fA he ?_
   repeat' (with_reducible refine And.intro ?_ ?_)
   all_goals try (with_reducible first|exact AD3)
   refine(AU Ts (os.getD j 0) A0 _).AS ?_;rintro m9 H9 r9 gW ⟨⟨x9,rfl,Mg⟩,gP,SZ⟩;refine SB hb P8 LQ hp P7 fA he ?_
   exact AD2 m9 H9 x9 (And.intro gW (And.intro gP SZ))
  ·rw[tW1];refine SB hb P8 LQ hp P7 fA he ?_
   repeat' (with_reducible refine And.intro ?_ ?_)
   all_goals try (with_reducible first|exact AD1)
   refine(AU Ts (os.getD j 0) A0 _).AS ?_;rintro m9 H9 r9 gW ⟨⟨x9,rfl,Mg⟩,gP,SZ⟩;refine SB hb P8 LQ hp P7 fA he ?_
   exact A98 m9 H9 x9 (And.intro gW (And.intro gP SZ))
  ·intro m9 H9 x9 hC;have S1:=(hC.2.2 b A0 A0).trans hb;have Kr:=(hC.2.2 p A0 A0).trans hp;have Ks:=(hC.2.2 q A0 A0).trans hq;rw[tW2];refine WN S1 Kr Ks P8 LQ P7 fA he ?_
   repeat' (with_reducible refine And.intro ?_ ?_)
   all_goals try (with_reducible first|exact A98 m9 H9 x9 hC)
  ·rw[tW3];refine SB hb P8 LQ hp P7 fA he ?_
   repeat' (with_reducible refine And.intro ?_ ?_)
   all_goals try (with_reducible first|exact AD0)
   refine(AU Ts (os.getD j 0) A0 _).AS ?_;rintro m9 H9 r9 gW ⟨⟨x9,rfl,Mg⟩,gP,SZ⟩;refine SB hb P8 LQ hp P7 fA he ?_
   exact A97 m9 H9 x9 (And.intro gW (And.intro gP SZ))
  ·intro m9 H9 x9 hC;have S1:=(hC.2.2 b A0 A0).trans hb;have Kr:=(hC.2.2 p A0 A0).trans hp;have Ks:=(hC.2.2 q A0 A0).trans hq;rw[tW4];refine WN S1 Kr Ks P8 LQ P7 fA he ?_
   repeat' (with_reducible refine And.intro ?_ ?_)
   all_goals try (with_reducible first|exact A97 m9 H9 x9 hC)
  ·rw[tW5];refine SB hb P8 LQ hp P7 fA he ?_
   repeat' (with_reducible refine And.intro ?_ ?_)
   all_goals try (with_reducible first|exact ACZ)
   refine(AU Ts (os.getD j 0) A0 _).AS ?_;rintro m9 H9 r9 gW ⟨⟨x9,rfl,Mg⟩,gP,SZ⟩;refine SB hb P8 LQ hp P7 fA he ?_
   exact A96 m9 H9 x9 (And.intro gW (And.intro gP SZ))
  ·intro m9 H9 x9 hC;have S1:=(hC.2.2 b A0 A0).trans hb;have Kr:=(hC.2.2 p A0 A0).trans hp;have Ks:=(hC.2.2 q A0 A0).trans hq;rw[tW6];refine WN S1 Kr Ks P8 LQ P7 fA he ?_
   repeat' (with_reducible refine And.intro ?_ ?_)
   all_goals try (with_reducible first|exact A96 m9 H9 x9 hC)
  ·intro m9 H9 x9 hC;have S1:=(hC.2.2 b A0 A0).trans hb;have Kr:=(hC.2.2 p A0 A0).trans hp;have Ks:=(hC.2.2 q A0 A0).trans hq;rw[tW7];refine WN S1 Kr Ks P8 LQ P7 fA he ?_
   repeat' (with_reducible refine And.intro ?_ ?_)
   all_goals try (with_reducible first|exact A95 m9 H9 x9 hC)
  ·rw[tW8];refine SB hb P8 LQ hp P7 fA he ?_
   repeat' (with_reducible refine And.intro ?_ ?_)
   refine(AU Ts (os.getD j 0) A0 _).AS ?_;rintro m9 H9 r9 gW ⟨⟨x9,rfl,Mg⟩,gP,SZ⟩;refine SB hb P8 LQ hp P7 fA he ?_
   exact A95 m9 H9 x9 (And.intro gW (And.intro gP SZ))
  ·intro m9 H9 x9 hC;have S1:=(hC.2.2 b A0 A0).trans hb;have Kr:=(hC.2.2 p A0 A0).trans hp;have Ks:=(hC.2.2 q A0 A0).trans hq;rw[tW9];refine WN S1 Kr Ks P8 LQ P7 fA he ?_
   repeat' (with_reducible refine And.intro ?_ ?_)
   all_goals try (with_reducible first|exact A94 m9 H9 x9 hC)
  intro m9 H9 x9 hC;have S1:=(hC.2.2 b A0 A0).trans hb;have Kr:=(hC.2.2 p A0 A0).trans hp;have Ks:=(hC.2.2 q A0 A0).trans hq;rw[A3K];refine WN S1 Kr Ks P8 LQ P7 fA he ?_
  exact key m9 H9 x9 hC
 intro m7 H7 x7 hC
 obtain⟨hm7,jB,l5⟩:=hC
 have tP:H7 (nx+1)=some [.nl,.nl,.nl]:=(l5 _ A0 A0).trans h06
 have tO:∀z,z<nx->z≠B1->H7 z=H z:=λz h1 h2=>(l5 z A0 h2).trans (hl6 z h1 h2)
 have AD4:=(EP x7).AJ (H':=AT H7 q (some (B3 (((Y.getD i []).getD e []).map (.i .i64)) j [.i .i64 x7]))) (λz z1 z2=>tQ (l5 z A0 A0)) (Nat.le_refl _)
 apply hN;refine rF O2 O3 tP ?_;refine AH ?_;exact⟨_,λ_ _ h=>h,_,(AD4.AJ (λz z1 z2=>A1 _ _ A0) (Nat.le_refl _)).fz2 A0,⟨os,X,_,rfl,dd1,Kq,Bg.set ((Bg.row i).set (by rw[List.length_set];omega)),Tw⟩,jB.AJ ((A1 _ _ A0).trans (A1 _ _ A0)),λz hz AQ=>(A1 _ _ A0).trans ((A1 _ _ A0).trans (tO z hz AQ))⟩
theorem QQ{bs:List Int}{B1:Nat}{H:HP}(hg:B6 bs B1 H)(os:List Int)(X:List (List Int))(Y:List (List (List Int)))(h:AF os X Y)(nx:Nat)(MB:B1<nx):AC Tryz.prog 106 nx H [.q B1 0,AP os X Y] (sK bs B1 nx H lZ):=YJ MB (eZ hg os X Y h nx MB)
end Go.Proofs.YtgknbnkmilddhaaGreat
