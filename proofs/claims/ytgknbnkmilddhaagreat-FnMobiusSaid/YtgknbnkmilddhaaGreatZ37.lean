import Derived.Test.YtgknbnkmilddhaaGreatZ36
set_option linter.unusedVariables false
set_option linter.unusedSimpArgs false

namespace Go.Proofs.YtgknbnkmilddhaaGreat
theorem RD{E:HP}{b id n:Nat}{cs:List AV}{W:List (List Int)}(h:E id=some cs)(DS:b<=id)(hl:cs.length=W.length)(hc:∀k,k<W.length->∃q,cs.getD k .j= .h q 0 (W.getD k []).length/\b<=q/\E q=some ((W.getD k []).map (.i .i64)))(hn:n=W.length:=by rfl):Fz E (JI b E) (.h id 0 n) (rows W):=by
  subst hn;unfold rows;refine .h id 0 _ cs _ h (QD DS) A0 AB λk x y hx hy=>?_
  rw[Nat.zero_add]at hx;have hk:k<W.length:=by have:=(List.getElem?_eq_some_iff.1 hy).1;simpa using this
  obtain⟨q,e,g1,g2⟩:=hc k hk;have iJ:x= .h q 0 (W.getD k []).length:=by rw[<-e,List.getD_eq_getElem?_getD,hx];rfl
  have hy1:y=ints (W.getD k []):=by
    rw[List.getElem?_map,List.getElem?_eq_getElem hk]at hy;rw[List.getD_eq_getElem?_getD,List.getElem?_eq_getElem hk];exact(Option.some.inj hy).symm
  subst iJ hy1;unfold ints;exact .h q 0 _ _ _ g2 (QD g1) AB AB λk x y g1 g2=>by rw[Nat.zero_add,g2]at g1;cases g1;exact .refl _
theorem LC.vwI{H:HP}{a b:Nat}{L:AV}{xs:List Int}(h:LC H a b L (xs.map (.i .i64))):Vw H L (Go.Proofs.YtgknbnkmilddhaaGreat.ints xs):=by
  rcases h with ⟨rfl,e⟩|⟨id,rfl,h0,_,_⟩
  · obtain rfl:xs=[]:=List.map_eq_nil_iff.1 e;exact .nl
  have:=Vw.fr (n:=(xs.map (AV.i .i64)).length) h0 rfl;unfold Go.Proofs.YtgknbnkmilddhaaGreat.ints;rw[List.length_map]at this ⊢;exact this
theorem XU{n:Nat}{W:List (List Int)}(h:W.length=n)(hw:∀w∈W,w.length=n/\∀x∈w,0<=x/\x<=10):mN n W:=
  ⟨h,λw hm=>⟨(hw w hm).1,λk=>GU (p:=λx:Int=>0<=x/\x<=10) (hw w hm).2 A0 k⟩⟩
theorem A8M:mN 2 [[2,0],[0,2]]:=XU BX BX
theorem A8N:mN 2 [[0,1],[2,0]]:=XU BX BX
theorem A8O:mN 3 [[0,1,0],[0,0,1],[1,1,0]]:=XU BX BX
theorem A8P:mN 3 [[1,1,0],[0,1,1],[0,0,1]]:=XU BX BX
theorem A8Q:mN 4 [[0,1,0,0],[1,0,0,0],[0,0,0,1],[0,0,1,0]]:=XU BX BX
theorem A8R:mN 2 [[0,1],[4,4]]:=XU BX BX
set_option maxRecDepth 20000 in
set_option maxHeartbeats 8000000 in
theorem XV{bs:List Int}{B1:Nat}{H:HP}(hg:B6 bs B1 H)(nx:Nat)(MB:B1<nx):AC Tryz.prog 172 nx H [.q B1 0] (λBB H' r=>∃r2,Fz H' (JI nx H') r r2/\ZH 12 r2/\B6 bs B1 H'/\∀i,i<nx->i≠B1->H' i=H i):=by
 refine BA AA Tryz.func172 rfl A7 Tryz.ntmps172 Tryz.results172 (λCQ cX=>?_)
 refine C2 ?_;refine AW.seq λN1 B2=>?_;refine AI (λG0 C9=>?_);dsimp only at C9
 have hl:∀i,i<nx->i≠B1->G0 i=H i:=λi hi _=>by rw[<-C9,A1 _ _ A0]
 have h0:G0 nx=some [.nl,.nl,.nl]:=by rw[<-C9,A4]
 replace hg:B6 bs B1 G0:=hg.AJ (by rw[<-C9,A1 _ _ A0])
 clear C9
 refine AG ?_;refine sQ λN hN=>?_;refine BR ?_;refine(AU (hg.AJ (by first|rfl|(simp(disch:=omega)only[A1]))) 9 A0 _).AS ?_
 rintro m1 H1 r1 T6 ⟨⟨x1,rfl,iJ⟩,PI,FH⟩
 replace hl:∀i,i<nx->i≠B1->H1 i=H i:=λi hi AQ=>(FH i A0 AQ).trans (by first|exact hl i hi AQ|(simp(disch:=omega)only[A1];exact hl i hi AQ))
 replace h0:H1 nx=some [.nl,.nl,.nl]:=(FH nx A0 A0).trans (by first|exact h0|(simp(disch:=omega)only[A1];exact h0))
 replace hg:=PI
 clear PI
 refine BR ?_
 apply hN;apply AW.block;refine C2 ?_;refine AW.cond rfl ?_ ?_<;>intro h1<;>try simp only[cn]at h1
 ·refine C2 ?_;refine AW.seq λN2 B7=>?_;refine sQ λN hN=>?_;refine BR ?_;refine(AU (hg.AJ (by first|rfl|(simp(disch:=omega)only[A1]))) 5 A0 _).AS ?_
  rintro m2 H2 r2 LN ⟨⟨x2,rfl,mH⟩,KV,DN⟩;replace hl:∀i,i<nx->i≠B1->H2 i=H i:=λi hi AQ=>(DN i A0 AQ).trans (by first|exact hl i hi AQ|(simp(disch:=omega)only[A1];exact hl i hi AQ))
  replace h0:H2 nx=some [.nl,.nl,.nl]:=(DN nx A0 A0).trans (by first|exact h0|(simp(disch:=omega)only[A1];exact h0));replace hg:=KV;clear KV;refine BR ?_
  apply hN;apply AW.block;obtain⟨n2,rfl⟩:∃n:Nat,x2=n:=⟨x2.toNat,A0⟩;refine A8 (α:=Nat×HP×AV×List Int) (λx=>sl 130 [(0,.q B1 0),(2,.q nx 0),(3,x.2.2.1),(4,.i .i64 x.1),(10,.i .i64 x1)]) (λx=>x.2.1) (λx m=>(x.1+x.2.2.2.length<=4/\nx+1<=m)/\LC x.2.1 (nx+1) m x.2.2.1 (x.2.2.2.map (.i .i64))/\(∀z∈x.2.2.2,2<=z/\z<=3)/\B6 bs B1 x.2.1/\(∀i,i<nx->i≠B1->x.2.1 i=H i)/\x.2.1 nx=some [.nl,.nl,.nl]) (λx=>x.1) ((n2,H2,.h (m1+2) 0 0,[])) ?_ ?_ (λ_ _ h=>h) ?_
  ·exact⟨⟨by simp;omega,A9⟩,LC.mk ((DN (m1+2) A0 A0).trans (A4 _ _ _)) rfl A0 A9,AB,hg,hl,h0⟩
  ·simp(disch:=omega) [AN,AO,sl,AR,ints,rows,A6,AR,AP]<;>omega
  skip
  rintro⟨n2,G,L,vs⟩ m ⟨⟨gR,hm⟩,hL,hvs,hg,hl,h0⟩;refine AG ?_;dsimp only at gR hm hL hvs hg hl h0 ⊢;have MA:=hL.one;have IJ:=hL.len;refine AW.seq λN3 BC=>?_;refine C2 ?_;refine AW.cond rfl ?_ ?_<;>intro h2<;>try simp only[cn]at h2
  ·apply AW.skip;apply BC;refine AW.seq λN4 CF=>?_;apply AW.block;refine KT ?_;refine(DY (hg.AJ (by first|rfl|(simp(disch:=omega)only[A1]))) [2,2,3] 3 (A4 _ _ _) rfl A0 A0 _ A0 A0 A0).AS ?_
   rintro m3 H3 r3 W1 ⟨⟨x3,rfl,hx3⟩,SN,U3⟩;have SG:2<=x3/\x3<=3:=by simp at hx3;omega
   replace hl:∀i,i<nx->i≠B1->H3 i=H i:=λi hi AQ=>(U3 i A0 AQ).trans (by first|exact hl i hi AQ|(simp(disch:=omega)only[A1];exact hl i hi AQ))
   replace h0:H3 nx=some [.nl,.nl,.nl]:=(U3 nx A0 A0).trans (by first|exact h0|(simp(disch:=omega)only[A1];exact h0));have fR:LC H3 (nx+1) m L (vs.map (.i .i64)):=hL.AJ (λi jG WC=>(U3 i A0 A0).trans (A1 _ _ A0));have l4:=hL.bd;try simp-dsimp-implicitDefEqProofs(disch:=(first|omega|((repeat refine LC.AT A0 ?_);assumption))) only[go_sem,MA,IJ,BP (a:=nx+1) (b:=m) (L:=L) (cs:=vs.map (.i .i64))]
   apply CF;refine AI (λG3 CB=>?_);dsimp only at CB;have RW:∀i,i<nx->i≠B1->G3 i=H i:=λi hi AQ=>by rw[<-CB,A1 _ _ A0,AY A0,A1 _ _ A0];exact hl i hi AQ
   have W7:G3 nx=some [.nl,.nl,.nl]:=by rw[<-CB,A1 _ _ A0,AY A0,A1 _ _ A0];exact h0
   have sX:B6 bs B1 G3:=SN.AJ (by rw[<-CB,A1 _ _ A0,AY A0,A1 _ _ A0]);refine KT ?_;refine⟨(n2-1,G3,.h (m+2+5) 0 (vs.length+1),vs++[x3]),?_,λ_ _ h=>h,?_,?_⟩
   ·simp(disch:=omega) [AN,AO,sl,AR]<;>omega
   ·have GA:LC G3 (nx+1) (m3+3) (.h (m+2+5) 0 (vs.length+1)) ((vs++[x3]).map (.i .i64)):=LC.mk (by rw[<-CB,A4];simp) AB A0 A0;have A8S:∀z∈vs++[x3],2<=z/\z<=3:=VO hvs SG;first|exact⟨⟨by simp;omega,A9⟩,GA,A8S,sX,RW,W7⟩|exact⟨by simp;omega,GA,A8S,sX,RW,W7⟩
   first|omega|(simp only;omega)
  apply AW.exit;apply B7;refine sQ λN hN=>?_;refine BR ?_;refine(C7 vs A0 _ (.cons hL.vwI .nil)).AS ?_
  intro m4 H4 r4 Bd sZ;obtain⟨P,B,bc,rfl,O2,O3,NW,CL⟩:=HA.start (N:=12) (bx:=nx) sZ A0 A0 (λx hx=>by have:=hvs x hx;omega) A0;have h04:=(NW nx A0).trans h0;have sX:B6 bs B1 H4:=hg.AJ (NW B1 A0);have y5:∀i,i<nx->i≠B1->H4 i=H i:=λi hi AQ=>(NW i A0).trans (hl i hi AQ)
  (try simp-dsimp-implicitDefEqProofs(maxSteps:=800000) (disch:=omega)only[go_sem,Bool.and_true,ints,O2,O3,h04])
  apply hN;refine AH ?_;exact⟨_,λ_ _ h=>h,_,CL.fz (λ_ _=>rfl) A0,⟨vs,_,_,rfl,CL.sh⟩,sX.AJ (A1 _ _ A0),λi hi AQ=>(A1 _ _ A0).trans (y5 i hi AQ)⟩
 refine C2 ?_;refine AW.cond rfl ?_ ?_<;>intro h3<;>try simp only[cn]at h3
 ·refine sQ λN hN=>?_;(try simp-dsimp-implicitDefEqProofs(maxSteps:=800000) (disch:=omega)only[go_sem,AP,↓To])
  refine(DY (hg.AJ (by first|rfl|(simp(disch:=omega)only[A1]))) [1,4,6,8,9,12,5,7,27,25,36] 11 (A4 _ _ _) rfl A0 A0 _ A0 A0 A0).AS ?_;rintro m5 H5 r5 zU ⟨⟨x5,rfl,hx5⟩,Ko,KA⟩;have VT:1<=x5/\x5<=64:=by simp at hx5;omega
  replace hl:∀i,i<nx->i≠B1->H5 i=H i:=λi hi AQ=>(KA i A0 AQ).trans (by first|exact hl i hi AQ|(simp(disch:=omega)only[A1];exact hl i hi AQ))
  replace h0:H5 nx=some [.nl,.nl,.nl]:=(KA nx A0 A0).trans (by first|exact h0|(simp(disch:=omega)only[A1];exact h0));replace hg:=Ko;clear Ko;refine BR ?_
  refine(LU x5 VT.1 VT.2 _ _).AS ?_;rintro m6 H6 r6 hm6 ⟨⟨os,X,Y,e6,rfl,IF⟩,dT⟩;replace hg:B6 bs B1 H6:=hg.AJ ((dT B1 A0).trans (by first|rfl|(rw[BH A0];simp(disch:=omega)only[A1])));replace hl:∀i,i<nx->i≠B1->H6 i=H i:=λi hi AQ=>(dT i A0).trans (by first|exact hl i hi AQ|(rw[BH A0];simp(disch:=omega)only[A1];exact hl i hi AQ))
  replace h0:H6 nx=some [.nl,.nl,.nl]:=(dT nx A0).trans (by first|exact h0|(rw[BH A0];simp(disch:=omega)only[A1];exact h0));refine DO h0 ?_
  apply hN;refine sQ λN hN=>?_;simp-dsimp-implicitDefEqProofs(maxSteps:=800000) (disch:=omega)only[go_sem,AP,h0];apply hN;refine AH ?_;exact⟨_,λ_ _ h=>h,_,.refl _,⟨os,X,Y,rfl,by first|exact IF|exact IF.more A0⟩,hg.AJ (by simp(disch:=omega)only[A1]),λi hi AQ=>by simp(disch:=omega)only[A1];exact hl i hi AQ⟩
 refine C2 ?_;refine AW.cond rfl ?_ ?_<;>intro h4<;>try simp only[cn]at h4
 ·refine sQ λN hN=>?_;(try simp-dsimp-implicitDefEqProofs(maxSteps:=800000) (disch:=omega)only[go_sem,AP,↓A34])
  refine(DY (hg.AJ (by first|rfl|(simp(disch:=omega)only[A1]))) [3,4,5,6,7,8,9,12] 8 (A4 _ _ _) rfl A0 A0 _ A0 A0 A0).AS ?_;rintro m7 H7 r7 hm7 ⟨⟨x7,rfl,hx7⟩,jB,l5⟩;have S1:1<=x7/\x7<=64:=by simp at hx7;omega
  replace hl:∀i,i<nx->i≠B1->H7 i=H i:=λi hi AQ=>(l5 i A0 AQ).trans (by first|exact hl i hi AQ|(simp(disch:=omega)only[A1];exact hl i hi AQ))
  replace h0:H7 nx=some [.nl,.nl,.nl]:=(l5 nx A0 A0).trans (by first|exact h0|(simp(disch:=omega)only[A1];exact h0));replace hg:=jB;clear jB;refine BR ?_
  apply hN;refine sQ λN hN=>?_;refine BR ?_;refine(DD 2 x7 (x7-1) 0 A0 A0 A0 A0 _ _).AS ?_
  rintro m8 H8 r8 hm8 ⟨⟨os,X,Y,rfl,IF⟩,Wb⟩;replace hg:B6 bs B1 H8:=hg.AJ ((Wb B1 A0).trans (by first|rfl|(rw[BH A0];simp(disch:=omega)only[A1])));replace hl:∀i,i<nx->i≠B1->H8 i=H i:=λi hi AQ=>(Wb i A0).trans (by first|exact hl i hi AQ|(rw[BH A0];simp(disch:=omega)only[A1];exact hl i hi AQ))
  replace h0:H8 nx=some [.nl,.nl,.nl]:=(Wb nx A0).trans (by first|exact h0|(rw[BH A0];simp(disch:=omega)only[A1];exact h0));refine DO h0 ?_
  apply hN;refine AH ?_;exact⟨_,λ_ _ h=>h,_,.refl _,⟨os,X,Y,rfl,by first|exact IF|exact IF.more A0⟩,hg.AJ (by simp(disch:=omega)only[A1]),λi hi AQ=>by simp(disch:=omega)only[A1];exact hl i hi AQ⟩
 refine C2 ?_;refine AW.cond rfl ?_ ?_<;>intro h5<;>try simp only[cn]at h5
 ·refine sQ λN hN=>?_;refine BR ?_;refine(DY (hg.AJ (by first|rfl|(simp(disch:=omega)only[A1]))) [4,6,8,12] 4 (A4 _ _ _) rfl A0 A0 _ A0 A0 A0).AS ?_
  rintro m9 H9 r9 gW ⟨⟨x9,rfl,Mg⟩,gP,SZ⟩;have hb9:1<=x9/\x9<=64:=by simp at Mg;omega
  have hd9:0<=x9.tdiv 2/\x9.tdiv 2<=64:=by rw[Int.tdiv_eq_ediv_of_nonneg A0];omega
  replace hl:∀i,i<nx->i≠B1->H9 i=H i:=λi hi AQ=>(SZ i A0 AQ).trans (by first|exact hl i hi AQ|(simp(disch:=omega)only[A1];exact hl i hi AQ))
  replace h0:H9 nx=some [.nl,.nl,.nl]:=(SZ nx A0 A0).trans (by first|exact h0|(simp(disch:=omega)only[A1];exact h0));replace hg:=gP;clear gP;refine BR ?_
  apply hN;refine sQ λN hN=>?_;refine BR ?_;refine(DD 2 x9 (x9-1) (x9.tdiv 2) A0 A0 A0 hd9 _ _).AS ?_
  rintro m10 H10 r10 A7D ⟨⟨os,X,Y,rfl,IF⟩,A37⟩;replace hg:B6 bs B1 H10:=hg.AJ ((A37 B1 A0).trans (by first|rfl|(rw[BH A0];simp(disch:=omega)only[A1])));replace hl:∀i,i<nx->i≠B1->H10 i=H i:=λi hi AQ=>(A37 i A0).trans (by first|exact hl i hi AQ|(rw[BH A0];simp(disch:=omega)only[A1];exact hl i hi AQ))
  replace h0:H10 nx=some [.nl,.nl,.nl]:=(A37 nx A0).trans (by first|exact h0|(rw[BH A0];simp(disch:=omega)only[A1];exact h0));refine DO h0 ?_
  apply hN;refine AH ?_;exact⟨_,λ_ _ h=>h,_,.refl _,⟨os,X,Y,rfl,by first|exact IF|exact IF.more A0⟩,hg.AJ (by simp(disch:=omega)only[A1]),λi hi AQ=>by simp(disch:=omega)only[A1];exact hl i hi AQ⟩
 refine C2 ?_;refine AW.cond rfl ?_ ?_<;>intro h6<;>try simp only[cn]at h6
 ·refine AW.seq λN5 DL=>?_;refine sQ λN hN=>?_;refine BR ?_;refine(AU (hg.AJ (by first|rfl|(simp(disch:=omega)only[A1]))) 6 A0 _).AS ?_
  rintro m11 H11 r11 AEE ⟨⟨x11,rfl,AEF⟩,A8T,Tt⟩;replace hl:∀i,i<nx->i≠B1->H11 i=H i:=λi hi AQ=>(Tt i A0 AQ).trans (by first|exact hl i hi AQ|(simp(disch:=omega)only[A1];exact hl i hi AQ))
  replace h0:H11 nx=some [.nl,.nl,.nl]:=(Tt nx A0 A0).trans (by first|exact h0|(simp(disch:=omega)only[A1];exact h0));replace hg:=A8T;clear A8T;refine BR ?_
  apply hN;apply AW.block;refine C2 ?_;refine AW.cond rfl ?_ ?_<;>intro h7<;>try simp only[cn]at h7
  ·refine sQ λN hN=>?_;refine BR ?_;refine(DD 3 7 2 0 A0 A0 A0 A0 _ _).AS ?_
   rintro m12 H12 r12 AEG ⟨⟨os,X,Y,rfl,IF⟩,pU⟩;replace hg:B6 bs B1 H12:=hg.AJ ((pU B1 A0).trans (by first|rfl|(rw[BH A0];simp(disch:=omega)only[A1])));replace hl:∀i,i<nx->i≠B1->H12 i=H i:=λi hi AQ=>(pU i A0).trans (by first|exact hl i hi AQ|(rw[BH A0];simp(disch:=omega)only[A1];exact hl i hi AQ))
   replace h0:H12 nx=some [.nl,.nl,.nl]:=(pU nx A0).trans (by first|exact h0|(rw[BH A0];simp(disch:=omega)only[A1];exact h0));refine DO h0 ?_
   apply hN;refine AH ?_;exact⟨_,λ_ _ h=>h,_,.refl _,⟨os,X,Y,rfl,by first|exact IF|exact IF.more A0⟩,hg.AJ (by simp(disch:=omega)only[A1]),λi hi AQ=>by simp(disch:=omega)only[A1];exact hl i hi AQ⟩
  refine C2 ?_;refine AW.cond rfl ?_ ?_<;>intro h8<;>try simp only[cn]at h8
  ·refine sQ λN hN=>?_;refine BR ?_;refine(DD 4 5 2 0 A0 A0 A0 A0 _ _).AS ?_
   rintro m13 H13 r13 AEH ⟨⟨os,X,Y,rfl,IF⟩,A38⟩;replace hg:B6 bs B1 H13:=hg.AJ ((A38 B1 A0).trans (by first|rfl|(rw[BH A0];simp(disch:=omega)only[A1])));replace hl:∀i,i<nx->i≠B1->H13 i=H i:=λi hi AQ=>(A38 i A0).trans (by first|exact hl i hi AQ|(rw[BH A0];simp(disch:=omega)only[A1];exact hl i hi AQ))
   replace h0:H13 nx=some [.nl,.nl,.nl]:=(A38 nx A0).trans (by first|exact h0|(rw[BH A0];simp(disch:=omega)only[A1];exact h0));refine DO h0 ?_
   apply hN;refine AH ?_;exact⟨_,λ_ _ h=>h,_,.refl _,⟨os,X,Y,rfl,by first|exact IF|exact IF.more A0⟩,hg.AJ (by simp(disch:=omega)only[A1]),λi hi AQ=>by simp(disch:=omega)only[A1];exact hl i hi AQ⟩
  refine C2 ?_;refine AW.cond rfl ?_ ?_<;>intro h9<;>try simp only[cn]at h9
  ·refine sQ λN hN=>?_;refine BR ?_;refine(DD 2 8 3 0 A0 A0 A0 A0 _ _).AS ?_
   rintro m14 H14 r14 AEI ⟨⟨os,X,Y,rfl,IF⟩,A39⟩;replace hg:B6 bs B1 H14:=hg.AJ ((A39 B1 A0).trans (by first|rfl|(rw[BH A0];simp(disch:=omega)only[A1])));replace hl:∀i,i<nx->i≠B1->H14 i=H i:=λi hi AQ=>(A39 i A0).trans (by first|exact hl i hi AQ|(rw[BH A0];simp(disch:=omega)only[A1];exact hl i hi AQ))
   replace h0:H14 nx=some [.nl,.nl,.nl]:=(A39 nx A0).trans (by first|exact h0|(rw[BH A0];simp(disch:=omega)only[A1];exact h0));refine DO h0 ?_
   apply hN;refine AH ?_;exact⟨_,λ_ _ h=>h,_,.refl _,⟨os,X,Y,rfl,by first|exact IF|exact IF.more A0⟩,hg.AJ (by simp(disch:=omega)only[A1]),λi hi AQ=>by simp(disch:=omega)only[A1];exact hl i hi AQ⟩
  refine C2 ?_;refine AW.cond rfl ?_ ?_<;>intro VZ<;>try simp only[cn]at VZ
  ·refine sQ λN hN=>?_;refine BR ?_;refine(DD 2 8 5 0 A0 A0 A0 A0 _ _).AS ?_
   rintro m15 H15 r15 AEJ ⟨⟨os,X,Y,rfl,IF⟩,A3A⟩;replace hg:B6 bs B1 H15:=hg.AJ ((A3A B1 A0).trans (by first|rfl|(rw[BH A0];simp(disch:=omega)only[A1])));replace hl:∀i,i<nx->i≠B1->H15 i=H i:=λi hi AQ=>(A3A i A0).trans (by first|exact hl i hi AQ|(rw[BH A0];simp(disch:=omega)only[A1];exact hl i hi AQ))
   replace h0:H15 nx=some [.nl,.nl,.nl]:=(A3A nx A0).trans (by first|exact h0|(rw[BH A0];simp(disch:=omega)only[A1];exact h0));refine DO h0 ?_
   apply hN;refine AH ?_;exact⟨_,λ_ _ h=>h,_,.refl _,⟨os,X,Y,rfl,by first|exact IF|exact IF.more A0⟩,hg.AJ (by simp(disch:=omega)only[A1]),λi hi AQ=>by simp(disch:=omega)only[A1];exact hl i hi AQ⟩
  refine C2 ?_;refine AW.cond rfl ?_ ?_<;>intro LL<;>try simp only[cn]at LL
  ·refine sQ λN hN=>?_;refine BR ?_;refine(DD 4 4 3 0 A0 A0 A0 A0 _ _).AS ?_
   rintro m16 H16 r16 AEK ⟨⟨os,X,Y,rfl,IF⟩,A3B⟩;replace hg:B6 bs B1 H16:=hg.AJ ((A3B B1 A0).trans (by first|rfl|(rw[BH A0];simp(disch:=omega)only[A1])));replace hl:∀i,i<nx->i≠B1->H16 i=H i:=λi hi AQ=>(A3B i A0).trans (by first|exact hl i hi AQ|(rw[BH A0];simp(disch:=omega)only[A1];exact hl i hi AQ))
   replace h0:H16 nx=some [.nl,.nl,.nl]:=(A3B nx A0).trans (by first|exact h0|(rw[BH A0];simp(disch:=omega)only[A1];exact h0));refine DO h0 ?_
   apply hN;refine AH ?_;exact⟨_,λ_ _ h=>h,_,.refl _,⟨os,X,Y,rfl,by first|exact IF|exact IF.more A0⟩,hg.AJ (by simp(disch:=omega)only[A1]),λi hi AQ=>by simp(disch:=omega)only[A1];exact hl i hi AQ⟩
  apply AW.skip;apply DL;refine sQ λN hN=>?_;refine BR ?_;refine(DD 3 9 4 0 A0 A0 A0 A0 _ _).AS ?_
  rintro m17 H17 r17 AEL ⟨⟨os,X,Y,rfl,IF⟩,A3C⟩;replace hg:B6 bs B1 H17:=hg.AJ ((A3C B1 A0).trans (by first|rfl|(rw[BH A0];simp(disch:=omega)only[A1])));replace hl:∀i,i<nx->i≠B1->H17 i=H i:=λi hi AQ=>(A3C i A0).trans (by first|exact hl i hi AQ|(rw[BH A0];simp(disch:=omega)only[A1];exact hl i hi AQ))
  replace h0:H17 nx=some [.nl,.nl,.nl]:=(A3C nx A0).trans (by first|exact h0|(rw[BH A0];simp(disch:=omega)only[A1];exact h0));refine DO h0 ?_
  apply hN;refine AH ?_;exact⟨_,λ_ _ h=>h,_,.refl _,⟨os,X,Y,rfl,by first|exact IF|exact IF.more A0⟩,hg.AJ (by simp(disch:=omega)only[A1]),λi hi AQ=>by simp(disch:=omega)only[A1];exact hl i hi AQ⟩
 refine C2 ?_;refine AW.cond rfl ?_ ?_<;>intro mD<;>try simp only[cn]at mD
 ·refine sQ λN hN=>?_;(try simp-dsimp-implicitDefEqProofs(maxSteps:=800000) (disch:=omega)only[go_sem,AP,↓Kl])
  refine(DY (hg.AJ (by first|rfl|(simp(disch:=omega)only[A1]))) [2,3,2,3,5] 5 (A4 _ _ _) rfl A0 A0 _ A0 A0 A0).AS ?_;rintro m18 H18 r18 AEM ⟨⟨x18,rfl,ACV⟩,A8U,A8V⟩;have ACW:2<=x18/\x18<=7:=by simp at ACV;omega
  replace hl:∀i,i<nx->i≠B1->H18 i=H i:=λi hi AQ=>(A8V i A0 AQ).trans (by first|exact hl i hi AQ|(simp(disch:=omega)only[A1];exact hl i hi AQ))
  replace h0:H18 nx=some [.nl,.nl,.nl]:=(A8V nx A0 A0).trans (by first|exact h0|(simp(disch:=omega)only[A1];exact h0));replace hg:=A8U;clear A8U;refine BR ?_
  refine(QP hg x18 ACW _ A0).AS ?_;rintro m19 H19 r19 AEN ⟨⟨os,X,Y,rfl,IF⟩,A8W,A8X⟩;replace hl:∀i,i<nx->i≠B1->H19 i=H i:=λi hi AQ=>(A8X i A0 AQ).trans (by first|exact hl i hi AQ|(simp(disch:=omega)only[A1];exact hl i hi AQ))
  replace h0:H19 nx=some [.nl,.nl,.nl]:=(A8X nx A0 A0).trans (by first|exact h0|(simp(disch:=omega)only[A1];exact h0));replace hg:=A8W;clear A8W;refine DO h0 ?_
  apply hN;refine AH ?_;exact⟨_,λ_ _ h=>h,_,.refl _,⟨os,X,Y,rfl,by first|exact IF|exact IF.more A0⟩,hg.AJ (by simp(disch:=omega)only[A1]),λi hi AQ=>by simp(disch:=omega)only[A1];exact hl i hi AQ⟩
 refine C2 ?_;refine AW.cond rfl ?_ ?_<;>intro pZ<;>try simp only[cn]at pZ
 ·refine AW.seq λN6 FR=>?_;refine sQ λN hN=>?_;refine BR ?_;refine(AU (hg.AJ (by first|rfl|(simp(disch:=omega)only[A1]))) 6 A0 _).AS ?_
  rintro m20 H20 r20 AEO ⟨⟨x20,rfl,AEP⟩,A8Y,A8Z⟩;replace hl:∀i,i<nx->i≠B1->H20 i=H i:=λi hi AQ=>(A8Z i A0 AQ).trans (by first|exact hl i hi AQ|(simp(disch:=omega)only[A1];exact hl i hi AQ))
  replace h0:H20 nx=some [.nl,.nl,.nl]:=(A8Z nx A0 A0).trans (by first|exact h0|(simp(disch:=omega)only[A1];exact h0));replace hg:=A8Y;clear A8Y;refine BR ?_
  apply hN;apply AW.block;refine C2 ?_;refine AW.cond rfl ?_ ?_<;>intro h14<;>try simp only[cn]at h14
  ·refine sQ λN hN=>?_;refine BR ?_;refine AC.fz (ts:=[.i .i64 3,rows [[2,0],[0,2]],.i .i64 2]) PY.JI ⟨.refl _,RD (b:=m20+2) (W:=[[2,0],[0,2]]) (A4 _ _ _) A0 rfl (λk hk=>by
    match k,hk with
    |0,hk=>exact⟨_,rfl,A0,by simp(disch:=omega)only[A1,A4];rfl⟩
    |1,hk=>exact⟨_,rfl,A0,by simp(disch:=omega)only[A1,A4];rfl⟩),.refl _,trivial⟩ ?_
   refine(DU 3 2 [[2,0],[0,2]] 2 A0 A0 A8M A0 _ _).AS ?_;rintro m21 H21 r21 AEQ ⟨⟨os,X,Y,rfl,IF⟩,A3D⟩;replace hg:B6 bs B1 H21:=hg.AJ ((A3D B1 A0).trans (by first|rfl|(rw[BH A0];simp(disch:=omega)only[A1])));replace hl:∀i,i<nx->i≠B1->H21 i=H i:=λi hi AQ=>(A3D i A0).trans (by first|exact hl i hi AQ|(rw[BH A0];simp(disch:=omega)only[A1];exact hl i hi AQ))
   replace h0:H21 nx=some [.nl,.nl,.nl]:=(A3D nx A0).trans (by first|exact h0|(rw[BH A0];simp(disch:=omega)only[A1];exact h0));refine DO h0 ?_
   apply hN;refine AH ?_;exact⟨_,λ_ _ h=>h,_,.refl _,⟨os,X,Y,rfl,by first|exact IF|exact IF.more A0⟩,hg.AJ (by simp(disch:=omega)only[A1]),λi hi AQ=>by simp(disch:=omega)only[A1];exact hl i hi AQ⟩
  refine C2 ?_;refine AW.cond rfl ?_ ?_<;>intro Wz<;>try simp only[cn]at Wz
  ·refine sQ λN hN=>?_;refine BR ?_;refine AC.fz (ts:=[.i .i64 3,rows [[0,1],[2,0]],.i .i64 4]) PY.JI ⟨.refl _,RD (b:=m20+2+2) (W:=[[0,1],[2,0]]) (A4 _ _ _) A0 rfl (λk hk=>by
    match k,hk with
    |0,hk=>exact⟨_,rfl,A0,by simp(disch:=omega)only[A1,A4];rfl⟩
    |1,hk=>exact⟨_,rfl,A0,by simp(disch:=omega)only[A1,A4];rfl⟩),.refl _,trivial⟩ ?_
   refine(DU 3 4 [[0,1],[2,0]] 2 A0 A0 A8N A0 _ _).AS ?_;rintro m22 H22 r22 AER ⟨⟨os,X,Y,rfl,IF⟩,A3E⟩;replace hg:B6 bs B1 H22:=hg.AJ ((A3E B1 A0).trans (by first|rfl|(rw[BH A0];simp(disch:=omega)only[A1])));replace hl:∀i,i<nx->i≠B1->H22 i=H i:=λi hi AQ=>(A3E i A0).trans (by first|exact hl i hi AQ|(rw[BH A0];simp(disch:=omega)only[A1];exact hl i hi AQ))
   replace h0:H22 nx=some [.nl,.nl,.nl]:=(A3E nx A0).trans (by first|exact h0|(rw[BH A0];simp(disch:=omega)only[A1];exact h0));refine DO h0 ?_
   apply hN;refine AH ?_;exact⟨_,λ_ _ h=>h,_,.refl _,⟨os,X,Y,rfl,by first|exact IF|exact IF.more A0⟩,hg.AJ (by simp(disch:=omega)only[A1]),λi hi AQ=>by simp(disch:=omega)only[A1];exact hl i hi AQ⟩
  refine C2 ?_;refine AW.cond rfl ?_ ?_<;>intro Xa<;>try simp only[cn]at Xa
  ·refine sQ λN hN=>?_;refine BR ?_;refine AC.fz (ts:=[.i .i64 2,rows [[0,1,0],[0,0,1],[1,1,0]],.i .i64 7]) PY.JI ⟨.refl _,RD (b:=m20+2+2+2) (W:=[[0,1,0],[0,0,1],[1,1,0]]) (A4 _ _ _) A0 rfl (λk hk=>by
    match k,hk with
    |0,hk=>exact⟨_,rfl,A0,by simp(disch:=omega)only[A1,A4];rfl⟩
    |1,hk=>exact⟨_,rfl,A0,by simp(disch:=omega)only[A1,A4];rfl⟩
    |2,hk=>exact⟨_,rfl,A0,by simp(disch:=omega)only[A1,A4];rfl⟩),.refl _,trivial⟩ ?_
   refine(DU 2 7 [[0,1,0],[0,0,1],[1,1,0]] 3 A0 A0 A8O A0 _ _).AS ?_;rintro m23 H23 r23 AES ⟨⟨os,X,Y,rfl,IF⟩,A3F⟩;replace hg:B6 bs B1 H23:=hg.AJ ((A3F B1 A0).trans (by first|rfl|(rw[BH A0];simp(disch:=omega)only[A1])));replace hl:∀i,i<nx->i≠B1->H23 i=H i:=λi hi AQ=>(A3F i A0).trans (by first|exact hl i hi AQ|(rw[BH A0];simp(disch:=omega)only[A1];exact hl i hi AQ))
   replace h0:H23 nx=some [.nl,.nl,.nl]:=(A3F nx A0).trans (by first|exact h0|(rw[BH A0];simp(disch:=omega)only[A1];exact h0));refine DO h0 ?_
   apply hN;refine AH ?_;exact⟨_,λ_ _ h=>h,_,.refl _,⟨os,X,Y,rfl,by first|exact IF|exact IF.more A0⟩,hg.AJ (by simp(disch:=omega)only[A1]),λi hi AQ=>by simp(disch:=omega)only[A1];exact hl i hi AQ⟩
  refine C2 ?_;refine AW.cond rfl ?_ ?_<;>intro h17<;>try simp only[cn]at h17
  ·refine sQ λN hN=>?_;refine BR ?_;refine AC.fz (ts:=[.i .i64 2,rows [[1,1,0],[0,1,1],[0,0,1]],.i .i64 4]) PY.JI ⟨.refl _,RD (b:=m20+2+2+2+2) (W:=[[1,1,0],[0,1,1],[0,0,1]]) (A4 _ _ _) A0 rfl (λk hk=>by
    match k,hk with
    |0,hk=>exact⟨_,rfl,A0,by simp(disch:=omega)only[A1,A4];rfl⟩
    |1,hk=>exact⟨_,rfl,A0,by simp(disch:=omega)only[A1,A4];rfl⟩
    |2,hk=>exact⟨_,rfl,A0,by simp(disch:=omega)only[A1,A4];rfl⟩),.refl _,trivial⟩ ?_
   refine(DU 2 4 [[1,1,0],[0,1,1],[0,0,1]] 3 A0 A0 A8P A0 _ _).AS ?_;rintro m24 H24 r24 AET ⟨⟨os,X,Y,rfl,IF⟩,A3G⟩;replace hg:B6 bs B1 H24:=hg.AJ ((A3G B1 A0).trans (by first|rfl|(rw[BH A0];simp(disch:=omega)only[A1])));replace hl:∀i,i<nx->i≠B1->H24 i=H i:=λi hi AQ=>(A3G i A0).trans (by first|exact hl i hi AQ|(rw[BH A0];simp(disch:=omega)only[A1];exact hl i hi AQ))
   replace h0:H24 nx=some [.nl,.nl,.nl]:=(A3G nx A0).trans (by first|exact h0|(rw[BH A0];simp(disch:=omega)only[A1];exact h0));refine DO h0 ?_
   apply hN;refine AH ?_;exact⟨_,λ_ _ h=>h,_,.refl _,⟨os,X,Y,rfl,by first|exact IF|exact IF.more A0⟩,hg.AJ (by simp(disch:=omega)only[A1]),λi hi AQ=>by simp(disch:=omega)only[A1];exact hl i hi AQ⟩
  refine C2 ?_;refine AW.cond rfl ?_ ?_<;>intro h18<;>try simp only[cn]at h18
  ·refine sQ λN hN=>?_;refine BR ?_;refine AC.fz (ts:=[.i .i64 2,rows [[0,1,0,0],[1,0,0,0],[0,0,0,1],[0,0,1,0]],.i .i64 2]) PY.JI ⟨.refl _,RD (b:=m20+2+2+2+2+2) (W:=[[0,1,0,0],[1,0,0,0],[0,0,0,1],[0,0,1,0]]) (A4 _ _ _) A0 rfl (λk hk=>by
    match k,hk with
    |0,hk=>exact⟨_,rfl,A0,by simp(disch:=omega)only[A1,A4];rfl⟩
    |1,hk=>exact⟨_,rfl,A0,by simp(disch:=omega)only[A1,A4];rfl⟩
    |2,hk=>exact⟨_,rfl,A0,by simp(disch:=omega)only[A1,A4];rfl⟩
    |3,hk=>exact⟨_,rfl,A0,by simp(disch:=omega)only[A1,A4];rfl⟩),.refl _,trivial⟩ ?_
   refine(DU 2 2 [[0,1,0,0],[1,0,0,0],[0,0,0,1],[0,0,1,0]] 4 A0 A0 A8Q A0 _ _).AS ?_;rintro m25 H25 r25 AEU ⟨⟨os,X,Y,rfl,IF⟩,A3H⟩;replace hg:B6 bs B1 H25:=hg.AJ ((A3H B1 A0).trans (by first|rfl|(rw[BH A0];simp(disch:=omega)only[A1])));replace hl:∀i,i<nx->i≠B1->H25 i=H i:=λi hi AQ=>(A3H i A0).trans (by first|exact hl i hi AQ|(rw[BH A0];simp(disch:=omega)only[A1];exact hl i hi AQ))
   replace h0:H25 nx=some [.nl,.nl,.nl]:=(A3H nx A0).trans (by first|exact h0|(rw[BH A0];simp(disch:=omega)only[A1];exact h0));refine DO h0 ?_
   apply hN;refine AH ?_;exact⟨_,λ_ _ h=>h,_,.refl _,⟨os,X,Y,rfl,by first|exact IF|exact IF.more A0⟩,hg.AJ (by simp(disch:=omega)only[A1]),λi hi AQ=>by simp(disch:=omega)only[A1];exact hl i hi AQ⟩
  apply AW.skip;apply FR;refine sQ λN hN=>?_;refine BR ?_;refine AC.fz (ts:=[.i .i64 5,rows [[0,1],[4,4]],.i .i64 3]) PY.JI ⟨.refl _,RD (b:=m20+2+2+2+2+2) (W:=[[0,1],[4,4]]) (A4 _ _ _) A0 rfl (λk hk=>by
   match k,hk with
   |0,hk=>exact⟨_,rfl,A0,by simp(disch:=omega)only[A1,A4];rfl⟩
   |1,hk=>exact⟨_,rfl,A0,by simp(disch:=omega)only[A1,A4];rfl⟩),.refl _,trivial⟩ ?_
  refine(DU 5 3 [[0,1],[4,4]] 2 A0 A0 A8R A0 _ _).AS ?_;rintro m26 H26 r26 AEV ⟨⟨os,X,Y,rfl,IF⟩,A3I⟩;replace hg:B6 bs B1 H26:=hg.AJ ((A3I B1 A0).trans (by first|rfl|(rw[BH A0];simp(disch:=omega)only[A1])));replace hl:∀i,i<nx->i≠B1->H26 i=H i:=λi hi AQ=>(A3I i A0).trans (by first|exact hl i hi AQ|(rw[BH A0];simp(disch:=omega)only[A1];exact hl i hi AQ))
  replace h0:H26 nx=some [.nl,.nl,.nl]:=(A3I nx A0).trans (by first|exact h0|(rw[BH A0];simp(disch:=omega)only[A1];exact h0));refine DO h0 ?_
  apply hN;refine AH ?_;exact⟨_,λ_ _ h=>h,_,.refl _,⟨os,X,Y,rfl,by first|exact IF|exact IF.more A0⟩,hg.AJ (by simp(disch:=omega)only[A1]),λi hi AQ=>by simp(disch:=omega)only[A1];exact hl i hi AQ⟩
 apply AW.skip;apply B2;refine sQ λN hN=>?_;refine BR ?_;refine(AU (hg.AJ (by first|rfl|(simp(disch:=omega)only[A1]))) 10 A0 _).AS ?_
 rintro m27 H27 r27 AEW ⟨⟨x27,rfl,AEX⟩,A90,A91⟩
 obtain⟨k27,rfl⟩:∃k:Nat,x27=k:=⟨x27.toNat,A0⟩
 replace hl:∀i,i<nx->i≠B1->H27 i=H i:=λi hi AQ=>(A91 i A0 AQ).trans (by first|exact hl i hi AQ|(simp(disch:=omega)only[A1];exact hl i hi AQ))
 replace h0:H27 nx=some [.nl,.nl,.nl]:=(A91 nx A0 A0).trans (by first|exact h0|(simp(disch:=omega)only[A1];exact h0))
 replace hg:=A90
 clear A90
 refine BR ?_
 refine(ZO k27 A0 _ _).AS ?_
 rintro m28 H28 r28 AEY ⟨⟨os,X,Y,rfl,IF⟩,A3J⟩
 replace hg:B6 bs B1 H28:=hg.AJ ((A3J B1 A0).trans (by first|rfl|(rw[BH A0];simp(disch:=omega)only[A1])))
 replace hl:∀i,i<nx->i≠B1->H28 i=H i:=λi hi AQ=>(A3J i A0).trans (by first|exact hl i hi AQ|(rw[BH A0];simp(disch:=omega)only[A1];exact hl i hi AQ))
 replace h0:H28 nx=some [.nl,.nl,.nl]:=(A3J nx A0).trans (by first|exact h0|(rw[BH A0];simp(disch:=omega)only[A1];exact h0))
 refine DO h0 ?_
 apply hN;refine AH ?_;exact⟨_,λ_ _ h=>h,_,.refl _,⟨os,X,Y,rfl,by first|exact IF|exact IF.more A0⟩,hg.AJ (by simp(disch:=omega)only[A1]),λi hi AQ=>by simp(disch:=omega)only[A1];exact hl i hi AQ⟩
theorem NX{bs:List Int}{B1:Nat}{H:HP}(hg:B6 bs B1 H)(nx:Nat)(MB:B1<nx):AC Tryz.prog 172 nx H [.q B1 0] (sK bs B1 nx H (ZH 12)):=YJ MB (XV hg nx MB)
end Go.Proofs.YtgknbnkmilddhaaGreat
