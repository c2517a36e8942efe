import Derived.Test.YtgknbnkmilddhaaGreatZ22
import Derived.Test.YtgknbnkmilddhaaGreatZ23
set_option linter.all false

open Go.Proofs.Tryz
namespace Go.Proofs.YtgknbnkmilddhaaGreat
section
def cR{E b id n cs W}(h:E id=some cs)(GF:b<=id)(hl:cs.length=W.length)(hc:∀k,k<W.length->∃q,cs.getD k .j= .h q 0 (W.getD k []).length/\b<=q/\E q=some ((W.getD k []).map (.i .i64)))(hn:n=W.length:=by rfl):Fz E (TN b E) (.h id 0 n) (rows W):=by
 subst hn;unfold rows;refine .h id 0 _ cs _ h (bN GF) A0 B5 λk x y hx hy=>?_
 rw[BS]at hx;have hk:k<W.length:=by have:=(AL.1 hy).1;simpa using this
 obtain⟨q,e,g1,g2⟩:=hc k hk;have Di:x= .h q 0 (W.getD k []).length:=by rw[<-e,A5,hx];rfl
 have Xr:y=ints (W.getD k []):=by
  rw[BF,A9 hk]at hy;rw[A5,A9 hk];exact(F5 hy).symm
 subst Di Xr;unfold ints;exact .h q 0 _ _ _ g2 (bN g1) B5 B5 λk x y g1 g2=>by rw[BS,g2]at g1;cases g1;exact .refl _
def LC.vwI{H a b L xs}(h:LC H a b L (xs.map (.i .i64))):Vw H L (Go.Proofs.YtgknbnkmilddhaaGreat.ints xs):=by
 rcases h with ⟨rfl,e⟩|⟨id,rfl,h0,_,_⟩
 ·obtain rfl:xs=[]:=GY.1 e;exact .nl
 have:=Vw.fr (n:=(xs.map (AV.i .i64)).length) h0 rfl;unfold Go.Proofs.YtgknbnkmilddhaaGreat.ints;rw[A4]at this ⊢;exact this
def nP{n W}(h:W.length=n)(hw:∀w∈W,w.length=n/\∀x∈w,0<=x/\x<=10):Dt n W:=
 ⟨h,λw hm=>⟨(hw w hm).1,λk=>QC (p:=λx:Int=>0<=x/\x<=10) (hw w hm).2 A0 k⟩⟩
def ALN:Dt 2 [[2,0],[0,2]]:=nP HT HT
def ALO:Dt 2 [[0,1],[2,0]]:=nP HT HT
def ALP:Dt 3 [[0,1,0],[0,0,1],[1,1,0]]:=nP HT HT
def ALQ:Dt 3 [[1,1,0],[0,1,1],[0,0,1]]:=nP HT HT
def ALR:Dt 4 [[0,1,0,0],[1,0,0,0],[0,0,0,1],[0,0,1,0]]:=nP HT HT
def ALS:Dt 2 [[0,1],[4,4]]:=nP HT HT
set_option maxRecDepth 20000 in
set_option maxHeartbeats 8000000 in
def nR{bs DP H}(hg:E9 bs DP H)(nx)(WE:DP<nx):AC prog 172 nx H [.q DP 0] (λDI H' r=>∃r2,Fz H' (TN nx H') r r2/\pY 12 r2/\E9 bs DP H'/\∀i,i<nx->i≠DP->H' i=H i):=by
 refine CF AY func172 rfl AP ntmps172 results172 (λGM cX=>?_)
 refine GC ?_;refine A6 λN1 CW=>BX (λG0 JM=>?_);dsimp only at JM
 have hl:∀i,i<nx->i≠DP->G0 i=H i:=λi hi _=>by rw[<-JM,AB _ _ A0]
 have h0:G0 nx=some [.nl,.nl,.nl]:=by rw[<-JM,AD]
 replace hg:E9 bs DP G0:=hg.BV (by rw[<-JM,AB _ _ A0])
 clear JM
 refine BH ?_;refine sQ λN hN=>?_;refine FF ?_;refine(DC (hg.BV (by first|rfl|(simp(disch:=omega)only[AB]))) 9 A0 _).CD ?_
 rintro m1 H1 r1 SF ⟨⟨x1,rfl,Di⟩,jC,eG⟩
 replace hl:∀i,i<nx->i≠DP->H1 i=H i:=λi hi CP=>(eG i A0 CP).trans (by first|exact hl i hi CP|(simp(disch:=omega)only[AB];exact hl i hi CP))
 replace h0:H1 nx=some [.nl,.nl,.nl]:=(eG nx A0 A0).trans (by first|exact h0|(simp(disch:=omega)only[AB];exact h0))
 replace hg:=jC
 clear jC
 refine FF ?_
 apply hN;refine AA<|GC ?_;refine AK ?_ ?_<;>intro h1
 ·refine GC ?_;refine A6 λN2 DN=>sQ λN hN=>?_;refine FF ?_;refine(DC (hg.BV (by first|rfl|(simp(disch:=omega)only[AB]))) 5 A0 _).CD ?_
  rintro m2 H2 r2 Q8 ⟨⟨x2,rfl,Iu⟩,ZN,NC⟩;replace hl:∀i,i<nx->i≠DP->H2 i=H i:=λi hi CP=>(NC i A0 CP).trans (by first|exact hl i hi CP|(simp(disch:=omega)only[AB];exact hl i hi CP))
  replace h0:H2 nx=some [.nl,.nl,.nl]:=(NC nx A0 A0).trans (by first|exact h0|(simp(disch:=omega)only[AB];exact h0));replace hg:=ZN;clear ZN;refine FF ?_
  apply hN;apply AA;obtain⟨n2,rfl⟩:∃n:Nat,x2=n:=⟨x2.toNat,A0⟩;refine AM (α:=Nat×HP×AV×C2) (λx=>sl 130 [(0,.q DP 0),(2,.q nx 0),(3,x.2.2.1),(4,.i .i64 x.1),(10,.i .i64 x1)]) (λx=>x.2.1) (λx m=>(x.1+x.2.2.2.length<=4/\nx+1<=m)/\LC x.2.1 (nx+1) m x.2.2.1 (x.2.2.2.map (.i .i64))/\(∀z∈x.2.2.2,2<=z/\z<=3)/\E9 bs DP x.2.1/\(∀i,i<nx->i≠DP->x.2.1 i=H i)/\x.2.1 nx=some [.nl,.nl,.nl]) (λx=>x.1) ((n2,H2,.h (m1+2) 0 0,[])) ?_ ?_ (λ_ _ h=>h) ?_
  ·exact⟨⟨by simp;omega,AI⟩,LC.mk ((NC (m1+2) A0 A0).trans (AD _ _ _)) rfl A0 AI,B5,hg,hl,h0⟩
  ·exact I2
  rintro⟨n2,G,L,vs⟩ m ⟨⟨vJ,hm⟩,hL,hvs,hg,hl,h0⟩;refine BH ?_;dsimp only at vJ hm hL hvs hg hl h0 ⊢;have pK:=hL.one;have YC:=hL.len;refine A6 λN3 DO=>GC ?_;refine AK ?_ ?_<;>intro h2
  ·apply AF;apply DO;refine A6 λN4 FD=>AA<|OK ?_;refine(NB (hg.BV (by first|rfl|(simp(disch:=omega)only[AB]))) [2,2,3] 3 (AD _ _ _) rfl A0 A0 _ A0 A0 A0).CD ?_
   rintro m3 H3 r3 U5 ⟨⟨x3,rfl,hx3⟩,fA,pZ⟩;have gT:2<=x3/\x3<=3:=by simp at hx3;omega
   replace hl:∀i,i<nx->i≠DP->H3 i=H i:=λi hi CP=>(pZ i A0 CP).trans (by first|exact hl i hi CP|(simp(disch:=omega)only[AB];exact hl i hi CP))
   replace h0:H3 nx=some [.nl,.nl,.nl]:=(pZ nx A0 A0).trans (by first|exact h0|(simp(disch:=omega)only[AB];exact h0));have hL3:LC H3 (nx+1) m L (vs.map (.i .i64)):=hL.BV (λi Dg l5=>(pZ i A0 A0).trans (AB _ _ A0));have Xz:=hL.bd;try simp-dsimp-implicitDefEqProofs(disch:=(first|omega|((repeat refine LC.CJ A0 ?_);assumption))) only[go_sem,pK,YC,F2 (a:=nx+1) (b:=m) (L:=L) (cs:=vs.map (.i .i64))]
   apply FD;refine BX (λG3 J6=>?_);dsimp only at J6;have YD:∀i,i<nx->i≠DP->G3 i=H i:=λi hi CP=>by rw[<-J6,AB _ _ A0,DW A0,AB _ _ A0];exact hl i hi CP
   have lC:G3 nx=some [.nl,.nl,.nl]:=by rw[<-J6,AB _ _ A0,DW A0,AB _ _ A0];exact h0
   have Tz:E9 bs DP G3:=fA.BV (by rw[<-J6,AB _ _ A0,DW A0,AB _ _ A0]);refine OK ?_;refine BB (n2-1,G3,.h (m+2+5) 0 (vs.length+1),vs++[x3]) ?_ ?_ ?_
   ·exact E2
   ·have fN:LC G3 (nx+1) (m3+3) (.h (m+2+5) 0 (vs.length+1)) ((vs++[x3]).map (.i .i64)):=LC.mk (by rw[<-J6,AD];simp) B5 A0 A0;have ALT:∀z∈vs++[x3],2<=z/\z<=3:=kE hvs gT;first|exact⟨⟨by simp;omega,AI⟩,fN,ALT,Tz,YD,lC⟩|exact⟨by simp;omega,fN,ALT,Tz,YD,lC⟩
   exact AI
  apply AO;apply DN;refine sQ λN hN=>?_;refine FF ?_;refine(HG vs A0 _ (.cons hL.vwI .nil)).CD ?_
  intro m4 H4 r4 Xy Mo;obtain⟨P,B,bc,rfl,YE,UE,XW,I4⟩:=QL.start (N:=12) (bx:=nx) Mo A0 A0 (λx hx=>by have:=hvs x hx;omega) A0;have h04:=(XW nx A0).trans h0;have Tz:E9 bs DP H4:=hg.BV (XW DP A0);have Ty:∀i,i<nx->i≠DP->H4 i=H i:=λi hi CP=>(XW i A0).trans (hl i hi CP)
  (try simp-dsimp-implicitDefEqProofs(disch:=omega)only[go_sem,EZ,ints,YE,UE,h04])
  apply hN;refine BQ ?_;exact⟨_,λ_ _ h=>h,_,I4.fz (λ_ _=>rfl) A0,⟨vs,_,_,rfl,I4.sh⟩,Tz.BV (AB _ _ A0),λi hi CP=>(AB _ _ A0).trans (Ty i hi CP)⟩
 refine GC ?_;refine AK ?_ ?_<;>intro h3
 ·refine sQ λN hN=>?_;(try simp-dsimp-implicitDefEqProofs(disch:=omega)only[go_sem,CI,↓A8J])
  refine(NB (hg.BV (by first|rfl|(simp(disch:=omega)only[AB]))) [1,4,6,8,9,12,5,7,27,25,36] 11 (AD _ _ _) rfl A0 A0 _ A0 A0 A0).CD ?_;rintro m5 H5 r5 hm5 ⟨⟨x5,rfl,hx5⟩,hg5,TC⟩;have gU:1<=x5/\x5<=64:=by simp at hx5;omega
  replace hl:∀i,i<nx->i≠DP->H5 i=H i:=λi hi CP=>(TC i A0 CP).trans (by first|exact hl i hi CP|(simp(disch:=omega)only[AB];exact hl i hi CP))
  replace h0:H5 nx=some [.nl,.nl,.nl]:=(TC nx A0 A0).trans (by first|exact h0|(simp(disch:=omega)only[AB];exact h0));replace hg:=hg5;clear hg5;refine FF ?_
  refine(VS x5 gU.1 gU.2 _ _).CD ?_;rintro m6 H6 r6 hm6 ⟨⟨U,X,Y,e6,rfl,SO⟩,Dp⟩;replace hg:E9 bs DP H6:=hg.BV ((Dp DP A0).trans (by first|rfl|(rw[EL A0];simp(disch:=omega)only[AB])));replace hl:∀i,i<nx->i≠DP->H6 i=H i:=λi hi CP=>(Dp i A0).trans (by first|exact hl i hi CP|(rw[EL A0];simp(disch:=omega)only[AB];exact hl i hi CP))
  replace h0:H6 nx=some [.nl,.nl,.nl]:=(Dp nx A0).trans (by first|exact h0|(rw[EL A0];simp(disch:=omega)only[AB];exact h0));refine MY h0 ?_
  apply hN;refine sQ λN hN=>?_;simp-dsimp-implicitDefEqProofs(disch:=omega)only[go_sem,CI,h0];apply hN;refine BQ ?_;exact⟨_,λ_ _ h=>h,_,.refl _,⟨U,X,Y,rfl,by first|exact SO|exact SO.more A0⟩,hg.BV D8,λi hi CP=>by simp(disch:=omega)only[AB];exact hl i hi CP⟩
 refine GC ?_;refine AK ?_ ?_<;>intro h4
 ·refine sQ λN hN=>?_;(try simp-dsimp-implicitDefEqProofs(disch:=omega)only[go_sem,CI,↓AFM])
  refine(NB (hg.BV (by first|rfl|(simp(disch:=omega)only[AB]))) [3,4,5,6,7,8,9,12] 8 (AD _ _ _) rfl A0 A0 _ A0 A0 A0).CD ?_;rintro m7 H7 r7 hm7 ⟨⟨x7,rfl,hx7⟩,Dy,Jd⟩;have fB:1<=x7/\x7<=64:=by simp at hx7;omega
  replace hl:∀i,i<nx->i≠DP->H7 i=H i:=λi hi CP=>(Jd i A0 CP).trans (by first|exact hl i hi CP|(simp(disch:=omega)only[AB];exact hl i hi CP))
  replace h0:H7 nx=some [.nl,.nl,.nl]:=(Jd nx A0 A0).trans (by first|exact h0|(simp(disch:=omega)only[AB];exact h0));replace hg:=Dy;clear Dy;refine FF ?_
  apply hN;refine sQ λN hN=>?_;refine FF ?_;refine(JN 2 x7 (x7-1) 0 A0 A0 A0 A0 _ _).CD ?_
  rintro m8 H8 r8 hm8 ⟨⟨U,X,Y,rfl,SO⟩,hk8⟩;replace hg:E9 bs DP H8:=hg.BV ((hk8 DP A0).trans (by first|rfl|(rw[EL A0];simp(disch:=omega)only[AB])));replace hl:∀i,i<nx->i≠DP->H8 i=H i:=λi hi CP=>(hk8 i A0).trans (by first|exact hl i hi CP|(rw[EL A0];simp(disch:=omega)only[AB];exact hl i hi CP))
  replace h0:H8 nx=some [.nl,.nl,.nl]:=(hk8 nx A0).trans (by first|exact h0|(rw[EL A0];simp(disch:=omega)only[AB];exact h0));refine MY h0 ?_
  apply hN;refine BQ ?_;exact⟨_,λ_ _ h=>h,_,.refl _,⟨U,X,Y,rfl,by first|exact SO|exact SO.more A0⟩,hg.BV D8,λi hi CP=>by simp(disch:=omega)only[AB];exact hl i hi CP⟩
 refine GC ?_;refine AK ?_ ?_<;>intro h5
 ·refine sQ λN hN=>?_;refine FF ?_;refine(NB (hg.BV (by first|rfl|(simp(disch:=omega)only[AB]))) [4,6,8,12] 4 (AD _ _ _) rfl A0 A0 _ A0 A0 A0).CD ?_
  rintro m9 H9 r9 oI ⟨⟨x9,rfl,hx9⟩,Jj,iE⟩;have hb9:1<=x9/\x9<=64:=by simp at hx9;omega
  have hd9:0<=x9.tdiv 2/\x9.tdiv 2<=64:=by rw[EC A0];omega
  replace hl:∀i,i<nx->i≠DP->H9 i=H i:=λi hi CP=>(iE i A0 CP).trans (by first|exact hl i hi CP|(simp(disch:=omega)only[AB];exact hl i hi CP))
  replace h0:H9 nx=some [.nl,.nl,.nl]:=(iE nx A0 A0).trans (by first|exact h0|(simp(disch:=omega)only[AB];exact h0));replace hg:=Jj;clear Jj;refine FF ?_
  apply hN;refine sQ λN hN=>?_;refine FF ?_;refine(JN 2 x9 (x9-1) (x9.tdiv 2) A0 A0 A0 hd9 _ _).CD ?_
  rintro m10 H10 r10 AEL ⟨⟨U,X,Y,rfl,SO⟩,AFP⟩;replace hg:E9 bs DP H10:=hg.BV ((AFP DP A0).trans (by first|rfl|(rw[EL A0];simp(disch:=omega)only[AB])));replace hl:∀i,i<nx->i≠DP->H10 i=H i:=λi hi CP=>(AFP i A0).trans (by first|exact hl i hi CP|(rw[EL A0];simp(disch:=omega)only[AB];exact hl i hi CP))
  replace h0:H10 nx=some [.nl,.nl,.nl]:=(AFP nx A0).trans (by first|exact h0|(rw[EL A0];simp(disch:=omega)only[AB];exact h0));refine MY h0 ?_
  apply hN;refine BQ ?_;exact⟨_,λ_ _ h=>h,_,.refl _,⟨U,X,Y,rfl,by first|exact SO|exact SO.more A0⟩,hg.BV D8,λi hi CP=>by simp(disch:=omega)only[AB];exact hl i hi CP⟩
 refine GC ?_;refine AK ?_ ?_<;>intro h6
 ·refine A6 λN5 ID=>sQ λN hN=>?_;refine FF ?_;refine(DC (hg.BV (by first|rfl|(simp(disch:=omega)only[AB]))) 6 A0 _).CD ?_
  rintro m11 H11 r11 ARQ ⟨⟨x11,rfl,ARR⟩,ALU,A8L⟩;replace hl:∀i,i<nx->i≠DP->H11 i=H i:=λi hi CP=>(A8L i A0 CP).trans (by first|exact hl i hi CP|(simp(disch:=omega)only[AB];exact hl i hi CP))
  replace h0:H11 nx=some [.nl,.nl,.nl]:=(A8L nx A0 A0).trans (by first|exact h0|(simp(disch:=omega)only[AB];exact h0));replace hg:=ALU;clear ALU;refine FF ?_
  apply hN;refine AA<|GC ?_;refine AK ?_ ?_<;>intro h7
  ·refine sQ λN hN=>?_;refine FF ?_;refine(JN 3 7 2 0 A0 A0 A0 A0 _ _).CD ?_
   rintro m12 H12 r12 ARS ⟨⟨U,X,Y,rfl,SO⟩,Hp⟩;replace hg:E9 bs DP H12:=hg.BV ((Hp DP A0).trans (by first|rfl|(rw[EL A0];simp(disch:=omega)only[AB])));replace hl:∀i,i<nx->i≠DP->H12 i=H i:=λi hi CP=>(Hp i A0).trans (by first|exact hl i hi CP|(rw[EL A0];simp(disch:=omega)only[AB];exact hl i hi CP))
   replace h0:H12 nx=some [.nl,.nl,.nl]:=(Hp nx A0).trans (by first|exact h0|(rw[EL A0];simp(disch:=omega)only[AB];exact h0));refine MY h0 ?_
   apply hN;refine BQ ?_;exact⟨_,λ_ _ h=>h,_,.refl _,⟨U,X,Y,rfl,by first|exact SO|exact SO.more A0⟩,hg.BV D8,λi hi CP=>by simp(disch:=omega)only[AB];exact hl i hi CP⟩
  refine GC ?_;refine AK ?_ ?_<;>intro h8
  ·refine sQ λN hN=>?_;refine FF ?_;refine(JN 4 5 2 0 A0 A0 A0 A0 _ _).CD ?_
   rintro m13 H13 r13 ART ⟨⟨U,X,Y,rfl,SO⟩,AFQ⟩;replace hg:E9 bs DP H13:=hg.BV ((AFQ DP A0).trans (by first|rfl|(rw[EL A0];simp(disch:=omega)only[AB])));replace hl:∀i,i<nx->i≠DP->H13 i=H i:=λi hi CP=>(AFQ i A0).trans (by first|exact hl i hi CP|(rw[EL A0];simp(disch:=omega)only[AB];exact hl i hi CP))
   replace h0:H13 nx=some [.nl,.nl,.nl]:=(AFQ nx A0).trans (by first|exact h0|(rw[EL A0];simp(disch:=omega)only[AB];exact h0));refine MY h0 ?_
   apply hN;refine BQ ?_;exact⟨_,λ_ _ h=>h,_,.refl _,⟨U,X,Y,rfl,by first|exact SO|exact SO.more A0⟩,hg.BV D8,λi hi CP=>by simp(disch:=omega)only[AB];exact hl i hi CP⟩
  refine GC ?_;refine AK ?_ ?_<;>intro h9
  ·refine sQ λN hN=>?_;refine FF ?_;refine(JN 2 8 3 0 A0 A0 A0 A0 _ _).CD ?_
   rintro m14 H14 r14 ARU ⟨⟨U,X,Y,rfl,SO⟩,AFR⟩;replace hg:E9 bs DP H14:=hg.BV ((AFR DP A0).trans (by first|rfl|(rw[EL A0];simp(disch:=omega)only[AB])));replace hl:∀i,i<nx->i≠DP->H14 i=H i:=λi hi CP=>(AFR i A0).trans (by first|exact hl i hi CP|(rw[EL A0];simp(disch:=omega)only[AB];exact hl i hi CP))
   replace h0:H14 nx=some [.nl,.nl,.nl]:=(AFR nx A0).trans (by first|exact h0|(rw[EL A0];simp(disch:=omega)only[AB];exact h0));refine MY h0 ?_
   apply hN;refine BQ ?_;exact⟨_,λ_ _ h=>h,_,.refl _,⟨U,X,Y,rfl,by first|exact SO|exact SO.more A0⟩,hg.BV D8,λi hi CP=>by simp(disch:=omega)only[AB];exact hl i hi CP⟩
  refine GC ?_;refine AK ?_ ?_<;>intro Df
  ·refine sQ λN hN=>?_;refine FF ?_;refine(JN 2 8 5 0 A0 A0 A0 A0 _ _).CD ?_
   rintro m15 H15 r15 ARV ⟨⟨U,X,Y,rfl,SO⟩,AFS⟩;replace hg:E9 bs DP H15:=hg.BV ((AFS DP A0).trans (by first|rfl|(rw[EL A0];simp(disch:=omega)only[AB])));replace hl:∀i,i<nx->i≠DP->H15 i=H i:=λi hi CP=>(AFS i A0).trans (by first|exact hl i hi CP|(rw[EL A0];simp(disch:=omega)only[AB];exact hl i hi CP))
   replace h0:H15 nx=some [.nl,.nl,.nl]:=(AFS nx A0).trans (by first|exact h0|(rw[EL A0];simp(disch:=omega)only[AB];exact h0));refine MY h0 ?_
   apply hN;refine BQ ?_;exact⟨_,λ_ _ h=>h,_,.refl _,⟨U,X,Y,rfl,by first|exact SO|exact SO.more A0⟩,hg.BV D8,λi hi CP=>by simp(disch:=omega)only[AB];exact hl i hi CP⟩
  refine GC ?_;refine AK ?_ ?_<;>intro iT
  ·refine sQ λN hN=>?_;refine FF ?_;refine(JN 4 4 3 0 A0 A0 A0 A0 _ _).CD ?_
   rintro m16 H16 r16 ARW ⟨⟨U,X,Y,rfl,SO⟩,AFT⟩;replace hg:E9 bs DP H16:=hg.BV ((AFT DP A0).trans (by first|rfl|(rw[EL A0];simp(disch:=omega)only[AB])));replace hl:∀i,i<nx->i≠DP->H16 i=H i:=λi hi CP=>(AFT i A0).trans (by first|exact hl i hi CP|(rw[EL A0];simp(disch:=omega)only[AB];exact hl i hi CP))
   replace h0:H16 nx=some [.nl,.nl,.nl]:=(AFT nx A0).trans (by first|exact h0|(rw[EL A0];simp(disch:=omega)only[AB];exact h0));refine MY h0 ?_
   apply hN;refine BQ ?_;exact⟨_,λ_ _ h=>h,_,.refl _,⟨U,X,Y,rfl,by first|exact SO|exact SO.more A0⟩,hg.BV D8,λi hi CP=>by simp(disch:=omega)only[AB];exact hl i hi CP⟩
  apply AF;apply ID;refine sQ λN hN=>?_;refine FF ?_;refine(JN 3 9 4 0 A0 A0 A0 A0 _ _).CD ?_
  rintro m17 H17 r17 ARX ⟨⟨U,X,Y,rfl,SO⟩,AFU⟩;replace hg:E9 bs DP H17:=hg.BV ((AFU DP A0).trans (by first|rfl|(rw[EL A0];simp(disch:=omega)only[AB])));replace hl:∀i,i<nx->i≠DP->H17 i=H i:=λi hi CP=>(AFU i A0).trans (by first|exact hl i hi CP|(rw[EL A0];simp(disch:=omega)only[AB];exact hl i hi CP))
  replace h0:H17 nx=some [.nl,.nl,.nl]:=(AFU nx A0).trans (by first|exact h0|(rw[EL A0];simp(disch:=omega)only[AB];exact h0));refine MY h0 ?_
  apply hN;refine BQ ?_;exact⟨_,λ_ _ h=>h,_,.refl _,⟨U,X,Y,rfl,by first|exact SO|exact SO.more A0⟩,hg.BV D8,λi hi CP=>by simp(disch:=omega)only[AB];exact hl i hi CP⟩
 refine GC ?_;refine AK ?_ ?_<;>intro h12
 ·refine sQ λN hN=>?_;(try simp-dsimp-implicitDefEqProofs(disch:=omega)only[go_sem,CI,↓A41])
  refine(NB (hg.BV (by first|rfl|(simp(disch:=omega)only[AB]))) [2,3,2,3,5] 5 (AD _ _ _) rfl A0 A0 _ A0 A0 A0).CD ?_;rintro m18 H18 r18 ARY ⟨⟨x18,rfl,AQ9⟩,ALV,ALW⟩;have AQA:2<=x18/\x18<=7:=by simp at AQ9;omega
  replace hl:∀i,i<nx->i≠DP->H18 i=H i:=λi hi CP=>(ALW i A0 CP).trans (by first|exact hl i hi CP|(simp(disch:=omega)only[AB];exact hl i hi CP))
  replace h0:H18 nx=some [.nl,.nl,.nl]:=(ALW nx A0 A0).trans (by first|exact h0|(simp(disch:=omega)only[AB];exact h0));replace hg:=ALV;clear ALV;refine FF ?_
  refine(bY hg x18 AQA _ A0).CD ?_;rintro m19 H19 r19 ARZ ⟨⟨U,X,Y,rfl,SO⟩,ALX,ALY⟩;replace hl:∀i,i<nx->i≠DP->H19 i=H i:=λi hi CP=>(ALY i A0 CP).trans (by first|exact hl i hi CP|(simp(disch:=omega)only[AB];exact hl i hi CP))
  replace h0:H19 nx=some [.nl,.nl,.nl]:=(ALY nx A0 A0).trans (by first|exact h0|(simp(disch:=omega)only[AB];exact h0));replace hg:=ALX;clear ALX;refine MY h0 ?_
  apply hN;refine BQ ?_;exact⟨_,λ_ _ h=>h,_,.refl _,⟨U,X,Y,rfl,by first|exact SO|exact SO.more A0⟩,hg.BV D8,λi hi CP=>by simp(disch:=omega)only[AB];exact hl i hi CP⟩
 refine GC ?_;refine AK ?_ ?_<;>intro h13
 ·refine A6 λN6 OR=>sQ λN hN=>?_;refine FF ?_;refine(DC (hg.BV (by first|rfl|(simp(disch:=omega)only[AB]))) 6 A0 _).CD ?_
  rintro m20 H20 r20 AS0 ⟨⟨x20,rfl,AS1⟩,ALZ,AM0⟩;replace hl:∀i,i<nx->i≠DP->H20 i=H i:=λi hi CP=>(AM0 i A0 CP).trans (by first|exact hl i hi CP|(simp(disch:=omega)only[AB];exact hl i hi CP))
  replace h0:H20 nx=some [.nl,.nl,.nl]:=(AM0 nx A0 A0).trans (by first|exact h0|(simp(disch:=omega)only[AB];exact h0));replace hg:=ALZ;clear ALZ;refine FF ?_
  apply hN;refine AA<|GC ?_;refine AK ?_ ?_<;>intro h14
  ·refine sQ λN hN=>?_;refine FF ?_;refine AC.fz (ts:=[.i .i64 3,rows [[2,0],[0,2]],.i .i64 2]) eL.TN ⟨.refl _,cR (b:=m20+2) (W:=[[2,0],[0,2]]) (AD _ _ _) A0 rfl (λk hk=>by
    match k,hk with
    |0,hk=>exact⟨_,rfl,A0,by simp(disch:=omega)only[AB,AD];rfl⟩
    |1,hk=>exact⟨_,rfl,A0,by simp(disch:=omega)only[AB,AD];rfl⟩),.refl _,trivial⟩ ?_
   refine(KP 3 2 [[2,0],[0,2]] 2 A0 A0 ALN A0 _ _).CD ?_;rintro m21 H21 r21 AS2 ⟨⟨U,X,Y,rfl,SO⟩,AFV⟩;replace hg:E9 bs DP H21:=hg.BV ((AFV DP A0).trans (by first|rfl|(rw[EL A0];simp(disch:=omega)only[AB])));replace hl:∀i,i<nx->i≠DP->H21 i=H i:=λi hi CP=>(AFV i A0).trans (by first|exact hl i hi CP|(rw[EL A0];simp(disch:=omega)only[AB];exact hl i hi CP))
   replace h0:H21 nx=some [.nl,.nl,.nl]:=(AFV nx A0).trans (by first|exact h0|(rw[EL A0];simp(disch:=omega)only[AB];exact h0));refine MY h0 ?_
   apply hN;refine BQ ?_;exact⟨_,λ_ _ h=>h,_,.refl _,⟨U,X,Y,rfl,by first|exact SO|exact SO.more A0⟩,hg.BV D8,λi hi CP=>by simp(disch:=omega)only[AB];exact hl i hi CP⟩
  refine GC ?_;refine AK ?_ ?_<;>intro h15
  ·refine sQ λN hN=>?_;refine FF ?_;refine AC.fz (ts:=[.i .i64 3,rows [[0,1],[2,0]],.i .i64 4]) eL.TN ⟨.refl _,cR (b:=m20+2+2) (W:=[[0,1],[2,0]]) (AD _ _ _) A0 rfl (λk hk=>by
    match k,hk with
    |0,hk=>exact⟨_,rfl,A0,by simp(disch:=omega)only[AB,AD];rfl⟩
    |1,hk=>exact⟨_,rfl,A0,by simp(disch:=omega)only[AB,AD];rfl⟩),.refl _,trivial⟩ ?_
   refine(KP 3 4 [[0,1],[2,0]] 2 A0 A0 ALO A0 _ _).CD ?_;rintro m22 H22 r22 AS3 ⟨⟨U,X,Y,rfl,SO⟩,AFW⟩;replace hg:E9 bs DP H22:=hg.BV ((AFW DP A0).trans (by first|rfl|(rw[EL A0];simp(disch:=omega)only[AB])));replace hl:∀i,i<nx->i≠DP->H22 i=H i:=λi hi CP=>(AFW i A0).trans (by first|exact hl i hi CP|(rw[EL A0];simp(disch:=omega)only[AB];exact hl i hi CP))
   replace h0:H22 nx=some [.nl,.nl,.nl]:=(AFW nx A0).trans (by first|exact h0|(rw[EL A0];simp(disch:=omega)only[AB];exact h0));refine MY h0 ?_
   apply hN;refine BQ ?_;exact⟨_,λ_ _ h=>h,_,.refl _,⟨U,X,Y,rfl,by first|exact SO|exact SO.more A0⟩,hg.BV D8,λi hi CP=>by simp(disch:=omega)only[AB];exact hl i hi CP⟩
  refine GC ?_;refine AK ?_ ?_<;>intro h16
  ·refine sQ λN hN=>?_;refine FF ?_;refine AC.fz (ts:=[.i .i64 2,rows [[0,1,0],[0,0,1],[1,1,0]],.i .i64 7]) eL.TN ⟨.refl _,cR (b:=m20+2+2+2) (W:=[[0,1,0],[0,0,1],[1,1,0]]) (AD _ _ _) A0 rfl (λk hk=>by
    match k,hk with
    |0,hk=>exact⟨_,rfl,A0,by simp(disch:=omega)only[AB,AD];rfl⟩
    |1,hk=>exact⟨_,rfl,A0,by simp(disch:=omega)only[AB,AD];rfl⟩
    |2,hk=>exact⟨_,rfl,A0,by simp(disch:=omega)only[AB,AD];rfl⟩),.refl _,trivial⟩ ?_
   refine(KP 2 7 [[0,1,0],[0,0,1],[1,1,0]] 3 A0 A0 ALP A0 _ _).CD ?_;rintro m23 H23 r23 AS4 ⟨⟨U,X,Y,rfl,SO⟩,AFX⟩;replace hg:E9 bs DP H23:=hg.BV ((AFX DP A0).trans (by first|rfl|(rw[EL A0];simp(disch:=omega)only[AB])));replace hl:∀i,i<nx->i≠DP->H23 i=H i:=λi hi CP=>(AFX i A0).trans (by first|exact hl i hi CP|(rw[EL A0];simp(disch:=omega)only[AB];exact hl i hi CP))
   replace h0:H23 nx=some [.nl,.nl,.nl]:=(AFX nx A0).trans (by first|exact h0|(rw[EL A0];simp(disch:=omega)only[AB];exact h0));refine MY h0 ?_
   apply hN;refine BQ ?_;exact⟨_,λ_ _ h=>h,_,.refl _,⟨U,X,Y,rfl,by first|exact SO|exact SO.more A0⟩,hg.BV D8,λi hi CP=>by simp(disch:=omega)only[AB];exact hl i hi CP⟩
  refine GC ?_;refine AK ?_ ?_<;>intro h17
  ·refine sQ λN hN=>?_;refine FF ?_;refine AC.fz (ts:=[.i .i64 2,rows [[1,1,0],[0,1,1],[0,0,1]],.i .i64 4]) eL.TN ⟨.refl _,cR (b:=m20+2+2+2+2) (W:=[[1,1,0],[0,1,1],[0,0,1]]) (AD _ _ _) A0 rfl (λk hk=>by
    match k,hk with
    |0,hk=>exact⟨_,rfl,A0,by simp(disch:=omega)only[AB,AD];rfl⟩
    |1,hk=>exact⟨_,rfl,A0,by simp(disch:=omega)only[AB,AD];rfl⟩
    |2,hk=>exact⟨_,rfl,A0,by simp(disch:=omega)only[AB,AD];rfl⟩),.refl _,trivial⟩ ?_
   refine(KP 2 4 [[1,1,0],[0,1,1],[0,0,1]] 3 A0 A0 ALQ A0 _ _).CD ?_;rintro m24 H24 r24 AS5 ⟨⟨U,X,Y,rfl,SO⟩,AFY⟩;replace hg:E9 bs DP H24:=hg.BV ((AFY DP A0).trans (by first|rfl|(rw[EL A0];simp(disch:=omega)only[AB])));replace hl:∀i,i<nx->i≠DP->H24 i=H i:=λi hi CP=>(AFY i A0).trans (by first|exact hl i hi CP|(rw[EL A0];simp(disch:=omega)only[AB];exact hl i hi CP))
   replace h0:H24 nx=some [.nl,.nl,.nl]:=(AFY nx A0).trans (by first|exact h0|(rw[EL A0];simp(disch:=omega)only[AB];exact h0));refine MY h0 ?_
   apply hN;refine BQ ?_;exact⟨_,λ_ _ h=>h,_,.refl _,⟨U,X,Y,rfl,by first|exact SO|exact SO.more A0⟩,hg.BV D8,λi hi CP=>by simp(disch:=omega)only[AB];exact hl i hi CP⟩
  refine GC ?_;refine AK ?_ ?_<;>intro h18
  ·refine sQ λN hN=>?_;refine FF ?_;refine AC.fz (ts:=[.i .i64 2,rows [[0,1,0,0],[1,0,0,0],[0,0,0,1],[0,0,1,0]],.i .i64 2]) eL.TN ⟨.refl _,cR (b:=m20+2+2+2+2+2) (W:=[[0,1,0,0],[1,0,0,0],[0,0,0,1],[0,0,1,0]]) (AD _ _ _) A0 rfl (λk hk=>by
    match k,hk with
    |0,hk=>exact⟨_,rfl,A0,by simp(disch:=omega)only[AB,AD];rfl⟩
    |1,hk=>exact⟨_,rfl,A0,by simp(disch:=omega)only[AB,AD];rfl⟩
    |2,hk=>exact⟨_,rfl,A0,by simp(disch:=omega)only[AB,AD];rfl⟩
    |3,hk=>exact⟨_,rfl,A0,by simp(disch:=omega)only[AB,AD];rfl⟩),.refl _,trivial⟩ ?_
   refine(KP 2 2 [[0,1,0,0],[1,0,0,0],[0,0,0,1],[0,0,1,0]] 4 A0 A0 ALR A0 _ _).CD ?_;rintro m25 H25 r25 AS6 ⟨⟨U,X,Y,rfl,SO⟩,AFZ⟩;replace hg:E9 bs DP H25:=hg.BV ((AFZ DP A0).trans (by first|rfl|(rw[EL A0];simp(disch:=omega)only[AB])));replace hl:∀i,i<nx->i≠DP->H25 i=H i:=λi hi CP=>(AFZ i A0).trans (by first|exact hl i hi CP|(rw[EL A0];simp(disch:=omega)only[AB];exact hl i hi CP))
   replace h0:H25 nx=some [.nl,.nl,.nl]:=(AFZ nx A0).trans (by first|exact h0|(rw[EL A0];simp(disch:=omega)only[AB];exact h0));refine MY h0 ?_
   apply hN;refine BQ ?_;exact⟨_,λ_ _ h=>h,_,.refl _,⟨U,X,Y,rfl,by first|exact SO|exact SO.more A0⟩,hg.BV D8,λi hi CP=>by simp(disch:=omega)only[AB];exact hl i hi CP⟩
  apply AF;apply OR;refine sQ λN hN=>?_;refine FF ?_;refine AC.fz (ts:=[.i .i64 5,rows [[0,1],[4,4]],.i .i64 3]) eL.TN ⟨.refl _,cR (b:=m20+2+2+2+2+2) (W:=[[0,1],[4,4]]) (AD _ _ _) A0 rfl (λk hk=>by
   match k,hk with
   |0,hk=>exact⟨_,rfl,A0,by simp(disch:=omega)only[AB,AD];rfl⟩
   |1,hk=>exact⟨_,rfl,A0,by simp(disch:=omega)only[AB,AD];rfl⟩),.refl _,trivial⟩ ?_
  refine(KP 5 3 [[0,1],[4,4]] 2 A0 A0 ALS A0 _ _).CD ?_;rintro m26 H26 r26 AS7 ⟨⟨U,X,Y,rfl,SO⟩,AG0⟩;replace hg:E9 bs DP H26:=hg.BV ((AG0 DP A0).trans (by first|rfl|(rw[EL A0];simp(disch:=omega)only[AB])));replace hl:∀i,i<nx->i≠DP->H26 i=H i:=λi hi CP=>(AG0 i A0).trans (by first|exact hl i hi CP|(rw[EL A0];simp(disch:=omega)only[AB];exact hl i hi CP))
  replace h0:H26 nx=some [.nl,.nl,.nl]:=(AG0 nx A0).trans (by first|exact h0|(rw[EL A0];simp(disch:=omega)only[AB];exact h0));refine MY h0 ?_
  apply hN;refine BQ ?_;exact⟨_,λ_ _ h=>h,_,.refl _,⟨U,X,Y,rfl,by first|exact SO|exact SO.more A0⟩,hg.BV D8,λi hi CP=>by simp(disch:=omega)only[AB];exact hl i hi CP⟩
 apply AF;apply CW;refine sQ λN hN=>?_;refine FF ?_;refine(DC (hg.BV (by first|rfl|(simp(disch:=omega)only[AB]))) 10 A0 _).CD ?_
 rintro m27 H27 r27 AS8 ⟨⟨x27,rfl,AS9⟩,AM1,AM2⟩
 obtain⟨k27,rfl⟩:∃k:Nat,x27=k:=⟨x27.toNat,A0⟩
 replace hl:∀i,i<nx->i≠DP->H27 i=H i:=λi hi CP=>(AM2 i A0 CP).trans (by first|exact hl i hi CP|(simp(disch:=omega)only[AB];exact hl i hi CP))
 replace h0:H27 nx=some [.nl,.nl,.nl]:=(AM2 nx A0 A0).trans (by first|exact h0|(simp(disch:=omega)only[AB];exact h0))
 replace hg:=AM1
 clear AM1
 refine FF ?_
 refine(qD k27 A0 _ _).CD ?_
 rintro m28 H28 r28 ASA ⟨⟨U,X,Y,rfl,SO⟩,AG1⟩
 replace hg:E9 bs DP H28:=hg.BV ((AG1 DP A0).trans (by first|rfl|(rw[EL A0];simp(disch:=omega)only[AB])))
 replace hl:∀i,i<nx->i≠DP->H28 i=H i:=λi hi CP=>(AG1 i A0).trans (by first|exact hl i hi CP|(rw[EL A0];simp(disch:=omega)only[AB];exact hl i hi CP))
 replace h0:H28 nx=some [.nl,.nl,.nl]:=(AG1 nx A0).trans (by first|exact h0|(rw[EL A0];simp(disch:=omega)only[AB];exact h0))
 refine MY h0 ?_
 apply hN;refine BQ ?_;exact⟨_,λ_ _ h=>h,_,.refl _,⟨U,X,Y,rfl,by first|exact SO|exact SO.more A0⟩,hg.BV D8,λi hi CP=>by simp(disch:=omega)only[AB];exact hl i hi CP⟩
def XY{bs DP H}(hg:E9 bs DP H)(nx)(WE:DP<nx):AC prog 172 nx H [.q DP 0] (sK bs DP nx H (pY 12)):=wD WE (nR hg nx WE)
def AM3(r:AV):Prop:=∃U X Y,r=CI U X Y/\BW U X Y
def iD.PR{N U X Y}(h:iD N U X Y)(hN:N<=1000):Go.Proofs.YtgknbnkmilddhaaGreat.PR U X Y:=by
 obtain⟨o,p,c,r,pl,cl,ob⟩:=h;have Fw:∀k,(Y.getD k []).length<=1000:=λk=>by
  by_cases hk:k<U.length
  ·have:=r k hk;omega
  rw[A5,B8 A0];simp
 refine⟨A0,cD.of ⟨A0,λx hx=>by have:=pl x hx;omega⟩ ⟨A0,λy hy=>⟨?_,λx hx=>by have:=cl y hy x hx;omega⟩⟩⟩;obtain⟨k,hk,rfl⟩:=FI.1 hy;have:=Fw k;simp[hk]at this;omega
def Mz:BW [2] (ZE [(2:Int)].length) (U9 [(2:Int)].length):=wC (s:=([2],ZE 1,U9 1)) AP
def mkG{N:St->Prop}{C:Nat->HP->AV->C2->D4->E6->Prop}{S:Nat->HP->AV->C2->D4->E6->St}{G:Prop}(h1:(∀m H r o X Y,C m H r o X Y->N (S m H r o X Y))->G)(h2:∀m H r o X Y,C m H r o X Y->N (S m H r o X Y)):G:=h1 h2
set_option maxHeartbeats 4000000 in
def qE{bs DP H}(hg:E9 bs DP H)(lim nx)(WE:DP<nx):AC prog 104 nx H [.q DP 0,.i .i64 lim] (λDI H' r=>∃r2,Fz H' (TN nx H') r r2/\AM3 r2/\E9 bs DP H'/\∀i,i<nx->i≠DP->H' i=H i):=by
 refine CF AY func104 rfl AP ntmps104 results104 (λGM cX=>?_)
 refine GC ?_;refine A6 λN1 CW=>BX (λG0 JM=>?_);dsimp only at JM
 have hl:∀i,i<nx->i≠DP->G0 i=H i:=λi hi _=>by rw[<-JM,AB _ _ A0]
 have h0:G0 nx=some [.nl,.nl,.nl]:=by rw[<-JM,AD]
 replace hg:E9 bs DP G0:=hg.BV (by rw[<-JM,AB _ _ A0])
 clear JM
 refine BH ?_;refine GC ?_;refine AA<|AM (α:=Nat×HP) (λx=>sl 32 [(0,.q DP 0),(1,.i .i64 lim),(4,.q nx 0),(5,.i .i64 x.1)]) (λx=>x.2) (λx m=>(x.1<=12/\nx+1<=m)/\E9 bs DP x.2/\(∀i,i<nx->i≠DP->x.2 i=H i)/\x.2 nx=some [.nl,.nl,.nl]) (λx=>12-x.1) ((0,G0)) ?_ ?_ (λ_ _ h=>h) ?_
 ·exact⟨⟨B5,AI⟩,hg,hl,h0⟩
 ·exact I2
 rintro⟨k,G⟩ m ⟨⟨hk,hm⟩,hg,hl,h0⟩
 refine BH ?_;dsimp only at hk hm hg hl h0 ⊢
 refine A6 λN2 DN=>GC ?_;refine AK ?_ ?_<;>intro h1
 ·apply AF;apply DN;refine A6 λN3 DO=>AA<|sQ λN hN=>?_;refine FF ?_;refine(XY hg _ A0).CD ?_
  rintro m1 H1 r1 SF ⟨⟨U,X,Y,rfl,SO⟩,jC,eG⟩;refine FF ?_
  apply hN;refine A6 λN4 FD=>BX (λG1 K6=>?_);dsimp only at K6
  have UC:∀i,i<nx->i≠DP->G1 i=H i:=λi hi CP=>by rw[<-K6,AB _ _ A0,eG i A0 CP];exact hl i hi CP
  have Mn:G1 nx=some [.nl,.nl,.nl]:=by rw[<-K6,AB _ _ A0,eG nx A0 A0];exact h0
  have UK:G1 (m+2+2)=some [ints U,rows X,B6 Y]:=by rw[<-K6,AD]
  have Pw:E9 bs DP G1:=jC.BV (by rw[<-K6,AB _ _ A0]);obtain⟨bx,Mq⟩:=EK (m+2+2);rw[Mq]at UK ⊢;refine BH ?_;refine sQ λN hN=>?_;refine FF ?_;refine(DC Pw 3 A0 _).CD ?_
  rintro m2 H2 r2 Q8 ⟨⟨x2,rfl,Iu⟩,ZN,NC⟩;have WV:∀i,i<nx->i≠DP->H2 i=H i:=λi hi CP=>(NC i A0 CP).trans (UC i hi CP)
  have vE:=(NC nx A0 A0).trans Mn;have W3:=(NC bx A0 A0).trans UK;refine FF ?_
  apply hN;refine AK ?_ ?_<;>intro h2
  ·refine AW.name λN hN=>?_;apply mkG (N:=N)
   ·intro key;refine K5 AY AP [false,true,false,false,false] (.br 0 (.br 2 (.br 3 (.br 4 .nil .nil) .nil) .nil) (.br 2 (.br 0 (.br 3 (.br 4 .nil .nil) .nil) .nil) .nil)) AP ?_;refine FF ?_;rw[W3];refine FF ?_
    refine⟨?_,?_⟩;all_goals
     refine(XY ZN _ A0).CD ?_;rintro m3 H3 r3 U5 ⟨⟨os3,X3,Y3,rfl,AQB⟩,fA,pZ⟩;have gT:=(pZ bx A0 A0).trans W3;refine MY gT ?_
     refine(vR U os3 X X3 Y Y3 SO AQB _ _).CD ?_;rintro m4 H4 r4 Xy ⟨⟨os4,X4,Y4,rfl,A8M⟩,Ua⟩;have Ix:=(Ua bx A0).trans gT;refine MY Ix ?_
     have TC:∀i,i<m2->i≠DP->H4 i=H2 i:=λi hi CP=>(Ua i A0).trans (pZ i A0 CP)
     generalize (AV.g [ints os3,rows X3,B6 Y3])=r9
     exact key m4 H4 r9 os4 X4 Y4 (And.intro (show m2+5<=m4 by omega) (And.intro A8M (And.intro (fA.BV (Ua DP A0)) TC)))
   intro m4 H4 r4 os4 X4 Y4 hC;obtain⟨Xy,A8M,Tz,Ua⟩:=hC;apply hN;apply FD;refine BX (λG7 nS=>?_);dsimp only at nS;obtain⟨os7,X7,Y7,hs7,fB,Dy,Na,Nb⟩:∃U X Y,iD 24 U X Y/\G7 bx=some [ints U,rows X,B6 Y]/\E9 bs DP G7/\(∀i,i<nx->i≠DP->G7 i=H i)/\G7 nx=some [.nl,.nl,.nl]:=by
    first
    |exact⟨os4,X4,Y4,A8M,by rw[<-nS,AD],Tz.BV (by rw[<-nS,AB _ _ A0]),λi hi CP=>by rw[<-nS,AB _ _ A0,Ua i A0 CP];exact WV i hi CP,by rw[<-nS,AB _ _ A0,Ua nx A0 A0];exact vE⟩
    |exact⟨U,X,Y,SO.more A0,by rw[<-nS];exact W3,by rw[<-nS];exact ZN,λi hi CP=>by rw[<-nS];exact WV i hi CP,by rw[<-nS];exact vE⟩
   refine BH ?_;refine sQ λN hN=>?_;refine MY fB ?_;refine lV (KE os7 X7 Y7 (hs7.PR A0)) ?_
   refine J5.mk' (λh3=>?_) (λh3=>?_)
   ·(try simp only[cn]at h3);refine MY fB ?_
    (refine FF ?_);refine lV (NK os7 h3.1.1 h3.2.1) ?_
    apply hN;refine AK ?_ ?_<;>intro h4
    ·refine sQ λN hN=>?_;simp-dsimp-implicitDefEqProofs(disch:=omega)only[go_sem,CI,fB,Nb];apply hN;refine BQ ?_;exact⟨_,λ_ _ h=>h,_,.refl _,⟨os7,X7,Y7,rfl,h3⟩,Dy.BV (AB _ _ A0),λi hi CP=>(AB _ _ A0).trans (Na i hi CP)⟩
    apply AF;apply DO;refine OK ?_;refine BB (k+1,G7) ?_ ?_ ?_
    ·exact I2
    ·first|exact⟨⟨AI,AI⟩,Dy,Na,Nb⟩|exact⟨AI,Dy,Na,Nb⟩
    exact AI
   try simp only[cn]at h3
   refine FF ?_
   apply hN;refine DJ rfl ?_;apply AF;apply DO;refine OK ?_;refine BB (k+1,G7) ?_ ?_ ?_
   ·exact I2
   ·first|exact⟨⟨AI,AI⟩,Dy,Na,Nb⟩|exact⟨AI,Dy,Na,Nb⟩
   exact AI
  apply AF;apply FD;refine BX (λG7 nS=>?_);dsimp only at nS;obtain⟨os7,X7,Y7,hs7,fB,Dy,Na,Nb⟩:∃U X Y,iD 24 U X Y/\G7 bx=some [ints U,rows X,B6 Y]/\E9 bs DP G7/\(∀i,i<nx->i≠DP->G7 i=H i)/\G7 nx=some [.nl,.nl,.nl]:=by
   first
   |exact⟨os4,X4,Y4,A8M,by rw[<-nS,AD],Tz.BV (by rw[<-nS,AB _ _ A0]),λi hi CP=>by rw[<-nS,AB _ _ A0,Ua i A0 CP];exact WV i hi CP,by rw[<-nS,AB _ _ A0,Ua nx A0 A0];exact vE⟩
   |exact⟨U,X,Y,SO.more A0,by rw[<-nS];exact W3,by rw[<-nS];exact ZN,λi hi CP=>by rw[<-nS];exact WV i hi CP,by rw[<-nS];exact vE⟩
  refine BH ?_;refine sQ λN hN=>?_;refine MY fB ?_;refine lV (KE os7 X7 Y7 (hs7.PR A0)) ?_
  refine J5.mk' (λh5=>?_) (λh5=>?_)
  ·try simp only[cn]at h5
   refine MY fB ?_
   refine FF ?_
   refine lV (NK os7 h5.1.1 h5.2.1) ?_
   apply hN;refine AK ?_ ?_<;>intro h6
   ·refine sQ λN hN=>?_;simp-dsimp-implicitDefEqProofs(disch:=omega)only[go_sem,CI,fB,Nb];apply hN;refine BQ ?_;exact⟨_,λ_ _ h=>h,_,.refl _,⟨os7,X7,Y7,rfl,h5⟩,Dy.BV (AB _ _ A0),λi hi CP=>(AB _ _ A0).trans (Na i hi CP)⟩
   apply AF;apply DO;refine OK ?_;refine BB (k+1,G7) ?_ ?_ ?_
   ·exact I2
   ·first|exact⟨⟨AI,AI⟩,Dy,Na,Nb⟩|exact⟨AI,Dy,Na,Nb⟩
   exact AI
  try simp only[cn]at h5
  refine FF ?_
  apply hN;refine DJ rfl ?_;apply AF;apply DO;refine OK ?_;refine BB (k+1,G7) ?_ ?_ ?_
  ·exact I2
  ·first|exact⟨⟨AI,AI⟩,Dy,Na,Nb⟩|exact⟨AI,Dy,Na,Nb⟩
  exact AI
 apply AO;apply CW;refine sQ λN hN=>?_;refine FF ?_;refine(HG [2] B5 _ (.cons (nJ (U:=[2]) (AD _ _ _) rfl) .nil)).CD ?_
 intro m9 H9 r9 oI Mo
 obtain⟨P,B,bc,rfl,YE,UE,A44,I4⟩:=QL.start (N:=12) (bx:=nx) Mo B5 A0 (λx hx=>by simp at hx;omega) A0
 have h09:=(A44 nx A0).trans ((AB _ _ A0).trans h0)
 have Jj:E9 bs DP H9:=hg.BV ((A44 DP A0).trans (AB _ _ A0))
 have hl9:∀i,i<nx->i≠DP->H9 i=H i:=λi hi CP=>(A44 i A0).trans ((AB _ _ A0).trans (hl i hi CP))
 (try simp-dsimp-implicitDefEqProofs(disch:=omega)only[go_sem,EZ,ints,YE,UE,h09])
 apply hN;refine BQ ?_;exact⟨_,λ_ _ h=>h,_,I4.fz (λ_ _=>rfl) A0,⟨[2],_,_,rfl,Mz⟩,Jj.BV (AB _ _ A0),λi hi CP=>(AB _ _ A0).trans (hl9 i hi CP)⟩
def qF{bs DP H}(hg:E9 bs DP H)(lim nx)(WE:DP<nx):AC prog 104 nx H [.q DP 0,.i .i64 lim] (sK bs DP nx H AM3):=wD WE (qE hg lim nx WE)
def LV.ids{a m H r P B U X Y}(h:LV a m H r P B U X Y):
    ∃Z ids,Own a m H (.g [r,P,B]) Z ids/\∀H',(∀i∈ids,H' i=H i)->LV a m H' r P B U X Y:=by
  obtain⟨i0,i1,i2,⟨h0,h1,h2⟩,JO,jV⟩:=h;exact⟨_,i0++(i1++(i2++[])),⟨.g _ _ _ (.cons _ _ _ _ _ _ h0 (.cons _ _ _ _ _ _ h1 (.cons _ _ _ _ _ _ h2 .nil))),by simpa using JO,by simpa using jV⟩,λH' hk=>
    ⟨i0,i1,i2,⟨h0.BV λi hi=>hk i (by simp[hi]),h1.BV λi hi=>hk i (by simp[hi]),h2.BV λi hi=>hk i (by simp[hi])⟩,JO,jV⟩⟩
def fH(U X Y)(h0:U.length<=1048576)(h1:FC X)(h2:NU Y)(nx){H xs}(hv:wU H xs [CI U X Y]):AC prog 175 nx H xs (λDI H' r=>∃r0 P B,r= .g [r0,P,B]/\LV nx DI H' r0 P B U X Y/\xJ r0=true/\∀i,i<nx->H' i=H i):=by
 refine(kA ((fE U X Y h0 h1 h2 nx).mono (Q':=λDI H' r=>∃r0 P B,r= .g [r0,P,B]/\LV nx DI H' r0 P B U X Y/\xJ r0=true) λDI H' r ⟨r0,P,B,cp,cb,e,hW,hi⟩=>⟨r0,P,B,e,hW.1,hi⟩) (λn H0 r ⟨r0,P,B,e,hW,hi⟩=>?_) hv).mono λDI H' r ⟨⟨r0,P,B,e,hW,hi⟩,IA⟩=>⟨r0,P,B,e,hW,hi,IA⟩
 obtain⟨Z,ids,ho,hk⟩:=hW.ids;exact⟨Z,ids,by rw[e];exact ho,λH' NC=>⟨r0,P,B,e,hk H' NC,hi⟩⟩
open Classical in
def LV.fz0{a m H r P B U X Y}(h:LV a m H r P B U X Y):
    ∃H2,eL H H2/\Fz H H2 (.g [r,P,B]) (.g [ints U,P,B])/\LV a m H2 .nl P B [] X Y/\∀j,(j<a\/m<=j)->H2 j=H j:=by
  obtain⟨i0,i1,i2,⟨h0,h1,h2⟩,h3,h4⟩:=h;obtain⟨H2,PF⟩:∃H2:HP,H2=λj=>if j∈i0 then none else H j:=⟨_,rfl⟩
  have z0:∀i∈i0,H2 i=none:=λi hi=>by rw[PF];simp[hi]
  have z1:∀i,i∉i0->H2 i=H i:=λi hi=>by rw[PF];simp[hi]
  simp only[BA,AG]at h3;refine⟨H2,λi LI hi=>?_,?_,⟨[],i1,i2,⟨.nl,h1.BV λi hi=>z1 i (by grind),h2.BV λi hi=>z1 i (by grind)⟩,by simp only[C8,BA];grind,λi hi=>h4 i (by simp only[C8,AG]at hi ⊢;exact .inr hi)⟩,λj hj=>z1 j λhm=>by have:=h4 j (by simp[hm]);omega⟩
  · by_cases e:i∈i0
    · rw[z0 i e]at hi;cases hi
    · rw[z1 i e]at hi;exact⟨LI,hi,rfl,λk x y hx hy=>by rw[hx]at hy;cases hy;exact .refl _⟩
  · refine .g _ _ rfl λk x y hx hy=>?_
    match k,hx,hy with
    |0,hx,hy=>cases hx;cases hy;exact h0.bM z0
    |1,hx,hy=>cases hx;cases hy;exact .refl _
    |2,hx,hy=>cases hx;cases hy;exact .refl _
def xZ(U X Y)(h0:U.length<=1048576)(h1:FC X)(h2:NU Y)(nx){H xs}(hv:wU H xs [CI U X Y]):AC prog 175 nx H xs (λDI H' r=>∃P B,r= .g [ints U,P,B]/\LV nx DI H' .nl P B [] X Y/\∀i,i<nx->H' i=H i):=by
 refine(fH U X Y h0 h1 h2 nx hv).frz λDI H' r ⟨r0,P,B,e,hW,hi,IA⟩=>?_
 obtain⟨H2,g1,g2,g3,g4⟩:=hW.fz0;exact⟨H2,_,g1,by rw[e];exact g2,P,B,rfl,g3,λi hi=>(g4 i (.inl hi)).trans (IA i hi)⟩
def LV.fz2{a m n H P B U X Y}(h:LV a m H .nl P B [] X Y)(hn:n<=a):Fz H (TN n H) (.g [ints U,P,B]) (CI U X Y):=by
 obtain⟨i0,i1,i2,⟨h0,h1,h2⟩,h3,h4⟩:=h;have hz:∀i∈i0++(i1++i2),TN n H i=none:=λi hi=>bN (by have:=h4 i hi;omega)
 refine .g _ _ rfl λk x y hx hy=>?_
 match k,hx,hy with
 |0,hx,hy=>cases hx;cases hy;exact .refl _
 |1,hx,hy=>cases hx;cases hy;exact h1.bM λi hi=>hz i (by simp[hi])
 |2,hx,hy=>cases hx;cases hy;exact h2.bM λi hi=>hz i (by simp[hi])
structure wF(U:C2)(X:D4)(Y:E6):Prop where
 o:U.length<=8
 p:FC X
 c:NU Y
 b:∀x∈U,-1000<=x/\x<=1000
def Hq(r:AV):Prop:=∃U X Y,r=CI U X Y/\wF U X Y
def wF.pl{U X Y}(h:wF U X Y):PR U X Y:=⟨by have:=h.o;omega,cD.of h.p h.c⟩
def iD.drw{N U X Y}(h:iD N U X Y)(hN:N<=1000)(h8:U.length<=8):wF U X Y:=by
 obtain⟨o,p,c,r,pl,cl,ob⟩:=h;have Fw:∀k,(Y.getD k []).length<=1000:=λk=>by
  by_cases hk:k<U.length
  ·have:=r k hk;omega
  rw[A5,B8 A0];simp
 refine⟨h8,⟨A0,λx hx=>by have:=pl x hx;omega⟩,⟨A0,λy hy=>⟨?_,λx hx=>by have:=cl y hy x hx;omega⟩⟩,ob⟩;obtain⟨k,hk,rfl⟩:=FI.1 hy;have:=Fw k;simp[hk]at this;omega
def BW.drw{U X Y}(h:BW U X Y):wF U X Y:=h.shB.drw A0 (by have:=h.1.1;omega)
def FC.row{W}(h:FC W)(k):(W.getD k []).length<=1048576:=QC (p:=λx:C2=>x.length<=1048576) h.v B5 k
def NU.row{W}(h:NU W)(k):FC (W.getD k []):=QC (p:=FC) h.v .nil k
end
section
def Nc{H H' q z c}(h:H' z=H z):CJ H' q c z=CJ H q c z:=by
 by_cases e:z=q
 ·subst e;rw[AD,AD]
 rw[AB _ _ e,AB _ _ e];exact h
def qG{Γ P b ops t s K}(t'){S}(h1:PB Γ P b ops t' S K->PB Γ P b ops t s K)(h2:PB Γ P b ops t' S K):PB Γ P b ops t s K:=h1 h2
def y5{Γ:KT}{P:Program}{b:Nat}{ops:List Oper}{t:Tr}{s:St}{K:St->Prop}(t':Tr){α:Type}{C:Nat->HP->α->Prop}{S:Nat->HP->α->St}(h1:(∀m H x,C m H x->PB Γ P b ops t' (S m H x) K)->PB Γ P b ops t s K)(h2:∀m H x,C m H x->PB Γ P b ops t' (S m H x) K):PB Γ P b ops t s K:=h1 h2
def AG2:Tr:= .nil
def tW9:Tr:= .br 20 AG2 .nil
def tW8:Tr:= .br 18 tW9 .nil
def tW7:Tr:= .br 19 tW9 .nil
def tW6:Tr:= .br 10 tW7 .nil
def tW5:Tr:= .br 18 tW7 (.br 19 tW8 .nil)
def tW4:Tr:= .br 9 tW6 .nil
def tW3:Tr:= .br 10 tW5 (.br 18 tW6 .nil)
def tW2:Tr:= .br 4 tW4 .nil
def tW1:Tr:= .br 9 tW3 (.br 18 tW4 .nil)
def tW0:Tr:= .br 4 tW1 (.br 18 tW2 .nil)
def AG3{N:St->Prop}{α:Type}{C:Nat->HP->α->Prop}{S:Nat->HP->α->St}{G:Prop}(h1:(∀m H x,C m H x->N (S m H x))->G)(h2:∀m H x,C m H x->N (S m H x)):G:=h1 h2
set_option maxHeartbeats 4000000 in
def wG{bs DP H}(hg:E9 bs DP H)(U X Y)(h:BW U X Y)(nx)(WE:DP<nx):AC prog 106 nx H [.q DP 0,CI U X Y] (λDI H' r=>∃r2,Fz H' (TN nx H') r r2/\Hq r2/\E9 bs DP H'/\∀i,i<nx->i≠DP->H' i=H i):=by
 have hd:=h.drw
 have Q4:=h.1.1
 obtain⟨dd1,dd2,Yd,dd4⟩:=id hd
 refine CF AY func106 rfl AP ntmps106 results106 (λGM cX=>?_)
 refine GC ?_;refine BN 3 nx [ints U,rows X,B6 Y] rfl J4 ?_
 refine BH ?_;refine sQ λN hN=>?_;refine FF ?_;refine(xZ U X Y A0 dd2 Yd _ (.cons (.refl _) .nil)).CD ?_
 rintro m1 H1 r1 SF ⟨P,B,rfl,n7,IA⟩
 have YE:=n7.WQ.2.1
 have UE:=n7.WQ.2.2
 (try simp-dsimp-implicitDefEqProofs(maxSteps:=800000) (disch:=omega)only[go_sem,EZ,ints,CI,YE,UE])
 apply hN;refine BN 5 (nx+2+2) _ rfl (AD _ _ _) ?_
 refine BX (λG1 K6=>?_);dsimp only at K6
 have UC:∀i,i<nx->i≠DP->G1 i=H i:=λi hi CP=>by rw[<-K6];simp(disch:=omega)only[AB];rw[IA i A0];simp(disch:=omega)only[AB]
 have Mn:G1 (nx+1)=some [.nl,.nl,.nl]:=by rw[<-K6];simp(disch:=omega)only[AB];rw[IA _ A0];simp(disch:=omega)only[AB,AD]
 have Pw:E9 bs DP G1:=hg.BV (by rw[<-K6];simp(disch:=omega)only[AB];rw[IA _ A0];exact D8)
 replace n7:LV (nx+2+4) m1 G1 .nl P B [] X Y:=n7.BV (λi i1 i2=>by rw[<-K6];exact D8) (A1 _)
 refine BH ?_;refine GC ?_;refine sQ λN hN=>?_;refine FF ?_;refine(DC Pw U.length A0 _).CD ?_
 rintro m2 H2 r2 Q8 ⟨⟨x2,rfl,Iu⟩,ZN,NC⟩
 obtain⟨i,rfl⟩:=OF Iu.1
 refine FF ?_
 apply hN;refine sQ λN hN=>?_;refine FF ?_;refine(DC ZN ((U.length:Int)-1-i) A0 _).CD ?_
 rintro m3 H3 r3 U5 ⟨⟨x3,rfl,hx3⟩,fA,pZ⟩
 obtain⟨j,hj⟩:∃j:Nat,(i:Int)+1+x3=j:=⟨((i:Int)+1+x3).toNat,A0⟩
 have hk:∀q,q<m1->q≠DP->H3 q=G1 q:=λq h1 h2=>(pZ q A0 h2).trans (NC q A0 h2)
 have dT:LV (nx+2+4) m1 H3 .nl P B [] X Y:=n7.BV (λq q1 q2=>hk q q2 A0) (A1 _)
 have lC:H3 (nx+1)=some [.nl,.nl,.nl]:=(hk _ A0 A0).trans Mn
 have YD:∀q,q<nx->q≠DP->H3 q=H q:=λq h1 h2=>(hk q A0 h2).trans (UC q h1 h2)
 refine eK hj ?_
 apply hN;refine A6 λN1 CW=>GC ?_;refine AK ?_ ?_<;>intro h1
 ·refine Kn YE UE lC ?_;refine BQ ?_;exact⟨_,λ_ _ h=>h,_,(dT.BV (λq q1 q2=>AB _ _ A0) (A1 _)).fz2 A0,⟨U,X,Y,rfl,hd⟩,fA.BV (AB _ _ A0),λq hq CP=>(AB _ _ A0).trans (YD q hq CP)⟩
 have hi:i<U.length:=A0
 have lT:j<U.length:=A0
 have hod:=dd4 (U.getD j 0) (by rw[A5,A9 lT];exact BK _)
 obtain⟨⟨q1,q2,q3⟩,q4,q5,q6⟩:=id h
 have UF:=(q6 i hi).1.1
 have dJ:=(q6 i hi).2.1
 have hr3:=λe he=>((q6 i hi).2.2 e he).1
 apply AF;apply CW;refine A6 λN2 DN=>sQ λN hN=>?_;refine FF ?_;refine(DC fA 3 A0 _).CD ?_
 rintro m4 H4 r4 Xy ⟨⟨x4,rfl,hx4⟩,Tz,Ua⟩
 have AM4:LV (nx+2+4) m1 H4 .nl P B [] X Y:=dT.BV (λq q1 q2=>Ua q A0 A0) (A1 _)
 have h04:H4 (nx+1)=some [.nl,.nl,.nl]:=(Ua _ A0 A0).trans lC
 have Ty:∀q,q<nx->q≠DP->H4 q=H q:=λq h1 h2=>(Ua q A0 h2).trans (YD q h1 h2)
 refine FF ?_
 apply hN;refine AK ?_ ?_<;>intro h2
 ·obtain⟨p,rs,q,rfl,hp,VX,pG,hq,Pg,Dw,hpq,NA⟩:=AM4.A3G (k:=i) (l:=j) A0 A0;refine A6 λN hN=>?_;apply AG3 (N:=N)
  ·intro key;refine K5 AY AP [true,true,true,true,false,true,true,true,true,true,true,true,false,false,false] (.br 4 (.br 12 (.br 13 (.br 14 .nil .nil) .nil) (.br 13 (.br 12 (.br 14 .nil .nil) .nil) .nil)) (.br 12 (.br 4 (.br 13 (.br 14 .nil .nil) .nil) .nil) .nil)) AP ?_;(try simp-dsimp-implicitDefEqProofs(maxSteps:=800000) (disch:=omega)only[go_sem,CB,ints,CI,hp,VX,pG,hq]);refine⟨⟨?_,?_⟩,?_⟩;all_goals
    refine(DC Tz (U.getD j 0) A0 _).CD ?_;rintro m5 H5 r5 hm5 ⟨⟨x5,rfl,hx5⟩,hg5,TC⟩;have hp5:=(TC p A0 A0).trans hp;have hq5:=(TC q A0 A0).trans hq;refine fY hp5 hq5 VX pG ?_
    exact key m5 H5 x5 (And.intro hm5 (And.intro hg5 TC))
  intro m5 H5 x5 hC;obtain⟨hm5,hg5,TC⟩:=hC;have h05:H5 (nx+1)=some [.nl,.nl,.nl]:=(TC _ A0 A0).trans h04;have hl5:∀z,z<nx->z≠DP->H5 z=H z:=λz h1 h2=>(TC z A0 h2).trans (Ty z h1 h2)
  have A2Q:=(NA x5).BV (H':=CJ H5 q (some (DH ((X.getD i []).map (.i .i64)) j [.i .i64 x5]))) (λz z1 z2=>Nc (TC z A0 A0)) (A1 _);apply hN;refine Kn YE UE h05 ?_;refine BQ ?_;exact⟨_,λ_ _ h=>h,_,(A2Q.BV (λz z1 z2=>AB _ _ A0) (A1 _)).fz2 A0,⟨U,_,Y,rfl,dd1,dd2.set (by rw[D2];omega),Yd,dd4⟩,hg5.BV ((AB _ _ A0).trans (AB _ _ A0)),λz hz CP=>(AB _ _ A0).trans ((AB _ _ A0).trans (hl5 z hz CP))⟩
 apply AF;apply DN;refine sQ λN hN=>?_;refine FF ?_;refine(DC Tz ((U.length:Int)-1-i) A0 _).CD ?_
 rintro m6 H6 r6 hm6 ⟨⟨x6,rfl,hx6⟩,hg6,Dp⟩
 obtain⟨e,rfl⟩:=OF hx6.1
 have iK:e<U.length-1-i:=A0
 have h06:H6 (nx+1)=some [.nl,.nl,.nl]:=(Dp _ A0 A0).trans h04
 have hl6:∀z,z<nx->z≠DP->H6 z=H z:=λz h1 h2=>(Dp z A0 h2).trans (Ty z h1 h2)
 have AQC:LV (nx+2+4) m1 H6 .nl P B [] X Y:=AM4.BV (λq q1 q2=>Dp q A0 A0) (A1 _)
 have he:(i:Int)+1+e-i-1=e:=A0
 have hr4:=hr3 e A0
 obtain⟨b,bs1,p,rs,q,rfl,hb,X5,VO,hp,VX,pG,hq,Q5,Pg,Dw,AKT,NA⟩:=AQC.AF8 (c:=i) (k:=e) (l:=j) A0 A0 A0
 refine FF ?_
 apply hN;refine A6 λN hN=>?_;apply AG3 (N:=N)
 ·intro key;refine K5 AY AP [true,true,true,true,false,true,true,true,true,false,false,true,true,true,true,true,true,true,false,false,false] (tW0) AP ?_;(try simp-dsimp-implicitDefEqProofs(maxSteps:=800000) (disch:=omega)only[go_sem,CB,ints,CI,hb,X5,VO,hp,VX,pG,hq,he]);apply y5 AG2 (C:=λm H x=>m6+21<=m/\E9 bs DP H/\∀i,i<m6+21->i≠DP->H i=H6 i);intro AM5;apply y5 tW9 (C:=λm H x=>m6+21<=m/\E9 bs DP H/\∀i,i<m6+21->i≠DP->H i=H6 i);intro AM6;apply qG tW8;intro AQD;apply y5 tW7 (C:=λm H x=>m6+21<=m/\E9 bs DP H/\∀i,i<m6+21->i≠DP->H i=H6 i);intro AM7;apply y5 tW6 (C:=λm H x=>m6+21<=m/\E9 bs DP H/\∀i,i<m6+21->i≠DP->H i=H6 i);intro AM8;apply qG tW5;intro AQE;apply y5 tW4 (C:=λm H x=>m6+21<=m/\E9 bs DP H/\∀i,i<m6+21->i≠DP->H i=H6 i);intro AM9;apply qG tW3;intro AQF;apply y5 tW2 (C:=λm H x=>m6+21<=m/\E9 bs DP H/\∀i,i<m6+21->i≠DP->H i=H6 i);intro AQG;apply qG tW1;intro AQH
  ·rw[tW0];refine eH hb X5 VO hp VX pG he ?_
   repeat' (with_reducible refine And.intro ?_ ?_)
   all_goals try (with_reducible first|exact AQH)
   refine(DC hg6 (U.getD j 0) A0 _).CD ?_;rintro m9 H9 r9 oI ⟨⟨x9,rfl,hx9⟩,Jj,iE⟩;refine eH hb X5 VO hp VX pG he ?_
   exact AQG m9 H9 x9 (And.intro oI (And.intro Jj iE))
  ·rw[tW1];refine eH hb X5 VO hp VX pG he ?_
   repeat' (with_reducible refine And.intro ?_ ?_)
   all_goals try (with_reducible first|exact AQF)
   refine(DC hg6 (U.getD j 0) A0 _).CD ?_;rintro m9 H9 r9 oI ⟨⟨x9,rfl,hx9⟩,Jj,iE⟩;refine eH hb X5 VO hp VX pG he ?_
   exact AM9 m9 H9 x9 (And.intro oI (And.intro Jj iE))
  ·intro m9 H9 x9 hC;have fB:=(hC.2.2 b A0 A0).trans hb;have hp7:=(hC.2.2 p A0 A0).trans hp;have Wn:=(hC.2.2 q A0 A0).trans hq;rw[tW2];refine lN fB hp7 Wn X5 VO VX pG he ?_
   repeat' (with_reducible refine And.intro ?_ ?_)
   all_goals try (with_reducible first|exact AM9 m9 H9 x9 hC)
  ·rw[tW3];refine eH hb X5 VO hp VX pG he ?_
   repeat' (with_reducible refine And.intro ?_ ?_)
   all_goals try (with_reducible first|exact AQE)
   refine(DC hg6 (U.getD j 0) A0 _).CD ?_;rintro m9 H9 r9 oI ⟨⟨x9,rfl,hx9⟩,Jj,iE⟩;refine eH hb X5 VO hp VX pG he ?_
   exact AM8 m9 H9 x9 (And.intro oI (And.intro Jj iE))
  ·intro m9 H9 x9 hC;have fB:=(hC.2.2 b A0 A0).trans hb;have hp7:=(hC.2.2 p A0 A0).trans hp;have Wn:=(hC.2.2 q A0 A0).trans hq;rw[tW4];refine lN fB hp7 Wn X5 VO VX pG he ?_
   repeat' (with_reducible refine And.intro ?_ ?_)
   all_goals try (with_reducible first|exact AM8 m9 H9 x9 hC)
  ·rw[tW5];refine eH hb X5 VO hp VX pG he ?_
   repeat' (with_reducible refine And.intro ?_ ?_)
   all_goals try (with_reducible first|exact AQD)
   refine(DC hg6 (U.getD j 0) A0 _).CD ?_;rintro m9 H9 r9 oI ⟨⟨x9,rfl,hx9⟩,Jj,iE⟩;refine eH hb X5 VO hp VX pG he ?_
   exact AM7 m9 H9 x9 (And.intro oI (And.intro Jj iE))
  ·intro m9 H9 x9 hC;have fB:=(hC.2.2 b A0 A0).trans hb;have hp7:=(hC.2.2 p A0 A0).trans hp;have Wn:=(hC.2.2 q A0 A0).trans hq;rw[tW6];refine lN fB hp7 Wn X5 VO VX pG he ?_
   repeat' (with_reducible refine And.intro ?_ ?_)
   all_goals try (with_reducible first|exact AM7 m9 H9 x9 hC)
  ·intro m9 H9 x9 hC;have fB:=(hC.2.2 b A0 A0).trans hb;have hp7:=(hC.2.2 p A0 A0).trans hp;have Wn:=(hC.2.2 q A0 A0).trans hq;rw[tW7];refine lN fB hp7 Wn X5 VO VX pG he ?_
   repeat' (with_reducible refine And.intro ?_ ?_)
   all_goals try (with_reducible first|exact AM6 m9 H9 x9 hC)
  ·rw[tW8];refine eH hb X5 VO hp VX pG he ?_
   repeat' (with_reducible refine And.intro ?_ ?_)
   refine(DC hg6 (U.getD j 0) A0 _).CD ?_;rintro m9 H9 r9 oI ⟨⟨x9,rfl,hx9⟩,Jj,iE⟩;refine eH hb X5 VO hp VX pG he ?_
   exact AM6 m9 H9 x9 (And.intro oI (And.intro Jj iE))
  ·intro m9 H9 x9 hC;have fB:=(hC.2.2 b A0 A0).trans hb;have hp7:=(hC.2.2 p A0 A0).trans hp;have Wn:=(hC.2.2 q A0 A0).trans hq;rw[tW9];refine lN fB hp7 Wn X5 VO VX pG he ?_
   repeat' (with_reducible refine And.intro ?_ ?_)
   all_goals try (with_reducible first|exact AM5 m9 H9 x9 hC)
  intro m9 H9 x9 hC;have fB:=(hC.2.2 b A0 A0).trans hb;have hp7:=(hC.2.2 p A0 A0).trans hp;have Wn:=(hC.2.2 q A0 A0).trans hq;rw[AG2];refine lN fB hp7 Wn X5 VO VX pG he ?_
  exact key m9 H9 x9 hC
 intro m7 H7 x7 hC
 obtain⟨hm7,Dy,Jd⟩:=hC
 have Nb:H7 (nx+1)=some [.nl,.nl,.nl]:=(Jd _ A0 A0).trans h06
 have Na:∀z,z<nx->z≠DP->H7 z=H z:=λz h1 h2=>(Jd z A0 h2).trans (hl6 z h1 h2)
 have AQI:=(NA x7).BV (H':=CJ H7 q (some (DH (((Y.getD i []).getD e []).map (.i .i64)) j [.i .i64 x7]))) (λz z1 z2=>Nc (Jd z A0 A0)) (A1 _)
 apply hN;refine Kn YE UE Nb ?_;refine BQ ?_;exact⟨_,λ_ _ h=>h,_,(AQI.BV (λz z1 z2=>AB _ _ A0) (A1 _)).fz2 A0,⟨U,X,_,rfl,dd1,dd2,Yd.set ((Yd.row i).set (by rw[D2];omega)),dd4⟩,Dy.BV ((AB _ _ A0).trans (AB _ _ A0)),λz hz CP=>(AB _ _ A0).trans ((AB _ _ A0).trans (Na z hz CP))⟩
def bZ{bs DP H}(hg:E9 bs DP H)(U X Y)(h:BW U X Y)(nx)(WE:DP<nx):AC prog 106 nx H [.q DP 0,CI U X Y] (sK bs DP nx H Hq):=wD WE (wG hg U X Y h nx WE)
end
section
def AA7(a)(ha:a.length<=1048576)(nx){H xs}(hv:wU H xs [ints a]):AC prog 87 nx H xs (λDI H' r=>(∃id,r= .h id 0 a.length/\nx<=id/\id<DI/\H' id=some (a.map (.i .i64)))/\∀i,i<nx->H' i=H i):=by
 refine kA ((IM a A0 nx DD).mono (Q':=λDI H' r=>∃id,r= .h id 0 a.length/\nx<=id/\id<DI/\H' id=some (a.map (.i .i64))) ?_) (λn H0 r ⟨id,e,h1,h2,h3⟩=>?_) hv
 ·rintro DI H' r ⟨id,rfl,h1,h2,rfl⟩;exact⟨id,rfl,h1,h2,by rw[AD,RK]⟩
 subst e;exact⟨ints a,[id],Own.ints h3 rfl h1 h2,λH' hk=>⟨id,rfl,h1,h2,by rw[hk id B5];exact h3⟩⟩
def Nd(W)(hW:FC W)(nx){H xs}(hv:wU H xs [rows W]):AC prog 123 nx H xs (λDI H' r=>(∃cs,xI nx DI H' r cs (W.map ints))/\∀i,i<nx->H' i=H i):=by
 refine kA (KX W hW nx) (λn H0 r ⟨cs,WW,ids,h1,h2,h3⟩=>?_) hv;refine⟨_,ids,⟨h1,h2,h3⟩,λH' hk=>⟨cs,WW.RQ λi hi=>hk i (h1.yJ WW hi),ids,h1.BV hk,h2,h3⟩⟩
def WH(U)(hn:U.length<=1000)(nx){H xs}(hv:wU H xs [ints U]):AC prog 174 nx H xs (λDI H' r=>(∃r0 P B,r= .g [r0,P,B]/\LV nx DI H' r0 P B U (ZE U.length) (U9 U.length))/\∀i,i<nx->H' i=H i):=by
 refine kA ((RZ U hn nx).mono (Q':=λDI H' r=>∃r0 P B,r= .g [r0,P,B]/\LV nx DI H' r0 P B U (ZE U.length) (U9 U.length)) λDI H' r ⟨r0,P,B,cp,cb,e,hW⟩=>⟨r0,P,B,e,hW.1⟩) (λn H0 r ⟨r0,P,B,e,hW⟩=>?_) hv;obtain⟨Z,ids,ho,hk⟩:=hW.ids;exact⟨Z,ids,by rw[e];exact ho,λH' NC=>⟨r0,P,B,e,hk H' NC⟩⟩
def LV.lcO{a m H r P B U X Y}(h:LV a m H r P B U X Y)(hi:xJ r=true):LC H a m r (U.map (.i .i64)):=by
 obtain⟨i0,i1,i2,⟨h0,h1,h2⟩,h3,h4⟩:=h;by_cases hp:0<U.length
 ·obtain⟨q,rfl,rfl,g⟩:=h0.AL4 hp;have:=h4 q B5;exact .inr ⟨q,B5,g,this.1,this.2⟩
 obtain rfl:U=[]:=AX.1 A0;rcases h0.tA 0 [] rfl with ⟨rfl,_⟩|⟨rfl,_⟩|⟨id,cs,I1,rfl,rfl,g1,g2,g3⟩
 ·cases hi
 ·exact .nil
 have:=h4 id B5;obtain rfl:cs=[]:=AX.1 g2;exact .inr ⟨id,rfl,g1,this.1,this.2⟩
def Hr(Γ:KT)(ty:TypeId)(x:AV)(k:AV->Prop):Prop:=a8 Γ ty x k
@[congr] theorem AN2 {Γ ty x x' k}(h:x=x'):Hr Γ ty x k=Hr Γ ty x' k:=by rw[h]
def Cx{Γ P x ty NJ dst id s K}:SZ Γ P dst (.call ⟨.builtin .len,[x].toArray,(ty::NJ).toArray⟩) id s K=Hr Γ ty (FK s.t x) λr=>K ⟨EX s.t dst r,s.H,s.nx⟩:=Zm
def Cz{Γ ty H L n ts ids k}(h:Ow H L (.v n ts) ids){e}(Jp:Γ ty=some e){el}(he:e.d= .slice el):Hr Γ ty L k=k (.i .i64 n):=by
 unfold Hr a8;rw[Jp];dsimp only;rw[he];rcases h.tA _ _ rfl with ⟨rfl,_⟩|⟨rfl,rfl,_⟩|⟨id,cs,I1,rfl,_⟩<;>rfl
def LV.lens{a m H r P B U X Y}(h:LV a m H r P B U X Y):(∀k,Hr env 24 r k=k (.i .i64 U.length))/\(∀k,Hr env 25 P k=k (.i .i64 X.length))/\∀k,Hr env 26 B k=k (.i .i64 Y.length):=by
 obtain⟨i0,i1,i2,⟨h0,h1,h2⟩,h3,h4⟩:=h;exact⟨λk=>Cz h0 rfl rfl,λk=>Cz h1 rfl rfl,λk=>Cz h2 rfl rfl⟩
def Ub(bs:C2)(DP nx:Nat)(H G:HP)(r P B:AV):Prop:=(one r=true/\one P=true/\one B=true)/\G (nx+1)=some [.nl,.nl,.nl]/\(∃U X Y m,LV (nx+2+4) m G r P B U X Y/\wF U X Y)/\E9 bs DP G/\∀z,z<nx->z≠DP->G z=H z
def Ub.mk{bs DP nx m H G r P B U X Y}(h:LV (nx+2+4) m G r P B U X Y)(h0:G (nx+1)=some [.nl,.nl,.nl])(hd:wF U X Y)(hg:E9 bs DP G)(hl:∀z,z<nx->z≠DP->G z=H z):Ub bs DP nx H G r P B:=⟨h.WQ,h0,⟨U,X,Y,m,h,hd⟩,hg,hl⟩
def wH{bs DP nx H G r P B}(h:Ub bs DP nx H G r P B)(hs:DP<nx)(G')(hk:∀z,z≠nx+1->G' z=G z):∃H2,Le H2 G'/\∃r2,Fz H2 (TN nx H2) (.g [r,P,B]) r2/\Hq r2/\E9 bs DP H2/\∀i,i<nx->¬i=DP->H2 i=H i:=by
 obtain⟨_,h49,⟨os9,X9,Y9,m9,Xa,hd9⟩,Jj,hl9⟩:=h;exact⟨_,λ_ _ h=>h,_,(Xa.BV (λz z1 z2=>hk z A0) (A1 _)).fz A0,⟨os9,X9,Y9,rfl,hd9⟩,Jj.BV (hk _ A0),λz hz CP=>(hk _ A0).trans (hl9 z hz CP)⟩
def LV.AQJ{a m k H r P B U X Y}(h:LV a m H r P B U X Y)(hk:k<X.length):∃p rs,P= .h p 0 X.length/\H p=some rs/\rs.length=X.length/\(a<=p/\p<m)/\∀H':HP,(∀i,a<=i->i<m->H' i=H i)->Vw H' (rs.getD k .j) (ints (X.getD k [])):=by
 obtain⟨i0,i1,i2,⟨h0,h1,h2⟩,h3,h4⟩:=h;unfold rows at h1;obtain⟨p,rs,js,rfl,rfl,g1,g2,g3⟩:=h1.A3F A0;obtain⟨il,is,ir,rfl,s1,s2,s3⟩:=g3.cut (a:=k) A0;rw[EY hk]at s2;exact⟨p,rs,rfl,g1,g2,h4 p B5,λH' NC=>(s2.BV λi hi=>by have:=h4 i (by simp[hi]);exact NC i this.1 this.2).vw⟩
def LV.AMA{a m k H r P B U X Y}(h:LV a m H r P B U X Y)(hk:k<Y.length):∃b bs,B= .h b 0 Y.length/\H b=some bs/\bs.length=Y.length/\(a<=b/\b<m)/\(∀H':HP,(∀i,a<=i->i<m->H' i=H i)->Vw H' (bs.getD k .j) (rows (Y.getD k [])))/\
    ∀(H':HP) (r1:AV) (W:D4) (is:List Nat) (a' m':Nat),Ow H' r1 (rows W) is->is.Nodup->(∀i∈is,(i<a\/m<=i)/\a'<=i/\i<m')->H' b=some (DH bs k [r1])->(∀i,a<=i->i<m->i≠b->H' i=H i)->m<=m'->a'<=a->LV a' m' H' r P B U X (Y.set k W):=by
  have h9:=h;obtain⟨i0,i1,i2,⟨h0,h1,h2⟩,h3,h4⟩:=h;unfold B6 at h2;obtain⟨b,bs,js,rfl,rfl,g1,g2,g3⟩:=h2.A3F A0;obtain⟨il,is,ir,rfl,s1,s2,s3⟩:=g3.cut (a:=k) A0;rw[IK hk]at s2;refine⟨b,bs,rfl,g1,g2,h4 b B5,λH' NC=>(s2.BV λi hi=>by have:=h4 i (by simp[hi]);exact NC i this.1 this.2).vw,λH' r1 W is a' m' q1 q2 q3 q4 q5 q6 q7=>?_⟩;obtain⟨b',bs',e,g1',_,_,NA⟩:=h9.APR (a':=a') (m':=m') (H':=H') (r1:=r1) (W:=W) (is:=is) hk;injection e with e1 _ _
  subst e1;rw[g1]at g1';cases g1';exact NA q1 q2 q3 q4 q5 q6 q7
def A45{Γ:KT}{P:Program}{b:Nat}{ops:List Oper}{t:Tr}{s:St}{K:St->Prop}(t':Tr){α β:Type}{C:Nat->HP->α->β->Prop}{S:Nat->HP->α->β->St}(h1:(∀m H x y,C m H x y->PB Γ P b ops t' (S m H x y) K)->PB Γ P b ops t s K)(h2:∀m H x y,C m H x y->PB Γ P b ops t' (S m H x y) K):PB Γ P b ops t s K:=h1 h2
def AQK{N:St->Prop}{α β:Type}{C:Nat->HP->α->β->Prop}{S:Nat->HP->α->β->St}{G:Prop}(h1:(∀m H x y,C m H x y->N (S m H x y))->G)(h2:∀m H x y,C m H x y->N (S m H x y)):G:=h1 h2
def tX7:Tr:= .nil
def tX6:Tr:= .br 10 tX7 .nil
def tX5:Tr:= .br 8 tX6 .nil
def tX4:Tr:= .br 7 tX5 .nil
def tX3:Tr:= .br 6 tX5 .nil
def tX2:Tr:= .br 5 tX3 .nil
def tX1:Tr:= .br 6 tX4 (.br 7 tX3 .nil)
def tX0:Tr:= .br 5 tX1 (.br 7 tX2 .nil)
def AG4:Tr:= .nil
def tY9:Tr:= .br 14 AG4 .nil
def tY8:Tr:= .br 12 tY9 .nil
def tY7:Tr:= .br 11 tY8 .nil
def tY6:Tr:= .br 10 tY7 .nil
def tY5:Tr:= .br 6 tY8 .nil
def tY4:Tr:= .br 5 tY5 .nil
def tY3:Tr:= .br 6 tY7 (.br 11 tY5 .nil)
def tY2:Tr:= .br 5 tY3 (.br 11 tY4 .nil)
def tY1:Tr:= .br 6 tY6 (.br 10 tY3 .nil)
def tY0:Tr:= .br 5 tY1 (.br 10 tY2 .nil)
def wF.tr{U}(h:U.length<=8)(hb:∀x∈U,-1000<=x/\x<=1000):wF U (ZE U.length) (U9 U.length):=(AA2 h A0 hb).drw A0 h
set_option maxHeartbeats 4000000 in
def wI{bs DP H}(hg:E9 bs DP H)(U X Y)(h:BW U X Y)(nx)(WE:DP<nx):AC prog 105 nx H [.q DP 0,CI U X Y] (λDI H' r=>∃r2,Fz H' (TN nx H') r r2/\Hq r2/\E9 bs DP H'/\∀i,i<nx->i≠DP->H' i=H i):=by
 have hd:=h.drw
 have Q4:=h.1.1
 obtain⟨dd1,dd2,Yd,dd4⟩:=id hd
 refine CF AY func105 rfl AP ntmps105 results105 (λGM cX=>?_)
 refine GC ?_;refine BN 3 nx [ints U,rows X,B6 Y] rfl J4 ?_
 refine BH ?_;refine sQ λN hN=>?_;refine FF ?_;refine(fH U X Y A0 dd2 Yd _ (.cons (.refl _) .nil)).CD ?_
 rintro m1 H1 r1 SF ⟨r0,P,B,rfl,n7,Gi,IA⟩
 obtain⟨UF,YE,UE⟩:=n7.WQ
 (try simp-dsimp-implicitDefEqProofs(disch:=omega)only[go_sem,EZ,ints,CI,UF,YE,UE])
 apply hN;refine A6 λN1 CW=>BX (λG1 K6=>?_);dsimp only at K6
 have UC:∀i,i<nx->i≠DP->G1 i=H i:=λi hi CP=>by rw[<-K6];simp(disch:=omega)only[AB];rw[IA i A0];simp(disch:=omega)only[AB]
 have Mn:G1 (nx+1)=some [.nl,.nl,.nl]:=by rw[<-K6];simp(disch:=omega)only[AB];rw[IA _ A0];simp(disch:=omega)only[AB,AD]
 have Pw:E9 bs DP G1:=hg.BV (by rw[<-K6];simp(disch:=omega)only[AB];rw[IA _ A0];exact D8)
 replace n7:LV (nx+2+4) m1 G1 r0 P B U X Y:=n7.BV (λi i1 i2=>by rw[<-K6];exact D8) (A1 _)
 have UK:G1 (nx+2+2)=some [r0,P,B]:=by rw[<-K6];simp(disch:=omega)only[AD]
 clear K6
 obtain⟨bx,I4⟩:=EK (nx+2+2)
 rw[I4]at UK ⊢
 refine BH ?_;refine sQ λN hN=>?_;refine FF ?_;refine(DC Pw 6 A0 _).CD ?_
 rintro m2 H2 r2 Q8 ⟨⟨x2,rfl,Iu⟩,ZN,NC⟩
 have Nf:LV (nx+2+4) m1 H2 r0 P B U X Y:=n7.BV (λq q1 q2=>NC q A0 A0) (A1 _)
 have vE:H2 (nx+1)=some [.nl,.nl,.nl]:=(NC _ A0 A0).trans Mn
 have W3:H2 bx=some [r0,P,B]:=(NC _ A0 A0).trans UK
 have WV:∀q,q<nx->q≠DP->H2 q=H q:=λq h1 h2=>(NC q A0 h2).trans (UC q h1 h2)
 have WW:=Nf.lcO Gi
 have pK:=WW.one
 have YC:=WW.len
 have Xz:=WW.bd
 obtain⟨hlr,hlP,hlB⟩:=Nf.lens
 refine FF ?_
 apply hN;refine AA<|GC ?_;refine AK ?_ ?_<;>intro h1
 ·have Q5:=W3;have qI:=vE;have wJ:∀G9:HP,G9 (m2+2+3)=some (U.map (.i .i64)++[.i .i64 2])->(∀z,z<m2->bk r0≠z+1->z≠bx->G9 z=H2 z)->Ub bs DP nx H G9 (.h (m2+2+3) 0 (U.length+1)) P B:=λG9 e2 e3=> .mk (Nf.APS (H':=G9) (m':=m2+2+6) (Ow.ints (xs:=U++[2]) (by rw[e2];simp) B5) B5 (λi hi=>by simp at hi;omega) (λi i1 i2 i3=>e3 i A0 i3 A0) Gi A0 (A1 _)) ((e3 _ A0 A0 A0).trans vE) ⟨by simp;omega,dd2,Yd,kE dd4 A0⟩ (ZN.BV (e3 _ A0 A0 A0)) (λz hz CP=>(e3 z A0 A0 A0).trans (WV z hz CP))
  apply rQ;simp-dsimp-implicitDefEqProofs(disch:=(first|omega|((repeat refine LC.CJ A0 ?_);assumption))) only[go_sem,CI,W3,pK,YC,F2 (a:=nx+2+4) (b:=m1) (L:=r0) (cs:=U.map (.i .i64)),A4,DW];apply CW;refine aO UF YE UE Q5 qI ?_;refine BQ ?_;refine wH ?_ WE _ (λz hz=>AB _ _ hz)
  first
  |exact wJ _ I5 (λz z1 z2 z3=>by simp(disch:=omega)only[AB,DW])
  |exact wK _ (by simp(disch:=omega)only[AD,AB];rw[AJ B5]) I5 (λz z1 z2=>by simp(disch:=omega)only[AB];exact TC z z1)
  |exact wL _ LL (by simp(disch:=omega)only[AD,AB,DW];exact f10) LL (λz z1 z2 z3=>by simp(disch:=omega)only[AB,DW])
  |exact wM _ (λz z1=>AB _ _ z1)
  |exact WT
 refine GC ?_;refine AK ?_ ?_<;>intro h2
 ·refine BN 5 bx _ rfl W3 ?_;refine BX (λG3 J6=>?_);dsimp only at J6;have dT:LV (nx+2+4) m1 G3 r0 P B U X Y:=Nf.BV (λz z1 z2=>by rw[<-J6,AB _ _ A0]) (A1 _);have lC:G3 (nx+1)=some [.nl,.nl,.nl]:=by rw[<-J6,AB _ _ A0];exact vE
  have fA:E9 bs DP G3:=ZN.BV (by rw[<-J6,AB _ _ A0]);have YD:∀z,z<nx->z≠DP->G3 z=H z:=λz hz CP=>by rw[<-J6,AB _ _ A0];exact WV z hz CP
  have Q5:True:=trivial;have qI:=lC;have WT:=Ub.mk dT lC hd fA YD;clear J6;refine BH ?_;refine sQ λN hN=>?_;simp-dsimp-implicitDefEqProofs(disch:=omega)only[go_sem,CI,↓Cx,hlr];apply hN;refine AK ?_ ?_<;>intro h3
  ·obtain⟨q,rfl,hq,Dw,NA⟩:=dT.AL6 (k:=0) A0;clear WT;refine UR AY AP [true,true,true,false,false,true,false] AP ?_;(try simp-dsimp-implicitDefEqProofs(disch:=omega)only[go_sem,CI,↓A41,hq]);refine(NB (fA.BV (AB _ _ A0)) [4,1,11,0,-2] 5 (AD _ _ _) rfl A0 A0 _ A0 A0 A0).CD ?_;rintro m4 H4 r4 Xy ⟨⟨x4,rfl,hx4⟩,Tz,Ua⟩;have Ix: -1000<=x4/\x4<=1000:=by simp at hx4;omega
   have TC:∀z,z<m2->z≠DP->H4 z=G3 z:=λz z1 z2=>(Ua z A0 z2).trans (AB _ _ A0)
   have hq4:=(TC q A0 A0).trans hq;have qI:=(TC (nx+1) A0 A0).trans lC;have WT:Ub bs DP nx H (CJ H4 q (some (DH (U.map (AV.i .i64)) 0 [.i .i64 x4]))) (.h q 0 U.length) P B:= .mk ((NA x4).BV (λz z1 z2=>Nc (TC z A0 A0)) (A1 _)) ((AB _ _ A0).trans qI) ⟨by rw[D2];exact dd1,dd2,Yd,rL dd4 Ix⟩ (Tz.BV (AB _ _ A0)) (λz hz CP=>(AB _ _ A0).trans ((TC z A0 CP).trans (YD z hz CP)));(try simp-dsimp-implicitDefEqProofs(disch:=omega)only[go_sem,A4,CI,hq4])
   apply CW;refine aO UF YE UE Q5 qI ?_;refine BQ ?_;refine wH ?_ WE _ (λz hz=>AB _ _ hz)
   first
   |exact wJ _ I5 (λz z1 z2 z3=>by simp(disch:=omega)only[AB,DW])
   |exact wK _ (by simp(disch:=omega)only[AD,AB];rw[AJ B5]) I5 (λz z1 z2=>by simp(disch:=omega)only[AB];exact TC z z1)
   |exact wL _ LL (by simp(disch:=omega)only[AD,AB,DW];exact f10) LL (λz z1 z2 z3=>by simp(disch:=omega)only[AB,DW])
   |exact wM _ (λz z1=>AB _ _ z1)
   |exact WT
  apply AF;apply CW;refine aO UF YE UE Q5 qI ?_;refine BQ ?_;refine wH ?_ WE _ (λz hz=>AB _ _ hz)
  first
  |exact wJ _ I5 (λz z1 z2 z3=>by simp(disch:=omega)only[AB,DW])
  |exact wK _ (by simp(disch:=omega)only[AD,AB];rw[AJ B5]) I5 (λz z1 z2=>by simp(disch:=omega)only[AB];exact TC z z1)
  |exact wL _ LL (by simp(disch:=omega)only[AD,AB,DW];exact f10) LL (λz z1 z2 z3=>by simp(disch:=omega)only[AB,DW])
  |exact wM _ (λz z1=>AB _ _ z1)
  |exact WT
 refine GC ?_;refine AK ?_ ?_<;>intro h4
 ·refine BN 5 bx _ rfl W3 ?_;refine BX (λG3 J6=>?_);dsimp only at J6;have dT:LV (nx+2+4) m1 G3 r0 P B U X Y:=Nf.BV (λz z1 z2=>by rw[<-J6,AB _ _ A0]) (A1 _);have lC:G3 (nx+1)=some [.nl,.nl,.nl]:=by rw[<-J6,AB _ _ A0];exact vE
  have fA:E9 bs DP G3:=ZN.BV (by rw[<-J6,AB _ _ A0]);have YD:∀z,z<nx->z≠DP->G3 z=H z:=λz hz CP=>by rw[<-J6,AB _ _ A0];exact WV z hz CP
  have Q5:True:=trivial;have qI:=lC;have WT:=Ub.mk dT lC hd fA YD;clear J6;refine BH ?_;refine sQ λN hN=>?_;simp-dsimp-implicitDefEqProofs(disch:=omega)only[go_sem,CI,↓Cx,hlP];apply hN;refine AK ?_ ?_<;>intro h5
  ·obtain⟨p,rs,rfl,hp,VX,Pg,hvw⟩:=dT.AQJ (k:=0) A0;clear WT;have hX0:=dd2.row 0;refine AW.name λN hN=>?_;apply AG3 (N:=N)
   ·intro key;refine K5 AY AP [true,true,true,true,true,false,false,false,false,true,false] (tX0) AP ?_;refine FF ?_;apply y5 tX7 (C:=λm H id=>((m2+2+2+2+4+11<=m/\m2+2+2+2+4+11<=id/\id<m)/\H id=some ((X.getD 0 []).map (AV.i .i64))/\∀i,i<m2->H i=G3 i));intro AQL;apply y5 tX6 (C:=λm H id=>((m2+2+2+2+4+11<=m/\m2+2+2+2+4+11<=id/\id<m)/\H id=some ((X.getD 0 []).map (AV.i .i64))/\∀i,i<m2->H i=G3 i));intro AQM;apply y5 tX5 (C:=λm H id=>((m2+2+2+2+4+11<=m/\m2+2+2+2+4+11<=id/\id<m)/\H id=some ((X.getD 0 []).map (AV.i .i64))/\∀i,i<m2->H i=G3 i)/\H (m2+2+2+2+4+7)=some ([AV.i .i64 0]));intro AMB;apply y5 tX4 (C:=λm H id=>((m2+2+2+2+4+11<=m/\m2+2+2+2+4+11<=id/\id<m)/\H id=some ((X.getD 0 []).map (AV.i .i64))/\∀i,i<m2->H i=G3 i));intro AQN;apply qG tX3;intro AMC;apply qG tX2;intro AQO;apply qG tX1;intro AQP
    ·rw[tX0];refine UO hp VX ?_
     repeat' (with_reducible refine And.intro ?_ ?_)
     all_goals try (with_reducible first|exact AQP|exact AQO)
    ·rw[tX1];refine UO hp VX ?_
     repeat' (with_reducible refine And.intro ?_ ?_)
     all_goals try (with_reducible first|exact AMC)
     refine(AA7 (X.getD 0 []) A0 _ (.cons (hvw _ (λi i1 i2=>by first|rfl|exact AB _ _ A0)) .nil)).CD ?_;rintro m9 H9 r9 oI ⟨⟨x9,rfl,hx9,AG5,AG6⟩,iE⟩;refine UO hp VX ?_
     exact AQN m9 H9 x9 (And.intro (And.intro oI (And.intro hx9 AG5)) (And.intro AG6 (λi hi=>(iE i A0).trans (by first|rfl|exact AB _ _ A0))))
    ·rw[tX2];refine UO hp VX ?_
     repeat' (with_reducible refine And.intro ?_ ?_)
     all_goals try (with_reducible first|exact AMC)
    ·rw[tX3];refine UO hp VX ?_
     repeat' (with_reducible refine And.intro ?_ ?_)
     refine(AA7 (X.getD 0 []) A0 _ (.cons (hvw _ (λi i1 i2=>by first|rfl|exact AB _ _ A0)) .nil)).CD ?_;rintro m9 H9 r9 oI ⟨⟨x9,rfl,hx9,AG5,AG6⟩,iE⟩;refine UO hp VX ?_
     exact AMB m9 H9 x9 ⟨And.intro (And.intro oI (And.intro hx9 AG5)) (And.intro AG6 (λi hi=>(iE i A0).trans (by first|rfl|exact AB _ _ A0))),(iE _ A0).trans I5⟩
    ·intro m9 H9 x9 hC;have hA:=hC;have f7:True:=trivial;have hp5:=(hA.2.2 p A0).trans hp;have Hs:=hA.2.1;have AG7:=hA.1;rw[tX4];refine fY hp5 VX Hs f7 ?_
     repeat' (with_reducible refine And.intro ?_ ?_)
     all_goals first|exact AMB m9 _ x9 ⟨And.intro hA.1 (And.intro ((AB _ _ A0).trans Hs) (λi hi=>(AB _ _ A0).trans (hA.2.2 i hi))),AD _ _ _⟩
    ·intro m9 H9 x9 hC;obtain⟨hA,f7⟩:=hC;have hp5:=(hA.2.2 p A0).trans hp;have Hs:=hA.2.1;have AG7:=hA.1;rw[tX5];refine fY hp5 VX Hs f7 ?_
     repeat' (with_reducible refine And.intro ?_ ?_)
     all_goals try (with_reducible first|exact AQM m9 H9 x9 (hA))
    ·intro m9 H9 x9 hC;have hA:=hC;have f7:True:=trivial;have hp5:=(hA.2.2 p A0).trans hp;have Hs:=hA.2.1;have AG7:=hA.1;rw[tX6];refine fY hp5 VX Hs f7 ?_
     repeat' (with_reducible refine And.intro ?_ ?_)
     all_goals try (with_reducible first|exact AQL m9 H9 x9 (hA))
    intro m9 H9 x9 hC;have hA:=hC;have f7:True:=trivial;have hp5:=(hA.2.2 p A0).trans hp;have Hs:=hA.2.1;have AG7:=hA.1;rw[tX7];refine fY hp5 VX Hs f7 ?_
    exact key m9 H9 x9 hA
   intro m5 H5 id5 hC;obtain⟨⟨hm5,Fm,AR7⟩,AR8,TC⟩:=hC;have qI:=(TC (nx+1) A0).trans lC;have wK:∀G9:HP,G9 (m2+2+2+2+4+8)=some ((X.getD 0 []).map (AV.i .i64)++[.i .i64 0])->G9 p=some (DH rs 0 [.h (m2+2+2+2+4+8) 0 ((X.getD 0 []).length+1)])->(∀z,z<m2->z≠p->G9 z=G3 z)->Ub bs DP nx H G9 r0 (.h p 0 X.length) B:=λG9 e1 e2 e3=> .mk (dT.bO (H':=G9) (a':=nx+2+4) (m':=m2+2+2+2+4+9) (x:=X.getD 0 []++[0]) hp A0 rfl (Ow.ints (by rw[e1];simp) B5) B5 (λi hi=>by simp at hi;omega) e2 (λi i1 i2 i3=>e3 i A0 i3) A0 (A1 _)) ((e3 (nx+1) A0 A0).trans lC) ⟨dd1,dd2.set (v:=X.getD 0 []++[0]) (by rw[AH,E3];have:=(h.2.2.2 0 (by have:=h.1.2.1;omega)).1.1;omega),Yd,dd4⟩ (fA.BV (e3 DP A0 A0)) (λz hz CP=>(e3 z A0 A0).trans (YD z hz CP))
   apply hN;apply CW;refine aO UF YE UE Q5 qI ?_;refine BQ ?_;refine wH ?_ WE _ (λz hz=>AB _ _ hz)
   first
   |exact wJ _ I5 (λz z1 z2 z3=>by simp(disch:=omega)only[AB,DW])
   |exact wK _ (by simp(disch:=omega)only[AD,AB];rw[AJ B5]) I5 (λz z1 z2=>by simp(disch:=omega)only[AB];exact TC z z1)
   |exact wL _ LL (by simp(disch:=omega)only[AD,AB,DW];exact f10) LL (λz z1 z2 z3=>by simp(disch:=omega)only[AB,DW])
   |exact wM _ (λz z1=>AB _ _ z1)
   |exact WT
  apply AF;apply CW;refine aO UF YE UE Q5 qI ?_;refine BQ ?_;refine wH ?_ WE _ (λz hz=>AB _ _ hz)
  first
  |exact wJ _ I5 (λz z1 z2 z3=>by simp(disch:=omega)only[AB,DW])
  |exact wK _ (by simp(disch:=omega)only[AD,AB];rw[AJ B5]) I5 (λz z1 z2=>by simp(disch:=omega)only[AB];exact TC z z1)
  |exact wL _ LL (by simp(disch:=omega)only[AD,AB,DW];exact f10) LL (λz z1 z2 z3=>by simp(disch:=omega)only[AB,DW])
  |exact wM _ (λz z1=>AB _ _ z1)
  |exact WT
 refine GC ?_;refine AK ?_ ?_<;>intro h6
 ·refine BN 5 bx _ rfl W3 ?_;refine BX (λG3 J6=>?_);dsimp only at J6;have dT:LV (nx+2+4) m1 G3 r0 P B U X Y:=Nf.BV (λz z1 z2=>by rw[<-J6,AB _ _ A0]) (A1 _);have lC:G3 (nx+1)=some [.nl,.nl,.nl]:=by rw[<-J6,AB _ _ A0];exact vE
  have fA:E9 bs DP G3:=ZN.BV (by rw[<-J6,AB _ _ A0]);have YD:∀z,z<nx->z≠DP->G3 z=H z:=λz hz CP=>by rw[<-J6,AB _ _ A0];exact WV z hz CP
  have Q5:True:=trivial;have qI:=lC;have WT:=Ub.mk dT lC hd fA YD;clear J6;refine BH ?_;refine sQ λN hN=>?_;(try simp-dsimp-implicitDefEqProofs(disch:=omega)only[go_sem,CI,↓Cx,hlP])
  refine J5.mk' (λh7=>?_) (λh7=>?_)
  ·try simp only[cn]at h7
   have hX0:=(h.2.2.2 0 (by have:=h.1.2.1;omega)).1.1;obtain⟨p,rs,q,rfl,hp,VX,pG,hq,Pg,Dw,hpq,NA⟩:=dT.A3G (k:=0) (l:=0) A0 (by have:=h.1.2.1;omega);clear WT;have WT:Ub bs DP nx H (CJ G3 q (some (DH ((X.getD 0 []).map (AV.i .i64)) 0 [.i .i64 1]))) r0 (.h p 0 X.length) B:= .mk (NA 1) ((AB _ _ A0).trans lC) ⟨dd1,dd2.set (by rw[D2];omega),Yd,dd4⟩ (fA.BV (AB _ _ A0)) (λz hz CP=>(AB _ _ A0).trans (YD z hz CP));refine tH hp VX pG ?_
   refine FF ?_
   apply hN;refine AK ?_ ?_<;>intro h8
   ·apply rQ;simp-dsimp-implicitDefEqProofs(disch:=omega)only[go_sem,A4,CI,hp,VX,pG,hq];apply CW;refine aO UF YE UE Q5 qI ?_;refine BQ ?_;refine wH ?_ WE _ (λz hz=>AB _ _ hz)
    first
    |exact wJ _ I5 (λz z1 z2 z3=>by simp(disch:=omega)only[AB,DW])
    |exact wK _ (by simp(disch:=omega)only[AD,AB];rw[AJ B5]) I5 (λz z1 z2=>by simp(disch:=omega)only[AB];exact TC z z1)
    |exact wL _ LL (by simp(disch:=omega)only[AD,AB,DW];exact f10) LL (λz z1 z2 z3=>by simp(disch:=omega)only[AB,DW])
    |exact wM _ (λz z1=>AB _ _ z1)
    |exact WT
   exfalso;have:=h.1.2.1;first|omega|(simp at h8;omega)
  try simp only[cn]at h7
  refine FF ?_
  apply hN;refine DJ rfl ?_;apply AF;apply CW;refine aO UF YE UE Q5 qI ?_;refine BQ ?_;refine wH ?_ WE _ (λz hz=>AB _ _ hz)
  first
  |exact wJ _ I5 (λz z1 z2 z3=>by simp(disch:=omega)only[AB,DW])
  |exact wK _ (by simp(disch:=omega)only[AD,AB];rw[AJ B5]) I5 (λz z1 z2=>by simp(disch:=omega)only[AB];exact TC z z1)
  |exact wL _ LL (by simp(disch:=omega)only[AD,AB,DW];exact f10) LL (λz z1 z2 z3=>by simp(disch:=omega)only[AB,DW])
  |exact wM _ (λz z1=>AB _ _ z1)
  |exact WT
 refine GC ?_;refine AK ?_ ?_<;>intro h9
 ·refine BN 5 bx _ rfl W3 ?_;refine BX (λG3 J6=>?_);dsimp only at J6;have dT:LV (nx+2+4) m1 G3 r0 P B U X Y:=Nf.BV (λz z1 z2=>by rw[<-J6,AB _ _ A0]) (A1 _);have lC:G3 (nx+1)=some [.nl,.nl,.nl]:=by rw[<-J6,AB _ _ A0];exact vE
  have fA:E9 bs DP G3:=ZN.BV (by rw[<-J6,AB _ _ A0]);have YD:∀z,z<nx->z≠DP->G3 z=H z:=λz hz CP=>by rw[<-J6,AB _ _ A0];exact WV z hz CP
  have Q5:True:=trivial;have qI:=lC;have WT:=Ub.mk dT lC hd fA YD;clear J6;refine BH ?_;refine sQ λN hN=>?_;simp-dsimp-implicitDefEqProofs(disch:=omega)only[go_sem,CI,↓Cx,hlB];apply hN;refine AK ?_ ?_<;>intro Df
  ·obtain⟨b,bs1,rfl,hb,X5,ASB,hvw,NA⟩:=dT.AMA (k:=0) A0;clear WT;have iJ:0<U.length:=by have:=h.1.2.2;omega
   obtain⟨q0,rfl,eV,ASC,-⟩:=dT.AL6 (k:=0) iJ;have hY0:=Yd.row 0;have A46:=hY0.n;refine AW.name λN hN=>?_;apply AQK (N:=N)
   ·intro key;refine K5 AY AP [true,true,true,true,true,false,false,true,true,true,false,false,false,true,false] (tY0) AP ?_;refine FF ?_;apply A45 AG4 (C:=λm H L cs=>(m2+2+2+2+2+2+4+15<=m/\xI (m2+2+2+2+2+2+4+15) m H L cs ((Y.getD 0 []).map ints)/\∀i,i<m2->H i=G3 i)/\H (m2+2+2+2+2+2+4+10)=some (List.replicate U.length (AV.i .i64 0)));intro AMD;apply A45 tY9 (C:=λm H L cs=>(m2+2+2+2+2+2+4+15<=m/\xI (m2+2+2+2+2+2+4+15) m H L cs ((Y.getD 0 []).map ints)/\∀i,i<m2->H i=G3 i)/\H (m2+2+2+2+2+2+4+10)=some (List.replicate U.length (AV.i .i64 0)));intro AQQ;apply A45 tY8 (C:=λm H L cs=>(m2+2+2+2+2+2+4+15<=m/\xI (m2+2+2+2+2+2+4+15) m H L cs ((Y.getD 0 []).map ints)/\∀i,i<m2->H i=G3 i)/\H (m2+2+2+2+2+2+4+10)=some (List.replicate U.length (AV.i .i64 0))/\H (m2+2+2+2+2+2+4+11)=some ([AV.h (m2+2+2+2+2+2+4+10) 0 U.length]));intro AME;apply A45 tY7 (C:=λm H L cs=>(m2+2+2+2+2+2+4+15<=m/\xI (m2+2+2+2+2+2+4+15) m H L cs ((Y.getD 0 []).map ints)/\∀i,i<m2->H i=G3 i)/\H (m2+2+2+2+2+2+4+10)=some (List.replicate U.length (AV.i .i64 0)));intro AMF;apply A45 tY6 (C:=λm H L cs=>(m2+2+2+2+2+2+4+15<=m/\xI (m2+2+2+2+2+2+4+15) m H L cs ((Y.getD 0 []).map ints)/\∀i,i<m2->H i=G3 i));intro AQR;apply qG tY5;intro AMG;apply qG tY4;intro AQS;apply qG tY3;intro AMH;apply qG tY2;intro AQT;apply qG tY1;intro AQU
    ·rw[tY0];refine UO hb X5 ?_
     repeat' (with_reducible refine And.intro ?_ ?_)
     all_goals try (with_reducible first|exact AQU|exact AQT)
    ·rw[tY1];refine UO hb X5 ?_
     repeat' (with_reducible refine And.intro ?_ ?_)
     all_goals try (with_reducible first|exact AMH)
     refine(Nd (Y.getD 0 []) hY0 _ (.cons (hvw _ (λi i1 i2=>by first|rfl|(simp(disch:=omega)only[AB]))) .nil)).CD ?_;rintro m9 H9 L9 oI ⟨⟨qJ,Jg⟩,iE⟩;refine UO hb X5 ?_
     exact AQR m9 H9 L9 qJ (And.intro oI (And.intro Jg (λi hi=>(iE i A0).trans (by first|rfl|(simp(disch:=omega)only[AB])))))
    ·rw[tY2];refine UO hb X5 ?_
     repeat' (with_reducible refine And.intro ?_ ?_)
     all_goals try (with_reducible first|exact AMH|exact AQS)
    ·rw[tY3];refine UO hb X5 ?_
     repeat' (with_reducible refine And.intro ?_ ?_)
     all_goals try (with_reducible first|exact AMG)
     refine(Nd (Y.getD 0 []) hY0 _ (.cons (hvw _ (λi i1 i2=>by first|rfl|(simp(disch:=omega)only[AB]))) .nil)).CD ?_;rintro m9 H9 L9 oI ⟨⟨qJ,Jg⟩,iE⟩;refine UO hb X5 ?_
     exact AMF m9 H9 L9 qJ ⟨And.intro oI (And.intro Jg (λi hi=>(iE i A0).trans (by first|rfl|(simp(disch:=omega)only[AB])))),(iE _ A0).trans I5⟩
    ·rw[tY4];refine UO hb X5 ?_
     repeat' (with_reducible refine And.intro ?_ ?_)
     all_goals try (with_reducible first|exact AMG)
    ·rw[tY5];refine UO hb X5 ?_
     repeat' (with_reducible refine And.intro ?_ ?_)
     refine(Nd (Y.getD 0 []) hY0 _ (.cons (hvw _ (λi i1 i2=>by first|rfl|(simp(disch:=omega)only[AB]))) .nil)).CD ?_;rintro m9 H9 L9 oI ⟨⟨qJ,Jg⟩,iE⟩;refine UO hb X5 ?_
     exact AME m9 H9 L9 qJ ⟨And.intro oI (And.intro Jg (λi hi=>(iE i A0).trans (by first|rfl|(simp(disch:=omega)only[AB])))),(iE _ A0).trans I5,(iE _ A0).trans I5⟩
    ·intro m9 H9 L9 qJ hC;have hA:=hC;have f10:True:=trivial;have f11:True:=trivial;have gU:=(hA.2.2 b A0).trans hb;have hm8:=hA.1;have WW:=hA.2.1.1;have pK:=WW.one;have YC:=WW.len;have Xz:=WW.bd;have KW:qJ.length<=1048576:=by rw[hA.2.1.len,A4];exact A46
     rw[tY6];try simp-dsimp-implicitDefEqProofs(disch:=(first|omega|((repeat refine LC.CJ A0 ?_);assumption))) only[go_sem,gU,X5,pK,YC,f10,f11,mZ,DW,A4,F2 (a:=m2+2+2+2+2+2+4+15) (b:=m9) (L:=L9) (cs:=qJ)]
     repeat' (with_reducible refine And.intro ?_ ?_)
     all_goals first|exact AMF m9 _ L9 qJ ⟨And.intro hA.1 (And.intro (hA.2.1.BV (λi i1 i2=>AB _ _ A0) (A1 _)) (λi hi=>(AB _ _ A0).trans (hA.2.2 i hi))),AD _ _ _⟩
    ·intro m9 H9 L9 qJ hC;obtain⟨hA,f10⟩:=hC;have f11:True:=trivial;have gU:=(hA.2.2 b A0).trans hb;have hm8:=hA.1;have WW:=hA.2.1.1;have pK:=WW.one;have YC:=WW.len;have Xz:=WW.bd;have KW:qJ.length<=1048576:=by rw[hA.2.1.len,A4];exact A46
     rw[tY7];try simp-dsimp-implicitDefEqProofs(disch:=(first|omega|((repeat refine LC.CJ A0 ?_);assumption))) only[go_sem,gU,X5,pK,YC,f10,f11,mZ,DW,A4,F2 (a:=m2+2+2+2+2+2+4+15) (b:=m9) (L:=L9) (cs:=qJ)]
     repeat' (with_reducible refine And.intro ?_ ?_)
     all_goals first|exact AME m9 _ L9 qJ ⟨And.intro hA.1 (And.intro (hA.2.1.BV (λi i1 i2=>AB _ _ A0) (A1 _)) (λi hi=>(AB _ _ A0).trans (hA.2.2 i hi))),(AB _ _ A0).trans f10,AD _ _ _⟩
    ·intro m9 H9 L9 qJ hC;obtain⟨hA,f10,f11⟩:=hC;have gU:=(hA.2.2 b A0).trans hb;have hm8:=hA.1;have WW:=hA.2.1.1;have pK:=WW.one;have YC:=WW.len;have Xz:=WW.bd;have KW:qJ.length<=1048576:=by rw[hA.2.1.len,A4];exact A46
     rw[tY8];try simp-dsimp-implicitDefEqProofs(disch:=(first|omega|((repeat refine LC.CJ A0 ?_);assumption))) only[go_sem,gU,X5,pK,YC,f10,f11,mZ,DW,A4,F2 (a:=m2+2+2+2+2+2+4+15) (b:=m9) (L:=L9) (cs:=qJ)]
     repeat' (with_reducible refine And.intro ?_ ?_)
     all_goals try (with_reducible first|exact AQQ m9 H9 L9 qJ ⟨hA,f10⟩)
    ·intro m9 H9 L9 qJ hC;obtain⟨hA,f10⟩:=hC;have f11:True:=trivial;have gU:=(hA.2.2 b A0).trans hb;have hm8:=hA.1;have WW:=hA.2.1.1;have pK:=WW.one;have YC:=WW.len;have Xz:=WW.bd;have KW:qJ.length<=1048576:=by rw[hA.2.1.len,A4];exact A46
     rw[tY9];try simp-dsimp-implicitDefEqProofs(disch:=(first|omega|((repeat refine LC.CJ A0 ?_);assumption))) only[go_sem,gU,X5,pK,YC,f10,f11,mZ,DW,A4,F2 (a:=m2+2+2+2+2+2+4+15) (b:=m9) (L:=L9) (cs:=qJ)]
     repeat' (with_reducible refine And.intro ?_ ?_)
     all_goals try (with_reducible first|exact AMD m9 H9 L9 qJ ⟨hA,f10⟩)
    intro m9 H9 L9 qJ hC;obtain⟨hA,f10⟩:=hC;have f11:True:=trivial;have gU:=(hA.2.2 b A0).trans hb;have hm8:=hA.1;have WW:=hA.2.1.1;have pK:=WW.one;have YC:=WW.len;have Xz:=WW.bd;have KW:qJ.length<=1048576:=by rw[hA.2.1.len,A4];exact A46
    rw[AG4];try simp-dsimp-implicitDefEqProofs(disch:=(first|omega|((repeat refine LC.CJ A0 ?_);assumption))) only[go_sem,gU,X5,pK,YC,f10,f11,mZ,DW,A4,F2 (a:=m2+2+2+2+2+2+4+15) (b:=m9) (L:=L9) (cs:=qJ)]
    exact key m9 H9 L9 qJ (And.intro hA f10)
   intro m6 H6 L6 cs6 hC;obtain⟨⟨hm6,Jg,Dp⟩,f10⟩:=hC;have Xz:=Jg.1.bd;have qI:=(Dp (nx+1) A0).trans lC;have wL:∀G9:HP,G9 (m2+2+2+2+2+2+4+12)=some (cs6++[.h (m2+2+2+2+2+2+4+10) 0 U.length])->G9 (m2+2+2+2+2+2+4+10)=some (List.replicate U.length (.i .i64 0))->G9 b=some (DH bs1 0 [.h (m2+2+2+2+2+2+4+12) 0 (cs6.length+1)])->(∀z,z≠b->(z<m2\/m2+2+2+2+2+2+4+15<=z)->bk L6≠z+1->G9 z=H6 z)->Ub bs DP nx H G9 (.h q0 0 U.length) P (.h b 0 Y.length):=λG9 e1 e2 e3 e4=>by
    obtain⟨WW,ids,g1,g2,g3⟩:=Jg;have ho:Ow G9 (.h (m2+2+2+2+2+2+4+10) 0 U.length) (ints (List.replicate U.length 0)) [m2+2+2+2+2+2+4+10]:=Ow.ints (by rw[e2];simp) B5;obtain⟨I1,k1,k2,k3,k4⟩:=g1.more (H':=G9) (id:=m2+2+2+2+2+2+4+12) WW ho e1 (λi hi CP=>e4 i (by have:=g3 i hi;omega) (by have:=g3 i hi;omega) CP) g2;have dJ:=(h.2.2.2 0 iJ).2.1;have hz:(Y.getD 0 []).map ints++[ints (List.replicate U.length 0)]=(Y.getD 0 []++[List.replicate U.length 0]).map ints:=B5;rw[hz,<-SK]at k1;have hz2:FC (Y.getD 0 []++[List.replicate U.length 0]):=⟨by rw[AH,E3];omega,kE hY0.v (by simp;omega)⟩;refine .mk (NA G9 _ _ _ (nx+2+4) m6 k1 ?_ ?_ e3 (λi i1 i2 i3=>(e4 i i3 A0 A0).trans (Dp i A0)) A0 (A1 _)) ((e4 _ A0 A0 A0).trans qI) ⟨dd1,dd2,Yd.set hz2,dd4⟩ (fA.BV ((e4 _ A0 A0 A0).trans (Dp _ A0))) (λz hz CP=>((e4 _ A0 A0 A0).trans (Dp _ A0)).trans (YD z hz CP))
    ·rw[C1,BA];refine⟨λhm=>?_,k3,B5,λx hx y hy e=>?_⟩
     ·rcases AG.1 hm with hm|hm
      ·have:=g3 _ (k2 _ hm);omega
      simp at hm
     have:=g3 _ (k2 _ hx);simp at hy;omega
    intro i hi;rcases BJ.1 hi with rfl|hi
    ·omega
    rcases AG.1 hi with hi|hi
    ·have:=g3 _ (k2 _ hi);omega
    simp at hi;omega
   apply hN;apply CW;refine aO UF YE UE Q5 qI ?_;refine BQ ?_;refine wH ?_ WE _ (λz hz=>AB _ _ hz)
   first
   |exact wJ _ I5 (λz z1 z2 z3=>by simp(disch:=omega)only[AB,DW])
   |exact wK _ (by simp(disch:=omega)only[AD,AB];rw[AJ B5]) I5 (λz z1 z2=>by simp(disch:=omega)only[AB];exact TC z z1)
   |exact wL _ LL (by simp(disch:=omega)only[AD,AB,DW];exact f10) LL (λz z1 z2 z3=>by simp(disch:=omega)only[AB,DW])
   |exact wM _ (λz z1=>AB _ _ z1)
   |exact WT
  apply AF;apply CW;refine aO UF YE UE Q5 qI ?_;refine BQ ?_;refine wH ?_ WE _ (λz hz=>AB _ _ hz)
  first
  |exact wJ _ I5 (λz z1 z2 z3=>by simp(disch:=omega)only[AB,DW])
  |exact wK _ (by simp(disch:=omega)only[AD,AB];rw[AJ B5]) I5 (λz z1 z2=>by simp(disch:=omega)only[AB];exact TC z z1)
  |exact wL _ LL (by simp(disch:=omega)only[AD,AB,DW];exact f10) LL (λz z1 z2 z3=>by simp(disch:=omega)only[AB,DW])
  |exact wM _ (λz z1=>AB _ _ z1)
  |exact WT
 refine sQ λN hN=>?_;refine FF ?_;refine(WH [7,7,7,7] B5 _ (.cons (nJ (U:=[7,7,7,7]) (AD _ _ _) rfl) .nil)).CD ?_
 rintro m7 H7 r7 hm7 ⟨⟨r9,P9,B9,rfl,Xa⟩,Jd⟩
 obtain⟨UF,YE,UE⟩:=Xa.WQ
 have hk8:∀z,z<m2->H7 z=H2 z:=λz hz=>(Jd z A0).trans (AB _ _ A0)
 have fB:=(hk8 bx A0).trans W3
 (try simp-dsimp-implicitDefEqProofs(disch:=omega)only[go_sem,EZ,CI,UF,YE,UE,fB])
 apply hN;refine BX (λG7 nS=>?_);dsimp only at nS
 have Q5:G7 bx=some [r9,P9,B9]:=by rw[<-nS,AD]
 have Nb:G7 (nx+1)=some [.nl,.nl,.nl]:=by rw[<-nS,AB _ _ A0];exact(hk8 _ A0).trans vE
 have Dy:E9 bs DP G7:=ZN.BV (by rw[<-nS,AB _ _ A0];exact hk8 _ A0)
 have Na:∀z,z<nx->z≠DP->G7 z=H z:=λz hz CP=>by rw[<-nS,AB _ _ A0,hk8 z A0];exact WV z hz CP
 replace Xa:=Xa.BV (H':=G7) (m':=m7) (λz z1 z2=>by rw[<-nS,AB _ _ A0]) (A1 _)
 clear nS
 refine BH ?_;refine sQ λN hN=>?_;refine FF ?_;refine(DC Dy 2 A0 _).CD ?_
 rintro m8 H8 r8 hm8 ⟨⟨x8,rfl,hx8⟩,hg8,iE⟩
 replace Q5:=(iE bx A0 A0).trans Q5
 have qI:=(iE (nx+1) A0 A0).trans Nb
 have hl8:∀z,z<nx->z≠DP->H8 z=H z:=λz hz CP=>(iE z A0 CP).trans (Na z hz CP)
 have WT:Ub bs DP nx H H8 r9 P9 B9:= .mk ((Xa.BV (H':=H8) (λz z1 z2=>iE z A0 A0) (A1 _)).wide A0 (A1 _)) qI (wF.tr B5 HT) hg8 hl8
 refine FF ?_
 apply hN;refine AK ?_ ?_<;>intro iT
 ·refine OK ?_;refine(WH [2,2,2,2,2,2,2] B5 _ (.cons (nJ (U:=[2,2,2,2,2,2,2]) (AD _ _ _) rfl) .nil)).CD ?_;rintro m10 H10 r10 AEL ⟨⟨r11,P11,B11,rfl,AA8⟩,A8L⟩;obtain⟨UF,YE,UE⟩:=AA8.WQ;have Hp:∀z,z<m8->H10 z=H8 z:=λz hz=>(A8L z A0).trans (AB _ _ A0)
  have AQV:=(Hp bx A0).trans Q5;replace qI:=(Hp (nx+1) A0).trans qI;have wM:∀G9:HP,(∀z,z≠bx->G9 z=H10 z)->Ub bs DP nx H G9 r11 P11 B11:=λG9 e=> .mk ((AA8.BV (H':=G9) (λz z1 z2=>e z A0) (A1 _)).wide A0 (A1 _)) ((e _ A0).trans qI) (wF.tr B5 HT) (hg8.BV ((e _ A0).trans (Hp _ A0))) (λz hz CP=>((e _ A0).trans (Hp _ A0)).trans (hl8 z hz CP))
  (try simp-dsimp-implicitDefEqProofs(disch:=omega)only[go_sem,EZ,CI,UF,YE,UE,AQV])
  apply CW;refine aO UF YE UE Q5 qI ?_;refine BQ ?_;refine wH ?_ WE _ (λz hz=>AB _ _ hz)
  first
  |exact wJ _ I5 (λz z1 z2 z3=>by simp(disch:=omega)only[AB,DW])
  |exact wK _ (by simp(disch:=omega)only[AD,AB];rw[AJ B5]) I5 (λz z1 z2=>by simp(disch:=omega)only[AB];exact TC z z1)
  |exact wL _ LL (by simp(disch:=omega)only[AD,AB,DW];exact f10) LL (λz z1 z2 z3=>by simp(disch:=omega)only[AB,DW])
  |exact wM _ (λz z1=>AB _ _ z1)
  |exact WT
 apply AF;apply CW;refine aO UF YE UE Q5 qI ?_;refine BQ ?_;refine wH ?_ WE _ (λz hz=>AB _ _ hz)
 first
 |exact wJ _ I5 (λz z1 z2 z3=>by simp(disch:=omega)only[AB,DW])
 |exact wK _ (by simp(disch:=omega)only[AD,AB];rw[AJ B5]) I5 (λz z1 z2=>by simp(disch:=omega)only[AB];exact TC z z1)
 |exact wL _ LL (by simp(disch:=omega)only[AD,AB,DW];exact f10) LL (λz z1 z2 z3=>by simp(disch:=omega)only[AB,DW])
 |exact wM _ (λz z1=>AB _ _ z1)
 |exact WT
def wN{bs DP H}(hg:E9 bs DP H)(U X Y)(h:BW U X Y)(nx)(WE:DP<nx):AC prog 105 nx H [.q DP 0,CI U X Y] (sK bs DP nx H Hq):=wD WE (wI hg U X Y h nx WE)
end
end Go.Proofs.YtgknbnkmilddhaaGreat