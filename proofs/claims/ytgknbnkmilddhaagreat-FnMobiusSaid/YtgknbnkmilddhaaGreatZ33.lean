import Derived.Test.YtgknbnkmilddhaaGreatZ31
import Derived.Test.YtgknbnkmilddhaaGreatZ32
set_option linter.unusedVariables false
set_option linter.unusedSimpArgs false

namespace Go.Proofs.YtgknbnkmilddhaaGreat
theorem eF(W:List (List Int))(hW:BO W)(nx:Nat)(H:HP):AC Tryz.prog 123 nx H [rows W] (zK nx H (λr=>r=rows W)):=by
  refine SS ((DX W hW nx).mono λBB H' r ⟨cs,h⟩=>?_) H;obtain⟨h1,ids,h2,h3,h4⟩:=h;refine⟨rows W,?_,rfl⟩;rw[IU];exact h2.QC λi hi=>QD (h4 i hi).1
set_option maxHeartbeats 4000000 in
theorem XP(pr n:Int)(W:List (List Int))(q:Nat)(IY:1<=pr/\pr<=10)(hq:q<=6)(hW:mN q W)(hn:1<=n/\n<=64):∀nx,AC Tryz.prog 225 nx BM [.i .i64 pr,rows W,.i .i64 n] (λBB H' r=>∃r2,Fz H' (JI nx H') r r2/\ZH 12 r2):=by
 have hWl:=hW.l
 intro nx
 refine BS AA Tryz.func225 rfl A7 Tryz.ntmps225 Tryz.results225 (λcX=>?_)
 refine HR ?_;refine sQ λN hN=>?_;refine Q3 ?_;refine(FG n hn.1 A0 _ _).AS ?_
 rintro m1 H1 r1 T6 ⟨⟨fs,b1,rfl,UP,fW⟩,eC⟩
 have Mb:=(VP UP A0).2 hn.2
 have xI:H1 nx=some [.nl,.nl,.nl]:=(eC nx A0).trans (A4 _ _ _)
 refine TB ?_
 apply hN;refine sQ λN hN=>?_;refine Q3 ?_;refine(CJ fs A0 _ _).AS ?_
 rintro m2 H2 r2 LN ⟨GC,rfl,jG,WC,rfl⟩
 refine Q3 ?_
 apply hN;refine AW.seq λN1 B2=>?_;refine AI (λG0 C9=>?_);dsimp only at C9
 have h0n:G0 nx=some [.nl,.nl,.nl]:=by rw[<-C9];simp(disch:=omega)only[A1];exact xI
 have hL0:LC G0 (nx+1) m2 (.h GC 0 fs.length) (fs.map (.i .i64)):= .inr ⟨GC,by rw[List.length_map],by rw[<-C9,A4,O9],A0,WC⟩
 refine HR ?_;apply AW.block;refine A8 (α:=Nat×HP×AV) (λx=>sl 102 [(0,.i .i64 pr),(1,rows W),(6,.q nx 0),(7,ints fs),(9,x.2.2),(10,.i .i64 x.1)]) (λx=>x.2.1) (λx m=>(x.1<=q/\m2<=m)/\x.2.1 nx=some [.nl,.nl,.nl]/\LC x.2.1 (nx+1) m x.2.2 ((fs++List.replicate x.1 pr).map (.i .i64))) (λx=>q-x.1) ((0,G0,.h GC 0 fs.length)) ?_ ?_ (λ_ _ h=>h) ?_
 ·exact⟨⟨AB,A9⟩,h0n,by simpa using hL0.wide (Nat.le_refl _) A9⟩
 ·simp(disch:=omega) [AN,AO,sl,AR,ints,rows]
 skip
 rintro⟨i,G,L⟩ m ⟨⟨hi,hm⟩,C9,hL⟩
 refine AG ?_;dsimp only at hi hm C9 hL ⊢
 have MA:=hL.one
 have IJ:=hL.len
 rw[List.length_map,List.length_append,List.length_replicate]at IJ
 refine AW.seq λN2 B7=>?_;refine sQ λN hN=>?_;simp-dsimp-implicitDefEqProofs(maxSteps:=800000) (disch:=omega)only[go_sem,ints,AP,rows];apply hN;refine AW.cond rfl ?_ ?_<;>intro h1<;>try simp only[cn]at h1
 ·have JN:((fs++List.replicate i pr).map (AV.i .i64)).length=fs.length+i:=by rw[List.length_map,List.length_append,List.length_replicate]
  apply AW.skip;apply B7;refine AW.seq λN3 BC=>?_;apply AW.block;apply rQ;simp-dsimp-implicitDefEqProofs(disch:=(first|omega|((repeat refine LC.AT A0 ?_);assumption))) only[go_sem,AP,ints,MA,IJ,JN,BP (a:=nx+1) (b:=m) (L:=L) (cs:=(fs++List.replicate i pr).map (.i .i64))]
  apply BC;refine AI (λG3 CB=>?_);dsimp only at CB;refine WO ?_;refine⟨(i+1,G3,.h (m+4+3) 0 (fs.length+(i+1))),?_,λ_ _ h=>h,?_,?_⟩
  ·simp(disch:=omega) [AN,AO,sl,AR,ints,rows]<;>omega
  ·have GA:LC G3 (nx+1) (m+4+5+3) (.h (m+4+3) 0 (fs.length+(i+1))) ((fs++List.replicate (i+1) pr).map (.i .i64)):=LC.mk (by rw[<-CB];simp(disch:=omega)only[A1,A4];simp[List.replicate_succ']) (by rw[List.length_map,List.length_append,List.length_replicate]) A0 A0;have QL:G3 nx=some [.nl,.nl,.nl]:=by
    rw[<-CB];exact(A1 _ _ A0).trans ((AY (λe=>by have:=hL.bd;omega)).trans ((A1 _ _ A0).trans C9))
   first|exact⟨⟨A9,A9⟩,QL,GA⟩|exact⟨A9,QL,GA⟩
  first|omega|(simp only;omega)
 have hiq:i=q:=A0
 obtain⟨os,U2⟩:∃os,fs++List.replicate i pr=os:=⟨_,rfl⟩
 have mE:os.length=fs.length+q:=by rw[<-U2,List.length_append,List.length_replicate,hiq]
 have bV:∀x∈os,-1000<=x/\x<=1000:=λx hx=>by
  rw[<-U2]at hx;rcases List.mem_append.1 hx with h|h
  ·have:=fW x h;omega
  have:=(List.mem_replicate.1 h).2;omega
 rw[U2]at hL
 apply AW.exit;apply B2;refine Jh 9 L (os.map (.i .i64)) rfl hL ?_
 rw[List.length_map]
 refine AI (λG1 I8=>?_);dsimp only at I8
 have h1n:G1 nx=some [.nl,.nl,.nl]:=by rw[<-I8];exact(AY (λe=>by have:=hL.bd;omega)).trans C9
 refine AG ?_;refine sQ λN hN=>?_;refine Q3 ?_;refine(C7 os A0 _ (.cons (.refl _) .nil)).AS ?_
 intro m4 H4 r4 Bd sZ
 obtain⟨P,B,bc,rfl,O2,O3,NW,CL⟩:=HA.start (N:=12) (bx:=m+4+2) sZ A0 A0 bV A0
 refine jT O2 O3 ?_
 apply hN;refine HR ?_;refine AW.seq λN4 CF=>?_;refine AI (λG2 Be=>?_);dsimp only at Be
 have OR:HA 12 (m+4+4) m4 (m+4+2) os P B bc (P3 os.length) (KC os.length) G2:=by rw[<-Be];exact CL
 have h20:G2 nx=some [.nl,.nl,.nl]:=by rw[<-Be,A1 _ _ A0];exact(NW nx A0).trans h1n
 obtain⟨bx,tB⟩:∃bx,m+4+2=bx:=⟨_,rfl⟩
 obtain⟨lo,MD⟩:∃lo,m+4+4=lo:=⟨_,rfl⟩
 rw[tB,MD]at OR
 rw[tB]
 refine HR ?_;apply AW.block;refine A8 (α:=Nat×HP×List (List Int)) (λx=>sl 102 [(0,.i .i64 pr),(1,rows W),(6,.q nx 0),(7,ints fs),(9,ints os),(11,.q bx 0),(12,.i .i64 fs.length),(13,.i .i64 x.1)]) (λx=>x.2.1) (λx m=>(x.1<=fs.length/\m4<=m)/\x.2.1 nx=some [.nl,.nl,.nl]/\HA 12 lo m bx os P B bc x.2.2 (KC os.length) x.2.1) (λx=>fs.length-x.1) ((0,G2,P3 os.length)) ?_ ?_ (λ_ _ h=>h) ?_
 ·exact⟨⟨AB,A9⟩,h20,OR.AJ (λ_ _=>rfl) A0 A9⟩
 ·simp(disch:=omega) [AN,AO,sl,AR,ints,rows]
 skip
 rintro⟨i,G,X⟩ m ⟨⟨hi,hm⟩,C9,CL⟩
 refine AG ?_;dsimp only at hi hm C9 CL ⊢
 have C4:=CL.lt
 refine AW.seq λN5 DL=>?_;refine HR ?_;refine AW.cond rfl ?_ ?_<;>intro h2<;>try simp only[cn]at h2
 ·obtain⟨p,Sr,LQ,UP,TF,Ay,EP⟩:=CL.QE (k:=i) A0;apply AW.skip;apply DL;refine AW.seq λN6 FR=>?_;apply AW.block;refine AM AA A7 9 A7 ?_
  refine Dv LQ UP TF ?_;refine⟨_,.of (LH os.length (i+1) A0 A0),?_⟩;refine kA LQ UP TF ?_
  apply FR;refine AI (λG3 CB=>?_);dsimp only at CB;refine WO ?_;refine⟨(i+1,G3,X.set i (TZ os.length (i+1))),?_,λ_ _ h=>h,?_,?_⟩
  ·simp(disch:=omega) [AN,AO,sl,AR,ints,rows]
  ·have SG:HA 12 lo (m+4+10+3) bx os P B bc (X.set i (TZ os.length (i+1))) (KC os.length) G3:=by rw[<-CB];exact EP _ _ (by rw[NT];omega) A0
   have QL:G3 nx=some [.nl,.nl,.nl]:=by rw[<-CB,A1 _ _ A0];exact C9
   first|exact⟨⟨A9,A9⟩,QL,SG⟩|exact⟨A9,QL,SG⟩
  first|omega|(simp only;omega)
 apply AW.exit;apply CF;refine sQ λN hN=>?_;refine Q3 ?_;refine(eF W ⟨A0,λw hw=>by have:=(hW.r w hw).1;omega⟩ _ _).AS ?_
 rintro m5 H5 r5 zU ⟨rfl,Vy⟩
 have VT:=CL.AJ (G':=H5) (m':=m5+1) (λj hj=>Vy j A0) A0 A0
 have h50:=(Vy nx A0).trans C9
 refine Q3 ?_
 apply hN;refine AW.seq λN7 MV=>?_;refine HR ?_;apply AW.block;refine A8 (α:=Nat×HP×List (List (List Int))×List (List Int)) (λx=>sl 102 [(0,.i .i64 pr),(1,rows W),(6,.q nx 0),(7,ints fs),(11,.q bx 0),(12,.i .i64 fs.length),(14,rows x.2.2.2),(15,.i .i64 x.1)]) (λx=>x.2.1) (λx m=>(x.1<=fs.length/\m4<=m)/\x.2.1 nx=some [.nl,.nl,.nl]/\HA 12 lo m bx os P B bc X x.2.2.1 x.2.1/\mN q x.2.2.2) (λx=>fs.length-x.1) ((0,H5,KC os.length,W)) ?_ ?_ (λ_ _ h=>h) ?_
 ·exact⟨⟨AB,A9⟩,h50,VT.AJ (λ_ _=>rfl) A0 A9,hW⟩
 ·simp(disch:=omega) [AN,AO,sl,AR,ints,rows]
 skip
 rintro⟨i,G,Y,A⟩ m ⟨⟨hi,hm⟩,C9,CL,hA⟩
 refine AG ?_;dsimp only at hi hm C9 CL hA ⊢
 refine AW.seq λN8 OB=>?_;refine HR ?_;refine AW.cond rfl ?_ ?_<;>intro h3<;>try simp only[cn]at h3
 ·have hif:i<fs.length:=A0;have hAl:=hA.l;apply AW.skip;apply OB;refine AW.seq λN9 SC=>?_;apply AW.block;refine AW.seq λAm IQ=>?_;refine HR ?_;apply AW.block;refine A8 (α:=Nat×HP×List (List (List Int))) (λx=>sl 102 [(0,.i .i64 pr),(1,rows W),(6,.q nx 0),(7,ints fs),(11,.q bx 0),(12,.i .i64 fs.length),(14,rows A),(15,.i .i64 i),(16,.i .i64 x.1)]) (λx=>x.2.1) (λx m=>(x.1<=q/\m4<=m)/\x.2.1 nx=some [.nl,.nl,.nl]/\HA 12 lo m bx os P B bc X x.2.2 x.2.1) (λx=>q-x.1) ((0,G,Y)) ?_ ?_ (λ_ _ h=>h) ?_
  ·exact⟨⟨AB,A9⟩,C9,CL.AJ (λ_ _=>rfl) A0 A9⟩
  ·simp(disch:=omega) [AN,AO,sl,AR,ints,rows]
  skip
  rintro⟨d,G,Y⟩ m ⟨⟨hd,hm⟩,C9,CL⟩;refine AG ?_;dsimp only at hd hm C9 CL ⊢;have C4:=CL.lt;refine AW.seq λDu JO=>?_;refine sQ λN hN=>?_;simp-dsimp-implicitDefEqProofs(maxSteps:=800000) (disch:=omega)only[go_sem,ints,AP,rows];apply hN;refine AW.cond rfl ?_ ?_<;>intro h4<;>try simp only[cn]at h4
  ·obtain⟨b,qq,hBe,JZ,LZ,PJ,SG,O0,KY,JT,YS,Lz,EP⟩:=CL.V9 (k:=i) (l:=fs.length+d-i-1) A0 A0;have ek:((fs.length:Int)+d-i-1).toNat=fs.length+d-i-1:=A0;have hAd:=hA.at d;have hAr:(A.map ints).getD d .j=ints (A.getD d []):=BN A0;apply AW.skip;apply JO;refine AW.seq λOt PA=>?_;apply AW.block;refine AM AA A7 18 A7 ?_
   (try simp-dsimp-implicitDefEqProofs(maxSteps:=800000) (disch:=omega)only[go_sem,List.drop_nil,List.drop_succ_cons,List.drop_zero,List.take_nil,List.take_succ_cons,List.take_zero,BW,BE,BF,ints,AP,rows,AR,JZ,LZ,PJ,O0,KY,JT,ek,hAr]);refine⟨_,.of (F5 fs.length (A.getD d []) 0 A0 A0 A0),?_⟩;(try simp-dsimp-implicitDefEqProofs(maxSteps:=800000) (disch:=omega)only[go_sem,ints,AP,JZ,LZ,PJ,O0,KY,JT,ek])
   apply PA;refine AI (λG5 EU=>?_);dsimp only at EU;refine WO ?_;refine⟨(d+1,G5,Y.set i ((Y.getD i []).set (fs.length+d-i-1) (qI fs.length (A.getD d []) 0))),?_,λ_ _ h=>h,?_,?_⟩
   ·simp(disch:=omega) [AN,AO,sl,AR,ints,rows]<;>omega
   ·have VT:HA 12 lo (m+4+19+3) bx os P B bc X (Y.set i ((Y.getD i []).set (fs.length+d-i-1) (qI fs.length (A.getD d []) 0))) G5:=by rw[<-EU];exact EP _ _ (by rw[RB];omega) A0
    have eE:G5 nx=some [.nl,.nl,.nl]:=by rw[<-EU,A1 _ _ A0];exact C9
    first|exact⟨⟨A9,A9⟩,eE,VT⟩|exact⟨A9,eE,VT⟩
   first|omega|(simp only;omega)
  have hfi:=GU (p:=λx:Int=>0<=x/\x<=7) (X:=fs) (d:=0) (λx hx=>by have:=fW x hx;omega) A0 i;apply AW.exit;apply IQ;refine HR ?_;refine HR ?_;apply AW.block;refine A8 (α:=Nat×HP×List (List Int)) (λx=>sl 102 [(0,.i .i64 pr),(1,rows W),(6,.q nx 0),(7,ints fs),(11,.q bx 0),(12,.i .i64 fs.length),(14,rows x.2.2),(15,.i .i64 i),(17,rows A),(18,.i .i64 ((x.1:Int)+1))]) (λx=>x.2.1) (λx m=>(x.1<=10/\m4<=m)/\x.2.1 nx=some [.nl,.nl,.nl]/\HA 12 lo m bx os P B bc X Y x.2.1/\mN q x.2.2) (λx=>10-x.1) ((0,G,A)) ?_ ?_ (λ_ _ h=>h) ?_
  ·exact⟨⟨AB,A9⟩,C9,CL.AJ (λ_ _=>rfl) A0 A9,hA⟩
  ·simp(disch:=omega) [AN,AO,sl,AR,ints,rows]
  skip
  rintro⟨e,G,A2⟩ m ⟨⟨he,hm⟩,C9,CL,hA2⟩;refine AG ?_;dsimp only at he hm C9 CL hA2 ⊢;have C4:=CL.lt;refine AW.seq λN13 RG=>?_;refine sQ λN hN=>?_;simp-dsimp-implicitDefEqProofs(maxSteps:=800000) (disch:=omega)only[go_sem,AL,ints,AP];apply hN;refine AW.cond rfl ?_ ?_<;>intro h5<;>try simp only[cn]at h5
  ·have AEA:=hA2.l;apply AW.skip;apply RG;refine AW.seq λN14 RH=>?_;apply AW.block;apply rQ;simp-dsimp-implicitDefEqProofs(maxSteps:=800000) (disch:=omega)only[go_sem,ints,AP,rows];rw[hWl]
   refine(VS pr IY q A0 A2 A hA2 hA _ _).AS ?_;rintro m7 H7 r7 hm7 ⟨⟨A3,rfl,hA3⟩,pI⟩;have S1:=CL.AJ (G':=H7) (m':=m7+3) (λj hj=>pI j A0) A0 A0;have h70:=(pI nx A0).trans C9;refine Q3 ?_
   apply RH;refine WO ?_;refine⟨(e+1,H7,A3),?_,λ_ _ h=>h,?_,?_⟩
   ·simp(disch:=omega) [AN,AO,sl,AR,ints,rows]<;>omega
   ·first|exact⟨⟨A9,A9⟩,h70,S1,hA3⟩|exact⟨A9,h70,S1,hA3⟩
   first|omega|(simp only;omega)
  apply AW.exit;apply SC;refine WO ?_;refine⟨(i+1,G,Y,A2),?_,λ_ _ h=>h,?_,?_⟩
  ·simp(disch:=omega) [AN,AO,sl,AR,ints,rows]<;>omega
  ·have Jm:=CL.AJ (m':=m+6+3) (λ_ _=>rfl) A0 A0;first|exact⟨⟨A9,A9⟩,C9,Jm,hA2⟩|exact⟨A9,C9,Jm,hA2⟩
  first|omega|(simp only;omega)
 have JZ:=CL.cl
 have C4:=CL.lt
 apply AW.exit;apply MV;refine sQ λN hN=>?_;simp-dsimp-implicitDefEqProofs(maxSteps:=800000) (disch:=omega)only[go_sem,ints,AP,JZ,C9,CL.MR.1,CL.MR.2];apply hN;refine AH ?_;exact⟨_,CL.fz (λi hi=>A1 _ _ A0) A0,os,_,_,rfl,CL.sh⟩
theorem DU(pr n:Int)(W:List (List Int))(q:Nat)(IY:1<=pr/\pr<=10)(hq:q<=6)(hW:mN q W)(hn:1<=n/\n<=64)(nx:Nat)(H:HP):AC Tryz.prog 225 nx H [.i .i64 pr,rows W,.i .i64 n] (zK nx H (ZH 12)):=SS (XP pr n W q IY hq hW hn nx) H
theorem HA.lo{N lo lo' m bx:Nat}{os:List Int}{P B:AV}{bc:List AV}{X:List (List Int)}{Y:List (List (List Int))}{G:HP}(h:HA N lo m bx os P B bc X Y G)(hl:lo'<=lo)(hb:bx<lo'):HA N lo' m bx os P B bc X Y G:=⟨h.cl,h.rg.AJ (λ_ _ _=>rfl) hl (Nat.le_refl _),h.sh,hb⟩
theorem mkB{N:St->Prop}{C:Nat->HP->Nat->AV->AV->List AV->Prop}{S:Nat->HP->Nat->AV->AV->St}{G:Prop}(h1:(∀m H i P B bc,C m H i P B bc->N (S m H i P B))->G)(h2:∀m H i P B bc,C m H i P B bc->N (S m H i P B)):G:=h1 h2
theorem XQ{H:HP}{id n:Nat}{os:List Int}(h:H id=some (os.map (.i .i64)))(hn:os.length=n):Vw H (.h id 0 n) (Go.Proofs.YtgknbnkmilddhaaGreat.ints os):=by
  subst hn;have:=Vw.fr (n:=os.length) h AB;exact this
set_option maxRecDepth 20000 in
set_option maxHeartbeats 4000000 in
theorem eG(MS PK:List Int)(X1 X2:List (List Int))(Y1 Y2:List (List (List Int)))(h1:U0 12 MS X1 Y1)(h2:U0 12 PK X2 Y2):∀nx,AC Tryz.prog 173 nx BM [AP MS X1 Y1,AP PK X2 Y2] (λBB H' r=>∃r2,Fz H' (JI nx H') r r2/\ZH 24 r2):=by
 have Z1:∀k l,((Y1.getD k []).getD l []).length<=72/\(X1.getD k []).length<=72:=λk l=>⟨h1.A81 k l,h1.row k⟩
 have Vo:∀k l,((Y2.getD k []).getD l []).length<=72/\(X2.getD k []).length<=72:=λk l=>⟨h2.A81 k l,h2.row k⟩
 obtain⟨o1,p1,c1,q1,-,-,b1⟩:=h1
 obtain⟨o2,p2,c2,q2,-,-,b2⟩:=h2
 obtain⟨os,U2⟩:∃os,MS++PK=os:=⟨_,rfl⟩
 have mE:os.length=MS.length+PK.length:=by rw[<-U2,List.length_append]
 have bV:∀x∈os,-1000<=x/\x<=1000:=λx hx=>by
  rw[<-U2]at hx;rcases List.mem_append.1 hx with h|h
  ·exact b1 x h
  exact b2 x h
 intro nx
 refine BS AA Tryz.func173 rfl A7 Tryz.ntmps173 Tryz.results173 (λcX=>?_)
 refine C2 ?_;refine AK 2 nx [ints MS,rows X1,A6 Y1] rfl (by simp(disch:=omega)only[A1,A4]) ?_
 refine AK 3 (nx+1) [ints PK,rows X2,A6 Y2] rfl (by simp(disch:=omega)only[A1,A4]) ?_
 refine AG ?_;refine AW.seq λN hN=>?_;refine AM AA A7 8 A7 ?_
 (try simp-dsimp-implicitDefEqProofs(maxSteps:=800000) (disch:=omega)only[go_sem,List.drop_nil,List.drop_succ_cons,List.drop_zero,List.take_nil,List.take_succ_cons,List.take_zero,BW,BE,BF,ints,AP,AR]);apply hN;refine AW.seq λN hN=>?_;apply mkB (N:=N)
 ·intro key;refine EO AA A7 [true,true,false,true,true,false,false,false,false] (.br 2 (.br 5 (.br 6 (.br 7 (.br 8 .nil .nil) .nil) (.br 7 (.br 6 (.br 8 .nil .nil) .nil) .nil)) (.br 7 (.br 5 (.br 6 (.br 8 .nil .nil) .nil) .nil) .nil)) (.br 7 (.br 2 (.br 5 (.br 6 (.br 8 .nil .nil) .nil) .nil) .nil) .nil)) A7 ?_;refine BR ?_;refine⟨?_,?_⟩
  ·skip
   refine(CJ MS A0 _ _).AS ?_;rintro m2 H2 r2 LN ⟨GC,rfl,jG,WC,rfl⟩;refine Q3 ?_
   refine⟨⟨?_,?_⟩,?_⟩;all_goals
    refine(C7 os A0 _ (.cons (XQ (os:=os) (by simp(disch:=omega)only[A1,A4,XO,U2]) mE) .nil)).AS ?_;intro m4 H4 r4 Bd sZ;obtain⟨P,B,bc,rfl,O2,O3,NW,CL⟩:=HA.start (N:=24) (bx:=nx+3+8+7) sZ A0 A0 bV A0;have h40:H4 (nx+2)=some [.nl,.nl,.nl]:=by rw[NW _ A0];simp(disch:=omega)only[A1,A4]
    first|(have hc:H4 (nx+3+8+7)=some [.nl,.nl,.nl]:=by rw[NW _ A0];simp(disch:=omega)only[A1,A4])|have hc:True:=trivial
    ((try simp-dsimp-implicitDefEqProofs(maxSteps:=800000) (disch:=omega)only[go_sem,Bool.and_true,ints,LY,O2,O3,hc]));exact key m4 H4 GC P B bc (And.intro (show nx+3+8+9<=m4 by omega) (And.intro h40 (And.intro (And.intro O2 O3) (CL.lo (lo':=nx+3+8+9) A0 A0))))
  skip
  refine(CJ MS A0 _ _).AS ?_;rintro m2 H2 r2 LN ⟨GC,rfl,jG,WC,rfl⟩;refine Q3 ?_
  refine(C7 os A0 _ (.cons (XQ (os:=os) (by simp(disch:=omega)only[A1,A4,XO,U2]) mE) .nil)).AS ?_;intro m4 H4 r4 Bd sZ;obtain⟨P,B,bc,rfl,O2,O3,NW,CL⟩:=HA.start (N:=24) (bx:=nx+3+8+7) sZ A0 A0 bV A0;have h40:H4 (nx+2)=some [.nl,.nl,.nl]:=by rw[NW _ A0];simp(disch:=omega)only[A1,A4]
  first|(have hc:H4 (nx+3+8+7)=some [.nl,.nl,.nl]:=by rw[NW _ A0];simp(disch:=omega)only[A1,A4])|have hc:True:=trivial
  (try simp-dsimp-implicitDefEqProofs(maxSteps:=800000) (disch:=omega)only[go_sem,Bool.and_true,ints,LY,O2,O3,hc])
  exact key m4 H4 GC P B bc (And.intro (show nx+3+8+9<=m4 by omega) (And.intro h40 (And.intro (And.intro O2 O3) (CL.lo (lo':=nx+3+8+9) A0 A0))))
 intro m4 H4 GC P B bc hC
 obtain⟨Bd,h40,⟨O2,O3⟩,CL⟩:=hC
 apply hN;refine AW.seq λN1 B2=>?_;refine AI (λG1 I8=>?_);dsimp only at I8
 replace CL:HA 24 (nx+3+8+9) m4 (nx+3+8+7) os P B bc (P3 os.length) (KC os.length) G1:=by rw[<-I8];exact CL
 have VZ:G1 (nx+2)=some [.nl,.nl,.nl]:=by rw[<-I8,A1 _ _ A0];exact h40
 obtain⟨bx,tB⟩:∃bx,nx+3+8+7=bx:=⟨_,rfl⟩
 obtain⟨lo,MD⟩:∃lo,nx+3+8+9=lo:=⟨_,rfl⟩
 rw[tB,MD]at CL
 rw[tB]
 refine AG ?_;refine C2 ?_;apply AW.block;refine A8 (α:=Nat×HP×List (List Int)×List (List (List Int))) (λx=>sl 116 [(2,.p 0 [ints MS,rows X1,A6 Y1]),(3,.p 0 [ints PK,rows X2,A6 Y2]),(4,.q (nx+2) 0),(5,.i .i64 MS.length),(6,.i .i64 PK.length),(7,.q bx 0),(8,.i .i64 x.1)]) (λx=>x.2.1) (λx m=>(x.1<=MS.length/\m4<=m)/\x.2.1 (nx+2)=some [.nl,.nl,.nl]/\HA 24 lo m bx os P B bc x.2.2.1 x.2.2.2 x.2.1) (λx=>MS.length-x.1) ((0,G1,P3 os.length,KC os.length)) ?_ ?_ (λ_ _ h=>h) ?_
 ·exact⟨⟨AB,A9⟩,VZ,CL.AJ (λ_ _=>rfl) A0 A9⟩
 ·simp(disch:=omega) [AN,AO,sl,AR,ints,rows,A6]
 skip
 rintro⟨i,G,X,Y⟩ m ⟨⟨hi,hm⟩,C9,CL⟩
 refine AG ?_;dsimp only at hi hm C9 CL ⊢
 have C4:=CL.lt
 refine AW.seq λN2 B7=>?_;refine C2 ?_;refine AW.cond rfl ?_ ?_<;>intro h1<;>try simp only[cn]at h1
 ·obtain⟨p,Sr,LQ,UP,TF,Ay,EP⟩:=CL.QE (k:=i) A0;have hX:=(Z1 i 0).2;have hgr:(X1.map ints).getD i .j=ints (X1.getD i []):=BN A0;apply AW.skip;apply B7;refine AW.seq λN3 BC=>?_;apply AW.block;refine AW.seq λN hN=>?_;refine AM AA A7 11 A7 ?_
  (try simp-dsimp-implicitDefEqProofs(maxSteps:=800000) (disch:=omega)only[go_sem,List.drop_nil,List.drop_succ_cons,List.drop_zero,List.take_nil,List.take_succ_cons,List.take_zero,BW,BE,BF,AP,rows,AR,LQ,UP,TF,hgr]);refine⟨_,.of (F5 0 (X1.getD i []) PK.length A0 A0 A0),?_⟩;refine kA LQ UP TF ?_
  apply hN;refine C2 ?_;apply AW.block;refine AI (λG3 CB=>?_);dsimp only at CB
  have SG:HA 24 lo (m+3+12) bx os P B bc (X.set i (qI 0 (X1.getD i []) PK.length)) Y G3:=by rw[<-CB];exact EP _ _ (by rw[RB];omega) A0
  have QL:G3 (nx+2)=some [.nl,.nl,.nl]:=by rw[<-CB,A1 _ _ A0];exact C9
  obtain⟨X3,hX3⟩:∃X3,X.set i (qI 0 (X1.getD i []) PK.length)=X3:=⟨_,rfl⟩;rw[hX3]at SG;refine A8 (α:=Nat×HP×List (List (List Int))) (λx=>sl 116 [(2,.p 0 [ints MS,rows X1,A6 Y1]),(3,.p 0 [ints PK,rows X2,A6 Y2]),(4,.q (nx+2) 0),(5,.i .i64 MS.length),(6,.i .i64 PK.length),(7,.q bx 0),(8,.i .i64 i),(9,.i .i64 x.1)]) (λx=>x.2.1) (λx m=>(x.1<=MS.length-1-i/\m4<=m)/\x.2.1 (nx+2)=some [.nl,.nl,.nl]/\HA 24 lo m bx os P B bc X3 x.2.2 x.2.1) (λx=>MS.length-1-i-x.1) ((0,G3,Y)) ?_ ?_ (λ_ _ h=>h) ?_
  ·exact⟨⟨AB,A9⟩,QL,SG.AJ (λ_ _=>rfl) A0 A9⟩
  ·simp(disch:=omega) [AN,AO,sl,AR,ints,rows,A6]
  skip
  rintro⟨j,G,Y⟩ m ⟨⟨hj,hm⟩,C9,CL⟩;refine AG ?_;dsimp only at hj hm C9 CL ⊢;have C4:=CL.lt;have Vq:(Y1.map rows).getD i .j= .v (MS.length-1-i) ((Y1.getD i []).map ints):=by rw[DT A0,rows,q1 i A0]
  refine AW.seq λN4 CF=>?_;refine sQ λN hN=>?_;simp-dsimp-implicitDefEqProofs(maxSteps:=800000) (disch:=omega)only[go_sem,A6,AP,Vq];apply hN;refine AW.cond rfl ?_ ?_<;>intro h2<;>try simp only[cn]at h2
  ·obtain⟨b,qq,hBe,JZ,LZ,PJ,SG,O0,KY,JT,YS,Lz,EP⟩:=CL.V9 (k:=i) (l:=j) A0 A0;have hgr:((Y1.getD i []).map ints).getD j .j=ints ((Y1.getD i []).getD j []):=BN (by rw[q1 i A0];omega);have hXl:=(Z1 i j).1;have bN:=q1 i A0;apply AW.skip;apply CF;refine AW.seq λN5 DL=>?_;apply AW.block;refine AM AA A7 17 A7 ?_
   (try simp-dsimp-implicitDefEqProofs(maxSteps:=800000) (disch:=omega)only[go_sem,List.drop_nil,List.drop_succ_cons,List.drop_zero,List.take_nil,List.take_succ_cons,List.take_zero,A6,BW,BE,BF,AP,AR,Vq,hgr,JZ,LZ,PJ,O0,KY,JT]);refine⟨_,.of (F5 0 ((Y1.getD i []).getD j []) PK.length A0 A0 A0),?_⟩;(try simp-dsimp-implicitDefEqProofs(maxSteps:=800000) (disch:=omega)only[go_sem,ints,AP,JZ,LZ,PJ,O0,KY,JT])
   apply DL;refine AI (λG5 EU=>?_);dsimp only at EU;refine KT ?_;refine⟨(j+1,G5,Y.set i ((Y.getD i []).set j (qI 0 ((Y1.getD i []).getD j []) PK.length))),?_,λ_ _ h=>h,?_,?_⟩
   ·simp(disch:=omega) [AN,AO,sl,AR,ints,rows,A6]
   ·have VT:HA 24 lo (m+8+18+3) bx os P B bc X3 (Y.set i ((Y.getD i []).set j (qI 0 ((Y1.getD i []).getD j []) PK.length))) G5:=by rw[<-EU];exact EP _ _ (by rw[RB];omega) A0
    have eE:G5 (nx+2)=some [.nl,.nl,.nl]:=by rw[<-EU,A1 _ _ A0];exact C9
    first|exact⟨⟨A9,A9⟩,eE,VT⟩|exact⟨A9,eE,VT⟩
   first|omega|(simp only;omega)
  apply AW.exit;apply BC;refine KT ?_;refine⟨(i+1,G,X3,Y),?_,λ_ _ h=>h,?_,?_⟩
  ·simp(disch:=omega) [AN,AO,sl,AR,ints,rows,A6]
  ·have Jm:=CL.AJ (m':=m+8+3) (λ_ _=>rfl) A0 A0;first|exact⟨⟨A9,A9⟩,C9,Jm⟩|exact⟨A9,C9,Jm⟩
  first|omega|(simp only;omega)
 apply AW.exit;apply B2;refine AW.seq λN6 FR=>?_;refine C2 ?_;apply AW.block;refine A8 (α:=Nat×HP×List (List Int)×List (List (List Int))) (λx=>sl 116 [(3,.p 0 [ints PK,rows X2,A6 Y2]),(4,.q (nx+2) 0),(5,.i .i64 MS.length),(6,.i .i64 PK.length),(7,.q bx 0),(10,.i .i64 x.1)]) (λx=>x.2.1) (λx m=>(x.1<=PK.length/\m4<=m)/\x.2.1 (nx+2)=some [.nl,.nl,.nl]/\HA 24 lo m bx os P B bc x.2.2.1 x.2.2.2 x.2.1) (λx=>PK.length-x.1) ((0,G,X,Y)) ?_ ?_ (λ_ _ h=>h) ?_
 ·exact⟨⟨AB,A9⟩,C9,CL.AJ (λ_ _=>rfl) A0 A9⟩
 ·simp(disch:=omega) [AN,AO,sl,AR,ints,rows,A6]
 skip
 rintro⟨i,G,X,Y⟩ m ⟨⟨hi,hm⟩,C9,CL⟩
 refine AG ?_;dsimp only at hi hm C9 CL ⊢
 have C4:=CL.lt
 refine AW.seq λN7 MV=>?_;refine C2 ?_;refine AW.cond rfl ?_ ?_<;>intro h3<;>try simp only[cn]at h3
 ·obtain⟨p,Sr,LQ,UP,TF,Ay,EP⟩:=CL.QE (k:=MS.length+i) A0;have hX:=(Vo i 0).2;have ek:((MS.length:Int)+i).toNat=MS.length+i:=A0;have hgr:(X2.map ints).getD i .j=ints (X2.getD i []):=BN A0;apply AW.skip;apply MV;refine AW.seq λN8 OB=>?_;apply AW.block;refine AW.seq λN hN=>?_;refine AM AA A7 13 A7 ?_
  (try simp-dsimp-implicitDefEqProofs(maxSteps:=800000) (disch:=omega)only[go_sem,List.drop_nil,List.drop_succ_cons,List.drop_zero,List.take_nil,List.take_succ_cons,List.take_zero,BW,BE,BF,AP,rows,AR,LQ,UP,TF,hgr,ek]);refine⟨_,.of (F5 MS.length (X2.getD i []) 0 A0 A0 A0),?_⟩;(try simp-dsimp-implicitDefEqProofs(maxSteps:=800000) (disch:=omega)only[go_sem,ints,AP,LQ,UP,TF,ek])
  apply hN;refine C2 ?_;apply AW.block;refine AI (λG3 CB=>?_);dsimp only at CB
  have SG:HA 24 lo (m+3+14) bx os P B bc (X.set (MS.length+i) (qI MS.length (X2.getD i []) 0)) Y G3:=by rw[<-CB];exact EP _ _ (by rw[RB];omega) A0
  have QL:G3 (nx+2)=some [.nl,.nl,.nl]:=by rw[<-CB,A1 _ _ A0];exact C9
  obtain⟨X3,hX3⟩:∃X3,X.set (MS.length+i) (qI MS.length (X2.getD i []) 0)=X3:=⟨_,rfl⟩;rw[hX3]at SG;refine A8 (α:=Nat×HP×List (List (List Int))) (λx=>sl 116 [(3,.p 0 [ints PK,rows X2,A6 Y2]),(4,.q (nx+2) 0),(5,.i .i64 MS.length),(6,.i .i64 PK.length),(7,.q bx 0),(10,.i .i64 i),(11,.i .i64 x.1)]) (λx=>x.2.1) (λx m=>(x.1<=PK.length-1-i/\m4<=m)/\x.2.1 (nx+2)=some [.nl,.nl,.nl]/\HA 24 lo m bx os P B bc X3 x.2.2 x.2.1) (λx=>PK.length-1-i-x.1) ((0,G3,Y)) ?_ ?_ (λ_ _ h=>h) ?_
  ·exact⟨⟨AB,A9⟩,QL,SG.AJ (λ_ _=>rfl) A0 A9⟩
  ·simp(disch:=omega) [AN,AO,sl,AR,ints,rows,A6]
  skip
  rintro⟨j,G,Y⟩ m ⟨⟨hj,hm⟩,C9,CL⟩;refine AG ?_;dsimp only at hj hm C9 CL ⊢;have C4:=CL.lt;have Vq:(Y2.map rows).getD i .j= .v (PK.length-1-i) ((Y2.getD i []).map ints):=by rw[DT A0,rows,q2 i A0]
  refine AW.seq λN9 SC=>?_;refine sQ λN hN=>?_;simp-dsimp-implicitDefEqProofs(maxSteps:=800000) (disch:=omega)only[go_sem,A6,AP,Vq];apply hN;refine AW.cond rfl ?_ ?_<;>intro h4<;>try simp only[cn]at h4
  ·obtain⟨b,qq,hBe,JZ,LZ,PJ,SG,O0,KY,JT,YS,Lz,EP⟩:=CL.V9 (k:=MS.length+i) (l:=j) A0 A0;have hgr:((Y2.getD i []).map ints).getD j .j=ints ((Y2.getD i []).getD j []):=BN (by rw[q2 i A0];omega);have ek:((MS.length:Int)+i).toNat=MS.length+i:=A0;have hXl:=(Vo i j).1;have bN:=q2 i A0;apply AW.skip;apply SC;refine AW.seq λAm IQ=>?_;apply AW.block;refine AM AA A7 19 A7 ?_
   (try simp-dsimp-implicitDefEqProofs(maxSteps:=800000) (disch:=omega)only[go_sem,List.drop_nil,List.drop_succ_cons,List.drop_zero,List.take_nil,List.take_succ_cons,List.take_zero,A6,BW,BE,BF,AP,AR,Vq,hgr,JZ,LZ,PJ,O0,KY,JT,ek]);refine⟨_,.of (F5 MS.length ((Y2.getD i []).getD j []) 0 A0 A0 A0),?_⟩;(try simp-dsimp-implicitDefEqProofs(maxSteps:=800000) (disch:=omega)only[go_sem,ints,AP,JZ,LZ,PJ,O0,KY,JT,ek])
   apply IQ;refine AI (λG5 EU=>?_);dsimp only at EU;refine KT ?_;refine⟨(j+1,G5,Y.set (MS.length+i) ((Y.getD (MS.length+i) []).set j (qI MS.length ((Y2.getD i []).getD j []) 0))),?_,λ_ _ h=>h,?_,?_⟩
   ·simp(disch:=omega) [AN,AO,sl,AR,ints,rows,A6]
   ·have VT:HA 24 lo (m+8+20+3) bx os P B bc X3 (Y.set (MS.length+i) ((Y.getD (MS.length+i) []).set j (qI MS.length ((Y2.getD i []).getD j []) 0))) G5:=by rw[<-EU];exact EP _ _ (by rw[RB];omega) A0
    have eE:G5 (nx+2)=some [.nl,.nl,.nl]:=by rw[<-EU,A1 _ _ A0];exact C9
    first|exact⟨⟨A9,A9⟩,eE,VT⟩|exact⟨A9,eE,VT⟩
   first|omega|(simp only;omega)
  apply AW.exit;apply OB;refine KT ?_;refine⟨(i+1,G,X3,Y),?_,λ_ _ h=>h,?_,?_⟩
  ·simp(disch:=omega) [AN,AO,sl,AR,ints,rows,A6]
  ·have Jm:=CL.AJ (m':=m+8+3) (λ_ _=>rfl) A0 A0;first|exact⟨⟨A9,A9⟩,C9,Jm⟩|exact⟨A9,C9,Jm⟩
  first|omega|(simp only;omega)
 have JZ:=CL.cl
 have C4:=CL.lt
 apply AW.exit;apply FR;refine sQ λN hN=>?_;simp-dsimp-implicitDefEqProofs(maxSteps:=800000) (disch:=omega)only[go_sem,AP,JZ,C9,CL.MR.1,CL.MR.2];apply hN;refine AH ?_;exact⟨_,CL.fz (λi hi=>A1 _ _ A0) A0,os,_,_,rfl,CL.sh⟩
theorem eH(MS PK:List Int)(X1 X2:List (List Int))(Y1 Y2:List (List (List Int)))(h1:U0 12 MS X1 Y1)(h2:U0 12 PK X2 Y2)(nx:Nat)(H:HP):AC Tryz.prog 173 nx H [AP MS X1 Y1,AP PK X2 Y2] (zK nx H (ZH 24)):=SS (eG MS PK X1 X2 Y1 Y2 h1 h2 nx) H
end Go.Proofs.YtgknbnkmilddhaaGreat
