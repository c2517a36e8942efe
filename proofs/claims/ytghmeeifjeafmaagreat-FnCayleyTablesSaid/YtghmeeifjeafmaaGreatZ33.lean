import Derived.Test.YtghmeeifjeafmaaGreatZ08
import Derived.Test.YtghmeeifjeafmaaGreatZ29
import Derived.Test.YtghmeeifjeafmaaGreatZ31
import Derived.Test.YtghmeeifjeafmaaGreatZ32
set_option linter.unusedVariables false
set_option linter.unusedSimpArgs false
namespace Go.Proofs.YtghmeeifjeafmaaGreat
theorem VL(W:List (List Int))(hW:B6 W)(nx:Nat)(H:HP):AC Tryz.prog 65 nx H [rows W] (zK nx H (fun r=>r=rows W)):=by
  refine AC.zz ((D9 W hW nx).mono fun nx' H' r ⟨cs,h⟩=>?_) H;obtain⟨h1,ids,h2,h3,h4⟩:=h;refine⟨rows W,?_,rfl⟩;rw[GG];exact h2.ML fun i hi=>KR (h4 i hi).1
set_option maxHeartbeats 4000000 in
theorem RO(pr n:Int)(W:List (List Int))(q:Nat)(J2:1≤pr∧pr≤10)(hq:q≤6)(hW:aA q W)(hn:1≤n∧n≤64):∀nx,AC Tryz.prog 146 nx BN [.i .i64 pr,rows W,.i .i64 n] (fun nx' H' r=>∃r2,Fz H' (GH nx H') r r2∧SQ 12 r2):=by
 have sC:=hW.l
 intro nx
 refine AC.AM A9 Tryz.func146 rfl (by kernel_rfl) Tryz.ntmps146 Tryz.results146 (fun cX=>?_)
 refine sQ fun N hN=>?_;simp-dsimp-implicitDefEqProofs(disch:=omega)only[go_sem,A8,ints];apply hN;refine sQ fun N hN=>?_;simp-dsimp-implicitDefEqProofs(disch:=omega)only[go_sem,A8,ints];refine(EG n hn.1 (by omega) _ _).AG ?_
 rintro m1 H1 r1 MW ⟨⟨fs,b1,rfl,PR,S3⟩,VI⟩
 have mD:=(QA PR (by omega)).2 hn.2
 have kG:H1 nx=some [.nl,.nl,.nl]:=(VI nx (by omega)).trans (A1 _ _ _)
 try simp-dsimp-implicitDefEqProofs(disch:=omega)only[go_sem,ints]
 apply hN;refine sQ fun N hN=>?_;simp-dsimp-implicitDefEqProofs(disch:=omega)only[go_sem,A8,ints];refine(CB fs (by omega) _ _).AG ?_
 rintro m2 H2 r2 TI ⟨HD,rfl,cY,XH,rfl⟩
 try simp-dsimp-implicitDefEqProofs(disch:=omega)only[go_sem,A8,ints]
 apply hN;refine AW.seq fun N1 BC=>?_;refine AW.BD (fun G0 CT=>?_);dsimp only at CT
 have h0n:G0 nx=some [.nl,.nl,.nl]:=by rw[←CT];simp(disch:=omega)only[A0];exact kG
 have hL0:LC G0 (nx+1) m2 (.h HD 0 fs.length) (fs.map (.i .i64)):= .inr ⟨HD,by rw[List.length_map],by rw[←CT,A1,KD],by omega,XH⟩
 refine sQ fun N hN=>?_;simp-dsimp-implicitDefEqProofs(disch:=omega)only[go_sem,A8,ints];apply hN;apply AW.block;refine AW.AF (α:=Nat×HP×AV) (fun x=>sl 102 [(0,.i .i64 pr),(1,rows W),(6,.q nx 0),(7,ints fs),(9,x.2.2),(10,.i .i64 x.1)]) (fun x=>x.2.1) (fun x m=>(x.1≤q∧m2≤m)∧x.2.1 nx=some [.nl,.nl,.nl]∧LC x.2.1 (nx+1) m x.2.2 ((fs++List.replicate x.1 pr).map (.i .i64))) (fun x=>q-x.1) ((0,G0,.h HD 0 fs.length)) ?_ ?_ (fun _ _ h=>h) ?_
 ·exact⟨⟨by simp,by first|omega|(dsimp only;omega)⟩,h0n,by simpa using hL0.wide (Nat.le_refl _) (by first|omega|(dsimp only;omega))⟩
 ·simp(disch:=omega) [AO,AQ,sl,AJ,ints,rows]
 skip
 rintro⟨i,G,L⟩ m ⟨⟨hi,hm⟩,CT,hL⟩
 simp-dsimp-implicitDefEqProofs(disch:=omega)only[go_sem];dsimp only at hi hm CT hL ⊢
 have NU:=hL.one
 have KQ:=hL.len
 rw[List.length_map,List.length_append,List.length_replicate]at KQ
 refine AW.seq fun N2 BM=>?_;refine sQ fun N hN=>?_;simp-dsimp-implicitDefEqProofs(disch:=omega)only[go_sem,A8,ints,rows];apply hN;refine AW.cond rfl ?_ ?_<;>intro h1
 ·try simp only[cn]at h1
  have E6:((fs++List.replicate i pr).map (AV.i .i64)).length=fs.length+i:=by rw[List.length_map,List.length_append,List.length_replicate]
  apply AW.skip;apply BM;refine AW.seq fun N3 BQ=>?_;apply AW.block;apply rQ;simp-dsimp-implicitDefEqProofs(disch:=(first|omega|((repeat refine LC.AU (by omega) ?_);assumption))) only[go_sem,A8,ints,NU,KQ,E6,CC (a:=nx+1) (b:=m) (L:=L) (cs:=(fs++List.replicate i pr).map (.i .i64))]
  apply BQ;refine AW.BD (fun G3 D3=>?_);dsimp only at D3;apply rQ;simp-dsimp-implicitDefEqProofs(disch:=omega)only[go_sem,A8,ints];refine⟨(i+1,G3,.h (m+4+3) 0 (fs.length+(i+1))),?_,fun _ _ h=>h,?_,?_⟩
  ·simp(disch:=omega) [AO,AQ,sl,AJ,ints,rows]<;>omega
  ·have IZ:LC G3 (nx+1) (m+4+5+3) (.h (m+4+3) 0 (fs.length+(i+1))) ((fs++List.replicate (i+1) pr).map (.i .i64)):=LC.mk (by rw[←D3];simp(disch:=omega)only[A0,A1];simp[List.replicate_succ']) (by rw[List.length_map,List.length_append,List.length_replicate]) (by omega) (by omega);have MO:G3 nx=some [.nl,.nl,.nl]:=by
    rw[←D3];exact(A0 _ _ (by omega)).trans ((AP (fun e=>by have:=hL.bd;omega)).trans ((A0 _ _ (by omega)).trans CT))
   first|exact⟨⟨by first|omega|(dsimp only;omega),by first|omega|(dsimp only;omega)⟩,MO,IZ⟩|exact⟨by first|omega|(dsimp only;omega),MO,IZ⟩
  first|omega|(simp only;omega)
 try simp only[cn]at h1
 have Mk:i=q:=by omega
 obtain⟨os,OI⟩:∃os,fs++List.replicate i pr=os:=⟨_,rfl⟩
 have gO:os.length=fs.length+q:=by rw[←OI,List.length_append,List.length_replicate,Mk]
 have OL:∀x∈os,-1000≤x∧x≤1000:=fun x hx=>by
  rw[←OI]at hx;rcases List.mem_append.1 hx with h|h
  ·have:=S3 x h;omega
  have:=(List.mem_replicate.1 h).2;omega
 rw[OI]at hL
 apply AW.exit;apply BC;refine AW.Vi 9 L (os.map (.i .i64)) rfl hL ?_
 rw[List.length_map]
 refine AW.BD (fun G1 F0=>?_);dsimp only at F0
 have h1n:G1 nx=some [.nl,.nl,.nl]:=by rw[←F0];exact(AP (fun e=>by have:=hL.bd;omega)).trans CT
 simp-dsimp-implicitDefEqProofs(disch:=omega)only[go_sem];refine sQ fun N hN=>?_;simp-dsimp-implicitDefEqProofs(disch:=omega)only[go_sem,A8,ints];refine(BU os (by omega) _ (.cons (.refl _) .nil)).AG ?_
 intro m4 H4 r4 sS YU
 obtain⟨P,B,bc,rfl,K1,K3,JX,C4⟩:=FD.start (N:=12) (bx:=m+4+2) YU (by omega) (by omega) OL (by omega)
 try simp-dsimp-implicitDefEqProofs(disch:=omega)only[go_sem,K1,K3,ints,Bool.and_true]
 apply hN;refine sQ fun N hN=>?_;simp-dsimp-implicitDefEqProofs(disch:=omega)only[go_sem,A8,ints];apply hN;refine AW.seq fun N4 CG=>?_;refine AW.BD (fun G2 XS=>?_);dsimp only at XS
 have RV:FD 12 (m+4+4) m4 (m+4+2) os P B bc (L2 os.length) (HY os.length) G2:=by rw[←XS];exact C4
 have h20:G2 nx=some [.nl,.nl,.nl]:=by rw[←XS,A0 _ _ (by omega)];exact(JX nx (by omega)).trans h1n
 obtain⟨bx,fN⟩:∃bx,m+4+2=bx:=⟨_,rfl⟩
 obtain⟨lo,I6⟩:∃lo,m+4+4=lo:=⟨_,rfl⟩
 rw[fN,I6]at RV
 rw[fN]
 refine sQ fun N hN=>?_;simp-dsimp-implicitDefEqProofs(disch:=omega)only[go_sem,A8,ints];apply hN;apply AW.block;refine AW.AF (α:=Nat×HP×List (List Int)) (fun x=>sl 102 [(0,.i .i64 pr),(1,rows W),(6,.q nx 0),(7,ints fs),(9,ints os),(11,.q bx 0),(12,.i .i64 fs.length),(13,.i .i64 x.1)]) (fun x=>x.2.1) (fun x m=>(x.1≤fs.length∧m4≤m)∧x.2.1 nx=some [.nl,.nl,.nl]∧FD 12 lo m bx os P B bc x.2.2 (HY os.length) x.2.1) (fun x=>fs.length-x.1) ((0,G2,L2 os.length)) ?_ ?_ (fun _ _ h=>h) ?_
 ·exact⟨⟨by simp,by first|omega|(dsimp only;omega)⟩,h20,RV.AD (fun _ _=>rfl) (by omega) (by first|omega|(dsimp only;omega))⟩
 ·simp(disch:=omega) [AO,AQ,sl,AJ,ints,rows]
 skip
 rintro⟨i,G,X⟩ m ⟨⟨hi,hm⟩,CT,C4⟩
 simp-dsimp-implicitDefEqProofs(disch:=omega)only[go_sem];dsimp only at hi hm CT C4 ⊢
 have BW:=C4.lt
 refine AW.seq fun N5 DW=>?_;refine sQ fun N hN=>?_;simp-dsimp-implicitDefEqProofs(disch:=omega)only[go_sem,A8,ints];apply hN;refine AW.cond rfl ?_ ?_<;>intro h2
 ·try simp only[cn]at h2
  obtain⟨p,zR,IS,PR,OM,Ka,DT⟩:=C4.MK (k:=i) (by omega);apply AW.skip;apply DW;refine AW.seq fun N6 HC=>?_;apply AW.block;refine AW.BI A9 (by kernel_rfl) 9 (by kernel_rfl) ?_
  simp-dsimp-implicitDefEqProofs(disch:=omega)only[B3,B4,BH,List.take_succ_cons,List.take_zero,List.drop_succ_cons,List.drop_zero,List.take_nil,List.drop_nil,go_sem,undef,AJ,A8,ints,IS,PR,OM];refine⟨_,.of (IL os.length (i+1) (by omega) (by omega)),?_⟩;try simp-dsimp-implicitDefEqProofs(disch:=omega)only[go_sem,A8,ints,IS,PR,OM]
  apply HC;refine AW.BD (fun G3 D3=>?_);dsimp only at D3;apply rQ;simp-dsimp-implicitDefEqProofs(disch:=omega)only[go_sem,A8,ints];refine⟨(i+1,G3,X.set i (fG os.length (i+1))),?_,fun _ _ h=>h,?_,?_⟩
  ·simp(disch:=omega) [AO,AQ,sl,AJ,ints,rows]
  ·have O6:FD 12 lo (m+4+10+3) bx os P B bc (X.set i (fG os.length (i+1))) (HY os.length) G3:=by rw[←D3];exact DT _ _ (by rw[NB];omega) (by omega)
   have MO:G3 nx=some [.nl,.nl,.nl]:=by rw[←D3,A0 _ _ (by omega)];exact CT
   first|exact⟨⟨by first|omega|(dsimp only;omega),by first|omega|(dsimp only;omega)⟩,MO,O6⟩|exact⟨by first|omega|(dsimp only;omega),MO,O6⟩
  first|omega|(simp only;omega)
 try simp only[cn]at h2
 apply AW.exit;apply CG;refine sQ fun N hN=>?_;simp-dsimp-implicitDefEqProofs(disch:=omega)only[go_sem,A8,ints];refine(VL W ⟨by omega,fun w hw=>by have:=(hW.r w hw).1;omega⟩ _ _).AG ?_
 rintro m5 H5 r5 uI ⟨rfl,Co⟩
 have P1:=C4.AD (G':=H5) (m':=m5+1) (fun j hj=>Co j (by omega)) (by omega) (by omega)
 have h50:=(Co nx (by omega)).trans CT
 try simp-dsimp-implicitDefEqProofs(disch:=omega)only[go_sem,A8,ints]
 apply hN;refine AW.seq fun N7 JO=>?_;refine sQ fun N hN=>?_;simp-dsimp-implicitDefEqProofs(disch:=omega)only[go_sem,A8,ints];apply hN;apply AW.block;refine AW.AF (α:=Nat×HP×List (List (List Int))×List (List Int)) (fun x=>sl 102 [(0,.i .i64 pr),(1,rows W),(6,.q nx 0),(7,ints fs),(11,.q bx 0),(12,.i .i64 fs.length),(14,rows x.2.2.2),(15,.i .i64 x.1)]) (fun x=>x.2.1) (fun x m=>(x.1≤fs.length∧m4≤m)∧x.2.1 nx=some [.nl,.nl,.nl]∧FD 12 lo m bx os P B bc X x.2.2.1 x.2.1∧aA q x.2.2.2) (fun x=>fs.length-x.1) ((0,H5,HY os.length,W)) ?_ ?_ (fun _ _ h=>h) ?_
 ·exact⟨⟨by simp,by first|omega|(dsimp only;omega)⟩,h50,P1.AD (fun _ _=>rfl) (by omega) (by first|omega|(dsimp only;omega)),hW⟩
 ·simp(disch:=omega) [AO,AQ,sl,AJ,ints,rows]
 skip
 rintro⟨i,G,Y,A⟩ m ⟨⟨hi,hm⟩,CT,C4,hA⟩
 simp-dsimp-implicitDefEqProofs(disch:=omega)only[go_sem];dsimp only at hi hm CT C4 hA ⊢
 refine AW.seq fun N8 JJ=>?_;refine sQ fun N hN=>?_;simp-dsimp-implicitDefEqProofs(disch:=omega)only[go_sem,A8,ints];apply hN;refine AW.cond rfl ?_ ?_<;>intro h3
 ·try simp only[cn]at h3
  have hif:i<fs.length:=by omega
  have hAl:=hA.l;apply AW.skip;apply JJ;refine AW.seq fun N9 M6=>?_;apply AW.block;refine AW.seq fun lF FW=>?_;refine sQ fun N hN=>?_;simp-dsimp-implicitDefEqProofs(disch:=omega)only[go_sem,A8,ints];apply hN;apply AW.block;refine AW.AF (α:=Nat×HP×List (List (List Int))) (fun x=>sl 102 [(0,.i .i64 pr),(1,rows W),(6,.q nx 0),(7,ints fs),(11,.q bx 0),(12,.i .i64 fs.length),(14,rows A),(15,.i .i64 i),(16,.i .i64 x.1)]) (fun x=>x.2.1) (fun x m=>(x.1≤q∧m4≤m)∧x.2.1 nx=some [.nl,.nl,.nl]∧FD 12 lo m bx os P B bc X x.2.2 x.2.1) (fun x=>q-x.1) ((0,G,Y)) ?_ ?_ (fun _ _ h=>h) ?_
  ·exact⟨⟨by simp,by first|omega|(dsimp only;omega)⟩,CT,C4.AD (fun _ _=>rfl) (by omega) (by first|omega|(dsimp only;omega))⟩
  ·simp(disch:=omega) [AO,AQ,sl,AJ,ints,rows]
  skip
  rintro⟨d,G,Y⟩ m ⟨⟨hd,hm⟩,CT,C4⟩;simp-dsimp-implicitDefEqProofs(disch:=omega)only[go_sem];dsimp only at hd hm CT C4 ⊢;have BW:=C4.lt;refine AW.seq fun p5 HI=>?_;refine sQ fun N hN=>?_;simp-dsimp-implicitDefEqProofs(disch:=omega)only[go_sem,A8,ints,rows];apply hN;refine AW.cond rfl ?_ ?_<;>intro h4
  ·try simp only[cn]at h4
   obtain⟨b,qq,Zn,HQ,MX,LF,O6,QL,J9,NH,WQ,zO,DT⟩:=C4.Q9 (k:=i) (l:=fs.length+d-i-1) (by omega) (by omega);have ek:((fs.length:Int)+d-i-1).toNat=fs.length+d-i-1:=by omega
   have hAd:=hA.at d;have hAr:(A.map ints).getD d .j=ints (A.getD d []):=A7 (by omega);apply AW.skip;apply HI;refine AW.seq fun wX KG=>?_;apply AW.block;refine AW.BI A9 (by kernel_rfl) 18 (by kernel_rfl) ?_
   simp-dsimp-implicitDefEqProofs(disch:=omega)only[B3,B4,BH,List.take_succ_cons,List.take_zero,List.drop_succ_cons,List.drop_zero,List.take_nil,List.drop_nil,go_sem,undef,AJ,A8,ints,rows,HQ,MX,LF,QL,J9,NH,ek,hAr];refine⟨_,.of (EA fs.length (A.getD d []) 0 (by omega) (by omega) (by omega)),?_⟩;try simp-dsimp-implicitDefEqProofs(disch:=omega)only[go_sem,A8,ints,HQ,MX,LF,QL,J9,NH,ek]
   apply KG;refine AW.BD (fun G5 DD=>?_);dsimp only at DD;apply rQ;simp-dsimp-implicitDefEqProofs(disch:=omega)only[go_sem,A8,ints];refine⟨(d+1,G5,Y.set i ((Y.getD i []).set (fs.length+d-i-1) (dJ fs.length (A.getD d []) 0))),?_,fun _ _ h=>h,?_,?_⟩
   ·simp(disch:=omega) [AO,AQ,sl,AJ,ints,rows]<;>omega
   ·have P1:FD 12 lo (m+4+19+3) bx os P B bc X (Y.set i ((Y.getD i []).set (fs.length+d-i-1) (dJ fs.length (A.getD d []) 0))) G5:=by rw[←DD];exact DT _ _ (by rw[NC];omega) (by omega)
    have VK:G5 nx=some [.nl,.nl,.nl]:=by rw[←DD,A0 _ _ (by omega)];exact CT
    first|exact⟨⟨by first|omega|(dsimp only;omega),by first|omega|(dsimp only;omega)⟩,VK,P1⟩|exact⟨by first|omega|(dsimp only;omega),VK,P1⟩
   first|omega|(simp only;omega)
  try simp only[cn]at h4
  have hfi:=F7 (p:=fun x:Int=>0≤x∧x≤7) (X:=fs) (d:=0) (fun x hx=>by have:=S3 x hx;omega) (by omega) i;apply AW.exit;apply FW;refine sQ fun N hN=>?_;simp-dsimp-implicitDefEqProofs(disch:=omega)only[go_sem,A8,ints];apply hN;refine sQ fun N hN=>?_;simp-dsimp-implicitDefEqProofs(disch:=omega)only[go_sem,A8,ints];apply hN;apply AW.block;refine AW.AF (α:=Nat×HP×List (List Int)) (fun x=>sl 102 [(0,.i .i64 pr),(1,rows W),(6,.q nx 0),(7,ints fs),(11,.q bx 0),(12,.i .i64 fs.length),(14,rows x.2.2),(15,.i .i64 i),(17,rows A),(18,.i .i64 ((x.1:Int)+1))]) (fun x=>x.2.1) (fun x m=>(x.1≤10∧m4≤m)∧x.2.1 nx=some [.nl,.nl,.nl]∧FD 12 lo m bx os P B bc X Y x.2.1∧aA q x.2.2) (fun x=>10-x.1) ((0,G,A)) ?_ ?_ (fun _ _ h=>h) ?_
  ·exact⟨⟨by simp,by first|omega|(dsimp only;omega)⟩,CT,C4.AD (fun _ _=>rfl) (by omega) (by first|omega|(dsimp only;omega)),hA⟩
  ·simp(disch:=omega) [AO,AQ,sl,AJ,ints,rows]
  skip
  rintro⟨e,G,A2⟩ m ⟨⟨he,hm⟩,CT,C4,Vq⟩;simp-dsimp-implicitDefEqProofs(disch:=omega)only[go_sem];dsimp only at he hm CT C4 Vq ⊢;have BW:=C4.lt;refine AW.seq fun Hq NI=>?_;refine sQ fun N hN=>?_;simp-dsimp-implicitDefEqProofs(disch:=omega)only[go_sem,A8,ints,A6];apply hN;refine AW.cond rfl ?_ ?_<;>intro h5
  ·try simp only[cn]at h5
   have A3X:=Vq.l;apply AW.skip;apply NI;refine AW.seq fun Mr R1=>?_;apply AW.block;apply rQ;simp-dsimp-implicitDefEqProofs(disch:=omega)only[go_sem,A8,ints,rows];rw[sC]
   refine(QD pr J2 q (by omega) A2 A Vq hA _ _).AG ?_;rintro m7 H7 r7 Nl ⟨⟨A3,rfl,hA3⟩,cM⟩;have NW:=C4.AD (G':=H7) (m':=m7+3) (fun j hj=>cM j (by omega)) (by omega) (by omega);have Vm:=(cM nx (by omega)).trans CT;try simp-dsimp-implicitDefEqProofs(disch:=omega)only[go_sem,A8,ints]
   apply R1;apply rQ;simp-dsimp-implicitDefEqProofs(disch:=omega)only[go_sem,A8,ints];refine⟨(e+1,H7,A3),?_,fun _ _ h=>h,?_,?_⟩
   ·simp(disch:=omega) [AO,AQ,sl,AJ,ints,rows]<;>omega
   ·first|exact⟨⟨by first|omega|(dsimp only;omega),by first|omega|(dsimp only;omega)⟩,Vm,NW,hA3⟩|exact⟨by first|omega|(dsimp only;omega),Vm,NW,hA3⟩
   first|omega|(simp only;omega)
  try simp only[cn]at h5
  apply AW.exit;apply M6;apply rQ;simp-dsimp-implicitDefEqProofs(disch:=omega)only[go_sem,A8,ints];refine⟨(i+1,G,Y,A2),?_,fun _ _ h=>h,?_,?_⟩
  ·simp(disch:=omega) [AO,AQ,sl,AJ,ints,rows]<;>omega
  ·have sW:=C4.AD (m':=m+6+3) (fun _ _=>rfl) (by omega) (by omega);first|exact⟨⟨by first|omega|(dsimp only;omega),by first|omega|(dsimp only;omega)⟩,CT,sW,Vq⟩|exact⟨by first|omega|(dsimp only;omega),CT,sW,Vq⟩
  first|omega|(simp only;omega)
 try simp only[cn]at h3
 have HQ:=C4.cl
 have BW:=C4.lt
 apply AW.exit;apply JO;refine sQ fun N hN=>?_;simp-dsimp-implicitDefEqProofs(disch:=omega)only[go_sem,A8,ints,HQ,CT,C4.JD.1,C4.JD.2];apply hN;apply AW.ret;simp-dsimp-implicitDefEqProofs(disch:=omega)only[go_sem];exact⟨_,C4.fz (fun i hi=>A0 _ _ (by omega)) (by omega),os,_,_,rfl,C4.sh⟩
theorem D6(pr n:Int)(W:List (List Int))(q:Nat)(J2:1≤pr∧pr≤10)(hq:q≤6)(hW:aA q W)(hn:1≤n∧n≤64)(nx:Nat)(H:HP):AC Tryz.prog 146 nx H [.i .i64 pr,rows W,.i .i64 n] (zK nx H (SQ 12)):=AC.zz (RO pr n W q J2 hq hW hn nx) H
theorem FD.lo{N lo lo' m bx:Nat}{os:List Int}{P B:AV}{bc:List AV}{X:List (List Int)}{Y:List (List (List Int))}{G:HP}(h:FD N lo m bx os P B bc X Y G)(hl:lo'≤lo)(hb:bx<lo'):FD N lo' m bx os P B bc X Y G:=⟨h.cl,h.rg.AD (fun _ _ _=>rfl) hl (Nat.le_refl _),h.sh,hb⟩
theorem mkB{N:St→Prop}{C:Nat→HP→Nat→AV→AV→List AV→Prop}{S:Nat→HP→Nat→AV→AV→St}{G:Prop}(h1:(∀m H i P B bc,C m H i P B bc→N (S m H i P B))→G)(h2:∀m H i P B bc,C m H i P B bc→N (S m H i P B)):G:=h1 h2
theorem RP{H:HP}{id n:Nat}{os:List Int}(h:H id=some (os.map (.i .i64)))(hn:os.length=n):Vw H (.h id 0 n) (Go.Proofs.YtghmeeifjeafmaaGreat.ints os):=by
  subst hn;have:=Vw.fr (n:=os.length) h (by simp);exact this
set_option maxRecDepth 20000 in
set_option maxHeartbeats 4000000 in
theorem VM(JE LO:List Int)(X1 X2:List (List Int))(Y1 Y2:List (List (List Int)))(h1:P0 12 JE X1 Y1)(h2:P0 12 LO X2 Y2):∀nx,AC Tryz.prog 116 nx BN [A8 JE X1 Y1,A8 LO X2 Y2] (fun nx' H' r=>∃r2,Fz H' (GH nx H') r r2∧SQ 24 r2):=by
 have WD:∀k l,((Y1.getD k []).getD l []).length≤72∧(X1.getD k []).length≤72:=fun k l=>⟨h1.Vj k l,h1.row k⟩
 have Sh:∀k l,((Y2.getD k []).getD l []).length≤72∧(X2.getD k []).length≤72:=fun k l=>⟨h2.Vj k l,h2.row k⟩
 obtain⟨o1,p1,c1,q1,-,-,b1⟩:=h1
 obtain⟨o2,p2,c2,q2,-,-,b2⟩:=h2
 obtain⟨os,OI⟩:∃os,JE++LO=os:=⟨_,rfl⟩
 have gO:os.length=JE.length+LO.length:=by rw[←OI,List.length_append]
 have OL:∀x∈os,-1000≤x∧x≤1000:=fun x hx=>by
  rw[←OI]at hx;rcases List.mem_append.1 hx with h|h
  ·exact b1 x h
  exact b2 x h
 intro nx
 refine AC.AM A9 Tryz.func116 rfl (by kernel_rfl) Tryz.ntmps116 Tryz.results116 (fun cX=>?_)
 refine sQ fun N hN=>?_;simp-dsimp-implicitDefEqProofs(disch:=omega)only[go_sem,A8];apply hN;refine AW.B5 2 nx [ints JE,rows X1,A4 Y1] rfl (by simp(disch:=omega)only[A0,A1]) ?_
 refine AW.B5 3 (nx+1) [ints LO,rows X2,A4 Y2] rfl (by simp(disch:=omega)only[A0,A1]) ?_
 simp-dsimp-implicitDefEqProofs(disch:=omega)only[go_sem];refine AW.seq fun N hN=>?_;refine AW.BI A9 (by kernel_rfl) 8 (by kernel_rfl) ?_
 simp-dsimp-implicitDefEqProofs(disch:=omega)only[B3,B4,BH,List.take_succ_cons,List.take_zero,List.drop_succ_cons,List.drop_zero,List.take_nil,List.drop_nil,go_sem,undef,A8,AJ,ints];apply hN;refine AW.seq fun N hN=>?_;apply mkB (N:=N)
 ·intro key;refine AW.KX A9 (by kernel_rfl) [true,true,false,true,true,false,false,false,false] (.br 2 (.br 5 (.br 6 (.br 7 (.br 8 .nil .nil) .nil) (.br 7 (.br 6 (.br 8 .nil .nil) .nil) .nil)) (.br 7 (.br 5 (.br 6 (.br 8 .nil .nil) .nil) .nil) .nil)) (.br 7 (.br 2 (.br 5 (.br 6 (.br 8 .nil .nil) .nil) .nil) .nil) .nil)) (by kernel_rfl) ?_;simp-dsimp-implicitDefEqProofs(disch:=omega)only[go_sem,A8];refine⟨?_,?_⟩
  ·skip
   refine(CB JE (by omega) _ _).AG ?_;rintro m2 H2 r2 TI ⟨HD,rfl,cY,XH,rfl⟩;try simp-dsimp-implicitDefEqProofs(disch:=omega)only[go_sem,A8,ints]
   refine⟨⟨?_,?_⟩,?_⟩;all_goals
    refine(BU os (by omega) _ (.cons (RP (os:=os) (by simp(disch:=omega)only[A0,A1,RN,OI]) gO) .nil)).AG ?_;intro m4 H4 r4 sS YU;obtain⟨P,B,bc,rfl,K1,K3,JX,C4⟩:=FD.start (N:=24) (bx:=nx+3+8+7) YU (by omega) (by omega) OL (by omega);have Vr:H4 (nx+2)=some [.nl,.nl,.nl]:=by rw[JX _ (by omega)];simp(disch:=omega)only[A0,A1]
    first|(have hc:H4 (nx+3+8+7)=some [.nl,.nl,.nl]:=by rw[JX _ (by omega)];simp(disch:=omega)only[A0,A1])|have hc:True:=trivial
    (try simp-dsimp-implicitDefEqProofs(disch:=omega)only[go_sem,K1,K3,ints,Bool.and_true,K4,hc]);exact key m4 H4 HD P B bc (And.intro (show nx+3+8+9≤m4 by omega) (And.intro Vr (And.intro (And.intro K1 K3) (C4.lo (lo':=nx+3+8+9) (by omega) (by omega)))))
  skip
  refine(CB JE (by omega) _ _).AG ?_;rintro m2 H2 r2 TI ⟨HD,rfl,cY,XH,rfl⟩;try simp-dsimp-implicitDefEqProofs(disch:=omega)only[go_sem,A8,ints]
  refine(BU os (by omega) _ (.cons (RP (os:=os) (by simp(disch:=omega)only[A0,A1,RN,OI]) gO) .nil)).AG ?_;intro m4 H4 r4 sS YU;obtain⟨P,B,bc,rfl,K1,K3,JX,C4⟩:=FD.start (N:=24) (bx:=nx+3+8+7) YU (by omega) (by omega) OL (by omega);have Vr:H4 (nx+2)=some [.nl,.nl,.nl]:=by rw[JX _ (by omega)];simp(disch:=omega)only[A0,A1]
  first|(have hc:H4 (nx+3+8+7)=some [.nl,.nl,.nl]:=by rw[JX _ (by omega)];simp(disch:=omega)only[A0,A1])|have hc:True:=trivial
  try simp-dsimp-implicitDefEqProofs(disch:=omega)only[go_sem,K1,K3,ints,Bool.and_true,K4,hc]
  exact key m4 H4 HD P B bc (And.intro (show nx+3+8+9≤m4 by omega) (And.intro Vr (And.intro (And.intro K1 K3) (C4.lo (lo':=nx+3+8+9) (by omega) (by omega)))))
 intro m4 H4 HD P B bc hC
 obtain⟨sS,Vr,⟨K1,K3⟩,C4⟩:=hC
 apply hN;refine AW.seq fun N1 BC=>?_;refine AW.BD (fun G1 F0=>?_);dsimp only at F0
 replace C4:FD 24 (nx+3+8+9) m4 (nx+3+8+7) os P B bc (L2 os.length) (HY os.length) G1:=by rw[←F0];exact C4
 have LU:G1 (nx+2)=some [.nl,.nl,.nl]:=by rw[←F0,A0 _ _ (by omega)];exact Vr
 obtain⟨bx,fN⟩:∃bx,nx+3+8+7=bx:=⟨_,rfl⟩
 obtain⟨lo,I6⟩:∃lo,nx+3+8+9=lo:=⟨_,rfl⟩
 rw[fN,I6]at C4
 rw[fN]
 simp-dsimp-implicitDefEqProofs(disch:=omega)only[go_sem];refine sQ fun N hN=>?_;simp-dsimp-implicitDefEqProofs(disch:=omega)only[go_sem,A8];apply hN;apply AW.block;refine AW.AF (α:=Nat×HP×List (List Int)×List (List (List Int))) (fun x=>sl 116 [(2,.p 0 [ints JE,rows X1,A4 Y1]),(3,.p 0 [ints LO,rows X2,A4 Y2]),(4,.q (nx+2) 0),(5,.i .i64 JE.length),(6,.i .i64 LO.length),(7,.q bx 0),(8,.i .i64 x.1)]) (fun x=>x.2.1) (fun x m=>(x.1≤JE.length∧m4≤m)∧x.2.1 (nx+2)=some [.nl,.nl,.nl]∧FD 24 lo m bx os P B bc x.2.2.1 x.2.2.2 x.2.1) (fun x=>JE.length-x.1) ((0,G1,L2 os.length,HY os.length)) ?_ ?_ (fun _ _ h=>h) ?_
 ·exact⟨⟨by simp,by first|omega|(dsimp only;omega)⟩,LU,C4.AD (fun _ _=>rfl) (by omega) (by first|omega|(dsimp only;omega))⟩
 ·simp(disch:=omega) [AO,AQ,sl,AJ,ints,rows,A4]
 skip
 rintro⟨i,G,X,Y⟩ m ⟨⟨hi,hm⟩,CT,C4⟩
 simp-dsimp-implicitDefEqProofs(disch:=omega)only[go_sem];dsimp only at hi hm CT C4 ⊢
 have BW:=C4.lt
 refine AW.seq fun N2 BM=>?_;refine sQ fun N hN=>?_;simp-dsimp-implicitDefEqProofs(disch:=omega)only[go_sem,A8];apply hN;refine AW.cond rfl ?_ ?_<;>intro h1
 ·try simp only[cn]at h1
  obtain⟨p,zR,IS,PR,OM,Ka,DT⟩:=C4.MK (k:=i) (by omega);have hX:=(WD i 0).2;have Ke:(X1.map ints).getD i .j=ints (X1.getD i []):=A7 (by omega);apply AW.skip;apply BM;refine AW.seq fun N3 BQ=>?_;apply AW.block;refine AW.seq fun N hN=>?_;refine AW.BI A9 (by kernel_rfl) 11 (by kernel_rfl) ?_
  simp-dsimp-implicitDefEqProofs(disch:=omega)only[B3,B4,BH,List.take_succ_cons,List.take_zero,List.drop_succ_cons,List.drop_zero,List.take_nil,List.drop_nil,go_sem,undef,A8,AJ,rows,IS,PR,OM,Ke];refine⟨_,.of (EA 0 (X1.getD i []) LO.length (by omega) (by omega) (by omega)),?_⟩;try simp-dsimp-implicitDefEqProofs(disch:=omega)only[go_sem,A8,ints,IS,PR,OM]
  apply hN;refine sQ fun N hN=>?_;simp-dsimp-implicitDefEqProofs(disch:=omega)only[go_sem,A8];apply hN;apply AW.block;refine AW.BD (fun G3 D3=>?_);dsimp only at D3
  have O6:FD 24 lo (m+3+12) bx os P B bc (X.set i (dJ 0 (X1.getD i []) LO.length)) Y G3:=by rw[←D3];exact DT _ _ (by rw[NC];omega) (by omega)
  have MO:G3 (nx+2)=some [.nl,.nl,.nl]:=by rw[←D3,A0 _ _ (by omega)];exact CT
  obtain⟨X3,hX3⟩:∃X3,X.set i (dJ 0 (X1.getD i []) LO.length)=X3:=⟨_,rfl⟩;rw[hX3]at O6;refine AW.AF (α:=Nat×HP×List (List (List Int))) (fun x=>sl 116 [(2,.p 0 [ints JE,rows X1,A4 Y1]),(3,.p 0 [ints LO,rows X2,A4 Y2]),(4,.q (nx+2) 0),(5,.i .i64 JE.length),(6,.i .i64 LO.length),(7,.q bx 0),(8,.i .i64 i),(9,.i .i64 x.1)]) (fun x=>x.2.1) (fun x m=>(x.1≤JE.length-1-i∧m4≤m)∧x.2.1 (nx+2)=some [.nl,.nl,.nl]∧FD 24 lo m bx os P B bc X3 x.2.2 x.2.1) (fun x=>JE.length-1-i-x.1) ((0,G3,Y)) ?_ ?_ (fun _ _ h=>h) ?_
  ·exact⟨⟨by simp,by first|omega|(dsimp only;omega)⟩,MO,O6.AD (fun _ _=>rfl) (by omega) (by first|omega|(dsimp only;omega))⟩
  ·simp(disch:=omega) [AO,AQ,sl,AJ,ints,rows,A4]
  skip
  rintro⟨j,G,Y⟩ m ⟨⟨hj,hm⟩,CT,C4⟩;simp-dsimp-implicitDefEqProofs(disch:=omega)only[go_sem];dsimp only at hj hm CT C4 ⊢;have BW:=C4.lt;have Vs:(Y1.map rows).getD i .j= .v (JE.length-1-i) ((Y1.getD i []).map ints):=by rw[AB (by omega),rows,q1 i (by omega)]
  refine AW.seq fun N4 CG=>?_;refine sQ fun N hN=>?_;simp-dsimp-implicitDefEqProofs(disch:=omega)only[go_sem,A8,A4,Vs];apply hN;refine AW.cond rfl ?_ ?_<;>intro h2
  ·try simp only[cn]at h2
   obtain⟨b,qq,Zn,HQ,MX,LF,O6,QL,J9,NH,WQ,zO,DT⟩:=C4.Q9 (k:=i) (l:=j) (by omega) (by omega);have Ke:((Y1.getD i []).map ints).getD j .j=ints ((Y1.getD i []).getD j []):=A7 (by rw[q1 i (by omega)];omega);have hXl:=(WD i j).1;have dA:=q1 i (by omega);apply AW.skip;apply CG;refine AW.seq fun N5 DW=>?_;apply AW.block;refine AW.BI A9 (by kernel_rfl) 17 (by kernel_rfl) ?_
   simp-dsimp-implicitDefEqProofs(disch:=omega)only[B3,B4,BH,List.take_succ_cons,List.take_zero,List.drop_succ_cons,List.drop_zero,List.take_nil,List.drop_nil,go_sem,undef,A8,AJ,A4,Vs,Ke,HQ,MX,LF,QL,J9,NH];refine⟨_,.of (EA 0 ((Y1.getD i []).getD j []) LO.length (by omega) (by omega) (by omega)),?_⟩;try simp-dsimp-implicitDefEqProofs(disch:=omega)only[go_sem,A8,ints,HQ,MX,LF,QL,J9,NH]
   apply DW;refine AW.BD (fun G5 DD=>?_);dsimp only at DD;apply rQ;simp-dsimp-implicitDefEqProofs(disch:=omega)only[go_sem,A8];refine⟨(j+1,G5,Y.set i ((Y.getD i []).set j (dJ 0 ((Y1.getD i []).getD j []) LO.length))),?_,fun _ _ h=>h,?_,?_⟩
   ·simp(disch:=omega) [AO,AQ,sl,AJ,ints,rows,A4]
   ·have P1:FD 24 lo (m+8+18+3) bx os P B bc X3 (Y.set i ((Y.getD i []).set j (dJ 0 ((Y1.getD i []).getD j []) LO.length))) G5:=by rw[←DD];exact DT _ _ (by rw[NC];omega) (by omega)
    have VK:G5 (nx+2)=some [.nl,.nl,.nl]:=by rw[←DD,A0 _ _ (by omega)];exact CT
    first|exact⟨⟨by first|omega|(dsimp only;omega),by first|omega|(dsimp only;omega)⟩,VK,P1⟩|exact⟨by first|omega|(dsimp only;omega),VK,P1⟩
   first|omega|(simp only;omega)
  try simp only[cn]at h2
  apply AW.exit;apply BQ;apply rQ;simp-dsimp-implicitDefEqProofs(disch:=omega)only[go_sem,A8];refine⟨(i+1,G,X3,Y),?_,fun _ _ h=>h,?_,?_⟩
  ·simp(disch:=omega) [AO,AQ,sl,AJ,ints,rows,A4]
  ·have sW:=C4.AD (m':=m+8+3) (fun _ _=>rfl) (by omega) (by omega);first|exact⟨⟨by first|omega|(dsimp only;omega),by first|omega|(dsimp only;omega)⟩,CT,sW⟩|exact⟨by first|omega|(dsimp only;omega),CT,sW⟩
  first|omega|(simp only;omega)
 try simp only[cn]at h1
 apply AW.exit;apply BC;refine AW.seq fun N6 HC=>?_;refine sQ fun N hN=>?_;simp-dsimp-implicitDefEqProofs(disch:=omega)only[go_sem,A8];apply hN;apply AW.block;refine AW.AF (α:=Nat×HP×List (List Int)×List (List (List Int))) (fun x=>sl 116 [(3,.p 0 [ints LO,rows X2,A4 Y2]),(4,.q (nx+2) 0),(5,.i .i64 JE.length),(6,.i .i64 LO.length),(7,.q bx 0),(10,.i .i64 x.1)]) (fun x=>x.2.1) (fun x m=>(x.1≤LO.length∧m4≤m)∧x.2.1 (nx+2)=some [.nl,.nl,.nl]∧FD 24 lo m bx os P B bc x.2.2.1 x.2.2.2 x.2.1) (fun x=>LO.length-x.1) ((0,G,X,Y)) ?_ ?_ (fun _ _ h=>h) ?_
 ·exact⟨⟨by simp,by first|omega|(dsimp only;omega)⟩,CT,C4.AD (fun _ _=>rfl) (by omega) (by first|omega|(dsimp only;omega))⟩
 ·simp(disch:=omega) [AO,AQ,sl,AJ,ints,rows,A4]
 skip
 rintro⟨i,G,X,Y⟩ m ⟨⟨hi,hm⟩,CT,C4⟩
 simp-dsimp-implicitDefEqProofs(disch:=omega)only[go_sem];dsimp only at hi hm CT C4 ⊢
 have BW:=C4.lt
 refine AW.seq fun N7 JO=>?_;refine sQ fun N hN=>?_;simp-dsimp-implicitDefEqProofs(disch:=omega)only[go_sem,A8];apply hN;refine AW.cond rfl ?_ ?_<;>intro h3
 ·try simp only[cn]at h3
  obtain⟨p,zR,IS,PR,OM,Ka,DT⟩:=C4.MK (k:=JE.length+i) (by omega);have hX:=(Sh i 0).2;have ek:((JE.length:Int)+i).toNat=JE.length+i:=by omega
  have Ke:(X2.map ints).getD i .j=ints (X2.getD i []):=A7 (by omega);apply AW.skip;apply JO;refine AW.seq fun N8 JJ=>?_;apply AW.block;refine AW.seq fun N hN=>?_;refine AW.BI A9 (by kernel_rfl) 13 (by kernel_rfl) ?_
  simp-dsimp-implicitDefEqProofs(disch:=omega)only[B3,B4,BH,List.take_succ_cons,List.take_zero,List.drop_succ_cons,List.drop_zero,List.take_nil,List.drop_nil,go_sem,undef,A8,AJ,rows,IS,PR,OM,Ke,ek];refine⟨_,.of (EA JE.length (X2.getD i []) 0 (by omega) (by omega) (by omega)),?_⟩;try simp-dsimp-implicitDefEqProofs(disch:=omega)only[go_sem,A8,ints,IS,PR,OM,ek]
  apply hN;refine sQ fun N hN=>?_;simp-dsimp-implicitDefEqProofs(disch:=omega)only[go_sem,A8];apply hN;apply AW.block;refine AW.BD (fun G3 D3=>?_);dsimp only at D3
  have O6:FD 24 lo (m+3+14) bx os P B bc (X.set (JE.length+i) (dJ JE.length (X2.getD i []) 0)) Y G3:=by rw[←D3];exact DT _ _ (by rw[NC];omega) (by omega)
  have MO:G3 (nx+2)=some [.nl,.nl,.nl]:=by rw[←D3,A0 _ _ (by omega)];exact CT
  obtain⟨X3,hX3⟩:∃X3,X.set (JE.length+i) (dJ JE.length (X2.getD i []) 0)=X3:=⟨_,rfl⟩;rw[hX3]at O6;refine AW.AF (α:=Nat×HP×List (List (List Int))) (fun x=>sl 116 [(3,.p 0 [ints LO,rows X2,A4 Y2]),(4,.q (nx+2) 0),(5,.i .i64 JE.length),(6,.i .i64 LO.length),(7,.q bx 0),(10,.i .i64 i),(11,.i .i64 x.1)]) (fun x=>x.2.1) (fun x m=>(x.1≤LO.length-1-i∧m4≤m)∧x.2.1 (nx+2)=some [.nl,.nl,.nl]∧FD 24 lo m bx os P B bc X3 x.2.2 x.2.1) (fun x=>LO.length-1-i-x.1) ((0,G3,Y)) ?_ ?_ (fun _ _ h=>h) ?_
  ·exact⟨⟨by simp,by first|omega|(dsimp only;omega)⟩,MO,O6.AD (fun _ _=>rfl) (by omega) (by first|omega|(dsimp only;omega))⟩
  ·simp(disch:=omega) [AO,AQ,sl,AJ,ints,rows,A4]
  skip
  rintro⟨j,G,Y⟩ m ⟨⟨hj,hm⟩,CT,C4⟩;simp-dsimp-implicitDefEqProofs(disch:=omega)only[go_sem];dsimp only at hj hm CT C4 ⊢;have BW:=C4.lt;have Vs:(Y2.map rows).getD i .j= .v (LO.length-1-i) ((Y2.getD i []).map ints):=by rw[AB (by omega),rows,q2 i (by omega)]
  refine AW.seq fun N9 M6=>?_;refine sQ fun N hN=>?_;simp-dsimp-implicitDefEqProofs(disch:=omega)only[go_sem,A8,A4,Vs];apply hN;refine AW.cond rfl ?_ ?_<;>intro h4
  ·try simp only[cn]at h4
   obtain⟨b,qq,Zn,HQ,MX,LF,O6,QL,J9,NH,WQ,zO,DT⟩:=C4.Q9 (k:=JE.length+i) (l:=j) (by omega) (by omega);have Ke:((Y2.getD i []).map ints).getD j .j=ints ((Y2.getD i []).getD j []):=A7 (by rw[q2 i (by omega)];omega);have ek:((JE.length:Int)+i).toNat=JE.length+i:=by omega
   have hXl:=(Sh i j).1;have dA:=q2 i (by omega);apply AW.skip;apply M6;refine AW.seq fun lF FW=>?_;apply AW.block;refine AW.BI A9 (by kernel_rfl) 19 (by kernel_rfl) ?_
   simp-dsimp-implicitDefEqProofs(disch:=omega)only[B3,B4,BH,List.take_succ_cons,List.take_zero,List.drop_succ_cons,List.drop_zero,List.take_nil,List.drop_nil,go_sem,undef,A8,AJ,A4,Vs,Ke,HQ,MX,LF,QL,J9,NH,ek];refine⟨_,.of (EA JE.length ((Y2.getD i []).getD j []) 0 (by omega) (by omega) (by omega)),?_⟩;try simp-dsimp-implicitDefEqProofs(disch:=omega)only[go_sem,A8,ints,HQ,MX,LF,QL,J9,NH,ek]
   apply FW;refine AW.BD (fun G5 DD=>?_);dsimp only at DD;apply rQ;simp-dsimp-implicitDefEqProofs(disch:=omega)only[go_sem,A8];refine⟨(j+1,G5,Y.set (JE.length+i) ((Y.getD (JE.length+i) []).set j (dJ JE.length ((Y2.getD i []).getD j []) 0))),?_,fun _ _ h=>h,?_,?_⟩
   ·simp(disch:=omega) [AO,AQ,sl,AJ,ints,rows,A4]
   ·have P1:FD 24 lo (m+8+20+3) bx os P B bc X3 (Y.set (JE.length+i) ((Y.getD (JE.length+i) []).set j (dJ JE.length ((Y2.getD i []).getD j []) 0))) G5:=by rw[←DD];exact DT _ _ (by rw[NC];omega) (by omega)
    have VK:G5 (nx+2)=some [.nl,.nl,.nl]:=by rw[←DD,A0 _ _ (by omega)];exact CT
    first|exact⟨⟨by first|omega|(dsimp only;omega),by first|omega|(dsimp only;omega)⟩,VK,P1⟩|exact⟨by first|omega|(dsimp only;omega),VK,P1⟩
   first|omega|(simp only;omega)
  try simp only[cn]at h4
  apply AW.exit;apply JJ;apply rQ;simp-dsimp-implicitDefEqProofs(disch:=omega)only[go_sem,A8];refine⟨(i+1,G,X3,Y),?_,fun _ _ h=>h,?_,?_⟩
  ·simp(disch:=omega) [AO,AQ,sl,AJ,ints,rows,A4]
  ·have sW:=C4.AD (m':=m+8+3) (fun _ _=>rfl) (by omega) (by omega);first|exact⟨⟨by first|omega|(dsimp only;omega),by first|omega|(dsimp only;omega)⟩,CT,sW⟩|exact⟨by first|omega|(dsimp only;omega),CT,sW⟩
  first|omega|(simp only;omega)
 try simp only[cn]at h3
 have HQ:=C4.cl
 have BW:=C4.lt
 apply AW.exit;apply HC;refine sQ fun N hN=>?_;simp-dsimp-implicitDefEqProofs(disch:=omega)only[go_sem,A8,HQ,CT,C4.JD.1,C4.JD.2];apply hN;apply AW.ret;simp-dsimp-implicitDefEqProofs(disch:=omega)only[go_sem];exact⟨_,C4.fz (fun i hi=>A0 _ _ (by omega)) (by omega),os,_,_,rfl,C4.sh⟩
theorem VN(JE LO:List Int)(X1 X2:List (List Int))(Y1 Y2:List (List (List Int)))(h1:P0 12 JE X1 Y1)(h2:P0 12 LO X2 Y2)(nx:Nat)(H:HP):AC Tryz.prog 116 nx H [A8 JE X1 Y1,A8 LO X2 Y2] (zK nx H (SQ 24)):=AC.zz (VM JE LO X1 X2 Y1 Y2 h1 h2 nx) H
def I0(bs:List Int):AV:= .v bs.length (bs.map (.i .u8))
def zS(n:Int):Prop:=0≤n∧n≤255
def P2(bs:List Int):Prop:=bs.length≤9223372036854775807∧∀n∈bs,zS n
section
variable{T:Type}{enc:TypeId×Value→T}{P:Program}{w:World}{sp:Nat→Bool}{held:Bool}
theorem Vt{t:TypeId}{fuel:Nat}{v:Value}{x:DataW T×List MemPlace}(ht:P.underlying t=some (.int .u8))(h:DataW.trod enc P w 0 sp held fuel t [v]=some x):∃n:Int,R Bd w Be (.i .u8 n) v∧zS n:=by
  cases fuel with
  |zero=>cases h
  | succ fuel=>
    obtain⟨n,h1,_,h2⟩:=DataW.trod_int ht h;simp only[List.cons.injEq,and_true]at h1;subst h1;refine⟨n,.i _ _,?_⟩;simpa[zS,Lit.wf,IntKind.min,IntKind.max,IntKind.signed,IntKind.bits]using h2
theorem sX{t e:TypeId}{fuel:Nat}{v:Value}{x:DataW T×List MemPlace}(ht:P.underlying t=some (.slice e))(he:P.underlying e=some (.int .u8))(hc:P.cellsOf e=1)(h:DataW.trod enc P w 0 sp held fuel t [v]=some x):
    ∃xs:List Int,R Bd w Be (I0 xs) v∧P2 xs:=by
  obtain⟨xs,h1,h2,h3⟩:=oK (f:=AV.i .u8) (ok:=zS) ht hc (fun n u y hy=>Vt he hy) h;exact⟨xs,h1,by simpa[maxLen]using h2,h3⟩
end
theorem sY{bs:List Int}{k:Nat}(h:k<bs.length):(bs.map (AV.i .u8)).getD k .j= .i .u8 (bs.getD k 0):=by simp[h]
theorem P2.get{bs:List Int}(h:P2 bs){k:Nat}(hk:k<bs.length):0≤bs.getD k 0∧bs.getD k 0≤255:=by
  rw[List.getD_eq_getElem?_getD,List.getElem?_eq_getElem hk];exact h.2 _ (List.getElem_mem hk)
def Kf(bs:List Int)(a s:Int):List AV:=[I0 bs,.i .i64 a,.i .i64 s]
structure zT(bs:List Int)(a s:Int):Prop where
  n:bs.length≤4096
  v:∀k,k<bs.length→0≤bs.getD k 0∧bs.getD k 0≤255
  a0:0≤a
  a1:a≤bs.length
  s0:0≤s
  s1:s<2147483647
def A2N(bs:List Int)(AT:Nat)(n:Int)(H:HP):Nat→HP→AV→Prop:=fun _ H' r=>∃x a' s',r= .i .i64 x∧(0≤x∧(x<n∨x=0))∧zT bs a' s'∧H'=AU H AT (some (Kf bs a' s'))
theorem Kg{H:HP}{i:Nat}{c:List AV}(h:H i=some c):AU H i (some c)=H:=by
  funext j
  by_cases e:j=i
  · subst e;rw[A1,h]
  rw[A0 _ _ e]
theorem TV{x n:Int}(h:0≤x)(hn:1<n):0≤x.tmod n∧(x.tmod n<n∨x.tmod n=0):=by
  rw[Int.tmod_eq_emod_of_nonneg h];exact⟨Int.emod_nonneg _ (by omega),.inl (Int.emod_lt_of_pos _ (by omega))⟩
theorem VO(bs:List Int)(a s:Int)(ho:zT bs a s)(n:Int)(hn:n≤1000000000)(nx:Nat)(H:HP)(AT:Nat)(hH:H AT=some (Kf bs a s)):AC Tryz.prog 39 nx H [.q AT 0,.i .i64 n] (A2N bs AT n H):=by
 obtain⟨o1,o2,o3,o4,o5,o6⟩:=id ho
 have MB:=hH
 unfold Kf I0 at MB
 refine AC.C2 A9 Tryz.func39 rfl (by kernel_rfl) Tryz.ntmps39 Tryz.results39 (fun C7 cX=>?_)
 refine sQ fun N hN=>?_;simp-dsimp-implicitDefEqProofs(disch:=omega)only[go_sem,MB];apply hN;refine AW.seq fun N1 BC=>?_;refine sQ fun N hN=>?_;simp-dsimp-implicitDefEqProofs(disch:=omega)only[go_sem,MB];apply hN;refine AW.cond rfl ?_ ?_<;>intro h1
 ·try simp only[cn]at h1
  refine sQ fun N hN=>?_;simp-dsimp-implicitDefEqProofs(disch:=omega)only[go_sem,MB];apply hN;apply AW.ret;simp-dsimp-implicitDefEqProofs(disch:=omega)only[go_sem];exact⟨_,fun _ _ h=>h,0,a,s,rfl,⟨by omega,.inr rfl⟩,ho,(Kg hH).symm⟩
 try simp only[cn]at h1
 apply AW.skip;apply BC;refine sQ fun N hN=>?_;simp-dsimp-implicitDefEqProofs(disch:=omega)only[go_sem,MB];apply hN;have Em:0≤(s*48271+71).tmod 2147483647∧(s*48271+71).tmod 2147483647<2147483647:=by
  rw[Int.tmod_eq_emod_of_nonneg (by omega)];omega
 obtain⟨s2,XQ⟩:∃s2,(s*48271+71).tmod 2147483647=s2:=⟨_,rfl⟩
 rw[XQ]at Em ⊢
 have Ek:0≤s2.tdiv 47∧s2.tdiv 47≤2147483647:=by
  rw[Int.tdiv_eq_ediv_of_nonneg Em.1];omega
 refine sQ fun N hN=>?_;simp-dsimp-implicitDefEqProofs(disch:=omega)only[go_sem,MB];apply hN;refine AW.seq fun N2 BM=>?_;obtain⟨x0,JA⟩:∃x0,s2.tdiv 47=x0:=⟨_,rfl⟩
 rw[JA]at Ek ⊢
 refine AW.seq fun N hN=>?_;refine AW.BI A9 (by kernel_rfl) 10 (by kernel_rfl) ?_
 simp-dsimp-implicitDefEqProofs(disch:=omega)only[B3,B4,BH,List.take_succ_cons,List.take_zero,List.drop_succ_cons,List.drop_zero,List.take_nil,List.drop_nil,go_sem,undef,AJ,MB];apply hN;refine AW.cond rfl ?_ ?_<;>intro h2
 ·try simp only[cn]at h2
  have hb:=o2 a.toNat (by omega);refine AW.seq fun N hN=>?_;refine AW.BI A9 (by kernel_rfl) 14 (by kernel_rfl) ?_
  simp-dsimp-implicitDefEqProofs(disch:=omega)only[B3,B4,BH,List.take_succ_cons,List.take_zero,List.drop_succ_cons,List.drop_zero,List.take_nil,List.drop_nil,go_sem,undef,AJ,MB,sY];apply hN;refine sQ fun N hN=>?_;simp-dsimp-implicitDefEqProofs(disch:=omega)only[go_sem,MB];apply hN;refine sQ fun N hN=>?_;simp-dsimp-implicitDefEqProofs(disch:=omega)only[go_sem,MB];refine C9.mk' (fun h3=>?_) (fun h3=>?_)
  ·try simp only[cn]at h3
   have iK:(a+1-1).toNat=a.toNat:=by omega
   try simp-dsimp-implicitDefEqProofs(disch:=omega)only[go_sem,MB]
   apply hN;refine AW.cond rfl ?_ ?_<;>intro h4
   ·(try simp only[cn]at h4);refine AW.BI A9 (by kernel_rfl) 13 (by kernel_rfl) ?_;simp-dsimp-implicitDefEqProofs(disch:=omega)only[B3,B4,BH,List.take_succ_cons,List.take_zero,List.drop_succ_cons,List.drop_zero,List.take_nil,List.drop_nil,go_sem,undef,AJ,MB,sY,iK];apply BM;refine sQ fun N hN=>?_;simp-dsimp-implicitDefEqProofs(disch:=omega)only[go_sem,MB];apply hN;apply AW.ret;simp-dsimp-implicitDefEqProofs(disch:=omega)only[go_sem];exact⟨_,fun _ _ h=>h,_,a+1,s2,rfl,TV (by omega) (by omega),⟨o1,o2,by omega,by omega,by omega,by omega⟩,rfl⟩
   try simp only[cn]at h4
   apply AW.skip;apply BM;refine sQ fun N hN=>?_;simp-dsimp-implicitDefEqProofs(disch:=omega)only[go_sem,MB];apply hN;apply AW.ret;simp-dsimp-implicitDefEqProofs(disch:=omega)only[go_sem];exact⟨_,fun _ _ h=>h,_,a+1,s2,rfl,TV (by omega) (by omega),⟨o1,o2,by omega,by omega,by omega,by omega⟩,rfl⟩
  try simp only[cn]at h3
  try simp-dsimp-implicitDefEqProofs(disch:=omega)only[go_sem,MB]
  apply hN;refine AW.C8 rfl ?_;apply AW.skip;apply BM;refine sQ fun N hN=>?_;simp-dsimp-implicitDefEqProofs(disch:=omega)only[go_sem,MB];apply hN;apply AW.ret;simp-dsimp-implicitDefEqProofs(disch:=omega)only[go_sem];exact⟨_,fun _ _ h=>h,_,a+1,s2,rfl,TV (by omega) (by omega),⟨o1,o2,by omega,by omega,by omega,by omega⟩,rfl⟩
 try simp only[cn]at h2
 apply AW.skip;apply BM;refine sQ fun N hN=>?_;simp-dsimp-implicitDefEqProofs(disch:=omega)only[go_sem,MB];apply hN;apply AW.ret;simp-dsimp-implicitDefEqProofs(disch:=omega)only[go_sem];exact⟨_,fun _ _ h=>h,_,a,s2,rfl,TV (by omega) (by omega),⟨o1,o2,by omega,by omega,by omega,by omega⟩,rfl⟩
theorem VP(bs:List Int)(hb:P2 bs)(hn:bs.length≤4096)(nx:Nat):AC Tryz.prog 22 nx BN [I0 bs] (fun nx' H' r=>∃id a s,r= .q id 0∧nx≤id∧id<nx'∧zT bs a s∧H' id=some (Kf bs a s)):=by
 refine AC.C2 A9 Tryz.func22 rfl (by kernel_rfl) Tryz.ntmps22 Tryz.results22 (fun C7 cX=>?_)
 refine sQ fun N hN=>?_;simp-dsimp-implicitDefEqProofs(disch:=omega)only[go_sem,I0];apply hN;refine sQ fun N hN=>?_;simp-dsimp-implicitDefEqProofs(disch:=omega)only[go_sem,I0];apply hN;refine AW.seq fun N1 BC=>?_;refine sQ fun N hN=>?_;simp-dsimp-implicitDefEqProofs(disch:=omega)only[go_sem,I0];apply hN;apply AW.block;refine AW.AF (α:=Nat×Int) (fun x=>sl 34 [(0,I0 bs),(3,.q (nx+1+2) 0),(4,.i .i64 x.1)]) (fun x=>AU BN (nx+1+2) (some (Kf bs 0 x.2))) (fun x m=>(x.1≤bs.length∧nx+3<m)∧(0≤x.2∧x.2<2147483647)) (fun x=>bs.length-x.1) ((0,76001)) ?_ ?_ (by exact Le.refl _) ?_
 ·exact⟨⟨Nat.zero_le _,by first|omega|(dsimp only;omega)⟩,by decide⟩
 ·simp(disch:=omega) [AO,AQ,sl,I0]<;>omega
 skip
 rintro⟨k,s⟩ m ⟨⟨hk,hm⟩,hs⟩
 dsimp only at hk hm hs ⊢
 simp only[I0,Kf];simp-dsimp-implicitDefEqProofs(disch:=omega)only[go_sem];refine AW.seq fun N2 BM=>?_;refine sQ fun N hN=>?_;simp-dsimp-implicitDefEqProofs(disch:=omega)only[go_sem,I0];refine C9.mk' (fun h1=>?_) (fun h1=>?_)
 ·try simp only[cn]at h1
  have T9:=hb.get (k:=k) (by omega);have Em:0≤(s*71+bs.getD k 0).tmod 2147483647∧(s*71+bs.getD k 0).tmod 2147483647<2147483647:=by
   rw[Int.tmod_eq_emod_of_nonneg (by omega)];omega
  try simp-dsimp-implicitDefEqProofs(disch:=omega)only[go_sem,I0]
  apply hN;refine AW.cond rfl ?_ ?_<;>intro h2
  ·try simp only[cn]at h2
   apply AW.skip;apply BM;refine AW.seq fun N3 BQ=>?_;apply AW.block;refine AW.BI A9 (by kernel_rfl) 15 (by kernel_rfl) ?_
   simp-dsimp-implicitDefEqProofs(disch:=omega)only[B3,B4,BH,List.take_succ_cons,List.take_zero,List.drop_succ_cons,List.drop_zero,List.take_nil,List.drop_nil,go_sem,undef,AJ,I0,sY];apply BQ;apply rQ;simp-dsimp-implicitDefEqProofs(disch:=omega)only[go_sem,I0];refine⟨(k+1,(s*71+bs.getD k 0).tmod 2147483647),?_,fun _ _ h=>h,?_,?_⟩
   ·simp(disch:=omega) [AO,AQ,sl,I0]<;>omega
   ·(try dsimp only);omega
   first|omega|(simp only;omega)
  try simp only[cn]at h2
  apply AW.exit;apply BC;refine sQ fun N hN=>?_;simp-dsimp-implicitDefEqProofs(disch:=omega)only[go_sem,I0];apply hN;apply AW.ret;simp-dsimp-implicitDefEqProofs(disch:=omega)only[go_sem];exact⟨_,fun _ _ h=>h,nx+1+2,0,s,rfl,by omega,by omega,⟨hn,fun k hk=>hb.get hk,by omega,by omega,hs.1,hs.2⟩,A1 _ _ _⟩
 try simp only[cn]at h1
 try simp-dsimp-implicitDefEqProofs(disch:=omega)only[go_sem,I0]
 apply hN;refine AW.C8 rfl ?_;apply AW.exit;apply BC;refine sQ fun N hN=>?_;simp-dsimp-implicitDefEqProofs(disch:=omega)only[go_sem,I0];apply hN;apply AW.ret;simp-dsimp-implicitDefEqProofs(disch:=omega)only[go_sem];exact⟨_,fun _ _ h=>h,nx+1+2,0,s,rfl,by omega,by omega,⟨hn,fun k hk=>hb.get hk,by omega,by omega,hs.1,hs.2⟩,A1 _ _ _⟩
end Go.Proofs.YtghmeeifjeafmaaGreat
namespace Go.Proofs.YtghmeeifjeafmaaGreat
def sZ:List UInt8→Option Int
  |[c]=>if c=50∨c=51∨c=53∨c=55 then some ((c.toNat:Int)-48)else none
  |_=>none
def cQ:List (List UInt8)→Option (List Int)
  |[]=>some []
  |p::ps=>(sZ p).bind fun d=>(cQ ps).bind fun ds=>some (d::ds)
def tA(l:List UInt8):Option (List Int):=if l=[49]then some []else (cQ (QE 32 l)).bind fun os=>if os.length≤6∧OK os os.length≤729 then some os else none
theorem zU{c:UInt8}(h1:48≤(c.toNat:Int))(h2:(c.toNat:Int)≤57):ZJ (CP [c])=(c.toNat:Int)-48:=by
  have hb:MN (CP [c]) 0=(c.toNat:Int):=rfl;have hs:(CP [c]).size=1:=rfl;rw[ZM (by rw[hs];omega) (fun j hj=>by
    obtain rfl:j=0:=by rw[hs]at hj;omega
    unfold FF;rw[hb];omega),hs]
  simp only[NV,hb];omega
theorem VQ{p:List UInt8}{d:Int}(h:sZ p=some d):ZJ (CP p)=d∧J0 d:=by
  unfold sZ at h;split at h
  · split at h
    · rename_i c hc;cases h;rcases hc with rfl|rfl|rfl|rfl
      · exact⟨zU (by decide) (by decide),.inl rfl⟩
      · exact⟨zU (by decide) (by decide),.inr (.inl rfl)⟩
      · exact⟨zU (by decide) (by decide),.inr (.inr (.inl rfl))⟩
      exact⟨zU (by decide) (by decide),.inr (.inr (.inr rfl))⟩
    cases h
  cases h
theorem cR:∀{ps:List (List UInt8)} {os:List Int},cQ ps=some os→os.length=ps.length∧∀k,k<ps.length→sZ (ps.getD k [])=some (os.getD k 0):=by
  intro ps;induction ps with
  |nil=>intro os h;cases h;exact⟨rfl,fun k hk=>by simp at hk⟩
  | cons p ps ih=>
    intro os h;rw[cQ]at h;cases hd:sZ p with
    |none=>rw[hd]at h;cases h
    | some d=>
      cases vR:cQ ps with
      |none=>rw[hd,vR]at h;cases h
      | some ds=>
        rw[hd,vR]at h;cases h;obtain⟨h1,h2⟩:=ih vR;refine⟨by simp[h1],fun k hk=>?_⟩;cases k with
        |zero=>simpa using hd
        |succ k=>simpa using h2 k (by simpa using hk)
set_option maxHeartbeats 4000000 in theorem QF (l:List UInt8) (os:List Int) (hl:l.length≤2097152) (h:tA l=some os):BG Tryz.prog 161 [.s (CP l)] (.t [ints os,.b true]):=by
 have mE:BG Tryz.prog 160 [.s (CP l),.i .u8 32] (strs ((QE 32 l).map CP)):=by
  have:=GI (CP l) 32 (by rw[BB];omega);rwa [kD]at this
 refine BG.GD A9 Tryz.func161 rfl (by kernel_rfl) Tryz.ntmps161 Tryz.results161 ((sN (fM _) _)) (fun nx cX=>?_)
 refine sQ fun N hN=>?_;simp-dsimp-implicitDefEqProofs(disch:=omega)only[go_sem];apply hN;refine sQ fun N hN=>?_;simp-dsimp-implicitDefEqProofs(disch:=omega)only[go_sem];apply hN;refine AW.seq fun N1 BC=>?_;refine sQ fun N hN=>?_;simp-dsimp-implicitDefEqProofs(disch:=omega)only[go_sem];apply hN;refine AW.cond rfl ?_ ?_<;>intro h1
 ·try simp only[cn]at h1
  have HR:l=[49]:=toL_eq.1 h1;have OI:os=[]:=by rw[tA,if_pos HR]at h;cases h;rfl
  refine sQ fun N hN=>?_;simp-dsimp-implicitDefEqProofs(disch:=omega)only[go_sem];apply hN;apply AW.ret;simp-dsimp-implicitDefEqProofs(disch:=omega)only[go_sem];rw[OI]
  exact VG (Vw.fr (A1 _ _ _) rfl)
 try simp only[cn]at h1
 have HR:¬l=[49]:=fun e=>h1 (toL_eq.2 e)
 rw[tA,if_neg HR]at h
 obtain⟨ds,vR,h⟩:=Option.bind_eq_some_iff.1 h
 have YA:ds.length≤6∧OK ds ds.length≤729:=by
  apply Classical.byContradiction;intro hn;rw[if_neg hn]at h;cases h
 rw[if_pos YA]at h
 cases h
 obtain⟨By,Nk⟩:=cR vR
 have J2:∀i,i<os.length→J0 (os.getD i 0):=fun i hi=>(VQ (Nk i (by omega))).2
 apply AW.skip;apply BC;refine sQ fun N hN=>?_;simp-dsimp-implicitDefEqProofs(disch:=omega)only[go_sem];refine AC.pure (.of (mE)) ?_;try simp-dsimp-implicitDefEqProofs(disch:=omega)only[go_sem]
 apply hN;refine AW.seq fun N2 BM=>?_;refine sQ fun N hN=>?_;simp-dsimp-implicitDefEqProofs(disch:=omega)only[go_sem];apply hN;apply AW.block;refine AW.AF (α:=Nat×Nat) (fun x=>sl 40 [(4,.h x.2 0 x.1),(5,strs ((QE 32 l).map CP)),(6,.i .i64 x.1)]) (fun x=>AU BN x.2 (some ((os.take x.1).map (.i .i64)))) (fun x m=>x.1≤os.length∧x.2<m) (fun x=>os.length-x.1) ((0,nx+2)) ?_ ?_ (by intro d cs hd;exact hd) ?_
 ·exact⟨by simp,by first|omega|(dsimp only;omega)⟩
 ·simp(disch:=omega) [AO,AQ,sl,strs]
 skip
 rintro⟨k,id⟩ m ⟨hk,DA⟩
 simp-dsimp-implicitDefEqProofs(disch:=omega)only[go_sem];dsimp only at hk DA ⊢
 have hlen:((QE 32 l).map CP).length=os.length:=by rw[List.length_map];omega
 refine AW.seq fun N3 BQ=>?_;refine sQ fun N hN=>?_;simp-dsimp-implicitDefEqProofs(disch:=omega)only[go_sem,strs,hlen];apply hN;refine AW.cond rfl ?_ ?_<;>intro h2
 ·try simp only[cn]at h2
  have L4:k<os.length:=by omega
  have hg:=cI (QE 32 l) (k:=k) (by omega);obtain⟨PG,iX⟩:=VQ (Nk k (by omega));have cL:=D0 iX;have hv2:=RK (CP ((QE 32 l).getD k []));rw[PG]at hv2;have yS:tf (J0 (os.getD k 0))=true:=EN iX;have VR:decide ((k:Int)≥6)=false:=decide_eq_false (by omega);have cS:decide (6≤(k:Int))=false:=decide_eq_false (by omega);have mQ:os.take (k+1)=os.take k++[os.getD k 0]:=by
   rw[List.take_succ_eq_append_getElem L4];simp[L4]
  have hle:((os.take k).map (AV.i .i64)).length=k:=by rw[List.length_map,List.length_take];omega
  have htt:List.take k ((os.take k).map (AV.i .i64))=(os.take k).map (.i .i64):=List.take_of_length_le (by omega);apply AW.skip;apply BQ;refine AW.seq fun N4 CG=>?_;apply AW.block;refine sQ fun N hN=>?_;simp-dsimp-implicitDefEqProofs(disch:=omega)only[go_sem,strs,hlen,hg,Int.toNat_natCast];refine AC.pure (.of (hv2)) ?_;try simp-dsimp-implicitDefEqProofs(disch:=omega)only[go_sem]
  apply hN;refine AW.seq fun N5 DW=>?_;refine sQ fun N hN=>?_;simp-dsimp-implicitDefEqProofs(disch:=omega)only[go_sem,yS,VR,cS];refine AC.pure (.of (GC (os.getD k 0))) ?_;try simp-dsimp-implicitDefEqProofs(disch:=omega)only[go_sem,yS,VR,cS,Bool.not_true]
  apply hN;refine AW.C8 rfl ?_;apply AW.skip;apply DW;apply rQ;simp-dsimp-implicitDefEqProofs(disch:=omega)only[go_sem,hle,htt];apply CG;apply rQ;simp-dsimp-implicitDefEqProofs(disch:=omega)only[go_sem];refine⟨(k+1,_),?_,by rw[mQ,List.map_append];exact VF (A1 _ _ _),?_,?_⟩
  ·simp(disch:=omega) [AO,AQ,sl,AJ,strs,hlen]
  ·exact⟨by first|omega|(dsimp only;omega),by first|omega|(dsimp only;omega)⟩
  first|omega|(simp only;omega)
 try simp only[cn]at h2
 have W8:k=os.length:=by omega
 rw[W8,List.take_length]
 have Bj:=TH J2 os.length (Nat.le_refl _)
 have rM:decide (JN os os.length≤729)=true:=decide_eq_true (by omega)
 apply AW.exit;apply BM;refine sQ fun N hN=>?_;simp-dsimp-implicitDefEqProofs(disch:=omega)only[go_sem,rM];refine AC.pure (.vS (E1 os YA.1 J2) (.cons (Vw.fr (A1 _ _ _) (List.length_map ..)) .nil) (.i _ _)) ?_
 try simp-dsimp-implicitDefEqProofs(disch:=omega)only[go_sem]
 apply hN;apply AW.ret;simp-dsimp-implicitDefEqProofs(disch:=omega)only[go_sem];rw[rM]
 exact VG (Vw.fr (A1 _ _ _) (List.length_map ..))
def QG(i:Nat):List UInt8:=[UInt8.ofNat (97+i)]
theorem zV(i:Nat)(h:i<6):fJ [(i:Int)+1]=CP (QG i):=by
  have h0:fJ [((0:Nat):Int)+1]=CP (QG 0):=by kernel_rfl
  have h1:fJ [((1:Nat):Int)+1]=CP (QG 1):=by kernel_rfl
  have h2:fJ [((2:Nat):Int)+1]=CP (QG 2):=by kernel_rfl
  have h3:fJ [((3:Nat):Int)+1]=CP (QG 3):=by kernel_rfl
  have h4:fJ [((4:Nat):Int)+1]=CP (QG 4):=by kernel_rfl
  have h5:fJ [((5:Nat):Int)+1]=CP (QG 5):=by kernel_rfl
  have hi:i=0∨i=1∨i=2∨i=3∨i=4∨i=5:=by omega
  rcases hi with rfl|rfl|rfl|rfl|rfl|rfl<;>assumption
theorem FU(i:Nat)(h:i<6):BG Tryz.prog 168 [.i .i64 i] (.s (CP (QG i))):=by
 have iD:=HK [(i:Int)+1] (by simp)
 rw[zV i h]at iD
 refine BG.AM A9 Tryz.func168 rfl (by kernel_rfl) Tryz.ntmps168 Tryz.results168 (.s _) (fun nx cX=>?_)
 refine sQ fun N hN=>?_;simp-dsimp-implicitDefEqProofs(disch:=omega)only[go_sem];apply hN;refine sQ fun N hN=>?_;simp-dsimp-implicitDefEqProofs(disch:=omega)only[go_sem];refine AC.pure (.vS (iD) (.cons (Vw.fr (A1 _ _ _) rfl) .nil) (.s _)) ?_
 try simp-dsimp-implicitDefEqProofs(disch:=omega)only[go_sem]
 apply hN;apply AW.ret;simp-dsimp-implicitDefEqProofs(disch:=omega)only[go_sem];skip
end Go.Proofs.YtghmeeifjeafmaaGreat
