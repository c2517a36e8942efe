import Derived.Test.YtghmeeifjeafmaaGreatZ35
set_option linter.unusedVariables false
set_option linter.unusedSimpArgs false
namespace Go.Proofs.YtghmeeifjeafmaaGreat
theorem ND{E:HP}{b id n:Nat}{cs:List AV}{W:List (List Int)}(h:E id=some cs)(DA:b≤id)(hl:cs.length=W.length)(hc:∀k,k<W.length→∃q,cs.getD k .j= .h q 0 (W.getD k []).length∧b≤q∧E q=some ((W.getD k []).map (.i .i64)))(hn:n=W.length:=by rfl):Fz E (GH b E) (.h id 0 n) (rows W):=by
  subst hn;unfold rows;refine .h id 0 _ cs _ h (KR DA) (by omega) (by simp) fun k x y hx hy=>?_
  rw[Nat.zero_add]at hx;have hk:k<W.length:=by have:=(List.getElem?_eq_some_iff.1 hy).1;simpa using this
  obtain⟨q,e,g1,g2⟩:=hc k hk;have mZ:x= .h q 0 (W.getD k []).length:=by rw[←e,List.getD_eq_getElem?_getD,hx];rfl
  have Tc:y=ints (W.getD k []):=by
    rw[List.getElem?_map,List.getElem?_eq_getElem hk]at hy;rw[List.getD_eq_getElem?_getD,List.getElem?_eq_getElem hk];exact(Option.some.inj hy).symm
  subst mZ Tc;unfold ints;exact .h q 0 _ _ _ g2 (KR g1) (by simp) (by simp) fun k x y g1 g2=>by rw[Nat.zero_add,g2]at g1;cases g1;exact .refl _
theorem LC.vwI{H:HP}{a b:Nat}{L:AV}{xs:List Int}(h:LC H a b L (xs.map (.i .i64))):Vw H L (Go.Proofs.YtghmeeifjeafmaaGreat.ints xs):=by
  rcases h with ⟨rfl,e⟩|⟨id,rfl,h0,_,_⟩
  · obtain rfl:xs=[]:=List.map_eq_nil_iff.1 e;exact .nl
  have:=Vw.fr (n:=(xs.map (AV.i .i64)).length) h0 rfl;unfold Go.Proofs.YtghmeeifjeafmaaGreat.ints;rw[List.length_map]at this ⊢;exact this
theorem RQ{n:Nat}{W:List (List Int)}(h:W.length=n)(hw:∀w∈W,w.length=n∧∀x∈w,0≤x∧x≤10):aA n W:=
  ⟨h,fun w hm=>⟨(hw w hm).1,fun k=>F7 (p:=fun x:Int=>0≤x∧x≤10) (hw w hm).2 (by omega) k⟩⟩
theorem Wf:aA 2 [[2,0],[0,2]]:=RQ (by decide) (by decide)
theorem Wg:aA 2 [[0,1],[2,0]]:=RQ (by decide) (by decide)
theorem Wh:aA 3 [[0,1,0],[0,0,1],[1,1,0]]:=RQ (by decide) (by decide)
theorem Wi:aA 3 [[1,1,0],[0,1,1],[0,0,1]]:=RQ (by decide) (by decide)
theorem Wj:aA 4 [[0,1,0,0],[1,0,0,0],[0,0,0,1],[0,0,1,0]]:=RQ (by decide) (by decide)
theorem Wl:aA 2 [[0,1],[4,4]]:=RQ (by decide) (by decide)
set_option maxRecDepth 20000 in
set_option maxHeartbeats 8000000 in
theorem RR{bs:List Int}{AT:Nat}{H:HP}(hg:AY bs AT H)(nx:Nat)(J6:AT<nx):AC Tryz.prog 115 nx H [.q AT 0] (fun nx' H' r=>∃r2,Fz H' (GH nx H') r r2∧SQ 12 r2∧AY bs AT H'∧∀i,i<nx→i≠AT→H' i=H i):=by
 refine AC.C2 A9 Tryz.func115 rfl (by kernel_rfl) Tryz.ntmps115 Tryz.results115 (fun C7 cX=>?_)
 refine sQ fun N hN=>?_;simp-dsimp-implicitDefEqProofs(disch:=omega)only[go_sem,A8];apply hN;refine AW.seq fun N1 BC=>?_;refine AW.BD (fun G0 CT=>?_);dsimp only at CT
 have hl:∀i,i<nx→i≠AT→G0 i=H i:=fun i hi _=>by rw[←CT,A0 _ _ (by omega)]
 have h0:G0 nx=some [.nl,.nl,.nl]:=by rw[←CT,A1]
 replace hg:AY bs AT G0:=hg.AD (by rw[←CT,A0 _ _ (by omega)])
 clear CT
 simp-dsimp-implicitDefEqProofs(disch:=omega)only[go_sem];refine sQ fun N hN=>?_;simp-dsimp-implicitDefEqProofs(disch:=omega)only[go_sem,A8];refine(AK (hg.AD (by first|rfl|(simp(disch:=omega)only[A0]))) 9 (by omega) _).AG ?_
 rintro m1 H1 r1 MW ⟨⟨x1,rfl,mZ⟩,JZ,RW⟩
 replace hl:∀i,i<nx→i≠AT→H1 i=H i:=fun i hi AL=>(RW i (by omega) AL).trans (by first|exact hl i hi AL|(simp(disch:=omega)only[A0];exact hl i hi AL))
 replace h0:H1 nx=some [.nl,.nl,.nl]:=(RW nx (by omega) (by omega)).trans (by first|exact h0|(simp(disch:=omega)only[A0];exact h0))
 replace hg:=JZ
 clear JZ
 try simp-dsimp-implicitDefEqProofs(disch:=omega)only[go_sem,A8]
 apply hN;apply AW.block;refine sQ fun N hN=>?_;simp-dsimp-implicitDefEqProofs(disch:=omega)only[go_sem,A8];apply hN;refine AW.cond rfl ?_ ?_<;>intro h1
 ·try simp only[cn]at h1
  refine sQ fun N hN=>?_;simp-dsimp-implicitDefEqProofs(disch:=omega)only[go_sem,A8];apply hN;refine AW.seq fun N2 BM=>?_;refine sQ fun N hN=>?_;simp-dsimp-implicitDefEqProofs(disch:=omega)only[go_sem,A8];refine(AK (hg.AD (by first|rfl|(simp(disch:=omega)only[A0]))) 5 (by omega) _).AG ?_
  rintro m2 H2 r2 TI ⟨⟨x2,rfl,iQ⟩,LA,EX⟩;replace hl:∀i,i<nx→i≠AT→H2 i=H i:=fun i hi AL=>(EX i (by omega) AL).trans (by first|exact hl i hi AL|(simp(disch:=omega)only[A0];exact hl i hi AL))
  replace h0:H2 nx=some [.nl,.nl,.nl]:=(EX nx (by omega) (by omega)).trans (by first|exact h0|(simp(disch:=omega)only[A0];exact h0));replace hg:=LA;clear LA;try simp-dsimp-implicitDefEqProofs(disch:=omega)only[go_sem,A8]
  apply hN;apply AW.block;obtain⟨n2,rfl⟩:∃n:Nat,x2=n:=⟨x2.toNat,by omega⟩;refine AW.AF (α:=Nat×HP×AV×List Int) (fun x=>sl 130 [(0,.q AT 0),(2,.q nx 0),(3,x.2.2.1),(4,.i .i64 x.1),(10,.i .i64 x1)]) (fun x=>x.2.1) (fun x m=>(x.1+x.2.2.2.length≤4∧nx+1≤m)∧LC x.2.1 (nx+1) m x.2.2.1 (x.2.2.2.map (.i .i64))∧(∀z∈x.2.2.2,2≤z∧z≤3)∧AY bs AT x.2.1∧(∀i,i<nx→i≠AT→x.2.1 i=H i)∧x.2.1 nx=some [.nl,.nl,.nl]) (fun x=>x.1) ((n2,H2,.h (m1+2) 0 0,[])) ?_ ?_ (fun _ _ h=>h) ?_
  ·exact⟨⟨by simp;omega,by first|omega|(dsimp only;omega)⟩,LC.mk ((EX (m1+2) (by omega) (by omega)).trans (A1 _ _ _)) rfl (by omega) (by first|omega|(dsimp only;omega)),by simp,hg,hl,h0⟩
  ·simp(disch:=omega) [AO,AQ,sl,AJ,ints,rows,A4,AJ,A8]<;>omega
  skip
  rintro⟨n2,G,L,vs⟩ m ⟨⟨TJ,hm⟩,hL,hvs,hg,hl,h0⟩;simp-dsimp-implicitDefEqProofs(disch:=omega)only[go_sem];dsimp only at TJ hm hL hvs hg hl h0 ⊢;have NU:=hL.one;have KQ:=hL.len;refine AW.seq fun N3 BQ=>?_;refine sQ fun N hN=>?_;simp-dsimp-implicitDefEqProofs(disch:=omega)only[go_sem,A8];apply hN;refine AW.cond rfl ?_ ?_<;>intro h2
  ·try simp only[cn]at h2
   apply AW.skip;apply BQ;refine AW.seq fun N4 CG=>?_;apply AW.block;apply rQ;simp-dsimp-implicitDefEqProofs(disch:=omega)only[go_sem,A8];refine(CD (hg.AD (by first|rfl|(simp(disch:=omega)only[A0]))) [2,2,3] 3 (A1 _ _ _) rfl (by omega) (by omega) _ (by omega) (by omega) (by omega)).AG ?_
   rintro m3 H3 r3 S9 ⟨⟨x3,rfl,Wc⟩,KS,O3⟩;have O6:2≤x3∧x3≤3:=by simp at Wc;omega
   replace hl:∀i,i<nx→i≠AT→H3 i=H i:=fun i hi AL=>(O3 i (by omega) AL).trans (by first|exact hl i hi AL|(simp(disch:=omega)only[A0];exact hl i hi AL))
   replace h0:H3 nx=some [.nl,.nl,.nl]:=(O3 nx (by omega) (by omega)).trans (by first|exact h0|(simp(disch:=omega)only[A0];exact h0));have hL3:LC H3 (nx+1) m L (vs.map (.i .i64)):=hL.AD (fun i cY XH=>(O3 i (by omega) (by omega)).trans (A0 _ _ (by omega)));have dH:=hL.bd;try simp-dsimp-implicitDefEqProofs(disch:=(first|omega|((repeat refine LC.AU (by omega) ?_);assumption))) only[go_sem,NU,KQ,CC (a:=nx+1) (b:=m) (L:=L) (cs:=vs.map (.i .i64))]
   apply CG;refine AW.BD (fun G3 D3=>?_);dsimp only at D3;have LJ:∀i,i<nx→i≠AT→G3 i=H i:=fun i hi AL=>by rw[←D3,A0 _ _ (by omega),AP (by omega),A0 _ _ (by omega)];exact hl i hi AL
   have QO:G3 nx=some [.nl,.nl,.nl]:=by rw[←D3,A0 _ _ (by omega),AP (by omega),A0 _ _ (by omega)];exact h0
   have ZS:AY bs AT G3:=KS.AD (by rw[←D3,A0 _ _ (by omega),AP (by omega),A0 _ _ (by omega)]);apply rQ;simp-dsimp-implicitDefEqProofs(disch:=omega)only[go_sem,A8];refine⟨(n2-1,G3,.h (m+2+5) 0 (vs.length+1),vs++[x3]),?_,fun _ _ h=>h,?_,?_⟩
   ·simp(disch:=omega) [AO,AQ,sl,AJ]<;>omega
   ·have IZ:LC G3 (nx+1) (m3+3) (.h (m+2+5) 0 (vs.length+1)) ((vs++[x3]).map (.i .i64)):=LC.mk (by rw[←D3,A1];simp) (by simp) (by omega) (by omega);have Wm:∀z∈vs++[x3],2≤z∧z≤3:=HZ hvs O6;first|exact⟨⟨by simp;omega,by first|omega|(dsimp only;omega)⟩,IZ,Wm,ZS,LJ,QO⟩|exact⟨by simp;omega,IZ,Wm,ZS,LJ,QO⟩
   first|omega|(simp only;omega)
  try simp only[cn]at h2
  apply AW.exit;apply BM;refine sQ fun N hN=>?_;simp-dsimp-implicitDefEqProofs(disch:=omega)only[go_sem,A8];refine(BU vs (by omega) _ (.cons hL.vwI .nil)).AG ?_
  intro m4 H4 r4 sS YU;obtain⟨P,B,bc,rfl,K1,K3,JX,C4⟩:=FD.start (N:=12) (bx:=nx) YU (by omega) (by omega) (fun x hx=>by have:=hvs x hx;omega) (by omega);have Zp:=(JX nx (by omega)).trans h0;have ZS:AY bs AT H4:=hg.AD (JX AT (by omega));have dM:∀i,i<nx→i≠AT→H4 i=H i:=fun i hi AL=>(JX i (by omega)).trans (hl i hi AL)
  try simp-dsimp-implicitDefEqProofs(disch:=omega)only[go_sem,K1,K3,ints,Bool.and_true,Zp]
  apply hN;apply AW.ret;simp-dsimp-implicitDefEqProofs(disch:=omega)only[go_sem];exact⟨_,fun _ _ h=>h,_,C4.fz (fun _ _=>rfl) (by omega),⟨vs,_,_,rfl,C4.sh⟩,ZS.AD (A0 _ _ (by omega)),fun i hi AL=>(A0 _ _ (by omega)).trans (dM i hi AL)⟩
 try simp only[cn]at h1
 refine sQ fun N hN=>?_;simp-dsimp-implicitDefEqProofs(disch:=omega)only[go_sem,A8];apply hN;refine AW.cond rfl ?_ ?_<;>intro h3
 ·try simp only[cn]at h3
  refine sQ fun N hN=>?_;simp-dsimp-implicitDefEqProofs(disch:=omega)only[go_sem,A8,↓Ae]
  refine(CD (hg.AD (by first|rfl|(simp(disch:=omega)only[A0]))) [1,4,6,8,9,12,5,7,27,25,36] 11 (A1 _ _ _) rfl (by omega) (by omega) _ (by omega) (by omega) (by omega)).AG ?_;rintro m5 H5 r5 uI ⟨⟨x5,rfl,We⟩,fR,J7⟩;have P1:1≤x5∧x5≤64:=by simp at We;omega
  replace hl:∀i,i<nx→i≠AT→H5 i=H i:=fun i hi AL=>(J7 i (by omega) AL).trans (by first|exact hl i hi AL|(simp(disch:=omega)only[A0];exact hl i hi AL))
  replace h0:H5 nx=some [.nl,.nl,.nl]:=(J7 nx (by omega) (by omega)).trans (by first|exact h0|(simp(disch:=omega)only[A0];exact h0));replace hg:=fR;clear fR;try simp-dsimp-implicitDefEqProofs(disch:=omega)only[go_sem,A8]
  refine(IU x5 P1.1 P1.2 _ _).AG ?_;rintro m6 H6 r6 Zq ⟨⟨os,X,Y,e6,rfl,FY⟩,VR⟩;replace hg:AY bs AT H6:=hg.AD ((VR AT (by omega)).trans (by first|rfl|(rw[BE (by omega)];simp(disch:=omega)only[A0])));replace hl:∀i,i<nx→i≠AT→H6 i=H i:=fun i hi AL=>(VR i (by omega)).trans (by first|exact hl i hi AL|(rw[BE (by omega)];simp(disch:=omega)only[A0];exact hl i hi AL))
  replace h0:H6 nx=some [.nl,.nl,.nl]:=(VR nx (by omega)).trans (by first|exact h0|(rw[BE (by omega)];simp(disch:=omega)only[A0];exact h0));try simp-dsimp-implicitDefEqProofs(disch:=omega)only[go_sem,A8,h0]
  apply hN;refine sQ fun N hN=>?_;simp-dsimp-implicitDefEqProofs(disch:=omega)only[go_sem,A8,h0];apply hN;apply AW.ret;simp-dsimp-implicitDefEqProofs(disch:=omega)only[go_sem];exact⟨_,fun _ _ h=>h,_,.refl _,⟨os,X,Y,rfl,by first|exact FY|exact FY.more (by omega)⟩,hg.AD (by simp(disch:=omega)only[A0]),fun i hi AL=>by simp(disch:=omega)only[A0];exact hl i hi AL⟩
 try simp only[cn]at h3
 refine sQ fun N hN=>?_;simp-dsimp-implicitDefEqProofs(disch:=omega)only[go_sem,A8];apply hN;refine AW.cond rfl ?_ ?_<;>intro h4
 ·try simp only[cn]at h4
  refine sQ fun N hN=>?_;simp-dsimp-implicitDefEqProofs(disch:=omega)only[go_sem,A8,↓Kq]
  refine(CD (hg.AD (by first|rfl|(simp(disch:=omega)only[A0]))) [3,4,5,6,7,8,9,12] 8 (A1 _ _ _) rfl (by omega) (by omega) _ (by omega) (by omega) (by omega)).AG ?_;rintro m7 H7 r7 Nl ⟨⟨x7,rfl,Cl⟩,WH,cS⟩;have NW:1≤x7∧x7≤64:=by simp at Cl;omega
  replace hl:∀i,i<nx→i≠AT→H7 i=H i:=fun i hi AL=>(cS i (by omega) AL).trans (by first|exact hl i hi AL|(simp(disch:=omega)only[A0];exact hl i hi AL))
  replace h0:H7 nx=some [.nl,.nl,.nl]:=(cS nx (by omega) (by omega)).trans (by first|exact h0|(simp(disch:=omega)only[A0];exact h0));replace hg:=WH;clear WH;try simp-dsimp-implicitDefEqProofs(disch:=omega)only[go_sem,A8]
  apply hN;refine sQ fun N hN=>?_;simp-dsimp-implicitDefEqProofs(disch:=omega)only[go_sem,A8];refine(CU 2 x7 (x7-1) 0 (by omega) (by omega) (by omega) (by omega) _ _).AG ?_
  rintro m8 H8 r8 uJ ⟨⟨os,X,Y,rfl,FY⟩,YB⟩;replace hg:AY bs AT H8:=hg.AD ((YB AT (by omega)).trans (by first|rfl|(rw[BE (by omega)];simp(disch:=omega)only[A0])));replace hl:∀i,i<nx→i≠AT→H8 i=H i:=fun i hi AL=>(YB i (by omega)).trans (by first|exact hl i hi AL|(rw[BE (by omega)];simp(disch:=omega)only[A0];exact hl i hi AL))
  replace h0:H8 nx=some [.nl,.nl,.nl]:=(YB nx (by omega)).trans (by first|exact h0|(rw[BE (by omega)];simp(disch:=omega)only[A0];exact h0));try simp-dsimp-implicitDefEqProofs(disch:=omega)only[go_sem,A8,h0]
  apply hN;apply AW.ret;simp-dsimp-implicitDefEqProofs(disch:=omega)only[go_sem];exact⟨_,fun _ _ h=>h,_,.refl _,⟨os,X,Y,rfl,by first|exact FY|exact FY.more (by omega)⟩,hg.AD (by simp(disch:=omega)only[A0]),fun i hi AL=>by simp(disch:=omega)only[A0];exact hl i hi AL⟩
 try simp only[cn]at h4
 refine sQ fun N hN=>?_;simp-dsimp-implicitDefEqProofs(disch:=omega)only[go_sem,A8];apply hN;refine AW.cond rfl ?_ ?_<;>intro h5
 ·try simp only[cn]at h5
  refine sQ fun N hN=>?_;simp-dsimp-implicitDefEqProofs(disch:=omega)only[go_sem,A8];refine(CD (hg.AD (by first|rfl|(simp(disch:=omega)only[A0]))) [4,6,8,12] 4 (A1 _ _ _) rfl (by omega) (by omega) _ (by omega) (by omega) (by omega)).AG ?_
  rintro m9 H9 r9 WA ⟨⟨x9,rfl,uK⟩,O8,P4⟩;have hb9:1≤x9∧x9≤64:=by simp at uK;omega
  have hd9:0≤x9.tdiv 2∧x9.tdiv 2≤64:=by rw[Int.tdiv_eq_ediv_of_nonneg (by omega)];omega
  replace hl:∀i,i<nx→i≠AT→H9 i=H i:=fun i hi AL=>(P4 i (by omega) AL).trans (by first|exact hl i hi AL|(simp(disch:=omega)only[A0];exact hl i hi AL))
  replace h0:H9 nx=some [.nl,.nl,.nl]:=(P4 nx (by omega) (by omega)).trans (by first|exact h0|(simp(disch:=omega)only[A0];exact h0));replace hg:=O8;clear O8;try simp-dsimp-implicitDefEqProofs(disch:=omega)only[go_sem,A8]
  apply hN;refine sQ fun N hN=>?_;simp-dsimp-implicitDefEqProofs(disch:=omega)only[go_sem,A8];refine(CU 2 x9 (x9-1) (x9.tdiv 2) (by omega) (by omega) (by omega) hd9 _ _).AG ?_
  rintro m10 No r10 A2V ⟨⟨os,X,Y,rfl,FY⟩,Ku⟩;replace hg:AY bs AT No:=hg.AD ((Ku AT (by omega)).trans (by first|rfl|(rw[BE (by omega)];simp(disch:=omega)only[A0])));replace hl:∀i,i<nx→i≠AT→No i=H i:=fun i hi AL=>(Ku i (by omega)).trans (by first|exact hl i hi AL|(rw[BE (by omega)];simp(disch:=omega)only[A0];exact hl i hi AL))
  replace h0:No nx=some [.nl,.nl,.nl]:=(Ku nx (by omega)).trans (by first|exact h0|(rw[BE (by omega)];simp(disch:=omega)only[A0];exact h0));try simp-dsimp-implicitDefEqProofs(disch:=omega)only[go_sem,A8,h0]
  apply hN;apply AW.ret;simp-dsimp-implicitDefEqProofs(disch:=omega)only[go_sem];exact⟨_,fun _ _ h=>h,_,.refl _,⟨os,X,Y,rfl,by first|exact FY|exact FY.more (by omega)⟩,hg.AD (by simp(disch:=omega)only[A0]),fun i hi AL=>by simp(disch:=omega)only[A0];exact hl i hi AL⟩
 try simp only[cn]at h5
 refine sQ fun N hN=>?_;simp-dsimp-implicitDefEqProofs(disch:=omega)only[go_sem,A8];apply hN;refine AW.cond rfl ?_ ?_<;>intro h6
 ·try simp only[cn]at h6
  refine AW.seq fun N5 DW=>?_;refine sQ fun N hN=>?_;simp-dsimp-implicitDefEqProofs(disch:=omega)only[go_sem,A8];refine(AK (hg.AD (by first|rfl|(simp(disch:=omega)only[A0]))) 6 (by omega) _).AG ?_
  rintro m11 H11 r11 A40 ⟨⟨x11,rfl,A41⟩,Wn,Ag⟩;replace hl:∀i,i<nx→i≠AT→H11 i=H i:=fun i hi AL=>(Ag i (by omega) AL).trans (by first|exact hl i hi AL|(simp(disch:=omega)only[A0];exact hl i hi AL))
  replace h0:H11 nx=some [.nl,.nl,.nl]:=(Ag nx (by omega) (by omega)).trans (by first|exact h0|(simp(disch:=omega)only[A0];exact h0));replace hg:=Wn;clear Wn;try simp-dsimp-implicitDefEqProofs(disch:=omega)only[go_sem,A8]
  apply hN;apply AW.block;refine sQ fun N hN=>?_;simp-dsimp-implicitDefEqProofs(disch:=omega)only[go_sem,A8];apply hN;refine AW.cond rfl ?_ ?_<;>intro h7
  ·try simp only[cn]at h7
   refine sQ fun N hN=>?_;simp-dsimp-implicitDefEqProofs(disch:=omega)only[go_sem,A8];refine(CU 3 7 2 0 (by omega) (by omega) (by omega) (by omega) _ _).AG ?_
   rintro m12 H12 r12 A42 ⟨⟨os,X,Y,rfl,FY⟩,cU⟩;replace hg:AY bs AT H12:=hg.AD ((cU AT (by omega)).trans (by first|rfl|(rw[BE (by omega)];simp(disch:=omega)only[A0])));replace hl:∀i,i<nx→i≠AT→H12 i=H i:=fun i hi AL=>(cU i (by omega)).trans (by first|exact hl i hi AL|(rw[BE (by omega)];simp(disch:=omega)only[A0];exact hl i hi AL))
   replace h0:H12 nx=some [.nl,.nl,.nl]:=(cU nx (by omega)).trans (by first|exact h0|(rw[BE (by omega)];simp(disch:=omega)only[A0];exact h0));try simp-dsimp-implicitDefEqProofs(disch:=omega)only[go_sem,A8,h0]
   apply hN;apply AW.ret;simp-dsimp-implicitDefEqProofs(disch:=omega)only[go_sem];exact⟨_,fun _ _ h=>h,_,.refl _,⟨os,X,Y,rfl,by first|exact FY|exact FY.more (by omega)⟩,hg.AD (by simp(disch:=omega)only[A0]),fun i hi AL=>by simp(disch:=omega)only[A0];exact hl i hi AL⟩
  try simp only[cn]at h7
  refine sQ fun N hN=>?_;simp-dsimp-implicitDefEqProofs(disch:=omega)only[go_sem,A8];apply hN;refine AW.cond rfl ?_ ?_<;>intro h8
  ·try simp only[cn]at h8
   refine sQ fun N hN=>?_;simp-dsimp-implicitDefEqProofs(disch:=omega)only[go_sem,A8];refine(CU 4 5 2 0 (by omega) (by omega) (by omega) (by omega) _ _).AG ?_
   rintro m13 H13 r13 A43 ⟨⟨os,X,Y,rfl,FY⟩,Kv⟩;replace hg:AY bs AT H13:=hg.AD ((Kv AT (by omega)).trans (by first|rfl|(rw[BE (by omega)];simp(disch:=omega)only[A0])));replace hl:∀i,i<nx→i≠AT→H13 i=H i:=fun i hi AL=>(Kv i (by omega)).trans (by first|exact hl i hi AL|(rw[BE (by omega)];simp(disch:=omega)only[A0];exact hl i hi AL))
   replace h0:H13 nx=some [.nl,.nl,.nl]:=(Kv nx (by omega)).trans (by first|exact h0|(rw[BE (by omega)];simp(disch:=omega)only[A0];exact h0));try simp-dsimp-implicitDefEqProofs(disch:=omega)only[go_sem,A8,h0]
   apply hN;apply AW.ret;simp-dsimp-implicitDefEqProofs(disch:=omega)only[go_sem];exact⟨_,fun _ _ h=>h,_,.refl _,⟨os,X,Y,rfl,by first|exact FY|exact FY.more (by omega)⟩,hg.AD (by simp(disch:=omega)only[A0]),fun i hi AL=>by simp(disch:=omega)only[A0];exact hl i hi AL⟩
  try simp only[cn]at h8
  refine sQ fun N hN=>?_;simp-dsimp-implicitDefEqProofs(disch:=omega)only[go_sem,A8];apply hN;refine AW.cond rfl ?_ ?_<;>intro h9
  ·try simp only[cn]at h9
   refine sQ fun N hN=>?_;simp-dsimp-implicitDefEqProofs(disch:=omega)only[go_sem,A8];refine(CU 2 8 3 0 (by omega) (by omega) (by omega) (by omega) _ _).AG ?_
   rintro m14 H14 r14 A44 ⟨⟨os,X,Y,rfl,FY⟩,Kw⟩;replace hg:AY bs AT H14:=hg.AD ((Kw AT (by omega)).trans (by first|rfl|(rw[BE (by omega)];simp(disch:=omega)only[A0])));replace hl:∀i,i<nx→i≠AT→H14 i=H i:=fun i hi AL=>(Kw i (by omega)).trans (by first|exact hl i hi AL|(rw[BE (by omega)];simp(disch:=omega)only[A0];exact hl i hi AL))
   replace h0:H14 nx=some [.nl,.nl,.nl]:=(Kw nx (by omega)).trans (by first|exact h0|(rw[BE (by omega)];simp(disch:=omega)only[A0];exact h0));try simp-dsimp-implicitDefEqProofs(disch:=omega)only[go_sem,A8,h0]
   apply hN;apply AW.ret;simp-dsimp-implicitDefEqProofs(disch:=omega)only[go_sem];exact⟨_,fun _ _ h=>h,_,.refl _,⟨os,X,Y,rfl,by first|exact FY|exact FY.more (by omega)⟩,hg.AD (by simp(disch:=omega)only[A0]),fun i hi AL=>by simp(disch:=omega)only[A0];exact hl i hi AL⟩
  try simp only[cn]at h9
  refine sQ fun N hN=>?_;simp-dsimp-implicitDefEqProofs(disch:=omega)only[go_sem,A8];apply hN;refine AW.cond rfl ?_ ?_<;>intro LU
  ·try simp only[cn]at LU
   refine sQ fun N hN=>?_;simp-dsimp-implicitDefEqProofs(disch:=omega)only[go_sem,A8];refine(CU 2 8 5 0 (by omega) (by omega) (by omega) (by omega) _ _).AG ?_
   rintro m15 H15 r15 A45 ⟨⟨os,X,Y,rfl,FY⟩,Kx⟩;replace hg:AY bs AT H15:=hg.AD ((Kx AT (by omega)).trans (by first|rfl|(rw[BE (by omega)];simp(disch:=omega)only[A0])));replace hl:∀i,i<nx→i≠AT→H15 i=H i:=fun i hi AL=>(Kx i (by omega)).trans (by first|exact hl i hi AL|(rw[BE (by omega)];simp(disch:=omega)only[A0];exact hl i hi AL))
   replace h0:H15 nx=some [.nl,.nl,.nl]:=(Kx nx (by omega)).trans (by first|exact h0|(rw[BE (by omega)];simp(disch:=omega)only[A0];exact h0));try simp-dsimp-implicitDefEqProofs(disch:=omega)only[go_sem,A8,h0]
   apply hN;apply AW.ret;simp-dsimp-implicitDefEqProofs(disch:=omega)only[go_sem];exact⟨_,fun _ _ h=>h,_,.refl _,⟨os,X,Y,rfl,by first|exact FY|exact FY.more (by omega)⟩,hg.AD (by simp(disch:=omega)only[A0]),fun i hi AL=>by simp(disch:=omega)only[A0];exact hl i hi AL⟩
  try simp only[cn]at LU
  refine sQ fun N hN=>?_;simp-dsimp-implicitDefEqProofs(disch:=omega)only[go_sem,A8];apply hN;refine AW.cond rfl ?_ ?_<;>intro IN
  ·try simp only[cn]at IN
   refine sQ fun N hN=>?_;simp-dsimp-implicitDefEqProofs(disch:=omega)only[go_sem,A8];refine(CU 4 4 3 0 (by omega) (by omega) (by omega) (by omega) _ _).AG ?_
   rintro m16 H16 r16 A46 ⟨⟨os,X,Y,rfl,FY⟩,Ky⟩;replace hg:AY bs AT H16:=hg.AD ((Ky AT (by omega)).trans (by first|rfl|(rw[BE (by omega)];simp(disch:=omega)only[A0])));replace hl:∀i,i<nx→i≠AT→H16 i=H i:=fun i hi AL=>(Ky i (by omega)).trans (by first|exact hl i hi AL|(rw[BE (by omega)];simp(disch:=omega)only[A0];exact hl i hi AL))
   replace h0:H16 nx=some [.nl,.nl,.nl]:=(Ky nx (by omega)).trans (by first|exact h0|(rw[BE (by omega)];simp(disch:=omega)only[A0];exact h0));try simp-dsimp-implicitDefEqProofs(disch:=omega)only[go_sem,A8,h0]
   apply hN;apply AW.ret;simp-dsimp-implicitDefEqProofs(disch:=omega)only[go_sem];exact⟨_,fun _ _ h=>h,_,.refl _,⟨os,X,Y,rfl,by first|exact FY|exact FY.more (by omega)⟩,hg.AD (by simp(disch:=omega)only[A0]),fun i hi AL=>by simp(disch:=omega)only[A0];exact hl i hi AL⟩
  try simp only[cn]at IN
  apply AW.skip;apply DW;refine sQ fun N hN=>?_;simp-dsimp-implicitDefEqProofs(disch:=omega)only[go_sem,A8];refine(CU 3 9 4 0 (by omega) (by omega) (by omega) (by omega) _ _).AG ?_
  rintro m17 H17 r17 A47 ⟨⟨os,X,Y,rfl,FY⟩,Kz⟩;replace hg:AY bs AT H17:=hg.AD ((Kz AT (by omega)).trans (by first|rfl|(rw[BE (by omega)];simp(disch:=omega)only[A0])));replace hl:∀i,i<nx→i≠AT→H17 i=H i:=fun i hi AL=>(Kz i (by omega)).trans (by first|exact hl i hi AL|(rw[BE (by omega)];simp(disch:=omega)only[A0];exact hl i hi AL))
  replace h0:H17 nx=some [.nl,.nl,.nl]:=(Kz nx (by omega)).trans (by first|exact h0|(rw[BE (by omega)];simp(disch:=omega)only[A0];exact h0));try simp-dsimp-implicitDefEqProofs(disch:=omega)only[go_sem,A8,h0]
  apply hN;apply AW.ret;simp-dsimp-implicitDefEqProofs(disch:=omega)only[go_sem];exact⟨_,fun _ _ h=>h,_,.refl _,⟨os,X,Y,rfl,by first|exact FY|exact FY.more (by omega)⟩,hg.AD (by simp(disch:=omega)only[A0]),fun i hi AL=>by simp(disch:=omega)only[A0];exact hl i hi AL⟩
 try simp only[cn]at h6
 refine sQ fun N hN=>?_;simp-dsimp-implicitDefEqProofs(disch:=omega)only[go_sem,A8];apply hN;refine AW.cond rfl ?_ ?_<;>intro mN
 ·try simp only[cn]at mN
  refine sQ fun N hN=>?_;simp-dsimp-implicitDefEqProofs(disch:=omega)only[go_sem,A8,↓tF]
  refine(CD (hg.AD (by first|rfl|(simp(disch:=omega)only[A0]))) [2,3,2,3,5] 5 (A1 _ _ _) rfl (by omega) (by omega) _ (by omega) (by omega) (by omega)).AG ?_;rintro m18 H18 r18 A48 ⟨⟨x18,rfl,A2W⟩,Wo,Wp⟩;have A2X:2≤x18∧x18≤7:=by simp at A2W;omega
  replace hl:∀i,i<nx→i≠AT→H18 i=H i:=fun i hi AL=>(Wp i (by omega) AL).trans (by first|exact hl i hi AL|(simp(disch:=omega)only[A0];exact hl i hi AL))
  replace h0:H18 nx=some [.nl,.nl,.nl]:=(Wp nx (by omega) (by omega)).trans (by first|exact h0|(simp(disch:=omega)only[A0];exact h0));replace hg:=Wo;clear Wo;try simp-dsimp-implicitDefEqProofs(disch:=omega)only[go_sem,A8]
  refine(MR hg x18 A2X _ (by omega)).AG ?_;rintro m19 H19 r19 A49 ⟨⟨os,X,Y,rfl,FY⟩,Wq,Wr⟩;replace hl:∀i,i<nx→i≠AT→H19 i=H i:=fun i hi AL=>(Wr i (by omega) AL).trans (by first|exact hl i hi AL|(simp(disch:=omega)only[A0];exact hl i hi AL))
  replace h0:H19 nx=some [.nl,.nl,.nl]:=(Wr nx (by omega) (by omega)).trans (by first|exact h0|(simp(disch:=omega)only[A0];exact h0));replace hg:=Wq;clear Wq;try simp-dsimp-implicitDefEqProofs(disch:=omega)only[go_sem,A8,h0]
  apply hN;apply AW.ret;simp-dsimp-implicitDefEqProofs(disch:=omega)only[go_sem];exact⟨_,fun _ _ h=>h,_,.refl _,⟨os,X,Y,rfl,by first|exact FY|exact FY.more (by omega)⟩,hg.AD (by simp(disch:=omega)only[A0]),fun i hi AL=>by simp(disch:=omega)only[A0];exact hl i hi AL⟩
 try simp only[cn]at mN
 refine sQ fun N hN=>?_;simp-dsimp-implicitDefEqProofs(disch:=omega)only[go_sem,A8];apply hN;refine AW.cond rfl ?_ ?_<;>intro gK
 ·try simp only[cn]at gK
  refine AW.seq fun N6 HC=>?_;refine sQ fun N hN=>?_;simp-dsimp-implicitDefEqProofs(disch:=omega)only[go_sem,A8];refine(AK (hg.AD (by first|rfl|(simp(disch:=omega)only[A0]))) 6 (by omega) _).AG ?_
  rintro Np H20 r20 A4A ⟨⟨x20,rfl,A4B⟩,Ws,Wt⟩;replace hl:∀i,i<nx→i≠AT→H20 i=H i:=fun i hi AL=>(Wt i (by omega) AL).trans (by first|exact hl i hi AL|(simp(disch:=omega)only[A0];exact hl i hi AL))
  replace h0:H20 nx=some [.nl,.nl,.nl]:=(Wt nx (by omega) (by omega)).trans (by first|exact h0|(simp(disch:=omega)only[A0];exact h0));replace hg:=Ws;clear Ws;try simp-dsimp-implicitDefEqProofs(disch:=omega)only[go_sem,A8]
  apply hN;apply AW.block;refine sQ fun N hN=>?_;simp-dsimp-implicitDefEqProofs(disch:=omega)only[go_sem,A8];apply hN;refine AW.cond rfl ?_ ?_<;>intro vB
  ·try simp only[cn]at vB
   refine sQ fun N hN=>?_;simp-dsimp-implicitDefEqProofs(disch:=omega)only[go_sem,A8];refine AC.fz (ts:=[.i .i64 3,rows [[2,0],[0,2]],.i .i64 2]) L7.GH ⟨.refl _,ND (b:=Np+2) (W:=[[2,0],[0,2]]) (A1 _ _ _) (by omega) rfl (fun k hk=>by
    match k,hk with
    |0,hk=>exact⟨_,rfl,by omega,by simp(disch:=omega)only[A0,A1];rfl⟩
    |1,hk=>exact⟨_,rfl,by omega,by simp(disch:=omega)only[A0,A1];rfl⟩),.refl _,trivial⟩ ?_
   refine(D6 3 2 [[2,0],[0,2]] 2 (by omega) (by omega) Wf (by omega) _ _).AG ?_;rintro m21 H21 r21 A4C ⟨⟨os,X,Y,rfl,FY⟩,La⟩;replace hg:AY bs AT H21:=hg.AD ((La AT (by omega)).trans (by first|rfl|(rw[BE (by omega)];simp(disch:=omega)only[A0])));replace hl:∀i,i<nx→i≠AT→H21 i=H i:=fun i hi AL=>(La i (by omega)).trans (by first|exact hl i hi AL|(rw[BE (by omega)];simp(disch:=omega)only[A0];exact hl i hi AL))
   replace h0:H21 nx=some [.nl,.nl,.nl]:=(La nx (by omega)).trans (by first|exact h0|(rw[BE (by omega)];simp(disch:=omega)only[A0];exact h0));try simp-dsimp-implicitDefEqProofs(disch:=omega)only[go_sem,A8,h0]
   apply hN;apply AW.ret;simp-dsimp-implicitDefEqProofs(disch:=omega)only[go_sem];exact⟨_,fun _ _ h=>h,_,.refl _,⟨os,X,Y,rfl,by first|exact FY|exact FY.more (by omega)⟩,hg.AD (by simp(disch:=omega)only[A0]),fun i hi AL=>by simp(disch:=omega)only[A0];exact hl i hi AL⟩
  try simp only[cn]at vB
  refine sQ fun N hN=>?_;simp-dsimp-implicitDefEqProofs(disch:=omega)only[go_sem,A8];apply hN;refine AW.cond rfl ?_ ?_<;>intro Xx
  ·try simp only[cn]at Xx
   refine sQ fun N hN=>?_;simp-dsimp-implicitDefEqProofs(disch:=omega)only[go_sem,A8];refine AC.fz (ts:=[.i .i64 3,rows [[0,1],[2,0]],.i .i64 4]) L7.GH ⟨.refl _,ND (b:=Np+2+2) (W:=[[0,1],[2,0]]) (A1 _ _ _) (by omega) rfl (fun k hk=>by
    match k,hk with
    |0,hk=>exact⟨_,rfl,by omega,by simp(disch:=omega)only[A0,A1];rfl⟩
    |1,hk=>exact⟨_,rfl,by omega,by simp(disch:=omega)only[A0,A1];rfl⟩),.refl _,trivial⟩ ?_
   refine(D6 3 4 [[0,1],[2,0]] 2 (by omega) (by omega) Wg (by omega) _ _).AG ?_;rintro m22 H22 r22 A4D ⟨⟨os,X,Y,rfl,FY⟩,Lb⟩;replace hg:AY bs AT H22:=hg.AD ((Lb AT (by omega)).trans (by first|rfl|(rw[BE (by omega)];simp(disch:=omega)only[A0])));replace hl:∀i,i<nx→i≠AT→H22 i=H i:=fun i hi AL=>(Lb i (by omega)).trans (by first|exact hl i hi AL|(rw[BE (by omega)];simp(disch:=omega)only[A0];exact hl i hi AL))
   replace h0:H22 nx=some [.nl,.nl,.nl]:=(Lb nx (by omega)).trans (by first|exact h0|(rw[BE (by omega)];simp(disch:=omega)only[A0];exact h0));try simp-dsimp-implicitDefEqProofs(disch:=omega)only[go_sem,A8,h0]
   apply hN;apply AW.ret;simp-dsimp-implicitDefEqProofs(disch:=omega)only[go_sem];exact⟨_,fun _ _ h=>h,_,.refl _,⟨os,X,Y,rfl,by first|exact FY|exact FY.more (by omega)⟩,hg.AD (by simp(disch:=omega)only[A0]),fun i hi AL=>by simp(disch:=omega)only[A0];exact hl i hi AL⟩
  try simp only[cn]at Xx
  refine sQ fun N hN=>?_;simp-dsimp-implicitDefEqProofs(disch:=omega)only[go_sem,A8];apply hN;refine AW.cond rfl ?_ ?_<;>intro Xy
  ·try simp only[cn]at Xy
   refine sQ fun N hN=>?_;simp-dsimp-implicitDefEqProofs(disch:=omega)only[go_sem,A8];refine AC.fz (ts:=[.i .i64 2,rows [[0,1,0],[0,0,1],[1,1,0]],.i .i64 7]) L7.GH ⟨.refl _,ND (b:=Np+2+2+2) (W:=[[0,1,0],[0,0,1],[1,1,0]]) (A1 _ _ _) (by omega) rfl (fun k hk=>by
    match k,hk with
    |0,hk=>exact⟨_,rfl,by omega,by simp(disch:=omega)only[A0,A1];rfl⟩
    |1,hk=>exact⟨_,rfl,by omega,by simp(disch:=omega)only[A0,A1];rfl⟩
    |2,hk=>exact⟨_,rfl,by omega,by simp(disch:=omega)only[A0,A1];rfl⟩),.refl _,trivial⟩ ?_
   refine(D6 2 7 [[0,1,0],[0,0,1],[1,1,0]] 3 (by omega) (by omega) Wh (by omega) _ _).AG ?_;rintro m23 H23 r23 A4E ⟨⟨os,X,Y,rfl,FY⟩,Lc⟩;replace hg:AY bs AT H23:=hg.AD ((Lc AT (by omega)).trans (by first|rfl|(rw[BE (by omega)];simp(disch:=omega)only[A0])));replace hl:∀i,i<nx→i≠AT→H23 i=H i:=fun i hi AL=>(Lc i (by omega)).trans (by first|exact hl i hi AL|(rw[BE (by omega)];simp(disch:=omega)only[A0];exact hl i hi AL))
   replace h0:H23 nx=some [.nl,.nl,.nl]:=(Lc nx (by omega)).trans (by first|exact h0|(rw[BE (by omega)];simp(disch:=omega)only[A0];exact h0));try simp-dsimp-implicitDefEqProofs(disch:=omega)only[go_sem,A8,h0]
   apply hN;apply AW.ret;simp-dsimp-implicitDefEqProofs(disch:=omega)only[go_sem];exact⟨_,fun _ _ h=>h,_,.refl _,⟨os,X,Y,rfl,by first|exact FY|exact FY.more (by omega)⟩,hg.AD (by simp(disch:=omega)only[A0]),fun i hi AL=>by simp(disch:=omega)only[A0];exact hl i hi AL⟩
  try simp only[cn]at Xy
  refine sQ fun N hN=>?_;simp-dsimp-implicitDefEqProofs(disch:=omega)only[go_sem,A8];apply hN;refine AW.cond rfl ?_ ?_<;>intro h17
  ·try simp only[cn]at h17
   refine sQ fun N hN=>?_;simp-dsimp-implicitDefEqProofs(disch:=omega)only[go_sem,A8];refine AC.fz (ts:=[.i .i64 2,rows [[1,1,0],[0,1,1],[0,0,1]],.i .i64 4]) L7.GH ⟨.refl _,ND (b:=Np+2+2+2+2) (W:=[[1,1,0],[0,1,1],[0,0,1]]) (A1 _ _ _) (by omega) rfl (fun k hk=>by
    match k,hk with
    |0,hk=>exact⟨_,rfl,by omega,by simp(disch:=omega)only[A0,A1];rfl⟩
    |1,hk=>exact⟨_,rfl,by omega,by simp(disch:=omega)only[A0,A1];rfl⟩
    |2,hk=>exact⟨_,rfl,by omega,by simp(disch:=omega)only[A0,A1];rfl⟩),.refl _,trivial⟩ ?_
   refine(D6 2 4 [[1,1,0],[0,1,1],[0,0,1]] 3 (by omega) (by omega) Wi (by omega) _ _).AG ?_;rintro m24 H24 r24 A4F ⟨⟨os,X,Y,rfl,FY⟩,Ld⟩;replace hg:AY bs AT H24:=hg.AD ((Ld AT (by omega)).trans (by first|rfl|(rw[BE (by omega)];simp(disch:=omega)only[A0])));replace hl:∀i,i<nx→i≠AT→H24 i=H i:=fun i hi AL=>(Ld i (by omega)).trans (by first|exact hl i hi AL|(rw[BE (by omega)];simp(disch:=omega)only[A0];exact hl i hi AL))
   replace h0:H24 nx=some [.nl,.nl,.nl]:=(Ld nx (by omega)).trans (by first|exact h0|(rw[BE (by omega)];simp(disch:=omega)only[A0];exact h0));try simp-dsimp-implicitDefEqProofs(disch:=omega)only[go_sem,A8,h0]
   apply hN;apply AW.ret;simp-dsimp-implicitDefEqProofs(disch:=omega)only[go_sem];exact⟨_,fun _ _ h=>h,_,.refl _,⟨os,X,Y,rfl,by first|exact FY|exact FY.more (by omega)⟩,hg.AD (by simp(disch:=omega)only[A0]),fun i hi AL=>by simp(disch:=omega)only[A0];exact hl i hi AL⟩
  try simp only[cn]at h17
  refine sQ fun N hN=>?_;simp-dsimp-implicitDefEqProofs(disch:=omega)only[go_sem,A8];apply hN;refine AW.cond rfl ?_ ?_<;>intro h18
  ·try simp only[cn]at h18
   refine sQ fun N hN=>?_;simp-dsimp-implicitDefEqProofs(disch:=omega)only[go_sem,A8];refine AC.fz (ts:=[.i .i64 2,rows [[0,1,0,0],[1,0,0,0],[0,0,0,1],[0,0,1,0]],.i .i64 2]) L7.GH ⟨.refl _,ND (b:=Np+2+2+2+2+2) (W:=[[0,1,0,0],[1,0,0,0],[0,0,0,1],[0,0,1,0]]) (A1 _ _ _) (by omega) rfl (fun k hk=>by
    match k,hk with
    |0,hk=>exact⟨_,rfl,by omega,by simp(disch:=omega)only[A0,A1];rfl⟩
    |1,hk=>exact⟨_,rfl,by omega,by simp(disch:=omega)only[A0,A1];rfl⟩
    |2,hk=>exact⟨_,rfl,by omega,by simp(disch:=omega)only[A0,A1];rfl⟩
    |3,hk=>exact⟨_,rfl,by omega,by simp(disch:=omega)only[A0,A1];rfl⟩),.refl _,trivial⟩ ?_
   refine(D6 2 2 [[0,1,0,0],[1,0,0,0],[0,0,0,1],[0,0,1,0]] 4 (by omega) (by omega) Wj (by omega) _ _).AG ?_;rintro m25 H25 r25 A4G ⟨⟨os,X,Y,rfl,FY⟩,Lf⟩;replace hg:AY bs AT H25:=hg.AD ((Lf AT (by omega)).trans (by first|rfl|(rw[BE (by omega)];simp(disch:=omega)only[A0])));replace hl:∀i,i<nx→i≠AT→H25 i=H i:=fun i hi AL=>(Lf i (by omega)).trans (by first|exact hl i hi AL|(rw[BE (by omega)];simp(disch:=omega)only[A0];exact hl i hi AL))
   replace h0:H25 nx=some [.nl,.nl,.nl]:=(Lf nx (by omega)).trans (by first|exact h0|(rw[BE (by omega)];simp(disch:=omega)only[A0];exact h0));try simp-dsimp-implicitDefEqProofs(disch:=omega)only[go_sem,A8,h0]
   apply hN;apply AW.ret;simp-dsimp-implicitDefEqProofs(disch:=omega)only[go_sem];exact⟨_,fun _ _ h=>h,_,.refl _,⟨os,X,Y,rfl,by first|exact FY|exact FY.more (by omega)⟩,hg.AD (by simp(disch:=omega)only[A0]),fun i hi AL=>by simp(disch:=omega)only[A0];exact hl i hi AL⟩
  try simp only[cn]at h18
  apply AW.skip;apply HC;refine sQ fun N hN=>?_;simp-dsimp-implicitDefEqProofs(disch:=omega)only[go_sem,A8];refine AC.fz (ts:=[.i .i64 5,rows [[0,1],[4,4]],.i .i64 3]) L7.GH ⟨.refl _,ND (b:=Np+2+2+2+2+2) (W:=[[0,1],[4,4]]) (A1 _ _ _) (by omega) rfl (fun k hk=>by
   match k,hk with
   |0,hk=>exact⟨_,rfl,by omega,by simp(disch:=omega)only[A0,A1];rfl⟩
   |1,hk=>exact⟨_,rfl,by omega,by simp(disch:=omega)only[A0,A1];rfl⟩),.refl _,trivial⟩ ?_
  refine(D6 5 3 [[0,1],[4,4]] 2 (by omega) (by omega) Wl (by omega) _ _).AG ?_;rintro m26 H26 r26 A4H ⟨⟨os,X,Y,rfl,FY⟩,Lg⟩;replace hg:AY bs AT H26:=hg.AD ((Lg AT (by omega)).trans (by first|rfl|(rw[BE (by omega)];simp(disch:=omega)only[A0])));replace hl:∀i,i<nx→i≠AT→H26 i=H i:=fun i hi AL=>(Lg i (by omega)).trans (by first|exact hl i hi AL|(rw[BE (by omega)];simp(disch:=omega)only[A0];exact hl i hi AL))
  replace h0:H26 nx=some [.nl,.nl,.nl]:=(Lg nx (by omega)).trans (by first|exact h0|(rw[BE (by omega)];simp(disch:=omega)only[A0];exact h0));try simp-dsimp-implicitDefEqProofs(disch:=omega)only[go_sem,A8,h0]
  apply hN;apply AW.ret;simp-dsimp-implicitDefEqProofs(disch:=omega)only[go_sem];exact⟨_,fun _ _ h=>h,_,.refl _,⟨os,X,Y,rfl,by first|exact FY|exact FY.more (by omega)⟩,hg.AD (by simp(disch:=omega)only[A0]),fun i hi AL=>by simp(disch:=omega)only[A0];exact hl i hi AL⟩
 try simp only[cn]at gK
 apply AW.skip;apply BC;refine sQ fun N hN=>?_;simp-dsimp-implicitDefEqProofs(disch:=omega)only[go_sem,A8];refine(AK (hg.AD (by first|rfl|(simp(disch:=omega)only[A0]))) 10 (by omega) _).AG ?_
 rintro m27 H27 r27 A4I ⟨⟨x27,rfl,A4J⟩,Wu,Wv⟩
 obtain⟨k27,rfl⟩:∃k:Nat,x27=k:=⟨x27.toNat,by omega⟩
 replace hl:∀i,i<nx→i≠AT→H27 i=H i:=fun i hi AL=>(Wv i (by omega) AL).trans (by first|exact hl i hi AL|(simp(disch:=omega)only[A0];exact hl i hi AL))
 replace h0:H27 nx=some [.nl,.nl,.nl]:=(Wv nx (by omega) (by omega)).trans (by first|exact h0|(simp(disch:=omega)only[A0];exact h0))
 replace hg:=Wu
 clear Wu
 try simp-dsimp-implicitDefEqProofs(disch:=omega)only[go_sem,A8]
 refine(SW k27 (by omega) _ _).AG ?_
 rintro m28 H28 r28 A4K ⟨⟨os,X,Y,rfl,FY⟩,Lh⟩
 replace hg:AY bs AT H28:=hg.AD ((Lh AT (by omega)).trans (by first|rfl|(rw[BE (by omega)];simp(disch:=omega)only[A0])))
 replace hl:∀i,i<nx→i≠AT→H28 i=H i:=fun i hi AL=>(Lh i (by omega)).trans (by first|exact hl i hi AL|(rw[BE (by omega)];simp(disch:=omega)only[A0];exact hl i hi AL))
 replace h0:H28 nx=some [.nl,.nl,.nl]:=(Lh nx (by omega)).trans (by first|exact h0|(rw[BE (by omega)];simp(disch:=omega)only[A0];exact h0))
 try simp-dsimp-implicitDefEqProofs(disch:=omega)only[go_sem,A8,h0]
 apply hN;apply AW.ret;simp-dsimp-implicitDefEqProofs(disch:=omega)only[go_sem];exact⟨_,fun _ _ h=>h,_,.refl _,⟨os,X,Y,rfl,by first|exact FY|exact FY.more (by omega)⟩,hg.AD (by simp(disch:=omega)only[A0]),fun i hi AL=>by simp(disch:=omega)only[A0];exact hl i hi AL⟩
theorem JY{bs:List Int}{AT:Nat}{H:HP}(hg:AY bs AT H)(nx:Nat)(J6:AT<nx):AC Tryz.prog 115 nx H [.q AT 0] (sK bs AT nx H (SQ 12)):=AC.zs J6 (RR hg nx J6)
end Go.Proofs.YtghmeeifjeafmaaGreat
