import Derived.Test.YtgknbnkmilddhaaGreatZ26
set_option linter.unusedVariables false
set_option linter.unusedSimpArgs false

namespace Go.Proofs.YtgknbnkmilddhaaGreat
theorem pB{cX:Ctx}{P:Program}{c:Code}{s:St}{K:Exit->St->Prop}(k id:Nat)(ds:List Int)(hk:s.t[k]? =some (.q id 0))(hc:s.H id=some [ints ds,.nl,.nl])
    (hs:AW cX P c ⟨s.t.set k (A5 ds [] []),AT s.H id none,s.nx⟩ K):AW cX P c s K:=
  AW.fz (s':=⟨s.t.set k (A5 ds [] []),AT s.H id none,s.nx⟩) ⟨UI hk (.q id 0 _ _ hc (A4 _ _ _) rfl (λj x y h1 h2=>by
    match j,h1,h2 with
    |0,h1,h2=>cases h1;cases h2;exact .refl _
    |1,h1,h2=>cases h1;cases h2;exact .nl
    |2,h1,h2=>cases h1;cases h2;exact .nl
    |j+3,h1,h2=>simp at h1)),PY.del,Nat.le_refl _⟩ hs
theorem lH(os:List Int)(pw:List (List Int))(cj:List (List (List Int)))(FU:os.length<=6)(IY:∀i,i<os.length->JG (os.getD i 0))(num:Int)(h0:0<=num)(h9:num<=1048576):BI Tryz.prog 159 [AP os pw cj,.i .i64 num] (vi os.length (C5 os num)):=by
 refine B5 AA Tryz.func159 rfl A7 Tryz.ntmps159 Tryz.results159 ((J8 _ _)) (λnx cX=>?_)
 refine FB ?_;refine AK 2 nx _ rfl (A4 _ _ _) ?_
 refine AG ?_;refine sQ λN hN=>?_;refine k9 ?_;refine AC.mono (AC.frame (SF os pw cj A0 _)) ?_
 rintro m1 H1 r1 ⟨H0,⟨id,rfl,rR,kE,Ef⟩,CD,FA⟩
 have hH1:=(FA id rR).trans Ef
 clear Ef FA CD
 refine k9 ?_
 apply hN;refine AW.seq λN1 B2=>?_;refine FB ?_;apply AW.block;refine A8 (α:=Nat) (λx=>sl 34 [(1,.i .i64 (RI os num x)),(2,A5 os pw cj),(5,.h id 0 os.length),(6,.i .i64 ((os.length:Int)-1-x))]) (λx=>AT BM id (some (D3 os.length (Lq os num x)))) (λx m=>x<=os.length) (λx=>os.length-x) (0) ?_ ?_ (by rw[cO];intro d cs hd;simp only[AT,BM]at hd ⊢;grind) ?_
 ·omega
 ·simp(disch:=omega) [AN,AO,sl,A5,ints,rows,A6,RI]
 skip
 rintro k m hk
 refine AG ?_;refine AW.seq λN2 B7=>?_;refine FB ?_;refine AW.cond rfl ?_ ?_<;>intro h1<;>try simp only[cn]at h1
 ·have e1:((os.length:Int)-1-k).toNat=os.length-1-k:=A0;have ho:=CE (IY (os.length-1-k) A0);have hz:(os.getD (os.length-1-k) 0=0)=False:=eq_false A0;have hb:=IS h0 IY k hk;have PJ:=IS h0 IY (k+1) A0;have hs:(RI os num k).tdiv (os.getD (os.length-1-k) 0)=RI os num (k+1):=rfl;have hg:=cM (os:=os) (num:=num) (d:=k) A0;apply AW.skip;apply B7;refine AW.seq λN3 BC=>?_;apply AW.block;refine rE e1 hz hg ?_;apply rQ;simp-dsimp-implicitDefEqProofs(maxSteps:=800000) (disch:=omega)only[go_sem,AL,ints,not_false_eq_true,AP,A5,true_and,e1,hz,hs];apply BC;refine bY ?_;refine⟨k+1,?_,λ_ _ h=>h,?_,?_⟩
  ·simp(disch:=omega) [AN,AO,sl,A5,ints,rows,A6,e1,hs]<;>omega
  ·omega
  first|omega|(simp only;omega)
 apply AW.exit;apply B2;refine FB ?_;refine AH ?_;refine Vw.vi ?_
 rw[A4,show k=os.length by omega,kD]
section
variable(os:List Int)(pw:List (List Int))(cj:List (List (List Int)))
theorem Iq{us:List V}{k:Nat}(hk:k<us.length):((GS os us).take (k+1)).map (AV.i .i64)=((GS os us).take k).map (AV.i .i64)++[.i .i64 (os.getD (E4 os.length (us.getD k z0)) 0)]:=by
  rw[<-VE hk,List.take_succ_eq_append_getElem (by rw[DC];exact hk),List.map_append];simp[DC,hk]
theorem VG(h:AF os pw cj)(us:List V)(hl:us.length<=6)(hu:∀u∈us,E4 os.length u<os.length):BI Tryz.prog 218 [AP os pw cj,AZ os.length us] (ints (GS os us)):=by
 have FU:=h.1.1
 refine B5 AA Tryz.func218 rfl A7 Tryz.ntmps218 Tryz.results218 ((GV _)) (λnx cX=>?_)
 refine p8 ?_;refine AK 2 nx _ rfl (A4 _ _ _) ?_
 refine AG ?_;refine p8 ?_;refine AW.seq λN1 B2=>?_;refine p8 ?_;apply AW.block;refine A8 (α:=Nat×HP×AV) (λx=>sl 27 [(1,AZ os.length us),(2,A5 os pw cj),(5,x.2.2),(6,.i .i64 x.1)]) (λx=>x.2.1) (λx m=>(x.1<=us.length/\nx<=m)/\LC x.2.1 nx m x.2.2 (((GS os us).take x.1).map (.i .i64))) (λx=>us.length-x.1) ((0,AT BM (nx+2) (some []),.h (nx+2) 0 0)) ?_ ?_ (by intro d cs hd;simp only[AT,BM]at hd ⊢;grind) ?_
 ·exact⟨⟨AB,A9⟩,LC.mk (A4 _ _ _) rfl A0 A9⟩
 ·simp(disch:=omega) [AN,AO,sl,A5,ints,rows,A6,AZ]
 skip
 rintro⟨k,G,L⟩ m ⟨⟨hk,hm⟩,hL⟩
 dsimp only at hk hm hL ⊢
 simp only[A5,AZ];refine AG ?_;have MA:=hL.one
 have IJ:=hL.len
 have l4:=hL.bd
 have YO:((GS os us).take k).length=k:=by rw[List.length_take,DC];omega
 rw[List.length_map,YO]at IJ
 refine AW.seq λN2 B7=>?_;refine p8 ?_;refine AW.cond rfl ?_ ?_<;>intro h1<;>try simp only[cn]at h1
 ·have hd:=hu (us.getD k z0) (by rw[List.getD_eq_getElem?_getD,List.getElem?_eq_getElem A0];exact List.getElem_mem _);have UE:=Iq os (us:=us) (k:=k) A0;apply AW.skip;apply B7;refine AW.seq λN3 BC=>?_;apply AW.block;refine AM AA A7 11 A7 ?_
  (try simp-dsimp-implicitDefEqProofs(maxSteps:=800000) (disch:=omega)only[go_sem,List.drop_nil,List.drop_succ_cons,List.drop_zero,List.take_nil,List.take_succ_cons,List.take_zero,AL,BW,BE,BF,ints,DC,AP,A5,AZ,AR]);refine⟨_,.of (FY os.length A0 _),?_⟩;try simp-dsimp-implicitDefEqProofs(disch:=(first|omega|((repeat refine LC.AT A0 ?_);assumption))) only[go_sem,AP,A5,ints,AL,MA,IJ,BP (a:=nx) (b:=m) (L:=L) (cs:=((GS os us).take k).map (.i .i64)),List.length_map,YO]
  apply BC;refine AI (λG3 CB=>?_);dsimp only at CB;apply rQ;simp-dsimp-implicitDefEqProofs(maxSteps:=800000) (disch:=omega)only[go_sem,AL,ints,DC,AP,A5,AZ];refine⟨(k+1,G3,.h (m+4+11) 0 (k+1)),?_,λ_ _ h=>h,?_,?_⟩
  ·simp(disch:=omega) [AN,AO,sl,AR,A5,ints,rows,A6,AZ]<;>omega
  ·have GA:LC G3 nx (m+4+12) (.h (m+4+11) 0 (k+1)) (((GS os us).take (k+1)).map (.i .i64)):=LC.mk (by rw[<-CB,UE];simp(disch:=omega)only[A1,A4]) (by rw[List.length_map,List.length_take,DC];omega) A0 A0;first|exact⟨⟨A9,A9⟩,GA.wide (Nat.le_refl _) A9⟩|exact⟨A9,GA.wide (Nat.le_refl _) A9⟩
  first|omega|(simp only;omega)
 apply AW.exit;apply B2;refine p8 ?_;refine AH ?_;obtain rfl:k=us.length:=A0
 have:=hL.Lv
 rw[List.length_map,YO,<-DC (os:=os),List.take_length]at this
 exact this
theorem TY(h:AF os pw cj)(hc:CG (pc os pw cj) 0)(us:List V)(hl:us.length<=6)(hu:∀u∈us,T (pc os pw cj) 0 u)(e:V)(he:∀k,k<us.length->0<=e k/\e k<=1000):BI Tryz.prog 219 [AP os pw cj,AZ os.length us,vi us.length e] (vi os.length (aW (pc os pw cj) us e us.length)):=by
 have FU:=h.1.1
 have hpT:=λk hk=>wY h hc (e:=e) hu k hk
 refine AD AA Tryz.func219 rfl A7 Tryz.ntmps219 Tryz.results219 (J8 _ _) (λnx cX=>?_)
 refine kI ?_;refine AK 3 nx _ rfl (A4 _ _ _) ?_
 refine AG ?_;refine sQ λN hN=>?_;simp-dsimp-implicitDefEqProofs(maxSteps:=800000) (disch:=omega)only[go_sem,AL,ints,AP,A5,vi,AZ];refine AC.pure (.of (cK os pw cj A0)) ?_;(try simp-dsimp-implicitDefEqProofs(maxSteps:=800000) (disch:=omega)only[go_sem,AL,ints,AP,A5,vi,AZ]);apply hN;refine AW.seq λN1 B2=>?_;refine kI ?_;apply AW.block;refine A8 (α:=Nat) (λx=>sl 31 [(1,AZ os.length us),(2,vi us.length e),(3,A5 os pw cj),(7,vi os.length (aW (pc os pw cj) us e x)),(8,.i .i64 x)]) (λ_=>BM) (λx m=>x<=us.length) (λx=>us.length-x) (0) ?_ ?_ (by intro d cs hd;cases hd) ?_
 ·omega
 ·simp(disch:=omega) [AN,AO,sl,A5,ints,rows,A6,AZ,vi,aW]
 skip
 rintro k m hk
 simp only[A5,AZ,vi];refine AG ?_;refine AW.seq λN2 B7=>?_;refine kI ?_;refine AW.cond rfl ?_ ?_<;>intro h1<;>try simp only[cn]at h1
 ·have hm:=hu (us.getD k z0) (by rw[List.getD_eq_getElem?_getD,List.getElem?_eq_getElem A0];exact List.getElem_mem _);have hek:=he k A0;have hs:aW (pc os pw cj) us e (k+1)=M (pc os pw cj) 0 (aW (pc os pw cj) us e k) (RK (pc os pw cj) (us.getD k z0) (e k)):=rfl;apply AW.skip;apply B7;refine AW.seq λN3 BC=>?_;apply AW.block;refine AM AA A7 14 A7 ?_
  (try simp-dsimp-implicitDefEqProofs(maxSteps:=800000) (disch:=omega)only[go_sem,List.drop_nil,List.drop_succ_cons,List.drop_zero,List.take_nil,List.take_succ_cons,List.take_zero,AL,BW,BE,BF,ints,AP,A5,vi,AZ,AR]);refine⟨_,.of (Q6 os pw cj h hc _ hm (e k) A0),?_⟩;(try simp-dsimp-implicitDefEqProofs(maxSteps:=800000) (disch:=omega)only[go_sem,AL,ints,AP,A5,vi,AZ])
  refine⟨_,.of (KX os pw cj h _ _ (hpT k A0) (nX h.val hc hm _)),?_⟩;(try simp-dsimp-implicitDefEqProofs(maxSteps:=800000) (disch:=omega)only[go_sem,AL,ints,AP,A5,vi,AZ])
  apply BC;apply rQ;simp-dsimp-implicitDefEqProofs(maxSteps:=800000) (disch:=omega)only[go_sem,AL,ints,AP,A5,vi,AZ];refine⟨k+1,?_,λ_ _ h=>h,?_,?_⟩
  ·simp(disch:=omega) [AN,AO,sl,A5,ints,rows,A6,AZ,vi,hs,AR]<;>omega
  ·omega
  first|omega|(simp only;omega)
 apply AW.exit;apply B2;refine kI ?_;refine AH ?_;rw[show k=us.length by omega];rfl
structure ElI(os:List Int)(f:Nat->Bool)(a m idp:Nat)(G:HP)(L:AV)(k:Nat):Prop where
  p:G idp=some (aD (nG os) f)
  l:LC G a m L ((RX os f k).map (vi os.length))
theorem xB{f:Nat->Bool}{k:Nat}:(RX os f k).length<=k:=by
  have:=List.length_filter_le f (List.range k);unfold RX;rw[List.length_map];rwa [List.length_range]at this
set_option maxHeartbeats 1000000 in
theorem RY(h:AF os pw cj)(hc:CG (pc os pw cj) 0){S:V->Prop}(hS:E5 (T (pc os pw cj) 0) (M (pc os pw cj) 0) S){us:List V}(hu:SI (pc os pw cj) S us):BI Tryz.prog 163 [AP os pw cj,AZ os.length us] (AZ os.length (W4 os S)):=by
 have FU:=h.1.1
 have Rk:=JC h
 have hl:us.length<=6:=Nat.le_trans hu.len FU
 have huT:∀u∈us,T (pc os pw cj) 0 u:=λu hx=>oM hS hu hx
 have qU:∀u∈us,E4 os.length u<os.length:=λu hx=>(hu.at hx).1
 have hur:∀k,k<us.length->E4 os.length (us.getD k z0)<os.length:=λk hk=>qU _ (by rw[List.getD_eq_getElem?_getD,List.getElem?_eq_getElem hk];exact List.getElem_mem _)
 have IY:=wX (us:=us) h.2.1 qU
 have gM:=EM os pw cj h
 rw[<-GR h]at gM
 have A7K:=G8 os pw cj h us hl hur
 have FV:NJ os us us.length<=729/\0<=NJ os us us.length:=by
  have h1:=dJ h hc hS hu;unfold JR at h1;have h2:(W4 os S).length<=nG os:=by rw[sW,List.length_map];exact xA
  omega
 obtain⟨N,hN⟩:∃N,(NJ os us us.length).toNat=N:=⟨_,rfl⟩
 rw[show NJ os us us.length=(N:Int) by omega]at A7K
 have AE3:CV (GS os us) (GS os us).length=(N:Int):=by rw[DC,pA _ (Nat.le_refl _)];omega
 have GA:=λt (ht:t<nG os)=>Ry h hc hS hu ht
 rw[hN]at GA
 have hbz:List.replicate (nG os) (AV.b false)=aD (nG os) (mK os pw cj us 0):=by rw[Il,nU]
 refine B5 AA Tryz.func163 rfl A7 Tryz.ntmps163 Tryz.results163 ((cV _ _)) (λnx cX=>?_)
 refine cU ?_;refine AK 2 nx _ rfl (A4 _ _ _) ?_
 refine AG ?_;refine Ev (A7K) ?_;refine Ev (gM) ?_;refine Ev (VG os pw cj h us hl qU) ?_;refine AW.seq λN1 B2=>?_;refine pB 7 (nx+2+4+4+4) (GS os us) rfl (A4 _ _ _) ?_
 refine AG ?_;refine cU ?_;apply AW.block;refine A8 (α:=Nat) (λx=>sl 54 [(1,AZ os.length us),(2,A5 os pw cj),(5,.i .i64 N),(6,.h (nx+2+4+2) 0 (nG os)),(7,A5 (GS os us) [] []),(8,.i .i64 x)]) (λx=>AT BM (nx+2+4+2) (some (aD (nG os) (mK os pw cj us x)))) (λx m=>x<=N/\nx+9<=m) (λx=>N-x) (0) ?_ ?_ (by rw[<-hbz];intro d cs hd;simp only[AT,BM]at hd ⊢;grind) ?_
 ·exact⟨A0,A9⟩
 ·simp(disch:=omega) [AN,AO,sl,A5,ints,rows,A6,AZ]
 skip
 rintro k m ⟨hk,hmn⟩
 simp only[A5,AZ];refine AG ?_;refine AW.seq λN2 B7=>?_;refine cU ?_;refine AW.cond rfl ?_ ?_<;>intro h1<;>try simp only[cn]at h1
 ·have O0:=wY h hc (e:=C5 (GS os us) k) huT us.length (Nat.le_refl _);obtain⟨q,q1,q2,q3⟩:=OX h O0;have QR:=I4 os pw cj h _ O0;rw[<-q3]at QR;have UE:=Im (us:=us) (k:=k) q3;have KG:=lH (GS os us) [] [] (by rw[DC];exact hl) IY (k:Int) A0 A0;rw[DC]at KG;have hpd:=TY os pw cj h hc us hl huT (C5 (GS os us) k) λj hj=>by
   have a1:=cL (num:=(k:Int)) A0 IY (i:=j) (by rw[DC];exact hj);have a2:=CE (IY j (by rw[DC];exact hj));omega
  apply AW.skip;apply B7;refine AW.seq λN3 BC=>?_;apply AW.block;refine AM AA A7 10 A7 ?_
  (try simp-dsimp-implicitDefEqProofs(maxSteps:=800000) (disch:=omega)only[go_sem,List.drop_nil,List.drop_succ_cons,List.drop_zero,List.take_nil,List.take_succ_cons,List.take_zero,HY,A6,BW,BE,BF,ints,AP,A5,rows,AZ,AR]);refine⟨_,.of (KG),?_⟩;refine rZ ?_
  refine⟨_,.of (hpd),?_⟩;refine rZ ?_
  refine⟨_,.of (QR),?_⟩;refine rZ ?_
  apply BC;refine kJ ?_;refine⟨k+1,?_,by rw[<-UE];exact Le.refl _,?_,?_⟩
  ·simp(disch:=omega) [AN,AO,sl,AR,A5,ints,rows,A6,AZ]<;>omega
  ·first|exact⟨A9,A9⟩|first|omega|(dsimp only;omega)
  first|omega|(simp only;omega)
 apply AW.exit;apply B2;obtain rfl:k=N:=A0
 obtain⟨mm,iZ⟩:∃mm,mm=m:=⟨m,rfl⟩
 subst iZ
 refine cU ?_;refine AW.seq λN4 CF=>?_;refine cU ?_;apply AW.block;refine A8 (α:=Nat×HP×AV) (λx=>sl 54 [(2,A5 os pw cj),(6,.h (nx+2+4+2) 0 (nG os)),(9,x.2.2),(10,.i .i64 x.1)]) (λx=>x.2.1) (λx m=>(x.1<=nG os/\mm<=m)/\ElI os (mK os pw cj us k) mm m (nx+2+4+2) x.2.1 x.2.2 x.1) (λx=>nG os-x.1) ((0,AT (AT BM (nx+2+4+2) (some (aD (nG os) (mK os pw cj us k)))) (mm+3) (some []),.h (mm+3) 0 0)) ?_ ?_ (Le.refl _) ?_
 ·exact⟨⟨AB,A9⟩,(A1 _ _ A0).trans (A4 _ _ _),LC.mk (A4 _ _ _) rfl A0 A9⟩
 ·simp(disch:=omega) [AN,AO,sl,A5,ints,rows,A6]
 skip
 rintro⟨j,G,L⟩ m2 ⟨⟨hj,LN⟩,hG,hL⟩
 dsimp only at hj LN hG hL ⊢
 simp only[A5];refine AG ?_;have MA:=hL.one
 have IJ:=hL.len
 have l4:=hL.bd
 have yI:=xB (os:=os) (f:=mK os pw cj us k) (k:=j)
 rw[List.length_map]at IJ
 refine AW.seq λN5 DL=>?_;refine cU ?_;refine AW.cond rfl ?_ ?_<;>intro h2<;>try simp only[cn]at h2
 ·apply AW.skip;apply DL;refine AW.seq λN6 FR=>?_;apply AW.block;refine sQ λN hN=>?_;simp-dsimp-implicitDefEqProofs(maxSteps:=800000) (disch:=omega)only[go_sem,HY,A6,ints,AP,A5,rows,AZ,hG];apply hN;refine AW.cond rfl ?_ ?_<;>intro h3<;>try simp only[cn]at h3
  ·have UE:=dY (os:=os) h3;refine kJ ?_;refine AC.pure (.of (IZ os pw cj h j A0 A0)) ?_;try simp-dsimp-implicitDefEqProofs(disch:=(first|omega|((repeat refine LC.AT A0 ?_);assumption))) only[go_sem,AP,A5,vi,MA,IJ,BP (a:=mm) (b:=m2) (L:=L) (cs:=(RX os (mK os pw cj us k) j).map (vi os.length)),List.length_map]
   apply FR;refine AI (λG3 CB=>?_);dsimp only at CB;refine kJ ?_;refine⟨(j+1,G3,.h (m2+4+4+5) 0 ((RX os (mK os pw cj us k) j).length+1)),?_,λ_ _ h=>h,?_,?_⟩
   ·simp(disch:=omega) [AN,AO,sl,AR,A5,ints,rows,A6]<;>omega
   ·have A7L:LC G3 mm (m2+4+4+6) (.h (m2+4+4+5) 0 ((RX os (mK os pw cj us k) j).length+1)) ((RX os (mK os pw cj us k) (j+1)).map (vi os.length)):=LC.mk (by rw[<-CB,UE];simp(disch:=omega)only[A1,A4,List.map_append];rfl) (by rw[UE];simp) A0 A0;have EU:G3 (nx+2+4+2)=some (aD (nG os) (mK os pw cj us k)):=by rw[<-CB];simp(disch:=omega)only[A1,AY];exact hG
    first|exact⟨⟨A9,A9⟩,EU,A7L.wide (Nat.le_refl _) A9⟩|exact⟨A9,EU,A7L.wide (Nat.le_refl _) A9⟩
   first|omega|(simp only;omega)
  apply AW.skip;apply FR;refine AI (λG3 CB=>?_);dsimp only at CB;refine kJ ?_;refine⟨(j+1,G3,L),?_,λ_ _ h=>h,?_,?_⟩
  ·simp(disch:=omega) [AN,AO,sl,AR,A5,ints,rows,A6]<;>omega
  ·have Lp:=VF (os:=os) (f:=mK os pw cj us k) (k:=j) (by simpa using h3);subst CB;have Ly:LC G mm m2 L ((RX os (mK os pw cj us k) (j+1)).map (vi os.length)):=by rw[Lp];exact hL
   first|exact⟨⟨A9,A9⟩,hG,Ly.wide (Nat.le_refl _) A9⟩|exact⟨A9,hG,Ly.wide (Nat.le_refl _) A9⟩
  first|omega|(simp only;omega)
 apply AW.exit;apply CF;refine cU ?_;refine AH ?_;obtain rfl:j=nG os:=A0
 rw[Rz GA]at hL
 have:=hL.Lv
 rwa [List.length_map]at this
theorem Z7(h:AF os pw cj)(hc:CG (pc os pw cj) 0)(HL:nG os<=32){S:V->Prop}(hS:E5 (T (pc os pw cj) 0) (M (pc os pw cj) 0) S){us:List V}(hu:SI (pc os pw cj) S us):BI Tryz.prog 91 [AP os pw cj,AZ os.length us] (.i .i64 (HK os S)):=by
 have FU:=h.1.1
 have h2p:=I3 HL
 have Z5:=HC (os:=os) (S:=S)
 have AE4:(W4 os S).length=(sV os S).length:=by rw[sW,List.length_map]
 have hnl:=xA (os:=os) (S:=S)
 refine AD AA Tryz.func91 rfl A7 Tryz.ntmps91 Tryz.results91 (.i _ _) (λnx cX=>?_)
 refine p9 ?_;refine AK 2 nx _ rfl (A4 _ _ _) ?_
 refine AG ?_;refine sQ λN hN=>?_;simp-dsimp-implicitDefEqProofs(maxSteps:=800000) (disch:=omega)only[go_sem,NQ,ints,AP,A5,AZ,NM];refine AC.pure (.of (RY os pw cj h hc hS hu)) ?_;(try simp-dsimp-implicitDefEqProofs(maxSteps:=800000) (disch:=omega)only[go_sem,NQ,ints,AP,A5,AZ,NM]);apply hN;refine p9 ?_;refine AW.seq λN1 B2=>?_;refine p9 ?_;apply AW.block;refine A8 (α:=Nat) (λx=>sl 28 [(2,A5 os pw cj),(5,AZ os.length (W4 os S)),(6,.i .i64 (mL ((sV os S).take x))),(7,.i .i64 x)]) (λ_=>BM) (λx m=>x<=(sV os S).length) (λx=>(sV os S).length-x) (0) ?_ ?_ (by intro d cs hd;cases hd) ?_
 ·omega
 ·simp(disch:=omega) [AN,AO,sl,A5,ints,rows,A6,AZ,mL]
 skip
 rintro k m hk
 simp only[A5,AZ];refine AG ?_;refine AW.seq λN2 B7=>?_;refine p9 ?_;refine AW.cond rfl ?_ ?_<;>intro h1<;>try simp only[cn]at h1
 ·have FH:k<(sV os S).length:=A0;obtain⟨q,hq⟩:∃q,(sV os S).getD k 0=q:=⟨_,rfl⟩;have hqm:q∈sV os S:=by rw[<-hq,List.getD_eq_getElem?_getD,List.getElem?_eq_getElem FH];exact List.getElem_mem _
  have hqn:=A2G hqm;have Y5:((W4 os S).map (vi os.length)).getD k .j=vi os.length (C5 os (q:Nat)):=by rw[<-hq,sW];simp[FH]
  have QR:=I4 os pw cj h _ (DP h q);rw[XD h hqn]at QR;have hs:=Ip FH;rw[hq]at hs;have hsl:=Io (l:=sV os S) (k:=k+1);rw[wZ,hs]at hsl;have hwr:IntKind.wrap .i64 ((mL ((sV os S).take k):Int)+((2^q:Nat):Int))=((mL ((sV os S).take (k+1)):Nat):Int):=by rw[AR (by have:=Int.natCast_nonneg (2^q);omega) A0,hs];omega
  apply AW.skip;apply B7;refine AW.seq λN3 BC=>?_;apply AW.block;refine AM AA A7 11 A7 ?_
  (try simp-dsimp-implicitDefEqProofs(maxSteps:=800000) (disch:=omega)only[go_sem,List.drop_nil,List.drop_succ_cons,List.drop_zero,List.take_nil,List.take_succ_cons,List.take_zero,BW,BE,BF,NQ,ints,AP,A5,AZ,AR,NM,Y5,hwr]);refine⟨_,.of (QR),?_⟩;(try simp-dsimp-implicitDefEqProofs(maxSteps:=800000) (disch:=omega)only[go_sem,NQ,AP,A5,NM,hwr])
  apply BC;apply rQ;simp-dsimp-implicitDefEqProofs(maxSteps:=800000) (disch:=omega)only[go_sem,NQ,ints,AP,A5,AZ,NM];refine⟨k+1,?_,λ_ _ h=>h,?_,?_⟩
  ·simp(disch:=omega) [AN,AO,sl,A5,ints,rows,A6,AZ,AR]<;>omega
  ·omega
  first|omega|(simp only;omega)
 apply AW.exit;apply B2;refine p9 ?_;refine AH ?_;rw[show k=(sV os S).length by omega,List.take_length,wZ]
end
end Go.Proofs.YtgknbnkmilddhaaGreat

namespace Go.Proofs.YtgknbnkmilddhaaGreat
theorem Ir{a b:Nat}{L:AV}{cs xs:List AV}{H:HP}{id:Nat}{k:AV->HP->Prop}(h:LC H a b L cs)(hx:0<xs.length):U9 H L xs id k=k (.h id 0 (cs.length+xs.length)) (AT (dl H L) id (some (cs++xs))):=by
  cases xs with
  |nil=>simp at hx
  |cons x xs=>rw[BP h];rfl
theorem Vp{a b:Nat}(ha:a<=4294967296)(hb:b<=4294967296):IntKind.wrap .i64 ((BitVec.ofInt (IntKind.bits .i64) (a:Int)&&& BitVec.ofInt (IntKind.bits .i64) (b:Int)).toNat:Int)=((a &&& b:Nat):Int):=by
  have e:(BitVec.ofInt (IntKind.bits .i64) (a:Int)&&& BitVec.ofInt (IntKind.bits .i64) (b:Int)).toNat=a &&& b:=by
    show(BitVec.ofInt 64 _ &&& BitVec.ofInt 64 _).toNat=_
    rw[BitVec.toNat_and,M9 A0,M9 A0]
  have h:a &&& b<=a:=Nat.and_le_left;rw[e,AR A0 A0]
theorem Is{os:List Int}{us:List V}{k:Nat}(h:k<us.length):(RO os (us.take (k+1))).map (AV.i .i64)=(RO os (us.take k)).map (AV.i .i64)++D3 os.length (us.getD k z0):=by
  have e:(vec os.length (us.getD k z0)).map (AV.i .i64)=D3 os.length (us.getD k z0):=K4;rw[<-e,List.take_succ_eq_append_getElem h,RO,RO,List.flatMap_append,List.map_append];simp[h]
theorem lI{os:List Int}{us:List V}:(RO os us).length=us.length*os.length:=by
  induction us with
  |nil=>simp[RO]
  | cons x us ih=>
    rw[RO,List.flatMap_cons,List.length_append,BL,List.length_cons,Nat.succ_mul,<-ih,RO];omega
theorem P2(os:List Int)(us:List V)(hn:os.length<=6)(hl:us.length<=6)(hp:0<us.length->0<os.length):BI Tryz.prog 216 [AZ os.length us] (ints (RO os us)):=by
 refine B5 AA Tryz.func216 rfl A7 Tryz.ntmps216 Tryz.results216 ((GV _)) (λnx cX=>?_)
 refine E7 ?_;refine E7 ?_;refine AW.seq λN1 B2=>?_;refine E7 ?_;apply AW.block;refine A8 (α:=Nat×HP×AV) (λx=>sl 19 [(0,AZ os.length us),(3,x.2.2),(4,.i .i64 x.1)]) (λx=>x.2.1) (λx m=>(x.1<=us.length/\nx<=m)/\LC x.2.1 nx m x.2.2 ((RO os (us.take x.1)).map (.i .i64))) (λx=>us.length-x.1) ((0,AT BM (nx+1) (some []),.h (nx+1) 0 0)) ?_ ?_ (by intro d cs hd;simp only[AT,BM]at hd ⊢;grind) ?_
 ·exact⟨⟨AB,A9⟩,LC.mk (A4 _ _ _) rfl A0 A9⟩
 ·simp(disch:=omega) [AN,AO,sl,AZ]
 skip
 rintro⟨k,G,L⟩ m ⟨⟨hk,hm⟩,hL⟩
 refine AG ?_;dsimp only at hk hm hL ⊢
 have MA:=hL.one
 have IJ:=hL.len
 have l4:=hL.bd
 have Mb:(RO os (us.take k)).length<=36:=by rw[lI,List.length_take];exact(Nat.le_trans (Nat.mul_le_mul (show min k us.length<=6 by omega) hn) A0)
 rw[List.length_map]at IJ
 refine AW.seq λN2 B7=>?_;refine E7 ?_;refine AW.cond rfl ?_ ?_<;>intro h1<;>try simp only[cn]at h1
 ·have UE:=Is (os:=os) (us:=us) (k:=k) A0;have PH:=hp A0;have Cc:0<(D3 os.length (us.getD k z0)).length:=by rw[CR];exact PH
  apply AW.skip;apply B7;refine AW.seq λN3 BC=>?_;apply AW.block;apply rQ;simp-dsimp-implicitDefEqProofs(disch:=(first|omega|((repeat refine LC.AT A0 ?_);assumption))) only[go_sem,AZ,vi,MA,IJ,Ir (a:=nx) (b:=m) (L:=L) (cs:=(RO os (us.take k)).map (.i .i64)),List.length_map,CR]
  apply BC;refine AI (λG3 CB=>?_);dsimp only at CB;refine TN ?_;refine⟨(k+1,G3,.h (m+4+5) 0 ((RO os (us.take k)).length+os.length)),?_,λ_ _ h=>h,?_,?_⟩
  ·simp(disch:=omega) [AN,AO,sl,AR,AZ]<;>omega
  ·have GA:LC G3 nx (m+4+6) (.h (m+4+5) 0 ((RO os (us.take k)).length+os.length)) ((RO os (us.take (k+1))).map (.i .i64)):=LC.mk (by rw[<-CB,UE];simp(disch:=omega)only[A1,A4]) (by rw[UE,List.length_append,CR,List.length_map]) A0 A0;first|exact⟨⟨A9,A9⟩,GA.wide (Nat.le_refl _) A9⟩|exact⟨A9,GA.wide (Nat.le_refl _) A9⟩
  first|omega|(simp only;omega)
 apply AW.exit;apply B2;refine E7 ?_;refine AH ?_;obtain rfl:k=us.length:=A0
 rw[List.take_length]at hL
 have:=hL.Lv
 rw[List.length_map]at this
 exact this
theorem Z8(a b:List Int)(ha:a.length<=1048576)(hb:b.length<=1048576):BI Tryz.prog 215 [ints a,ints b] (.b (tf (OM a b<0))):=by
 refine AD AA Tryz.func215 rfl A7 Tryz.ntmps215 Tryz.results215 (.b _) (λnx cX=>?_)
 refine C1 ?_;refine AW.seq λN1 B2=>?_;refine C1 ?_;apply AW.block;refine A8 (α:=Nat) (λx=>sl 41 [(0,ints a),(1,ints b),(5,.i .i64 x)]) (λ_=>BM) (λx m=>(x<=a.length/\x<=b.length)/\∀j,j<x->a.getD j 0=b.getD j 0) (λx=>a.length-x) (0) ?_ ?_ (λ_ _ h=>h) ?_
 ·exact⟨⟨A0,A0⟩,λj hj=>A0⟩
 ·simp(disch:=omega) [AN,AO,sl,ints]
 skip
 rintro k m ⟨⟨hk,hkb⟩,hI⟩
 refine AG ?_;refine AW.seq λN2 B7=>?_;refine sQ λN hN=>?_;refine NA ?_;refine CH.mk' (λh1=>?_) (λh1=>?_)
 ·try simp only[cn]at h1
  refine NA ?_
  apply hN;refine AW.cond rfl ?_ ?_<;>intro h2<;>try simp only[cn]at h2
  ·apply AW.skip;apply B7;refine AW.seq λN3 BC=>?_;apply AW.block;refine AW.seq λN hN=>?_;refine L1 AA A7 [true,true,true,true,true,true,true,true,true] A7 ?_
   refine NA ?_;apply hN;refine AW.cond rfl ?_ ?_<;>intro h3<;>try simp only[cn]at h3
   ·refine AW.seq λN hN=>?_;refine L1 AA A7 [true,true,true,true,true,true,true,true,true,false] A7 ?_
    refine NA ?_;apply hN;refine AH ?_;have hq:tf (OM a b<0)=decide (a.getD k 0<b.getD k 0):=by
     have e:=Ho hI A0 A0 (λe=>h3 (Vm e));unfold cmp at e;rw[Bool.eq_iff_iff,JL,decide_eq_true_iff,e];split
     ·exact⟨λ_=>by assumption,λ_=>A0⟩
     split
     ·exact⟨λ_=>A0,λ_=>A0⟩
     exact⟨λ_=>A0,λ_=>A0⟩
    rw[hq]
   apply AW.skip;apply BC;refine II ?_;refine⟨k+1,?_,λ_ _ h=>h,?_,?_⟩
   ·simp(disch:=omega) [AN,AO,sl,ints,AR]<;>omega
   ·exact⟨⟨A9,A9⟩,Hn hI (by simpa using h3)⟩
   first|omega|(simp only;omega)
  apply AW.exit;apply B2;refine C1 ?_;refine AH ?_;obtain rfl:k=b.length:=by simp at h2;omega
  rw[NO hI A0 A0,List.drop_eq_getElem_cons (show b.length<a.length by omega),List.drop_of_length_le (Nat.le_refl _),OM,C8 A0,decide_eq_false A0]
 try simp only[cn]at h1
 refine NA ?_
 apply hN;refine B4 rfl ?_;apply AW.exit;apply B2;refine C1 ?_;refine AH ?_;obtain rfl:k=a.length:=by simp at h1;omega
 rw[NO hI A0 A0,List.drop_of_length_le (Nat.le_refl _)]
 by_cases q:a.length<b.length
 ·rw[List.drop_eq_getElem_cons q,OM,D2 A0,decide_eq_true A0]
 rw[List.drop_of_length_le A0,OM,C8 A0,decide_eq_false A0]
section
variable(os:List Int)(pw:List (List Int))(cj:List (List (List Int)))
theorem VH(h:AF os pw cj)(us vs:List V)(hl:us.length<=6)(hm:vs.length<=6)(hu:∀k,k<us.length->E4 os.length (us.getD k z0)<os.length)(hv:∀k,k<vs.length->E4 os.length (vs.getD k z0)<os.length):BI Tryz.prog 161 [AP os pw cj,AZ os.length us,AZ os.length vs] (.b (tf (GH os us vs<0))):=by
 have FU:=h.1.1
 have hpu:0<us.length->0<os.length:=λq=>by have:=hu 0 q;omega
 have hpv:0<vs.length->0<os.length:=λq=>by have:=hv 0 q;omega
 have bO:(RO os us).length<=36:=by rw[lI];exact Nat.le_trans (Nat.mul_le_mul hl FU) A0
 have iC:(RO os vs).length<=36:=by rw[lI];exact Nat.le_trans (Nat.mul_le_mul hm FU) A0
 refine AD AA Tryz.func161 rfl A7 Tryz.ntmps161 Tryz.results161 (.b _) (λnx cX=>?_)
 refine EY ?_;refine AK 3 nx _ rfl (A4 _ _ _) ?_
 refine AG ?_;refine AW.seq λN hN=>?_;refine AM AA A7 8 A7 ?_
 refine rD ?_;refine⟨_,.of (G8 os pw cj h us hl hu),?_⟩
 refine HS ?_
 refine⟨_,.of (G8 os pw cj h vs hm hv),?_⟩
 refine HS ?_
 apply hN;refine AW.seq λN1 B2=>?_;refine EY ?_;refine AW.cond rfl ?_ ?_<;>intro h1<;>try simp only[cn]at h1
 ·refine EY ?_;refine AH ?_;rw[GH]
  unfold JR;by_cases q:NJ os us us.length<NJ os vs vs.length
  ·rw[if_pos q,D2 A0,decide_eq_true q]
  rw[if_neg q,if_pos A0,C8 A0,decide_eq_false q]
 apply AW.skip;apply B2;refine sQ λN hN=>?_;refine HS ?_;refine rH (P2 os us FU hl hpu) ?_
 refine rH (P2 os vs FU hm hpv) ?_
 refine rH (Z8 _ _ A0 A0) ?_
 apply hN;refine AH ?_;rw[GH]
 unfold JR
 rw[if_neg A0,if_neg A0]
noncomputable def pC(os:List Int)(pw:List (List Int))(cj:List (List (List Int))):AV:= .g [.v (BK os pw cj).length ((BK os pw cj).map (AZ os.length)),ints (nI (DM os (pc os pw cj) (BK os pw cj)))]
theorem gQ(HL:nG os<=32){i j:Nat}(hb:(BK os pw cj).length<=4294967296)(hi:i<(BK os pw cj).length)(hj:j<(BK os pw cj).length):BI Tryz.prog 93 [pC os pw cj,.i .i64 i,.i .i64 j] (.b (decide ((DM os (pc os pw cj) (BK os pw cj)).getD i 0 &&&(DM os (pc os pw cj) (BK os pw cj)).getD j 0=(DM os (pc os pw cj) (BK os pw cj)).getD i 0))):=by
 have h2p:=I3 HL
 obtain⟨MK,hMK⟩:∃MK,DM os (pc os pw cj) (BK os pw cj)=MK:=⟨_,rfl⟩
 have Z5:MK.length=(BK os pw cj).length:=by rw[<-hMK,EG]
 have ZW:∀k,k<MK.length->MK.getD k 0<2^nG os:=λk hk=>by
  rw[Z5]at hk;rw[<-hMK,QY hk];exact HC
 have iM:=ZW i A0
 have HB:=ZW j A0
 rw[pC,hMK]
 have hai:=dX (gs:=MK) (k:=i) A0
 have haj:=dX (gs:=MK) (k:=j) A0
 refine AD AA Tryz.func93 rfl A7 Tryz.ntmps93 Tryz.results93 (.b _) (λnx cX=>?_)
 refine sQ λN hN=>?_;simp-dsimp-implicitDefEqProofs(maxSteps:=800000) (disch:=omega)only[go_sem,Vp,ints,C6,AP,hai,haj,Z5];apply hN;refine AK 3 nx _ rfl (A4 _ _ _) ?_
 refine AG ?_;refine AW.seq λN hN=>?_;refine L1 AA A7 [true,true,true,true,true,true,true,true,true,true,true,true,true,true,true,true,true,false] A7 ?_
 (try simp-dsimp-implicitDefEqProofs(maxSteps:=800000) (disch:=omega)only[go_sem,Vp,ints,C6,AP,hai,haj,Z5]);apply hN;refine AH ?_;congr 1
 rw[Bool.eq_iff_iff,beq_iff_eq,decide_eq_true_iff]
 omega
end
end Go.Proofs.YtgknbnkmilddhaaGreat
