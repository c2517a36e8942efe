import Derived.Test.YtgknbnkmilddhaaGreatZ15
import Derived.Test.YtgknbnkmilddhaaGreatZ19
import Derived.Test.YtgknbnkmilddhaaGreatZ21
import Derived.Test.YtgknbnkmilddhaaGreatZ29
set_option linter.unusedVariables false
set_option linter.unusedSimpArgs false

namespace Go.Proofs.YtgknbnkmilddhaaGreat
section
variable(os:List Int)(pw:List (List Int))(cj:List (List (List Int)))
set_option maxHeartbeats 1000000 in
theorem VJ(h:AF os pw cj)(hc:CG (pc os pw cj) 0)(HL:nG os<=32):BI Tryz.prog 37 [pC os pw cj] (ints ((D6 (DM os (pc os pw cj) (BK os pw cj))).map wm)):=by
 have h2p:=I3 HL
 have Ma:=R9 h hc
 have qH:=aS h hc
 have aH:=λi j (hi:i<(BK os pw cj).length) (hj:j<(BK os pw cj).length)=>gQ os pw cj HL A0 hi hj
 unfold pC at aH ⊢
 obtain⟨MK,hMK⟩:∃MK,DM os (pc os pw cj) (BK os pw cj)=MK:=⟨_,rfl⟩
 have Z5:MK.length=(BK os pw cj).length:=by rw[<-hMK,EG]
 rw[hMK]
 simp only[hMK]at aH
 obtain⟨ts,hts⟩:∃ts,(BK os pw cj).map (AZ os.length)=ts:=⟨_,rfl⟩
 rw[hts]
 simp only[hts]at aH
 rw[<-Z5]
 simp only[<-Z5]at aH
 rw[<-Z5]at Ma qH
 refine B5 AA Tryz.func37 rfl A7 Tryz.ntmps37 Tryz.results37 ((GV _)) (λnx cX=>?_)
 refine B8 ?_;refine AK 1 nx _ rfl (A4 _ _ _) ?_
 refine AG ?_;refine B8 ?_;refine AW.seq λN1 B2=>?_;refine B8 ?_;apply AW.block;refine A8 (α:=Nat) (λx=>sl 50 [(1,.p 0 [.v MK.length ts,ints (nI MK)]),(3,.h (nx+2+3) 0 MK.length),(4,.i .i64 ((MK.length:Int)-1-x))]) (λx=>AT BM (nx+2+3) (some (D3 MK.length (U4 MK x)))) (λx m=>x<=MK.length) (λx=>MK.length-x) (0) ?_ ?_ (by rw[p5];intro d cs hd;simp only[AT,BM]at hd ⊢;grind) ?_
 ·omega
 ·simp(disch:=omega) [AN,AO,sl]
 skip
 rintro k m hk
 refine AG ?_;refine AW.seq λN2 B7=>?_;refine B8 ?_;refine AW.cond rfl ?_ ?_<;>intro h1<;>try simp only[cn]at h1
 ·have MU:k<MK.length:=A0;obtain⟨i,hi⟩:∃i,MK.length-1-k=i:=⟨_,rfl⟩;have e0:(MK.length:Int)-1-k=i:=A0;have T4:i+k+1=MK.length:=A0;have T9:i<MK.length:=A0;rw[e0];apply AW.skip;apply B7;refine AW.seq λN3 BC=>?_;apply AW.block;refine AW.seq λN4 CF=>?_;refine B8 ?_;refine AW.cond rfl ?_ ?_<;>intro h2<;>try simp only[cn]at h2
  ·have FH:i+1=MK.length:=A0;have IA:=wV T4 FH;have qB:B3 (D3 MK.length (U4 MK k)) i [.i .i64 1]=D3 MK.length (U4 MK (k+1)):=by rw[K1 T9,IA]
   refine sQ λN hN=>?_;simp-dsimp-implicitDefEqProofs(maxSteps:=800000) (disch:=omega)only[go_sem,CR,qB];apply hN;apply AW.exit;apply BC;refine GN ?_;refine⟨k+1,?_,λ_ _ h=>h,?_,?_⟩
   ·simp(disch:=omega) [AN,AO,sl,AR]<;>omega
   ·first|omega|(dsimp only;omega)
   first|omega|(simp only;omega)
  have FH:i+1≠MK.length:=A0;apply AW.skip;apply CF;refine B8 ?_;refine AW.seq λN5 DL=>?_;refine B8 ?_;apply AW.block;refine A8 (α:=Nat) (λx=>sl 50 [(1,.p 0 [.v MK.length ts,ints (nI MK)]),(3,.h (nx+2+3) 0 MK.length),(4,.i .i64 i),(5,.i .i64 (wm (XK MK i x))),(6,.i .i64 ((i+1+x:Nat):Int))]) (λx=>AT BM (nx+2+3) (some (D3 MK.length (U4 MK k)))) (λx m=>x<=k) (λx=>k-x) (0) ?_ ?_ (λ_ _ h=>h) ?_
  ·omega
  ·simp(disch:=omega) [AN,AO,sl,XK,sm,D7]
  skip
  rintro q m2 hq;refine AG ?_;refine AW.seq λN6 FR=>?_;refine B8 ?_;refine AW.cond rfl ?_ ?_<;>intro h3<;>try simp only[cn]at h3
  ·have nY:i+1+q<MK.length:=A0;have hs:XK MK i (q+1)=XK MK i q+if MK.getD i 0 &&& MK.getD (i+1+q) 0=MK.getD i 0 then (D6 MK).getD (i+1+q) 0 else 0:=rfl
   apply AW.skip;apply FR;refine AW.seq λN7 MV=>?_;apply AW.block;refine N0 (aH i (i+1+q) T9 nY) ?_;refine AW.cond rfl ?_ ?_<;>intro h4<;>try simp only[cn]at h4
   ·have hx:XK MK i (q+1)=XK MK i q+(D6 MK).getD (i+1+q) 0:=by rw[hs,if_pos h4]
    have KV:(D3 MK.length (U4 MK k)).getD (i+1+q) .j= .i .i64 (wm ((D6 MK).getD (i+1+q) 0)):=by rw[a8 nY,U4,if_pos A0]
    apply rQ;simp-dsimp-implicitDefEqProofs(maxSteps:=800000) (disch:=omega)only[go_sem,CR,lD,KV];apply MV;refine GN ?_;refine⟨q+1,?_,λ_ _ h=>h,?_,?_⟩
    ·simp(disch:=omega) [AN,AO,sl,AR,hx]<;>omega
    ·first|omega|(dsimp only;omega)
    first|omega|(simp only;omega)
   have hx:XK MK i (q+1)=XK MK i q:=by rw[hs,if_neg h4,Int.add_zero]
   apply AW.skip;apply MV;refine GN ?_;refine⟨q+1,?_,λ_ _ h=>h,?_,?_⟩
   ·simp(disch:=omega) [AN,AO,sl,AR,hx]<;>omega
   ·first|omega|(dsimp only;omega)
   first|omega|(simp only;omega)
  obtain rfl:q=k:=A0;have oG:=p6 T4 FH;have qB:B3 (D3 MK.length (U4 MK q)) i [.i .i64 (wm (-XK MK i q))]=D3 MK.length (U4 MK (q+1)):=by rw[K1 T9,oG]
  apply AW.exit;apply DL;apply rQ;simp-dsimp-implicitDefEqProofs(maxSteps:=800000) (disch:=omega)only[go_sem,CR,A2B,qB];apply BC;refine GN ?_;refine⟨q+1,?_,λ_ _ h=>h,?_,?_⟩
  ·simp(disch:=omega) [AN,AO,sl,AR]<;>omega
  ·first|omega|(dsimp only;omega)
  first|omega|(simp only;omega)
 apply AW.exit;apply B2;refine B8 ?_;refine AH ?_;obtain rfl:k=MK.length:=A0
 refine UK ?_ (by rw[List.length_map,FN])
 rw[A4,List.map_map]
 refine congrArg some (List.ext_getElem? λj=>?_)
 rw[D3,List.getElem?_map,List.getElem?_map]
 by_cases hj:j<MK.length
 ·rw[List.getElem?_range hj,List.getElem?_eq_getElem (by rw[FN];exact hj)];simp[U4,FN,hj]
 rw[List.getElem?_eq_none (by simp;omega),List.getElem?_eq_none (by rw[FN];omega)];rfl
set_option maxHeartbeats 1000000 in
theorem VK(h:AF os pw cj)(hc:CG (pc os pw cj) 0)(HL:nG os<=32)(c:Nat)(LP:c<=1000):BI Tryz.prog 36 [AP os pw cj,.v (BK os pw cj).length ((BK os pw cj).map (AZ os.length)),ints ((D6 (DM os (pc os pw cj) (BK os pw cj))).map wm),.i .i64 c] (.i .i64 (wm (W5 os (pc os pw cj) c))):=by
 have h2:=I3 HL
 have Ma:=R9 h hc
 have hL:=TW h hc
 have Rv:=dL h hc hL c
 have Z5:((D6 (DM os (pc os pw cj) (BK os pw cj))).map wm).length=(BK os pw cj).length:=by rw[List.length_map,FN,EG]
 obtain⟨L,mJ⟩:∃L,BK os pw cj=L:=⟨_,rfl⟩
 obtain⟨mb,sP⟩:∃mb,D6 (DM os (pc os pw cj) (BK os pw cj))=mb:=⟨_,rfl⟩
 rw[sP]at Rv Z5
 have HJ:mb.length=(BK os pw cj).length:=by rw[<-Z5,List.length_map]
 have iZ:=λj=>wW h hc (j:=j)
 rw[mJ]at Rv Z5 HJ Ma iZ sP
 rw[mJ,sP]
 refine AD AA Tryz.func36 rfl A7 Tryz.ntmps36 Tryz.results36 (.i _ _) (λnx cX=>?_)
 refine YB HJ ?_;refine AK 4 nx _ rfl (A4 _ _ _) ?_
 refine AG ?_;refine YB HJ ?_;refine AW.seq λN1 B2=>?_;refine YB HJ ?_;apply AW.block;refine A8 (α:=Nat) (λx=>sl 41 [(1,.v L.length (L.map (AZ os.length))),(2,ints (mb.map wm)),(3,.i .i64 c),(4,A5 os pw cj),(9,.i .i64 (wm (sm (λj=>mb.getD j 0*JR os (L.getD j [])^c) x))),(10,.i .i64 x)]) (λ_=>BM) (λx m=>x<=L.length) (λx=>L.length-x) (0) ?_ ?_ (by intro d cs hd;cases hd) ?_
 ·omega
 ·simp(disch:=omega) [AN,AO,sl,A5,ints,rows,A6,sm,D7,HJ]
 skip
 rintro k m hk
 simp only[A5,ints,List.length_map,HJ]
 refine AG ?_;refine AW.seq λN2 B7=>?_;refine YB HJ ?_;refine AW.cond rfl ?_ ?_<;>intro h1<;>try simp only[cn]at h1
 ·have MU:k<L.length:=A0;have hgm:((mb.map wm).map (AV.i .i64)).getD k .j= .i .i64 (wm (mb.getD k 0)):=by simp[show k<mb.length by omega]
  have KG:=NP (n:=os.length) MU;obtain⟨m1,m2,m3,m4⟩:=iZ k MU;obtain⟨u,hu⟩:∃u,L.getD k []=u:=⟨_,rfl⟩;rw[hu]at KG m1 m2 m3 m4;have FV:=G8 os pw cj h u m1 m2;rw[show NJ os u u.length=wm (JR os u)from (oZ (a:=JR os u) A0 A0).symm]at FV;have hs:sm (λj=>mb.getD j 0*JR os (L.getD j [])^c) (k+1)=sm (λj=>mb.getD j 0*JR os (L.getD j [])^c) k+mb.getD k 0*JR os u^c:=by rw[<-hu];rfl
  obtain⟨SM,hSM⟩:∃SM,wm (sm (λj=>mb.getD j 0*JR os (L.getD j [])^c) k)=SM:=⟨_,rfl⟩;apply AW.skip;apply B7;refine AW.seq λN3 BC=>?_;apply AW.block;refine YB HJ ?_;refine AW.seq λN4 CF=>?_;refine YB HJ ?_;apply AW.block;refine A8 (α:=Nat) (λx=>sl 41 [(1,.v L.length (L.map (AZ os.length))),(2,ints (mb.map wm)),(3,.i .i64 c),(4,A5 os pw cj),(9,.i .i64 (wm (sm (λj=>mb.getD j 0*JR os (L.getD j [])^c) k))),(10,.i .i64 k),(11,.i .i64 (wm (JR os u^x))),(12,.i .i64 x)]) (λ_=>BM) (λx m=>x<=c) (λx=>c-x) (0) ?_ ?_ (λ_ _ h=>h) ?_
  ·omega
  ·simp(disch:=omega) [AN,AO,sl,A5,ints,rows,A6,FP,HJ]
  skip
  rintro j m2 hj;simp only[A5,ints,List.length_map,HJ];refine AG ?_;refine AW.seq λN5 DL=>?_;refine YB HJ ?_;refine AW.cond rfl ?_ ?_<;>intro h2<;>try simp only[cn]at h2
  ·apply AW.skip;apply DL;refine AW.seq λN6 FR=>?_;apply AW.block;refine AM AA A7 9 A7 ?_
   (try simp-dsimp-implicitDefEqProofs(maxSteps:=800000) (disch:=omega)only[go_sem,List.drop_nil,List.drop_succ_cons,List.drop_zero,List.length_map,List.take_nil,List.take_succ_cons,List.take_zero,BW,BE,BF,ints,AP,A5,AR,TV,HJ,KG]);refine⟨_,.of (FV),?_⟩;(try simp-dsimp-implicitDefEqProofs(maxSteps:=800000) (disch:=omega)only[go_sem,ints,AP,A5,TV])
   apply FR;apply rQ;simp-dsimp-implicitDefEqProofs(maxSteps:=800000) (disch:=omega)only[go_sem,List.length_map,ints,AP,A5,HJ];refine⟨j+1,?_,λ_ _ h=>h,?_,?_⟩
   ·rw[show JR os u^(j+1)=JR os u^j*JR os u from Int.pow_succ _ _];simp(disch:=omega) [AN,AO,sl,AR,A5,ints,rows,A6,HJ]
   ·first|omega|(dsimp only;omega)
   first|omega|(simp only;omega)
  obtain rfl:j=c:=A0;apply AW.exit;apply CF;apply rQ;simp-dsimp-implicitDefEqProofs(maxSteps:=800000) (disch:=omega)only[go_sem,List.length_map,ints,AP,A5,lD,TV,HJ,hgm];apply BC;apply rQ;simp-dsimp-implicitDefEqProofs(maxSteps:=800000) (disch:=omega)only[go_sem,List.length_map,ints,AP,A5,HJ];refine⟨k+1,?_,λ_ _ h=>h,?_,?_⟩
  ·rw[hs];simp(disch:=omega) [AN,AO,sl,AR,A5,ints,rows,A6,HJ]
  ·first|omega|(dsimp only;omega)
  first|omega|(simp only;omega)
 apply AW.exit;apply B2;refine YB HJ ?_;refine AH ?_;rw[show k=L.length by omega,Rv]
theorem ZB(hl:GB os pw cj):BI Tryz.prog 33 [AP os pw cj] (.i .i64 (aU os pw cj)):=by
 refine AD AA Tryz.func33 rfl A7 Tryz.ntmps33 Tryz.results33 (.i _ _) (λnx cX=>?_)
 refine EY ?_;refine AK 1 nx _ rfl (A4 _ _ _) ?_
 refine AG ?_;refine AW.seq λN1 B2=>?_;apply AW.block;refine SD (WU os pw cj hl) ?_;refine AW.cond rfl ?_ ?_<;>intro h1<;>try simp only[cn]at h1
 ·refine EY ?_;refine AH ?_;rw[aU,C8 h1];rfl
 refine SD (EM os pw cj h1.1) ?_;refine AW.cond rfl ?_ ?_<;>intro h2<;>try simp only[cn]at h2
 ·refine EY ?_;refine AH ?_;rw[aU,D2 h1,if_pos rfl,if_neg A0]
 apply AW.skip;apply B2;refine EY ?_;refine AH ?_;rw[aU,D2 h1,if_pos rfl,if_pos A0]
theorem MP(hl:GB os pw cj)(k:Int):BI Tryz.prog 8 [AP os pw cj,.i .i64 k] (p7 os pw cj k):=by
 refine AD AA Tryz.func8 rfl A7 Tryz.ntmps8 Tryz.results8 (Hz _ _ _ _) (λnx cX=>?_)
 refine EY ?_;refine AK 2 nx _ rfl (A4 _ _ _) ?_
 refine AG ?_;refine SD (ZB os pw cj hl) ?_;refine AW.seq λN1 B2=>?_;refine EY ?_;refine AW.cond rfl ?_ ?_<;>intro h1<;>try simp only[cn]at h1
 ·refine EY ?_;refine AH ?_;rw[p7,if_neg h1];rfl
 have e0:aU os pw cj=0:=A0
 have hg:AF os pw cj/\CG (pc os pw cj) 0:=Classical.byContradiction λq=>by rw[aU,C8 q]at e0;simp at e0
 obtain⟨h,hc⟩:=hg
 have HL:nG os<=32:=Classical.byContradiction λq=>by rw[aU,D2 ⟨h,hc⟩,if_pos rfl,if_neg (by rw[<-GR h];omega)]at e0;omega
 apply AW.skip;apply B2;refine AW.seq λN2 B7=>?_;refine SD (GO k 0 6) ?_;refine AW.cond rfl ?_ ?_<;>intro h2<;>try simp only[cn]at h2
 ·refine EY ?_;refine AH ?_;rw[p7,if_pos e0,if_neg h2];rfl
 have dT:=h2.2
 obtain⟨c,rfl⟩:=Int.eq_ofNat_of_zero_le h2.1
 apply AW.skip;apply B7;refine sQ λN hN=>?_;refine HS ?_;refine AC.pure (.of (ZA os pw cj h hc HL)) ?_;unfold pC
 refine HS ?_
 apply hN;refine AK 7 (nx+3+3+2+3+2) _ rfl (A4 _ _ _) ?_
 refine AG ?_;refine AW.seq λN hN=>?_;refine AM AA A7 9 A7 ?_
 refine rD ?_;refine⟨_,.of (VJ os pw cj h hc HL),?_⟩
 refine HS ?_
 refine⟨_,.of (VK os pw cj h hc HL c A0),?_⟩
 refine HS ?_
 apply hN;refine AH ?_;rw[p7,if_pos e0,if_pos h2,sR os pw cj h HL A0];rfl
end
end Go.Proofs.YtgknbnkmilddhaaGreat

namespace Go.Proofs.YtgknbnkmilddhaaGreat
theorem Iy{P:Pc}{us:List V}:(RL P us).length<=P.n:=Q9
theorem KB(g:Int)(rs:List (List Int))(os:List Int)(pw:List (List Int))(cj:List (List (List Int)))(h:AF os pw cj)(hc:CG (pc os pw cj) 0)(xs:List (List Int))(hx:YY os xs)(hxl:xs.length<=1000)(hr:BO rs)(hw:∀k,k<rs.length->Q4 xs.length (rs.getD k [])):BI Tryz.prog 42 [rows xs,.p 0 [.i .i64 g,rows rs],A5 os pw cj] (.b (tf (z6 (pc os pw cj) xs rs/\kN os (pc os pw cj) xs))):=by
 have FU:=h.1.1
 have hT:=A6P os pw cj hx
 have Y5:=M8 os pw cj h hc (xs.map fl) (by rw[List.length_map];omega) hT
 rw[<-Ff os hx]at Y5
 have hon:=Fu os pw cj h hc hT
 have JN:=Iy (P:=pc os pw cj) (us:=xs.map fl)
 have PH:(pc os pw cj).n=os.length:=rfl
 rw[PH]at JN
 refine AD AA Tryz.func42 rfl A7 Tryz.ntmps42 Tryz.results42 (.b _) (λnx cX=>?_)
 refine sQ λN hN=>?_;simp-dsimp-implicitDefEqProofs(maxSteps:=800000) (disch:=omega)only[go_sem,ints,A5,AZ];apply hN;refine AW.seq λN hN=>?_;refine AM AA A7 14 A7 ?_
 (try simp-dsimp-implicitDefEqProofs(maxSteps:=800000) (disch:=omega)only[go_sem,List.drop_nil,List.drop_succ_cons,List.drop_zero,List.take_nil,List.take_succ_cons,List.take_zero,BW,BE,BF,ints,A5,AZ,AR]);refine⟨_,.of (WZ rs os pw cj h hc xs hx hxl hr hw),?_⟩
 refine kL ?_
 refine CH.mk' (λh1=>?_) (λh1=>?_)
 ·try simp only[cn]at h1
  refine kL ?_
  refine⟨_,.of (Y5),?_⟩;refine kL ?_
  apply hN;refine AH ?_;by_cases q:(RL (pc os pw cj) (List.map fl xs)).length=os.length
  ·rw[D2 (show kN os (pc os pw cj) xs from hon.2 q),q];simp
  rw[C8 (show ¬kN os (pc os pw cj) xs from λz=>q (hon.1 z))];congr 1
  rw[beq_eq_false_iff_ne];omega
 try simp only[cn]at h1
 refine kL ?_
 apply hN;refine AH ?_;rw[C8 (λz=>h1 z.1)]
theorem LR(g:Int)(rs:List (List Int))(hr:BO rs)(os:List Int)(pw:List (List Int))(cj:List (List (List Int)))(hl:GB os pw cj):BI Tryz.prog 11 [fp g rs,AP os pw cj] (F3 (gL (fpP g rs/\Ed os pw cj) (OU (CV os os.length) g.toNat) (NI (λk=>z6 (pc os pw cj) (TJ os (CV os os.length) g.toNat k) rs/\kN os (pc os pw cj) (TJ os (CV os os.length) g.toNat k)) (OU (CV os os.length) g.toNat).toNat)) (gK (fpP g rs/\Ed os pw cj) (OU (CV os os.length) g.toNat))):=by
 have hrn:=hr.n
 have MD:=hl.o
 obtain⟨OK,hOK⟩:∃OK:Prop,(fpP g rs/\Ed os pw cj)=OK:=⟨_,rfl⟩
 rw[hOK]
 refine AD AA Tryz.func11 rfl A7 Tryz.ntmps11 Tryz.results11 (M6 _ _) (λnx cX=>?_)
 refine rV ?_;refine AW.seq λN1 B2=>?_;refine AK 2 nx _ rfl ((A1 _ _ A0).trans (A4 _ _ _)) ?_
 refine AG ?_;refine AK 3 (nx+1) _ rfl ((A1 _ _ A0).trans (A4 _ _ _)) ?_
 refine AG ?_;refine sQ λN hN=>?_;refine rW ?_;refine AC.pure (.of (UU g rs hr)) ?_;(try simp-dsimp-implicitDefEqProofs(maxSteps:=800000) (disch:=omega)only[go_sem,fp,AP,F3,rows])
 refine CH.mk' (λh1=>?_) (λh1=>?_)
 ·try simp only[cn]at h1
  refine rW ?_
  refine AC.pure (.of (FK os pw cj hl)) ?_;(try simp-dsimp-implicitDefEqProofs(maxSteps:=800000) (disch:=omega)only[go_sem,fp,AP,F3,rows])
  apply hN;refine AW.cond rfl ?_ ?_<;>intro h2<;>try simp only[cn]at h2
  ·refine rV ?_;refine AH ?_;exact(Eh (by rw[<-hOK];exact λq=>h2 q.2)).symm
  apply AW.skip;apply B2;have IY:=h2.1.2.1;have KY:=M1 IY os.length (Nat.le_refl _);have sX:=h1.1;have Vq:((g.toNat:Nat):Int)=g:=A0;have sE:=RJ os pw cj h2.1 g.toNat A0 42 [.p 0 [.i .i64 g,rows rs],A5 os pw cj] (λk=>z6 (pc os pw cj) (TJ os (CV os os.length) g.toNat k) rs/\kN os (pc os pw cj) (TJ os (CV os os.length) g.toNat k)) (λk _=>KB g rs os pw cj h2.1 h2.2 _ (Pm IY A0 KY) (by rw[cQ];omega) hr (λj hj=>by rw[cQ,Vq];exact h1.2.2 j hj));rw[Vq]at sE;refine sQ λN hN=>?_;simp-dsimp-implicitDefEqProofs(maxSteps:=800000) (disch:=omega)only[go_sem,fp,AP,F3,rows];refine AC.pure (.of (sE)) ?_;(try simp-dsimp-implicitDefEqProofs(maxSteps:=800000) (disch:=omega)only[go_sem,fp,AP,F3,rows]);apply hN;refine AH ?_;simp only[F3,gL,gK,D2 trivial,D2 (show OK by rw[<-hOK];exact⟨h1,h2⟩)]
 try simp only[cn]at h1
 refine rW ?_
 apply hN;refine CI rfl ?_;refine rV ?_;refine AH ?_;exact(Eh (by rw[<-hOK];exact λq=>h1 q.1)).symm
end Go.Proofs.YtgknbnkmilddhaaGreat

namespace Go.Proofs.YtgknbnkmilddhaaGreat
section
variable{os:List Int}{pw:List (List Int)}{cj:List (List (List Int))}(hp:AF os pw cj)(hc:CG (pc os pw cj) 0)
theorem A7R{x:V}(hx:∀k,os.length<=k->x k=0):fl (vec os.length x)=x:=by
  funext k
  unfold fl;by_cases hk:k<os.length
  · exact K3 hk
  rw[List.getD_eq_getElem?_getD,List.getElem?_eq_none (by rw[BL];omega),hx k A0];rfl
include hp
theorem A2J{l:List Nat}:(l.map λd:Nat=>atR os (d:Int)).map fl=l.map λt:Nat=>C5 os (t:Int):=by
  rw[List.map_map];refine List.map_congr_left λt _=>?_
  exact A7R (DP (pw:=pw) (cj:=cj) hp t).t
omit hp in
theorem Iz{S:V->Prop}(h:∀t:Nat,t<nG os->S (C5 os t)):(W4 os S).length=nG os:=by
  rw[W4,List.length_map,List.filter_eq_self.2 λt ht=>D2 (h t (List.mem_range.1 ht)),List.length_range]
include hc
theorem Sk{xs:List (List Int)}(hx:∀x∈xs.map fl,T (pc os pw cj) 0 x):kN os (pc os pw cj) xs↔GL (pc os pw cj) (xs.map fl)=T (pc os pw cj) 0:=by
  have IY:∀d,d<(pc os pw cj).n->JG ((pc os pw cj).o d):=λd hd=>hp.2.1 d hd
  have hS:=sG hp.val hc IY hx;have Co:=sH hp.val hc IY hx;have FV:=dJ hp hc hS Co;unfold JR at FV;unfold kN;rw[<-FV,<-GR hp];constructor
  · intro h;apply Classical.byContradiction;intro AQ;have hT:=oJ hp.val hc;have hcT:=aK hp hc hT;have h1:=(sub_lt hp hc hS Co hT hcT (λx hx=>hS.n hx) AQ).1;have h2:=dJ hp hc hT hcT;rw[Iz λt _=>DP hp t]at h2;unfold JR at h1 h2;omega
  intro h;rw[h,Iz λt _=>DP hp t]
omit hp hc in
theorem A2K{w:List V->Int}(h1:1<=nG os):∀c {w:List V->Int},sm (λk=>w ((dS (nG os) c k).map λt:Nat=>C5 os (t:Int))) (nG os^c)=tw os c w:=by
  intro c;induction c with
  |zero=>intro w;simp[sm,dS,tw]
  | succ c ih=>
    intro w;rw[tw,show nG os^(c+1)=nG os*nG os^c by rw[Nat.pow_succ,Nat.mul_comm],sA];refine GG _ λx hx=>?_
    rw[<-ih];refine GG _ λy hy=>?_
    rw[vT h1 hx hy,List.map_cons]
theorem zX{c:Nat}(hs:OU (CV os os.length) c<=4096):NI (λk=>z6 (pc os pw cj) (TJ os (CV os os.length) c k) []/\kN os (pc os pw cj) (TJ os (CV os os.length) c k)) (OU (CV os os.length) c).toNat=W5 os (pc os pw cj) c:=by
  have h1:=(JC hp).1;rw[<-GR hp]at hs ⊢;rw[Pw h1 hs,Int.toNat_natCast,A1C,W5,<-A2K (w:=λ_=>0) h1 c,digits h1 c λl=>ind (GL (pc os pw cj) (l.map λt:Nat=>C5 os (t:Int))=T (pc os pw cj) 0)];refine GG _ λk hk=>?_
  rw[Fc];have e1:=A2J (pw:=pw) (cj:=cj) hp (l:=dI (nG os) c k);have e2:=Sk hp hc (xs:=(dI (nG os) c k).map λd:Nat=>atR os (d:Int)) (by
    rw[e1];intro x hx;obtain⟨t,_,rfl⟩:=List.mem_map.1 hx;exact DP hp t)
  rw[e1]at e2;have e3:(z6 (pc os pw cj) ((dI (nG os) c k).map λd:Nat=>atR os (d:Int)) []/\kN os (pc os pw cj) ((dI (nG os) c k).map λd:Nat=>atR os (d:Int)))↔GL (pc os pw cj) ((dI (nG os) c k).map λt:Nat=>C5 os (t:Int))=T (pc os pw cj) 0:=
    ⟨λq=>e2.1 q.2,λq=>⟨λi hi=>by simp at hi,e2.2 q⟩⟩
  rw[propext e3];rfl
theorem lJ:sm (λj=>(D6 (DM os (pc os pw cj) (BK os pw cj))).getD j 0) (BK os pw cj).length=if os.length=0 then 1 else 0:=by
  rw[zN hp hc (TW hp hc)];split
  · rename_i h0;exact dK λx hx=>funext λk=>hx.t k (by show os.length<=k;omega)
  rename_i h0;refine iX λq=>?_
  have hu:=nM hp.val (P:=pc os pw cj) (Nat.zero_le 0) (show 0<(pc os pw cj).n from (by show 0<os.length;omega));have:=congrFun (q _ hu) 0;simp[un,AX,z0]at this
end
section
variable(os:List Int)(pw:List (List Int))(cj:List (List (List Int)))
theorem VL(h:AF os pw cj):BI Tryz.prog 95 [ints os] (.i .i64 (CV os os.length)):=by
 have nP:∀k,k<=os.length->CV os k<=CV os os.length:=λk hk=>by
  have:=ND h.2.1 (k:=k) (os.length-k) A0;rwa [show k+(os.length-k)=os.length by omega]at this
 have FU:=h.1.1
 have Gy:=h.2.2.1
 refine AD AA Tryz.func95 rfl A7 Tryz.ntmps95 Tryz.results95 (.i _ _) (λnx cX=>?_)
 refine C1 ?_;refine C1 ?_;refine AW.seq λN1 B2=>?_;refine C1 ?_;apply AW.block;refine A8 (α:=Nat) (λx=>sl 20 [(0,ints os),(3,.i .i64 (CV os x)),(4,.i .i64 x)]) (λ_=>BM) (λx m=>x<=os.length) (λx=>os.length-x) (0) ?_ ?_ (λ_ _ h=>h) ?_
 ·omega
 ·simp(disch:=omega) [AN,AO,sl,ints,CV]
 skip
 rintro k m hk
 refine AG ?_;refine AW.seq λN2 B7=>?_;refine C1 ?_;refine AW.cond rfl ?_ ?_<;>intro h1<;>try simp only[cn]at h1
 ·have U3:=nP k A0;have oQ:=nP (k+1) A0;have KA:=M1 h.2.1 (k+1) A0;have hs:CV os (k+1)=CV os k*os.getD k 0:=rfl;apply AW.skip;apply B7;refine AW.seq λN3 BC=>?_;apply AW.block;refine C1 ?_;refine AW.cond rfl ?_ ?_<;>intro h2<;>try simp only[cn]at h2
  ·refine II ?_;apply BC;refine II ?_;refine⟨k+1,?_,λ_ _ h=>h,?_,?_⟩
   ·simp(disch:=omega) [AN,AO,sl,AR,ints,hs]<;>omega
   ·first|omega|(dsimp only;omega)
   first|omega|(simp only;omega)
  omega
 apply AW.exit;apply B2;refine C1 ?_;refine AH ?_;rw[show k=os.length by omega]
theorem MQ(hl:GB os pw cj)(h:AF os pw cj):BI Tryz.prog 38 [AP os pw cj] (F3 (CV os os.length) 0):=by
 have hip:=CS os pw cj hl
 rw[D2 h]at hip
 refine AD AA Tryz.func38 rfl A7 Tryz.ntmps38 Tryz.results38 (M6 _ _) (λnx cX=>?_)
 refine EY ?_;refine AK 1 nx _ rfl (A4 _ _ _) ?_
 refine AG ?_;refine AW.seq λN1 B2=>?_;refine SD (hip) ?_;refine AW.cond rfl ?_ ?_<;>intro h1<;>try simp only[cn]at h1
 ·cases h1
 apply AW.skip;apply B2;refine SD (VL os pw cj h) ?_;refine AH ?_;rfl
theorem J1(hl:GB os pw cj)(h:AF os pw cj):BI Tryz.prog 10 [AP os pw cj] (.i .i64 (CV os os.length)):=by
 refine AD AA Tryz.func10 rfl A7 Tryz.ntmps10 Tryz.results10 (.i _ _) (λnx cX=>?_)
 refine sQ λN hN=>?_;simp-dsimp-implicitDefEqProofs(maxSteps:=800000) (disch:=omega)only[go_sem,AP,A5,F3];apply hN;refine AK 1 nx _ rfl (A4 _ _ _) ?_
 refine AG ?_;refine sQ λN hN=>?_;simp-dsimp-implicitDefEqProofs(maxSteps:=800000) (disch:=omega)only[go_sem,AP,A5,F3];refine AC.pure (.of (MQ os pw cj hl h)) ?_;(try simp-dsimp-implicitDefEqProofs(maxSteps:=800000) (disch:=omega)only[go_sem,AP,A5,F3]);apply hN;refine sQ λN hN=>?_;simp-dsimp-implicitDefEqProofs(maxSteps:=800000) (disch:=omega)only[go_sem,AP,A5,F3];apply hN;apply AW.ret;simp-dsimp-implicitDefEqProofs(disch:=omega)only[go_sem];try rfl
end
end Go.Proofs.YtgknbnkmilddhaaGreat

namespace Go.Proofs.YtgknbnkmilddhaaGreat
theorem XM{i o n:Nat}:(∀z∈ [AV.h i o n],one z=true)=True:=J6 rfl
def TZ(n j:Nat):List Int:=vec n (λk=>if k=j then 1 else 0)
theorem NT(n j:Nat):(TZ n j).length=n:=by simp[TZ,vec]
theorem dZ(n j:Nat)(hn:n<=1048576)(hj:j<n)(nx:Nat)(H:HP):AC Tryz.prog 116 nx H [.i .i64 n,.i .i64 j] (λBB H' r=>Al nx BB H H' r n (λk=>if k=j then 1 else 0)):=by
 refine BA AA Tryz.func116 rfl A7 Tryz.ntmps116 Tryz.results116 (λCQ cX=>?_)
 refine B8 ?_;refine B8 ?_;refine B8 ?_;refine B8 ?_;refine AH ?_;refine⟨_,?_,nx+1+1,rfl,A0,A0,rfl⟩
 rw[CO,K1 hj,show AX (λ_=>(0:Int)) j 1=λk=>if k=j then 1 else 0 from rfl]
 intro i c hi
 have C4:H i=some c->i<nx:=λh=>by apply Classical.byContradiction;intro hn;rw[CQ i A0]at h;cases h
 simp only[AT]at hi ⊢
 split at hi
 ·rename_i e;subst e;cases hi;repeat (first|rw[if_pos rfl]|rw[if_neg A0])
 have:=C4 hi;repeat rw[if_neg A0]
 exact hi
theorem LG(n j:Nat)(hn:n<=1048576)(hj:j<n):gE Tryz.prog 116 [.i .i64 n,.i .i64 j] (ints (TZ n j)):=Al.aco (λnx=>dZ n j hn hj nx BM)
def P3(n:Nat):List (List Int):=List.replicate n (List.replicate n 0)
def zY(n i:Nat):List (List Int):=(List.range (n-(i+1))).map λj=>TZ n (i+1+j)
def KC(n:Nat):List (List (List Int)):=(List.range n).map (zY n)
theorem Ja{n k:Nat}(h:k<n):(P3 n).take (k+1)=(P3 n).take k++[List.replicate n 0]:=by
  rw[List.take_succ_eq_append_getElem (by simpa[P3]using h)];simp[P3]
theorem Jb{n i j:Nat}(h:i+1+j<n):((zY n i).map ints).take (j+1)=((zY n i).map ints).take j++[ints (TZ n (i+1+j))]:=by
  rw[List.take_succ_eq_append_getElem (by simp[zY];omega)];simp[zY]
theorem Jc{n k:Nat}(h:k<n):(KC n).take (k+1)=(KC n).take k++[zY n k]:=by
  rw[List.take_succ_eq_append_getElem (by simpa[KC]using h)];simp[KC]
theorem VM(n i:Nat):(zY n i).length=n-(i+1):=by simp[zY]
theorem aX(n:Nat):(KC n).length=n:=by simp[KC]
theorem aY(n:Nat):(P3 n).length=n:=by simp[P3]
theorem ABW(n:Nat):List.replicate n (AV.i .i64 0)=(List.replicate n (0:Int)).map (.i .i64):=AB
theorem Vr(a:List Int)(ha:a.length<=1099511627776):gE Tryz.prog 87 [ints a] (ints a):=by
  have:=Al.aco (λnx=>CJ a ha nx BM);rwa [<-jU]at this
set_option maxHeartbeats 4000000 in theorem I5 (os:List Int) (hn:os.length<=1000):∀nx,AC Tryz.prog 174 nx BM [ints os] (λBB H' r=>∃r0 P B cp cb,r= .g [r0,P,B]/\TQ nx BB H' r0 P B os (P3 os.length) (KC os.length) cp cb):=by
 intro nx
 refine BS AA Tryz.func174 rfl A7 Tryz.ntmps174 Tryz.results174 (λcX=>?_)
 refine dN ?_;refine dN ?_;refine sQ λN hN=>?_;(try simp-dsimp-implicitDefEqProofs(maxSteps:=800000) (disch:=omega)only[go_sem,Lu,ints]);refine AC.own (Vr os A0) (.cons (.refl _) .nil) ?_
 intro m0 H0 r0 pF uC Nw P4
 obtain⟨u1,u2,u3⟩:=P4.1.slice
 (try simp-dsimp-implicitDefEqProofs(maxSteps:=800000) (disch:=omega)only[go_sem,u1,u2,u3])
 apply hN;refine AW.seq λN1 B2=>?_;refine dN ?_;apply AW.block;refine AI (λG0 C9=>?_);dsimp only at C9
 have O0:G0 (nx+7)=some [r0,.nl,.nl]:=by rw[<-C9];simp(disch:=omega)only[A4]
 have cZ:G0 nx=some [.nl,.nl,.nl]:=by rw[<-C9,A1 _ _ A0,Nw _ A0];simp(disch:=omega)only[A4]
 have hp0:EB (nx+9) m0 G0 r0 .nl .nl os [] []:=⟨pF,[],[],⟨P4.1.AJ (λi hi=>by have:=P4.2.2 i hi;rw[<-C9,A1 _ _ A0]),.nl,.nl⟩,by simpa using P4.2.1,λi hi=>by have:=P4.2.2 i (by simpa using hi);omega⟩
 refine A8 (α:=Nat×HP×AV×AV×List AV×List AV) (λx=>sl 46 [(2,.q nx 0),(3,.i .i64 os.length),(4,.q (nx+7) 0),(5,.i .i64 x.1)]) (λx=>x.2.1) (λx m=>(x.1<=os.length/\m0<=m)/\(x.2.1 (nx+7)=some [r0,x.2.2.1,x.2.2.2.1]/\x.2.1 nx=some [.nl,.nl,.nl])/\EB (nx+9) m x.2.1 r0 x.2.2.1 x.2.2.2.1 os ((P3 os.length).take x.1) ((KC os.length).take x.1)/\(LC x.2.1 (nx+9) m x.2.2.1 x.2.2.2.2.1/\x.2.2.2.2.1.length=x.1)/\(LC x.2.1 (nx+9) m x.2.2.2.1 x.2.2.2.2.2/\x.2.2.2.2.2.length=x.1)/\∀y∈x.2.2.2.2.2,gO y=true) (λx=>os.length-x.1) ((0,G0,.nl,.nl,[],[])) ?_ ?_ (λ_ _ h=>h) ?_
 ·exact⟨⟨AB,A9⟩,⟨O0,cZ⟩,by simpa using hp0.AJ (λ_ _ _=>rfl) A9,⟨.nil,rfl⟩,⟨.nil,rfl⟩,AB⟩
 ·simp(disch:=omega) [AN,AO,sl,AR,ints]
 skip
 rintro⟨k,G,P,B,cp,cb⟩ m ⟨⟨hk,hm⟩,⟨hq,hx⟩,eA,⟨qH,YL⟩,⟨W9,kF⟩,oR⟩
 refine AG ?_;dsimp only at hk hm hq hx eA qH YL W9 kF oR ⊢
 have hPb:=qH.bd
 have Vs:=qH.one
 have hPl:=qH.len
 have hBb:=W9.bd
 have zZ:=W9.one
 have hBl:=W9.len
 refine AW.seq λN2 B7=>?_;refine dN ?_;refine AW.cond rfl ?_ ?_<;>intro h1<;>try simp only[cn]at h1
 ·have WE:k<os.length:=A0;apply AW.skip;apply B7;refine AW.seq λN3 BC=>?_;apply AW.block;refine AW.seq λN hN=>?_;refine EO AA A7 [true,false,true,false,false,false,true,false] (.br 1 (.br 3 (.br 4 (.br 5 (.br 7 .nil .nil) .nil) .nil) .nil) (.br 3 (.br 1 (.br 4 (.br 5 (.br 7 .nil .nil) .nil) .nil) (.br 4 (.br 1 (.br 5 (.br 7 .nil .nil) .nil) .nil) .nil)) .nil)) A7 ?_
  simp-dsimp-implicitDefEqProofs(disch:=(first|omega|((repeat refine LC.AT A0 ?_);assumption))) only[go_sem,ints,Lu,↓vN,↓vO,↓vP,and_self,XM,hq,Vs,hPl,YL,AY,BP (a:=nx+9) (b:=m) (L:=P) (cs:=cp)];apply hN;refine AI (λG1 I8=>?_);dsimp only at I8;have ABX:G1 (nx+7)=some [r0,.h (m+3+5) 0 (k+1),B]:=by rw[<-I8];simp(disch:=omega)only[A4]
  have A7S:G1 (m+3+5)=some (cp++[.h (m+3+3) 0 os.length]):=by rw[<-I8];simp(disch:=omega)only[A4,A1]
  have ABY:G1 (m+3+3)=some ((List.replicate os.length (0:Int)).map (.i .i64)):=by rw[<-I8,<-ABW];simp(disch:=omega)only[A4,A1,AY]
  have ABZ:G1 nx=some [.nl,.nl,.nl]:=by rw[<-I8,<-hx];simp(disch:=omega)only[A1,AY]
  have A7T:∀i,nx+9<=i->i<m->bk P≠i+1->G1 i=G i:=λi i1 i2 i3=>by rw[<-I8];simp(disch:=omega)only[A1,AY]
  have A7U:EB (nx+9) (m+3+8) G1 r0 (.h (m+3+5) 0 (k+1)) B os ((P3 os.length).take (k+1)) ((KC os.length).take k):=by
   rw[Ja WE,<-YL];rw[<-YL]at eA;exact eA.A72 qH (Ow.ints ABY AB) AB (λi hi=>by simp at hi;omega) A7S A0 AB A0 A7T
  have hPB:=eA.ne qH W9;have A7V:LC G1 (nx+9) m B cb:=W9.OZ (λi hi=>A7T i A0 A0 A0);obtain⟨b1,LZ⟩:∃q,m+3+8=q:=⟨_,rfl⟩;rw[LZ]at A7U;refine dN ?_;refine AW.seq λN4 CF=>?_;refine dN ?_;apply AW.block;refine AI (λG2 Be=>?_);dsimp only at Be
  have AC0:∀i,i<b1->G2 i=G1 i:=λi i1=>by rw[<-Be];simp(disch:=omega)only[A1]
  have AC1:G2 b1=some []:=by rw[<-Be,LZ];simp(disch:=omega)only[A4]
  refine A8 (α:=Nat×HP×AV×List AV) (λx=>sl 46 [(2,.q nx 0),(3,.i .i64 os.length),(4,.q (nx+7) 0),(5,.i .i64 k),(6,x.2.2.1),(7,.i .i64 ((k+1+x.1:Nat):Int))]) (λx=>x.2.1) (λx m=>(k+1+x.1<=os.length/\b1<=m)/\(∀i,i<b1->x.2.1 i=G1 i)/\gN b1 m x.2.1 x.2.2.1 x.2.2.2 (((zY os.length k).map ints).take x.1)) (λx=>os.length-x.1) ((0,G2,.h b1 0 0,[])) ?_ ?_ (λ_ _ h=>h) ?_
  ·exact⟨⟨A9,A9⟩,AC0,by simpa using gN.empty AC1 (Nat.le_refl _) A9⟩
  ·simp(disch:=omega) [AN,AO,sl,AR]<;>omega
  skip
  rintro⟨j,H2,L,cl⟩ m2 ⟨⟨hj,LN⟩,QZ,hL⟩;refine AG ?_;dsimp only at hj LN QZ hL ⊢;have MW:=hL.1;have l4:=MW.bd;have MA:=MW.one;have IJ:=MW.len;obtain⟨hLc,hLk⟩:=MW.cells;have JN:=hL.len;rw[List.length_take,List.length_map,VM]at JN;refine AW.seq λN5 DL=>?_;refine dN ?_;refine AW.cond rfl ?_ ?_<;>intro h2<;>try simp only[cn]at h2
  ·have u9:k+1+j<os.length:=A0;have c7:cl.length=j:=A0;apply AW.skip;apply DL;refine AW.seq λN6 FR=>?_;apply AW.block;apply rQ;simp-dsimp-implicitDefEqProofs(maxSteps:=800000) (disch:=omega)only[go_sem,Lu,ints];refine AC.own (LG os.length (k+1+j) A0 A0) (.cons (.refl _) (.cons (.refl _) .nil)) ?_
   intro m3 H3 r3 AC2 W1 hH3 NU;obtain⟨u4,u5,u6⟩:=NU.1.slice;have RW:LC H3 b1 m2 L cl:=MW.AJ (λi i1 i2=>hH3 i A0);have u7:=J6 u5;try simp-dsimp-implicitDefEqProofs(disch:=(first|omega|((repeat refine LC.AT A0 ?_);assumption))) only[go_sem,u4,u5,u6,u7,IJ,c7,BP (a:=b1) (b:=m2) (L:=L) (cs:=cl)]
   apply FR;refine AI (λG3 CB=>?_);dsimp only at CB;apply rQ;simp-dsimp-implicitDefEqProofs(maxSteps:=800000) (disch:=omega)only[go_sem,Lu,ints];refine⟨(j+1,G3,.h (m2+3+5) 0 (j+1),cl++[r3]),?_,λ_ _ h=>h,?_,?_⟩
   ·simp(disch:=omega) [AN,AO,sl,AR,ints,rows,A6,ints,AR,Lu]<;>omega
   ·refine⟨⟨A9,A9⟩,λi hi=>?_,?_⟩
    ·dsimp only;rw[<-CB];simp(disch:=omega)only[A1,AY];rw[hH3 i A0];exact QZ i hi
    dsimp only;rw[Jb u9];have hpu:=hL.push (H':=G3) (id:=m2+3+5) (m':=m3) (NU.1.AJ (λi hi=>by have:=NU.2.2 i hi;rw[<-CB];simp(disch:=omega)only[A1,AY])) NU.2.1 (λi hi=>by have:=NU.2.2 i hi;omega) (by rw[<-CB];simp(disch:=omega)only[A4]) A0 (λhi=>by have:=NU.2.2 _ hi;omega) A0 (λi i1 i2 i3=>by rw[<-CB];simp(disch:=omega)only[A1,AY];exact hH3 i A0);rw[c7]at hpu;exact hpu.AJ (λ_ _ _=>rfl) A9
   first|omega|(simp only;omega)
  have hje:j=os.length-(k+1):=A0;have JT:H2 (nx+7)=some [r0,.h (m+3+5) 0 (k+1),B]:=(QZ _ A0).trans ABX;have AE6:LC H2 (nx+9) m B cb:=A7V.AJ (λi i1 i2=>QZ i A0);rw[List.take_of_length_le (by rw[List.length_map,VM];omega)]at hL;have u7:=J6 MA;apply AW.exit;apply CF;apply rQ;simp-dsimp-implicitDefEqProofs(disch:=(first|omega|((repeat refine LC.AT A0 ?_);assumption))) only[go_sem,ints,Lu,u7,hLc,hLk,MA,JT,zZ,hBl,kF,AY,BP (a:=nx+9) (b:=m) (L:=B) (cs:=cb)];apply BC;refine AI (λG5 EU=>?_);dsimp only at EU;have A2L:G5 (nx+7)=some [r0,.h (m+3+5) 0 (k+1),.h (m2+3+4) 0 (k+1)]:=by rw[<-EU];simp(disch:=omega)only[A4]
  have Jd:G5 (m2+3+4)=some (cb++[L]):=by rw[<-EU];simp(disch:=omega)only[A4,A1]
  have pG:∀i,i<m2->i≠nx+7->bk B≠i+1->G5 i=H2 i:=λi i1 i2 i3=>by rw[<-EU];simp(disch:=omega)only[A1,AY]
  obtain⟨_,A2M,o1,o2,o3⟩:=hL;have Je:EB (nx+9) (m2+12) G5 r0 (.h (m+3+5) 0 (k+1)) (.h (m2+3+4) 0 (k+1)) os ((P3 os.length).take (k+1)) ((KC os.length).take (k+1)):=by
   rw[Jc WE];have:=A7U.Vj (m':=m2+12) (x:=zY os.length k) (r1:=L) (is:=A2M) (H':=G5) (id:=m2+3+4) A7V (by rw[IU];exact o1.AJ (λi hi=>by have:=o3 i hi;exact pG i A0 A0 A0)) o2 (λi hi=>by have:=o3 i hi;omega) Jd A0 (λhi=>by have:=o3 _ hi;omega) A0 (λi i1 i2 i3=>by rw[pG i A0 A0 A0];exact QZ i A0);rwa [kF]at this
  apply rQ;simp-dsimp-implicitDefEqProofs(maxSteps:=800000) (disch:=omega)only[go_sem,Lu,ints];refine⟨(k+1,G5,.h (m+3+5) 0 (k+1),.h (m2+3+4) 0 (k+1),cp++[.h (m+3+3) 0 os.length],cb++[L]),?_,λ_ _ h=>h,?_,?_⟩
  ·simp(disch:=omega) [AN,AO,sl,AR,ints,rows,A6,ints,AR,Lu]<;>omega
  ·refine⟨⟨A9,A9⟩,⟨A2L,?_⟩,Je.AJ (λ_ _ _=>rfl) A9,⟨.mk ?_ (by simp[YL]) A0 A9,by simp[YL]⟩,⟨.mk Jd (by simp[kF]) A0 A9,by simp[kF]⟩,wK oR MW.gO⟩
   ·dsimp only;rw[pG _ A0 A0 A0,QZ _ A0];exact ABZ
   dsimp only;rw[pG _ A0 A0 A0,QZ _ A0];exact A7S
  first|omega|(simp only;omega)
 have S8:k=os.length:=A0
 apply AW.exit;apply B2;refine sQ λN hN=>?_;simp-dsimp-implicitDefEqProofs(maxSteps:=800000) (disch:=omega)only[go_sem,Bool.and_self,Lu,ints,hq,hx,u2,Vs,zZ];apply hN;refine AH ?_;rw[List.take_of_length_le (by rw[aY];omega),List.take_of_length_le (by rw[aX];omega)]at eA
 exact⟨r0,P,B,cp,cb,rfl,TQ.wide (TQ.AJ ⟨eA,qH,W9,oR⟩ (λi i1 i2=>by simp(disch:=omega)only[A1]) (Nat.le_refl _)) A0 A0⟩
theorem VN(os:List Int)(hn:os.length<=1000):gE Tryz.prog 174 [ints os] (AP os (P3 os.length) (KC os.length)):=λnx=>(I5 os hn nx).mono (by
  rintro BB H' r ⟨r0,P,B,cp,cb,rfl,h⟩;exact h.1.own)
end Go.Proofs.YtgknbnkmilddhaaGreat
