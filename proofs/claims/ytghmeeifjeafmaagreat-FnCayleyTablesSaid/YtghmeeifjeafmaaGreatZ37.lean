import Derived.Test.YtghmeeifjeafmaaGreatZ27
import Derived.Test.YtghmeeifjeafmaaGreatZ29
import Derived.Test.YtghmeeifjeafmaaGreatZ30
import Derived.Test.YtghmeeifjeafmaaGreatZ31
import Derived.Test.YtghmeeifjeafmaaGreatZ32
import Derived.Test.YtghmeeifjeafmaaGreatZ36
set_option linter.unusedVariables false
set_option linter.unusedSimpArgs false
namespace Go.Proofs.YtghmeeifjeafmaaGreat
def Ww(r:AV):Prop:=∃os X Y,r=A8 os X Y∧AI os X Y
theorem P0.GX{N:Nat}{os:List Int}{X:List (List Int)}{Y:List (List (List Int))}(h:P0 N os X Y)(hN:N≤1000):Go.Proofs.YtghmeeifjeafmaaGreat.GX os X Y:=by
  obtain⟨o,p,c,r,pl,cl,ob⟩:=h;have Cf:∀k,(Y.getD k []).length≤1000:=fun k=>by
    by_cases hk:k<os.length
    · have:=r k hk;omega
    rw[List.getD_eq_getElem?_getD,List.getElem?_eq_none (by omega)];simp
  refine⟨by omega,MY.of ⟨by omega,fun x hx=>by have:=pl x hx;omega⟩ ⟨by omega,fun y hy=>⟨?_,fun x hx=>by have:=cl y hy x hx;omega⟩⟩⟩;obtain⟨k,hk,rfl⟩:=List.mem_iff_getElem.1 hy;have:=Cf k;simp[hk]at this;omega
theorem fT:AI [2] (L2 [(2:Int)].length) (HY [(2:Int)].length):=VT (s:=([2],L2 1,HY 1)) (by kernel_rfl)
theorem mkG{N:St→Prop}{C:Nat→HP→AV→List Int→List (List Int)→List (List (List Int))→Prop}{S:Nat→HP→AV→List Int→List (List Int)→List (List (List Int))→St}{G:Prop}(h1:(∀m H r o X Y,C m H r o X Y→N (S m H r o X Y))→G)(h2:∀m H r o X Y,C m H r o X Y→N (S m H r o X Y)):G:=h1 h2
set_option maxHeartbeats 4000000 in
theorem SX{bs:List Int}{AT:Nat}{H:HP}(hg:AY bs AT H)(mU:Int)(nx:Nat)(J6:AT<nx):AC Tryz.prog 75 nx H [.q AT 0,.i .i64 mU] (fun nx' H' r=>∃r2,Fz H' (GH nx H') r r2∧Ww r2∧AY bs AT H'∧∀i,i<nx→i≠AT→H' i=H i):=by
 refine AC.C2 A9 Tryz.func75 rfl (by kernel_rfl) Tryz.ntmps75 Tryz.results75 (fun C7 cX=>?_)
 refine sQ fun N hN=>?_;simp-dsimp-implicitDefEqProofs(disch:=omega)only[go_sem,A8];apply hN;refine AW.seq fun N1 BC=>?_;refine AW.BD (fun G0 CT=>?_);dsimp only at CT
 have hl:∀i,i<nx→i≠AT→G0 i=H i:=fun i hi _=>by rw[←CT,A0 _ _ (by omega)]
 have h0:G0 nx=some [.nl,.nl,.nl]:=by rw[←CT,A1]
 replace hg:AY bs AT G0:=hg.AD (by rw[←CT,A0 _ _ (by omega)])
 clear CT
 simp-dsimp-implicitDefEqProofs(disch:=omega)only[go_sem];refine sQ fun N hN=>?_;simp-dsimp-implicitDefEqProofs(disch:=omega)only[go_sem,A8];apply hN;apply AW.block;refine AW.AF (α:=Nat×HP) (fun x=>sl 32 [(0,.q AT 0),(1,.i .i64 mU),(4,.q nx 0),(5,.i .i64 x.1)]) (fun x=>x.2) (fun x m=>(x.1≤12∧nx+1≤m)∧AY bs AT x.2∧(∀i,i<nx→i≠AT→x.2 i=H i)∧x.2 nx=some [.nl,.nl,.nl]) (fun x=>12-x.1) ((0,G0)) ?_ ?_ (fun _ _ h=>h) ?_
 ·exact⟨⟨by simp,by first|omega|(dsimp only;omega)⟩,hg,hl,h0⟩
 ·simp(disch:=omega) [AO,AQ,sl,AJ,ints,rows,A4,AJ,A8]<;>omega
 skip
 rintro⟨k,G⟩ m ⟨⟨hk,hm⟩,hg,hl,h0⟩
 simp-dsimp-implicitDefEqProofs(disch:=omega)only[go_sem];dsimp only at hk hm hg hl h0 ⊢
 refine AW.seq fun N2 BM=>?_;refine sQ fun N hN=>?_;simp-dsimp-implicitDefEqProofs(disch:=omega)only[go_sem,A8];apply hN;refine AW.cond rfl ?_ ?_<;>intro h1
 ·try simp only[cn]at h1
  apply AW.skip;apply BM;refine AW.seq fun N3 BQ=>?_;apply AW.block;refine sQ fun N hN=>?_;simp-dsimp-implicitDefEqProofs(disch:=omega)only[go_sem,A8];refine(JY hg _ (by omega)).AG ?_
  rintro m1 H1 r1 MW ⟨⟨os,X,Y,rfl,FY⟩,JZ,RW⟩;try simp-dsimp-implicitDefEqProofs(disch:=omega)only[go_sem,A8]
  apply hN;refine AW.seq fun N4 CG=>?_;refine AW.BD (fun G1 F0=>?_);dsimp only at F0
  have HR:∀i,i<nx→i≠AT→G1 i=H i:=fun i hi AL=>by rw[←F0,A0 _ _ (by omega),RW i (by omega) AL];exact hl i hi AL
  have kG:G1 nx=some [.nl,.nl,.nl]:=by rw[←F0,A0 _ _ (by omega),RW nx (by omega) (by omega)];exact h0
  have MX:G1 (m+2+2)=some [ints os,rows X,A4 Y]:=by rw[←F0,A1]
  have n6:AY bs AT G1:=JZ.AD (by rw[←F0,A0 _ _ (by omega)]);obtain⟨bx,fN⟩:∃bx,m+2+2=bx:=⟨_,rfl⟩;rw[fN]at MX ⊢;simp-dsimp-implicitDefEqProofs(disch:=omega)only[go_sem];refine sQ fun N hN=>?_;simp-dsimp-implicitDefEqProofs(disch:=omega)only[go_sem,A8];refine(AK n6 3 (by omega) _).AG ?_
  rintro m2 H2 r2 TI ⟨⟨x2,rfl,iQ⟩,LA,EX⟩;have ME:∀i,i<nx→i≠AT→H2 i=H i:=fun i hi AL=>(EX i (by omega) AL).trans (HR i hi AL)
  have ZR:=(EX nx (by omega) (by omega)).trans kG;have LF:=(EX bx (by omega) (by omega)).trans MX;try simp-dsimp-implicitDefEqProofs(disch:=omega)only[go_sem,A8]
  apply hN;refine AW.cond rfl ?_ ?_<;>intro h2
  ·try simp only[cn]at h2
   refine AW.name fun N hN=>?_;apply mkG (N:=N)
   ·intro key;refine AW.KX A9 (by kernel_rfl) [false,true,false,false,false] (.br 0 (.br 2 (.br 3 (.br 4 .nil .nil) .nil) .nil) (.br 2 (.br 0 (.br 3 (.br 4 .nil .nil) .nil) .nil) .nil)) (by kernel_rfl) ?_;simp-dsimp-implicitDefEqProofs(disch:=omega)only[go_sem,A8];rw[LF];try simp-dsimp-implicitDefEqProofs(disch:=omega)only[go_sem,A8]
    refine⟨?_,?_⟩;all_goals
     refine(JY LA _ (by omega)).AG ?_;rintro m3 H3 r3 S9 ⟨⟨Ah,X3,Y3,rfl,A2Y⟩,KS,O3⟩;have O6:=(O3 bx (by omega) (by omega)).trans LF;try simp-dsimp-implicitDefEqProofs(disch:=omega)only[go_sem,A8,O6]
     refine(VN os Ah X X3 Y Y3 FY A2Y _ _).AG ?_;rintro m4 H4 r4 sS ⟨⟨mI,X4,Y4,rfl,Ai⟩,WW⟩;have cL:=(WW bx (by omega)).trans O6;try simp-dsimp-implicitDefEqProofs(disch:=omega)only[go_sem,A8,cL]
     have J7:∀i,i<m2→i≠AT→H4 i=H2 i:=fun i hi AL=>(WW i (by omega)).trans (O3 i (by omega) AL)
     generalize (AV.g [ints Ah,rows X3,A4 Y3])=r9
     exact key m4 H4 r9 mI X4 Y4 (And.intro (show m2+5≤m4 by omega) (And.intro Ai (And.intro (KS.AD (WW AT (by omega))) J7)))
   intro m4 H4 r4 mI X4 Y4 hC;obtain⟨sS,Ai,ZS,WW⟩:=hC;apply hN;apply CG;refine AW.BD (fun G7 RS=>?_);dsimp only at RS;obtain⟨Li,X7,Y7,hs7,NW,WH,fU,fW⟩:∃os X Y,P0 24 os X Y∧G7 bx=some [ints os,rows X,A4 Y]∧AY bs AT G7∧(∀i,i<nx→i≠AT→G7 i=H i)∧G7 nx=some [.nl,.nl,.nl]:=by
    first
    |exact⟨mI,X4,Y4,Ai,by rw[←RS,A1],ZS.AD (by rw[←RS,A0 _ _ (by omega)]),fun i hi AL=>by rw[←RS,A0 _ _ (by omega),WW i (by omega) AL];exact ME i hi AL,by rw[←RS,A0 _ _ (by omega),WW nx (by omega) (by omega)];exact ZR⟩
    |exact⟨os,X,Y,FY.more (by omega),by rw[←RS];exact LF,by rw[←RS];exact LA,fun i hi AL=>by rw[←RS];exact ME i hi AL,by rw[←RS];exact ZR⟩
   simp-dsimp-implicitDefEqProofs(disch:=omega)only[go_sem];refine sQ fun N hN=>?_;simp-dsimp-implicitDefEqProofs(disch:=omega)only[go_sem,A8,NW];refine AC.pure (.of (D5 Li X7 Y7 (hs7.GX (by omega)))) ?_;try simp-dsimp-implicitDefEqProofs(disch:=omega)only[go_sem,A8]
   refine C9.mk' (fun h3=>?_) (fun h3=>?_)
   ·(try simp only[cn]at h3);try simp-dsimp-implicitDefEqProofs(disch:=omega)only[go_sem,A8,NW]
    (try simp-dsimp-implicitDefEqProofs(disch:=omega)only[go_sem,A8]);refine AC.pure (.of (E1 Li h3.1.1 h3.2.1)) ?_;try simp-dsimp-implicitDefEqProofs(disch:=omega)only[go_sem,A8]
    apply hN;refine AW.cond rfl ?_ ?_<;>intro h4
    ·(try simp only[cn]at h4);refine sQ fun N hN=>?_;simp-dsimp-implicitDefEqProofs(disch:=omega)only[go_sem,A8,NW,fW];apply hN;apply AW.ret;simp-dsimp-implicitDefEqProofs(disch:=omega)only[go_sem];exact⟨_,fun _ _ h=>h,_,.refl _,⟨Li,X7,Y7,rfl,h3⟩,WH.AD (A0 _ _ (by omega)),fun i hi AL=>(A0 _ _ (by omega)).trans (fU i hi AL)⟩
    (try simp only[cn]at h4);apply AW.skip;apply BQ;apply rQ;simp-dsimp-implicitDefEqProofs(disch:=omega)only[go_sem,A8];refine⟨(k+1,G7),?_,fun _ _ h=>h,?_,?_⟩
    ·simp(disch:=omega) [AO,AQ,sl,AJ,ints,rows,A4,AJ,A8]<;>omega
    ·first|exact⟨⟨by first|omega|(dsimp only;omega),by first|omega|(dsimp only;omega)⟩,WH,fU,fW⟩|exact⟨by first|omega|(dsimp only;omega),WH,fU,fW⟩
    first|omega|(simp only;omega)
   try simp only[cn]at h3
   try simp-dsimp-implicitDefEqProofs(disch:=omega)only[go_sem,A8]
   apply hN;refine AW.C8 rfl ?_;apply AW.skip;apply BQ;apply rQ;simp-dsimp-implicitDefEqProofs(disch:=omega)only[go_sem,A8];refine⟨(k+1,G7),?_,fun _ _ h=>h,?_,?_⟩
   ·simp(disch:=omega) [AO,AQ,sl,AJ,ints,rows,A4,AJ,A8]<;>omega
   ·first|exact⟨⟨by first|omega|(dsimp only;omega),by first|omega|(dsimp only;omega)⟩,WH,fU,fW⟩|exact⟨by first|omega|(dsimp only;omega),WH,fU,fW⟩
   first|omega|(simp only;omega)
  try simp only[cn]at h2
  apply AW.skip;apply CG;refine AW.BD (fun G7 RS=>?_);dsimp only at RS;obtain⟨Li,X7,Y7,hs7,NW,WH,fU,fW⟩:∃os X Y,P0 24 os X Y∧G7 bx=some [ints os,rows X,A4 Y]∧AY bs AT G7∧(∀i,i<nx→i≠AT→G7 i=H i)∧G7 nx=some [.nl,.nl,.nl]:=by
   first
   |exact⟨mI,X4,Y4,Ai,by rw[←RS,A1],ZS.AD (by rw[←RS,A0 _ _ (by omega)]),fun i hi AL=>by rw[←RS,A0 _ _ (by omega),WW i (by omega) AL];exact ME i hi AL,by rw[←RS,A0 _ _ (by omega),WW nx (by omega) (by omega)];exact ZR⟩
   |exact⟨os,X,Y,FY.more (by omega),by rw[←RS];exact LF,by rw[←RS];exact LA,fun i hi AL=>by rw[←RS];exact ME i hi AL,by rw[←RS];exact ZR⟩
  simp-dsimp-implicitDefEqProofs(disch:=omega)only[go_sem];refine sQ fun N hN=>?_;simp-dsimp-implicitDefEqProofs(disch:=omega)only[go_sem,A8,NW];refine AC.pure (.of (D5 Li X7 Y7 (hs7.GX (by omega)))) ?_;try simp-dsimp-implicitDefEqProofs(disch:=omega)only[go_sem,A8]
  refine C9.mk' (fun h5=>?_) (fun h5=>?_)
  ·try simp only[cn]at h5
   try simp-dsimp-implicitDefEqProofs(disch:=omega)only[go_sem,A8,NW]
   try simp-dsimp-implicitDefEqProofs(disch:=omega)only[go_sem,A8]
   refine AC.pure (.of (E1 Li h5.1.1 h5.2.1)) ?_;try simp-dsimp-implicitDefEqProofs(disch:=omega)only[go_sem,A8]
   apply hN;refine AW.cond rfl ?_ ?_<;>intro h6
   ·(try simp only[cn]at h6);refine sQ fun N hN=>?_;simp-dsimp-implicitDefEqProofs(disch:=omega)only[go_sem,A8,NW,fW];apply hN;apply AW.ret;simp-dsimp-implicitDefEqProofs(disch:=omega)only[go_sem];exact⟨_,fun _ _ h=>h,_,.refl _,⟨Li,X7,Y7,rfl,h5⟩,WH.AD (A0 _ _ (by omega)),fun i hi AL=>(A0 _ _ (by omega)).trans (fU i hi AL)⟩
   try simp only[cn]at h6
   apply AW.skip;apply BQ;apply rQ;simp-dsimp-implicitDefEqProofs(disch:=omega)only[go_sem,A8];refine⟨(k+1,G7),?_,fun _ _ h=>h,?_,?_⟩
   ·simp(disch:=omega) [AO,AQ,sl,AJ,ints,rows,A4,AJ,A8]<;>omega
   ·first|exact⟨⟨by first|omega|(dsimp only;omega),by first|omega|(dsimp only;omega)⟩,WH,fU,fW⟩|exact⟨by first|omega|(dsimp only;omega),WH,fU,fW⟩
   first|omega|(simp only;omega)
  try simp only[cn]at h5
  try simp-dsimp-implicitDefEqProofs(disch:=omega)only[go_sem,A8]
  apply hN;refine AW.C8 rfl ?_;apply AW.skip;apply BQ;apply rQ;simp-dsimp-implicitDefEqProofs(disch:=omega)only[go_sem,A8];refine⟨(k+1,G7),?_,fun _ _ h=>h,?_,?_⟩
  ·simp(disch:=omega) [AO,AQ,sl,AJ,ints,rows,A4,AJ,A8]<;>omega
  ·first|exact⟨⟨by first|omega|(dsimp only;omega),by first|omega|(dsimp only;omega)⟩,WH,fU,fW⟩|exact⟨by first|omega|(dsimp only;omega),WH,fU,fW⟩
  first|omega|(simp only;omega)
 try simp only[cn]at h1
 apply AW.exit;apply BC;refine sQ fun N hN=>?_;simp-dsimp-implicitDefEqProofs(disch:=omega)only[go_sem,A8];refine(BU [2] (by simp) _ (.cons (RP (os:=[2]) (A1 _ _ _) rfl) .nil)).AG ?_
 intro m9 H9 r9 WA YU
 obtain⟨P,B,bc,rfl,K1,K3,tI,C4⟩:=FD.start (N:=12) (bx:=nx) YU (by simp) (by omega) (fun x hx=>by simp at hx;omega) (by omega)
 have h09:=(tI nx (by omega)).trans ((A0 _ _ (by omega)).trans h0)
 have O8:AY bs AT H9:=hg.AD ((tI AT (by omega)).trans (A0 _ _ (by omega)))
 have Zi:∀i,i<nx→i≠AT→H9 i=H i:=fun i hi AL=>(tI i (by omega)).trans ((A0 _ _ (by omega)).trans (hl i hi AL))
 try simp-dsimp-implicitDefEqProofs(disch:=omega)only[go_sem,K1,K3,ints,Bool.and_true,h09]
 apply hN;apply AW.ret;simp-dsimp-implicitDefEqProofs(disch:=omega)only[go_sem];exact⟨_,fun _ _ h=>h,_,C4.fz (fun _ _=>rfl) (by omega),⟨[2],_,_,rfl,fT⟩,O8.AD (A0 _ _ (by omega)),fun i hi AL=>(A0 _ _ (by omega)).trans (Zi i hi AL)⟩
theorem SY{bs:List Int}{AT:Nat}{H:HP}(hg:AY bs AT H)(mU:Int)(nx:Nat)(J6:AT<nx):AC Tryz.prog 75 nx H [.q AT 0,.i .i64 mU] (sK bs AT nx H Ww):=AC.zs J6 (SX hg mU nx J6)
theorem DH.ids{a m:Nat}{H:HP}{r P B:AV}{os:List Int}{X:List (List Int)}{Y:List (List (List Int))}(h:DH a m H r P B os X Y):
    ∃Z ids,Own a m H (.g [r,P,B]) Z ids∧∀H',(∀i∈ids,H' i=H i)→DH a m H' r P B os X Y:=by
  obtain⟨i0,i1,i2,⟨h0,h1,h2⟩,CY,WG⟩:=h;exact⟨_,i0++(i1++(i2++[])),⟨.g _ _ _ (.cons _ _ _ _ _ _ h0 (.cons _ _ _ _ _ _ h1 (.cons _ _ _ _ _ _ h2 .nil))),by simpa using CY,by simpa using WG⟩,fun H' hk=>
    ⟨i0,i1,i2,⟨h0.AD fun i hi=>hk i (by simp[hi]),h1.AD fun i hi=>hk i (by simp[hi]),h2.AD fun i hi=>hk i (by simp[hi])⟩,CY,WG⟩⟩
theorem O9(os:List Int)(X:List (List Int))(Y:List (List (List Int)))(h0:os.length≤1048576)(h1:B6 X)(h2:E9 Y)(nx:Nat){H:HP}{xs:List AV}(hv:WK H xs [A8 os X Y]):AC Tryz.prog 64 nx H xs (fun nx' H' r=>∃r0 P B,r= .g [r0,P,B]∧DH nx nx' H' r0 P B os X Y∧WZ r0=true∧∀i,i<nx→H' i=H i):=by
  refine(AC.s7 ((O5 os X Y h0 h1 h2 nx).mono (Q':=fun nx' H' r=>∃r0 P B,r= .g [r0,P,B]∧DH nx nx' H' r0 P B os X Y∧WZ r0=true) fun nx' H' r ⟨r0,P,B,cp,cb,e,hW,hi⟩=>⟨r0,P,B,e,hW.1,hi⟩) (fun n H0 r ⟨r0,P,B,e,hW,hi⟩=>?_) hv).mono fun nx' H' r ⟨⟨r0,P,B,e,hW,hi⟩,CK⟩=>⟨r0,P,B,e,hW,hi,CK⟩
  obtain⟨Z,ids,ho,hk⟩:=hW.ids;exact⟨Z,ids,by rw[e];exact ho,fun H' EX=>⟨r0,P,B,e,hk H' EX,hi⟩⟩
open Classical in

theorem DH.fz0{a m:Nat}{H:HP}{r P B:AV}{os:List Int}{X:List (List Int)}{Y:List (List (List Int))}(h:DH a m H r P B os X Y):
    ∃H2,L7 H H2∧Fz H H2 (.g [r,P,B]) (.g [ints os,P,B])∧DH a m H2 .nl P B [] X Y∧∀j,(j<a∨m≤j)→H2 j=H j:=by
  obtain⟨i0,i1,i2,⟨h0,h1,h2⟩,h3,h4⟩:=h;obtain⟨H2,MB⟩:∃H2:HP,H2=fun j=>if j∈i0 then none else H j:=⟨_,rfl⟩
  have z0:∀i∈i0,H2 i=none:=fun i hi=>by rw[MB];simp[hi]
  have z1:∀i,i∉i0→H2 i=H i:=fun i hi=>by rw[MB];simp[hi]
  simp only[List.nodup_append,List.mem_append]at h3;refine⟨H2,fun i CX hi=>?_,?_,⟨[],i1,i2,⟨.nl,h1.AD fun i hi=>z1 i (by grind),h2.AD fun i hi=>z1 i (by grind)⟩,by simp only[List.nil_append,List.nodup_append];grind,fun i hi=>h4 i (by simp only[List.nil_append,List.mem_append]at hi ⊢;exact .inr hi)⟩,fun j hj=>z1 j fun hm=>by have:=h4 j (by simp[hm]);omega⟩
  · by_cases e:i∈i0
    · rw[z0 i e]at hi;cases hi
    · rw[z1 i e]at hi;exact⟨CX,hi,rfl,fun k x y hx hy=>by rw[hx]at hy;cases hy;exact .refl _⟩
  · refine .g _ _ rfl fun k x y hx hy=>?_
    match k,hx,hy with
    |0,hx,hy=>cases hx;cases hy;exact h0.ML z0
    |1,hx,hy=>cases hx;cases hy;exact .refl _
    |2,hx,hy=>cases hx;cases hy;exact .refl _
theorem XC(os:List Int)(X:List (List Int))(Y:List (List (List Int)))(h0:os.length≤1048576)(h1:B6 X)(h2:E9 Y)(nx:Nat){H:HP}{xs:List AV}(hv:WK H xs [A8 os X Y]):AC Tryz.prog 64 nx H xs (fun nx' H' r=>∃P B,r= .g [ints os,P,B]∧DH nx nx' H' .nl P B [] X Y∧∀i,i<nx→H' i=H i):=by
  refine(O9 os X Y h0 h1 h2 nx hv).Up fun nx' H' r ⟨r0,P,B,e,hW,hi,CK⟩=>?_
  obtain⟨H2,g1,g2,g3,g4⟩:=hW.fz0;exact⟨H2,_,g1,by rw[e];exact g2,P,B,rfl,g3,fun i hi=>(g4 i (.inl hi)).trans (CK i hi)⟩
theorem DH.fz2{a m n:Nat}{H:HP}{P B:AV}{os:List Int}{X:List (List Int)}{Y:List (List (List Int))}(h:DH a m H .nl P B [] X Y)(hn:n≤a):Fz H (GH n H) (.g [ints os,P,B]) (A8 os X Y):=by
  obtain⟨i0,i1,i2,⟨h0,h1,h2⟩,h3,h4⟩:=h;have hz:∀i∈i0++(i1++i2),GH n H i=none:=fun i hi=>KR (by have:=h4 i hi;omega)
  refine .g _ _ rfl fun k x y hx hy=>?_
  match k,hx,hy with
  |0,hx,hy=>cases hx;cases hy;exact .refl _
  |1,hx,hy=>cases hx;cases hy;exact h1.ML fun i hi=>hz i (by simp[hi])
  |2,hx,hy=>cases hx;cases hy;exact h2.ML fun i hi=>hz i (by simp[hi])
structure QI(os:List Int)(X:List (List Int))(Y:List (List (List Int))):Prop where
  o:os.length≤8
  p:B6 X
  c:E9 Y
  b:∀x∈os,-1000≤x∧x≤1000
def fX(r:AV):Prop:=∃os X Y,r=A8 os X Y∧QI os X Y
theorem QI.pl{os:List Int}{X:List (List Int)}{Y:List (List (List Int))}(h:QI os X Y):GX os X Y:=⟨by have:=h.o;omega,MY.of h.p h.c⟩
theorem P0.Nq{N:Nat}{os:List Int}{X:List (List Int)}{Y:List (List (List Int))}(h:P0 N os X Y)(hN:N≤1000)(h8:os.length≤8):QI os X Y:=by
  obtain⟨o,p,c,r,pl,cl,ob⟩:=h;have Cf:∀k,(Y.getD k []).length≤1000:=fun k=>by
    by_cases hk:k<os.length
    · have:=r k hk;omega
    rw[List.getD_eq_getElem?_getD,List.getElem?_eq_none (by omega)];simp
  refine⟨h8,⟨by omega,fun x hx=>by have:=pl x hx;omega⟩,⟨by omega,fun y hy=>⟨?_,fun x hx=>by have:=cl y hy x hx;omega⟩⟩,ob⟩;obtain⟨k,hk,rfl⟩:=List.mem_iff_getElem.1 hy;have:=Cf k;simp[hk]at this;omega
theorem AI.Nq{os:List Int}{X:List (List Int)}{Y:List (List (List Int))}(h:AI os X Y):QI os X Y:=h.shB.Nq (by omega) (by have:=h.1.1;omega)
theorem B6.row{W:List (List Int)}(h:B6 W)(k:Nat):(W.getD k []).length≤1048576:=F7 (p:=fun x:List Int=>x.length≤1048576) h.v (by simp) k
theorem E9.row{W:List (List (List Int))}(h:E9 W)(k:Nat):B6 (W.getD k []):=F7 (p:=B6) h.v .nil k
end Go.Proofs.YtghmeeifjeafmaaGreat
namespace Go.Proofs.YtghmeeifjeafmaaGreat
def LS(sz:Nat)(H:HP)(a b:Nat)(L:AV)(n:Nat)(cs:List AV):Prop:=(L= .nl∧n=0∧cs=[])∨∃id,L= .hs sz id 0 n∧H id=some cs∧cs.length=n*sz∧a≤id∧id<b
section
variable{sz:Nat}{H H':HP}{a b:Nat}{L:AV}{n:Nat}{cs:List AV}
theorem LS.AD(h:LS sz H a b L n cs)(hk:∀i,a≤i→i<b→H' i=H i):LS sz H' a b L n cs:=by
  rcases h with h|⟨id,h1,h2,h3,h4,h5⟩
  · exact .inl h
  exact .inr ⟨id,h1,(hk id h4 h5).trans h2,h3,h4,h5⟩
end
section
variable(os:List Int)(pw:List (List Int))(cj:List (List (List Int)))(ot:List Int)(qw:List (List Int))(dj:List (List (List Int)))
omit os pw cj qw dj in
theorem fY{ot:List Int}{xs:List (List Int)}(h:OR ot xs)(h1:xs.length≤1000)(h2:ot.length≤1000):B6 xs:=⟨by omega,fun x hx=>by
  obtain⟨k,hk,rfl⟩:=List.mem_iff_getElem.1 hx;have:=(h k hk).1;rw[List.getD_eq_getElem?_getD,List.getElem?_eq_getElem hk]at this;simp at this;omega⟩
end
end Go.Proofs.YtghmeeifjeafmaaGreat
namespace Go.Proofs.YtghmeeifjeafmaaGreat
theorem fZ{H H':HP}{q z:Nat}{c:Option (List AV)}(h:H' z=H z):AU H' q c z=AU H q c z:=by
  by_cases e:z=q
  · subst e;rw[A1,A1]
  rw[A0 _ _ e,A0 _ _ e];exact h
theorem SZ{Γ:BV}{P:Program}{b:Nat}{ops:List Oper}{t:Tr}{s:St}{K:St→Prop}(t':Tr){S:St}(h1:ES Γ P b ops t' S K→ES Γ P b ops t s K)(h2:ES Γ P b ops t' S K):ES Γ P b ops t s K:=h1 h2
theorem XD{Γ:BV}{P:Program}{b:Nat}{ops:List Oper}{t:Tr}{s:St}{K:St→Prop}(t':Tr){α:Type}{C:Nat→HP→α→Prop}{S:Nat→HP→α→St}(h1:(∀m H x,C m H x→ES Γ P b ops t' (S m H x) K)→ES Γ P b ops t s K)(h2:∀m H x,C m H x→ES Γ P b ops t' (S m H x) K):ES Γ P b ops t s K:=h1 h2
def Lj:Tr:= .nil
def Zr:Tr:= .br 20 Lj .nil
def tW8:Tr:= .br 18 Zr .nil
def Zs:Tr:= .br 19 Zr .nil
def Zt:Tr:= .br 10 Zs .nil
def tW5:Tr:= .br 18 Zs (.br 19 tW8 .nil)
def Zu:Tr:= .br 9 Zt .nil
def tW3:Tr:= .br 10 tW5 (.br 18 Zt .nil)
def tW2:Tr:= .br 4 Zu .nil
def tW1:Tr:= .br 9 tW3 (.br 18 Zu .nil)
def tW0:Tr:= .br 4 tW1 (.br 18 tW2 .nil)
theorem Lk{N:St→Prop}{α:Type}{C:Nat→HP→α→Prop}{S:Nat→HP→α→St}{G:Prop}(h1:(∀m H x,C m H x→N (S m H x))→G)(h2:∀m H x,C m H x→N (S m H x)):G:=h1 h2
set_option maxHeartbeats 4000000 in
theorem VV{bs:List Int}{AT:Nat}{H:HP}(hg:AY bs AT H)(os:List Int)(X:List (List Int))(Y:List (List (List Int)))(h:AI os X Y)(nx:Nat)(J6:AT<nx):AC Tryz.prog 77 nx H [.q AT 0,A8 os X Y] (fun nx' H' r=>∃r2,Fz H' (GH nx H') r r2∧fX r2∧AY bs AT H'∧∀i,i<nx→i≠AT→H' i=H i):=by
 have hd:=h.Nq
 have J4:=h.1.1
 obtain⟨Cq,nB,mJ,tJ⟩:=id hd
 refine AC.C2 A9 Tryz.func77 rfl (by kernel_rfl) Tryz.ntmps77 Tryz.results77 (fun C7 cX=>?_)
 refine sQ fun N hN=>?_;simp-dsimp-implicitDefEqProofs(maxSteps:=800000) (disch:=omega)only[go_sem,A8];apply hN;refine AW.B5 3 nx [ints os,rows X,A4 Y] rfl (by simp(disch:=omega)only[A0,A1]) ?_
 simp-dsimp-implicitDefEqProofs(maxSteps:=800000) (disch:=omega)only[go_sem];refine sQ fun N hN=>?_;simp-dsimp-implicitDefEqProofs(maxSteps:=800000) (disch:=omega)only[go_sem,A8];refine(XC os X Y (by omega) nB mJ _ (.cons (.refl _) .nil)).AG ?_
 rintro m1 H1 r1 MW ⟨P,B,rfl,VC,CK⟩
 have K1:=VC.JD.2.1
 have K3:=VC.JD.2.2
 try simp-dsimp-implicitDefEqProofs(maxSteps:=800000) (disch:=omega)only[go_sem,A8,K1,K3,ints,Bool.and_true]
 apply hN;refine AW.B5 5 (nx+2+2) _ rfl (A1 _ _ _) ?_
 refine AW.BD (fun G1 F0=>?_);dsimp only at F0
 have HR:∀i,i<nx→i≠AT→G1 i=H i:=fun i hi AL=>by rw[←F0];simp(disch:=omega)only[A0];rw[CK i (by omega)];simp(disch:=omega)only[A0]
 have kG:G1 (nx+1)=some [.nl,.nl,.nl]:=by rw[←F0];simp(disch:=omega)only[A0];rw[CK _ (by omega)];simp(disch:=omega)only[A0,A1]
 have n6:AY bs AT G1:=hg.AD (by rw[←F0];simp(disch:=omega)only[A0];rw[CK _ (by omega)];simp(disch:=omega)only[A0])
 replace VC:DH (nx+2+4) m1 G1 .nl P B [] X Y:=VC.AD (fun i i1 i2=>by rw[←F0];simp(disch:=omega)only[A0]) (Nat.le_refl _)
 simp-dsimp-implicitDefEqProofs(maxSteps:=800000) (disch:=omega)only[go_sem];refine sQ fun N hN=>?_;simp-dsimp-implicitDefEqProofs(maxSteps:=800000) (disch:=omega)only[go_sem,A8];apply hN;refine sQ fun N hN=>?_;simp-dsimp-implicitDefEqProofs(maxSteps:=800000) (disch:=omega)only[go_sem,A8];refine(AK n6 os.length (by omega) _).AG ?_
 rintro m2 H2 r2 TI ⟨⟨x2,rfl,iQ⟩,LA,EX⟩
 obtain⟨i,rfl⟩:=Int.eq_ofNat_of_zero_le iQ.1
 try simp-dsimp-implicitDefEqProofs(maxSteps:=800000) (disch:=omega)only[go_sem,A8]
 apply hN;refine sQ fun N hN=>?_;simp-dsimp-implicitDefEqProofs(maxSteps:=800000) (disch:=omega)only[go_sem,A8];refine(AK LA ((os.length:Int)-1-i) (by omega) _).AG ?_
 rintro m3 H3 r3 S9 ⟨⟨x3,rfl,Wc⟩,KS,O3⟩
 obtain⟨j,hj⟩:∃j:Nat,(i:Int)+1+x3=j:=⟨((i:Int)+1+x3).toNat,by omega⟩
 have hk:∀q,q<m1→q≠AT→H3 q=G1 q:=fun q h1 h2=>(O3 q (by omega) h2).trans (EX q (by omega) h2)
 have NX:DH (nx+2+4) m1 H3 .nl P B [] X Y:=VC.AD (fun q q1 q2=>hk q q2 (by omega)) (Nat.le_refl _)
 have QO:H3 (nx+1)=some [.nl,.nl,.nl]:=(hk _ (by omega) (by omega)).trans kG
 have LJ:∀q,q<nx→q≠AT→H3 q=H q:=fun q h1 h2=>(hk q (by omega) h2).trans (HR q h1 h2)
 try simp-dsimp-implicitDefEqProofs(maxSteps:=800000) (disch:=omega)only[go_sem,hj]
 apply hN;refine AW.seq fun N1 BC=>?_;refine sQ fun N hN=>?_;simp-dsimp-implicitDefEqProofs(maxSteps:=800000) (disch:=omega)only[go_sem,A8];apply hN;refine AW.cond rfl ?_ ?_<;>intro h1
 ·try simp only[cn]at h1
  refine sQ fun N hN=>?_;simp-dsimp-implicitDefEqProofs(maxSteps:=800000) (disch:=omega)only[go_sem,A8,K1,K3,QO,ints,Bool.and_true];apply hN;apply AW.ret;simp-dsimp-implicitDefEqProofs(maxSteps:=800000) (disch:=omega)only[go_sem];exact⟨_,fun _ _ h=>h,_,(NX.AD (fun q q1 q2=>A0 _ _ (by omega)) (Nat.le_refl _)).fz2 (by omega),⟨os,X,Y,rfl,hd⟩,KS.AD (A0 _ _ (by omega)),fun q hq AL=>(A0 _ _ (by omega)).trans (LJ q hq AL)⟩
 try simp only[cn]at h1
 have hi:i<os.length:=by omega
 have uB:j<os.length:=by omega
 have hod:=tJ (os.getD j 0) (by rw[List.getD_eq_getElem?_getD,List.getElem?_eq_getElem uB];exact List.getElem_mem _)
 obtain⟨⟨q1,q2,q3⟩,q4,q5,q6⟩:=id h
 have WD:=(q6 i hi).1.1
 have Sh:=(q6 i hi).2.1
 have hr3:=fun e he=>((q6 i hi).2.2 e he).1
 apply AW.skip;apply BC;refine AW.seq fun N2 BM=>?_;refine sQ fun N hN=>?_;simp-dsimp-implicitDefEqProofs(maxSteps:=800000) (disch:=omega)only[go_sem,A8];refine(AK KS 3 (by omega) _).AG ?_
 rintro m4 H4 r4 sS ⟨⟨x4,rfl,hx4⟩,ZS,WW⟩
 have Wx:DH (nx+2+4) m1 H4 .nl P B [] X Y:=NX.AD (fun q q1 q2=>WW q (by omega) (by omega)) (Nat.le_refl _)
 have Zp:H4 (nx+1)=some [.nl,.nl,.nl]:=(WW _ (by omega) (by omega)).trans QO
 have dM:∀q,q<nx→q≠AT→H4 q=H q:=fun q h1 h2=>(WW q (by omega) h2).trans (LJ q h1 h2)
 try simp-dsimp-implicitDefEqProofs(maxSteps:=800000) (disch:=omega)only[go_sem,A8]
 apply hN;refine AW.cond rfl ?_ ?_<;>intro h2
 ·try simp only[cn]at h2
  obtain⟨p,rs,q,rfl,hp,I3,VW,hq,mX,Cd,hpq,DT⟩:=Wx.sV (k:=i) (l:=j) (by omega) (by omega);refine AW.seq fun N hN=>?_;apply Lk (N:=N)
  ·intro key;refine AW.KX A9 (by kernel_rfl) [true,true,true,true,false,true,true,true,true,true,true,true,false,false,false] (.br 4 (.br 12 (.br 13 (.br 14 .nil .nil) .nil) (.br 13 (.br 12 (.br 14 .nil .nil) .nil) .nil)) (.br 12 (.br 4 (.br 13 (.br 14 .nil .nil) .nil) .nil) .nil)) (by kernel_rfl) ?_;simp-dsimp-implicitDefEqProofs(maxSteps:=800000) (disch:=omega)only[go_sem,A8,hp,I3,VW,hq,A6,ints];refine⟨⟨?_,?_⟩,?_⟩;all_goals
    refine(AK ZS (os.getD j 0) (by omega) _).AG ?_;rintro m5 H5 r5 uI ⟨⟨x5,rfl,We⟩,fR,J7⟩;have Aj:=(J7 p (by omega) (by omega)).trans hp;have hq5:=(J7 q (by omega) (by omega)).trans hq;try simp-dsimp-implicitDefEqProofs(maxSteps:=800000) (disch:=omega)only[go_sem,Aj,hq5,I3,VW,List.length_map]
    exact key m5 H5 x5 (And.intro uI (And.intro fR J7))
  intro m5 H5 x5 hC;obtain⟨uI,fR,J7⟩:=hC;have h05:H5 (nx+1)=some [.nl,.nl,.nl]:=(J7 _ (by omega) (by omega)).trans Zp;have hl5:∀z,z<nx→z≠AT→H5 z=H z:=fun z h1 h2=>(J7 z (by omega) h2).trans (dM z h1 h2)
  have s5:=(DT x5).AD (H':=AU H5 q (some (B0 ((X.getD i []).map (.i .i64)) j [.i .i64 x5]))) (fun z z1 z2=>fZ (J7 z (by omega) (by omega))) (Nat.le_refl _);apply hN;refine sQ fun N hN=>?_;simp-dsimp-implicitDefEqProofs(maxSteps:=800000) (disch:=omega)only[go_sem,A8,K1,K3,h05,ints,Bool.and_true];apply hN;apply AW.ret;simp-dsimp-implicitDefEqProofs(maxSteps:=800000) (disch:=omega)only[go_sem];exact⟨_,fun _ _ h=>h,_,(s5.AD (fun z z1 z2=>A0 _ _ (by omega)) (Nat.le_refl _)).fz2 (by omega),⟨os,_,Y,rfl,Cq,nB.set (by rw[List.length_set];omega),mJ,tJ⟩,fR.AD ((A0 _ _ (by omega)).trans (A0 _ _ (by omega))),fun z hz AL=>(A0 _ _ (by omega)).trans ((A0 _ _ (by omega)).trans (hl5 z hz AL))⟩
 try simp only[cn]at h2
 apply AW.skip;apply BM;refine sQ fun N hN=>?_;simp-dsimp-implicitDefEqProofs(maxSteps:=800000) (disch:=omega)only[go_sem,A8];refine(AK ZS ((os.length:Int)-1-i) (by omega) _).AG ?_
 rintro m6 H6 r6 Zq ⟨⟨x6,rfl,hx6⟩,fS,VR⟩
 obtain⟨e,rfl⟩:=Int.eq_ofNat_of_zero_le hx6.1
 have n7:e<os.length-1-i:=by omega
 have h06:H6 (nx+1)=some [.nl,.nl,.nl]:=(VR _ (by omega) (by omega)).trans Zp
 have Kt:∀z,z<nx→z≠AT→H6 z=H z:=fun z h1 h2=>(VR z (by omega) h2).trans (dM z h1 h2)
 have A2Z:DH (nx+2+4) m1 H6 .nl P B [] X Y:=Wx.AD (fun q q1 q2=>VR q (by omega) (by omega)) (Nat.le_refl _)
 have he:(i:Int)+1+e-i-1=e:=by omega
 have hr4:=hr3 e (by omega)
 obtain⟨b,bs1,p,rs,q,rfl,hb,L5,IS,hp,I3,VW,hq,HQ,mX,Cd,A4L,DT⟩:=A2Z.Kd (c:=i) (k:=e) (l:=j) (by omega) (by omega) (by omega)
 try simp-dsimp-implicitDefEqProofs(maxSteps:=800000) (disch:=omega)only[go_sem,A8]
 apply hN;refine AW.seq fun N hN=>?_;apply Lk (N:=N)
 ·intro key;refine AW.KX A9 (by kernel_rfl) [true,true,true,true,false,true,true,true,true,false,false,true,true,true,true,true,true,true,false,false,false] (tW0) (by kernel_rfl) ?_;simp-dsimp-implicitDefEqProofs(maxSteps:=800000) (disch:=omega)only[go_sem,A8,hb,L5,IS,hp,I3,VW,hq,A6,ints,he];apply XD Lj (C:=fun m H x=>m6+21≤m∧AY bs AT H∧∀i,i<m6+21→i≠AT→H i=H6 i);intro Wy;apply XD Zr (C:=fun m H x=>m6+21≤m∧AY bs AT H∧∀i,i<m6+21→i≠AT→H i=H6 i);intro Wz;apply SZ tW8;intro A30;apply XD Zs (C:=fun m H x=>m6+21≤m∧AY bs AT H∧∀i,i<m6+21→i≠AT→H i=H6 i);intro Xa;apply XD Zt (C:=fun m H x=>m6+21≤m∧AY bs AT H∧∀i,i<m6+21→i≠AT→H i=H6 i);intro Xb;apply SZ tW5;intro A31;apply XD Zu (C:=fun m H x=>m6+21≤m∧AY bs AT H∧∀i,i<m6+21→i≠AT→H i=H6 i);intro Xc;apply SZ tW3;intro A32;apply XD tW2 (C:=fun m H x=>m6+21≤m∧AY bs AT H∧∀i,i<m6+21→i≠AT→H i=H6 i);intro A33;apply SZ tW1;intro A34
  ·rw[tW0];try simp-dsimp-implicitDefEqProofs(maxSteps:=800000) (disch:=omega)only[go_sem,hb,L5,IS,hp,I3,VW,he,A6,ints]
   repeat' (with_reducible refine And.intro ?_ ?_)
   all_goals try (with_reducible first|exact A34)
   refine(AK fS (os.getD j 0) (by omega) _).AG ?_;rintro m9 H9 r9 WA ⟨⟨x9,rfl,uK⟩,O8,P4⟩;try simp-dsimp-implicitDefEqProofs(maxSteps:=800000) (disch:=omega)only[go_sem,hb,L5,IS,hp,I3,VW,he,A6,ints]
   exact A33 m9 H9 x9 (And.intro WA (And.intro O8 P4))
  ·rw[tW1];try simp-dsimp-implicitDefEqProofs(maxSteps:=800000) (disch:=omega)only[go_sem,hb,L5,IS,hp,I3,VW,he,A6,ints]
   repeat' (with_reducible refine And.intro ?_ ?_)
   all_goals try (with_reducible first|exact A32)
   refine(AK fS (os.getD j 0) (by omega) _).AG ?_;rintro m9 H9 r9 WA ⟨⟨x9,rfl,uK⟩,O8,P4⟩;try simp-dsimp-implicitDefEqProofs(maxSteps:=800000) (disch:=omega)only[go_sem,hb,L5,IS,hp,I3,VW,he,A6,ints]
   exact Xc m9 H9 x9 (And.intro WA (And.intro O8 P4))
  ·intro m9 H9 x9 hC;have NW:=(hC.2.2 b (by omega) (by omega)).trans hb;have tK:=(hC.2.2 p (by omega) (by omega)).trans hp;have tL:=(hC.2.2 q (by omega) (by omega)).trans hq;rw[tW2];try simp-dsimp-implicitDefEqProofs(maxSteps:=800000) (disch:=omega)only[go_sem,NW,tK,tL,L5,IS,I3,VW,he,List.length_map]
   repeat' (with_reducible refine And.intro ?_ ?_)
   all_goals try (with_reducible first|exact Xc m9 H9 x9 hC)
  ·rw[tW3];try simp-dsimp-implicitDefEqProofs(maxSteps:=800000) (disch:=omega)only[go_sem,hb,L5,IS,hp,I3,VW,he,A6,ints]
   repeat' (with_reducible refine And.intro ?_ ?_)
   all_goals try (with_reducible first|exact A31)
   refine(AK fS (os.getD j 0) (by omega) _).AG ?_;rintro m9 H9 r9 WA ⟨⟨x9,rfl,uK⟩,O8,P4⟩;try simp-dsimp-implicitDefEqProofs(maxSteps:=800000) (disch:=omega)only[go_sem,hb,L5,IS,hp,I3,VW,he,A6,ints]
   exact Xb m9 H9 x9 (And.intro WA (And.intro O8 P4))
  ·intro m9 H9 x9 hC;have NW:=(hC.2.2 b (by omega) (by omega)).trans hb;have tK:=(hC.2.2 p (by omega) (by omega)).trans hp;have tL:=(hC.2.2 q (by omega) (by omega)).trans hq;rw[Zu];try simp-dsimp-implicitDefEqProofs(maxSteps:=800000) (disch:=omega)only[go_sem,NW,tK,tL,L5,IS,I3,VW,he,List.length_map]
   repeat' (with_reducible refine And.intro ?_ ?_)
   all_goals try (with_reducible first|exact Xb m9 H9 x9 hC)
  ·rw[tW5];try simp-dsimp-implicitDefEqProofs(maxSteps:=800000) (disch:=omega)only[go_sem,hb,L5,IS,hp,I3,VW,he,A6,ints]
   repeat' (with_reducible refine And.intro ?_ ?_)
   all_goals try (with_reducible first|exact A30)
   refine(AK fS (os.getD j 0) (by omega) _).AG ?_;rintro m9 H9 r9 WA ⟨⟨x9,rfl,uK⟩,O8,P4⟩;try simp-dsimp-implicitDefEqProofs(maxSteps:=800000) (disch:=omega)only[go_sem,hb,L5,IS,hp,I3,VW,he,A6,ints]
   exact Xa m9 H9 x9 (And.intro WA (And.intro O8 P4))
  ·intro m9 H9 x9 hC;have NW:=(hC.2.2 b (by omega) (by omega)).trans hb;have tK:=(hC.2.2 p (by omega) (by omega)).trans hp;have tL:=(hC.2.2 q (by omega) (by omega)).trans hq;rw[Zt];try simp-dsimp-implicitDefEqProofs(maxSteps:=800000) (disch:=omega)only[go_sem,NW,tK,tL,L5,IS,I3,VW,he,List.length_map]
   repeat' (with_reducible refine And.intro ?_ ?_)
   all_goals try (with_reducible first|exact Xa m9 H9 x9 hC)
  ·intro m9 H9 x9 hC;have NW:=(hC.2.2 b (by omega) (by omega)).trans hb;have tK:=(hC.2.2 p (by omega) (by omega)).trans hp;have tL:=(hC.2.2 q (by omega) (by omega)).trans hq;rw[Zs];try simp-dsimp-implicitDefEqProofs(maxSteps:=800000) (disch:=omega)only[go_sem,NW,tK,tL,L5,IS,I3,VW,he,List.length_map]
   repeat' (with_reducible refine And.intro ?_ ?_)
   all_goals try (with_reducible first|exact Wz m9 H9 x9 hC)
  ·rw[tW8];try simp-dsimp-implicitDefEqProofs(maxSteps:=800000) (disch:=omega)only[go_sem,hb,L5,IS,hp,I3,VW,he,A6,ints]
   repeat' (with_reducible refine And.intro ?_ ?_)
   refine(AK fS (os.getD j 0) (by omega) _).AG ?_;rintro m9 H9 r9 WA ⟨⟨x9,rfl,uK⟩,O8,P4⟩;try simp-dsimp-implicitDefEqProofs(maxSteps:=800000) (disch:=omega)only[go_sem,hb,L5,IS,hp,I3,VW,he,A6,ints]
   exact Wz m9 H9 x9 (And.intro WA (And.intro O8 P4))
  ·intro m9 H9 x9 hC;have NW:=(hC.2.2 b (by omega) (by omega)).trans hb;have tK:=(hC.2.2 p (by omega) (by omega)).trans hp;have tL:=(hC.2.2 q (by omega) (by omega)).trans hq;rw[Zr];try simp-dsimp-implicitDefEqProofs(maxSteps:=800000) (disch:=omega)only[go_sem,NW,tK,tL,L5,IS,I3,VW,he,List.length_map]
   repeat' (with_reducible refine And.intro ?_ ?_)
   all_goals try (with_reducible first|exact Wy m9 H9 x9 hC)
  intro m9 H9 x9 hC;have NW:=(hC.2.2 b (by omega) (by omega)).trans hb;have tK:=(hC.2.2 p (by omega) (by omega)).trans hp;have tL:=(hC.2.2 q (by omega) (by omega)).trans hq;rw[Lj];try simp-dsimp-implicitDefEqProofs(maxSteps:=800000) (disch:=omega)only[go_sem,NW,tK,tL,L5,IS,I3,VW,he,List.length_map]
  exact key m9 H9 x9 hC
 intro m7 H7 x7 hC
 obtain⟨Nl,WH,cS⟩:=hC
 have fW:H7 (nx+1)=some [.nl,.nl,.nl]:=(cS _ (by omega) (by omega)).trans h06
 have fU:∀z,z<nx→z≠AT→H7 z=H z:=fun z h1 h2=>(cS z (by omega) h2).trans (Kt z h1 h2)
 have A35:=(DT x7).AD (H':=AU H7 q (some (B0 (((Y.getD i []).getD e []).map (.i .i64)) j [.i .i64 x7]))) (fun z z1 z2=>fZ (cS z (by omega) (by omega))) (Nat.le_refl _)
 apply hN;refine sQ fun N hN=>?_;simp-dsimp-implicitDefEqProofs(maxSteps:=800000) (disch:=omega)only[go_sem,A8,K1,K3,fW,ints,Bool.and_true];apply hN;apply AW.ret;simp-dsimp-implicitDefEqProofs(maxSteps:=800000) (disch:=omega)only[go_sem];exact⟨_,fun _ _ h=>h,_,(A35.AD (fun z z1 z2=>A0 _ _ (by omega)) (Nat.le_refl _)).fz2 (by omega),⟨os,X,_,rfl,Cq,nB,mJ.set ((mJ.row i).set (by rw[List.length_set];omega)),tJ⟩,WH.AD ((A0 _ _ (by omega)).trans (A0 _ _ (by omega))),fun z hz AL=>(A0 _ _ (by omega)).trans ((A0 _ _ (by omega)).trans (fU z hz AL))⟩
theorem MS{bs:List Int}{AT:Nat}{H:HP}(hg:AY bs AT H)(os:List Int)(X:List (List Int))(Y:List (List (List Int)))(h:AI os X Y)(nx:Nat)(J6:AT<nx):AC Tryz.prog 77 nx H [.q AT 0,A8 os X Y] (sK bs AT nx H fX):=AC.zs J6 (VV hg os X Y h nx J6)
end Go.Proofs.YtghmeeifjeafmaaGreat
