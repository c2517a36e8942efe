import Derived.Test.YtghmeeifjeafmaaGreatZ37
set_option linter.unusedVariables false
set_option linter.unusedSimpArgs false
namespace Go.Proofs.YtghmeeifjeafmaaGreat
theorem Cs(a:List Int)(ha:a.length≤1048576)(nx:Nat){H:HP}{xs:List AV}(hv:WK H xs [ints a]):AC Tryz.prog 104 nx H xs (fun nx' H' r=>(∃id,r= .h id 0 a.length∧nx≤id∧id<nx'∧H' id=some (a.map (.i .i64)))∧∀i,i<nx→H' i=H i):=by
  refine AC.s7 ((CB a (by omega) nx BN).mono (Q':=fun nx' H' r=>∃id,r= .h id 0 a.length∧nx≤id∧id<nx'∧H' id=some (a.map (.i .i64))) ?_) (fun n H0 r ⟨id,e,h1,h2,h3⟩=>?_) hv
  · rintro nx' H' r ⟨id,rfl,h1,h2,rfl⟩;exact⟨id,rfl,h1,h2,by rw[A1,KD]⟩
  subst e;exact⟨ints a,[id],Own.ints h3 rfl h1 h2,fun H' hk=>⟨id,rfl,h1,h2,by rw[hk id (by simp)];exact h3⟩⟩
theorem gA(W:List (List Int))(hW:B6 W)(nx:Nat){H:HP}{xs:List AV}(hv:WK H xs [rows W]):AC Tryz.prog 65 nx H xs (fun nx' H' r=>(∃cs,WY nx nx' H' r cs (W.map ints))∧∀i,i<nx→H' i=H i):=by
  refine AC.s7 (D9 W hW nx) (fun n H0 r ⟨cs,JK,ids,h1,h2,h3⟩=>?_) hv;refine⟨_,ids,⟨h1,h2,h3⟩,fun H' hk=>⟨cs,JK.L1 fun i hi=>hk i (h1.Y6 JK hi),ids,h1.AD hk,h2,h3⟩⟩
theorem J8(os:List Int)(hn:os.length≤1000)(nx:Nat){H:HP}{xs:List AV}(hv:WK H xs [ints os]):AC Tryz.prog 118 nx H xs (fun nx' H' r=>(∃r0 P B,r= .g [r0,P,B]∧DH nx nx' H' r0 P B os (L2 os.length) (HY os.length))∧∀i,i<nx→H' i=H i):=by
  refine AC.s7 ((FQ os hn nx).mono (Q':=fun nx' H' r=>∃r0 P B,r= .g [r0,P,B]∧DH nx nx' H' r0 P B os (L2 os.length) (HY os.length)) fun nx' H' r ⟨r0,P,B,cp,cb,e,hW⟩=>⟨r0,P,B,e,hW.1⟩) (fun n H0 r ⟨r0,P,B,e,hW⟩=>?_) hv;obtain⟨Z,ids,ho,hk⟩:=hW.ids;exact⟨Z,ids,by rw[e];exact ho,fun H' EX=>⟨r0,P,B,e,hk H' EX⟩⟩
theorem DH.lcO{a m:Nat}{H:HP}{r P B:AV}{os:List Int}{X:List (List Int)}{Y:List (List (List Int))}(h:DH a m H r P B os X Y)(hi:WZ r=true):LC H a m r (os.map (.i .i64)):=by
  obtain⟨i0,i1,i2,⟨h0,h1,h2⟩,h3,h4⟩:=h;by_cases hp:0<os.length
  · obtain⟨q,rfl,rfl,g⟩:=h0.Vn hp;have:=h4 q (by simp);exact .inr ⟨q,by simp,g,this.1,this.2⟩
  obtain rfl:os=[]:=List.length_eq_zero_iff.1 (by omega);rcases h0.VA 0 [] rfl with ⟨rfl,_⟩|⟨rfl,_⟩|⟨id,cs,CH,rfl,rfl,g1,g2,g3⟩
  · cases hi
  · exact .nil
  have:=h4 id (by simp);obtain rfl:cs=[]:=List.length_eq_zero_iff.1 g2;exact .inr ⟨id,rfl,g1,this.1,this.2⟩
def VX(Γ:BV)(ty:TypeId)(x:AV)(k:AV→Prop):Prop:=PC Γ ty x k
@[congr] theorem Zv {Γ:BV} {ty:TypeId} {x x':AV} {k:AV→Prop} (h:x=x'):VX Γ ty x k=VX Γ ty x' k:=by rw[h]
theorem VY{Γ:BV}{P:Program}{x:Operand}{ty:TypeId}{DV:List TypeId}{dst:Option Nat}{id:Nat}{s:St}{K:St→Prop}:HA Γ P dst (.call ⟨.builtin .len,[x].toArray,(ty::DV).toArray⟩) id s K=VX Γ ty (BK s.t x) fun r=>K ⟨BF s.t dst r,s.H,s.nx⟩:=Bf
theorem ZT{Γ:BV}{ty:TypeId}{H:HP}{L:AV}{n:Nat}{ts:List AV}{ids:List Nat}{k:AV→Prop}(h:Ow H L (.v n ts) ids){e:TE}(dR:Γ ty=some e){el:TypeId}(he:e.d= .slice el):VX Γ ty L k=k (.i .i64 n):=by
  unfold VX PC;rw[dR];dsimp only;rw[he];rcases h.VA _ _ rfl with ⟨rfl,_⟩|⟨rfl,rfl,_⟩|⟨id,cs,CH,rfl,_⟩<;>rfl
theorem DH.lens{a m:Nat}{H:HP}{r P B:AV}{os:List Int}{X:List (List Int)}{Y:List (List (List Int))}(h:DH a m H r P B os X Y):(∀k,VX env 24 r k=k (.i .i64 os.length))∧(∀k,VX env 25 P k=k (.i .i64 X.length))∧∀k,VX env 26 B k=k (.i .i64 Y.length):=by
  obtain⟨i0,i1,i2,⟨h0,h1,h2⟩,h3,h4⟩:=h;exact⟨fun k=>ZT h0 rfl rfl,fun k=>ZT h1 rfl rfl,fun k=>ZT h2 rfl rfl⟩
def kQ(bs:List Int)(AT nx:Nat)(H G:HP)(r P B:AV):Prop:=(one r=true∧one P=true∧one B=true)∧G (nx+1)=some [.nl,.nl,.nl]∧(∃os X Y m,DH (nx+2+4) m G r P B os X Y∧QI os X Y)∧AY bs AT G∧∀z,z<nx→z≠AT→G z=H z
theorem kQ.mk{bs:List Int}{AT nx m:Nat}{H G:HP}{r P B:AV}{os:List Int}{X:List (List Int)}{Y:List (List (List Int))}(h:DH (nx+2+4) m G r P B os X Y)(h0:G (nx+1)=some [.nl,.nl,.nl])(hd:QI os X Y)(hg:AY bs AT G)(hl:∀z,z<nx→z≠AT→G z=H z):kQ bs AT nx H G r P B:=⟨h.JD,h0,⟨os,X,Y,m,h,hd⟩,hg,hl⟩
theorem VZ{bs:List Int}{AT nx:Nat}{H G:HP}{r P B:AV}(h:kQ bs AT nx H G r P B)(hs:AT<nx)(G':HP)(hk:∀z,z≠nx+1→G' z=G z):∃H2,Le H2 G'∧∃r2,Fz H2 (GH nx H2) (.g [r,P,B]) r2∧fX r2∧AY bs AT H2∧∀i,i<nx→¬i=AT→H2 i=H i:=by
  obtain⟨_,h49,⟨os9,X9,Y9,m9,mK,hd9⟩,O8,Zi⟩:=h;exact⟨_,fun _ _ h=>h,_,(mK.AD (fun z z1 z2=>hk z (by omega)) (Nat.le_refl _)).fz (by omega),⟨os9,X9,Y9,rfl,hd9⟩,O8.AD (hk _ (by omega)),fun z hz AL=>(hk _ (by omega)).trans (Zi z hz AL)⟩
theorem DH.A36{a m k:Nat}{H:HP}{r P B:AV}{os:List Int}{X:List (List Int)}{Y:List (List (List Int))}(h:DH a m H r P B os X Y)(hk:k<X.length):∃p rs,P= .h p 0 X.length∧H p=some rs∧rs.length=X.length∧(a≤p∧p<m)∧∀H':HP,(∀i,a≤i→i<m→H' i=H i)→Vw H' (rs.getD k .j) (ints (X.getD k [])):=by
  obtain⟨i0,i1,i2,⟨h0,h1,h2⟩,h3,h4⟩:=h;unfold rows at h1;obtain⟨p,rs,js,rfl,rfl,g1,g2,g3⟩:=h1.sU (by omega);obtain⟨il,is,ir,rfl,s1,s2,s3⟩:=g3.cut (a:=k) (by omega);rw[A7 hk]at s2;exact⟨p,rs,rfl,g1,g2,h4 p (by simp),fun H' EX=>(s2.AD fun i hi=>by have:=h4 i (by simp[hi]);exact EX i this.1 this.2).vw⟩
theorem DH.Xd{a m k:Nat}{H:HP}{r P B:AV}{os:List Int}{X:List (List Int)}{Y:List (List (List Int))}(h:DH a m H r P B os X Y)(hk:k<Y.length):∃b bs,B= .h b 0 Y.length∧H b=some bs∧bs.length=Y.length∧(a≤b∧b<m)∧(∀H':HP,(∀i,a≤i→i<m→H' i=H i)→Vw H' (bs.getD k .j) (rows (Y.getD k [])))∧
    ∀(H':HP) (r1:AV) (W:List (List Int)) (is:List Nat) (a' m':Nat),Ow H' r1 (rows W) is→is.Nodup→(∀i∈is,(i<a∨m≤i)∧a'≤i∧i<m')→H' b=some (B0 bs k [r1])→(∀i,a≤i→i<m→i≠b→H' i=H i)→m≤m'→a'≤a→DH a' m' H' r P B os X (Y.set k W):=by
  have h9:=h;obtain⟨i0,i1,i2,⟨h0,h1,h2⟩,h3,h4⟩:=h;unfold A4 at h2;obtain⟨b,bs,js,rfl,rfl,g1,g2,g3⟩:=h2.sU (by omega);obtain⟨il,is,ir,rfl,s1,s2,s3⟩:=g3.cut (a:=k) (by omega);rw[AB hk]at s2;refine⟨b,bs,rfl,g1,g2,h4 b (by simp),fun H' EX=>(s2.AD fun i hi=>by have:=h4 i (by simp[hi]);exact EX i this.1 this.2).vw,fun H' r1 W is a' m' q1 q2 q3 q4 q5 q6 q7=>?_⟩;obtain⟨b',bs',e,vI,_,_,DT⟩:=h9.A2L (a':=a') (m':=m') (H':=H') (r1:=r1) (W:=W) (is:=is) hk;injection e with e1 _ _
  subst e1;rw[g1]at vI;cases vI;exact DT q1 q2 q3 q4 q5 q6 q7
theorem tM{Γ:BV}{P:Program}{b:Nat}{ops:List Oper}{t:Tr}{s:St}{K:St→Prop}(t':Tr){α β:Type}{C:Nat→HP→α→β→Prop}{S:Nat→HP→α→β→St}(h1:(∀m H x y,C m H x y→ES Γ P b ops t' (S m H x y) K)→ES Γ P b ops t s K)(h2:∀m H x y,C m H x y→ES Γ P b ops t' (S m H x y) K):ES Γ P b ops t s K:=h1 h2
theorem A37{N:St→Prop}{α β:Type}{C:Nat→HP→α→β→Prop}{S:Nat→HP→α→β→St}{G:Prop}(h1:(∀m H x y,C m H x y→N (S m H x y))→G)(h2:∀m H x y,C m H x y→N (S m H x y)):G:=h1 h2
def tX7:Tr:= .nil
def tX6:Tr:= .br 10 tX7 .nil
def Zw:Tr:= .br 8 tX6 .nil
def tX4:Tr:= .br 7 Zw .nil
def Zx:Tr:= .br 6 Zw .nil
def tX2:Tr:= .br 5 Zx .nil
def tX1:Tr:= .br 6 tX4 (.br 7 Zx .nil)
def tX0:Tr:= .br 5 tX1 (.br 7 tX2 .nil)
def Ll:Tr:= .nil
def tY9:Tr:= .br 14 Ll .nil
def Zy:Tr:= .br 12 tY9 .nil
def tY7:Tr:= .br 11 Zy .nil
def tY6:Tr:= .br 10 tY7 .nil
def tY5:Tr:= .br 6 Zy .nil
def tY4:Tr:= .br 5 tY5 .nil
def tY3:Tr:= .br 6 tY7 (.br 11 tY5 .nil)
def tY2:Tr:= .br 5 tY3 (.br 11 tY4 .nil)
def tY1:Tr:= .br 6 tY6 (.br 10 tY3 .nil)
def tY0:Tr:= .br 5 tY1 (.br 10 tY2 .nil)
theorem QI.tr{os:List Int}(h:os.length≤8)(hb:∀x∈os,-1000≤x∧x≤1000):QI os (L2 os.length) (HY os.length):=(Ck h (by omega) hb).Nq (by omega) h
set_option maxHeartbeats 4000000 in
theorem W0{bs:List Int}{AT:Nat}{H:HP}(hg:AY bs AT H)(os:List Int)(X:List (List Int))(Y:List (List (List Int)))(h:AI os X Y)(nx:Nat)(J6:AT<nx):AC Tryz.prog 76 nx H [.q AT 0,A8 os X Y] (fun nx' H' r=>∃r2,Fz H' (GH nx H') r r2∧fX r2∧AY bs AT H'∧∀i,i<nx→i≠AT→H' i=H i):=by
 have hd:=h.Nq
 have J4:=h.1.1
 obtain⟨Cq,nB,mJ,tJ⟩:=id hd
 refine AC.C2 A9 Tryz.func76 rfl (by kernel_rfl) Tryz.ntmps76 Tryz.results76 (fun C7 cX=>?_)
 refine sQ fun N hN=>?_;simp-dsimp-implicitDefEqProofs(disch:=omega)only[go_sem,A8];apply hN;refine AW.B5 3 nx [ints os,rows X,A4 Y] rfl (by simp(disch:=omega)only[A0,A1]) ?_
 simp-dsimp-implicitDefEqProofs(disch:=omega)only[go_sem];refine sQ fun N hN=>?_;simp-dsimp-implicitDefEqProofs(disch:=omega)only[go_sem,A8];refine(O9 os X Y (by omega) nB mJ _ (.cons (.refl _) .nil)).AG ?_
 rintro m1 H1 r1 MW ⟨r0,P,B,rfl,VC,cD,CK⟩
 obtain⟨WD,K1,K3⟩:=VC.JD
 try simp-dsimp-implicitDefEqProofs(disch:=omega)only[go_sem,A8,WD,K1,K3,ints,Bool.and_true]
 apply hN;refine AW.seq fun N1 BC=>?_;refine AW.BD (fun G1 F0=>?_);dsimp only at F0
 have HR:∀i,i<nx→i≠AT→G1 i=H i:=fun i hi AL=>by rw[←F0];simp(disch:=omega)only[A0];rw[CK i (by omega)];simp(disch:=omega)only[A0]
 have kG:G1 (nx+1)=some [.nl,.nl,.nl]:=by rw[←F0];simp(disch:=omega)only[A0];rw[CK _ (by omega)];simp(disch:=omega)only[A0,A1]
 have n6:AY bs AT G1:=hg.AD (by rw[←F0];simp(disch:=omega)only[A0];rw[CK _ (by omega)];simp(disch:=omega)only[A0])
 replace VC:DH (nx+2+4) m1 G1 r0 P B os X Y:=VC.AD (fun i i1 i2=>by rw[←F0];simp(disch:=omega)only[A0]) (Nat.le_refl _)
 have MX:G1 (nx+2+2)=some [r0,P,B]:=by rw[←F0];simp(disch:=omega)only[A1]
 clear F0
 obtain⟨bx,C4⟩:∃bx,nx+2+2=bx:=⟨_,rfl⟩
 rw[C4]at MX ⊢
 simp-dsimp-implicitDefEqProofs(disch:=omega)only[go_sem];refine sQ fun N hN=>?_;simp-dsimp-implicitDefEqProofs(disch:=omega)only[go_sem,A8];refine(AK n6 6 (by omega) _).AG ?_
 rintro m2 H2 r2 TI ⟨⟨x2,rfl,iQ⟩,LA,EX⟩
 have gB:DH (nx+2+4) m1 H2 r0 P B os X Y:=VC.AD (fun q q1 q2=>EX q (by omega) (by omega)) (Nat.le_refl _)
 have ZR:H2 (nx+1)=some [.nl,.nl,.nl]:=(EX _ (by omega) (by omega)).trans kG
 have LF:H2 bx=some [r0,P,B]:=(EX _ (by omega) (by omega)).trans MX
 have ME:∀q,q<nx→q≠AT→H2 q=H q:=fun q h1 h2=>(EX q (by omega) h2).trans (HR q h1 h2)
 have JK:=gB.lcO cD
 have NU:=JK.one
 have KQ:=JK.len
 have dH:=JK.bd
 obtain⟨hlr,hlP,hlB⟩:=gB.lens
 try simp-dsimp-implicitDefEqProofs(disch:=omega)only[go_sem,A8]
 apply hN;apply AW.block;refine sQ fun N hN=>?_;simp-dsimp-implicitDefEqProofs(disch:=omega)only[go_sem,A8];apply hN;refine AW.cond rfl ?_ ?_<;>intro h1
 ·try simp only[cn]at h1
  have HQ:=LF;have T0:=ZR;have W1:∀G9:HP,G9 (m2+2+3)=some (os.map (.i .i64)++[.i .i64 2])→(∀z,z<m2→bk r0≠z+1→z≠bx→G9 z=H2 z)→kQ bs AT nx H G9 (.h (m2+2+3) 0 (os.length+1)) P B:=fun G9 e2 e3=> .mk (gB.A2M (H':=G9) (m':=m2+2+6) (Ow.ints (xs:=os++[2]) (by rw[e2];simp) (by simp)) (by simp) (fun i hi=>by simp at hi;omega) (fun i i1 i2 i3=>e3 i (by omega) i3 (by omega)) cD (by omega) (Nat.le_refl _)) ((e3 _ (by omega) (by omega) (by omega)).trans ZR) ⟨by simp;omega,nB,mJ,HZ tJ (by omega)⟩ (LA.AD (e3 _ (by omega) (by omega) (by omega))) (fun z hz AL=>(e3 z (by omega) (by omega) (by omega)).trans (ME z hz AL))
  apply rQ;simp-dsimp-implicitDefEqProofs(disch:=(first|omega|((repeat refine LC.AU (by omega) ?_);assumption))) only[go_sem,A8,LF,NU,KQ,CC (a:=nx+2+4) (b:=m1) (L:=r0) (cs:=os.map (.i .i64)),List.length_map,AP];apply BC;refine sQ fun N hN=>?_;simp-dsimp-implicitDefEqProofs(disch:=omega)only[go_sem,A8,WD,K1,K3,HQ,T0,AP,Bool.and_true];apply hN;apply AW.ret;simp-dsimp-implicitDefEqProofs(disch:=omega)only[go_sem];refine VZ ?_ J6 _ (fun z hz=>A0 _ _ hz)
  first
  |exact W1 _ (by simp(disch:=omega)only[A1,A0]) (fun z z1 z2 z3=>by simp(disch:=omega)only[A0,AP])
  |exact W2 _ (by simp(disch:=omega)only[A1,A0];rw[List.take_of_length_le (by simp)]) (by simp(disch:=omega)only[A1,A0]) (fun z z1 z2=>by simp(disch:=omega)only[A0];exact J7 z z1)
  |exact W3 _ (by simp(disch:=omega)only[A1,A0,AP]) (by simp(disch:=omega)only[A1,A0,AP];exact f10) (by simp(disch:=omega)only[A1,A0,AP]) (fun z z1 z2 z3=>by simp(disch:=omega)only[A0,AP])
  |exact W4 _ (fun z z1=>A0 _ _ z1)
  |exact JF
 try simp only[cn]at h1
 refine sQ fun N hN=>?_;simp-dsimp-implicitDefEqProofs(disch:=omega)only[go_sem,A8];apply hN;refine AW.cond rfl ?_ ?_<;>intro h2
 ·try simp only[cn]at h2
  refine AW.B5 5 bx _ rfl LF ?_;refine AW.BD (fun G3 D3=>?_);dsimp only at D3;have NX:DH (nx+2+4) m1 G3 r0 P B os X Y:=gB.AD (fun z z1 z2=>by rw[←D3,A0 _ _ (by omega)]) (Nat.le_refl _);have QO:G3 (nx+1)=some [.nl,.nl,.nl]:=by rw[←D3,A0 _ _ (by omega)];exact ZR
  have KS:AY bs AT G3:=LA.AD (by rw[←D3,A0 _ _ (by omega)]);have LJ:∀z,z<nx→z≠AT→G3 z=H z:=fun z hz AL=>by rw[←D3,A0 _ _ (by omega)];exact ME z hz AL
  have HQ:True:=trivial;have T0:=QO;have JF:=kQ.mk NX QO hd KS LJ;clear D3;simp-dsimp-implicitDefEqProofs(disch:=omega)only[go_sem];refine sQ fun N hN=>?_;simp-dsimp-implicitDefEqProofs(disch:=omega)only[go_sem,A8,↓VY,hlr]
  apply hN;refine AW.cond rfl ?_ ?_<;>intro h3
  ·try simp only[cn]at h3
   obtain⟨q,rfl,hq,Cd,DT⟩:=NX.Vp (k:=0) (by omega);clear JF;refine AW.qQ A9 (by kernel_rfl) [true,true,true,false,false,true,false] (by kernel_rfl) ?_;simp-dsimp-implicitDefEqProofs(disch:=omega)only[go_sem,A8,↓tF,hq];refine(CD (KS.AD (A0 _ _ (by omega))) [4,1,11,0,-2] 5 (A1 _ _ _) rfl (by omega) (by omega) _ (by omega) (by omega) (by omega)).AG ?_;rintro m4 H4 r4 sS ⟨⟨x4,rfl,hx4⟩,ZS,WW⟩;have cL: -1000≤x4∧x4≤1000:=by simp at hx4;omega
   have J7:∀z,z<m2→z≠AT→H4 z=G3 z:=fun z z1 z2=>(WW z (by omega) z2).trans (A0 _ _ (by omega))
   have hq4:=(J7 q (by omega) (by omega)).trans hq;have T0:=(J7 (nx+1) (by omega) (by omega)).trans QO;have JF:kQ bs AT nx H (AU H4 q (some (B0 (os.map (AV.i .i64)) 0 [.i .i64 x4]))) (.h q 0 os.length) P B:= .mk ((DT x4).AD (fun z z1 z2=>fZ (J7 z (by omega) (by omega))) (Nat.le_refl _)) ((A0 _ _ (by omega)).trans T0) ⟨by rw[List.length_set];exact Cq,nB,mJ,TU tJ cL⟩ (ZS.AD (A0 _ _ (by omega))) (fun z hz AL=>(A0 _ _ (by omega)).trans ((J7 z (by omega) AL).trans (LJ z hz AL)));try simp-dsimp-implicitDefEqProofs(disch:=omega)only[go_sem,A8,hq4,List.length_map]
   apply BC;refine sQ fun N hN=>?_;simp-dsimp-implicitDefEqProofs(disch:=omega)only[go_sem,A8,WD,K1,K3,HQ,T0,AP,Bool.and_true];apply hN;apply AW.ret;simp-dsimp-implicitDefEqProofs(disch:=omega)only[go_sem];refine VZ ?_ J6 _ (fun z hz=>A0 _ _ hz)
   first
   |exact W1 _ (by simp(disch:=omega)only[A1,A0]) (fun z z1 z2 z3=>by simp(disch:=omega)only[A0,AP])
   |exact W2 _ (by simp(disch:=omega)only[A1,A0];rw[List.take_of_length_le (by simp)]) (by simp(disch:=omega)only[A1,A0]) (fun z z1 z2=>by simp(disch:=omega)only[A0];exact J7 z z1)
   |exact W3 _ (by simp(disch:=omega)only[A1,A0,AP]) (by simp(disch:=omega)only[A1,A0,AP];exact f10) (by simp(disch:=omega)only[A1,A0,AP]) (fun z z1 z2 z3=>by simp(disch:=omega)only[A0,AP])
   |exact W4 _ (fun z z1=>A0 _ _ z1)
   |exact JF
  try simp only[cn]at h3
  apply AW.skip;apply BC;refine sQ fun N hN=>?_;simp-dsimp-implicitDefEqProofs(disch:=omega)only[go_sem,A8,WD,K1,K3,HQ,T0,AP,Bool.and_true];apply hN;apply AW.ret;simp-dsimp-implicitDefEqProofs(disch:=omega)only[go_sem];refine VZ ?_ J6 _ (fun z hz=>A0 _ _ hz)
  first
  |exact W1 _ (by simp(disch:=omega)only[A1,A0]) (fun z z1 z2 z3=>by simp(disch:=omega)only[A0,AP])
  |exact W2 _ (by simp(disch:=omega)only[A1,A0];rw[List.take_of_length_le (by simp)]) (by simp(disch:=omega)only[A1,A0]) (fun z z1 z2=>by simp(disch:=omega)only[A0];exact J7 z z1)
  |exact W3 _ (by simp(disch:=omega)only[A1,A0,AP]) (by simp(disch:=omega)only[A1,A0,AP];exact f10) (by simp(disch:=omega)only[A1,A0,AP]) (fun z z1 z2 z3=>by simp(disch:=omega)only[A0,AP])
  |exact W4 _ (fun z z1=>A0 _ _ z1)
  |exact JF
 try simp only[cn]at h2
 refine sQ fun N hN=>?_;simp-dsimp-implicitDefEqProofs(disch:=omega)only[go_sem,A8];apply hN;refine AW.cond rfl ?_ ?_<;>intro h4
 ·try simp only[cn]at h4
  refine AW.B5 5 bx _ rfl LF ?_;refine AW.BD (fun G3 D3=>?_);dsimp only at D3;have NX:DH (nx+2+4) m1 G3 r0 P B os X Y:=gB.AD (fun z z1 z2=>by rw[←D3,A0 _ _ (by omega)]) (Nat.le_refl _);have QO:G3 (nx+1)=some [.nl,.nl,.nl]:=by rw[←D3,A0 _ _ (by omega)];exact ZR
  have KS:AY bs AT G3:=LA.AD (by rw[←D3,A0 _ _ (by omega)]);have LJ:∀z,z<nx→z≠AT→G3 z=H z:=fun z hz AL=>by rw[←D3,A0 _ _ (by omega)];exact ME z hz AL
  have HQ:True:=trivial;have T0:=QO;have JF:=kQ.mk NX QO hd KS LJ;clear D3;simp-dsimp-implicitDefEqProofs(disch:=omega)only[go_sem];refine sQ fun N hN=>?_;simp-dsimp-implicitDefEqProofs(disch:=omega)only[go_sem,A8,↓VY,hlP]
  apply hN;refine AW.cond rfl ?_ ?_<;>intro h5
  ·try simp only[cn]at h5
   obtain⟨p,rs,rfl,hp,I3,mX,Nr⟩:=NX.A36 (k:=0) (by omega);clear JF;have hX0:=nB.row 0;refine AW.name fun N hN=>?_;apply Lk (N:=N)
   ·intro key;refine AW.KX A9 (by kernel_rfl) [true,true,true,true,true,false,false,false,false,true,false] (tX0) (by kernel_rfl) ?_;simp-dsimp-implicitDefEqProofs(disch:=omega)only[go_sem,A8];apply XD tX7 (C:=fun m H id=>((m2+2+2+2+4+11≤m∧m2+2+2+2+4+11≤id∧id<m)∧H id=some ((X.getD 0 []).map (AV.i .i64))∧∀i,i<m2→H i=G3 i));intro A38;apply XD tX6 (C:=fun m H id=>((m2+2+2+2+4+11≤m∧m2+2+2+2+4+11≤id∧id<m)∧H id=some ((X.getD 0 []).map (AV.i .i64))∧∀i,i<m2→H i=G3 i));intro A39;apply XD Zw (C:=fun m H id=>((m2+2+2+2+4+11≤m∧m2+2+2+2+4+11≤id∧id<m)∧H id=some ((X.getD 0 []).map (AV.i .i64))∧∀i,i<m2→H i=G3 i)∧H (m2+2+2+2+4+7)=some ([AV.i .i64 0]));intro Xe;apply XD tX4 (C:=fun m H id=>((m2+2+2+2+4+11≤m∧m2+2+2+2+4+11≤id∧id<m)∧H id=some ((X.getD 0 []).map (AV.i .i64))∧∀i,i<m2→H i=G3 i));intro A3A;apply SZ Zx;intro Xf;apply SZ tX2;intro A3B;apply SZ tX1;intro A3C
    ·rw[tX0];try simp-dsimp-implicitDefEqProofs(disch:=omega)only[go_sem,hp,I3,List.length_map]
     repeat' (with_reducible refine And.intro ?_ ?_)
     all_goals try (with_reducible first|exact A3C|exact A3B)
    ·rw[tX1];try simp-dsimp-implicitDefEqProofs(disch:=omega)only[go_sem,hp,I3,List.length_map]
     repeat' (with_reducible refine And.intro ?_ ?_)
     all_goals try (with_reducible first|exact Xf)
     refine(Cs (X.getD 0 []) (by omega) _ (.cons (Nr _ (fun i i1 i2=>by first|rfl|exact A0 _ _ (by omega))) .nil)).AG ?_;rintro m9 H9 r9 WA ⟨⟨x9,rfl,uK,Lm,Ln⟩,P4⟩;try simp-dsimp-implicitDefEqProofs(disch:=omega)only[go_sem,hp,I3,List.length_map]
     exact A3A m9 H9 x9 (And.intro (And.intro WA (And.intro uK Lm)) (And.intro Ln (fun i hi=>(P4 i (by omega)).trans (by first|rfl|exact A0 _ _ (by omega)))))
    ·rw[tX2];try simp-dsimp-implicitDefEqProofs(disch:=omega)only[go_sem,hp,I3,List.length_map]
     repeat' (with_reducible refine And.intro ?_ ?_)
     all_goals try (with_reducible first|exact Xf)
    ·rw[Zx];try simp-dsimp-implicitDefEqProofs(disch:=omega)only[go_sem,hp,I3,List.length_map]
     repeat' (with_reducible refine And.intro ?_ ?_)
     refine(Cs (X.getD 0 []) (by omega) _ (.cons (Nr _ (fun i i1 i2=>by first|rfl|exact A0 _ _ (by omega))) .nil)).AG ?_;rintro m9 H9 r9 WA ⟨⟨x9,rfl,uK,Lm,Ln⟩,P4⟩;try simp-dsimp-implicitDefEqProofs(disch:=omega)only[go_sem,hp,I3,List.length_map]
     exact Xe m9 H9 x9 ⟨And.intro (And.intro WA (And.intro uK Lm)) (And.intro Ln (fun i hi=>(P4 i (by omega)).trans (by first|rfl|exact A0 _ _ (by omega)))),(P4 _ (by omega)).trans (by simp(disch:=omega)only[A1,A0])⟩
    ·intro m9 H9 x9 hC;have hA:=hC;have f7:True:=trivial;have Aj:=(hA.2.2 p (by omega)).trans hp;have cV:=hA.2.1;have Lo:=hA.1;rw[tX4];try simp-dsimp-implicitDefEqProofs(disch:=omega)only[go_sem,Aj,I3,cV,f7,List.length_map]
     repeat' (with_reducible refine And.intro ?_ ?_)
     all_goals first|exact Xe m9 _ x9 ⟨And.intro hA.1 (And.intro ((A0 _ _ (by omega)).trans cV) (fun i hi=>(A0 _ _ (by omega)).trans (hA.2.2 i hi))),A1 _ _ _⟩
    ·intro m9 H9 x9 hC;obtain⟨hA,f7⟩:=hC;have Aj:=(hA.2.2 p (by omega)).trans hp;have cV:=hA.2.1;have Lo:=hA.1;rw[Zw];try simp-dsimp-implicitDefEqProofs(disch:=omega)only[go_sem,Aj,I3,cV,f7,List.length_map]
     repeat' (with_reducible refine And.intro ?_ ?_)
     all_goals try (with_reducible first|exact A39 m9 H9 x9 (hA))
    ·intro m9 H9 x9 hC;have hA:=hC;have f7:True:=trivial;have Aj:=(hA.2.2 p (by omega)).trans hp;have cV:=hA.2.1;have Lo:=hA.1;rw[tX6];try simp-dsimp-implicitDefEqProofs(disch:=omega)only[go_sem,Aj,I3,cV,f7,List.length_map]
     repeat' (with_reducible refine And.intro ?_ ?_)
     all_goals try (with_reducible first|exact A38 m9 H9 x9 (hA))
    intro m9 H9 x9 hC;have hA:=hC;have f7:True:=trivial;have Aj:=(hA.2.2 p (by omega)).trans hp;have cV:=hA.2.1;have Lo:=hA.1;rw[tX7];try simp-dsimp-implicitDefEqProofs(disch:=omega)only[go_sem,Aj,I3,cV,f7,List.length_map]
    exact key m9 H9 x9 hA
   intro m5 H5 id5 hC;obtain⟨⟨uI,xX,A3M⟩,A3N,J7⟩:=hC;have T0:=(J7 (nx+1) (by omega)).trans QO;have W2:∀G9:HP,G9 (m2+2+2+2+4+8)=some ((X.getD 0 []).map (AV.i .i64)++[.i .i64 0])→G9 p=some (B0 rs 0 [.h (m2+2+2+2+4+8) 0 ((X.getD 0 []).length+1)])→(∀z,z<m2→z≠p→G9 z=G3 z)→kQ bs AT nx H G9 r0 (.h p 0 X.length) B:=fun G9 e1 e2 e3=> .mk (NX.MK (H':=G9) (a':=nx+2+4) (m':=m2+2+2+2+4+9) (x:=X.getD 0 []++[0]) hp (by omega) rfl (Ow.ints (by rw[e1];simp) (by simp)) (by simp) (fun i hi=>by simp at hi;omega) e2 (fun i i1 i2 i3=>e3 i (by omega) i3) (by omega) (Nat.le_refl _)) ((e3 (nx+1) (by omega) (by omega)).trans QO) ⟨Cq,nB.set (v:=X.getD 0 []++[0]) (by rw[List.length_append,List.length_singleton];have:=(h.2.2.2 0 (by have:=h.1.2.1;omega)).1.1;omega),mJ,tJ⟩ (KS.AD (e3 AT (by omega) (by omega))) (fun z hz AL=>(e3 z (by omega) (by omega)).trans (LJ z hz AL))
   apply hN;apply BC;refine sQ fun N hN=>?_;simp-dsimp-implicitDefEqProofs(disch:=omega)only[go_sem,A8,WD,K1,K3,HQ,T0,AP,Bool.and_true];apply hN;apply AW.ret;simp-dsimp-implicitDefEqProofs(disch:=omega)only[go_sem];refine VZ ?_ J6 _ (fun z hz=>A0 _ _ hz)
   first
   |exact W1 _ (by simp(disch:=omega)only[A1,A0]) (fun z z1 z2 z3=>by simp(disch:=omega)only[A0,AP])
   |exact W2 _ (by simp(disch:=omega)only[A1,A0];rw[List.take_of_length_le (by simp)]) (by simp(disch:=omega)only[A1,A0]) (fun z z1 z2=>by simp(disch:=omega)only[A0];exact J7 z z1)
   |exact W3 _ (by simp(disch:=omega)only[A1,A0,AP]) (by simp(disch:=omega)only[A1,A0,AP];exact f10) (by simp(disch:=omega)only[A1,A0,AP]) (fun z z1 z2 z3=>by simp(disch:=omega)only[A0,AP])
   |exact W4 _ (fun z z1=>A0 _ _ z1)
   |exact JF
  try simp only[cn]at h5
  apply AW.skip;apply BC;refine sQ fun N hN=>?_;simp-dsimp-implicitDefEqProofs(disch:=omega)only[go_sem,A8,WD,K1,K3,HQ,T0,AP,Bool.and_true];apply hN;apply AW.ret;simp-dsimp-implicitDefEqProofs(disch:=omega)only[go_sem];refine VZ ?_ J6 _ (fun z hz=>A0 _ _ hz)
  first
  |exact W1 _ (by simp(disch:=omega)only[A1,A0]) (fun z z1 z2 z3=>by simp(disch:=omega)only[A0,AP])
  |exact W2 _ (by simp(disch:=omega)only[A1,A0];rw[List.take_of_length_le (by simp)]) (by simp(disch:=omega)only[A1,A0]) (fun z z1 z2=>by simp(disch:=omega)only[A0];exact J7 z z1)
  |exact W3 _ (by simp(disch:=omega)only[A1,A0,AP]) (by simp(disch:=omega)only[A1,A0,AP];exact f10) (by simp(disch:=omega)only[A1,A0,AP]) (fun z z1 z2 z3=>by simp(disch:=omega)only[A0,AP])
  |exact W4 _ (fun z z1=>A0 _ _ z1)
  |exact JF
 try simp only[cn]at h4
 refine sQ fun N hN=>?_;simp-dsimp-implicitDefEqProofs(disch:=omega)only[go_sem,A8];apply hN;refine AW.cond rfl ?_ ?_<;>intro h6
 ·try simp only[cn]at h6
  refine AW.B5 5 bx _ rfl LF ?_;refine AW.BD (fun G3 D3=>?_);dsimp only at D3;have NX:DH (nx+2+4) m1 G3 r0 P B os X Y:=gB.AD (fun z z1 z2=>by rw[←D3,A0 _ _ (by omega)]) (Nat.le_refl _);have QO:G3 (nx+1)=some [.nl,.nl,.nl]:=by rw[←D3,A0 _ _ (by omega)];exact ZR
  have KS:AY bs AT G3:=LA.AD (by rw[←D3,A0 _ _ (by omega)]);have LJ:∀z,z<nx→z≠AT→G3 z=H z:=fun z hz AL=>by rw[←D3,A0 _ _ (by omega)];exact ME z hz AL
  have HQ:True:=trivial;have T0:=QO;have JF:=kQ.mk NX QO hd KS LJ;clear D3;simp-dsimp-implicitDefEqProofs(disch:=omega)only[go_sem];refine sQ fun N hN=>?_;simp-dsimp-implicitDefEqProofs(disch:=omega)only[go_sem,A8,↓VY,hlP]
  refine C9.mk' (fun h7=>?_) (fun h7=>?_)
  ·try simp only[cn]at h7
   have hX0:=(h.2.2.2 0 (by have:=h.1.2.1;omega)).1.1;obtain⟨p,rs,q,rfl,hp,I3,VW,hq,mX,Cd,hpq,DT⟩:=NX.sV (k:=0) (l:=0) (by omega) (by have:=h.1.2.1;omega);clear JF;have JF:kQ bs AT nx H (AU G3 q (some (B0 ((X.getD 0 []).map (AV.i .i64)) 0 [.i .i64 1]))) r0 (.h p 0 X.length) B:= .mk (DT 1) ((A0 _ _ (by omega)).trans QO) ⟨Cq,nB.set (by rw[List.length_set];omega),mJ,tJ⟩ (KS.AD (A0 _ _ (by omega))) (fun z hz AL=>(A0 _ _ (by omega)).trans (LJ z hz AL));try simp-dsimp-implicitDefEqProofs(disch:=omega)only[go_sem,A8,hp,I3,VW]
   try simp-dsimp-implicitDefEqProofs(disch:=omega)only[go_sem,A8]
   apply hN;refine AW.cond rfl ?_ ?_<;>intro h8
   ·(try simp only[cn]at h8);apply rQ;simp-dsimp-implicitDefEqProofs(disch:=omega)only[go_sem,A8,hp,I3,VW,hq,List.length_map];apply BC;refine sQ fun N hN=>?_;simp-dsimp-implicitDefEqProofs(disch:=omega)only[go_sem,A8,WD,K1,K3,HQ,T0,AP,Bool.and_true];apply hN;apply AW.ret;simp-dsimp-implicitDefEqProofs(disch:=omega)only[go_sem];refine VZ ?_ J6 _ (fun z hz=>A0 _ _ hz)
    first
    |exact W1 _ (by simp(disch:=omega)only[A1,A0]) (fun z z1 z2 z3=>by simp(disch:=omega)only[A0,AP])
    |exact W2 _ (by simp(disch:=omega)only[A1,A0];rw[List.take_of_length_le (by simp)]) (by simp(disch:=omega)only[A1,A0]) (fun z z1 z2=>by simp(disch:=omega)only[A0];exact J7 z z1)
    |exact W3 _ (by simp(disch:=omega)only[A1,A0,AP]) (by simp(disch:=omega)only[A1,A0,AP];exact f10) (by simp(disch:=omega)only[A1,A0,AP]) (fun z z1 z2 z3=>by simp(disch:=omega)only[A0,AP])
    |exact W4 _ (fun z z1=>A0 _ _ z1)
    |exact JF
   try simp only[cn]at h8
   exfalso;have:=h.1.2.1;first|omega|(simp at h8;omega)
  try simp only[cn]at h7
  try simp-dsimp-implicitDefEqProofs(disch:=omega)only[go_sem,A8]
  apply hN;refine AW.C8 rfl ?_;apply AW.skip;apply BC;refine sQ fun N hN=>?_;simp-dsimp-implicitDefEqProofs(disch:=omega)only[go_sem,A8,WD,K1,K3,HQ,T0,AP,Bool.and_true];apply hN;apply AW.ret;simp-dsimp-implicitDefEqProofs(disch:=omega)only[go_sem];refine VZ ?_ J6 _ (fun z hz=>A0 _ _ hz)
  first
  |exact W1 _ (by simp(disch:=omega)only[A1,A0]) (fun z z1 z2 z3=>by simp(disch:=omega)only[A0,AP])
  |exact W2 _ (by simp(disch:=omega)only[A1,A0];rw[List.take_of_length_le (by simp)]) (by simp(disch:=omega)only[A1,A0]) (fun z z1 z2=>by simp(disch:=omega)only[A0];exact J7 z z1)
  |exact W3 _ (by simp(disch:=omega)only[A1,A0,AP]) (by simp(disch:=omega)only[A1,A0,AP];exact f10) (by simp(disch:=omega)only[A1,A0,AP]) (fun z z1 z2 z3=>by simp(disch:=omega)only[A0,AP])
  |exact W4 _ (fun z z1=>A0 _ _ z1)
  |exact JF
 try simp only[cn]at h6
 refine sQ fun N hN=>?_;simp-dsimp-implicitDefEqProofs(disch:=omega)only[go_sem,A8];apply hN;refine AW.cond rfl ?_ ?_<;>intro h9
 ·try simp only[cn]at h9
  refine AW.B5 5 bx _ rfl LF ?_;refine AW.BD (fun G3 D3=>?_);dsimp only at D3;have NX:DH (nx+2+4) m1 G3 r0 P B os X Y:=gB.AD (fun z z1 z2=>by rw[←D3,A0 _ _ (by omega)]) (Nat.le_refl _);have QO:G3 (nx+1)=some [.nl,.nl,.nl]:=by rw[←D3,A0 _ _ (by omega)];exact ZR
  have KS:AY bs AT G3:=LA.AD (by rw[←D3,A0 _ _ (by omega)]);have LJ:∀z,z<nx→z≠AT→G3 z=H z:=fun z hz AL=>by rw[←D3,A0 _ _ (by omega)];exact ME z hz AL
  have HQ:True:=trivial;have T0:=QO;have JF:=kQ.mk NX QO hd KS LJ;clear D3;simp-dsimp-implicitDefEqProofs(disch:=omega)only[go_sem];refine sQ fun N hN=>?_;simp-dsimp-implicitDefEqProofs(disch:=omega)only[go_sem,A8,↓VY,hlB]
  apply hN;refine AW.cond rfl ?_ ?_<;>intro LU
  ·try simp only[cn]at LU
   obtain⟨b,bs1,rfl,hb,L5,A4M,Nr,DT⟩:=NX.Xd (k:=0) (by omega);clear JF;have OI:0<os.length:=by have:=h.1.2.2;omega
   obtain⟨q0,rfl,QL,A4N,-⟩:=NX.Vp (k:=0) OI;have Xg:=mJ.row 0;have tN:=Xg.n;refine AW.name fun N hN=>?_;apply A37 (N:=N)
   ·intro key;refine AW.KX A9 (by kernel_rfl) [true,true,true,true,true,false,false,true,true,true,false,false,false,true,false] (tY0) (by kernel_rfl) ?_;simp-dsimp-implicitDefEqProofs(disch:=omega)only[go_sem,A8];apply tM Ll (C:=fun m H L cs=>(m2+2+2+2+2+2+4+15≤m∧WY (m2+2+2+2+2+2+4+15) m H L cs ((Y.getD 0 []).map ints)∧∀i,i<m2→H i=G3 i)∧H (m2+2+2+2+2+2+4+10)=some (List.replicate os.length (AV.i .i64 0)));intro Xh;apply tM tY9 (C:=fun m H L cs=>(m2+2+2+2+2+2+4+15≤m∧WY (m2+2+2+2+2+2+4+15) m H L cs ((Y.getD 0 []).map ints)∧∀i,i<m2→H i=G3 i)∧H (m2+2+2+2+2+2+4+10)=some (List.replicate os.length (AV.i .i64 0)));intro A3D;apply tM Zy (C:=fun m H L cs=>(m2+2+2+2+2+2+4+15≤m∧WY (m2+2+2+2+2+2+4+15) m H L cs ((Y.getD 0 []).map ints)∧∀i,i<m2→H i=G3 i)∧H (m2+2+2+2+2+2+4+10)=some (List.replicate os.length (AV.i .i64 0))∧H (m2+2+2+2+2+2+4+11)=some ([AV.h (m2+2+2+2+2+2+4+10) 0 os.length]));intro Xi;apply tM tY7 (C:=fun m H L cs=>(m2+2+2+2+2+2+4+15≤m∧WY (m2+2+2+2+2+2+4+15) m H L cs ((Y.getD 0 []).map ints)∧∀i,i<m2→H i=G3 i)∧H (m2+2+2+2+2+2+4+10)=some (List.replicate os.length (AV.i .i64 0)));intro Xj;apply tM tY6 (C:=fun m H L cs=>(m2+2+2+2+2+2+4+15≤m∧WY (m2+2+2+2+2+2+4+15) m H L cs ((Y.getD 0 []).map ints)∧∀i,i<m2→H i=G3 i));intro A3E;apply SZ tY5;intro Xk;apply SZ tY4;intro A3F;apply SZ tY3;intro Xl;apply SZ tY2;intro A3G;apply SZ tY1;intro A3H
    ·rw[tY0];try simp-dsimp-implicitDefEqProofs(disch:=omega)only[go_sem,hb,L5,List.length_map]
     repeat' (with_reducible refine And.intro ?_ ?_)
     all_goals try (with_reducible first|exact A3H|exact A3G)
    ·rw[tY1];try simp-dsimp-implicitDefEqProofs(disch:=omega)only[go_sem,hb,L5,List.length_map]
     repeat' (with_reducible refine And.intro ?_ ?_)
     all_goals try (with_reducible first|exact Xl)
     refine(gA (Y.getD 0 []) Xg _ (.cons (Nr _ (fun i i1 i2=>by first|rfl|(simp(disch:=omega)only[A0]))) .nil)).AG ?_;rintro m9 H9 L9 WA ⟨⟨T1,dI⟩,P4⟩;try simp-dsimp-implicitDefEqProofs(disch:=omega)only[go_sem,hb,L5,List.length_map]
     exact A3E m9 H9 L9 T1 (And.intro WA (And.intro dI (fun i hi=>(P4 i (by omega)).trans (by first|rfl|(simp(disch:=omega)only[A0])))))
    ·rw[tY2];try simp-dsimp-implicitDefEqProofs(disch:=omega)only[go_sem,hb,L5,List.length_map]
     repeat' (with_reducible refine And.intro ?_ ?_)
     all_goals try (with_reducible first|exact Xl|exact A3F)
    ·rw[tY3];try simp-dsimp-implicitDefEqProofs(disch:=omega)only[go_sem,hb,L5,List.length_map]
     repeat' (with_reducible refine And.intro ?_ ?_)
     all_goals try (with_reducible first|exact Xk)
     refine(gA (Y.getD 0 []) Xg _ (.cons (Nr _ (fun i i1 i2=>by first|rfl|(simp(disch:=omega)only[A0]))) .nil)).AG ?_;rintro m9 H9 L9 WA ⟨⟨T1,dI⟩,P4⟩;try simp-dsimp-implicitDefEqProofs(disch:=omega)only[go_sem,hb,L5,List.length_map]
     exact Xj m9 H9 L9 T1 ⟨And.intro WA (And.intro dI (fun i hi=>(P4 i (by omega)).trans (by first|rfl|(simp(disch:=omega)only[A0])))),(P4 _ (by omega)).trans (by simp(disch:=omega)only[A1,A0])⟩
    ·rw[tY4];try simp-dsimp-implicitDefEqProofs(disch:=omega)only[go_sem,hb,L5,List.length_map]
     repeat' (with_reducible refine And.intro ?_ ?_)
     all_goals try (with_reducible first|exact Xk)
    ·rw[tY5];try simp-dsimp-implicitDefEqProofs(disch:=omega)only[go_sem,hb,L5,List.length_map]
     repeat' (with_reducible refine And.intro ?_ ?_)
     refine(gA (Y.getD 0 []) Xg _ (.cons (Nr _ (fun i i1 i2=>by first|rfl|(simp(disch:=omega)only[A0]))) .nil)).AG ?_;rintro m9 H9 L9 WA ⟨⟨T1,dI⟩,P4⟩;try simp-dsimp-implicitDefEqProofs(disch:=omega)only[go_sem,hb,L5,List.length_map]
     exact Xi m9 H9 L9 T1 ⟨And.intro WA (And.intro dI (fun i hi=>(P4 i (by omega)).trans (by first|rfl|(simp(disch:=omega)only[A0])))),(P4 _ (by omega)).trans (by simp(disch:=omega)only[A1,A0]),(P4 _ (by omega)).trans (by simp(disch:=omega)only[A1,A0])⟩
    ·intro m9 H9 L9 T1 hC;have hA:=hC;have f10:True:=trivial;have f11:True:=trivial;have P1:=(hA.2.2 b (by omega)).trans hb;have uJ:=hA.1;have JK:=hA.2.1.1;have NU:=JK.one;have KQ:=JK.len;have dH:=JK.bd;have E6:T1.length≤1048576:=by rw[hA.2.1.len,List.length_map];exact tN
     rw[tY6];try simp-dsimp-implicitDefEqProofs(disch:=(first|omega|((repeat refine LC.AU (by omega) ?_);assumption))) only[go_sem,P1,L5,NU,KQ,f10,f11,RI,AP,List.length_map,CC (a:=m2+2+2+2+2+2+4+15) (b:=m9) (L:=L9) (cs:=T1)]
     repeat' (with_reducible refine And.intro ?_ ?_)
     all_goals first|exact Xj m9 _ L9 T1 ⟨And.intro hA.1 (And.intro (hA.2.1.AD (fun i i1 i2=>A0 _ _ (by omega)) (Nat.le_refl _)) (fun i hi=>(A0 _ _ (by omega)).trans (hA.2.2 i hi))),A1 _ _ _⟩
    ·intro m9 H9 L9 T1 hC;obtain⟨hA,f10⟩:=hC;have f11:True:=trivial;have P1:=(hA.2.2 b (by omega)).trans hb;have uJ:=hA.1;have JK:=hA.2.1.1;have NU:=JK.one;have KQ:=JK.len;have dH:=JK.bd;have E6:T1.length≤1048576:=by rw[hA.2.1.len,List.length_map];exact tN
     rw[tY7];try simp-dsimp-implicitDefEqProofs(disch:=(first|omega|((repeat refine LC.AU (by omega) ?_);assumption))) only[go_sem,P1,L5,NU,KQ,f10,f11,RI,AP,List.length_map,CC (a:=m2+2+2+2+2+2+4+15) (b:=m9) (L:=L9) (cs:=T1)]
     repeat' (with_reducible refine And.intro ?_ ?_)
     all_goals first|exact Xi m9 _ L9 T1 ⟨And.intro hA.1 (And.intro (hA.2.1.AD (fun i i1 i2=>A0 _ _ (by omega)) (Nat.le_refl _)) (fun i hi=>(A0 _ _ (by omega)).trans (hA.2.2 i hi))),(A0 _ _ (by omega)).trans f10,A1 _ _ _⟩
    ·intro m9 H9 L9 T1 hC;obtain⟨hA,f10,f11⟩:=hC;have P1:=(hA.2.2 b (by omega)).trans hb;have uJ:=hA.1;have JK:=hA.2.1.1;have NU:=JK.one;have KQ:=JK.len;have dH:=JK.bd;have E6:T1.length≤1048576:=by rw[hA.2.1.len,List.length_map];exact tN
     rw[Zy];try simp-dsimp-implicitDefEqProofs(disch:=(first|omega|((repeat refine LC.AU (by omega) ?_);assumption))) only[go_sem,P1,L5,NU,KQ,f10,f11,RI,AP,List.length_map,CC (a:=m2+2+2+2+2+2+4+15) (b:=m9) (L:=L9) (cs:=T1)]
     repeat' (with_reducible refine And.intro ?_ ?_)
     all_goals try (with_reducible first|exact A3D m9 H9 L9 T1 ⟨hA,f10⟩)
    ·intro m9 H9 L9 T1 hC;obtain⟨hA,f10⟩:=hC;have f11:True:=trivial;have P1:=(hA.2.2 b (by omega)).trans hb;have uJ:=hA.1;have JK:=hA.2.1.1;have NU:=JK.one;have KQ:=JK.len;have dH:=JK.bd;have E6:T1.length≤1048576:=by rw[hA.2.1.len,List.length_map];exact tN
     rw[tY9];try simp-dsimp-implicitDefEqProofs(disch:=(first|omega|((repeat refine LC.AU (by omega) ?_);assumption))) only[go_sem,P1,L5,NU,KQ,f10,f11,RI,AP,List.length_map,CC (a:=m2+2+2+2+2+2+4+15) (b:=m9) (L:=L9) (cs:=T1)]
     repeat' (with_reducible refine And.intro ?_ ?_)
     all_goals try (with_reducible first|exact Xh m9 H9 L9 T1 ⟨hA,f10⟩)
    intro m9 H9 L9 T1 hC;obtain⟨hA,f10⟩:=hC;have f11:True:=trivial;have P1:=(hA.2.2 b (by omega)).trans hb;have uJ:=hA.1;have JK:=hA.2.1.1;have NU:=JK.one;have KQ:=JK.len;have dH:=JK.bd;have E6:T1.length≤1048576:=by rw[hA.2.1.len,List.length_map];exact tN
    rw[Ll];try simp-dsimp-implicitDefEqProofs(disch:=(first|omega|((repeat refine LC.AU (by omega) ?_);assumption))) only[go_sem,P1,L5,NU,KQ,f10,f11,RI,AP,List.length_map,CC (a:=m2+2+2+2+2+2+4+15) (b:=m9) (L:=L9) (cs:=T1)]
    exact key m9 H9 L9 T1 (And.intro hA f10)
   intro m6 H6 L6 cs6 hC;obtain⟨⟨Zq,dI,VR⟩,f10⟩:=hC;have dH:=dI.1.bd;have T0:=(VR (nx+1) (by omega)).trans QO;have W3:∀G9:HP,G9 (m2+2+2+2+2+2+4+12)=some (cs6++[.h (m2+2+2+2+2+2+4+10) 0 os.length])→G9 (m2+2+2+2+2+2+4+10)=some (List.replicate os.length (.i .i64 0))→G9 b=some (B0 bs1 0 [.h (m2+2+2+2+2+2+4+12) 0 (cs6.length+1)])→(∀z,z≠b→(z<m2∨m2+2+2+2+2+2+4+15≤z)→bk L6≠z+1→G9 z=H6 z)→kQ bs AT nx H G9 (.h q0 0 os.length) P (.h b 0 Y.length):=fun G9 e1 e2 e3 e4=>by
    obtain⟨JK,ids,g1,g2,g3⟩:=dI;have ho:Ow G9 (.h (m2+2+2+2+2+2+4+10) 0 os.length) (ints (List.replicate os.length 0)) [m2+2+2+2+2+2+4+10]:=Ow.ints (by rw[e2];simp) (by simp);obtain⟨CH,k1,k2,k3,k4⟩:=g1.more (H':=G9) (id:=m2+2+2+2+2+2+4+12) JK ho e1 (fun i hi AL=>e4 i (by have:=g3 i hi;omega) (by have:=g3 i hi;omega) AL) g2;have Sh:=(h.2.2.2 0 OI).2.1;have hz:(Y.getD 0 []).map ints++[ints (List.replicate os.length 0)]=(Y.getD 0 []++[List.replicate os.length 0]).map ints:=by simp
    rw[hz,←GG]at k1;have hz2:B6 (Y.getD 0 []++[List.replicate os.length 0]):=⟨by rw[List.length_append,List.length_singleton];omega,HZ Xg.v (by simp;omega)⟩;refine .mk (DT G9 _ _ _ (nx+2+4) m6 k1 ?_ ?_ e3 (fun i i1 i2 i3=>(e4 i i3 (by omega) (by omega)).trans (VR i (by omega))) (by omega) (Nat.le_refl _)) ((e4 _ (by omega) (by omega) (by omega)).trans T0) ⟨Cq,nB,mJ.set hz2,tJ⟩ (KS.AD ((e4 _ (by omega) (by omega) (by omega)).trans (VR _ (by omega)))) (fun z hz AL=>((e4 _ (by omega) (by omega) (by omega)).trans (VR _ (by omega))).trans (LJ z hz AL))
    ·rw[List.nodup_cons,List.nodup_append];refine⟨fun hm=>?_,k3,by simp,fun x hx y hy e=>?_⟩
     ·rcases List.mem_append.1 hm with hm|hm
      ·have:=g3 _ (k2 _ hm);omega
      simp at hm
     have:=g3 _ (k2 _ hx);simp at hy;omega
    intro i hi;rcases List.mem_cons.1 hi with rfl|hi
    ·omega
    rcases List.mem_append.1 hi with hi|hi
    ·have:=g3 _ (k2 _ hi);omega
    simp at hi;omega
   apply hN;apply BC;refine sQ fun N hN=>?_;simp-dsimp-implicitDefEqProofs(disch:=omega)only[go_sem,A8,WD,K1,K3,HQ,T0,AP,Bool.and_true];apply hN;apply AW.ret;simp-dsimp-implicitDefEqProofs(disch:=omega)only[go_sem];refine VZ ?_ J6 _ (fun z hz=>A0 _ _ hz)
   first
   |exact W1 _ (by simp(disch:=omega)only[A1,A0]) (fun z z1 z2 z3=>by simp(disch:=omega)only[A0,AP])
   |exact W2 _ (by simp(disch:=omega)only[A1,A0];rw[List.take_of_length_le (by simp)]) (by simp(disch:=omega)only[A1,A0]) (fun z z1 z2=>by simp(disch:=omega)only[A0];exact J7 z z1)
   |exact W3 _ (by simp(disch:=omega)only[A1,A0,AP]) (by simp(disch:=omega)only[A1,A0,AP];exact f10) (by simp(disch:=omega)only[A1,A0,AP]) (fun z z1 z2 z3=>by simp(disch:=omega)only[A0,AP])
   |exact W4 _ (fun z z1=>A0 _ _ z1)
   |exact JF
  try simp only[cn]at LU
  apply AW.skip;apply BC;refine sQ fun N hN=>?_;simp-dsimp-implicitDefEqProofs(disch:=omega)only[go_sem,A8,WD,K1,K3,HQ,T0,AP,Bool.and_true];apply hN;apply AW.ret;simp-dsimp-implicitDefEqProofs(disch:=omega)only[go_sem];refine VZ ?_ J6 _ (fun z hz=>A0 _ _ hz)
  first
  |exact W1 _ (by simp(disch:=omega)only[A1,A0]) (fun z z1 z2 z3=>by simp(disch:=omega)only[A0,AP])
  |exact W2 _ (by simp(disch:=omega)only[A1,A0];rw[List.take_of_length_le (by simp)]) (by simp(disch:=omega)only[A1,A0]) (fun z z1 z2=>by simp(disch:=omega)only[A0];exact J7 z z1)
  |exact W3 _ (by simp(disch:=omega)only[A1,A0,AP]) (by simp(disch:=omega)only[A1,A0,AP];exact f10) (by simp(disch:=omega)only[A1,A0,AP]) (fun z z1 z2 z3=>by simp(disch:=omega)only[A0,AP])
  |exact W4 _ (fun z z1=>A0 _ _ z1)
  |exact JF
 try simp only[cn]at h9
 refine sQ fun N hN=>?_;simp-dsimp-implicitDefEqProofs(disch:=omega)only[go_sem,A8];refine(J8 [7,7,7,7] (by simp) _ (.cons (RP (os:=[7,7,7,7]) (A1 _ _ _) rfl) .nil)).AG ?_
 rintro m7 H7 r7 Nl ⟨⟨r9,P9,B9,rfl,mK⟩,cS⟩
 obtain⟨WD,K1,K3⟩:=mK.JD
 have YB:∀z,z<m2→H7 z=H2 z:=fun z hz=>(cS z (by omega)).trans (A0 _ _ (by omega))
 have NW:=(YB bx (by omega)).trans LF
 try simp-dsimp-implicitDefEqProofs(disch:=omega)only[go_sem,A8,WD,K1,K3,NW,Bool.and_true]
 apply hN;refine AW.BD (fun G7 RS=>?_);dsimp only at RS
 have HQ:G7 bx=some [r9,P9,B9]:=by rw[←RS,A1]
 have fW:G7 (nx+1)=some [.nl,.nl,.nl]:=by rw[←RS,A0 _ _ (by omega)];exact(YB _ (by omega)).trans ZR
 have WH:AY bs AT G7:=LA.AD (by rw[←RS,A0 _ _ (by omega)];exact YB _ (by omega))
 have fU:∀z,z<nx→z≠AT→G7 z=H z:=fun z hz AL=>by rw[←RS,A0 _ _ (by omega),YB z (by omega)];exact ME z hz AL
 replace mK:=mK.AD (H':=G7) (m':=m7) (fun z z1 z2=>by rw[←RS,A0 _ _ (by omega)]) (Nat.le_refl _)
 clear RS
 simp-dsimp-implicitDefEqProofs(disch:=omega)only[go_sem];refine sQ fun N hN=>?_;simp-dsimp-implicitDefEqProofs(disch:=omega)only[go_sem,A8];refine(AK WH 2 (by omega) _).AG ?_
 rintro m8 H8 r8 uJ ⟨⟨x8,rfl,hx8⟩,uL,P4⟩
 replace HQ:=(P4 bx (by omega) (by omega)).trans HQ
 have T0:=(P4 (nx+1) (by omega) (by omega)).trans fW
 have hl8:∀z,z<nx→z≠AT→H8 z=H z:=fun z hz AL=>(P4 z (by omega) AL).trans (fU z hz AL)
 have JF:kQ bs AT nx H H8 r9 P9 B9:= .mk ((mK.AD (H':=H8) (fun z z1 z2=>P4 z (by omega) (by omega)) (Nat.le_refl _)).wide (by omega) (Nat.le_refl _)) T0 (QI.tr (by simp) (by decide)) uL hl8
 try simp-dsimp-implicitDefEqProofs(disch:=omega)only[go_sem,A8]
 apply hN;refine AW.cond rfl ?_ ?_<;>intro IN
 ·try simp only[cn]at IN
  apply rQ;simp-dsimp-implicitDefEqProofs(disch:=omega)only[go_sem,A8];refine(J8 [2,2,2,2,2,2,2] (by simp) _ (.cons (RP (os:=[2,2,2,2,2,2,2]) (A1 _ _ _) rfl) .nil)).AG ?_;rintro m10 No r10 A2V ⟨⟨r11,P11,B11,rfl,Ct⟩,Ag⟩;obtain⟨WD,K1,K3⟩:=Ct.JD;have cU:∀z,z<m8→No z=H8 z:=fun z hz=>(Ag z (by omega)).trans (A0 _ _ (by omega))
  have A3I:=(cU bx (by omega)).trans HQ;replace T0:=(cU (nx+1) (by omega)).trans T0;have W4:∀G9:HP,(∀z,z≠bx→G9 z=No z)→kQ bs AT nx H G9 r11 P11 B11:=fun G9 e=> .mk ((Ct.AD (H':=G9) (fun z z1 z2=>e z (by omega)) (Nat.le_refl _)).wide (by omega) (Nat.le_refl _)) ((e _ (by omega)).trans T0) (QI.tr (by simp) (by decide)) (uL.AD ((e _ (by omega)).trans (cU _ (by omega)))) (fun z hz AL=>((e _ (by omega)).trans (cU _ (by omega))).trans (hl8 z hz AL))
  try simp-dsimp-implicitDefEqProofs(disch:=omega)only[go_sem,A8,WD,K1,K3,A3I,Bool.and_true]
  apply BC;refine sQ fun N hN=>?_;simp-dsimp-implicitDefEqProofs(disch:=omega)only[go_sem,A8,WD,K1,K3,HQ,T0,AP,Bool.and_true];apply hN;apply AW.ret;simp-dsimp-implicitDefEqProofs(disch:=omega)only[go_sem];refine VZ ?_ J6 _ (fun z hz=>A0 _ _ hz)
  first
  |exact W1 _ (by simp(disch:=omega)only[A1,A0]) (fun z z1 z2 z3=>by simp(disch:=omega)only[A0,AP])
  |exact W2 _ (by simp(disch:=omega)only[A1,A0];rw[List.take_of_length_le (by simp)]) (by simp(disch:=omega)only[A1,A0]) (fun z z1 z2=>by simp(disch:=omega)only[A0];exact J7 z z1)
  |exact W3 _ (by simp(disch:=omega)only[A1,A0,AP]) (by simp(disch:=omega)only[A1,A0,AP];exact f10) (by simp(disch:=omega)only[A1,A0,AP]) (fun z z1 z2 z3=>by simp(disch:=omega)only[A0,AP])
  |exact W4 _ (fun z z1=>A0 _ _ z1)
  |exact JF
 try simp only[cn]at IN
 apply AW.skip;apply BC;refine sQ fun N hN=>?_;simp-dsimp-implicitDefEqProofs(disch:=omega)only[go_sem,A8,WD,K1,K3,HQ,T0,AP,Bool.and_true];apply hN;apply AW.ret;simp-dsimp-implicitDefEqProofs(disch:=omega)only[go_sem];refine VZ ?_ J6 _ (fun z hz=>A0 _ _ hz)
 first
 |exact W1 _ (by simp(disch:=omega)only[A1,A0]) (fun z z1 z2 z3=>by simp(disch:=omega)only[A0,AP])
 |exact W2 _ (by simp(disch:=omega)only[A1,A0];rw[List.take_of_length_le (by simp)]) (by simp(disch:=omega)only[A1,A0]) (fun z z1 z2=>by simp(disch:=omega)only[A0];exact J7 z z1)
 |exact W3 _ (by simp(disch:=omega)only[A1,A0,AP]) (by simp(disch:=omega)only[A1,A0,AP];exact f10) (by simp(disch:=omega)only[A1,A0,AP]) (fun z z1 z2 z3=>by simp(disch:=omega)only[A0,AP])
 |exact W4 _ (fun z z1=>A0 _ _ z1)
 |exact JF
theorem W5{bs:List Int}{AT:Nat}{H:HP}(hg:AY bs AT H)(os:List Int)(X:List (List Int))(Y:List (List (List Int)))(h:AI os X Y)(nx:Nat)(J6:AT<nx):AC Tryz.prog 76 nx H [.q AT 0,A8 os X Y] (sK bs AT nx H fX):=AC.zs J6 (W0 hg os X Y h nx J6)
end Go.Proofs.YtghmeeifjeafmaaGreat
