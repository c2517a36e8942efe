import Derived.Test.YtgknbnkmilddhaaGreatZ38
set_option linter.unusedVariables false
set_option linter.unusedSimpArgs false

namespace Go.Proofs.YtgknbnkmilddhaaGreat
theorem Wc(a:List Int)(ha:a.length<=1048576)(nx:Nat){H:HP}{xs:List AV}(hv:ZY H xs [ints a]):AC Tryz.prog 87 nx H xs (λBB H' r=>(∃id,r= .h id 0 a.length/\nx<=id/\id<BB/\H' id=some (a.map (.i .i64)))/\∀i,i<nx->H' i=H i):=by
  refine V8 ((CJ a A0 nx BM).mono (Q':=λBB H' r=>∃id,r= .h id 0 a.length/\nx<=id/\id<BB/\H' id=some (a.map (.i .i64))) ?_) (λn H0 r ⟨id,e,h1,h2,h3⟩=>?_) hv
  · rintro BB H' r ⟨id,rfl,h1,h2,rfl⟩;exact⟨id,rfl,h1,h2,by rw[A4,O9]⟩
  subst e;exact⟨ints a,[id],Own.ints h3 rfl h1 h2,λH' hk=>⟨id,rfl,h1,h2,by rw[hk id AB];exact h3⟩⟩
theorem tR(W:List (List Int))(hW:BO W)(nx:Nat){H:HP}{xs:List AV}(hv:ZY H xs [rows W]):AC Tryz.prog 123 nx H xs (λBB H' r=>(∃cs,gN nx BB H' r cs (W.map ints))/\∀i,i<nx->H' i=H i):=by
  refine V8 (DX W hW nx) (λn H0 r ⟨cs,MW,ids,h1,h2,h3⟩=>?_) hv;refine⟨_,ids,⟨h1,h2,h3⟩,λH' hk=>⟨cs,MW.OZ λi hi=>hk i (h1.iY MW hi),ids,h1.AJ hk,h2,h3⟩⟩
theorem MC(os:List Int)(hn:os.length<=1000)(nx:Nat){H:HP}{xs:List AV}(hv:ZY H xs [ints os]):AC Tryz.prog 174 nx H xs (λBB H' r=>(∃r0 P B,r= .g [r0,P,B]/\EB nx BB H' r0 P B os (P3 os.length) (KC os.length))/\∀i,i<nx->H' i=H i):=by
  refine V8 ((I5 os hn nx).mono (Q':=λBB H' r=>∃r0 P B,r= .g [r0,P,B]/\EB nx BB H' r0 P B os (P3 os.length) (KC os.length)) λBB H' r ⟨r0,P,B,cp,cb,e,hW⟩=>⟨r0,P,B,e,hW.1⟩) (λn H0 r ⟨r0,P,B,e,hW⟩=>?_) hv;obtain⟨Z,ids,ho,hk⟩:=hW.ids;exact⟨Z,ids,by rw[e];exact ho,λH' DN=>⟨r0,P,B,e,hk H' DN⟩⟩
theorem EB.lcO{a m:Nat}{H:HP}{r P B:AV}{os:List Int}{X:List (List Int)}{Y:List (List (List Int))}(h:EB a m H r P B os X Y)(hi:gO r=true):LC H a m r (os.map (.i .i64)):=by
  obtain⟨i0,i1,i2,⟨h0,h1,h2⟩,h3,h4⟩:=h;by_cases hp:0<os.length
  · obtain⟨q,rfl,rfl,g⟩:=h0.A84 hp;have:=h4 q AB;exact .inr ⟨q,AB,g,this.1,this.2⟩
  obtain rfl:os=[]:=List.length_eq_zero_iff.1 A0;rcases h0.dM 0 [] rfl with ⟨rfl,_⟩|⟨rfl,_⟩|⟨id,cs,CU,rfl,rfl,g1,g2,g3⟩
  · cases hi
  · exact .nil
  have:=h4 id AB;obtain rfl:cs=[]:=List.length_eq_zero_iff.1 g2;exact .inr ⟨id,rfl,g1,this.1,this.2⟩
def pW(Γ:CA)(ty:TypeId)(x:AV)(k:AV->Prop):Prop:=XX Γ ty x k
@[congr] theorem A9S {Γ:CA} {ty:TypeId} {x x':AV} {k:AV->Prop} (h:x=x'):pW Γ ty x k=pW Γ ty x' k:=by rw[h]
theorem Kt{Γ:CA}{P:Program}{x:Operand}{ty:TypeId}{ED:List TypeId}{dst:Option Nat}{id:Nat}{s:St}{K:St->Prop}:IG Γ P dst (.call ⟨.builtin .len,[x].toArray,(ty::ED).toArray⟩) id s K=pW Γ ty (BQ s.t x) λr=>K ⟨BG s.t dst r,s.H,s.nx⟩:=Up
theorem mA{Γ:CA}{ty:TypeId}{H:HP}{L:AV}{n:Nat}{ts:List AV}{ids:List Nat}{k:AV->Prop}(h:Ow H L (.v n ts) ids){e:TE}(y8:Γ ty=some e){el:TypeId}(he:e.d= .slice el):pW Γ ty L k=k (.i .i64 n):=by
  unfold pW XX;rw[y8];dsimp only;rw[he];rcases h.dM _ _ rfl with ⟨rfl,_⟩|⟨rfl,rfl,_⟩|⟨id,cs,CU,rfl,_⟩<;>rfl
theorem EB.lens{a m:Nat}{H:HP}{r P B:AV}{os:List Int}{X:List (List Int)}{Y:List (List (List Int))}(h:EB a m H r P B os X Y):(∀k,pW env 24 r k=k (.i .i64 os.length))/\(∀k,pW env 25 P k=k (.i .i64 X.length))/\∀k,pW env 26 B k=k (.i .i64 Y.length):=by
  obtain⟨i0,i1,i2,⟨h0,h1,h2⟩,h3,h4⟩:=h;exact⟨λk=>mA h0 rfl rfl,λk=>mA h1 rfl rfl,λk=>mA h2 rfl rfl⟩
def y6(bs:List Int)(B1 nx:Nat)(H G:HP)(r P B:AV):Prop:=(one r=true/\one P=true/\one B=true)/\G (nx+1)=some [.nl,.nl,.nl]/\(∃os X Y m,EB (nx+2+4) m G r P B os X Y/\ZR os X Y)/\B6 bs B1 G/\∀z,z<nx->z≠B1->G z=H z
theorem y6.mk{bs:List Int}{B1 nx m:Nat}{H G:HP}{r P B:AV}{os:List Int}{X:List (List Int)}{Y:List (List (List Int))}(h:EB (nx+2+4) m G r P B os X Y)(h0:G (nx+1)=some [.nl,.nl,.nl])(hd:ZR os X Y)(hg:B6 bs B1 G)(hl:∀z,z<nx->z≠B1->G z=H z):y6 bs B1 nx H G r P B:=⟨h.MR,h0,⟨os,X,Y,m,h,hd⟩,hg,hl⟩
theorem fC{bs:List Int}{B1 nx:Nat}{H G:HP}{r P B:AV}(h:y6 bs B1 nx H G r P B)(hs:B1<nx)(G':HP)(hk:∀z,z≠nx+1->G' z=G z):∃H2,Le H2 G'/\∃r2,Fz H2 (JI nx H2) (.g [r,P,B]) r2/\lZ r2/\B6 bs B1 H2/\∀i,i<nx->¬i=B1->H2 i=H i:=by
  obtain⟨_,h49,⟨os9,X9,Y9,m9,Ah,hd9⟩,gP,hl9⟩:=h;exact⟨_,λ_ _ h=>h,_,(Ah.AJ (λz z1 z2=>hk z A0) (Nat.le_refl _)).fz A0,⟨os9,X9,Y9,rfl,hd9⟩,gP.AJ (hk _ A0),λz hz AQ=>(hk _ A0).trans (hl9 z hz AQ)⟩
theorem EB.AD5{a m k:Nat}{H:HP}{r P B:AV}{os:List Int}{X:List (List Int)}{Y:List (List (List Int))}(h:EB a m H r P B os X Y)(hk:k<X.length):∃p rs,P= .h p 0 X.length/\H p=some rs/\rs.length=X.length/\(a<=p/\p<m)/\∀H':HP,(∀i,a<=i->i<m->H' i=H i)->Vw H' (rs.getD k .j) (ints (X.getD k [])):=by
  obtain⟨i0,i1,i2,⟨h0,h1,h2⟩,h3,h4⟩:=h;unfold rows at h1;obtain⟨p,rs,js,rfl,rfl,g1,g2,g3⟩:=h1.Jk A0;obtain⟨il,is,ir,rfl,s1,s2,s3⟩:=g3.cut (a:=k) A0;rw[BN hk]at s2;exact⟨p,rs,rfl,g1,g2,h4 p AB,λH' DN=>(s2.AJ λi hi=>by have:=h4 i (by simp[hi]);exact DN i this.1 this.2).vw⟩
theorem EB.A99{a m k:Nat}{H:HP}{r P B:AV}{os:List Int}{X:List (List Int)}{Y:List (List (List Int))}(h:EB a m H r P B os X Y)(hk:k<Y.length):∃b bs,B= .h b 0 Y.length/\H b=some bs/\bs.length=Y.length/\(a<=b/\b<m)/\(∀H':HP,(∀i,a<=i->i<m->H' i=H i)->Vw H' (bs.getD k .j) (rows (Y.getD k [])))/\
    ∀(H':HP) (r1:AV) (W:List (List Int)) (is:List Nat) (a' m':Nat),Ow H' r1 (rows W) is->is.Nodup->(∀i∈is,(i<a\/m<=i)/\a'<=i/\i<m')->H' b=some (B3 bs k [r1])->(∀i,a<=i->i<m->i≠b->H' i=H i)->m<=m'->a'<=a->EB a' m' H' r P B os X (Y.set k W):=by
  have h9:=h;obtain⟨i0,i1,i2,⟨h0,h1,h2⟩,h3,h4⟩:=h;unfold A6 at h2;obtain⟨b,bs,js,rfl,rfl,g1,g2,g3⟩:=h2.Jk A0;obtain⟨il,is,ir,rfl,s1,s2,s3⟩:=g3.cut (a:=k) A0;rw[DT hk]at s2;refine⟨b,bs,rfl,g1,g2,h4 b AB,λH' DN=>(s2.AJ λi hi=>by have:=h4 i (by simp[hi]);exact DN i this.1 this.2).vw,λH' r1 W is a' m' q1 q2 q3 q4 q5 q6 q7=>?_⟩;obtain⟨b',bs',e,Nd,_,_,EP⟩:=h9.ACC (a':=a') (m':=m') (H':=H') (r1:=r1) (W:=W) (is:=is) hk;injection e with e1 _ _
  subst e1;rw[g1]at Nd;cases Nd;exact EP q1 q2 q3 q4 q5 q6 q7
theorem Ku{Γ:CA}{P:Program}{b:Nat}{ops:List Oper}{t:Tr}{s:St}{K:St->Prop}(t':Tr){α β:Type}{C:Nat->HP->α->β->Prop}{S:Nat->HP->α->β->St}(h1:(∀m H x y,C m H x y->FZ Γ P b ops t' (S m H x y) K)->FZ Γ P b ops t s K)(h2:∀m H x y,C m H x y->FZ Γ P b ops t' (S m H x y) K):FZ Γ P b ops t s K:=h1 h2
theorem AD6{N:St->Prop}{α β:Type}{C:Nat->HP->α->β->Prop}{S:Nat->HP->α->β->St}{G:Prop}(h1:(∀m H x y,C m H x y->N (S m H x y))->G)(h2:∀m H x y,C m H x y->N (S m H x y)):G:=h1 h2
def tX7:Tr:= .nil
def tX6:Tr:= .br 10 tX7 .nil
def tX5:Tr:= .br 8 tX6 .nil
def tX4:Tr:= .br 7 tX5 .nil
def tX3:Tr:= .br 6 tX5 .nil
def tX2:Tr:= .br 5 tX3 .nil
def tX1:Tr:= .br 6 tX4 (.br 7 tX3 .nil)
def tX0:Tr:= .br 5 tX1 (.br 7 tX2 .nil)
def A3M:Tr:= .nil
def tY9:Tr:= .br 14 A3M .nil
def tY8:Tr:= .br 12 tY9 .nil
def tY7:Tr:= .br 11 tY8 .nil
def tY6:Tr:= .br 10 tY7 .nil
def tY5:Tr:= .br 6 tY8 .nil
def tY4:Tr:= .br 5 tY5 .nil
def tY3:Tr:= .br 6 tY7 (.br 11 tY5 .nil)
def tY2:Tr:= .br 5 tY3 (.br 11 tY4 .nil)
def tY1:Tr:= .br 6 tY6 (.br 10 tY3 .nil)
def tY0:Tr:= .br 5 tY1 (.br 10 tY2 .nil)
theorem ZR.tr{os:List Int}(h:os.length<=8)(hb:∀x∈os,-1000<=x/\x<=1000):ZR os (P3 os.length) (KC os.length):=(Vv h A0 hb).drw A0 h
theorem tS{cX n ops y s s1 K}{R0:Prop}(r0:R0)(q:AW cX Tryz.prog y s1 K)(e:R0->BV ops s s1:=by intro h0 N hN;(try simp-dsimp-implicitDefEqProofs(maxSteps:=800000) (disch:=omega)only[go_sem,AP,↓Kt,h0]);exact hN):BU cX n ops y s K:=BY q (e r0)
set_option maxHeartbeats 4000000 in
theorem fD{bs:List Int}{B1:Nat}{H:HP}(hg:B6 bs B1 H)(os:List Int)(X:List (List Int))(Y:List (List (List Int)))(h:AF os X Y)(nx:Nat)(MB:B1<nx):AC Tryz.prog 105 nx H [.q B1 0,AP os X Y] (λBB H' r=>∃r2,Fz H' (JI nx H') r r2/\lZ r2/\B6 bs B1 H'/\∀i,i<nx->i≠B1->H' i=H i):=by
 have hd:=h.drw
 have FU:=h.1.1
 obtain⟨dd1,Kq,Bg,Tw⟩:=id hd
 refine BA AA Tryz.func105 rfl A7 Tryz.ntmps105 Tryz.results105 (λCQ cX=>?_)
 refine C2 ?_;refine AK 3 nx [ints os,rows X,A6 Y] rfl (by simp(disch:=omega)only[A1,A4]) ?_
 refine AG ?_;refine sQ λN hN=>?_;refine BR ?_;refine(T0 os X Y A0 Kq Bg _ (.cons (.refl _) .nil)).AS ?_
 rintro m1 H1 r1 T6 ⟨r0,P,B,rfl,eA,oR,CD⟩
 obtain⟨Z1,O2,O3⟩:=eA.MR
 (try simp-dsimp-implicitDefEqProofs(maxSteps:=800000) (disch:=omega)only[go_sem,Bool.and_true,ints,AP,Z1,O2,O3])
 apply hN;refine AW.seq λN1 B2=>?_;refine AI (λG1 I8=>?_);dsimp only at I8
 have K0:∀i,i<nx->i≠B1->G1 i=H i:=λi hi AQ=>by rw[<-I8];simp(disch:=omega)only[A1];rw[CD i A0];simp(disch:=omega)only[A1]
 have xI:G1 (nx+1)=some [.nl,.nl,.nl]:=by rw[<-I8];simp(disch:=omega)only[A1];rw[CD _ A0];simp(disch:=omega)only[A1,A4]
 have wG:B6 bs B1 G1:=hg.AJ (by rw[<-I8];simp(disch:=omega)only[A1];rw[CD _ A0];simp(disch:=omega)only[A1])
 replace eA:EB (nx+2+4) m1 G1 r0 P B os X Y:=eA.AJ (λi i1 i2=>by rw[<-I8];simp(disch:=omega)only[A1]) (Nat.le_refl _)
 have LZ:G1 (nx+2+2)=some [r0,P,B]:=by rw[<-I8];simp(disch:=omega)only[A4]
 clear I8
 obtain⟨bx,CL⟩:∃bx,nx+2+2=bx:=⟨_,rfl⟩
 rw[CL]at LZ ⊢
 refine AG ?_;refine sQ λN hN=>?_;refine BR ?_;refine(AU wG 6 A0 _).AS ?_
 rintro m2 H2 r2 LN ⟨⟨x2,rfl,mH⟩,KV,DN⟩
 have tT:EB (nx+2+4) m1 H2 r0 P B os X Y:=eA.AJ (λq q1 q2=>DN q A0 A0) (Nat.le_refl _)
 have lL:H2 (nx+1)=some [.nl,.nl,.nl]:=(DN _ A0 A0).trans xI
 have PJ:H2 bx=some [r0,P,B]:=(DN _ A0 A0).trans LZ
 have O1:∀q,q<nx->q≠B1->H2 q=H q:=λq h1 h2=>(DN q A0 h2).trans (K0 q h1 h2)
 have MW:=tT.lcO oR
 have MA:=MW.one
 have IJ:=MW.len
 have l4:=MW.bd
 obtain⟨hlr,hlP,hlB⟩:=tT.lens
 refine BR ?_
 apply hN;apply AW.block;refine C2 ?_;refine AW.cond rfl ?_ ?_<;>intro h1<;>try simp only[cn]at h1
 ·have JZ:=PJ;have ZT:=lL;have fE:∀G9:HP,G9 (m2+2+3)=some (os.map (.i .i64)++[.i .i64 2])->(∀z,z<m2->bk r0≠z+1->z≠bx->G9 z=H2 z)->y6 bs B1 nx H G9 (.h (m2+2+3) 0 (os.length+1)) P B:=λG9 e2 e3=> .mk (tT.ACD (H':=G9) (m':=m2+2+6) (Ow.ints (xs:=os++[2]) (by rw[e2];simp) AB) AB (λi hi=>by simp at hi;omega) (λi i1 i2 i3=>e3 i A0 i3 A0) oR A0 (Nat.le_refl _)) ((e3 _ A0 A0 A0).trans lL) ⟨by simp;omega,Kq,Bg,VO Tw A0⟩ (KV.AJ (e3 _ A0 A0 A0)) (λz hz AQ=>(e3 z A0 A0 A0).trans (O1 z hz AQ))
  apply rQ;simp-dsimp-implicitDefEqProofs(disch:=(first|omega|((repeat refine LC.AT A0 ?_);assumption))) only[go_sem,AP,PJ,MA,IJ,BP (a:=nx+2+4) (b:=m1) (L:=r0) (cs:=os.map (.i .i64)),List.length_map,AY];apply B2;refine QF Z1 O2 O3 JZ ZT ?_;refine AH ?_;refine fC ?_ MB _ (λz hz=>A1 _ _ hz)
  first
  |exact fE _ (by simp(disch:=omega)only[A4,A1]) (λz z1 z2 z3=>by simp(disch:=omega)only[A1,AY])
  |exact fF _ (by simp(disch:=omega)only[A4,A1];rw[List.take_of_length_le AB]) (by simp(disch:=omega)only[A4,A1]) (λz z1 z2=>by simp(disch:=omega)only[A1];exact KA z z1)
  |exact fG _ (by simp(disch:=omega)only[A4,A1,AY]) (by simp(disch:=omega)only[A4,A1,AY];exact f10) (by simp(disch:=omega)only[A4,A1,AY]) (λz z1 z2 z3=>by simp(disch:=omega)only[A1,AY])
  |exact fH _ (λz z1=>A1 _ _ z1)
  |exact MT
 refine C2 ?_;refine AW.cond rfl ?_ ?_<;>intro h2<;>try simp only[cn]at h2
 ·refine AK 5 bx _ rfl PJ ?_;refine AI (λG3 CB=>?_);dsimp only at CB;have S4:EB (nx+2+4) m1 G3 r0 P B os X Y:=tT.AJ (λz z1 z2=>by rw[<-CB,A1 _ _ A0]) (Nat.le_refl _);have W7:G3 (nx+1)=some [.nl,.nl,.nl]:=by rw[<-CB,A1 _ _ A0];exact lL
  have SN:B6 bs B1 G3:=KV.AJ (by rw[<-CB,A1 _ _ A0]);have RW:∀z,z<nx->z≠B1->G3 z=H z:=λz hz AQ=>by rw[<-CB,A1 _ _ A0];exact O1 z hz AQ
  have JZ:True:=trivial;have ZT:=W7;have MT:=y6.mk S4 W7 hd SN RW;clear CB;refine AG ?_;refine tS hlr ?_;refine AW.cond rfl ?_ ?_<;>intro h3<;>try simp only[cn]at h3
  ·obtain⟨q,rfl,hq,hqb,EP⟩:=S4.A86 (k:=0) A0;clear MT;refine L1 AA A7 [true,true,true,false,false,true,false] A7 ?_;(try simp-dsimp-implicitDefEqProofs(maxSteps:=800000) (disch:=omega)only[go_sem,AP,↓Kl,hq]);refine(DY (SN.AJ (A1 _ _ A0)) [4,1,11,0,-2] 5 (A4 _ _ _) rfl A0 A0 _ A0 A0 A0).AS ?_;rintro m4 H4 r4 Bd ⟨⟨x4,rfl,hx4⟩,sX,oQ⟩;have mG: -1000<=x4/\x4<=1000:=by simp at hx4;omega
   have KA:∀z,z<m2->z≠B1->H4 z=G3 z:=λz z1 z2=>(oQ z A0 z2).trans (A1 _ _ A0)
   have hq4:=(KA q A0 A0).trans hq;have ZT:=(KA (nx+1) A0 A0).trans W7;have MT:y6 bs B1 nx H (AT H4 q (some (B3 (os.map (AV.i .i64)) 0 [.i .i64 x4]))) (.h q 0 os.length) P B:= .mk ((EP x4).AJ (λz z1 z2=>tQ (KA z A0 A0)) (Nat.le_refl _)) ((A1 _ _ A0).trans ZT) ⟨by rw[List.length_set];exact dd1,Kq,Bg,aZ Tw mG⟩ (sX.AJ (A1 _ _ A0)) (λz hz AQ=>(A1 _ _ A0).trans ((KA z A0 AQ).trans (RW z hz AQ)));(try simp-dsimp-implicitDefEqProofs(maxSteps:=800000) (disch:=omega)only[go_sem,List.length_map,AP,hq4])
   apply B2;refine QF Z1 O2 O3 JZ ZT ?_;refine AH ?_;refine fC ?_ MB _ (λz hz=>A1 _ _ hz)
   first
   |exact fE _ (by simp(disch:=omega)only[A4,A1]) (λz z1 z2 z3=>by simp(disch:=omega)only[A1,AY])
   |exact fF _ (by simp(disch:=omega)only[A4,A1];rw[List.take_of_length_le AB]) (by simp(disch:=omega)only[A4,A1]) (λz z1 z2=>by simp(disch:=omega)only[A1];exact KA z z1)
   |exact fG _ (by simp(disch:=omega)only[A4,A1,AY]) (by simp(disch:=omega)only[A4,A1,AY];exact f10) (by simp(disch:=omega)only[A4,A1,AY]) (λz z1 z2 z3=>by simp(disch:=omega)only[A1,AY])
   |exact fH _ (λz z1=>A1 _ _ z1)
   |exact MT
  apply AW.skip;apply B2;refine QF Z1 O2 O3 JZ ZT ?_;refine AH ?_;refine fC ?_ MB _ (λz hz=>A1 _ _ hz)
  first
  |exact fE _ (by simp(disch:=omega)only[A4,A1]) (λz z1 z2 z3=>by simp(disch:=omega)only[A1,AY])
  |exact fF _ (by simp(disch:=omega)only[A4,A1];rw[List.take_of_length_le AB]) (by simp(disch:=omega)only[A4,A1]) (λz z1 z2=>by simp(disch:=omega)only[A1];exact KA z z1)
  |exact fG _ (by simp(disch:=omega)only[A4,A1,AY]) (by simp(disch:=omega)only[A4,A1,AY];exact f10) (by simp(disch:=omega)only[A4,A1,AY]) (λz z1 z2 z3=>by simp(disch:=omega)only[A1,AY])
  |exact fH _ (λz z1=>A1 _ _ z1)
  |exact MT
 refine C2 ?_;refine AW.cond rfl ?_ ?_<;>intro h4<;>try simp only[cn]at h4
 ·refine AK 5 bx _ rfl PJ ?_;refine AI (λG3 CB=>?_);dsimp only at CB;have S4:EB (nx+2+4) m1 G3 r0 P B os X Y:=tT.AJ (λz z1 z2=>by rw[<-CB,A1 _ _ A0]) (Nat.le_refl _);have W7:G3 (nx+1)=some [.nl,.nl,.nl]:=by rw[<-CB,A1 _ _ A0];exact lL
  have SN:B6 bs B1 G3:=KV.AJ (by rw[<-CB,A1 _ _ A0]);have RW:∀z,z<nx->z≠B1->G3 z=H z:=λz hz AQ=>by rw[<-CB,A1 _ _ A0];exact O1 z hz AQ
  have JZ:True:=trivial;have ZT:=W7;have MT:=y6.mk S4 W7 hd SN RW;clear CB;refine AG ?_;refine tS hlP ?_;refine AW.cond rfl ?_ ?_<;>intro h5<;>try simp only[cn]at h5
  ·obtain⟨p,rs,rfl,hp,P7,nP,hvw⟩:=S4.AD5 (k:=0) A0;clear MT;have hX0:=Kq.row 0;refine AW.name λN hN=>?_;apply A3L (N:=N)
   ·intro key;refine EO AA A7 [true,true,true,true,true,false,false,false,false,true,false] (tX0) A7 ?_;refine BR ?_;apply gY tX7 (C:=λm H id=>((m2+2+2+2+4+11<=m/\m2+2+2+2+4+11<=id/\id<m)/\H id=some ((X.getD 0 []).map (AV.i .i64))/\∀i,i<m2->H i=G3 i));intro AD7;apply gY tX6 (C:=λm H id=>((m2+2+2+2+4+11<=m/\m2+2+2+2+4+11<=id/\id<m)/\H id=some ((X.getD 0 []).map (AV.i .i64))/\∀i,i<m2->H i=G3 i));intro AD8;apply gY tX5 (C:=λm H id=>((m2+2+2+2+4+11<=m/\m2+2+2+2+4+11<=id/\id<m)/\H id=some ((X.getD 0 []).map (AV.i .i64))/\∀i,i<m2->H i=G3 i)/\H (m2+2+2+2+4+7)=some ([AV.i .i64 0]));intro A9A;apply gY tX4 (C:=λm H id=>((m2+2+2+2+4+11<=m/\m2+2+2+2+4+11<=id/\id<m)/\H id=some ((X.getD 0 []).map (AV.i .i64))/\∀i,i<m2->H i=G3 i));intro AD9;apply ZS tX3;intro A9B;apply ZS tX2;intro ADA;apply ZS tX1;intro ADB
    ·rw[tX0];refine KQ hp P7 ?_
     repeat' (with_reducible refine And.intro ?_ ?_)
     all_goals try (with_reducible first|exact ADB|exact ADA)
    ·rw[tX1];refine KQ hp P7 ?_
     repeat' (with_reducible refine And.intro ?_ ?_)
     all_goals try (with_reducible first|exact A9B)
     refine(Wc (X.getD 0 []) A0 _ (.cons (hvw _ (λi i1 i2=>by first|rfl|exact A1 _ _ A0)) .nil)).AS ?_;rintro m9 H9 r9 gW ⟨⟨x9,rfl,Mg,A3N,A3O⟩,SZ⟩;refine KQ hp P7 ?_
     exact AD9 m9 H9 x9 (And.intro (And.intro gW (And.intro Mg A3N)) (And.intro A3O (λi hi=>(SZ i A0).trans (by first|rfl|exact A1 _ _ A0))))
    ·rw[tX2];refine KQ hp P7 ?_
     repeat' (with_reducible refine And.intro ?_ ?_)
     all_goals try (with_reducible first|exact A9B)
    ·rw[tX3];refine KQ hp P7 ?_
     repeat' (with_reducible refine And.intro ?_ ?_)
     refine(Wc (X.getD 0 []) A0 _ (.cons (hvw _ (λi i1 i2=>by first|rfl|exact A1 _ _ A0)) .nil)).AS ?_;rintro m9 H9 r9 gW ⟨⟨x9,rfl,Mg,A3N,A3O⟩,SZ⟩;refine KQ hp P7 ?_
     exact A9A m9 H9 x9 ⟨And.intro (And.intro gW (And.intro Mg A3N)) (And.intro A3O (λi hi=>(SZ i A0).trans (by first|rfl|exact A1 _ _ A0))),(SZ _ A0).trans (by simp(disch:=omega)only[A4,A1])⟩
    ·intro m9 H9 x9 hC;have hA:=hC;have f7:True:=trivial;have Tx:=(hA.2.2 p A0).trans hp;have pX:=hA.2.1;have A3P:=hA.1;rw[tX4];refine bR Tx P7 pX f7 ?_
     repeat' (with_reducible refine And.intro ?_ ?_)
     all_goals first|exact A9A m9 _ x9 ⟨And.intro hA.1 (And.intro ((A1 _ _ A0).trans pX) (λi hi=>(A1 _ _ A0).trans (hA.2.2 i hi))),A4 _ _ _⟩
    ·intro m9 H9 x9 hC;obtain⟨hA,f7⟩:=hC;have Tx:=(hA.2.2 p A0).trans hp;have pX:=hA.2.1;have A3P:=hA.1;rw[tX5];refine bR Tx P7 pX f7 ?_
     repeat' (with_reducible refine And.intro ?_ ?_)
     all_goals try (with_reducible first|exact AD8 m9 H9 x9 (hA))
    ·intro m9 H9 x9 hC;have hA:=hC;have f7:True:=trivial;have Tx:=(hA.2.2 p A0).trans hp;have pX:=hA.2.1;have A3P:=hA.1;rw[tX6];refine bR Tx P7 pX f7 ?_
     repeat' (with_reducible refine And.intro ?_ ?_)
     all_goals try (with_reducible first|exact AD7 m9 H9 x9 (hA))
    intro m9 H9 x9 hC;have hA:=hC;have f7:True:=trivial;have Tx:=(hA.2.2 p A0).trans hp;have pX:=hA.2.1;have A3P:=hA.1;rw[tX7];refine bR Tx P7 pX f7 ?_
    exact key m9 H9 x9 hA
   intro m5 H5 id5 hC;obtain⟨⟨zU,A6X,ADS⟩,ADT,KA⟩:=hC;have ZT:=(KA (nx+1) A0).trans W7;have fF:∀G9:HP,G9 (m2+2+2+2+4+8)=some ((X.getD 0 []).map (AV.i .i64)++[.i .i64 0])->G9 p=some (B3 rs 0 [.h (m2+2+2+2+4+8) 0 ((X.getD 0 []).length+1)])->(∀z,z<m2->z≠p->G9 z=G3 z)->y6 bs B1 nx H G9 r0 (.h p 0 X.length) B:=λG9 e1 e2 e3=> .mk (S4.QE (H':=G9) (a':=nx+2+4) (m':=m2+2+2+2+4+9) (x:=X.getD 0 []++[0]) hp A0 rfl (Ow.ints (by rw[e1];simp) AB) AB (λi hi=>by simp at hi;omega) e2 (λi i1 i2 i3=>e3 i A0 i3) A0 (Nat.le_refl _)) ((e3 (nx+1) A0 A0).trans W7) ⟨dd1,Kq.set (v:=X.getD 0 []++[0]) (by rw[List.length_append,List.length_singleton];have:=(h.2.2.2 0 (by have:=h.1.2.1;omega)).1.1;omega),Bg,Tw⟩ (SN.AJ (e3 B1 A0 A0)) (λz hz AQ=>(e3 z A0 A0).trans (RW z hz AQ))
   apply hN;apply B2;refine QF Z1 O2 O3 JZ ZT ?_;refine AH ?_;refine fC ?_ MB _ (λz hz=>A1 _ _ hz)
   first
   |exact fE _ (by simp(disch:=omega)only[A4,A1]) (λz z1 z2 z3=>by simp(disch:=omega)only[A1,AY])
   |exact fF _ (by simp(disch:=omega)only[A4,A1];rw[List.take_of_length_le AB]) (by simp(disch:=omega)only[A4,A1]) (λz z1 z2=>by simp(disch:=omega)only[A1];exact KA z z1)
   |exact fG _ (by simp(disch:=omega)only[A4,A1,AY]) (by simp(disch:=omega)only[A4,A1,AY];exact f10) (by simp(disch:=omega)only[A4,A1,AY]) (λz z1 z2 z3=>by simp(disch:=omega)only[A1,AY])
   |exact fH _ (λz z1=>A1 _ _ z1)
   |exact MT
  apply AW.skip;apply B2;refine QF Z1 O2 O3 JZ ZT ?_;refine AH ?_;refine fC ?_ MB _ (λz hz=>A1 _ _ hz)
  first
  |exact fE _ (by simp(disch:=omega)only[A4,A1]) (λz z1 z2 z3=>by simp(disch:=omega)only[A1,AY])
  |exact fF _ (by simp(disch:=omega)only[A4,A1];rw[List.take_of_length_le AB]) (by simp(disch:=omega)only[A4,A1]) (λz z1 z2=>by simp(disch:=omega)only[A1];exact KA z z1)
  |exact fG _ (by simp(disch:=omega)only[A4,A1,AY]) (by simp(disch:=omega)only[A4,A1,AY];exact f10) (by simp(disch:=omega)only[A4,A1,AY]) (λz z1 z2 z3=>by simp(disch:=omega)only[A1,AY])
  |exact fH _ (λz z1=>A1 _ _ z1)
  |exact MT
 refine C2 ?_;refine AW.cond rfl ?_ ?_<;>intro h6<;>try simp only[cn]at h6
 ·refine AK 5 bx _ rfl PJ ?_;refine AI (λG3 CB=>?_);dsimp only at CB;have S4:EB (nx+2+4) m1 G3 r0 P B os X Y:=tT.AJ (λz z1 z2=>by rw[<-CB,A1 _ _ A0]) (Nat.le_refl _);have W7:G3 (nx+1)=some [.nl,.nl,.nl]:=by rw[<-CB,A1 _ _ A0];exact lL
  have SN:B6 bs B1 G3:=KV.AJ (by rw[<-CB,A1 _ _ A0]);have RW:∀z,z<nx->z≠B1->G3 z=H z:=λz hz AQ=>by rw[<-CB,A1 _ _ A0];exact O1 z hz AQ
  have JZ:True:=trivial;have ZT:=W7;have MT:=y6.mk S4 W7 hd SN RW;clear CB;refine AG ?_;refine sQ λN hN=>?_;(try simp-dsimp-implicitDefEqProofs(maxSteps:=800000) (disch:=omega)only[go_sem,AP,↓Kt,hlP])
  refine CH.mk' (λh7=>?_) (λh7=>?_)
  ·try simp only[cn]at h7
   have hX0:=(h.2.2.2 0 (by have:=h.1.2.1;omega)).1.1;obtain⟨p,rs,q,rfl,hp,P7,fA,hq,nP,hqb,hpq,EP⟩:=S4.Jl (k:=0) (l:=0) A0 (by have:=h.1.2.1;omega);clear MT;have MT:y6 bs B1 nx H (AT G3 q (some (B3 ((X.getD 0 []).map (AV.i .i64)) 0 [.i .i64 1]))) r0 (.h p 0 X.length) B:= .mk (EP 1) ((A1 _ _ A0).trans W7) ⟨dd1,Kq.set (by rw[List.length_set];omega),Bg,Tw⟩ (SN.AJ (A1 _ _ A0)) (λz hz AQ=>(A1 _ _ A0).trans (RW z hz AQ));refine c0 hp P7 fA ?_
   refine BR ?_
   apply hN;refine AW.cond rfl ?_ ?_<;>intro h8<;>try simp only[cn]at h8
   ·apply rQ;simp-dsimp-implicitDefEqProofs(maxSteps:=800000) (disch:=omega)only[go_sem,List.length_map,AP,hp,P7,fA,hq];apply B2;refine QF Z1 O2 O3 JZ ZT ?_;refine AH ?_;refine fC ?_ MB _ (λz hz=>A1 _ _ hz)
    first
    |exact fE _ (by simp(disch:=omega)only[A4,A1]) (λz z1 z2 z3=>by simp(disch:=omega)only[A1,AY])
    |exact fF _ (by simp(disch:=omega)only[A4,A1];rw[List.take_of_length_le AB]) (by simp(disch:=omega)only[A4,A1]) (λz z1 z2=>by simp(disch:=omega)only[A1];exact KA z z1)
    |exact fG _ (by simp(disch:=omega)only[A4,A1,AY]) (by simp(disch:=omega)only[A4,A1,AY];exact f10) (by simp(disch:=omega)only[A4,A1,AY]) (λz z1 z2 z3=>by simp(disch:=omega)only[A1,AY])
    |exact fH _ (λz z1=>A1 _ _ z1)
    |exact MT
   exfalso;have:=h.1.2.1;first|omega|(simp at h8;omega)
  try simp only[cn]at h7
  refine BR ?_
  apply hN;refine B4 rfl ?_;apply AW.skip;apply B2;refine QF Z1 O2 O3 JZ ZT ?_;refine AH ?_;refine fC ?_ MB _ (λz hz=>A1 _ _ hz)
  first
  |exact fE _ (by simp(disch:=omega)only[A4,A1]) (λz z1 z2 z3=>by simp(disch:=omega)only[A1,AY])
  |exact fF _ (by simp(disch:=omega)only[A4,A1];rw[List.take_of_length_le AB]) (by simp(disch:=omega)only[A4,A1]) (λz z1 z2=>by simp(disch:=omega)only[A1];exact KA z z1)
  |exact fG _ (by simp(disch:=omega)only[A4,A1,AY]) (by simp(disch:=omega)only[A4,A1,AY];exact f10) (by simp(disch:=omega)only[A4,A1,AY]) (λz z1 z2 z3=>by simp(disch:=omega)only[A1,AY])
  |exact fH _ (λz z1=>A1 _ _ z1)
  |exact MT
 refine C2 ?_;refine AW.cond rfl ?_ ?_<;>intro h9<;>try simp only[cn]at h9
 ·refine AK 5 bx _ rfl PJ ?_;refine AI (λG3 CB=>?_);dsimp only at CB;have S4:EB (nx+2+4) m1 G3 r0 P B os X Y:=tT.AJ (λz z1 z2=>by rw[<-CB,A1 _ _ A0]) (Nat.le_refl _);have W7:G3 (nx+1)=some [.nl,.nl,.nl]:=by rw[<-CB,A1 _ _ A0];exact lL
  have SN:B6 bs B1 G3:=KV.AJ (by rw[<-CB,A1 _ _ A0]);have RW:∀z,z<nx->z≠B1->G3 z=H z:=λz hz AQ=>by rw[<-CB,A1 _ _ A0];exact O1 z hz AQ
  have JZ:True:=trivial;have ZT:=W7;have MT:=y6.mk S4 W7 hd SN RW;clear CB;refine AG ?_;refine tS hlB ?_;refine AW.cond rfl ?_ ?_<;>intro VZ<;>try simp only[cn]at VZ
  ·obtain⟨b,bs1,rfl,hb,P8,AF0,hvw,EP⟩:=S4.A99 (k:=0) A0;clear MT;have U2:0<os.length:=by have:=h.1.2.2;omega
   obtain⟨q0,rfl,O0,AF1,-⟩:=S4.A86 (k:=0) U2;have hY0:=Bg.row 0;have Kv:=hY0.n;refine AW.name λN hN=>?_;apply AD6 (N:=N)
   ·intro key;refine EO AA A7 [true,true,true,true,true,false,false,true,true,true,false,false,false,true,false] (tY0) A7 ?_;refine BR ?_;apply Ku A3M (C:=λm H L cs=>(m2+2+2+2+2+2+4+15<=m/\gN (m2+2+2+2+2+2+4+15) m H L cs ((Y.getD 0 []).map ints)/\∀i,i<m2->H i=G3 i)/\H (m2+2+2+2+2+2+4+10)=some (List.replicate os.length (AV.i .i64 0)));intro A9C;apply Ku tY9 (C:=λm H L cs=>(m2+2+2+2+2+2+4+15<=m/\gN (m2+2+2+2+2+2+4+15) m H L cs ((Y.getD 0 []).map ints)/\∀i,i<m2->H i=G3 i)/\H (m2+2+2+2+2+2+4+10)=some (List.replicate os.length (AV.i .i64 0)));intro ADC;apply Ku tY8 (C:=λm H L cs=>(m2+2+2+2+2+2+4+15<=m/\gN (m2+2+2+2+2+2+4+15) m H L cs ((Y.getD 0 []).map ints)/\∀i,i<m2->H i=G3 i)/\H (m2+2+2+2+2+2+4+10)=some (List.replicate os.length (AV.i .i64 0))/\H (m2+2+2+2+2+2+4+11)=some ([AV.h (m2+2+2+2+2+2+4+10) 0 os.length]));intro A9D;apply Ku tY7 (C:=λm H L cs=>(m2+2+2+2+2+2+4+15<=m/\gN (m2+2+2+2+2+2+4+15) m H L cs ((Y.getD 0 []).map ints)/\∀i,i<m2->H i=G3 i)/\H (m2+2+2+2+2+2+4+10)=some (List.replicate os.length (AV.i .i64 0)));intro A9E;apply Ku tY6 (C:=λm H L cs=>(m2+2+2+2+2+2+4+15<=m/\gN (m2+2+2+2+2+2+4+15) m H L cs ((Y.getD 0 []).map ints)/\∀i,i<m2->H i=G3 i));intro ADD;apply ZS tY5;intro A9F;apply ZS tY4;intro ADE;apply ZS tY3;intro A9G;apply ZS tY2;intro ADF;apply ZS tY1;intro ADG
    ·rw[tY0];refine KQ hb P8 ?_
     repeat' (with_reducible refine And.intro ?_ ?_)
     all_goals try (with_reducible first|exact ADG|exact ADF)
    ·rw[tY1];refine KQ hb P8 ?_
     repeat' (with_reducible refine And.intro ?_ ?_)
     all_goals try (with_reducible first|exact A9G)
     refine(tR (Y.getD 0 []) hY0 _ (.cons (hvw _ (λi i1 i2=>by first|rfl|(simp(disch:=omega)only[A1]))) .nil)).AS ?_;rintro m9 H9 L9 gW ⟨⟨ZU,qJ⟩,SZ⟩;refine KQ hb P8 ?_
     exact ADD m9 H9 L9 ZU (And.intro gW (And.intro qJ (λi hi=>(SZ i A0).trans (by first|rfl|(simp(disch:=omega)only[A1])))))
    ·rw[tY2];refine KQ hb P8 ?_
     repeat' (with_reducible refine And.intro ?_ ?_)
     all_goals try (with_reducible first|exact A9G|exact ADE)
    ·rw[tY3];refine KQ hb P8 ?_
     repeat' (with_reducible refine And.intro ?_ ?_)
     all_goals try (with_reducible first|exact A9F)
     refine(tR (Y.getD 0 []) hY0 _ (.cons (hvw _ (λi i1 i2=>by first|rfl|(simp(disch:=omega)only[A1]))) .nil)).AS ?_;rintro m9 H9 L9 gW ⟨⟨ZU,qJ⟩,SZ⟩;refine KQ hb P8 ?_
     exact A9E m9 H9 L9 ZU ⟨And.intro gW (And.intro qJ (λi hi=>(SZ i A0).trans (by first|rfl|(simp(disch:=omega)only[A1])))),(SZ _ A0).trans (by simp(disch:=omega)only[A4,A1])⟩
    ·rw[tY4];refine KQ hb P8 ?_
     repeat' (with_reducible refine And.intro ?_ ?_)
     all_goals try (with_reducible first|exact A9F)
    ·rw[tY5];refine KQ hb P8 ?_
     repeat' (with_reducible refine And.intro ?_ ?_)
     refine(tR (Y.getD 0 []) hY0 _ (.cons (hvw _ (λi i1 i2=>by first|rfl|(simp(disch:=omega)only[A1]))) .nil)).AS ?_;rintro m9 H9 L9 gW ⟨⟨ZU,qJ⟩,SZ⟩;refine KQ hb P8 ?_
     exact A9D m9 H9 L9 ZU ⟨And.intro gW (And.intro qJ (λi hi=>(SZ i A0).trans (by first|rfl|(simp(disch:=omega)only[A1])))),(SZ _ A0).trans (by simp(disch:=omega)only[A4,A1]),(SZ _ A0).trans (by simp(disch:=omega)only[A4,A1])⟩
    ·intro m9 H9 L9 ZU hC;have hA:=hC;have f10:True:=trivial;have f11:True:=trivial;have VT:=(hA.2.2 b A0).trans hb;have hm8:=hA.1;have MW:=hA.2.1.1;have MA:=MW.one;have IJ:=MW.len;have l4:=MW.bd;have JN:ZU.length<=1048576:=by rw[hA.2.1.len,List.length_map];exact Kv
     rw[tY6];try simp-dsimp-implicitDefEqProofs(disch:=(first|omega|((repeat refine LC.AT A0 ?_);assumption))) only[go_sem,VT,P8,MA,IJ,f10,f11,XM,AY,List.length_map,BP (a:=m2+2+2+2+2+2+4+15) (b:=m9) (L:=L9) (cs:=ZU)]
     repeat' (with_reducible refine And.intro ?_ ?_)
     all_goals first|exact A9E m9 _ L9 ZU ⟨And.intro hA.1 (And.intro (hA.2.1.AJ (λi i1 i2=>A1 _ _ A0) (Nat.le_refl _)) (λi hi=>(A1 _ _ A0).trans (hA.2.2 i hi))),A4 _ _ _⟩
    ·intro m9 H9 L9 ZU hC;obtain⟨hA,f10⟩:=hC;have f11:True:=trivial;have VT:=(hA.2.2 b A0).trans hb;have hm8:=hA.1;have MW:=hA.2.1.1;have MA:=MW.one;have IJ:=MW.len;have l4:=MW.bd;have JN:ZU.length<=1048576:=by rw[hA.2.1.len,List.length_map];exact Kv
     rw[tY7];try simp-dsimp-implicitDefEqProofs(disch:=(first|omega|((repeat refine LC.AT A0 ?_);assumption))) only[go_sem,VT,P8,MA,IJ,f10,f11,XM,AY,List.length_map,BP (a:=m2+2+2+2+2+2+4+15) (b:=m9) (L:=L9) (cs:=ZU)]
     repeat' (with_reducible refine And.intro ?_ ?_)
     all_goals first|exact A9D m9 _ L9 ZU ⟨And.intro hA.1 (And.intro (hA.2.1.AJ (λi i1 i2=>A1 _ _ A0) (Nat.le_refl _)) (λi hi=>(A1 _ _ A0).trans (hA.2.2 i hi))),(A1 _ _ A0).trans f10,A4 _ _ _⟩
    ·intro m9 H9 L9 ZU hC;obtain⟨hA,f10,f11⟩:=hC;have VT:=(hA.2.2 b A0).trans hb;have hm8:=hA.1;have MW:=hA.2.1.1;have MA:=MW.one;have IJ:=MW.len;have l4:=MW.bd;have JN:ZU.length<=1048576:=by rw[hA.2.1.len,List.length_map];exact Kv
     rw[tY8];try simp-dsimp-implicitDefEqProofs(disch:=(first|omega|((repeat refine LC.AT A0 ?_);assumption))) only[go_sem,VT,P8,MA,IJ,f10,f11,XM,AY,List.length_map,BP (a:=m2+2+2+2+2+2+4+15) (b:=m9) (L:=L9) (cs:=ZU)]
     repeat' (with_reducible refine And.intro ?_ ?_)
     all_goals try (with_reducible first|exact ADC m9 H9 L9 ZU ⟨hA,f10⟩)
    ·intro m9 H9 L9 ZU hC;obtain⟨hA,f10⟩:=hC;have f11:True:=trivial;have VT:=(hA.2.2 b A0).trans hb;have hm8:=hA.1;have MW:=hA.2.1.1;have MA:=MW.one;have IJ:=MW.len;have l4:=MW.bd;have JN:ZU.length<=1048576:=by rw[hA.2.1.len,List.length_map];exact Kv
     rw[tY9];try simp-dsimp-implicitDefEqProofs(disch:=(first|omega|((repeat refine LC.AT A0 ?_);assumption))) only[go_sem,VT,P8,MA,IJ,f10,f11,XM,AY,List.length_map,BP (a:=m2+2+2+2+2+2+4+15) (b:=m9) (L:=L9) (cs:=ZU)]
     repeat' (with_reducible refine And.intro ?_ ?_)
     all_goals try (with_reducible first|exact A9C m9 H9 L9 ZU ⟨hA,f10⟩)
    intro m9 H9 L9 ZU hC;obtain⟨hA,f10⟩:=hC;have f11:True:=trivial;have VT:=(hA.2.2 b A0).trans hb;have hm8:=hA.1;have MW:=hA.2.1.1;have MA:=MW.one;have IJ:=MW.len;have l4:=MW.bd;have JN:ZU.length<=1048576:=by rw[hA.2.1.len,List.length_map];exact Kv
    rw[A3M];try simp-dsimp-implicitDefEqProofs(disch:=(first|omega|((repeat refine LC.AT A0 ?_);assumption))) only[go_sem,VT,P8,MA,IJ,f10,f11,XM,AY,List.length_map,BP (a:=m2+2+2+2+2+2+4+15) (b:=m9) (L:=L9) (cs:=ZU)]
    exact key m9 H9 L9 ZU (And.intro hA f10)
   intro m6 H6 L6 cs6 hC;obtain⟨⟨hm6,qJ,dT⟩,f10⟩:=hC;have l4:=qJ.1.bd;have ZT:=(dT (nx+1) A0).trans W7;have fG:∀G9:HP,G9 (m2+2+2+2+2+2+4+12)=some (cs6++[.h (m2+2+2+2+2+2+4+10) 0 os.length])->G9 (m2+2+2+2+2+2+4+10)=some (List.replicate os.length (.i .i64 0))->G9 b=some (B3 bs1 0 [.h (m2+2+2+2+2+2+4+12) 0 (cs6.length+1)])->(∀z,z≠b->(z<m2\/m2+2+2+2+2+2+4+15<=z)->bk L6≠z+1->G9 z=H6 z)->y6 bs B1 nx H G9 (.h q0 0 os.length) P (.h b 0 Y.length):=λG9 e1 e2 e3 e4=>by
    obtain⟨MW,ids,g1,g2,g3⟩:=qJ;have ho:Ow G9 (.h (m2+2+2+2+2+2+4+10) 0 os.length) (ints (List.replicate os.length 0)) [m2+2+2+2+2+2+4+10]:=Ow.ints (by rw[e2];simp) AB;obtain⟨CU,k1,k2,k3,k4⟩:=g1.more (H':=G9) (id:=m2+2+2+2+2+2+4+12) MW ho e1 (λi hi AQ=>e4 i (by have:=g3 i hi;omega) (by have:=g3 i hi;omega) AQ) g2;have Vo:=(h.2.2.2 0 U2).2.1;have hz:(Y.getD 0 []).map ints++[ints (List.replicate os.length 0)]=(Y.getD 0 []++[List.replicate os.length 0]).map ints:=AB;rw[hz,<-IU]at k1;have hz2:BO (Y.getD 0 []++[List.replicate os.length 0]):=⟨by rw[List.length_append,List.length_singleton];omega,VO hY0.v (by simp;omega)⟩;refine .mk (EP G9 _ _ _ (nx+2+4) m6 k1 ?_ ?_ e3 (λi i1 i2 i3=>(e4 i i3 A0 A0).trans (dT i A0)) A0 (Nat.le_refl _)) ((e4 _ A0 A0 A0).trans ZT) ⟨dd1,Kq,Bg.set hz2,Tw⟩ (SN.AJ ((e4 _ A0 A0 A0).trans (dT _ A0))) (λz hz AQ=>((e4 _ A0 A0 A0).trans (dT _ A0)).trans (RW z hz AQ))
    ·rw[List.nodup_cons,List.nodup_append];refine⟨λhm=>?_,k3,AB,λx hx y hy e=>?_⟩
     ·rcases List.mem_append.1 hm with hm|hm
      ·have:=g3 _ (k2 _ hm);omega
      simp at hm
     have:=g3 _ (k2 _ hx);simp at hy;omega
    intro i hi;rcases List.mem_cons.1 hi with rfl|hi
    ·omega
    rcases List.mem_append.1 hi with hi|hi
    ·have:=g3 _ (k2 _ hi);omega
    simp at hi;omega
   apply hN;apply B2;refine QF Z1 O2 O3 JZ ZT ?_;refine AH ?_;refine fC ?_ MB _ (λz hz=>A1 _ _ hz)
   first
   |exact fE _ (by simp(disch:=omega)only[A4,A1]) (λz z1 z2 z3=>by simp(disch:=omega)only[A1,AY])
   |exact fF _ (by simp(disch:=omega)only[A4,A1];rw[List.take_of_length_le AB]) (by simp(disch:=omega)only[A4,A1]) (λz z1 z2=>by simp(disch:=omega)only[A1];exact KA z z1)
   |exact fG _ (by simp(disch:=omega)only[A4,A1,AY]) (by simp(disch:=omega)only[A4,A1,AY];exact f10) (by simp(disch:=omega)only[A4,A1,AY]) (λz z1 z2 z3=>by simp(disch:=omega)only[A1,AY])
   |exact fH _ (λz z1=>A1 _ _ z1)
   |exact MT
  apply AW.skip;apply B2;refine QF Z1 O2 O3 JZ ZT ?_;refine AH ?_;refine fC ?_ MB _ (λz hz=>A1 _ _ hz)
  first
  |exact fE _ (by simp(disch:=omega)only[A4,A1]) (λz z1 z2 z3=>by simp(disch:=omega)only[A1,AY])
  |exact fF _ (by simp(disch:=omega)only[A4,A1];rw[List.take_of_length_le AB]) (by simp(disch:=omega)only[A4,A1]) (λz z1 z2=>by simp(disch:=omega)only[A1];exact KA z z1)
  |exact fG _ (by simp(disch:=omega)only[A4,A1,AY]) (by simp(disch:=omega)only[A4,A1,AY];exact f10) (by simp(disch:=omega)only[A4,A1,AY]) (λz z1 z2 z3=>by simp(disch:=omega)only[A1,AY])
  |exact fH _ (λz z1=>A1 _ _ z1)
  |exact MT
 refine sQ λN hN=>?_;refine BR ?_;refine(MC [7,7,7,7] AB _ (.cons (XQ (os:=[7,7,7,7]) (A4 _ _ _) rfl) .nil)).AS ?_
 rintro m7 H7 r7 hm7 ⟨⟨r9,P9,B9,rfl,Ah⟩,l5⟩
 obtain⟨Z1,O2,O3⟩:=Ah.MR
 have Wb:∀z,z<m2->H7 z=H2 z:=λz hz=>(l5 z A0).trans (A1 _ _ A0)
 have S1:=(Wb bx A0).trans PJ
 (try simp-dsimp-implicitDefEqProofs(maxSteps:=800000) (disch:=omega)only[go_sem,Bool.and_true,AP,Z1,O2,O3,S1])
 apply hN;refine AI (λG7 XW=>?_);dsimp only at XW
 have JZ:G7 bx=some [r9,P9,B9]:=by rw[<-XW,A4]
 have tP:G7 (nx+1)=some [.nl,.nl,.nl]:=by rw[<-XW,A1 _ _ A0];exact(Wb _ A0).trans lL
 have jB:B6 bs B1 G7:=KV.AJ (by rw[<-XW,A1 _ _ A0];exact Wb _ A0)
 have tO:∀z,z<nx->z≠B1->G7 z=H z:=λz hz AQ=>by rw[<-XW,A1 _ _ A0,Wb z A0];exact O1 z hz AQ
 replace Ah:=Ah.AJ (H':=G7) (m':=m7) (λz z1 z2=>by rw[<-XW,A1 _ _ A0]) (Nat.le_refl _)
 clear XW
 refine AG ?_;refine sQ λN hN=>?_;refine BR ?_;refine(AU jB 2 A0 _).AS ?_
 rintro m8 H8 r8 hm8 ⟨⟨x8,rfl,hx8⟩,hg8,SZ⟩
 replace JZ:=(SZ bx A0 A0).trans JZ
 have ZT:=(SZ (nx+1) A0 A0).trans tP
 have hl8:∀z,z<nx->z≠B1->H8 z=H z:=λz hz AQ=>(SZ z A0 AQ).trans (tO z hz AQ)
 have MT:y6 bs B1 nx H H8 r9 P9 B9:= .mk ((Ah.AJ (H':=H8) (λz z1 z2=>SZ z A0 A0) (Nat.le_refl _)).wide A0 (Nat.le_refl _)) ZT (ZR.tr AB BX) hg8 hl8
 refine BR ?_
 apply hN;refine AW.cond rfl ?_ ?_<;>intro LL<;>try simp only[cn]at LL
 ·refine KT ?_;refine(MC [2,2,2,2,2,2,2] AB _ (.cons (XQ (os:=[2,2,2,2,2,2,2]) (A4 _ _ _) rfl) .nil)).AS ?_;rintro m10 H10 r10 A7D ⟨⟨r11,P11,B11,rfl,Wd⟩,Tt⟩;obtain⟨Z1,O2,O3⟩:=Wd.MR;have pU:∀z,z<m8->H10 z=H8 z:=λz hz=>(Tt z A0).trans (A1 _ _ A0)
  have ADH:=(pU bx A0).trans JZ;replace ZT:=(pU (nx+1) A0).trans ZT;have fH:∀G9:HP,(∀z,z≠bx->G9 z=H10 z)->y6 bs B1 nx H G9 r11 P11 B11:=λG9 e=> .mk ((Wd.AJ (H':=G9) (λz z1 z2=>e z A0) (Nat.le_refl _)).wide A0 (Nat.le_refl _)) ((e _ A0).trans ZT) (ZR.tr AB BX) (hg8.AJ ((e _ A0).trans (pU _ A0))) (λz hz AQ=>((e _ A0).trans (pU _ A0)).trans (hl8 z hz AQ))
  (try simp-dsimp-implicitDefEqProofs(maxSteps:=800000) (disch:=omega)only[go_sem,Bool.and_true,AP,Z1,O2,O3,ADH])
  apply B2;refine QF Z1 O2 O3 JZ ZT ?_;refine AH ?_;refine fC ?_ MB _ (λz hz=>A1 _ _ hz)
  first
  |exact fE _ (by simp(disch:=omega)only[A4,A1]) (λz z1 z2 z3=>by simp(disch:=omega)only[A1,AY])
  |exact fF _ (by simp(disch:=omega)only[A4,A1];rw[List.take_of_length_le AB]) (by simp(disch:=omega)only[A4,A1]) (λz z1 z2=>by simp(disch:=omega)only[A1];exact KA z z1)
  |exact fG _ (by simp(disch:=omega)only[A4,A1,AY]) (by simp(disch:=omega)only[A4,A1,AY];exact f10) (by simp(disch:=omega)only[A4,A1,AY]) (λz z1 z2 z3=>by simp(disch:=omega)only[A1,AY])
  |exact fH _ (λz z1=>A1 _ _ z1)
  |exact MT
 apply AW.skip;apply B2;refine QF Z1 O2 O3 JZ ZT ?_;refine AH ?_;refine fC ?_ MB _ (λz hz=>A1 _ _ hz)
 first
 |exact fE _ (by simp(disch:=omega)only[A4,A1]) (λz z1 z2 z3=>by simp(disch:=omega)only[A1,AY])
 |exact fF _ (by simp(disch:=omega)only[A4,A1];rw[List.take_of_length_le AB]) (by simp(disch:=omega)only[A4,A1]) (λz z1 z2=>by simp(disch:=omega)only[A1];exact KA z z1)
 |exact fG _ (by simp(disch:=omega)only[A4,A1,AY]) (by simp(disch:=omega)only[A4,A1,AY];exact f10) (by simp(disch:=omega)only[A4,A1,AY]) (λz z1 z2 z3=>by simp(disch:=omega)only[A1,AY])
 |exact fH _ (λz z1=>A1 _ _ z1)
 |exact MT
theorem fI{bs:List Int}{B1:Nat}{H:HP}(hg:B6 bs B1 H)(os:List Int)(X:List (List Int))(Y:List (List (List Int)))(h:AF os X Y)(nx:Nat)(MB:B1<nx):AC Tryz.prog 105 nx H [.q B1 0,AP os X Y] (sK bs B1 nx H lZ):=YJ MB (fD hg os X Y h nx MB)
end Go.Proofs.YtgknbnkmilddhaaGreat
