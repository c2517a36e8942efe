import Derived.Test.YtgknbnkmilddhaaGreatZ15
import Derived.Test.YtgknbnkmilddhaaGreatZ17
import Derived.Test.YtgknbnkmilddhaaGreatZ18
set_option linter.unusedVariables false
set_option linter.unusedSimpArgs false

namespace Go.Proofs.YtgknbnkmilddhaaGreat
def CpV(n:Nat)(nx BB:Nat)(H H':HP)(r:AV)(a:List V):Prop:=(∃id,r= .h id 0 a.length/\nx<=id/\id<BB/\H'=AT H id (some (a.map (vi n))))\/(a.length=0/\r= .v 0 []/\H'=H)
theorem NL(n:Nat)(a:List V)(ha:a.length<=1099511627776)(nx:Nat)(H:HP):AC Tryz.prog 147 nx H [AZ n a] (λBB H' r=>CpV n nx BB H H' r a):=by
  refine uY ?_;refine BA AA Tryz.func147 rfl A7 Tryz.ntmps147 Tryz.results147 (λCQ cX=>?_);refine sQ λN hN=>?_;simp-dsimp-implicitDefEqProofs(maxSteps:=800000) (disch:=omega)only[go_sem,AZ];apply hN;refine AW.seq λN1 B2=>?_;refine sQ λN hN=>?_;(try simp-dsimp-implicitDefEqProofs(maxSteps:=800000) (disch:=omega)only[go_sem,AZ]);refine⟨⟨_,_,rfl,rfl⟩,⟨λh0=>?_,?_⟩⟩
  · apply hN;refine CI rfl ?_;refine B8 ?_;refine AH ?_;exact⟨H,Le.refl _,.inr (.inr ⟨h0,rfl,rfl⟩)⟩
  apply hN;refine B4 rfl ?_;apply AW.skip;apply B2;refine sQ λN hN=>?_;simp-dsimp-implicitDefEqProofs(maxSteps:=800000) (disch:=omega)only[go_sem,I1,AZ];apply hN;refine AH ?_;refine⟨_,?_,.inl (.inl ⟨_,rfl,?_,?_,rfl⟩)⟩
  · intro i c hi;have C4:H i=some c->i<nx:=λh=>by apply Classical.byContradiction;intro hn;rw[CQ i A0]at h;cases h
    simp only[AT]at hi ⊢;split at hi
    · rename_i e;subst e;cases hi;repeat (first|rw[if_pos rfl]|rw[if_neg A0])
    have:=C4 hi;repeat rw[if_neg A0]
    exact hi
  · omega
  omega
theorem QW{pre cs:List AV}:(pre++cs).getD pre.length .j=cs.getD 0 .j:=by
  simp only[List.getD_eq_getElem?_getD];rw[List.getElem?_append_right (Nat.le_refl _),Nat.sub_self]
theorem KI{n:Nat}{pre:List AV}{a:AV}{Q:List V}:List.take Q.length (List.drop (pre.length+1) (pre++a::Q.map (vi n)))=Q.map (vi n):=by
  rw[List.drop_append,List.drop_eq_nil_of_le A0,List.nil_append,show pre.length+1-pre.length=1 by omega];exact List.take_of_length_le AB
noncomputable def iU(P:Pc)(t:Nat->Option V)(us:List V):Nat->Option V:=zD P (aG P t us) t us
theorem Qq{P:Pc}{s:Nat×V}(h:0<=UY (P.o s.1) (s.2 s.1)):rep (M P 0) s.2 (UY (P.o s.1) (s.2 s.1)).toNat=V1 P s:=by
  unfold V1 RK;rw[if_neg A0]
theorem kV{P:Pc}{y:V}{k:Int}(h:0<=k):rep (M P 0) y k.toNat=RK P y k:=by
  unfold RK;rw[if_neg A0]
theorem wD{H G:HP}{nx b e:Nat}{d c:Option (List AV)}(CQ:∀i,nx<=i->H i=none)(he:G e=c)(hbe:b≠e)(hG:∀i,i<nx->i≠e->G i=H i):Le (AT (AT H e c) b d) (AT G b d):=by
  intro i f hi;by_cases hb:i=b
  · subst hb;rw[A4]at hi ⊢;exact hi
  rw[A1 _ _ hb]at hi ⊢;by_cases h1:i=e
  · subst h1;rw[A4]at hi;rw[he];exact hi
  rw[A1 _ _ h1]at hi;by_cases hn:i<nx
  · rw[hG i hn h1];exact hi
  rw[CQ i A0]at hi;cases hi
theorem wE{H G:HP}{nx b e:Nat}{d d' c:Option (List AV)}(CQ:∀i,nx<=i->H i=none)(hd:d=d')(he:G e=c)(hbe:b≠e)(hG:∀i,i<nx->i≠e->G i=H i):Le (AT (AT H e c) b d) (AT G b d'):=by
  subst hd;exact wD CQ he hbe hG
section
variable(os:List Int)(pw:List (List Int))(cj:List (List (List Int)))
theorem LF{cX n ops y s s1 K}{R0 R1:Prop}(r0:R0)(r1:R1)(q:AW cX Tryz.prog y s1 K)(e:R0->R1->BV ops s s1:=by intro h0 h1 N hN;(try simp-dsimp-implicitDefEqProofs(maxSteps:=800000) (disch:=omega)only[go_sem,Int.toNat_one,Nat.add_sub_cancel,Nat.min_self,KI,QW,eq_self,JB,AL,ints,DB,GQ,I1,A5,FM,EA,IP,vi,AZ,h0,h1]);exact hN):BU cX n ops y s K:=BY q (e r0 r1)
theorem YD{P Q:Prop}{R0 R1:Prop}(r0:R0)(r1:R1)(q:Q)(e:R0->R1->Q->P:=by intro h0 h1 q;(try simp-dsimp-implicitDefEqProofs(maxSteps:=800000) (disch:=omega)only[go_sem,Int.toNat_one,Nat.add_sub_cancel,Nat.min_self,KI,QW,eq_self,JB,AL,ints,DB,GQ,I1,A5,FM,EA,IP,vi,AZ,h0,h1]);exact q):P:=e r0 r1 q
theorem wF{cX n ops s}{K:Exit->St->Prop}{Q:Prop}{R0 R1:Prop}(r0:R0)(r1:R1)(q:Q)(e:R0->R1->Q->DW env Tryz.prog ops s.nx ops 0 ⟨s.t,s.H,s.nx+ops.length⟩ (K .normal):=by intro h0 h1 q;(try simp-dsimp-implicitDefEqProofs(maxSteps:=800000) (disch:=omega)only[go_sem,Int.toNat_one,Nat.add_sub_cancel,Nat.min_self,KI,QW,eq_self,JB,AL,ints,DB,GQ,I1,A5,FM,EA,IP,vi,AZ,h0,h1]);exact q):AW cX Tryz.prog (.region n ops.toArray false) s K:=rQ (e r0 r1 q)
theorem Gd{P f nx H Zz r}{K:Nat->HP->AV->Prop}{Q:Prop}{R0 R1:Prop}(x:BI P f Zz r)(r0:R0)(r1:R1)(q:Q)(e:R0->R1->Q->K nx H r:=by intro h0 h1 q;(try simp-dsimp-implicitDefEqProofs(maxSteps:=800000) (disch:=omega)only[go_sem,Int.toNat_one,Nat.add_sub_cancel,Nat.min_self,KI,QW,eq_self,JB,AL,ints,DB,GQ,I1,A5,FM,EA,IP,vi,AZ,h0,h1]);exact q):AC P f nx H Zz K:=AC.pure (.of x) (e r0 r1 q)
theorem Vh{P Q:Prop}{R0 R1:Prop}(r0:R0)(r1:R1)(q:Q)(e:R0->R1->Q->P:=by intro h0 h1 q;(try simp-dsimp-implicitDefEqProofs(maxSteps:=800000) (disch:=omega)only[go_sem,Int.toNat_one,List.drop_nil,List.drop_succ_cons,List.drop_zero,List.take_nil,List.take_succ_cons,List.take_zero,Nat.add_sub_cancel,Nat.min_self,KI,QW,eq_self,JB,AL,BW,BE,BF,ints,DB,GQ,I1,A5,FM,EA,IP,vi,AZ,AR,h0,h1]);exact q):P:=e r0 r1 q
set_option maxRecDepth 20000 in
set_option maxHeartbeats 4000000 in
theorem oI(h:AF os pw cj)(hc:CG (pc os pw cj) 0)(t0:Nat->Option V)(C9:OW (pc os pw cj) t0)(us:List V)(hl:us.length<=1000)(ADW:0<us.length)(hu:∀x∈us,T (pc os pw cj) 0 x)(nx:Nat)(H:HP)(ids GC:Nat)(AQ:ids≠GC)(DZ:H ids=some [A5 os pw cj,.h GC 0 os.length])(D9:H GC=some (Z4 os.length t0)):AC Tryz.prog 75 nx H [.q ids 0,AZ os.length us] (λ_ H' r=>r= .b (tf (iU (pc os pw cj) t0 us≠t0))/\H'=AT H GC (some (Z4 os.length (iU (pc os pw cj) t0 us)))):=by
 have FU:=h.1.1
 have hv:=h.val
 have IY:=h.2.1
 have PH:(pc os pw cj).n=os.length:=rfl
 have hM0:aG (pc os pw cj) t0 us<=2000:=by
  have h1:OG t0 os.length*(os.length+3)<=6*9:=Nat.mul_le_mul (Nat.le_trans (A1A _) FU) A0;show OG t0 os.length*(os.length+3)+us.length<=2000
  omega
 obtain⟨R,hR⟩:∃R,iU (pc os pw cj) t0 us=R:=⟨_,rfl⟩
 rw[hR]
 refine BA AA Tryz.func75 rfl A7 Tryz.ntmps75 Tryz.results75 (λCQ cX=>?_)
 have ABH:ids<nx:=by
  apply Classical.byContradiction;intro hn;rw[CQ ids A0]at DZ;cases DZ
 have ABI:GC<nx:=by
  apply Classical.byContradiction;intro hn;rw[CQ GC A0]at D9;cases D9
 refine LF DZ D9 ?_;refine LF DZ D9 ?_;refine sQ λN hN=>?_;refine YD DZ D9 ?_
 refine(NL os.length us A0 _ _).AS ?_
 rintro Us H1 r iJ (⟨id0,rfl,rR,kE,rfl⟩|⟨h0,-,-⟩)
 rotate_left
 ·omega
 refine YD DZ D9 ?_
 apply hN;refine AW.seq λN1 B2=>?_;apply AW.block;refine A8 (α:=(Nat->Option V)×List V×Nat×List AV×Nat) (λx=>sl 109 [(0,.q ids 0),(5,.b (tf (x.1≠t0))),(6,.h x.2.2.1 x.2.2.2.1.length x.2.1.length)]) (λx=>AT (AT H GC (some (Z4 os.length x.1))) x.2.2.1 (some (x.2.2.2.1++x.2.1.map (vi os.length)))) (λx m=>(nx<=x.2.2.1/\x.2.2.1<m/\x.2.2.2.2<=2000)/\OW (pc os pw cj) x.1/\(∀y∈x.2.1,T (pc os pw cj) 0 y)/\(∀d y,t0 d=some y->x.1 d=some y)/\aG (pc os pw cj) x.1 x.2.1<=x.2.2.2.2/\zD (pc os pw cj) x.2.2.2.2 x.1 x.2.1=R) (λx=>x.2.2.2.2) ((t0,us,id0,[],aG (pc os pw cj) t0 us)) ?_ ?_ (by dsimp only;rw[List.nil_append];exact wD CQ D9 A0 (λi h1 h2=>rfl)) ?_
 ·exact⟨⟨A9,A9,hM0⟩,C9,hu,λ_ _ q=>q,Nat.le_refl _,hR⟩
 ·simp(disch:=omega) [AN,AO,sl,tf]<;>omega
 skip
 rintro⟨t,Q,id,pre,f⟩ m ⟨⟨DS,A6T,hf9⟩,hG,hQ,hx,hM,hC⟩
 dsimp only at DS A6T hf9 hG hQ hx hM hC ⊢
 refine AG ?_;refine AW.seq λN2 B7=>?_;refine LF DZ D9 ?_;refine AW.cond rfl ?_ ?_<;>intro h1<;>try simp only[cn]at h1
 ·obtain⟨a,Q',rfl⟩:∃a Q',Q=a::Q':=by
   cases Q with
   |nil=>simp at h1
   |cons a Q'=>exact⟨a,Q',rfl⟩
  have haT:=hQ a List.mem_cons_self;have hQ':∀y∈Q',T (pc os pw cj) 0 y:=λy hy=>hQ y (List.mem_cons_of_mem _ hy)
  have Vi:Q'.length<=2000:=by unfold aG at hM;simp at hM;omega
  obtain⟨i2,i3,i4⟩:=XA hv hc hG haT;have dD:=vW hv hc hG (q:=Q') haT;have hGR:=vX hv hc (λd hd=>IY d hd) hG hQ' haT;have Qr:=A1M hv hc hG haT;obtain⟨f',hf⟩:∃f',f=f'+1:=⟨f-1,by unfold aG at hM;simp at hM;omega⟩;subst hf;have sE:=hC;rw[zD,if_neg AB]at sE;rw[show(a::Q').drop 1=Q' from rfl,show(a::Q').getD 0 z0=a from rfl]at sE;have hMl:OG t (pc os pw cj).n*((pc os pw cj).n+3)+(Q'.length+1)<=f'+1:=by unfold aG at hM;simpa using hM
  have A1N:=kT os pw cj h hc t hG a haT;obtain⟨⟨sd,su⟩,hs⟩:∃s,RN (pc os pw cj) t a=s:=⟨_,rfl⟩;rw[hs]at i2 i3 i4 dD sE Qr A1N hGR;rw[PH]at i2 i4 Qr;dsimp only at i2 i3 i4 Qr A1N;apply AW.skip;apply B7;apply AW.block;refine sQ λN hN=>?_;refine YD DZ D9 ?_
  refine(A1N _ _ ids GC (by simp(disch:=omega)only[A1];exact DZ) (by simp(disch:=omega)only[A1,A4])).AS ?_;rintro m1 H1 r1 T6 ⟨rfl,rfl⟩;refine YD DZ D9 ?_
  apply hN;refine LF DZ D9 ?_;refine sQ λN hN=>?_;refine YD DZ D9 ?_
  have Lm:=L8 os.length A0 su;rw[Qr]at Lm;refine Gd (Lm) DZ D9 ?_
  apply hN;refine AW.seq λN3 BC=>?_;refine LF DZ D9 ?_;refine AW.cond rfl ?_ ?_<;>intro h2<;>try simp only[cn]at h2
  ·have hcr:kS (pc os pw cj) t Q' (sd,su)=(t,Q'):=by rw[kS,if_pos (show sd=(pc os pw cj).n from (by show sd=os.length;omega))]
   rw[hcr]at sE dD;apply AW.exit;simp only[qW,CP,if_true];refine⟨(t,Q',id,pre++[vi os.length a],f'),?_,by dsimp only;rw[List.append_assoc];exact Le.refl _,?_,?_⟩
   ·first|(simp(disch:=omega) [AN,AO,sl,A1O]<;>omega)|(simp(disch:=omega) [AN,AO,sl]<;>omega)
   ·exact⟨⟨A9,A9,A9⟩,hG,hQ',hx,by (try (dsimp only at dD ⊢));omega,sE⟩
   first|omega|(simp only;omega)
  have U7:sd<os.length:=A0;obtain⟨j1,j2⟩:=i4 U7;have hr:=i3.r sd (Nat.le_refl _) U7;have s7:(pc os pw cj).o sd=os.getD sd 0:=rfl;have Ls:=IY sd U7;have nP:=CE Ls;have hsT:=i3.mono hv (Nat.zero_le _);obtain⟨v1,v2,v3⟩:=kG Ls (show 1<=su sd by omega) A0;obtain⟨yT1,yl⟩:=cY hv hc (λd hd=>IY d hd) (s:=(sd,su)) U7 i3 j2;have zB:=yT1.mono hv (Nat.zero_le _);have hpy:=K5 h 0 hc su hsT (UY (os.getD sd 0) (su sd)) A0 A0;have JN:rep (M (pc os pw cj) 0) su (UY (os.getD sd 0) (su sd)).toNat=V1 (pc os pw cj) (sd,su):=Qq (P:=pc os pw cj) (s:=(sd,su)) (show 0<=UY (os.getD sd 0) (su sd) by omega);rw[JN]at hpy;obtain⟨y,hy⟩:∃y,V1 (pc os pw cj) (sd,su)=y:=⟨_,rfl⟩;rw[hy]at zB yT1 yl hpy;have hpz:=K5 h 0 hc y zB (os.getD sd 0) A0 A0;rw[kV A0]at hpz;have wG:B3 (Z4 os.length t) sd [AV.v os.length (D3 os.length y)]=Z4 os.length (oset t sd y):=wB U7;have hcr:kS (pc os pw cj) t Q' (sd,su)=(oset t sd y,Q'++[su]++[RK (pc os pw cj) y (os.getD sd 0)]++QB (pc os pw cj) t y os.length):=by
   rw[kS,if_neg (show ¬sd=(pc os pw cj).n from (by show ¬sd=os.length;omega)),hy];rfl
  rw[hcr]at sE dD hGR;have Qs:tf (oset t sd y≠t0)=true:=D2 (λe=>by
   have e1:=congrFun e sd;unfold oset at e1;rw[if_pos rfl]at e1;have e2:=hx sd y e1.symm;rw[j1]at e2;cases e2)
  have A1O:tf (¬oset t sd y=t0)=true:=Qs;have mH:∀d z,t0 d=some z->oset t sd y d=some z:=λd z hz=>by
   unfold oset;rw[if_neg (λe=>by have:=hx d z hz;rw[e,j1]at this;cases this)];exact hx d z hz
  apply AW.skip;apply BC;refine LF DZ D9 ?_;refine AW.seq λN hN=>?_;refine AM AA A7 20 A7 ?_
  refine Vh DZ D9 ?_;refine⟨_,.of (TK (su sd) (os.getD sd 0) Ls A0 A0),?_⟩;refine YD DZ D9 ?_
  apply hN;refine LF DZ D9 ?_;refine sQ λN hN=>?_;refine YD DZ D9 ?_
  refine Gd (hpy) DZ D9 ?_
  apply hN;refine AW.seq λN hN=>?_;refine AM AA A7 18 A7 ?_
  refine Vh DZ D9 ?_;refine⟨_,.of (hpz),?_⟩;refine YD DZ D9 ?_
  apply hN;refine AW.seq λN4 CF=>?_;refine LF DZ D9 ?_;apply AW.block;refine A8 (α:=Nat×Nat×List V) (λx=>sl 109 [(0,.q ids 0),(5,.b true),(6,.h x.2.1 0 x.2.2.length),(7,vi os.length y),(8,.i .i64 sd),(82,.h GC 0 os.length),(83,.i .i64 os.length),(84,.i .i64 x.1)]) (λx=>AT (AT H GC (some (Z4 os.length t))) x.2.1 (some (x.2.2.map (vi os.length)))) (λx m=>(x.1<=os.length/\nx<=x.2.1/\x.2.1<m)/\x.2.2=Q'++[su]++[RK (pc os pw cj) y (os.getD sd 0)]++QB (pc os pw cj) t y x.1) (λx=>os.length-x.1) ((0,m1+3+3+4+1+20+5+8+18,Q'++[su]++[RK (pc os pw cj) y (os.getD sd 0)])) ?_ ?_ (by exact wE CQ (by dsimp only;rw[List.take_of_length_le AB];simp[vi]) (by simp(disch:=omega)only[A1,A4]) A9 (λi h1 h2=>by simp(disch:=omega)only[A1])) ?_
  ·exact⟨⟨A0,A9,A9⟩,by simp[QB]⟩
  ·simp(disch:=omega) [AN,AO,sl,Qs,vi]<;>omega
  skip
  rintro⟨e,Lo,K⟩ m2 ⟨⟨he,A6X,ABK⟩,hK⟩;all_goals dsimp only at he A6X ABK hK
  have c7:=oD (P:=pc os pw cj) (t:=t) (y:=y) e;have hKl:K.length<=3000:=by rw[hK];simp only[List.length_append,List.length_cons,List.length_nil];omega
  by_cases hb:t e=none
  ·skip
   have OR:=V3 hb;have zI:QB (pc os pw cj) t y (e+1)=QB (pc os pw cj) t y e:=by rw[QB,hb]
   refine AG ?_;refine LF DZ D9 ?_;refine AW.seq λN5 DL=>?_;refine AW.cond rfl ?_ ?_<;>intro h3<;>try simp only[cn]at h3
   ·apply AW.skip;apply DL;refine AW.seq λN6 FR=>?_;apply AW.block;refine LF DZ D9 ?_;refine LF DZ D9 ?_;refine AW.cond rfl ?_ ?_<;>intro h4<;>try simp only[cn]at h4
    ·first|done|(cases h4)|(exact absurd h4 AB)
    apply AW.skip;apply FR;refine wF DZ D9 ?_;refine⟨(e+1,Lo,K),?_,λ_ _ h=>h,?_,?_⟩
    ·simp(disch:=omega) [AN,AO,sl,Qs,AR,vi]<;>omega
    ·exact⟨⟨A9,A9,A9⟩,by (try simp only[]);rw[zI];exact hK⟩
    first|omega|(simp only;omega)
   have Lr:e=os.length:=A0;subst Lr;apply AW.exit;apply CF;refine wF DZ D9 ?_;refine⟨(oset t sd y,K,Lo,[],f'),?_,(by intro i c hi;simp only[AT,List.nil_append]at hi ⊢;grind),?_,?_⟩
   ·first|(simp(disch:=omega) [AN,AO,sl,A1O]<;>omega)|(simp(disch:=omega) [AN,AO,sl]<;>omega)
   ·exact⟨⟨A9,A9,A9⟩,hGR.1,by rw[hK];exact hGR.2,mH,by (try (dsimp only at dD ⊢));rw[hK];omega,by dsimp only;rw[hK];exact sE⟩
   first|omega|(simp only;omega)
  skip
  obtain⟨OR,hz⟩:=V4 hb;obtain⟨z,hzz⟩:∃z,(t e).getD z0=z:=⟨_,rfl⟩;rw[hzz]at hz;have hzT:=(hG e z hz).2.1.mono hv (Nat.zero_le e);have zI:QB (pc os pw cj) t y (e+1)=QB (pc os pw cj) t y e++[Qf (pc os pw cj) z y]:=by rw[QB,hz]
  refine AG ?_;refine LF DZ D9 ?_;refine AW.seq λN7 MV=>?_;refine AW.cond rfl ?_ ?_<;>intro h5<;>try simp only[cn]at h5
  ·apply AW.skip;apply MV;refine AW.seq λN8 OB=>?_;apply AW.block;refine LF DZ D9 ?_;refine LF DZ D9 ?_;refine AW.cond rfl ?_ ?_<;>intro h6<;>try simp only[cn]at h6
   ·apply rQ;simp-dsimp-implicitDefEqProofs(maxSteps:=800000) (disch:=omega)only[go_sem,Int.toNat_one,Nat.add_sub_cancel,Nat.min_self,KI,QW,eq_self,JB,AL,ints,DB,GQ,I1,A5,FM,EA,IP,vi,AZ,DZ,D9,hzz];refine Gd (TP os pw cj h hc z y hzT zB) DZ D9 ?_
    apply OB;refine wF DZ D9 ?_;refine⟨(e+1,m2+1+3+2+9,K++[Qf (pc os pw cj) z y]),?_,by exact wE CQ (by dsimp only;simp[vi]) (by simp(disch:=omega)only[A1,A4]) A9 (λi h1 h2=>by simp(disch:=omega)only[A1]),?_,?_⟩
    ·simp(disch:=omega) [AN,AO,sl,Qs,AR,vi]<;>omega
    ·exact⟨⟨A9,A9,A9⟩,by (try simp only[]);rw[zI,hK];simp only[List.append_assoc]⟩
    first|omega|(simp only;omega)
   first|done|(cases h6)|(exact absurd h6 AB)
  have Lr:e=os.length:=A0;subst Lr;apply AW.exit;apply CF;refine wF DZ D9 ?_;refine⟨(oset t sd y,K,Lo,[],f'),?_,(by intro i c hi;simp only[AT,List.nil_append]at hi ⊢;grind),?_,?_⟩
  ·first|(simp(disch:=omega) [AN,AO,sl,A1O]<;>omega)|(simp(disch:=omega) [AN,AO,sl]<;>omega)
  ·exact⟨⟨A9,A9,A9⟩,hGR.1,by rw[hK];exact hGR.2,mH,by (try (dsimp only at dD ⊢));rw[hK];omega,by dsimp only;rw[hK];exact sE⟩
  first|omega|(simp only;omega)
 apply AW.exit;apply B2;refine LF DZ D9 ?_;refine AH ?_;have hQ0:Q=[]:=List.length_eq_zero_iff.1 A0
 subst hQ0
 have htR:t=R:=by rw[<-hC];cases f with|zero=>rfl|succ f=>rfl
 subst htR
 exact⟨_,Gb (by rw[A1 _ _ A0];exact CQ id DS),rfl,rfl⟩
end
end Go.Proofs.YtgknbnkmilddhaaGreat

namespace Go.Proofs.YtgknbnkmilddhaaGreat
theorem Qt{P:Pc}{t:Nat->Option V}:iU P t []=t:=by
  unfold iU;cases aG P t []with
  |zero=>rfl
  |succ f=>rfl
theorem Ge{H:HP}{id:Nat}{c:Option (List AV)}(h:H id=c):AT H id c=H:=by
  funext i
  unfold AT;split
  · rename_i e;rw[e,h]
  rfl
section
variable(os:List Int)(pw:List (List Int))(cj:List (List (List Int)))
set_option maxRecDepth 20000 in
theorem kW(n ids:Nat)(nx:Nat)(H:HP):AC Tryz.prog 75 nx H [.q ids 0,AZ n []] (λ_ H' r=>r= .b false/\H'=H):=by
 refine BA AA Tryz.func75 rfl A7 Tryz.ntmps75 Tryz.results75 (λCQ cX=>?_)
 refine iP ?_;refine iP ?_;refine sQ λN hN=>?_;refine s5 ?_;refine(NL n [] AB _ _).AS ?_
 rintro Us H1 r iJ (⟨id0,rfl,rR,kE,rfl⟩|⟨-,rfl,rfl⟩)
 ·skip
  refine s5 ?_
  apply hN;refine AW.seq λN1 B2=>?_;apply AW.block;refine A8 (α:=Nat) (λx=>sl 109 [(0,.q ids 0),(5,.b false),(6,.h id0 0 0)]) (λ_=>AT H id0 (some [])) (λx m=>nx<=id0) (λx=>0) (0) ?_ ?_ (λ_ _ h=>h) ?_
  ·omega
  ·simp(disch:=omega) [AN,AO,sl]
  skip
  rintro k m hk;refine AG ?_;refine AW.seq λN2 B7=>?_;refine iP ?_;refine AW.cond rfl ?_ ?_<;>intro h1<;>try simp only[cn]at h1
  ·first|done|(cases h1)|(exact absurd h1 AB)
  apply AW.exit;apply B2;refine iP ?_;refine AH ?_;exact⟨_,Gb (CQ id0 hk),rfl⟩
 skip
 refine s5 ?_
 apply hN;refine AW.seq λN3 BC=>?_;apply AW.block;refine A8 (α:=Nat) (λx=>sl 109 [(0,.q ids 0),(5,.b false),(6,.v 0 [])]) (λ_=>H1) (λx m=>True) (λx=>0) (0) ?_ ?_ (λ_ _ h=>h) ?_
 ·trivial
 ·simp(disch:=omega) [AN,AO,sl]
 skip
 rintro k m hk
 refine AG ?_;refine AW.seq λN4 CF=>?_;refine iP ?_;refine AW.cond rfl ?_ ?_<;>intro h2<;>try simp only[cn]at h2
 ·first|done|(cases h2)|(exact absurd h2 AB)
 apply AW.exit;apply BC;refine iP ?_;refine AH ?_;exact⟨_,Le.refl _,rfl⟩
theorem YE(h:AF os pw cj)(hc:CG (pc os pw cj) 0)(t0:Nat->Option V)(C9:OW (pc os pw cj) t0)(us:List V)(hl:us.length<=1000)(hu:∀x∈us,T (pc os pw cj) 0 x)(nx:Nat)(H:HP)(ids GC:Nat)(AQ:ids≠GC)(DZ:H ids=some [A5 os pw cj,.h GC 0 os.length])(D9:H GC=some (Z4 os.length t0)):AC Tryz.prog 75 nx H [.q ids 0,AZ os.length us] (λ_ H' r=>r= .b (tf (iU (pc os pw cj) t0 us≠t0))/\H'=AT H GC (some (Z4 os.length (iU (pc os pw cj) t0 us)))):=by
  by_cases h0:us=[]
  · subst h0;refine(kW os.length ids nx H).AS ?_;rintro m H1 r hm ⟨rfl,rfl⟩;rw[Qt];exact⟨by rw[C8 (λq=>q rfl)],(Ge D9).symm⟩
  exact oI os pw cj h hc t0 C9 us hl (List.length_pos_iff.2 h0) hu nx H ids GC AQ DZ D9
theorem Gf(h:AF os pw cj)(hc:CG (pc os pw cj) 0)(us:List V)(hu:∀x∈us,T (pc os pw cj) 0 x):V5 (pc os pw cj) (iU (pc os pw cj) (λ_=>none) us) 0=RL (pc os pw cj) us:=
  Fp h.val hc (λd hd=>h.2.1 d hd) hu
theorem M8(h:AF os pw cj)(hc:CG (pc os pw cj) 0)(us:List V)(hl:us.length<=1000)(hu:∀x∈us,T (pc os pw cj) 0 x):BI Tryz.prog 44 [A5 os pw cj,AZ os.length us] (AZ os.length (RL (pc os pw cj) us)):=by
 have FU:=h.1.1
 have hG:=A6S h.val hc (λd hd=>h.2.1 d hd) hu
 have ABL:=Gf os pw cj h hc us hu
 refine AD AA Tryz.func44 rfl A7 Tryz.ntmps44 Tryz.results44 (cV _ _) (λnx cX=>?_)
 refine B8 ?_;refine sQ λN hN=>?_;refine AG ?_;refine(JX os pw cj A0 _ _).AS ?_
 rintro m1 H1 r1 T6 ⟨ids,GC,rfl,⟨i1,i2,i3,i4,i5⟩,rfl⟩
 refine AG ?_
 apply hN;refine sQ λN hN=>?_;refine AG ?_;refine(YE os pw cj h hc (λ_=>none) (λd y hy=>by cases hy) us hl hu _ _ ids GC i5 (A4 _ _ _) ((A1 _ _ (Ne.symm i5)).trans (A4 _ _ _))).AS ?_
 rintro m2 H2 r2 LN ⟨rfl,rfl⟩
 refine AG ?_
 apply hN;refine sQ λN hN=>?_;refine AG ?_;refine(M7 os pw cj h hc (iU (pc os pw cj) (λ_=>none) us) hG _ _ ids GC ((A1 _ _ i5).trans (A4 _ _ _)) (A4 _ _ _)).AS ?_
 rintro m3 H3 r3 W1 ⟨rfl,rfl⟩
 refine AG ?_
 apply hN;refine AH ?_;rw[ABL]
end
end Go.Proofs.YtgknbnkmilddhaaGreat

namespace Go.Proofs.YtgknbnkmilddhaaGreat
def JQ(os:List Int)(x:V):Nat->Int
  |0=>0
  |k+1=>JQ os x k*os.getD k 0+x k
section
variable{os:List Int}{pw:List (List Int)}{cj:List (List (List Int))}(hp:∀i,i<os.length->JG (os.getD i 0))
include hp
theorem kX{x:V}(hx:T (pc os pw cj) 0 x):∀k,k<=os.length->0<=JQ os x k/\JQ os x k<CV os k:=by
  intro k;induction k with
  |zero=>intro _;exact⟨Int.le_refl _,by simp[JQ,CV]⟩
  | succ k ih=>
    intro hk;obtain⟨i1,i2⟩:=ih A0;have ho:=CE (hp k A0);have hr:=hx.r k (Nat.zero_le k) (show k<os.length by omega);have s7:(pc os pw cj).o k=os.getD k 0:=rfl;rw[s7]at hr;have h1:0<=JQ os x k*os.getD k 0:=Int.mul_nonneg i1 A0;have h2:(JQ os x k+1)*os.getD k 0<=CV os k*os.getD k 0:=Int.mul_le_mul_of_nonneg_right A0 A0;rw[Int.add_mul,Int.one_mul]at h2;rw[JQ,CV];omega
theorem Qu{x y:V}(hx:T (pc os pw cj) 0 x)(hy:T (pc os pw cj) 0 y):∀k,k<=os.length->JQ os x k=JQ os y k->∀j,j<k->x j=y j:=by
  intro k;induction k with
  |zero=>intro _ _ j hj;omega
  | succ k ih=>
    intro hk he j hj;have ho:=CE (hp k A0);have h1:=hx.r k (Nat.zero_le k) (show k<os.length by omega);have h2:=hy.r k (Nat.zero_le k) (show k<os.length by omega);have s7:(pc os pw cj).o k=os.getD k 0:=rfl;rw[s7]at h1 h2;rw[JQ,JQ]at he;have key:JQ os x k=JQ os y k:=by
      rcases Int.lt_trichotomy (JQ os x k) (JQ os y k)with q|q|q
      · have h3:(JQ os x k+1)*os.getD k 0<=JQ os y k*os.getD k 0:=Int.mul_le_mul_of_nonneg_right A0 A0;rw[Int.add_mul,Int.one_mul]at h3;omega
      · exact q
      have h3:(JQ os y k+1)*os.getD k 0<=JQ os x k*os.getD k 0:=Int.mul_le_mul_of_nonneg_right A0 A0;rw[Int.add_mul,Int.one_mul]at h3;omega
    rw[key]at he;rcases Nat.lt_or_ge j k with q|q
    · exact ih A0 key j q
    obtain rfl:j=k:=A0;omega
theorem sF{x y:V}(hx:T (pc os pw cj) 0 x)(hy:T (pc os pw cj) 0 y)(h:JQ os x os.length=JQ os y os.length):x=y:=by
  funext k
  rcases Nat.lt_or_ge k os.length with q|q
  · exact Qu hp hx hy os.length (Nat.le_refl _) h k q
  rw[hx.t k q,hy.t k q]
end
section
variable{P:Pc}(hv:GX P)(hc:CG P 0){xs:List V}(Cc:∀x∈xs,T P 0 x)
include hv hc Cc
end
section
variable{os:List Int}{pw:List (List Int)}{cj:List (List (List Int))}(hp:∀i,i<os.length->JG (os.getD i 0))
include hp
end
end Go.Proofs.YtgknbnkmilddhaaGreat

namespace Go.Proofs.YtgknbnkmilddhaaGreat
def SI(P:Pc)(S:V->Prop)(l:List V):Prop:=∃dn,Z2 P S dn/\l=BZ dn P.n
def GL(P:Pc)(us:List V):V->Prop:=iR (T P 0) (M P 0) (λv=>v∈us)
theorem GL.le{P:Pc}{us:List V}{A:V->Prop}(hA:E5 (T P 0) (M P 0) A)(h:∀u∈us,A u){x:V}(hx:GL P us x):A x:=hx A hA h
theorem GL.of{P:Pc}{us:List V}{u:V}(h:u∈us):GL P us u:=λA hA hu=>hu u h
theorem KJ{dn:Nat->Option V}{n:Nat}{y:V}:y∈BZ dn n↔∃d,d<n/\dn d=some y:=by
  unfold BZ;rw[List.mem_filterMap];exact⟨λ⟨d,h1,h2⟩=>⟨d,List.mem_range.1 h1,h2⟩,λ⟨d,h1,h2⟩=>⟨d,List.mem_range.2 h1,h2⟩⟩
section
variable{P:Pc}(hv:GX P)(hc:CG P 0)
include hv hc
theorem oJ:E5 (T P 0) (M P 0) (T P 0):=(lvl hv hc).sbg 0
theorem A1P{S A:V->Prop}(hS:E5 (T P 0) (M P 0) S)(hA:E5 (T P 0) (M P 0) A)(key:∀d,d<P.n->∀x,S x->T P d x->x d≠0->∃z,A z/\S z/\T P d z/\z d=1):∀x,S x->A x:=by
  have l:=lvl hv hc;have go:∀f,f<=P.n->∀x,S x->T P (P.n-f) x->A x:=by
    intro f;induction f with
    |zero=>intro _ x _ hx;rw[SH x hx];exact hA.e
    | succ f ih=>
      intro hf x hx hT;have e:P.n-f=P.n-(f+1)+1:=A0;by_cases h0:x (P.n-(f+1))=0
      · exact ih A0 x hx (by rw[e];exact l.up hT h0)
      obtain⟨z,z1,z2,z3,z4⟩:=key _ A0 x hx hT h0;obtain⟨u,u1,u2,u3,u4⟩:=aI hv hc _ z x A0 z3 z4 (hS.n hx);have hm:S (M P 0 x u):=hS.mu hx (u1 S hS z2);have hmT:T P (P.n-(f+1)) (M P 0 x u):=(l.g _).cl hT u2;have hz:M P 0 x u (P.n-(f+1))=0:=by rw[l.lead A0 hT u2,u4]
      have:=ih A0 _ hm (by rw[e];exact l.up hmT hz);exact hA.r (l.g 0) (u1 A hA z1) (hS.n hx) this
  intro x hx;exact go P.n (Nat.le_refl _) x hx (by rw[Nat.sub_self];exact hS.n hx)
theorem SI.uniq{S:V->Prop}{l l':List V}(hS:E5 (T P 0) (M P 0) S)(h:SI P S l)(h':SI P S l'):l=l':=by
  obtain⟨dn,h1,rfl⟩:=h;obtain⟨Va,h2,rfl⟩:=h';exact dE λd hd=>Z2.uniq hv hc hS h1 h2 hd
theorem SI.gen{S:V->Prop}{l:List V}(hS:E5 (T P 0) (M P 0) S)(h:SI P S l):S=GL P l:=by
  obtain⟨dn,h1,rfl⟩:=h;funext x
  refine propext ⟨λhx A hA hu=>?_,λhx=>hx S hS (λu hu=>?_)⟩
  · refine A1P hv hc hS hA (λd hd x hx hT h0=>?_) x hx;cases hz:dn d with
    |none=>exact absurd ⟨x,hx,hT,h0⟩ (h1.no d hd hz)
    | some z=>
      obtain⟨_,a1,a2,a3,_⟩:=h1.el d z hz;exact⟨z,hu z (KJ.2 ⟨d,hd,hz⟩),a1,a2,a3⟩
  obtain⟨d,hd,hz⟩:=KJ.1 hu;exact(h1.el d u hz).2.1
omit hv hc in
theorem SI.len{S:V->Prop}{l:List V}(h:SI P S l):l.length<=P.n:=by
  obtain⟨dn,h1,rfl⟩:=h;exact Q9
omit hv hc in
theorem SI.S{S:V->Prop}{l:List V}(h:SI P S l){u:V}(hu:u∈l):S u:=by
  obtain⟨dn,h1,rfl⟩:=h;obtain⟨d,hd,hz⟩:=KJ.1 hu;exact(h1.el d u hz).2.1
omit hv hc in
theorem SI.at{S:V->Prop}{l:List V}(h:SI P S l){u:V}(hu:u∈l):E4 P.n u<P.n/\T P (E4 P.n u) u/\u (E4 P.n u)=1:=by
  obtain⟨dn,h1,rfl⟩:=h;obtain⟨d,hd,hz⟩:=KJ.1 hu;obtain⟨_,a1,a2,a3,_⟩:=h1.el d u hz;rw[TO (P:=P) hd a2 a3];exact⟨hd,a2,a3⟩
theorem Qv{x:V}(hx:T P 0 x):∃k,M P 0 (rep (M P 0) x k) x=z0:=by
  have l:=lvl hv hc;have g:=l.g 0;have go :∀f,f<=P.n->∀x,T P (P.n-f) x->∃k,rep (M P 0) x (k+1)=z0:=by
    intro f;induction f with
    |zero=>intro _ x hx;exact⟨0,by rw[SH x hx];exact g.v8 g.e0⟩
    | succ f ih=>
      intro hf x hx;obtain⟨q1,q2⟩:=F4 hv (show P.n-(f+1)<P.n by omega) hx (P.o (P.n-(f+1))).toNat;have ho:=hv.o (P.n-(f+1)) A0;have hz:rep (M P 0) x (P.o (P.n-(f+1))).toNat (P.n-(f+1))=0:=by
        rw[q2,Int.toNat_of_nonneg A0,Int.mul_emod_right]
      obtain⟨k,hk⟩:=ih A0 _ (by rw[show P.n-f=P.n-(f+1)+1 by omega];exact l.up q1 hz);have cZ:=hx.mono hv (Nat.zero_le _);have hm:∀j,rep (M P 0) (rep (M P 0) x (P.o (P.n-(f+1))).toNat) j=rep (M P 0) x ((P.o (P.n-(f+1))).toNat*j):=by
        intro j;induction j with
        |zero=>rfl
        | succ j ihj=>
          show M P 0 (rep (M P 0) (rep (M P 0) x (P.o (P.n-(f+1))).toNat) j) _=_
          rw[ihj,<-g.FX cZ];rfl
      rw[hm]at hk;obtain⟨w,hw⟩:∃w,(P.o (P.n-(f+1))).toNat*(k+1)=w+1:=by
        have:1*1<=(P.o (P.n-(f+1))).toNat*(k+1):=Nat.mul_le_mul A0 A0;exact⟨_,(Nat.sub_add_cancel A0).symm⟩
      exact⟨w,by rw[<-hw];exact hk⟩
  obtain⟨k,hk⟩:=go P.n (Nat.le_refl _) x (by rw[Nat.sub_self];exact hx);exact⟨k,hk⟩
end
section
variable{P:Pc}(hv:GX P)(hc:CG P 0)
include hv hc
end
section
variable{P:Pc}(hv:GX P)(hc:CG P 0)(hp:∀d,d<P.n->JG (P.o d))
include hv hc hp
theorem sG{us:List V}(hu:∀x∈us,T P 0 x):E5 (T P 0) (M P 0) (GL P us):=w9 hv hc hp hu
theorem sH{us:List V}(hu:∀x∈us,T P 0 x):SI P (GL P us) (RL P us):=⟨_,vV hv hc hp hu,rfl⟩
end
end Go.Proofs.YtgknbnkmilddhaaGreat

namespace Go.Proofs.YtgknbnkmilddhaaGreat
noncomputable def zL(S:Nat->Prop):Nat->Nat
  |0=>0
  |k+1=>if tf (S k)=true then zL S k+2^k else zL S k
theorem sI{S:Nat->Prop}:∀k,zL S k<2^k:=by
  intro k;induction k with
  |zero=>simp[zL]
  |succ k ih=>rw[zL,Nat.pow_succ];split<;>omega
theorem Qw{S:Nat->Prop}{t:Nat}:∀k,(zL S k).testBit t=true↔t<k/\S t:=by
  intro k;induction k with
  |zero=>simp[zL]
  | succ k ih=>
    have hl:=sI (S:=S) k;have QR:k<t->(zL S (k+1)).testBit t=false:=λq=>Nat.testBit_lt_two_pow (Nat.lt_of_lt_of_le (sI (k+1)) (Nat.pow_le_pow_right A0 q))
    rcases Nat.lt_trichotomy t k with q|q|q
    · rw[zL];split
      · rw[Nat.add_comm,Nat.testBit_two_pow_add_gt q,ih];exact⟨λh=>⟨A0,h.2⟩,λh=>⟨q,h.2⟩⟩
      rw[ih];exact⟨λh=>⟨A0,h.2⟩,λh=>⟨q,h.2⟩⟩
    · subst q;rw[zL];split
      · rename_i hs;rw[Nat.add_comm,Nat.testBit_two_pow_add_eq,Nat.testBit_lt_two_pow hl];exact⟨λ_=>⟨A0,JL.1 hs⟩,λ_=>rfl⟩
      rename_i hs;rw[Nat.testBit_lt_two_pow hl];exact⟨λh=>(by cases h),λh=>absurd (D2 h.2) hs⟩
    rw[QR q];exact⟨λh=>(by cases h),λh=>A0⟩
theorem dH{a b:Nat}(h:∀t,a.testBit t=true↔b.testBit t=true):a=b:=Nat.eq_of_testBit_eq λt=>by
  have:=h t;cases ha:a.testBit t<;>cases hb:b.testBit t<;>simp_all
theorem XC{m k t:Nat}(hm:m<2^k)(h:m.testBit t=true):t<k:=by
  rcases Nat.lt_or_ge t k with q|q
  · exact q
  rw[Nat.testBit_lt_two_pow (Nat.lt_of_lt_of_le hm (Nat.pow_le_pow_right A0 q))]at h;cases h
theorem IT{m y t:Nat}:(m|||2^y).testBit t=true↔m.testBit t=true\/t=y:=by
  rw[Nat.testBit_or,Nat.testBit_two_pow];by_cases h:y=t
  · subst h;simp
  simp[h,Ne.symm h]
theorem kY{a b:Nat}:a &&& b=a↔∀t,a.testBit t=true->b.testBit t=true:=by
  constructor
  · intro h t ht;rw[<-h,Nat.testBit_and]at ht;simp at ht;exact ht.2
  intro h;refine dH λt=>?_
  rw[Nat.testBit_and];constructor
  · intro q;simp at q;exact q.1
  intro q;simp[q,h t q]
theorem sub_le{a b:Nat}(h:∀t,a.testBit t=true->b.testBit t=true):a<=b:=by
  rw[<-kY.2 h];exact Nat.and_le_right
def nG(os:List Int):Nat:=(CV os os.length).toNat
section
variable{os:List Int}{pw:List (List Int)}{cj:List (List (List Int))}(hp:AF os pw cj)
include hp
theorem GR:(nG os:Int)=CV os os.length:=Int.toNat_of_nonneg (by have:=M1 hp.2.1 os.length (Nat.le_refl _);omega)
theorem JC:1<=nG os/\nG os<=729:=by
  have:=M1 hp.2.1 os.length (Nat.le_refl _);have:=hp.2.2.1;have:=GR hp;omega
theorem DP(t:Nat):T (pc os pw cj) 0 (C5 os t):=by
  refine⟨λk hk=>A0,λk _ hk=>cL A0 hp.2.1 hk,λk hk=>?_⟩;have DN:¬k<os.length:=Nat.not_lt.2 hk;rw[C5,if_neg DN]
theorem A1Q{t:Nat}(h:t<nG os):∀d,d<=os.length->RI os t d<CV os (os.length-d):=by
  intro d;induction d with
  |zero=>intro _;have:=GR hp;rw[RI,Nat.sub_zero];omega
  | succ d ih=>
    intro hd;have i1:=ih A0;have i2:=IS (num:=(t:Int)) A0 hp.2.1 d A0;have ho:=CE (hp.2.1 (os.length-1-d) A0);rw[show os.length-d=os.length-(d+1)+1 by omega,CV,show os.length-(d+1)=os.length-1-d by omega]at i1;rw[RI,Int.tdiv_eq_ediv_of_nonneg i2.1,show os.length-(d+1)=os.length-1-d by omega];exact Int.ediv_lt_of_lt_mul A0 i1
theorem XD{t:Nat}(h:t<nG os):JQ os (C5 os t) os.length=t:=by
  have go:∀k,k<=os.length->JQ os (C5 os t) k=RI os t (os.length-k):=by
    intro k;induction k with
    | zero=>
      intro _;have h1:=A1Q hp h os.length (Nat.le_refl _);have h2:=(IS (num:=(t:Int)) A0 hp.2.1 os.length (Nat.le_refl _)).1;rw[Nat.sub_self,CV]at h1;rw[JQ,Nat.sub_zero];omega
    | succ k ih=>
      intro hk;have h2:=(IS (num:=(t:Int)) A0 hp.2.1 (os.length-1-k) A0).1;rw[JQ,ih A0,C5,if_pos A0,show os.length-(k+1)=os.length-1-k by omega,show os.length-k=os.length-1-k+1 by omega,RI,show os.length-1-(os.length-1-k)=k by omega];have:=Int.tmod_add_mul_tdiv (RI os t (os.length-1-k)) (os.getD k 0);rw[Int.mul_comm]at this;omega
  rw[go os.length (Nat.le_refl _),Nat.sub_self];rfl
theorem OX{x:V}(hx:T (pc os pw cj) 0 x):∃t,t<nG os/\C5 os t=x/\(t:Int)=JQ os x os.length:=by
  have hb:=kX (pw:=pw) (cj:=cj) hp.2.1 hx os.length (Nat.le_refl _);have hn:=GR hp;obtain⟨t,ht⟩:∃t,(JQ os x os.length).toNat=t:=⟨_,rfl⟩;have h1:t<nG os:=A0;have h2:(t:Int)=JQ os x os.length:=A0;exact⟨t,h1,sF (pw:=pw) (cj:=cj) hp.2.1 (DP hp t) hx (by rw[XD hp h1,h2]),h2⟩
theorem MH{s t:Nat}(hs:s<nG os)(ht:t<nG os)(h:C5 os s=C5 os t):s=t:=by
  have h1:=XD hp hs;have h2:=XD hp ht;rw[h]at h1;omega
omit hp in
theorem I2:C5 os 0=z0:=by
  funext k
  unfold C5 z0;split
  · have:∀d,RI os 0 d=0:=by
      intro d;induction d with
      |zero=>rfl
      |succ d ih=>rw[RI,ih,Int.zero_tdiv]
    rw[this,Int.zero_tmod]
  rfl
end
noncomputable def OY(os:List Int)(pw:List (List Int))(cj:List (List (List Int)))(s t:Nat):Nat:=(JQ os (M (pc os pw cj) 0 (C5 os s) (C5 os t)) os.length).toNat
noncomputable def HK(os:List Int)(S:V->Prop):Nat:=zL (λt=>S (C5 os t)) (nG os)
def Jn(P:Pc)(S:V->Prop)(x:V):V->Prop:=iR (T P 0) (M P 0) λv=>S v\/v=x
section
variable{os:List Int}{pw:List (List Int)}{cj:List (List (List Int))}(hp:AF os pw cj)(hc:CG (pc os pw cj) 0)
include hp
theorem OJ(hc:CG (pc os pw cj) 0)(s t:Nat):OY os pw cj s t<nG os/\C5 os (OY os pw cj s t)=M (pc os pw cj) 0 (C5 os s) (C5 os t)/\(OY os pw cj s t:Int)=JQ os (M (pc os pw cj) 0 (C5 os s) (C5 os t)) os.length:=by
  obtain⟨q,h1,h2,h3⟩:=OX hp ((lvl hp.val hc).g 0|>.cl (DP hp s) (DP hp t));have:OY os pw cj s t=q:=by unfold OY;omega
  rw[this];exact⟨h1,h2,h3⟩
omit hp in
theorem DJ{S:V->Prop}{t:Nat}:(HK os S).testBit t=true↔t<nG os/\S (C5 os t):=Qw _
omit hp in
theorem HC{S:V->Prop}:HK os S<2^nG os:=sI _
theorem aJ{S S':V->Prop}(hS:∀x,S x->T (pc os pw cj) 0 x):(∀t,(HK os S).testBit t=true->(HK os S').testBit t=true)↔∀x,S x->S' x:=by
  constructor
  · intro h x hx;obtain⟨t,h1,rfl,_⟩:=OX hp (hS x hx);exact(DJ.1 (h t (DJ.2 ⟨h1,hx⟩))).2
  intro h t ht;obtain⟨h1,h2⟩:=DJ.1 ht;exact DJ.2 ⟨h1,h _ h2⟩
theorem QX{S S':V->Prop}(hS:∀x,S x->T (pc os pw cj) 0 x)(Ax:∀x,S' x->T (pc os pw cj) 0 x)(h:HK os S=HK os S'):S=S':=by
  funext x
  exact propext ⟨(aJ hp hS).1 (λt ht=>h▸ht) x,(aJ hp Ax).1 (λt ht=>h.symm▸ht) x⟩
include hc
theorem V6{A:V->Prop}(hA:∀x,A x->T (pc os pw cj) 0 x)(h0:A z0)(hm:∀a b,A a->A b->A (M (pc os pw cj) 0 a b)):E5 (T (pc os pw cj) 0) (M (pc os pw cj) 0) A:=by
  refine⟨λh=>hA _ h,h0,λh1 h2=>hm _ _ h1 h2,λ{a b} ha hb jV=>?_⟩;have g:=(lvl hp.val hc).g 0;have hk:∀k,A (rep (M (pc os pw cj) 0) a k):=by
    intro k;induction k with
    |zero=>exact h0
    |succ k ih=>exact hm _ _ ih ha
  obtain⟨k,FH⟩:=Qv hp.val hc (hA a ha);have e:rep (M (pc os pw cj) 0) a k=b:=by
    have:=g.ac (hA _ (hk k)) (hA a ha) hb;rw[FH,jV,g.l1 hb,g.r1 (hA _ (hk k))]at this;exact this.symm
  rw[<-e];exact hk k
theorem sJ{S:V->Prop}(hS:E5 (T (pc os pw cj) 0) (M (pc os pw cj) 0) S){x:V}(hx:T (pc os pw cj) 0 x):E5 (T (pc os pw cj) 0) (M (pc os pw cj) 0) (Jn (pc os pw cj) S x):=by
  have hT:=oJ hp.val hc;have aH:∀u,(S u\/u=x)->T (pc os pw cj) 0 u:=λu hu=>by
    rcases hu with q|rfl
    · exact hS.n q
    exact hx
  exact⟨λh=>h _ hT aH,λA hA _=>hA.e,λh1 h2 A hA hu=>hA.mu (h1 A hA hu) (h2 A hA hu),λh1 hb jV A hA hu=>hA.iv (h1 A hA hu) hb jV⟩
omit hc in

theorem A1R(hc:CG (pc os pw cj) 0){B:Nat->Prop}(h0:B 0)(hm:∀s t,s<nG os->t<nG os->B s->B t->B (OY os pw cj s t)):E5 (T (pc os pw cj) 0) (M (pc os pw cj) 0) λx=>T (pc os pw cj) 0 x/\∀t,t<nG os->C5 os t=x->B t:=by
  have g:=(lvl hp.val hc).g 0;refine V6 hp hc (λx h=>h.1) ⟨T.zero hp.val 0,λt ht e=>?_⟩ λa b ha hb=>⟨g.cl ha.1 hb.1,λt ht e=>?_⟩
  · rw[show z0=C5 os ((0:Nat):Int)from I2.symm]at e;rw[MH hp ht (by have:=(JC hp).1;omega) e];exact h0
  obtain⟨s,s1,rfl,_⟩:=OX hp ha.1;obtain⟨q,q1,rfl,_⟩:=OX hp hb.1;obtain⟨t1,t2,_⟩:=OJ hp hc s q;rw[MH hp ht t1 (e.trans t2.symm)];exact hm s q s1 q1 (ha.2 s s1 rfl) (hb.2 q q1 rfl)
noncomputable def W4(os:List Int)(S:V->Prop):List V:=((List.range (nG os)).filter λt:Nat=>tf (S (C5 os (t:Int)))).map λt:Nat=>C5 os (t:Int)
omit hc in
theorem OL{S:V->Prop}(hS:∀x,S x->T (pc os pw cj) 0 x){x:V}:x∈W4 os S↔S x:=by
  simp only[W4,List.mem_map,List.mem_filter,List.mem_range];constructor
  · rintro⟨t,⟨_,h2⟩,rfl⟩;exact JL.1 h2
  intro h;obtain⟨t,h1,rfl,_⟩:=OX hp (hS x h);exact⟨t,⟨h1,D2 h⟩,rfl⟩
omit hc in
theorem A1S{S:V->Prop}(hS:E5 (T (pc os pw cj) 0) (M (pc os pw cj) 0) S):GL (pc os pw cj) (W4 os S)=S:=by
  funext x
  refine propext ⟨λh=>h S hS λu hu=>(OL hp λ_ q=>hS.n q).1 hu,λh=>GL.of ((OL hp λ_ q=>hS.n q).2 h)⟩
noncomputable def Gg(os:List Int)(pw:List (List Int))(cj:List (List (List Int)))(S:V->Prop):List V:=RL (pc os pw cj) (W4 os S)
theorem aK{S:V->Prop}(hS:E5 (T (pc os pw cj) 0) (M (pc os pw cj) 0) S):SI (pc os pw cj) S (Gg os pw cj S):=by
  have:=sH hp.val hc (λd hd=>hp.2.1 d hd) (us:=W4 os S) λx hx=>hS.n ((OL hp λ_ q=>hS.n q).1 hx)
  rwa [A1S hp hS]at this
theorem oK{S:V->Prop}(hS:E5 (T (pc os pw cj) 0) (M (pc os pw cj) 0) S):GL (pc os pw cj) (Gg os pw cj S)=S:=((aK hp hc hS).gen hp.val hc hS).symm
theorem zM{Ms:List Nat}(h1:HK os (λx=>x=z0)∈Ms)(h2:∀S,E5 (T (pc os pw cj) 0) (M (pc os pw cj) 0) S->HK os S∈Ms->∀t,t<nG os->¬S (C5 os t)->HK os (Jn (pc os pw cj) S (C5 os t))∈Ms){H:V->Prop}(hH:E5 (T (pc os pw cj) 0) (M (pc os pw cj) 0) H):HK os H∈Ms:=by
  have g:=(lvl hp.val hc).g 0;have hz:E5 (T (pc os pw cj) 0) (M (pc os pw cj) 0) (λx=>x=z0):=V6 hp hc (λx h=>h▸T.zero hp.val 0) rfl (λa b ha hb=>by rw[ha,hb];exact g.l1 (T.zero hp.val 0));have go:∀k,∃K,E5 (T (pc os pw cj) 0) (M (pc os pw cj) 0) K/\HK os K∈Ms/\(∀x,K x->H x)/\(K=H\/k<=HK os K):=by
    intro k;induction k with
    |zero=>exact⟨_,hz,h1,λx hx=>hx▸hH.e,.inr (Nat.zero_le _)⟩
    | succ k ih=>
      obtain⟨K,k1,k2,k3,k4⟩:=ih;by_cases e:K=H
      · exact⟨K,k1,k2,k3,.inl e⟩
      have hk:=k4.resolve_left e;obtain⟨x,iJ,mH⟩:∃x,H x/\¬K x:=Classical.byContradiction λhn=>e (funext λx=>propext ⟨k3 x,λhx=>Classical.byContradiction λhk=>hn ⟨x,hx,hk⟩⟩)
      obtain⟨t,t1,rfl,_⟩:=OX hp (hH.n iJ);have j1:=sJ hp hc k1 (DP hp t);have WH:∀x,K x->Jn (pc os pw cj) K (C5 os t) x:=λx hx A hA hu=>hu x (.inl hx)
      refine⟨_,j1,h2 K k1 k2 t t1 mH,λx hx=>hx H hH λu hu=>?_,.inr ?_⟩
      · rcases hu with q|rfl
        · exact k3 u q
        exact iJ
      have hle:=sub_le ((aJ hp (S:=K) (S':=Jn (pc os pw cj) K (C5 os t)) λx hx=>k1.n hx).2 WH);have AQ:HK os K≠HK os (Jn (pc os pw cj) K (C5 os t)):=λq=>by
        have:=QX hp (λx hx=>k1.n hx) (λx hx=>j1.n hx) q;rw[this]at mH;exact mH λA hA hu=>hu _ (.inr rfl)
      omega
  obtain⟨K,_,k2,_,k4⟩:=go (2^nG os);have:=HC (os:=os) (S:=K);rcases k4 with q|q
  · rw[<-q];exact k2
  omega
end
end Go.Proofs.YtgknbnkmilddhaaGreat

namespace Go.Proofs.YtgknbnkmilddhaaGreat
theorem Gh:∀(l1 l2:List V),l1.Nodup->(∀x∈l1,x∈l2)->l1.length<=l2.length:=by
  intro l1;induction l1 with
  |nil=>intro l2 _ _;simp
  | cons a t ih=>
    intro l2 hn hs;rw[List.nodup_cons]at hn;obtain⟨s,r,rfl⟩:=List.append_of_mem (hs a List.mem_cons_self);have:=ih (s++r) hn.2 (λx hx=>by
      have h1:=hs x (List.mem_cons_of_mem _ hx);rcases List.mem_append.1 h1 with q|q
      · exact List.mem_append.2 (.inl q)
      rcases List.mem_cons.1 q with q|q
      · subst q;exact absurd hx hn.1
      exact List.mem_append.2 (.inr q))
    simp only[List.length_append,List.length_cons]at this ⊢;omega
theorem A1T{l:List V}{f:V->V}(h:l.Nodup)(hf:∀a∈l,∀b∈l,f a=f b->a=b):(l.map f).Nodup:=by
  unfold List.Nodup at h ⊢;rw[List.pairwise_map];exact h.imp_of_mem λ{a b} ha hb AQ e=>AQ (hf a ha b hb e)
def Lt(o:Nat->Int)(dn:Nat->Option V):Nat->Int
  |0=>1
  | k+1=>match dn k with
    |none=>Lt o dn k
    |some _=>Lt o dn k*o k
section
variable{P:Pc}(hv:GX P)(hc:CG P 0)
include hv hc
theorem Gi{S:V->Prop}(hS:E5 (T P 0) (M P 0) S){dn:Nat->Option V}(h:Z2 P S dn):∀f,f<=P.n->∃l:List V,l.Nodup/\(∀x,x∈l↔S x/\T P (P.n-f) x)/\(l.length:Int)*Lt P.o dn (P.n-f)=Lt P.o dn P.n:=by
  have L:=lvl hv hc;have g:=L.g 0;intro f;induction f with
  | zero=>
    intro _;refine⟨[z0],AB,λx=>?_,AB⟩;rw[List.mem_singleton,Nat.sub_zero];exact⟨λe=>by subst e;exact⟨hS.e,(L.g _).e0⟩,λq=>SH x q.2⟩
  | succ f ih=>
    intro hf;obtain⟨l,h1,h2,h3⟩:=ih A0;obtain⟨d,hd⟩:∃d,P.n-(f+1)=d:=⟨_,rfl⟩;have U7:P.n-f=d+1:=A0;have NY:d<P.n:=A0;rw[U7]at h2 h3;rw[hd];cases hz:dn d with
    | none=>
      refine⟨l,h1,λx=>?_,by rw[<-h3,Lt,hz]⟩;rw[h2];refine⟨λq=>⟨q.1,L.mono q.2⟩,λq=>⟨q.1,?_⟩⟩;by_cases h0:x d=0
      · exact L.up q.2 h0
      exact absurd ⟨x,q.1,q.2,h0⟩ (h.no d NY hz)
    | some y=>
      obtain⟨_,y1,y2,y3,_⟩:=h.el d y hz;have yT:=L.le (Nat.zero_le d) y2;have ho:=L.op NY;have rT:=λk=>g.rep yT k
      have rS:∀k,S (rep (M P 0) y k):=by
        intro k;induction k with
        |zero=>exact hS.e
        |succ k vB=>exact hS.mu vB y1
      have rl:=L.F4 NY y2 y3;have go:∀c:Nat,(c:Int)<=P.o d->∃l2:List V,l2.Nodup/\(∀x,x∈l2↔(S x/\T P d x)/\x d<c)/\l2.length=c*l.length:=by
        intro c;induction c with
        |zero=>exact λ_=>⟨[],AB,λx=>⟨λq=>by simp at q,λq=>by have:=q.1.2.r d (Nat.le_refl _) NY;have:=q.2;omega⟩,AB⟩
        | succ c ihc=>
          intro hco;obtain⟨l2,a1,a2,a3⟩:=ihc A0;have hcm:rep (M P 0) y c d=c:=by rw[rl c];exact Int.emod_eq_of_lt A0 A0
          have hlT:∀s∈l,T P 0 s:=λs hs=>hS.n ((h2 s).1 hs).1
          have Gj:∀s,T P d s->M P 0 (rep (M P 0) y c) s d=(c+s d)%P.o d:=λs hs=>by
            rw[L.lead NY ((L.g d).rep y2 c) hs,hcm]
          refine⟨l2++l.map (M P 0 (rep (M P 0) y c)),?_,λx=>?_,by rw[List.length_append,a3,List.length_map,Nat.succ_mul]⟩
          · rw[List.nodup_append];refine⟨a1,A1T h1 (λa ha b hb e=>g.lc (rT c) (hlT a ha) (hlT b hb) e),λa ha b hb e=>?_⟩;subst e;obtain⟨s,hs,rfl⟩:=List.mem_map.1 hb;have b1:=((a2 _).1 ha).2;have b2:=((h2 s).1 hs).2;rw[Gj s (L.mono b2),L.nz b2,Int.add_zero,Int.emod_eq_of_lt A0 A0]at b1;omega
          rw[List.mem_append,a2];constructor
          · rintro(⟨q1,q2⟩|q)
            · exact⟨q1,A0⟩
            obtain⟨s,hs,rfl⟩:=List.mem_map.1 q;obtain⟨s1,s2⟩:=(h2 s).1 hs;refine⟨⟨hS.mu (rS c) s1,(L.g d).cl ((L.g d).rep y2 c) (L.mono s2)⟩,?_⟩;rw[Gj s (L.mono s2),L.nz s2,Int.add_zero,Int.emod_eq_of_lt A0 A0];omega
          rintro⟨⟨q1,q2⟩,q3⟩;by_cases q4:x d<c
          · exact .inl ⟨⟨q1,q2⟩,q4⟩
          refine .inr (List.mem_map.2 ?_);obtain⟨b,b1,b2,b3⟩:=(L.g d).iv ((L.g d).rep y2 c);have bT:=L.le (Nat.zero_le d) b1;have xT:=L.le (Nat.zero_le d) q2;have bS:S b:=hS.iv (rS c) bT b3;have e:M P 0 (rep (M P 0) y c) (M P 0 b x)=x:=by rw[<-g.ac (rT c) bT xT,b3,g.l1 xT]
          have sT:T P d (M P 0 b x):=(L.g d).cl b1 q2;have e2:=Gj _ sT;rw[e]at e2;have r1:=sT.r d (Nat.le_refl _) NY;have r2:=q2.r d (Nat.le_refl _) NY;refine⟨M P 0 b x,(h2 _).2 ⟨hS.mu bS q1,L.up sT ?_⟩,e⟩;have hx:x d=c:=A0;rw[hx]at e2;by_cases C4:(c:Int)+M P 0 b x d<P.o d
          · rw[Int.emod_eq_of_lt A0 C4]at e2;omega
          rw[<-Int.sub_emod_right,Int.emod_eq_of_lt A0 A0]at e2;omega
      obtain⟨l2,a1,a2,a3⟩:=go (P.o d).toNat A0;refine⟨l2,a1,λx=>?_,?_⟩
      · rw[a2];exact⟨λq=>q.1,λq=>⟨q,by have:=q.2.r d (Nat.le_refl _) NY;omega⟩⟩
      rw[<-h3,Lt,hz,a3,Int.natCast_mul,Int.toNat_of_nonneg A0];dsimp only;rw[Int.mul_comm (Lt P.o dn d),<-Int.mul_assoc,Int.mul_comm (P.o d) (l.length:Int)]
end
theorem oL{dn:Nat->Option V}{k:Nat}:∀j,∃r,BZ dn (k+j)=BZ dn k++r:=by
  intro j;induction j with
  |zero=>exact⟨[],AB⟩
  | succ j ih=>
    obtain⟨r,hr⟩:=ih;cases hz:dn (k+j)with
    |none=>exact⟨r,by rw[<-Nat.add_assoc,DI hz,hr]⟩
    |some y=>exact⟨r++[y],by rw[<-Nat.add_assoc,DH hz,hr,List.append_assoc]⟩
theorem Qx{os:List Int}{pw:List (List Int)}{cj:List (List (List Int))}{S:V->Prop}{dn:Nat->Option V}(h:Z2 (pc os pw cj) S dn):∀k,k<=os.length->NJ os (BZ dn os.length) (BZ dn k).length=Lt (pc os pw cj).o dn k:=by
  intro k;induction k with
  |zero=>intro _;rfl
  | succ k ih=>
    intro hk;rw[Lt];cases hz:dn k with
    |none=>rw[DI hz];exact ih A0
    | some y=>
      obtain⟨_,y1,y2,y3,_⟩:=h.el k y hz;obtain⟨r,hr⟩:=oL (dn:=dn) (k:=k+1) (os.length-(k+1));rw[show k+1+(os.length-(k+1))=os.length by omega,DH hz]at hr;have hy:(BZ dn os.length).getD (BZ dn k).length z0=y:=by
        rw[hr,List.getD_eq_getElem?_getD,List.getElem?_append_left AB,List.getElem?_append_right (Nat.le_refl _),Nat.sub_self];rfl
      rw[DH hz,List.length_append,List.length_singleton,NJ,ih A0,hy,TO (P:=pc os pw cj) hk y2 y3];rfl
theorem Qy{os:List Int}{pw:List (List Int)}{cj:List (List (List Int))}(hp:AF os pw cj)(hc:CG (pc os pw cj) 0){S:V->Prop}(hS:E5 (T (pc os pw cj) 0) (M (pc os pw cj) 0) S){l pts:List V}(h:SI (pc os pw cj) S l)
    (hn:pts.Nodup) (hm:∀x,x∈pts↔S x):(pts.length:Int)=NJ os l l.length:=by
  obtain⟨dn,h1,rfl⟩:=h;obtain⟨l2,a1,a2,a3⟩:=Gi hp.val hc hS h1 (pc os pw cj).n (Nat.le_refl _);rw[Nat.sub_self]at a2 a3;rw[Lt,Int.mul_one]at a3;have e1:=Gh pts l2 hn (λx hx=>(a2 x).2 ⟨(hm x).1 hx,hS.n ((hm x).1 hx)⟩);have e2:=Gh l2 pts a1 (λx hx=>(hm x).2 ((a2 x).1 hx).1);have e3:=Qx (os:=os) h1 os.length (Nat.le_refl _);have PH:(pc os pw cj).n=os.length:=rfl;rw[PH]at a3 ⊢;rw[e3,<-a3];omega
end Go.Proofs.YtgknbnkmilddhaaGreat
