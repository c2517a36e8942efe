import Derived.Test.YtgknbnkmilddhaaGreatZ30
import Derived.Test.YtgknbnkmilddhaaGreatZ39
set_option linter.unusedVariables false
set_option linter.unusedSimpArgs false

namespace Go.Proofs.YtgknbnkmilddhaaGreat
theorem Fz.gv{H H2:HP}{os:List Int}{X:List (List Int)}{Y:List (List (List Int))}:Fz H H2 (.g [ints os,rows X,A6 Y]) (AP os X Y):= .refl _
theorem fJ{bs:List Int}{B1:Nat}{H:HP}(hg:B6 bs B1 H)(lim:Int)(nx:Nat)(MB:B1<nx):AC Tryz.prog 50 nx H [.q B1 0,.i .i64 lim] (λBB H' r=>∃r2,Fz H' (JI nx H') r r2/\lZ r2/\B6 bs B1 H'/\∀i,i<nx->i≠B1->H' i=H i):=by
 refine BA AA Tryz.func50 rfl A7 Tryz.ntmps50 Tryz.results50 (λCQ cX=>?_)
 refine C2 ?_;refine sQ λN hN=>?_;refine BR ?_;refine(ZQ (hg.AJ (A1 _ _ A0)) lim _ A0).AS ?_
 rintro m1 H1 r1 T6 ⟨⟨os,X,Y,rfl,hp⟩,PI,FH⟩
 have hd:=hp.drw
 have xI:H1 nx=some [.nl,.nl,.nl]:=(FH nx A0 A0).trans (A4 _ _ _)
 have K0:∀i,i<nx->i≠B1->H1 i=H i:=λi hi AQ=>(FH i A0 AQ).trans (A1 _ _ A0)
 refine BR ?_
 apply hN;refine AW.seq λN1 B2=>?_;refine AK 5 (nx+1+3) [ints os,rows X,A6 Y] rfl (A4 _ _ _) ?_
 refine AI (λG1 I8=>?_);dsimp only at I8
 have hk:∀i,i<nx+1+3->G1 i=H1 i:=λi hi=>by rw[<-I8];simp(disch:=omega)only[A1]
 have wG:B6 bs B1 G1:=PI.AJ (hk _ A0)
 replace xI:=(hk nx A0).trans xI
 have O1:∀i,i<nx->i≠B1->G1 i=H i:=λi hi AQ=>(hk i A0).trans (K0 i hi AQ)
 clear I8
 refine AG ?_;refine sQ λN hN=>?_;refine BR ?_;refine(AU wG 24 A0 _).AS ?_
 rintro m2 H2 r2 LN ⟨⟨x2,rfl,mH⟩,KV,DN⟩
 have lL:=(DN nx A0 A0).trans xI
 have RW:∀i,i<nx->i≠B1->H2 i=H i:=λi hi AQ=>(DN i A0 AQ).trans (O1 i hi AQ)
 refine BR ?_
 apply hN;apply AW.block;refine C2 ?_;refine AW.cond rfl ?_ ?_<;>intro h1<;>try simp only[cn]at h1
 ·refine sQ λN hN=>?_;refine BR ?_;refine(fI KV os X Y hp _ A0).AS ?_
  rintro m3 H3 r3 W1 ⟨⟨Tu,X3,Y3,rfl,Lx⟩,SN,U3⟩;have W7:=(U3 nx A0 A0).trans lL;have y5:∀i,i<nx->i≠B1->H3 i=H i:=λi hi AQ=>(U3 i A0 AQ).trans (RW i hi AQ)
  refine DO W7 ?_
  apply hN;refine AH ?_;first
  |exact⟨_,λ_ _ h=>h,_,.gv,⟨Tu,X3,Y3,rfl,Lx⟩,SN.AJ (A1 _ _ A0),λi hi AQ=>(A1 _ _ A0).trans (y5 i hi AQ)⟩
  |exact⟨_,λ_ _ h=>h,_,.gv,⟨os,X,Y,rfl,hd⟩,KV.AJ (A1 _ _ A0),λi hi AQ=>(A1 _ _ A0).trans (RW i hi AQ)⟩
 refine AW.seq λN2 B7=>?_;refine C2 ?_;refine AW.cond rfl ?_ ?_<;>intro h2<;>try simp only[cn]at h2
 ·apply AW.skip;apply B7;refine AW.cond rfl ?_ ?_<;>intro h3<;>try simp only[cn]at h3
  ·refine sQ λN hN=>?_;refine BR ?_;refine(QQ KV os X Y hp _ A0).AS ?_
   rintro m3 H3 r3 W1 ⟨⟨Tu,X3,Y3,rfl,Lx⟩,SN,U3⟩;have W7:=(U3 nx A0 A0).trans lL;have y5:∀i,i<nx->i≠B1->H3 i=H i:=λi hi AQ=>(U3 i A0 AQ).trans (RW i hi AQ)
   refine DO W7 ?_
   apply hN;refine AH ?_;first
   |exact⟨_,λ_ _ h=>h,_,.gv,⟨Tu,X3,Y3,rfl,Lx⟩,SN.AJ (A1 _ _ A0),λi hi AQ=>(A1 _ _ A0).trans (y5 i hi AQ)⟩
   |exact⟨_,λ_ _ h=>h,_,.gv,⟨os,X,Y,rfl,hd⟩,KV.AJ (A1 _ _ A0),λi hi AQ=>(A1 _ _ A0).trans (RW i hi AQ)⟩
  exfalso;first|omega|exact h3 h2|simp_all
 refine KT ?_;apply B7;refine AW.cond rfl ?_ ?_<;>intro h4<;>try simp only[cn]at h4
 ·refine sQ λN hN=>?_;refine BR ?_;refine(QQ KV os X Y hp _ A0).AS ?_
  rintro m3 H3 r3 W1 ⟨⟨Tu,X3,Y3,rfl,Lx⟩,SN,U3⟩;have W7:=(U3 nx A0 A0).trans lL;have y5:∀i,i<nx->i≠B1->H3 i=H i:=λi hi AQ=>(U3 i A0 AQ).trans (RW i hi AQ)
  refine DO W7 ?_
  apply hN;refine AH ?_;first
  |exact⟨_,λ_ _ h=>h,_,.gv,⟨Tu,X3,Y3,rfl,Lx⟩,SN.AJ (A1 _ _ A0),λi hi AQ=>(A1 _ _ A0).trans (y5 i hi AQ)⟩
  |exact⟨_,λ_ _ h=>h,_,.gv,⟨os,X,Y,rfl,hd⟩,KV.AJ (A1 _ _ A0),λi hi AQ=>(A1 _ _ A0).trans (RW i hi AQ)⟩
 apply AW.skip;apply B2;refine sQ λN hN=>?_;simp-dsimp-implicitDefEqProofs(maxSteps:=800000) (disch:=omega)only[go_sem,AP,lL];apply hN;refine AH ?_;first
 |exact⟨_,λ_ _ h=>h,_,.gv,⟨Tu,X3,Y3,rfl,Lx⟩,SN.AJ (A1 _ _ A0),λi hi AQ=>(A1 _ _ A0).trans (y5 i hi AQ)⟩
 |exact⟨_,λ_ _ h=>h,_,.gv,⟨os,X,Y,rfl,hd⟩,KV.AJ (A1 _ _ A0),λi hi AQ=>(A1 _ _ A0).trans (RW i hi AQ)⟩
theorem LK{bs:List Int}{B1:Nat}{H:HP}(hg:B6 bs B1 H)(lim:Int)(nx:Nat)(MB:B1<nx):AC Tryz.prog 50 nx H [.q B1 0,.i .i64 lim] (sK bs B1 nx H lZ):=YJ MB (fJ hg lim nx MB)
set_option maxHeartbeats 2000000 in
theorem fK{bs:List Int}{B1:Nat}{H:HP}(hg:B6 bs B1 H)(nx:Nat)(MB:B1<nx):AC Tryz.prog 27 nx H [.q B1 0] (λBB H' r=>∃r2,Fz H' (JI nx H') r r2/\lZ r2/\B6 bs B1 H'/\∀i,i<nx->i≠B1->H' i=H i):=by
 refine BA AA Tryz.func27 rfl A7 Tryz.ntmps27 Tryz.results27 (λCQ cX=>?_)
 refine C2 ?_;refine AW.seq λN1 B2=>?_;refine AI (λG0 C9=>?_);dsimp only at C9
 have Mv:∀i,i<nx->i≠B1->G0 i=H i:=λi hi _=>by rw[<-C9];simp(disch:=omega)only[A1]
 have s8:B6 bs B1 G0:=hg.AJ (by rw[<-C9];simp(disch:=omega)only[A1])
 have ha0:G0 nx=some [.nl,.nl,.nl]:=by rw[<-C9];simp(disch:=omega)only[A4]
 clear C9
 refine AG ?_;refine sQ λN hN=>?_;refine BR ?_;refine(AU s8 16 A0 _).AS ?_
 rintro m1 H1 r1 T6 ⟨⟨x1,rfl,iJ⟩,PI,FH⟩
 have ha1:=(FH nx A0 A0).trans ha0
 have K0:∀i,i<nx->i≠B1->H1 i=H i:=λi hi AQ=>(FH i A0 AQ).trans (Mv i hi AQ)
 refine BR ?_
 apply hN;apply AW.block;refine C2 ?_;refine AW.cond rfl ?_ ?_<;>intro h1<;>try simp only[cn]at h1
 ·refine sQ λN hN=>?_;refine BR ?_;refine(LK PI 96 _ A0).AS ?_
  rintro m2 H2 r2 LN ⟨⟨os,X,Y,rfl,hd⟩,KV,DN⟩;have Po:=(DN nx A0 A0).trans ha1;refine DO Po ?_
  apply hN;refine AH ?_;exact⟨_,λ_ _ h=>h,_,.refl _,⟨os,X,Y,rfl,hd⟩,KV.AJ (by simp(disch:=omega)only[A1]),λi hi AQ=>by simp(disch:=omega)only[A1];exact(DN i A0 AQ).trans (K0 i hi AQ)⟩
 refine C2 ?_;refine AW.cond rfl ?_ ?_<;>intro h2<;>try simp only[cn]at h2
 ·refine sQ λN hN=>?_;refine BR ?_;refine(LK PI 32 _ A0).AS ?_
  rintro m2 H2 r2 LN ⟨⟨os,X,Y,rfl,hd⟩,KV,DN⟩;have Po:=(DN nx A0 A0).trans ha1;refine DO Po ?_
  apply hN;refine AH ?_;exact⟨_,λ_ _ h=>h,_,.refl _,⟨os,X,Y,rfl,hd⟩,KV.AJ (by simp(disch:=omega)only[A1]),λi hi AQ=>by simp(disch:=omega)only[A1];exact(DN i A0 AQ).trans (K0 i hi AQ)⟩
 apply AW.skip;apply B2;refine sQ λN hN=>?_;refine BR ?_;refine(LK PI 24 _ A0).AS ?_
 rintro m2 H2 r2 LN ⟨⟨os,X,Y,rfl,hd⟩,KV,DN⟩
 have Po:=(DN nx A0 A0).trans ha1
 refine DO Po ?_
 apply hN;refine AH ?_;exact⟨_,λ_ _ h=>h,_,.refl _,⟨os,X,Y,rfl,hd⟩,KV.AJ (by simp(disch:=omega)only[A1]),λi hi AQ=>by simp(disch:=omega)only[A1];exact(DN i A0 AQ).trans (K0 i hi AQ)⟩
theorem fL{bs:List Int}{B1:Nat}{H:HP}(hg:B6 bs B1 H)(nx:Nat)(MB:B1<nx):AC Tryz.prog 27 nx H [.q B1 0] (sK bs B1 nx H lZ):=YJ MB (fK hg nx MB)
def A9H(r:AV):Prop:=∃os X Y k,r= .t [AP os X Y,.i .i64 k]/\ZR os X Y/\-1<=k/\k<=7
set_option maxHeartbeats 2000000 in
theorem KE(bs:List Int)(hb:U1 bs)(mG:bs.length<=4096)(nx:Nat):AC Tryz.prog 6 nx BM [S2 bs] (λ_ _ r=>A9H r):=by
 refine BA AA Tryz.func6 rfl A7 Tryz.ntmps6 Tryz.results6 (λCQ cX=>?_)
 refine C2 ?_;refine sQ λN hN=>?_;refine BR ?_;refine AC.AS (AC.frame (eK bs hb mG _)) ?_
 rintro m1 H1 r1 T6 ⟨H0,⟨B1,a1,s1,rfl,A9I,ADU,ho1,hs0⟩,CD,FA⟩
 have Cj:=(FA B1 A9I).trans hs0
 have ha1:H1 nx=some [.nl,.nl,.nl]:=by rw[CD nx A0];simp(disch:=omega)only[A1,A4]
 refine BR ?_
 apply hN;refine sQ λN hN=>?_;refine BR ?_;refine(fL ⟨a1,s1,ho1,Cj⟩ _ A0).AS ?_
 rintro m2 H2 r2 LN ⟨⟨os,X,Y,rfl,hd⟩,KV,DN⟩
 have Po:=(DN nx A0 A0).trans ha1
 refine BR ?_
 apply hN;refine AW.seq λN1 B2=>?_;refine AK 5 (m1+2) [ints os,rows X,A6 Y] rfl (by simp(disch:=omega)only[A4]) ?_
 refine AG ?_;refine AI (λG3 CB=>?_);dsimp only at CB
 have ha3:G3 nx=some [.nl,.nl,.nl]:=by rw[<-CB];simp(disch:=omega)only[A1];exact Po
 have SN:B6 bs B1 G3:=KV.AJ (by rw[<-CB];simp(disch:=omega)only[A1])
 clear CB
 refine AG ?_;refine sQ λN hN=>?_;refine BR ?_;refine(AU SN 15 A0 _).AS ?_
 rintro m3 H3 r3 W1 ⟨⟨x3,rfl,hx3⟩,A9J,U3⟩
 have ha4:=(U3 nx A0 A0).trans ha3
 refine BR ?_
 apply hN;refine AW.cond rfl ?_ ?_<;>intro h1<;>try simp only[cn]at h1
 ·refine AW.seq λN hN=>?_;refine L1 AA A7 [true,true,false,false,false,false] A7 ?_
  refine BR ?_;refine(DY (A9J.AJ (A1 _ _ A0)) [-1,6,7] 3 (A4 _ _ _) rfl A0 A0 _ A0 A0 A0).AS ?_;rintro m7 H7 r7 hm7 ⟨⟨x7,rfl,hx7⟩,jB,l5⟩;have S1: -1<=x7/\x7<=7:=by simp at hx7;omega
  have Me:=(l5 nx A0 A0).trans ((A1 _ _ A0).trans ha4);refine DO Me ?_
  apply hN;refine AH ?_;exact⟨_,λ_ _ h=>h,os,X,Y,x7,rfl,hd,S1⟩
 apply AW.skip;apply B2;refine AW.seq λN hN=>?_;refine L1 AA A7 [true,true,false,false,false] A7 ?_
 refine BR ?_;refine(AU A9J 4 A0 _).AS ?_
 rintro m7 H7 r7 hm7 ⟨⟨x7,rfl,hx7⟩,jB,l5⟩
 have Me:=(l5 nx A0 A0).trans ha4
 refine DO Me ?_
 apply hN;refine AH ?_;exact⟨_,λ_ _ h=>h,os,X,Y,x7,rfl,hd,A0,A0⟩
theorem KF(bs:List Int)(hb:U1 bs)(mG:bs.length<=4096)(nx:Nat):AC Tryz.prog 6 nx BM [S2 bs] (λ_ _ r=>A9H r):=KE bs hb mG nx
theorem pY(bs:List Int)(hb:bs.length<=9223372036854775807):BI Tryz.prog 5 [S2 bs] (.b (decide ((bs.length:Int)>4096))):=by
 refine AD AA Tryz.func5 rfl A7 Tryz.ntmps5 Tryz.results5 (.b _) (λnx cX=>?_)
 refine eJ ?_;refine eJ ?_;apply AW.ret;simp-dsimp-implicitDefEqProofs(disch:=omega)only[go_sem];try rfl
theorem Ty{v e:Int}:Fl (F3 v e):= .t _ λk x hk=>by
  match k,hk with
  |0,hk=>cases hk;exact .i _ _
  |1,hk=>cases hk;exact .i _ _
  |k+2,hk=>simp at hk
def mP(N:Int):Nat->Int
  |0=>1
  |k+1=>if mP N k*N<=1000000 then mP N k*N else 1000000
theorem Kw{N:Int}(h:1<=N):∀k,1<=mP N k/\mP N k<=1000000:=by
  intro k;induction k with
  |zero=>simp[mP]
  | succ k ih=>
    rw[mP];have:=Int.mul_le_mul ih.1 h A0 A0;split<;>omega
theorem Tz{N:Int}(h:1<=N):∀k,mP N k<=600->OU N k=mP N k:=by
  intro k;induction k with
  |zero=>intro _;rfl
  | succ k ih=>
    intro hk;have hb:=Kw h k;have h2:mP N k<=mP N k*N:=by
      have:=Int.mul_le_mul_of_nonneg_left h (show 0<=mP N k by omega);omega
    rw[mP]at hk ⊢;split at hk
    · rename_i q;have i1:=ih A0;rw[OU,i1,if_pos A0,if_pos q]
    omega
section
variable(os:List Int)(pw:List (List Int))(cj:List (List (List Int)))
theorem Kx(hl:GB os pw cj)(k:Int):(∃e:Int,(e !=0)=true/\p7 os pw cj k=F3 0 e)\/
    ∃c:Nat,k=(c:Int)/\c<=6/\AF os pw cj/\CG (pc os pw cj) 0/\nG os<=32/\p7 os pw cj k=F3 (W5 os (pc os pw cj) c) 0:=by
  by_cases hg:AF os pw cj/\CG (pc os pw cj) 0
  · by_cases HL:nG os<=32
    · have e0:aU os pw cj=0:=by rw[aU,D2 hg,if_pos rfl,if_pos (by rw[<-GR hg.1];omega)]
      by_cases hk:0<=k/\k<=6
      · obtain⟨c,rfl⟩:=Int.eq_ofNat_of_zero_le hk.1;have:=hk.2;exact .inr ⟨c,rfl,A0,hg.1,hg.2,HL,by rw[p7,if_pos e0,if_pos hk,Int.toNat_natCast]⟩
      exact .inl ⟨2,rfl,by rw[p7,if_pos e0,if_neg hk]⟩
    have e3:aU os pw cj=3:=by rw[aU,D2 hg,if_pos rfl,if_neg (by rw[<-GR hg.1];omega)]
    exact .inl ⟨3,rfl,by rw[p7,if_neg A0,e3]⟩
  have e1:aU os pw cj=1:=by rw[aU,C8 hg];rfl
  exact .inl ⟨1,rfl,by rw[p7,if_neg A0,e1]⟩
end
theorem A3Q{a b:Int}:min a b=if a<=b then a else b:=by
  by_cases h:a<=b
  · rw[if_pos h,Int.min_eq_left h]
  rw[if_neg h,Int.min_eq_right A0]
theorem A3R{H:HP}{c:Int}{b:AV}:ZY H [.g [.i .i64 c,.nl],b] [fp c [],b]:=
  .cons (.g _ _ rfl λz x y hx hy=>by
    match z,hx,hy with
    |0,hx,hy=>cases hx;cases hy;exact .refl _
    |1,hx,hy=>cases hx;cases hy;exact .nl
    |z+2,hx,hy=>simp at hx) (.cons (.refl _) .nil)
set_option maxRecDepth 100000 in
set_option maxHeartbeats 4000000 in
theorem mB(bs:List Int)(hb:U1 bs):BI Tryz.prog 3 [S2 bs] (.b true):=by
 have LZ:=hb.1
 have he:((1:Int) !=0)=true:=rfl
 refine AD AA Tryz.func3 rfl A7 Tryz.ntmps3 Tryz.results3 (.b _) (λnx cX=>?_)
 refine J9 he ?_;refine AW.seq λN1 B2=>?_;refine OV (pY bs LZ) he ?_;refine AW.cond rfl ?_ ?_<;>intro h1<;>try simp only[cn]at h1
 ·refine J9 he ?_;apply AW.ret;simp-dsimp-implicitDefEqProofs(disch:=omega)only[go_sem];all_goals first
  |rfl
  |(rw[if_pos (show os.length=0 by omega),FP];rfl)
  |(exact absurd (show wm (if os.length=0 then 1 else 0)=0 by rw[if_neg A0];exact D7) (by assumption))
 apply AW.skip;apply B2;refine sQ λN hN=>?_;refine FD he ?_;refine(KF bs hb A0 _).AS ?_
 rintro m1 H1 r1 T6 ⟨os,X,Y,k,rfl,d1,hk⟩
 have hl:=d1.pl
 have hi:=MO os X Y hl k
 have hs:=MP os X Y hl k
 rcases Kx os X Y hl k with ⟨e,he,eM⟩|⟨c,rfl,hc6,h,hc,HL,eM⟩<;>rw[eM]at hi hs
 ·skip
  refine DO he ?_
  apply hN;refine AK 3 (nx+1+2+5) [ints os,rows X,A6 Y] rfl (by simp(disch:=omega)only[A4,A1]) ?_;refine AG ?_;refine OV (hi) he ?_;refine OV (hs) he ?_;refine AW.seq λN2 B7=>?_;refine J9 he ?_;refine B4 rfl ?_;apply AW.skip;apply B7;refine AW.seq λN3 BC=>?_;refine J9 he ?_;refine CI rfl ?_;refine J9 he ?_;apply AW.ret;simp-dsimp-implicitDefEqProofs(disch:=omega)only[go_sem];all_goals first
  |rfl
  |(rw[if_pos (show os.length=0 by omega),FP];rfl)
  |(exact absurd (show wm (if os.length=0 then 1 else 0)=0 by rw[if_neg A0];exact D7) (by assumption))
 skip
 have hcL:=R9 h hc
 obtain⟨Z1,Vo,hr3⟩:=Ie os X Y h hc
 have Rk:=JC h
 have hNe:=GR h
 have h2p:=I3 HL
 have FU:=h.1.1
 have hrk:(decide (W5 os (pc os X Y) c>0)==decide ((c:Int)>=(Ic os X Y:Int)))=true:=by
  have e:0<W5 os (pc os X Y) c↔Ic os X Y<=c:=⟨λq=>Classical.byContradiction λz=>by have:=hr3 c A0;omega,λq=>Gw h hc q Vo⟩;by_cases q:Ic os X Y<=c
  ·rw[decide_eq_true (e.2 q),decide_eq_true (show(c:Int)>=(Ic os X Y:Int) by omega)];rfl
  rw[decide_eq_false (λz=>q (e.1 z)),decide_eq_false (show ¬(c:Int)>=(Ic os X Y:Int) by omega)];rfl
 refine BR ?_
 apply hN;refine AK 3 (nx+1+2+5) [ints os,rows X,A6 Y] rfl (by simp(disch:=omega)only[A4,A1]) ?_
 refine AG ?_;refine OV (hi) he ?_;refine OV (hs) he ?_;refine AW.seq λN4 CF=>?_;refine J9 he ?_;refine B4 rfl ?_;apply AW.skip;apply CF;refine AW.seq λN5 DL=>?_;refine J9 he ?_;refine B4 rfl ?_;apply AW.skip;apply DL;refine OV (PF os X Y hl h hc HL) he ?_;refine AW.seq λN6 FR=>?_;refine sQ λN hN=>?_;simp-dsimp-implicitDefEqProofs(maxSteps:=800000) (disch:=omega)only[go_sem,Bool.not_false,Bool.not_true,beq_self_eq_true,bne_self_eq_false,F3,he,hrk];apply hN;refine B4 rfl ?_;apply AW.skip;apply FR;refine J9 he ?_;refine AW.seq λN7 MV=>?_;refine J9 he ?_;apply AW.block;refine A8 (α:=Nat) (λx=>sl 147 [(2,.b false),(3,A5 os X Y),(4,.i .i64 c),(5,.i .i64 (W5 os (pc os X Y) c)),(11,.i .i64 (mP (CV os os.length) x)),(12,.i .i64 x)]) (λ_=>BM) (λx m=>x<=c) (λx=>c-x) (0) ?_ ?_ (by intro d cs hd;cases hd) ?_
 ·omega
 ·simp(disch:=omega) [AN,AO,sl,A5,ints,rows,A6,mP]
 skip
 rintro k m SZ
 simp only[A5];refine AG ?_;refine AW.seq λN8 OB=>?_;refine J9 he ?_;refine AW.cond rfl ?_ ?_<;>intro h2<;>try simp only[cn]at h2
 ·have kF:=Kw (N:=CV os os.length) A0 k;have hcm:0<=mP (CV os os.length) k*CV os os.length:=Int.mul_nonneg A0 A0;have AF2:mP (CV os os.length) k*CV os os.length<=1000000*729:=Int.mul_le_mul kF.2 A0 A0 A0;have hs9:mP (CV os os.length) (k+1)=min (mP (CV os os.length) k*CV os os.length) 1000000:=by rw[A3Q];rfl
  apply AW.skip;apply OB;refine AW.seq λN9 SC=>?_;apply AW.block;refine nW he ?_;refine AC.pure (.of (J1 os X Y hl h)) ?_;(try simp-dsimp-implicitDefEqProofs(maxSteps:=800000) (disch:=omega)only[go_sem,Bool.not_false,Bool.not_true,beq_self_eq_true,bne_self_eq_false,F3,he])
  apply SC;refine nW he ?_;refine⟨k+1,?_,λ_ _ h=>h,?_,?_⟩
  ·simp(disch:=omega) [AN,AO,sl,AR,A5,ints,rows,A6,hs9]<;>omega
  ·first|omega|(dsimp only;omega)
  first|omega|(simp only;omega)
 obtain rfl:k=c:=A0
 apply AW.exit;apply MV;refine AW.seq λAm IQ=>?_;refine sQ λN hN=>?_;refine FD he ?_;refine CH.mk' (λh3=>?_) (λh3=>?_)
 ·try simp only[cn]at h3
  refine FD he ?_
  apply hN;refine AW.cond rfl ?_ ?_<;>intro h4<;>try simp only[cn]at h4
  ·have hsq:=Tz (N:=CV os os.length) A0 k A0;have hep:=zX h hc (c:=k) A0;have hfp:fpP (k:Int) []:=⟨⟨A0,A0⟩,AB,λi hi=>by simp at hi⟩;have hce:=LR (k:Int) [] BO.nil os X Y hl;simp only[Int.toNat_natCast]at hce;simp only[gL,gK,D2 (show fpP (k:Int) []/\Ed os X Y from ⟨hfp,h,hc⟩),hep,if_pos (show OU (CV os os.length) k<=4096 by omega),↓reduceIte]at hce;refine sQ λN hN=>?_;refine FD he ?_;refine AC.pure (.yM (hce) A3R Ty) ?_
   refine FD he ?_
   apply hN;refine J9 he ?_;refine B4 rfl ?_;apply AW.skip;apply IQ;refine AW.seq λDu JO=>?_;refine OV (J1 os X Y hl h) he ?_;refine AW.cond rfl ?_ ?_<;>intro h5<;>try simp only[cn]at h5
   ·refine J9 he ?_;apply AW.ret;simp-dsimp-implicitDefEqProofs(disch:=omega)only[go_sem];all_goals first
    |rfl
    |(rw[if_pos (show os.length=0 by omega),FP];rfl)
    |(exact absurd (show wm (if os.length=0 then 1 else 0)=0 by rw[if_neg A0];exact D7) (by assumption))
   have hLp:=aS h hc;obtain⟨L,mJ⟩:∃L,BK os X Y=L:=⟨_,rfl⟩;obtain⟨mb,ZW⟩:∃mb,D6 (DM os (pc os X Y) (BK os X Y))=mb:=⟨_,rfl⟩;have Ky:=lJ h hc;have Sp:=FQ os X Y hl h hc HL;have Kz:=λi hi=>GJ os X Y hl h hc HL i hi
   rw[ZW]at Ky;simp only[ZW]at Kz;rw[mJ]at Ky Sp hcL;simp only[mJ]at Kz;apply AW.skip;apply JO;refine OV (Sp) he ?_;refine J9 he ?_;refine AW.seq λOt PA=>?_;refine J9 he ?_;apply AW.block;refine A8 (α:=Nat) (λx=>sl 147 [(2,.b false),(3,A5 os X Y),(15,.v L.length (L.map (AZ os.length))),(16,.i .i64 0),(17,.i .i64 (wm (sm (λj=>mb.getD j 0) x))),(18,.i .i64 x)]) (λ_=>BM) (λx m=>x<=L.length) (λx=>L.length-x) (0) ?_ ?_ (by intro d cs hd;cases hd) ?_
   ·omega
   ·simp(disch:=omega) [AN,AO,sl,A5,ints,rows,A6,sm,D7]
   skip
   rintro j m2 hj;simp only[A5];refine AG ?_;refine AW.seq λN13 RG=>?_;refine J9 he ?_;refine AW.cond rfl ?_ ?_<;>intro h6<;>try simp only[cn]at h6
   ·have KG:=NP (n:=os.length) (show j<L.length by omega);have HB:=Kz j A0;obtain⟨u,hu⟩:∃u,L.getD j []=u:=⟨_,rfl⟩;rw[hu]at KG HB;have hs9:sm (λj=>mb.getD j 0) (j+1)=sm (λj=>mb.getD j 0) j+mb.getD j 0:=rfl;apply AW.skip;apply RG;refine AW.seq λN14 RH=>?_;apply AW.block;refine AW.seq λN hN=>?_;refine AM AA A7 11 A7 ?_
    refine Ej he KG ?_;refine⟨_,.of (HB),?_⟩;refine FD he ?_
    apply hN;refine AW.seq λN15 kC=>?_;refine J9 he ?_;refine B4 rfl ?_;apply AW.skip;apply kC;refine sS he ?_;apply RH;refine nW he ?_;refine⟨j+1,?_,λ_ _ h=>h,?_,?_⟩
    ·rw[hs9];simp(disch:=omega) [AN,AO,sl,AR,A5,ints,rows,A6]
    ·first|omega|(dsimp only;omega)
    first|omega|(simp only;omega)
   obtain rfl:j=L.length:=A0;rw[Ky]at*;apply AW.exit;apply PA;refine sQ λN hN=>?_;refine FD he ?_;refine CH.mk' (λh7=>?_) (λh7=>?_)
   ·(try simp only[cn]at h7);refine FD he ?_
    refine CH.mk' (λh8=>?_) (λh8=>?_)
    ·(try simp only[cn]at h8);refine FD he ?_
     apply hN;apply AW.ret;simp-dsimp-implicitDefEqProofs(disch:=omega)only[go_sem];all_goals first
     |rfl
     |(rw[if_pos (show os.length=0 by omega),FP];rfl)
     |(exact absurd (show wm (if os.length=0 then 1 else 0)=0 by rw[if_neg A0];exact D7) (by assumption))
    (try simp only[cn]at h8);refine FD he ?_
    apply hN;apply AW.ret;simp-dsimp-implicitDefEqProofs(disch:=omega)only[go_sem];all_goals first
    |rfl
    |(rw[if_pos (show os.length=0 by omega),FP];rfl)
    |(exact absurd (show wm (if os.length=0 then 1 else 0)=0 by rw[if_neg A0];exact D7) (by assumption))
   try simp only[cn]at h7
   refine FD he ?_
   apply hN;apply AW.ret;simp-dsimp-implicitDefEqProofs(disch:=omega)only[go_sem];all_goals first
   |rfl
   |(rw[if_pos (show os.length=0 by omega),FP];rfl)
   |(exact absurd (show wm (if os.length=0 then 1 else 0)=0 by rw[if_neg A0];exact D7) (by assumption))
  apply AW.skip;apply IQ;refine AW.seq λN16 A28=>?_;refine OV (J1 os X Y hl h) he ?_;refine AW.cond rfl ?_ ?_<;>intro h9<;>try simp only[cn]at h9
  ·refine J9 he ?_;apply AW.ret;simp-dsimp-implicitDefEqProofs(disch:=omega)only[go_sem];all_goals first
   |rfl
   |(rw[if_pos (show os.length=0 by omega),FP];rfl)
   |(exact absurd (show wm (if os.length=0 then 1 else 0)=0 by rw[if_neg A0];exact D7) (by assumption))
  have hLp:=aS h hc;obtain⟨L,mJ⟩:∃L,BK os X Y=L:=⟨_,rfl⟩;obtain⟨mb,ZW⟩:∃mb,D6 (DM os (pc os X Y) (BK os X Y))=mb:=⟨_,rfl⟩;have Ky:=lJ h hc;have Sp:=FQ os X Y hl h hc HL;have Kz:=λi hi=>GJ os X Y hl h hc HL i hi
  rw[ZW]at Ky;simp only[ZW]at Kz;rw[mJ]at Ky Sp hcL;simp only[mJ]at Kz;apply AW.skip;apply A28;refine OV (Sp) he ?_;refine J9 he ?_;refine AW.seq λN17 A29=>?_;refine J9 he ?_;apply AW.block;refine A8 (α:=Nat) (λx=>sl 147 [(2,.b false),(3,A5 os X Y),(15,.v L.length (L.map (AZ os.length))),(16,.i .i64 0),(17,.i .i64 (wm (sm (λj=>mb.getD j 0) x))),(18,.i .i64 x)]) (λ_=>BM) (λx m=>x<=L.length) (λx=>L.length-x) (0) ?_ ?_ (by intro d cs hd;cases hd) ?_
  ·omega
  ·simp(disch:=omega) [AN,AO,sl,A5,ints,rows,A6,sm,D7]
  skip
  rintro j m2 hj;simp only[A5];refine AG ?_;refine AW.seq λN18 ADI=>?_;refine J9 he ?_;refine AW.cond rfl ?_ ?_<;>intro VZ<;>try simp only[cn]at VZ
  ·have KG:=NP (n:=os.length) (show j<L.length by omega);have HB:=Kz j A0;obtain⟨u,hu⟩:∃u,L.getD j []=u:=⟨_,rfl⟩;rw[hu]at KG HB;have hs9:sm (λj=>mb.getD j 0) (j+1)=sm (λj=>mb.getD j 0) j+mb.getD j 0:=rfl;apply AW.skip;apply ADI;refine AW.seq λN19 ADJ=>?_;apply AW.block;refine AW.seq λN hN=>?_;refine AM AA A7 11 A7 ?_
   refine Ej he KG ?_;refine⟨_,.of (HB),?_⟩;refine FD he ?_
   apply hN;refine AW.seq λN20 ADK=>?_;refine J9 he ?_;refine B4 rfl ?_;apply AW.skip;apply ADK;refine sS he ?_;apply ADJ;refine nW he ?_;refine⟨j+1,?_,λ_ _ h=>h,?_,?_⟩
   ·rw[hs9];simp(disch:=omega) [AN,AO,sl,AR,A5,ints,rows,A6]
   ·first|omega|(dsimp only;omega)
   first|omega|(simp only;omega)
  obtain rfl:j=L.length:=A0;rw[Ky]at*;apply AW.exit;apply A29;refine sQ λN hN=>?_;refine FD he ?_;refine CH.mk' (λLL=>?_) (λLL=>?_)
  ·try simp only[cn]at LL
   refine FD he ?_
   refine CH.mk' (λmD=>?_) (λmD=>?_)
   ·(try simp only[cn]at mD);refine FD he ?_
    apply hN;apply AW.ret;simp-dsimp-implicitDefEqProofs(disch:=omega)only[go_sem];all_goals first
    |rfl
    |(rw[if_pos (show os.length=0 by omega),FP];rfl)
    |(exact absurd (show wm (if os.length=0 then 1 else 0)=0 by rw[if_neg A0];exact D7) (by assumption))
   try simp only[cn]at mD
   refine FD he ?_
   apply hN;apply AW.ret;simp-dsimp-implicitDefEqProofs(disch:=omega)only[go_sem];all_goals first
   |rfl
   |(rw[if_pos (show os.length=0 by omega),FP];rfl)
   |(exact absurd (show wm (if os.length=0 then 1 else 0)=0 by rw[if_neg A0];exact D7) (by assumption))
  try simp only[cn]at LL
  refine FD he ?_
  apply hN;apply AW.ret;simp-dsimp-implicitDefEqProofs(disch:=omega)only[go_sem];all_goals first
  |rfl
  |(rw[if_pos (show os.length=0 by omega),FP];rfl)
  |(exact absurd (show wm (if os.length=0 then 1 else 0)=0 by rw[if_neg A0];exact D7) (by assumption))
 try simp only[cn]at h3
 refine FD he ?_
 apply hN;refine B4 rfl ?_;apply AW.skip;apply IQ;refine AW.seq λN21 ADL=>?_;refine OV (J1 os X Y hl h) he ?_;refine AW.cond rfl ?_ ?_<;>intro pZ<;>try simp only[cn]at pZ
 ·refine J9 he ?_;apply AW.ret;simp-dsimp-implicitDefEqProofs(disch:=omega)only[go_sem];all_goals first
  |rfl
  |(rw[if_pos (show os.length=0 by omega),FP];rfl)
  |(exact absurd (show wm (if os.length=0 then 1 else 0)=0 by rw[if_neg A0];exact D7) (by assumption))
 have hLp:=aS h hc
 obtain⟨L,mJ⟩:∃L,BK os X Y=L:=⟨_,rfl⟩
 obtain⟨mb,ZW⟩:∃mb,D6 (DM os (pc os X Y) (BK os X Y))=mb:=⟨_,rfl⟩
 have Ky:=lJ h hc
 have Sp:=FQ os X Y hl h hc HL
 have Kz:=λi hi=>GJ os X Y hl h hc HL i hi
 rw[ZW]at Ky
 simp only[ZW]at Kz
 rw[mJ]at Ky Sp hcL
 simp only[mJ]at Kz
 apply AW.skip;apply ADL;refine OV (Sp) he ?_;refine J9 he ?_;refine AW.seq λN22 ADM=>?_;refine J9 he ?_;apply AW.block;refine A8 (α:=Nat) (λx=>sl 147 [(2,.b false),(3,A5 os X Y),(15,.v L.length (L.map (AZ os.length))),(16,.i .i64 0),(17,.i .i64 (wm (sm (λj=>mb.getD j 0) x))),(18,.i .i64 x)]) (λ_=>BM) (λx m=>x<=L.length) (λx=>L.length-x) (0) ?_ ?_ (by intro d cs hd;cases hd) ?_
 ·omega
 ·simp(disch:=omega) [AN,AO,sl,A5,ints,rows,A6,sm,D7]
 skip
 rintro j m2 hj
 simp only[A5];refine AG ?_;refine AW.seq λN23 ADN=>?_;refine J9 he ?_;refine AW.cond rfl ?_ ?_<;>intro h14<;>try simp only[cn]at h14
 ·have KG:=NP (n:=os.length) (show j<L.length by omega);have HB:=Kz j A0;obtain⟨u,hu⟩:∃u,L.getD j []=u:=⟨_,rfl⟩;rw[hu]at KG HB;have hs9:sm (λj=>mb.getD j 0) (j+1)=sm (λj=>mb.getD j 0) j+mb.getD j 0:=rfl;apply AW.skip;apply ADN;refine AW.seq λN24 ADO=>?_;apply AW.block;refine AW.seq λN hN=>?_;refine AM AA A7 11 A7 ?_
  refine Ej he KG ?_;refine⟨_,.of (HB),?_⟩;refine FD he ?_
  apply hN;refine AW.seq λN25 ADP=>?_;refine J9 he ?_;refine B4 rfl ?_;apply AW.skip;apply ADP;refine sS he ?_;apply ADO;refine nW he ?_;refine⟨j+1,?_,λ_ _ h=>h,?_,?_⟩
  ·rw[hs9];simp(disch:=omega) [AN,AO,sl,AR,A5,ints,rows,A6]
  ·first|omega|(dsimp only;omega)
  first|omega|(simp only;omega)
 obtain rfl:j=L.length:=A0
 rw[Ky]at*
 apply AW.exit;apply ADM;refine sQ λN hN=>?_;refine FD he ?_;refine CH.mk' (λWz=>?_) (λWz=>?_)
 ·try simp only[cn]at Wz
  refine FD he ?_
  refine CH.mk' (λXa=>?_) (λXa=>?_)
  ·try simp only[cn]at Xa
   refine FD he ?_
   apply hN;apply AW.ret;simp-dsimp-implicitDefEqProofs(disch:=omega)only[go_sem];all_goals first
   |rfl
   |(rw[if_pos (show os.length=0 by omega),FP];rfl)
   |(exact absurd (show wm (if os.length=0 then 1 else 0)=0 by rw[if_neg A0];exact D7) (by assumption))
  try simp only[cn]at Xa
  refine FD he ?_
  apply hN;apply AW.ret;simp-dsimp-implicitDefEqProofs(disch:=omega)only[go_sem];all_goals first
  |rfl
  |(rw[if_pos (show os.length=0 by omega),FP];rfl)
  |(exact absurd (show wm (if os.length=0 then 1 else 0)=0 by rw[if_neg A0];exact D7) (by assumption))
 try simp only[cn]at Wz
 refine FD he ?_
 apply hN;apply AW.ret;simp-dsimp-implicitDefEqProofs(disch:=omega)only[go_sem];all_goals first
 |rfl
 |(rw[if_pos (show os.length=0 by omega),FP];rfl)
 |(exact absurd (show wm (if os.length=0 then 1 else 0)=0 by rw[if_neg A0];exact D7) (by assumption))
end Go.Proofs.YtgknbnkmilddhaaGreat
