import Derived.Test.YtgknbnkmilddhaaGreatZ09
import Derived.Test.YtgknbnkmilddhaaGreatZ11
import Derived.Test.YtgknbnkmilddhaaGreatZ12
set_option linter.unusedVariables false
set_option linter.unusedSimpArgs false

namespace Go.Proofs.YtgknbnkmilddhaaGreat
theorem EM(os:List Int)(pw:List (List Int))(cj:List (List (List Int)))(h:AF os pw cj):BI Tryz.prog 85 [AP os pw cj] (.i .i64 (CV os os.length)):=by
 have FU:=h.1.1
 have IY:=h.2.1
 have hN:=h.2.2.1
 refine AD AA Tryz.func85 rfl A7 Tryz.ntmps85 Tryz.results85 (.i _ _) (λnx cX=>?_)
 refine FB ?_;refine AK 1 nx _ rfl (A4 _ _ _) ?_
 refine AG ?_;refine FB ?_;refine AW.seq λN1 B2=>?_;refine FB ?_;apply AW.block;refine A8 (α:=Nat) (λx=>sl 20 [(1,A5 os pw cj),(3,.i .i64 (CV os x)),(4,.i .i64 x)]) (λ_=>BM) (λx m=>x<=os.length) (λx=>os.length-x) (0) ?_ ?_ (by intro d cs hd;cases hd) ?_
 ·omega
 ·simp(disch:=omega) [AN,AO,sl,A5,ints,rows,A6,CV]
 skip
 rintro k m hk
 refine AG ?_;refine AW.seq λN2 B7=>?_;refine FB ?_;refine AW.cond rfl ?_ ?_<;>intro h1<;>try simp only[cn]at h1
 ·have h2:=M1 IY (k+1) A0;have h3:=ND IY (k:=k+1) (os.length-(k+1)) A0;have h4:CV os (k+1)=CV os k*os.getD k 0:=rfl;have h6:CV os (k+1+(os.length-(k+1)))=CV os os.length:=by congr 1;omega
  apply AW.skip;apply B7;refine AW.seq λN3 BC=>?_;apply AW.block;refine bY ?_;apply BC;refine bY ?_;refine⟨k+1,?_,λ_ _ h=>h,?_,?_⟩
  ·simp(disch:=omega) [AN,AO,sl,A5,ints,rows,A6,CV]
  ·omega
  first|omega|(simp only;omega)
 apply AW.exit;apply B2;refine FB ?_;refine AH ?_;rw[show k=os.length by omega]
theorem JP(os:List Int)(pw:List (List Int))(cj:List (List (List Int)))(h:AF os pw cj):BI Tryz.prog 71 [A5 os pw cj] (.i .i64 (CV os os.length)):=by
 have FU:=h.1.1
 have IY:=h.2.1
 have hN:=h.2.2.1
 refine AD AA Tryz.func71 rfl A7 Tryz.ntmps71 Tryz.results71 (.i _ _) (λnx cX=>?_)
 refine FB ?_;refine FB ?_;refine AW.seq λN1 B2=>?_;refine FB ?_;apply AW.block;refine A8 (α:=Nat) (λx=>sl 20 [(3,.i .i64 (CV os x)),(9,ints os),(10,.i .i64 os.length),(11,.i .i64 x)]) (λ_=>BM) (λx m=>x<=os.length) (λx=>os.length-x) (0) ?_ ?_ (λ_ _ h=>h) ?_
 ·omega
 ·simp(disch:=omega) [AN,AO,sl,A5,ints,rows,A6,CV]
 skip
 rintro k m hk
 refine AG ?_;refine FB ?_;refine AW.seq λN2 B7=>?_;refine AW.cond rfl ?_ ?_<;>intro h1<;>try simp only[cn]at h1
 ·have h2:=M1 IY (k+1) A0;have h3:=ND IY (k:=k+1) (os.length-(k+1)) A0;have h4:CV os (k+1)=CV os k*os.getD k 0:=rfl;have h6:CV os (k+1+(os.length-(k+1)))=CV os os.length:=by congr 1;omega
  apply AW.skip;apply B7;refine AW.seq λN3 BC=>?_;apply AW.block;refine FB ?_;refine bY ?_;apply BC;refine bY ?_;refine⟨k+1,?_,λ_ _ h=>h,?_,?_⟩
  ·simp(disch:=omega) [AN,AO,sl,A5,ints,rows,A6,CV]
  ·omega
  first|omega|(simp only;omega)
 apply AW.exit;apply B2;refine FB ?_;refine AH ?_;rw[show k=os.length by omega]
def OU(N:Int):Nat->Int
  |0=>1
  |k+1=>if OU N k<=4096 then OU N k*N else OU N k
theorem A0Y{N:Int}(h1:1<=N)(h2:N<=729):∀k,1<=OU N k/\OU N k<=2985984:=by
  intro k;induction k with
  |zero=>simp[OU]
  | succ k ih=>
    rw[OU];split
    · rename_i h3;have:=Q1 ih.1 h3 h1 h2;omega
    exact ih
def RI(os:List Int)(num:Int):Nat->Int
  |0=>num
  |d+1=>(RI os num d).tdiv (os.getD (os.length-1-d) 0)
def C5(os:List Int)(num:Int):V:=λi=>if i<os.length then (RI os num (os.length-1-i)).tmod (os.getD i 0)else 0
theorem IS{os:List Int}{num:Int}(h0:0<=num)(hp:∀i,i<os.length->JG (os.getD i 0)):∀d,d<=os.length->0<=RI os num d/\RI os num d<=num:=by
  intro d;induction d with
  |zero=>intro _;exact⟨h0,Int.le_refl _⟩
  | succ d ih=>
    intro hd;have i1:=ih A0;have i2:=CE (hp (os.length-1-d) A0);rw[RI];rw[Int.tdiv_eq_ediv_of_nonneg i1.1];exact⟨Int.ediv_nonneg i1.1 A0,Int.le_trans (Int.ediv_le_self _ i1.1) i1.2⟩
theorem cL{os:List Int}{num:Int}(h0:0<=num)(hp:∀i,i<os.length->JG (os.getD i 0)){i:Nat}(hi:i<os.length):0<=C5 os num i/\C5 os num i<os.getD i 0:=by
  have i1:=IS h0 hp (os.length-1-i) A0;have i2:=CE (hp i hi);rw[C5,if_pos hi,Int.tmod_eq_emod_of_nonneg i1.1];exact⟨Int.emod_nonneg _ A0,Int.emod_lt_of_pos _ A0⟩
def Lq(os:List Int)(num:Int)(d:Nat):V:=λi=>if os.length<=i+d then C5 os num i else 0
theorem cM{os:List Int}{num:Int}{d:Nat}(hd:d<os.length):B3 (D3 os.length (Lq os num d)) (os.length-1-d) [.i .i64 ((RI os num d).tmod (os.getD (os.length-1-d) 0))]=D3 os.length (Lq os num (d+1)):=by
  rw[K1 A0];refine E1 λi hi=>?_
  unfold AX Lq;split
  · rename_i e;subst e;rw[if_pos A0,C5,if_pos A0,show os.length-1-(os.length-1-d)=d by omega]
  by_cases e:os.length<=i+d
  · rw[if_pos e,if_pos A0]
  rw[if_neg e,if_neg A0]
theorem kD{os:List Int}{num:Int}:D3 os.length (Lq os num os.length)=D3 os.length (C5 os num):=E1 λi _=>by rw[Lq,if_pos A0]
theorem cO{os:List Int}{num:Int}:D3 os.length (Lq os num 0)=D3 os.length z0:=E1 λi hi=>by rw[Lq,if_neg A0];rfl
theorem SF(os:List Int)(pw:List (List Int))(cj:List (List (List Int)))(hn:os.length<=1048576)(nx:Nat):AC Tryz.prog 213 nx BM [AP os pw cj] (λBB H' r=>∃id,r= .h id 0 os.length/\nx<=id/\id<BB/\H' id=some (D3 os.length z0)):=by
 refine BA AA Tryz.func213 rfl A7 Tryz.ntmps213 Tryz.results213 (λCQ cX=>?_)
 refine HR ?_;refine AK 1 nx _ rfl (A4 _ _ _) ?_
 refine AG ?_;refine HR ?_;refine AH ?_;exact⟨_,λ_ _ h=>h,_,rfl,A0,A0,by rw[A4,CO];rfl⟩
theorem IZ(os:List Int)(pw:List (List Int))(cj:List (List (List Int)))(h:AF os pw cj)(num:Int)(h0:0<=num)(h9:num<=1048576):BI Tryz.prog 159 [AP os pw cj,.i .i64 num] (vi os.length (C5 os num)):=by
 have FU:=h.1.1
 have IY:=h.2.1
 refine B5 AA Tryz.func159 rfl A7 Tryz.ntmps159 Tryz.results159 ((J8 _ _)) (λnx cX=>?_)
 refine FB ?_;refine AK 2 nx _ rfl (A4 _ _ _) ?_
 refine AG ?_;refine sQ λN hN=>?_;refine k9 ?_;refine AC.mono (AC.frame (SF os pw cj A0 _)) ?_
 rintro m1 H1 r1 ⟨H0,⟨id,rfl,rR,kE,Ef⟩,CD,FA⟩
 have hH1:=(FA id rR).trans Ef
 clear Ef FA CD
 refine k9 ?_
 apply hN;refine AW.seq λN1 B2=>?_;refine FB ?_;apply AW.block;refine A8 (α:=Nat) (λx=>sl 34 [(1,.i .i64 (RI os num x)),(2,A5 os pw cj),(5,.h id 0 os.length),(6,.i .i64 ((os.length:Int)-1-x))]) (λx=>AT BM id (some (D3 os.length (Lq os num x)))) (λx m=>x<=os.length) (λx=>os.length-x) (0) ?_ ?_ (by rw[cO];intro d cs hd;simp only[AT,BM]at hd ⊢;grind) ?_
 ·omega
 ·simp(disch:=omega) [AN,AO,sl,A5,ints,rows,A6,RI]
 skip
 rintro k m hk
 refine AG ?_;refine AW.seq λN2 B7=>?_;refine FB ?_;refine AW.cond rfl ?_ ?_<;>intro h1<;>try simp only[cn]at h1
 ·have e1:((os.length:Int)-1-k).toNat=os.length-1-k:=A0;have ho:=CE (IY (os.length-1-k) A0);have hz:(os.getD (os.length-1-k) 0=0)=False:=eq_false A0;have hb:=IS h0 IY k hk;have PJ:=IS h0 IY (k+1) A0;have hs:(RI os num k).tdiv (os.getD (os.length-1-k) 0)=RI os num (k+1):=rfl;have hg:=cM (os:=os) (num:=num) (d:=k) A0;apply AW.skip;apply B7;refine AW.seq λN3 BC=>?_;apply AW.block;refine rE e1 hz hg ?_;apply rQ;simp-dsimp-implicitDefEqProofs(maxSteps:=800000) (disch:=omega)only[go_sem,AL,ints,not_false_eq_true,AP,A5,true_and,e1,hz,hs];apply BC;refine bY ?_;refine⟨k+1,?_,λ_ _ h=>h,?_,?_⟩
  ·simp(disch:=omega) [AN,AO,sl,A5,ints,rows,A6,e1,hs]<;>omega
  ·omega
  first|omega|(simp only;omega)
 apply AW.exit;apply B2;refine FB ?_;refine AH ?_;refine Vw.vi ?_
 rw[A4,show k=os.length by omega,kD]
theorem HZ(os:List Int)(pw:List (List Int))(cj:List (List (List Int)))(h:AF os pw cj)(num:Int)(h0:0<=num)(h9:num<=1048576):BI Tryz.prog 76 [A5 os pw cj,.i .i64 num] (vi os.length (C5 os num)):=by
 have FU:=h.1.1
 have IY:=h.2.1
 refine B5 AA Tryz.func76 rfl A7 Tryz.ntmps76 Tryz.results76 ((J8 _ _)) (λnx cX=>?_)
 refine FB ?_;refine FB ?_;refine AW.seq λN1 B2=>?_;refine FB ?_;apply AW.block;refine A8 (α:=Nat) (λx=>sl 42 [(0,A5 os pw cj),(1,.i .i64 (RI os num x)),(5,.h (nx+1+5) 0 os.length),(6,.i .i64 ((os.length:Int)-1-x))]) (λx=>AT BM (nx+1+5) (some (D3 os.length (Lq os num x)))) (λx m=>x<=os.length) (λx=>os.length-x) (0) ?_ ?_ (by rw[cO,CO];exact Le.refl _) ?_
 ·omega
 ·simp(disch:=omega) [AN,AO,sl,A5,ints,rows,A6,RI]
 skip
 rintro k m hk
 refine AG ?_;refine AW.seq λN2 B7=>?_;refine FB ?_;refine AW.cond rfl ?_ ?_<;>intro h1<;>try simp only[cn]at h1
 ·have e1:((os.length:Int)-1-k).toNat=os.length-1-k:=A0;have ho:=CE (IY (os.length-1-k) A0);have hz:(os.getD (os.length-1-k) 0=0)=False:=eq_false A0;have hb:=IS h0 IY k hk;have PJ:=IS h0 IY (k+1) A0;have hs:(RI os num k).tdiv (os.getD (os.length-1-k) 0)=RI os num (k+1):=rfl;have hg:=cM (os:=os) (num:=num) (d:=k) A0;apply AW.skip;apply B7;refine AW.seq λN3 BC=>?_;apply AW.block;refine rE e1 hz hg ?_;apply rQ;simp-dsimp-implicitDefEqProofs(maxSteps:=800000) (disch:=omega)only[go_sem,AL,ints,not_false_eq_true,AP,A5,true_and,e1,hz,hs];apply BC;refine bY ?_;refine⟨k+1,?_,λ_ _ h=>h,?_,?_⟩
  ·simp(disch:=omega) [AN,AO,sl,A5,ints,rows,A6,e1,hs]<;>omega
  ·omega
  first|omega|(simp only;omega)
 apply AW.exit;apply B2;refine FB ?_;refine AH ?_;refine Vw.vi ?_
 rw[A4,show k=os.length by omega,kD]
def atR(os:List Int)(num:Int):List Int:=vec os.length (C5 os num)
theorem A0Z{os:List Int}{num:Int}:vi os.length (C5 os num)=ints (atR os num):=E3.symm
theorem A10{os:List Int}{num:Int}(h0:0<=num)(hp:∀i,i<os.length->JG (os.getD i 0)):exP os (atR os num):=by
  refine⟨BL,λk hk=>?_⟩;rw[atR,BL]at hk;have:=cL h0 hp hk;rw[atR,K3 hk];omega
def fN(N:Int)(num:Int):Nat->Int
  |0=>num
  |d+1=>(fN N num d).tdiv N
theorem rU{N num:Int}(h0:0<=num)(h1:1<=N):∀d,0<=fN N num d/\fN N num d<=num:=by
  intro d;induction d with
  |zero=>exact⟨h0,Int.le_refl _⟩
  | succ d ih=>
    rw[fN,Int.tdiv_eq_ediv_of_nonneg ih.1];exact⟨Int.ediv_nonneg ih.1 A0,Int.le_trans (Int.ediv_le_self _ ih.1) ih.2⟩
def vI(c:Nat)(p:Nat->Bool)(f:Nat->List Int):List AV:=(List.range c).map λi=>if p i=true then ints (f i)else .nl
theorem vJ{c:Nat}{p:Nat->Bool}{f:Nat->List Int}:(vI c p f).length=c:=by simp[vI]
theorem Pe{c:Nat}{p q:Nat->Bool}{f:Nat->List Int}{i:Nat}(hi:i<c)(h1:q i=true)(h2:∀j,j≠i->q j=p j):B3 (vI c p f) i [ints (f i)]=vI c q f:=by
  rw[EW _ _ _ (by rw[vJ];exact hi)];apply List.ext_getElem?;intro j;rw[List.getElem?_set];by_cases hj:i=j
  · subst hj;simp[vI,hi,h1]
  simp only[hj,if_false,vI,List.getElem?_map];by_cases hn:j<c
  · simp[hn,h2 j (Ne.symm hj)]
  simp[hn]
theorem Eg{c:Nat}{p:Nat->Bool}{f:Nat->List Int}(h:∀i,i<c->p i=false):vI c p f=List.replicate c .nl:=by
  apply List.ext_getElem?;intro i;by_cases hi:i<c
  · simp[vI,hi,h i hi]
  simp[vI,hi]
theorem Pf{c:Nat}{p:Nat->Bool}{f:Nat->List Int}(h:∀i,i<c->p i=true):vI c p f=((List.range c).map f).map ints:=by
  unfold vI;rw[List.map_map];refine List.map_congr_left λi hi=>?_
  rw[if_pos (h i (List.mem_range.1 hi))];rfl
attribute [go_sem] vJ
def TJ(os:List Int)(N:Int)(c:Nat)(num:Int):List (List Int):=(List.range c).map λi=>atR os ((fN N num i).tmod N)
noncomputable def NI(p:Nat->Prop):Nat->Int
  |0=>0
  |k+1=>if tf (p k)=true then NI p k+1 else NI p k
theorem Pg{p:Nat->Prop}:∀k:Nat,0<=NI p k/\NI p k<=k:=by
  intro k;induction k with
  |zero=>simp[NI]
  |succ k ih=>rw[NI];split<;>omega
def F3(v e:Int):AV:= .t [.i .i64 v,.i .i64 e]
theorem M6(v e:Int):NR (F3 v e):= .t _ (λk x hk=>by
  match k,hk with
  |0,hk=>cases hk;exact .i _ _
  |1,hk=>cases hk;exact .i _ _)
noncomputable def gK(ok:Prop)(t:Int):Int:=if tf ok=true then (if t<=4096 then 0 else 3)else 1
noncomputable def gL(ok:Prop)(t v:Int):Int:=if tf ok=true then (if t<=4096 then v else 0)else 0
theorem Eh{ok:Prop}{t v:Int}(h:¬ok):F3 (gL ok t v) (gK ok t)= .t [.i .i64 0,.i .i64 1]:=by simp[F3,gL,gK,C8 h]
theorem Ph{ok:Prop}{t v:Int}(h:ok)(ht:4096<t):F3 (gL ok t v) (gK ok t)= .t [.i .i64 0,.i .i64 3]:=by simp[F3,gL,gK,D2 h,Int.not_le.2 ht]
theorem Pj{ok:Prop}{t v:Int}(h:ok)(ht:t<=4096):F3 (gL ok t v) (gK ok t)= .t [.i .i64 v,.i .i64 0]:=by simp[F3,gL,gK,D2 h,ht]
theorem cQ{os:List Int}{N num:Int}{c:Nat}:(TJ os N c num).length=c:=by simp[TJ]
theorem Pk{a b:Int}(h:0<=a)(hb:1<=b):0<=a.tmod b:=by
  rw[Int.tmod_eq_emod_of_nonneg h];exact Int.emod_nonneg _ A0
theorem Pm{os:List Int}{N num:Int}{c:Nat}(hp:∀i,i<os.length->JG (os.getD i 0))(h0:0<=num)(h1:1<=N):YY os (TJ os N c num):=by
  intro k hk;rw[cQ]at hk;rw[show(TJ os N c num).getD k []=atR os ((fN N num k).tmod N) by simp[TJ,hk]];exact A10 (Pk (rU h0 h1 _).1 h1) hp
theorem Ei{N:Int}{k:Nat}(h:4096<OU N k):∀d,OU N (k+d)=OU N k:=by
  intro d;induction d with
  |zero=>rfl
  |succ d ih=>rw[Nat.add_succ,OU,ih,if_neg A0]
theorem nV{N:Int}{k c:Nat}(h:4096<OU N k)(hc:k<=c):4096<OU N c:=by
  have:=Ei h (c-k);rw[show k+(c-k)=c by omega]at this;omega
theorem RJ(os:List Int)(pw:List (List Int))(cj:List (List (List Int)))(h:AF os pw cj)(c:Nat)(hc:c<=1000)(Pn:Nat)(cs:List AV)(pp:Nat->Prop)(hf:∀k:Nat,(k:Int)<=4096->BI Tryz.prog Pn ([rows (TJ os (CV os os.length) c k)]++cs) (.b (tf (pp k)))):BI Tryz.prog 41 [A5 os pw cj,.i .i64 c,.f Pn cs] (F3 (gL True (OU (CV os os.length) c) (NI pp (OU (CV os os.length) c).toNat)) (gK True (OU (CV os os.length) c))):=by
 have hq:=h.2.2.1
 have IY:=h.2.1
 have KY:=M1 IY os.length (Nat.le_refl _)
 have gM:=JP os pw cj h
 obtain⟨Nq,hqe⟩:∃Nq,CV os os.length=Nq:=⟨_,rfl⟩
 rw[hqe]at hq KY gM hf ⊢
 refine AD AA Tryz.func41 rfl A7 Tryz.ntmps41 Tryz.results41 (M6 _ _) (λnx cX=>?_)
 refine B8 ?_;refine N0 (gM) ?_;refine AW.seq λN1 B2=>?_;refine B8 ?_;apply AW.block;refine A8 (α:=Nat) (λx=>sl 55 [(0,A5 os pw cj),(1,.i .i64 c),(2,.f Pn cs),(8,.i .i64 Nq),(9,.i .i64 (OU Nq x)),(16,.i .i64 c),(17,.i .i64 x)]) (λ_=>BM) (λx m=>x<=c/\OU Nq x<=4096) (λx=>c-x) (0) ?_ ?_ (λ_ _ h=>h) ?_
 ·exact⟨A0,by simp[OU]⟩
 ·simp(disch:=omega) [AN,AO,sl,OU]
 skip
 rintro k m ⟨hk,h49⟩
 refine AG ?_;have hb:=A0Y KY hq k
 have hm:=Q1 hb.1 h49 KY hq
 have hs:OU Nq (k+1)=OU Nq k*Nq:=by rw[OU,if_pos h49]
 refine B8 ?_;refine AW.seq λN2 B7=>?_;refine AW.cond rfl ?_ ?_<;>intro h1<;>try simp only[cn]at h1
 ·apply AW.skip;apply B7;refine AW.seq λN3 BC=>?_;apply AW.block;refine B8 ?_;refine B8 ?_;refine AW.cond rfl ?_ ?_<;>intro h2<;>try simp only[cn]at h2
  ·refine B8 ?_;refine AH ?_;exact(Ph trivial (nV (k:=k+1) A0 A0)).symm
  apply AW.skip;apply BC;refine GN ?_;refine⟨k+1,?_,λ_ _ h=>h,?_,?_⟩
  ·simp(disch:=omega) [AN,AO,sl,hs]
  ·exact⟨A0,A0⟩
  first|omega|(simp only;omega)
 apply AW.exit;apply B2;refine B8 ?_;refine AW.seq λN4 CF=>?_;refine B8 ?_;apply AW.block;have hkc:c=k:=A0
 subst hkc
 obtain⟨tt,htt⟩:∃tt,OU Nq c=tt:=⟨_,rfl⟩
 rw[htt]at h49 hb ⊢
 refine A8 (α:=Nat) (λx=>sl 55 [(0,A5 os pw cj),(1,.i .i64 c),(2,.f Pn cs),(8,.i .i64 Nq),(10,.i .i64 (NI pp x)),(25,.i .i64 tt),(26,.i .i64 x)]) (λ_=>BM) (λx m=>x<=tt.toNat) (λx=>tt.toNat-x) (0) ?_ ?_ (λ_ _ h=>h) ?_
 ·omega
 ·simp(disch:=omega) [AN,AO,sl,NI,htt]
 skip
 rintro t m2 ht
 refine AG ?_;have kF:=Pg (p:=pp) t
 refine B8 ?_;refine AW.seq λN5 DL=>?_;refine AW.cond rfl ?_ ?_<;>intro h3<;>try simp only[cn]at h3
 ·apply AW.skip;apply DL;refine AW.seq λN6 FR=>?_;apply AW.block;refine B8 ?_;refine B8 ?_;refine AW.seq λN7 MV=>?_;refine B8 ?_;apply AW.block;refine A8 (α:=Nat) (λx=>sl 55 [(0,A5 os pw cj),(1,.i .i64 c),(2,.f Pn cs),(8,.i .i64 Nq),(10,.i .i64 (NI pp t)),(11,.i .i64 (fN Nq t x)),(12,.h (m2+1+2+1) 0 c),(25,.i .i64 tt),(26,.i .i64 t),(32,.i .i64 c),(33,.i .i64 x)]) (λx=>AT BM (m2+1+2+1) (some (vI c (λi=>decide (i<x)) (λi=>atR os ((fN Nq t i).tmod Nq))))) (λx m=>x<=c) (λx=>c-x) (0) ?_ ?_ (by rw[Eg (λi hi=>AB)];exact Le.refl _) ?_
  ·omega
  ·simp(disch:=omega) [AN,AO,sl,fN]
  skip
  rintro x m3 hx;refine AG ?_;refine B8 ?_;refine AW.seq λN8 OB=>?_;refine AW.cond rfl ?_ ?_<;>intro h4<;>try simp only[cn]at h4
  ·have SG:=rU (num:=(t:Int)) A0 KY x;have hz:(Nq=0)=False:=eq_false A0;have hs3:(fN Nq t x).tdiv Nq=fN Nq t (x+1):=rfl;have mG:=rU (num:=(t:Int)) A0 KY (x+1);have hr:0<=(fN Nq t x).tmod Nq/\(fN Nq t x).tmod Nq<=1048576:=by
    rw[Int.tmod_eq_emod_of_nonneg SG.1];have:=Int.emod_lt_of_pos (fN Nq t x) (show 0<Nq by omega);have:=Int.emod_nonneg (fN Nq t x) (show Nq≠0 by omega);omega
   have hg:B3 (vI c (λi=>decide (i<x)) (λi=>atR os ((fN Nq t i).tmod Nq))) x [ints (atR os ((fN Nq t x).tmod Nq))]=vI c (λi=>decide (i<x+1)) (λi=>atR os ((fN Nq t i).tmod Nq)):=
    Pe (c:=c) (p:=λi=>decide (i<x)) (q:=λi=>decide (i<x+1)) (f:=λi=>atR os ((fN Nq t i).tmod Nq)) (i:=x) A0 AB (λj hj=>by simp;omega)
   apply AW.skip;apply OB;refine AW.seq λN9 SC=>?_;apply AW.block;refine B8 ?_;refine sQ λN hN=>?_;simp-dsimp-implicitDefEqProofs(maxSteps:=800000) (disch:=omega)only[go_sem];refine AC.pure (.of (A0Z▸HZ os pw cj h _ hr.1 hr.2)) ?_;(try simp-dsimp-implicitDefEqProofs(maxSteps:=800000) (disch:=omega)only[go_sem,hg]);apply hN;apply rQ;simp-dsimp-implicitDefEqProofs(maxSteps:=800000) (disch:=omega)only[go_sem,hs3];apply SC;refine GN ?_;refine⟨x+1,?_,λ_ _ h=>h,?_,?_⟩
   ·simp(disch:=omega) [AN,AO,sl,hs3]
   ·omega
   first|omega|(simp only;omega)
  apply AW.exit;apply MV;refine sQ λN hN=>?_;refine AG ?_;have hxc:c=x:=A0
  subst hxc;refine AC.pure (.yM (hf t A0) (.cons (Vw.rws (by simp[TJ]) (by rw[A4,Pf (λi hi=>by simpa using hi)];rfl)) ZY.rfl) (.b _)) ?_;refine AG ?_
  apply hN;refine AW.cond rfl ?_ ?_<;>intro h5<;>try simp only[cn]at h5
  ·have hs:NI pp (t+1)=NI pp t+1:=by rw[NI,if_pos (D2 h5)]
   refine GN ?_;apply FR;refine GN ?_;refine⟨t+1,?_,(by intro d cs hd;cases hd),?_,?_⟩
   ·simp(disch:=omega) [AN,AO,sl,hs]
   ·omega
   first|omega|(simp only;omega)
  have hs:NI pp (t+1)=NI pp t:=by rw[NI,if_neg (by rw[C8 h5];simp)]
  apply AW.skip;apply FR;refine GN ?_;refine⟨t+1,?_,(by intro d cs hd;cases hd),?_,?_⟩
  ·simp(disch:=omega) [AN,AO,sl,hs]
  ·omega
  first|omega|(simp only;omega)
 apply AW.exit;apply CF;refine B8 ?_;refine AH ?_;rw[show t=tt.toNat by omega,htt];exact(Pj trivial A0).symm
theorem J9{cX n ops y s s1 K}{R0:Prop}(r0:R0)(q:AW cX Tryz.prog y s1 K)(e:R0->BV ops s s1:=by intro h0 N hN;(try simp-dsimp-implicitDefEqProofs(maxSteps:=800000) (disch:=omega)only[go_sem,Bool.not_false,Bool.not_true,beq_self_eq_true,bne_self_eq_false,F3,h0]);exact hN):BU cX n ops y s K:=BY q (e r0)
theorem OV{cX n ops y s s1 K f Zz r}{R0:Prop}(x:BI Tryz.prog f Zz r)(r0:R0)(q:AW cX Tryz.prog y s1 K)(e:BI Tryz.prog f Zz r->R0->BV ops s s1:=by intro x h0 N hN;(try simp-dsimp-implicitDefEqProofs(maxSteps:=800000) (disch:=omega)only[go_sem,Bool.not_false,Bool.not_true,beq_self_eq_true,bne_self_eq_false,F3,h0]);refine AC.pure (.of x) ?_;(try simp-dsimp-implicitDefEqProofs(maxSteps:=800000) (disch:=omega)only[go_sem,Bool.not_false,Bool.not_true,beq_self_eq_true,bne_self_eq_false,F3,h0]);exact hN):BU cX n ops y s K:=BY q (e x r0)
theorem FD{P Q:Prop}{R0:Prop}(r0:R0)(q:Q)(e:R0->Q->P:=by intro h0 q;(try simp-dsimp-implicitDefEqProofs(maxSteps:=800000) (disch:=omega)only[go_sem,Bool.not_false,Bool.not_true,beq_self_eq_true,bne_self_eq_false,F3,h0]);exact q):P:=e r0 q
theorem Ej{P Q:Prop}{R0 R1:Prop}(r0:R0)(r1:R1)(q:Q)(e:R0->R1->Q->P:=by intro h0 h1 q;(try simp-dsimp-implicitDefEqProofs(maxSteps:=800000) (disch:=omega)only[go_sem,Bool.not_false,Bool.not_true,List.drop_nil,List.drop_succ_cons,List.drop_zero,List.take_nil,List.take_succ_cons,List.take_zero,beq_self_eq_true,bne_self_eq_false,BW,BE,BF,F3,AR,h0,h1]);exact q):P:=e r0 r1 q
theorem nW{cX n ops s}{K:Exit->St->Prop}{Q:Prop}{R0:Prop}(r0:R0)(q:Q)(e:R0->Q->DW env Tryz.prog ops s.nx ops 0 ⟨s.t,s.H,s.nx+ops.length⟩ (K .normal):=by intro h0 q;(try simp-dsimp-implicitDefEqProofs(maxSteps:=800000) (disch:=omega)only[go_sem,Bool.not_false,Bool.not_true,beq_self_eq_true,bne_self_eq_false,F3,h0]);exact q):AW cX Tryz.prog (.region n ops.toArray false) s K:=rQ (e r0 q)
theorem rV{cX n ops y s s1 K}(q:AW cX Tryz.prog y s1 K)(e:BV ops s s1:=by intro N hN;(try simp-dsimp-implicitDefEqProofs(maxSteps:=800000) (disch:=omega)only[go_sem,fp,AP,F3,rows]);exact hN):BU cX n ops y s K:=BY q e
theorem rW{P Q:Prop}(q:Q)(e:Q->P:=by intro q;(try simp-dsimp-implicitDefEqProofs(maxSteps:=800000) (disch:=omega)only[go_sem,fp,AP,F3,rows]);exact q):P:=e q
end Go.Proofs.YtgknbnkmilddhaaGreat

namespace Go.Proofs.YtgknbnkmilddhaaGreat
noncomputable def RK(P:Pc)(x:V)(k:Int):V:=if k<0 then rep (M P 0) (inv P 0 x) (0-k).toNat else rep (M P 0) x k.toNat
noncomputable def cmV(P:Pc)(x y:V):V:=M P 0 (inv P 0 (M P 0 y x)) (M P 0 x y)
theorem nX{P:Pc}(hv:GX P)(hc:CG P 0){x:V}(hx:T P 0 x)(k:Int):T P 0 (RK P x k):=by
  have hg:=C0 hv hc;unfold RK;split
  · exact hg.rep (EK hg hx).1 _
  exact hg.rep hx _
theorem Uw{P:Pc}(hv:GX P)(hc:CG P 0){x y:V}(hx:T P 0 x)(hy:T P 0 y):T P 0 (cmV P x y):=by
  have hg:=C0 hv hc;exact hg.cl (EK hg (hg.cl hy hx)).1 (hg.cl hx hy)
theorem Ek{a b:Int}(hb:0<b):(a.tmod b<0->a.tmod b+b=a%b)/\(0<=a.tmod b->a.tmod b=a%b):=by
  rw[Int.tmod_eq_emod];have h1:=Int.emod_nonneg a (show b≠0 by omega);have h2:=Int.emod_lt_of_pos a hb;split<;>omega
def iL(p a y:Int):Prop:=1<=y/\y<p/\a*y%p=1
theorem A11{p a:Int}(hp:JG p)(h1:1<=a)(h2:a<p):∃y,iL p a y:=by
  rcases hp with rfl|rfl|rfl|rfl
  · exact⟨1,A0,A0,A0⟩
  · rcases (show a=1\/a=2 by omega)with rfl|rfl
    · exact⟨1,BX,BX,BX⟩
    exact⟨2,BX,BX,BX⟩
  · rcases (show a=1\/a=2\/a=3\/a=4 by omega)with rfl|rfl|rfl|rfl
    · exact⟨1,BX,BX,BX⟩
    · exact⟨3,BX,BX,BX⟩
    · exact⟨2,BX,BX,BX⟩
    exact⟨4,BX,BX,BX⟩
  rcases (show a=1\/a=2\/a=3\/a=4\/a=5\/a=6 by omega)with rfl|rfl|rfl|rfl|rfl|rfl
  · exact⟨1,BX,BX,BX⟩
  · exact⟨4,BX,BX,BX⟩
  · exact⟨5,BX,BX,BX⟩
  · exact⟨2,BX,BX,BX⟩
  · exact⟨3,BX,BX,BX⟩
  exact⟨6,BX,BX,BX⟩
theorem El{p a y z:Int}(hy:iL p a y)(hz:iL p a z):y=z:=by
  obtain⟨h1,h2,h3⟩:=hy;obtain⟨h4,h5,h6⟩:=hz;have e:y*(a*z)=z*(a*y):=by rw[Int.mul_left_comm,Int.mul_left_comm z,Int.mul_comm y z]
  have e1:=Int.emod_add_mul_ediv (a*z) p;have e2:=Int.emod_add_mul_ediv (a*y) p;rw[h6]at e1;rw[h3]at e2;rw[<-e1,<-e2,Int.mul_add,Int.mul_add,Int.mul_one,Int.mul_one,Int.mul_left_comm,Int.mul_left_comm z]at e;have e3:y-z=p*(z*(a*y/p)-y*(a*z/p)):=by rw[Int.mul_sub];omega
  obtain⟨q,hq⟩:∃q,z*(a*y/p)-y*(a*z/p)=q:=⟨_,rfl⟩;rw[hq]at e3;rcases Int.lt_trichotomy q 0 with h|h|h
  · have:p*q<=p*(-1):=Int.mul_le_mul_of_nonneg_left A0 A0;omega
  · subst h;omega
  have:p*1<=p*q:=Int.mul_le_mul_of_nonneg_left A0 A0;omega
noncomputable def UY(p a:Int):Int:=Classical.epsilon (iL p a)
theorem kG{p a:Int}(hp:JG p)(h1:1<=a)(h2:a<p):iL p a (UY p a):=Classical.epsilon_spec (A11 hp h1 h2)
section
variable(os:List Int)(pw:List (List Int))(cj:List (List (List Int)))
theorem Q6(h:AF os pw cj)(hc:CG (pc os pw cj) 0)(a:V)(ha:T (pc os pw cj) 0 a)(k:Int)(hk: -1099511627776<=k/\k<=1099511627776):BI Tryz.prog 118 [AP os pw cj,vi os.length a,.i .i64 k] (vi os.length (RK (pc os pw cj) a k)):=by
 have hg:=C0 h.val hc
 refine AD AA Tryz.func118 rfl A7 Tryz.ntmps118 Tryz.results118 (J8 _ _) (λnx cX=>?_)
 refine EY ?_;refine AK 3 nx _ rfl (A4 _ _ _) ?_
 refine AG ?_;refine AW.seq λN1 B2=>?_;refine EY ?_;refine AW.cond rfl ?_ ?_<;>intro h1<;>try simp only[cn]at h1
 ·have hr:=HT os pw cj h 0 (Nat.zero_le _) hg _ (EK hg ha).1 (0-k).toNat A0;rw[Int.toNat_of_nonneg (show 0<=0-k by omega)]at hr;refine AW.seq λN hN=>?_;refine AM AA A7 8 A7 ?_
  refine rD ?_;refine⟨_,.of (cJ os pw cj h hc a ha),?_⟩;refine HS ?_
  refine⟨_,.of (hr),?_⟩;refine HS ?_
  apply hN;refine AH ?_;rw[RK,if_pos h1]
 have hr:=HT os pw cj h 0 (Nat.zero_le _) hg _ ha k.toNat A0
 rw[Int.toNat_of_nonneg (show 0<=k by omega)]at hr
 apply AW.skip;apply B2;refine SD (hr) ?_;refine AH ?_;rw[RK,if_neg A0]
def YC(x:V):Nat->Nat->Nat
  |0,k=>k
  |f+1,k=>if x k=0 then YC x f (k+1)else k
def E4(n:Nat)(x:V):Nat:=YC x n 0
theorem X5{x:V}:∀f k,k<=YC x f k/\YC x f k<=k+f/\(∀j,k<=j->j<YC x f k->x j=0)/\(YC x f k<k+f->x (YC x f k)≠0):=by
  intro f;induction f with
  |zero=>intro k;rw[YC];exact⟨Nat.le_refl _,A0,λj h1 h2=>A0,λh=>A0⟩
  | succ f ih=>
    intro k;rw[YC];split
    · rename_i h;obtain⟨i1,i2,i3,i4⟩:=ih (k+1);refine⟨A0,A0,λj h1 h2=>?_,λh2=>i4 A0⟩;by_cases e:j=k
      · subst e;exact h
      exact i3 j A0 h2
    rename_i h;exact⟨Nat.le_refl _,A0,λj h1 h2=>A0,λ_=>h⟩
theorem YZ(n:Nat)(hn:n<=1048576)(f:V):BI Tryz.prog 217 [vi n f] (.i .i64 (E4 n f)):=by
 refine AD AA Tryz.func217 rfl A7 Tryz.ntmps217 Tryz.results217 (.i _ _) (λnx cX=>?_)
 refine HU ?_;refine AW.seq λN1 B2=>?_;refine HU ?_;apply AW.block;refine A8 (α:=Nat) (λx=>sl 18 [(0,vi n f),(3,.i .i64 x)]) (λ_=>BM) (λx m=>x<=n/\YC f (n-x) x=E4 n f) (λx=>n-x) (0) ?_ ?_ (λ_ _ h=>h) ?_
 ·exact⟨A0,rfl⟩
 ·simp(disch:=omega) [AN,AO,sl,vi]
 skip
 rintro k m ⟨hk,hI⟩
 refine AG ?_;refine AW.seq λN2 B7=>?_;refine HU ?_;refine AW.cond rfl ?_ ?_<;>intro h1<;>try simp only[cn]at h1
 ·have hs:YC f (n-k) k=if f k=0 then YC f (n-(k+1)) (k+1)else k:=by
   obtain⟨q,hq⟩:∃q,n-k=q+1:=⟨n-k-1,A0⟩;rw[hq,YC,show n-(k+1)=q by omega]
  apply AW.skip;apply B7;refine AW.seq λN3 BC=>?_;apply AW.block;refine HU ?_;refine AW.cond rfl ?_ ?_<;>intro h2<;>try simp only[cn]at h2
  ·refine HU ?_;refine AH ?_;rw[<-hI,hs,if_neg h2]
  apply AW.skip;apply BC;apply rQ;simp-dsimp-implicitDefEqProofs(maxSteps:=800000) (disch:=omega)only[go_sem,vi];refine⟨k+1,?_,λ_ _ h=>h,?_,?_⟩
  ·simp(disch:=omega) [AN,AO,sl,AR,ints,rows,A6,AR,vi]<;>omega
  ·exact⟨A0,by rw[<-hI,hs,if_pos h2]⟩
  first|omega|(simp only;omega)
 apply AW.exit;apply B2;refine HU ?_;refine AH ?_;rw[<-hI,show n-k=0 by omega,YC,show k=n by omega]
theorem FY(n:Nat)(hn:n<=1048576)(f:V):BI Tryz.prog 162 [vi n f] (.i .i64 (E4 n f)):=by
 refine AD AA Tryz.func162 rfl A7 Tryz.ntmps162 Tryz.results162 (.i _ _) (λnx cX=>?_)
 refine B8 ?_;refine N0 (YZ n hn f) ?_;apply AW.ret;simp-dsimp-implicitDefEqProofs(disch:=omega)only[go_sem];try rfl
end
end Go.Proofs.YtgknbnkmilddhaaGreat

namespace Go.Proofs.YtgknbnkmilddhaaGreat
theorem Z0(a m:Int)(hm:2<=m/\m<=1000000000):BI Tryz.prog 198 [.i .i64 a,.i .i64 m] (.i .i64 (a%m)):=by
 have hd:=Ek (a:=a) (show 0<m by omega)
 have h3:=Int.emod_nonneg a (show m≠0 by omega)
 have h4:=Int.emod_lt_of_pos a (show 0<m by omega)
 have h5: -m<=a.tmod m/\a.tmod m<m:=by rcases Int.lt_or_le (a.tmod m) 0 with h|h;(have:=hd.1 h;omega);(have:=hd.2 h;omega)
 have h6:(a.tmod m+m).tmod m=a%m:=by
  rw[Int.tmod_eq_emod_of_nonneg A0];rcases Int.lt_or_le (a.tmod m) 0 with h|h
  ·rw[hd.1 h,Int.emod_eq_of_lt A0 A0]
  rw[hd.2 h,Int.add_emod_right,Int.emod_eq_of_lt A0 A0]
 refine AD AA Tryz.func198 rfl A7 Tryz.ntmps198 Tryz.results198 (.i _ _) (λnx cX=>?_)
 refine B8 ?_;refine B8 ?_;refine AH ?_;rw[h6]
structure vK(m a r n x y X Y:Int):Prop where
  r0:0<r
  rm:r<=m
  n0:0<=n
  nm:n<=m
  X0:0<=X
  Y0:0<=Y
  sx:(x=X/\y= -Y)\/(x= -X/\y=Y)
  sum:Y*r+X*n=m
  bz:∃u v,u*r+v*n=1
  cx:∃k,x*a-r=k*m
  cy:∃k,y*a-n=k*m
theorem vK.start{m a:Int}(hm:0<m)(ha:0<=a)(Ux:a<=m)(hb:∃u v,u*m+v*a=1):vK m a m a 0 1 0 1:=
  ⟨hm,A0,ha,Ux,A0,A0,.inr ⟨A0,rfl⟩,A0,hb,⟨-1,A0⟩,⟨0,A0⟩⟩
theorem vK.ybd{m a r n x y X Y:Int}(h:vK m a r n x y X Y):Y<=m:=by
  have h1:0<=X*n:=Int.mul_nonneg h.X0 h.n0;have h2:Y*1<=Y*r:=Int.mul_le_mul_of_nonneg_left (by have:=h.r0;omega) h.Y0;have h3:=h.sum;omega
theorem vK.xbd{m a r n x y X Y:Int}(h:vK m a r n x y X Y)(hn:0<n):X<=m:=by
  have h1:X*1<=X*n:=Int.mul_le_mul_of_nonneg_left A0 h.X0;have h2:0<=Y*r:=Int.mul_nonneg h.Y0 (by have:=h.r0;omega);have h3:=h.sum;omega
theorem vK.step{m a r n x y X Y:Int}(h:vK m a r n x y X Y)(hn:0<n):vK m a n (r-r/n*n) y (x-r/n*y) Y (X+r/n*Y)/\0<=r/n/\r/n<=m/\0<=r/n*n/\r/n*n<=m/\-m<=r/n*y/\r/n*y<=m:=by
  have hr:=h.r0;obtain⟨q,hq⟩:∃q,r/n=q:=⟨_,rfl⟩;have e1:=Int.emod_add_mul_ediv r n;have e2:=Int.emod_nonneg r (show n≠0 by omega);have e3:=Int.emod_lt_of_pos r hn;rw[hq,Int.mul_comm n q]at e1;have O0:0<=q:=by rw[<-hq];exact Int.ediv_nonneg A0 A0
  rw[hq];have hqn:q*1<=q*n:=Int.mul_le_mul_of_nonneg_left A0 O0;have hqY:0<=q*Y:=Int.mul_nonneg O0 h.Y0;have ER:vK m a n (r-q*n) y (x-q*y) Y (X+q*Y):=by
    refine⟨hn,h.nm,A0,by have:=h.nm;omega,h.Y0,by have:=h.X0;omega,?_,?_,?_,h.cy,?_⟩
    · rcases h.sx with ⟨h1,h2⟩|⟨h1,h2⟩
      · exact .inr ⟨h2,by rw[h1,h2,Int.mul_neg];omega⟩
      exact .inl ⟨h2,by rw[h1,h2];omega⟩
    · have:=h.sum;rw[Int.add_mul,Int.mul_sub];have e4:q*Y*n=Y*(q*n):=by rw[Int.mul_comm q Y,Int.mul_assoc]
      omega
    · obtain⟨u,v,h1⟩:=h.bz;refine⟨v+u*q,u,?_⟩;rw[Int.add_mul,Int.mul_sub,Int.mul_assoc];omega
    obtain⟨k1,h1⟩:=h.cx;obtain⟨k2,h2⟩:=h.cy;refine⟨k1-q*k2,?_⟩;have e5:q*(y*a-n)=q*(k2*m):=by rw[h2]
    rw[Int.mul_sub,<-Int.mul_assoc,<-Int.mul_assoc]at e5;rw[Int.sub_mul,Int.sub_mul];omega
  have hY:=ER.ybd;have hX0:=h.X0;have hrm:=h.rm;refine⟨ER,O0,A0,A0,A0,?_,?_⟩
  · rcases h.sx with ⟨_,h2⟩|⟨_,h2⟩
    · rw[h2,Int.mul_neg];omega
    rw[h2];omega
  rcases h.sx with ⟨_,h2⟩|⟨_,h2⟩
  · rw[h2,Int.mul_neg];omega
  rw[h2];omega
theorem vK.fin{m a r x y X Y:Int}(h:vK m a r 0 x y X Y)(hm:2<=m):r=1/\iL m a (x%m):=by
  have hr:=h.r0;have Z1:r=1:=by
    obtain⟨u,v,h1⟩:=h.bz;rcases Int.lt_or_le u 1 with hu|hu
    · have:u*r<=0*r:=Int.mul_le_mul_of_nonneg_right A0 A0;omega
    have:1*r<=u*r:=Int.mul_le_mul_of_nonneg_right hu A0;omega
  subst Z1;refine⟨rfl,?_⟩;obtain⟨k,hk⟩:=h.cx;have h1:a*x%m=1:=by
    have:a*x=1+k*m:=by rw[Int.mul_comm];omega
    rw[this,Int.add_mul_emod_self_right,Int.emod_eq_of_lt A0 A0]
  have h2:a*(x%m)%m=1:=by rw[Int.mul_emod,Int.emod_emod,<-Int.mul_emod];exact h1
  have h3:=Int.emod_nonneg x (show m≠0 by omega);refine⟨?_,Int.emod_lt_of_pos x A0,h2⟩;rcases Int.lt_or_le 0 (x%m)with h4|h4
  · omega
  have h5:x%m=0:=A0;rw[h5]at h2;simp at h2
theorem A6G(k:IntKind)(n:Int)(b:Bool):NR (.t [.i k n,.b b]):=NR.ts (λx hx=>by
  simp at hx;rcases hx with rfl|rfl
  · exact .i _ _
  exact .b _)
theorem TK(a p:Int)(hp:JG p)(ha1:1<=a)(Po:a<p):BI Tryz.prog 150 [.i .i64 a,.i .i64 p] (.t [.i .i64 (UY p a),.b true]):=by
 have hinv:=kG hp ha1 Po
 have hb:=CE hp
 have hbz:∃u v,u*p+v*a=1:=by
  have e:=Int.emod_add_mul_ediv (a*UY p a) p;rw[hinv.2.2]at e;exact⟨-(a*UY p a/p),UY p a,by rw[Int.neg_mul,Int.mul_comm (UY p a) a,Int.mul_comm (a*UY p a/p) p];omega⟩
 refine AD AA Tryz.func150 rfl A7 Tryz.ntmps150 Tryz.results150 (A6G _ _ _) (λnx cX=>?_)
 refine B8 ?_;refine B8 ?_;refine AW.seq λN1 B2=>?_;apply AW.block;refine A8 (α:=(Int×Int)×(Int×Int)×(Int×Int)) (λx=>sl 35 [(1,.i .i64 p),(6,.i .i64 x.1.1),(7,.i .i64 x.1.2),(8,.i .i64 x.2.1.1),(9,.i .i64 x.2.1.2)]) (λ_=>BM) (λx m=>vK p a x.1.1 x.1.2 x.2.1.1 x.2.1.2 x.2.2.1 x.2.2.2) (λx=>x.1.2.toNat) (((p,a),(0,1),(0,1))) ?_ ?_ (λ_ _ h=>h) ?_
 ·exact vK.start A0 A0 A0 hbz
 ·simp(disch:=omega) [AN,AO,sl,AR,ints,rows,A6,AR]<;>omega
 skip
 rintro⟨⟨r,n⟩,⟨y,z⟩,⟨Y,Z⟩⟩ m he
 dsimp only at he
 refine AG ?_;have PH:=he.n0
 have hrm:=he.rm
 have Uc:=he.r0
 have hnm:=he.nm
 have hzb:=he.ybd
 have hZ0:=he.Y0
 refine AW.seq λN2 B7=>?_;refine B8 ?_;refine AW.cond rfl ?_ ?_<;>intro h1<;>try simp only[cn]at h1
 ·obtain⟨e1,e2,e3,e4,e5,e6,e7⟩:=he.step A0;have hxb:=he.xbd A0;have hX0:=he.X0;have hsx:=he.sx;have htd:r.tdiv n=r/n:=Int.tdiv_eq_ediv_of_nonneg A0;have z8:r-r/n*n<n:=by
   have q1:=Int.emod_add_mul_ediv r n;have q2:=Int.emod_lt_of_pos r (show 0<n by omega);rw[Int.mul_comm n]at q1;omega
  rw[<-htd]at e1 e2 e3 e4 e5 e6 e7 z8;apply AW.skip;apply B7;apply AW.block;refine B8 ?_;refine B8 ?_;refine GN ?_;refine⟨((n,r-r.tdiv n*n),(z,y-r.tdiv n*z),(Z,Y+r.tdiv n*Z)),?_,λ_ _ h=>h,?_,?_⟩
  ·simp(disch:=omega) [AN,AO,sl,AR,ints,rows,A6,AR]<;>omega
  ·exact e1
  first|omega|(simp only;omega)
 apply AW.exit;apply B2;refine N0 (Z0 y p A0) ?_;refine AH ?_;have hn:n=0:=A0
 subst hn
 obtain⟨f1,f2⟩:=he.fin A0
 rw[El f2 hinv,f1];rfl
end Go.Proofs.YtgknbnkmilddhaaGreat
