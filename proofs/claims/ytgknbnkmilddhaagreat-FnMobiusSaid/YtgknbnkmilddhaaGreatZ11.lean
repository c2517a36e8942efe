import Derived.Test.YtgknbnkmilddhaaGreatZ10
set_option linter.unusedVariables false
set_option linter.unusedSimpArgs false

namespace Go.Proofs.YtgknbnkmilddhaaGreat
theorem Ow.A0T{H:HP}{r:AV}{n:Nat}{f:V}{ids:List Nat}(h:Ow H r (Go.Proofs.YtgknbnkmilddhaaGreat.vi n f) ids):(n=0/\(r= .nl\/r= .v 0 []))\/∃id,r= .h id 0 n/\id∈ids/\H id=some (Go.Proofs.YtgknbnkmilddhaaGreat.D3 n f):=by
  rw[<-E3]at h;rcases h.Di with ⟨h1,h2⟩|⟨id,h1,h2,h3⟩
  · refine .inl ⟨?_,h2⟩;have:=congrArg List.length h1;rw[BL]at this;simpa using this
  rw[BL]at h1 h3;exact .inr ⟨id,h1,h2,by rw[h3,E1 (λk hk=>K3 hk)]⟩
theorem gE.vi{P:Program}{f:FuncId}{xs ts:List AV}{n:Nat}{g:V}(h:gE P f ts (Go.Proofs.YtgknbnkmilddhaaGreat.vi n g)){nx:Nat}{H:HP}(hv:ZY H xs ts):AC P f nx H xs (λ_ H' r=>r=Go.Proofs.YtgknbnkmilddhaaGreat.vi n g/\H=H'):=by
  have base:=AC.own (K:=λBB H' r=>∃ids,(∀i,i<nx->H' i=H i)/\Own nx BB H' r (Go.Proofs.YtgknbnkmilddhaaGreat.vi n g) ids) h hv (λBB H' r ids _ h2 h3=>⟨ids,h2,h3⟩);refine⟨base.1,λL Av w us hs CQ ha=>(base.2 L Av w us hs CQ ha).mono ?_⟩;rintro e w' ⟨u,r,L',BB,H',h1,⟨ids,g1,g2,g3,g4⟩,h3,h4,h5,h6,h7,h8⟩;have QR:∀i,nx<=i->H i=none:=λi hi=>by
    cases hc:H i with
    |none=>rfl
    | some cs=>
      obtain⟨l,q1,_⟩:=hs.node i cs hc;rw[CQ i hi]at q1;cases q1
  have WH:∀i cs,H i=some cs->H' i=some cs:=λi cs hi=>by
    have:i<nx:=by
      apply Classical.byContradiction;intro hn;rw[QR i A0]at hi;cases hi
    rw[g1 i this];exact hi
  have hz:PY H' H:=λi cs hi=>⟨cs,WH i cs hi,rfl,λk x y h1 h2=>by rw[h1]at h2;cases h2;exact .refl _⟩
  refine⟨u,_,L',BB,H,h1,⟨rfl,rfl⟩,h3,h4,h5,h6.sub WH,⟨h7.le,h7.os,h7.tape,h7.output,h7.size,h7.AJ,λb hb hl=>h7.old b hb (WL WH hl)⟩,?_⟩;rcases g2.A0T with ⟨rfl,rfl|rfl⟩|⟨id,rfl,DS,hc⟩
  · rw[h8.EV];exact .v0 _ _
  · exact Fz.sound h6 hz (.refl _) h8
  refine Fz.sound h6 hz ?_ h8;exact .h id 0 n _ _ hc (QR id (g4 id DS).1) (by rw[CR];omega) CR (λk x y h1 h2=>by rw[Nat.zero_add,h2]at h1;cases h1;exact .refl _)
theorem yY{n:Nat}(f:V)(hn:n<=1099511627776):gE Tryz.prog 197 [vi n f] (vi n f):=by
  intro nx;have:=F8 (vec n f) (by rw[BL];exact hn) nx BM;rw[E3,BL]at this;refine this.mono ?_;rintro BB H' r (h|⟨rfl,rfl,rfl⟩)
  · obtain⟨ids,h2⟩:=h.own;rw[E3]at h2;exact⟨ids,by unfold vi at h2 ⊢;rwa [E1 (λk hk=>K3 hk)]at h2⟩
  exact⟨[],.leaf _ .v0 (.v _ _ AB),AB,AB⟩
def Ou(os:List Int)(pw:List (List Int))(cj:List (List (List Int)))(i:Nat):Prop:=∀(nx:Nat) (H:HP) (id:Nat) (e f:V),H id=some (D3 os.length e)->T (pc os pw cj) 0 e->T (pc os pw cj) i f->
  AC Tryz.prog 171 nx H [A5 os pw cj,.h id 0 os.length,vi os.length f] (λ_ H' _=>H'=AT H id (some (D3 os.length (app (pc os pw cj) i e f))))
def yZ(os:List Int)(pw:List (List Int))(cj:List (List (List Int)))(j:Nat):Prop:=∀(nx:Nat) (H:HP) (id:Nat) (e:V),H id=some (D3 os.length e)->T (pc os pw cj) 0 e->
  AC Tryz.prog 221 nx H [A5 os pw cj,.h id 0 os.length,.i .i64 j] (λ_ H' _=>H'=AT H id (some (D3 os.length (app (pc os pw cj) j e (un j)))))
theorem Vw.sub{H:HP}{id n o m:Nat}{e:V}(h:H id=some (Go.Proofs.YtgknbnkmilddhaaGreat.D3 n e))(hn:o+m=n):Vw H (.h id o m) (Go.Proofs.YtgknbnkmilddhaaGreat.vi m (λk=>e (o+k))):=by
  refine .h id o m _ _ h (by rw[CR];omega) CR (λk x y hx hy=>?_);have hk:k<m:=by
    have:=(List.getElem?_eq_some_iff.1 hy).1;rwa [CR]at this
  have h1:(Go.Proofs.YtgknbnkmilddhaaGreat.D3 n e)[o+k]? =some (.i .i64 (e (o+k))):=by simp[Go.Proofs.YtgknbnkmilddhaaGreat.D3,show o+k<n by omega]
  have h2:(Go.Proofs.YtgknbnkmilddhaaGreat.D3 m (λk=>e (o+k)))[k]? =some (.i .i64 (e (o+k))):=by simp[Go.Proofs.YtgknbnkmilddhaaGreat.D3,hk]
  rw[h1]at hx;rw[h2]at hy;cases hx;cases hy;exact .refl _
theorem cH{j:Nat}{e t:V}{c:Int}:aB j e c t j=c:=by rw[aB,if_neg A0,if_pos rfl]
theorem US{j:Nat}{e t:V}{c d:Int}:AX (aB j e c t) j d=aB j e d t:=by
  funext k;simp only[AX,aB]
  by_cases h:k=j
  · subst h;rw[if_pos rfl,if_neg A0,if_pos rfl]
  rw[if_neg h,if_neg h];split<;>rfl
theorem KU{cX n ops y s s1 K}{R0:Prop}(r0:R0)(q:AW cX Tryz.prog y s1 K)(e:R0->BV ops s s1:=by intro h0 N hN;(try simp-dsimp-implicitDefEqProofs(maxSteps:=800000) (disch:=omega)only[go_sem,cH,A6,US,DT,AL,BN,ints,A5,rows,vi,h0]);exact hN):BU cX n ops y s K:=BY q (e r0)
theorem UT{cX n ops s}{K:Exit->St->Prop}{Q:Prop}{R0:Prop}(r0:R0)(q:Q)(e:R0->Q->DW env Tryz.prog ops s.nx ops 0 ⟨s.t,s.H,s.nx+ops.length⟩ (K .normal):=by intro h0 q;(try simp-dsimp-implicitDefEqProofs(maxSteps:=800000) (disch:=omega)only[go_sem,cH,A6,US,DT,AL,BN,ints,A5,rows,vi,h0]);exact q):AW cX Tryz.prog (.region n ops.toArray false) s K:=rQ (e r0 q)
theorem nR{P Q:Prop}{R0:Prop}(r0:R0)(q:Q)(e:R0->Q->P:=by intro h0 q;(try simp-dsimp-implicitDefEqProofs(maxSteps:=800000) (disch:=omega)only[go_sem,cH,A6,US,DT,AL,BN,ints,A5,rows,vi,h0]);exact q):P:=e r0 q
set_option maxHeartbeats 1000000 in
theorem OD(os:List Int)(pw:List (List Int))(cj:List (List (List Int)))(h:AF os pw cj)(j:Nat)(hj:j<os.length)(hg:JU (T (pc os pw cj) (j+1)) (M (pc os pw cj) (j+1)))(vE:Ou os pw cj (j+1)):yZ os pw cj j:=by
 intro nx H id e hH he
 have hv:=h.val
 have FU:=h.1.1
 have YN:=h.1.2.1
 have JN:=h.1.2.2
 have c7:=(h.2.2.2 j hj).2.1
 have yX:=T.small h he
 have hrj:=he.r j A0 hj
 have Nt:=h.o7 hj
 have A6C:(pc os pw cj).o j=os.getD j 0:=rfl
 have e3:AV.v (pw.getD j []).length (List.map (AV.i IntKind.i64) (pw.getD j []))=vi os.length ((pc os pw cj).pw j):=D5 (h.pwl hj)
 have tz:=T.zero hv (j+1)
 have tp:=hv.pw j hj
 refine BA AA Tryz.func221 rfl A7 Tryz.ntmps221 Tryz.results221 (λCQ cX=>?_)
 refine sQ λN hN=>?_;refine nR hH ?_;refine(gE.vi (yY (n:=(os.length-(j+1))) (λt=>e (j+1+t)) A0) (.cons (Vw.sub hH A0) .nil)).mono ?_
 rintro _ H1 r1 ⟨rfl,rfl⟩
 refine nR hH ?_
 apply hN;refine AW.seq λN1 B2=>?_;refine KU hH ?_;apply AW.block;refine A8 (α:=Nat) (λx=>sl 83 [(0,A5 os pw cj),(1,.h id 0 os.length),(2,.i .i64 j),(6,vi (os.length-(j+1)) (λt=>e (j+1+t))),(16,.i .i64 ((os.length-(j+1)):Nat)),(17,.i .i64 x)]) (λx=>AT H id (some (D3 os.length (λt=>if j<t/\t<j+1+x then 0 else e t)))) (λx m=>x<=(os.length-(j+1))) (λx=>(os.length-(j+1))-x) (0) ?_ ?_ (by rw[E1 (g:=e) (λt ht=>if_neg A0)];exact rB (λi c _ h=>h) (λd hd=>by cases hd;exact hH)) ?_
 ·omega
 ·simp(disch:=omega) [AN,AO,sl,A5,ints,rows,A6,vi]
 skip
 rintro k m hk
 simp only[A5,vi];refine AG ?_;refine KU hH ?_;refine AW.seq λN2 B7=>?_;refine AW.cond rfl ?_ ?_<;>intro h1<;>try simp only[cn]at h1
 ·apply AW.skip;apply B7;refine AW.seq λN3 BC=>?_;apply AW.block;refine KU hH ?_;refine UT hH ?_;apply BC;refine UT hH ?_;refine⟨k+1,?_,(by rw[E1 (f:=λt=>if j<t/\t<j+1+(k+1)then 0 else e t) (g:=AX (λt=>if j<t/\t<j+1+k then 0 else e t) (j+1+k) 0) (λt _=>by simp only[AX];split<;>split<;>first|rfl|omega|(split<;>first|rfl|omega))];exact λ_ _ h=>h),?_,?_⟩
  ·simp(disch:=omega) [AN,AO,sl,A5,AR,ints,rows,A6,vi]<;>omega
  ·omega
  first|omega|(simp only;omega)
 apply AW.exit;apply B2;have hz:D3 os.length (λt=>if j<t/\t<j+1+k then 0 else e t)=D3 os.length (aB j e (e j) z0):=by
  refine E1 (λt ht=>?_);simp only[aB,z0];by_cases q1:t<j
  ·rw[if_pos q1,if_neg A0]
  by_cases q2:t=j
  ·subst q2;rw[if_neg A0,if_neg A0,if_pos rfl]
  rw[if_pos A0,if_neg q1,if_neg q2]
 rw[hz]
 refine KU hH ?_;refine AW.seq λN4 CF=>?_;refine AW.seq λN hN=>?_;refine AM AA A7 12 A7 ?_
 (try simp-dsimp-implicitDefEqProofs(maxSteps:=800000) (disch:=omega)only[go_sem,List.drop_nil,List.drop_succ_cons,List.drop_zero,List.take_nil,List.take_succ_cons,List.take_zero,cH,A6,US,DT,AL,BN,BW,BE,BF,ints,A5,rows,vi,AR,hH]);apply hN;refine AW.cond rfl ?_ ?_<;>intro h2<;>try simp only[cn]at h2
 ·refine KU hH ?_;refine UT hH ?_;rw[e3]
  refine(vE _ _ id (aB j e 0 z0) ((pc os pw cj).pw j) (A4 _ _ _) (Dp hv hj he A0 A0 tz) tp).mono ?_;rintro _ H1 r1 rfl;rw[jY hv tz tp,hg.l1 tp];refine nR hH ?_
  apply CF;refine KU hH ?_;apply AW.block;refine A8 (α:=Nat×V) (λx=>sl 83 [(0,A5 os pw cj),(1,.h id 0 os.length),(2,.i .i64 j),(58,vi (os.length-(j+1)) (λt=>e (j+1+t))),(59,.i .i64 ((os.length-(j+1)):Nat)),(60,.i .i64 x.1)]) (λx=>AT H id (some (D3 os.length (aB j e 0 x.2)))) (λx m=>x.1<=(os.length-(j+1))/\T (pc os pw cj) (j+1) x.2/\JH (M (pc os pw cj) (j+1)) ((pc os pw cj).cj j) e ((os.length-(j+1))-x.1) (j+1+x.1) x.2=JH (M (pc os pw cj) (j+1)) ((pc os pw cj).cj j) e (os.length-(j+1)) (j+1) ((pc os pw cj).pw j)) (λx=>(os.length-(j+1))-x.1) ((0,((pc os pw cj).pw j))) ?_ ?_ (λ_ _ h=>h) ?_
  ·exact⟨Nat.zero_le _,tp,rfl⟩
  ·simp(disch:=omega) [AN,AO,sl,A5,ints,rows,A6,vi]
  skip
  rintro⟨q,t⟩ m ⟨hq,ht,hf⟩;dsimp only at hq ht hf;simp only[A5,vi];refine AG ?_;refine KU hH ?_;refine AW.seq λN5 DL=>?_;refine AW.cond rfl ?_ ?_<;>intro h3<;>try simp only[cn]at h3
  ·have hjq:j+1+q<os.length:=A0;have hsq:=yX (j+1+q);apply AW.skip;apply DL;refine AW.seq λN6 FR=>?_;apply AW.block;refine KU hH ?_;refine KU hH ?_;apply AW.block;refine A8 (α:=Nat×V) (λx=>sl 83 [(0,A5 os pw cj),(1,.h id 0 os.length),(2,.i .i64 j),(8,.i .i64 q),(58,vi (os.length-(j+1)) (λt=>e (j+1+t))),(59,.i .i64 ((os.length-(j+1)):Nat)),(60,.i .i64 q),(65,.i .i64 (e (j+1+q))),(66,.i .i64 x.1)]) (λx=>AT H id (some (D3 os.length (aB j e 0 x.2)))) (λx m=>x.1<=(e (j+1+q)).toNat/\T (pc os pw cj) (j+1) x.2/\x.2=DG (λu=>M (pc os pw cj) (j+1) u ((pc os pw cj).cj j (j+1+q))) x.1 t) (λx=>(e (j+1+q)).toNat-x.1) ((0,t)) ?_ ?_ (λ_ _ h=>h) ?_
   ·exact⟨Nat.zero_le _,ht,rfl⟩
   ·simp(disch:=omega) [AN,AO,sl,A5,ints,rows,A6,vi]
   skip
   rintro⟨y,w⟩ m2 ⟨hy,hw,PQ⟩;dsimp only at hy hw PQ;simp only[A5,vi];refine AG ?_;refine KU hH ?_;refine AW.seq λN7 MV=>?_;refine AW.cond rfl ?_ ?_<;>intro h4<;>try simp only[cn]at h4
   ·have e1:AV.v ((cj.getD j []).getD q []).length (List.map (AV.i IntKind.i64) ((cj.getD j []).getD q []))=vi os.length ((pc os pw cj).cj j (j+1+q)):=by
     have:=D5 (h.An (show j<j+1+q by omega) hjq);rw[show j+1+q-j-1=q by omega]at this;refine this.trans ?_;show vi _ (fl _)=vi _ (fl ((cj.getD j []).getD (j+1+q-j-1) []))
     rw[show j+1+q-j-1=q by omega]
    have tq:=hv.cj j (j+1+q) A0 hjq;apply AW.skip;apply MV;refine AW.seq λN8 OB=>?_;apply AW.block;refine UT hH ?_;rw[e1]
    refine(vE _ _ id (aB j e 0 w) ((pc os pw cj).cj j (j+1+q)) (A4 _ _ _) (Dp hv hj he A0 A0 hw) tq).mono ?_;rintro _ H1 r1 rfl;rw[jY hv hw tq];refine nR hH ?_
    apply OB;refine UT hH ?_;refine⟨(y+1,M (pc os pw cj) (j+1) w ((pc os pw cj).cj j (j+1+q))),?_,λ_ _ h=>h,?_,?_⟩
    ·simp(disch:=omega) [AN,AO,sl,A5,AR,ints,rows,A6,vi]<;>omega
    ·exact⟨A9,hg.cl hw tq,by rw[PQ];rfl⟩
    first|omega|(simp only;omega)
   apply AW.exit;apply FR;refine UT hH ?_;refine⟨(q+1,w),?_,λ_ _ h=>h,?_,?_⟩
   ·simp(disch:=omega) [AN,AO,sl,A5,AR,ints,rows,A6,vi]<;>omega
   ·refine⟨A9,hw,?_⟩;show JH (M (pc os pw cj) (j+1)) ((pc os pw cj).cj j) e ((os.length-(j+1))-(q+1)) (j+1+(q+1)) w=_
    rw[<-hf,PQ,show(os.length-(j+1))-q=(os.length-(j+1))-(q+1)+1 by omega,JH,show y=(e (j+1+q)).toNat by omega];rfl
   first|omega|(simp only;omega)
  apply AW.exit;simp only[qW,CP,if_true];refine AG ?_
  have h9:(os.length-(j+1))-q=0:=A0;rw[h9]at hf;have iC:t=_:=hf;refine⟨_,Le.refl _,?_⟩;rw[Dq hv hj hg he];unfold tg0;first
  |rw[if_pos (show e j+1=(pc os pw cj).o j from h2),iC];rfl
  |rw[if_neg (show ¬e j+1=(pc os pw cj).o j from h2),iC];rfl
 apply AW.skip;apply CF;refine KU hH ?_;apply AW.block;refine A8 (α:=Nat×V) (λx=>sl 83 [(0,A5 os pw cj),(1,.h id 0 os.length),(2,.i .i64 j),(58,vi (os.length-(j+1)) (λt=>e (j+1+t))),(59,.i .i64 ((os.length-(j+1)):Nat)),(60,.i .i64 x.1)]) (λx=>AT H id (some (D3 os.length (aB j e (e j+1) x.2)))) (λx m=>x.1<=(os.length-(j+1))/\T (pc os pw cj) (j+1) x.2/\JH (M (pc os pw cj) (j+1)) ((pc os pw cj).cj j) e ((os.length-(j+1))-x.1) (j+1+x.1) x.2=JH (M (pc os pw cj) (j+1)) ((pc os pw cj).cj j) e (os.length-(j+1)) (j+1) z0) (λx=>(os.length-(j+1))-x.1) ((0,z0)) ?_ ?_ (λ_ _ h=>h) ?_
 ·exact⟨Nat.zero_le _,tz,rfl⟩
 ·simp(disch:=omega) [AN,AO,sl,A5,ints,rows,A6,vi]
 skip
 rintro⟨q,t⟩ m ⟨hq,ht,hf⟩
 dsimp only at hq ht hf
 simp only[A5,vi];refine AG ?_;refine KU hH ?_;refine AW.seq λN9 SC=>?_;refine AW.cond rfl ?_ ?_<;>intro h5<;>try simp only[cn]at h5
 ·have hjq:j+1+q<os.length:=A0;have hsq:=yX (j+1+q);apply AW.skip;apply SC;refine AW.seq λAm IQ=>?_;apply AW.block;refine KU hH ?_;refine KU hH ?_;apply AW.block;refine A8 (α:=Nat×V) (λx=>sl 83 [(0,A5 os pw cj),(1,.h id 0 os.length),(2,.i .i64 j),(8,.i .i64 q),(58,vi (os.length-(j+1)) (λt=>e (j+1+t))),(59,.i .i64 ((os.length-(j+1)):Nat)),(60,.i .i64 q),(65,.i .i64 (e (j+1+q))),(66,.i .i64 x.1)]) (λx=>AT H id (some (D3 os.length (aB j e (e j+1) x.2)))) (λx m=>x.1<=(e (j+1+q)).toNat/\T (pc os pw cj) (j+1) x.2/\x.2=DG (λu=>M (pc os pw cj) (j+1) u ((pc os pw cj).cj j (j+1+q))) x.1 t) (λx=>(e (j+1+q)).toNat-x.1) ((0,t)) ?_ ?_ (λ_ _ h=>h) ?_
  ·exact⟨Nat.zero_le _,ht,rfl⟩
  ·simp(disch:=omega) [AN,AO,sl,A5,ints,rows,A6,vi]
  skip
  rintro⟨y,w⟩ m2 ⟨hy,hw,PQ⟩;dsimp only at hy hw PQ;simp only[A5,vi];refine AG ?_;refine KU hH ?_;refine AW.seq λDu JO=>?_;refine AW.cond rfl ?_ ?_<;>intro h6<;>try simp only[cn]at h6
  ·have e1:AV.v ((cj.getD j []).getD q []).length (List.map (AV.i IntKind.i64) ((cj.getD j []).getD q []))=vi os.length ((pc os pw cj).cj j (j+1+q)):=by
    have:=D5 (h.An (show j<j+1+q by omega) hjq);rw[show j+1+q-j-1=q by omega]at this;refine this.trans ?_;show vi _ (fl _)=vi _ (fl ((cj.getD j []).getD (j+1+q-j-1) []))
    rw[show j+1+q-j-1=q by omega]
   have tq:=hv.cj j (j+1+q) A0 hjq;apply AW.skip;apply JO;refine AW.seq λOt PA=>?_;apply AW.block;refine UT hH ?_;rw[e1]
   refine(vE _ _ id (aB j e (e j+1) w) ((pc os pw cj).cj j (j+1+q)) (A4 _ _ _) (Dp hv hj he A0 A0 hw) tq).mono ?_;rintro _ H1 r1 rfl;rw[jY hv hw tq];refine nR hH ?_
   apply PA;refine UT hH ?_;refine⟨(y+1,M (pc os pw cj) (j+1) w ((pc os pw cj).cj j (j+1+q))),?_,λ_ _ h=>h,?_,?_⟩
   ·simp(disch:=omega) [AN,AO,sl,A5,AR,ints,rows,A6,vi]<;>omega
   ·exact⟨A9,hg.cl hw tq,by rw[PQ];rfl⟩
   first|omega|(simp only;omega)
  apply AW.exit;apply IQ;refine UT hH ?_;refine⟨(q+1,w),?_,λ_ _ h=>h,?_,?_⟩
  ·simp(disch:=omega) [AN,AO,sl,A5,AR,ints,rows,A6,vi]<;>omega
  ·refine⟨A9,hw,?_⟩;show JH (M (pc os pw cj) (j+1)) ((pc os pw cj).cj j) e ((os.length-(j+1))-(q+1)) (j+1+(q+1)) w=_
   rw[<-hf,PQ,show(os.length-(j+1))-q=(os.length-(j+1))-(q+1)+1 by omega,JH,show y=(e (j+1+q)).toNat by omega];rfl
  first|omega|(simp only;omega)
 apply AW.exit;simp only[qW,CP,if_true];refine AG ?_
 have h9:(os.length-(j+1))-q=0:=A0
 rw[h9]at hf
 have iC:t=_:=hf
 refine⟨_,Le.refl _,?_⟩
 rw[Dq hv hj hg he]
 unfold tg0
 first
 |rw[if_pos (show e j+1=(pc os pw cj).o j from h2),iC];rfl
 |rw[if_neg (show ¬e j+1=(pc os pw cj).o j from h2),iC];rfl
theorem Ov{f:V}:tl 0 f=f:=by funext k;simp[tl]
theorem A0U{n:Nat}{f:V}(h:∀k,n<=k->f k=0):tl n f=z0:=by
  funext k;simp only[tl,z0];split
  · rfl
  exact h k A0
theorem rM{k:Nat}{f:V}{a:Int}:AX (tl k f) k a=AX (tl (k+1) f) k a:=by
  funext t;simp only[AX,tl]
  by_cases e:t=k
  · rw[if_pos e,if_pos e]
  rw[if_neg e,if_neg e];by_cases e2:t<k
  · rw[if_pos e2,if_pos A0]
  rw[if_neg e2,if_neg A0]
theorem Ox{k:Nat}{f:V}:AX (tl k f) k (f k)=tl k f:=by
  funext t;simp only[AX,tl];split
  · rename_i e;subst e;rw[if_neg A0]
  rfl
theorem Oy{k:Nat}{f:V}:AX (tl k f) k 0=tl (k+1) f:=by
  rw[rM];exact GW (by simp[tl])
section
variable{P:Pc}
theorem T.tail(hv:GX P){i:Nat}{f:V}(h:T P i f)(k:Nat):T P k (tl k f):=
  ⟨λt ht=>by simp[tl,ht],λt h1 h2=>by
    rw[tl,if_neg A0];by_cases e:t<i
    · rw[h.z t e];have:=hv.o t h2;omega
    · exact h.r t A0 h2,λt ht=>by
    rw[tl];split
    · rfl
    exact h.t t ht⟩
theorem Ec(hv:GX P){i k:Nat}(T4:i<=k)(hk:k<P.n)(hg:JU (T P i) (M P i))(KV:JU (T P (k+1)) (M P (k+1))){e f:V}(he:T P 0 e)(hf:T P i f){a:Int}(h0:0<=a)(h1:a+1<P.o k):
    app P i (app P k e (un k)) (AX (tl k f) k a)=app P i e (AX (tl k f) k (a+1)):=by
  have tu:=nM hv (Nat.le_refl k) hk;have t1:T P (k+1) (tl (k+1) f):=hf.tail hv (k+1);have t2:T P k (AX (tl (k+1) f) k a):=T.put hk t1 h0 A0;rw[rM,rM,<-rC hv T4 he tu,Oq hv hg he (tu.mono hv T4) (t2.mono hv T4),Y8 hv T4 tu t2,A0O hv hk KV t1 h0 h1]
end
set_option maxHeartbeats 1000000 in
theorem JW(os:List Int)(pw:List (List Int))(cj:List (List (List Int)))(h:AF os pw cj)(i:Nat)(hc:CG (pc os pw cj) i)(hTG:∀k,i<=k->k<os.length->yZ os pw cj k):Ou os pw cj i:=by
 intro nx H id e f hH he hf
 have hv:=h.val
 have FU:=h.1.1
 have hg:=C0 hv hc
 have yX:=T.small h hf
 have hnn:(pc os pw cj).n=os.length:=rfl
 refine BA AA Tryz.func171 rfl A7 Tryz.ntmps171 Tryz.results171 (λCQ cX=>?_)
 refine FJ ?_;apply AW.block;refine A8 (α:=Nat×V) (λx=>sl 24 [(0,A5 os pw cj),(1,.h id 0 os.length),(8,vi os.length f),(9,.i .i64 os.length),(10,.i .i64 x.1)]) (λx=>AT H id (some (D3 os.length x.2))) (λx m=>x.1<=os.length/\T (pc os pw cj) 0 x.2/\app (pc os pw cj) i x.2 (tl x.1 f)=app (pc os pw cj) i e f) (λx=>os.length-x.1) ((0,e)) ?_ ?_ (by exact rB (λi c _ h=>h) (λd hd=>by cases hd;exact hH)) ?_
 ·exact⟨Nat.zero_le _,he,by rw[Ov]⟩
 ·simp(disch:=omega) [AN,AO,sl,A5,ints,rows,A6,vi]
 skip
 rintro⟨k,e1⟩ m ⟨hk,Lh,bO⟩
 dsimp only at hk Lh bO
 simp only[A5,vi];refine AG ?_;refine FJ ?_;refine AW.seq λN1 B2=>?_;refine AW.cond rfl ?_ ?_<;>intro h1<;>try simp only[cn]at h1
 ·have Lp:=yX k;apply AW.skip;apply B2;refine AW.seq λN2 B7=>?_;apply AW.block;refine FJ ?_;refine FJ ?_;apply AW.block;refine A8 (α:=Nat×V) (λx=>sl 24 [(0,A5 os pw cj),(1,.h id 0 os.length),(6,.i .i64 k),(8,vi os.length f),(9,.i .i64 os.length),(10,.i .i64 k),(15,.i .i64 (f k)),(16,.i .i64 x.1)]) (λx=>AT H id (some (D3 os.length x.2))) (λx m=>x.1<=(f k).toNat/\T (pc os pw cj) 0 x.2/\app (pc os pw cj) i x.2 (AX (tl k f) k (f k-x.1))=app (pc os pw cj) i e f) (λx=>(f k).toNat-x.1) ((0,e1)) ?_ ?_ (λ_ _ h=>h) ?_
  ·exact⟨Nat.zero_le _,Lh,by dsimp only;rw[show f k-((0:Nat):Int)=f k by omega,Ox];exact bO⟩
  ·simp(disch:=omega) [AN,AO,sl,A5,ints,rows,A6,vi]
  skip
  rintro⟨q,e2⟩ m2 ⟨hq,PQ,iC⟩;dsimp only at hq PQ iC;simp only[A5,vi];refine AG ?_;refine FJ ?_;refine AW.seq λN3 BC=>?_;refine AW.cond rfl ?_ ?_<;>intro h2<;>try simp only[cn]at h2
  ·have T4:i<=k:=by
    apply Classical.byContradiction;intro hn;have:=hf.z k A0;omega
   have hrk:=hf.r k T4 A0;apply AW.skip;apply BC;refine AW.seq λN4 CF=>?_;apply AW.block;refine cD ?_;refine(hTG k T4 A0 _ _ id e2 (A4 _ _ _) PQ).mono ?_
   rintro _ H1 r1 rfl;refine WR ?_
   apply CF;refine cD ?_;refine⟨(q+1,app (pc os pw cj) k e2 (un k)),?_,λ_ _ h=>h,?_,?_⟩
   ·simp(disch:=omega) [AN,AO,sl,A5,AR,ints,rows,A6,vi]<;>omega
   ·refine⟨A9,A69 hv PQ (nM hv (Nat.le_refl k) A0),?_⟩;dsimp only;rw[Ec hv T4 A0 hg (C0 hv (hc.mono A0)) PQ hf A0 A0,show f k-((q+1:Nat):Int)+1=f k-q by omega];exact iC
   first|omega|(simp only;omega)
  apply AW.exit;apply B7;refine cD ?_;refine⟨(k+1,e2),?_,λ_ _ h=>h,?_,?_⟩
  ·simp(disch:=omega) [AN,AO,sl,A5,AR,ints,rows,A6,vi]<;>omega
  ·refine⟨A9,PQ,?_⟩;dsimp only;rw[<-Oy,<-iC,show f k-(q:Int)=0 by omega]
  first|omega|(simp only;omega)
 apply AW.exit;simp only[qW,CP,if_true];refine AG ?_
 obtain rfl:k=os.length:=A0
 rw[A0U (n:=os.length) (λt ht=>hf.t t ht),A0N hv hg Lh]at bO
 exact⟨_,Le.refl _,by rw[bO]⟩
theorem NH(os:List Int)(pw:List (List Int))(cj:List (List (List Int)))(h:AF os pw cj):∀i,CG (pc os pw cj) i->Ou os pw cj i/\∀j,i<=j->j<os.length->yZ os pw cj j:=by
  have hv:=h.val;have key:∀d i,os.length-i=d->CG (pc os pw cj) i->Ou os pw cj i/\∀j,i<=j->j<os.length->yZ os pw cj j:=by
    intro d;induction d with
    | zero=>
      intro i hd hc;have hG:∀j,i<=j->j<os.length->yZ os pw cj j:=λj h1 h2=>A0
      exact⟨JW os pw cj h i hc hG,hG⟩
    | succ d ih=>
      intro i hd hc;have h1:=ih (i+1) A0 (hc.mono A0);have hG:∀j,i<=j->j<os.length->yZ os pw cj j:=λj h2 h3=>by
        by_cases e:j=i
        · subst e;exact OD os pw cj h j h3 (C0 hv (hc.mono A0)) h1.1
        exact h1.2 j A0 h3
      exact⟨JW os pw cj h i hc hG,hG⟩
  exact λi hc=>key _ i rfl hc
end Go.Proofs.YtgknbnkmilddhaaGreat

namespace Go.Proofs.YtgknbnkmilddhaaGreat
theorem cI{n:Nat}(f:V)(hn:n<=1099511627776)(nx:Nat)(H:HP):AC Tryz.prog 197 nx H [vi n f] (λBB H' r=>CpI nx BB H H' r n f):=by
  have:=F8 (vec n f) (by rw[BL];exact hn) nx H;rw[E3,BL]at this;refine this.mono ?_;rintro BB H' r (⟨id,h1,h2,h3,h4⟩|h)
  · exact .inl ⟨id,h1,h2,h3,by rw[h4,E1 (λk hk=>K3 hk)]⟩
  exact .inr h
theorem Own.vi{a b:Nat}{H:HP}{id n:Nat}{f:V}(h:H id=some (Go.Proofs.YtgknbnkmilddhaaGreat.D3 n f))(h1:a<=id)(h2:id<b):∃ids,Own a b H (.h id 0 n) (Go.Proofs.YtgknbnkmilddhaaGreat.vi n f) ids:=by
  rw[<-E3];exact⟨_,Own.ints (by rw[h,K4]) BL.symm h1 h2⟩
theorem Own.vi0{a b:Nat}{H:HP}{n:Nat}{f:V}(h:n=0):∃ids,Own a b H (.v 0 []) (Go.Proofs.YtgknbnkmilddhaaGreat.vi n f) ids:=by
  subst h;exact⟨[],.leaf _ .v0 (.v _ _ AB),AB,AB⟩
theorem TH(os:List Int)(pw:List (List Int))(cj:List (List (List Int)))(hn:os.length=0)(f:V)(nx:Nat)(H:HP):AC Tryz.prog 171 nx H [A5 os pw cj,.v 0 [],vi os.length f] (λ_ H' _=>H=H'):=by
 refine BA AA Tryz.func171 rfl A7 Tryz.ntmps171 Tryz.results171 (λCQ cX=>?_)
 refine FJ ?_;apply AW.block;refine A8 (α:=Nat) (λx=>sl 24 [(0,A5 os pw cj),(1,.v 0 []),(8,vi os.length f),(9,.i .i64 os.length),(10,.i .i64 0)]) (λ_=>H) (λx m=>True) (λx=>0) (0) ?_ ?_ (λ_ _ h=>h) ?_
 ·trivial
 ·simp(disch:=omega) [AN,AO,sl,A5,ints,rows,A6,vi]
 skip
 rintro k m hk
 simp only[A5,vi];refine AG ?_;refine FJ ?_;refine AW.seq λN1 B2=>?_;refine AW.cond rfl ?_ ?_<;>intro h1<;>try simp only[cn]at h1
 ·exfalso;omega
 apply AW.exit;simp only[qW,CP,if_true];refine AG ?_
 exact⟨_,Le.refl _,rfl⟩
theorem EL(os:List Int)(pw:List (List Int))(cj:List (List (List Int)))(h:AF os pw cj)(i:Nat)(hc:CG (pc os pw cj) i)(a b:V)(ha:T (pc os pw cj) i a)(hb:T (pc os pw cj) i b):gE Tryz.prog 146 [A5 os pw cj,vi os.length a,vi os.length b] (vi os.length (M (pc os pw cj) i a b)):=by
 have hv:=h.val
 have FU:=h.1.1
 have vE:=(NH os pw cj h i hc).1
 intro nx
 refine BS AA Tryz.func146 rfl A7 Tryz.ntmps146 Tryz.results146 (λcX=>?_)
 refine B8 ?_;refine sQ λN hN=>?_;refine AG ?_;refine(cI a A0 _ _).mono ?_
 rintro m1 H1 r1 (⟨iF,rfl,g1,g2,rfl⟩|⟨h0,rfl,rfl⟩)
 ·skip
  refine AG ?_
  apply hN;refine sQ λN hN=>?_;refine AG ?_;refine(vE _ _ iF a b (A4 _ _ _) (ha.mono hv A0) hb).AS ?_
  rintro m2 H2 r2 LN rfl;refine AG ?_
  apply hN;refine B8 ?_;refine AH ?_;rw[UN hv ha hb]
  exact Own.vi (by simp only[A4]) A0 A0
 skip
 refine AG ?_
 apply hN;refine sQ λN hN=>?_;refine AG ?_;refine(TH os pw cj h0 b _ _).AS ?_
 rintro m2 H2 r2 LN rfl
 refine AG ?_
 apply hN;refine B8 ?_;refine AH ?_;exact Own.vi0 h0
theorem gI(os:List Int)(pw:List (List Int))(cj:List (List (List Int)))(h:AF os pw cj)(i:Nat)(hc:CG (pc os pw cj) i)(a:V)(ha:T (pc os pw cj) i a)(k:Nat)(hk:k<=1099511627776):gE Tryz.prog 132 [A5 os pw cj,vi os.length a,.i .i64 k] (vi os.length (rep (M (pc os pw cj) i) a k)):=by
 have hv:=h.val
 have FU:=h.1.1
 have hg:=C0 hv hc
 have vE:=(NH os pw cj h i hc).1
 intro nx
 refine BS AA Tryz.func132 rfl A7 Tryz.ntmps132 Tryz.results132 (λcX=>?_)
 refine FJ ?_;refine FJ ?_;refine AW.seq λN1 B2=>?_;refine FJ ?_;apply AW.block;refine A8 (α:=Nat) (λx=>sl 20 [(0,A5 os pw cj),(1,vi os.length a),(7,.h (nx+1+2) 0 os.length),(11,.i .i64 k),(12,.i .i64 x)]) (λx=>AT BM (nx+1+2) (some (D3 os.length (rep (M (pc os pw cj) i) a x)))) (λx m=>x<=k/\nx+4<=m) (λx=>k-x) (0) ?_ ?_ (by rw[CO];exact Le.refl _) ?_
 ·exact⟨Nat.zero_le _,A9⟩
 ·simp(disch:=omega) [AN,AO,sl,A5,ints,rows,A6,vi]
 skip
 rintro q m ⟨hq,hm⟩
 simp only[A5,vi];refine AG ?_;refine FJ ?_;refine AW.seq λN2 B7=>?_;refine AW.cond rfl ?_ ?_<;>intro h1<;>try simp only[cn]at h1
 ·apply AW.skip;apply B7;refine AW.seq λN3 BC=>?_;apply AW.block;refine cD ?_;refine(vE _ _ (nx+1+2) _ a (A4 _ _ _) ((hg.rep ha q).mono hv A0) ha).AS ?_
  rintro m2 H2 r2 LN rfl;rw[UN hv (hg.rep ha q) ha];refine WR ?_
  apply BC;refine cD ?_;refine⟨q+1,?_,λ_ _ h=>h,?_,?_⟩
  ·simp(disch:=omega) [AN,AO,sl,A5,AR,ints,rows,A6,vi]<;>omega
  ·exact⟨A9,A9⟩
  first|omega|(simp only;omega)
 apply AW.exit;apply B2;refine FJ ?_;refine AH ?_;obtain rfl:q=k:=A0
 exact Own.vi (A4 _ _ _) A0 A0
theorem GY(os:List Int)(pw:List (List Int))(cj:List (List (List Int)))(h:AF os pw cj)(i:Nat)(hi:i<os.length)(hc:CG (pc os pw cj) (i+1))(a:V)(ha:T (pc os pw cj) (i+1) a):gE Tryz.prog 220 [A5 os pw cj,.i .i64 i,vi os.length a] (vi os.length (E2 (pc os pw cj) (M (pc os pw cj) (i+1)) i a)):=by
 have hv:=h.val
 have FU:=h.1.1
 have YN:=h.1.2.1
 have JN:=h.1.2.2
 have c7:=(h.2.2.2 i hi).2.1
 have hg:=C0 hv hc
 have yX:=T.small h ha
 have vE:=(NH os pw cj h (i+1) hc).1
 intro nx
 refine BS AA Tryz.func220 rfl A7 Tryz.ntmps220 Tryz.results220 (λcX=>?_)
 refine ET ?_;refine ET ?_;refine AW.seq λN1 B2=>?_;refine ET ?_;apply AW.block;refine A8 (α:=Nat×V) (λx=>sl 42 [(0,A5 os pw cj),(1,.i .i64 i),(2,vi os.length a),(7,.h (nx+1+2) 0 os.length),(19,rows (cj.getD i [])),(20,.i .i64 (cj.getD i []).length),(21,.i .i64 x.1)]) (λx=>AT BM (nx+1+2) (some (D3 os.length x.2))) (λx m=>(x.1<=(cj.getD i []).length/\nx+4<=m)/\T (pc os pw cj) (i+1) x.2/\JH (M (pc os pw cj) (i+1)) ((pc os pw cj).cj i) a (os.length-(i+1)-x.1) (i+1+x.1) x.2=E2 (pc os pw cj) (M (pc os pw cj) (i+1)) i a) (λx=>(cj.getD i []).length-x.1) ((0,z0)) ?_ ?_ (by rw[CO];exact Le.refl _) ?_
 ·exact⟨⟨Nat.zero_le _,A9⟩,T.zero hv _,rfl⟩
 ·simp(disch:=omega) [AN,AO,sl,A5,ints,rows,A6,vi]
 skip
 rintro⟨q,u⟩ m ⟨⟨hq,hm⟩,hu,hf⟩
 dsimp only at hq hm hu hf
 simp only[A5,vi];refine AG ?_;refine ET ?_;refine AW.seq λN2 B7=>?_;refine AW.cond rfl ?_ ?_<;>intro h1<;>try simp only[cn]at h1
 ·have hiq:i+1+q<os.length:=A0;have hsq:=yX (i+1+q);have e1:AV.v ((cj.getD i []).getD q []).length (List.map (AV.i IntKind.i64) ((cj.getD i []).getD q []))=vi os.length ((pc os pw cj).cj i (i+1+q)):=by
   have:=D5 (h.An (show i<i+1+q by omega) hiq);rw[show i+1+q-i-1=q by omega]at this;refine this.trans ?_;show vi _ (fl _)=vi _ (fl ((cj.getD i []).getD (i+1+q-i-1) []))
   rw[show i+1+q-i-1=q by omega]
  have tq:=hv.cj i (i+1+q) A0 hiq;apply AW.skip;apply B7;refine AW.seq λN3 BC=>?_;apply AW.block;refine ET ?_;refine ET ?_;apply AW.block;rw[e1]
  refine A8 (α:=Nat×V) (λx=>sl 42 [(0,A5 os pw cj),(1,.i .i64 i),(2,vi os.length a),(7,.h (nx+1+2) 0 os.length),(9,vi os.length ((pc os pw cj).cj i (i+1+q))),(19,rows (cj.getD i [])),(20,.i .i64 (cj.getD i []).length),(21,.i .i64 q),(32,.i .i64 (a (i+1+q))),(33,.i .i64 x.1)]) (λx=>AT BM (nx+1+2) (some (D3 os.length x.2))) (λx m=>(x.1<=(a (i+1+q)).toNat/\nx+4<=m)/\T (pc os pw cj) (i+1) x.2/\x.2=DG (λw=>M (pc os pw cj) (i+1) w ((pc os pw cj).cj i (i+1+q))) x.1 u) (λx=>(a (i+1+q)).toNat-x.1) ((0,u)) ?_ ?_ (λ_ _ h=>h) ?_
  ·exact⟨⟨Nat.zero_le _,A9⟩,hu,rfl⟩
  ·simp(disch:=omega) [AN,AO,sl,A5,ints,rows,A6,vi]
  skip
  rintro⟨y,w⟩ m2 ⟨⟨hy,LN⟩,hw,PQ⟩;dsimp only at hy LN hw PQ;simp only[A5,vi];refine AG ?_;refine ET ?_;refine AW.seq λN4 CF=>?_;refine AW.cond rfl ?_ ?_<;>intro h2<;>try simp only[cn]at h2
  ·apply AW.skip;apply CF;refine AW.seq λN5 DL=>?_;apply AW.block;refine UQ ?_;refine(vE _ _ (nx+1+2) w ((pc os pw cj).cj i (i+1+q)) (A4 _ _ _) (hw.mono hv A0) tq).AS ?_
   rintro m3 H1 r1 W1 rfl;rw[UN hv hw tq];refine UR ?_
   apply DL;refine UQ ?_;refine⟨(y+1,M (pc os pw cj) (i+1) w ((pc os pw cj).cj i (i+1+q))),?_,λ_ _ h=>h,?_,?_⟩
   ·simp(disch:=omega) [AN,AO,sl,A5,AR,ints,rows,A6,vi]<;>omega
   ·exact⟨⟨A9,A9⟩,hg.cl hw tq,by rw[PQ];rfl⟩
   first|omega|(simp only;omega)
  apply AW.exit;apply BC;refine UQ ?_;refine⟨(q+1,w),?_,λ_ _ h=>h,?_,?_⟩
  ·simp(disch:=omega) [AN,AO,sl,A5,AR,ints,rows,A6,vi]<;>omega
  ·refine⟨⟨A9,A9⟩,hw,?_⟩;show JH (M (pc os pw cj) (i+1)) ((pc os pw cj).cj i) a (os.length-(i+1)-(q+1)) (i+1+(q+1)) w=_
   rw[<-hf,PQ,show os.length-(i+1)-q=os.length-(i+1)-(q+1)+1 by omega,JH,show y=(a (i+1+q)).toNat by omega];rfl
  first|omega|(simp only;omega)
 apply AW.exit;apply B2;refine ET ?_;refine AH ?_;rw[show os.length-(i+1)-q=0 by omega]at hf
 rw[<-hf]
 exact Own.vi (A4 _ _ _) A0 A0
end Go.Proofs.YtgknbnkmilddhaaGreat

namespace Go.Proofs.YtgknbnkmilddhaaGreat
theorem M4(n j:Nat)(hn:n<=1048576)(hj:j<n):BI Tryz.prog 130 [.i .i64 n,.i .i64 j] (vi n (un j)):=by
  have:=(TC n j hn hj).pure;unfold Uq at this;rw[E3]at this;rwa [A0Q (g:=un j) (λk hk=>by simp only[un,AX,z0])]at this
theorem HW{os:List Int}{pw:List (List Int)}{cj:List (List (List Int))}{i:Nat}{f g:V}(hn:os.length<=1048576)(hf:T (pc os pw cj) i f)(hg:T (pc os pw cj) i g):BI Tryz.prog 103 [vi os.length f,vi os.length g] (.b (tf (f=g))):=by
  have:=F9 (vec os.length f) (vec os.length g) (by rw[BL];omega) (by rw[BL];omega);rw[E3,E3]at this;rwa [bQ (hf.rL hg)]at this
theorem K5{os:List Int}{pw:List (List Int)}{cj:List (List (List Int))}(h:AF os pw cj)(i:Nat)(hc:CG (pc os pw cj) i)(a:V)(ha:T (pc os pw cj) i a)(k:Int)(h0:0<=k)(hk:k<=1099511627776):BI Tryz.prog 132 [A5 os pw cj,vi os.length a,.i .i64 k] (vi os.length (rep (M (pc os pw cj) i) a k.toNat)):=by
  have:=(gI os pw cj h i hc a ha k.toNat A0).pure;rwa [Int.toNat_of_nonneg h0]at this
theorem KW(os:List Int)(pw:List (List Int))(cj:List (List (List Int)))(h:AF os pw cj)(i:Nat)(hc:CG (pc os pw cj) i)(a:V)(ha:T (pc os pw cj) i a):gE Tryz.prog 170 [A5 os pw cj,vi os.length a] (vi os.length (inv (pc os pw cj) i a)):=by
 have hv:=h.val
 have FU:=h.1.1
 have hg:=C0 hv hc
 have hTG:=(NH os pw cj h i hc).2
 have hnn:(pc os pw cj).n=os.length:=rfl
 intro nx
 refine BS AA Tryz.func170 rfl A7 Tryz.ntmps170 Tryz.results170 (λcX=>?_)
 refine FJ ?_;refine sQ λN hN=>?_;refine WR ?_;refine(cI a A0 _ _).AS ?_
 rintro m1 H1 r1 T6 (⟨iF,rfl,g1,g2,rfl⟩|⟨h0,rfl,rfl⟩)
 ·skip
  refine AG ?_
  apply hN;refine FJ ?_;refine AW.seq λN1 B2=>?_;refine FJ ?_;apply AW.block;refine A8 (α:=Nat×V×V) (λx=>sl 33 [(0,A5 os pw cj),(5,.h iF 0 os.length),(6,.h (m1+2) 0 os.length),(14,.i .i64 os.length),(15,.i .i64 x.1)]) (λx=>AT (AT BM iF (some (D3 os.length x.2.1))) (m1+2) (some (D3 os.length x.2.2))) (λx m=>(x.1<=os.length/\m1+4<=m)/\T (pc os pw cj) i x.2.1/\T (pc os pw cj) i x.2.2/\M (pc os pw cj) i a x.2.2=x.2.1/\∀t,t<x.1->x.2.1 t=0) (λx=>os.length-x.1) ((0,a,z0)) ?_ ?_ (by rw[CO];exact Le.refl _) ?_
  ·exact⟨⟨Nat.zero_le _,A9⟩,ha,hg.e0,hg.r1 ha,by intro t ht;omega⟩
  ·simp(disch:=omega) [AN,AO,sl,A5,ints,rows,A6,vi]
  skip
  rintro⟨k,r,o⟩ m ⟨⟨hk,hm⟩,hr,ho,Ut,hz⟩;dsimp only at hk hm hr ho Ut hz;simp only[A5,vi];refine AG ?_;refine FJ ?_;refine AW.seq λN2 B7=>?_;refine AW.cond rfl ?_ ?_<;>intro h1<;>try simp only[cn]at h1
  ·apply AW.skip;apply B7;refine AW.seq λN3 BC=>?_;apply AW.block;refine FJ ?_;apply AW.block;refine A8 (α:=V×V) (λx=>sl 33 [(0,A5 os pw cj),(5,.h iF 0 os.length),(6,.h (m1+2) 0 os.length),(7,.i .i64 k),(14,.i .i64 os.length),(15,.i .i64 k)]) (λx=>AT (AT BM iF (some (D3 os.length x.1))) (m1+2) (some (D3 os.length x.2))) (λx m=>(m1+4<=m)/\T (pc os pw cj) i x.1/\T (pc os pw cj) i x.2/\M (pc os pw cj) i a x.2=x.1/\∀t,t<k->x.1 t=0) (λx=>if x.1 k=0 then 0 else ((pc os pw cj).o k-x.1 k).toNat) ((r,o)) ?_ ?_ (λ_ _ h=>h) ?_
   ·exact⟨A9,hr,ho,Ut,hz⟩
   ·simp(disch:=omega) [AN,AO,sl,A5,ints,rows,A6,vi]
   skip
   rintro⟨r,o⟩ m ⟨hm,hr,ho,Ut,hz⟩;dsimp only at hm hr ho Ut hz;simp only[A5,vi];refine AG ?_;refine AW.seq λN4 CF=>?_;refine FJ ?_;refine AW.cond rfl ?_ ?_<;>intro h2<;>try simp only[cn]at h2
   ·have T4:i<=k:=by
     apply Classical.byContradiction;intro hn;exact h2 (hr.z k A0)
    have hrk:=hr.r k T4 A0;have tu:=nM hv (Nat.le_refl k) (show k<(pc os pw cj).n by omega);have e1:app (pc os pw cj) k r (un k)=M (pc os pw cj) i r (un k):=by rw[<-rC hv T4 (hr.mono hv A0) tu,UN hv hr (tu.mono hv T4)]
    have e2:app (pc os pw cj) k o (un k)=M (pc os pw cj) i o (un k):=by rw[<-rC hv T4 (ho.mono hv A0) tu,UN hv ho (tu.mono hv T4)]
    have e3:app (pc os pw cj) k r (un k) k=(tg0 (pc os pw cj) k r).1:=by rw[Dq hv A0 (C0 hv (hc.mono A0)) (hr.mono hv A0),cH]
    apply AW.skip;apply CF;apply AW.block;refine sQ λN hN=>?_;refine WR ?_;refine(hTG k T4 A0 _ _ iF r (by simp(disch:=omega)only[A4,A1]) (hr.mono hv A0)).AS ?_
    rintro m2 H2 r2 LN rfl;refine WR ?_
    apply hN;refine cD ?_;refine(hTG k T4 A0 _ _ (m1+2) o (by simp(disch:=omega)only[A4,A1]) (ho.mono hv A0)).AS ?_;rintro m3 H3 r3 W1 rfl;refine WR ?_
    refine⟨(app (pc os pw cj) k r (un k),app (pc os pw cj) k o (un k)),?_,by intro d cs hd;simp only[AT,BM]at hd ⊢;grind,?_,?_⟩
    ·simp(disch:=omega) [AN,AO,sl,A5,AR,ints,rows,A6,vi]<;>omega
    ·first|refine⟨A9,?_,?_,?_,?_⟩|refine⟨?_,?_,?_,?_⟩
     ·rw[e1];exact hg.cl hr (tu.mono hv T4)
     ·rw[e2];exact hg.cl ho (tu.mono hv T4)
     ·rw[e1,e2,<-Ut,hg.ac ha ho (tu.mono hv T4)]
     intro t ht;show(if t<k then r t else _)=0;rw[if_pos ht];exact hz t ht
    (simp only[e3,if_neg h2];unfold tg0;split<;>split<;>simp_all<;>omega)
   apply AW.exit;apply BC;refine cD ?_;refine⟨(k+1,r,o),?_,λ_ _ h=>h,?_,?_⟩
   ·simp(disch:=omega) [AN,AO,sl,A5,AR,ints,rows,A6,vi]<;>omega
   ·refine⟨⟨A9,A9⟩,hr,ho,Ut,λt ht=>?_⟩;by_cases e:t=k
    ·subst e;exact h2
    exact hz t A9
   first|omega|(simp only;omega)
  apply AW.exit;apply B2;refine FJ ?_;refine AH ?_;have hrz:r=z0:=by
   funext t
   by_cases e:t<os.length
   ·exact hz t A0
   exact hr.t t A0
  rw[hrz]at Ut;rw[<-inv_eq hg ha ho Ut];exact Own.vi (A4 _ _ _) A0 A0
 skip
 refine AG ?_
 apply hN;refine FJ ?_;refine AW.seq λN5 DL=>?_;refine FJ ?_;apply AW.block;refine A8 (α:=Nat) (λx=>sl 33 [(0,A5 os pw cj),(5,.v 0 []),(6,.h (m1+2) 0 os.length),(14,.i .i64 0),(15,.i .i64 0)]) (λ_=>AT BM (m1+2) (some (D3 os.length z0))) (λx m=>m1+4<=m) (λx=>0) (0) ?_ ?_ (by rw[CO];exact Le.refl _) ?_
 ·first|omega|(dsimp only;omega)
 ·simp(disch:=omega) [AN,AO,sl,A5,ints,rows,A6,vi]
 skip
 rintro k m hk
 simp only[A5,vi];refine AG ?_;refine FJ ?_;refine AW.seq λN6 FR=>?_;refine AW.cond rfl ?_ ?_<;>intro h3<;>try simp only[cn]at h3
 ·exfalso;omega
 apply AW.exit;apply DL;refine FJ ?_;refine AH ?_;exact Own.vi (by rw[A4,E1 (f:=z0) (g:=inv (pc os pw cj) i a) (λt ht=>A0)]) A0 A0
theorem HX(os:List Int)(pw:List (List Int))(cj:List (List (List Int)))(h:AF os pw cj)(i:Nat)(hc:CG (pc os pw cj) i)(a b:V)(ha:T (pc os pw cj) i a)(hb:T (pc os pw cj) i b):gE Tryz.prog 133 [A5 os pw cj,vi os.length a,vi os.length b] (vi os.length (M (pc os pw cj) i (inv (pc os pw cj) i b) (M (pc os pw cj) i a b))):=by
 have hv:=h.val
 have hg:=C0 hv hc
 intro nx
 refine BS AA Tryz.func133 rfl A7 Tryz.ntmps133 Tryz.results133 (λcX=>?_)
 refine B8 ?_;refine sQ λN hN=>?_;refine AG ?_;refine KP ((KW os pw cj h i hc b hb).pure) ?_
 refine KP ((EL os pw cj h i hc a b ha hb).pure) ?_
 refine AC.own (EL os pw cj h i hc _ _ (EK hg hb).1 (hg.cl ha hb)) ZY.rfl ?_
 intro m1 H1 r1 A0V T6 hH1 M5
 refine AG ?_
 apply hN;refine AH ?_;exact⟨A0V,M5.AJ (λ_ _ _=>rfl) A0 A0⟩
end Go.Proofs.YtgknbnkmilddhaaGreat
