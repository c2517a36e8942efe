import Derived.Test.YtgknbnkmilddhaaGreatZ25
set_option linter.unusedVariables false
set_option linter.unusedSimpArgs false

namespace Go.Proofs.YtgknbnkmilddhaaGreat
theorem DQ{m t:Nat}(ht:t<64):((m:Int).fdiv (2^(min t 64))).tmod 2=Hb m t:=by
  rw[wM ht,Int.tmod_eq_emod_of_nonneg (Int.natCast_nonneg _),show(((m>>>t:Nat):Int)%2)=(((m>>>t)%2:Nat):Int) by omega,wN,Hb];split<;>rfl
theorem DR{m t:Nat}:IntKind.wrap .i64 (Hb m t)=Hb m t:=by unfold Hb;split<;>exact AR A0 A0
theorem NQ{t:Nat}(ht:t<=32):IntKind.wrap .i64 (1*2^(min t 64))=((2^t:Nat):Int):=by
  rw[Nat.min_eq_left A0,Int.one_mul];have h:(2^t:Nat)<=2^32:=Nat.pow_le_pow_right A0 A0;have:(2:Int)^t=((2^t:Nat):Int):=by push_cast;rfl
  have h0:(2^32:Nat)=4294967296:=BX;rw[this,AR (by have:=Int.natCast_nonneg (2^t);omega) A0]
theorem lE{m t:Nat}(ht:t<=32)(hm:m<4294967296)(h0:m.testBit t=false):m+2^t=m|||2^t:=by
  have h:(2^t:Nat)<=2^32:=Nat.pow_le_pow_right A0 A0;have h1:(2^32:Nat)=4294967296:=BX;have hz:m &&& 2^t=0:=Nat.eq_of_testBit_eq λi=>by
    rw[Nat.testBit_and,Nat.testBit_two_pow,Nat.zero_testBit];by_cases e:t=i
    · subst e;rw[h0];rfl
    simp[e]
  have key:=BitVec.add_eq_or_of_and_eq_zero (BitVec.ofNat 64 m) (BitVec.ofNat 64 (2^t)) (by
    apply BitVec.eq_of_toNat_eq;rw[BitVec.toNat_and,BitVec.toNat_ofNat,BitVec.toNat_ofNat,Nat.mod_eq_of_lt A0,Nat.mod_eq_of_lt A0,hz];rfl)
  have k2:=congrArg BitVec.toNat key;rw[BitVec.toNat_add,BitVec.toNat_or,BitVec.toNat_ofNat,BitVec.toNat_ofNat,Nat.mod_eq_of_lt (a:=m) A0,Nat.mod_eq_of_lt (a:=2^t) A0,Nat.mod_eq_of_lt A0]at k2;exact k2
def nI(gs:List Nat):List Int:=gs.map λg:Nat=>(g:Int)
theorem C6{gs:List Nat}:(nI gs).length=gs.length:=by simp[nI]
theorem dX{gs:List Nat}{k:Nat}(h:k<gs.length):((nI gs).map (AV.i .i64)).getD k .j= .i .i64 ((gs.getD k 0:Nat):Int):=by simp[nI,h]
theorem lF{gs:List Nat}{t:Nat}:(nI (gs++[t])).map (AV.i .i64)=(nI gs).map (AV.i .i64)++[.i .i64 (t:Nat)]:=by simp[nI]
section
variable(os:List Int)(pw:List (List Int))(cj:List (List (List Int)))
theorem I4(h:AF os pw cj)(a:V)(ha:T (pc os pw cj) 0 a):BI Tryz.prog 157 [AP os pw cj,vi os.length a] (.i .i64 (JQ os a os.length)):=by
 have FU:=h.1.1
 have hb:=λk hk=>kX h.2.1 ha k hk
 have nP:∀k,k<=os.length->CV os k<=CV os os.length:=λk hk=>by
  have:=ND h.2.1 (k:=k) (os.length-k) A0;rwa [show k+(os.length-k)=os.length by omega]at this
 have Gy:=h.2.2.1
 refine AD AA Tryz.func157 rfl A7 Tryz.ntmps157 Tryz.results157 (.i _ _) (λnx cX=>?_)
 refine cE ?_;refine AK 2 nx _ rfl (A4 _ _ _) ?_
 refine AG ?_;refine cE ?_;refine AW.seq λN1 B2=>?_;refine cE ?_;apply AW.block;refine A8 (α:=Nat) (λx=>sl 26 [(1,vi os.length a),(2,A5 os pw cj),(5,.i .i64 (JQ os a x)),(6,.i .i64 x)]) (λ_=>BM) (λx m=>x<=os.length) (λx=>os.length-x) (0) ?_ ?_ (by intro d cs hd;cases hd) ?_
 ·omega
 ·simp(disch:=omega) [AN,AO,sl,A5,ints,rows,A6,vi,JQ]
 skip
 rintro k m hk
 simp only[A5,vi];refine AG ?_;refine AW.seq λN2 B7=>?_;refine cE ?_;refine AW.cond rfl ?_ ?_<;>intro h1<;>try simp only[cn]at h1
 ·have FH:=hb k A0;have DN:=hb (k+1) A0;have U3:=nP k A0;have oQ:=nP (k+1) A0;have ho:=CE (h.2.1 k A0);have hr:=ha.r k (Nat.zero_le k) (show k<os.length by omega);have s7:(pc os pw cj).o k=os.getD k 0:=rfl;rw[s7]at hr;have hs:JQ os a (k+1)=JQ os a k*os.getD k 0+a k:=rfl;have uC:0<=JQ os a k*os.getD k 0:=Int.mul_nonneg FH.1 A0;rw[hs]at DN;apply AW.skip;apply B7;refine AW.seq λN3 BC=>?_;apply AW.block;refine L1 AA A7 [true,true,true,true,true,true,true,true,true,true,true,true,false] A7 ?_
  (try simp-dsimp-implicitDefEqProofs(maxSteps:=800000) (disch:=omega)only[go_sem,AL,ints,AP,A5,vi]);apply BC;apply rQ;simp-dsimp-implicitDefEqProofs(maxSteps:=800000) (disch:=omega)only[go_sem,AL,ints,AP,A5,vi];refine⟨k+1,?_,λ_ _ h=>h,?_,?_⟩
  ·simp(disch:=omega) [AN,AO,sl,AR,A5,ints,rows,A6,vi,hs]<;>omega
  ·omega
  first|omega|(simp only;omega)
 apply AW.exit;apply B2;refine cE ?_;refine AH ?_;rw[show k=os.length by omega]
set_option maxHeartbeats 1000000 in
theorem XL(h:AF os pw cj)(hc:CG (pc os pw cj) 0):BI Tryz.prog 86 [AP os pw cj] (rows (RP os pw cj (nG os))):=by
 have FU:=h.1.1
 have Rk:=JC h
 have gM:=EM os pw cj h
 rw[<-GR h]at gM
 refine B5 AA Tryz.func86 rfl A7 Tryz.ntmps86 Tryz.results86 ((UJ _)) (λnx cX=>?_)
 refine iI ?_;refine AK 1 nx _ rfl (A4 _ _ _) ?_
 refine AG ?_;refine iI ?_;refine AW.seq λN1 B2=>?_;refine iI ?_;apply AW.block;refine A8 (α:=Nat×HP×AV) (λx=>sl 39 [(1,A5 os pw cj),(3,x.2.2),(4,.i .i64 x.1)]) (λx=>x.2.1) (λx m=>(x.1<=nG os/\nx<=m)/\LC x.2.1 nx m x.2.2 ((RP os pw cj x.1).map ints)) (λx=>nG os-x.1) ((0,AT BM (nx+2) (some []),.h (nx+2) 0 0)) ?_ ?_ (by intro d cs hd;simp only[AT,BM]at hd ⊢;grind) ?_
 ·exact⟨⟨AB,A9⟩,LC.mk (A4 _ _ _) rfl A0 A9⟩
 ·simp(disch:=omega) [AN,AO,sl,A5,ints,rows,A6]
 skip
 rintro⟨k,G,L⟩ m ⟨⟨hk,hm⟩,hL⟩
 dsimp only at hk hm hL ⊢
 simp only[A5];refine AG ?_;have MA:=hL.one
 have IJ:=hL.len
 have l4:=hL.bd
 rw[List.length_map,BJ]at IJ
 obtain⟨mm,iZ⟩:∃mm,mm=m:=⟨m,rfl⟩
 subst iZ
 refine AW.seq λN2 B7=>?_;refine Ea (gM) ?_;refine AW.cond rfl ?_ ?_<;>intro h1<;>try simp only[cn]at h1
 ·apply AW.skip;apply B7;refine AW.seq λN3 BC=>?_;apply AW.block;refine iI ?_;refine AW.seq λN4 CF=>?_;refine iI ?_;apply AW.block;refine A8 (α:=Nat×HP×AV) (λx=>sl 39 [(1,A5 os pw cj),(3,L),(4,.i .i64 k),(5,x.2.2),(6,.i .i64 x.1)]) (λx=>x.2.1) (λx m=>(x.1<=nG os/\mm<=m)/\LC x.2.1 mm m x.2.2 ((qG os pw cj k x.1).map (.i .i64))/\∀i,i<mm->x.2.1 i=G i) (λx=>nG os-x.1) ((0,AT G (mm+4) (some []),.h (mm+4) 0 0)) ?_ ?_ (λ_ _ h=>h) ?_
  ·exact⟨⟨AB,A9⟩,LC.mk (A4 _ _ _) rfl A0 A9,λi hi=>A1 _ _ A0⟩
  ·simp(disch:=omega) [AN,AO,sl,A5,ints,rows,A6]
  skip
  rintro⟨j,G2,L2⟩ m2 ⟨⟨hj,LN⟩,j0,CD⟩;dsimp only at hj LN j0 CD ⊢;simp only[A5];refine AG ?_;have A21:=j0.one;have He:=j0.len;have ABM:=j0.bd;rw[List.length_map,EH]at He;refine AW.seq λN5 DL=>?_;refine Ea (gM) ?_;refine AW.cond rfl ?_ ?_<;>intro h2<;>try simp only[cn]at h2
  ·have Vl:=OJ h hc k j;have hmu:=KX os pw cj h _ _ (DP h k) (DP h j);have QR:=I4 os pw cj h _ ((lvl h.val hc).g 0|>.cl (DP h k) (DP h j));rw[<-Vl.2.2]at QR;apply AW.skip;apply DL;refine AW.seq λN6 FR=>?_;apply AW.block;refine AM AA A7 12 A7 ?_
   (try simp-dsimp-implicitDefEqProofs(maxSteps:=800000) (disch:=omega)only[go_sem,List.drop_nil,List.drop_succ_cons,List.drop_zero,List.take_nil,List.take_succ_cons,List.take_zero,BW,BE,BF,ints,AP,A5,vi,AR]);refine⟨_,.of (IZ os pw cj h k A0 A0),?_⟩;refine rK ?_
   refine⟨_,.of (IZ os pw cj h j A0 A0),?_⟩;refine rK ?_
   refine⟨_,.of (hmu),?_⟩;refine rK ?_
   refine⟨_,.of (QR),?_⟩;try simp-dsimp-implicitDefEqProofs(disch:=(first|omega|((repeat refine LC.AT A0 ?_);assumption))) only[go_sem,AP,A5,A21,He,BP (a:=mm) (b:=m2) (L:=L2) (cs:=(qG os pw cj k j).map (.i .i64)),List.length_map,EH]
   apply FR;refine AI (λG3 CB=>?_);dsimp only at CB;apply rQ;simp-dsimp-implicitDefEqProofs(maxSteps:=800000) (disch:=omega)only[go_sem,ints,AP,A5,vi];refine⟨(j+1,G3,.h (m2+4+12) 0 (j+1)),?_,λ_ _ h=>h,?_,?_⟩
   ·simp(disch:=omega) [AN,AO,sl,AR,A5,ints,rows,A6,vi]<;>omega
   ·have GA:LC G3 mm (m2+4+13) (.h (m2+4+12) 0 (j+1)) ((qG os pw cj k (j+1)).map (.i .i64)):=LC.mk (by rw[<-CB,oT];simp(disch:=omega)only[A1,A4]) (by rw[List.length_map,EH]) A0 A0;first|exact⟨⟨A9,A9⟩,GA.wide (Nat.le_refl _) A9,λi hi=>by rw[<-CB];simp(disch:=omega)only[A1,AY];exact CD i hi⟩|exact⟨A9,GA.wide (Nat.le_refl _) A9,λi hi=>by rw[<-CB];simp(disch:=omega)only[A1,AY];exact CD i hi⟩
   first|omega|(simp only;omega)
  obtain rfl:j=nG os:=A0;obtain⟨GC,rfl,DS,jG,WC⟩:=j0.pos (by rw[List.length_map,EH];omega);have fR:LC G2 nx mm L ((RP os pw cj k).map ints):=hL.AJ λi _ hi=>CD i hi
  rw[List.length_map,EH];apply AW.exit;apply CF;refine CZ 5 GC (nG os) _ rfl DS (by rw[List.length_map,EH]) ?_;refine AG ?_;have hL4:LC (AT G2 GC none) nx mm L ((RP os pw cj k).map ints):=fR.AT A0;obtain⟨G4,Rl⟩:∃G4,AT G2 GC none=G4:=⟨_,rfl⟩;rw[Rl]at hL4 ⊢;apply rQ;simp-dsimp-implicitDefEqProofs(disch:=(first|omega|((repeat refine LC.AT A0 ?_);assumption))) only[go_sem,AP,A5,vi,ints,MA,IJ,BP (a:=nx) (b:=mm) (L:=L) (cs:=(RP os pw cj k).map ints),List.length_map,BJ];apply BC;refine AI (λG5 EU=>?_);dsimp only at EU;apply rQ;simp-dsimp-implicitDefEqProofs(maxSteps:=800000) (disch:=omega)only[go_sem,ints,AP,A5,vi];refine⟨(k+1,G5,.h (m2+4+3) 0 (k+1)),?_,λ_ _ h=>h,?_,?_⟩
  ·simp(disch:=omega) [AN,AO,sl,AR,A5,ints,rows,A6]<;>omega
  ·have GA:LC G5 nx (m2+4+4) (.h (m2+4+3) 0 (k+1)) ((RP os pw cj (k+1)).map ints):=LC.mk (by rw[<-EU,oU];simp(disch:=omega)only[A1,A4];simp only[ints,EH]) (by rw[List.length_map,BJ]) A0 A0;first|exact⟨⟨A9,A9⟩,GA.wide (Nat.le_refl _) A9⟩|exact⟨A9,GA.wide (Nat.le_refl _) A9⟩
  first|omega|(simp only;omega)
 apply AW.exit;apply B2;refine iI ?_;refine AH ?_;obtain rfl:k=nG os:=A0
 have:=hL.Lv
 rw[List.length_map]at this
 exact this
end
structure Bc(os:List Int)(pw:List (List Int))(cj:List (List (List Int)))(gs:List Nat)(w:Nat)(Q:List Nat):Prop where
  nd:Q.Nodup
  mem:∀t,t∈Q↔w.testBit t=true
  lt:w<2^nG os
  z:w.testBit 0=true
  gl:∀t,w.testBit t=true->GL (pc os pw cj) (gs.map λg=>C5 os (g:Nat)) (C5 os t)
section
variable{os:List Int}{pw:List (List Int)}{cj:List (List (List Int))}{gs:List Nat}{w:Nat}{Q:List Nat}
theorem Bc.len(h:Bc os pw cj gs w Q):Q.length<=nG os:=by
  have:=sN Q (List.range (nG os)) h.nd λx hx=>List.mem_range.2 (XC h.lt ((h.mem x).1 hx))
  rwa [List.length_range]at this
theorem Bc.get(h:Bc os pw cj gs w Q){k:Nat}(hk:k<Q.length):w.testBit (Q.getD k 0)=true/\Q.getD k 0<nG os:=by
  have h1:w.testBit (Q.getD k 0)=true:=(h.mem _).1 (by rw[List.getD_eq_getElem?_getD,List.getElem?_eq_getElem hk];exact List.getElem_mem _);exact⟨h1,XC h.lt h1⟩
theorem Bc.start(hp:AF os pw cj):Bc os pw cj gs 1 [0]:=by
  have hN:=JC hp;refine⟨AB,λt=>?_,Nat.one_lt_two_pow A0,rfl,λt ht=>?_⟩
  · rw[show(1:Nat)=2^0 from rfl,Nat.testBit_two_pow];simp;exact eq_comm
  rw[show(1:Nat)=2^0 from rfl,Nat.testBit_two_pow]at ht;obtain rfl:0=t:=by simpa using ht
  rw[show((0:Nat):Int)=0 from rfl,I2];exact λA hA _=>hA.e
theorem Bc.new(h:Bc os pw cj gs w Q)(HL:nG os<=32){t:Nat}(ht:t<nG os)(h0:w.testBit t=false)(hg:GL (pc os pw cj) (gs.map λg=>C5 os (g:Nat)) (C5 os t)):Bc os pw cj gs (w+2^t) (Q++[t]):=by
  have h2:=I3 HL;have hl:=h.lt;rw[lE A0 A0 h0];refine⟨?_,λs=>?_,Nat.or_lt_two_pow hl (Nat.pow_lt_pow_right A0 ht),IT.2 (.inl h.z),λs hs=>?_⟩
  · rw[List.nodup_append];exact⟨h.nd,AB,λx hx y hy e=>by rw[List.mem_singleton.1 hy]at e;subst e;rw[(h.mem _).1 hx]at h0;cases h0⟩
  · rw[IT,List.mem_append,List.mem_singleton,h.mem]
  rcases IT.1 hs with q|rfl
  · exact h.gl s q
  exact hg
theorem RA{α:Type}{l:List α}{a d:α}{k:Nat}(h:k<l.length):(l++[a]).getD k d=l.getD k d:=by
  simp only[List.getD_eq_getElem?_getD];rw[List.getElem?_append_left h]
end
section
variable(os:List Int)(pw:List (List Int))(cj:List (List (List Int)))
theorem VD{cX n ops y s s1 K}(q:AW cX Tryz.prog y s1 K)(e:BV ops s s1:=by intro N hN;(try simp-dsimp-implicitDefEqProofs(maxSteps:=800000) (disch:=omega)only[go_sem,SK,CY,DQ,DR,NQ,ints,C6,rows,BJ,NM]);exact hN):BU cX n ops y s K:=BY q e
set_option maxHeartbeats 1000000 in
theorem Z6(h:AF os pw cj)(hc:CG (pc os pw cj) 0)(HL:nG os<=32)(gs:List Nat)(hgl:gs.length<=1099511627776)(hg:∀g∈gs,g<nG os):BI Tryz.prog 88 [rows (RP os pw cj (nG os)),ints (nI gs)] (.i .i64 (HK os (GL (pc os pw cj) (gs.map λg=>C5 os (g:Nat))))):=by
 have h2p:=I3 HL
 have ER:=Bc.start (pw:=pw) (cj:=cj) (gs:=gs) h
 have hgg:∀k,k<gs.length->gs.getD k 0∈gs:=λk hk=>by rw[List.getD_eq_getElem?_getD,List.getElem?_eq_getElem hk];exact List.getElem_mem _
 refine AD AA Tryz.func88 rfl A7 Tryz.ntmps88 Tryz.results88 (.i _ _) (λnx cX=>?_)
 refine VD ?_;refine VD ?_;refine VD ?_;refine AW.seq λN1 B2=>?_;refine VD ?_;apply AW.block;refine A8 (α:=Nat×Nat×List Nat×Nat) (λx=>sl 52 [(0,rows (RP os pw cj (nG os))),(1,ints (nI gs)),(5,.i .i64 x.2.1),(6,.h x.2.2.2 0 x.2.2.1.length),(7,.i .i64 x.1)]) (λx=>AT BM x.2.2.2 (some ((nI x.2.2.1).map (.i .i64)))) (λx m=>(x.1<=x.2.2.1.length/\nx<=m/\x.2.2.2<m/\nx<=x.2.2.2)/\Bc os pw cj gs x.2.1 x.2.2.1/\(∀k,k<x.1->∀g∈gs,x.2.1.testBit (OY os pw cj (x.2.2.1.getD k 0) g)=true)) (λx=>nG os-x.1) ((0,1,[0],nx+2)) ?_ ?_ (Le.refl _) ?_
 ·exact⟨⟨AB,A9,A9,A9⟩,ER,λk hk=>A9⟩
 ·simp(disch:=omega) [AN,AO,sl,rows,ints,BJ,C6]
 skip
 rintro⟨i,w,Q,id⟩ m ⟨⟨hi,hm,DS,kE⟩,hI,hC⟩
 refine AG ?_;dsimp only at hi hm DS kE hI hC ⊢
 have Vi:=hI.len
 have nT:=hI.lt
 refine AW.seq λN2 B7=>?_;refine VD ?_;refine AW.cond rfl ?_ ?_<;>intro h1<;>try simp only[cn]at h1
 ·have Ai:=hI.get (k:=i) A0;obtain⟨q,hq⟩:∃q,Q.getD i 0=q:=⟨_,rfl⟩;rw[hq]at Ai;apply AW.skip;apply B7;refine AW.seq λN3 BC=>?_;apply AW.block;refine VD ?_;apply AW.block;refine A8 (α:=Nat×Nat×List Nat×Nat) (λx=>sl 52 [(0,rows (RP os pw cj (nG os))),(1,ints (nI gs)),(5,.i .i64 x.2.1),(6,.h x.2.2.2 0 x.2.2.1.length),(7,.i .i64 i),(8,.i .i64 x.1)]) (λx=>AT BM x.2.2.2 (some ((nI x.2.2.1).map (.i .i64)))) (λx m=>(x.1<=gs.length/\nx<=m/\i<x.2.2.1.length/\x.2.2.2<m/\nx<=x.2.2.2)/\Bc os pw cj gs x.2.1 x.2.2.1/\((∀k,k<i->∀g∈gs,x.2.1.testBit (OY os pw cj (x.2.2.1.getD k 0) g)=true)/\x.2.2.1.getD i 0=q/\∀j,j<x.1->x.2.1.testBit (OY os pw cj q (gs.getD j 0))=true)) (λx=>gs.length-x.1) ((0,w,Q,id)) ?_ ?_ (λ_ _ h=>h) ?_
  ·exact⟨⟨AB,A9,A9,A9,A9⟩,hI,⟨hC,hq,λj hj=>A9⟩⟩
  ·simp(disch:=omega) [AN,AO,sl,rows,ints,BJ,C6]
  skip
  rintro⟨j,w2,Q2,Lo⟩ m2 ⟨⟨hj,LN,WC,ABR,ABS⟩,Ao,⟨hC2,JT,hD2⟩⟩;refine AG ?_;dsimp only at hj LN WC ABR ABS Ao hC2 JT hD2 ⊢;have AE0:=Ao.len;have AE1:=Ao.lt;refine AW.seq λN4 CF=>?_;refine VD ?_;refine AW.cond rfl ?_ ?_<;>intro h2<;>try simp only[cn]at h2
  ·have hvq:=dX (gs:=Q2) WC;rw[JT]at hvq;have hvg:=dX (gs:=gs) (k:=j) A0;have hgj:=hgg j A0;have hgn:=hg _ hgj;obtain⟨g,Pq⟩:∃g,gs.getD j 0=g:=⟨_,rfl⟩;rw[Pq]at hvg hgj hgn;have Vl:=(OJ h hc q g).1;have KG:=Hf os pw cj (show q<nG os by omega);have hbt:=Hg os pw cj (s:=q) hgn;have hQx:((nI Q2).map (AV.i .i64)).length=Q2.length:=by simp[nI]
   apply AW.skip;apply CF;refine AW.seq λN5 DL=>?_;apply AW.block;refine AW.seq λN hN=>?_;refine AM AA A7 14 A7 ?_
   (try simp-dsimp-implicitDefEqProofs(maxSteps:=800000) (disch:=omega)only[go_sem,List.drop_nil,List.drop_succ_cons,List.drop_zero,List.take_nil,List.take_succ_cons,List.take_zero,SK,CY,BW,BE,BF,DQ,DR,NQ,ints,C6,rows,BJ,EH,AR,NM,hvq,hvg,KG,hbt]);apply hN;refine VD ?_;refine AW.cond rfl ?_ ?_<;>intro h3<;>try simp only[cn]at h3
   ·have h0:w2.testBit (OY os pw cj q g)=false:=by simpa using h3
    have htp:2^OY os pw cj q g<2^nG os:=Nat.pow_lt_pow_right A0 Vl;have A2D:=hI.gl q Ai.1;have UA:=Ao.new HL Vl h0 (Gl h hc A2D hgj);have AE2:=UA.lt;have ABT:List.take Q2.length ((nI Q2).map (AV.i .i64))=(nI Q2).map (AV.i .i64):=List.take_of_length_le A0;have hwr:IntKind.wrap .i64 ((w2:Int)+((2^OY os pw cj q g:Nat):Int))=((w2+2^OY os pw cj q g:Nat):Int):=by rw[AR (by have:=Int.natCast_nonneg (2^OY os pw cj q g);omega) A0];omega
    refine sQ λN hN=>?_;simp-dsimp-implicitDefEqProofs(maxSteps:=800000) (disch:=omega)only[go_sem,SK,CY,DQ,DR,NQ,ints,C6,rows,BJ,NM,hwr];apply hN;apply rQ;simp-dsimp-implicitDefEqProofs(maxSteps:=800000) (disch:=omega)only[go_sem,SK,CY,DQ,DR,NQ,ints,C6,rows,BJ,NM,ABT];apply DL;apply rQ;simp-dsimp-implicitDefEqProofs(maxSteps:=800000) (disch:=omega)only[go_sem,SK,CY,DQ,DR,NQ,ints,C6,rows,BJ,NM];refine⟨(j+1,w2+2^OY os pw cj q g,Q2++[OY os pw cj q g],m2+4+14+6+6+3),?_,by intro d cs hd;simp only[AT,BM,lF]at hd ⊢;grind,?_,?_⟩
    ·simp(disch:=omega) [AN,AO,sl,AR,rows,ints,BJ,C6]
    ·have hup:∀t,w2.testBit t=true->(w2+2^OY os pw cj q g).testBit t=true:=λt ht=>by rw[lE A0 A0 h0];exact IT.2 (.inl ht)
     have hC3:∀k,k<i->∀g'∈gs,(w2+2^OY os pw cj q g).testBit (OY os pw cj ((Q2++[OY os pw cj q g]).getD k 0) g')=true:=λk hk g' hg'=>by rw[RA A0];exact hup _ (hC2 k hk g' hg')
     have hD3:∀a,a<j+1->(w2+2^OY os pw cj q g).testBit (OY os pw cj q (gs.getD a 0))=true:=λa ha=>by
      by_cases e:a=j
      ·subst e;rw[Pq,lE A0 A0 h0];exact IT.2 (.inr rfl)
      exact hup _ (hD2 a A0)
     have YS:(Q2++[OY os pw cj q g]).getD i 0=q:=by rw[RA WC];exact JT
     have RW:(Q2++[OY os pw cj q g]).length=Q2.length+1:=AB;try simp only[RW]
     (repeat' (with_reducible refine And.intro ?_ ?_))<;>first|exact UA|exact hC3|exact hD3|exact YS|first|omega|(dsimp only;omega)
    first|omega|(simp only;omega)
   apply AW.skip;apply DL;apply rQ;simp-dsimp-implicitDefEqProofs(maxSteps:=800000) (disch:=omega)only[go_sem,SK,CY,DQ,DR,NQ,ints,C6,rows,BJ,NM];refine⟨(j+1,w2,Q2,Lo),?_,λ_ _ h=>h,?_,?_⟩
   ·simp(disch:=omega) [AN,AO,sl,AR,rows,ints,BJ,C6]
   ·have hD3:∀a,a<j+1->w2.testBit (OY os pw cj q (gs.getD a 0))=true:=λa ha=>by
     by_cases e:a=j
     ·subst e;rw[Pq];simpa using h3
     exact hD2 a A0
    (repeat' (with_reducible refine And.intro ?_ ?_))<;>first|exact Ao|exact hC2|exact hD3|exact JT|first|omega|(dsimp only;omega)
   first|omega|(simp only;omega)
  apply AW.exit;apply BC;apply rQ;simp-dsimp-implicitDefEqProofs(maxSteps:=800000) (disch:=omega)only[go_sem,SK,CY,DQ,DR,NQ,ints,C6,rows,BJ,NM];refine⟨(i+1,w2,Q2,Lo),?_,λ_ _ h=>h,?_,?_⟩
  ·simp(disch:=omega) [AN,AO,sl,AR,rows,ints,BJ,C6]<;>omega
  ·have hC3:∀k,k<i+1->∀g∈gs,w2.testBit (OY os pw cj (Q2.getD k 0) g)=true:=λk hk g gP=>by
    by_cases e:k=i
    ·subst e;rw[JT];obtain⟨a,ha,rfl⟩:=List.mem_iff_getElem.1 gP;have:=hD2 a A0;rwa [List.getD_eq_getElem?_getD,List.getElem?_eq_getElem ha]at this
    exact hC2 k A0 g gP
   (repeat' (with_reducible refine And.intro ?_ ?_))<;>first|exact Ao|exact hC3|first|omega|(dsimp only;omega)
  first|omega|(simp only;omega)
 apply AW.exit;apply B2;refine VD ?_;refine AH ?_;rw[<-Ra h hc hg hI.lt hI.z (λa ha g gP=>by
  obtain⟨k,hk,rfl⟩:=List.mem_iff_getElem.1 ((hI.mem a).2 ha);have:=hC k A0 g gP;rwa [List.getD_eq_getElem?_getD,List.getElem?_eq_getElem hk]at this) hI.gl]
end
theorem JE{cX n ops y s s1 K}(q:AW cX Tryz.prog y s1 K)(e:BV ops s s1:=by intro N hN;(try simp-dsimp-implicitDefEqProofs(maxSteps:=800000) (disch:=omega)only[go_sem,CY,DQ,DR,ints,AP,A5,NM]);exact hN):BU cX n ops y s K:=BY q e
theorem JY{cX n ops s}{K:Exit->St->Prop}{Q:Prop}(q:Q)(e:Q->DW env Tryz.prog ops s.nx ops 0 ⟨s.t,s.H,s.nx+ops.length⟩ (K .normal):=by intro q;(try simp-dsimp-implicitDefEqProofs(maxSteps:=800000) (disch:=omega)only[go_sem,CY,DQ,DR,ints,AP,A5,NM]);exact q):AW cX Tryz.prog (.region n ops.toArray false) s K:=rQ (e q)
theorem NS{cX n ops y s s1 K}(q:AW cX Tryz.prog y s1 K)(e:BV ops s s1:=by intro N hN;(try simp-dsimp-implicitDefEqProofs(maxSteps:=800000) (disch:=omega)only[go_sem,CY,DQ,DR,AP,A5,NM]);exact hN):BU cX n ops y s K:=BY q e
theorem QK{P Q:Prop}(q:Q)(e:Q->P:=by intro q;(try simp-dsimp-implicitDefEqProofs(maxSteps:=800000) (disch:=omega)only[go_sem,CY,DQ,DR,ints,AP,A5,NM]);exact q):P:=e q
theorem YI{cX n ops s}{K:Exit->St->Prop}{Q:Prop}(q:Q)(e:Q->DW env Tryz.prog ops s.nx ops 0 ⟨s.t,s.H,s.nx+ops.length⟩ (K .normal):=by intro q;(try simp-dsimp-implicitDefEqProofs(maxSteps:=800000) (disch:=omega)only[go_sem,CY,DQ,DR,AP,A5,NM]);exact q):AW cX Tryz.prog (.region n ops.toArray false) s K:=rQ (e q)
theorem Ii{cX n ops y s s1 K f Zz r}(x:BI Tryz.prog f Zz r)(q:AW cX Tryz.prog y s1 K)(e:BI Tryz.prog f Zz r->BV ops s s1:=by intro x N hN;(try simp-dsimp-implicitDefEqProofs(maxSteps:=800000) (disch:=omega)only[go_sem,CY,DQ,DR,AP,A5,NM]);refine AC.pure (.of x) ?_;(try simp-dsimp-implicitDefEqProofs(maxSteps:=800000) (disch:=omega)only[go_sem,CY,DQ,DR,AP,A5,NM]);exact hN):BU cX n ops y s K:=BY q (e x)
theorem p8{cX n ops y s s1 K}(q:AW cX Tryz.prog y s1 K)(e:BV ops s s1:=by intro N hN;(try simp-dsimp-implicitDefEqProofs(maxSteps:=800000) (disch:=omega)only[go_sem,AL,ints,DC,AP,A5,AZ]);exact hN):BU cX n ops y s K:=BY q e
theorem p9{cX n ops y s s1 K}(q:AW cX Tryz.prog y s1 K)(e:BV ops s s1:=by intro N hN;(try simp-dsimp-implicitDefEqProofs(maxSteps:=800000) (disch:=omega)only[go_sem,NQ,ints,AP,A5,AZ,NM]);exact hN):BU cX n ops y s K:=BY q e
theorem Ij{cX n ops y s s1 K f Zz r}(x:BI Tryz.prog f Zz r)(q:AW cX Tryz.prog y s1 K)(e:BI Tryz.prog f Zz r->BV ops s s1:=by intro x N hN;(try simp-dsimp-implicitDefEqProofs(maxSteps:=800000) (disch:=omega)only[go_sem,CY,DQ,DR,ints,AP,A5,NM]);refine AC.pure (.of x) ?_;(try simp-dsimp-implicitDefEqProofs(maxSteps:=800000) (disch:=omega)only[go_sem,CY,DQ,DR,ints,AP,A5,NM]);exact hN):BU cX n ops y s K:=BY q (e x)
end Go.Proofs.YtgknbnkmilddhaaGreat

namespace Go.Proofs.YtgknbnkmilddhaaGreat
noncomputable def aW(P:Pc)(us:List V)(e:V):Nat->V
  |0=>z0
  |k+1=>M P 0 (aW P us e k) (RK P (us.getD k z0) (e k))
theorem Ik{P:Pc}{us:List V}{e e':V}:∀k,(∀i,i<k->e i=e' i)->aW P us e k=aW P us e' k:=by
  intro k;induction k with
  |zero=>intro _;rfl
  |succ k ih=>intro h;rw[aW,aW,ih λi hi=>h i A0,h k A0]
def GS(os:List Int)(us:List V):List Int:=us.map λu=>os.getD (E4 os.length u) 0
theorem DC{os:List Int}{us:List V}:(GS os us).length=us.length:=by simp[GS]
theorem VE{os:List Int}{us:List V}{k:Nat}(h:k<us.length):(GS os us).getD k 0=os.getD (E4 os.length (us.getD k z0)) 0:=by simp[GS,h]
theorem pA{os:List Int}{us:List V}:∀k,k<=us.length->CV (GS os us) k=NJ os us k:=by
  intro k;induction k with
  |zero=>intro _;rfl
  |succ k ih=>intro h;rw[CV,NJ,ih A0,VE A0]
theorem wX{os:List Int}{us:List V}(hp:∀i,i<os.length->JG (os.getD i 0))(hu:∀u∈us,E4 os.length u<os.length):∀i,i<(GS os us).length->JG ((GS os us).getD i 0):=by
  intro i hi;rw[DC]at hi;rw[VE hi];refine hp _ (hu _ ?_);rw[List.getD_eq_getElem?_getD,List.getElem?_eq_getElem hi];exact List.getElem_mem _
theorem A2E{os:List Int}(hp:∀i,i<os.length->JG (os.getD i 0)){x:V}(hx:T (pc os [] []) 0 x):∃t:Nat,(t:Int)<CV os os.length/\C5 os t=x:=by
  have hb:=kX hp hx os.length (Nat.le_refl _);obtain⟨t,ht⟩:∃t,(JQ os x os.length).toNat=t:=⟨_,rfl⟩;have C4:(t:Int)<CV os os.length:=A0;refine⟨t,C4,?_⟩;have aT:T (pc os [] []) 0 (C5 os t):=by
    refine⟨λk hk=>A0,λk _ hk=>cL A0 hp hk,λk hk=>?_⟩;have DN:¬k<os.length:=Nat.not_lt.2 hk;rw[C5,if_neg DN]
  refine sF hp aT hx ?_;have nlt:∀d,d<=os.length->RI os t d<CV os (os.length-d):=by
    intro d;induction d with
    |zero=>intro _;rw[RI,Nat.sub_zero];exact C4
    | succ d ih=>
      intro hd;have i1:=ih A0;have i2:=IS (num:=(t:Int)) A0 hp d A0;have ho:=CE (hp (os.length-1-d) A0);rw[show os.length-d=os.length-(d+1)+1 by omega,CV,show os.length-(d+1)=os.length-1-d by omega]at i1;rw[RI,Int.tdiv_eq_ediv_of_nonneg i2.1,show os.length-(d+1)=os.length-1-d by omega];exact Int.ediv_lt_of_lt_mul A0 i1
  have go:∀k,k<=os.length->JQ os (C5 os t) k=RI os t (os.length-k):=by
    intro k;induction k with
    | zero=>
      intro _;have h1:=nlt os.length (Nat.le_refl _);have h2:=(IS (num:=(t:Int)) A0 hp os.length (Nat.le_refl _)).1;rw[Nat.sub_self,CV]at h1;rw[JQ,Nat.sub_zero];omega
    | succ k ih=>
      intro hk;have h2:=(IS (num:=(t:Int)) A0 hp (os.length-1-k) A0).1;rw[JQ,ih A0,C5,if_pos A0,show os.length-(k+1)=os.length-1-k by omega,show os.length-k=os.length-1-k+1 by omega,RI,show os.length-1-(os.length-1-k)=k by omega];have:=Int.tmod_add_mul_tdiv (RI os t (os.length-1-k)) (os.getD k 0);rw[Int.mul_comm]at this;omega
  rw[go os.length (Nat.le_refl _),Nat.sub_self,RI];omega
section
variable{os:List Int}{pw:List (List Int)}{cj:List (List (List Int))}(hp:AF os pw cj)(hc:CG (pc os pw cj) 0)
include hp hc
theorem wY{us:List V}{e:V}(hu:∀u∈us,T (pc os pw cj) 0 u):∀k,k<=us.length->T (pc os pw cj) 0 (aW (pc os pw cj) us e k):=by
  have g:=(lvl hp.val hc).g 0;intro k;induction k with
  |zero=>intro _;exact T.zero hp.val 0
  | succ k ih=>
    intro hk;refine g.cl (ih A0) (nX hp.val hc (hu _ ?_) _);rw[List.getD_eq_getElem?_getD,List.getElem?_eq_getElem A0];exact List.getElem_mem _
omit hp hc in
theorem A7J{S:V->Prop}(hS:E5 (T (pc os pw cj) 0) (M (pc os pw cj) 0) S){us:List V}{e:V}(hu:∀u∈us,S u)(he:∀k,k<us.length->0<=e k):∀k,k<=us.length->S (aW (pc os pw cj) us e k):=by
  intro k;induction k with
  |zero=>intro _;exact hS.e
  | succ k ih=>
    intro hk;have hm:us.getD k z0∈us:=by rw[List.getD_eq_getElem?_getD,List.getElem?_eq_getElem A0];exact List.getElem_mem _
    rw[aW,<-kV (he k A0)];have hr:∀j,S (rep (M (pc os pw cj) 0) (us.getD k z0) j):=by
      intro j;induction j with
      |zero=>exact hS.e
      |succ j ihj=>exact hS.mu ihj (hu _ hm)
    exact hS.mu (ih A0) (hr _)
theorem A2F{S:V->Prop}(hS:E5 (T (pc os pw cj) 0) (M (pc os pw cj) 0) S){us:List V}(h:SI (pc os pw cj) S us){x:V}(hx:S x):∃e:V,T (pc (GS os us) [] []) 0 e/\aW (pc os pw cj) us e us.length=x:=by
  have L:=lvl hp.val hc;have g:=L.g 0;have hn:(pc os pw cj).n=os.length:=rfl;obtain⟨dn,h1,rfl⟩:=h;rw[hn];have go :∀d,d<=os.length->∃(e:V) (x':V),(∀i,i<(BZ dn d).length->0<=e i/\e i<(GS os (BZ dn os.length)).getD i 0)/\(∀i,(BZ dn d).length<=i->e i=0)/\S x'/\T (pc os pw cj) d x'/\x=M (pc os pw cj) 0 (aW (pc os pw cj) (BZ dn os.length) e (BZ dn d).length) x':=by
    intro d;induction d with
    |zero=>exact λ_=>⟨z0,x,λi hi=>by simp[BZ]at hi,λ_ _=>rfl,hx,hS.n hx,(g.l1 (hS.n hx)).symm⟩
    | succ d ih=>
      intro hd;obtain⟨e,x',a1,a2,a3,a4,a5⟩:=ih A0;have NY:d<(pc os pw cj).n:=by rw[hn];omega
      cases hz:dn d with
      | none=>
        rw[DI hz];refine⟨e,x',a1,a2,a3,?_,a5⟩;by_cases h0:x' d=0
        · exact L.up a4 h0
        exact absurd ⟨x',a3,a4,h0⟩ (h1.no d NY hz)
      | some y=>
        obtain⟨_,y1,y2,y3,_⟩:=h1.el d y hz;have yT:=L.le (Nat.zero_le d) y2;obtain⟨r,hr⟩:=oL (dn:=dn) (k:=d+1) (os.length-(d+1));rw[show d+1+(os.length-(d+1))=os.length by omega,DH hz]at hr;obtain⟨k,hk⟩:∃k,(BZ dn d).length=k:=⟨_,rfl⟩;have hy:(BZ dn os.length).getD k z0=y:=by
          rw[hr,<-hk,List.getD_eq_getElem?_getD,List.getElem?_append_left AB,List.getElem?_append_right (Nat.le_refl _),Nat.sub_self];rfl
        have MU:k<(BZ dn os.length).length:=by rw[hr];simp;omega
        rw[hk]at a1 a2 a5;have hr4:=a4.r d (Nat.le_refl _) NY;have s7:(GS os (BZ dn os.length)).getD k 0=(pc os pw cj).o d:=by rw[VE MU,hy,TO (P:=pc os pw cj) A0 y2 y3];rfl
        have YN:(BZ dn (d+1)).length=k+1:=by rw[DH hz,List.length_append,hk];rfl
        have hcm:rep (M (pc os pw cj) 0) y (x' d).toNat d=x' d:=by
          rw[L.F4 NY y2 y3,Int.toNat_of_nonneg hr4.1];exact Int.emod_eq_of_lt hr4.1 hr4.2
        obtain⟨b,b1,b2,b3⟩:=(L.g d).iv ((L.g d).rep y2 (x' d).toNat);have bT:=L.le (Nat.zero_le d) b1;have xT:=L.le (Nat.zero_le d) a4;have rT:=g.rep yT (x' d).toNat;have rS:∀k,S (rep (M (pc os pw cj) 0) y k):=by
          intro k;induction k with
          |zero=>exact hS.e
          |succ k vB=>exact hS.mu vB y1
        have bS:S b:=hS.iv (rS _) bT b3;have e1:M (pc os pw cj) 0 (rep (M (pc os pw cj) 0) y (x' d).toNat) (M (pc os pw cj) 0 b x')=x':=by rw[<-g.ac rT bT xT,b3,g.l1 xT]
        have sT:T (pc os pw cj) d (M (pc os pw cj) 0 b x'):=(L.g d).cl b1 a4;have e2:=L.lead NY ((L.g d).rep y2 (x' d).toNat) sT;rw[e1,hcm]at e2;have r1:=sT.r d (Nat.le_refl _) NY;have hT1:T (pc os pw cj) (d+1) (M (pc os pw cj) 0 b x'):=by
          refine L.up sT ?_;by_cases C4:x' d+M (pc os pw cj) 0 b x' d<(pc os pw cj).o d
          · rw[Int.emod_eq_of_lt A0 C4]at e2;omega
          rw[<-Int.sub_emod_right,Int.emod_eq_of_lt A0 A0]at e2;omega
        have hpc:aW (pc os pw cj) (BZ dn os.length) (AX e k (x' d)) k=aW (pc os pw cj) (BZ dn os.length) e k:=Ik k λi hi=>by unfold AX;rw[if_neg A0]
        have pT:T (pc os pw cj) 0 (aW (pc os pw cj) (BZ dn os.length) e k):=wY hp hc (λu hu=>by
          obtain⟨d',DZ,hz'⟩:=KJ.1 hu;exact L.le (Nat.zero_le d') (h1.el d' u hz').2.2.1) k A0
        refine⟨AX e k (x' d),M (pc os pw cj) 0 b x',λi hi=>?_,λi hi=>?_,hS.mu bS a3,hT1,?_⟩
        · rw[YN]at hi;unfold AX;split
          · rename_i ee;subst ee;rw[s7];exact hr4
          exact a1 i A0
        · rw[YN]at hi;unfold AX;rw[if_neg A0];exact a2 i A0
        rw[YN,aW,hpc,hy,show AX e k (x' d) k=x' d by simp[AX],<-kV hr4.1,g.ac pT rT (L.le (Nat.zero_le d) sT),e1,<-a5]
  obtain⟨e,x',a1,a2,a3,a4,a5⟩:=go os.length (Nat.le_refl _);have fO:x'=z0:=SH x' a4;have mE:(pc (GS os (BZ dn os.length)) [] []).n=(BZ dn os.length).length:=by show(GS os (BZ dn os.length)).length=_;rw[DC]
  refine⟨e,⟨λk hk=>A0,λk _ hk=>a1 k (by rw[mE]at hk;exact hk),λk hk=>a2 k (by rw[mE]at hk;exact hk)⟩,?_⟩;rw[a5,fO,g.r1];exact wY hp hc (λu hu=>by
    obtain⟨d',DZ,hz'⟩:=KJ.1 hu;exact L.le (Nat.zero_le d') (h1.el d' u hz').2.2.1) _ (Nat.le_refl _)
noncomputable def mK(os:List Int)(pw:List (List Int))(cj:List (List (List Int)))(us:List V)(k:Nat)(t:Nat):Bool:=tf (∃j:Nat,j<k/\JQ os (aW (pc os pw cj) us (C5 (GS os us) j) us.length) os.length=t)
omit hp hc in
theorem Il{us:List V}:mK os pw cj us 0=λ_=>false:=by funext t;exact C8 (by rintro⟨j,hj,_⟩;omega)
omit hp hc in
theorem Im{us:List V}{k q:Nat}(hq:(q:Int)=JQ os (aW (pc os pw cj) us (C5 (GS os us) k) us.length) os.length):rP (mK os pw cj us k) q true=mK os pw cj us (k+1):=by
  funext t
  unfold rP mK;split
  · rename_i e;subst e;exact(D2 ⟨k,A0,hq.symm⟩).symm
  rename_i e;have:(∃j:Nat,j<k/\JQ os (aW (pc os pw cj) us (C5 (GS os us) j) us.length) os.length=t)↔(∃j:Nat,j<k+1/\JQ os (aW (pc os pw cj) us (C5 (GS os us) j) us.length) os.length=t):=by
    constructor
    · rintro⟨j,h1,h2⟩;exact⟨j,A0,h2⟩
    rintro⟨j,h1,h2⟩;by_cases ee:j=k
    · subst ee;omega
    exact⟨j,A0,h2⟩
  rw[propext this]
theorem Ry{S:V->Prop}(hS:E5 (T (pc os pw cj) 0) (M (pc os pw cj) 0) S){us:List V}(h:SI (pc os pw cj) S us){t:Nat}(ht:t<nG os):mK os pw cj us (NJ os us us.length).toNat t=tf (S (C5 os t)):=by
  have hu:∀u∈us,E4 os.length u<os.length:=λu hu=>(h.at hu).1
  have IY:=wX (us:=us) hp.2.1 hu;have huT:∀u∈us,T (pc os pw cj) 0 u:=λu hx=>oM hS h hx
  have key:(∃j:Nat,j<(NJ os us us.length).toNat/\JQ os (aW (pc os pw cj) us (C5 (GS os us) j) us.length) os.length=t)↔S (C5 os t):=by
    constructor
    · rintro⟨j,h1,h2⟩;have hs:=A7J hS (e:=C5 (GS os us) j) (λu hu=>h.S hu) (λk hk=>(cL A0 IY (by rw[DC];exact hk)).1) us.length (Nat.le_refl _);rw[sF (pw:=pw) (cj:=cj) hp.2.1 (DP hp t) (hS.n hs) (by rw[XD hp ht,h2])];exact hs
    intro hs;obtain⟨e,e1,e2⟩:=A2F hp hc hS h hs;obtain⟨j,j1,j2⟩:=A2E IY e1;rw[DC,pA _ (Nat.le_refl _)]at j1;exact⟨j,A0,by rw[j2,e2,XD hp ht]⟩
  rw[mK,propext key]
omit hp hc in

noncomputable def RX(os:List Int)(f:Nat->Bool)(k:Nat):List V:=((List.range k).filter f).map λt:Nat=>C5 os (t:Int)
omit hp hc in
theorem dY{f:Nat->Bool}{k:Nat}(h:f k=true):RX os f (k+1)=RX os f k++[C5 os (k:Nat)]:=by simp[RX,List.range_succ,h]
omit hp hc in
theorem VF{f:Nat->Bool}{k:Nat}(h:f k=false):RX os f (k+1)=RX os f k:=by simp[RX,List.range_succ,h]
omit hp hc in
theorem Rz{f:Nat->Bool}{S:V->Prop}(h:∀t,t<nG os->f t=tf (S (C5 os (t:Nat)))):RX os f (nG os)=W4 os S:=by
  unfold RX W4;congr 1
  exact List.filter_congr λt ht=>h t (List.mem_range.1 ht)
end
def mL:List Nat->Nat
  |[]=>0
  |t::l=>2^t+mL l
theorem lG{l l':List Nat}:mL (l++l')=mL l+mL l':=by
  induction l with
  |nil=>simp[mL]
  |cons t l ih=>rw[List.cons_append,mL,mL,ih];omega
theorem Sa{S:Nat->Prop}:∀k,mL ((List.range k).filter λt=>tf (S t))=zL S k:=by
  intro k;induction k with
  |zero=>rfl
  | succ k ih=>
    rw[List.range_succ,List.filter_append,lG,ih,zL];cases hq:tf (S k)<;>simp[hq,mL]
theorem Io{l:List Nat}{k:Nat}:mL (l.take k)<=mL l:=by
  rw[<-List.take_append_drop k l,lG,List.take_append_drop];omega
noncomputable def sV(os:List Int)(S:V->Prop):List Nat:=(List.range (nG os)).filter λt:Nat=>tf (S (C5 os (t:Int)))
theorem sW{os:List Int}{S:V->Prop}:W4 os S=(sV os S).map λt:Nat=>C5 os (t:Int):=rfl
theorem wZ{os:List Int}{S:V->Prop}:mL (sV os S)=HK os S:=Sa _
theorem A2G{os:List Int}{S:V->Prop}{t:Nat}(h:t∈sV os S):t<nG os:=List.mem_range.1 (List.mem_filter.1 h).1
theorem xA{os:List Int}{S:V->Prop}:(sV os S).length<=nG os:=by
  have:=List.length_filter_le (λt:Nat=>tf (S (C5 os (t:Int)))) (List.range (nG os));rwa [List.length_range]at this
theorem Ip{l:List Nat}{k:Nat}(h:k<l.length):mL (l.take (k+1))=mL (l.take k)+2^l.getD k 0:=by
  rw[List.take_succ_eq_append_getElem h,lG,List.getD_eq_getElem?_getD,List.getElem?_eq_getElem h];rfl
end Go.Proofs.YtgknbnkmilddhaaGreat
