import Derived.Test.YtgknbnkmilddhaaGreatZ23
set_option linter.unusedVariables false
set_option linter.unusedSimpArgs false

namespace Go.Proofs.YtgknbnkmilddhaaGreat
def XH(ms:List Nat):AV:= .v ms.length (ms.map λm:Nat=>AV.i .u64 (m:Int))
noncomputable def XI(os:List Int)(pw:List (List Int))(cj:List (List (List Int))):AV:=
  .p 0 [A5 os pw cj,.v (BK os pw cj).length ((BK os pw cj).map (AZ os.length)),XH (DM os (pc os pw cj) (BK os pw cj))]
noncomputable def lB(os:List Int)(pw:List (List Int))(cj:List (List (List Int))):AV:=
  if tf (AF os pw cj/\CG (pc os pw cj) 0)=true then (if CV os os.length<=32 then .t [XI os pw cj,.i .i64 0]else .t [.c (.pointer none),.i .i64 3])else .t [.c (.pointer none),.i .i64 1]
theorem A27(ms:List Nat):NR (XH ms):= .v _ _ λk x hk=>by
  rw[List.getElem?_map]at hk;obtain⟨y,_,rfl⟩:=Option.map_eq_some_iff.1 hk;exact .i _ _
theorem aR{n:Nat}(L:List (List V)):NR (.v L.length (L.map (AZ n))):= .v _ _ λk x hk=>by
  rw[List.getElem?_map]at hk;obtain⟨y,_,rfl⟩:=Option.map_eq_some_iff.1 hk;exact cV _ _
theorem lC{a b:AV}(ha:NR a)(hb:NR b):NR (.t [a,b]):= .t _ λk x hx=>by
  match k,hx with
  |0,hx=>cases hx;exact ha
  |1,hx=>cases hx;exact hb
theorem Hu(os:List Int)(pw:List (List Int))(cj:List (List (List Int))):NR (A5 os pw cj):= .p _ _ λk x hx=>by
  match k,hx with
  |0,hx=>cases hx;exact GV _
  |1,hx=>cases hx;exact UJ _
  |2,hx=>cases hx;exact nL _
theorem Rs{os:List Int}{pw:List (List Int)}{cj:List (List (List Int))}:NR (XI os pw cj):= .p _ _ λk x hx=>by
  match k,hx with
  |0,hx=>cases hx;exact Hu _ _ _
  |1,hx=>cases hx;exact aR _
  |2,hx=>cases hx;exact A27 _
theorem Rt{os:List Int}{pw:List (List Int)}{cj:List (List (List Int))}:NR (lB os pw cj):=by
  unfold lB;split
  · split
    · exact lC Rs (.i _ _)
    exact lC (.c _) (.i _ _)
  exact lC (.c _) (.i _ _)
theorem Hv{os:List Int}{pw:List (List Int)}{cj:List (List (List Int))}(h:¬(AF os pw cj/\CG (pc os pw cj) 0)):lB os pw cj= .t [.c (.pointer none),.i .i64 1]:=by rw[lB,C8 h];rfl
theorem Hw{os:List Int}{pw:List (List Int)}{cj:List (List (List Int))}(h:AF os pw cj/\CG (pc os pw cj) 0)(h2:¬CV os os.length<=32):lB os pw cj= .t [.c (.pointer none),.i .i64 3]:=by rw[lB,D2 h,if_pos rfl,if_neg h2]
theorem dR{os:List Int}{pw:List (List Int)}{cj:List (List (List Int))}(h:AF os pw cj/\CG (pc os pw cj) 0)(h2:CV os os.length<=32):lB os pw cj= .t [XI os pw cj,.i .i64 0]:=by rw[lB,D2 h,if_pos rfl,if_pos h2]
theorem wS{Ms:List Nat}{i:Nat}(h:i<Ms.length):(Ms.map λm:Nat=>AV.i .u64 (m:Int)).getD i .j= .i .u64 (Ms.getD i 0:Nat):=by simp[h]
theorem Ru{Ms:List Nat}{m:Nat}:(Ms++[m]).map (λm:Nat=>AV.i .u64 (m:Int))=Ms.map (λm:Nat=>AV.i .u64 (m:Int))++[.i .u64 (m:Int)]:=AB
structure Az(os:List Int)(P:Pc)(w x:Nat)(t:Nat->Option V):Prop where
  G:OW P t
  c:W2 P.n P.o (T P) (M P 0) t
  sp:∀v,Hq P t v↔iR (T P 0) (M P 0) (λv=>∃s:Nat,s<x/\w.testBit s=true/\v=C5 os s) v
section
variable{os:List Int}{pw:List (List Int)}{cj:List (List (List Int))}(h:AF os pw cj)(hc:CG (pc os pw cj) 0)
include h hc
theorem Az.start{w:Nat}:Az os (pc os pw cj) w 0 (λ_=>none):=by
  have hv:=h.val;have:=(Inv.start (n:=(pc os pw cj).n) (o:=(pc os pw cj).o) (N:=T (pc os pw cj)) (m:=M (pc os pw cj) 0) (rd:=W3 (pc os pw cj)) (W:=λ_=>False) λv q=>q.elim).fin (lvl hv hc) SH (QA hv hc);refine⟨λd y q=>(by cases q),this.1,λv=>(this.2 v).trans ?_⟩;exact⟨λq A hA _=>q A hA λu z=>z.elim,λq A hA _=>q A hA λu ⟨s,s1,_⟩=>A0⟩
omit h hc in
theorem Az.skip{w x:Nat}{t:Nat->Option V}(hb:w.testBit x=false)(hI:Az os (pc os pw cj) w x t):Az os (pc os pw cj) w (x+1) t:=by
  refine⟨hI.G,hI.c,λv=>(hI.sp v).trans ⟨λq A hA hu=>q A hA λu ⟨s,s1,s2⟩=>hu u ⟨s,A0,s2⟩,λq A hA hu=>q A hA λu ⟨s,s1,s2,s3⟩=>hu u ⟨s,?_,s2,s3⟩⟩⟩;by_cases e:s=x
  · subst e;rw[hb]at s2;cases s2
  omega
theorem Az.add{w x:Nat}{t:Nat->Option V}(hb:w.testBit x=true)(hI:Az os (pc os pw cj) w x t):Az os (pc os pw cj) w (x+1) (iU (pc os pw cj) t [C5 os x]):=by
  obtain⟨a1,a2,a3,_⟩:=A26 h.val hc (λd hd=>h.2.1 d hd) hI.G hI.c (us:=[C5 os x]) λy hy=>by rw[List.mem_singleton.1 hy];exact DP h x
  refine⟨a1,a2,λv=>(a3 v).trans ⟨λq A hA hu=>q A hA λu JF=>?_,λq A hA hu=>q A hA λu ⟨s,s1,s2,s3⟩=>?_⟩⟩
  · rcases JF with z|z
    · exact(hI.sp u).1 z A hA λu ⟨s,s1,s2⟩=>hu u ⟨s,A0,s2⟩
    exact hu u ⟨x,A0,hb,List.mem_singleton.1 z⟩
  by_cases e:s=x
  · subst e;exact hu u (.inr (by simp[s3]))
  exact hu u (.inl ((hI.sp u).2 λB hB hv=>hv u ⟨s,A0,s2,s3⟩))
theorem Az.fin{w x:Nat}{t:Nat->Option V}(hI:Az os (pc os pw cj) w x t)(hx:nG os<=x)(hw:oX os pw cj w):V5 (pc os pw cj) t 0=LO os pw cj w:=by
  obtain⟨S,s1,s2,s3,_⟩:=QH h hc hw;have Co:=Rq h.val hc hI.c;have e:Hq (pc os pw cj) t=S:=by
    funext v
    refine propext ((hI.sp v).trans ⟨λq=>q S s1 λu ⟨s,_,a2,a3⟩=>?_,λq A hA hu=>?_⟩)
    · rw[<-s2]at a2;rw[a3];exact(DJ.1 a2).2
    obtain⟨s,b1,rfl,_⟩:=OX h (s1.n q);exact hu _ ⟨s,A0,by rw[<-s2];exact DJ.2 ⟨b1,q⟩,rfl⟩
  rw[e]at Co;exact Co.uniq h.val hc s1 s3
end
theorem j5{Ms:List Nat}{k:Nat}(hk:k<Ms.length):Ms.take (k+1)=Ms.take k++[Ms.getD k 0]:=by
  rw[List.take_succ_eq_append_getElem hk];simp[hk]
theorem NP{n:Nat}{L:List (List V)}{k:Nat}(h:k<L.length):(L.map (AZ n)).getD k .j=AZ n (L.getD k []):=by simp[h]
section
variable(os:List Int)(pw:List (List Int))(cj:List (List (List Int)))
set_option maxRecDepth 20000 in
set_option maxHeartbeats 4000000 in
theorem FF(hl:GB os pw cj):BI Tryz.prog 30 [A5 os pw cj] (lB os pw cj):=by
 refine B5 AA Tryz.func30 rfl A7 Tryz.ntmps30 Tryz.results30 (Rt) (λnx cX=>?_)
 refine EY ?_;refine AK 1 nx _ rfl (A4 _ _ _) ?_
 refine AG ?_;refine AW.seq λN1 B2=>?_;refine SD (FK os pw cj hl) ?_;refine AW.cond rfl ?_ ?_<;>intro h1<;>try simp only[cn]at h1
 ·refine EY ?_;refine AH ?_;rw[Hv h1]
  exact .refl _
 have h:=h1.1
 have hc:=h1.2
 have FU:=h.1.1
 have Rk:=JC h
 have gM:=JP os pw cj h
 rw[<-GR h]at gM
 have Rv:=K8 os pw cj h hc
 apply AW.skip;apply B2;refine AW.seq λN2 B7=>?_;refine SD (gM) ?_;refine AW.cond rfl ?_ ?_<;>intro h2<;>try simp only[cn]at h2
 ·refine EY ?_;refine AH ?_;rw[Hw h1 (by rw[<-GR h];omega)]
  exact .refl _
 have HL:nG os<=32:=A0
 have h2p:=I3 HL
 apply AW.skip;apply B7;refine SD (Rv) ?_;refine EY ?_;refine sQ λN hN=>?_;simp-dsimp-implicitDefEqProofs(maxSteps:=800000) (disch:=omega)only[go_sem,fZ,AP,A5];apply hN;refine AW.seq λN3 BC=>?_;refine EY ?_;apply AW.block;refine AI (λG0 C9=>?_);dsimp only at C9
 have s8:G0 (nx+14)=some (([1]:List Nat).map λm:Nat=>AV.i .u64 (m:Int)):=by rw[<-C9];simp(disch:=omega)only[A4,A1];rfl
 have PI:G0 (nx+16)=some (QI [1]):=by rw[<-C9];simp(disch:=omega)only[A4,A1];rfl
 refine A8 (α:=Nat×List Nat×Nat×HP) (λx=>sl 145 [(1,.p 0 [A5 os pw cj]),(2,.c (.pointer none)),(3,.i .i64 0),(4,rows (RP os pw cj (nG os))),(5,.h x.2.2.1 0 x.2.1.length),(6,.m (nx+16)),(7,.i .i64 x.1)]) (λx=>x.2.2.2) (λx m=>(x.1<=x.2.1.length/\nx+20<=m)/\aQ os pw cj x.2.1 x.1 0/\(nx+14<=x.2.2.1/\x.2.2.1<m/\x.2.2.1≠nx+16)/\x.2.2.2 x.2.2.1=some (x.2.1.map λm:Nat=>AV.i .u64 (m:Int))/\x.2.2.2 (nx+16)=some (QI x.2.1)) (λx=>2^nG os-x.1) ((0,[1],nx+14,G0)) ?_ ?_ (λ_ _ h=>h) ?_
 ·exact⟨⟨AB,A9⟩,aQ.start h hc,⟨A9,A9,A9⟩,s8,PI⟩
 ·simp(disch:=omega) [AN,AO,sl,A5,ints,rows,A6,YM,F6]
 skip
 rintro⟨i,Ms,idm,G⟩ m ⟨⟨hi,hm⟩,hB,⟨U7,XZ,Lx⟩,s8,PI⟩
 refine AG ?_;dsimp only at hi hm hB U7 XZ Lx s8 PI ⊢
 have hMl:=hB.len
 clear C9
 refine AW.seq λN4 CF=>?_;refine EY ?_;refine AW.cond rfl ?_ ?_<;>intro h3<;>try simp only[cn]at h3
 ·skip
  apply AW.skip;apply CF;refine AW.seq λN5 DL=>?_;apply AW.block;refine EY ?_;apply AW.block;refine A8 (α:=Nat×List Nat×Nat×HP) (λx=>sl 145 [(1,.p 0 [A5 os pw cj]),(2,.c (.pointer none)),(3,.i .i64 0),(4,rows (RP os pw cj (nG os))),(5,.h x.2.2.1 0 x.2.1.length),(6,.m (nx+16)),(7,.i .i64 i),(39,.i .i64 (nG os)),(40,.i .i64 x.1)]) (λx=>x.2.2.2) (λx m=>(x.1<=nG os/\i<x.2.1.length/\nx+20<=m)/\aQ os pw cj x.2.1 i x.1/\(nx+14<=x.2.2.1/\x.2.2.1<m/\x.2.2.1≠nx+16)/\x.2.2.2 x.2.2.1=some (x.2.1.map λm:Nat=>AV.i .u64 (m:Int))/\x.2.2.2 (nx+16)=some (QI x.2.1)) (λx=>nG os-x.1) ((0,Ms,idm,G)) ?_ ?_ (λ_ _ h=>h) ?_
  ·exact⟨⟨AB,A9,A9⟩,hB,⟨A9,A9,A9⟩,s8,PI⟩
  ·simp(disch:=omega) [AN,AO,sl,A5,ints,rows,A6,BJ]
  skip
  rintro⟨q,Ns,idn,G2⟩ m2 ⟨⟨hq,Hx,LN⟩,sO,⟨Lh,PQ,he3⟩,Ba,bO⟩;refine AG ?_;dsimp only at hq Hx LN sO Lh PQ he3 Ba bO ⊢;have hNl:=sO.len;refine EY ?_;refine AW.seq λN6 FR=>?_;refine AW.cond rfl ?_ ?_<;>intro h4<;>try simp only[cn]at h4
  ·have KG:=wS Hx;have T8:Ns.getD i 0∈Ns:=by simp[Hx]
   obtain⟨S,hS,Bb⟩:=sO.sub _ T8;have hSl:=HC (os:=os) (S:=S);rw[<-Bb]at KG;apply AW.skip;apply FR;refine AW.seq λN7 MV=>?_;apply AW.block;refine EY ?_;refine AW.seq λN8 OB=>?_;refine sQ λN hN=>?_;simp-dsimp-implicitDefEqProofs(maxSteps:=800000) (disch:=omega)only[go_sem,List.length_map,CY,AP,A5,oS,Ba,KG];apply hN;refine AW.cond rfl ?_ ?_<;>intro h5<;>try simp only[cn]at h5
   ·apply AW.exit;apply MV;refine AI (λG5 EU=>?_);dsimp only at EU;refine NF ?_;refine⟨(q+1,Ns,idn,G5),?_,λ_ _ h=>h,?_,?_⟩
    ·simp(disch:=omega) [AN,AO,sl,AR,A5,ints,rows,A6,BJ]<;>omega
    ·subst EU;exact⟨⟨A9,A9,A9⟩,sO.skip (by rw[<-Bb];simpa using h5),⟨A9,A9,A9⟩,Ba,bO⟩
    first|omega|(simp only;omega)
   obtain⟨w,hw⟩:∃w,HK os (Jn (pc os pw cj) S (C5 os q))=w:=⟨_,rfl⟩;have nT:=HC (os:=os) (S:=Jn (pc os pw cj) S (C5 os q));have hex:=TR os pw cj h hc HL hS q A0;rw[hw]at hex nT;apply AW.skip;apply OB;refine sQ λN hN=>?_;(try simp-dsimp-implicitDefEqProofs(maxSteps:=800000) (disch:=omega)only[go_sem,List.length_map,AP,A5,Ba,KG]);by_cases aH:w∈Ns
   ·skip
    have Ep:=oY Ns aH;refine AC.pure (.of hex) ?_;(try simp-dsimp-implicitDefEqProofs(maxSteps:=800000) (disch:=omega)only[go_sem,A5])
    apply hN;refine k6 bO Ep ?_;refine B4 rfl ?_;apply AW.skip;apply MV;refine AI (λG5 EU=>?_);dsimp only at EU
    refine NF ?_;refine⟨(q+1,Ns,idn,G5),?_,λ_ _ h=>h,?_,?_⟩
    ·simp(disch:=omega) [AN,AO,sl,AR,A5,ints,rows,A6,BJ]<;>omega
    ·subst EU;exact⟨⟨A9,A9,A9⟩,sO.old h hS Bb (by rw[hw];exact aH),⟨A9,A9,A9⟩,Ba,bO⟩
    first|omega|(simp only;omega)
   skip
   have Ep:=(YG Ns aH).1;have hms:=(YG Ns aH).2;refine AC.pure (.of hex) ?_;(try simp-dsimp-implicitDefEqProofs(maxSteps:=800000) (disch:=omega)only[go_sem,A5])
   apply hN;refine k6 bO Ep ?_;refine CI rfl ?_;refine k6 bO hms ?_;apply rQ;simp-dsimp-implicitDefEqProofs(maxSteps:=800000) (disch:=omega)only[go_sem,List.length_map,List.take_length,AP,A5,Ba];apply MV;refine AI (λG5 EU=>?_);dsimp only at EU
   refine NF ?_;refine⟨(q+1,Ns++[w],m2+1+2+8+8+4+3+3,G5),?_,λ_ _ h=>h,?_,?_⟩
   ·simp(disch:=omega) [AN,AO,sl,AR,A5,ints,rows,A6,BJ]<;>omega
   ·have hB3:=sO.new h hc Hx hS Bb (by rw[hw];exact aH);rw[hw]at hB3;have LP:G5 (m2+1+2+8+8+4+3+3)=some ((Ns++[w]).map λm:Nat=>AV.i .u64 (m:Int)):=by rw[<-EU,Ru];simp(disch:=omega)only[A4,A1];rw[List.take_of_length_le (by rw[List.length_map];exact Nat.le_refl _)]
    have FH:G5 (nx+16)=some (QI (Ns++[w])):=by rw[<-EU];simp(disch:=omega)only[A4,A1]
    exact⟨⟨A9,by rw[List.length_append];first|omega|(dsimp only;omega),A9⟩,hB3,⟨A9,A9,A9⟩,LP,FH⟩
   first|omega|(simp only;omega)
  apply AW.exit;apply DL;refine NF ?_;refine⟨(i+1,Ns,idn,G2),?_,λ_ _ h=>h,?_,?_⟩
  ·simp(disch:=omega) [AN,AO,sl,AR,A5,ints,rows,A6,BJ]<;>omega
  ·exact⟨⟨A9,A9⟩,sO.row A0,⟨A9,A9,A9⟩,Ba,bO⟩
  first|omega|(simp only;omega)
 obtain⟨hNd,XJ⟩:=hB.fin h hc A0
 have hMp:0<Ms.length:=List.length_pos_of_mem hB.one
 apply AW.exit;apply BC;refine EY ?_;refine EY ?_;refine AW.seq λN9 SC=>?_;refine CZ 5 idm Ms.length _ rfl (by simp(disch:=omega)only[A4,A1];exact s8) (by rw[List.length_map]) ?_
 refine AG ?_;refine EY ?_;apply AW.block;refine AI (λG0 C9=>?_);dsimp only at C9
 have LP:G0 (m+4+2)=some [A5 os pw cj,.nl,.nl]:=by rw[<-C9];simp(disch:=omega)only[A4,A1];rfl
 have FH:G0 (m+8)=some (dQ os pw cj (Ms.take 0)):=by rw[<-C9];simp(disch:=omega)only[A4,A1];rfl
 clear C9
 obtain⟨mm,iZ⟩:∃mm,mm=m:=⟨m,rfl⟩
 subst iZ
 refine A8 (α:=Nat×HP×AV) (λx=>sl 145 [(1,.p 0 [A5 os pw cj]),(2,.c (.pointer none)),(3,.i .i64 0),(4,rows (RP os pw cj (nG os))),(10,.q (mm+4+2) 0),(11,.m (mm+8)),(73,XH Ms),(74,.i .i64 Ms.length),(75,.i .i64 x.1)]) (λx=>x.2.1) (λx m=>(x.1<=Ms.length/\mm+13<=m)/\(x.2.1 (mm+4+2)=some [A5 os pw cj,x.2.2,.nl]/\x.2.1 (mm+8)=some (dQ os pw cj (Ms.take x.1)))/\LC x.2.1 (mm+9) m x.2.2 (((Ms.take x.1).map (LO os pw cj)).map (AZ os.length))) (λx=>Ms.length-x.1) ((0,G0,.nl)) ?_ ?_ (λ_ _ h=>h) ?_
 ·exact⟨⟨AB,A9⟩,⟨LP,FH⟩,.nil⟩
 ·simp(disch:=omega) [AN,AO,sl,A5,ints,rows,A6,BJ,XH]
 skip
 rintro⟨k,G3,L3⟩ m3 ⟨⟨hk,W1⟩,⟨OR,LZ⟩,fR⟩
 refine AG ?_;dsimp only at hk W1 OR LZ fR ⊢
 have MA:=fR.one
 have IJ:=fR.len
 have l4:=fR.bd
 rw[List.length_map,List.length_map,List.length_take,Nat.min_eq_left hk]at IJ
 refine EY ?_;refine AW.seq λAm IQ=>?_;refine AW.cond rfl ?_ ?_<;>intro h6<;>try simp only[cn]at h6
 ·have MU:k<Ms.length:=A0;have KG:=wS MU;have zT:=(XJ _).1 (show Ms.getD k 0∈Ms by simp[MU]);have W0:=j5 MU;have QR:Ms.getD k 0∉Ms.take k:=λq=>by
   obtain⟨j,hj,e⟩:=List.getElem_of_mem q;rw[List.length_take]at hj;rw[List.getElem_take]at e;have:=(List.pairwise_iff_getElem.1 hNd) j k A0 MU A0;rw[e]at this;exact this (by simp[MU])
  obtain⟨w,hw⟩:∃w,Ms.getD k 0=w:=⟨_,rfl⟩;rw[hw]at KG zT W0 QR;have nT:w<2^nG os:=by obtain⟨S,_,e⟩:=zT;rw[<-e];exact HC
  have hms:=Ht h hc zT (Ms.take k) (λa ha=>(XJ a).1 (List.mem_of_mem_take ha)) QR;rw[<-W0]at hms;apply AW.skip;apply IQ;refine AW.seq λDu JO=>?_;apply AW.block;refine sQ λN hN=>?_;simp-dsimp-implicitDefEqProofs(maxSteps:=800000) (disch:=omega)only[go_sem,List.length_map,AP,A5,XH,KG];apply hN;refine sQ λN hN=>?_;refine HS ?_;refine(JX os pw cj A0 _ _).AS ?_
  rintro m5 H5 r5 zU ⟨ids,GC,rfl,⟨i1,i2,i3,i4,i5⟩,rfl⟩;refine HS ?_
  apply hN;refine AW.seq λOt PA=>?_;refine EY ?_;apply AW.block;refine AI (λG0 C9=>?_);dsimp only at C9
  have LP:G0 ids=some [A5 os pw cj,.h GC 0 os.length]:=by rw[<-C9];simp(disch:=omega)only[A4,A1];rfl
  have FH:G0 GC=some (Z4 os.length (λ_=>none)):=by rw[<-C9];simp(disch:=omega)only[A4,A1]
  have DN:∀i,i<m3->G0 i=G3 i:=λi hi=>by rw[<-C9];simp(disch:=omega)only[A1]
  refine A8 (α:=Nat×(Nat->Option V)×HP) (λx=>sl 145 [(1,.p 0 [A5 os pw cj]),(2,.c (.pointer none)),(3,.i .i64 0),(4,rows (RP os pw cj (nG os))),(10,.q (mm+4+2) 0),(11,.m (mm+8)),(13,.i .u64 w),(14,.q ids 0),(73,XH Ms),(74,.i .i64 Ms.length),(75,.i .i64 k),(82,.i .i64 (nG os)),(83,.i .i64 x.1)]) (λx=>x.2.2) (λx m=>(x.1<=nG os/\ids<m/\GC<m/\m3<=m)/\Az os (pc os pw cj) w x.1 x.2.1/\(x.2.2 ids=some [A5 os pw cj,.h GC 0 os.length]/\x.2.2 GC=some (Z4 os.length x.2.1))/\∀i,i<m3->x.2.2 i=G3 i) (λx=>nG os-x.1) ((0,λ_=>none,G0)) ?_ ?_ (λ_ _ h=>h) ?_
  ·exact⟨⟨AB,A9,A9,A9⟩,Az.start h hc,⟨LP,FH⟩,DN⟩
  ·simp(disch:=omega) [AN,AO,sl,A5,ints,rows,A6,BJ,XH]
  skip
  rintro⟨q,t,G4⟩ m4 ⟨⟨hq,KY,JT,YS⟩,hI,⟨hq4,hq5⟩,hq6⟩;refine AG ?_;dsimp only at hq KY JT YS hI hq4 hq5 hq6 ⊢;clear C9 LP FH DN;refine EY ?_;refine AW.seq λN13 RG=>?_;refine AW.cond rfl ?_ ?_<;>intro h7<;>try simp only[cn]at h7
  ·apply AW.skip;apply RG;refine AW.seq λN14 RH=>?_;apply AW.block;refine EY ?_;refine sQ λN hN=>?_;simp-dsimp-implicitDefEqProofs(maxSteps:=800000) (disch:=omega)only[go_sem,CY,AP,A5,oS];apply hN;refine AW.cond rfl ?_ ?_<;>intro h8<;>try simp only[cn]at h8
   ·skip
    refine NF ?_;refine AC.pure (.of (HZ os pw cj h q A0 A0)) ?_;(try simp-dsimp-implicitDefEqProofs(maxSteps:=800000) (disch:=omega)only[go_sem,A5,vi])
    refine AC.fz (ts:=[.q ids 0,AZ os.length [C5 os q]]) (PY.del (id:=m4+1+2+5+4)) ?_ ((YE os pw cj h hc t hI.G [C5 os q] AB (λy hy=>by rw[List.mem_singleton.1 hy];exact DP h q) _ _ ids GC i5 ?_ ?_).AS ?_);case' refine_1=>exact⟨.refl _,Fz.CP (A4 _ _ _) rfl,trivial⟩
    case' refine_2=>rw[A1 _ _ A0,A1 _ _ A0];exact hq4
    case' refine_3=>rw[A1 _ _ A0,A1 _ _ A0];exact hq5
    rintro m7 H7 r7 hm7 ⟨rfl,rfl⟩;refine HS ?_
    apply RH;refine AI (λG5 EU=>?_);dsimp only at EU;refine NF ?_;refine⟨(q+1,iU (pc os pw cj) t [C5 os q],G5),?_,λ_ _ h=>h,?_,?_⟩
    ·simp(disch:=omega) [AN,AO,sl,AR,A5,ints,rows,A6,BJ,XH]<;>omega
    ·have LP:G5 ids=some [A5 os pw cj,.h GC 0 os.length]:=by rw[<-EU];simp(disch:=omega)only[A1];exact hq4
     have FH:G5 GC=some (Z4 os.length (iU (pc os pw cj) t [C5 os q])):=by rw[<-EU];simp(disch:=omega)only[A4]
     have DN:∀i,i<m3->G5 i=G3 i:=λi hi=>by rw[<-EU];simp(disch:=omega)only[A1];exact hq6 i hi
     ((repeat' (with_reducible refine And.intro ?_ ?_))<;>first|exact hI.add h hc (by simpa using h8)|exact LP|exact FH|exact DN|first|omega|(dsimp only;omega))
    first|omega|(simp only;omega)
   apply AW.skip;apply RH;refine AI (λG5 EU=>?_);dsimp only at EU;refine NF ?_;refine⟨(q+1,t,G5),?_,λ_ _ h=>h,?_,?_⟩
   ·simp(disch:=omega) [AN,AO,sl,AR,A5,ints,rows,A6,BJ,XH]<;>omega
   ·subst EU
    ((repeat' (with_reducible refine And.intro ?_ ?_))<;>first|exact hI.skip (by simpa using h8)|exact hq4|exact hq5|exact hq6|first|omega|(dsimp only;omega))
   first|omega|(simp only;omega)
  have Hy:=hI.fin h hc A0 zT;have hkT:=j4 h hc zT;have dT:=R8 h hc zT;apply AW.exit;apply PA;refine sQ λN hN=>?_;refine HS ?_;refine(M7 os pw cj h hc t hI.G _ _ ids GC hq4 hq5).AS ?_
  rintro m8 H8 r8 hm8 ⟨rfl,rfl⟩;refine HS ?_
  rw[Hy];(try simp-dsimp-implicitDefEqProofs(maxSteps:=800000) (disch:=omega)only[go_sem,A5])
  apply hN;refine sQ λN hN=>?_;refine HS ?_;refine AC.pure (.of (SL os pw cj h _ hkT dT)) ?_;have Ld:=(hq6 (mm+4+2) A0).trans OR
  have yL:=(hq6 (mm+8) A0).trans LZ;have Ly:=fR.AJ (H':=H8) λi _ hi=>hq6 i hi
  (try simp-dsimp-implicitDefEqProofs(maxSteps:=800000) (disch:=omega)only[go_sem,MF,yL,hms])
  apply hN;apply rQ;simp-dsimp-implicitDefEqProofs(maxSteps:=800000) (disch:=(first|omega|((repeat refine LC.AT A0 ?_);assumption))) only[go_sem,AP,A5,AZ,Ld,MA,IJ,AY,BP (a:=mm+9) (b:=m3) (L:=L3) (cs:=((Ms.take k).map (LO os pw cj)).map (AZ os.length)),List.length_map,List.length_take,Nat.min_eq_left hk];apply JO;refine AI (λG9 fS=>?_);dsimp only at fS;refine NF ?_;refine⟨(k+1,G9,.h (m8+5+7) 0 (k+1)),?_,λ_ _ h=>h,?_,?_⟩
  ·simp(disch:=omega) [AN,AO,sl,AR,A5,ints,rows,A6,BJ,XH]<;>omega
  ·have LP:G9 (mm+4+2)=some [A5 os pw cj,.h (m8+5+7) 0 (k+1),.nl]:=by rw[<-fS];simp(disch:=omega)only[A4,A1];rfl
   have FH:G9 (mm+8)=some (dQ os pw cj (Ms.take (k+1))):=by rw[<-fS];simp(disch:=omega)only[A4,A1,AY]
   have GA:LC G9 (mm+9) (m8+5+8) (.h (m8+5+7) 0 (k+1)) (((Ms.take (k+1)).map (LO os pw cj)).map (AZ os.length)):=LC.mk (by rw[<-fS,W0];simp(disch:=omega)only[A4,A1];rw[List.map_append,List.map_append];rfl) (by rw[List.length_map,List.length_map,List.length_take];omega) A0 A0
   ((repeat' (with_reducible refine And.intro ?_ ?_))<;>first|exact LP|exact FH|exact GA.wide (Nat.le_refl _) A9|first|omega|(dsimp only;omega))
  first|omega|(simp only;omega)
 obtain rfl:k=Ms.length:=A0
 rw[List.take_length]at fR LZ
 obtain⟨Rw,rfl,DS,jG,WC⟩:=fR.pos (by rw[List.length_map,List.length_map];exact hMp)
 rw[List.length_map,List.length_map]at OR
 apply AW.exit;apply SC;refine sQ λN hN=>?_;refine rJ OR ?_;have Ln:=TS (AZ os.length) (GH os) (Ms.map (LO os pw cj)) 80 [.p 0 [A5 os pw cj]] (by rw[List.length_map];exact hMp) (by rw[List.length_map];omega) (λx _=>rfl) (λx y=>JD x y) (λx y z=>aL) (enters_of Tryz.func80 A7 rfl) (λx hx y hy=>by
  obtain⟨a,ha,rfl⟩:=List.mem_map.1 hx;obtain⟨b,hb,rfl⟩:=List.mem_map.1 hy;exact RS os pw cj h _ _ (R8 h hc ((XJ a).1 ha)) (R8 h hc ((XJ b).1 hb)) (l9 h hc ((XJ a).1 ha)) (l9 h hc ((XJ b).1 hb))) Rw (m3+1+6) G3 DS
 rw[List.length_map]at Ln
 refine Ln.AS ?_
 rintro m10 H10 r10 A7D ⟨rfl,Y,hY1,hY2,rfl⟩
 refine HS ?_
 have aN:Ms.length=Y.length:=by rw[hY1.length_eq,List.length_map]
 have hYm:=λl=>(hY1.mem_iff (a:=l)).trans List.mem_map
 have Rx:=TU h hc hNd XJ hY1 hY2
 have hYe:=lA Rx
 rw[aN]at OR
 refine AG ?_
 apply hN;refine AW.seq λN15 kC=>?_;refine sQ λN hN=>?_;simp-dsimp-implicitDefEqProofs(maxSteps:=800000) (disch:=omega)only[go_sem,AP,A5,OR];apply hN;apply AW.block;refine AI (λG0 C9=>?_);dsimp only at C9
 have LP:G0 (mm+4+2)=some [A5 os pw cj,.h Rw 0 Y.length,.nl]:=by rw[<-C9];simp(disch:=omega)only[A1];exact OR
 have FH:G0 (mm+8)=some (dQ os pw cj Ms):=by rw[<-C9];simp(disch:=omega)only[A1];exact LZ
 have DN:G0 Rw=some (Y.map (AZ os.length)):=by rw[<-C9];exact A4 _ _ _
 obtain⟨mc,hmc⟩:∃mc,mc=DM os (pc os pw cj) Y:=⟨_,rfl⟩
 have ABN:mc.length=Y.length:=by rw[hmc,EG]
 refine A8 (α:=Nat×HP×AV) (λx=>sl 145 [(2,.c (.pointer none)),(3,.i .i64 0),(10,.q (mm+4+2) 0),(11,.m (mm+8)),(124,.h Rw 0 Y.length),(125,.i .i64 Y.length),(126,.i .i64 x.1)]) (λx=>x.2.1) (λx m=>(x.1<=Y.length/\m3+1<=m)/\(x.2.1 (mm+4+2)=some [A5 os pw cj,.h Rw 0 Y.length,x.2.2]/\x.2.1 (mm+8)=some (dQ os pw cj Ms)/\x.2.1 Rw=some (Y.map (AZ os.length)))/\LC x.2.1 m3 m x.2.2 ((mc.take x.1).map λa:Nat=>AV.i .u64 (a:Int))) (λx=>Y.length-x.1) ((0,G0,.nl)) ?_ ?_ (λ_ _ h=>h) ?_
 ·exact⟨⟨AB,A9⟩,⟨LP,FH,DN⟩,.nil⟩
 ·simp(disch:=omega) [AN,AO,sl,A5,ints,rows,A6]
 skip
 rintro⟨q,G5,L5⟩ m5 ⟨⟨hq,zU⟩,⟨O0,KY,JT⟩,Ly⟩
 refine AG ?_;dsimp only at hq zU O0 KY JT Ly ⊢
 have ABO:=Ly.one
 have A7E:=Ly.len
 have ADZ:=Ly.bd
 rw[List.length_map,List.length_take,Nat.min_eq_left A0]at A7E
 refine EY ?_;refine AW.seq λN16 A28=>?_;refine AW.cond rfl ?_ ?_<;>intro h9<;>try simp only[cn]at h9
 ·have nY:q<Y.length:=A0;have KG:=NP (n:=os.length) nY;obtain⟨a,ha,hae⟩:=(hYm (Y.getD q [])).1 (by simp[nY]);have Ck:=(XJ a).1 ha;have hmq:mc.getD q 0=a:=by
   rw[hmc,QY nY,<-TT h hc Ck,hae];simp[nY]
  rw[<-hae]at KG;have Ep:=Hr h hc Ms (λb hb=>(XJ b).1 hb) ha;have W0:=j5 (Ms:=mc) (k:=q) A0;rw[hmq]at W0;apply AW.skip;apply A28;refine AW.seq λN17 A29=>?_;apply AW.block;refine k6 JT KG ?_;refine EO AA A7 [true,true,true,true,false,true,true,false,false,false,false,true,true,false] (.br 4 (.br 7 (.br 8 (.br 9 (.br 10 (.br 13 .nil .nil) .nil) .nil) .nil) .nil) (.br 7 (.br 4 (.br 8 (.br 9 (.br 10 (.br 13 .nil .nil) .nil) .nil) .nil) (.br 8 (.br 4 (.br 9 (.br 10 (.br 13 .nil .nil) .nil) .nil) (.br 9 (.br 4 (.br 10 (.br 13 .nil .nil) .nil) .nil) .nil)) .nil)) .nil)) A7 ?_
  refine rJ O0 ?_;refine⟨?_,?_⟩;all_goals
   refine AC.pure (.of (SL os pw cj h _ (j4 h hc Ck) (R8 h hc Ck))) ?_;try simp-dsimp-implicitDefEqProofs(maxSteps:=800000) (disch:=(first|omega|((repeat refine LC.AT A0 ?_);assumption))) only[go_sem,and_self,O0,KY,Ep,MF,ABO,A7E,AY,BP (a:=m3) (b:=m5) (L:=L5) (cs:=(mc.take q).map λa:Nat=>AV.i .u64 (a:Int)),List.length_map,List.length_take,Nat.min_eq_left (show q<=mc.length by omega)]
   apply A29;refine AI (λG9 fS=>?_);dsimp only at fS;refine NF ?_;refine⟨(q+1,G9,.h (m5+1+3+10) 0 (q+1)),?_,λ_ _ h=>h,?_,?_⟩
   ·simp(disch:=omega) [AN,AO,sl,AR,A5,ints,rows,A6]<;>omega
   ·have LP:G9 (mm+4+2)=some [A5 os pw cj,.h Rw 0 Y.length,.h (m5+1+3+10) 0 (q+1)]:=by rw[<-fS];first|(simp(disch:=omega)only[A4,A1];done)|(simp(disch:=omega)only[A4,A1];rfl)
    have FH:G9 (mm+8)=some (dQ os pw cj Ms):=by rw[<-fS];simp(disch:=omega)only[A1,AY];exact KY
    have DN:G9 Rw=some (Y.map (AZ os.length)):=by rw[<-fS];simp(disch:=omega)only[A1,AY];exact JT
    have GA:LC G9 m3 (m5+1+3+11) (.h (m5+1+3+10) 0 (q+1)) ((mc.take (q+1)).map λa:Nat=>AV.i .u64 (a:Int)):=LC.mk (by rw[<-fS,W0,List.map_append]<;>first|(simp(disch:=omega)only[A4,A1];done)|(simp(disch:=omega)only[A4,A1];rfl)) (by rw[List.length_map,List.length_take];omega) A0 A0
    ((repeat' (with_reducible refine And.intro ?_ ?_))<;>first|exact LP|exact FH|exact DN|exact GA.wide (Nat.le_refl _) A9|first|omega|(dsimp only;omega))
   first|omega|(simp only;omega)
 obtain rfl:q=Y.length:=A0
 rw[List.take_of_length_le A0]at Ly
 apply AW.exit;apply kC;refine EY ?_;refine AH ?_;rw[dR h1 (by rw[<-GR h];omega),XI,<-hYe,<-hmc]
 refine Vw.t2 (.q _ 0 _ _ O0 rfl λk x y hx hy=>?_)
 match k,hx,hy with
 |0,hx,hy=>cases hx;cases hy;exact .refl _
 |1,hx,hy=>cases hx;cases hy;exact .h Rw 0 _ _ _ JT AB AB λk x y hx hy=>by rw[Nat.zero_add,hy]at hx;cases hx;exact .refl _
 |2,hx,hy=>cases hx;cases hy;have:=Ly.Lv;rwa [List.length_map]at this
end
theorem YH{cX n ops y s s1 K}{R0:Prop}(r0:R0)(q:AW cX Tryz.prog y s1 K)(e:R0->BV ops s s1:=by intro h0 N hN;(try simp-dsimp-implicitDefEqProofs(maxSteps:=800000) (disch:=omega)only[go_sem,List.length_map,XH,h0]);exact hN):BU cX n ops y s K:=BY q (e r0)
theorem dU{cX n ops y s s1 K}(q:AW cX Tryz.prog y s1 K)(e:BV ops s s1:=by intro N hN;(try simp-dsimp-implicitDefEqProofs(maxSteps:=800000) (disch:=omega)only[go_sem,NP]);exact hN):BU cX n ops y s K:=BY q e
end Go.Proofs.YtgknbnkmilddhaaGreat
