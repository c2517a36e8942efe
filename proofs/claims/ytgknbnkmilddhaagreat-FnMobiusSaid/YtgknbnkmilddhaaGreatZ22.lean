import Derived.Test.YtgknbnkmilddhaaGreatZ12
import Derived.Test.YtgknbnkmilddhaaGreatZ19
import Derived.Test.YtgknbnkmilddhaaGreatZ20
import Derived.Test.YtgknbnkmilddhaaGreatZ21
set_option linter.unusedVariables false
set_option linter.unusedSimpArgs false

namespace Go.Proofs.YtgknbnkmilddhaaGreat
theorem NM{n:Int}(h0:0<=n)(h1:n<=18446744073709551615):IntKind.wrap .u64 n=n:=by
  simp[IntKind.wrap,IntKind.bits,IntKind.signed];omega
def Hb(m t:Nat):Int:=if m.testBit t=true then 1 else 0
theorem CY{m t:Nat}:(Hb m t==1)=m.testBit t:=by unfold Hb;cases m.testBit t<;>rfl
theorem SK{m t:Nat}:(Hb m t==0)= !m.testBit t:=by unfold Hb;cases m.testBit t<;>rfl
theorem wM{m t:Nat}(ht:t<64):(m:Int).fdiv (2^(min t 64))=((m>>>t:Nat):Int):=by
  rw[Nat.min_eq_left A0,Int.fdiv_eq_ediv_of_nonneg _ (Int.pow_nonneg A0),Nat.shiftRight_eq_div_pow];push_cast;rfl
theorem wN{m t:Nat}:((m>>>t)%2:Nat)=(if m.testBit t=true then 1 else 0:Nat):=by
  rw[Nat.testBit,<-Nat.and_one_is_mod,Nat.and_comm];have:1 &&& m>>>t<2:=by rw[Nat.and_comm,Nat.and_one_is_mod];omega
  rcases (show 1 &&& m>>>t=0\/1 &&& m>>>t=1 by omega)with q|q<;>simp[q]
theorem M9{a:Nat}(h:a<18446744073709551616):(BitVec.ofInt 64 (a:Int)).toNat=a:=by
  rw[BitVec.toNat_ofInt];omega
theorem oS{m t:Nat}(ht:t<64)(hm:m<18446744073709551616):IntKind.wrap .u64 ((BitVec.ofInt (IntKind.bits .u64) ((m:Int).fdiv (2^(min t 64)))&&& BitVec.ofInt (IntKind.bits .u64) 1).toNat:Int)=Hb m t:=by
  have hs:m>>>t<18446744073709551616:=by rw[Nat.shiftRight_eq_div_pow];exact Nat.lt_of_le_of_lt (Nat.div_le_self _ _) hm
  have e:(BitVec.ofInt (IntKind.bits .u64) ((m:Int).fdiv (2^(min t 64)))&&& BitVec.ofInt (IntKind.bits .u64) 1).toNat=(m>>>t)%2:=by
    rw[wM ht];show(BitVec.ofInt 64 _ &&& BitVec.ofInt 64 ((1:Nat):Int)).toNat=_
    rw[BitVec.toNat_and,M9 hs,M9 A0,Nat.and_one_is_mod]
  rw[e,wN,Hb];split<;>rfl
theorem wO{t:Nat}(ht:t<64):IntKind.wrap .u64 (1*2^(min t 64))=((2^t:Nat):Int):=by
  rw[Nat.min_eq_left A0,Int.one_mul];have h:(2^t:Nat)<=2^63:=Nat.pow_le_pow_right A0 A0;have:(2:Int)^t=((2^t:Nat):Int):=by push_cast;rfl
  have h0:(2^63:Nat)=9223372036854775808:=BX;rw[this,NM (Int.natCast_nonneg _) A0]
theorem Rj{a b:Nat}(ha:a<18446744073709551616)(hb:b<18446744073709551616):IntKind.wrap .u64 ((BitVec.ofInt (IntKind.bits .u64) (a:Int)|||BitVec.ofInt (IntKind.bits .u64) (b:Int)).toNat:Int)=((a|||b:Nat):Int):=by
  have e:(BitVec.ofInt (IntKind.bits .u64) (a:Int)|||BitVec.ofInt (IntKind.bits .u64) (b:Int)).toNat=a|||b:=by
    show(BitVec.ofInt 64 _|||BitVec.ofInt 64 _).toNat=_
    rw[BitVec.toNat_or,M9 ha,M9 hb]
  have h:a|||b<2^64:=Nat.or_lt_two_pow A0 A0
  rw[e,NM A0 A0]
theorem LC.Lv{H:HP}{a b:Nat}{L:AV}{cs:List AV}(h:LC H a b L cs):Vw H L (.v cs.length cs):=by
  rcases h with ⟨rfl,rfl⟩|⟨id,rfl,h0,_,_⟩
  · exact .nl
  exact .h id 0 _ cs cs h0 A0 rfl λk x y hx hy=>by rw[Nat.zero_add]at hx;rw[hx]at hy;cases hy;exact .refl _
def qF(os:List Int)(k:Nat):List V:=(List.range k).map λt:Nat=>C5 os (t:Int)
theorem EC{os:List Int}{k:Nat}:(qF os k).length=k:=by simp[qF]
theorem Hc{os:List Int}{n k:Nat}(h:k<n):((qF os n).map (vi os.length)).getD k .j=vi os.length (C5 os (k:Nat)):=by simp[qF,h]
theorem Hd{os:List Int}{k:Nat}:(qF os (k+1)).map (vi os.length)=(qF os k).map (vi os.length)++[vi os.length (C5 os (k:Nat))]:=by simp[qF,List.range_succ]
noncomputable def qG(os:List Int)(pw:List (List Int))(cj:List (List (List Int)))(s k:Nat):List Int:=(List.range k).map λt=>(OY os pw cj s t:Int)
noncomputable def RP(os:List Int)(pw:List (List Int))(cj:List (List (List Int)))(k:Nat):List (List Int):=(List.range k).map λs=>qG os pw cj s (nG os)
section
variable(os:List Int)(pw:List (List Int))(cj:List (List (List Int)))
theorem EH{s k:Nat}:(qG os pw cj s k).length=k:=by simp[qG]
theorem BJ{k:Nat}:(RP os pw cj k).length=k:=by simp[RP]
theorem oT{s k:Nat}:(qG os pw cj s (k+1)).map (AV.i .i64)=(qG os pw cj s k).map (AV.i .i64)++[.i .i64 (OY os pw cj s k)]:=by simp[qG,List.range_succ]
theorem oU{k:Nat}:(RP os pw cj (k+1)).map ints=(RP os pw cj k).map ints++[ints (qG os pw cj k (nG os))]:=by simp[RP,List.range_succ]
theorem RQ(h:AF os pw cj):BI Tryz.prog 107 [A5 os pw cj] (AZ os.length (qF os (nG os))):=by
 have FU:=h.1.1
 have Rk:=JC h
 have gM:=JP os pw cj h
 rw[<-GR h]at gM
 refine B5 AA Tryz.func107 rfl A7 Tryz.ntmps107 Tryz.results107 ((cV _ _)) (λnx cX=>?_)
 refine cB ?_;refine cB ?_;refine AW.seq λN1 B2=>?_;refine sQ λN hN=>?_;simp-dsimp-implicitDefEqProofs(maxSteps:=800000) (disch:=omega)only[go_sem,ints,A5,vi];refine AC.pure (.of (gM)) ?_;(try simp-dsimp-implicitDefEqProofs(maxSteps:=800000) (disch:=omega)only[go_sem,ints,A5,vi]);apply hN;apply AW.block;refine A8 (α:=Nat×HP×AV) (λx=>sl 18 [(0,A5 os pw cj),(3,x.2.2),(6,.i .i64 (nG os)),(7,.i .i64 x.1)]) (λx=>x.2.1) (λx m=>(x.1<=nG os/\nx<=m)/\LC x.2.1 nx m x.2.2 ((qF os x.1).map (vi os.length))) (λx=>nG os-x.1) ((0,BM,.nl)) ?_ ?_ (λ_ _ h=>h) ?_
 ·exact⟨⟨AB,A9⟩,.nil⟩
 ·simp(disch:=omega) [AN,AO,sl,A5,ints,rows,A6]
 skip
 rintro⟨k,G,L⟩ m ⟨⟨hk,hm⟩,hL⟩
 refine AG ?_;dsimp only at hk hm hL ⊢
 have MA:=hL.one
 have IJ:=hL.len
 have l4:=hL.bd
 rw[List.length_map,EC]at IJ
 refine cB ?_;refine AW.seq λN2 B7=>?_;refine AW.cond rfl ?_ ?_<;>intro h1<;>try simp only[cn]at h1
 ·apply AW.skip;apply B7;refine AW.seq λN3 BC=>?_;apply AW.block;refine cB ?_;apply rQ;simp-dsimp-implicitDefEqProofs(maxSteps:=800000) (disch:=omega)only[go_sem,ints,A5,vi];refine AC.pure (.of (HZ os pw cj h k A0 A0)) ?_;try simp-dsimp-implicitDefEqProofs(disch:=(first|omega|((repeat refine LC.AT A0 ?_);assumption))) only[go_sem,A5,vi,MA,IJ,BP (a:=nx) (b:=m) (L:=L) (cs:=(qF os k).map (vi os.length)),List.length_map,EC]
  apply BC;refine AI (λG3 CB=>?_);dsimp only at CB;apply rQ;simp-dsimp-implicitDefEqProofs(maxSteps:=800000) (disch:=omega)only[go_sem,ints,A5,vi];refine⟨(k+1,G3,.h (m+1+3+4) 0 (k+1)),?_,λ_ _ h=>h,?_,?_⟩
  ·simp(disch:=omega) [AN,AO,sl,AR,A5,ints,rows,A6]<;>omega
  ·have GA:LC G3 nx (m+1+3+6) (.h (m+1+3+4) 0 (k+1)) ((qF os (k+1)).map (vi os.length)):=LC.mk (by rw[<-CB,Hd];simp(disch:=omega)only[A1,A4];rfl) (by rw[List.length_map,EC]) A0 A0;first|exact⟨⟨A9,A9⟩,GA.wide (Nat.le_refl _) A9⟩|exact⟨A9,GA.wide (Nat.le_refl _) A9⟩
  first|omega|(simp only;omega)
 apply AW.exit;apply B2;refine cB ?_;refine AH ?_;obtain rfl:k=nG os:=A0
 have:=hL.Lv
 rwa [List.length_map]at this
theorem YF{cX n ops y s s1 K}(q:AW cX Tryz.prog y s1 K)(e:BV ops s s1:=by intro N hN;(try simp-dsimp-implicitDefEqProofs(maxSteps:=800000) (disch:=omega)only[go_sem,EC,ints,A5,vi,AZ]);exact hN):BU cX n ops y s K:=BY q e
set_option maxHeartbeats 1000000 in
theorem K8(h:AF os pw cj)(hc:CG (pc os pw cj) 0):BI Tryz.prog 72 [A5 os pw cj] (rows (RP os pw cj (nG os))):=by
 have FU:=h.1.1
 have Rk:=JC h
 have yI:=RQ os pw cj h
 refine B5 AA Tryz.func72 rfl A7 Tryz.ntmps72 Tryz.results72 ((UJ _)) (λnx cX=>?_)
 refine YF ?_;refine sQ λN hN=>?_;simp-dsimp-implicitDefEqProofs(maxSteps:=800000) (disch:=omega)only[go_sem,EC,ints,A5,vi,AZ];refine AC.pure (.of (yI)) ?_;(try simp-dsimp-implicitDefEqProofs(maxSteps:=800000) (disch:=omega)only[go_sem,EC,ints,A5,vi,AZ]);apply hN;refine YF ?_;refine AW.seq λN1 B2=>?_;refine YF ?_;apply AW.block;refine A8 (α:=Nat×HP×AV) (λx=>sl 40 [(0,A5 os pw cj),(3,AZ os.length (qF os (nG os))),(4,x.2.2),(12,AZ os.length (qF os (nG os))),(13,.i .i64 (nG os)),(14,.i .i64 x.1)]) (λx=>x.2.1) (λx m=>(x.1<=nG os/\nx<=m)/\LC x.2.1 nx m x.2.2 ((RP os pw cj x.1).map ints)) (λx=>nG os-x.1) ((0,BM,.nl)) ?_ ?_ (λ_ _ h=>h) ?_
 ·exact⟨⟨AB,A9⟩,.nil⟩
 ·simp(disch:=omega) [AN,AO,sl,A5,ints,rows,A6,AZ,EC]
 skip
 rintro⟨k,G,L⟩ m ⟨⟨hk,hm⟩,hL⟩
 refine AG ?_;dsimp only at hk hm hL ⊢
 have MA:=hL.one
 have IJ:=hL.len
 have l4:=hL.bd
 rw[List.length_map,BJ]at IJ
 obtain⟨mm,iZ⟩:∃mm,mm=m:=⟨m,rfl⟩
 subst iZ
 refine YF ?_;refine AW.seq λN2 B7=>?_;refine AW.cond rfl ?_ ?_<;>intro h1<;>try simp only[cn]at h1
 ·have Vk:=Hc (os:=os) (show k<nG os by omega);apply AW.skip;apply B7;refine AW.seq λN3 BC=>?_;apply AW.block;refine sQ λN hN=>?_;simp-dsimp-implicitDefEqProofs(maxSteps:=800000) (disch:=omega)only[go_sem,EC,ints,A5,vi,AZ,Vk];apply hN;refine YF ?_;refine AW.seq λN4 CF=>?_;refine YF ?_;apply AW.block;refine A8 (α:=Nat×HP×AV) (λx=>sl 40 [(0,A5 os pw cj),(3,AZ os.length (qF os (nG os))),(4,L),(6,vi os.length (C5 os k)),(7,x.2.2),(12,AZ os.length (qF os (nG os))),(13,.i .i64 (nG os)),(14,.i .i64 k),(18,AZ os.length (qF os (nG os))),(19,.i .i64 (nG os)),(20,.i .i64 x.1)]) (λx=>x.2.1) (λx m=>(x.1<=nG os/\mm<=m)/\LC x.2.1 mm m x.2.2 ((qG os pw cj k x.1).map (.i .i64))/\∀i,i<mm->x.2.1 i=G i) (λx=>nG os-x.1) ((0,G,.nl)) ?_ ?_ (λ_ _ h=>h) ?_
  ·exact⟨⟨AB,A9⟩,.nil,λ_ _=>rfl⟩
  ·simp(disch:=omega) [AN,AO,sl,A5,ints,rows,A6,AZ,EC,vi]
  skip
  rintro⟨j,G2,L2⟩ m2 ⟨⟨hj,LN⟩,j0,CD⟩;refine AG ?_;dsimp only at hj LN j0 CD ⊢;have A21:=j0.one;have He:=j0.len;have ABM:=j0.bd;rw[List.length_map,EH]at He;refine YF ?_;refine AW.seq λN5 DL=>?_;refine AW.cond rfl ?_ ?_<;>intro h2<;>try simp only[cn]at h2
  ·have hgj:=Hc (os:=os) (show j<nG os by omega);have Vl:=OJ h hc k j;have hmu:=(EL os pw cj h 0 hc _ _ (DP h k) (DP h j)).pure;have QR:=XE os pw cj h _ ((lvl h.val hc).g 0|>.cl (DP h k) (DP h j));rw[<-Vl.2.2]at QR;apply AW.skip;apply DL;refine AW.seq λN6 FR=>?_;apply AW.block;refine sQ λN hN=>?_;simp-dsimp-implicitDefEqProofs(maxSteps:=800000) (disch:=omega)only[go_sem,EC,ints,A5,vi,AZ,hgj];apply hN;apply rQ;simp-dsimp-implicitDefEqProofs(maxSteps:=800000) (disch:=omega)only[go_sem,EC,ints,A5,vi,AZ];refine AC.pure (.of (hmu)) ?_;(try simp-dsimp-implicitDefEqProofs(maxSteps:=800000) (disch:=omega)only[go_sem,EC,ints,A5,vi,AZ])
   refine AC.pure (.of (QR)) ?_;try simp-dsimp-implicitDefEqProofs(disch:=(first|omega|((repeat refine LC.AT A0 ?_);assumption))) only[go_sem,A5,A21,He,BP (a:=mm) (b:=m2) (L:=L2) (cs:=(qG os pw cj k j).map (.i .i64)),List.length_map,EH]
   apply FR;refine AI (λG3 CB=>?_);dsimp only at CB;apply rQ;simp-dsimp-implicitDefEqProofs(maxSteps:=800000) (disch:=omega)only[go_sem,EC,ints,A5,vi,AZ];refine⟨(j+1,G3,.h (m2+1+3+8) 0 (j+1)),?_,λ_ _ h=>h,?_,?_⟩
   ·simp(disch:=omega) [AN,AO,sl,AR,A5,ints,rows,A6,AZ,EC,vi]<;>omega
   ·have GA:LC G3 mm (m2+1+3+9) (.h (m2+1+3+8) 0 (j+1)) ((qG os pw cj k (j+1)).map (.i .i64)):=LC.mk (by rw[<-CB,oT];simp(disch:=omega)only[A1,A4]) (by rw[List.length_map,EH]) A0 A0;first|exact⟨⟨A9,A9⟩,GA.wide (Nat.le_refl _) A9,λi hi=>by rw[<-CB];simp(disch:=omega)only[A1,AY];exact CD i hi⟩|exact⟨A9,GA.wide (Nat.le_refl _) A9,λi hi=>by rw[<-CB];simp(disch:=omega)only[A1,AY];exact CD i hi⟩
   first|omega|(simp only;omega)
  obtain rfl:j=nG os:=A0;obtain⟨GC,rfl,DS,jG,WC⟩:=j0.pos (by rw[List.length_map,EH];omega);have fR:LC G2 nx mm L ((RP os pw cj k).map ints):=hL.AJ λi _ hi=>CD i hi
  rw[List.length_map,EH];apply AW.exit;apply CF;refine CZ 7 GC (nG os) _ rfl DS (by rw[List.length_map,EH]) ?_;refine AG ?_;have hL4:LC (AT G2 GC none) nx mm L ((RP os pw cj k).map ints):=fR.AT A0;obtain⟨G4,Rl⟩:∃G4,AT G2 GC none=G4:=⟨_,rfl⟩;rw[Rl]at hL4 ⊢;apply rQ;simp-dsimp-implicitDefEqProofs(disch:=(first|omega|((repeat refine LC.AT A0 ?_);assumption))) only[go_sem,A5,AZ,vi,ints,EC,MA,IJ,BP (a:=nx) (b:=mm) (L:=L) (cs:=(RP os pw cj k).map ints),List.length_map,BJ];apply BC;refine AI (λG5 EU=>?_);dsimp only at EU;apply rQ;simp-dsimp-implicitDefEqProofs(maxSteps:=800000) (disch:=omega)only[go_sem,EC,ints,A5,vi,AZ];refine⟨(k+1,G5,.h (m2+1+3) 0 (k+1)),?_,λ_ _ h=>h,?_,?_⟩
  ·simp(disch:=omega) [AN,AO,sl,AR,A5,ints,rows,A6,AZ,EC]<;>omega
  ·have GA:LC G5 nx (m2+1+4) (.h (m2+1+3) 0 (k+1)) ((RP os pw cj (k+1)).map ints):=LC.mk (by rw[<-EU,oU];simp(disch:=omega)only[A1,A4];simp only[ints,EH]) (by rw[List.length_map,BJ]) A0 A0;first|exact⟨⟨A9,A9⟩,GA.wide (Nat.le_refl _) A9⟩|exact⟨A9,GA.wide (Nat.le_refl _) A9⟩
  first|omega|(simp only;omega)
 apply AW.exit;apply B2;refine YF ?_;refine AH ?_;obtain rfl:k=nG os:=A0
 have:=hL.Lv
 rw[List.length_map]at this
 exact this
end
structure Lw(os:List Int)(pw:List (List Int))(cj:List (List (List Int)))(S:V->Prop)(x m:Nat):Prop where
  lt:m<2^nG os
  up:∀t,(HK os S).testBit t=true\/t=x->m.testBit t=true
  dn:∀t,m.testBit t=true->Jn (pc os pw cj) S (C5 os x) (C5 os (t:Nat))
structure oV(os:List Int)(pw:List (List Int))(cj:List (List (List Int)))(m n a b:Nat):Prop where
  up:∀t,m.testBit t=true->n.testBit t=true
  pr:∀s t,s<a\/(s=a/\t<b)->m.testBit s=true->m.testBit t=true->n.testBit (OY os pw cj s t)=true
theorem I3{os:List Int}(HL:nG os<=32):2^nG os<=4294967296:=Nat.pow_le_pow_right A0 HL
section
variable{os:List Int}{pw:List (List Int)}{cj:List (List (List Int))}(h:AF os pw cj)(hc:CG (pc os pw cj) 0){S:V->Prop}(hS:E5 (T (pc os pw cj) 0) (M (pc os pw cj) 0) S)
theorem Lw.start(_:AF os pw cj){x:Nat}(hx:x<nG os)(hS:E5 (T (pc os pw cj) 0) (M (pc os pw cj) 0) S):Lw os pw cj S x (HK os S|||2^x):=by
  refine⟨Nat.or_lt_two_pow HC (Nat.pow_lt_pow_right A0 hx),λt ht=>IT.2 ht,λt ht=>?_⟩;rcases IT.1 ht with q|rfl
  · exact λA hA hu=>hu _ (.inl (DJ.1 q).2)
  exact λA hA hu=>hu _ (.inr rfl)
include h hc hS
theorem Lw.mul{x m n:Nat}(hm:Lw os pw cj S x m)(hn:Lw os pw cj S x n){a b:Nat}(ha:m.testBit a=true)(hb:m.testBit b=true):Lw os pw cj S x (n|||2^OY os pw cj a b):=by
  refine⟨Nat.or_lt_two_pow hn.lt (Nat.pow_lt_pow_right A0 (OJ h hc a b).1),λt ht=>IT.2 (.inl (hn.up t ht)),λt ht=>?_⟩;rcases IT.1 ht with q|rfl
  · exact hn.dn t q
  exact Gk h hc hS (hm.dn a ha) (hm.dn b hb)
omit hc hS h in
theorem oV.start{m:Nat}:oV os pw cj m m 0 0:=⟨λ_ h=>h,λs t q=>A0⟩
omit hc hS h in
theorem oV.row{m n a b:Nat}(hb:m<2^b)(h:oV os pw cj m n a b):oV os pw cj m n (a+1) 0:=
  ⟨h.up,λs t q h1 h2=>h.pr s t (by have:=XC hb h2;omega) h1 h2⟩
omit hc hS h in
theorem oV.skip{m n a:Nat}(h0:m.testBit a=false)(h:oV os pw cj m n a 0):oV os pw cj m n (a+1) 0:=
  ⟨h.up,λs t q h1 h2=>by
    by_cases e:s=a
    · subst e;rw[h0]at h1;cases h1
    exact h.pr s t A0 h1 h2⟩
omit hc hS h in
theorem oV.no{m n a b:Nat}(h0:m.testBit b=false)(h:oV os pw cj m n a b):oV os pw cj m n a (b+1):=
  ⟨h.up,λs t q h1 h2=>by
    by_cases e:t=b
    · subst e;rw[h0]at h2;cases h2
    exact h.pr s t A0 h1 h2⟩
omit hc hS h in
theorem oV.yes{m n a b:Nat}(h:oV os pw cj m n a b):oV os pw cj m (n|||2^OY os pw cj a b) a (b+1):=
  ⟨λt ht=>IT.2 (.inl (h.up t ht)),λs t q h1 h2=>by
    by_cases e:s=a/\t=b
    · obtain⟨rfl,rfl⟩:=e;exact IT.2 (.inr rfl)
    exact IT.2 (.inl (h.pr s t A0 h1 h2))⟩
end
section
variable(os:List Int)(pw:List (List Int))(cj:List (List (List Int)))
theorem Hf{n s:Nat}(h:s<n):((RP os pw cj n).map ints).getD s .j=ints (qG os pw cj s (nG os)):=by simp[RP,h]
theorem Hg{n s t:Nat}(h:t<n):((qG os pw cj s n).map (AV.i .i64)).getD t .j= .i .i64 (OY os pw cj s t):=by simp[qG,h]
theorem NN{cX n ops y s s1 K}(q:AW cX Tryz.prog y s1 K)(e:BV ops s s1:=by intro N hN;(try simp-dsimp-implicitDefEqProofs(maxSteps:=800000) (disch:=omega)only[go_sem,SK,CY,rows,BJ,oS,Rj,wO]);exact hN):BU cX n ops y s K:=BY q e
theorem dO{cX n ops s}{K:Exit->St->Prop}{Q:Prop}(q:Q)(e:Q->DW env Tryz.prog ops s.nx ops 0 ⟨s.t,s.H,s.nx+ops.length⟩ (K .normal):=by intro q;(try simp-dsimp-implicitDefEqProofs(maxSteps:=800000) (disch:=omega)only[go_sem,SK,CY,rows,BJ,oS,Rj,wO]);exact q):AW cX Tryz.prog (.region n ops.toArray false) s K:=rQ (e q)
set_option maxHeartbeats 1000000 in
theorem TR(h:AF os pw cj)(hc:CG (pc os pw cj) 0)(HL:nG os<=32){S:V->Prop}(hS:E5 (T (pc os pw cj) 0) (M (pc os pw cj) 0) S)(e:Nat)(he:e<nG os):BI Tryz.prog 73 [rows (RP os pw cj (nG os)),.i .u64 (HK os S),.i .i64 e] (.i .u64 (HK os (Jn (pc os pw cj) S (C5 os e)))):=by
 have h2:=I3 HL
 have uC:=HC (os:=os) (S:=S)
 have PQ:2^e<2^nG os:=Nat.pow_lt_pow_right A0 he
 have ER:=Lw.start h he hS
 refine AD AA Tryz.func73 rfl A7 Tryz.ntmps73 Tryz.results73 (.i _ _) (λnx cX=>?_)
 refine NN ?_;refine NN ?_;apply AW.block;refine A8 (α:=Nat) (λx=>sl 52 [(0,rows (RP os pw cj (nG os))),(1,.i .u64 x)]) (λ_=>BM) (λx m=>Lw os pw cj S e x) (λx=>2^nG os-x) (HK os S|||2^e) ?_ ?_ (λ_ _ h=>h) ?_
 ·exact ER
 ·simp(disch:=omega) [AN,AO,sl,rows,BJ,wO,Rj]
 skip
 rintro w m1 hI
 refine AG ?_;have Z5:=hI.lt
 apply AW.block;refine NN ?_;refine AW.seq λN1 B2=>?_;refine NN ?_;apply AW.block;refine A8 (α:=Nat×Nat) (λx=>sl 52 [(0,rows (RP os pw cj (nG os))),(1,.i .u64 w),(7,.i .u64 x.1),(16,.i .i64 (nG os)),(17,.i .i64 x.2)]) (λ_=>BM) (λx m=>x.2<=nG os/\Lw os pw cj S e x.1/\oV os pw cj w x.1 x.2 0) (λx=>nG os-x.2) ((w,0)) ?_ ?_ (λ_ _ h=>h) ?_
 ·exact⟨Nat.zero_le _,hI,oV.start⟩
 ·simp(disch:=omega) [AN,AO,sl,rows,BJ]
 skip
 rintro⟨n,a⟩ m2 ⟨ha,hn,hp⟩
 refine AG ?_;dsimp only at ha hn hp ⊢
 have hnl:=hn.lt
 refine NN ?_;refine AW.seq λN2 B7=>?_;refine AW.cond rfl ?_ ?_<;>intro h1<;>try simp only[cn]at h1
 ·apply AW.skip;apply B7;refine AW.seq λN3 BC=>?_;apply AW.block;refine NN ?_;refine AW.seq λN4 CF=>?_;refine NN ?_;refine AW.cond rfl ?_ ?_<;>intro h2<;>try simp only[cn]at h2
  ·apply AW.exit;apply BC;refine dO ?_;refine⟨(n,a+1),?_,λ_ _ h=>h,?_,?_⟩
   ·simp(disch:=omega) [AN,AO,sl,AR,rows,BJ]<;>omega
   ·exact⟨A9,hn,hp.skip (by simpa using h2)⟩
   first|omega|(simp only;omega)
  apply AW.skip;apply CF;refine NN ?_;apply AW.block;refine A8 (α:=Nat×Nat) (λx=>sl 52 [(0,rows (RP os pw cj (nG os))),(1,.i .u64 w),(7,.i .u64 x.1),(8,.i .i64 a),(16,.i .i64 (nG os)),(17,.i .i64 a),(26,.i .i64 (nG os)),(27,.i .i64 x.2)]) (λ_=>BM) (λx m=>x.2<=nG os/\Lw os pw cj S e x.1/\oV os pw cj w x.1 a x.2) (λx=>nG os-x.2) ((n,0)) ?_ ?_ (λ_ _ h=>h) ?_
  ·exact⟨Nat.zero_le _,hn,hp⟩
  ·simp(disch:=omega) [AN,AO,sl,rows,BJ]
  skip
  rintro⟨q,b⟩ m3 ⟨hb,hq,Ay⟩;refine AG ?_;dsimp only at hb hq Ay ⊢;have nY:=hq.lt;refine NN ?_;refine AW.seq λN5 DL=>?_;refine AW.cond rfl ?_ ?_<;>intro h3<;>try simp only[cn]at h3
  ·apply AW.skip;apply DL;refine AW.seq λN6 FR=>?_;apply AW.block;refine NN ?_;refine NN ?_;refine AW.cond rfl ?_ ?_<;>intro h4<;>try simp only[cn]at h4
   ·have Vl:=(OJ h hc a b).1;have htp:2^OY os pw cj a b<2^nG os:=Nat.pow_lt_pow_right A0 Vl;have KG:=Hf os pw cj (show a<nG os by omega);have hbt:=Hg os pw cj (s:=a) (show b<nG os by omega);apply rQ;simp-dsimp-implicitDefEqProofs(maxSteps:=800000) (disch:=omega)only[go_sem,SK,CY,ints,rows,BJ,EH,oS,Rj,wO,KG,hbt];apply FR;refine dO ?_;refine⟨(q|||2^OY os pw cj a b,b+1),?_,λ_ _ h=>h,?_,?_⟩
    ·simp(disch:=omega) [AN,AO,sl,AR,rows,BJ]<;>omega
    ·exact⟨A9,hI.mul h hc hS hq (by simpa using h2) (by simpa using h4),Ay.yes⟩
    first|omega|(simp only;omega)
   apply AW.skip;apply FR;refine dO ?_;refine⟨(q,b+1),?_,λ_ _ h=>h,?_,?_⟩
   ·simp(disch:=omega) [AN,AO,sl,AR,rows,BJ]<;>omega
   ·exact⟨A9,hq,Ay.no (by simpa using h4)⟩
   first|omega|(simp only;omega)
  apply AW.exit;apply BC;refine dO ?_;refine⟨(q,a+1),?_,λ_ _ h=>h,?_,?_⟩
  ·simp(disch:=omega) [AN,AO,sl,AR,rows,BJ]<;>omega
  ·exact⟨A9,hq,Ay.row (by have:=Nat.lt_of_lt_of_le Z5 (Nat.pow_le_pow_right (n:=2) A0 (show nG os<=b by omega));exact this)⟩
  first|omega|(simp only;omega)
 apply AW.exit;apply B2;refine AW.seq λN7 MV=>?_;refine NN ?_;refine AW.cond rfl ?_ ?_<;>intro h5<;>try simp only[cn]at h5
 ·have e5:n=w:=A0;subst e5;refine NN ?_;refine AH ?_;rw[Qz h hc hS he Z5 hI.up hI.dn λs t h1 h2=>hp.pr s t (.inl (by have:=XC Z5 h1;omega)) h1 h2]
 have h6:=sub_le hp.up
 have h7:n≠w:=λz=>h5 (by rw[z])
 apply AW.skip;apply MV;refine dO ?_;refine⟨n,?_,λ_ _ h=>h,?_,?_⟩
 ·simp(disch:=omega) [AN,AO,sl,rows,BJ]<;>omega
 ·exact hn
 first|omega|(dsimp only;omega)
end
theorem dP{cX n ops y s s1 K}(q:AW cX Tryz.prog y s1 K)(e:BV ops s s1:=by intro N hN;(try simp-dsimp-implicitDefEqProofs(maxSteps:=800000) (disch:=omega)only[go_sem,Hh]);exact hN):BU cX n ops y s K:=BY q e
end Go.Proofs.YtgknbnkmilddhaaGreat

namespace Go.Proofs.YtgknbnkmilddhaaGreat
theorem PC(a b:List (List Int))(ha:BO a)(hb:BO b):BI Tryz.prog 102 [rows a,rows b,.f 103 []] (.b (tf (a=b))):=by
 have han:=ha.n
 have hbn:=hb.n
 refine AD AA Tryz.func102 rfl A7 Tryz.ntmps102 Tryz.results102 (.b _) (λnx cX=>?_)
 refine DK ?_;refine AW.seq λN1 B2=>?_;refine DK ?_;refine AW.cond rfl ?_ ?_<;>intro h1<;>try simp only[cn]at h1
 ·refine DK ?_;refine AH ?_;exact bt (C8 (λh=>h1 (by rw[h]))).symm
 have hl:a.length=b.length:=A0
 apply AW.skip;apply B2;refine AW.seq λN2 B7=>?_;refine DK ?_;apply AW.block;refine A8 (α:=Nat) (λx=>sl 32 [(1,rows b),(2,.f 103 []),(15,rows a),(16,.i .i64 a.length),(17,.i .i64 x)]) (λ_=>BM) (λx m=>x<=a.length/\a.take x=b.take x) (λx=>a.length-x) (0) ?_ ?_ (λ_ _ h=>h) ?_
 ·exact⟨A0,rfl⟩
 ·simp(disch:=omega) [AN,AO,sl,AR,ints,rows,A6,rows,BN,AR]<;>omega
 skip
 rintro k m ⟨hk,hI⟩
 refine AG ?_;refine DK ?_;refine AW.seq λN3 BC=>?_;refine AW.cond rfl ?_ ?_<;>intro h2<;>try simp only[cn]at h2
 ·have hak:=ha.getD k;have jQ:=hb.getD k;apply AW.skip;apply BC;refine AW.seq λN4 CF=>?_;apply AW.block;refine DK ?_;refine DK ?_;refine Dd (F9 (a.getD k []) (b.getD k []) A0 A0) ?_;refine AW.cond rfl ?_ ?_<;>intro h3<;>try simp only[cn]at h3
  ·refine DK ?_;refine AH ?_;exact bt (C8 (λh=>h3 (by rw[h]))).symm
  apply AW.skip;apply CF;refine TA ?_;refine⟨k+1,?_,λ_ _ h=>h,?_,?_⟩
  ·simp(disch:=omega) [AN,AO,sl,AR,ints,rows,A6,rows,BN,AR]<;>omega
  ·exact⟨A0,UG [] hl A0 hI h3⟩
  first|omega|(simp only;omega)
 apply AW.exit;apply B7;refine DK ?_;refine AH ?_;have KH:k=a.length:=A0
 subst KH
 rw[List.take_length,hl,List.take_length]at hI
 exact bt (D2 hI).symm
theorem XF(a b:List (List Int))(ha:BO a)(hb:BO b):BI Tryz.prog 49 [rows a,rows b] (.b (tf (a=b))):=by
 refine AD AA Tryz.func49 rfl A7 Tryz.ntmps49 Tryz.results49 (.b _) (λnx cX=>?_)
 refine B8 ?_;refine N0 (PC a b ha hb) ?_;apply AW.ret;simp-dsimp-implicitDefEqProofs(disch:=omega)only[go_sem];skip
theorem Hh{n:Nat}{z:AV}(h:0<n):(List.replicate n z=[])=False:=by
  cases n with
  |zero=>omega
  |succ n=>simp[List.replicate_succ]
end Go.Proofs.YtgknbnkmilddhaaGreat

namespace Go.Proofs.YtgknbnkmilddhaaGreat
theorem wu8{n:Int}(h0:0<=n)(h1:n<=255):IntKind.wrap .u8 n=n:=by
  simp[IntKind.wrap,IntKind.bits,IntKind.signed];omega
def MJ(n:Nat)(us:List V)(k:Nat):List Int:=(us.take k).flatMap λx=>vec n x++[59]
def ML(n:Nat)(us:List V):ByteArray:=strOfNums (MJ n us us.length)
theorem Hi{n:Nat}{us:List V}:∀k,k<=us.length->(MJ n us k).length=k*(n+1):=by
  intro k;induction k with
  |zero=>intro _;simp[MJ]
  | succ k ih=>
    intro hk;have:=ih A0;unfold MJ at this ⊢;rw[List.take_succ_eq_append_getElem A0,List.flatMap_append,List.length_append,this,Nat.succ_mul];simp[vec]
theorem j3{n:Nat}{us:List V}{k:Nat}(hk:k<us.length):MJ n us (k+1)=MJ n us k++(vec n (us.getD k z0)++[59]):=by
  unfold MJ;rw[List.take_succ_eq_append_getElem hk,List.flatMap_append];simp[hk]
theorem wP{α:Type}{f:α->AV}{l:List α}{a:α}:(l++[a]).map f=l.map f++[f a]:=AB
theorem A73:q8 []=[]:=rfl
theorem Hj{k:Nat}{x:V}:vec (k+1) x=vec k x++[x k]:=by simp[vec,List.range_succ]
theorem zO{a b:List Int}(ha:∀z∈a,0<=z/\z<256)(hb:∀z∈b,0<=z/\z<256)(h:strOfNums a=strOfNums b):a=b:=by
  have h1:=congrArg (λs:ByteArray=>s.data.toList) h;simp only[strOfNums_data]at h1;have key:∀l:List Int,(∀z∈l,0<=z/\z<256)->(l.map λn=>UInt8.ofNat n.toNat).map (λu:UInt8=>(u.toNat:Int))=l:=by
    intro l hl;rw[List.map_map];conv=>rhs;rw[<-List.map_id l]
    refine List.map_congr_left λz hz=>?_
    have:=hl z hz;simp only[Function.comp,UInt8.toNat_ofNat',id];omega
  rw[<-key a ha,<-key b hb,h1]
theorem Hk{os:List Int}{pw:List (List Int)}{cj:List (List (List Int))}(h:AF os pw cj){x:V}(hx:T (pc os pw cj) 0 x){k:Nat}(hk:k<os.length):0<=x k/\x k<7:=by
  have h1:=hx.r k (Nat.zero_le k) hk;have h2:=CE (h.2.1 k hk);have h3:(pc os pw cj).o k=os.getD k 0:=rfl;omega
theorem Hl{os:List Int}{pw:List (List Int)}{cj:List (List (List Int))}(h:AF os pw cj){us vs:List V}(hu:∀x∈us,T (pc os pw cj) 0 x)(hv:∀x∈vs,T (pc os pw cj) 0 x)(he:ML os.length us=ML os.length vs):us=vs:=by
  have hb:∀ws:List V,(∀x∈ws,T (pc os pw cj) 0 x)->∀z∈MJ os.length ws ws.length,0<=z/\z<256:=by
    intro ws hw z hz;unfold MJ at hz;rw[List.take_length]at hz;obtain⟨x,hx,hz⟩:=List.mem_flatMap.1 hz;rcases List.mem_append.1 hz with q|q
    · obtain⟨k,hk,rfl⟩:=List.mem_map.1 q;have:=Hk h (hw x hx) (List.mem_range.1 hk);omega
    simp at q;omega
  have h1:=zO (hb us hu) (hb vs hv) he;unfold MJ at h1;rw[List.take_length,List.take_length]at h1;clear he hb;induction us generalizing vs with
  | nil=>
    cases vs with
    |nil=>rfl
    |cons y vs=>have:=congrArg List.length h1;simp at this
  | cons x us ih=>
    cases vs with
    |nil=>have:=congrArg List.length h1;simp at this
    | cons y vs=>
      rw[List.flatMap_cons,List.flatMap_cons]at h1;obtain⟨h2,h3⟩:=List.append_inj h1 (by simp[vec]);have h4:=(List.append_inj h2 (by simp[vec])).1;rw[kZ (hu x AB).t (hv y AB).t h4,ih (λz hz=>hu z (by simp[hz])) (λz hz=>hv z (by simp[hz])) h3]
section
variable(os:List Int)(pw:List (List Int))(cj:List (List (List Int)))
theorem SL(h:AF os pw cj)(us:List V)(hu:∀x∈us,T (pc os pw cj) 0 x)(hl:us.length<=6):BI Tryz.prog 78 [AZ os.length us] (.s (ML os.length us)):=by
 have FU:=h.1.1
 refine AD AA Tryz.func78 rfl A7 Tryz.ntmps78 Tryz.results78 (.s _) (λnx cX=>?_)
 refine E7 ?_;refine E7 ?_;refine AW.seq λN1 B2=>?_;refine E7 ?_;apply AW.block;refine A8 (α:=Nat×HP×AV) (λx=>sl 32 [(3,x.2.2),(8,AZ os.length us),(9,.i .i64 us.length),(10,.i .i64 x.1)]) (λx=>x.2.1) (λx m=>(x.1<=us.length/\nx<=m)/\LC x.2.1 nx m x.2.2 ((MJ os.length us x.1).map (.i .u8))) (λx=>us.length-x.1) ((0,BM,.nl)) ?_ ?_ (λ_ _ h=>h) ?_
 ·exact⟨⟨AB,A9⟩,by simp[MJ,LC.nil]⟩
 ·simp(disch:=omega) [AN,AO,sl,AZ]
 skip
 rintro⟨k,G,L⟩ m ⟨⟨hk,hm⟩,hL⟩
 refine AG ?_;dsimp only at hk hm hL ⊢
 have MU:=Hi (n:=os.length) k hk
 have l5:k*(os.length+1)<=6*7:=Nat.mul_le_mul A0 A0
 obtain⟨mm,iZ⟩:∃mm,mm=m:=⟨m,rfl⟩
 subst iZ
 refine E7 ?_;refine AW.seq λN2 B7=>?_;refine AW.cond rfl ?_ ?_<;>intro h1<;>try simp only[cn]at h1
 ·have hx:=hu (us.getD k z0) (by simp[show k<us.length by omega]);have Vk:=E9 (n:=os.length) (show k<us.length by omega);obtain⟨x0,hxe⟩:∃x0,us.getD k z0=x0:=⟨_,rfl⟩;rw[hxe]at hx Vk;apply AW.skip;apply B7;refine AW.seq λN3 BC=>?_;apply AW.block;refine sQ λN hN=>?_;simp-dsimp-implicitDefEqProofs(maxSteps:=800000) (disch:=omega)only[go_sem,vi,AZ,Vk];apply hN;refine AW.seq λN4 CF=>?_;refine E7 ?_;apply AW.block;refine A8 (α:=Nat×HP×AV) (λx=>sl 32 [(3,x.2.2),(8,AZ os.length us),(9,.i .i64 us.length),(10,.i .i64 k),(14,vi os.length x0),(15,.i .i64 os.length),(16,.i .i64 x.1)]) (λx=>x.2.1) (λx m=>(x.1<=os.length/\nx<=m)/\LC x.2.1 nx m x.2.2 ((MJ os.length us k++vec x.1 x0).map (.i .u8))) (λx=>os.length-x.1) ((0,G,L)) ?_ ?_ (λ_ _ h=>h) ?_
  ·exact⟨⟨AB,A9⟩,by simp[vec];exact hL.wide (Nat.le_refl _) A9⟩
  ·simp(disch:=omega) [AN,AO,sl,AZ,vi]
  skip
  rintro⟨j,G2,L2⟩ m2 ⟨⟨hj,LN⟩,j0⟩;refine AG ?_;dsimp only at hj LN j0 ⊢;have MA:=j0.one;have IJ:=j0.len;have l4:=j0.bd;rw[List.length_map,List.length_append,MU,BL]at IJ;obtain⟨kk,hkk⟩:∃kk,k*(os.length+1)=kk:=⟨_,rfl⟩;rw[hkk]at MU l5 IJ;refine E7 ?_;refine AW.seq λN5 DL=>?_;refine AW.cond rfl ?_ ?_<;>intro h2<;>try simp only[cn]at h2
  ·have hxb:=Hk h hx (show j<os.length by omega);apply AW.skip;apply DL;refine AW.seq λN6 FR=>?_;apply AW.block;refine E7 ?_;apply rQ;simp-dsimp-implicitDefEqProofs(disch:=(first|omega|((repeat refine LC.AT A0 ?_);assumption))) only[go_sem,AZ,vi,wu8,MA,IJ,BP (a:=nx) (b:=m2) (L:=L2) (cs:=(MJ os.length us k++vec j x0).map (.i .u8)),List.length_map,List.length_append,MU,BL]
   apply FR;refine AI (λG3 CB=>?_);dsimp only at CB;refine TN ?_;refine⟨(j+1,G3,.h (m2+1+3+4) 0 (kk+j+1)),?_,λ_ _ h=>h,?_,?_⟩
   ·simp(disch:=omega) [AN,AO,sl,AR,AZ,vi]<;>omega
   ·have GA:LC G3 nx (m2+1+3+5) (.h (m2+1+3+4) 0 (kk+j+1)) ((MJ os.length us k++vec (j+1) x0).map (.i .u8)):=LC.mk (by rw[<-CB,Hj,<-List.append_assoc,wP];simp(disch:=omega)only[A1,A4]) (by rw[List.length_map,List.length_append,MU,BL];omega) A0 A0;exact⟨⟨A9,A9⟩,GA.wide (Nat.le_refl _) A9⟩
   first|omega|(simp only;omega)
  obtain rfl:j=os.length:=A0;apply AW.exit;apply CF;apply rQ;simp-dsimp-implicitDefEqProofs(disch:=(first|omega|((repeat refine LC.AT A0 ?_);assumption))) only[go_sem,AZ,vi,MA,IJ,BP (a:=nx) (b:=m2) (L:=L2) (cs:=(MJ os.length us k++vec os.length x0).map (.i .u8)),List.length_map,List.length_append,MU,BL];apply BC;refine AI (λG3 CB=>?_);dsimp only at CB;refine TN ?_;refine⟨(k+1,G3,.h (m2+1+2) 0 (kk+os.length+1)),?_,λ_ _ h=>h,?_,?_⟩
  ·simp(disch:=omega) [AN,AO,sl,AR,AZ]<;>omega
  ·have GA:LC G3 nx (m2+1+3) (.h (m2+1+2) 0 (kk+os.length+1)) ((MJ os.length us (k+1)).map (.i .u8)):=LC.mk (by rw[<-CB,j3 A0,hxe,<-List.append_assoc,wP];simp(disch:=omega)only[A1,A4]) (by rw[List.length_map,j3 A0,List.length_append,MU,hxe,List.length_append,BL];simp;omega) A0 A0;exact⟨⟨A9,A9⟩,GA.wide (Nat.le_refl _) A9⟩
  first|omega|(simp only;omega)
 obtain rfl:k=us.length:=A0
 have W0:List.take (MJ os.length us us.length).length (List.map (AV.i .u8) (MJ os.length us us.length))=List.map (AV.i .u8) (MJ os.length us us.length):=List.take_of_length_le (by rw[List.length_map];exact Nat.le_refl _)
 rcases hL with ⟨rfl,h0⟩|⟨id,rfl,h0,_,_⟩
 case' inl=>have hz:MJ os.length us us.length=[]:=List.map_eq_nil_iff.1 h0
 all_goals
  apply AW.exit;apply B2;refine sQ λN hN=>?_;simp-dsimp-implicitDefEqProofs(maxSteps:=800000) (disch:=omega)only[go_sem,List.length_map,List.map_nil,Nat.le_refl,jN,A73,vi,AZ,h0,W0];apply hN;refine AH ?_;first|(rw[ML,hz];done)|rfl
end
theorem OO(nx:Nat)(H:HP):AC Tryz.prog 209 nx H [.nl,.i .i64 (0:Nat)] (λBB H' r=>nx<=BB/\H'=H/\r= .nl):=by
 refine BA AA Tryz.func209 rfl A7 Tryz.ntmps209 Tryz.results209 (λCQ cX=>?_)
 refine B8 ?_;refine AW.seq λN1 B2=>?_;refine B8 ?_;refine AW.cond rfl ?_ ?_<;>intro h1<;>try simp only[cn]at h1
 ·exfalso;omega
 apply AW.skip;apply B2;refine AW.seq λN2 B7=>?_;refine B8 ?_;refine B8 ?_;refine AW.cond rfl ?_ ?_<;>intro h2<;>try simp only[cn]at h2
 ·exfalso;omega
 apply AW.skip;apply B7;refine B8 ?_;refine AH ?_;exact⟨H,Le.refl _,rfl⟩
theorem PE(n:Nat)(h0:0<n)(hn:n<=4000000)(nx:Nat)(H:HP):AC Tryz.prog 209 nx H [.nl,.i .i64 n] (λBB H' r=>nx<=BB/\(∀i,i<nx->H' i=H i)/\∃id cs,nx<=id/\id<BB/\r= .h id 0 0/\H' id=some cs):=by
 refine BA AA Tryz.func209 rfl A7 Tryz.ntmps209 Tryz.results209 (λCQ cX=>?_)
 refine dP ?_;refine AW.seq λN1 B2=>?_;refine dP ?_;refine AW.cond rfl ?_ ?_<;>intro h1<;>try simp only[cn]at h1
 ·exfalso;omega
 apply AW.skip;apply B2;refine AW.seq λN2 B7=>?_;refine dP ?_;refine dP ?_;refine AW.cond rfl ?_ ?_<;>intro h2<;>try simp only[cn]at h2
 ·apply rQ;simp-dsimp-implicitDefEqProofs(maxSteps:=800000) (disch:=omega)only[go_sem,Hh];apply B7;refine dP ?_;refine AH ?_;exact⟨_,Le.refl _,λi hi=>A1 _ _ A0,_,_,A0,A0,rfl,A4 _ _ _⟩
 exfalso;omega
def aO(n:Nat)(us:List V)(k:Nat):List Int:=(us.take k).flatMap (vec n)
theorem K9{n:Nat}{us:List V}:∀k,k<=us.length->(aO n us k).length=k*n:=by
  intro k;induction k with
  |zero=>intro _;simp[aO]
  | succ k ih=>
    intro hk;have:=ih A0;unfold aO at this ⊢;rw[List.take_succ_eq_append_getElem A0,List.flatMap_append,List.length_append,this,Nat.succ_mul];simp[vec]
theorem Hm{n:Nat}{us:List V}{k:Nat}(hk:k<us.length):(aO n us (k+1)).map (AV.i .i64)=(aO n us k).map (.i .i64)++D3 n (us.getD k z0):=by
  unfold aO;rw[List.take_succ_eq_append_getElem hk,List.flatMap_append,List.map_append];simp[hk,vec,D3,Function.comp_def]
theorem aP{n:Nat}{us:List V}:aO n us us.length=us.flatMap (vec n):=by rw[aO,List.take_length]
theorem RR(n:Nat)(us:List V)(hn:n<=6)(hl:us.length<=6)(h0:0<us.length*n):BI Tryz.prog 155 [AZ n us] (ints (us.flatMap (vec n))):=by
 have h36:us.length*n<=6*6:=Nat.mul_le_mul A0 A0
 refine B5 AA Tryz.func155 rfl A7 Tryz.ntmps155 Tryz.results155 ((GV _)) (λnx cX=>?_)
 refine E7 ?_;refine E7 ?_;refine AW.seq λN1 B2=>?_;refine E7 ?_;apply AW.block;refine A8 (α:=Nat) (λx=>sl 36 [(0,AZ n us),(3,.i .i64 (aO n us x).length),(9,AZ n us),(10,.i .i64 us.length),(11,.i .i64 x)]) (λ_=>BM) (λx m=>x<=us.length/\nx<=m) (λx=>us.length-x) (0) ?_ ?_ (λ_ _ h=>h) ?_
 ·exact⟨A0,A9⟩
 ·simp(disch:=omega) [AN,AO,sl,AZ,aO]
 skip
 rintro k m ⟨hk,hm⟩
 refine AG ?_;refine E7 ?_;refine AW.seq λN2 B7=>?_;refine AW.cond rfl ?_ ?_<;>intro h1<;>try simp only[cn]at h1
 ·have Vk:=E9 (n:=n) (show k<us.length by omega);have hs:(aO n us (k+1)).length=(aO n us k).length+n:=by rw[K9 _ A0,K9 _ A0,Nat.succ_mul]
  have hle:(aO n us (k+1)).length<=us.length*n:=by rw[K9 _ A0];exact Nat.mul_le_mul_right n A0
  apply AW.skip;apply B7;refine AW.seq λN3 BC=>?_;apply AW.block;refine sQ λN hN=>?_;simp-dsimp-implicitDefEqProofs(maxSteps:=800000) (disch:=omega)only[go_sem,CR,vi,AZ,Vk];apply hN;refine E7 ?_;refine E7 ?_;refine AW.cond rfl ?_ ?_<;>intro h2<;>try simp only[cn]at h2
  ·exfalso;omega
  apply AW.skip;apply BC;refine TN ?_;refine⟨k+1,?_,λ_ _ h=>h,?_,?_⟩
  ·simp(disch:=omega) [AN,AO,sl,AR,AZ,hs]<;>omega
  ·exact⟨A9,A9⟩
  first|omega|(simp only;omega)
 obtain rfl:k=us.length:=A0
 have ADX:=K9 (n:=n) us.length (Nat.le_refl _)
 apply AW.exit;apply B2;refine sQ λN hN=>?_;(try simp-dsimp-implicitDefEqProofs(maxSteps:=800000) (disch:=omega)only[go_sem,vi,AZ]);refine(PE _ A0 A0 _ _).mono ?_
 rintro Us H1 r ⟨iJ,hHH,idg,csg,PI,KV,rfl,SN⟩
 apply hN;refine AW.seq λN4 CF=>?_;refine E7 ?_;apply AW.block;refine A8 (α:=Nat×Nat×List AV) (λx=>sl 36 [(6,.h x.2.1 0 (aO n us x.1).length),(25,AZ n us),(26,.i .i64 us.length),(27,.i .i64 x.1)]) (λx=>AT BM x.2.1 (some x.2.2)) (λx m=>(x.1<=us.length/\nx<=x.2.1/\x.2.1<m)/\x.2.2.take (aO n us x.1).length=(aO n us x.1).map (.i .i64)/\(0<x.1->x.2.2=(aO n us x.1).map (.i .i64))) (λx=>us.length-x.1) ((0,idg,csg)) ?_ ?_ (by intro d cs hd;simp only[AT,BM]at hd ⊢;grind) ?_
 ·exact⟨⟨AB,A9,A9⟩,by simp[aO],λh=>absurd h AB⟩
 ·simp(disch:=omega) [AN,AO,sl,AZ,aO]
 skip
 rintro⟨q,id,cs⟩ m2 ⟨⟨hq,kE,LN⟩,W0,hex⟩
 dsimp only at hq kE LN W0 hex
 refine AG ?_;refine E7 ?_;refine AW.seq λN5 DL=>?_;refine AW.cond rfl ?_ ?_<;>intro h3<;>try simp only[cn]at h3
 ·have hgq:=E9 (n:=n) (show q<us.length by omega);have hs:(aO n us (q+1)).length=(aO n us q).length+n:=by rw[K9 _ A0,K9 _ A0,Nat.succ_mul]
  have hle:(aO n us (q+1)).length<=us.length*n:=by rw[K9 _ A0];exact Nat.mul_le_mul_right n A0
  have JN:(aO n us q).length<=cs.length:=by have:=congrArg List.length W0;rw[List.length_take,List.length_map]at this;omega
  apply AW.skip;apply DL;refine AW.seq λN6 FR=>?_;apply AW.block;refine sQ λN hN=>?_;simp-dsimp-implicitDefEqProofs(maxSteps:=800000) (disch:=omega)only[go_sem,vi,AZ,hgq];apply hN;apply rQ;simp-dsimp-implicitDefEqProofs(maxSteps:=800000) (disch:=omega)only[go_sem,List.take_length,CR,uX,vi,AZ,W0];apply FR;refine TN ?_;refine⟨(q+1,m2+1+3+2,(aO n us (q+1)).map (.i .i64)),?_,by dsimp only;rw[Hm A0];intro d cs hd;simp only[AT,BM]at hd ⊢;grind,?_,?_⟩
  ·simp(disch:=omega) [AN,AO,sl,AR,AZ,hs]<;>omega
  ·exact⟨⟨A9,A9,A9⟩,List.take_of_length_le (by rw[List.length_map];exact Nat.le_refl _),λ_=>rfl⟩
  first|omega|(simp only;omega)
 obtain rfl:q=us.length:=A0
 have qQ:0<us.length:=by
  rcases Nat.eq_zero_or_pos us.length with h|h
  ·rw[h]at h0;simp at h0
  exact h
 apply AW.exit;apply CF;refine E7 ?_;refine AH ?_;refine UK ?_ (by rw[aP])
 rw[A4,hex qQ,aP]
theorem QG(n:Nat)(us:List V)(hn:n<=6)(hl:us.length<=6)(h0:us.length*n=0):BI Tryz.prog 155 [AZ n us] (ints (us.flatMap (vec n))):=by
 have hz:us.flatMap (vec n)=[]:=by
  rcases Nat.mul_eq_zero.1 h0 with q|q
  ·rw[List.length_eq_zero_iff.1 q];rfl
  subst q;simp[vec]
 refine B5 AA Tryz.func155 rfl A7 Tryz.ntmps155 Tryz.results155 ((GV _)) (λnx cX=>?_)
 refine E7 ?_;refine E7 ?_;refine AW.seq λN1 B2=>?_;refine E7 ?_;apply AW.block;refine A8 (α:=Nat) (λx=>sl 36 [(0,AZ n us),(3,.i .i64 (0:Nat)),(9,AZ n us),(10,.i .i64 us.length),(11,.i .i64 x)]) (λ_=>BM) (λx m=>x<=us.length/\nx<=m) (λx=>us.length-x) (0) ?_ ?_ (λ_ _ h=>h) ?_
 ·exact⟨A0,A9⟩
 ·simp(disch:=omega) [AN,AO,sl,AZ]
 skip
 rintro k m ⟨hk,hm⟩
 refine AG ?_;refine E7 ?_;refine AW.seq λN2 B7=>?_;refine AW.cond rfl ?_ ?_<;>intro h1<;>try simp only[cn]at h1
 ·obtain rfl:n=0:=(Nat.mul_eq_zero.1 h0).resolve_left A0;have Vk:=E9 (n:=0) (show k<us.length by omega);apply AW.skip;apply B7;refine AW.seq λN3 BC=>?_;apply AW.block;refine sQ λN hN=>?_;simp-dsimp-implicitDefEqProofs(maxSteps:=800000) (disch:=omega)only[go_sem,CR,vi,AZ,Vk];apply hN;refine E7 ?_;refine E7 ?_;refine AW.cond rfl ?_ ?_<;>intro h2<;>try simp only[cn]at h2
  ·exfalso;omega
  apply AW.skip;apply BC;refine TN ?_;refine⟨k+1,?_,λ_ _ h=>h,?_,?_⟩
  ·simp(disch:=omega) [AN,AO,sl,AR,ints,rows,A6,AZ,vi,AR]<;>omega
  ·exact⟨A9,A9⟩
  first|omega|(simp only;omega)
 apply AW.exit;apply B2;refine sQ λN hN=>?_;(try simp-dsimp-implicitDefEqProofs(maxSteps:=800000) (disch:=omega)only[go_sem,vi,AZ]);refine(OO _ _).mono ?_
 rintro Us H1 r ⟨iJ,rfl,rfl⟩
 apply hN;refine AW.seq λN4 CF=>?_;refine E7 ?_;apply AW.block;refine A8 (α:=Nat) (λx=>sl 36 [(6,.nl),(25,AZ n us),(26,.i .i64 us.length),(27,.i .i64 x)]) (λ_=>BM) (λx m=>x<=us.length/\nx<=m) (λx=>us.length-x) (0) ?_ ?_ (λ_ _ h=>h) ?_
 ·exact⟨A0,A9⟩
 ·simp(disch:=omega) [AN,AO,sl,AZ]
 skip
 rintro q m2 ⟨hq,LN⟩
 refine AG ?_;refine E7 ?_;refine AW.seq λN5 DL=>?_;refine AW.cond rfl ?_ ?_<;>intro h3<;>try simp only[cn]at h3
 ·obtain rfl:n=0:=(Nat.mul_eq_zero.1 h0).resolve_left A0;have hgq:=E9 (n:=0) (show q<us.length by omega);have hiv:D3 0 (us.getD q z0)=[]:=rfl;have jH:(∀z∈([]:List AV),one z=true)=True:=AB;apply AW.skip;apply DL;refine AW.seq λN6 FR=>?_;apply AW.block;refine sQ λN hN=>?_;simp-dsimp-implicitDefEqProofs(maxSteps:=800000) (disch:=omega)only[go_sem,vi,AZ,hgq,hiv];apply hN;apply rQ;simp-dsimp-implicitDefEqProofs(maxSteps:=800000) (disch:=omega)only[go_sem,vi,AZ,jH];apply FR;refine TN ?_;refine⟨q+1,?_,λ_ _ h=>h,?_,?_⟩
  ·simp(disch:=omega) [AN,AO,sl,AR,ints,rows,A6,AZ,vi,AR]<;>omega
  ·exact⟨A9,A9⟩
  first|omega|(simp only;omega)
 apply AW.exit;apply CF;refine E7 ?_;refine AH ?_;rw[hz]
 exact .nl
theorem P0(n:Nat)(us:List V)(hn:n<=6)(hl:us.length<=6):BI Tryz.prog 155 [AZ n us] (ints (us.flatMap (vec n))):=by
  rcases Nat.eq_zero_or_pos (us.length*n)with h|h
  · exact QG n us hn hl h
  exact RR n us hn hl h
theorem Hn{p:Nat->Prop}{k:Nat}(h:∀j,j<k->p j)(hk:p k):∀j,j<k+1->p j:=λj hj=>by
  by_cases e:j=k
  · subst e;exact hk
  exact h j A0
def Rm:List Int->Int
  |[]=>0
  |x::W=>if x≠0 then x else Rm W
theorem oW{W:List Int}{k:Nat}(h:∀j,j<k->W.getD j 0=0):Rm W=Rm (W.drop k):=by
  induction k generalizing W with
  |zero=>rfl
  | succ k ih=>
    cases W with
    |nil=>rfl
    | cons x W=>
      have h0:=h 0 A0;simp at h0;rw[Rm,if_neg (by simp[h0]),List.drop_succ_cons];exact ih λj hj=>by simpa using h (j+1) A0
theorem zQ(W:List Int)(hl:W.length<=1000):BI Tryz.prog 143 [ints W] (.i .i64 (Rm W)):=by
 refine AD AA Tryz.func143 rfl A7 Tryz.ntmps143 Tryz.results143 (.i _ _) (λnx cX=>?_)
 refine C1 ?_;refine C1 ?_;refine AW.seq λN1 B2=>?_;refine C1 ?_;apply AW.block;refine A8 (α:=Nat) (λx=>sl 18 [(3,.i .i64 0),(6,ints W),(7,.i .i64 W.length),(8,.i .i64 x)]) (λ_=>BM) (λx m=>x<=W.length/\∀j,j<x->W.getD j 0=0) (λx=>W.length-x) (0) ?_ ?_ (λ_ _ h=>h) ?_
 ·exact⟨A0,λj h=>A0⟩
 ·simp(disch:=omega) [AN,AO,sl,ints]
 skip
 rintro k m ⟨hk,ha⟩
 refine AG ?_;refine C1 ?_;refine AW.seq λN2 B7=>?_;refine AW.cond rfl ?_ ?_<;>intro h1<;>try simp only[cn]at h1
 ·apply AW.skip;apply B7;refine AW.seq λN3 BC=>?_;apply AW.block;refine C1 ?_;refine C1 ?_;refine AW.cond rfl ?_ ?_<;>intro h2<;>try simp only[cn]at h2
  ·refine C1 ?_;refine AH ?_;have MU:k<W.length:=A0
   have e1:W.getD k 0=W[k]:=by simp[MU]
   rw[oW ha,List.drop_eq_getElem_cons MU,Rm,<-e1,if_pos (by simpa using h2)]
  apply AW.skip;apply BC;refine II ?_;refine⟨k+1,?_,λ_ _ h=>h,?_,?_⟩
  ·simp(disch:=omega) [AN,AO,sl,AR,ints]<;>omega
  ·exact⟨A9,Hn ha (by simpa using h2)⟩
  first|omega|(simp only;omega)
 apply AW.exit;apply B2;refine C1 ?_;refine AH ?_;rw[oW ha,List.drop_of_length_le A0];rfl
theorem NO{a b:List Int}{k:Nat}(h:∀j,j<k->a.getD j 0=b.getD j 0)(ha:k<=a.length)(hb:k<=b.length):OM a b=OM (a.drop k) (b.drop k):=by
  induction k generalizing a b with
  |zero=>rfl
  | succ k ih=>
    cases a with
    |nil=>simp at ha
    | cons x a=>
      cases b with
      |nil=>simp at hb
      | cons y b=>
        have h0:=h 0 A0;simp at h0;subst h0;rw[OM,if_neg A0,if_neg A0,List.drop_succ_cons,List.drop_succ_cons];exact ih (λj hj=>by simpa using h (j+1) A0) (by simpa using ha) (by simpa using hb)
theorem Ho{a b:List Int}{k:Nat}(h:∀j,j<k->a.getD j 0=b.getD j 0)(ha:k<a.length)(hb:k<b.length)(AQ:cmp (a.getD k 0) (b.getD k 0)≠0):OM a b=cmp (a.getD k 0) (b.getD k 0):=by
  rw[NO h A0 A0,List.drop_eq_getElem_cons ha,List.drop_eq_getElem_cons hb,OM];have e1:a.getD k 0=a[k]:=by simp[ha]
  have e2:b.getD k 0=b[k]:=by simp[hb]
  rw[e1,e2]at AQ ⊢;unfold cmp at*;split
  · rfl
  split
  · rfl
  rename_i q1 q2;rw[if_neg q1,if_neg q2]at AQ;exact absurd rfl AQ
theorem Vm{x y:Int}(h:cmp x y=0):x=y:=by
  unfold cmp at h;split at h
  · cases h
  split at h
  · cases h
  omega
theorem VA(a b:List Int)(ha:a.length<=1048576)(hb:b.length<=1048576):BI Tryz.prog 154 [ints a,ints b] (.i .i64 (OM a b)):=by
 refine AD AA Tryz.func154 rfl A7 Tryz.ntmps154 Tryz.results154 (.i _ _) (λnx cX=>?_)
 refine C1 ?_;refine AW.seq λN1 B2=>?_;refine C1 ?_;apply AW.block;refine A8 (α:=Nat) (λx=>sl 36 [(0,ints a),(1,ints b),(9,ints a),(10,.i .i64 a.length),(11,.i .i64 x)]) (λ_=>BM) (λx m=>x<=a.length/\x<=b.length/\∀j,j<x->a.getD j 0=b.getD j 0) (λx=>a.length-x) (0) ?_ ?_ (λ_ _ h=>h) ?_
 ·exact⟨A0,A0,λj h=>A0⟩
 ·simp(disch:=omega) [AN,AO,sl,ints]
 skip
 rintro k m ⟨hk,hkb,hI⟩
 refine AG ?_;refine C1 ?_;refine AW.seq λN2 B7=>?_;refine AW.cond rfl ?_ ?_<;>intro h1<;>try simp only[cn]at h1
 ·apply AW.skip;apply B7;refine AW.seq λN3 BC=>?_;apply AW.block;refine C1 ?_;refine AW.seq λN4 CF=>?_;refine C1 ?_;refine AW.cond rfl ?_ ?_<;>intro h2<;>try simp only[cn]at h2
  ·refine C1 ?_;refine AH ?_;rw[NO hI hk hkb,List.drop_eq_getElem_cons (show k<a.length by omega),List.drop_of_length_le (show b.length<=k by omega),OM]
  apply AW.skip;apply CF;refine C1 ?_;refine sQ λN hN=>?_;simp-dsimp-implicitDefEqProofs(maxSteps:=800000) (disch:=omega)only[go_sem,AL,ints];refine AC.pure (.of (Q5 (a.getD k 0) (b.getD k 0))) ?_;(try simp-dsimp-implicitDefEqProofs(maxSteps:=800000) (disch:=omega)only[go_sem,AL,ints]);apply hN;refine C1 ?_;refine AW.cond rfl ?_ ?_<;>intro h3<;>try simp only[cn]at h3
  ·refine C1 ?_;refine AH ?_;rw[Ho hI A0 A0 (by simpa using h3)]
  apply AW.skip;apply BC;refine II ?_;refine⟨k+1,?_,λ_ _ h=>h,?_,?_⟩
  ·simp(disch:=omega) [AN,AO,sl,AR,ints]<;>omega
  ·exact⟨A9,A9,Hn hI (Vm (by simpa using h3))⟩
  first|omega|(simp only;omega)
 apply AW.exit;apply B2;refine AW.seq λN5 DL=>?_;refine C1 ?_;refine AW.cond rfl ?_ ?_<;>intro h4<;>try simp only[cn]at h4
 ·refine C1 ?_;refine AH ?_;rw[NO hI A0 hkb,List.drop_of_length_le (show a.length<=k by omega),List.drop_eq_getElem_cons (show k<b.length by omega),OM]
 apply AW.skip;apply DL;refine C1 ?_;refine AH ?_;rw[NO hI A0 hkb,List.drop_of_length_le (show a.length<=k by omega),List.drop_of_length_le (show b.length<=k by omega),OM]
section
variable(os:List Int)(pw:List (List Int))(cj:List (List (List Int)))
theorem MN(h:AF os pw cj)(us vs:List V)(hl:us.length<=6)(O1:vs.length<=6)(hu:∀k,k<us.length->E4 os.length (us.getD k z0)<os.length)(hv:∀k,k<vs.length->E4 os.length (vs.getD k z0)<os.length):BI Tryz.prog 81 [A5 os pw cj,AZ os.length us,AZ os.length vs] (.i .i64 (GH os us vs)):=by
 have FU:=h.1.1
 refine AD AA Tryz.func81 rfl A7 Tryz.ntmps81 Tryz.results81 (.i _ _) (λnx cX=>?_)
 refine B8 ?_;refine sQ λN hN=>?_;refine AG ?_;refine KP (MI os pw cj h us hl hu) ?_
 refine KP (MI os pw cj h vs O1 hv) ?_
 refine KP (Q5 _ _) ?_
 refine KP (P0 os.length us FU hl) ?_
 refine KP (P0 os.length vs FU O1) ?_
 refine KP (VA _ _ (by rw[<-aP,K9 _ (Nat.le_refl _)];exact Nat.le_trans (Nat.mul_le_mul hl FU) A0) (by rw[<-aP,K9 _ (Nat.le_refl _)];exact Nat.le_trans (Nat.mul_le_mul O1 FU) A0)) ?_
 refine AC.pure (.yM (zQ [_,_] AB) (.cons (UK (by rw[A4];rfl) rfl) ZY.rfl) (.i _ _)) ?_
 refine AG ?_
 apply hN;refine AH ?_;refine it ?_
 unfold GH JR RO cmp Rm Rm Rm
 repeat' split
 all_goals first|rfl|omega
theorem RS(h:AF os pw cj)(us vs:List V)(hl:us.length<=6)(O1:vs.length<=6)(hu:∀k,k<us.length->E4 os.length (us.getD k z0)<os.length)(hv:∀k,k<vs.length->E4 os.length (vs.getD k z0)<os.length):BI Tryz.prog 80 [AZ os.length us,AZ os.length vs,.p 0 [A5 os pw cj]] (.i .i64 (GH os us vs)):=by
 refine AD AA Tryz.func80 rfl A7 Tryz.ntmps80 Tryz.results80 (.i _ _) (λnx cX=>?_)
 refine B8 ?_;refine N0 (MN os pw cj h us vs hl O1 hu hv) ?_;apply AW.ret;simp-dsimp-implicitDefEqProofs(disch:=omega)only[go_sem];skip
end
end Go.Proofs.YtgknbnkmilddhaaGreat
