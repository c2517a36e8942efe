import Derived.Test.YtgknbnkmilddhaaGreatZ15
import Derived.Test.YtgknbnkmilddhaaGreatZ20
import Derived.Test.YtgknbnkmilddhaaGreatZ22
import Derived.Test.YtgknbnkmilddhaaGreatZ23
import Derived.Test.YtgknbnkmilddhaaGreatZ24
set_option linter.unusedVariables false
set_option linter.unusedSimpArgs false

namespace Go.Proofs.YtgknbnkmilddhaaGreat
def wm(n:Int):Int:=IntKind.wrap .i64 n
theorem SO(n:Int):(wm n-n)%18446744073709551616=0/\-9223372036854775808<=wm n/\wm n<=9223372036854775807:=by
  have key:wm n=if n%18446744073709551616>=9223372036854775808 then n%18446744073709551616-18446744073709551616 else n%18446744073709551616:=by simp[wm,IntKind.wrap,IntKind.bits,IntKind.signed]
  rw[key];split<;>omega
theorem wT{a b:Int}(h:(a-b)%18446744073709551616=0):wm a=wm b:=by
  have h1:=SO a;have h2:=SO b;omega
theorem oZ{a:Int}(h1: -9223372036854775808<=a)(h2:a<=9223372036854775807):wm a=a:=by
  have h1:=SO a;omega
theorem lD(a b:Int):IntKind.wrap .i64 (wm a+wm b)=wm (a+b):=wT (by
  have h1:=(SO a).1;have h2:=(SO b).1;omega)
theorem A2A(a b:Int):IntKind.wrap .i64 (wm a-wm b)=wm (a-b):=wT (by
  have h1:=(SO a).1;have h2:=(SO b).1;omega)
theorem A2B(a:Int):IntKind.wrap .i64 (0-wm a)=wm (-a):=wT (by
  have h1:=(SO a).1;omega)
theorem TV(a b:Int):IntKind.wrap .i64 (wm a*wm b)=wm (a*b):=wT (by
  have h1:=(SO a).1;have h2:=(SO b).1;obtain⟨x,hx⟩:=Int.dvd_of_emod_eq_zero h1;obtain⟨y,hy⟩:=Int.dvd_of_emod_eq_zero h2;have e1:wm a=a+18446744073709551616*x:=A0;have e2:wm b=b+18446744073709551616*y:=A0;rw[e1,e2];refine Int.emod_eq_zero_of_dvd ⟨a*y+x*b+18446744073709551616*(x*y),?_⟩;grind)
theorem D7:wm 0=0:=oZ A0 A0
theorem FP:wm 1=1:=oZ A0 A0
theorem A2C{a b:Nat}(hb:b<18446744073709551616):a &&&(18446744073709551616-(b+1))=0↔a%18446744073709551616 &&& b=a%18446744073709551616:=by
  have e:(18446744073709551616:Nat)=2^64:=BX;rw[e]at hb ⊢;rw[kY];constructor
  · intro h t ht;rw[Nat.testBit_mod_two_pow]at ht;simp at ht;have:=congrArg (λn=>n.testBit t) h;simp only[Nat.testBit_and,Nat.testBit_two_pow_sub_succ hb,Nat.zero_testBit,ht.2,Bool.true_and,ht.1,decide_true]at this;simpa using this
  intro h;refine dH λt=>?_
  rw[Nat.testBit_and,Nat.testBit_two_pow_sub_succ hb,Nat.zero_testBit];constructor
  · intro q;simp at q;have:=h t (by rw[Nat.testBit_mod_two_pow];simp[q.1,q.2.1]);rw[this]at q;simp at q
  intro q;cases q
theorem ABP{a b:Nat}(ha:a<18446744073709551616)(hb:b<18446744073709551616):(IntKind.wrap .u64 ((BitVec.ofInt (IntKind.bits .u64) (a:Int)&&& ~~~BitVec.ofInt (IntKind.bits .u64) (b:Int)).toNat:Int)==0)=tf (a &&& b=a):=by
  have e:(BitVec.ofInt (IntKind.bits .u64) (a:Int)&&& ~~~BitVec.ofInt (IntKind.bits .u64) (b:Int)).toNat=a &&&(18446744073709551616-(b+1)):=by
    show(BitVec.ofInt 64 _ &&& ~~~BitVec.ofInt 64 _).toNat=_
    rw[BitVec.toNat_and,BitVec.toNat_not,M9 ha,M9 hb];congr 1
    have:(2:Nat)^64=18446744073709551616:=BX;omega
  have hle:a &&&(18446744073709551616-(b+1))<=a:=Nat.and_le_left;rw[e,NM A0 A0];have hk:=A2C (a:=a) hb;rw[Nat.mod_eq_of_lt ha]at hk;by_cases q:a &&& b=a
  · rw[D2 q,hk.2 q];rfl
  rw[C8 q,beq_eq_false_iff_ne];intro z;exact q (hk.1 A0)
theorem TW{os:List Int}{pw:List (List Int)}{cj:List (List (List Int))}(hp:AF os pw cj)(hc:CG (pc os pw cj) 0):SJ os pw cj (BK os pw cj):=by
  obtain⟨Ms,hMs⟩:∃Ms,Ms=(List.range (2^nG os)).filter λm=>tf (oX os pw cj m):=⟨_,rfl⟩
  have hm:∀m,m∈Ms↔oX os pw cj m:=λm=>by
    rw[hMs,List.mem_filter,List.mem_range,JL];exact⟨λq=>q.2,λq=>⟨by obtain⟨S,_,e⟩:=q;rw[<-e];exact HC,q⟩⟩
  have D0:Ms.Nodup:=by rw[hMs];exact List.nodup_range.filter _
  have hex:SJ os pw cj ((Ms.map (LO os pw cj)).mergeSort λu v=>decide (GH os u v<=0)):=by
    refine TU hp hc D0 hm (List.mergeSort_perm _ _) ?_;have:=List.pairwise_mergeSort (le:=λu v=>decide (GH os u v<=0)) (λa b c h1 h2=>by
      simp only[decide_eq_true_eq]at h1 h2 ⊢;exact(aL h1 h2).1) (λa b=>by
      have:=JD (os:=os) a b;simp only[Bool.or_eq_true,decide_eq_true_eq];omega) (Ms.map (LO os pw cj))
    refine this.imp λ{u v} q=>?_
    have h2:=JD (os:=os) u v;simp only[decide_eq_true_eq]at q;omega
  rw[<-lA hex];exact hex
def XK(MK:List Nat)(i:Nat):Nat->Int:=sm λt=>if MK.getD i 0 &&& MK.getD (i+1+t) 0=MK.getD i 0 then (D6 MK).getD (i+1+t) 0 else 0
theorem wU{MK:List Nat}{i:Nat}(hi:i<MK.length):(D6 MK).getD i 0=if i+1=MK.length then 1 else-XK MK i (MK.length-(i+1)):=by
  have e:(D6 MK).getD i 0=(D6 (MK.drop i)).getD 0 0:=by rw[iW];simp
  rw[e,List.drop_eq_getElem_cons hi,D6];show(if MK.drop (i+1)=[]then (1:Int)else _)=_
  by_cases q:i+1=MK.length
  · rw[if_pos (List.drop_of_length_le A0),if_pos q]
  rw[if_neg (λz=>q (by have:=congrArg List.length z;simp at this;omega)),if_neg q,iW,List.length_drop];congr 1
  refine GG _ λt _=>?_
  have e1:(MK.drop (i+1)).getD t 0=MK.getD (i+1+t) 0:=AB;have e2:((D6 MK).drop (i+1)).getD t 0=(D6 MK).getD (i+1+t) 0:=AB;have e3:MK[i]=MK.getD i 0:=by simp[hi]
  rw[e1,e2,e3]
def U4(MK:List Nat)(k:Nat):Nat->Int:=λj=>if MK.length<=j+k then wm ((D6 MK).getD j 0)else 0
theorem p5{MK:List Nat}:D3 MK.length (U4 MK 0)=List.replicate MK.length (.i .i64 0):=by
  rw[CO];exact E1 λj hj=>by rw[U4,if_neg A0]
theorem wV{MK:List Nat}{i k:Nat}(hi:i+k+1=MK.length)(h:i+1=MK.length):D3 MK.length (AX (U4 MK k) i 1)=D3 MK.length (U4 MK (k+1)):=E1 λj hj=>by
  unfold AX U4;split
  · rename_i e;subst e;rw[if_pos A0,wU hj,if_pos h,FP]
  by_cases q:MK.length<=j+k
  · rw[if_pos q,if_pos A0]
  rw[if_neg q,if_neg A0]
theorem p6{MK:List Nat}{i k:Nat}(hi:i+k+1=MK.length)(h:i+1≠MK.length):D3 MK.length (AX (U4 MK k) i (wm (-XK MK i k)))=D3 MK.length (U4 MK (k+1)):=E1 λj hj=>by
  unfold AX U4;split
  · rename_i e;subst e;rw[if_pos A0,wU hj,if_neg h,show MK.length-(j+1)=k by omega]
  by_cases q:MK.length<=j+k
  · rw[if_pos q,if_pos A0]
  rw[if_neg q,if_neg A0]
theorem zV{MK:List Nat}{i k:Nat}(hi:i+k+1=MK.length):D3 MK.length (U4 MK k)=D3 MK.length (AX (U4 MK k) i (wm (-XK MK i 0))):=E1 λj hj=>by
  unfold AX;split
  · rename_i e;subst e;rw[U4,if_neg A0];exact D7.symm
  rfl
section
variable(os:List Int)(pw:List (List Int))(cj:List (List (List Int)))
theorem dV{cX n ops y s s1 K}(q:AW cX Tryz.prog y s1 K)(e:BV ops s s1:=by intro N hN;(try simp-dsimp-implicitDefEqProofs(maxSteps:=800000) (disch:=omega)only[go_sem,TV]);exact hN):BU cX n ops y s K:=BY q e
theorem RU(p:Int)(n:Nat)(hn:n<=1000):BI Tryz.prog 83 [.i .i64 (wm p),.i .i64 n] (.i .i64 (wm (p^n))):=by
 refine AD AA Tryz.func83 rfl A7 Tryz.ntmps83 Tryz.results83 (.i _ _) (λnx cX=>?_)
 refine dV ?_;refine dV ?_;refine AW.seq λN1 B2=>?_;refine dV ?_;apply AW.block;refine A8 (α:=Nat) (λx=>sl 14 [(0,.i .i64 (wm p)),(5,.i .i64 (wm (p^x))),(6,.i .i64 n),(7,.i .i64 x)]) (λ_=>BM) (λx m=>x<=n) (λx=>n-x) (0) ?_ ?_ (λ_ _ h=>h) ?_
 ·omega
 ·simp[AN,AO,sl,FP]
 skip
 rintro k m hk
 refine AG ?_;refine dV ?_;refine AW.seq λN2 B7=>?_;refine AW.cond rfl ?_ ?_<;>intro h1<;>try simp only[cn]at h1
 ·apply AW.skip;apply B7;refine AW.seq λN3 BC=>?_;apply AW.block;apply rQ;simp-dsimp-implicitDefEqProofs(maxSteps:=800000) (disch:=omega)only[go_sem,TV];apply BC;apply rQ;simp-dsimp-implicitDefEqProofs(maxSteps:=800000) (disch:=omega)only[go_sem,TV];refine⟨k+1,?_,λ_ _ h=>h,?_,?_⟩
  ·rw[show p^(k+1)=p^k*p from Int.pow_succ _ _];simp(disch:=omega) [AN,AO,sl,AR]
  ·omega
  first|omega|(simp only;omega)
 apply AW.exit;apply B2;refine dV ?_;refine AH ?_;refine it ?_
 rw[show n=k by omega]
set_option maxHeartbeats 1000000 in
theorem dW(a:AV)(ts:List AV)(MK:List Nat)(hl:ts.length=MK.length)(hN:MK.length<=4294967296)(hb:∀i,i<MK.length->MK.getD i 0<18446744073709551616):BI Tryz.prog 46 [.p 0 [a,.v ts.length ts,XH MK]] (ints ((D6 MK).map wm)):=by
 refine B5 AA Tryz.func46 rfl A7 Tryz.ntmps46 Tryz.results46 ((GV _)) (λnx cX=>?_)
 refine YH hl ?_;refine YH hl ?_;refine AW.seq λN1 B2=>?_;refine YH hl ?_;apply AW.block;refine A8 (α:=Nat) (λx=>sl 62 [(0,.p 0 [a,.v ts.length ts,XH MK]),(3,.h (nx+1+5) 0 MK.length),(4,.i .i64 ((MK.length:Int)-1-x))]) (λx=>AT BM (nx+1+5) (some (D3 MK.length (U4 MK x)))) (λx m=>x<=MK.length) (λx=>MK.length-x) (0) ?_ ?_ (by rw[p5];exact Le.refl _) ?_
 ·omega
 ·simp(disch:=omega) [AN,AO,sl,hl,XH]
 skip
 rintro k m hk
 refine AG ?_;refine AW.seq λN2 B7=>?_;refine YH hl ?_;refine AW.cond rfl ?_ ?_<;>intro h1<;>try simp only[cn]at h1
 ·have MU:k<MK.length:=A0;obtain⟨i,hi⟩:∃i,MK.length-1-k=i:=⟨_,rfl⟩;have e0:(MK.length:Int)-1-k=i:=A0;have T4:i+k+1=MK.length:=A0;have T9:i<MK.length:=A0;rw[e0];apply AW.skip;apply B7;refine AW.seq λN3 BC=>?_;apply AW.block;refine AW.seq λN4 CF=>?_;refine YH hl ?_;refine AW.cond rfl ?_ ?_<;>intro h2<;>try simp only[cn]at h2
  ·have FH:i+1=MK.length:=A0;have IA:=wV T4 FH;have qB:B3 (D3 MK.length (U4 MK k)) i [.i .i64 1]=D3 MK.length (U4 MK (k+1)):=by rw[K1 T9,IA]
   refine sQ λN hN=>?_;simp-dsimp-implicitDefEqProofs(maxSteps:=800000) (disch:=omega)only[go_sem,List.length_map,CR,XH,hl,qB];apply hN;apply AW.exit;apply BC;apply rQ;simp-dsimp-implicitDefEqProofs(maxSteps:=800000) (disch:=omega)only[go_sem,List.length_map,XH,hl];refine⟨k+1,?_,λ_ _ h=>h,?_,?_⟩
   ·simp(disch:=omega) [AN,AO,sl,hl,XH,AR]<;>omega
   ·first|omega|(dsimp only;omega)
   first|omega|(simp only;omega)
  have FH:i+1≠MK.length:=A0;have KG:=wS T9;have hbi:=hb i T9;apply AW.skip;apply CF;refine YH hl ?_;apply AW.block;refine A8 (α:=Nat) (λx=>sl 62 [(0,.p 0 [a,.v ts.length ts,XH MK]),(3,.h (nx+1+5) 0 MK.length),(4,.i .i64 i),(5,.i .i64 ((i+1+x:Nat):Int))]) (λx=>AT BM (nx+1+5) (some (D3 MK.length (AX (U4 MK k) i (wm (-XK MK i x)))))) (λx m=>x<=k) (λx=>k-x) (0) ?_ ?_ (by rw[<-zV T4];exact Le.refl _) ?_
  ·omega
  ·simp(disch:=omega) [AN,AO,sl,hl,XH]
  skip
  rintro q m2 hq;refine AG ?_;refine AW.seq λN5 DL=>?_;refine YH hl ?_;refine AW.cond rfl ?_ ?_<;>intro h3<;>try simp only[cn]at h3
  ·have nY:i+1+q<MK.length:=A0;have ABQ:=wS nY;have Lz:=hb _ nY;have hs:XK MK i (q+1)=XK MK i q+if MK.getD i 0 &&& MK.getD (i+1+q) 0=MK.getD i 0 then (D6 MK).getD (i+1+q) 0 else 0:=rfl
   apply AW.skip;apply DL;refine AW.seq λN6 FR=>?_;apply AW.block;refine AW.seq λN hN=>?_;refine AM AA A7 16 A7 ?_
   (try simp-dsimp-implicitDefEqProofs(maxSteps:=800000) (disch:=omega)only[go_sem,List.drop_nil,List.drop_succ_cons,List.drop_zero,List.length_map,List.take_nil,List.take_succ_cons,List.take_zero,BW,BE,BF,XH,ABP,AR,hl,KG,ABQ]);apply hN;refine AW.cond rfl ?_ ?_<;>intro h4<;>try simp only[cn]at h4
   ·have hx:XK MK i (q+1)=XK MK i q+(D6 MK).getD (i+1+q) 0:=by rw[hs,if_pos h4]
    have PI:(D3 MK.length (AX (U4 MK k) i (wm (-XK MK i q)))).getD i .j= .i .i64 (wm (-XK MK i q)):=by rw[a8 T9];simp[AX]
    have KV:(D3 MK.length (AX (U4 MK k) i (wm (-XK MK i q)))).getD (i+1+q) .j= .i .i64 (wm ((D6 MK).getD (i+1+q) 0)):=by rw[a8 nY,AX,if_neg A0,U4,if_pos A0]
    have qB:B3 (D3 MK.length (AX (U4 MK k) i (wm (-XK MK i q)))) i [.i .i64 (wm (-XK MK i q-(D6 MK).getD (i+1+q) 0))]=D3 MK.length (AX (U4 MK k) i (wm (-XK MK i (q+1)))):=by
     rw[K1 T9,hx,show-XK MK i q-(D6 MK).getD (i+1+q) 0= -(XK MK i q+(D6 MK).getD (i+1+q) 0) by omega];exact E1 λj _=>by unfold AX;split<;>rfl
    refine AM AA A7 10 A7 ?_;(try simp-dsimp-implicitDefEqProofs(maxSteps:=800000) (disch:=omega)only[go_sem,List.drop_nil,List.drop_succ_cons,List.drop_zero,List.length_map,List.take_nil,List.take_succ_cons,List.take_zero,BW,BE,BF,CR,XH,AR,A2A,hl,PI,KV,qB]);apply FR;apply rQ;simp-dsimp-implicitDefEqProofs(maxSteps:=800000) (disch:=omega)only[go_sem,List.length_map,XH,hl];refine⟨q+1,?_,λ_ _ h=>h,?_,?_⟩
    ·simp(disch:=omega) [AN,AO,sl,hl,XH,AR]<;>omega
    ·first|omega|(dsimp only;omega)
    first|omega|(simp only;omega)
   have hx:XK MK i (q+1)=XK MK i q:=by rw[hs,if_neg h4,Int.add_zero]
   apply AW.skip;apply FR;apply rQ;simp-dsimp-implicitDefEqProofs(maxSteps:=800000) (disch:=omega)only[go_sem,List.length_map,XH,hl];refine⟨q+1,?_,by rw[hx];exact Le.refl _,?_,?_⟩
   ·simp(disch:=omega) [AN,AO,sl,hl,XH,AR]<;>omega
   ·first|omega|(dsimp only;omega)
   first|omega|(simp only;omega)
  obtain rfl:q=k:=A0;have oG:=p6 T4 FH;apply AW.exit;apply BC;apply rQ;simp-dsimp-implicitDefEqProofs(maxSteps:=800000) (disch:=omega)only[go_sem,List.length_map,XH,hl];refine⟨q+1,?_,by rw[oG];exact Le.refl _,?_,?_⟩
  ·simp(disch:=omega) [AN,AO,sl,hl,XH,AR]<;>omega
  ·first|omega|(dsimp only;omega)
  first|omega|(simp only;omega)
 apply AW.exit;apply B2;refine YH hl ?_;refine AH ?_;obtain rfl:k=MK.length:=A0
 refine UK ?_ (by rw[List.length_map,FN])
 rw[A4,List.map_map]
 refine congrArg some (List.ext_getElem? λj=>?_)
 rw[D3,List.getElem?_map,List.getElem?_map]
 by_cases hj:j<MK.length
 ·rw[List.getElem?_range hj,List.getElem?_eq_getElem (by rw[FN];exact hj)];simp[U4,FN,hj]
 rw[List.getElem?_eq_none (by simp;omega),List.getElem?_eq_none (by rw[FN];omega)];rfl
end
section
variable{os:List Int}{pw:List (List Int)}{cj:List (List (List Int))}(h:AF os pw cj)(hc:CG (pc os pw cj) 0)
include h hc
theorem R9:(BK os pw cj).length<=2^nG os:=by
  have hL:=TW h hc;have:=sN (DM os (pc os pw cj) (BK os pw cj)) (List.range (2^nG os)) (by
    rw[List.Nodup,List.pairwise_iff_getElem];intro i j hi hj NZ e;have HM:i<(BK os pw cj).length:=by rw[EG]at hi;exact hi
    have fM:j<(BK os pw cj).length:=by rw[EG]at hj;exact hj
    have e2:HK os (GL (pc os pw cj) (BK os pw cj)[i])=HK os (GL (pc os pw cj) (BK os pw cj)[j]):=by simpa[DM]using e
    have:=aM h hc hL HM fM (QX h (λ_ q=>(GI h hc hL HM).1.n q) (λ_ q=>(GI h hc hL fM).1.n q) e2);omega) λm hm=>by
    obtain⟨l,_,rfl⟩:=List.mem_map.1 hm;exact List.mem_range.2 HC
  rwa [EG,List.length_range]at this
theorem aS:0<(BK os pw cj).length:=by
  obtain⟨q,_⟩:=oO h hc (TW h hc);omega
theorem wW{j:Nat}(hj:j<(BK os pw cj).length):((BK os pw cj).getD j []).length<=6/\(∀k,k<((BK os pw cj).getD j []).length->E4 os.length (((BK os pw cj).getD j []).getD k z0)<os.length)/\1<=JR os ((BK os pw cj).getD j [])/\JR os ((BK os pw cj).getD j [])<=nG os:=by
  obtain⟨h1,h2⟩:=GI h hc (TW h hc) hj;have hg:(BK os pw cj).getD j []=(BK os pw cj)[j]:=by simp[hj]
  rw[hg];have hl:=h2.len;have hn:(pc os pw cj).n=os.length:=rfl;have:=h.1.1;have hs:=dJ h hc h1 h2;have hb:(W4 os (GL (pc os pw cj) (BK os pw cj)[j])).length<=nG os:=by
    rw[W4,List.length_map];exact Nat.le_trans (List.length_filter_le _ _) (by rw[List.length_range];exact Nat.le_refl _)
  have hm:z0∈W4 os (GL (pc os pw cj) (BK os pw cj)[j]):=(OL h λ_ q=>h1.n q).2 h1.e;have hp:=List.length_pos_of_mem hm;exact⟨A0,λk hk=>(h2.at (u:=(BK os pw cj)[j].getD k z0) (by simp[hk])).1,A0,A0⟩
end
section
variable(os:List Int)(pw:List (List Int))(cj:List (List (List Int)))
theorem SP(h:AF os pw cj)(hc:CG (pc os pw cj) 0)(HL:nG os<=32):BI Tryz.prog 46 [XI os pw cj] (ints ((D6 (DM os (pc os pw cj) (BK os pw cj))).map wm)):=by
  have h2:=I3 HL;have hl:=R9 h hc;have:=dW (A5 os pw cj) ((BK os pw cj).map (AZ os.length)) (DM os (pc os pw cj) (BK os pw cj)) (by rw[List.length_map,EG]) (by rw[EG];omega) (λi hi=>by
    rw[EG]at hi;rw[QY hi];have:=HC (os:=os) (S:=GL (pc os pw cj) (BK os pw cj)[i]);omega)
  rw[List.length_map]at this;exact this
set_option maxHeartbeats 1000000 in
theorem QJ(h:AF os pw cj)(hc:CG (pc os pw cj) 0)(HL:nG os<=32)(c:Nat)(LP:c<=1000):BI Tryz.prog 32 [XI os pw cj,.i .i64 c] (.i .i64 (wm (W5 os (pc os pw cj) c))):=by
 have h2:=I3 HL
 have Ma:=R9 h hc
 have hL:=TW h hc
 have ZW:=SP os pw cj h hc HL
 have Rv:=dL h hc hL c
 have Z5:((D6 (DM os (pc os pw cj) (BK os pw cj))).map wm).length=(BK os pw cj).length:=by rw[List.length_map,FN,EG]
 obtain⟨L,mJ⟩:∃L,BK os pw cj=L:=⟨_,rfl⟩
 obtain⟨mb,sP⟩:∃mb,D6 (DM os (pc os pw cj) (BK os pw cj))=mb:=⟨_,rfl⟩
 rw[sP]at ZW Rv Z5
 have HJ:mb.length=(BK os pw cj).length:=by rw[<-Z5,List.length_map]
 have iZ:=λj=>wW h hc (j:=j)
 rw[mJ]at Rv Z5 HJ Ma iZ
 refine AD AA Tryz.func32 rfl A7 Tryz.ntmps32 Tryz.results32 (.i _ _) (λnx cX=>?_)
 refine jR HJ ?_;refine jR HJ ?_;refine AW.seq λN1 B2=>?_;refine sQ λN hN=>?_;(try simp-dsimp-implicitDefEqProofs(maxSteps:=800000) (disch:=omega)only[go_sem,List.length_map,AL,ints,HJ]);refine AC.pure (.of (ZW)) ?_;simp only[ints,Z5];refine AG ?_
 apply hN;apply AW.block;refine A8 (α:=Nat) (λx=>sl 36 [(0,XI os pw cj),(1,.i .i64 c),(5,.i .i64 (wm (sm (λj=>mb.getD j 0*JR os (L.getD j [])^c) x))),(9,.v L.length ((mb.map wm).map (.i .i64))),(10,.i .i64 L.length),(11,.i .i64 x)]) (λ_=>BM) (λx m=>x<=L.length) (λx=>L.length-x) (0) ?_ ?_ (λ_ _ h=>h) ?_
 ·omega
 ·simp(disch:=omega) [AN,AO,sl,sm,D7]
 skip
 rintro k m hk
 refine AG ?_;refine jR HJ ?_;refine AW.seq λN2 B7=>?_;refine AW.cond rfl ?_ ?_<;>intro h1<;>try simp only[cn]at h1
 ·have MU:k<L.length:=A0;have hgm:(mb.map wm).getD k 0=wm (mb.getD k 0):=by simp[show k<mb.length by omega]
  have KG:=NP (n:=os.length) MU;obtain⟨m1,m2,m3,m4⟩:=iZ k MU;obtain⟨u,hu⟩:∃u,L.getD k []=u:=⟨_,rfl⟩;rw[hu]at KG m1 m2 m3 m4;have FV:=MI os pw cj h u m1 m2;rw[show NJ os u u.length=wm (JR os u)from (oZ (a:=JR os u) A0 A0).symm]at FV;have hs:sm (λj=>mb.getD j 0*JR os (L.getD j [])^c) (k+1)=sm (λj=>mb.getD j 0*JR os (L.getD j [])^c) k+mb.getD k 0*JR os u^c:=by rw[<-hu];rfl
  apply AW.skip;apply B7;refine AW.seq λN3 BC=>?_;apply AW.block;refine sQ λN hN=>?_;simp-dsimp-implicitDefEqProofs(maxSteps:=800000) (disch:=omega)only[go_sem,List.length_map,AL,ints,HJ,hgm];apply hN;refine AM AA A7 19 A7 ?_
  (try simp-dsimp-implicitDefEqProofs(maxSteps:=800000) (disch:=omega)only[go_sem,List.drop_nil,List.drop_succ_cons,List.drop_zero,List.length_map,List.take_nil,List.take_succ_cons,List.take_zero,AL,BW,BE,BF,ints,XI,AR,HJ,mJ,KG]);refine⟨_,.of (FV),?_⟩;(try simp-dsimp-implicitDefEqProofs(maxSteps:=800000) (disch:=omega)only[go_sem,List.length_map,AL,ints,HJ])
  refine⟨_,.of (RU (JR os u) c LP),?_⟩;(try simp-dsimp-implicitDefEqProofs(maxSteps:=800000) (disch:=omega)only[go_sem,lD,TV])
  apply BC;apply rQ;simp-dsimp-implicitDefEqProofs(maxSteps:=800000) (disch:=omega)only[go_sem,List.length_map,AL,ints,HJ];refine⟨k+1,?_,λ_ _ h=>h,?_,?_⟩
  ·rw[hs];simp(disch:=omega) [AN,AO,sl,AR,XI,mJ]
  ·first|omega|(dsimp only;omega)
  first|omega|(simp only;omega)
 apply AW.exit;apply B2;refine jR HJ ?_;refine AH ?_;rw[show k=L.length by omega,Rv]
theorem sR(h:AF os pw cj)(HL:nG os<=32){c:Nat}(hc6:c<=6):wm (W5 os (pc os pw cj) c)=W5 os (pc os pw cj) c:=by
  have h1:=Gx (os:=os) (pw:=pw) (cj:=cj) c;have h2:nG os^c<=32^6:=Nat.le_trans (Nat.pow_le_pow_left HL c) (Nat.pow_le_pow_right A0 hc6);exact oZ A0 A0
noncomputable def aU(os:List Int)(pw:List (List Int))(cj:List (List (List Int))):Int:=if tf (AF os pw cj/\CG (pc os pw cj) 0)=true then (if CV os os.length<=32 then 0 else 3)else 1
noncomputable def p7(os:List Int)(pw:List (List Int))(cj:List (List (List Int)))(k:Int):AV:=
  if aU os pw cj=0 then (if 0<=k/\k<=6 then F3 (W5 os (pc os pw cj) k.toNat) 0 else F3 0 2)else F3 0 (aU os pw cj)
theorem Hz(k:Int):NR (p7 os pw cj k):=by
  unfold p7;split
  · split
    · exact M6 _ _
    exact M6 _ _
  exact M6 _ _
theorem A7F(h:¬(AF os pw cj/\CG (pc os pw cj) 0)):aU os pw cj=1:=by rw[aU,C8 h];rfl
theorem A7G(h:AF os pw cj/\CG (pc os pw cj) 0)(h2:¬CV os os.length<=32):aU os pw cj=3:=by rw[aU,D2 h,if_pos rfl,if_neg h2]
theorem A7H(h:AF os pw cj/\CG (pc os pw cj) 0)(h2:CV os os.length<=32):aU os pw cj=0:=by rw[aU,D2 h,if_pos rfl,if_pos h2]
theorem Ia(hl:GB os pw cj):(aU os pw cj=1/\BI Tryz.prog 30 [A5 os pw cj] (.t [.c (.pointer none),.i .i64 1]))\/(aU os pw cj=3/\BI Tryz.prog 30 [A5 os pw cj] (.t [.c (.pointer none),.i .i64 3]))\/
    ((aU os pw cj=0/\AF os pw cj/\CG (pc os pw cj) 0/\nG os<=32)/\BI Tryz.prog 30 [A5 os pw cj] (.t [XI os pw cj,.i .i64 0])):=by
  have hq:=FF os pw cj hl;by_cases h:AF os pw cj/\CG (pc os pw cj) 0
  · by_cases h2:CV os os.length<=32
    · rw[dR h h2]at hq;exact .inr (.inr ⟨⟨A7H os pw cj h h2,h.1,h.2,by have:=GR h.1;omega⟩,hq⟩)
    rw[Hw h h2]at hq;exact .inr (.inl ⟨A7G os pw cj h h2,hq⟩)
  rw[Hv h]at hq;exact .inl ⟨A7F os pw cj h,hq⟩
theorem MO(hl:GB os pw cj)(k:Int):BI Tryz.prog 7 [AP os pw cj,.i .i64 k] (p7 os pw cj k):=by
 refine AD AA Tryz.func7 rfl A7 Tryz.ntmps7 Tryz.results7 (Hz _ _ _ _) (λnx cX=>?_)
 refine C2 ?_;refine AK 2 nx _ rfl (A4 _ _ _) ?_
 refine AG ?_;refine sQ λN hN=>?_;refine BR ?_;rcases Ia os pw cj hl with ⟨e0,hq⟩|⟨e0,hq⟩|⟨⟨e0,h,hc,HL⟩,hq⟩
 ·skip
  refine KP hq ?_
  apply hN;refine AW.seq λN1 B2=>?_;refine C2 ?_;refine CI rfl ?_;refine C2 ?_;refine AH ?_;rw[p7,e0];rfl
 ·skip
  refine KP hq ?_
  apply hN;refine AW.seq λN2 B7=>?_;refine C2 ?_;refine CI rfl ?_;refine C2 ?_;refine AH ?_;rw[p7,e0];rfl
 skip
 refine KP hq ?_
 apply hN;refine AW.seq λN3 BC=>?_;refine C2 ?_;refine B4 rfl ?_;apply AW.skip;apply BC;refine AW.seq λN4 CF=>?_;refine OS (OT k) ?_;refine AW.cond rfl ?_ ?_<;>intro h1<;>try simp only[cn]at h1
 ·refine C2 ?_;refine AH ?_;rw[p7,e0,if_pos rfl,if_neg h1];rfl
 have dT:=h1.2
 obtain⟨c,rfl⟩:=Int.eq_ofNat_of_zero_le h1.1
 apply AW.skip;apply CF;refine OS (QJ os pw cj h hc HL c A0) ?_;refine AH ?_;rw[p7,e0,if_pos rfl,if_pos h1,sR os pw cj h HL A0];rfl
theorem Ib(h:AF os pw cj)(hc:CG (pc os pw cj) 0):∃r,r<=os.length/\0<W5 os (pc os pw cj) r/\∀c,c<r->W5 os (pc os pw cj) c=0:=by
  have hn:=A70 h hc;have go:∀d r,r+d=os.length->(∀c,c<r->W5 os (pc os pw cj) c=0)->∃r,r<=os.length/\0<W5 os (pc os pw cj) r/\∀c,c<r->W5 os (pc os pw cj) c=0:=by
    intro d;induction d with
    |zero=>intro r hr hz;exact⟨r,A0,by rw[show r=os.length by omega];exact hn,hz⟩
    | succ d ih=>
      intro r hr hz;have hb:=(Gx (os:=os) (pw:=pw) (cj:=cj) r).1;by_cases q:0<W5 os (pc os pw cj) r
      · exact⟨r,A0,q,hz⟩
      refine ih (r+1) A0 λc hcr=>?_
      by_cases e:c=r
      · subst e;omega
      exact hz c A0
  exact go os.length 0 A0 λc hc=>A0
noncomputable def Ic(os:List Int)(pw:List (List Int))(cj:List (List (List Int))):Nat:=open Classical in if h:∃r,r<=os.length/\0<W5 os (pc os pw cj) r/\∀c,c<r->W5 os (pc os pw cj) c=0 then Classical.choose h else 0
theorem Ie(h:AF os pw cj)(hc:CG (pc os pw cj) 0):Ic os pw cj<=os.length/\0<W5 os (pc os pw cj) (Ic os pw cj)/\∀c,c<Ic os pw cj->W5 os (pc os pw cj) c=0:=by
  have hx:=Ib os pw cj h hc;rw[Ic,dif_pos hx];exact Classical.choose_spec hx
theorem PF(hl:GB os pw cj)(h:AF os pw cj)(hc:CG (pc os pw cj) 0)(HL:nG os<=32):BI Tryz.prog 9 [AP os pw cj] (F3 (Ic os pw cj) 0):=by
 have FU:=h.1.1
 obtain⟨Z1,Vo,hr3⟩:=Ie os pw cj h hc
 have hq:=FF os pw cj hl
 rw[dR ⟨h,hc⟩ (by have:=GR h;omega)]at hq
 obtain⟨R,hR⟩:∃R,Ic os pw cj=R:=⟨_,rfl⟩
 rw[hR]at Z1 Vo hr3 ⊢
 refine AD AA Tryz.func9 rfl A7 Tryz.ntmps9 Tryz.results9 (M6 _ _) (λnx cX=>?_)
 refine C2 ?_;refine AK 1 nx _ rfl (A4 _ _ _) ?_
 refine AG ?_;refine OS (hq) ?_;refine AW.seq λN1 B2=>?_;refine C2 ?_;refine B4 rfl ?_;apply AW.skip;apply B2;refine C2 ?_;refine AW.seq λN2 B7=>?_;apply AW.block;refine A8 (α:=Nat) (λx=>sl 21 [(4,XI os pw cj),(6,.i .i64 x)]) (λ_=>BM) (λx m=>x<=R) (λx=>R-x) (0) ?_ ?_ (by intro d cs hd;cases hd) ?_
 ·omega
 ·simp(disch:=omega) [AN,AO,sl]
 skip
 rintro k m hk
 refine AG ?_;have htp:=QJ os pw cj h hc HL k A0
 rw[sR os pw cj h HL A0]at htp
 refine AW.seq λN3 BC=>?_;refine OS (htp) ?_;refine AW.cond rfl ?_ ?_<;>intro h1<;>try simp only[cn]at h1
 ·have hkR:k<R:=by
   rcases Nat.lt_or_ge k R with q|q
   ·exact q
   rw[show k=R by omega]at h1;omega
  apply AW.skip;apply BC;apply AW.block;refine KT ?_;refine⟨k+1,?_,λ_ _ h=>h,?_,?_⟩
  ·simp(disch:=omega) [AN,AO,sl,AR,ints,rows,A6,AP,AR]<;>omega
  ·first|omega|(dsimp only;omega)
  first|omega|(simp only;omega)
 have hkR:k=R:=by
  rcases Nat.lt_or_ge k R with q|q
  ·exact absurd (hr3 k q) h1
  omega
 apply AW.exit;apply B7;refine C2 ?_;refine AH ?_;rw[hkR];rfl
theorem FQ(hl:GB os pw cj)(h:AF os pw cj)(hc:CG (pc os pw cj) 0)(HL:nG os<=32):BI Tryz.prog 12 [AP os pw cj] (.t [.v (BK os pw cj).length ((BK os pw cj).map (AZ os.length)),.i .i64 0]):=by
 have hq:=FF os pw cj hl
 rw[dR ⟨h,hc⟩ (by have:=GR h;omega)]at hq
 refine AD AA Tryz.func12 rfl A7 Tryz.ntmps12 Tryz.results12 (lC (aR _) (.i _ _)) (λnx cX=>?_)
 refine C2 ?_;refine AK 1 nx _ rfl (A4 _ _ _) ?_
 refine AG ?_;refine OS (hq) ?_;refine AW.seq λN1 B2=>?_;refine C2 ?_;refine B4 rfl ?_;apply AW.skip;apply B2;refine sQ λN hN=>?_;simp-dsimp-implicitDefEqProofs(maxSteps:=800000) (disch:=omega)only[go_sem,XI,AP];apply hN;apply AW.ret;simp-dsimp-implicitDefEqProofs(disch:=omega)only[go_sem];skip
end
theorem VB{cX n ops y s s1 K}(q:AW cX Tryz.prog y s1 K)(e:BV ops s s1:=by intro N hN;(try simp-dsimp-implicitDefEqProofs(maxSteps:=800000) (disch:=omega)only[go_sem,Bool.not_true,J0,AP,A5,AZ,E9]);exact hN):BU cX n ops y s K:=BY q e
theorem Ig{cX n ops y s s1 K f Zz r}(x:BI Tryz.prog f Zz r)(q:AW cX Tryz.prog y s1 K)(e:BI Tryz.prog f Zz r->BV ops s s1:=by intro x N hN;(try simp-dsimp-implicitDefEqProofs(maxSteps:=800000) (disch:=omega)only[go_sem,Bool.not_true,J0,AP,A5,AZ,E9]);refine AC.pure (.of x) ?_;(try simp-dsimp-implicitDefEqProofs(maxSteps:=800000) (disch:=omega)only[go_sem,Bool.not_true,J0,AP,A5,AZ,E9]);exact hN):BU cX n ops y s K:=BY q (e x)
theorem sS{cX n ops s}{K:Exit->St->Prop}{Q:Prop}{R0:Prop}(r0:R0)(q:Q)(e:R0->Q->DW env Tryz.prog ops s.nx ops 0 ⟨s.t,s.H,s.nx+ops.length⟩ (K .normal):=by intro h0 q;(try simp-dsimp-implicitDefEqProofs(maxSteps:=800000) (disch:=omega)only[go_sem,Bool.not_false,Bool.not_true,beq_self_eq_true,bne_self_eq_false,F3,lD,h0]);exact q):AW cX Tryz.prog (.region n ops.toArray false) s K:=rQ (e r0 q)
end Go.Proofs.YtgknbnkmilddhaaGreat

namespace Go.Proofs.YtgknbnkmilddhaaGreat
theorem VC{n:Nat}{us:List V}:AZ n us=rows (us.map (vec n)):=by
  unfold AZ rows;rw[List.map_map,List.length_map];congr 1
  refine List.map_congr_left λx _=>?_
  exact(E3).symm
section
variable(os:List Int)(pw:List (List Int))(cj:List (List (List Int)))
theorem sU{us vs:List V}(hu:∀x∈us,T (pc os pw cj) 0 x)(hw:∀x∈vs,T (pc os pw cj) 0 x):us.map (vec os.length)=vs.map (vec os.length)↔us=vs:=by
  refine⟨λe=>?_,λe=>by rw[e]⟩;induction us generalizing vs with
  | nil=>
    cases vs with
    |nil=>rfl
    |cons b vs=>simp at e
  | cons a us ih=>
    cases vs with
    |nil=>simp at e
    | cons b vs=>
      rw[List.map_cons,List.map_cons,List.cons.injEq]at e;rw[(T.rL (hu a List.mem_cons_self) (hw b List.mem_cons_self)).1 e.1,ih (λx hx=>hu x (List.mem_cons_of_mem _ hx)) (λx hx=>hw x (List.mem_cons_of_mem _ hx)) e.2]
theorem P1(hn:os.length<=1000){us vs:List V}(hl:us.length<=1000)(O1:vs.length<=1000)(hu:∀x∈us,T (pc os pw cj) 0 x)(hw:∀x∈vs,T (pc os pw cj) 0 x):BI Tryz.prog 49 [AZ os.length us,AZ os.length vs] (.b (tf (us=vs))):=by
  have hr:∀us:List V,us.length<=1000->BO (us.map (vec os.length)):=λus hl=>⟨by rw[List.length_map];omega,λx hx=>by obtain⟨a,_,rfl⟩:=List.mem_map.1 hx;rw[BL];omega⟩
  have:=XF (us.map (vec os.length)) (vs.map (vec os.length)) (hr us hl) (hr vs O1);rw[bQ (sU os pw cj hu hw)]at this;rw[VC,VC];exact this
end
end Go.Proofs.YtgknbnkmilddhaaGreat

namespace Go.Proofs.YtgknbnkmilddhaaGreat
theorem Ih{os:List Int}{pw:List (List Int)}{cj:List (List (List Int))}{us:List V}(hu:∀x∈us,T (pc os pw cj) 0 x):YY os (us.map (vec os.length)):=λk hk=>by
  rw[List.length_map]at hk;have h1:(us.map (vec os.length)).getD k []=vec os.length us[k]:=by simp[hk]
  have h2:=hu us[k] (List.getElem_mem hk);rw[h1];refine⟨BL,λj hj=>?_⟩;rw[BL]at hj;have h3:=h2.r j (Nat.zero_le _) hj;have h4:(vec os.length us[k]).getD j 0=us[k] j:=by simp[vec,hj]
  have h5:(pc os pw cj).o j=os.getD j 0:=rfl;rw[h4];omega
theorem J0{a:AV}{k:Nat}(h:k<1):[a].getD k .j=a:=by
  obtain rfl:k=0:=A0;rfl
section
variable(os:List Int)(pw:List (List Int))(cj:List (List (List Int)))
set_option maxHeartbeats 1000000 in
theorem RV(hl:GB os pw cj)(hg:Ed os pw cj)(us:List V)(hT:∀x∈us,T (pc os pw cj) 0 x)(hn:us.length<=os.length)(JN:RL (pc os pw cj) us=us):BI Tryz.prog 45 [A5 os pw cj,.v 1 [AZ os.length us]] (.b true):=by
 have FU:=hg.1.1.1
 have hx:=Ih hT
 have A7I:BI Tryz.prog 40 [AP os pw cj] (.b true):=by
  have h1:=FK os pw cj hl;rw[D2 ⟨hg.1,hg.2⟩]at h1;exact h1
 have Y5:=M8 os pw cj hg.1 hg.2 us A0 hT
 rw[JN]at Y5
 have yX:=P1 os pw cj A0 A0 A0 hT hT
 rw[D2 rfl]at yX
 have hie:∀k,k<us.length->BI Tryz.prog 101 [A5 os pw cj,vi os.length (us.getD k z0)] (.b true):=λk hk=>by
  have DN:k<(us.map (vec os.length)).length:=by rw[List.length_map];exact hk
  have h1:=JV os pw cj ((us.map (vec os.length)).getD k []) A0 (AF.ob (pw:=pw) (cj:=cj) hg.1.2.1) (by have:=(hx k DN).1;omega);rw[D2 (hx k DN)]at h1;have e:ints ((us.map (vec os.length)).getD k [])=vi os.length (us.getD k z0):=by simp[hk,E3]
  rwa [e]at h1
 refine AD AA Tryz.func45 rfl A7 Tryz.ntmps45 Tryz.results45 (.b _) (λnx cX=>?_)
 refine VB ?_;refine AW.seq λN1 B2=>?_;refine Ig (A7I) ?_;refine B4 rfl ?_;apply AW.skip;apply B2;refine AW.seq λN2 B7=>?_;refine VB ?_;apply AW.block;refine A8 (α:=Nat) (λx=>sl 46 [(0,A5 os pw cj),(14,.v 1 [AZ os.length us]),(15,.i .i64 1),(16,.i .i64 x)]) (λ_=>BM) (λx m=>x<=1) (λx=>1-x) (0) ?_ ?_ (λ_ _ h=>h) ?_
 ·omega
 ·simp(disch:=omega) [AN,AO,sl,A5,AZ]
 skip
 rintro k m hk
 refine AG ?_;refine VB ?_;refine AW.seq λN3 BC=>?_;refine AW.cond rfl ?_ ?_<;>intro h1<;>try simp only[cn]at h1
 ·apply AW.skip;apply BC;refine AW.seq λN4 CF=>?_;apply AW.block;refine VB ?_;refine AW.seq λN5 DL=>?_;refine VB ?_;refine AW.cond rfl ?_ ?_<;>intro h2<;>try simp only[cn]at h2
  ·exact absurd h2 A0
  apply AW.skip;apply DL;refine AW.seq λN6 FR=>?_;refine VB ?_;apply AW.block;refine A8 (α:=Nat) (λx=>sl 46 [(0,A5 os pw cj),(6,AZ os.length us),(14,.v 1 [AZ os.length us]),(15,.i .i64 1),(16,.i .i64 k),(28,AZ os.length us),(29,.i .i64 us.length),(30,.i .i64 x)]) (λ_=>BM) (λx m=>x<=us.length) (λx=>us.length-x) (0) ?_ ?_ (λ_ _ h=>h) ?_
  ·omega
  ·simp(disch:=omega) [AN,AO,sl,A5,AZ]
  skip
  rintro j m2 hj;refine AG ?_;refine VB ?_;refine AW.seq λN7 MV=>?_;refine AW.cond rfl ?_ ?_<;>intro h3<;>try simp only[cn]at h3
  ·apply AW.skip;apply MV;refine AW.seq λN8 OB=>?_;apply AW.block;refine VB ?_;refine Ig (hie j A0) ?_;refine B4 rfl ?_;apply AW.skip;apply OB;apply rQ;simp-dsimp-implicitDefEqProofs(maxSteps:=800000) (disch:=omega)only[go_sem,Bool.not_true,J0,AP,A5,AZ,E9];refine⟨j+1,?_,λ_ _ h=>h,?_,?_⟩
   ·simp(disch:=omega) [AN,AO,sl,AR,ints,rows,A6,AP,A5,AZ,J0,E9,AR,Bool.not_true]<;>omega
   ·omega
   first|omega|(simp only;omega)
  apply AW.exit;apply FR;refine sQ λN hN=>?_;(try simp-dsimp-implicitDefEqProofs(maxSteps:=800000) (disch:=omega)only[go_sem,Bool.not_true,J0,AP,A5,AZ,E9]);refine AC.pure (.of (Y5)) ?_;(try simp-dsimp-implicitDefEqProofs(maxSteps:=800000) (disch:=omega)only[go_sem,Bool.not_true,J0,AP,A5,AZ,E9])
  refine AC.pure (.of (yX)) ?_;(try simp-dsimp-implicitDefEqProofs(maxSteps:=800000) (disch:=omega)only[go_sem,Bool.not_true,J0,AP,A5,AZ,E9])
  apply hN;refine B4 rfl ?_;apply AW.skip;apply CF;apply rQ;simp-dsimp-implicitDefEqProofs(maxSteps:=800000) (disch:=omega)only[go_sem,Bool.not_true,J0,AP,A5,AZ,E9];refine⟨k+1,?_,λ_ _ h=>h,?_,?_⟩
  ·simp(disch:=omega) [AN,AO,sl,AR,ints,rows,A6,AP,A5,AZ,J0,E9,AR,Bool.not_true]<;>omega
  ·omega
  first|omega|(simp only;omega)
 apply AW.exit;apply B7;refine VB ?_;apply AW.ret;simp-dsimp-implicitDefEqProofs(disch:=omega)only[go_sem];skip
theorem PG(hn:os.length<=6)(us vs:List V)(hl:us.length<=6)(O1:vs.length<=6)(hu:∀x∈us,T (pc os pw cj) 0 x)(hv:∀x∈vs,T (pc os pw cj) 0 x):BI Tryz.prog 48 [AZ os.length vs,.p 0 [AZ os.length us]] (.b (tf (us=vs))):=by
 refine AD AA Tryz.func48 rfl A7 Tryz.ntmps48 Tryz.results48 (.b _) (λnx cX=>?_)
 refine B8 ?_;refine N0 (P1 os pw cj A0 A0 A0 hu hv) ?_;apply AW.ret;simp-dsimp-implicitDefEqProofs(disch:=omega)only[go_sem];skip
theorem TX(Pn:Nat)(cs:List AV)(L:List (List V))(n i:Nat)(hi:i<L.length)(hN:L.length<=4294967296)(hf:∀j,j<=i->BI Tryz.prog Pn ([AZ n (L.getD j [])]++cs) (.b (tf (j=i)))):BI Tryz.prog 47 [.v L.length (L.map (AZ n)),.f Pn cs] (.i .i64 i):=by
 refine AD AA Tryz.func47 rfl A7 Tryz.ntmps47 Tryz.results47 (.i _ _) (λnx cX=>?_)
 refine dU ?_;refine AW.seq λN1 B2=>?_;refine dU ?_;apply AW.block;refine A8 (α:=Nat) (λx=>sl 19 [(0,.v L.length (L.map (AZ n))),(1,.f Pn cs),(7,.i .i64 L.length),(8,.i .i64 x)]) (λ_=>BM) (λx m=>x<=i) (λx=>L.length-x) (0) ?_ ?_ (λ_ _ h=>h) ?_
 ·omega
 ·simp(disch:=omega) [AN,AO,sl]
 skip
 rintro k m hk
 refine AG ?_;refine dU ?_;refine AW.seq λN2 B7=>?_;refine AW.cond rfl ?_ ?_<;>intro h1<;>try simp only[cn]at h1
 ·apply AW.skip;apply B7;refine AW.seq λN3 BC=>?_;apply AW.block;refine dU ?_;refine sQ λN hN=>?_;simp-dsimp-implicitDefEqProofs(maxSteps:=800000) (disch:=omega)only[go_sem,NP];refine AC.pure (.of (hf k hk)) ?_;(try simp-dsimp-implicitDefEqProofs(maxSteps:=800000) (disch:=omega)only[go_sem,NP]);apply hN;refine AW.cond rfl ?_ ?_<;>intro h2<;>try simp only[cn]at h2
  ·have e:k=i:=by first|exact h2|exact JL.1 h2
   refine dU ?_;refine AH ?_;rw[e]
  apply AW.skip;apply BC;apply rQ;simp-dsimp-implicitDefEqProofs(maxSteps:=800000) (disch:=omega)only[go_sem,NP];refine⟨k+1,?_,λ_ _ h=>h,?_,?_⟩
  ·simp(disch:=omega) [AN,AO,sl,AR,ints,rows,A6,AR,NP]<;>omega
  ·have e:k≠i:=by first|exact h2|exact uW.1 h2
   first|omega|(dsimp only;omega)
  first|omega|(simp only;omega)
 exfalso;omega
theorem GJ(hl:GB os pw cj)(h:AF os pw cj)(hc:CG (pc os pw cj) 0)(HL:nG os<=32)(i:Nat)(hi:i<(BK os pw cj).length):BI Tryz.prog 13 [AP os pw cj,AZ os.length ((BK os pw cj).getD i [])] (F3 (wm ((D6 (DM os (pc os pw cj) (BK os pw cj))).getD i 0)) 0):=by
 have FU:=h.1.1
 have h2:=I3 HL
 have Ma:=R9 h hc
 have hL:=TW h hc
 have hq:=FF os pw cj hl
 rw[dR ⟨h,hc⟩ (by have:=GR h;omega)]at hq
 have ZW:=SP os pw cj h hc HL
 have Z5:(D6 (DM os (pc os pw cj) (BK os pw cj))).length=(BK os pw cj).length:=by rw[FN,EG]
 have hTj:∀j,j<(BK os pw cj).length->∀x∈(BK os pw cj).getD j [],T (pc os pw cj) 0 x:=λj hj x hx=>by
  have hg:(BK os pw cj).getD j []=(BK os pw cj)[j]:=by simp[hj]
  rw[hg]at hx;exact oM (GI h hc hL hj).1 (GI h hc hL hj).2 hx
 have hlen:∀j,j<(BK os pw cj).length->((BK os pw cj).getD j []).length<=os.length:=λj hj=>by
  have hg:(BK os pw cj).getD j []=(BK os pw cj)[j]:=by simp[hj]
  rw[hg];exact(GI h hc hL hj).2.len
 have JN:RL (pc os pw cj) ((BK os pw cj).getD i [])=(BK os pw cj).getD i []:=by
  have hg:(BK os pw cj).getD i []=(BK os pw cj)[i]:=by simp[hi]
  have h3:=GI h hc hL hi;have h4:=sH h.val hc (λd hd=>h.2.1 d hd) (us:=(BK os pw cj)[i]) (λx hx=>h3.1.n (h3.2.S hx));rw[hg];exact h4.uniq h.val hc h3.1 h3.2
 have AQ:∀j,j<(BK os pw cj).length->((BK os pw cj).getD i []=(BK os pw cj).getD j []↔j=i):=λj hj=>by
  have hg:(BK os pw cj).getD i []=(BK os pw cj)[i]:=by simp[hi]
  have KV:(BK os pw cj).getD j []=(BK os pw cj)[j]:=by simp[hj]
  rw[hg,KV];exact⟨λe=>(aM h hc hL hi hj (by rw[e])).symm,λe=>by subst e;rfl⟩
 have has:=RV os pw cj hl ⟨h,hc⟩ _ (hTj i hi) (hlen i hi) JN
 have hix:=TX 48 [.p 0 [AZ os.length ((BK os pw cj).getD i [])]] (BK os pw cj) os.length i hi A0 (λj hj=>by
  have bN:j<(BK os pw cj).length:=A0;have h5:=PG os pw cj FU _ _ (by have:=hlen i hi;omega) (by have:=hlen j bN;omega) (hTj i hi) (hTj j bN);rw[propext (AQ j bN)]at h5;exact h5)
 obtain⟨L,mJ⟩:∃L,BK os pw cj=L:=⟨_,rfl⟩
 obtain⟨mb,sP⟩:∃mb,D6 (DM os (pc os pw cj) (BK os pw cj))=mb:=⟨_,rfl⟩
 rw[sP]at ZW Z5 ⊢
 rw[mJ]at hi has hix Z5 ⊢
 have hgm:(mb.map wm).getD i 0=wm (mb.getD i 0):=by simp[show i<mb.length by omega]
 refine AD AA Tryz.func13 rfl A7 Tryz.ntmps13 Tryz.results13 (M6 _ _) (λnx cX=>?_)
 refine sQ λN hN=>?_;simp-dsimp-implicitDefEqProofs(maxSteps:=800000) (disch:=omega)only[go_sem,AP,AZ];apply hN;refine AW.seq λN1 B2=>?_;refine AK 2 nx _ rfl ((A1 _ _ A0).trans (A4 _ _ _)) ?_
 refine AG ?_;refine AK 3 (nx+1) _ rfl ((A1 _ _ A0).trans (A4 _ _ _)) ?_
 refine AG ?_;refine sQ λN hN=>?_;(try simp-dsimp-implicitDefEqProofs(maxSteps:=800000) (disch:=omega)only[go_sem,AP,AZ]);refine AC.pure (.yM (has) (.cons (.refl _) (.cons (.h _ 0 1 [AZ os.length (L.getD i [])] [AZ os.length (L.getD i [])] (A4 _ _ _) (Nat.le_refl _) rfl (λk x y hx hy=>by rw[Nat.zero_add,hy]at hx;cases hx;exact .refl _)) .nil)) (.b _)) ?_
 refine BR ?_
 apply hN;refine B4 rfl ?_;apply AW.skip;apply B2;refine OS (hq) ?_;refine AW.seq λN2 B7=>?_;refine C2 ?_;refine B4 rfl ?_;apply AW.skip;apply B7;refine OS (ZW) ?_;refine sQ λN hN=>?_;simp-dsimp-implicitDefEqProofs(maxSteps:=800000) (disch:=omega)only[go_sem,AL,ints,XI,AP,mJ,hgm];refine AC.pure (.of (hix)) ?_;(try simp-dsimp-implicitDefEqProofs(maxSteps:=800000) (disch:=omega)only[go_sem,List.length_map,AL,ints,Z5,hgm]);apply hN;refine AH ?_;rw[show((mb.map wm).map (AV.i .i64)).getD i .j= .i .i64 (wm (mb.getD i 0)) by simp[show i<mb.length by omega]]
 rfl
end
end Go.Proofs.YtgknbnkmilddhaaGreat
