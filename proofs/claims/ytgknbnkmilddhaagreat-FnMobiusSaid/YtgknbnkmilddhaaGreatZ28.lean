import Derived.Test.YtgknbnkmilddhaaGreatZ27
set_option linter.unusedVariables false
set_option linter.unusedSimpArgs false

namespace Go.Proofs.YtgknbnkmilddhaaGreat
theorem It{cX:Ctx}{P:Program}{c:Code}{s:St}{K:Exit->St->Prop}{a b:Nat}(k:Nat)(L:AV)(cs:List AV)(hk:s.t[k]? =some L)(hL:LC s.H a b L cs)
    (hs:AW cX P c ⟨s.t.set k (.v cs.length cs),dl s.H L,s.nx⟩ K):AW cX P c s K:=by
  rcases hL with ⟨rfl,rfl⟩|⟨id,rfl,hc,_,_⟩
  · refine AW.fz (s':=⟨s.t.set k (.v 0 []),s.H,s.nx⟩) ⟨UI hk .nl,?_,Nat.le_refl _⟩ hs;intro id CT h;exact⟨CT,h,rfl,λq x y h1 h2=>by rw[h1]at h2;cases h2;exact .refl _⟩
  exact CZ k id cs.length cs hk hc rfl hs
def fB(w:Nat):Nat->Bool:=λt=>decide (t≠0)&& w.testBit t
noncomputable def mM(os:List Int)(w k:Nat):Nat->Bool:=λe=>tf (∃x∈RX os (fB w) k,E4 os.length x=e)
theorem Sb{os:List Int}{f:Nat->Bool}{k:Nat}{x:V}:x∈RX os f k↔∃t,t<k/\f t=true/\x=C5 os (t:Nat):=by
  unfold RX;rw[List.mem_map];constructor
  · rintro⟨t,h,rfl⟩;obtain⟨h1,h2⟩:=List.mem_filter.1 h;exact⟨t,List.mem_range.1 h1,h2,rfl⟩
  rintro⟨t,h1,h2,rfl⟩;exact⟨t,List.mem_filter.2 ⟨List.mem_range.2 h1,h2⟩,rfl⟩
theorem xC{os:List Int}{w:Nat}:RX os (fB w) 1=[]:=by
  have:RX os (fB w) 1=RX os (fB w) 0:=VF rfl;rw[this];rfl
theorem Sc{os:List Int}{w:Nat}:mM os w 1=λ_=>false:=by
  funext e
  unfold mM;rw[xC];exact C8 AB
theorem Iu{os:List Int}{w k:Nat}(h:fB w k=false):mM os w (k+1)=mM os w k:=by unfold mM;rw[VF h]
theorem Iv{os:List Int}{w k:Nat}(h:fB w k=true):rP (mM os w k) (E4 os.length (C5 os (k:Nat))) true=mM os w (k+1):=by
  funext e
  unfold rP mM;rw[dY h];split
  · rename_i ee;exact(D2 ⟨_,AB,ee.symm⟩).symm
  rename_i ee;congr 1
  refine propext ⟨λ⟨x,hx,q⟩=>⟨x,by simp[hx],q⟩,λ⟨x,hx,q⟩=>?_⟩;rcases List.mem_append.1 hx with r|r
  · exact⟨x,r,q⟩
  rw[List.mem_singleton]at r;subst r;exact absurd q.symm ee
def xD(dp:Nat->Bool)(n:Nat)(x:V)(d e:Nat):Prop:=(E4 n x=d/\x d=1)/\∀e',d<e'->e'<e->dp e'=false\/x e'=0
theorem pD{dp:Nat->Bool}{n:Nat}{x:V}{d e:Nat}(h:d<e):xD dp n x d (e+1)↔xD dp n x d e/\(dp e=false\/x e=0):=by
  constructor
  · exact λ⟨a,b⟩=>⟨⟨a,λe' h1 h2=>b e' h1 A0⟩,b e h A0⟩
  rintro⟨⟨a,b⟩,c⟩;refine⟨a,λe' h1 h2=>?_⟩;by_cases q:e'=e
  · subst q;exact c
  exact b e' h1 A0
theorem j6{dp:Nat->Bool}{n:Nat}{x:V}{d:Nat}:xD dp n x d (d+1)↔(E4 n x=d/\x d=1):=⟨λh=>h.1,λh=>⟨h,λe' h1 h2=>A0⟩⟩
noncomputable def j7(dn:Nat->Option V)(d:Nat)(l:List V):List V:=l.filter λx=>tf (dn d=some x)
theorem Iw{dn:Nat->Option V}{d:Nat}{X:List V}{k:Nat}(h:k<X.length):j7 dn d (X.take (k+1))=j7 dn d (X.take k)++(if tf (dn d=some (X.getD k z0))=true then [X.getD k z0]else []):=by
  rw[List.take_succ_eq_append_getElem h,j7,j7,List.filter_append];have e:X.getD k z0=X[k]:=by simp[h]
  rw[e];congr 1
  cases hq:tf (dn d=some X[k])<;>simp[hq]
theorem Sd{dn:Nat->Option V}{d:Nat}{X:List V}{k:Nat}:(j7 dn d (X.take k)).length<=X.length:=by
  have h1:=List.length_filter_le (λx=>tf (dn d=some x)) (X.take k);rw[List.length_take]at h1;unfold j7;omega
theorem Se{dn:Nat->Option V}{d:Nat}{X:List V}(hn:X.Nodup)(hx:∀y,dn d=some y->y∈X):BZ dn d++j7 dn d X=BZ dn (d+1):=by
  cases hz:dn d with
  | none=>
    rw[DI hz];have:j7 dn d X=[]:=by
      unfold j7;rw[List.filter_eq_nil_iff];intro x _ q;rw[hz]at q;have:=JL.1 q;cases this
    rw[this,List.append_nil]
  | some y=>
    rw[DH hz];congr 1
    unfold j7;classical
    have key:∀l:List V,l.Nodup->(l.filter λx=>tf (dn d=some x))=if y∈l then [y]else []:=by
      intro l;induction l with
      |nil=>intro _;rfl
      | cons a l ih=>
        intro hl;rw[List.nodup_cons]at hl;by_cases e:a=y
        · subst e;rw[List.filter_cons_of_pos (by rw[hz];exact D2 rfl),ih hl.2,if_neg hl.1,if_pos AB]
        rw[List.filter_cons_of_neg (by rw[hz,C8 (by intro q;cases q;exact e rfl)];simp),ih hl.2];have:(y∈a::l)↔y∈l:=by
          rw[List.mem_cons];exact⟨λq=>q.resolve_left λr=>e r.symm,.inr⟩
        simp only[this]
    rw[key X hn,if_pos (hx y hz)]
section
variable{os:List Int}{pw:List (List Int)}{cj:List (List (List Int))}(hp:AF os pw cj)(hc:CG (pc os pw cj) 0)
include hp
omit hp in
theorem xE{x:V}(hx:T (pc os pw cj) 0 x)(h0:x≠z0):E4 os.length x<os.length/\T (pc os pw cj) (E4 os.length x) x/\x (E4 os.length x)≠0:=by
  obtain⟨a1,a2,a3,a4⟩:=X5 (x:=x) os.length 0;have C4:E4 os.length x<os.length:=by
    apply Classical.byContradiction;intro hn;refine h0 (funext λk=>?_);by_cases hk:k<os.length
    · exact a3 k (Nat.zero_le k) (by unfold E4 at hn;omega)
    exact hx.t k (Nat.not_lt.1 hk)
  refine⟨C4,⟨λk hk=>a3 k (Nat.zero_le k) hk,λk _ hk=>hx.r k (Nat.zero_le k) hk,hx.t⟩,a4 (by unfold E4 at C4;omega)⟩
theorem zW{f:Nat->Bool}:(RX os f (nG os)).Nodup:=by
  have:∀l:List Nat,l.Nodup->(∀t∈l,t<nG os)->(l.map λt=>C5 os (t:Nat)).Nodup:=by
    intro l;induction l with
    |nil=>intro _ _;exact List.nodup_nil
    | cons a l ih=>
      intro h1 h2;rw[List.nodup_cons]at h1;rw[List.map_cons,List.nodup_cons];refine⟨λhm=>?_,ih h1.2 λt ht=>h2 t (by simp[ht])⟩;obtain⟨b,hb,e⟩:=List.mem_map.1 hm;have:=MH hp (h2 b (by simp[hb])) (h2 a AB) e;subst this;exact h1.1 hb
  exact this _ (List.nodup_range.filter _) λt ht=>List.mem_range.1 (List.mem_filter.1 ht).1
theorem Ix{S:V->Prop}(hS:E5 (T (pc os pw cj) 0) (M (pc os pw cj) 0) S){x:V}:x∈RX os (fB (HK os S)) (nG os)↔S x/\x≠z0:=by
  rw[Sb];constructor
  · rintro⟨t,h1,h2,rfl⟩;simp only[fB,Bool.and_eq_true,decide_eq_true_eq]at h2;exact⟨(DJ.1 h2.2).2,λe=>h2.1 (MH hp h1 (JC hp).1 (e.trans I2.symm))⟩
  rintro⟨h1,h2⟩;obtain⟨t,t1,rfl,_⟩:=OX hp (hS.n h1);refine⟨t,t1,?_,rfl⟩;simp only[fB,Bool.and_eq_true,decide_eq_true_eq];exact⟨λe=>h2 (by rw[e];exact I2),DJ.2 ⟨t1,h1⟩⟩
theorem xF{S:V->Prop}(hS:E5 (T (pc os pw cj) 0) (M (pc os pw cj) 0) S){e:Nat}(he:e<os.length):mM os (HK os S) (nG os) e=true↔∃x,S x/\T (pc os pw cj) e x/\x e≠0:=by
  unfold mM;rw[JL];constructor
  · rintro⟨x,hx,rfl⟩;obtain⟨h1,h2⟩:=(Ix hp hS).1 hx;obtain⟨_,b2,b3⟩:=xE (hS.n h1) h2;exact⟨x,h1,b2,b3⟩
  rintro⟨x,h1,h2,h3⟩;have AQ:x≠z0:=λq=>h3 (by rw[q];rfl)
  refine⟨x,(Ix hp hS).2 ⟨h1,AQ⟩,?_⟩;obtain⟨b1,b2,b3⟩:=xE (hS.n h1) AQ;rcases Nat.lt_trichotomy (E4 os.length x) e with q|q|q
  · exact absurd (h2.z _ q) b3
  · exact q
  exact absurd (b2.z _ q) h3
include hc
theorem Sf{S:V->Prop}(hS:E5 (T (pc os pw cj) 0) (M (pc os pw cj) 0) S){dn:Nat->Option V}(h:Z2 (pc os pw cj) S dn){x:V}(hx:S x/\x≠z0){d:Nat}(hd:d<os.length):xD (mM os (HK os S) (nG os)) os.length x d os.length↔dn d=some x:=by
  obtain⟨b1,b2,b3⟩:=xE (hS.n hx.1) hx.2;constructor
  · rintro⟨⟨e1,e2⟩,e3⟩;rw[e1]at b2 b3;cases hz:dn d with
    |none=>exact absurd ⟨x,hx.1,b2,b3⟩ (h.no d hd hz)
    | some z=>
      obtain⟨_,a1,a2,a3,a4⟩:=h.el d z hz;rw[dC hp.val hc hS a1 hx.1 a2 b2 hd (by rw[a3,e2]) (λe q1 q2 q3=>⟨a4 e q1 q2 q3,?_⟩)];rcases e3 e q1 q2 with r|r
      · rw[(xF hp hS q2).2 q3]at r;cases r
      exact r
  intro hz;obtain⟨_,a1,a2,a3,a4⟩:=h.el d x hz;refine⟨⟨TO (P:=pc os pw cj) hd a2 a3,a3⟩,λe h1 h2=>?_⟩;cases hq:mM os (HK os S) (nG os) e with
  |false=>exact .inl rfl
  |true=>exact .inr (a4 e h1 h2 ((xF hp hS h2).1 hq))
end
section
variable(os:List Int)(pw:List (List Int))(cj:List (List (List Int)))
set_option maxHeartbeats 1000000 in
theorem RZ(h:AF os pw cj)(hc:CG (pc os pw cj) 0)(HL:nG os<=32){S:V->Prop}(hS:E5 (T (pc os pw cj) 0) (M (pc os pw cj) 0) S){us:List V}(hu:SI (pc os pw cj) S us):BI Tryz.prog 90 [AP os pw cj,.i .i64 (HK os S)] (AZ os.length us):=by
 have FU:=h.1.1
 have Rk:=JC h
 have h2p:=I3 HL
 have nT:=HC (os:=os) (S:=S)
 obtain⟨w,hw⟩:∃w,HK os S=w:=⟨_,rfl⟩
 have hXS:=λx=>Ix h hS (x:=x)
 have hXn:=zW h (f:=fB (HK os S))
 obtain⟨dn,NY,Li⟩:=hu
 have As:=λx (hx:S x/\x≠z0) d (hd:d<os.length)=>Sf h hc hS NY hx hd
 rw[hw]at nT hXn ⊢
 simp only[hw]at hXS As
 have gM:=EM os pw cj h
 rw[<-GR h]at gM
 have hbz:List.replicate os.length (AV.b false)=aD os.length (mM os w 1):=by rw[Sc,nU]
 refine B5 AA Tryz.func90 rfl A7 Tryz.ntmps90 Tryz.results90 ((cV _ _)) (λnx cX=>?_)
 refine JE ?_;refine AK 2 nx _ rfl (A4 _ _ _) ?_
 refine AG ?_;refine JE ?_;refine JE ?_;refine AW.seq λN1 B2=>?_;refine JE ?_;apply AW.block;refine AI (λG0 C9=>?_);dsimp only at C9
 have LP:G0 (nx+2+2+3)=some (aD os.length (mM os w 1)):=by rw[<-C9,<-hbz];exact A4 _ _ _
 have FH:LC G0 nx (nx+10) (.h (nx+2) 0 0) ((RX os (fB w) 1).map (vi os.length)):=by rw[xC];exact LC.mk (by rw[<-C9];simp(disch:=omega)only[A4,A1];rfl) rfl A0 A0
 refine A8 (α:=Nat×HP×AV) (λx=>sl 100 [(1,.i .i64 w),(2,A5 os pw cj),(5,x.2.2),(6,.h (nx+2+2+3) 0 os.length),(7,.i .i64 x.1)]) (λx=>x.2.1) (λx m=>(1<=x.1/\x.1<=nG os/\nx+10<=m)/\bk x.2.2≠nx+2+2+3+1/\x.2.1 (nx+2+2+3)=some (aD os.length (mM os w x.1))/\LC x.2.1 nx m x.2.2 ((RX os (fB w) x.1).map (vi os.length))) (λx=>nG os-x.1) ((1,G0,.h (nx+2) 0 0)) ?_ ?_ (λ_ _ h=>h) ?_
 ·exact⟨⟨AB,A9,A9⟩,by show nx+2+1≠_;omega,LP,FH.wide (Nat.le_refl _) A9⟩
 ·simp(disch:=omega) [AN,AO,sl,A5,ints,rows,A6]
 skip
 rintro⟨k,G,L⟩ m ⟨⟨FH,hk,hm⟩,jQ,hG,hL⟩
 dsimp only at hk FH hm jQ hG hL ⊢
 clear C9
 simp only[A5];refine AG ?_;have MA:=hL.one
 have IJ:=hL.len
 have l4:=hL.bd
 have yI:=xB (os:=os) (f:=fB w) (k:=k)
 rw[List.length_map]at IJ
 refine AW.seq λN2 B7=>?_;refine Ij (gM) ?_;refine AW.cond rfl ?_ ?_<;>intro h1<;>try simp only[cn]at h1
 ·apply AW.skip;apply B7;refine AW.seq λN3 BC=>?_;apply AW.block;refine JE ?_;refine AW.cond rfl ?_ ?_<;>intro h2<;>try simp only[cn]at h2
  ·have hfb:fB w k=true:=by simp only[fB,Bool.and_eq_true,decide_eq_true_eq];exact⟨A0,by simpa using h2⟩
   have UE:=dY (os:=os) hfb;have Sh:=Iv (os:=os) hfb;have hld:E4 os.length (C5 os (k:Nat))<os.length:=(xE (pw:=pw) (cj:=cj) (DP h k) λe=>by
    have:=MH h (show k<nG os by omega) Rk.1 (e.trans I2.symm);omega).1
   refine Ij (IZ os pw cj h k A0 A0) ?_;refine sQ λN hN=>?_;simp-dsimp-implicitDefEqProofs(disch:=(first|omega|((repeat refine LC.AT A0 ?_);assumption))) only[go_sem,AP,A5,NM,ints,DQ,DR,CY,vi,MA,IJ,BP (a:=nx) (b:=m) (L:=L) (cs:=(RX os (fB w) k).map (vi os.length)),List.length_map]
   apply hN;refine JY ?_;refine AC.pure (.of (FY os.length A0 _)) ?_;(try simp-dsimp-implicitDefEqProofs(maxSteps:=800000) (disch:=omega)only[go_sem,HY,vH,AY,ints,AP,A5,hG,Sh])
   apply BC;refine AI (λG9 fS=>?_);dsimp only at fS;refine JY ?_;refine⟨(k+1,G9,.h (m+4+6+4+3) 0 ((RX os (fB w) k).length+1)),?_,λ_ _ h=>h,?_,?_⟩
   ·simp(disch:=omega) [AN,AO,sl,AR,A5,ints,rows,A6]<;>omega
   ·have dT:G9 (nx+2+2+3)=some (aD os.length (mM os w (k+1))):=by rw[<-fS];exact A4 _ _ _
    have KA:LC G9 nx (m+4+6+4+4) (.h (m+4+6+4+3) 0 ((RX os (fB w) k).length+1)) ((RX os (fB w) (k+1)).map (vi os.length)):=LC.mk (by rw[<-fS,UE];simp(disch:=omega)only[A1,A4,List.map_append];rfl) (by rw[UE];simp) A0 A0;have l5:bk (.h (m+4+6+4+3) 0 ((RX os (fB w) k).length+1))≠nx+2+2+3+1:=by show m+4+6+4+3+1≠_;omega
    (repeat' (with_reducible refine And.intro ?_ ?_))<;>first|exact l5|exact dT|exact KA.wide (Nat.le_refl _) A9|first|omega|(dsimp only;omega)
   first|omega|(simp only;omega)
  have hfb:fB w k=false:=by simp only[fB,Bool.and_eq_false_imp,decide_eq_true_eq];exact λ_=>by simpa using h2
  apply AW.skip;apply BC;refine AI (λG9 fS=>?_);dsimp only at fS;refine JY ?_;refine⟨(k+1,G9,L),?_,λ_ _ h=>h,?_,?_⟩
  ·simp(disch:=omega) [AN,AO,sl,AR,A5,ints,rows,A6]<;>omega
  ·subst fS;have KA:LC G nx m L ((RX os (fB w) (k+1)).map (vi os.length)):=by rw[VF hfb];exact hL
   have dT:G (nx+2+2+3)=some (aD os.length (mM os w (k+1))):=by rw[Iu hfb];exact hG
   (repeat' (with_reducible refine And.intro ?_ ?_))<;>first|exact jQ|exact dT|exact KA.wide (Nat.le_refl _) A9|first|omega|(dsimp only;omega)
  first|omega|(simp only;omega)
 obtain rfl:k=nG os:=A0
 obtain⟨X,hX⟩:∃X,RX os (fB w) (nG os)=X:=⟨_,rfl⟩
 obtain⟨D,hD⟩:∃D,mM os w (nG os)=D:=⟨_,rfl⟩
 rw[hX]at hL hXn yI
 rw[hD]at hG
 simp only[hX]at hXS
 simp only[hD]at As
 have hXd:∀d y,dn d=some y->y∈X:=λd y hy=>by
  obtain⟨_,a1,_,a3,_⟩:=NY.el d y hy;exact(hXS y).2 ⟨a1,λq=>by rw[q]at a3;cases a3⟩
 apply AW.exit;apply B2;refine It 5 L _ rfl hL ?_
 refine CZ 6 (nx+2+2+3) os.length _ rfl ((AY jQ).trans hG) HY ?_
 rw[List.length_map]
 refine AG ?_;refine JE ?_;refine AW.seq λN4 CF=>?_;refine JE ?_;apply AW.block;obtain⟨mm,iZ⟩:∃mm,mm=m:=⟨m,rfl⟩
 subst iZ
 refine AI (λG0 C9=>?_);dsimp only at C9
 have KA:LC G0 mm (mm+5) (.h (mm+4) 0 0) ((BZ dn 0).map (vi os.length)):=LC.mk (by rw[<-C9];exact A4 _ _ _) rfl A0 A0
 refine A8 (α:=Nat×HP×AV) (λx=>sl 100 [(5,AZ os.length X),(6,.v os.length (aD os.length D)),(9,x.2.2),(10,.i .i64 x.1)]) (λx=>x.2.1) (λx m=>(x.1<=os.length/\mm<=m)/\LC x.2.1 mm m x.2.2 ((BZ dn x.1).map (vi os.length))) (λx=>os.length-x.1) ((0,G0,.h (mm+4) 0 0)) ?_ ?_ (λ_ _ h=>h) ?_
 ·exact⟨⟨AB,A9⟩,KA.wide (Nat.le_refl _) A9⟩
 ·simp(disch:=omega) [AN,AO,sl,A5,ints,rows,A6,AZ]
 skip
 rintro⟨d,G2,L2⟩ m2 ⟨⟨hd,LN⟩,j0⟩
 dsimp only at hd LN j0 ⊢
 clear C9
 simp only[A5,AZ];refine AG ?_;refine AW.seq λN5 DL=>?_;refine JE ?_;refine AW.cond rfl ?_ ?_<;>intro h3<;>try simp only[cn]at h3
 ·apply AW.skip;apply DL;refine AW.seq λN6 FR=>?_;apply AW.block;refine JE ?_;apply AW.block;refine A8 (α:=Nat×HP×AV) (λx=>sl 100 [(5,AZ os.length X),(6,.v os.length (aD os.length D)),(9,x.2.2),(10,.i .i64 d),(11,.i .i64 x.1)]) (λx=>x.2.1) (λx m=>(x.1<=X.length/\mm<=m)/\LC x.2.1 mm m x.2.2 ((BZ dn d++j7 dn d (X.take x.1)).map (vi os.length))) (λx=>X.length-x.1) ((0,G2,L2)) ?_ ?_ (λ_ _ h=>h) ?_
  ·exact⟨⟨AB,A9⟩,by simpa[j7]using j0.wide (Nat.le_refl _) A9⟩
  ·simp(disch:=omega) [AN,AO,sl,A5,ints,rows,A6,AZ]
  skip
  rintro⟨k,G3,L3⟩ m3 ⟨⟨hk,W1⟩,fR⟩;dsimp only at hk W1 fR ⊢;simp only[A5,AZ];refine AG ?_;have A7M:=fR.one;have A2H:=fR.len;have AE5:=fR.bd;have mE:=Q9 (dn:=dn) (k:=d);have YN:=Sd (dn:=dn) (d:=d) (X:=X) (k:=k);rw[List.length_map]at A2H;refine AW.seq λN7 MV=>?_;refine JE ?_;refine AW.cond rfl ?_ ?_<;>intro h4<;>try simp only[cn]at h4
  ·have hkX:k<X.length:=A0;have xG:=Iw (dn:=dn) (d:=d) hkX;have Y5:(X.map (vi os.length)).getD k .j=vi os.length (X.getD k z0):=by simp[hkX]
   have Lg:=(hXS (X.getD k z0)).1 (by rw[List.getD_eq_getElem?_getD,List.getElem?_eq_getElem hkX];exact List.getElem_mem _);obtain⟨xx,hxx⟩:∃xx,X.getD k z0=xx:=⟨_,rfl⟩;rw[hxx]at xG Y5 Lg;apply AW.skip;apply MV;refine AW.seq λN8 OB=>?_;apply AW.block;refine sQ λN hN=>?_;simp-dsimp-implicitDefEqProofs(maxSteps:=800000) (disch:=omega)only[go_sem,CY,DQ,DR,ints,AP,A5,vi,NM,Y5];apply hN;refine sQ λN hN=>?_;refine QK ?_;refine AC.pure (.of (FY os.length A0 xx)) ?_;(try simp-dsimp-implicitDefEqProofs(maxSteps:=800000) (disch:=omega)only[go_sem,CY,DQ,DR,ints,AP,A5,NM])
   refine CH.mk' (λh5=>?_) (λh5=>?_)
   ·(try simp only[cn]at h5);have ER:tf (xD D os.length xx d (d+1))=(xx d==1):=by
     rw[Bool.eq_iff_iff,JL,beq_iff_eq,j6];exact⟨λq=>q.2,λq=>⟨A0,q⟩⟩
    (refine QK ?_);apply hN;refine AW.seq λN9 SC=>?_;refine JE ?_;apply AW.block;refine A8 (α:=Nat) (λx=>sl 100 [(5,AZ os.length X),(6,.v os.length (aD os.length D)),(9,L3),(10,.i .i64 d),(11,.i .i64 k),(12,vi os.length xx),(13,.b (tf (xD D os.length xx d x))),(14,.i .i64 x)]) (λ_=>G3) (λx m=>d+1<=x/\x<=os.length/\m3<=m) (λx=>os.length-x) (d+1) ?_ ?_ (λ_ _ h=>h) ?_
    ·exact⟨A0,A0,A9⟩
    ·simp(disch:=omega) [AN,AO,sl,A5,ints,rows,A6,AZ,vi,ER]
    skip
    rintro e m4 ⟨he0,he,Bd⟩;simp only[A5,AZ,vi];refine AG ?_;refine AW.seq λAm IQ=>?_;refine JE ?_;refine AW.cond rfl ?_ ?_<;>intro h6<;>try simp only[cn]at h6
    ·have UE:=pD (dp:=D) (n:=os.length) (x:=xx) (show d<e by omega);apply AW.skip;apply IQ;refine AW.seq λDu JO=>?_;apply AW.block;refine JY ?_;refine CH.mk' (λh7=>?_) (λh7=>?_)
     ·(try simp only[cn]at h7);have hcq:=h7;refine QK ?_
      refine CH.mk' (λh8=>?_) (λh8=>?_)
      ·(try simp only[cn]at h8);have hq:tf (xD D os.length xx d (e+1))=(xx e==0):=by
        rw[Bool.eq_iff_iff,JL,beq_iff_eq,UE];try simp only[Bool.not_eq_eq_eq_not,Bool.not_false]at h8
        exact⟨λq=>q.2.resolve_left (by rw[h8];simp),λq=>⟨hcq,.inr q⟩⟩
       (refine QK ?_);apply JO;refine JY ?_;refine⟨e+1,?_,λ_ _ h=>h,?_,?_⟩
       ·simp(disch:=omega) [AN,AO,sl,AR,A5,ints,rows,A6,AZ,vi,hq]<;>omega
       ·exact⟨A9,A9,A9⟩
       first|omega|(simp only;omega)
      (try simp only[cn]at h8);have hq:tf (xD D os.length xx d (e+1))=true:=by
       (try simp only[Bool.not_eq_eq_eq_not,Bool.not_true]at h8);exact D2 (UE.2 ⟨hcq,.inl h8⟩)
      (refine QK ?_);apply JO;refine JY ?_;refine⟨e+1,?_,λ_ _ h=>h,?_,?_⟩
      ·simp(disch:=omega) [AN,AO,sl,AR,A5,ints,rows,A6,AZ,vi,hq]<;>omega
      ·exact⟨A9,A9,A9⟩
      first|omega|(simp only;omega)
     (try simp only[cn]at h7);have hq:tf (xD D os.length xx d (e+1))=false:=C8 λq=>h7 (UE.1 q).1
     (refine QK ?_);apply JO;refine JY ?_;refine⟨e+1,?_,λ_ _ h=>h,?_,?_⟩
     ·simp(disch:=omega) [AN,AO,sl,AR,A5,ints,rows,A6,AZ,vi,hq]<;>omega
     ·exact⟨A9,A9,A9⟩
     first|omega|(simp only;omega)
    obtain rfl:e=os.length:=A0;apply AW.exit;apply SC;refine JE ?_;refine AW.cond rfl ?_ ?_<;>intro h9<;>try simp only[cn]at h9
    ·have Sh:=(As xx Lg d A0).1 h9;rw[D2 Sh,if_pos rfl]at xG;apply rQ;simp-dsimp-implicitDefEqProofs(disch:=(first|omega|((repeat refine LC.AT A0 ?_);assumption))) only[go_sem,AP,A5,NM,ints,DQ,DR,CY,A7M,A2H,BP (a:=mm) (b:=m3) (L:=L3) (cs:=(BZ dn d++j7 dn d (X.take k)).map (vi os.length)),List.length_map];apply OB;refine AI (λG5 EU=>?_);dsimp only at EU;refine JY ?_;refine⟨(k+1,G5,.h (m4+4+1+3) 0 ((BZ dn d++j7 dn d (X.take k)).length+1)),?_,λ_ _ h=>h,?_,?_⟩
     ·simp(disch:=omega) [AN,AO,sl,AR,A5,ints,rows,A6,AZ]<;>omega
     ·have KA:LC G5 mm (m4+4+1+4) (.h (m4+4+1+3) 0 ((BZ dn d++j7 dn d (X.take k)).length+1)) ((BZ dn d++j7 dn d (X.take (k+1))).map (vi os.length)):=LC.mk (by rw[<-EU,xG,<-List.append_assoc];simp(disch:=omega)only[A1,A4,List.map_append];rfl) (by rw[xG,<-List.append_assoc];simp;omega) A0 A0;exact⟨⟨A9,A9⟩,KA.wide (Nat.le_refl _) A9⟩
     first|omega|(simp only;omega)
    have Sh:¬dn d=some xx:=λq=>h9 ((As xx Lg d A0).2 q)
    rw[C8 Sh,if_neg AB,List.append_nil]at xG;apply AW.skip;apply OB;refine AI (λG5 EU=>?_);dsimp only at EU;refine JY ?_;refine⟨(k+1,G5,L3),?_,λ_ _ h=>h,?_,?_⟩
    ·simp(disch:=omega) [AN,AO,sl,AR,A5,ints,rows,A6,AZ]<;>omega
    ·subst EU;exact⟨⟨A9,A9⟩,by rw[xG];exact fR.wide (Nat.le_refl _) A9⟩
    first|omega|(simp only;omega)
   try simp only[cn]at h5
   have ER:tf (xD D os.length xx d (d+1))=false:=C8 λq=>by have:=(j6.1 q).1;first|omega|(simp at h5;omega)
   refine QK ?_
   apply hN;refine AW.seq λOt PA=>?_;refine JE ?_;apply AW.block;refine A8 (α:=Nat) (λx=>sl 100 [(5,AZ os.length X),(6,.v os.length (aD os.length D)),(9,L3),(10,.i .i64 d),(11,.i .i64 k),(12,vi os.length xx),(13,.b (tf (xD D os.length xx d x))),(14,.i .i64 x)]) (λ_=>G3) (λx m=>d+1<=x/\x<=os.length/\m3<=m) (λx=>os.length-x) (d+1) ?_ ?_ (λ_ _ h=>h) ?_
   ·exact⟨A0,A0,A9⟩
   ·simp(disch:=omega) [AN,AO,sl,A5,ints,rows,A6,AZ,vi,ER]
   skip
   rintro e m4 ⟨he0,he,Bd⟩;simp only[A5,AZ,vi];refine AG ?_;refine AW.seq λN13 RG=>?_;refine JE ?_;refine AW.cond rfl ?_ ?_<;>intro VZ<;>try simp only[cn]at VZ
   ·have UE:=pD (dp:=D) (n:=os.length) (x:=xx) (show d<e by omega);apply AW.skip;apply RG;refine AW.seq λN14 RH=>?_;apply AW.block;refine JY ?_;refine CH.mk' (λLL=>?_) (λLL=>?_)
    ·(try simp only[cn]at LL);have hcq:=LL;refine QK ?_
     refine CH.mk' (λmD=>?_) (λmD=>?_)
     ·(try simp only[cn]at mD);have hq:tf (xD D os.length xx d (e+1))=(xx e==0):=by
       rw[Bool.eq_iff_iff,JL,beq_iff_eq,UE];try simp only[Bool.not_eq_eq_eq_not,Bool.not_false]at mD
       exact⟨λq=>q.2.resolve_left (by rw[mD];simp),λq=>⟨hcq,.inr q⟩⟩
      (refine QK ?_);apply RH;refine JY ?_;refine⟨e+1,?_,λ_ _ h=>h,?_,?_⟩
      ·simp(disch:=omega) [AN,AO,sl,AR,A5,ints,rows,A6,AZ,vi,hq]<;>omega
      ·exact⟨A9,A9,A9⟩
      first|omega|(simp only;omega)
     (try simp only[cn]at mD);have hq:tf (xD D os.length xx d (e+1))=true:=by
      (try simp only[Bool.not_eq_eq_eq_not,Bool.not_true]at mD);exact D2 (UE.2 ⟨hcq,.inl mD⟩)
     (refine QK ?_);apply RH;refine JY ?_;refine⟨e+1,?_,λ_ _ h=>h,?_,?_⟩
     ·simp(disch:=omega) [AN,AO,sl,AR,A5,ints,rows,A6,AZ,vi,hq]<;>omega
     ·exact⟨A9,A9,A9⟩
     first|omega|(simp only;omega)
    (try simp only[cn]at LL);have hq:tf (xD D os.length xx d (e+1))=false:=C8 λq=>LL (UE.1 q).1
    (refine QK ?_);apply RH;refine JY ?_;refine⟨e+1,?_,λ_ _ h=>h,?_,?_⟩
    ·simp(disch:=omega) [AN,AO,sl,AR,A5,ints,rows,A6,AZ,vi,hq]<;>omega
    ·exact⟨A9,A9,A9⟩
    first|omega|(simp only;omega)
   obtain rfl:e=os.length:=A0;apply AW.exit;apply PA;refine JE ?_;refine AW.cond rfl ?_ ?_<;>intro pZ<;>try simp only[cn]at pZ
   ·have Sh:=(As xx Lg d A0).1 pZ;rw[D2 Sh,if_pos rfl]at xG;apply rQ;simp-dsimp-implicitDefEqProofs(disch:=(first|omega|((repeat refine LC.AT A0 ?_);assumption))) only[go_sem,AP,A5,NM,ints,DQ,DR,CY,A7M,A2H,BP (a:=mm) (b:=m3) (L:=L3) (cs:=(BZ dn d++j7 dn d (X.take k)).map (vi os.length)),List.length_map];apply OB;refine AI (λG5 EU=>?_);dsimp only at EU;refine JY ?_;refine⟨(k+1,G5,.h (m4+4+1+3) 0 ((BZ dn d++j7 dn d (X.take k)).length+1)),?_,λ_ _ h=>h,?_,?_⟩
    ·simp(disch:=omega) [AN,AO,sl,AR,A5,ints,rows,A6,AZ]<;>omega
    ·have KA:LC G5 mm (m4+4+1+4) (.h (m4+4+1+3) 0 ((BZ dn d++j7 dn d (X.take k)).length+1)) ((BZ dn d++j7 dn d (X.take (k+1))).map (vi os.length)):=LC.mk (by rw[<-EU,xG,<-List.append_assoc];simp(disch:=omega)only[A1,A4,List.map_append];rfl) (by rw[xG,<-List.append_assoc];simp;omega) A0 A0;exact⟨⟨A9,A9⟩,KA.wide (Nat.le_refl _) A9⟩
    first|omega|(simp only;omega)
   have Sh:¬dn d=some xx:=λq=>pZ ((As xx Lg d A0).2 q)
   rw[C8 Sh,if_neg AB,List.append_nil]at xG;apply AW.skip;apply OB;refine AI (λG5 EU=>?_);dsimp only at EU;refine JY ?_;refine⟨(k+1,G5,L3),?_,λ_ _ h=>h,?_,?_⟩
   ·simp(disch:=omega) [AN,AO,sl,AR,A5,ints,rows,A6,AZ]<;>omega
   ·subst EU;exact⟨⟨A9,A9⟩,by rw[xG];exact fR.wide (Nat.le_refl _) A9⟩
   first|omega|(simp only;omega)
  obtain rfl:k=X.length:=A0;rw[List.take_length,Se hXn (hXd d)]at fR;apply AW.exit;apply FR;refine JY ?_;refine⟨(d+1,G3,L3),?_,λ_ _ h=>h,?_,?_⟩
  ·simp(disch:=omega) [AN,AO,sl,AR,A5,ints,rows,A6,AZ]<;>omega
  ·first|exact⟨⟨A9,A9⟩,fR.wide (Nat.le_refl _) A9⟩|exact⟨A9,fR.wide (Nat.le_refl _) A9⟩
  first|omega|(simp only;omega)
 apply AW.exit;apply CF;refine JE ?_;refine AH ?_;obtain rfl:d=os.length:=A0
 have:=j0.Lv
 rw[List.length_map]at this
 rw[Li]
 exact this
end
end Go.Proofs.YtgknbnkmilddhaaGreat
