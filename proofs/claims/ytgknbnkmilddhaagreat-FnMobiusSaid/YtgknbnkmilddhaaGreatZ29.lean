import Derived.Test.YtgknbnkmilddhaaGreatZ28
set_option linter.unusedVariables false
set_option linter.unusedSimpArgs false

namespace Go.Proofs.YtgknbnkmilddhaaGreat
theorem Z9(a b:List (List Int))(han:a.length<=1099511627776)(hbn:b.length<=1099511627776)(ha:∀k,(a.getD k []).length<=1099511627776)(hb:∀k,(b.getD k []).length<=1099511627776):BI Tryz.prog 160 [rows a,rows b] (.b (tf (a=b))):=by
 refine AD AA Tryz.func160 rfl A7 Tryz.ntmps160 Tryz.results160 (.b _) (λnx cX=>?_)
 refine DK ?_;refine AW.seq λN1 B2=>?_;refine DK ?_;refine AW.cond rfl ?_ ?_<;>intro h1<;>try simp only[cn]at h1
 ·refine DK ?_;refine AH ?_;exact bt (C8 (λh=>h1 (by rw[h]))).symm
 have hl:a.length=b.length:=A0
 apply AW.skip;apply B2;refine AW.seq λN2 B7=>?_;refine DK ?_;apply AW.block;refine A8 (α:=Nat) (λx=>sl 27 [(0,rows a),(1,rows b),(5,.i .i64 x)]) (λ_=>BM) (λx m=>x<=a.length/\a.take x=b.take x) (λx=>a.length-x) (0) ?_ ?_ (λ_ _ h=>h) ?_
 ·exact⟨A0,rfl⟩
 ·simp(disch:=omega) [AN,AO,sl,AR,ints,rows,A6,rows,BN,AR]<;>omega
 skip
 rintro k m ⟨hk,hI⟩
 refine AG ?_;refine AW.seq λN3 BC=>?_;refine DK ?_;refine AW.cond rfl ?_ ?_<;>intro h2<;>try simp only[cn]at h2
 ·have hak:=ha k;have jQ:=hb k;apply AW.skip;apply BC;refine AW.seq λN4 CF=>?_;apply AW.block;refine AW.seq λN hN=>?_;refine AM AA A7 10 A7 ?_
  (try simp-dsimp-implicitDefEqProofs(maxSteps:=800000) (disch:=omega)only[go_sem,List.drop_nil,List.drop_succ_cons,List.drop_zero,List.take_nil,List.take_succ_cons,List.take_zero,BN,BW,BE,BF,rows,AR]);refine⟨_,.of (JM (a.getD k []) (b.getD k []) A0 A0),?_⟩;(try simp-dsimp-implicitDefEqProofs(maxSteps:=800000) (disch:=omega)only[go_sem,BN,rows])
  apply hN;refine AW.cond rfl ?_ ?_<;>intro h3<;>try simp only[cn]at h3
  ·refine DK ?_;refine AH ?_;exact bt (C8 (λh=>h3 (by rw[h]))).symm
  apply AW.skip;apply CF;refine TA ?_;refine⟨k+1,?_,λ_ _ h=>h,?_,?_⟩
  ·simp(disch:=omega) [AN,AO,sl,AR,ints,rows,A6,rows,BN,AR]<;>omega
  ·exact⟨A0,UG [] hl A0 hI h3⟩
  first|omega|(simp only;omega)
 apply AW.exit;apply B7;refine DK ?_;refine AH ?_;have KH:k=a.length:=A0
 subst KH
 rw[List.take_length,hl,List.take_length]at hI
 exact bt (D2 hI).symm
def OP(os:List Int)(u:List V):List (List V)->List (List V)
  |[]=>[u]
  |x::l=>if GH os u x<0 then u::x::l else x::OP os u l
theorem j8{os:List Int}{u:List V}:∀l,(OP os u l).Perm (u::l):=by
  intro l;induction l with
  |nil=>exact List.Perm.refl _
  | cons x l ih=>
    rw[OP];split
    · exact List.Perm.refl _
    exact(ih.cons x).trans (List.Perm.swap u x l)
theorem pE{os:List Int}{u:List V}:∀l,(l.Pairwise λx y=>¬GH os y x<0)->(OP os u l).Pairwise λx y=>¬GH os y x<0:=by
  intro l;induction l with
  |nil=>intro _;exact List.pairwise_singleton _ _
  | cons x l ih=>
    intro h;rw[List.pairwise_cons]at h;rw[OP];split
    · rename_i q;refine List.pairwise_cons.2 ⟨λy hy=>?_,List.pairwise_cons.2 h⟩;have q2:=JD (os:=os) u y;rcases List.mem_cons.1 hy with rfl|hy
      · omega
      have h1:=h.1 y hy;have h2:=JD (os:=os) x y;have h3:=(aL (os:=os) (u:=u) (v:=x) (w:=y) A0 A0).2 (.inl q);omega
    rename_i q;refine List.pairwise_cons.2 ⟨λy hy=>?_,ih h.2⟩;rcases List.mem_cons.1 ((j8 l).mem_iff.1 hy)with rfl|hy
    · exact q
    exact h.1 y hy
def SQ(os:List Int)(u:List V)(dn:Bool)(l:List (List V)):List (List V):=if dn=true then l else OP os u l
section
variable(os:List Int)(pw:List (List Int))(cj:List (List (List Int)))
structure OkU(os:List Int)(u:List V):Prop where
  l:u.length<=6
  d:∀k,k<u.length->E4 os.length (u.getD k z0)<os.length
set_option maxHeartbeats 1000000 in
theorem VI(h:AF os pw cj)(L:List (List V))(u:List V)(hl:L.length<=4294967296)(hL:∀x∈L,OkU os x/\x.map (vec os.length)≠u.map (vec os.length))(hu:OkU os u):BI Tryz.prog 89 [AP os pw cj,.v L.length (L.map (AZ os.length)),AZ os.length u] (.v (OP os u L).length ((OP os u L).map (AZ os.length))):=by
 have FU:=h.1.1
 have qU:=hu.l
 refine B5 AA Tryz.func89 rfl A7 Tryz.ntmps89 Tryz.results89 ((aR _)) (λnx cX=>?_)
 refine EY ?_;refine AK 3 nx _ rfl (A4 _ _ _) ?_
 refine AG ?_;refine EY ?_;refine AW.seq λN1 B2=>?_;refine EY ?_;apply AW.block;refine A8 (α:=Nat×Bool×List (List V)×HP×AV) (λx=>sl 53 [(1,.v L.length (L.map (AZ os.length))),(2,AZ os.length u),(3,A5 os pw cj),(7,x.2.2.2.2),(8,.b x.2.1),(9,.i .i64 x.1)]) (λx=>x.2.2.2.1) (λx m=>(x.1<=L.length/\nx<=m)/\(x.2.2.1.length=x.1+(if x.2.1=true then 1 else 0)/\OP os u L=x.2.2.1++SQ os u x.2.1 (L.drop x.1))/\LC x.2.2.2.1 nx m x.2.2.2.2 (x.2.2.1.map (AZ os.length))) (λx=>L.length-x.1) ((0,false,[],AT BM (nx+2) (some []),.h (nx+2) 0 0)) ?_ ?_ (by intro d cs hd;simp only[AT,BM]at hd ⊢;grind) ?_
 ·exact⟨⟨AB,A9⟩,⟨AB,by simp[SQ]⟩,LC.mk (A4 _ _ _) rfl A0 A9⟩
 ·simp(disch:=omega) [AN,AO,sl,A5,ints,rows,A6]
 skip
 rintro⟨k,dn,Y,G,Q⟩ m ⟨⟨hk,hm⟩,⟨aN,hY⟩,hQ⟩
 dsimp only at hk hm aN hY hQ ⊢
 simp only[A5];refine AG ?_;have hQo:=hQ.one
 have Vi:=hQ.len
 have hQb:=hQ.bd
 rw[List.length_map]at Vi
 have hYb:Y.length<=k+1:=by rw[aN];split<;>omega
 refine AW.seq λN2 B7=>?_;refine EY ?_;refine AW.cond rfl ?_ ?_<;>intro h1<;>try simp only[cn]at h1
 ·have hkL:k<L.length:=A0;have Y5:=NP (n:=os.length) hkL;obtain⟨xx,hxx⟩:∃xx,L.getD k []=xx:=⟨_,rfl⟩;have Lg:xx∈L:=by rw[<-hxx,List.getD_eq_getElem?_getD,List.getElem?_eq_getElem hkL];exact List.getElem_mem _
  obtain⟨hxo,hxe⟩:=hL xx Lg;have Cw:L.drop k=xx::L.drop (k+1):=by rw[List.drop_eq_getElem_cons hkL,<-hxx];simp[hkL]
  have hxl:=hxo.l;rw[hxx]at Y5;have yX:=Z9 (xx.map (vec os.length)) (u.map (vec os.length)) (by simp;omega) (by simp;omega) (λk=>by
   by_cases q:k<xx.length
   ·simp[q,vec];omega
   ·simp[q]) (λk=>by
   by_cases q:k<u.length
   ·simp[q,vec];omega
   simp[q])
  rw[<-VC,<-VC,C8 hxe]at yX;apply AW.skip;apply B7;refine AW.seq λN3 BC=>?_;apply AW.block;refine AW.seq λN4 CF=>?_;refine sQ λN hN=>?_;simp-dsimp-implicitDefEqProofs(maxSteps:=800000) (disch:=omega)only[go_sem,AP,A5,Y5];refine AC.pure (.of (yX)) ?_;(try simp-dsimp-implicitDefEqProofs(maxSteps:=800000) (disch:=omega)only[go_sem,A5,Y5]);apply hN;refine AW.cond rfl ?_ ?_<;>intro h2<;>try simp only[cn]at h2
  ·cases h2
  apply AW.skip;apply CF;refine AW.seq λN5 DL=>?_;refine AW.seq λN hN=>?_;refine AM AA A7 11 A7 ?_
  (try simp-dsimp-implicitDefEqProofs(maxSteps:=800000) (disch:=omega)only[go_sem,List.drop_nil,List.drop_succ_cons,List.drop_zero,List.take_nil,List.take_succ_cons,List.take_zero,BW,BE,BF,AP,A5,AR,Y5]);refine CH.mk' (λh3=>?_) (λh3=>?_)
  ·try simp only[cn]at h3
   refine HS ?_
   rw[Y5];refine⟨_,.of (VH os pw cj h u xx qU hxl hu.d hxo.d),?_⟩;refine HS ?_
   apply hN;refine AW.cond rfl ?_ ?_<;>intro h4<;>try simp only[cn]at h4
   ·have NY:dn=false:=by simpa using h3
    subst NY;have hY2:OP os u L=(Y++[u]++[xx])++SQ os u true (L.drop (k+1)):=by
     rw[hY,Cw];simp only[SQ,if_true,if_false,OP,Bool.false_eq_true];rw[if_pos h4];simp
    have hT1:List.take (Y.length+1) (Y.map (AZ os.length)++[AZ os.length u])=Y.map (AZ os.length)++[AZ os.length u]:=List.take_of_length_le AB;simp only[AZ]at hT1;refine sQ λN hN=>?_;simp-dsimp-implicitDefEqProofs(disch:=(first|omega|((repeat refine LC.AT A0 ?_);assumption))) only[go_sem,AP,A5,AZ,hQo,Vi,BP (a:=nx) (b:=m) (L:=Q) (cs:=Y.map (AZ os.length)),List.length_map]
    apply hN;refine NF ?_;apply DL;apply rQ;simp-dsimp-implicitDefEqProofs(disch:=(first|omega|((repeat refine LC.AT A0 ?_);assumption))) only[go_sem,AP,A5,Y5,AZ,hQo,Vi,BP (a:=nx) (b:=m) (L:=Q) (cs:=Y.map (AZ os.length)),List.length_map];apply BC;refine AI (λG3 CB=>?_);dsimp only at CB;refine NF ?_;refine⟨(k+1,true,Y++[u]++[xx],G3,.h (m+4+6+11+5+1+6) 0 (Y.length+1+1)),?_,λ_ _ h=>h,?_,?_⟩
    ·simp(disch:=omega) [AN,AO,sl,AR,A5,ints,rows,A6]<;>exact .inr rfl
    ·have GA:LC G3 nx (m+4+6+11+5+1+7) (.h (m+4+6+11+5+1+6) 0 (Y.length+1+1)) ((Y++[u]++[xx]).map (AZ os.length)):=LC.mk (by rw[<-CB,List.map_append,List.map_append];simp(disch:=omega)only[A1,A4];first|(rw[show[u].map (AZ os.length)=[AZ os.length u]from rfl];simp only[AZ,hT1];rfl)|skip) AB A0 A0;have aA:(Y++[u]++[xx]).length=(k+1)+(if true=true then 1 else 0):=by rw[List.length_append,List.length_append,aN];simp
     (repeat' (with_reducible refine And.intro ?_ ?_))<;>first|exact aA|exact hY2|exact GA.wide (Nat.le_refl _) A9|first|omega|(dsimp only;omega)
    first|omega|(simp only;omega)
   have NY:dn=false:=by simpa using h3
   subst NY;have hY2:OP os u L=(Y++[xx])++SQ os u false (L.drop (k+1)):=by
    rw[hY,Cw];simp only[SQ,if_false,OP,Bool.false_eq_true];rw[if_neg A0];simp
   apply AW.skip;apply DL;apply rQ;simp-dsimp-implicitDefEqProofs(disch:=(first|omega|((repeat refine LC.AT A0 ?_);assumption))) only[go_sem,AP,A5,Y5,AZ,hQo,Vi,BP (a:=nx) (b:=m) (L:=Q) (cs:=Y.map (AZ os.length)),List.length_map];apply BC;refine AI (λG3 CB=>?_);dsimp only at CB;refine NF ?_;refine⟨(k+1,false,Y++[xx],G3,.h (m+4+6+11+6) 0 (Y.length+1)),?_,λ_ _ h=>h,?_,?_⟩
   ·simp(disch:=omega) [AN,AO,sl,AR,A5,ints,rows,A6]<;>exact .inr rfl
   ·have GA:LC G3 nx (m+4+6+11+7) (.h (m+4+6+11+6) 0 (Y.length+1)) ((Y++[xx]).map (AZ os.length)):=LC.mk (by rw[<-CB,List.map_append];simp(disch:=omega)only[A1,A4];rfl) AB A0 A0;have aA:(Y++[xx]).length=(k+1)+(if false=true then 1 else 0):=by rw[List.length_append,aN];simp;try omega
    (repeat' (with_reducible refine And.intro ?_ ?_))<;>first|exact aA|exact hY2|exact GA.wide (Nat.le_refl _) A9|first|omega|(dsimp only;omega)
   first|omega|(simp only;omega)
  try simp only[cn]at h3
  have NY:dn=true:=by simpa using h3
  subst NY;have hY2:OP os u L=(Y++[xx])++SQ os u true (L.drop (k+1)):=by
   rw[hY,Cw];simp only[SQ,if_true];simp
  refine HS ?_
  apply hN;refine B4 rfl ?_;apply AW.skip;apply DL;apply rQ;simp-dsimp-implicitDefEqProofs(disch:=(first|omega|((repeat refine LC.AT A0 ?_);assumption))) only[go_sem,AP,A5,Y5,AZ,hQo,Vi,BP (a:=nx) (b:=m) (L:=Q) (cs:=Y.map (AZ os.length)),List.length_map];apply BC;refine AI (λG3 CB=>?_);dsimp only at CB;refine NF ?_;refine⟨(k+1,true,Y++[xx],G3,.h (m+4+6+11+6) 0 (Y.length+1)),?_,λ_ _ h=>h,?_,?_⟩
  ·simp(disch:=omega) [AN,AO,sl,AR,A5,ints,rows,A6]<;>exact .inr rfl
  ·have GA:LC G3 nx (m+4+6+11+7) (.h (m+4+6+11+6) 0 (Y.length+1)) ((Y++[xx]).map (AZ os.length)):=LC.mk (by rw[<-CB,List.map_append];simp(disch:=omega)only[A1,A4];rfl) AB A0 A0;have aA:(Y++[xx]).length=(k+1)+(if true=true then 1 else 0):=by rw[List.length_append,aN];simp;try omega
   (repeat' (with_reducible refine And.intro ?_ ?_))<;>first|exact aA|exact hY2|exact GA.wide (Nat.le_refl _) A9|first|omega|(dsimp only;omega)
  first|omega|(simp only;omega)
 apply AW.exit;apply B2;refine AW.seq λN6 FR=>?_;refine EY ?_;refine AW.cond rfl ?_ ?_<;>intro h5<;>try simp only[cn]at h5
 ·have NY:dn=false:=by simpa using h5
  subst NY;obtain rfl:k=L.length:=A0;rw[List.drop_length]at hY;simp only[SQ,if_false,OP,Bool.false_eq_true]at hY;apply rQ;simp-dsimp-implicitDefEqProofs(disch:=(first|omega|((repeat refine LC.AT A0 ?_);assumption))) only[go_sem,AP,A5,AZ,hQo,Vi,BP (a:=nx) (b:=m) (L:=Q) (cs:=Y.map (AZ os.length)),List.length_map];apply FR;refine EY ?_;refine AH ?_;rw[hY,show(Y++[u]).length=Y.length+1 by simp]
  exact Vw.CP (by rw[A4,List.map_append];rfl) AB
 have NY:dn=true:=by simpa using h5
 subst NY
 obtain rfl:k=L.length:=A0
 rw[List.drop_length]at hY
 simp only[SQ,if_true,List.append_nil]at hY
 apply AW.skip;apply FR;refine EY ?_;refine AH ?_;have:=hQ.Lv
 rw[List.length_map]at this
 rw[hY]
 exact this
structure Mc(os:List Int)(P:Pc)(Ms:List Nat)(Gs:List (List Nat)):Prop where
  len:Gs.length=Ms.length
  ok:∀k,k<Ms.length->(∀g∈Gs.getD k [],g<nG os)/\(Gs.getD k []).length<=k/\Ms.getD k 0=HK os (GL P ((Gs.getD k []).map λg=>C5 os (g:Nat)))
variable{os:List Int}{pw:List (List Int)}{cj:List (List (List Int))}
theorem Mc.start(hp:AF os pw cj)(hc:CG (pc os pw cj) 0):Mc os (pc os pw cj) [1] [[]]:=by
  refine⟨rfl,λk hk=>?_⟩;obtain rfl:k=0:=by simp at hk;omega
  refine⟨λg hg=>by simp at hg,AB,?_⟩;have e:GL (pc os pw cj) []=λx=>x=z0:=by
    funext x
    exact propext ⟨λhx=>hx _ (Vn hp hc) AB,λhx=>by subst hx;exact λA hA _=>hA.e⟩
  show 1=HK os (GL (pc os pw cj) [])
  rw[e,l8 hp hc]
theorem Mc.new{P:Pc}{Ms:List Nat}{Gs:List (List Nat)}(h:Mc os P Ms Gs){i x w:Nat}(hi:i<Ms.length)(hx:x<nG os)(hw:w=HK os (GL P ((Gs.getD i []++[x]).map λg=>C5 os (g:Nat)))):Mc os P (Ms++[w]) (Gs++[Gs.getD i []++[x]]):=by
  have hl:=h.len;refine⟨by simp[hl],λk hk=>?_⟩;by_cases q:k<Ms.length
  · rw[RA A0,RA q];exact h.ok k q
  obtain rfl:k=Ms.length:=by simp at hk;omega
  have e1:(Gs++[Gs.getD i []++[x]]).getD Ms.length []=Gs.getD i []++[x]:=by rw[<-hl,List.getD_eq_getElem?_getD,List.getElem?_append_right (Nat.le_refl _),Nat.sub_self];rfl
  have e2:(Ms++[w]).getD Ms.length 0=w:=by rw[List.getD_eq_getElem?_getD,List.getElem?_append_right (Nat.le_refl _),Nat.sub_self];rfl
  rw[e1,e2];obtain⟨h1,h2,_⟩:=h.ok i hi;refine⟨λg hg=>?_,by rw[List.length_append,List.length_singleton];omega,hw⟩;rcases List.mem_append.1 hg with q|q
  · exact h1 g q
  rw[List.mem_singleton.1 q];exact hx
theorem Mc.jn{Gs:List (List Nat)}{i x:Nat}:GL (pc os pw cj) ((Gs.getD i []++[x]).map λg=>C5 os (g:Nat))=Jn (pc os pw cj) (GL (pc os pw cj) ((Gs.getD i []).map λg=>C5 os (g:Nat))) (C5 os (x:Nat)):=by
  rw[List.map_append];exact Rb
theorem Si{cX:Ctx}{P:Program}{c:Code}{s:St}{K:Exit->St->Prop}(i:Nat)(h:s.H i=some [.nl,.nl])(hs:AW cX P c ⟨s.t,AT s.H i (some [.v 0 [],.nl]),s.nx⟩ K):AW cX P c s K:=by
  refine AW.fz (s':=⟨s.t,AT s.H i (some [.v 0 [],.nl]),s.nx⟩) ⟨UH,?_,Nat.le_refl _⟩ hs;intro q CT hq;by_cases e:q=i
  · subst e;dsimp only at hq;rw[A4]at hq;cases hq;refine⟨_,h,AB,λz x y hx hy=>?_⟩;match z,hx,hy with
    |0,hx,hy=>cases hx;cases hy;exact .nl
    |1,hx,hy=>cases hx;cases hy;exact .refl _
    |z+2,hx,hy=>simp at hx
  dsimp only at hq;rw[A1 _ _ e]at hq;exact⟨CT,hq,rfl,λz x y hx hy=>by rw[hx]at hy;cases hy;exact .refl _⟩
variable(os:List Int)(pw:List (List Int))(cj:List (List (List Int)))
theorem A7N{Gs:List (List Nat)}{i:Nat}(h:i<Gs.length):(Gs.map λg=>ints (nI g)).getD i .j=ints (nI (Gs.getD i [])):=by simp[h]
theorem A2I{g:List Nat}:D3 (nI g).length (λk=>(nI g).getD k 0)=(nI g).map (AV.i .i64):=by
  rw[<-K4];congr 1
  refine List.ext_getElem (by simp[vec]) λk h1 h2=>?_
  simp only[vec,List.getElem_map,List.getElem_range];simp[h2]
theorem Sj:NR (pC os pw cj):= .g _ λk x hx=>by
  match k,hx with
  |0,hx=>cases hx;exact aR _
  |1,hx=>cases hx;exact GV _
  |k+2,hx=>simp at hx
set_option maxRecDepth 20000 in
set_option maxHeartbeats 4000000 in
theorem ZA(h:AF os pw cj)(hc:CG (pc os pw cj) 0)(HL:nG os<=32):BI Tryz.prog 35 [AP os pw cj] (pC os pw cj):=by
 have FU:=h.1.1
 have Rk:=JC h
 have h2p:=I3 HL
 have gM:=EM os pw cj h
 rw[<-GR h]at gM
 refine B5 AA Tryz.func35 rfl A7 Tryz.ntmps35 Tryz.results35 ((Sj _ _ _)) (λnx cX=>?_)
 refine NS ?_;refine AK 1 nx _ rfl ((A1 _ _ A0).trans (A4 _ _ _)) ?_
 refine AG ?_;refine Ii (XL os pw cj h hc) ?_;refine NS ?_;refine AW.seq λN1 B2=>?_;refine NS ?_;apply AW.block;refine z7 (nx+2+3+2) (nx+2+3+1) 0 0 _ [] (A4 _ _ _) rfl ((A1 _ _ A0).trans (A4 _ _ _)) rfl A0 ?_
 refine AI (λG0 C9=>?_);dsimp only at C9
 have LP:G0 (nx+1)=some [.nl,.nl]:=by rw[<-C9];simp(disch:=omega)only[A4,A1]
 have FH:G0 (nx+5)=some ((nI [1]).map (.i .i64)):=by rw[<-C9];simp(disch:=omega)only[A4,A1];rfl
 have DN:G0 (nx+2+3+2)=some (([[]]:List (List Nat)).map λg=>ints (nI g)):=by rw[<-C9];simp(disch:=omega)only[A4,A1];rfl
 clear C9
 refine A8 (α:=Nat×HP×List Nat×List (List Nat)×Nat×Nat) (λx=>sl 115 [(1,A5 os pw cj),(2,.q (nx+1) 0),(3,rows (RP os pw cj (nG os))),(4,.h x.2.2.2.2.1 0 x.2.2.1.length),(5,.h x.2.2.2.2.2 0 x.2.2.1.length),(6,.i .i64 x.1)]) (λx=>x.2.1) (λx m=>(x.1<=x.2.2.1.length/\nx+10<=m)/\aQ os pw cj x.2.2.1 x.1 0/\Mc os (pc os pw cj) x.2.2.1 x.2.2.2.1/\(nx+2<=x.2.2.2.2.1/\x.2.2.2.2.1<m/\nx+2<=x.2.2.2.2.2/\x.2.2.2.2.2<m/\x.2.2.2.2.1≠x.2.2.2.2.2)/\x.2.1 (nx+1)=some [.nl,.nl]/\x.2.1 x.2.2.2.2.1=some ((nI x.2.2.1).map (.i .i64))/\x.2.1 x.2.2.2.2.2=some (x.2.2.2.1.map λg=>ints (nI g))) (λx=>2^nG os-x.1) ((0,G0,[1],[[]],nx+5,nx+2+3+2)) ?_ ?_ (λ_ _ h=>h) ?_
 ·exact⟨⟨AB,A9⟩,aQ.start h hc,Mc.start h hc,⟨A9,A9,A9,A9,A9⟩,LP,FH,DN⟩
 ·simp(disch:=omega) [AN,AO,sl,A5]
 skip
 rintro⟨i,G,Ms,Gs,im,ig⟩ m ⟨⟨hi,hm⟩,hB,hN,⟨U7,XZ,Lx,hd4,hd5⟩,s8,PI,KV⟩
 dsimp only at hi hm hB hN U7 XZ Lx hd4 hd5 s8 PI KV ⊢
 simp only[A5];refine AG ?_;clear LP FH DN
 have hMl:=hB.len
 have hGl:=hN.len
 refine AW.seq λN2 B7=>?_;refine NS ?_;refine AW.cond rfl ?_ ?_<;>intro h1<;>try simp only[cn]at h1
 ·have A7O:(Ms.getD i 0).testBit 0=true:=by
   obtain⟨S0,hS0,e0⟩:=hB.sub (Ms.getD i 0) (by rw[List.getD_eq_getElem?_getD,List.getElem?_eq_getElem A0];exact List.getElem_mem _);rw[<-e0];exact DJ.2 ⟨Rk.1,by rw[show((0:Nat):Int)=0 from rfl,I2];exact hS0.e⟩
  apply AW.skip;apply B7;refine AW.seq λN3 BC=>?_;apply AW.block;refine NS ?_;apply AW.block;refine A8 (α:=Nat×HP×List Nat×List (List Nat)×Nat×Nat) (λx=>sl 115 [(1,A5 os pw cj),(2,.q (nx+1) 0),(3,rows (RP os pw cj (nG os))),(4,.h x.2.2.2.2.1 0 x.2.2.1.length),(5,.h x.2.2.2.2.2 0 x.2.2.1.length),(6,.i .i64 i),(7,.i .i64 x.1)]) (λx=>x.2.1) (λx m=>(1<=x.1/\x.1<=nG os/\i<x.2.2.1.length/\nx+10<=m)/\aQ os pw cj x.2.2.1 i x.1/\Mc os (pc os pw cj) x.2.2.1 x.2.2.2.1/\(nx+2<=x.2.2.2.2.1/\x.2.2.2.2.1<m/\nx+2<=x.2.2.2.2.2/\x.2.2.2.2.2<m/\x.2.2.2.2.1≠x.2.2.2.2.2)/\x.2.1 (nx+1)=some [.nl,.nl]/\x.2.1 x.2.2.2.2.1=some ((nI x.2.2.1).map (.i .i64))/\x.2.1 x.2.2.2.2.2=some (x.2.2.2.1.map λg=>ints (nI g))) (λx=>nG os-x.1) ((1,G,Ms,Gs,im,ig)) ?_ ?_ (λ_ _ h=>h) ?_
  ·exact⟨⟨AB,A9,A9,A9⟩,hB.skip A7O,hN,⟨A9,A9,A9,A9,A9⟩,s8,PI,KV⟩
  ·simp(disch:=omega) [AN,AO,sl,A5]
  skip
  rintro⟨q,G2,Ns,Hs,jm,jg⟩ m2 ⟨⟨KY,hq,Hx,LN⟩,sO,B7,⟨Lh,PQ,he3,he4,he5⟩,Ba,bO,iC⟩;dsimp only at hq KY Hx LN sO B7 Lh PQ he3 he4 he5 Ba bO iC ⊢;simp only[A5];refine AG ?_;have hNl:=sO.len;have hHl:=B7.len;refine AW.seq λN4 CF=>?_;refine Ii (gM) ?_;refine AW.cond rfl ?_ ?_<;>intro h2<;>try simp only[cn]at h2
  ·have T8:Ns.getD i 0∈Ns:=by simp[Hx]
   obtain⟨S,hS,Bb⟩:=sO.sub _ T8;have hSl:=HC (os:=os) (S:=S);have KG:=dX Hx;rw[<-Bb]at KG;have hga:=A7N (Gs:=Hs) (i:=i) A0;obtain⟨hgn,A2D,Y5⟩:=B7.ok i Hx;obtain⟨gs,wG⟩:∃gs,Hs.getD i []=gs:=⟨_,rfl⟩;have vC:=Mc.jn (os:=os) (pw:=pw) (cj:=cj) (Gs:=Hs) (i:=i) (x:=q);rw[wG]at hga hgn A2D Y5 vC;have hSe:S=GL (pc os pw cj) (gs.map λg=>C5 os (g:Nat)):=QX h (λ_ z=>hS.n z) (λ_ z=>(sG h.val hc (λd hd=>h.2.1 d hd) (us:=gs.map λg=>C5 os (g:Nat)) (λx hx=>by
    obtain⟨g,_,rfl⟩:=List.mem_map.1 hx;exact DP h g)).n z) (Bb.trans Y5)
   rw[<-hSe]at vC;apply AW.skip;apply CF;refine AW.seq λN5 DL=>?_;apply AW.block;refine AW.seq λN6 FR=>?_;refine sQ λN hN=>?_;simp-dsimp-implicitDefEqProofs(maxSteps:=800000) (disch:=omega)only[go_sem,List.length_map,CY,DQ,DR,C6,AP,A5,NM,bO,KG];apply hN;refine AW.cond rfl ?_ ?_<;>intro h3<;>try simp only[cn]at h3
   ·apply AW.exit;apply DL;refine AI (λG5 EU=>?_);dsimp only at EU;refine YI ?_;refine⟨(q+1,G5,Ns,Hs,jm,jg),?_,λ_ _ h=>h,?_,?_⟩
    ·simp(disch:=omega) [AN,AO,sl,AR,A5,ints]
    ·subst EU;exact⟨⟨A9,A9,A9,A9⟩,sO.skip (by rw[<-Bb];simpa using h3),B7,⟨A9,A9,A9,A9,A9⟩,Ba,bO,iC⟩
    first|omega|(simp only;omega)
   have A7P:=Z6 os pw cj h hc HL (gs++[q]) (by rw[List.length_append,List.length_singleton];omega) (λg hg=>by
    rcases List.mem_append.1 hg with z|z
    ·exact hgn g z
    rw[List.mem_singleton.1 z];omega)
   apply AW.skip;apply FR;refine sQ λN hN=>?_;(try simp-dsimp-implicitDefEqProofs(maxSteps:=800000) (disch:=omega)only[go_sem,List.length_map,CY,DQ,DR,AP,A5,NM,iC,hga]);refine(CJ (nI gs) (by rw[C6];omega) _ _).AS ?_
   rintro m3 H3 r3 W1 ⟨Lo,rfl,i1,i2,rfl⟩;rw[A2I,C6];(try simp-dsimp-implicitDefEqProofs(maxSteps:=800000) (disch:=omega)only[go_sem,C6])
   apply hN;refine CZ 8 (m2+4+9+7) (gs.length+1) ((nI (gs++[q])).map (.i .i64)) rfl (by simp(disch:=omega)only[A4];rw[lF,List.take_of_length_le (by rw[List.length_map,C6];exact Nat.le_refl _)]) (by rw[List.length_map,C6,List.length_append];rfl) ?_;rw[show gs.length+1=(nI (gs++[q])).length by rw[C6,List.length_append];rfl];refine AI (λG3 CB=>?_);dsimp only at CB;have LP:G3 (nx+1)=some [.nl,.nl]:=by rw[<-CB];simp(disch:=omega)only[A1];exact Ba
   have FH:G3 jm=some ((nI Ns).map (.i .i64)):=by rw[<-CB];simp(disch:=omega)only[A1];exact bO
   have DN:G3 jg=some (Hs.map λg=>ints (nI g)):=by rw[<-CB];simp(disch:=omega)only[A1];exact iC
   clear CB;obtain⟨w,hw⟩:∃w,HK os (GL (pc os pw cj) ((gs++[q]).map λg=>C5 os (g:Nat)))=w:=⟨_,rfl⟩;have nT:=HC (os:=os) (S:=GL (pc os pw cj) ((gs++[q]).map λg=>C5 os (g:Nat)));rw[hw]at nT A7P;have hjw:HK os (Jn (pc os pw cj) S (C5 os (q:Nat)))=w:=by rw[<-vC,hw]
   refine AG ?_;refine Ii (A7P) ?_;refine NS ?_;refine AW.seq λN7 MV=>?_;refine NS ?_;apply AW.block;refine A8 (α:=Nat) (λx=>sl 115 [(1,A5 os pw cj),(2,.q (nx+1) 0),(3,rows (RP os pw cj (nG os))),(4,.h jm 0 Ns.length),(5,.h jg 0 Ns.length),(6,.i .i64 i),(7,.i .i64 q),(8,ints (nI (gs++[q]))),(9,.i .i64 w),(10,.b (tf (w∈Ns.take x))),(11,.i .i64 x)]) (λ_=>G3) (λx m=>x<=Ns.length/\m3<=m) (λx=>Ns.length-x) (0) ?_ ?_ (λ_ _ h=>h) ?_
   ·exact⟨A0,A9⟩
   ·simp(disch:=omega) [AN,AO,sl,A5,ints,tf]
   skip
   rintro k m4 ⟨hk,Bd⟩;simp only[A5];refine AG ?_;refine AW.seq λN8 OB=>?_;refine NS ?_;refine AW.cond rfl ?_ ?_<;>intro h4<;>try simp only[cn]at h4
   ·have hkN:k<Ns.length:=A0;have hak:=dX hkN;have W0:Ns.take (k+1)=Ns.take k++[Ns.getD k 0]:=by rw[List.take_succ_eq_append_getElem hkN];simp[hkN]
    apply AW.skip;apply OB;refine AW.seq λN9 SC=>?_;apply AW.block;apply rQ;simp-dsimp-implicitDefEqProofs(maxSteps:=800000) (disch:=omega)only[go_sem,List.length_map,CY,DQ,DR,C6,AP,A5,NM,FH,hak];refine CH.mk' (λh5=>?_) (λh5=>?_)
    ·(try simp only[cn]at h5);have hqq:tf (w∈Ns.take (k+1))=((Ns.getD k 0:Int)==(w:Int)):=by
      rw[Bool.eq_iff_iff,JL,beq_iff_eq,W0,List.mem_append,List.mem_singleton];exact⟨λz=>(z.resolve_left h5)▸rfl,λz=> .inr A0⟩
     ((try simp-dsimp-implicitDefEqProofs(maxSteps:=800000) (disch:=omega)only[go_sem,List.length_map,C6,A5,FH,hak]));apply SC;refine YI ?_;refine⟨k+1,?_,λ_ _ h=>h,?_,?_⟩
     ·simp(disch:=omega) [AN,AO,sl,AR,A5,ints,hqq]<;>omega
     ·exact⟨A9,A9⟩
     first|omega|(simp only;omega)
    (try simp only[cn]at h5);have hqq:tf (w∈Ns.take (k+1))=true:=D2 (by rw[W0];exact List.mem_append_left _ h5);(try simp-dsimp-implicitDefEqProofs(maxSteps:=800000) (disch:=omega)only[go_sem,CY,DQ,DR,AP,A5,NM])
    apply SC;refine YI ?_;refine⟨k+1,?_,λ_ _ h=>h,?_,?_⟩
    ·simp(disch:=omega) [AN,AO,sl,AR,A5,ints,hqq]<;>omega
    ·exact⟨A9,A9⟩
    first|omega|(simp only;omega)
   obtain rfl:k=Ns.length:=A0;rw[List.take_length]at*;apply AW.exit;apply MV;refine NS ?_;refine AW.cond rfl ?_ ?_<;>intro h6<;>try simp only[cn]at h6
   ·have QR:w∉Ns:=h6;have hB3:=sO.new h hc Hx hS Bb (by rw[hjw];exact QR);rw[hjw]at hB3;have BC:=B7.new (x:=q) (w:=w) Hx A0 (by rw[wG];exact hw.symm);rw[wG]at BC;refine sQ λN hN=>?_;simp-dsimp-implicitDefEqProofs(maxSteps:=800000) (disch:=omega)only[go_sem,List.length_map,CY,DQ,DR,C6,AP,A5,NM,FH];apply hN;apply rQ;simp-dsimp-implicitDefEqProofs(maxSteps:=800000) (disch:=omega)only[go_sem,List.length_map,CY,DQ,DR,ints,C6,AP,A5,NM,DN];apply DL;refine AI (λG5 EU=>?_);dsimp only at EU
    refine YI ?_;refine⟨(q+1,G5,Ns++[w],Hs++[gs++[q]],m4+4+2+3,m4+4+2+5+3),?_,λ_ _ h=>h,?_,?_⟩
    ·simp(disch:=omega) [AN,AO,sl,AR,A5,ints]
    ·have O0:G5 (nx+1)=some [.nl,.nl]:=by rw[<-EU];simp(disch:=omega)only[A1];exact LP
     have ABU:G5 (m4+4+2+3)=some ((nI (Ns++[w])).map (.i .i64)):=by rw[<-EU,lF (gs:=Ns)];simp(disch:=omega)only[A1,A4];rw[List.take_of_length_le (by rw[List.length_map,C6];exact Nat.le_refl _)]
     have JT:G5 (m4+4+2+5+3)=some ((Hs++[gs++[q]]).map λg=>ints (nI g)):=by rw[<-EU,List.map_append];simp(disch:=omega)only[A1,A4];rw[List.take_of_length_le (by rw[List.length_map];omega)];simp[ints,nI]
     exact⟨⟨A9,A9,by (try dsimp only);rw[List.length_append,List.length_singleton];omega,A9⟩,hB3,BC,⟨A9,A9,A9,A9,A9⟩,O0,ABU,JT⟩
    first|omega|(simp only;omega)
   have aH:w∈Ns:=by first|exact h6|(exact Classical.byContradiction λz=>by rw[C8 z]at h6;cases h6)|simpa using h6
   have hB3:=sO.old h hS Bb (by rw[hjw];exact aH);apply AW.skip;apply DL;refine AI (λG5 EU=>?_);dsimp only at EU;refine YI ?_;refine⟨(q+1,G5,Ns,Hs,jm,jg),?_,λ_ _ h=>h,?_,?_⟩
   ·simp(disch:=omega) [AN,AO,sl,AR,A5,ints]
   ·subst EU;exact⟨⟨A9,A9,A9,A9⟩,hB3,B7,⟨A9,A9,A9,A9,A9⟩,LP,FH,DN⟩
   first|omega|(simp only;omega)
  apply AW.exit;apply BC;refine YI ?_;refine⟨(i+1,G2,Ns,Hs,jm,jg),?_,λ_ _ h=>h,?_,?_⟩
  ·simp(disch:=omega) [AN,AO,sl,AR,A5]<;>omega
  ·exact⟨⟨A9,A9⟩,sO.row A0,B7,⟨A9,A9,A9,A9,A9⟩,Ba,bO,iC⟩
  first|omega|(simp only;omega)
 obtain⟨hNd,XJ⟩:=hB.fin h hc A0
 have hMp:0<Ms.length:=List.length_pos_of_mem hB.one
 apply AW.exit;apply B2;refine CZ 4 im Ms.length _ rfl PI (by rw[List.length_map,C6]) ?_
 refine AG ?_;refine NS ?_;refine AW.seq λAm IQ=>?_;refine NS ?_;apply AW.block;obtain⟨mm,iZ⟩:∃mm,mm=m:=⟨m,rfl⟩
 subst iZ
 refine Si (mm+4+1) (A4 _ _ _) ?_
 refine AI (λG0 C9=>?_);dsimp only at C9
 have LP:G0 (nx+1)=some [.nl,.nl]:=by rw[<-C9];simp(disch:=omega)only[A1];exact s8
 have FH:G0 (mm+4+1)=some [.v 0 [],.nl]:=by rw[<-C9];exact A4 _ _ _
 clear C9
 refine A8 (α:=Nat×HP×List (List V)) (λx=>sl 115 [(1,A5 os pw cj),(2,.q (nx+1) 0),(4,ints (nI Ms)),(12,.q (mm+4+1) 0),(13,.i .i64 x.1)]) (λx=>x.2.1) (λx m=>(x.1<=Ms.length/\mm+8<=m)/\(x.2.2.Perm ((Ms.take x.1).map (LO os pw cj))/\x.2.2.Pairwise λx y=>¬GH os y x<0)/\x.2.1 (nx+1)=some [.nl,.nl]/\x.2.1 (mm+4+1)=some [.v x.2.2.length (x.2.2.map (AZ os.length)),.nl]) (λx=>Ms.length-x.1) ((0,G0,[])) ?_ ?_ (λ_ _ h=>h) ?_
 ·exact⟨⟨AB,A9⟩,⟨AB,AB⟩,LP,FH⟩
 ·simp(disch:=omega) [AN,AO,sl,A5,ints,C6]
 skip
 rintro⟨k,G3,Y⟩ m3 ⟨⟨hk,W1⟩,⟨hP,hY⟩,OR,LZ⟩
 dsimp only at hk W1 hP hY OR LZ ⊢
 simp only[A5,ints,C6];refine AG ?_;refine AW.seq λDu JO=>?_;refine NS ?_;refine AW.cond rfl ?_ ?_<;>intro h7<;>try simp only[cn]at h7
 ·have MU:k<Ms.length:=A0;have KG:=dX MU;have zT:=(XJ _).1 (show Ms.getD k 0∈Ms by simp[MU]);have W0:Ms.take (k+1)=Ms.take k++[Ms.getD k 0]:=by rw[List.take_succ_eq_append_getElem MU];simp[MU]
  have QR:Ms.getD k 0∉Ms.take k:=λq=>by
   obtain⟨j,hj,e⟩:=List.getElem_of_mem q;rw[List.length_take]at hj;rw[List.getElem_take]at e;have:=(List.pairwise_iff_getElem.1 hNd) j k A0 MU A0;rw[e]at this;exact this (by simp[MU])
  obtain⟨w,hw⟩:∃w,Ms.getD k 0=w:=⟨_,rfl⟩;rw[hw]at KG zT W0 QR;obtain⟨S,hS,Bb,hSc,_⟩:=QH h hc zT;have A7Q:=RZ os pw cj h hc HL hS hSc;rw[Bb]at A7Q;have aN:=hP.length_eq;rw[List.length_map,List.length_take,Nat.min_eq_left hk]at aN;have ABV:=VI os pw cj h Y (LO os pw cj w) A0 (λx hx=>by
   obtain⟨a,ha,rfl⟩:=List.mem_map.1 (hP.mem_iff.1 hx);have Ck:=(XJ a).1 (List.mem_of_mem_take ha);refine⟨⟨R8 h hc Ck,l9 h hc Ck⟩,λe=>?_⟩;have e2:LO os pw cj a=LO os pw cj w:=by
    have inj:∀l l':List V,(∀x∈l,T (pc os pw cj) 0 x)->(∀x∈l',T (pc os pw cj) 0 x)->l.map (vec os.length)=l'.map (vec os.length)->l=l':=by
     intro l;induction l with
     |nil=>intro l' _ _ e;cases l' with|nil=>rfl|cons=>simp at e
     | cons x l ih=>
      intro l' h1 h2 e;cases l' with
      |nil=>simp at e
      |cons y l'=>
       rw[List.map_cons,List.map_cons]at e;injection e with e1 e2
       rw[kZ (λk hk=>(h1 x AB).t k hk) (λk hk=>(h2 y AB).t k hk) e1,ih l' (λz hz=>h1 z (by simp[hz])) (λz hz=>h2 z (by simp[hz])) e2]
    exact inj _ _ (j4 h hc Ck) (j4 h hc zT) e
   have e3:=TT h hc Ck;rw[e2,TT h hc zT]at e3;subst e3;exact QR ha) ⟨R8 h hc zT,l9 h hc zT⟩
  apply AW.skip;apply JO;refine AW.seq λOt PA=>?_;apply AW.block;refine AM AA A7 11 A7 ?_
  (try simp-dsimp-implicitDefEqProofs(maxSteps:=800000) (disch:=omega)only[go_sem,List.drop_nil,List.drop_succ_cons,List.drop_zero,List.take_nil,List.take_succ_cons,List.take_zero,CY,BW,BE,BF,DQ,DR,C6,AP,A5,AR,NM,LZ,KG]);refine⟨_,.of (A7Q),?_⟩;(try simp-dsimp-implicitDefEqProofs(maxSteps:=800000) (disch:=omega)only[go_sem,CY,DQ,DR,AP,A5,NM])
  refine⟨_,.of (ABV),?_⟩;refine rJ LZ ?_
  apply PA;refine AI (λG5 EU=>?_);dsimp only at EU;refine YI ?_;refine⟨(k+1,G5,OP os (LO os pw cj w) Y),?_,λ_ _ h=>h,?_,?_⟩
  ·simp(disch:=omega) [AN,AO,sl,AR,A5,ints,C6]<;>omega
  ·have O0:G5 (nx+1)=some [.nl,.nl]:=by rw[<-EU];simp(disch:=omega)only[A1];exact OR
   have KY:G5 (mm+4+1)=some [.v (OP os (LO os pw cj w) Y).length ((OP os (LO os pw cj w) Y).map (AZ os.length)),.nl]:=by rw[<-EU];exact A4 _ _ _
   have JT:(OP os (LO os pw cj w) Y).Perm ((Ms.take (k+1)).map (LO os pw cj)):=by
    rw[W0,List.map_append];exact((j8 Y).trans (hP.cons _)).trans (List.perm_append_comm (l₁:=[LO os pw cj w]))
   (repeat' (with_reducible refine And.intro ?_ ?_))<;>first|exact JT|exact pE Y hY|exact O0|exact KY|first|omega|(dsimp only;omega)
  first|omega|(simp only;omega)
 obtain rfl:k=Ms.length:=A0
 rw[List.take_length]at hP
 have Rx:=TU h hc hNd XJ hP hY
 have hYe:=lA Rx
 have aN:=hP.length_eq
 rw[List.length_map]at aN
 obtain⟨mc,hmc⟩:∃mc,mc=DM os (pc os pw cj) Y:=⟨_,rfl⟩
 have ABN:mc.length=Y.length:=by rw[hmc,EG]
 apply AW.exit;apply IQ;refine AW.seq λN13 RG=>?_;refine NS ?_;apply AW.block;obtain⟨mn,hmn⟩:∃mn,mn=m3:=⟨m3,rfl⟩
 subst hmn
 refine A8 (α:=Nat×HP×AV) (λx=>sl 115 [(1,A5 os pw cj),(2,.q (nx+1) 0),(12,.q (mm+4+1) 0),(14,.i .i64 x.1)]) (λx=>x.2.1) (λx m=>(x.1<=Y.length/\mn<=m)/\x.2.1 (nx+1)=some [.nl,.nl]/\x.2.1 (mm+4+1)=some [.v Y.length (Y.map (AZ os.length)),x.2.2]/\LC x.2.1 mn m x.2.2 (((nI mc).take x.1).map (.i .i64))) (λx=>Y.length-x.1) ((0,G3,.nl)) ?_ ?_ (λ_ _ h=>h) ?_
 ·exact⟨⟨AB,A9⟩,OR,LZ,by simpa using LC.nil⟩
 ·simp(disch:=omega) [AN,AO,sl,A5,ints]
 skip
 rintro⟨k,G4,L⟩ m5 ⟨⟨DN,zU⟩,Ld,yL,hL⟩
 dsimp only at DN zU Ld yL hL ⊢
 simp only[A5,ints];refine AG ?_;have MA:=hL.one
 have IJ:=hL.len
 have l4:=hL.bd
 have YO:((nI mc).take k).length=k:=by rw[List.length_take,C6];omega
 rw[List.length_map,YO]at IJ
 refine AW.seq λN14 RH=>?_;refine sQ λN hN=>?_;simp-dsimp-implicitDefEqProofs(maxSteps:=800000) (disch:=omega)only[go_sem,CY,DQ,DR,AP,A5,NM,yL];apply hN;refine AW.cond rfl ?_ ?_<;>intro h8<;>try simp only[cn]at h8
 ·have hkY:k<Y.length:=A0;have KG:=NP (n:=os.length) hkY;obtain⟨y,hy⟩:∃y,Y.getD k []=y:=⟨_,rfl⟩;have hym:y∈Y:=by rw[<-hy,List.getD_eq_getElem?_getD,List.getElem?_eq_getElem hkY];exact List.getElem_mem _
  obtain⟨S,hS,hSc⟩:=(Rx.all y).1 hym;have hbt:=Z7 os pw cj h hc HL hS hSc;have hmq:mc.getD k 0=HK os S:=by
   rw[hmc,QY hkY,hSc.gen h.val hc hS];congr 2
   rw[<-hy];simp[hkY]
  have UE:((nI mc).take (k+1)).map (AV.i .i64)=((nI mc).take k).map (AV.i .i64)++[.i .i64 (HK os S)]:=by
   rw[<-hmq,List.take_succ_eq_append_getElem (by rw[C6];omega),List.map_append];congr 1
   have:k<mc.length:=A0;simp[nI,this]
  rw[hy]at KG;apply AW.skip;apply RH;refine AW.seq λN15 kC=>?_;apply AW.block;refine AM AA A7 10 A7 ?_
  (try simp-dsimp-implicitDefEqProofs(maxSteps:=800000) (disch:=omega)only[go_sem,List.drop_nil,List.drop_succ_cons,List.drop_zero,List.take_nil,List.take_succ_cons,List.take_zero,CY,BW,BE,BF,DQ,DR,AP,A5,AR,NM,yL,KG]);refine⟨_,.of (hbt),?_⟩;try simp-dsimp-implicitDefEqProofs(disch:=(first|omega|((repeat refine LC.AT A0 ?_);assumption))) only[go_sem,AP,A5,yL,MA,IJ,AY,BP (a:=mn) (b:=m5) (L:=L) (cs:=((nI mc).take k).map (.i .i64)),List.length_map,YO]
  apply kC;refine AI (λG9 fS=>?_);dsimp only at fS;refine YI ?_;refine⟨(k+1,G9,.h (m5+5+10) 0 (k+1)),?_,λ_ _ h=>h,?_,?_⟩
  ·simp(disch:=omega) [AN,AO,sl,AR,A5,ints]<;>omega
  ·have O0:G9 (nx+1)=some [.nl,.nl]:=by rw[<-fS];simp(disch:=omega)only[A1,AY];exact Ld
   have KY:G9 (mm+4+1)=some [.v Y.length (Y.map (AZ os.length)),.h (m5+5+10) 0 (k+1)]:=by rw[<-fS];first|(simp(disch:=omega)only[A4,A1];done)|(simp(disch:=omega)only[A4,A1];rfl)
   have GA:LC G9 mn (m5+5+11) (.h (m5+5+10) 0 (k+1)) (((nI mc).take (k+1)).map (.i .i64)):=LC.mk (by rw[<-fS,UE];simp(disch:=omega)only[A4,A1]) (by rw[List.length_map,List.length_take,C6];omega) A0 A0
   (repeat' (with_reducible refine And.intro ?_ ?_))<;>first|exact O0|exact KY|exact GA.wide (Nat.le_refl _) A9|first|omega|(dsimp only;omega)
  first|omega|(simp only;omega)
 obtain rfl:k=Y.length:=A0
 apply AW.exit;apply RG;refine sQ λN hN=>?_;simp-dsimp-implicitDefEqProofs(maxSteps:=800000) (disch:=omega)only[go_sem,CY,DQ,DR,AP,A5,NM,yL,Ld];apply hN;refine AH ?_;have hL9:LC (AT G4 (nx+1) (some [AV.v Y.length (Y.map (AZ os.length)),L])) mn m5 L ((nI mc).map (.i .i64)):=by
  have:=hL.AT (i:=nx+1) (c:=some [AV.v Y.length (Y.map (AZ os.length)),L]) A0;rwa [List.take_of_length_le (by rw[C6];omega)]at this
 rw[pC,<-hYe,<-hmc]
 refine .g _ _ rfl λk x y hx hy=>?_
 match k,hx,hy with
 |0,hx,hy=>cases hx;cases hy;exact .refl _
 |1,hx,hy=>cases hx;cases hy;have:=hL9.Lv;rwa [List.length_map]at this
 |k+2,hx,hy=>simp at hx
end
end Go.Proofs.YtgknbnkmilddhaaGreat
