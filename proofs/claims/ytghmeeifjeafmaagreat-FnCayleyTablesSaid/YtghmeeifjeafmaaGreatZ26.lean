import Derived.Test.YtghmeeifjeafmaaGreatZ25
set_option linter.unusedVariables false
set_option linter.unusedSimpArgs false
namespace Go.Proofs.YtghmeeifjeafmaaGreat
theorem rN{P:Pc}{xs:List V}{i:Nat}(h:∀i',i'<i→i'<(BS P xs i').1.length):i≤(BS P xs i).1.length:=by
  cases i with
  |zero=>exact Nat.zero_le _
  | succ i=>
    have h1:=h i (by omega);rw[BS];obtain⟨e,he⟩:=jK (P:=P) (xs:=xs) (x:=(BS P xs i).1.getD i z0) (pts:=(BS P xs i).1) xs.length;dsimp only;rw[he,List.length_append];omega
theorem Ji{os:List Int}:∀k,KY os z0 k=0:=by
  intro k;induction k with
  |zero=>rfl
  |succ k ih=>rw[KY,ih,Int.zero_mul];rfl
section
variable(os:List Int)(pw:List (List Int))(cj:List (List (List Int)))
set_option maxRecDepth 20000 in
set_option maxHeartbeats 2000000 in
theorem NP(h:AI os pw cj)(hc:DI (pc os pw cj) 0)(xs:List V)(hl:xs.length≤4)(JH:∀x∈xs,T (pc os pw cj) 0 x):W9 Tryz.prog 45 [A5 os pw cj,B2 os.length xs] (rows (Q4 (pc os pw cj) xs)):=by
 have J4:=h.1.1
 have hv:=h.val
 have hg:=BO hv hc
 have J2:=h.2.1
 have rM:=h.2.2.1
 intro nx
 refine AC.AM A9 Tryz.func45 rfl (by kernel_rfl) Tryz.ntmps45 Tryz.results45 (fun cX=>?_)
 refine sQ fun N hN=>?_;simp-dsimp-implicitDefEqProofs(maxSteps:=800000) (disch:=omega)only[go_sem,A5,B2];apply hN;refine sQ fun N hN=>?_;simp-dsimp-implicitDefEqProofs(maxSteps:=800000) (disch:=omega)only[go_sem,A5,B2,ints];apply hN;refine AW.Hc (nx+1+6) (nx+1+5) os.length [] (DM os.length z0) ?_ ?_ E0 (by omega) ?_
 ·simp only[A1,List.nil_append]
 ·simp(disch:=omega)only[A0,A1,CA];rfl
 simp-dsimp-implicitDefEqProofs(maxSteps:=800000) (disch:=omega)only[go_sem];refine sQ fun N hN=>?_;simp-dsimp-implicitDefEqProofs(maxSteps:=800000) (disch:=omega)only[go_sem,A5,B2];apply hN;refine sQ fun N hN=>?_;simp-dsimp-implicitDefEqProofs(maxSteps:=800000) (disch:=omega)only[go_sem,A5,B2];apply hN;refine AW.seq fun N1 BC=>?_;refine sQ fun N hN=>?_;simp-dsimp-implicitDefEqProofs(maxSteps:=800000) (disch:=omega)only[go_sem,A5,B2];apply hN;apply AW.block;refine AW.BD (fun G0 CT=>?_);dsimp only at CT
 have hS0:∀m,nx+17≤m→yZ os nx m (nx+13+2) (nx+9) (nx+1+6) G0 xs.length (BS (pc os pw cj) xs 0).1 (F6 (pc os pw cj) xs 0 0) (List.replicate xs.length .nl) (fun _=>0):=by
  intro m hm;refine⟨c7.start ?_ (by omega) (by omega) (fun g hg=>by rw[ZD];rfl),?_,?_,by omega,by omega,by omega,by omega,by omega⟩
  ·rw[←CT];simp(disch:=omega)only[A0,A1]
  ·rw[←CT];simp(disch:=omega)only[A0,A1];rfl
  rw[←CT];simp(disch:=omega)only[A0,A1];simp only[BS,jO,Ji];rfl
 refine AW.AF (α:=Nat×HP×Nat×List AV×(Nat→Nat)) (fun x=>sl 79 [(0,A5 os pw cj),(1,B2 os.length xs),(5,.h x.2.2.1 0 (BS (pc os pw cj) xs x.1).1.length),(6,.m (nx+9)),(7,.h (nx+13+2) 0 xs.length),(8,.i .i64 x.1)]) (fun x=>x.2.1) (fun x m=>(∀i',i'<x.1→i'<(BS (pc os pw cj) xs i').1.length)∧yZ os nx m (nx+13+2) (nx+9) x.2.2.1 x.2.1 xs.length (BS (pc os pw cj) xs x.1).1 (F6 (pc os pw cj) xs x.1 0) x.2.2.2.1 x.2.2.2.2) (fun x=>729-x.1) ((0,G0,nx+1+6,List.replicate xs.length .nl,fun _=>0)) ?_ ?_ (fun _ _ h=>h) ?_
 ·exact⟨by simp,hS0 _ (by first|omega|(dsimp only;omega))⟩
 ·simp(disch:=omega) [AO,AQ,sl,A5,ints,rows,A4,B2,BS]
 skip
 rintro⟨i,G,PB,rs,ids⟩ m ⟨V6,hS⟩
 dsimp only at V6 hS
 have z5:=XZ.BS hv hc JH i V6
 have hPl:=z5.len h
 simp-dsimp-implicitDefEqProofs(maxSteps:=800000) (disch:=omega)only[go_sem];refine AW.seq fun N2 BM=>?_;refine sQ fun N hN=>?_;simp-dsimp-implicitDefEqProofs(maxSteps:=800000) (disch:=omega)only[go_sem,A5,B2];apply hN;refine AW.cond rfl ?_ ?_<;>intro h1
 ·try simp only[cn]at h1
  have PK:i<(BS (pc os pw cj) xs i).1.length:=by omega
  obtain⟨x0,JA⟩:∃x,(BS (pc os pw cj) xs i).1.getD i z0=x:=⟨_,rfl⟩;have SB:T (pc os pw cj) 0 x0:=by rw[←JA];exact z5.1 _ (by rw[List.getD_eq_getElem?_getD,List.getElem?_eq_getElem PK];exact List.getElem_mem _)
  have JL:=fun j g=>rF (P:=(pc os pw cj)) (xs:=xs) (i:=i) (j:=j) (g:=g)
  rw[JA]at JL;have V7:∀i',i'<i+1→i'<(BS (pc os pw cj) xs i').1.length:=fun i' FV=>by
   rcases Nat.lt_or_ge i' i with q|q
   ·exact V6 i' q
   obtain rfl:i'=i:=by omega
   exact PK
  apply AW.skip;apply BM;refine AW.seq fun N3 BQ=>?_;apply AW.block;refine sQ fun N hN=>?_;simp-dsimp-implicitDefEqProofs(maxSteps:=800000) (disch:=omega)only[go_sem,A5,B2];apply hN;apply AW.block;refine AW.AF (α:=Nat×HP×Nat×List AV×(Nat→Nat)) (fun x=>sl 79 [(0,A5 os pw cj),(1,B2 os.length xs),(5,.h x.2.2.1 0 (GF (pc os pw cj) xs x0 x.1 (BS (pc os pw cj) xs i).1).1.length),(6,.m (nx+9)),(7,.h (nx+13+2) 0 xs.length),(8,.i .i64 i),(32,B2 os.length xs),(33,.i .i64 xs.length),(34,.i .i64 x.1)]) (fun x=>x.2.1) (fun x m=>x.1≤xs.length∧yZ os nx m (nx+13+2) (nx+9) x.2.2.1 x.2.1 xs.length (GF (pc os pw cj) xs x0 x.1 (BS (pc os pw cj) xs i).1).1 (F6 (pc os pw cj) xs i x.1) x.2.2.2.1 x.2.2.2.2) (fun x=>xs.length-x.1) ((0,G,PB,rs,ids)) ?_ ?_ (fun _ _ h=>h) ?_
  ·exact⟨by simp,hS.mm (by first|omega|(dsimp only;omega))⟩
  ·simp(disch:=omega) [AO,AQ,sl,A5,ints,rows,A4,B2,GF]
  skip
  rintro⟨j,G2,NQ,WX,E4⟩ m2 ⟨hj,FC⟩;dsimp only at hj FC;have lV:=fun ZX=>XZ.GF hv hc JH SB z5 j ZX
  have z6:=jL (P:=(pc os pw cj)) (xs:=xs) (x:=x0) (pts:=(BS (pc os pw cj) xs i).1) (j:=j) PK;rw[JA]at z6;obtain⟨pts,KO⟩:∃p,(GF (pc os pw cj) xs x0 j (BS (pc os pw cj) xs i).1).1=p:=⟨_,rfl⟩;obtain⟨y,hy⟩:∃y,M (pc os pw cj) 0 x0 (xs.getD j z0)=y:=⟨_,rfl⟩;have MI:(GF (pc os pw cj) xs x0 (j+1) (BS (pc os pw cj) xs i).1).1=K0 pts y:=by rw[GF,KO,hy]
  have V8:=JL j;rw[KO,hy]at V8;dsimp only;rw[KO]at FC lV z6 ⊢;have A1W:=(lV hj).len h;have hF:=FC.f;have jV:=FC.p;have eH:=FC.t.Ue;have z7:=FC.t.len;have UM:=FC.n1;have hn3:=FC.n3;have MX:=FC.b1;have LF:=FC.b2;have mM:=FC.t.hi;have Jj:(pts.map (vi os.length)).getD i .j=vi os.length x0:=by rw[PY (by omega),z6.1]
  have E6:=V5 (P:=(pc os pw cj)) (xs:=xs) (i:=i) (j:=j) (g:=j);rw[if_neg (by omega)]at E6;by_cases E7:GP pts y=pts.length
  all_goals by_cases l8:i=0
  ·skip
   simp-dsimp-implicitDefEqProofs(maxSteps:=800000) (disch:=omega)only[go_sem];refine sQ fun N hN=>?_;simp-dsimp-implicitDefEqProofs(maxSteps:=800000) (disch:=omega)only[go_sem,A5,B2];apply hN;refine AW.seq fun N4 CG=>?_;refine AW.cond rfl ?_ ?_<;>intro h2
   ·(try simp only[cn]at h2);have cA:T (pc os pw cj) 0 (xs.getD j z0):=bW JH (by omega);have I4:T (pc os pw cj) 0 y:=by rw[←hy];exact hg.cl SB cA
    have MJ:=TO J2 I4 pts 0 (lV hj).1;have Y5:=(BX os pw cj h 0 hc x0 (xs.getD j z0) SB cA).pure;rw[hy]at Y5;have pO:=ET os pw cj h y I4;rw[if_neg (by omega)]at MJ;have fC:=fun v=>jR J2 I4 (v:=v) pts 0 (lV hj).1 E7
    have fD:(GF (pc os pw cj) xs x0 (j+1) (BS (pc os pw cj) xs i).1).1.length=pts.length+1:=by rw[MI];unfold K0;rw[if_pos E7];simp
    have lW:WX.getD j .j= .nl:=by
     rcases FC.t.row j (by omega)with q|q
     ·exact q.2
     have:=q.1;omega
    have lX:=hF;apply AW.skip;apply CG;refine AW.seq fun N5 DW=>?_;apply AW.block;refine sQ fun N hN=>?_;simp-dsimp-implicitDefEqProofs(maxSteps:=800000) (disch:=omega)only[go_sem,A5,B2];apply hN;refine sQ fun N hN=>?_;simp-dsimp-implicitDefEqProofs(maxSteps:=800000) (disch:=omega)only[go_sem,A5,B2,hF,Jj];refine AC.pure (.of (Y5)) ?_;try simp-dsimp-implicitDefEqProofs(maxSteps:=800000) (disch:=omega)only[go_sem,A5,B2]
    apply hN;refine sQ fun N hN=>?_;simp-dsimp-implicitDefEqProofs(maxSteps:=800000) (disch:=omega)only[go_sem,A5,B2,jV,MJ];refine AC.pure (.of (pO)) ?_;try simp-dsimp-implicitDefEqProofs(maxSteps:=800000) (disch:=omega)only[go_sem,A5,B2,jV,MJ]
    apply hN;refine AW.seq fun N6 HC=>?_;refine sQ fun N hN=>?_;simp-dsimp-implicitDefEqProofs(maxSteps:=800000) (disch:=omega)only[go_sem,A5,B2];apply hN;refine AW.cond rfl ?_ ?_<;>intro h3
    ·(try simp only[cn]at h3);refine sQ fun N hN=>?_;simp-dsimp-implicitDefEqProofs(maxSteps:=800000) (disch:=omega)only[go_sem,A5,B2,hF];apply hN;refine sQ fun N hN=>?_;simp-dsimp-implicitDefEqProofs(maxSteps:=800000) (disch:=omega)only[go_sem,A5,B2,jV,fC];refine AC.pure (.of (pO)) ?_;try simp-dsimp-implicitDefEqProofs(maxSteps:=800000) (disch:=omega)only[go_sem,A5,B2,jV,fC]
     apply hN;apply rQ;simp-dsimp-implicitDefEqProofs(maxSteps:=800000) (disch:=omega)only[go_sem,A5,B2,hF,AR,vi,B1];apply HC;apply rQ;simp-dsimp-implicitDefEqProofs(maxSteps:=800000) (disch:=omega)only[go_sem,A5,B2,eH,z7,lW,lX,E6,List.take_length,List.length_map,BL];apply DW;refine AW.BD (fun G5 DD=>?_);dsimp only at DD;apply rQ;simp-dsimp-implicitDefEqProofs(maxSteps:=800000) (disch:=omega)only[go_sem,A5,B2];refine⟨(j+1,G5,m2+1+5+8+10+2+3+6+3,WX.set j (.h (m2+1+5+8+10+2+3+6+5+8) 0 (0+1)),fun k=>if k=j then m2+1+5+8+10+2+3+6+5+8 else E4 k),?_,fun _ _ h=>h,?_,?_⟩
     ·simp(disch:=omega) [AO,AQ,sl,AJ,ints,rows,A4,A5,B2,AJ]<;>omega
     ·refine⟨by first|omega|(dsimp only;omega),?_⟩;dsimp only;rw[MI];rw[show K0 pts y=pts++[y]from by unfold K0;rw[if_pos E7]];refine FC.next (g:=j) (v:=(GP pts y:Int)) (cells:=[.i .i64 (pts.length:Int)]) (k:=0) (by omega) (by omega) (by omega) (by omega) (E6.trans l8) ?_ ?_ ?_ (.inr (by omega)) (by omega) ?_ ?_ ?_ (fun k' _=>V8 k');rotate_left 1
      ·rw[←DD];simp(disch:=omega)only[A0,A1]
      ·rw[←DD];simp(disch:=omega)only[A0,A1]
      ·rw[←DD,List.map_append];simp(disch:=omega)only[A0,A1];rfl
      ·rw[←DD,jQ,Nat.zero_add];simp(disch:=omega)only[A0,A1]
      ·intro i5 Jk Jl Jm h54 Jn;rw[←DD];simp(disch:=omega)only[A0]
      rw[List.length_eq_zero_iff.1 (E6.trans l8),E7];rfl
     first|omega|(simp only;omega)
    (try simp only[cn]at h3);first|done|(cases h3)|(exact absurd h3 (by simp))
   try simp only[cn]at h2
   have rO:j=xs.length:=by omega
   subst rO;have rP:(BS (pc os pw cj) xs (i+1)).1.length=pts.length:=by rw[BS,JA,←KO]
   apply AW.exit;apply BQ;apply rQ;simp-dsimp-implicitDefEqProofs(maxSteps:=800000) (disch:=omega)only[go_sem,A5,B2];refine⟨(i+1,G2,NQ,WX,E4),?_,fun _ _ h=>h,?_,?_⟩
   ·simp(disch:=omega) [AO,AQ,sl,AJ,ints,rows,A4,A5,B2,AJ]<;>omega
   ·refine⟨V7,?_⟩
    ·have e:(BS (pc os pw cj) xs (i+1)).1=pts:=by rw[BS,JA];exact KO
     dsimp only;rw[e];refine⟨(FC.t.mm (by first|omega|(dsimp only;omega))).c8 (fun g hg=>(JS hg).symm),FC.f,FC.p,FC.n1,FC.n2,FC.n3,by first|omega|(dsimp only;omega),by first|omega|(dsimp only;omega)⟩
   first|omega|(simp only;omega)
  ·skip
   simp-dsimp-implicitDefEqProofs(maxSteps:=800000) (disch:=omega)only[go_sem];refine sQ fun N hN=>?_;simp-dsimp-implicitDefEqProofs(maxSteps:=800000) (disch:=omega)only[go_sem,A5,B2];apply hN;refine AW.seq fun N7 JO=>?_;refine AW.cond rfl ?_ ?_<;>intro h4
   ·(try simp only[cn]at h4);have cA:T (pc os pw cj) 0 (xs.getD j z0):=bW JH (by omega);have I4:T (pc os pw cj) 0 y:=by rw[←hy];exact hg.cl SB cA
    have MJ:=TO J2 I4 pts 0 (lV hj).1;have Y5:=(BX os pw cj h 0 hc x0 (xs.getD j z0) SB cA).pure;rw[hy]at Y5;have pO:=ET os pw cj h y I4;rw[if_neg (by omega)]at MJ;have fC:=fun v=>jR J2 I4 (v:=v) pts 0 (lV hj).1 E7
    have fD:(GF (pc os pw cj) xs x0 (j+1) (BS (pc os pw cj) xs i).1).1.length=pts.length+1:=by rw[MI];unfold K0;rw[if_pos E7];simp
    obtain⟨-,lW,lX,hIb,hIc⟩:0<(F6 (pc os pw cj) xs i j j).length∧WX.getD j .j= .h (E4 j) 0 (F6 (pc os pw cj) xs i j j).length∧G2 (E4 j)=some ((F6 (pc os pw cj) xs i j j).map (.i .i64))∧(nx≤E4 j∧E4 j<m2)∧E4 j≠nx+13+2∧E4 j≠NQ∧E4 j≠nx+9:=by
     rcases FC.t.row j (by omega)with q|q
     ·have:=congrArg List.length q.1;rw[E6]at this;exact absurd this l8
     exact q
    apply AW.skip;apply JO;refine AW.seq fun N8 JJ=>?_;apply AW.block;refine sQ fun N hN=>?_;simp-dsimp-implicitDefEqProofs(maxSteps:=800000) (disch:=omega)only[go_sem,A5,B2];apply hN;refine sQ fun N hN=>?_;simp-dsimp-implicitDefEqProofs(maxSteps:=800000) (disch:=omega)only[go_sem,A5,B2,hF,Jj];refine AC.pure (.of (Y5)) ?_;try simp-dsimp-implicitDefEqProofs(maxSteps:=800000) (disch:=omega)only[go_sem,A5,B2]
    apply hN;refine sQ fun N hN=>?_;simp-dsimp-implicitDefEqProofs(maxSteps:=800000) (disch:=omega)only[go_sem,A5,B2,jV,MJ];refine AC.pure (.of (pO)) ?_;try simp-dsimp-implicitDefEqProofs(maxSteps:=800000) (disch:=omega)only[go_sem,A5,B2,jV,MJ]
    apply hN;refine AW.seq fun N9 M6=>?_;refine sQ fun N hN=>?_;simp-dsimp-implicitDefEqProofs(maxSteps:=800000) (disch:=omega)only[go_sem,A5,B2];apply hN;refine AW.cond rfl ?_ ?_<;>intro h5
    ·(try simp only[cn]at h5);refine sQ fun N hN=>?_;simp-dsimp-implicitDefEqProofs(maxSteps:=800000) (disch:=omega)only[go_sem,A5,B2,hF];apply hN;refine sQ fun N hN=>?_;simp-dsimp-implicitDefEqProofs(maxSteps:=800000) (disch:=omega)only[go_sem,A5,B2,jV,fC];refine AC.pure (.of (pO)) ?_;try simp-dsimp-implicitDefEqProofs(maxSteps:=800000) (disch:=omega)only[go_sem,A5,B2,jV,fC]
     apply hN;apply rQ;simp-dsimp-implicitDefEqProofs(maxSteps:=800000) (disch:=omega)only[go_sem,A5,B2,hF,AR,vi,B1];apply M6;apply rQ;simp-dsimp-implicitDefEqProofs(maxSteps:=800000) (disch:=omega)only[go_sem,A5,B2,eH,z7,lW,lX,E6,List.take_length,List.length_map,BL];apply JJ;refine AW.BD (fun G5 DD=>?_);dsimp only at DD;apply rQ;simp-dsimp-implicitDefEqProofs(maxSteps:=800000) (disch:=omega)only[go_sem,A5,B2];refine⟨(j+1,G5,m2+1+5+8+10+2+3+6+3,WX.set j (.h (m2+1+5+8+10+2+3+6+5+8) 0 (i+1)),fun k=>if k=j then m2+1+5+8+10+2+3+6+5+8 else E4 k),?_,fun _ _ h=>h,?_,?_⟩
     ·simp(disch:=omega) [AO,AQ,sl,AJ,ints,rows,A4,A5,B2,AJ]<;>omega
     ·refine⟨by first|omega|(dsimp only;omega),?_⟩;dsimp only;rw[MI];rw[show K0 pts y=pts++[y]from by unfold K0;rw[if_pos E7]];refine FC.next (g:=j) (v:=(GP pts y:Int)) (cells:=(F6 (pc os pw cj) xs i j j).map (AV.i .i64)++[.i .i64 (pts.length:Int)]) (k:=i) (by omega) (by omega) (by omega) (by omega) E6 ?_ ?_ ?_ (.inr (by omega)) (by omega) ?_ ?_ ?_ (fun k' _=>V8 k');rotate_left 1
      ·rw[←DD];simp(disch:=omega)only[A0,A1];rw[List.take_of_length_le (by rw[List.length_map];omega)]
      ·rw[←DD];simp(disch:=omega)only[A0,A1]
      ·rw[←DD,List.map_append];simp(disch:=omega)only[A0,A1];rfl
      ·rw[←DD,jQ,Nat.zero_add];simp(disch:=omega)only[A0,A1]
      ·intro i5 Jk Jl Jm h54 Jn;rw[←DD];simp(disch:=omega)only[A0]
      rw[E7];simp
     first|omega|(simp only;omega)
    (try simp only[cn]at h5);first|done|(cases h5)|(exact absurd h5 (by simp))
   try simp only[cn]at h4
   have rO:j=xs.length:=by omega
   subst rO;have rP:(BS (pc os pw cj) xs (i+1)).1.length=pts.length:=by rw[BS,JA,←KO]
   apply AW.exit;apply BQ;apply rQ;simp-dsimp-implicitDefEqProofs(maxSteps:=800000) (disch:=omega)only[go_sem,A5,B2];refine⟨(i+1,G2,NQ,WX,E4),?_,fun _ _ h=>h,?_,?_⟩
   ·simp(disch:=omega) [AO,AQ,sl,AJ,ints,rows,A4,A5,B2,AJ]<;>omega
   ·refine⟨V7,?_⟩
    ·have e:(BS (pc os pw cj) xs (i+1)).1=pts:=by rw[BS,JA];exact KO
     dsimp only;rw[e];refine⟨(FC.t.mm (by first|omega|(dsimp only;omega))).c8 (fun g hg=>(JS hg).symm),FC.f,FC.p,FC.n1,FC.n2,FC.n3,by first|omega|(dsimp only;omega),by first|omega|(dsimp only;omega)⟩
   first|omega|(simp only;omega)
  ·skip
   simp-dsimp-implicitDefEqProofs(maxSteps:=800000) (disch:=omega)only[go_sem];refine sQ fun N hN=>?_;simp-dsimp-implicitDefEqProofs(maxSteps:=800000) (disch:=omega)only[go_sem,A5,B2];apply hN;refine AW.seq fun lF FW=>?_;refine AW.cond rfl ?_ ?_<;>intro h6
   ·(try simp only[cn]at h6);have cA:T (pc os pw cj) 0 (xs.getD j z0):=bW JH (by omega);have I4:T (pc os pw cj) 0 y:=by rw[←hy];exact hg.cl SB cA
    have MJ:=TO J2 I4 pts 0 (lV hj).1;have Y5:=(BX os pw cj h 0 hc x0 (xs.getD j z0) SB cA).pure;rw[hy]at Y5;have pO:=ET os pw cj h y I4;have BW:GP pts y<pts.length:=by have:=(V3 (y:=y) pts).1;omega
    rw[if_pos BW,Nat.zero_add]at MJ;have fC:=MJ;have fD:(GF (pc os pw cj) xs x0 (j+1) (BS (pc os pw cj) xs i).1).1.length=pts.length:=by rw[MI];unfold K0;rw[if_neg E7]
    have lW:WX.getD j .j= .nl:=by
     rcases FC.t.row j (by omega)with q|q
     ·exact q.2
     have:=q.1;omega
    have lX:=hF;apply AW.skip;apply FW;refine AW.seq fun p5 HI=>?_;apply AW.block;refine sQ fun N hN=>?_;simp-dsimp-implicitDefEqProofs(maxSteps:=800000) (disch:=omega)only[go_sem,A5,B2];apply hN;refine sQ fun N hN=>?_;simp-dsimp-implicitDefEqProofs(maxSteps:=800000) (disch:=omega)only[go_sem,A5,B2,hF,Jj];refine AC.pure (.of (Y5)) ?_;try simp-dsimp-implicitDefEqProofs(maxSteps:=800000) (disch:=omega)only[go_sem,A5,B2]
    apply hN;refine sQ fun N hN=>?_;simp-dsimp-implicitDefEqProofs(maxSteps:=800000) (disch:=omega)only[go_sem,A5,B2,jV,MJ];refine AC.pure (.of (pO)) ?_;try simp-dsimp-implicitDefEqProofs(maxSteps:=800000) (disch:=omega)only[go_sem,A5,B2,jV,MJ]
    apply hN;refine AW.seq fun wX KG=>?_;refine sQ fun N hN=>?_;simp-dsimp-implicitDefEqProofs(maxSteps:=800000) (disch:=omega)only[go_sem,A5,B2];apply hN;refine AW.cond rfl ?_ ?_<;>intro h7
    ·(try simp only[cn]at h7);first|done|(cases h7)|(exact absurd h7 (by simp))
    (try simp only[cn]at h7);apply AW.skip;apply KG;apply rQ;simp-dsimp-implicitDefEqProofs(maxSteps:=800000) (disch:=omega)only[go_sem,A5,B2,eH,z7,lW,lX,E6,List.take_length,List.length_map,BL];apply HI;refine AW.BD (fun G5 DD=>?_);dsimp only at DD;apply rQ;simp-dsimp-implicitDefEqProofs(maxSteps:=800000) (disch:=omega)only[go_sem,A5,B2];refine⟨(j+1,G5,NQ,WX.set j (.h (m2+1+5+8+10+2+8) 0 (0+1)),fun k=>if k=j then m2+1+5+8+10+2+8 else E4 k),?_,fun _ _ h=>h,?_,?_⟩
    ·simp(disch:=omega) [AO,AQ,sl,AJ,ints,rows,A4,A5,B2,AJ]<;>omega
    ·refine⟨by first|omega|(dsimp only;omega),?_⟩;dsimp only;rw[MI];rw[show K0 pts y=pts from by unfold K0;rw[if_neg E7]];refine FC.next (g:=j) (v:=(GP pts y:Int)) (cells:=[.i .i64 (GP pts y:Int)]) (k:=0) (by omega) (by omega) (by omega) (by omega) (E6.trans l8) ?_ ?_ ?_ (.inl rfl) (by omega) ?_ ?_ ?_ (fun k' _=>V8 k');rotate_left 1
     ·rw[←DD];simp(disch:=omega)only[A0,A1]
     ·rw[←DD];simp(disch:=omega)only[A0,A1]
     ·rw[←DD];simp(disch:=omega)only[A0,A1];exact hF
     ·rw[←DD];simp(disch:=omega)only[A0,A1];exact jV
     ·intro i5 Jk Jl Jm h54 Jn;rw[←DD];simp(disch:=omega)only[A0]
     rw[List.length_eq_zero_iff.1 (E6.trans l8)];rfl
    first|omega|(simp only;omega)
   try simp only[cn]at h6
   have rO:j=xs.length:=by omega
   subst rO;have rP:(BS (pc os pw cj) xs (i+1)).1.length=pts.length:=by rw[BS,JA,←KO]
   apply AW.exit;apply BQ;apply rQ;simp-dsimp-implicitDefEqProofs(maxSteps:=800000) (disch:=omega)only[go_sem,A5,B2];refine⟨(i+1,G2,NQ,WX,E4),?_,fun _ _ h=>h,?_,?_⟩
   ·simp(disch:=omega) [AO,AQ,sl,AJ,ints,rows,A4,A5,B2,AJ]<;>omega
   ·refine⟨V7,?_⟩
    ·have e:(BS (pc os pw cj) xs (i+1)).1=pts:=by rw[BS,JA];exact KO
     dsimp only;rw[e];refine⟨(FC.t.mm (by first|omega|(dsimp only;omega))).c8 (fun g hg=>(JS hg).symm),FC.f,FC.p,FC.n1,FC.n2,FC.n3,by first|omega|(dsimp only;omega),by first|omega|(dsimp only;omega)⟩
   first|omega|(simp only;omega)
  skip
  simp-dsimp-implicitDefEqProofs(maxSteps:=800000) (disch:=omega)only[go_sem];refine sQ fun N hN=>?_;simp-dsimp-implicitDefEqProofs(maxSteps:=800000) (disch:=omega)only[go_sem,A5,B2];apply hN;refine AW.seq fun Hq NI=>?_;refine AW.cond rfl ?_ ?_<;>intro h8
  ·try simp only[cn]at h8
   have cA:T (pc os pw cj) 0 (xs.getD j z0):=bW JH (by omega);have I4:T (pc os pw cj) 0 y:=by rw[←hy];exact hg.cl SB cA
   have MJ:=TO J2 I4 pts 0 (lV hj).1;have Y5:=(BX os pw cj h 0 hc x0 (xs.getD j z0) SB cA).pure;rw[hy]at Y5;have pO:=ET os pw cj h y I4;have BW:GP pts y<pts.length:=by have:=(V3 (y:=y) pts).1;omega
   rw[if_pos BW,Nat.zero_add]at MJ;have fC:=MJ;have fD:(GF (pc os pw cj) xs x0 (j+1) (BS (pc os pw cj) xs i).1).1.length=pts.length:=by rw[MI];unfold K0;rw[if_neg E7]
   obtain⟨-,lW,lX,hIb,hIc⟩:0<(F6 (pc os pw cj) xs i j j).length∧WX.getD j .j= .h (E4 j) 0 (F6 (pc os pw cj) xs i j j).length∧G2 (E4 j)=some ((F6 (pc os pw cj) xs i j j).map (.i .i64))∧(nx≤E4 j∧E4 j<m2)∧E4 j≠nx+13+2∧E4 j≠NQ∧E4 j≠nx+9:=by
    rcases FC.t.row j (by omega)with q|q
    ·have:=congrArg List.length q.1;rw[E6]at this;exact absurd this l8
    exact q
   apply AW.skip;apply NI;refine AW.seq fun Mr R1=>?_;apply AW.block;refine sQ fun N hN=>?_;simp-dsimp-implicitDefEqProofs(maxSteps:=800000) (disch:=omega)only[go_sem,A5,B2];apply hN;refine sQ fun N hN=>?_;simp-dsimp-implicitDefEqProofs(maxSteps:=800000) (disch:=omega)only[go_sem,A5,B2,hF,Jj];refine AC.pure (.of (Y5)) ?_;try simp-dsimp-implicitDefEqProofs(maxSteps:=800000) (disch:=omega)only[go_sem,A5,B2]
   apply hN;refine sQ fun N hN=>?_;simp-dsimp-implicitDefEqProofs(maxSteps:=800000) (disch:=omega)only[go_sem,A5,B2,jV,MJ];refine AC.pure (.of (pO)) ?_;try simp-dsimp-implicitDefEqProofs(maxSteps:=800000) (disch:=omega)only[go_sem,A5,B2,jV,MJ]
   apply hN;refine AW.seq fun Sb UH=>?_;refine sQ fun N hN=>?_;simp-dsimp-implicitDefEqProofs(maxSteps:=800000) (disch:=omega)only[go_sem,A5,B2];apply hN;refine AW.cond rfl ?_ ?_<;>intro h9
   ·(try simp only[cn]at h9);first|done|(cases h9)|(exact absurd h9 (by simp))
   try simp only[cn]at h9
   apply AW.skip;apply UH;apply rQ;simp-dsimp-implicitDefEqProofs(maxSteps:=800000) (disch:=omega)only[go_sem,A5,B2,eH,z7,lW,lX,E6,List.take_length,List.length_map,BL];apply R1;refine AW.BD (fun G5 DD=>?_);dsimp only at DD;apply rQ;simp-dsimp-implicitDefEqProofs(maxSteps:=800000) (disch:=omega)only[go_sem,A5,B2];refine⟨(j+1,G5,NQ,WX.set j (.h (m2+1+5+8+10+2+8) 0 (i+1)),fun k=>if k=j then m2+1+5+8+10+2+8 else E4 k),?_,fun _ _ h=>h,?_,?_⟩
   ·simp(disch:=omega) [AO,AQ,sl,AJ,ints,rows,A4,A5,B2,AJ]<;>omega
   ·refine⟨by first|omega|(dsimp only;omega),?_⟩;dsimp only;rw[MI];rw[show K0 pts y=pts from by unfold K0;rw[if_neg E7]];refine FC.next (g:=j) (v:=(GP pts y:Int)) (cells:=(F6 (pc os pw cj) xs i j j).map (AV.i .i64)++[.i .i64 (GP pts y:Int)]) (k:=i) (by omega) (by omega) (by omega) (by omega) E6 ?_ ?_ ?_ (.inl rfl) (by omega) ?_ ?_ ?_ (fun k' _=>V8 k');rotate_left 1
    ·rw[←DD];simp(disch:=omega)only[A0,A1];rw[List.take_of_length_le (by rw[List.length_map];omega)]
    ·rw[←DD];simp(disch:=omega)only[A0,A1]
    ·rw[←DD];simp(disch:=omega)only[A0,A1];exact hF
    ·rw[←DD];simp(disch:=omega)only[A0,A1];exact jV
    ·intro i5 Jk Jl Jm h54 Jn;rw[←DD];simp(disch:=omega)only[A0]
    simp
   first|omega|(simp only;omega)
  try simp only[cn]at h8
  have rO:j=xs.length:=by omega
  subst rO;have rP:(BS (pc os pw cj) xs (i+1)).1.length=pts.length:=by rw[BS,JA,←KO]
  apply AW.exit;apply BQ;apply rQ;simp-dsimp-implicitDefEqProofs(maxSteps:=800000) (disch:=omega)only[go_sem,A5,B2];refine⟨(i+1,G2,NQ,WX,E4),?_,fun _ _ h=>h,?_,?_⟩
  ·simp(disch:=omega) [AO,AQ,sl,AJ,ints,rows,A4,A5,B2,AJ]<;>omega
  ·refine⟨V7,?_⟩
   ·have e:(BS (pc os pw cj) xs (i+1)).1=pts:=by rw[BS,JA];exact KO
    dsimp only;rw[e];refine⟨(FC.t.mm (by first|omega|(dsimp only;omega))).c8 (fun g hg=>(JS hg).symm),FC.f,FC.p,FC.n1,FC.n2,FC.n3,by first|omega|(dsimp only;omega),by first|omega|(dsimp only;omega)⟩
  first|omega|(simp only;omega)
 try simp only[cn]at h1
 apply AW.exit;apply BC;refine sQ fun N hN=>?_;simp-dsimp-implicitDefEqProofs(maxSteps:=800000) (disch:=omega)only[go_sem,A5,B2];apply hN;apply AW.ret;simp-dsimp-implicitDefEqProofs(maxSteps:=800000) (disch:=omega)only[go_sem];have hq:rG (pc os pw cj) xs i:=⟨by have:=rN (P:=pc os pw cj) (xs:=xs) V6;omega,V6⟩
 rw[Q4,fA hq]
 obtain⟨is,ho⟩:=hS.t.own
 exact⟨is,ho.AD (fun _ _ _=>rfl) (Nat.le_refl _) (by omega)⟩
end
end Go.Proofs.YtghmeeifjeafmaaGreat
namespace Go.Proofs.YtghmeeifjeafmaaGreat
structure z8(os:List Int)(a m ob PB:Nat)(G:HP)(c:Nat)(pts:List V)(G8:Nat→List Int)(rs:List AV)(ids:Nat→Nat):Prop where
  t:c7 a m ob PB ob G c G8 rs ids
  f:G PB=some (pts.map (vi os.length))
  n1:PB≠ob
  b1:a≤PB∧PB<m
theorem z8.mm{os:List Int}{a m m' ob PB:Nat}{G:HP}{c:Nat}{pts:List V}{G8:Nat→List Int}{rs:List AV}{ids:Nat→Nat}(h:z8 os a m ob PB G c pts G8 rs ids)(hm:m≤m'):z8 os a m' ob PB G c pts G8 rs ids:=
  ⟨h.t.mm hm,h.f,h.n1,by have:=h.b1;omega⟩
theorem z8.next{os:List Int}{a m m' ob PB OY:Nat}{G G':HP}{c:Nat}{pts lU:List V}{G8 c9:Nat→List Int}{rs:List AV}{ids:Nat→Nat}(h:z8 os a m ob PB G c pts G8 rs ids){g:Nat}(hg:g<c){v:Int}{TQ k:Nat}{cells:List AV}
    (hn:m≤TQ) (Zj:TQ<m') (hm:m≤m') (hk:(G8 g).length=k) (DL:cells=(G8 g++[v]).map (.i .i64)) (F0:G' TQ=some cells) (XS:G' ob=some (rs.set g (.h TQ 0 (k+1)))) (aS:OY=PB∨(m≤OY∧OY<m')) (AL:TQ≠OY)
    (hF:G' OY=some (lU.map (vi os.length))) (D3:∀i,i<m→i≠ob→i≠PB→(0<k→i≠ids g)→G' i=G i) (fB:∀k',k'<c→c9 k'=if k'=g then G8 g++[v]else G8 k'):
    z8 os a m' ob OY G' c lU c9 (rs.set g (.h TQ 0 (k+1))) (fun k=>if k=g then TQ else ids k):=by
  subst DL;have b1:=h.b1;have mM:=h.t.hi;have n1:=h.n1;have ht:=h.t.set (m':=m') (f1':=OY) (G':=G') (v:=v) hg hn Zj hm F0 (by rw[hk];exact XS) (aS.imp id fun q=>q.1) mM AL (by rw[hk];exact fun i q1 q2 q3 _ q5=>D3 i q1 q2 q3 q5) b1.2;rw[hk]at ht;refine⟨ht.c8 fB,hF,?_,?_⟩
  · rcases aS with q|q
    · rw[q];exact n1
    omega
  rcases aS with q|q
  · rw[q];omega
  have:=h.t.lo;omega
section
variable(os:List Int)(pw:List (List Int))(cj:List (List (List Int)))
set_option maxRecDepth 20000 in
set_option maxHeartbeats 2000000 in
theorem RH(h:AI os pw cj)(hc:DI (pc os pw cj) 0)(xs:List V)(hl:xs.length≤4)(JH:∀x∈xs,T (pc os pw cj) 0 x):BG Tryz.prog 50 [A8 os pw cj,B2 os.length xs] (rows (Q4 (pc os pw cj) xs)):=by
 have J4:=h.1.1
 have hv:=h.val
 have hg:=BO hv hc
 have J2:=h.2.1
 have rM:=h.2.2.1
 refine BG.GD A9 Tryz.func50 rfl (by kernel_rfl) Tryz.ntmps50 Tryz.results50 ((TC _)) (fun nx cX=>?_)
 refine sQ fun N hN=>?_;simp-dsimp-implicitDefEqProofs(maxSteps:=800000) (disch:=omega)only[go_sem,A8,A5,B2,vi];apply hN;refine AW.B5 2 nx _ rfl (A1 _ _ _) ?_
 simp-dsimp-implicitDefEqProofs(maxSteps:=800000) (disch:=omega)only[go_sem];refine sQ fun N hN=>?_;simp-dsimp-implicitDefEqProofs(maxSteps:=800000) (disch:=omega)only[go_sem,A8,A5,B2,vi];apply hN;refine sQ fun N hN=>?_;simp-dsimp-implicitDefEqProofs(maxSteps:=800000) (disch:=omega)only[go_sem,A8,A5,B2,vi];refine AC.pure (.of (UJ os pw cj (by omega))) ?_;try simp-dsimp-implicitDefEqProofs(maxSteps:=800000) (disch:=omega)only[go_sem,A8,A5,B2,vi]
 apply hN;refine AW.seq fun N1 BC=>?_;refine sQ fun N hN=>?_;simp-dsimp-implicitDefEqProofs(maxSteps:=800000) (disch:=omega)only[go_sem,A8,A5,B2,vi];apply hN;apply AW.block;refine AW.BD (fun G0 CT=>?_);dsimp only at CT
 have hS0:∀m,nx+10≤m→z8 os nx m (nx+4) (nx+8) G0 xs.length (BS (pc os pw cj) xs 0).1 (F6 (pc os pw cj) xs 0 0) (List.replicate xs.length .nl) (fun _=>0):=by
  intro m hm;refine⟨c7.start ?_ (by omega) (by omega) (fun g hg=>by rw[ZD];rfl),?_,by omega,by omega⟩
  ·rw[←CT];simp(disch:=omega)only[A0,A1]
  rw[←CT];simp(disch:=omega)only[A0,A1];rfl
 refine AW.AF (α:=Nat×HP×Nat×List AV×(Nat→Nat)) (fun x=>sl 73 [(1,B2 os.length xs),(2,A5 os pw cj),(5,.h (nx+4) 0 xs.length),(6,.h x.2.2.1 0 (BS (pc os pw cj) xs x.1).1.length),(7,.i .i64 x.1)]) (fun x=>x.2.1) (fun x m=>(∀i',i'<x.1→i'<(BS (pc os pw cj) xs i').1.length)∧z8 os nx m (nx+4) x.2.2.1 x.2.1 xs.length (BS (pc os pw cj) xs x.1).1 (F6 (pc os pw cj) xs x.1 0) x.2.2.2.1 x.2.2.2.2) (fun x=>729-x.1) ((0,G0,nx+8,List.replicate xs.length .nl,fun _=>0)) ?_ ?_ (fun _ _ h=>h) ?_
 ·exact⟨by simp,hS0 _ (by first|omega|(dsimp only;omega))⟩
 ·simp(disch:=omega) [AO,AQ,sl,A5,ints,rows,A4,B2,BS]
 skip
 rintro⟨i,G,PB,rs,ids⟩ m ⟨V6,hS⟩
 dsimp only at V6 hS
 have z5:=XZ.BS hv hc JH i V6
 have hPl:=z5.len h
 simp only[A5];simp-dsimp-implicitDefEqProofs(maxSteps:=800000) (disch:=omega)only[go_sem];refine AW.seq fun N2 BM=>?_;refine sQ fun N hN=>?_;simp-dsimp-implicitDefEqProofs(maxSteps:=800000) (disch:=omega)only[go_sem,A8,A5,B2,vi];apply hN;refine AW.cond rfl ?_ ?_<;>intro h1
 ·try simp only[cn]at h1
  have PK:i<(BS (pc os pw cj) xs i).1.length:=by omega
  obtain⟨x0,JA⟩:∃x,(BS (pc os pw cj) xs i).1.getD i z0=x:=⟨_,rfl⟩;have SB:T (pc os pw cj) 0 x0:=by rw[←JA];exact z5.1 _ (by rw[List.getD_eq_getElem?_getD,List.getElem?_eq_getElem PK];exact List.getElem_mem _)
  have JL:=fun j g=>rF (P:=(pc os pw cj)) (xs:=xs) (i:=i) (j:=j) (g:=g)
  rw[JA]at JL;have V7:∀i',i'<i+1→i'<(BS (pc os pw cj) xs i').1.length:=fun i' FV=>by
   rcases Nat.lt_or_ge i' i with q|q
   ·exact V6 i' q
   obtain rfl:i'=i:=by omega
   exact PK
  apply AW.skip;apply BM;refine AW.seq fun N3 BQ=>?_;apply AW.block;refine sQ fun N hN=>?_;simp-dsimp-implicitDefEqProofs(maxSteps:=800000) (disch:=omega)only[go_sem,A8,A5,B2,vi];apply hN;apply AW.block;refine AW.AF (α:=Nat×HP×Nat×List AV×(Nat→Nat)) (fun x=>sl 73 [(1,B2 os.length xs),(2,A5 os pw cj),(5,.h (nx+4) 0 xs.length),(6,.h x.2.2.1 0 (GF (pc os pw cj) xs x0 x.1 (BS (pc os pw cj) xs i).1).1.length),(7,.i .i64 i),(8,.i .i64 x.1)]) (fun x=>x.2.1) (fun x m=>x.1≤xs.length∧z8 os nx m (nx+4) x.2.2.1 x.2.1 xs.length (GF (pc os pw cj) xs x0 x.1 (BS (pc os pw cj) xs i).1).1 (F6 (pc os pw cj) xs i x.1) x.2.2.2.1 x.2.2.2.2) (fun x=>xs.length-x.1) ((0,G,PB,rs,ids)) ?_ ?_ (fun _ _ h=>h) ?_
  ·exact⟨by simp,hS.mm (by first|omega|(dsimp only;omega))⟩
  ·simp(disch:=omega) [AO,AQ,sl,A5,ints,rows,A4,B2,GF]
  skip
  rintro⟨j,G2,NQ,WX,E4⟩ m2 ⟨hj,FC⟩;dsimp only at hj FC;have lV:=fun ZX=>XZ.GF hv hc JH SB z5 j ZX
  have z6:=jL (P:=(pc os pw cj)) (xs:=xs) (x:=x0) (pts:=(BS (pc os pw cj) xs i).1) (j:=j) PK;rw[JA]at z6;obtain⟨pts,KO⟩:∃p,(GF (pc os pw cj) xs x0 j (BS (pc os pw cj) xs i).1).1=p:=⟨_,rfl⟩;obtain⟨y,hy⟩:∃y,M (pc os pw cj) 0 x0 (xs.getD j z0)=y:=⟨_,rfl⟩;have MI:(GF (pc os pw cj) xs x0 (j+1) (BS (pc os pw cj) xs i).1).1=K0 pts y:=by rw[GF,KO,hy]
  have V8:=JL j;rw[KO,hy]at V8;dsimp only;rw[KO]at FC lV z6 ⊢;have A1W:=(lV hj).len h;have hF:=FC.f;have eH:=FC.t.Ue;have z7:=FC.t.len;have UM:=FC.n1;have MX:=FC.b1;have mM:=FC.t.hi;have Jj:(pts.map (vi os.length)).getD i .j=vi os.length x0:=by rw[PY (by omega),z6.1]
  have E6:=V5 (P:=(pc os pw cj)) (xs:=xs) (i:=i) (j:=j) (g:=j);rw[if_neg (by omega)]at E6;by_cases l8:i=0
  ·skip
   simp only[A5];simp-dsimp-implicitDefEqProofs(maxSteps:=800000) (disch:=omega)only[go_sem];refine AW.seq fun N4 CG=>?_;refine sQ fun N hN=>?_;simp-dsimp-implicitDefEqProofs(maxSteps:=800000) (disch:=omega)only[go_sem,A8,A5,B2,vi];apply hN;refine AW.cond rfl ?_ ?_<;>intro h2
   ·(try simp only[cn]at h2);have cA:T (pc os pw cj) 0 (xs.getD j z0):=bW JH (by omega);have I4:T (pc os pw cj) 0 y:=by rw[←hy];exact hg.cl SB cA
    have Y5:=D8 os pw cj h x0 (xs.getD j z0) SB cA;rw[hy]at Y5;have lW:WX.getD j .j= .nl:=by
     rcases FC.t.row j (by omega)with q|q
     ·exact q.2
     have:=q.1;omega
    have lX:=hF;apply AW.skip;apply CG;refine AW.seq fun N5 DW=>?_;apply AW.block;refine AW.seq fun N hN=>?_;refine AW.BI A9 (by kernel_rfl) 11 (by kernel_rfl) ?_
    simp-dsimp-implicitDefEqProofs(maxSteps:=800000) (disch:=omega)only[B3,B4,BH,List.take_succ_cons,List.take_zero,List.drop_succ_cons,List.drop_zero,List.take_nil,List.drop_nil,go_sem,undef,A8,A5,B2,AJ,vi,hF,Jj];refine⟨_,.of (Y5),?_⟩;try simp-dsimp-implicitDefEqProofs(maxSteps:=800000) (disch:=omega)only[go_sem,A8,A5,B2,vi]
    apply hN;refine sQ fun N hN=>?_;simp-dsimp-implicitDefEqProofs(maxSteps:=800000) (disch:=omega)only[go_sem,A8,A5,B2,vi];apply hN;refine AW.seq fun N6 HC=>?_;apply AW.block;refine AW.AF (α:=Nat) (fun x=>sl 73 [(1,B2 os.length xs),(2,A5 os pw cj),(5,.h (nx+4) 0 xs.length),(6,.h NQ 0 pts.length),(7,.i .i64 i),(8,.i .i64 j),(9,vi os.length y),(10,.i .i64 x)]) (fun _=>G2) (fun x m=>x≤pts.length∧m2+5≤m∧∀k',k'<x→pts.getD k' z0≠y) (fun x=>pts.length-x) (0) ?_ ?_ (fun _ _ h=>h) ?_
    ·exact⟨by simp,by first|omega|(dsimp only;omega),by simp⟩
    ·simp(disch:=omega) [AO,AQ,sl,A5,ints,rows,A4,B2,vi]
    skip
    rintro k m3 ⟨hk,S9,T9⟩;try dsimp only at hk T9 ⊢
    simp only[A5,vi];simp-dsimp-implicitDefEqProofs(maxSteps:=800000) (disch:=omega)only[go_sem];refine AW.seq fun N7 JO=>?_;refine sQ fun N hN=>?_;simp-dsimp-implicitDefEqProofs(maxSteps:=800000) (disch:=omega)only[go_sem,A8,A5,B2,vi,hF];refine C9.mk' (fun h3=>?_) (fun h3=>?_)
    ·(try simp only[cn]at h3);have hkT:T (pc os pw cj) 0 (pts.getD k z0):=(lV hj).1 _ (by rw[List.getD_eq_getElem?_getD,List.getElem?_eq_getElem (show k<pts.length by omega)];exact List.getElem_mem _);try simp-dsimp-implicitDefEqProofs(maxSteps:=800000) (disch:=omega)only[go_sem,A8,A5,B2,vi]
     (try simp-dsimp-implicitDefEqProofs(maxSteps:=800000) (disch:=omega)only[go_sem,A8,A5,B2,vi,hF]);refine AC.pure (.of (DQ (by omega) hkT I4)) ?_;try simp-dsimp-implicitDefEqProofs(maxSteps:=800000) (disch:=omega)only[go_sem,A8,A5,B2,vi]
     apply hN;refine AW.cond rfl ?_ ?_<;>intro h4
     ·(try simp only[cn]at h4);have fE:∀k',k'<k+1→pts.getD k' z0≠y:=fun k' GA=>by
       rcases Nat.lt_or_ge k' k with q1|q1
       ·exact T9 k' q1
       obtain rfl:k'=k:=by omega
       exact h4
      apply AW.skip;apply JO;apply AW.block;apply rQ;simp-dsimp-implicitDefEqProofs(maxSteps:=800000) (disch:=omega)only[go_sem,A8,A5,B2,vi];refine⟨k+1,?_,fun _ _ h=>h,?_,?_⟩
      ·simp(disch:=omega) [AO,AQ,sl,AJ,ints,rows,A4,A8,A5,B2,AJ,vi]<;>omega
      ·first|exact fE|exact⟨by first|omega|(dsimp only;omega),fE⟩|exact⟨by first|omega|(dsimp only;omega),by first|omega|(dsimp only;omega),fE⟩
      first|omega|(simp only;omega)
     (try simp only[cn]at h4);apply AW.exit;apply HC;refine AW.seq fun N8 JJ=>?_;refine sQ fun N hN=>?_;simp-dsimp-implicitDefEqProofs(maxSteps:=800000) (disch:=omega)only[go_sem,A8,A5,B2,vi];apply hN;refine AW.cond rfl ?_ ?_<;>intro h5
     ·(try simp only[cn]at h5);exfalso;omega
     (try simp only[cn]at h5);have S3:GP pts y=k:=ZA (by omega) T9 (fun _=>h4);have E7:¬GP pts y=pts.length:=by omega
     have fD:(GF (pc os pw cj) xs x0 (j+1) (BS (pc os pw cj) xs i).1).1.length=pts.length:=by rw[MI];unfold K0;rw[if_neg E7]
     apply AW.skip;apply JJ;apply rQ;simp-dsimp-implicitDefEqProofs(maxSteps:=800000) (disch:=omega)only[go_sem,A8,A5,B2,vi,eH,z7,lW,lX,E6,List.take_length,List.length_map,BL];apply DW;refine AW.BD (fun G5 DD=>?_);dsimp only at DD;apply rQ;simp-dsimp-implicitDefEqProofs(maxSteps:=800000) (disch:=omega)only[go_sem,A8,A5,B2,vi];refine⟨(j+1,G5,NQ,WX.set j (.h (m3+13+4+8) 0 (0+1)),fun k=>if k=j then m3+13+4+8 else E4 k),?_,fun _ _ h=>h,?_,?_⟩
     ·simp(disch:=omega) [AO,AQ,sl,AJ,ints,rows,A4,A8,A5,B2,AJ,vi]<;>omega
     ·refine⟨by first|omega|(dsimp only;omega),?_⟩;dsimp only;rw[MI];rw[show K0 pts y=pts from by unfold K0;rw[if_neg E7]];refine FC.next (g:=j) (v:=(GP pts y:Int)) (cells:=[.i .i64 (k:Int)]) (k:=0) (by omega) (by omega) (by omega) (by omega) (E6.trans l8) ?_ ?_ ?_ (.inl rfl) (by omega) ?_ ?_ (fun k' _=>V8 k');rotate_left 1
      ·rw[←DD];simp(disch:=omega)only[A0,A1]
      ·rw[←DD];simp(disch:=omega)only[A0,A1]
      ·rw[←DD];simp(disch:=omega)only[A0,A1];exact hF
      ·intro i5 Jk Jl Jm Jn;rw[←DD];simp(disch:=omega)only[A0]
      rw[List.length_eq_zero_iff.1 (E6.trans l8),S3];rfl
     first|omega|(simp only;omega)
    (try simp only[cn]at h3);try simp-dsimp-implicitDefEqProofs(maxSteps:=800000) (disch:=omega)only[go_sem,A8,A5,B2,vi]
    apply hN;refine AW.C8 rfl ?_;apply AW.exit;apply HC;refine AW.seq fun N9 M6=>?_;refine sQ fun N hN=>?_;simp-dsimp-implicitDefEqProofs(maxSteps:=800000) (disch:=omega)only[go_sem,A8,A5,B2,vi];apply hN;refine AW.cond rfl ?_ ?_<;>intro h6
    ·(try simp only[cn]at h6);have oI:k=pts.length:=by omega
     subst oI;have E7:GP pts y=pts.length:=ZA (Nat.le_refl _) T9 (fun q=>absurd q (by omega));have fD:(GF (pc os pw cj) xs x0 (j+1) (BS (pc os pw cj) xs i).1).1.length=pts.length+1:=by rw[MI];unfold K0;rw[if_pos E7];simp
     apply rQ;simp-dsimp-implicitDefEqProofs(maxSteps:=800000) (disch:=omega)only[go_sem,A8,A5,B2,vi,hF,AR,B1];apply M6;apply rQ;simp-dsimp-implicitDefEqProofs(maxSteps:=800000) (disch:=omega)only[go_sem,A8,A5,B2,vi,eH,z7,lW,lX,E6,List.take_length,List.length_map,BL];apply DW;refine AW.BD (fun G5 DD=>?_);dsimp only at DD;apply rQ;simp-dsimp-implicitDefEqProofs(maxSteps:=800000) (disch:=omega)only[go_sem,A8,A5,B2,vi];refine⟨(j+1,G5,m3+13+4+3,WX.set j (.h (m3+13+4+5+8) 0 (0+1)),fun k=>if k=j then m3+13+4+5+8 else E4 k),?_,fun _ _ h=>h,?_,?_⟩
     ·simp(disch:=omega) [AO,AQ,sl,AJ,ints,rows,A4,A8,A5,B2,AJ,vi]<;>omega
     ·refine⟨by first|omega|(dsimp only;omega),?_⟩;dsimp only;rw[MI];rw[show K0 pts y=pts++[y]from by unfold K0;rw[if_pos E7]];refine FC.next (g:=j) (v:=(GP pts y:Int)) (cells:=[.i .i64 (pts.length:Int)]) (k:=0) (by omega) (by omega) (by omega) (by omega) (E6.trans l8) ?_ ?_ ?_ (.inr (by omega)) (by omega) ?_ ?_ (fun k' _=>V8 k');rotate_left 1
      ·rw[←DD];simp(disch:=omega)only[A0,A1]
      ·rw[←DD];simp(disch:=omega)only[A0,A1]
      ·rw[←DD,List.map_append];simp(disch:=omega)only[A0,A1];rfl
      ·intro i5 Jk Jl Jm Jn;rw[←DD];simp(disch:=omega)only[A0]
      rw[List.length_eq_zero_iff.1 (E6.trans l8),E7];rfl
     first|omega|(simp only;omega)
    (try simp only[cn]at h6);exfalso;omega
   try simp only[cn]at h2
   have rO:j=xs.length:=by omega
   subst rO;have rP:(BS (pc os pw cj) xs (i+1)).1.length=pts.length:=by rw[BS,JA,←KO]
   apply AW.exit;apply BQ;apply rQ;simp-dsimp-implicitDefEqProofs(maxSteps:=800000) (disch:=omega)only[go_sem,A8,A5,B2,vi];refine⟨(i+1,G2,NQ,WX,E4),?_,fun _ _ h=>h,?_,?_⟩
   ·simp(disch:=omega) [AO,AQ,sl,AJ,ints,rows,A4,A8,A5,B2,AJ,vi]<;>omega
   ·refine⟨V7,?_⟩
    ·have e:(BS (pc os pw cj) xs (i+1)).1=pts:=by rw[BS,JA];exact KO
     dsimp only;rw[e];refine⟨(FC.t.mm (by first|omega|(dsimp only;omega))).c8 (fun g hg=>(JS hg).symm),FC.f,FC.n1,by first|omega|(dsimp only;omega)⟩
   first|omega|(simp only;omega)
  skip
  simp only[A5];simp-dsimp-implicitDefEqProofs(maxSteps:=800000) (disch:=omega)only[go_sem];refine AW.seq fun lF FW=>?_;refine sQ fun N hN=>?_;simp-dsimp-implicitDefEqProofs(maxSteps:=800000) (disch:=omega)only[go_sem,A8,A5,B2,vi];apply hN;refine AW.cond rfl ?_ ?_<;>intro h7
  ·try simp only[cn]at h7
   have cA:T (pc os pw cj) 0 (xs.getD j z0):=bW JH (by omega);have I4:T (pc os pw cj) 0 y:=by rw[←hy];exact hg.cl SB cA
   have Y5:=D8 os pw cj h x0 (xs.getD j z0) SB cA;rw[hy]at Y5;obtain⟨-,lW,lX,hIb,hIc⟩:0<(F6 (pc os pw cj) xs i j j).length∧WX.getD j .j= .h (E4 j) 0 (F6 (pc os pw cj) xs i j j).length∧G2 (E4 j)=some ((F6 (pc os pw cj) xs i j j).map (.i .i64))∧(nx≤E4 j∧E4 j<m2)∧E4 j≠nx+4∧E4 j≠NQ∧E4 j≠nx+4:=by
    rcases FC.t.row j (by omega)with q|q
    ·have:=congrArg List.length q.1;rw[E6]at this;exact absurd this l8
    exact q
   apply AW.skip;apply FW;refine AW.seq fun p5 HI=>?_;apply AW.block;refine AW.seq fun N hN=>?_;refine AW.BI A9 (by kernel_rfl) 11 (by kernel_rfl) ?_
   simp-dsimp-implicitDefEqProofs(maxSteps:=800000) (disch:=omega)only[B3,B4,BH,List.take_succ_cons,List.take_zero,List.drop_succ_cons,List.drop_zero,List.take_nil,List.drop_nil,go_sem,undef,A8,A5,B2,AJ,vi,hF,Jj];refine⟨_,.of (Y5),?_⟩;try simp-dsimp-implicitDefEqProofs(maxSteps:=800000) (disch:=omega)only[go_sem,A8,A5,B2,vi]
   apply hN;refine sQ fun N hN=>?_;simp-dsimp-implicitDefEqProofs(maxSteps:=800000) (disch:=omega)only[go_sem,A8,A5,B2,vi];apply hN;refine AW.seq fun wX KG=>?_;apply AW.block;refine AW.AF (α:=Nat) (fun x=>sl 73 [(1,B2 os.length xs),(2,A5 os pw cj),(5,.h (nx+4) 0 xs.length),(6,.h NQ 0 pts.length),(7,.i .i64 i),(8,.i .i64 j),(9,vi os.length y),(10,.i .i64 x)]) (fun _=>G2) (fun x m=>x≤pts.length∧m2+5≤m∧∀k',k'<x→pts.getD k' z0≠y) (fun x=>pts.length-x) (0) ?_ ?_ (fun _ _ h=>h) ?_
   ·exact⟨by simp,by first|omega|(dsimp only;omega),by simp⟩
   ·simp(disch:=omega) [AO,AQ,sl,A5,ints,rows,A4,B2,vi]
   skip
   rintro k m3 ⟨hk,S9,T9⟩;try dsimp only at hk T9 ⊢
   simp only[A5,vi];simp-dsimp-implicitDefEqProofs(maxSteps:=800000) (disch:=omega)only[go_sem];refine AW.seq fun Hq NI=>?_;refine sQ fun N hN=>?_;simp-dsimp-implicitDefEqProofs(maxSteps:=800000) (disch:=omega)only[go_sem,A8,A5,B2,vi,hF];refine C9.mk' (fun h8=>?_) (fun h8=>?_)
   ·(try simp only[cn]at h8);have hkT:T (pc os pw cj) 0 (pts.getD k z0):=(lV hj).1 _ (by rw[List.getD_eq_getElem?_getD,List.getElem?_eq_getElem (show k<pts.length by omega)];exact List.getElem_mem _);try simp-dsimp-implicitDefEqProofs(maxSteps:=800000) (disch:=omega)only[go_sem,A8,A5,B2,vi]
    (try simp-dsimp-implicitDefEqProofs(maxSteps:=800000) (disch:=omega)only[go_sem,A8,A5,B2,vi,hF]);refine AC.pure (.of (DQ (by omega) hkT I4)) ?_;try simp-dsimp-implicitDefEqProofs(maxSteps:=800000) (disch:=omega)only[go_sem,A8,A5,B2,vi]
    apply hN;refine AW.cond rfl ?_ ?_<;>intro h9
    ·(try simp only[cn]at h9);have fE:∀k',k'<k+1→pts.getD k' z0≠y:=fun k' GA=>by
      rcases Nat.lt_or_ge k' k with q1|q1
      ·exact T9 k' q1
      obtain rfl:k'=k:=by omega
      exact h9
     apply AW.skip;apply NI;apply AW.block;apply rQ;simp-dsimp-implicitDefEqProofs(maxSteps:=800000) (disch:=omega)only[go_sem,A8,A5,B2,vi];refine⟨k+1,?_,fun _ _ h=>h,?_,?_⟩
     ·simp(disch:=omega) [AO,AQ,sl,AJ,ints,rows,A4,A8,A5,B2,AJ,vi]<;>omega
     ·first|exact fE|exact⟨by first|omega|(dsimp only;omega),fE⟩|exact⟨by first|omega|(dsimp only;omega),by first|omega|(dsimp only;omega),fE⟩
     first|omega|(simp only;omega)
    (try simp only[cn]at h9);apply AW.exit;apply KG;refine AW.seq fun Mr R1=>?_;refine sQ fun N hN=>?_;simp-dsimp-implicitDefEqProofs(maxSteps:=800000) (disch:=omega)only[go_sem,A8,A5,B2,vi];apply hN;refine AW.cond rfl ?_ ?_<;>intro LU
    ·(try simp only[cn]at LU);exfalso;omega
    (try simp only[cn]at LU);have S3:GP pts y=k:=ZA (by omega) T9 (fun _=>h9);have E7:¬GP pts y=pts.length:=by omega
    have fD:(GF (pc os pw cj) xs x0 (j+1) (BS (pc os pw cj) xs i).1).1.length=pts.length:=by rw[MI];unfold K0;rw[if_neg E7]
    apply AW.skip;apply R1;apply rQ;simp-dsimp-implicitDefEqProofs(maxSteps:=800000) (disch:=omega)only[go_sem,A8,A5,B2,vi,eH,z7,lW,lX,E6,List.take_length,List.length_map,BL];apply HI;refine AW.BD (fun G5 DD=>?_);dsimp only at DD;apply rQ;simp-dsimp-implicitDefEqProofs(maxSteps:=800000) (disch:=omega)only[go_sem,A8,A5,B2,vi];refine⟨(j+1,G5,NQ,WX.set j (.h (m3+13+4+8) 0 (i+1)),fun k=>if k=j then m3+13+4+8 else E4 k),?_,fun _ _ h=>h,?_,?_⟩
    ·simp(disch:=omega) [AO,AQ,sl,AJ,ints,rows,A4,A8,A5,B2,AJ,vi]<;>omega
    ·refine⟨by first|omega|(dsimp only;omega),?_⟩;dsimp only;rw[MI];rw[show K0 pts y=pts from by unfold K0;rw[if_neg E7]];refine FC.next (g:=j) (v:=(GP pts y:Int)) (cells:=(F6 (pc os pw cj) xs i j j).map (AV.i .i64)++[.i .i64 (k:Int)]) (k:=i) (by omega) (by omega) (by omega) (by omega) E6 ?_ ?_ ?_ (.inl rfl) (by omega) ?_ ?_ (fun k' _=>V8 k');rotate_left 1
     ·rw[←DD];simp(disch:=omega)only[A0,A1];rw[List.take_of_length_le (by rw[List.length_map];omega)]
     ·rw[←DD];simp(disch:=omega)only[A0,A1]
     ·rw[←DD];simp(disch:=omega)only[A0,A1];exact hF
     ·intro i5 Jk Jl Jm Jn;rw[←DD];simp(disch:=omega)only[A0]
     rw[S3];simp
    first|omega|(simp only;omega)
   try simp only[cn]at h8
   try simp-dsimp-implicitDefEqProofs(maxSteps:=800000) (disch:=omega)only[go_sem,A8,A5,B2,vi]
   apply hN;refine AW.C8 rfl ?_;apply AW.exit;apply KG;refine AW.seq fun Sb UH=>?_;refine sQ fun N hN=>?_;simp-dsimp-implicitDefEqProofs(maxSteps:=800000) (disch:=omega)only[go_sem,A8,A5,B2,vi];apply hN;refine AW.cond rfl ?_ ?_<;>intro IN
   ·(try simp only[cn]at IN);have oI:k=pts.length:=by omega
    subst oI;have E7:GP pts y=pts.length:=ZA (Nat.le_refl _) T9 (fun q=>absurd q (by omega));have fD:(GF (pc os pw cj) xs x0 (j+1) (BS (pc os pw cj) xs i).1).1.length=pts.length+1:=by rw[MI];unfold K0;rw[if_pos E7];simp
    apply rQ;simp-dsimp-implicitDefEqProofs(maxSteps:=800000) (disch:=omega)only[go_sem,A8,A5,B2,vi,hF,AR,B1];apply UH;apply rQ;simp-dsimp-implicitDefEqProofs(maxSteps:=800000) (disch:=omega)only[go_sem,A8,A5,B2,vi,eH,z7,lW,lX,E6,List.take_length,List.length_map,BL];apply HI;refine AW.BD (fun G5 DD=>?_);dsimp only at DD;apply rQ;simp-dsimp-implicitDefEqProofs(maxSteps:=800000) (disch:=omega)only[go_sem,A8,A5,B2,vi];refine⟨(j+1,G5,m3+13+4+3,WX.set j (.h (m3+13+4+5+8) 0 (i+1)),fun k=>if k=j then m3+13+4+5+8 else E4 k),?_,fun _ _ h=>h,?_,?_⟩
    ·simp(disch:=omega) [AO,AQ,sl,AJ,ints,rows,A4,A8,A5,B2,AJ,vi]<;>omega
    ·refine⟨by first|omega|(dsimp only;omega),?_⟩;dsimp only;rw[MI];rw[show K0 pts y=pts++[y]from by unfold K0;rw[if_pos E7]];refine FC.next (g:=j) (v:=(GP pts y:Int)) (cells:=(F6 (pc os pw cj) xs i j j).map (AV.i .i64)++[.i .i64 (pts.length:Int)]) (k:=i) (by omega) (by omega) (by omega) (by omega) E6 ?_ ?_ ?_ (.inr (by omega)) (by omega) ?_ ?_ (fun k' _=>V8 k');rotate_left 1
     ·rw[←DD];simp(disch:=omega)only[A0,A1];rw[List.take_of_length_le (by rw[List.length_map];omega)]
     ·rw[←DD];simp(disch:=omega)only[A0,A1]
     ·rw[←DD,List.map_append];simp(disch:=omega)only[A0,A1];rfl
     ·intro i5 Jk Jl Jm Jn;rw[←DD];simp(disch:=omega)only[A0]
     rw[E7];simp
    first|omega|(simp only;omega)
   try simp only[cn]at IN
   exfalso;omega
  try simp only[cn]at h7
  have rO:j=xs.length:=by omega
  subst rO;have rP:(BS (pc os pw cj) xs (i+1)).1.length=pts.length:=by rw[BS,JA,←KO]
  apply AW.exit;apply BQ;apply rQ;simp-dsimp-implicitDefEqProofs(maxSteps:=800000) (disch:=omega)only[go_sem,A8,A5,B2,vi];refine⟨(i+1,G2,NQ,WX,E4),?_,fun _ _ h=>h,?_,?_⟩
  ·simp(disch:=omega) [AO,AQ,sl,AJ,ints,rows,A4,A8,A5,B2,AJ,vi]<;>omega
  ·refine⟨V7,?_⟩
   ·have e:(BS (pc os pw cj) xs (i+1)).1=pts:=by rw[BS,JA];exact KO
    dsimp only;rw[e];refine⟨(FC.t.mm (by first|omega|(dsimp only;omega))).c8 (fun g hg=>(JS hg).symm),FC.f,FC.n1,by first|omega|(dsimp only;omega)⟩
  first|omega|(simp only;omega)
 try simp only[cn]at h1
 apply AW.exit;apply BC;refine sQ fun N hN=>?_;simp-dsimp-implicitDefEqProofs(maxSteps:=800000) (disch:=omega)only[go_sem,A8,A5,B2,vi];apply hN;apply AW.ret;simp-dsimp-implicitDefEqProofs(maxSteps:=800000) (disch:=omega)only[go_sem];have hq:rG (pc os pw cj) xs i:=⟨by have:=rN (P:=(pc os pw cj)) (xs:=xs) V6;omega,V6⟩
 rw[Q4,fA hq]
 obtain⟨is,ho⟩:=hS.t.own
 exact ho.1.vw
end
end Go.Proofs.YtghmeeifjeafmaaGreat
