import Derived.Test.YtghmeeifjeafmaaGreatZ20
import Derived.Test.YtghmeeifjeafmaaGreatZ24
set_option linter.unusedVariables false
set_option linter.unusedSimpArgs false
namespace Go.Proofs.YtghmeeifjeafmaaGreat
theorem jS{pts:List V}{y:V}:pts<+:K0 pts y:=by
  unfold K0;split
  · exact List.prefix_append _ _
  exact List.prefix_refl _
theorem TP{a b:List V}(h:a<+:b){k:Nat}(hk:k<a.length):b.getD k z0=a.getD k z0:=by
  obtain⟨r,rfl⟩:=h;rw[List.getD_eq_getElem?_getD,List.getElem?_append_left hk,List.getD_eq_getElem?_getD]
theorem bY{P:Pc}{xs:List V}{x:V}{pts:List V}(j:Nat):∀k,(GF P xs x j pts).1<+:(GF P xs x (j+k) pts).1:=by
  intro k;induction k with
  |zero=>exact List.prefix_refl _
  |succ k ih=>exact ih.trans jS
theorem rH{P:Pc}{xs:List V}{x:V}{pts:List V}(j:Nat):pts<+:(GF P xs x j pts).1:=by
  have:=bY (P:=P) (xs:=xs) (x:=x) (pts:=pts) 0 j;rwa [Nat.zero_add]at this
theorem bZ{P:Pc}{xs:List V}(i:Nat):∀k,(BS P xs i).1<+:(BS P xs (i+k)).1:=by
  intro k;induction k with
  |zero=>exact List.prefix_refl _
  |succ k ih=>exact ih.trans (rH _)
theorem yW{P:Pc}{xs:List V}{x:V}{pts:List V}{g:Nat}:∀j,g<j→(GF P xs x j pts).2.getD g 0=(GP (GF P xs x g pts).1 (M P 0 x (xs.getD g z0)):Int):=by
  intro j;induction j with
  |zero=>intro h;omega
  | succ j ih=>
    intro h;rw[GF];by_cases e:g=j
    · subst e;exact bX (ZB g).symm
    rw[jM (by rw[ZB];omega)];exact ih (by omega)
theorem yX{P:Pc}{xs:List V}{x:Nat}:∀i,x<i→(BS P xs i).2.getD x []=(GF P xs ((BS P xs x).1.getD x z0) xs.length (BS P xs x).1).2:=by
  intro i;induction i with
  |zero=>intro h;omega
  | succ i ih=>
    intro h;rw[BS];by_cases e:x=i
    · subst e;rw[List.getD_eq_getElem?_getD,List.getElem?_append_right (by rw[KN];exact Nat.le_refl _),KN,Nat.sub_self];rfl
    rw[List.getD_eq_getElem?_getD,List.getElem?_append_left (by rw[KN];omega),←List.getD_eq_getElem?_getD];exact ih (by omega)
theorem II{P:Pc}{xs:List V}:(Q4 P xs).length=xs.length:=by rw[Q4,List.length_map,List.length_range]
theorem rI{P:Pc}{xs:List V}{g:Nat}(hg:g<xs.length):(Q4 P xs).getD g []=ZC (BS P xs (jN P xs)).2 g:=by
  rw[Q4,List.getD_eq_getElem?_getD,List.getElem?_map,List.getElem?_range hg];exact ZD
theorem rJ{rws:List (List Int)}{g x:Nat}(hx:x<rws.length):(ZC rws g).getD x 0=(rws.getD x []).getD g 0:=by
  rw[ZC,List.getD_eq_getElem?_getD,List.getElem?_map,List.getD_eq_getElem?_getD (l:=rws),List.getElem?_eq_getElem hx];rfl
section
variable{os:List Int}{pw:List (List Int)}{cj:List (List (List Int))}(hp:AI os pw cj)(hc:DI (pc os pw cj) 0){xs:List V}(JH:∀x∈xs,T (pc os pw cj) 0 x)
include hp hc JH
theorem Jf:∃i,rG (pc os pw cj) xs i:=by
  have go :∀N,(∀i',i'<N→i'<(BS (pc os pw cj) xs i').1.length)∨∃i,rG (pc os pw cj) xs i:=by
    intro N;induction N with
    |zero=>exact .inl fun i' h=>by omega
    | succ N ih=>
      rcases ih with ih|ih
      · by_cases h:N<(BS (pc os pw cj) xs N).1.length
        · refine .inl fun i' h'=>?_
          by_cases e:i'=N
          · rw[e];exact h
          exact ih i' (by omega)
        refine .inr ⟨N,?_,ih⟩;cases N with
        |zero=>simp[BS]at h
        | succ m=>
          have h1:=ih m (by omega);have h2:=(bZ (P:=pc os pw cj) (xs:=xs) m 1).length_le;omega
      exact .inr ih
  rcases go 731 with h|h
  · have h1:=(XZ.BS hp.val hc JH 730 (fun i' hi=>h i' (by omega))).len hp;have:=h 730 (by omega);omega
  exact h
theorem rK:rG (pc os pw cj) xs (jN (pc os pw cj) xs):=by
  obtain⟨i,hi⟩:=Jf hp hc JH;rw[fA hi];exact hi
theorem jT:dE (pc os pw cj) xs (Q4 (pc os pw cj) xs) (jN (pc os pw cj) xs) (fun k=>(BS (pc os pw cj) xs (jN (pc os pw cj) xs)).1.getD k z0)
    (fun x g=>(GF (pc os pw cj) xs ((BS (pc os pw cj) xs (jN (pc os pw cj) xs)).1.getD x z0) g (BS (pc os pw cj) xs x).1).1.length):=by
  have hQ:=rK hp hc JH;obtain⟨n,hn⟩:∃n,jN (pc os pw cj) xs=n:=⟨_,rfl⟩;have fB:=fun g=>rI (P:=pc os pw cj) (xs:=xs) (g:=g)
  rw[hn]at hQ fB ⊢;have hI:=XZ.BS hp.val hc JH n hQ.2;have hlen:=hQ.1;have Jg:∀i,i≤n→(BS (pc os pw cj) xs i).1<+:(BS (pc os pw cj) xs n).1:=fun i hi=>by
    have:=bZ (P:=pc os pw cj) (xs:=xs) i (n-i);rwa [Nat.add_sub_cancel' hi]at this
  have hqx:∀x,x<n→(BS (pc os pw cj) xs n).1.getD x z0=(BS (pc os pw cj) xs x).1.getD x z0:=fun x hx=>TP (Jg x (by omega)) (hQ.2 x hx)
  have o9:∀k,k<n→(BS (pc os pw cj) xs n).1.getD k z0∈(BS (pc os pw cj) xs n).1:=fun k hk=>by
    rw[List.getD_eq_getElem?_getD,List.getElem?_eq_getElem (by omega)];exact List.getElem_mem _
  refine⟨II,fun g hg=>?_,by have:=hI.2.2;omega,fun g hg=>bW JH (by rw[II]at hg;exact hg),fun k hk=>hI.1 _ (o9 k hk),fun i j hi hj e=>?_,?_,fun g x hg hx=>?_,?_,fun x hx=>?_,fun x hx=>?_⟩
  · rw[II]at hg;rw[fB g hg,V4,KN]
  · have h2:=hI.2.1;try dsimp only at e
    rw[List.getD_eq_getElem?_getD,List.getElem?_eq_getElem (by omega),List.getD_eq_getElem?_getD,List.getElem?_eq_getElem (by omega)]at e;exact(List.getElem_inj h2).1 e
  · have:=Jg 0 (Nat.zero_le _);try dsimp only
    rw[TP this (by simp[BS])];rfl
  · rw[II]at hg;try dsimp only
    obtain⟨q,hq⟩:∃q,(BS (pc os pw cj) xs n).1.getD x z0=q:=⟨_,rfl⟩;obtain⟨y,hy⟩:∃y,M (pc os pw cj) 0 q (xs.getD g z0)=y:=⟨_,rfl⟩;obtain⟨A,hA⟩:∃A,(GF (pc os pw cj) xs q g (BS (pc os pw cj) xs x).1).1=A:=⟨_,rfl⟩;obtain⟨f1,f2,f3⟩:=V3 (y:=y) A;have hA1:(GF (pc os pw cj) xs q (g+1) (BS (pc os pw cj) xs x).1).1=K0 A y:=by rw[GF,hA,hy]
    have rL:K0 A y<+:(BS (pc os pw cj) xs n).1:=by
      rw[←hA1];have h1:=bY (P:=pc os pw cj) (xs:=xs) (x:=q) (pts:=(BS (pc os pw cj) xs x).1) (g+1) (xs.length-(g+1));rw[Nat.add_sub_cancel' (by omega)]at h1;refine h1.trans ?_;have h2:=Jg (x+1) (by omega);rw[BS,←hqx x hx,hq]at h2;exact h2
    rw[hq,hA,hA1,hy];refine⟨GP A y,?_,?_,f1,?_,?_⟩
    · rw[fB g hg,rJ (by rw[KN];exact hx),yX n hx,yW xs.length hg,←hqx x hx,hq,hA,hy]
    · have h3:=rL.length_le;have h4:GP A y<(K0 A y).length:=by
        unfold K0;split
        · rw[List.length_append,List.length_singleton];omega
        omega
      omega
    · by_cases h5:GP A y=A.length
      · have h6:K0 A y=A++[y]:=by unfold K0;rw[if_pos h5]
        rw[TP rL (by rw[h6];simp;omega),h6,h5,List.getD_eq_getElem?_getD,List.getElem?_append_right (Nat.le_refl _),Nat.sub_self];rfl
      rw[TP (jS.trans rL) (by omega)];exact f3 (by omega)
    unfold K0;split
    · rw[List.length_append,List.length_singleton]
    rfl
  · show(BS (pc os pw cj) xs 0).1.length=1
    rfl
  · rw[II];try dsimp only
    rw[hqx x hx];rfl
  exact hQ.2 x hx
theorem Jh:∀x,x∈(BS (pc os pw cj) xs (jN (pc os pw cj) xs)).1↔GL (pc os pw cj) xs x:=by
  have hF:=jT hp hc JH;have hQ:=rK hp hc JH;have hS:HW (T (pc os pw cj) 0) (M (pc os pw cj) 0) (GL (pc os pw cj) xs):=Z3 hp.val hc (fun d hd=>hp.2.1 d hd) JH;have G:=(lvl hp.val hc).g 0;obtain⟨n,hn⟩:∃n,jN (pc os pw cj) xs=n:=⟨_,rfl⟩;rw[hn]at hQ hF ⊢;have hI:=XZ.BS hp.val hc JH n hQ.2;have hlen:=hQ.1;intro x;constructor
  · have go : ∀i,i≤n→∀p∈(BS (pc os pw cj) xs i).1,GL (pc os pw cj) xs p:=by
      intro i;induction i with
      |zero=>intro _ p hp;rw[List.mem_singleton.1 hp];exact hS.e
      | succ i ih=>
        intro hi;have ih:=ih (by omega);have hq:GL (pc os pw cj) xs ((BS (pc os pw cj) xs i).1.getD i z0):=ih _ (by
          rw[List.getD_eq_getElem?_getD,List.getElem?_eq_getElem (hQ.2 i (by omega))];exact List.getElem_mem _)
        rw[BS];have gi:∀j,j≤xs.length→∀p∈(GF (pc os pw cj) xs ((BS (pc os pw cj) xs i).1.getD i z0) j (BS (pc os pw cj) xs i).1).1,GL (pc os pw cj) xs p:=by
          intro j;induction j with
          |zero=>intro _;exact ih
          | succ j Zc=>
            intro hj p hp;rw[GF]at hp;unfold K0 at hp;split at hp
            · rcases List.mem_append.1 hp with h1|h1
              · exact Zc (by omega) p h1
              rw[List.mem_singleton.1 h1];exact hS.mu hq (GL.of (by rw[List.getD_eq_getElem?_getD,List.getElem?_eq_getElem (by omega)];exact List.getElem_mem _))
            exact Zc (by omega) p hp
        exact gi xs.length (Nat.le_refl _)
    exact go n (Nat.le_refl _) x
  intro hx;have hB:HW (T (pc os pw cj) 0) (M (pc os pw cj) 0) (fun b=>T (pc os pw cj) 0 b∧∀a∈(BS (pc os pw cj) xs n).1,M (pc os pw cj) 0 a b∈(BS (pc os pw cj) xs n).1):=by
    have hz:T (pc os pw cj) 0 z0∧∀a∈(BS (pc os pw cj) xs n).1,M (pc os pw cj) 0 a z0∈(BS (pc os pw cj) xs n).1:=⟨G.e0,fun a ha=>by rw[G.r1 (hI.1 a ha)];exact ha⟩;have Y5:∀{b d},(T (pc os pw cj) 0 b∧∀a∈(BS (pc os pw cj) xs n).1,M (pc os pw cj) 0 a b∈(BS (pc os pw cj) xs n).1)→(T (pc os pw cj) 0 d∧∀a∈(BS (pc os pw cj) xs n).1,M (pc os pw cj) 0 a d∈(BS (pc os pw cj) xs n).1)→(T (pc os pw cj) 0 (M (pc os pw cj) 0 b d)∧∀a∈(BS (pc os pw cj) xs n).1,M (pc os pw cj) 0 a (M (pc os pw cj) 0 b d)∈(BS (pc os pw cj) xs n).1):=
      fun {b d} h1 h2=>⟨G.cl h1.1 h2.1,fun a ha=>by rw[←G.ac (hI.1 a ha) h1.1 h2.1];exact h2.2 _ (h1.2 a ha)⟩
    refine⟨fun h=>h.1,hz,fun h1 h2=>Y5 h1 h2,fun {a b} ha hb iK=>?_⟩;obtain⟨k,hk⟩:=yD hp.val hc ha.1;have hrk:∀k,(T (pc os pw cj) 0 (rep (M (pc os pw cj) 0) a k)∧∀c∈(BS (pc os pw cj) xs n).1,M (pc os pw cj) 0 c (rep (M (pc os pw cj) 0) a k)∈(BS (pc os pw cj) xs n).1):=by
      intro k;induction k with
      |zero=>exact hz
      |succ k ih=>exact Y5 ih ha
    have hr:=hrk k;have:b=rep (M (pc os pw cj) 0) a k:=by
      rw[←G.l1 hb,←hk,G.ac hr.1 ha.1 hb,iK,G.r1 hr.1]
    rw[this];exact hr
  have hz:z0∈(BS (pc os pw cj) xs n).1:=by
    have:=hF.q0;try dsimp only at this
    rw[←this,List.getD_eq_getElem?_getD,List.getElem?_eq_getElem (by have:=hF.n1;omega)];exact List.getElem_mem _
  have h1:=GL.le hB (fun u hu=>⟨JH u hu,fun a ha=>?_⟩) hx
  · have h2:=h1.2 z0 hz;rwa [G.l1 h1.1]at h2
  obtain⟨k,hk,rfl⟩:=List.mem_iff_getElem.1 ha;obtain⟨g,hg,rfl⟩:=List.mem_iff_getElem.1 hu;obtain⟨e,e1,e2,e3,e4,e5⟩:=hF.bN g k (by rw[II];exact hg) (by omega);try dsimp only at e4
  rw[List.getD_eq_getElem?_getD,List.getElem?_eq_getElem (by omega),List.getD_eq_getElem?_getD,List.getElem?_eq_getElem hk,List.getD_eq_getElem?_getD,List.getElem?_eq_getElem hg]at e4;simp only[Option.getD_some]at e4;rw[←e4];exact List.getElem_mem _
theorem yY:(jN (pc os pw cj) xs:Int)=WV os (HJ (pc os pw cj) xs) (HJ (pc os pw cj) xs).length:=by
  have hQ:=rK hp hc JH;have hI:=XZ.BS hp.val hc JH _ hQ.2;have J2:∀d,d<(pc os pw cj).n→J0 ((pc os pw cj).o d):=fun d hd=>hp.2.1 d hd
  rw[←yF hp hc (Z3 hp.val hc J2 JH) (UZ hp.val hc J2 JH) hI.2.1 (Jh hp hc JH),←hQ.1]
end
end Go.Proofs.YtghmeeifjeafmaaGreat
namespace Go.Proofs.YtghmeeifjeafmaaGreat
theorem LI(a b:List (List Int))(ha:B6 a)(hb:B6 b):BG Tryz.prog 135 [rows a,rows b,.f 100 []] (.b (tf (a=b))):=by
 have han:=ha.n
 have hbn:=hb.n
 refine BG.AM A9 Tryz.func135 rfl (by kernel_rfl) Tryz.ntmps135 Tryz.results135 (.b _) (fun nx cX=>?_)
 refine sQ fun N hN=>?_;simp-dsimp-implicitDefEqProofs(disch:=omega)only[go_sem,rows,A7];apply hN;refine AW.seq fun N1 BC=>?_;refine sQ fun N hN=>?_;simp-dsimp-implicitDefEqProofs(disch:=omega)only[go_sem,rows,A7];apply hN;refine AW.cond rfl ?_ ?_<;>intro h1
 ·try simp only[cn]at h1
  refine sQ fun N hN=>?_;simp-dsimp-implicitDefEqProofs(disch:=omega)only[go_sem,rows,A7];apply hN;apply AW.ret;simp-dsimp-implicitDefEqProofs(disch:=omega)only[go_sem];exact bt (CE (fun h=>h1 (by rw[h]))).symm
 try simp only[cn]at h1
 have hl:a.length=b.length:=by omega
 apply AW.skip;apply BC;refine AW.seq fun N2 BM=>?_;refine sQ fun N hN=>?_;simp-dsimp-implicitDefEqProofs(disch:=omega)only[go_sem,rows,A7];apply hN;apply AW.block;refine AW.AF (α:=Nat) (fun x=>sl 32 [(1,rows b),(2,.f 100 []),(15,rows a),(16,.i .i64 a.length),(17,.i .i64 x)]) (fun _=>BN) (fun x m=>x≤a.length∧a.take x=b.take x) (fun x=>a.length-x) (0) ?_ ?_ (fun _ _ h=>h) ?_
 ·exact⟨by omega,rfl⟩
 ·simp(disch:=omega) [AO,AQ,sl,AJ,ints,rows,A4,rows,A7,AJ]<;>omega
 skip
 rintro k m ⟨hk,hI⟩
 simp-dsimp-implicitDefEqProofs(disch:=omega)only[go_sem];refine sQ fun N hN=>?_;simp-dsimp-implicitDefEqProofs(disch:=omega)only[go_sem,rows,A7];apply hN;refine AW.seq fun N3 BQ=>?_;refine AW.cond rfl ?_ ?_<;>intro h2
 ·try simp only[cn]at h2
  have hak:=ha.getD k;have T9:=hb.getD k;apply AW.skip;apply BQ;refine AW.seq fun N4 CG=>?_;apply AW.block;refine sQ fun N hN=>?_;simp-dsimp-implicitDefEqProofs(disch:=omega)only[go_sem,rows,A7];apply hN;refine sQ fun N hN=>?_;simp-dsimp-implicitDefEqProofs(disch:=omega)only[go_sem,rows,A7];apply hN;refine sQ fun N hN=>?_;simp-dsimp-implicitDefEqProofs(disch:=omega)only[go_sem,rows,A7];refine AC.pure (.of (ED (a.getD k []) (b.getD k []) (by omega) (by omega))) ?_;try simp-dsimp-implicitDefEqProofs(disch:=omega)only[go_sem,rows,A7]
  apply hN;refine AW.cond rfl ?_ ?_<;>intro h3
  ·try simp only[cn]at h3
   refine sQ fun N hN=>?_;simp-dsimp-implicitDefEqProofs(disch:=omega)only[go_sem,rows,A7];apply hN;apply AW.ret;simp-dsimp-implicitDefEqProofs(disch:=omega)only[go_sem];exact bt (CE (fun h=>h3 (by rw[h]))).symm
  try simp only[cn]at h3
  apply AW.skip;apply CG;apply rQ;simp-dsimp-implicitDefEqProofs(disch:=omega)only[go_sem,rows,A7];refine⟨k+1,?_,fun _ _ h=>h,?_,?_⟩
  ·simp(disch:=omega) [AO,AQ,sl,AJ,ints,rows,A4,rows,A7,AJ]<;>omega
  ·exact⟨by omega,UC [] hl (by omega) hI h3⟩
  first|omega|(simp only;omega)
 try simp only[cn]at h2
 apply AW.exit;apply BM;refine sQ fun N hN=>?_;simp-dsimp-implicitDefEqProofs(disch:=omega)only[go_sem,rows,A7];apply hN;apply AW.ret;simp-dsimp-implicitDefEqProofs(disch:=omega)only[go_sem];have GA:k=a.length:=by omega
 subst GA
 rw[List.take_length,hl,List.take_length]at hI
 exact bt (EN hI).symm
theorem RG(a b:List (List Int))(ha:B6 a)(hb:B6 b):BG Tryz.prog 97 [rows a,rows b] (.b (tf (a=b))):=by
 refine BG.AM A9 Tryz.func97 rfl (by kernel_rfl) Tryz.ntmps97 Tryz.results97 (.b _) (fun nx cX=>?_)
 refine sQ fun N hN=>?_;simp-dsimp-implicitDefEqProofs(disch:=omega)only[go_sem,];apply hN;refine sQ fun N hN=>?_;simp-dsimp-implicitDefEqProofs(disch:=omega)only[go_sem,];refine AC.pure (.of (LI a b ha hb)) ?_;try simp-dsimp-implicitDefEqProofs(disch:=omega)only[go_sem,]
 apply hN;apply AW.ret;simp-dsimp-implicitDefEqProofs(disch:=omega)only[go_sem];skip
end Go.Proofs.YtghmeeifjeafmaaGreat
namespace Go.Proofs.YtghmeeifjeafmaaGreat
structure c7(a m ob f1 f2:Nat)(G:HP)(c:Nat)(G8:Nat→List Int)(rs:List AV)(ids:Nat→Nat):Prop where
  Ue:G ob=some rs
  len:rs.length=c
  row:∀g,g<c→(G8 g=[]∧rs.getD g .j= .nl)∨(0<(G8 g).length∧rs.getD g .j= .h (ids g) 0 (G8 g).length∧G (ids g)=some ((G8 g).map (.i .i64))∧(a≤ids g∧ids g<m)∧ids g≠ob∧ids g≠f1∧ids g≠f2)
  Uf:∀g g',g<c→g'<c→g≠g'→0<(G8 g).length→0<(G8 g').length→ids g≠ids g'
  lo:a≤ob
  hi:ob<m
theorem c7.start{a m ob f1 f2:Nat}{G:HP}{c:Nat}{G8:Nat→List Int}(h:G ob=some (List.replicate c .nl))(h1:a≤ob)(h2:ob<m)(hc:∀g,g<c→G8 g=[]):c7 a m ob f1 f2 G c G8 (List.replicate c .nl) (fun _=>0):=
  ⟨h,by simp,fun g hg=> .inl ⟨hc g hg,by simp[hg]⟩,fun g g' hg _ _ q=>by rw[hc g hg]at q;simp at q,h1,h2⟩
theorem c7.mm{a m m' ob f1 f2:Nat}{G:HP}{c:Nat}{G8:Nat→List Int}{rs:List AV}{ids:Nat→Nat}(h:c7 a m ob f1 f2 G c G8 rs ids)(hm:m≤m'):c7 a m' ob f1 f2 G c G8 rs ids:=
  ⟨h.Ue,h.len,fun g hg=>(h.row g hg).imp id fun ⟨a1,a2,a3,a4,a5⟩=>⟨a1,a2,a3,by omega,a5⟩,h.Uf,h.lo,by have:=h.hi;omega⟩
theorem c7.c8{a m ob f1 f2:Nat}{G:HP}{c:Nat}{G8 c9:Nat→List Int}{rs:List AV}{ids:Nat→Nat}(h:c7 a m ob f1 f2 G c G8 rs ids)(hc:∀g,g<c→c9 g=G8 g):c7 a m ob f1 f2 G c c9 rs ids:=
  ⟨h.Ue,h.len,fun g hg=>by rw[hc g hg];exact h.row g hg,fun g g' hg Ms AL q1 q2=>h.Uf g g' hg Ms AL (by rwa [hc g hg]at q1) (by rwa [hc g' Ms]at q2),h.lo,h.hi⟩
theorem c7.set{a m m' ob f1 f2 f1':Nat}{G G':HP}{c:Nat}{G8:Nat→List Int}{rs:List AV}{ids:Nat→Nat}(h:c7 a m ob f1 f2 G c G8 rs ids){g:Nat}(hg:g<c){v:Int}{TQ:Nat}(hn:m≤TQ)(Zj:TQ<m')(hm:m≤m')
    (F0:G' TQ=some ((G8 g++[v]).map (.i .i64))) (XS:G' ob=some (rs.set g (.h TQ 0 ((G8 g).length+1)))) (uA:f1'=f1∨m≤f1') (dB:f2<m) (hnf:TQ≠f1')
    (D3:∀i,i<m→i≠ob→i≠f1→i≠f2→(0<(G8 g).length→i≠ids g)→G' i=G i) (hf0:f1<m):
    c7 a m' ob f1' f2 G' c (fun k=>if k=g then G8 g++[v]else G8 k) (rs.set g (.h TQ 0 ((G8 g).length+1))) (fun k=>if k=g then TQ else ids k):=by
  have I6:=h.lo;have mM:=h.hi;refine⟨XS,by rw[List.length_set];exact h.len,fun k hk=>?_,fun k k' hk GA AL q1 q2=>?_,I6,by omega⟩
  · by_cases e:k=g
    · subst e;refine .inr ⟨by simp,?_,?_,?_⟩
      · simp only[if_true,List.length_append,List.length_cons,List.length_nil];rw[List.getD_eq_getElem?_getD,List.getElem?_set_self (by rw[h.len];exact hk)];rfl
      · simp only[if_true];exact F0
      simp only[if_true];exact⟨by omega,by omega,hnf,by omega⟩
    simp only[e,if_false];have dQ:(rs.set g (.h TQ 0 ((G8 g).length+1))).getD k .j=rs.getD k .j:=by
      simp only[List.getD_eq_getElem?_getD];rw[List.getElem?_set_ne (fun q=>e q.symm)]
    rw[dQ];rcases h.row k hk with q|⟨a1,a2,a3,a4,a5,a6,a7⟩
    · exact .inl q
    refine .inr ⟨a1,a2,?_,by omega,a5,?_,a7⟩
    · rw[D3 _ a4.2 a5 a6 a7 (fun q=>fun e2=>h.Uf k g hk hg e a1 q e2)];exact a3
    rcases uA with q|q
    · rw[q];exact a6
    omega
  have key:∀k,k<c→k≠g→0<(G8 k).length→ids k<m:=fun k hk e q=>by
    rcases h.row k hk with ⟨q1,_⟩|⟨_,_,_,a4,_⟩
    · rw[q1]at q;simp at q
    exact a4.2
  by_cases e:k=g
  · have e':k'≠g:=fun q=>AL (by rw[e,q])
    simp only[e,e',if_true,if_false]at q2 ⊢;have:=key k' GA e' q2;omega
  by_cases e':k'=g
  · simp only[e,e',if_true,if_false]at q1 ⊢;have:=key k hk e q1;omega
  simp only[e,e',if_false]at q1 q2 ⊢;exact h.Uf k k' hk GA AL q1 q2
theorem c7.own{a m ob f1 f2:Nat}{G:HP}{c:Nat}{G8:Nat→List Int}{rs:List AV}{ids:Nat→Nat}(h:c7 a m ob f1 f2 G c G8 rs ids):∃is,Own a m G (.h ob 0 c) (rows ((List.range c).map G8)) is:=by
  have go :∀k,k≤c→∃L,FI G (rs.take k) ((List.range k).map fun g=>ints (G8 g)) L∧L.Nodup∧(∀i∈L,(a≤i∧i<m)∧i≠ob)∧∀i∈L,∃g,g<k∧0<(G8 g).length∧i=ids g:=by
    intro k;induction k with
    |zero=>intro _;exact⟨[],.nil,by simp,by simp,by simp⟩
    | succ k ih=>
      intro hk;obtain⟨L,l1,l2,l3,l4⟩:=ih (by omega);have e1:rs.take (k+1)=rs.take k++[rs.getD k .j]:=by
        rw[List.take_add_one];congr 1
        simp[show k<rs.length by rw[h.len];omega]
      rw[e1,List.range_succ,List.map_append];rcases h.row k (by omega)with ⟨q1,q2⟩|⟨a1,a2,a3,a4,a5,a6,a7⟩
      · refine⟨L++([]++[]),FI.append l1 (.cons _ _ _ _ _ _ ?_ .nil),by simpa using l2,by simpa using l3,?_⟩
        · show Ow G (rs.getD k .j) (ints (G8 k)) []
          rw[q2,q1];exact .nl
        intro i hi;obtain⟨g,g1,g2,g3⟩:=l4 i (by simpa using hi);exact⟨g,by omega,g2,g3⟩
      have ho:=(Own.ints (nx:=a) (nx':=m) a3 rfl a4.1 a4.2).1;have hnl:ids k∉L:=fun hi=>by
        obtain⟨g,g1,g2,g3⟩:=l4 _ hi;exact h.Uf k g (by omega) (by omega) (by omega) a1 g2 g3
      refine⟨L++([ids k]++[]),FI.append l1 (.cons _ _ _ _ _ _ ?_ .nil),?_,?_,?_⟩
      · show Ow G (rs.getD k .j) (ints (G8 k)) _
        rw[a2];exact ho
      · rw[List.append_nil,List.nodup_append];exact⟨l2,by simp,fun x hx y hy e=>by rw[List.mem_singleton.1 hy]at e;subst e;exact hnl hx⟩
      · intro i hi;rw[List.append_nil]at hi;rcases List.mem_append.1 hi with q|q
        · exact l3 i q
        rw[List.mem_singleton.1 q];exact⟨a4,a5⟩
      intro i hi;rw[List.append_nil]at hi;rcases List.mem_append.1 hi with q|q
      · obtain⟨g,g1,g2,g3⟩:=l4 i q;exact⟨g,by omega,g2,g3⟩
      exact⟨k,by omega,a1,List.mem_singleton.1 q⟩
  obtain⟨L,l1,l2,l3,_⟩:=go c (Nat.le_refl _);have hl:=h.len;rw[List.take_of_length_le (by omega)]at l1;have e:rows ((List.range c).map G8)= .v rs.length ((List.range c).map fun g=>ints (G8 g)):=by
    unfold rows;rw[List.length_map,List.length_range,List.map_map,hl];rfl
  rw[e];have e3:AV.h ob 0 c= .h ob 0 rs.length:=by rw[hl]
  rw[e3];refine⟨ob::L,Ow.h ob rs _ L h.Ue l1,List.nodup_cons.2 ⟨fun hi=>(l3 ob hi).2 rfl,l2⟩,fun i hi=>?_⟩;rcases List.mem_cons.1 hi with rfl|q
  · exact⟨h.lo,h.hi⟩
  exact(l3 i q).1
structure yZ(os:List Int)(a m ob jU PB:Nat)(G:HP)(c:Nat)(pts:List V)(G8:Nat→List Int)(rs:List AV)(ids:Nat→Nat):Prop where
  t:c7 a m ob PB jU G c G8 rs ids
  f:G PB=some (pts.map (vi os.length))
  p:G jU=some (jO os 0 pts)
  n1:PB≠ob
  n2:jU≠ob
  n3:PB≠jU
  b1:a≤PB∧PB<m
  b2:a≤jU∧jU<m
theorem yZ.mm{os:List Int}{a m m' ob jU PB:Nat}{G:HP}{c:Nat}{pts:List V}{G8:Nat→List Int}{rs:List AV}{ids:Nat→Nat}(h:yZ os a m ob jU PB G c pts G8 rs ids)(hm:m≤m'):yZ os a m' ob jU PB G c pts G8 rs ids:=
  ⟨h.t.mm hm,h.f,h.p,h.n1,h.n2,h.n3,by have:=h.b1;omega,by have:=h.b2;omega⟩
theorem yZ.next{os:List Int}{a m m' ob jU PB OY:Nat}{G G':HP}{c:Nat}{pts lU:List V}{G8 c9:Nat→List Int}{rs:List AV}{ids:Nat→Nat}(h:yZ os a m ob jU PB G c pts G8 rs ids){g:Nat}(hg:g<c){v:Int}{TQ k:Nat}{cells:List AV}
    (hn:m≤TQ) (Zj:TQ<m') (hm:m≤m') (hk:(G8 g).length=k) (DL:cells=(G8 g++[v]).map (.i .i64)) (F0:G' TQ=some cells) (XS:G' ob=some (rs.set g (.h TQ 0 (k+1)))) (aS:OY=PB∨(m≤OY∧OY<m')) (AL:TQ≠OY)
    (hF:G' OY=some (lU.map (vi os.length))) (hP:G' jU=some (jO os 0 lU)) (D3:∀i,i<m→i≠ob→i≠PB→i≠jU→(0<k→i≠ids g)→G' i=G i) (fB:∀k',k'<c→c9 k'=if k'=g then G8 g++[v]else G8 k'):
    yZ os a m' ob jU OY G' c lU c9 (rs.set g (.h TQ 0 (k+1))) (fun k=>if k=g then TQ else ids k):=by
  subst DL;have b1:=h.b1;have b2:=h.b2;have mM:=h.t.hi;have n1:=h.n1;have n3:=h.n3;have ht:=h.t.set (m':=m') (f1':=OY) (G':=G') (v:=v) hg hn Zj hm F0 (by rw[hk];exact XS) (aS.imp id fun q=>q.1) b2.2 AL (by rw[hk];exact D3) b1.2;rw[hk]at ht;refine⟨ht.c8 fB,hF,hP,?_,h.n2,?_,?_,by omega⟩
  · rcases aS with q|q
    · rw[q];exact n1
    omega
  · rcases aS with q|q
    · rw[q];exact n3
    omega
  rcases aS with q|q
  · rw[q];omega
  have:=h.t.lo;omega
section
variable(os:List Int)(pw:List (List Int))(cj:List (List (List Int)))
theorem ET(h:AI os pw cj)(a:V)(ha:T (pc os pw cj) 0 a):BG Tryz.prog 84 [A5 os pw cj,vi os.length a] (.i .i64 (KY os a os.length)):=by
 have J4:=h.1.1
 have hb:=fun k hk=>Z9 h.2.1 ha k hk
 have mX:∀k,k≤os.length→OK os k≤OK os os.length:=fun k hk=>by
  have:=bA h.2.1 (k:=k) (os.length-k) (by omega);rwa [show k+(os.length-k)=os.length by omega]at this
 have rM:=h.2.2.1
 refine BG.AM A9 Tryz.func84 rfl (by kernel_rfl) Tryz.ntmps84 Tryz.results84 (.i _ _) (fun nx cX=>?_)
 refine sQ fun N hN=>?_;simp-dsimp-implicitDefEqProofs(maxSteps:=800000) (disch:=omega)only[go_sem,A5,vi,ints,A6];apply hN;refine sQ fun N hN=>?_;simp-dsimp-implicitDefEqProofs(maxSteps:=800000) (disch:=omega)only[go_sem,A5,vi,ints,A6];apply hN;refine AW.seq fun N1 BC=>?_;refine sQ fun N hN=>?_;simp-dsimp-implicitDefEqProofs(maxSteps:=800000) (disch:=omega)only[go_sem,A5,vi,ints,A6];apply hN;apply AW.block;refine AW.AF (α:=Nat) (fun x=>sl 28 [(0,A5 os pw cj),(5,.i .i64 (KY os a x)),(8,vi os.length a),(9,.i .i64 os.length),(10,.i .i64 x)]) (fun _=>BN) (fun x m=>x≤os.length) (fun x=>os.length-x) (0) ?_ ?_ (fun _ _ h=>h) ?_
 ·omega
 ·simp(disch:=omega) [AO,AQ,sl,A5,ints,rows,A4,vi,KY]
 skip
 rintro k m hk
 simp only[A5,vi];simp-dsimp-implicitDefEqProofs(maxSteps:=800000) (disch:=omega)only[go_sem];refine sQ fun N hN=>?_;simp-dsimp-implicitDefEqProofs(maxSteps:=800000) (disch:=omega)only[go_sem,A5,vi,ints,A6];apply hN;refine AW.seq fun N2 BM=>?_;refine AW.cond rfl ?_ ?_<;>intro h1
 ·try simp only[cn]at h1
  have RW:=hb k (by omega);have EX:=hb (k+1) (by omega);have O3:=mX k (by omega);have WW:=mX (k+1) (by omega);have ho:=D0 (h.2.1 k (by omega));have hr:=ha.r k (Nat.zero_le k) (show k<os.length by omega);have lN:(pc os pw cj).o k=os.getD k 0:=rfl;rw[lN]at hr;have hs:KY os a (k+1)=KY os a k*os.getD k 0+a k:=rfl;have U2:0≤KY os a k*os.getD k 0:=Int.mul_nonneg RW.1 (by omega);apply AW.skip;apply BM;refine AW.seq fun N3 BQ=>?_;apply AW.block;refine sQ fun N hN=>?_;simp-dsimp-implicitDefEqProofs(maxSteps:=800000) (disch:=omega)only[go_sem,A5,vi,ints,A6];apply hN;apply rQ;simp-dsimp-implicitDefEqProofs(maxSteps:=800000) (disch:=omega)only[go_sem,A5,vi,ints,A6,←hs]
  apply BQ;apply rQ;simp-dsimp-implicitDefEqProofs(maxSteps:=800000) (disch:=omega)only[go_sem,A5,vi,ints,A6];refine⟨k+1,?_,fun _ _ h=>h,?_,?_⟩
  ·simp(disch:=omega) [AO,AQ,sl,A5,ints,rows,A4,vi]
  ·first|omega|(dsimp only;omega)
  first|omega|(simp only;omega)
 try simp only[cn]at h1
 apply AW.exit;apply BC;refine sQ fun N hN=>?_;simp-dsimp-implicitDefEqProofs(maxSteps:=800000) (disch:=omega)only[go_sem,A5,vi,ints,A6];apply hN;apply AW.ret;simp-dsimp-implicitDefEqProofs(maxSteps:=800000) (disch:=omega)only[go_sem];rw[show k=os.length by omega]
theorem O4(h:AI os pw cj)(us:List V)(hl:us.length≤6)(hu:∀k,k<us.length→F1 os.length (us.getD k z0)<os.length):BG Tryz.prog 43 [A5 os pw cj,B2 os.length us] (.i .i64 (WV os us us.length)):=by
 have J4:=h.1.1
 have hpv:=JB os.length J4 us (by omega) hu
 have By:=CO (n:=os.length) (us:=us)
 refine BG.AM A9 Tryz.func43 rfl (by kernel_rfl) Tryz.ntmps43 Tryz.results43 (.i _ _) (fun nx cX=>?_)
 refine sQ fun N hN=>?_;simp-dsimp-implicitDefEqProofs(maxSteps:=800000) (disch:=omega)only[go_sem,A5,ints,A6];apply hN;refine sQ fun N hN=>?_;simp-dsimp-implicitDefEqProofs(maxSteps:=800000) (disch:=omega)only[go_sem,A5,ints,A6];apply hN;refine AW.seq fun N1 BC=>?_;refine sQ fun N hN=>?_;simp-dsimp-implicitDefEqProofs(maxSteps:=800000) (disch:=omega)only[go_sem,A5,ints,A6];refine AC.pure (.of (hpv)) ?_;try simp-dsimp-implicitDefEqProofs(maxSteps:=800000) (disch:=omega)only[go_sem,A5,ints,A6]
 apply hN;apply AW.block;refine AW.AF (α:=Nat) (fun x=>sl 26 [(0,A5 os pw cj),(5,.i .i64 (WV os us x)),(9,ints (lQ os.length us)),(10,.i .i64 us.length),(11,.i .i64 x)]) (fun _=>BN) (fun x m=>x≤us.length) (fun x=>us.length-x) (0) ?_ ?_ (fun _ _ h=>h) ?_
 ·omega
 ·simp(disch:=omega) [AO,AQ,sl,A5,ints,rows,A4,WV,CO]
 skip
 rintro k m hk
 simp only[A5];simp-dsimp-implicitDefEqProofs(maxSteps:=800000) (disch:=omega)only[go_sem];refine sQ fun N hN=>?_;simp-dsimp-implicitDefEqProofs(maxSteps:=800000) (disch:=omega)only[go_sem,A5,ints,A6];apply hN;refine AW.seq fun N2 BM=>?_;refine AW.cond rfl ?_ ?_<;>intro h1
 ·try simp only[cn]at h1
  have hd:=hu k (by omega);have hg:=DN (n:=os.length) (us:=us) (show k<us.length by omega);obtain⟨d,hde⟩:∃d,F1 os.length (us.getD k z0)=d:=⟨_,rfl⟩;rw[hde]at hd hg;have ho:=D0 (h.2.1 d (by omega));have hb:=pR h.2.1 hu (k+1) (by omega);have h7:(7^(k+1):Nat)≤7^6:=Nat.pow_le_pow_right (by omega) (by omega);have hs:WV os us (k+1)=WV os us k*os.getD d 0:=by rw[←hde];rfl
  apply AW.skip;apply BM;refine AW.seq fun N3 BQ=>?_;apply AW.block;refine sQ fun N hN=>?_;simp-dsimp-implicitDefEqProofs(maxSteps:=800000) (disch:=omega)only[go_sem,A5,ints,A6,hg];apply hN;apply rQ;simp-dsimp-implicitDefEqProofs(maxSteps:=800000) (disch:=omega)only[go_sem,A5,ints,A6,←hs]
  apply BQ;apply rQ;simp-dsimp-implicitDefEqProofs(maxSteps:=800000) (disch:=omega)only[go_sem,A5,ints,A6];refine⟨k+1,?_,fun _ _ h=>h,?_,?_⟩
  ·simp(disch:=omega) [AO,AQ,sl,AJ,ints,rows,A4,A5,ints,A6,AJ]<;>omega
  ·first|omega|(dsimp only;omega)
  first|omega|(simp only;omega)
 try simp only[cn]at h1
 apply AW.exit;apply BC;refine sQ fun N hN=>?_;simp-dsimp-implicitDefEqProofs(maxSteps:=800000) (disch:=omega)only[go_sem,A5,ints,A6];apply hN;apply AW.ret;simp-dsimp-implicitDefEqProofs(maxSteps:=800000) (disch:=omega)only[go_sem];rw[show k=us.length by omega]
end
end Go.Proofs.YtghmeeifjeafmaaGreat
