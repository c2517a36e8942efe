import Derived.Test.YtgknbnkmilddhaaGreatZ17
set_option linter.unusedVariables false
set_option linter.unusedSimpArgs false

namespace Go.Proofs.YtgknbnkmilddhaaGreat
noncomputable def rdw(P:Pc)(x w:V):V:=if x (E4 P.n w)=0 then x else fP P (E4 P.n w) w x
noncomputable def zF(P:Pc)(us:List V)(x:V):V:=us.foldl (rdw P) x
theorem zG{P:Pc}{dn:Nat->Option V}(hd:∀e w,dn e=some w->E4 P.n w=e):∀f e x,qD (fP P) dn f e x=zF P ((List.range' e f).filterMap dn) x:=by
  intro f;induction f with
  |zero=>intro e x;rfl
  | succ f ih=>
    intro e x;rw[qD,ih,List.range'_succ];cases h:dn e with
    |none=>rw[List.filterMap_cons_none h]
    | some w=>
      rw[List.filterMap_cons_some h];unfold zF;rw[List.foldl_cons];unfold rdw;rw[hd e w h]
theorem Qm{P:Pc}{dn:Nat->Option V}(hd:∀e w,dn e=some w->E4 P.n w=e)(x:V):qD (fP P) dn P.n 0 x=zF P (BZ dn P.n) x:=by
  rw[zG hd];unfold BZ;rw[List.range_eq_range']
theorem Qn{rd:Nat->V->V->V}{dn:Nat->Option V}{f:Nat}:∀k e x,(∀i,e<=i->i<e+k->dn i=none)->qD rd dn (f+k) e x=qD rd dn f (e+k) x:=by
  intro k;induction k with
  |zero=>intro e x _;rfl
  | succ k ih=>
    intro e x h;rw[<-Nat.add_assoc,qD,h e (Nat.le_refl _) A0];show qD rd dn (f+k) (e+1) x=_
    rw[ih (e+1) x (λi h1 h2=>h i A0 A0),show e+1+k=e+(k+1) by omega]
theorem sD{dn:Nat->Option V}{d:Nat}{x:V}(h0:∀e,e<=d->dn e=none):∀k,(k<=d->BZ dn k=[])/\(k<=d->BZ (λe=>if e=d then some x else dn e) k=[])/\(d<k->BZ (λe=>if e=d then some x else dn e) k=x::BZ dn k):=by
  intro k;induction k with
  |zero=>exact⟨λ_=>rfl,λ_=>rfl,λh=>A0⟩
  | succ k ih=>
    obtain⟨i1,i2,i3⟩:=ih;refine⟨λh=>?_,λh=>?_,λh=>?_⟩
    · rw[DI (h0 k A0)];exact i1 A0
    · rw[DI (by rw[if_neg A0];exact h0 k A0)];exact i2 A0
    by_cases e:k=d
    · subst e;rw[DH (y:=x) (by rw[if_pos rfl]),i2 (Nat.le_refl _),DI (h0 k (Nat.le_refl _)),i1 (Nat.le_refl _)];rfl
    cases hk:dn k with
    | none=>
      rw[DI (by rw[if_neg e];exact hk),DI hk];exact i3 A0
    | some y=>
      rw[DH (y:=y) (by rw[if_neg e];exact hk),DH hk,i3 A0];rfl
theorem Qo{P:Pc}(hv:GX P)(hc:CG P 0){d:Nat}(hd:d<P.n){w e:V}(hw:T P d w)(h1:w d=1)(he:T P 0 e){q:Nat}(hq:q<=(P.o d-e d).toNat):
    M P 0 e (rep (M P 0) w q) d=(e d+q)%P.o d:=by
  have l:=lvl hv hc;rw[(A1G hv hc hd he ((l.g d).rep hw q)).2,l.F4 hd hw h1,Int.add_emod_emod]
section
variable(os:List Int)(pw:List (List Int))(cj:List (List (List Int)))
set_option maxHeartbeats 1000000 in
theorem I0(h:AF os pw cj)(hc:CG (pc os pw cj) 0)(us:List V)(hl:us.length<=6)(hu:∀k,k<us.length->E4 os.length (us.getD k z0)<os.length/\T (pc os pw cj) (E4 os.length (us.getD k z0)) (us.getD k z0)/\us.getD k z0 (E4 os.length (us.getD k z0))=1)(a:V)(ha:T (pc os pw cj) 0 a):gE Tryz.prog 151 [A5 os pw cj,AZ os.length us,vi os.length a] (vi os.length (zF (pc os pw cj) us a)):=by
 have FU:=h.1.1
 have hv:=h.val
 have hg:=C0 hv hc
 have vE:=(NH os pw cj h 0 hc).1
 have PH:(pc os pw cj).n=os.length:=rfl
 have Ve:(zE os.length us).length=us.length:=FE
 intro nx
 refine BS AA Tryz.func151 rfl A7 Tryz.ntmps151 Tryz.results151 (λcX=>?_)
 refine iS ?_;refine sQ λN hN=>?_;(try simp-dsimp-implicitDefEqProofs(maxSteps:=800000) (disch:=omega)only[go_sem,K7,FE,AL,ints,A5,vi,AZ]);refine(cI a A0 _ _).mono ?_
 rintro m1 H1 r1 (⟨iF,rfl,g1,g2,rfl⟩|⟨h0,rfl,rfl⟩)
 ·skip
  (try simp-dsimp-implicitDefEqProofs(maxSteps:=800000) (disch:=omega)only[go_sem,ints,A5,vi,AZ])
  apply hN;refine AW.seq λN1 B2=>?_;refine Fq (MG os.length FU us A0 (λk hk=>(hu k hk).1)) ?_;apply AW.block;refine A8 (α:=Nat×V) (λx=>sl 34 [(0,A5 os pw cj),(1,AZ os.length us),(7,.h iF 0 os.length),(13,ints (zE os.length us)),(14,.i .i64 us.length),(15,.i .i64 x.1)]) (λx=>AT BM iF (some (D3 os.length x.2))) (λx m=>(x.1<=us.length/\nx<=iF/\iF<m)/\T (pc os pw cj) 0 x.2/\zF (pc os pw cj) (us.drop x.1) x.2=zF (pc os pw cj) us a) (λx=>us.length-x.1) ((0,a)) ?_ ?_ (λ_ _ h=>h) ?_
  ·exact⟨⟨Nat.zero_le _,A9,A9⟩,ha,rfl⟩
  ·simp(disch:=omega) [AN,AO,sl,A5,ints,rows,A6,vi,AZ,FE]
  skip
  rintro⟨k,e⟩ m ⟨⟨hk,rR,hm⟩,he,hI⟩;dsimp only at hk rR hm he hI ⊢;simp only[A5,AZ];refine AG ?_;refine iS ?_;refine AW.seq λN2 B7=>?_;refine AW.cond rfl ?_ ?_<;>intro h1<;>try simp only[cn]at h1
  ·obtain⟨w,hw⟩:∃w,us.getD k z0=w:=⟨_,rfl⟩;obtain⟨d,hd⟩:∃d,E4 os.length w=d:=⟨_,rfl⟩;obtain⟨w1,w2,w3⟩:=hu k A0;rw[hw,hd]at w1 w2 w3;have hwd:E4 os.length (us.getD k z0)=d:=by rw[hw,hd]
   have kU:=w2.mono hv (Nat.zero_le d);have her:=he.r d (Nat.zero_le d) (show d<os.length by omega);have huo:=CE (h.2.1 d w1);have s7:(pc os pw cj).o d=os.getD d 0:=rfl;have Lm:us.drop k=w::us.drop (k+1):=by
    rw[<-hw,List.getD_eq_getElem?_getD,List.getElem?_eq_getElem A0];exact List.drop_eq_getElem_cons A0
   have ER:zF (pc os pw cj) (us.drop k) e=zF (pc os pw cj) (us.drop (k+1)) (rdw (pc os pw cj) e w):=by rw[Lm];rfl
   have ABF:rdw (pc os pw cj) e w=if e d=0 then e else fP (pc os pw cj) d w e:=by unfold rdw;rw[PH,hd]
   have ABG:=λq hq=>Qo hv hc (e:=e) (show d<(pc os pw cj).n from w1) w2 w3 he (q:=q) hq
   apply AW.skip;apply B7;refine AW.seq λN3 BC=>?_;apply AW.block;refine sQ λN hN=>?_;simp-dsimp-implicitDefEqProofs(maxSteps:=800000) (disch:=omega)only[go_sem,K7,FE,AL,ints,A5,vi,AZ,hwd];apply hN;apply AW.block;refine A8 (α:=Nat×V) (λx=>sl 34 [(0,A5 os pw cj),(1,AZ os.length us),(7,.h iF 0 os.length),(8,.i .i64 k),(9,.i .i64 d),(13,ints (zE os.length us)),(14,.i .i64 us.length),(15,.i .i64 k)]) (λx=>AT BM iF (some (D3 os.length x.2))) (λx m=>(x.1<=(os.getD d 0-e d).toNat/\iF<m)/\(e d=0->x.1=0)/\x.2=M (pc os pw cj) 0 e (rep (M (pc os pw cj) 0) w x.1)) (λx=>(os.getD d 0-e d).toNat-x.1) ((0,e)) ?_ ?_ (λ_ _ h=>h) ?_
   ·exact⟨⟨Nat.zero_le _,A9⟩,λ_=>rfl,(hg.r1 he).symm⟩
   ·simp(disch:=omega) [AN,AO,sl,A5,ints,rows,A6,vi,AZ,FE]
   skip
   rintro⟨q,e2⟩ m2 ⟨⟨hq,LN⟩,O0,PQ⟩;dsimp only at hq LN O0 PQ ⊢;simp only[A5,AZ];refine AG ?_;have Vf:=ABG q hq;rw[<-PQ,s7]at Vf;have Fx:T (pc os pw cj) 0 e2:=by rw[PQ];exact hg.cl he (hg.rep kU q)
   refine AW.seq λN4 CF=>?_;refine iS ?_;refine AW.cond rfl ?_ ?_<;>intro h2<;>try simp only[cn]at h2
   ·have AQ:e d≠0:=λh0=>by
     rw[O0 h0,h0]at Vf;simp at Vf;exact h2 Vf
    have C4:q+1<=(os.getD d 0-e d).toNat:=by
     apply Classical.byContradiction;intro hn;have:e d+(q:Int)=os.getD d 0:=A0;rw[this,Int.emod_self]at Vf;exact h2 Vf
    apply AW.skip;apply CF;apply AW.block;apply rQ;simp-dsimp-implicitDefEqProofs(maxSteps:=800000) (disch:=omega)only[go_sem,K7,FE,AL,ints,A5,vi,AZ,E9,hw];refine(vE _ _ iF e2 w (A4 _ _ _) Fx kU).AS ?_;rintro m3 H3 r3 W1 rfl;rw[UN hv Fx kU];(try simp-dsimp-implicitDefEqProofs(maxSteps:=800000) (disch:=omega)only[go_sem,K7,FE,AL,ints,A5,vi,AZ])
    refine⟨(q+1,M (pc os pw cj) 0 e2 w),?_,λ_ _ h=>h,?_,?_⟩
    ·simp(disch:=omega) [AN,AO,sl,A5,AR,ints,rows,A6,vi,AZ]<;>omega
    ·have g3:M (pc os pw cj) 0 e2 w=M (pc os pw cj) 0 e (rep (M (pc os pw cj) 0) w (q+1)):=by rw[PQ,hg.ac he (hg.rep kU q) kU];rfl
     first|exact g3|exact⟨λh0=>absurd h0 AQ,g3⟩|exact⟨⟨A9,A9⟩,λh0=>absurd h0 AQ,g3⟩|exact⟨A9,λh0=>absurd h0 AQ,g3⟩|exact⟨A9,g3⟩
    first|omega|(simp only;omega)
   apply AW.exit;apply BC;apply rQ;simp-dsimp-implicitDefEqProofs(maxSteps:=800000) (disch:=omega)only[go_sem,K7,FE,AL,ints,A5,vi,AZ];refine⟨(k+1,e2),?_,λ_ _ h=>h,?_,?_⟩
   ·simp(disch:=omega) [AN,AO,sl,A5,AR,ints,rows,A6,vi,AZ]<;>omega
   ·have g3:zF (pc os pw cj) (us.drop (k+1)) e2=zF (pc os pw cj) us a:=by
     rw[<-hI,ER,ABF];congr 1
     by_cases h0:e d=0
     ·rw[if_pos h0,PQ,O0 h0];exact hg.r1 he
     rw[if_neg h0,PQ];unfold fP;rw[s7];have hz:e2 d=0:=h2;rw[hz]at Vf;have hqq:q=(os.getD d 0-e d).toNat:=by
      apply Classical.byContradiction;intro hn;have C4:e d+(q:Int)<os.getD d 0:=A0;rw[Int.emod_eq_of_lt A0 C4]at Vf;omega
     rw[hqq]
    first|exact⟨⟨A9,A9,A9⟩,Fx,g3⟩|exact⟨A9,Fx,g3⟩|exact⟨Fx,g3⟩
   first|omega|(simp only;omega)
  apply AW.exit;apply B2;refine iS ?_;refine AH ?_;rw[show k=us.length by omega,List.drop_length]at hI
  have Ao:e=zF (pc os pw cj) us a:=hI;rw[<-Ao];exact Own.vi (A4 _ _ _) A0 A0
 skip
 (try simp-dsimp-implicitDefEqProofs(maxSteps:=800000) (disch:=omega)only[go_sem,ints,A5,vi,AZ])
 apply hN;refine AW.seq λN5 DL=>?_;refine Fq (MG os.length FU us A0 (λk hk=>(hu k hk).1)) ?_;apply AW.block;refine A8 (α:=Nat) (λx=>sl 34 [(0,A5 os pw cj),(1,AZ os.length us),(7,.v 0 []),(13,ints (zE os.length us)),(14,.i .i64 us.length),(15,.i .i64 0)]) (λ_=>BM) (λx m=>True) (λx=>0) (0) ?_ ?_ (λ_ _ h=>h) ?_
 ·trivial
 ·simp(disch:=omega) [AN,AO,sl,A5,ints,rows,A6,vi,AZ,FE]
 skip
 rintro k m hk
 simp only[A5,AZ];refine AG ?_;have Li:us.length=0:=by
  apply Classical.byContradiction;intro hn;have:=(hu 0 A0).1;omega
 refine iS ?_;refine AW.seq λN6 FR=>?_;refine AW.cond rfl ?_ ?_<;>intro h3<;>try simp only[cn]at h3
 ·exfalso;omega
 apply AW.exit;apply DL;refine iS ?_;refine AH ?_;exact Own.vi0 h0
theorem Fy(h:AF os pw cj)(hc:CG (pc os pw cj) 0){t:Nat->Option V}(hG:OW (pc os pw cj) t)(j:Nat)(hj:j<=os.length):∀d z,RM (fP (pc os pw cj)) t os.length j d=some z->os.length-j<=d/\d<os.length/\T (pc os pw cj) d z/\z d=1:=by
  have hv:=h.val;have l:=lvl hv hc;have:=(Fh hv hc (aI hv hc) (l.sbg 0) (t:=t) (λd y hy=>⟨(hG d y hy).1,l.le (Nat.zero_le d) (hG d y hy).2.1,(hG d y hy).2⟩) j hj).1;intro d z hz;obtain⟨a1,a2,a3,a4,a5,_⟩:=this d z hz;exact⟨a1,a2,a4,a5⟩
theorem Qp(h:AF os pw cj)(hc:CG (pc os pw cj) 0){t:Nat->Option V}(hG:OW (pc os pw cj) t)(j:Nat)(hj:j<=os.length):∀k,k<(BZ (RM (fP (pc os pw cj)) t os.length j) os.length).length->E4 os.length ((BZ (RM (fP (pc os pw cj)) t os.length j) os.length).getD k z0)<os.length/\T (pc os pw cj) (E4 os.length ((BZ (RM (fP (pc os pw cj)) t os.length j) os.length).getD k z0)) ((BZ (RM (fP (pc os pw cj)) t os.length j) os.length).getD k z0)/\(BZ (RM (fP (pc os pw cj)) t os.length j) os.length).getD k z0 (E4 os.length ((BZ (RM (fP (pc os pw cj)) t os.length j) os.length).getD k z0))=1:=by
  intro k hk;obtain⟨z,hz⟩:∃z,(BZ (RM (fP (pc os pw cj)) t os.length j) os.length).getD k z0=z:=⟨_,rfl⟩;have hm:z∈BZ (RM (fP (pc os pw cj)) t os.length j) os.length:=by rw[<-hz,List.getD_eq_getElem?_getD,List.getElem?_eq_getElem hk];exact List.getElem_mem _
  obtain⟨d,hd⟩:=Fe hm;obtain⟨a1,a2,a3,a4⟩:=Fy os pw cj h hc hG j hj d z hd;rw[hz,TO a2 a3 a4];exact⟨a2,a3,a4⟩
end
theorem LD{cX n ops y s s1 K}{R0 R1:Prop}(r0:R0)(r1:R1)(q:AW cX Tryz.prog y s1 K)(e:R0->R1->BV ops s s1:=by intro h0 h1 N hN;(try simp-dsimp-implicitDefEqProofs(maxSteps:=800000) (disch:=omega)only[go_sem,Nat.add_sub_cancel,Nat.min_self,ci1,eq_self,JB,AL,ints,DB,GQ,I1,A5,FM,EA,IP,vi,h0,h1]);exact hN):BU cX n ops y s K:=BY q (e r0 r1)
theorem iT{cX n ops s}{K:Exit->St->Prop}{Q:Prop}{R0 R1:Prop}(r0:R0)(r1:R1)(q:Q)(e:R0->R1->Q->DW env Tryz.prog ops s.nx ops 0 ⟨s.t,s.H,s.nx+ops.length⟩ (K .normal):=by intro h0 h1 q;(try simp-dsimp-implicitDefEqProofs(maxSteps:=800000) (disch:=omega)only[go_sem,Nat.add_sub_cancel,Nat.min_self,ci1,eq_self,JB,AL,ints,DB,GQ,I1,A5,FM,EA,IP,vi,h0,h1]);exact q):AW cX Tryz.prog (.region n ops.toArray false) s K:=rQ (e r0 r1 q)
theorem Vg{P Q:Prop}{R0 R1 R2:Prop}(r0:R0)(r1:R1)(r2:R2)(q:Q)(e:R0->R1->R2->Q->P:=by intro h0 h1 h2 q;(try simp-dsimp-implicitDefEqProofs(maxSteps:=800000) (disch:=omega)only[go_sem,List.drop_nil,List.drop_succ_cons,List.drop_zero,List.take_nil,List.take_succ_cons,List.take_zero,Nat.add_sub_cancel,Nat.min_self,ci1,eq_self,JB,AL,BW,BE,BF,ints,DB,GQ,I1,A5,FM,EA,IP,vi,AR,h0,h1,h2]);exact q):P:=e r0 r1 r2 q
theorem Ga{P Q:Prop}{R0 R1:Prop}(r0:R0)(r1:R1)(q:Q)(e:R0->R1->Q->P:=by intro h0 h1 q;(try simp-dsimp-implicitDefEqProofs(maxSteps:=800000) (disch:=omega)only[go_sem,Nat.add_sub_cancel,Nat.min_self,ci1,eq_self,JB,AL,ints,DB,GQ,I1,A5,FM,EA,IP,vi,h0,h1]);exact q):P:=e r0 r1 q
end Go.Proofs.YtgknbnkmilddhaaGreat

namespace Go.Proofs.YtgknbnkmilddhaaGreat
theorem wC{H G:HP}{nx b:Nat}{d:Option (List AV)}(CQ:∀i,nx<=i->H i=none)(hG:∀i,i<nx->G i=H i):Le (AT H b d) (AT G b d):=by
  intro i e hi;by_cases hb:i=b
  · subst hb;rw[A4]at hi ⊢;exact hi
  rw[A1 _ _ hb]at hi ⊢;by_cases hn:i<nx
  · rw[hG i hn];exact hi
  rw[CQ i A0]at hi;cases hi
theorem Gb{H:HP}{id:Nat}{c:Option (List AV)}(h:H id=none):Le H (AT H id c):=by
  intro i e hi;by_cases hb:i=id
  · subst hb;rw[h]at hi;cases hi
  rw[A1 _ _ hb];exact hi
def OwZ(n nx BB:Nat)(H H':HP)(r:AV)(X:List V):Prop:=OwS n nx BB H H' r X\/(X=[]/\r= .nl/\H'=H)
theorem AC.frL{P:Program}{f:FuncId}{nx n:Nat}{H:HP}{xs:List AV}{X:List V}(h:AC P f nx H xs (λBB H' r=>OwZ n nx BB H H' r X)):AC P f nx H xs (λ_ H' r=>r=AZ n X/\H'=H):=by
  refine A17 h.1 λCQ=>⟨h.1,λL Av w us a b c=>(h.2 L Av w us a b c).mono λe w' ⟨u,r,L',BB,H',h1,h2,h3,h4,h5,h6,h7,h8⟩=>?_⟩
  rcases h2 with ⟨id,rfl,i1,i2,rfl⟩|⟨rfl,rfl,rfl⟩
  · have g1:PY (AT H id (some (X.map (vi n)))) (AT (AT H id (some (X.map (vi n)))) id none):=PY.del;have g2:Fz (AT H id (some (X.map (vi n)))) (AT (AT H id (some (X.map (vi n)))) id none) (.h id 0 X.length) (AZ n X):=Fz.CP (A4 _ _ _) AB;have e2:AT (AT H id (some (X.map (vi n)))) id none=H:=by
      funext i
      by_cases q:i=id
      · subst q;rw[A4,CQ i i1]
      rw[A1 _ _ q,A1 _ _ q]
    rw[e2]at g1 g2;exact⟨u,_,L',BB,H,h1,⟨rfl,rfl⟩,h3,h4,h5,h6.fz g1,⟨h7.le,h7.os,h7.tape,h7.output,h7.size,h7.AJ,λb hb hl=>h7.old b hb (g1.lb hl)⟩,g2.sound h6 g1 h8⟩
  have g1:PY H' H':=λq CT hq=>⟨CT,hq,rfl,λk x y h1 h2=>by rw[h1]at h2;cases h2;exact .refl _⟩
  exact⟨u,_,L',BB,H',h1,⟨rfl,rfl⟩,h3,h4,h5,h6,h7,(Fz.nl:Fz H' H' .nl (.v 0 [])).sound h6 g1 h8⟩
theorem GQ:(∀z∈([]:List AV),one z=true)=True:=eq_true λz hz=>by cases hz
theorem I1{n:Nat}{us:List V}:(∀z∈List.map (vi n) us,one z=true)=True:=eq_true λz hz=>by
  obtain⟨a,_,rfl⟩:=List.mem_map.1 hz;rfl
theorem ci1{d:Nat}:((d+1:Nat):Int)-1=(d:Int):=A0
section
variable(os:List Int)(pw:List (List Int))(cj:List (List (List Int)))
theorem JX(hn:os.length<=1000)(nx:Nat)(H:HP):AC Tryz.prog 74 nx H [A5 os pw cj] (λBB H' r=>∃ids GC,r= .q ids 0/\(nx<=GC/\nx<=ids/\ids<BB/\GC<BB/\ids≠GC)/\H'=AT (AT H GC (some (Z4 os.length (λ_=>none)))) ids (some [A5 os pw cj,.h GC 0 os.length])):=by
 refine BA AA Tryz.func74 rfl A7 Tryz.ntmps74 Tryz.results74 (λCQ cX=>?_)
 refine cB ?_;refine cB ?_;refine AH ?_;rw[Qk]
 exact⟨_,Le.refl _,_,_,rfl,⟨A0,A0,A0,A0,A0⟩,rfl⟩
noncomputable def V5(P:Pc)(t:Nat->Option V)(r:Nat):List V:=BZ (RM (fP P) t P.n (P.n-r)) P.n
theorem zH(h:AF os pw cj)(hc:CG (pc os pw cj) 0){t:Nat->Option V}(hG:OW (pc os pw cj) t){d:Nat}(hd:d<os.length):
    (t d=none->V5 (pc os pw cj) t d=V5 (pc os pw cj) t (d+1))/\(∀y,t d=some y->V5 (pc os pw cj) t d=zF (pc os pw cj) (V5 (pc os pw cj) t (d+1)) y::V5 (pc os pw cj) t (d+1)):=by
  have PH:(pc os pw cj).n=os.length:=rfl;obtain⟨j,hj⟩:∃j,os.length-(d+1)=j:=⟨_,rfl⟩;have e1:os.length-d=j+1:=A0;have e2:os.length-1-j=d:=A0;have YT:=Fy os pw cj h hc hG j A0;obtain⟨D,hD⟩:∃D,RM (fP (pc os pw cj)) t os.length j=D:=⟨_,rfl⟩;unfold V5;rw[PH,e1,hj,RM,e2];rw[hD]at YT ⊢;refine⟨λh0=>by rw[h0],λy hy=>?_⟩;rw[hy];dsimp only;have CD:∀e,e<=d->D e=none:=λe he=>by
    cases hq:D e with
    |none=>rfl
    |some z=>have:=(YT e z hq).1;omega
  rw[(sD CD os.length).2.2 hd];congr 1
  have h1:=Qn (rd:=fP (pc os pw cj)) (dn:=D) (f:=j) (d+1) 0 y (λi _ h2=>CD i A0);rw[Nat.zero_add,show j+(d+1)=os.length by omega]at h1;rw[show os.length-j=d+1 by omega,<-h1];exact Qm (P:=pc os pw cj) (λe w he=>by
    obtain⟨a1,a2,a3,a4⟩:=YT e w he;exact TO (P:=pc os pw cj) a2 a3 a4) y
theorem Gc{t:Nat->Option V}:V5 (pc os pw cj) t os.length=[]:=by
  unfold V5;have PH:(pc os pw cj).n=os.length:=rfl;rw[PH,Nat.sub_self];have:∀k,BZ (RM (fP (pc os pw cj)) t os.length 0) k=[]:=by
    intro k;induction k with
    |zero=>rfl
    |succ k ih=>rw[DI (by rfl)];exact ih
  exact this _
set_option maxRecDepth 20000 in
set_option maxHeartbeats 1000000 in
theorem XB(h:AF os pw cj)(hc:CG (pc os pw cj) 0)(t:Nat->Option V)(hG:OW (pc os pw cj) t)(nx:Nat)(H:HP)(ids GC:Nat)(DZ:H ids=some [A5 os pw cj,.h GC 0 os.length])(D9:H GC=some (Z4 os.length t)):AC Tryz.prog 77 nx H [.q ids 0] (λBB H' r=>OwZ os.length nx BB H H' r (V5 (pc os pw cj) t 0)):=by
 have FU:=h.1.1
 have hv:=h.val
 have ER:=λd hd=>zH os pw cj h hc hG (d:=d) hd
 have hR:=λr=>Qp os pw cj h hc hG (os.length-r) (Nat.sub_le _ _)
 have hlen:=λr=>Q9 (dn:=RM (fP (pc os pw cj)) t os.length (os.length-r)) (k:=os.length)
 have A6W:=Gc os pw cj (t:=t)
 obtain⟨W,hW⟩:∃W,V5 (pc os pw cj) t=W:=⟨_,rfl⟩
 have hWe:∀r,BZ (RM (fP (pc os pw cj)) t os.length (os.length-r)) os.length=W r:=λr=>by rw[<-hW];rfl
 simp only[hWe]at hR hlen
 rw[hW]at ER A6W
 refine BA AA Tryz.func77 rfl A7 Tryz.ntmps77 Tryz.results77 (λCQ cX=>?_)
 have ABH:ids<nx:=by
  apply Classical.byContradiction;intro hn;rw[CQ ids A0]at DZ;cases DZ
 have ABI:GC<nx:=by
  apply Classical.byContradiction;intro hn;rw[CQ GC A0]at D9;cases D9
 refine LD DZ D9 ?_;refine LD DZ D9 ?_;refine AW.seq λN1 B2=>?_;refine LD DZ D9 ?_;apply AW.block;refine A8 (α:=Nat×Option Nat) (λx=>sl 42 [(0,.q ids 0),(3,oA x.2 (W x.1).length),(4,.i .i64 ((x.1:Int)-1))]) (λx=>oH H x.2 ((W x.1).map (vi os.length))) (λx m=>(x.1<=os.length/\nx<=m)/\(x.2=none->W x.1=[])/\(∀id,x.2=some id->nx<=id/\id<m)) (λx=>x.1) ((os.length,none)) ?_ ?_ (λ_ _ h=>h) ?_
 ·exact⟨⟨Nat.le_refl _,A9⟩,λ_=>A6W,λid DS=>(by cases DS)⟩
 ·simp(disch:=omega) [AN,AO,sl,oA,AR]<;>omega
 skip
 rintro⟨r,(_|id)⟩ m ⟨⟨hr,hm⟩,QR,DS⟩
 all_goals dsimp only at hr hm QR DS
 all_goals by_cases hb:t (r-1)=none
 ·skip
  dsimp only[oA,oH];have kU:=QR rfl;refine AW.seq λN2 B7=>?_;refine LD DZ D9 ?_;refine AW.cond rfl ?_ ?_<;>intro h1<;>try simp only[cn]at h1
  ·obtain⟨d,rfl⟩:∃d,r=d+1:=⟨r-1,A0⟩;simp only[Nat.add_sub_cancel]at hb;have OR:=V3 hb;have hs:=(ER d A0).1 hb;apply AW.skip;apply B7;refine AW.seq λN3 BC=>?_;apply AW.block;refine LD DZ D9 ?_;refine AW.cond rfl ?_ ?_<;>intro h2<;>try simp only[cn]at h2
   ·first|done|(cases h2)|(exact absurd h2 AB)
   apply AW.skip;apply BC;refine iT DZ D9 ?_;refine⟨(d,none),?_,λ_ _ h=>h,?_,?_⟩
   ·simp(disch:=omega) [AN,AO,sl,oA,AR,hs,kU,Nat.add_comm]<;>omega
   ·exact⟨⟨A9,A9⟩,λ_=>by dsimp only;rw[hs];exact kU,λid DS=>(by cases DS)⟩
   first|omega|(simp only;omega)
  apply AW.exit;apply B2;obtain rfl:r=0:=A0;refine LD DZ D9 ?_;refine AH ?_;rw[hW];exact⟨H,Le.refl _,.inr ⟨kU,rfl,rfl⟩⟩
 ·skip
  dsimp only[oA,oH];have kU:=QR rfl;refine AW.seq λN4 CF=>?_;refine LD DZ D9 ?_;refine AW.cond rfl ?_ ?_<;>intro h3<;>try simp only[cn]at h3
  ·obtain⟨d,rfl⟩:∃d,r=d+1:=⟨r-1,A0⟩;simp only[Nat.add_sub_cancel]at hb;obtain⟨OR,hy⟩:=V4 hb;obtain⟨y,Vd⟩:∃y,(t d).getD z0=y:=⟨_,rfl⟩;rw[Vd]at hy;have hs:=(ER d A0).2 y hy;have zB:=(hG d y hy).2.1.mono hv (Nat.zero_le d);apply AW.skip;apply CF;refine AW.seq λN5 DL=>?_;apply AW.block;refine LD DZ D9 ?_;refine AW.cond rfl ?_ ?_<;>intro h4<;>try simp only[cn]at h4
   ·refine AW.seq λN hN=>?_;refine AM AA A7 12 A7 ?_
    refine Vg DZ D9 Vd ?_;refine((I0 os pw cj h hc [] AB (λk hk=>absurd hk AB) y zB).vi (.cons (.refl _) (.cons .nl (.cons (.refl _) .nil)))).AS ?_;rintro m1 H1 r1 T6 ⟨rfl,rfl⟩;have zI:W d=[zF (pc os pw cj) [] y]:=by rw[hs,kU]
    (refine Ga DZ D9 ?_);apply hN;refine iT DZ D9 ?_;apply DL;refine iT DZ D9 ?_;refine⟨(d,some (m1+3)),?_,(by dsimp only[oH];rw[zI];exact wC CQ (λi hi=>by simp(disch:=omega)only[A1])),?_,?_⟩
    ·simp(disch:=omega) [AN,AO,sl,oA,AR,hs,kU,Nat.add_comm]<;>omega
    ·exact⟨⟨A9,A9⟩,λhh=>(by cases hh),λid DS=>(by cases DS;exact⟨A9,A9⟩)⟩
    first|omega|(simp only;omega)
   first|done|(cases h4)|(exact absurd h4 AB)
  apply AW.exit;apply B2;obtain rfl:r=0:=A0;refine LD DZ D9 ?_;refine AH ?_;rw[hW];exact⟨H,Le.refl _,.inr ⟨kU,rfl,rfl⟩⟩
 ·skip
  dsimp only[oA,oH];obtain⟨i1,i2⟩:=DS id rfl;have kU:=rfl (a:=0);refine AW.seq λN6 FR=>?_;refine LD DZ D9 ?_;refine AW.cond rfl ?_ ?_<;>intro h5<;>try simp only[cn]at h5
  ·obtain⟨d,rfl⟩:∃d,r=d+1:=⟨r-1,A0⟩;simp only[Nat.add_sub_cancel]at hb;have OR:=V3 hb;have hs:=(ER d A0).1 hb;apply AW.skip;apply FR;refine AW.seq λN7 MV=>?_;apply AW.block;refine LD DZ D9 ?_;refine AW.cond rfl ?_ ?_<;>intro h6<;>try simp only[cn]at h6
   ·first|done|(cases h6)|(exact absurd h6 AB)
   apply AW.skip;apply MV;refine iT DZ D9 ?_;refine⟨(d,some id),?_,(by dsimp only[oH];rw[hs];exact Le.refl _),?_,?_⟩
   ·simp(disch:=omega) [AN,AO,sl,oA,AR,hs,kU,Nat.add_comm]<;>omega
   ·exact⟨⟨A9,A9⟩,λhh=>(by cases hh),λid' ABJ=>(by cases ABJ;exact⟨A9,A9⟩)⟩
   first|omega|(simp only;omega)
  apply AW.exit;apply B2;obtain rfl:r=0:=A0;refine LD DZ D9 ?_;refine AH ?_;rw[hW];exact⟨_,Le.refl _,.inl ⟨id,rfl,i1,A0,rfl⟩⟩
 skip
 dsimp only[oA,oH]
 obtain⟨i1,i2⟩:=DS id rfl
 have kU:=rfl (a:=0)
 refine AW.seq λN8 OB=>?_;refine LD DZ D9 ?_;refine AW.cond rfl ?_ ?_<;>intro h7<;>try simp only[cn]at h7
 ·obtain⟨d,rfl⟩:∃d,r=d+1:=⟨r-1,A0⟩;simp only[Nat.add_sub_cancel]at hb;obtain⟨OR,hy⟩:=V4 hb;obtain⟨y,Vd⟩:∃y,(t d).getD z0=y:=⟨_,rfl⟩;rw[Vd]at hy;have hs:=(ER d A0).2 y hy;have zB:=(hG d y hy).2.1.mono hv (Nat.zero_le d);have hl9:=hlen (d+1);apply AW.skip;apply OB;refine AW.seq λN9 SC=>?_;apply AW.block;refine LD DZ D9 ?_;refine AW.cond rfl ?_ ?_<;>intro h8<;>try simp only[cn]at h8
  ·refine AW.seq λN hN=>?_;refine AM AA A7 12 A7 ?_
   refine Vg DZ D9 Vd ?_;refine((I0 os pw cj h hc (W (d+1)) A0 (λk hk=>hR (d+1) k hk) y zB).vi (.cons (.refl _) (.cons (Vw.CP (A4 _ _ _) (List.length_map _).symm) (.cons (.refl _) .nil)))).AS ?_;rintro m1 H1 r1 T6 ⟨rfl,rfl⟩;refine Ga DZ D9 ?_
   apply hN;refine iT DZ D9 ?_;apply SC;refine iT DZ D9 ?_;refine⟨(d,some (m1+3)),?_,(by dsimp only[oH];rw[hs];exact wC CQ (λi hi=>by simp(disch:=omega)only[A1])),?_,?_⟩
   ·simp(disch:=omega) [AN,AO,sl,oA,AR,hs,kU,Nat.add_comm]<;>omega
   ·exact⟨⟨A9,A9⟩,λhh=>(by cases hh),λid DS=>(by cases DS;exact⟨A9,A9⟩)⟩
   first|omega|(simp only;omega)
  first|done|(cases h8)|(exact absurd h8 AB)
 apply AW.exit;apply B2;obtain rfl:r=0:=A0
 refine LD DZ D9 ?_;refine AH ?_;rw[hW];exact⟨_,Le.refl _,.inl ⟨id,rfl,i1,A0,rfl⟩⟩
theorem M7(h:AF os pw cj)(hc:CG (pc os pw cj) 0)(t:Nat->Option V)(hG:OW (pc os pw cj) t)(nx:Nat)(H:HP)(ids GC:Nat)(DZ:H ids=some [A5 os pw cj,.h GC 0 os.length])(D9:H GC=some (Z4 os.length t)):AC Tryz.prog 77 nx H [.q ids 0] (λ_ H' r=>r=AZ os.length (V5 (pc os pw cj) t 0)/\H'=H):=
  (XB os pw cj h hc t hG nx H ids GC DZ D9).frL
end
end Go.Proofs.YtgknbnkmilddhaaGreat
