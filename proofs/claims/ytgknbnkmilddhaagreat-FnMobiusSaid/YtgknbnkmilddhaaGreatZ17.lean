import Derived.Test.YtgknbnkmilddhaaGreatZ13
import Derived.Test.YtgknbnkmilddhaaGreatZ15
import Derived.Test.YtgknbnkmilddhaaGreatZ16
set_option linter.unusedVariables false
set_option linter.unusedSimpArgs false

namespace Go.Proofs.YtgknbnkmilddhaaGreat
noncomputable def Qf(P:Pc)(z y:V):V:=M P 0 (inv P 0 z) (M P 0 (inv P 0 y) (M P 0 z y))
noncomputable def QB(P:Pc)(t:Nat->Option V)(y:V):Nat->List V
  |0=>[]
  | e+1=>match t e with
    |none=>QB P t y e
    |some z=>QB P t y e++[Qf P z y]
noncomputable def RN(P:Pc)(t:Nat->Option V)(x:V):Nat×V:=JA (W3 P) t P.n P.n x
noncomputable def kS(P:Pc)(t:Nat->Option V)(q:List V)(s:Nat×V):(Nat->Option V)×List V:=
  if s.1=P.n then (t,q)else (oset t s.1 (V1 P s),q++[s.2]++[RK P (V1 P s) (P.o s.1)]++QB P t (V1 P s) P.n)
noncomputable def zD(P:Pc):Nat->(Nat->Option V)->List V->Nat->Option V
  |0,t,_=>t
  |f+1,t,w=>if w.length=0 then t else zD P f (kS P t (w.drop 1) (RN P t (w.getD 0 z0))).1 (kS P t (w.drop 1) (RN P t (w.getD 0 z0))).2
section
variable{P:Pc}(hv:GX P)(hc:CG P 0)
theorem oD{t:Nat->Option V}{y:V}:∀e,(QB P t y e).length<=e:=by
  intro e;induction e with
  |zero=>exact Nat.le_refl _
  | succ e ih=>
    rw[QB];split
    · omega
    rw[List.length_append];simp;omega
theorem dF{t:Nat->Option V}{y:V}:∀k v,v∈QB P t y k↔∃e z,e<k/\t e=some z/\v=Qf P z y:=by
  intro k;induction k with
  |zero=>intro v;rw[QB];exact⟨λh=>(by cases h),λ⟨e,z,h,_⟩=> A0⟩
  | succ k ih=>
    intro v;rw[QB];split
    · rename_i hk;rw[ih v];constructor
      · rintro⟨e,z,h1,h3,h4⟩;exact⟨e,z,A0,h3,h4⟩
      rintro⟨e,z,h1,h3,h4⟩;refine⟨e,z,?_,h3,h4⟩;rcases Nat.lt_or_ge e k with q|q
      · exact q
      rw[show e=k by omega,hk]at h3;cases h3
    rename_i w hk;rw[List.mem_append,ih v,List.mem_singleton];constructor
    · rintro(⟨e,z,h1,h3,h4⟩|h)
      · exact⟨e,z,A0,h3,h4⟩
      exact⟨k,w,A0,hk,h⟩
    rintro⟨e,z,h1,h3,h4⟩;rcases Nat.lt_or_ge e k with q|q
    · exact .inl ⟨e,z,q,h3,h4⟩
    obtain rfl:e=k:=A0;rw[hk]at h3;cases h3;exact .inr h4
include hv hc
theorem Vb{y z:V}(hy:T P 0 y)(hz:T P 0 z):T P 0 (Qf P z y):=by
  have g:=C0 hv hc;exact g.cl (EK g hz).1 (g.cl (EK g hy).1 (g.cl hz hy))
theorem Fo{y z:V}(hy:T P 0 y)(hz:T P 0 z):Cm (M P 0) y z (Qf P z y):=by
  have g:=C0 hv hc;right
  obtain⟨y1,y2⟩:=EK g hy;obtain⟨z1,z2⟩:=EK g hz;have n1:=g.cl hz hy;unfold Qf;rw[g.ac hy hz (g.cl z1 (g.cl y1 n1)),<-g.ac hz z1 (g.cl y1 n1),z2,g.l1 (g.cl y1 n1),<-g.ac hy y1 n1,y2,g.l1 n1]
theorem XA{t:Nat->Option V}(hG:OW P t){x:V}(hx:T P 0 x):(RN P t x).1<=P.n/\T P (RN P t x).1 (RN P t x).2/\((RN P t x).1<P.n->t (RN P t x).1=none/\(RN P t x).2 (RN P t x).1≠0):=by
  have l:=lvl hv hc;have h1:=dA (rd:=W3 P) (t:=t) P.n (Nat.le_refl _) x;have h2:=kP l (t:=t) (rd:=W3 P) (λd y x h1 h2 h3=>QA hv hc d y x h1 (hG d y h2).2.1 (hG d y h2).2.2 h3) P.n (Nat.le_refl _) x (by rw[Nat.sub_self];exact hx);unfold RN;rcases h1 with h1|⟨h3,h4,h5,h6⟩
  · exact⟨A0,h2,λh=>A0⟩
  exact⟨A0,h2,λ_=>⟨h5,h6⟩⟩
theorem vW{t:Nat->Option V}(hG:OW P t){q:List V}{x:V}(hx:T P 0 x):aG P (kS P t q (RN P t x)).1 (kS P t q (RN P t x)).2<OG t P.n*(P.n+3)+(q.length+1):=by
  obtain⟨i2,i3,i4⟩:=XA hv hc hG hx;obtain⟨s,hs⟩:∃s,RN P t x=s:=⟨_,rfl⟩;rw[hs]at i2 i3 i4 ⊢;unfold aG kS;split
  · dsimp only;omega
  rename_i AQ;obtain⟨j1,j2⟩:=i4 A0;have h2:=(vR (y:=V1 P s) j1 P.n).2 A0;have h3:=oD (P:=P) (t:=t) (y:=V1 P s) P.n;dsimp only;rw[<-h2,Nat.add_mul,Nat.one_mul];simp only[List.length_append,List.length_cons,List.length_nil];omega
variable(hp:∀d,d<P.n->JG (P.o d)){us:V->Prop}
include hp
theorem vX{t:Nat->Option V}(hG:OW P t){q:List V}(hq:∀x∈q,T P 0 x){x:V}(hx:T P 0 x):OW P (kS P t q (RN P t x)).1/\∀z∈(kS P t q (RN P t x)).2,T P 0 z:=by
  obtain⟨i2,i3,i4⟩:=XA hv hc hG hx;obtain⟨s,hs⟩:∃s,RN P t x=s:=⟨_,rfl⟩;rw[hs]at i2 i3 i4 ⊢;unfold kS;split
  · exact⟨hG,hq⟩
  rename_i AQ;obtain⟨j1,j2⟩:=i4 A0;obtain⟨y1,y2⟩:=cY hv hc hp A0 i3 j2;have oB:=y1.mono hv (Nat.zero_le _);refine⟨λd z hz=>?_,λz hz=>?_⟩
  · dsimp only at hz;unfold oset at hz;split at hz
    · rename_i e;subst e;cases hz;exact⟨A0,y1,y2⟩
    exact hG d z hz
  dsimp only at hz;rcases List.mem_append.1 hz with h|h
  · rcases List.mem_append.1 h with h|h
    · rcases List.mem_append.1 h with h|h
      · exact hq z h
      rw[List.mem_singleton.1 h];exact i3.mono hv (Nat.zero_le _)
    rw[List.mem_singleton.1 h];exact nX hv hc oB _
  obtain⟨e,w,_,e3,rfl⟩:=(dF _ _).1 h;exact Vb hv hc oB ((hG e w e3).2.1.mono hv (Nat.zero_le _))
theorem Qg{t:Nat->Option V}{q:List V}{x:V}(hG:OW P t)(h:Inv P.n P.o (T P) (M P 0) (W3 P) us t (λv=>v∈x::q)):
    Inv P.n P.o (T P) (M P 0) (W3 P) us (kS P t q (RN P t x)).1 (λv=>v∈(kS P t q (RN P t x)).2):=by
  have l:=lvl hv hc;have cZ:x∈x::q:=List.mem_cons_self;have hx:T P 0 x:=h.wn x cZ;obtain⟨i2,i3,i4⟩:=XA hv hc hG hx;obtain⟨s,hs⟩:∃s,RN P t x=s:=⟨_,rfl⟩;have hsf:s=JA (W3 P) t P.n P.n x:=hs.symm;rw[hs]at i2 i3 i4 ⊢;unfold kS;split
  · rename_i h1;refine h.drop l SH (QA hv hc) cZ (by rw[<-hsf];exact h1) (λv hw=>?_) (λv hw=>List.mem_cons_of_mem _ hw);exact List.mem_cons.1 hw
  rename_i AQ;have hd:s.1<P.n:=A0;obtain⟨j1,j2⟩:=i4 hd;obtain⟨y1,y2⟩:=cY hv hc hp hd i3 j2;have oB:=y1.mono hv (Nat.zero_le _);have hs0:=i3.mono hv (Nat.zero_le _);have ho:=l.op hd;have tZ:RK P (V1 P s) (P.o s.1)=rep (M P 0) (V1 P s) (P.o s.1).toNat:=by unfold RK;rw[if_neg A0]
  dsimp only;rw[tZ];refine Inv.add l (QA hv hc) h cZ (d:=s.1) (r:=s.2) (y:=V1 P s) (by rw[<-hsf]) hd y1 y2 (Cy.pw hv hc hs0 _) (λv hw=>?_) ?_ ?_ (λe z h1 h2=>?_) (λv hw=>?_)
  · rcases List.mem_cons.1 hw with q|q
    · exact .inl q
    exact .inr (by simp[q])
  · simp
  · simp
  · refine⟨Qf P z (V1 P s),?_,Fo hv hc oB ((hG e z h2).2.1.mono hv (Nat.zero_le _))⟩;exact List.mem_append.2 (.inr ((dF _ _).2 ⟨e,z,(hG e z h2).1,h2,rfl⟩))
  rcases List.mem_append.1 hw with q|q
  · rcases List.mem_append.1 q with q|q
    · rcases List.mem_append.1 q with q|q
      · exact .inl (List.mem_cons_of_mem _ q)
      exact .inr (.inl (List.mem_singleton.1 q))
    exact .inr (.inr (.inl (List.mem_singleton.1 q)))
  obtain⟨e,z,e1,e3,rfl⟩:=(dF _ _).1 q;have hz:=(hG e z e3).2.1.mono hv (Nat.zero_le _);exact .inr (.inr (.inr ⟨e,z,e3,Fo hv hc oB hz,Vb hv hc oB hz⟩))
theorem vY:∀(f:Nat) (t:Nat->Option V) (w:List V),OW P t->Inv P.n P.o (T P) (M P 0) (W3 P) us t (λv=>v∈w)->aG P t w<=f->
    Inv P.n P.o (T P) (M P 0) (W3 P) us (zD P f t w) (λ_=>False):=by
  have nl:∀(t:Nat->Option V) (w:List V),w.length=0->Inv P.n P.o (T P) (M P 0) (W3 P) us t (λv=>v∈w)->Inv P.n P.o (T P) (M P 0) (W3 P) us t (λ_=>False):=by
    intro t w hw h;have e:w=[]:=List.eq_nil_of_length_eq_zero hw;subst e;have e2:(λv:V=>v∈([]:List V))=λ_=>False:=by funext v;simp
    rw[e2]at h;exact h
  intro f;induction f with
  | zero=>
    intro t w hG h hM;rw[zD];refine nl t w ?_ h;unfold aG at hM;omega
  | succ f ih=>
    intro t w hG h hM;rw[zD];split
    · rename_i hw;exact nl t w hw h
    rename_i hw;cases w with
    |nil=>exact absurd rfl hw
    | cons x q=>
      have Qb:T P 0 x:=h.wn _ List.mem_cons_self;have dD:=vW hv hc hG (q:=q) Qb;show Inv P.n P.o (T P) (M P 0) (W3 P) us (zD P f (kS P t q (RN P t x)).1 (kS P t q (RN P t x)).2) _
      refine ih _ _ (vX hv hc hp hG (λz hz=>h.wn z (List.mem_cons_of_mem _ hz)) Qb).1 (Qg hv hc hp hG h) ?_;unfold aG at hM;rw[List.length_cons]at hM;omega
theorem Vc:∀(f:Nat) (t:Nat->Option V) (w:List V),OW P t->(∀x∈w,T P 0 x)->OW P (zD P f t w):=by
  intro f;induction f with
  |zero=>intro t w hG _;exact hG
  | succ f ih=>
    intro t w hG hw;rw[zD];split
    · exact hG
    rename_i AQ;cases w with
    |nil=>exact absurd rfl AQ
    | cons x q=>
      obtain⟨g1,g2⟩:=vX hv hc hp hG (λz hz=>hw z (List.mem_cons_of_mem _ hz)) (hw x List.mem_cons_self);exact ih _ _ g1 g2
noncomputable def tbI(P:Pc)(us:List V):Nat->Option V:=zD P (aG P (λ_=>none) us) (λ_=>none) us
theorem A6S{us:List V}(hu:∀x∈us,T P 0 x):OW P (tbI P us):=Vc hv hc hp _ _ us (λd y h=>by cases h) hu
theorem vZ{us:List V}(hu:∀x∈us,T P 0 x):W2 P.n P.o (T P) (M P 0) (tbI P us)/\∀x,Sg (T P 0) (M P 0) (tbI P us) P.n P.n x↔iR (T P 0) (M P 0) (λv=>v∈us) x:=
  (vY hv hc hp _ _ us (λd y h=>by cases h) (Inv.start (W:=λv=>v∈us) hu) (Nat.le_refl _)).fin (lvl hv hc) SH (QA hv hc)
noncomputable def fP(P:Pc)(e:Nat)(w x:V):V:=M P 0 x (rep (M P 0) w (P.o e-x e).toNat)
omit hp in
theorem aI:∀e w x,e<P.n->T P e w->w e=1->T P 0 x->∃u,Cy (T P 0) (M P 0) w u/\T P e u/\fP P e w x=M P 0 x u/\(x e+u e)%P.o e=0:=by
  intro e w x he hw h1 hx;have l:=lvl hv hc;have hr:=hx.r e (Nat.zero_le e) he;refine⟨rep (M P 0) w (P.o e-x e).toNat,Cy.rep w _,(l.g e).rep hw _,rfl,?_⟩;rw[l.F4 he hw h1,Int.toNat_of_nonneg A0,Int.add_emod_emod,show x e+(P.o e-x e)=P.o e by omega,Int.emod_self]
noncomputable def dnI(P:Pc)(us:List V)(j:Nat):Nat->Option V:=RM (fP P) (tbI P us) P.n j
theorem Qh{us:List V}(hu:∀x∈us,T P 0 x):Z2 P (iR (T P 0) (M P 0) (λv=>v∈us)) (dnI P us P.n):=by
  obtain⟨c,hs⟩:=vZ hv hc hp hu;have l:=lvl hv hc;have e:Sg (T P 0) (M P 0) (tbI P us) P.n P.n=iR (T P 0) (M P 0) (λv=>v∈us):=funext λx=>propext (hs x)
  have h:=kR hv hc (aI hv hc) l c (c.sub l (Nat.le_refl _));rw[e]at h;exact h
theorem w9{us:List V}(hu:∀x∈us,T P 0 x):E5 (T P 0) (M P 0) (iR (T P 0) (M P 0) (λv=>v∈us)):=by
  obtain⟨c,hs⟩:=vZ hv hc hp hu;have e:Sg (T P 0) (M P 0) (tbI P us) P.n P.n=iR (T P 0) (M P 0) (λv=>v∈us):=funext λx=>propext (hs x)
  rw[<-e];exact c.sub (lvl hv hc) (Nat.le_refl _)
theorem Fp{us:List V}(hu:∀x∈us,T P 0 x):BZ (dnI P us P.n) P.n=RL P us:=
  dE λd hd=>Z2.uniq hv hc (w9 hv hc hp hu) (Qh hv hc hp hu) (vV hv hc hp hu) hd
end
theorem V2{P Q:Prop}{R0 R1:Prop}(r0:R0)(r1:R1)(q:Q)(e:R0->R1->Q->P:=by intro h0 h1 q;(try simp-dsimp-implicitDefEqProofs(maxSteps:=800000) (disch:=omega)only[go_sem,eq_self,JB,AL,ints,DB,A5,FM,EA,vi,h0,h1]);exact q):P:=e r0 r1 q
theorem oE{cX n ops y s s1 K}{R0 R1:Prop}(r0:R0)(r1:R1)(q:AW cX Tryz.prog y s1 K)(e:R0->R1->BV ops s s1:=by intro h0 h1 N hN;(try simp-dsimp-implicitDefEqProofs(maxSteps:=800000) (disch:=omega)only[go_sem,eq_self,JB,AL,ints,DB,A5,FM,EA,vi,h0,h1]);exact hN):BU cX n ops y s K:=BY q (e r0 r1)
theorem iS{cX n ops y s s1 K}(q:AW cX Tryz.prog y s1 K)(e:BV ops s s1:=by intro N hN;(try simp-dsimp-implicitDefEqProofs(maxSteps:=800000) (disch:=omega)only[go_sem,K7,FE,AL,ints,A5,vi,AZ]);exact hN):BU cX n ops y s K:=BY q e
theorem Fq{cX n ops y s s1 K f Zz r}(x:BI Tryz.prog f Zz r)(q:AW cX Tryz.prog y s1 K)(e:BI Tryz.prog f Zz r->BV ops s s1:=by intro x N hN;(try simp-dsimp-implicitDefEqProofs(maxSteps:=800000) (disch:=omega)only[go_sem,K7,FE,AL,ints,A5,vi,AZ]);refine AC.pure (.of x) ?_;(try simp-dsimp-implicitDefEqProofs(maxSteps:=800000) (disch:=omega)only[go_sem,K7,FE,AL,ints,A5,vi,AZ]);exact hN):BU cX n ops y s K:=BY q (e x)
end Go.Proofs.YtgknbnkmilddhaaGreat

namespace Go.Proofs.YtgknbnkmilddhaaGreat
def qE(os:List Int)(dn:Nat->Option V):Nat->Int
  |0=>1
  | k+1=>match dn k with
    |none=>qE os dn k
    |some _=>qE os dn k*os.getD k 0
theorem TO{n:Nat}{P:Pc}{d:Nat}{y:V}(hd:d<n)(hT:T P d y)(h1:y d=1):E4 n y=d:=by
  obtain⟨a1,a2,a3,a4⟩:=X5 (x:=y) n 0;unfold E4;rcases Nat.lt_trichotomy (YC y n 0) d with h|h|h
  · exact absurd (hT.z _ h) (a4 A0)
  · exact h
  have:=a3 d (Nat.zero_le d) h;omega
theorem Qi{os:List Int}{us vs:List V}:∀k,k<=us.length->NJ os (us++vs) k=NJ os us k:=by
  intro k;induction k with
  |zero=>intro _;rfl
  | succ k ih=>
    intro hk;rw[NJ,NJ,ih A0];simp only[List.getD_eq_getElem?_getD];rw[List.getElem?_append_left A0]
theorem Fs{os:List Int}{P:Pc}{dn:Nat->Option V}(hd:∀d y,dn d=some y->T P d y/\y d=1):∀k,k<=os.length->NJ os (BZ dn k) (BZ dn k).length=qE os dn k:=by
  intro k;induction k with
  |zero=>intro _;rfl
  | succ k ih=>
    intro hk;rw[qE];cases h:dn k with
    |none=>rw[DI h];exact ih A0
    | some y=>
      rw[DH h,List.length_append];show NJ os (BZ dn k++[y]) ((BZ dn k).length+1)=qE os dn k*os.getD k 0
      rw[NJ,Qi _ (Nat.le_refl _),ih A0];have e:(BZ dn k++[y]).getD (BZ dn k).length z0=y:=by
        simp only[List.getD_eq_getElem?_getD];rw[List.getElem?_append_right (Nat.le_refl _),Nat.sub_self];rfl
      rw[e,TO A0 (hd k y h).1 (hd k y h).2]
theorem A1I{os:List Int}{dn:Nat->Option V}(hp:∀i,i<os.length->JG (os.getD i 0)):∀k,k<=os.length->1<=qE os dn k/\qE os dn k<=CV os k/\(qE os dn k=CV os k↔(BZ dn k).length=k):=by
  intro k;induction k with
  |zero=>intro _;exact⟨by simp[qE],by simp[qE,CV],by simp[qE,CV,BZ]⟩
  | succ k ih=>
    intro hk;obtain⟨i1,i2,i3⟩:=ih A0;have ho:=CE (hp k A0);have hl:=Q9 (dn:=dn) (k:=k);rw[qE,CV];cases h:dn k with
    | none=>
      rw[DI h];have h2:CV os k*2<=CV os k*os.getD k 0:=Int.mul_le_mul_of_nonneg_left A0 A0;exact⟨i1,by dsimp only;omega,⟨λq=>by dsimp only at q;omega,λq=>A0⟩⟩
    | some y=>
      rw[DH h,List.length_append];dsimp only;have h1:qE os dn k*os.getD k 0<=CV os k*os.getD k 0:=Int.mul_le_mul_of_nonneg_right i2 A0;have h2:1*1<=qE os dn k*os.getD k 0:=Int.mul_le_mul i1 A0 A0 A0;refine⟨A0,h1,?_⟩;constructor
      · intro q;have:qE os dn k=CV os k:=Int.eq_of_mul_eq_mul_right A0 q;have:=i3.1 this;simp;omega
      intro q;have:(BZ dn k).length=k:=by simp at q;omega
      rw[i3.2 this]
section
variable(os:List Int)(pw:List (List Int))(cj:List (List (List Int)))
theorem Ft(h:AF os pw cj)(hc:CG (pc os pw cj) 0){us:List V}(hu:∀x∈us,T (pc os pw cj) 0 x):NJ os (RL (pc os pw cj) us) (RL (pc os pw cj) us).length=qE os (Aq (pc os pw cj) os.length (tbS (pc os pw cj) us) os.length) os.length:=by
  have hG:=A1D h.val hc (λd hd=>h.2.1 d hd) (aG (pc os pw cj) (λ_=>none) us) (λ_=>none) us (λd y hy=>by cases hy) hu;have hD:=A6O h.val hc (λd hd=>h.2.1 d hd) hG (pc os pw cj).n (Nat.le_refl _);exact Fs (os:=os) (P:=pc os pw cj) (dn:=Aq (pc os pw cj) os.length (tbS (pc os pw cj) us) os.length) (λd y hy=>(hD d y hy).2) os.length (Nat.le_refl _)
theorem Fu(h:AF os pw cj)(hc:CG (pc os pw cj) 0){us:List V}(hu:∀x∈us,T (pc os pw cj) 0 x):NJ os (RL (pc os pw cj) us) (RL (pc os pw cj) us).length=CV os os.length↔(RL (pc os pw cj) us).length=os.length:=by
  rw[Ft os pw cj h hc hu];exact(A1I (dn:=Aq (pc os pw cj) os.length (tbS (pc os pw cj) us) os.length) h.2.1 os.length (Nat.le_refl _)).2.2
end
end Go.Proofs.YtgknbnkmilddhaaGreat

namespace Go.Proofs.YtgknbnkmilddhaaGreat
section
variable{s b:Nat}{z:Value}{q:Bool}{o:Nat}{cs:List AV}{k:AV->Prop}
theorem A1J{t:TypeId}:Bj ⟨.slice t,s,b,z,q⟩ o cs k=(o<cs.length/\k (cs.getD o .j)):=by unfold Bj;simp[TE.agg]
theorem A1K{t:IntKind}:Bj ⟨.int t,s,b,z,q⟩ o cs k=(o<cs.length/\k (cs.getD o .j)):=by unfold Bj;simp[TE.agg]
theorem A1L:Bj ⟨.other,s,b,z,q⟩ o cs k=(o<cs.length/\k (cs.getD o .j)):=by unfold Bj;simp[TE.agg]
end
attribute [go_sem ↓] A1J A1K A1L
theorem L8(n:Nat)(hn:n<=1048576)(f:V):BI Tryz.prog 149 [vi n f] (.i .i64 (E4 n f)):=by
 refine AD AA Tryz.func149 rfl A7 Tryz.ntmps149 Tryz.results149 (.i _ _) (λnx cX=>?_)
 refine HU ?_;refine AW.seq λN1 B2=>?_;refine HU ?_;apply AW.block;refine A8 (α:=Nat) (λx=>sl 18 [(0,vi n f),(5,vi n f),(6,.i .i64 n),(7,.i .i64 x)]) (λ_=>BM) (λx m=>x<=n/\YC f (n-x) x=E4 n f) (λx=>n-x) (0) ?_ ?_ (λ_ _ h=>h) ?_
 ·exact⟨A0,rfl⟩
 ·simp(disch:=omega) [AN,AO,sl,vi]
 skip
 rintro k m ⟨hk,hI⟩
 refine AG ?_;refine HU ?_;refine AW.seq λN2 B7=>?_;refine AW.cond rfl ?_ ?_<;>intro h1<;>try simp only[cn]at h1
 ·have hs:YC f (n-k) k=if f k=0 then YC f (n-(k+1)) (k+1)else k:=by
   obtain⟨q,hq⟩:∃q,n-k=q+1:=⟨n-k-1,A0⟩;rw[hq,YC,show n-(k+1)=q by omega]
  apply AW.skip;apply B7;refine AW.seq λN3 BC=>?_;apply AW.block;refine HU ?_;refine HU ?_;refine AW.cond rfl ?_ ?_<;>intro h2<;>try simp only[cn]at h2
  ·refine HU ?_;refine AH ?_;rw[<-hI,hs,if_neg h2]
  apply AW.skip;apply BC;apply rQ;simp-dsimp-implicitDefEqProofs(maxSteps:=800000) (disch:=omega)only[go_sem,vi];refine⟨k+1,?_,λ_ _ h=>h,?_,?_⟩
  ·simp(disch:=omega) [AN,AO,sl,AR,ints,rows,A6,AR,vi]<;>omega
  ·exact⟨A0,by rw[<-hI,hs,if_pos h2]⟩
  first|omega|(simp only;omega)
 apply AW.exit;apply B2;refine HU ?_;refine AH ?_;rw[<-hI,show n-k=0 by omega,YC,show k=n by omega]
theorem Z3(a:Int):BI Tryz.prog 211 [.i .i64 a] (.b (a !=0)):=by
 refine AD AA Tryz.func211 rfl A7 Tryz.ntmps211 Tryz.results211 (.b _) (λnx cX=>?_)
 refine B8 ?_;refine B8 ?_;apply AW.ret;simp-dsimp-implicitDefEqProofs(maxSteps:=800000) (disch:=omega)only[go_sem];skip
theorem LA(n:Nat)(f:V)(hn:n<=1048576)(hd:E4 n f<n):BI Tryz.prog 210 [vi n f,.f 211 []] (.i .i64 (E4 n f)):=by
 have qB:=(X5 (x:=f) n 0).2.2.2 (by unfold E4 at hd;omega)
 refine AD AA Tryz.func210 rfl A7 Tryz.ntmps210 Tryz.results210 (.i _ _) (λnx cX=>?_)
 refine HU ?_;refine AW.seq λN1 B2=>?_;refine HU ?_;apply AW.block;refine A8 (α:=Nat) (λx=>sl 19 [(0,vi n f),(1,.f 211 []),(7,.i .i64 n),(8,.i .i64 x)]) (λ_=>BM) (λx m=>x<=n/\YC f (n-x) x=E4 n f) (λx=>n-x) (0) ?_ ?_ (λ_ _ h=>h) ?_
 ·exact⟨A0,rfl⟩
 ·simp(disch:=omega) [AN,AO,sl,vi]
 skip
 rintro k m ⟨hk,hI⟩
 refine AG ?_;refine HU ?_;refine AW.seq λN2 B7=>?_;refine AW.cond rfl ?_ ?_<;>intro h1<;>try simp only[cn]at h1
 ·have hs:YC f (n-k) k=if f k=0 then YC f (n-(k+1)) (k+1)else k:=by
   obtain⟨q,hq⟩:∃q,n-k=q+1:=⟨n-k-1,A0⟩;rw[hq,YC,show n-(k+1)=q by omega]
  apply AW.skip;apply B7;refine AW.seq λN3 BC=>?_;apply AW.block;refine HU ?_;refine sQ λN hN=>?_;simp-dsimp-implicitDefEqProofs(maxSteps:=800000) (disch:=omega)only[go_sem,vi];refine AC.pure (.of (Z3 (f k))) ?_;(try simp-dsimp-implicitDefEqProofs(maxSteps:=800000) (disch:=omega)only[go_sem,vi]);apply hN;refine AW.cond rfl ?_ ?_<;>intro h2<;>try simp only[cn]at h2
  ·refine HU ?_;refine AH ?_;rw[<-hI,hs,if_neg h2]
  apply AW.skip;apply BC;apply rQ;simp-dsimp-implicitDefEqProofs(maxSteps:=800000) (disch:=omega)only[go_sem,vi];refine⟨k+1,?_,λ_ _ h=>h,?_,?_⟩
  ·simp(disch:=omega) [AN,AO,sl,AR,ints,rows,A6,vi,AR]<;>omega
  ·exact⟨A0,by rw[<-hI,hs,if_pos h2]⟩
  first|omega|(simp only;omega)
 apply AW.exit;apply B2;refine HU ?_;refine AH ?_;rw[show n-k=0 by omega,YC]at hI;omega
def zE(n:Nat)(us:List V):List Int:=us.map λb=>(E4 n b:Int)
theorem oF{n:Nat}{u:List V}{k:Nat}(h:k<u.length):List.map (λb=>AV.i .i64 (E4 n b)) (u.take k)++[AV.i .i64 (E4 n (u.getD k z0))]=List.map (λb=>AV.i .i64 (E4 n b)) (u.take (k+1)):=by
  rw[List.take_add_one,List.map_append];congr 1
  simp[h]
theorem MG(n:Nat)(hn:n<=6)(us:List V)(hu:us.length<=1048576)(hl:∀k,k<us.length->E4 n (us.getD k z0)<n):BI Tryz.prog 156 [AZ n us] (ints (zE n us)):=by
 refine B5 AA Tryz.func156 rfl A7 Tryz.ntmps156 Tryz.results156 ((GV _)) (λnx cX=>?_)
 refine V0 ?_;refine V0 ?_;refine AW.seq λN1 B2=>?_;refine V0 ?_;apply AW.block;refine A8 (α:=Nat×Option Nat) (λx=>sl 19 [(3,oA x.2 x.1),(6,AZ n us),(7,.i .i64 us.length),(8,.i .i64 x.1)]) (λx=>oH BM x.2 ((us.take x.1).map λb=>AV.i .i64 (E4 n b))) (λx m=>(x.1<=us.length/\nx<=m)/\(x.2=none->x.1=0)/\(∀id,x.2=some id->nx<=id/\id<m)) (λx=>us.length-x.1) ((0,none)) ?_ ?_ (λ_ _ h=>h) ?_
 ·exact⟨⟨AB,A9⟩,λ_=>rfl,AB⟩
 ·simp[AN,AO,sl,AZ,oA]
 skip
 rintro⟨k,_|id⟩ m ⟨⟨hk,hm⟩,h0,DS⟩
 ·skip
  refine AG ?_;dsimp only[oA,oH]at hk hm h0 DS ⊢;have LP:k=0:=h0 rfl;refine V0 ?_;refine AW.seq λN2 B7=>?_;refine AW.cond rfl ?_ ?_<;>intro h1<;>try simp only[cn]at h1
  ·have K0:=hl k A0;apply AW.skip;apply B7;refine AW.seq λN3 BC=>?_;apply AW.block;refine V0 ?_;refine kK ?_;refine AC.pure (.of (LA n (us.getD k z0) A0 A0)) ?_;(try simp-dsimp-implicitDefEqProofs(maxSteps:=800000) (disch:=omega)only[go_sem,Nat.min_eq_left,vi,AZ])
   apply BC;refine kK ?_;refine⟨(k+1,some (m+1+3+4)),?_,by subst LP;rw[<-oF A0];intro d cs hd;simp only[oH,AT,BM]at hd ⊢;grind,?_,?_⟩
   ·simp(disch:=omega) [AN,AO,sl,AZ,oA,AR]<;>omega
   ·exact⟨⟨A0,A9⟩,AB,by simp;omega⟩
   first|omega|(simp only;omega)
  apply AW.exit;apply B2;refine V0 ?_;refine AH ?_;have h00:us=[]:=List.length_eq_zero_iff.1 A0
  subst h00;exact .nl
 skip
 refine AG ?_;dsimp only[oA,oH]at hk hm h0 DS ⊢
 have A6T:=DS id rfl
 refine V0 ?_;refine AW.seq λN4 CF=>?_;refine AW.cond rfl ?_ ?_<;>intro h2<;>try simp only[cn]at h2
 ·have K0:=hl k A0;apply AW.skip;apply CF;refine AW.seq λN5 DL=>?_;apply AW.block;refine V0 ?_;refine kK ?_;refine AC.pure (.of (LA n (us.getD k z0) A0 A0)) ?_;(try simp-dsimp-implicitDefEqProofs(maxSteps:=800000) (disch:=omega)only[go_sem,Nat.min_eq_left,vi,AZ])
  apply DL;refine kK ?_;refine⟨(k+1,some (m+1+3+4)),?_,by rw[<-oF A0];intro d cs hd;simp only[oH,AT,BM]at hd ⊢;grind,?_,?_⟩
  ·simp(disch:=omega) [AN,AO,sl,AZ,oA,AR]<;>omega
  ·exact⟨⟨A0,A9⟩,AB,by simp;omega⟩
  first|omega|(simp only;omega)
 apply AW.exit;apply B2;refine V0 ?_;refine AH ?_;have KH:k=us.length:=A0
 subst KH
 have hx:List.map (λb=>AV.i .i64 (E4 n b)) (us.take us.length)=(zE n us).map (.i .i64):=by simp[zE]
 refine UK ?_ (by simp[zE])
 rw[A4,hx]
theorem FE{n:Nat}{us:List V}:(zE n us).length=us.length:=by simp[zE]
theorem K7{n:Nat}{us:List V}{k:Nat}(h:k<us.length):(zE n us).getD k 0=E4 n (us.getD k z0):=by simp[zE,h]
section
variable(os:List Int)(pw:List (List Int))(cj:List (List (List Int)))
theorem TP(h:AF os pw cj)(hc:CG (pc os pw cj) 0)(z y:V)(hz:T (pc os pw cj) 0 z)(hy:T (pc os pw cj) 0 y):BI Tryz.prog 125 [A5 os pw cj,vi os.length z,vi os.length y] (vi os.length (Qf (pc os pw cj) z y)):=by
 have hv:=h.val
 have g:=C0 hv hc
 have h1:=(EK g hz).1
 have h2:=(EK g hy).1
 refine AD AA Tryz.func125 rfl A7 Tryz.ntmps125 Tryz.results125 (J8 _ _) (λnx cX=>?_)
 refine B8 ?_;refine sQ λN hN=>?_;refine AG ?_;refine KP ((KW os pw cj h 0 hc z hz).pure) ?_
 refine KP ((HX os pw cj h 0 hc z y hz hy).pure) ?_
 refine KP ((EL os pw cj h 0 hc _ _ h1 (g.cl h2 (g.cl hz hy))).pure) ?_
 apply hN;refine AH ?_;rfl
end
def tbc(n:Nat):Option V->AV
  |none=> .nl
  |some y=>vi n y
def Z4(n:Nat)(t:Nat->Option V):List AV:=(List.range n).map λd=>tbc n (t d)
theorem wA{n:Nat}{t:Nat->Option V}:(Z4 n t).length=n:=by simp[Z4]
theorem Qj{n:Nat}{t:Nat->Option V}{d:Nat}(h:d<n):(Z4 n t).getD d .j=tbc n (t d):=by simp[Z4,h]
theorem Qk{n:Nat}:List.replicate n .nl=Z4 n (λ_=>none):=by
  apply List.ext_getElem?;intro i;by_cases h:i<n<;>simp[Z4,h,tbc]
theorem wB{n d:Nat}{t:Nat->Option V}{y:V}(h:d<n):B3 (Z4 n t) d [.v n (D3 n y)]=Z4 n (oset t d y):=by
  rw[EW _ _ _ (by rw[wA];exact h)];apply List.ext_getElem?;intro i;rw[List.getElem?_set];by_cases hi:d=i
  · subst hi;simp[Z4,oset,h,tbc,vi]
  simp only[hi,if_false,Z4,List.getElem?_map];by_cases hn:i<n
  · simp[hn,oset,Ne.symm hi]
  simp[hn]
def tkf:Option V->Nat
  |none=>0
  |some _=>1
theorem EA{n:Nat}{o:Option V}(h:tkf o=0):tbc n o= .nl:=by
  cases o with
  |none=>rfl
  |some y=>cases h
theorem FM{n:Nat}{o:Option V}(h:0<tkf o):tbc n o= .v n (D3 n (o.getD z0)):=by
  cases o with
  |none=>exact absurd h (Nat.lt_irrefl 0)
  |some y=>rfl
theorem V3{o:Option V}(h:o=none):tkf o=0:=by rw[h];rfl
theorem V4{o:Option V}(h:o≠none):0<tkf o/\o=some (o.getD z0):=by
  cases o with
  |none=>exact absurd rfl h
  |some y=>exact⟨Nat.one_pos,rfl⟩
theorem DB{n:Nat}{t f:Prop}(h:0<n):Xp n t f=f:=propext ⟨λhh=>hh.f,λhh=>⟨λh0=>A0,hh⟩⟩
theorem JB{t:TypeId}{s b:Nat}{z:Value}{q:Bool}:(∃e el,(⟨.slice t,s,b,z,q⟩:TE)=e/\e.d=TD.slice el)=True:=eq_true ⟨_,_,rfl,rfl⟩
attribute [go_sem] wA Qj wB
section
variable{P:Pc}(hv:GX P)(hc:CG P 0)
theorem Fv{x:V}(hx:T P 0 x):E4 P.n x<=P.n/\T P (E4 P.n x) x/\(E4 P.n x<P.n->x (E4 P.n x)≠0):=by
  obtain⟨a1,a2,a3,a4⟩:=X5 (x:=x) P.n 0;unfold E4;exact⟨A0,⟨λk hk=>a3 k (Nat.zero_le k) hk,λk _ h2=>hx.r k (Nat.zero_le k) h2,hx.t⟩,λh=>a4 A0⟩
theorem A6U{x:V}{d:Nat}(hd:d<=P.n)(hx:T P d x)(h:d<P.n->x d≠0):E4 P.n x=d:=by
  obtain⟨a1,a2,a3,a4⟩:=X5 (x:=x) P.n 0;unfold E4;rcases Nat.lt_trichotomy (YC x P.n 0) d with q|q|q
  · exact absurd (hx.z _ q) (a4 A0)
  · exact q
  exact absurd (a3 d (Nat.zero_le d) q) (h A0)
theorem A6V{x:V}{d:Nat}(hd:d<=P.n)(hx:T P d x):d<=E4 P.n x:=by
  obtain⟨a1,a2,a3,a4⟩:=X5 (x:=x) P.n 0;unfold E4;apply Classical.byContradiction;intro q;exact absurd (hx.z _ A0) (a4 A0)
theorem dG{t:Nat->Option V}{x:V}{d:Nat}(hd:d<=P.n)(hx:T P d x):RN P t x=JA (W3 P) t P.n (P.n-d) x:=by
  have:=dB (rd:=W3 P) (t:=t) (x:=x) (n:=P.n) d (P.n-d) A0 (λj _ h2=>hx.z j A0);rw[show P.n-d+d=P.n by omega]at this;exact this
theorem Ql{t:Nat->Option V}{x:V}(hx:T P 0 x)(h:E4 P.n x=P.n\/t (E4 P.n x)=none):RN P t x=(E4 P.n x,x):=by
  obtain⟨h1,h2,h3⟩:=Fv hx;obtain⟨d,hd⟩:∃d,E4 P.n x=d:=⟨_,rfl⟩;rw[hd]at h h1 h2 h3 ⊢;rw[dG h1 h2];by_cases e:d=P.n
  · rw[e,Nat.sub_self,JA]
  obtain⟨f,hf⟩:∃f,P.n-d=f+1:=⟨P.n-d-1,A0⟩;have e2:P.n-(f+1)=d:=A0;rw[hf,NK (by rw[e2];exact h3 A0) (by rw[e2];exact h.resolve_left e),e2]
include hv hc
theorem Fw{t:Nat->Option V}(hG:OW P t){x y:V}(hx:T P 0 x)(hd:E4 P.n x<P.n)(hy:t (E4 P.n x)=some y):
    RN P t (W3 P (E4 P.n x) y x)=RN P t x/\T P (E4 P.n x+1) (W3 P (E4 P.n x) y x):=by
  obtain⟨h1,h2,h3⟩:=Fv hx;obtain⟨d,XZ⟩:∃d,E4 P.n x=d:=⟨_,rfl⟩;rw[XZ]at hd hy h1 h2 h3 ⊢;obtain⟨y1,y2,y3⟩:=hG d y hy;have hT:=(QA hv hc d y x hd y2 y3 h2).2;refine⟨?_,hT⟩;rw[dG A0 hT,dG h1 h2];have e2:P.n-(P.n-(d+1)+1)=d:=A0;have:=L7 (rd:=W3 P) (t:=t) (n:=P.n) (f:=P.n-(d+1)) (x:=x) (y:=y) (by rw[e2];exact h3 hd) (by rw[e2];exact hy);rw[e2]at this;rw[show P.n-d=P.n-(d+1)+1 by omega,this]
theorem A1M{t:Nat->Option V}(hG:OW P t){x:V}(hx:T P 0 x):E4 P.n (RN P t x).2=(RN P t x).1:=by
  obtain⟨i1,i2,i3⟩:=XA hv hc hG hx;exact A6U i1 i2 (λh=>(i3 h).2)
end
section
variable(os:List Int)(pw:List (List Int))(cj:List (List (List Int)))
set_option maxRecDepth 20000 in
set_option maxHeartbeats 1000000 in
theorem kT(h:AF os pw cj)(hc:CG (pc os pw cj) 0)(t:Nat->Option V)(hG:OW (pc os pw cj) t)(a:V)(ha:T (pc os pw cj) 0 a)(nx:Nat)(H:HP)(ids GC:Nat)(DZ:H ids=some [A5 os pw cj,.h GC 0 os.length])(D9:H GC=some (Z4 os.length t)):AC Tryz.prog 148 nx H [.q ids 0,vi os.length a] (λ_ H' r=>r=vi os.length (RN (pc os pw cj) t a).2/\H'=H):=by
 have FU:=h.1.1
 have hv:=h.val
 refine BA AA Tryz.func148 rfl A7 Tryz.ntmps148 Tryz.results148 (λCQ cX=>?_)
 refine oE DZ D9 ?_;refine AW.seq λN1 B2=>?_;refine sQ λN hN=>?_;refine V2 DZ D9 ?_
 refine AC.pure (.of (L8 os.length A0 a)) ?_;(try simp-dsimp-implicitDefEqProofs(maxSteps:=800000) (disch:=omega)only[go_sem,eq_self,JB,AL,ints,DB,A5,FM,EA,vi,DZ,D9])
 apply hN;apply AW.block;refine A8 (α:=V) (λx=>sl 96 [(0,.q ids 0),(1,vi os.length x),(5,.i .i64 (E4 os.length x))]) (λ_=>H) (λx m=>T (pc os pw cj) 0 x/\RN (pc os pw cj) t x=RN (pc os pw cj) t a) (λx=>os.length-E4 os.length x) (a) ?_ ?_ (λ_ _ h=>h) ?_
 ·exact⟨ha,rfl⟩
 ·simp(disch:=omega) [AN,AO,sl,vi]
 skip
 rintro u m ⟨hu,hI⟩
 dsimp only at hu hI ⊢
 have qU:=Fv hu
 obtain⟨d,hd⟩:∃d,E4 os.length u=d:=⟨_,rfl⟩
 have hle:d<=os.length:=by rw[<-hd];exact qU.1
 have ER:=λy=>Fw hv hc hG (y:=y) hu
 have Lr:=Ql (t:=t) hu
 have oG:=qU.2.2
 have PH:(pc os pw cj).n=os.length:=rfl
 rw[PH,hd]at ER Lr oG
 rw[hd]
 by_cases hb:t d=none
 ·skip
  have OR:=V3 hb;simp only[vi];refine AG ?_;refine AW.seq λN2 B7=>?_;refine sQ λN hN=>?_;refine V2 DZ D9 ?_
  refine CH.mk' (λh1=>?_) (λh1=>?_)
  ·try simp only[cn]at h1
   refine V2 DZ D9 ?_
   apply hN;refine AW.cond rfl ?_ ?_<;>intro h2<;>try simp only[cn]at h2
   ·first|done|(cases h2)|(simp at h2)
   apply AW.exit;apply B2;refine oE DZ D9 ?_;refine AH ?_;exact⟨_,λ_ _ h=>h,by rw[<-hI,Lr (.inr hb)];rfl,rfl⟩
  try simp only[cn]at h1
  refine V2 DZ D9 ?_
  apply hN;refine B4 rfl ?_;apply AW.exit;apply B2;refine oE DZ D9 ?_;refine AH ?_;exact⟨_,λ_ _ h=>h,by rw[<-hI,Lr (.inr hb)];rfl,rfl⟩
 skip
 obtain⟨OR,hy⟩:=V4 hb
 obtain⟨y,Vd⟩:∃y,(t d).getD z0=y:=⟨_,rfl⟩
 rw[Vd]at hy
 simp only[vi];refine AG ?_;refine AW.seq λN3 BC=>?_;refine sQ λN hN=>?_;refine V2 DZ D9 ?_
 refine CH.mk' (λh3=>?_) (λh3=>?_)
 ·try simp only[cn]at h3
  refine V2 DZ D9 ?_
  apply hN;refine AW.cond rfl ?_ ?_<;>intro h4<;>try simp only[cn]at h4
  ·obtain⟨s1,s2⟩:=ER y A0 hy;have zB:=(hG d y hy).2.1.mono hv (Nat.zero_le d);have hur:=hu.r d (Nat.zero_le d) (show d<os.length by omega);have huo:=CE (h.2.1 d A0);have s7:(pc os pw cj).o d=os.getD d 0:=rfl;have hz:W3 (pc os pw cj) d y u d=0:=s2.z d A0;have hsT:=s2.mono hv (Nat.zero_le _);have hsl:=A6V (P:=pc os pw cj) (show d+1<=os.length by omega) s2;rw[PH]at hsl;apply AW.skip;apply BC;refine AW.seq λN4 CF=>?_;apply AW.block;refine AW.seq λN hN=>?_;refine AM AA A7 34 A7 ?_
   (try simp-dsimp-implicitDefEqProofs(maxSteps:=800000) (disch:=omega)only[go_sem,List.drop_nil,List.drop_succ_cons,List.drop_zero,List.take_nil,List.take_succ_cons,List.take_zero,eq_self,JB,AL,BW,BE,BF,ints,DB,A5,FM,EA,vi,AR,DZ,D9,Vd]);refine⟨_,.of (K5 h 0 hc y zB (os.getD d 0-u d) A0 A0),?_⟩;refine V2 DZ D9 ?_
   refine⟨_,.of ((EL os pw cj h 0 hc (rep (M (pc os pw cj) 0) y (os.getD d 0-u d).toNat) u ((C0 hv hc).rep zB _) hu).pure),?_⟩;refine V2 DZ D9 ?_
   rw[show M (pc os pw cj) 0 (rep (M (pc os pw cj) 0) y (os.getD d 0-u d).toNat) u=W3 (pc os pw cj) d y u from rfl];(try simp-dsimp-implicitDefEqProofs(maxSteps:=800000) (disch:=omega)only[go_sem,AL,ints,A5,vi,DZ,D9])
   apply hN;refine oE DZ D9 ?_;refine AW.cond rfl ?_ ?_<;>intro h5<;>try simp only[cn]at h5
   ·exact absurd hz h5
   apply AW.skip;apply CF;apply rQ;simp-dsimp-implicitDefEqProofs(maxSteps:=800000) (disch:=omega)only[go_sem,eq_self,JB,AL,ints,DB,A5,FM,EA,vi,DZ,D9];refine AC.pure (.of (L8 os.length A0 (W3 (pc os pw cj) d y u))) ?_;(try simp-dsimp-implicitDefEqProofs(maxSteps:=800000) (disch:=omega)only[go_sem,eq_self,JB,AL,ints,DB,A5,FM,EA,vi,DZ,D9])
   refine⟨W3 (pc os pw cj) d y u,?_,λ_ _ h=>h,?_,?_⟩
   ·simp(disch:=omega) [AN,AO,sl,AR,ints,rows,A6,A5,AR,vi,ints,AL,DZ,D9,EA,FM,DB,JB,eq_self]<;>omega
   ·exact⟨hsT,s1.trans hI⟩
   first|omega|(dsimp only;omega)
  first|done|(cases h4)|(exact absurd h4 AB)
 try simp only[cn]at h3
 refine V2 DZ D9 ?_
 apply hN;refine B4 rfl ?_;apply AW.exit;apply B2;refine oE DZ D9 ?_;refine AH ?_;exact⟨_,λ_ _ h=>h,by rw[<-hI,Lr (.inl A0)];rfl,rfl⟩
end
end Go.Proofs.YtgknbnkmilddhaaGreat
