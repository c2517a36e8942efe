import Derived.Test.YtghmeeifjeafmaaGreatZ08
set_option linter.unusedVariables false
set_option linter.unusedSimpArgs false
set_option linter.unusedSectionVars false
namespace Go.Proofs.YtghmeeifjeafmaaGreat
variable{P:Pc}
theorem HL.mk'{N:V→Prop}{m:V→V→V}(cl:∀{a b},N a→N b→N (m a b))(ac:∀{a b c},N a→N b→N c→m (m a b) c=m a (m b c))(e0:N z0)
    (l1:∀{a},N a→m z0 a=a) (iv:∀{a},N a→∃b,N b∧m b a=z0):HL N m:=by
  have rv:∀{a b},N a→N b→m b a=z0→m a b=z0:=by
    intro a b ha hb h;obtain⟨c,hc,h2⟩:=iv hb;rw[←l1 (cl ha hb),←h2,ac hc hb (cl ha hb),←ac hb ha hb,h,l1 hb]
  refine⟨cl,ac,e0,l1,?_,?_⟩
  · intro a ha;obtain⟨b,hb,h⟩:=iv ha;rw[←h,←ac ha hb ha,rv ha hb h,l1 ha]
  intro a ha;obtain⟨b,hb,h⟩:=iv ha;exact⟨b,hb,h,rv ha hb h⟩
def un(j:Nat):V:=AX z0 j 1
theorem lB(hv:F9 P){i j:Nat}(h:i≤j)(hj:j<P.n):T P i (un j):=
  T.mono hv h (T.put hj (T.zero hv _) (by omega) (hv.o j hj))
theorem aY{x:V}{i:Nat}:AX (AX x i 0) i (x i)=x:=by rw[EO];exact F8 rfl
theorem Hg{i:Nat}{mul:V→V→V}(hv:F9 P)(hi:i<P.n){a b:V}(ha:T P i a)(hb:T P i b):
    ZZ P i mul a b=AX (xm mul (P.o i).toNat (P.pw i) (DC P mul i) (a i).toNat (AX a i 0) (b i).toNat (AX b i 0)).2 i
      (xm mul (P.o i).toNat (P.pw i) (DC P mul i) (a i).toNat (AX a i 0) (b i).toNat (AX b i 0)).1:=by
  have h1:=ha.r i (by omega) hi;have h2:=hb.r i (by omega) hi;have h3:=hv.o i hi;unfold ZZ xm;by_cases h:P.o i≤a i+b i
  · rw[if_pos h,if_pos (by omega)];congr 1;omega
  rw[if_neg h,if_neg (by omega)];congr 1;omega
theorem Rt(hv:F9 P){i:Nat}(hi:i<P.n){φ:V→V}(h:Ext (T P (i+1)) (M P (i+1)) (P.o i).toNat (P.pw i) φ){a b:Nat}{x y:V}(ha:a<(P.o i).toNat)(hb:b<(P.o i).toNat)(hx:T P (i+1) x)(hy:T P (i+1) y):
    (xm (M P (i+1)) (P.o i).toNat (P.pw i) φ a x b y).1<(P.o i).toNat∧T P (i+1) (xm (M P (i+1)) (P.o i).toNat (P.pw i) φ a x b y).2:=by
  unfold xm;split
  · exact⟨by simp only;omega,h.g.cl h.hw (h.g.cl (h.ic hx b) hy)⟩
  exact⟨by simp only;omega,h.g.cl (h.ic hx b) hy⟩
theorem lC(hv:F9 P){i:Nat}(hi:i<P.n)(h:Ext (T P (i+1)) (M P (i+1)) (P.o i).toNat (P.pw i) (DC P (M P (i+1)) i)):HL (T P i) (M P i):=by
  have ho:=hv.o i hi;have hM:∀{a b},T P i a→T P i b→M P i a b=AX (xm (M P (i+1)) (P.o i).toNat (P.pw i) (DC P (M P (i+1)) i) (a i).toNat (AX a i 0) (b i).toNat (AX b i 0)).2 i
      (xm (M P (i+1)) (P.o i).toNat (P.pw i) (DC P (M P (i+1)) i) (a i).toNat (AX a i 0) (b i).toNat (AX b i 0)).1:=
    fun ha hb=>by rw[PN hi];exact Hg hv hi ha hb
  have hr:∀{a},T P i a→(a i).toNat<(P.o i).toNat:=fun ha=>by have:=ha.r i (by omega) hi;omega
  refine HL.mk' (fun ha hb=>TF hv ha hb) ?_ (T.zero hv i) ?_ ?_
  · intro a b c ha hb hc;obtain⟨u1,u2⟩:=Rt hv hi h (hr ha) (hr hb) ha.cut hb.cut;obtain⟨u3,u4⟩:=Rt hv hi h (hr hb) (hr hc) hb.cut hc.cut;have iK:=TF hv ha hb;have hbc:=TF hv hb hc;have:=h.assoc (hr ha) (hr hb) (hr hc) ha.cut hb.cut hc.cut;rw[hM iK hc,hM ha hbc];rw[hM ha hb,hM hb hc];simp only[CM,Int.toNat_natCast,T.M4 u2,T.M4 u4];rw[this]
  · intro a ha;rw[hM (T.zero hv i) ha,J1];have h1:=hr ha;unfold xm;rw[show(z0 i).toNat=0 from rfl,if_neg (by omega)];simp only[h.i0,h.g.l1 ha.cut];rw[EO];exact F8 (by have:=ha.r i (by omega) hi;omega)
  intro a ha;have h1:=hr ha;by_cases e:(a i).toNat=0
  · obtain⟨v,q1,q2,q3⟩:=h.g.iv ha.cut;refine⟨AX v i 0,T.put hi q1 (by omega) (by omega),?_⟩;rw[hM (T.put hi q1 (by omega) (by omega)) ha];unfold xm;rw[CM,show(0:Int).toNat=0 from rfl,e,if_neg (by omega),T.M4 q1];show AX (M P (i+1) v _) i _=_
    rw[q2];exact J1
  obtain⟨u,q1,q2,q3⟩:=h.g.iv (h.g.cl h.hw ha.cut);have q4:T P (i+1) (CW (DC P (M P (i+1)) i) ((P.o i).toNat-(a i).toNat) u):=h.ic q1 _;refine⟨AX (CW (DC P (M P (i+1)) i) ((P.o i).toNat-(a i).toNat) u) i (((P.o i).toNat-(a i).toNat:Nat):Int),T.put hi q4 (by omega) (by omega),?_⟩;rw[hM (T.put hi q4 (by omega) (by omega)) ha];unfold xm;rw[CM,Int.toNat_natCast,if_pos (by omega),T.M4 q4,←KE,show(P.o i).toNat-(a i).toNat+(a i).toNat=(P.o i).toNat by omega];simp only
  rw[←h.g.ac h.hw (h.ic q1 _) ha.cut,h.Mp q1,h.g.ac q1 h.hw ha.cut,q2];rw[Nat.sub_self];exact J1
structure oU(P:Pc)(i:Nat):Prop where
  pw:∀j,i<j→j<P.n→rep (M P (i+1)) (P.cj i j) (P.o j).toNat=DC P (M P (i+1)) i (P.pw j)
  cj:∀j k,i<j→j<k→k<P.n→M P (i+1) (P.cj i k) (P.cj i j)=M P (i+1) (P.cj i j) (DC P (M P (i+1)) i (P.cj j k))
  fx:DC P (M P (i+1)) i (P.pw i)=P.pw i
  Mp:∀j,i<j→j<P.n→M P (i+1) (P.pw i) (CW (DC P (M P (i+1)) i) (P.o i).toNat (un j))=M P (i+1) (un j) (P.pw i)
def DI(P:Pc)(l:Nat):Prop:=∀i,l≤i→i<P.n→oU P i
theorem DI.mono{l m:Nat}(h:DI P l)(hm:l≤m):DI P m:=fun i h1 h2=>h i (by omega) h2
theorem YQ(hv:F9 P){i:Nat}{a b:V}(ha:T P (i+1) a)(hb:T P (i+1) b):M P i a b=M P (i+1) a b:=by
  by_cases hi:i<P.n
  · rw[PN hi];unfold ZZ;have:=hv.o i hi;have h1:=ha.z i (by omega);have h2:=hb.z i (by omega);rw[h1,h2,if_neg (by omega),F8 h1,F8 h2];show AX (M P (i+1) a b) i (0+0)=_
    exact F8 ((TF hv ha hb).z i (by omega))
  rw[WS (by omega),WS (by omega)]
theorem RZ(hv:F9 P){i j:Nat}(JI:i≤j){a b:V}(ha:T P j a)(hb:T P j b):M P i a b=M P j a b:=by
  obtain⟨d,rfl⟩:∃d,j=i+d:=⟨j-i,by omega⟩;induction d generalizing i with
  |zero=>rfl
  | succ d ih=>
    have h1:i+(d+1)=i+1+d:=by omega
    rw[h1]at ha hb;rw[YQ hv (ha.mono hv (by omega)) (hb.mono hv (by omega)),ih (by omega) ha hb,h1]
theorem M5{mul:V→V→V}{c:Nat→V}{x:V}{u:V}:∀d q j,(∀k,j≤k→k<j+d→x k=0)→HB mul c x (d+q) j u=HB mul c x q (j+d) u:=by
  intro d;induction d with
  |zero=>intro q j _;rw[Nat.zero_add];rfl
  | succ d ih=>
    intro q j h;rw[show d+1+q=(d+q)+1 by omega,HB,h j (by omega) (by omega)];show HB mul c x (d+q) (j+1) u=_
    rw[ih q (j+1) (fun k h1 h2=>h k (by omega) (by omega)),show j+1+d=j+(d+1) by omega]
theorem iL{mul:V→V→V}{c:Nat→V}{x y:V}:∀q j u,(∀k,j≤k→k<j+q→x k=y k)→HB mul c x q j u=HB mul c y q j u:=by
  intro q;induction q with
  |zero=>intros;rfl
  |succ q ih=>intro j u h;rw[HB,HB,h j (by omega) (by omega),ih _ _ (fun k h1 h2=>h k (by omega) (by omega))]
section
variable{i:Nat}(hv:F9 P)(hg:HL (T P (i+1)) (M P (i+1)))
include hv hg
theorem PO{l:Nat}(hl:i<l)(a8:l<P.n){x:V}(hx:T P l x):
    DC P (M P (i+1)) i x=M P (i+1) (rep (M P (i+1)) (P.cj i l) (x l).toNat) (DC P (M P (i+1)) i (AX x l 0)):=by
  have e:P.n-(i+1)=(l-(i+1))+((P.n-(l+1))+1):=by omega
  have e2:i+1+(l-(i+1))=l:=by omega
  have s1:∀y:V,(∀k,k<l→y k=0)→DC P (M P (i+1)) i y=HB (M P (i+1)) (P.cj i) y (P.n-(l+1)+1) l z0:=by
    intro y hy;have:=M5 (mul:=M P (i+1)) (c:=P.cj i) (x:=y) (u:=z0) (l-(i+1)) (P.n-(l+1)+1) (i+1) (fun k h1 h2=>hy k (by omega));rw[←e,e2]at this;exact this
  rw[s1 x hx.z,s1 (AX x l 0) (fun k hk=>by rw[GO (by omega)];exact hx.z k hk),HB,HB,CM];show _=M P (i+1) _ (HB _ _ _ _ _ z0)
  rw[iL (x:=AX x l 0) (y:=x) _ _ _ (fun k h1 h2=>GO (by omega)),
    hg.HB _ _ _ (fun k h1 h2=>hv.cj i k (by omega) (by omega)) (GN (fun y hy=>hg.cl hy (hv.cj i l hl a8)) _ _ hg.e0)]
  rfl
theorem YR:DC P (M P (i+1)) i z0=z0:=by
  unfold DC;have this:HB (M P (i+1)) (P.cj i) z0 (P.n-(i+1)) (i+1) z0=HB (M P (i+1)) (P.cj i) z0 0 (i+1+(P.n-(i+1))) z0:=M5 (P.n-(i+1)) 0 (i+1) (fun k _ _=>rfl);rw[this];rfl
theorem oV{c d:Nat→V}{x:V}{a:V}(ha:T P (i+1) a):∀q j,(∀k,j≤k→k<j+q→T P (i+1) (c k)∧T P (i+1) (d k)∧M P (i+1) a (d k)=M P (i+1) (c k) a)→
    ∀u v,T P (i+1) u→T P (i+1) v→M P (i+1) a v=M P (i+1) u a→M P (i+1) a (HB (M P (i+1)) d x q j v)=M P (i+1) (HB (M P (i+1)) c x q j u) a:=by
  intro q;induction q with
  |zero=>exact fun _ _ _ _ _ _ h=>h
  | succ q ih=>
    intro j hc u v hu Oe h;obtain⟨c1,c2,c3⟩:=hc j (by omega) (by omega);have key:∀k,T P (i+1) (CW (fun u=>M P (i+1) u (c j)) k u)∧T P (i+1) (CW (fun u=>M P (i+1) u (d j)) k v)∧
        M P (i+1) a (CW (fun u=>M P (i+1) u (d j)) k v)=M P (i+1) (CW (fun u=>M P (i+1) u (c j)) k u) a:=by
      intro k;induction k with
      |zero=>exact⟨hu,Oe,h⟩
      | succ k mV=>
        obtain⟨k1,k2,k3⟩:=mV;refine⟨hg.cl k1 c1,hg.cl k2 c2,?_⟩;simp only[CW];rw[←hg.ac ha k2 c2,k3,hg.ac k1 ha c2,c3,hg.ac k1 c1 ha]
    obtain⟨k1,k2,k3⟩:=key (x j).toNat;exact ih (j+1) (fun k h1 h2=>hc k (by omega) (by omega)) _ _ k1 k2 k3
theorem wQ{l:Nat}(hl:i<l){φ:V→V}(hφ:∀{x},T P (l+1) x→T P (i+1) (φ x))(hh:∀{x y},T P (l+1) x→T P (l+1) y→φ (M P (l+1) x y)=M P (i+1) (φ x) (φ y)){c:Nat→V}{x:V}:
    ∀q j,(∀k,j≤k→k<j+q→T P (l+1) (c k))→∀u,T P (l+1) u→φ (HB (M P (l+1)) c x q j u)=HB (M P (i+1)) (fun k=>φ (c k)) x q j (φ u):=by
  intro q;induction q with
  |zero=>intros;rfl
  | succ q ih=>
    intro j hc u hu;have cj:=hc j (by omega) (by omega);have key:∀k,T P (l+1) (CW (fun u=>M P (l+1) u (c j)) k u)∧φ (CW (fun u=>M P (l+1) u (c j)) k u)=CW (fun u=>M P (i+1) u (φ (c j))) k (φ u):=by
      intro k;induction k with
      |zero=>exact⟨hu,rfl⟩
      |succ k mV=>exact⟨TF hv mV.1 cj,by simp only[CW];rw[hh mV.1 cj,mV.2]⟩
    obtain⟨k1,k2⟩:=key (x j).toNat;rw[HB,ih (j+1) (fun k h1 h2=>hc k (by omega) (by omega)) _ k1,k2,HB]
theorem oW{x:V}:T P (i+1) (DC P (M P (i+1)) i x):=RY hv (fun a b=>hg.cl) x
theorem wR(hc:oU P i):∀d l,i<l→P.n-l=d→∀x y,T P l x→T P l y→DC P (M P (i+1)) i (M P l x y)=M P (i+1) (DC P (M P (i+1)) i x) (DC P (M P (i+1)) i y):=by
  intro d;induction d with
  | zero=>
    intro l hl hd x y hx hy;rw[WS (by omega),hx.ge (by omega),hy.ge (by omega),YR hv hg,hg.l1 hg.e0]
  | succ d ih=>
    intro l hl hd x y hx hy;have a8:l<P.n:=by omega
    have uU:=fun {x y} (hx:T P (l+1) x) (hy:T P (l+1) y)=>ih (l+1) (by omega) (by omega) x y hx hy
    have fc:∀{x},T P (i+1) (DC P (M P (i+1)) i x):=oW hv hg;have E6:=hv.cj i l hl a8;have ex:∀{u},T P (l+1) u→M P (i+1) (P.cj i l) (DC P (M P (i+1)) i (DC P (M P (l+1)) l u))=M P (i+1) (DC P (M P (i+1)) i u) (P.cj i l):=by
      intro u hu;have h1:DC P (M P (i+1)) i (DC P (M P (l+1)) l u)=HB (M P (i+1)) (fun k=>DC P (M P (i+1)) i (P.cj l k)) u (P.n-(l+1)) (l+1) z0:=by
        rw[show DC P (M P (l+1)) l u=HB (M P (l+1)) (P.cj l) u (P.n-(l+1)) (l+1) z0 from rfl,wQ hv hg hl (φ:=DC P (M P (i+1)) i) (fun _=>fc) uU _ _ (fun k h1 h2=>hv.cj l k (by omega) (by omega)) _ (T.zero hv _),YR hv hg]
      have h2:DC P (M P (i+1)) i u=HB (M P (i+1)) (P.cj i) u (P.n-(l+1)) (l+1) z0:=by
        unfold DC;rw[show P.n-(i+1)=(l-i)+(P.n-(l+1)) by omega,M5 _ _ _ (fun k h1 h2=>hu.z k (by omega)),show i+1+(l-i)=l+1 by omega]
      rw[h1,h2];refine oV hv hg E6 _ _ (fun k h3 h4=>⟨hv.cj i k (by omega) (by omega),fc,(hc.cj l k hl (by omega) (by omega)).symm⟩) _ _ hg.e0 hg.e0 ?_;rw[hg.r1 E6,hg.l1 E6]
    have exn:∀b u,T P (l+1) u→M P (i+1) (rep (M P (i+1)) (P.cj i l) b) (DC P (M P (i+1)) i (CW (DC P (M P (l+1)) l) b u))=M P (i+1) (DC P (M P (i+1)) i u) (rep (M P (i+1)) (P.cj i l) b):=by
      intro b;induction b with
      |zero=>intro u hu;show M P (i+1) z0 (DC _ _ _ u)=M P (i+1) _ z0;rw[hg.l1 fc,hg.r1 fc]
      | succ b Om=>
        intro u hu;have t1:T P (l+1) (CW (DC P (M P (l+1)) l) b u):=GN (fun y _=>RY hv (fun _ _=>TF hv) y) _ _ hu;show M P (i+1) (M P (i+1) (rep (M P (i+1)) (P.cj i l) b) (P.cj i l)) (DC P (M P (i+1)) i (DC P (M P (l+1)) l (CW (DC P (M P (l+1)) l) b u)))=M P (i+1) _ (M P (i+1) (rep (M P (i+1)) (P.cj i l) b) (P.cj i l))
        rw[hg.ac (hg.rep E6 b) E6 fc,ex t1,←hg.ac (hg.rep E6 b) fc E6,Om u hu,hg.ac fc (hg.rep E6 b) E6]
    have rx:=hx.r l (by omega) a8;have ry:=hy.r l (by omega) a8;have tl:T P (l+1) (CW (DC P (M P (l+1)) l) (y l).toNat (AX x l 0)):=GN (fun y _=>RY hv (fun _ _=>TF hv) y) _ _ hx.cut;have tr:T P (l+1) (M P (l+1) (CW (DC P (M P (l+1)) l) (y l).toNat (AX x l 0)) (AX y l 0)):=TF hv tl hy.cut;have ra:=hg.rep E6 (x l).toNat;have rb:=hg.rep E6 (y l).toNat;have core:M P (i+1) (M P (i+1) (rep (M P (i+1)) (P.cj i l) (x l).toNat) (rep (M P (i+1)) (P.cj i l) (y l).toNat)) (DC P (M P (i+1)) i (M P (l+1) (CW (DC P (M P (l+1)) l) (y l).toNat (AX x l 0)) (AX y l 0)))=
        M P (i+1) (DC P (M P (i+1)) i x) (DC P (M P (i+1)) i y):=by
      rw[uU tl hy.cut,hg.ac ra rb (hg.cl fc fc),←hg.ac rb fc fc,exn _ _ hx.cut,hg.ac fc rb fc,←PO hv hg hl a8 hy,←hg.ac ra fc fc,←PO hv hg hl a8 hx]
    rw[PN a8];unfold ZZ;by_cases h:P.o l≤x l+y l
    · rw[if_pos h];have tt:=TF hv (hv.pw l a8) tr;rw[PO hv hg hl a8 (T.put a8 tt (by omega) (by omega)),CM,T.M4 tt,uU (hv.pw l a8) tr,←hc.pw l hl a8,←hg.ac (hg.rep E6 _) (hg.rep E6 _) fc,←hg.EP E6,
        show(x l+y l-P.o l).toNat+(P.o l).toNat=(x l).toNat+(y l).toNat by omega,hg.EP E6,core]
    rw[if_neg h,PO hv hg hl a8 (T.put a8 tr (by omega) (by omega)),CM,T.M4 tr,show(x l+y l).toNat=(x l).toNat+(y l).toNat by omega,hg.EP E6,core]
end
theorem wS(hv:F9 P){l:Nat}{p:V→Prop}(h0:p z0)(hm:∀x y,T P l x→T P l y→p x→p y→p (M P l x y))(hu:∀j,l≤j→j<P.n→p (un j))(h1:∀j x,l≤j→T P j x→M P l z0 x=x):∀x,T P l x→p x:=by
  have key:∀d j,l≤j→P.n-j=d→∀x,T P j x→p x:=by
    intro d;induction d with
    |zero=>intro j hj hd x hx;rw[hx.ge (by omega)];exact h0
    | succ d ih =>
      intro j hj hd x hx;have uB:j<P.n:=by omega
      have pu : ∀(k:Nat) (y:V),(k:Int)<P.o j→T P (j+1) y→p y→p (AX y j k):=by
        intro k;induction k with
        |zero=>intro y _ ty hy;rw[show AX y j ((0:Nat):Int)=y from F8 (ty.z j (by omega))];exact hy
        | succ k mV=>
          intro y hk ty hy;have t1:T P j (AX y j k):=T.put uB ty (by omega) (by omega);have t2:T P j (un j):=lB hv (Nat.le_refl _) uB;have e:M P l (un j) (AX y j k)=AX y j ((k+1:Nat):Int):=by
            rw[RZ hv hj t2 t1,PN uB];unfold ZZ;rw[show un j j=1 from CM,CM,if_neg (by omega),show AX (un j) j 0=z0 by rw[un,EO,J1],T.M4 ty];have:CW (DC P (M P (j+1)) j) ((k:Int)).toNat z0=z0:=by
              have hz:DC P (M P (j+1)) j z0=z0:=by
                unfold DC;have this:HB (M P (j+1)) (P.cj j) z0 (P.n-(j+1)) (j+1) z0=HB (M P (j+1)) (P.cj j) z0 0 (j+1+(P.n-(j+1))) z0:=M5 (P.n-(j+1)) 0 (j+1) (fun k _ _=>rfl);rw[this];rfl
              generalize ((k:Int)).toNat=q
              induction q with
              |zero=>rfl
              |succ q ihq=>rw[CW,ihq,hz]
            rw[this,←RZ hv (show l≤j+1 by omega) (T.zero hv _) ty,h1 _ _ (by omega) ty];congr 1;omega
          rw[←e];exact hm _ _ (t2.mono hv hj) (t1.mono hv hj) (hu j hj uB) (mV y (by omega) ty hy)
      have rx:=hx.r j (by omega) uB;have:=pu (x j).toNat (AX x j 0) (by omega) hx.cut (ih (j+1) (by omega) (by omega) _ hx.cut);rw[show(((x j).toNat:Nat):Int)=x j by omega,aY]at this;exact this
  exact fun x hx=>key _ l (Nat.le_refl _) rfl x hx
theorem lD(hv:F9 P){i:Nat}(hi:i<P.n)(hg:HL (T P (i+1)) (M P (i+1)))(hc:oU P i):Ext (T P (i+1)) (M P (i+1)) (P.o i).toNat (P.pw i) (DC P (M P (i+1)) i):=by
  have fc:∀{x},T P (i+1) (DC P (M P (i+1)) i x):=oW hv hg;have fm:∀{x y},T P (i+1) x→T P (i+1) y→DC P (M P (i+1)) i (M P (i+1) x y)=M P (i+1) (DC P (M P (i+1)) i x) (DC P (M P (i+1)) i y):=
    fun hx hy=>wR hv hg hc _ (i+1) (by omega) rfl _ _ hx hy
  have hw:=hv.pw i hi;refine⟨hg,fun _=>fc,fm,YR hv hg,hw,hc.fx,?_⟩;intro x hx;have ic:∀{x} (k:Nat),T P (i+1) x→T P (i+1) (CW (DC P (M P (i+1)) i) k x):=fun k hx=>GN (fun _ _=>fc) _ _ hx
  have im:∀{x y} (k:Nat),T P (i+1) x→T P (i+1) y→CW (DC P (M P (i+1)) i) k (M P (i+1) x y)=M P (i+1) (CW (DC P (M P (i+1)) i) k x) (CW (DC P (M P (i+1)) i) k y):=by
    intro x y k hx hy;induction k with
    |zero=>rfl
    |succ k ih=>rw[CW,ih,fm (ic k hx) (ic k hy)];rfl
  have i0:∀k,CW (DC P (M P (i+1)) i) k z0=z0:=by
    intro k;induction k with
    |zero=>rfl
    |succ k ih=>rw[CW,ih,YR hv hg]
  refine wS (p:=fun x=>M P (i+1) (P.pw i) (CW (DC P (M P (i+1)) i) (P.o i).toNat x)=M P (i+1) x (P.pw i)) hv ?_ ?_ ?_ ?_ x hx
  · show M P (i+1) _ (CW _ _ z0)=_
    rw[i0,hg.r1 hw,hg.l1 hw]
  · intro x y hx hy h1 h2;show M P (i+1) _ (CW _ _ (M P (i+1) x y))=_
    rw[im _ hx hy,←hg.ac hw (ic _ hx) (ic _ hy),h1,hg.ac hx hw (ic _ hy),h2,hg.ac hx hy hw]
  · exact fun j h1 h2=>hc.Mp j (by omega) h2
  exact fun j x h1 hx=>hg.l1 (hx.mono hv h1)
theorem BO(hv:F9 P):∀{l:Nat},DI P l→HL (T P l) (M P l):=by
  have key:∀d l,P.n-l=d→DI P l→HL (T P l) (M P l):=by
    intro d;induction d with
    | zero=>
      intro l hd _;have hz:∀{x},T P l x→x=z0:=fun hx=>hx.ge (by omega)
      have hm:∀{x y},M P l x y=z0:=WS (by omega) _ _;exact⟨fun _ _=>by rw[hm];exact T.zero hv _,fun _ _ _=>by rw[hm,hm],T.zero hv _,fun h=>by rw[hm,hz h],fun h=>by rw[hm,hz h],fun h=>⟨z0,T.zero hv _,hm,hm⟩⟩
    | succ d ih=>
      intro l hd hc;have hl:l<P.n:=by omega
      exact lC hv hl (lD hv hl (ih (l+1) (by omega) (hc.mono (by omega))) (hc l (Nat.le_refl _) hl))
  exact fun {l} h=>key _ l rfl h
end Go.Proofs.YtghmeeifjeafmaaGreat
namespace Go.Proofs.YtghmeeifjeafmaaGreat
variable{P:Pc}
def tl(l:Nat)(e:V):V:=fun k=>if k<l then 0 else e k
def app(P:Pc)(l:Nat)(e f:V):V:=fun k=>if k<l then e k else M P l (tl l e) f k
theorem lE(hv:F9 P){e:V}(h:T P 0 e)(l:Nat):T P l (tl l e):=
  ⟨fun k hk=>by simp[tl,hk],fun k h1 h2=>by rw[tl,if_neg (by omega)];exact h.r k (by omega) h2,fun k hk=>by rw[tl];split;rfl;exact h.t k hk⟩
theorem Ru{l:Nat}{e:V}(h:T P l e):tl l e=e:=by
  funext k;rw[tl];split
  · exact(h.z k (by assumption)).symm
  rfl
theorem Rv(hv:F9 P){l:Nat}{e f:V}(he:T P 0 e)(hf:T P l f):T P 0 (app P l e f):=by
  have h:=TF hv (lE hv he l) hf;refine⟨fun k hk=>by omega,fun k _ h2=>?_,fun k hk=>?_⟩
  · rw[app];split
    · exact he.r k (by omega) h2
    exact h.r k (by omega) h2
  rw[app];split
  · exact he.t k hk
  exact h.t k hk
theorem UE(hv:F9 P){l:Nat}{e f:V}(he:T P l e)(hf:T P l f):app P l e f=M P l e f:=by
  funext k;rw[app,Ru he];split
  · rename_i hk;rw[he.z k hk,(TF hv he hf).z k hk]
  rfl
theorem aZ(hv:F9 P)(j:Nat)(q:Nat):CW (DC P (M P (j+1)) j) q z0=z0:=by
  have hz:DC P (M P (j+1)) j z0=z0:=by
    unfold DC;have this:HB (M P (j+1)) (P.cj j) z0 (P.n-(j+1)) (j+1) z0=HB (M P (j+1)) (P.cj j) z0 0 (j+1+(P.n-(j+1))) z0:=M5 (P.n-(j+1)) 0 (j+1) (fun k _ _=>rfl);rw[this];rfl
  induction q with
  |zero=>rfl
  |succ q ihq=>rw[CW,ihq,hz]
theorem oX(hv:F9 P):∀d {l:Nat} {x u:V},T P l x→T P (l+d) u→M P l x u=fun k=>if k<l+d then x k else M P (l+d) (tl (l+d) x) u k:=by
  intro d;induction d with
  | zero=>
    intro l x u hx hu;have:=UE hv hx hu;rw[←this];rfl
  | succ d ih=>
    intro l x u hx hu;by_cases hl:l<P.n
    · rw[PN hl];unfold ZZ;have h1:=hu.z l (by omega);have h2:=hx.r l (by omega) hl;rw[h1,if_neg (by omega),F8 h1];show AX (M P (l+1) (AX x l 0) u) l (x l+0)=_
      rw[show l+(d+1)=l+1+d by omega]at hu ⊢;rw[ih hx.cut hu];funext k
      simp only[AX];by_cases e:k=l
      · subst e;rw[if_pos rfl,if_pos (by omega)];omega
      rw[if_neg e,if_neg e];have:tl (l+1+d) (AX x l 0)=tl (l+1+d) x:=by
        funext q;simp only[tl];split
        · rfl
        rw[GO (by omega)]
      rw[this]
    have e1:=hx.ge (by omega);rw[WS (by omega),e1];funext k
    split
    · rfl
    rw[WS (by omega)]
theorem eG(hv:F9 P){l j:Nat}(hl:l≤j){e u:V}(he:T P 0 e)(hu:T P j u):app P l e u=app P j e u:=by
  obtain⟨d,rfl⟩:∃d,j=l+d:=⟨j-l,by omega⟩;funext k
  have ht:=oX hv d (lE hv he l) hu;rw[app,app,ht];have:tl (l+d) (tl l e)=tl (l+d) e:=by
    funext q;simp only[tl];split
    · rfl
    rw[if_neg (by omega)]
  rw[this];by_cases h1:k<l
  · rw[if_pos h1,if_pos (by omega)]
  rw[if_neg h1];show(if k<l+d then tl l e k else M P (l+d) (tl (l+d) e) u k)=_
  by_cases h2:k<l+d
  · rw[if_pos h2,if_pos h2,tl,if_neg h1]
  rw[if_neg h2,if_neg h2]
theorem wT(hv:F9 P){l:Nat}(hg:HL (T P l) (M P l)){e u v:V}(he:T P 0 e)(hu:T P l u)(hw:T P l v):app P l (app P l e u) v=app P l e (M P l u v):=by
  funext k
  have h1:=lE hv he l;have:tl l (app P l e u)=M P l (tl l e) u:=by
    funext q;simp only[tl,app];split
    · rw[(TF hv h1 hu).z q (by assumption)]
    rfl
  show(if k<l then app P l e u k else M P l (tl l (app P l e u)) v k)=if k<l then e k else M P l (tl l e) (M P l u v) k
  rw[this];by_cases h:k<l
  · rw[if_pos h,if_pos h,app,if_pos h]
  rw[if_neg h,if_neg h,hg.ac h1 hu hw]
theorem Hh(hv:F9 P){l:Nat}(hg:HL (T P l) (M P l)){e:V}(he:T P 0 e):app P l e z0=e:=by
  funext k
  rw[app,hg.r1 (lE hv he l),tl];split
  · rfl
  rfl
theorem Hi(hv:F9 P){j:Nat}(hj:j<P.n)(hg:HL (T P (j+1)) (M P (j+1))){y:V}(ty:T P (j+1) y){a:Int}(h0:0≤a)(h1:a+1<P.o j):
    M P j (un j) (AX y j a)=AX y j (a+1):=by
  rw[PN hj];unfold ZZ;rw[show un j j=1 from CM,CM,if_neg (by omega),show AX (un j) j 0=z0 by rw[un,EO,J1],T.M4 ty,aZ hv,hg.l1 ty];congr 1;omega
def TG(j:Nat)(e:V)(c:Int)(t:V):V:=fun k=>if k<j then e k else if k=j then c else t k
theorem oY(hv:F9 P){j:Nat}{e t:V}{c:Int}(hj:j<P.n)(he:T P 0 e)(h0:0≤c)(h1:c<P.o j)(ht:T P (j+1) t):T P 0 (TG j e c t):=by
  refine⟨fun k hk=>by omega,fun k _ h2=>?_,fun k hk=>?_⟩
  · rw[TG];split
    · exact he.r k (by omega) h2
    split
    · rename_i h;subst h;exact⟨h0,h1⟩
    exact ht.r k (by omega) h2
  rw[TG,if_neg (by omega),if_neg (by omega)];exact ht.t k hk
theorem Hj{j:Nat}{e t:V}{c:Int}(ht:T P (j+1) t):tl (j+1) (TG j e c t)=t:=by
  funext k;simp only[tl,TG];split
  · exact(ht.z k (by assumption)).symm
  rw[if_neg (by omega),if_neg (by omega)]
theorem YS(hv:F9 P){j:Nat}{e t u:V}{c:Int}(ht:T P (j+1) t)(hu:T P (j+1) u):app P (j+1) (TG j e c t) u=TG j e c (M P (j+1) t u):=by
  funext k
  rw[app,Hj ht];simp only[TG];by_cases h:k<j+1
  · rw[if_pos h];by_cases h2:k<j
    · rw[if_pos h2,if_pos h2]
    rw[if_neg h2,if_neg h2,if_pos (by omega),if_pos (by omega)]
  rw[if_neg h,if_neg (by omega),if_neg (by omega)]
def Hk(P:Pc)(j:Nat)(e:V):Int×V:=if e j+1=P.o j then (0,P.pw j)else (e j+1,z0)
theorem oZ(hv:F9 P){j:Nat}(hj:j<P.n)(hg:HL (T P (j+1)) (M P (j+1))){e:V}(he:T P 0 e):
    app P j e (un j)=TG j e (Hk P j e).1 (HB (M P (j+1)) (P.cj j) e (P.n-(j+1)) (j+1) (Hk P j e).2):=by
  have h1:=lE hv he j;have h2:=he.r j (by omega) hj;have h3:un j j=1:=CM;have h4:AX (un j) j 0=z0:=by rw[un,EO,J1]
  have h5:tl j e j=e j:=by rw[tl,if_neg (by omega)]
  have h6:T P (j+1) (DC P (M P (j+1)) j (AX (tl j e) j 0)):=RY hv (fun _ _=>TF hv) _;have h7:DC P (M P (j+1)) j (AX (tl j e) j 0)=HB (M P (j+1)) (P.cj j) e (P.n-(j+1)) (j+1) z0:=by
    unfold DC;exact iL _ _ _ (fun k q1 q2=>by rw[GO (by omega),tl,if_neg (by omega)])
  funext k
  rw[app,PN hj];unfold ZZ;rw[h3,h4,h5];show(if k<j then e k else (if P.o j≤e j+1 then AX (M P (j+1) (P.pw j) (M P (j+1) (DC P (M P (j+1)) j (AX (tl j e) j 0)) z0)) j (e j+1-P.o j)else AX (M P (j+1) (DC P (M P (j+1)) j (AX (tl j e) j 0)) z0) j (e j+1)) k)=_
  rw[hg.r1 h6,h7,TG];by_cases hk:k<j
  · rw[if_pos hk,if_pos hk]
  rw[if_neg hk,if_neg hk];unfold Hk;by_cases hc:e j+1=P.o j
  · rw[if_pos (by omega),if_pos hc];simp only
    rw[hg.HB _ _ (P.pw j) (fun k q1 q2=>hv.cj j k (by omega) (by omega)) (hv.pw j hj)];simp only[AX];split
    · omega
    rfl
  rw[if_neg (by omega),if_neg hc];rfl
noncomputable def inv(P:Pc)(l:Nat)(a:V):V:=open Classical in if h:∃b,T P l b∧M P l a b=z0 then Classical.choose h else z0
section
variable{l:Nat}(hg:HL (T P l) (M P l))
include hg
theorem DY{a:V}(ha:T P l a):T P l (inv P l a)∧M P l a (inv P l a)=z0:=by
  obtain⟨b,h1,h2,h3⟩:=hg.iv ha;have h:∃b,T P l b∧M P l a b=z0:=⟨b,h1,h3⟩;unfold inv;rw[dif_pos h];exact Classical.choose_spec h
theorem inv_eq{a b:V}(ha:T P l a)(hb:T P l b)(h:M P l a b=z0):b=inv P l a:=by
  obtain⟨h1,h2⟩:=DY hg ha;exact hg.lc ha hb h1 (by rw[h,h2])
theorem Rw{a:V}(ha:T P l a):M P l (inv P l a) a=z0:=by
  obtain⟨h1,h2⟩:=DY hg ha;obtain⟨b,h3,h4,h5⟩:=hg.iv ha;rw[←inv_eq hg ha h3 h5,h4]
theorem PQ{a b x:V}(ha:T P l a)(hb:T P l b)(hx:T P l x):M P l (inv P l b) (M P l a b)=x↔M P l a b=M P l b x:=by
  obtain⟨h1,h2⟩:=DY hg hb;constructor
  · intro h;rw[←h,←hg.ac hb h1 (hg.cl ha hb),h2,hg.l1 (hg.cl ha hb)]
  intro h;rw[h,←hg.ac h1 hb hx,Rw hg hb,hg.l1 hx]
end
end Go.Proofs.YtghmeeifjeafmaaGreat
