import Derived.Test.YtghmeeifjeafmaaGreatZ18
set_option linter.unusedVariables false
set_option linter.unusedSimpArgs false
namespace Go.Proofs.YtghmeeifjeafmaaGreat
noncomputable def HE(rd:Nat→V→V→V)(t:Nat→Option V)(n:Nat):Nat→V→Nat×V
  |0,x=>(n,x)
  | f+1,x=>if x (n-(f+1))=0 then HE rd t n f x else match t (n-(f+1))with
    |none=>(n-(f+1),x)
    |some y=>HE rd t n f (rd (n-(f+1)) y x)
section
variable{rd:Nat→V→V→V}{n:Nat}
theorem ID{t:Nat→Option V}{f:Nat}{x:V}(h:x (n-(f+1))=0):HE rd t n (f+1) x=HE rd t n f x:=by rw[HE,if_pos h]
theorem JQ{t:Nat→Option V}{f:Nat}{x:V}(h:x (n-(f+1))≠0)(ht:t (n-(f+1))=none):HE rd t n (f+1) x=(n-(f+1),x):=by rw[HE,if_neg h,ht]
theorem IE{t:Nat→Option V}{f:Nat}{x y:V}(h:x (n-(f+1))≠0)(ht:t (n-(f+1))=some y):HE rd t n (f+1) x=HE rd t n f (rd (n-(f+1)) y x):=by rw[HE,if_neg h,ht]
theorem bJ{t:Nat→Option V}:∀f,f≤n→∀x,(HE rd t n f x).1=n∨(n-f≤(HE rd t n f x).1∧(HE rd t n f x).1<n∧t (HE rd t n f x).1=none∧(HE rd t n f x).2 (HE rd t n f x).1≠0):=by
  intro f;induction f with
  |zero=>intro _ x;exact .inl rfl
  | succ f ih=>
    intro hf x;have up:∀z,(HE rd t n f z).1=n∨(n-(f+1)≤(HE rd t n f z).1∧(HE rd t n f z).1<n∧t (HE rd t n f z).1=none∧(HE rd t n f z).2 (HE rd t n f z).1≠0):=fun z=>by
      rcases ih (by omega) z with h|⟨h1,h2,h3,h4⟩
      · exact .inl h
      exact .inr ⟨by omega,h2,h3,h4⟩
    by_cases h:x (n-(f+1))=0
    · rw[ID h];exact up x
    cases ht:t (n-(f+1))with
    |none=>rw[JQ h ht];exact .inr ⟨Nat.le_refl _,by dsimp only;omega,ht,h⟩
    |some y=>rw[IE h ht];exact up _
theorem Z1{t t':Nat→Option V}(hle:∀d y,t d=some y→t' d=some y):∀f,f≤n→∀x,HE rd t' n f x=HE rd t' n (n-(HE rd t n f x).1) (HE rd t n f x).2:=by
  intro f;induction f with
  |zero=>intro _ x;rw[HE,HE,Nat.sub_self,HE]
  | succ f ih=>
    intro hf x;by_cases h:x (n-(f+1))=0
    · rw[ID h,ID h];exact ih (by omega) x
    cases ht:t (n-(f+1))with
    |none=>rw[JQ h ht];dsimp only;rw[show n-(n-(f+1))=f+1 by omega]
    |some y=>rw[IE h ht,IE h (hle _ _ ht)];exact ih (by omega) _
theorem UR{t:Nat→Option V}{x:V}:∀k f,f+k≤n→(∀j,n-(f+k)≤j→j<n-f→x j=0)→HE rd t n (f+k) x=HE rd t n f x:=by
  intro k;induction k with
  |zero=>intro f _ _;rfl
  | succ k ih=>
    intro f hf h;rw[←Nat.add_assoc,ID (h _ (by omega) (by omega))];exact ih f (by omega) (fun j h1 h2=>h j (by omega) h2)
end
section
variable{rd:Nat→V→V→V}{n:Nat}{o:Nat→Int}{N:Nat→V→Prop}{m:V→V→V}(l:iY n o N m)(top:∀x,N n x→x=z0)
  {t:Nat→Option V} (rk:∀d y x,d<n→t d=some y→N d x→Sm (N 0) m y x (rd d y x)∧N (d+1) (rd d y x))
include l rk
theorem eS:∀f,f≤n→∀x,N (n-f) x→N (HE rd t n f x).1 (HE rd t n f x).2:=by
  intro f;induction f with
  |zero=>intro _ x hx;rw[HE];exact hx
  | succ f ih=>
    intro hf x hx;have e:n-f=n-(f+1)+1:=by omega
    by_cases h:x (n-(f+1))=0
    · rw[ID h];exact ih (by omega) x (by rw[e];exact l.up hx h)
    cases ht:t (n-(f+1))with
    |none=>rw[JQ h ht];exact hx
    | some y=>
      rw[IE h ht];obtain⟨_,h3⟩:=rk _ y x (by omega) ht hx;exact ih (by omega) _ (by rw[e];exact h3)
theorem iZ{A:V→Prop}(hA:HW (N 0) m A)(hy:∀d y,t d=some y→A y):∀f,f≤n→∀x,N (n-f) x→(A x↔A (HE rd t n f x).2):=by
  intro f;induction f with
  |zero=>intro _ x hx;rw[HE]
  | succ f ih=>
    intro hf x hx;have e:n-f=n-(f+1)+1:=by omega
    by_cases h:x (n-(f+1))=0
    · rw[ID h];exact ih (by omega) x (by rw[e];exact l.up hx h)
    cases ht:t (n-(f+1))with
    |none=>rw[JQ h ht]
    | some y=>
      rw[IE h ht];obtain⟨h1,h3⟩:=rk _ y x (by omega) ht hx;rw[←ih (by omega) _ (by rw[e];exact h3)];exact h1 A hA (hy _ _ ht)
include top
theorem Io:∀f,f≤n→∀x,N (n-f) x→(HE rd t n f x).1=n→Ps N m t n f x:=by
  intro f;induction f with
  |zero=>intro _ x hx _;exact top x hx
  | succ f ih=>
    intro hf x hx hs;have e:n-f=n-(f+1)+1:=by omega
    refine⟨l.le (Nat.zero_le _) hx,?_⟩;by_cases h:x (n-(f+1))=0
    · rw[ID h]at hs;exact .inl ⟨h,ih (by omega) x (by rw[e];exact l.up hx h) hs⟩
    cases ht:t (n-(f+1))with
    |none=>rw[JQ h ht]at hs;dsimp only at hs;omega
    | some y=>
      rw[IE h ht]at hs;obtain⟨h1,h3⟩:=rk _ y x (by omega) ht hx;exact .inr ⟨y,_,rfl,h1,ih (by omega) _ (by rw[e];exact h3) hs⟩
end
def Cm(m:V→V→V)(y z c:V):Prop:=m (m z y) c=m y z∨m (m y z) c=m z y
theorem Cm.sy{m:V→V→V}{y z c:V}(h:Cm m y z c):Cm m z y c:=h.symm
theorem Cm.mem{N:V→Prop}{m:V→V→V}(g:HL N m){A:V→Prop}(hA:HW N m A){y z c:V}(h:Cm m y z c)(hy:A y)(hz:A z)(hc:N c):A c:=by
  rcases h with h|h
  · exact hA.l g (hA.mu hz hy) hc (by rw[h];exact hA.mu hy hz)
  exact hA.l g (hA.mu hy hz) hc (by rw[h];exact hA.mu hz hy)
def Pd(rd:Nat→V→V→V)(t:Nat→Option V)(n:Nat)(W:V→Prop)(z:V):Prop:=(HE rd t n n z).1=n∨∃r,W r∧HE rd t n n z=HE rd t n n r
structure Inv(n:Nat)(o:Nat→Int)(N:Nat→V→Prop)(m:V→V→V)(rd:Nat→V→V→V)(us:V→Prop)(t:Nat→Option V)(W:V→Prop):Prop where
  tb:∀d y,t d=some y→d<n∧N d y∧y d=1
  wn:∀v,W v→N 0 v
  pc:∀d e y z,t d=some y→t e=some z→d<e→∃c,N 0 c∧Cm m y z c∧Pd rd t n W c
  pp:∀d y,t d=some y→Pd rd t n W (rep m y (o d).toNat)
  g1:∀d y,t d=some y→bI (N 0) m us y
  g2:∀v,W v→bI (N 0) m us v
  g3:∀u,us u→bI (N 0) m (fun v=>W v∨∃d,t d=some v) u
section
variable{n:Nat}{o:Nat→Int}{N:Nat→V→Prop}{m:V→V→V}{rd:Nat→V→V→V}{us:V→Prop}(l:iY n o N m)(top:∀x,N n x→x=z0)
  (rk:∀d y x,d<n→N d y→y d=1→N d x→Sm (N 0) m y x (rd d y x)∧N (d+1) (rd d y x)) {t:Nat→Option V} {W:V→Prop}
theorem Inv.Sy(rk:∀d y x,d<n→N d y→y d=1→N d x→Sm (N 0) m y x (rd d y x)∧N (d+1) (rd d y x))(h:Inv n o N m rd us t W):∀d y x,d<n→t d=some y→N d x→Sm (N 0) m y x (rd d y x)∧N (d+1) (rd d y x):=
  fun d y x h1 h2 h3=>rk d y x h1 (h.tb d y h2).2.1 (h.tb d y h2).2.2 h3
include l rk
omit rk in
theorem Inv.low(h:Inv n o N m rd us t W){d e:Nat}{y z c:V}(h1:t d=some y)(h2:t e=some z)(hde:d<e)(hc:N 0 c)(hm:Cm m y z c):N (d+1) c:=by
  obtain⟨hd,y1,y2⟩:=h.tb d y h1;obtain⟨he,z1,z2⟩:=h.tb e z h2;have z3:=l.le (show d+1≤e by omega) z1;have zd:=l.mono z3;have Ta:N d c:=Cm.mem (l.g 0) (l.Yz d) hm y1 zd hc;refine l.up Ta ?_;have e0:=l.lead hd (l.g d).e0 Ta;rw[(l.g d).l1 Ta]at e0;have e1:=l.lead hd zd y1;have e2:=l.lead hd y1 zd;rw[l.nz z3,y2]at e1 e2;have ho:=l.op hd;have key:∀q:Int,(q%o d+c d)%o d=q%o d→c d=0:=by
    intro q hq;rw[Int.emod_add_emod]at hq;have:=Int.emod_eq_emod_iff_emod_sub_eq_zero.1 hq;rw[show q+c d-q=c d by omega]at this;rw[e0];show((z0 d:Int)+c d)%o d=0
    rw[show(z0 d:Int)=0 from rfl,Int.zero_add];exact this
  rcases hm with hm|hm
  · have e3:=l.lead hd ((l.g d).cl zd y1) Ta;rw[hm,e1,e2,show(0:Int)+1=1+0 by omega]at e3;exact key _ e3.symm
  have e3:=l.lead hd ((l.g d).cl y1 zd) Ta;rw[hm,e1,e2,show(0:Int)+1=1+0 by omega]at e3;exact key _ e3.symm
include top
theorem Inv.fin(h:Inv n o N m rd us t (fun _=>False)):XW n o N m t∧∀x,Sg (N 0) m t n n x↔bI (N 0) m us x:=by
  have Tb:∀d c,d<n→N (d+1) c→Pd rd t n (fun _=>False) c→Ps N m t n (n-(d+1)) c:=by
    intro d c hd hc hp;rcases hp with hp|⟨r,hr,_⟩
    · refine Io l top (h.Sy rk) _ (by omega) c (by rw[show n-(n-(d+1))=d+1 by omega];exact hc) ?_;have:=UR (rd:=rd) (t:=t) (x:=c) (n:=n) (d+1) (n-(d+1)) (by omega) (fun j _ h2=>l.nz (l.le (by omega) hc));rw[show n-(d+1)+(d+1)=n by omega]at this;rw[←this];exact hp
    exact hr.elim
  have c:XW n o N m t:=by
    refine XW.of l h.tb (fun d e y z h1 h2 h3=>?_) (fun d y h1=>?_)
    · obtain⟨c,c1,c2,c3⟩:=h.pc d e y z h1 h2 h3;exact⟨c,Tb d c (h.tb d y h1).1 (h.low l h1 h2 h3 c1 c2) c3,c2⟩
    obtain⟨hd,y1,y2⟩:=h.tb d y h1;refine Tb d _ hd (l.up ((l.g d).rep y1 _) ?_) (h.pp d y h1);have ho:=l.op hd;rw[l.EL hd y1 y2,Int.toNat_of_nonneg (by omega),Int.emod_self]
  refine⟨c,c.gen l h.g1 (fun u hu=>?_)⟩;refine h.g3 u hu _ (c.sub l (Nat.le_refl n)) (fun v hv=>?_);rcases hv with hv|⟨d,hd⟩
  · exact hv.elim
  have:=c.down l (Nat.zero_le d) (by have:=(c.tb d v hd).1;omega) (c.mem l hd);rwa [Nat.sub_zero]at this
theorem Inv.drop(h:Inv n o N m rd us t W){x:V}{W':V→Prop}(hx:W x)(hs:(HE rd t n n x).1=n)(h1:∀v,W v→v=x∨W' v)(h2:∀v,W' v→W v):Inv n o N m rd us t W':=by
  have pd:∀z,Pd rd t n W z→Pd rd t n W' z:=by
    rintro z (hz|⟨r,r1,r2⟩)
    · exact .inl hz
    rcases h1 r r1 with rfl|r3
    · exact .inl (by rw[r2];exact hs)
    exact .inr ⟨r,r3,r2⟩
  refine⟨h.tb,fun v hv=>h.wn v (h2 v hv),fun d e y z a b c=>?_,fun d y a=>pd _ (h.pp d y a),h.g1,fun v hv=>h.g2 v (h2 v hv),fun u hu A hA n8=>?_⟩
  · obtain⟨w,w1,w2,w3⟩:=h.pc d e y z a b c;exact⟨w,w1,w2,pd _ w3⟩
  refine h.g3 u hu A hA (fun v hv=>?_);rcases hv with hv|hv
  · rcases h1 v hv with rfl|h3
    · have hN:=h.wn v hx;rw[iZ l (h.Sy rk) hA (fun d y hy=>n8 y (.inr ⟨d,hy⟩)) n (Nat.le_refl n) v (by rw[Nat.sub_self];exact hN)];have:=eS l (h.Sy rk) n (Nat.le_refl n) v (by rw[Nat.sub_self];exact hN);rw[hs]at this;rw[top _ this];exact hA.e
    exact n8 v (.inl h3)
  exact n8 v (.inr hv)
omit top in

theorem Inv.add(h:Inv n o N m rd us t W){x:V}{W':V→Prop}(hx:W x){d:Nat}{r y:V}(hs:HE rd t n n x=(d,r))(hd:d<n)(hy:N d y)(Tc:y d=1)(hcy:Cy (N 0) m r y)
    (h1:∀v,W v→v=x∨W' v) (hr:W' r) (hp:W' (rep m y (o d).toNat)) (hc:∀e z,e≠d→t e=some z→∃c,W' c∧Cm m y z c)
    (h2:∀v,W' v→W v∨v=r∨v=rep m y (o d).toNat∨∃e z,t e=some z∧Cm m y z v∧N 0 v):Inv n o N m rd us (fun k=>if k=d then some y else t k) W':=by
  have hxN:=h.wn x hx;have g:=l.g 0;have bG:=l.le (Nat.zero_le d) hy;have htd:t d=none:=by
    have:=bJ (rd:=rd) (t:=t) n (Nat.le_refl n) x;rw[hs]at this;rcases this with q|q
    · dsimp only at q;omega
    exact q.2.2.1
  have hrN:N d r:=by
    have:=eS l (h.Sy rk) n (Nat.le_refl n) x (by rw[Nat.sub_self];exact hxN);rwa [hs]at this
  have hle:∀e z,t e=some z→(if e=d then some y else t e)=some z:=fun e z he=>by
    rw[if_neg (fun q=>by rw[q,htd]at he;cases he)];exact he
  have Td:HE rd (fun k=>if k=d then some y else t k) n n r=HE rd (fun k=>if k=d then some y else t k) n (n-d) r:=by
    have:=UR (rd:=rd) (t:=fun k=>if k=d then some y else t k) (x:=r) (n:=n) d (n-d) (by omega) (fun j _ q=>l.nz (l.le (by omega) hrN));rwa [show n-d+d=n by omega]at this
  have pd:∀z,Pd rd t n W z→Pd rd (fun k=>if k=d then some y else t k) n W' z:=by
    rintro z (hz|⟨q,q1,q2⟩)
    · left
      rw[Z1 hle n (Nat.le_refl n) z,hz,Nat.sub_self,HE]
    right
    rcases h1 q q1 with rfl|q3
    · exact⟨r,hr,by rw[Z1 hle n (Nat.le_refl n) z,q2,hs,Td]⟩
    exact⟨q,q3,by rw[Z1 hle n (Nat.le_refl n) z,Z1 hle n (Nat.le_refl n) q,q2]⟩
  have Za:∀A,HW (N 0) m A→(∀e z,t e=some z→A z)→(A x↔A r):=fun A hA ht=>by
    have:=iZ l (h.Sy rk) hA ht n (Nat.le_refl n) x (by rw[Nat.sub_self];exact hxN);rwa [hs]at this
  have hrG:bI (N 0) m us r:=fun A hA hu=>(Za A hA (fun e z he=>h.g1 e z he A hA hu)).1 (h.g2 x hx A hA hu)
  have hyG:bI (N 0) m us y:=fun A hA hu=>hcy A hA (hrG A hA hu)
  have Aq:=l.le (Nat.zero_le d) hrN;refine⟨fun e z he=>?_,fun v hv=>?_,fun e f z w he hf hef=>?_,fun e z he=>?_,fun e z he=>?_,fun v hv=>?_,fun u hu A hA n8=>?_⟩
  · split at he
    · rename_i q;cases he;subst q;exact⟨hd,hy,Tc⟩
    exact h.tb e z he
  · rcases h2 v hv with q|q|q|⟨_,_,_,_,q⟩
    · exact h.wn v q
    · rw[q];exact Aq
    · rw[q];exact g.rep bG _
    exact q
  · split at he
    · rename_i q;cases he;subst q;rw[if_neg (by omega)]at hf;obtain⟨c,c1,c2⟩:=hc f w (by omega) hf;have cN:N 0 c:=by
        rcases h2 c c1 with q|q|q|⟨_,_,_,_,q⟩
        · exact h.wn c q
        · rw[q];exact Aq
        · rw[q];exact g.rep bG _
        exact q
      exact⟨c,cN,c2,.inr ⟨c,c1,rfl⟩⟩
    rename_i q;split at hf
    · rename_i q2;cases hf;subst q2;obtain⟨c,c1,c2⟩:=hc e z q he;have cN:N 0 c:=by
        rcases h2 c c1 with q|q|q|⟨_,_,_,_,q⟩
        · exact h.wn c q
        · rw[q];exact Aq
        · rw[q];exact g.rep bG _
        exact q
      exact⟨c,cN,c2.sy,.inr ⟨c,c1,rfl⟩⟩
    obtain⟨c,c1,c2,c3⟩:=h.pc e f z w he hf hef;exact⟨c,c1,c2,pd _ c3⟩
  · split at he
    · rename_i q;cases he;subst q;exact .inr ⟨_,hp,rfl⟩
    exact pd _ (h.pp e z he)
  · split at he
    · cases he;exact hyG
    exact h.g1 e z he
  · rcases h2 v hv with q|q|q|⟨e,z,q1,q2,q3⟩
    · exact h.g2 v q
    · rw[q];exact hrG
    · rw[q];exact fun A hA hu=>hA.rep (hyG A hA hu) _
    exact fun A hA hu=>q2.mem g hA (hyG A hA hu) (h.g1 e z q1 A hA hu) q3
  refine h.g3 u hu A hA (fun v hv=>?_);have ht:∀e z,t e=some z→A z:=fun e z he=>n8 z (.inr ⟨e,hle e z he⟩)
  rcases hv with hv|⟨e,he⟩
  · rcases h1 v hv with rfl|h3
    · exact(Za A hA ht).2 (n8 r (.inl hr))
    exact n8 v (.inl h3)
  exact ht e v he
omit l rk top in

theorem Inv.start{W:V→Prop}(h:∀v,W v→N 0 v):Inv n o N m rd W (fun _=>none) W:=
  ⟨fun d y q=>(by cases q),h,fun d e y z q=>(by cases q),fun d y q=>(by cases q),fun d y q=>(by cases q),fun v hv A hA hu=>hu v hv,fun u hu A hA n8=>n8 u (.inl hu)⟩
end
end Go.Proofs.YtghmeeifjeafmaaGreat
namespace Go.Proofs.YtghmeeifjeafmaaGreat
section
variable{P:Pc}(hv:F9 P)(hc:DI P 0)
include hv hc
theorem Ip{e:Nat}(he:e<P.n){x u:V}(hx:T P 0 x)(hu:T P e u):(∀k,k<e→M P 0 x u k=x k)∧M P 0 x u e=(x e+u e)%P.o e:=by
  have h:=oX hv e (l:=0) hx (u:=u) (by rw[Nat.zero_add];exact hu);rw[Nat.zero_add]at h;have ht:T P e (tl e x):=lE hv hx e;refine⟨fun k hk=>by rw[h];simp only[if_pos hk],?_⟩;have h2:M P 0 x u e=M P e (tl e x) u e:=by rw[h];simp only[Nat.lt_irrefl,if_false]
  have h3:M P e (tl e x) u=M P 0 (tl e x) u:=(RZ hv (Nat.zero_le e) ht hu).symm;have h4:tl e x e=x e:=by unfold tl;rw[if_neg (by omega)]
  rw[h2,h3,(lvl hv hc).lead he ht hu,h4]
theorem eT{S:V→Prop}(hS:HW (T P 0) (M P 0) S){d:Nat}{z z':V}(h1:S z)(h2:S z')(z1:T P d z)(z2:T P d z')(hd:d<P.n)(h0:z d=z' d)
    (hz:∀e,d<e→e<P.n→(∃x,S x∧T P e x∧x e≠0)→z e=0∧z' e=0):z=z':=by
  have l:=lvl hv hc;have g:=l.g 0;have n1:=hS.n h1;have n2:=hS.n h2;obtain⟨w,w1,w2,w3⟩:=g.iv n1;have hw:S w:=hS.iv h1 w1 w3;have hs:S (M P 0 w z'):=hS.mu hw h2;have hzs:M P 0 z (M P 0 w z')=z':=by rw[←g.ac n1 w1 n2,w3,g.l1 n2]
  have hwd:T P d w:=(l.Yz d).iv z1 w1 w3;have key:∀k,d+k≤P.n→T P (d+k) (M P 0 w z'):=by
    intro k;induction k with
    |zero=>intro _;exact(l.g d).cl hwd z2
    | succ k ih=>
      intro hk;have hT:=ih (by omega);refine l.up hT ?_;have he:d+k<P.n:=by omega
      obtain⟨_,a2⟩:=Ip hv hc he n1 hT;rw[hzs]at a2;have hr:=hT.r (d+k) (Nat.le_refl _) he;have ho:=l.op he;apply Classical.byContradiction;intro AL;rcases Nat.eq_zero_or_pos k with rfl|YG
      · have q1:=z1.r d (Nat.le_refl _) hd;have q2:=z2.r d (Nat.le_refl _) hd;have AL:¬M P 0 w z' d=0:=AL;rw[Nat.add_zero]at a2 hr;rw[h0]at a2;have q3:(z' d+M P 0 w z' d)%P.o d=z' d%P.o d:=by rw[←a2,Int.emod_eq_of_lt q2.1 q2.2]
        have q4:=Int.emod_eq_emod_iff_emod_sub_eq_zero.1 q3;rw[show z' d+M P 0 w z' d-z' d=M P 0 w z' d by omega,Int.emod_eq_of_lt hr.1 hr.2]at q4;exact AL q4
      obtain⟨b1,b2⟩:=hz (d+k) (by omega) he ⟨_,hs,hT,AL⟩;rw[b1,b2,Int.zero_add,Int.emod_eq_of_lt hr.1 hr.2]at a2;exact AL a2.symm
  have KV:M P 0 w z'=z0:=(key (P.n-d) (by omega)).ge (by omega);rw[KV,g.r1 n1]at hzs;exact hzs
end
theorem Cy.rep{N:V→Prop}{m:V→V→V}(y:V)(k:Nat):Cy N m y (Go.Proofs.YtghmeeifjeafmaaGreat.rep m y k):=fun A hA hy=>hA.rep hy k
theorem Cy.A1K{N:V→Prop}{m:V→V→V}{y w:V}(hw:N w)(h:m y w=z0)(k:Nat):Cy N m y (Go.Proofs.YtghmeeifjeafmaaGreat.rep m w k):=fun A hA hy=>hA.rep (hA.iv hy hw h) k
noncomputable def WB(P:Pc)(d:Nat)(y x:V):V:=M P 0 (rep (M P 0) y (P.o d-x d).toNat) x
theorem US{P:Pc}(hv:F9 P)(hc:DI P 0):∀d y x,d<P.n→T P d y→y d=1→T P d x→Sm (T P 0) (M P 0) y x (WB P d y x)∧T P (d+1) (WB P d y x):=by
  intro d y x hd hy h1 hx;have l:=lvl hv hc;have hr:=hx.r d (Nat.le_refl _) hd;have hu:=(l.g d).rep hy (P.o d-x d).toNat;refine⟨Sm.left (l.g 0) (l.le (Nat.zero_le d) hx) (Cy.rep y _),?_⟩;refine l.up ((l.g d).cl hu hx) ?_;show M P 0 (rep (M P 0) y (P.o d-x d).toNat) x d=0
  rw[l.lead hd hu hx,l.EL hd hy h1,Int.toNat_of_nonneg (by omega),Int.emod_add_emod,show P.o d-x d+x d=P.o d by omega,Int.emod_self]
end Go.Proofs.YtghmeeifjeafmaaGreat
namespace Go.Proofs.YtghmeeifjeafmaaGreat
noncomputable def dD(rd:Nat→V→V→V)(dn:Nat→Option V):Nat→Nat→V→V
  |0,_,x=>x
  | f+1,e,x=>dD rd dn f (e+1) (match dn e with
    |none=>x
    |some w=>if x e=0 then x else rd e w x)
section
variable{P:Pc}(hv:F9 P)(hc:DI P 0){rd:Nat→V→V→V}
  (rk:∀e w x,e<P.n→T P e w→w e=1→T P 0 x→∃u,Cy (T P 0) (M P 0) w u∧T P e u∧rd e w x=M P 0 x u∧(x e+u e)%P.o e=0)
include hv hc rk
theorem Iq{S:V→Prop}(hS:HW (T P 0) (M P 0) S){dn:Nat→Option V}(hd:∀e w,dn e=some w→e<P.n∧S w∧T P e w∧w e=1):
    ∀f e x,e+f≤P.n→S x→S (dD rd dn f e x)∧(∀k,k<e→dD rd dn f e x k=x k)∧∀k,e≤k→k<e+f→dn k≠none→dD rd dn f e x k=0:=by
  intro f;induction f with
  |zero=>intro e x _ hx;exact⟨hx,fun _ _=>rfl,fun k h1 h2=>by omega⟩
  | succ f ih=>
    intro e x he hx;rw[dD];have step:∃x',(match dn e with
        |none=>x
        |some w=>if x e=0 then x else rd e w x)=x'∧S x'∧(∀k,k<e→x' k=x k)∧(dn e≠none→x' e=0):=by
      cases hw:dn e with
      |none=>exact⟨x,rfl,hx,fun _ _=>rfl,fun h=>absurd rfl h⟩
      | some w=>
        obtain⟨w0,w1,w2,w3⟩:=hd e w hw;by_cases h0:x e=0
        · exact⟨x,by dsimp only;rw[if_pos h0],hx,fun _ _=>rfl,fun _=>h0⟩
        obtain⟨u,u1,u2,u3,u4⟩:=rk e w x w0 w2 w3 (hS.n hx);obtain⟨a1,a2⟩:=Ip hv hc w0 (hS.n hx) u2;exact⟨M P 0 x u,by dsimp only;rw[if_neg h0,u3],hS.mu hx (u1 S hS w1),a1,fun _=>by rw[a2,u4]⟩
    obtain⟨x',e1,s1,s2,s3⟩:=step;rw[e1];obtain⟨i1,i2,i3⟩:=ih (e+1) x' (by omega) s1;refine⟨i1,fun k hk=>by rw[i2 k (by omega),s2 k hk],fun k h1 h2 h3=>?_⟩;by_cases q:k=e
    · subst q;rw[i2 k (by omega)];exact s3 h3
    exact i3 k (by omega) (by omega) h3
end
structure UT(P:Pc)(S:V→Prop)(dn:Nat→Option V):Prop where
  el:∀d z,dn d=some z→d<P.n∧S z∧T P d z∧z d=1∧∀e,d<e→e<P.n→(∃x,S x∧T P e x∧x e≠0)→z e=0
  no:∀d,d<P.n→dn d=none→¬∃x,S x∧T P d x∧x d≠0
theorem UT.uniq{P:Pc}(hv:F9 P)(hc:DI P 0){S:V→Prop}(hS:HW (T P 0) (M P 0) S){dn Br:Nat→Option V}(h:UT P S dn)(h':UT P S Br){d:Nat}(hd:d<P.n):dn d=Br d:=by
  cases h1:dn d with
  | none=>
    cases h2:Br d with
    |none=>rfl
    | some z=>
      obtain⟨_,a1,a2,a3,_⟩:=h'.el d z h2;exact absurd ⟨z,a1,a2,by rw[a3];omega⟩ (h.no d hd h1)
  | some z=>
    obtain⟨_,a1,a2,a3,a4⟩:=h.el d z h1;cases h2:Br d with
    |none=>exact absurd ⟨z,a1,a2,by rw[a3];omega⟩ (h'.no d hd h2)
    | some z'=>
      obtain⟨_,b1,b2,b3,b4⟩:=h'.el d z' h2;rw[eT hv hc hS a1 b1 a2 b2 hd (by rw[a3,b3]) (fun e q1 q2 q3=>⟨a4 e q1 q2 q3,b4 e q1 q2 q3⟩)]
end Go.Proofs.YtghmeeifjeafmaaGreat
namespace Go.Proofs.YtghmeeifjeafmaaGreat
noncomputable def NN(rd:Nat→V→V→V)(t:Nat→Option V)(n:Nat):Nat→Nat→Option V
  |0=>fun _=>none
  | j+1=>match t (n-1-j)with
    |none=>NN rd t n j
    |some y=>fun k=>if k=n-1-j then some (dD rd (NN rd t n j) j (n-j) y)else NN rd t n j k
section
variable{P:Pc}(hv:F9 P)(hc:DI P 0){rd:Nat→V→V→V}
  (rk:∀e w x,e<P.n→T P e w→w e=1→T P 0 x→∃u,Cy (T P 0) (M P 0) w u∧T P e u∧rd e w x=M P 0 x u∧(x e+u e)%P.o e=0)
include hv hc rk
theorem q9{S:V→Prop}(hS:HW (T P 0) (M P 0) S){t:Nat→Option V}(ht:∀d y,t d=some y→d<P.n∧S y∧T P d y∧y d=1):∀j,j≤P.n→
    (∀d z,NN rd t P.n j d=some z→P.n-j≤d∧d<P.n∧S z∧T P d z∧z d=1∧∀e,d<e→e<P.n→t e≠none→z e=0)∧∀d,P.n-j≤d→d<P.n→(NN rd t P.n j d=none↔t d=none):=by
  intro j;induction j with
  |zero=>intro _;exact⟨fun d z h=>(by cases h),fun d h1 h2=>by omega⟩
  | succ j ih=>
    intro hj;obtain⟨i1,i2⟩:=ih (by omega);have eqn:P.n-1-j=P.n-(j+1):=by omega
    cases hy:t (P.n-1-j)with
    | none=>
      have e1:NN rd t P.n (j+1)=NN rd t P.n j:=by rw[NN,hy]
      rw[e1];refine⟨fun d z h=>?_,fun d h1 h2=>?_⟩
      · obtain⟨a1,a2,a3⟩:=i1 d z h;exact⟨by omega,a2,a3⟩
      by_cases q:d=P.n-1-j
      · subst q;rw[hy];refine⟨fun _=>rfl,fun _=>?_⟩;cases hq:NN rd t P.n j (P.n-1-j)with
        |none=>rfl
        |some z=>have:=(i1 _ z hq).1;omega
      exact i2 d (by omega) h2
    | some y=>
      have e1:NN rd t P.n (j+1)=fun k=>if k=P.n-1-j then some (dD rd (NN rd t P.n j) j (P.n-j) y)else NN rd t P.n j k:=by rw[NN,hy]
      rw[e1];obtain⟨y0,y1,y2,y3⟩:=ht _ y hy;obtain⟨r1,r2,r3⟩:=Iq hv hc rk hS (dn:=NN rd t P.n j) (fun e w he=>by
        obtain⟨a1,a2,a3,a4,a5,_⟩:=i1 e w he;exact⟨a2,a3,a4,a5⟩) j (P.n-j) y (by omega) y1
      refine⟨fun d z h=>?_,fun d h1 h2=>?_⟩
      · dsimp only at h;split at h
        · rename_i q;cases h;have hT:=hS.n r1;refine⟨by omega,by omega,r1,⟨fun k hk=>?_,fun k _ h3=>hT.r k (Nat.zero_le k) h3,hT.t⟩,?_,fun e h3 h4 h5=>?_⟩
          · rw[r2 k (by omega)];exact y2.z k (by omega)
          · rw[r2 d (by omega),q];exact y3
          refine r3 e (by omega) (by omega) (fun h6=>h5 ((i2 e (by omega) h4).1 h6))
        obtain⟨a1,a2,a3⟩:=i1 d z h;exact⟨by omega,a2,a3⟩
      dsimp only;by_cases q:d=P.n-1-j
      · rw[if_pos q,q,hy];exact⟨fun h=>(by cases h),fun h=>(by cases h)⟩
      rw[if_neg q];exact i2 d (by omega) h2
theorem j0{m:V→V→V}(l:iY P.n P.o (T P) m){t:Nat→Option V}(c:XW P.n P.o (T P) m t)(hS:HW (T P 0) (M P 0) (Sg (T P 0) m t P.n P.n)):UT P (Sg (T P 0) m t P.n P.n) (NN rd t P.n P.n):=by
  obtain⟨h1,h2⟩:=q9 hv hc rk hS (t:=t) (fun d y hy=>by
    obtain⟨a1,a2,a3⟩:=c.tb d y hy;have:=c.down l (Nat.zero_le d) (by omega) (c.mem l hy);rw[Nat.sub_zero]at this;exact⟨a1,this,a2,a3⟩) P.n (Nat.le_refl _)
  refine⟨fun d z h=>?_,fun d hd h=>?_⟩
  · obtain⟨_,a2,a3,a4,a5,a6⟩:=h1 d z h;exact⟨a2,a3,a4,a5,fun e q1 q2 q3=>a6 e q1 q2 ((c.depth l q2).2 q3)⟩
  rw[←c.depth l hd];exact fun q=>q ((h2 d (by omega) hd).1 h)
end
end Go.Proofs.YtghmeeifjeafmaaGreat
namespace Go.Proofs.YtghmeeifjeafmaaGreat
noncomputable def n9(P:Pc)(d:Nat)(y x:V):V:=M P 0 x (LL P y (0-x d))
section
variable{P:Pc}(hv:F9 P)(hc:DI P 0)
theorem qA{t:Nat→Option V}:∀f d x,d+f=P.n→EB P t f d x=HE (n9 P) t P.n f x:=by
  intro f;induction f with
  |zero=>intro d x hd;rw[EB,HE,show d=P.n by omega]
  | succ f ih=>
    intro d x hd;have e:P.n-(f+1)=d:=by omega
    rw[EB,HE,e];split
    · exact ih _ _ (by omega)
    cases t d with
    |none=>rfl
    |some y=>exact ih _ _ (by omega)
theorem UU:∀x,T P P.n x→x=z0:=fun x hx=>hx.ge (Nat.le_refl _)
theorem bK{t:Nat→Option V}{d:Nat}{y:V}:∀k v,v∈IQ P t d y k↔∃e z,e<k∧e≠d∧t e=some z∧v=xR P y z:=by
  intro k;induction k with
  |zero=>intro v;rw[IQ];exact⟨fun h=>(by cases h),fun ⟨e,z,h,_⟩=>(by omega)⟩
  | succ k ih=>
    intro v;rw[IQ];split
    · rename_i hk;rw[ih v];constructor
      · rintro⟨e,z,h1,h2,h3,h4⟩;exact⟨e,z,by omega,h2,h3,h4⟩
      rintro⟨e,z,h1,h2,h3,h4⟩;refine⟨e,z,?_,h2,h3,h4⟩;rcases Nat.lt_or_ge e k with q|q
      · exact q
      rw[show e=k by omega,hk]at h3;cases h3
    rename_i w hk;split
    · rename_i q0;rw[ih v];constructor
      · rintro⟨e,z,h1,h2,h3,h4⟩;exact⟨e,z,by omega,h2,h3,h4⟩
      rintro⟨e,z,h1,h2,h3,h4⟩;exact⟨e,z,by omega,h2,h3,h4⟩
    rename_i q0;rw[List.mem_append,ih v,List.mem_singleton];constructor
    · rintro(⟨e,z,h1,h2,h3,h4⟩|h)
      · exact⟨e,z,by omega,h2,h3,h4⟩
      exact⟨k,w,by omega,q0,hk,h⟩
    rintro⟨e,z,h1,h2,h3,h4⟩;rcases Nat.lt_or_ge e k with q|q
    · exact .inl ⟨e,z,q,h2,h3,h4⟩
    obtain rfl:e=k:=by omega
    rw[hk]at h3;cases h3;exact .inr h4
include hv hc
theorem Cy.pw{y:V}(hy:T P 0 y)(k:Int):Cy (T P 0) (M P 0) y (LL P y k):=by
  have hg:=BO hv hc;unfold LL;split
  · exact Cy.A1K (DY hg hy).1 (DY hg hy).2 _
  exact Cy.rep y _
theorem eU:∀d y x,d<P.n→T P d y→y d=1→T P d x→Sm (T P 0) (M P 0) y x (n9 P d y x)∧T P (d+1) (n9 P d y x):=
  fun d y x hd hy h1 hx=>⟨Sm.right (BO hv hc) (hx.mono hv (Nat.zero_le d)) (Cy.pw hv hc (hy.mono hv (Nat.zero_le d)) _),XR hv hc hd hx hy h1⟩
theorem qB{y z:V}(hy:T P 0 y)(hz:T P 0 z):Cm (M P 0) y z (xR P y z):=by
  have g:=BO hv hc;left
  obtain⟨h1,h2⟩:=DY g (g.cl hz hy);unfold xR;rw[←g.ac (g.cl hz hy) h1 (g.cl hy hz),h2,g.l1 (g.cl hy hz)]
variable(hp:∀d,d<P.n→J0 (P.o d)){us:V→Prop}
include hp
theorem y5{t:Nat→Option V}{w:List V}{x:V}(hG:LN P t)(h:Inv P.n P.o (T P) (M P 0) (n9 P) us t (fun v=>v∈w++[x])):
    Inv P.n P.o (T P) (M P 0) (n9 P) us (eQ P t w (EB P t P.n 0 x)).1 (fun v=>v∈(eQ P t w (EB P t P.n 0 x)).2):=by
  have l:=lvl hv hc;have JA:x∈w++[x]:=List.mem_append.2 (.inr (List.mem_singleton.2 rfl));have hx:T P 0 x:=h.wn x JA;obtain⟨i1,i2,i3,i4⟩:=YZ hv hc hG P.n 0 x (by omega) hx;have My:=qA (P:=P) (t:=t) P.n 0 x (by omega);obtain⟨s,hs⟩:∃s,EB P t P.n 0 x=s:=⟨_,rfl⟩;rw[hs]at i1 i2 i3 i4 My ⊢;unfold eQ;split
  · rename_i h1;refine h.drop l UU (eU hv hc) JA (by rw[←My];exact h1) (fun v hw=>?_) (fun v hw=>List.mem_append.2 (.inl hw));rcases List.mem_append.1 hw with q|q
    · exact .inr q
    exact .inl (List.mem_singleton.1 q)
  rename_i AL;have hd:s.1<P.n:=by omega
  obtain⟨j1,j2⟩:=i4 hd;obtain⟨y1,y2⟩:=RA hv hc hp hd i3 j2;have bG:=y1.mono hv (Nat.zero_le _);have Te:=i3.mono hv (Nat.zero_le _);have ho:=l.op hd;have gL:LL P (P7 P s) (P.o s.1)=rep (M P 0) (P7 P s) (P.o s.1).toNat:=by unfold LL;rw[if_neg (by omega)]
  have OI:∀e,e≠s.1→oset t s.1 (P7 P s) e=t e:=fun e he=>by unfold oset;rw[if_neg he]
  dsimp only;rw[gL];refine Inv.add l (eU hv hc) h JA (d:=s.1) (r:=s.2) (y:=P7 P s) (by rw[←My]) hd y1 y2 (Cy.pw hv hc Te _) (fun v hw=>?_) ?_ ?_ (fun e z h1 h2=>?_) (fun v hw=>?_)
  · rcases List.mem_append.1 hw with q|q
    · exact .inr (by simp[q])
    exact .inl (List.mem_singleton.1 q)
  · simp
  · simp
  · refine⟨xR P (P7 P s) z,?_,qB hv hc bG ((hG e z h2).2.1.mono hv (Nat.zero_le _))⟩;refine List.mem_append.2 (.inr ((bK _ _).2 ⟨e,z,(hG e z h2).1,h1,by rw[OI e h1];exact h2,rfl⟩))
  rcases List.mem_append.1 hw with q|q
  · rcases List.mem_append.1 q with q|q
    · rcases List.mem_append.1 q with q|q
      · exact .inl (List.mem_append.2 (.inl q))
      exact .inr (.inl (List.mem_singleton.1 q))
    exact .inr (.inr (.inl (List.mem_singleton.1 q)))
  obtain⟨e,z,e1,e2,e3,rfl⟩:=(bK _ _).1 q;rw[OI e e2]at e3;have hz:=(hG e z e3).2.1.mono hv (Nat.zero_le _);exact .inr (.inr (.inr ⟨e,z,e3,qB hv hc bG hz,Bn hv hc bG hz⟩))
theorem qC:∀(f:Nat) (t:Nat→Option V) (w:List V),LN P t→Inv P.n P.o (T P) (M P 0) (n9 P) us t (fun v=>v∈w)→P8 P t w≤f→
    Inv P.n P.o (T P) (M P 0) (n9 P) us (R9 P f t w) (fun _=>False):=by
  have nl:∀(t:Nat→Option V) (w:List V),w.length=0→Inv P.n P.o (T P) (M P 0) (n9 P) us t (fun v=>v∈w)→Inv P.n P.o (T P) (M P 0) (n9 P) us t (fun _=>False):=by
    intro t w hw h;have e:w=[]:=List.eq_nil_of_length_eq_zero hw;subst e;have e2:(fun v:V=>v∈([]:List V))=fun _=>False:=by funext v;simp
    rw[e2]at h;exact h
  intro f;induction f with
  | zero=>
    intro t w hG h hM;rw[R9];refine nl t w ?_ h;unfold P8 at hM;omega
  | succ f ih=>
    intro t w hG h hM;rw[R9];split
    · rename_i hw;exact nl t w hw h
    rename_i hw;have hwe:w=w.take (w.length-1)++[w.getD (w.length-1) z0]:=by
      have h1:=List.take_succ_eq_append_getElem (l:=w) (i:=w.length-1) (by omega);rw[show w.length-1+1=w.length by omega,List.take_length]at h1;rw[List.getD_eq_getElem?_getD,List.getElem?_eq_getElem (show w.length-1<w.length by omega)];exact h1
    have SB:T P 0 (w.getD (w.length-1) z0):=h.wn _ (by rw[List.getD_eq_getElem?_getD,List.getElem?_eq_getElem (show w.length-1<w.length by omega)];exact List.getElem_mem _);have MC:=iW hv hc hG hw SB;obtain⟨x,hx⟩:∃x,w.getD (w.length-1) z0=x:=⟨_,rfl⟩;obtain⟨v,hvv⟩:∃v,w.take (w.length-1)=v:=⟨_,rfl⟩;unfold Bp at MC ⊢;rw[hx]at MC SB ⊢;rw[hvv]at MC ⊢;rw[hx,hvv]at hwe;rw[hwe]at h;have hi:=y5 hv hc hp hG h;refine ih _ _ (pX hv hc hp hG (w:=v) (fun z hz=>h.wn z (List.mem_append.2 (.inl hz))) SB).1 hi (by omega)
noncomputable def Zb(P:Pc)(us:List V):Nat→Option V:=R9 P (P8 P (fun _=>none) us) (fun _=>none) us
theorem y6{us:List V}(hu:∀x∈us,T P 0 x):XW P.n P.o (T P) (M P 0) (Zb P us)∧∀x,Sg (T P 0) (M P 0) (Zb P us) P.n P.n x↔bI (T P 0) (M P 0) (fun v=>v∈us) x:=
  (qC hv hc hp _ _ us (fun d y h=>by cases h) (Inv.start (W:=fun v=>v∈us) hu) (Nat.le_refl _)).fin (lvl hv hc) UU (eU hv hc)
omit hp in
theorem y7:∀e w x,e<P.n→T P e w→w e=1→T P 0 x→∃u,Cy (T P 0) (M P 0) w u∧T P e u∧n9 P e w x=M P 0 x u∧(x e+u e)%P.o e=0:=by
  intro e w x he hw h1 hx;obtain⟨p1,p2⟩:=TM hv hc he hw (0-x e);refine⟨LL P w (0-x e),Cy.pw hv hc (hw.mono hv (Nat.zero_le e)) _,p1,rfl,?_⟩;rw[p2,h1,Int.mul_one,Int.add_emod_emod,show x e+(0-x e)=0 by omega,Int.zero_emod]
omit hv hc hp in
theorem qD{dn:Nat→Option V}:∀f e x,NM P dn f e x=dD (n9 P) dn f e x:=by
  intro f;induction f with
  |zero=>intro e x;rfl
  |succ f ih=>intro e x;rw[NM,dD,ih];rfl
omit hv hc hp in
theorem y8{n:Nat}{t:Nat→Option V}:∀j,SE P n t j=NN (n9 P) t n j:=by
  intro j;induction j with
  |zero=>rfl
  | succ j ih=>
    rw[SE,NN,ih];cases t (n-1-j)with
    |none=>rfl
    |some y=>dsimp only;rw[qD];rfl
theorem j3{us:List V}(hu:∀x∈us,T P 0 x):UT P (bI (T P 0) (M P 0) (fun v=>v∈us)) (SE P P.n (Zb P us) P.n):=by
  obtain⟨c,hs⟩:=y6 hv hc hp hu;have l:=lvl hv hc;have e:Sg (T P 0) (M P 0) (Zb P us) P.n P.n=bI (T P 0) (M P 0) (fun v=>v∈us):=funext fun x=>propext (hs x)
  have h:=j0 hv hc (y7 hv hc) l c (c.sub l (Nat.le_refl _));rw[e,←y8]at h;exact h
end
theorem UW{dn Br:Nat→Option V}{k:Nat}(h:∀d,d<k→dn d=Br d):DK dn k=DK Br k:=by
  induction k with
  |zero=>rfl
  | succ k ih=>
    have ih:=ih (fun d hd=>h d (by omega));cases hk:dn k with
    |none=>rw[DR hk,DR (by rw[←h k (by omega)];exact hk)];exact ih
    |some y=>rw[ER hk,ER (y:=y) (by rw[←h k (by omega)];exact hk),ih]
end Go.Proofs.YtghmeeifjeafmaaGreat
