import Derived.Test.YtghmeeifjeafmaaGreatZ09
import Derived.Test.YtghmeeifjeafmaaGreatZ10
import Derived.Test.YtghmeeifjeafmaaGreatZ15
import Derived.Test.YtghmeeifjeafmaaGreatZ17
set_option linter.unusedVariables false
set_option linter.unusedSimpArgs false
namespace Go.Proofs.YtghmeeifjeafmaaGreat
theorem Ik{P:Pc}(hv:F9 P)(hc:DI P 0)(hp:∀d,d<P.n→J0 (P.o d)):∀(f:Nat) (t:Nat→Option V) (w:List V),LN P t→(∀x∈w,T P 0 x)→LN P (R9 P f t w):=by
  intro f;induction f with
  |zero=>intro t w ht _;exact ht
  | succ f ih=>
    intro t w ht hw;rw[R9];split
    · exact ht
    rename_i AL;have hx:T P 0 (w.getD (w.length-1) z0):=hw _ (by rw[List.getD_eq_getElem?_getD,List.getElem?_eq_getElem (by omega)];exact List.getElem_mem _);obtain⟨g1,g2⟩:=pX hv hc hp ht (w:=w.take (w.length-1)) (fun x h=>hw x (List.mem_of_mem_take h)) hx;exact ih _ _ g1 g2
theorem Il{P:Pc}(hv:F9 P)(hc:DI P 0)(hp:∀d,d<P.n→J0 (P.o d)){dn:Nat→Option V}(hd:LN P dn){d:Nat}(YI:d<P.n):∀(f e:Nat) (x:V),d<e→T P d x→x d=1→T P d (NM P dn f e x)∧NM P dn f e x d=1:=by
  intro f;induction f with
  |zero=>intro e x _ h1 h2;exact⟨h1,h2⟩
  | succ f ih=>
    intro e x he hx h1;rw[NM];cases hz:dn e with
    |none=>exact ih _ _ (by omega) hx h1
    | some z=>
      dsimp only;split
      · exact ih _ _ (by omega) hx h1
      obtain⟨z1,z2,z3⟩:=hd e z hz;obtain⟨p1,p2⟩:=TM hv hc z1 z2 (0-x e);have p3:=p1.mono hv (Nat.le_of_lt he);have p4:LL P z (0-x e) d=0:=p1.z d he;refine ih _ _ (by omega) (Ih hv hx p3) ?_;have:=D0 (hp d YI);rw[YY hv YI hx p3,p4,h1,Int.add_zero,Int.emod_eq_of_lt (by omega) (by omega)]
theorem Sv{P:Pc}(hv:F9 P)(hc:DI P 0)(hp:∀d,d<P.n→J0 (P.o d)){t:Nat→Option V}(ht:LN P t):∀j,j≤P.n→LN P (SE P P.n t j):=by
  intro j;induction j with
  |zero=>intro _ d y h;cases h
  | succ j ih=>
    intro hj;rw[SE];split
    · exact ih (by omega)
    rename_i y hy;intro d z hz;unfold oset at hz;split at hz
    · rename_i e;subst e;cases hz;obtain⟨y1,y2,y3⟩:=ht _ y hy;exact⟨y1,Il hv hc hp (ih (by omega)) y1 j (P.n-j) y (by omega) y2 y3⟩
    exact ih (by omega) d z hz
theorem Im{P:Pc}{d:Nat}{y:V}(hd:d<P.n)(h1:y d=1):F1 P.n y<P.n:=by
  apply Classical.byContradiction;intro hn;have h:=(R5 (x:=y) P.n 0).2.2.1 d (Nat.zero_le _) (by unfold F1 at hn;omega);omega
theorem bH{dn:Nat→Option V}{k:Nat}{y:V}(h:y∈DK dn k):∃d,dn d=some y:=by
  obtain⟨d,_,hd⟩:=List.mem_filterMap.1 h;exact⟨d,hd⟩
section
variable(os:List Int)(pw:List (List Int))(cj:List (List (List Int)))
noncomputable def HJ(P:Pc)(us:List V):List V:=DK (SE P P.n (R9 P (P8 P (fun _=>none) us) (fun _=>none) us) P.n) P.n
theorem Z0(h:AI os pw cj)(hc:DI (pc os pw cj) 0){us:List V}(hu:∀x∈us,T (pc os pw cj) 0 x):∀k,k<(HJ (pc os pw cj) us).length→F1 os.length ((HJ (pc os pw cj) us).getD k z0)<os.length:=by
  intro k hk;have hm:(HJ (pc os pw cj) us).getD k z0∈HJ (pc os pw cj) us:=by rw[List.getD_eq_getElem?_getD,List.getElem?_eq_getElem hk];exact List.getElem_mem _
  obtain⟨d,hd⟩:=bH hm;have hG:=Ik h.val hc (fun d hd=>h.2.1 d hd) (P8 (pc os pw cj) (fun _=>none) us) (fun _=>none) us (fun d y hy=>by cases hy) hu;obtain⟨g1,g2,g3⟩:=Sv h.val hc (fun d hd=>h.2.1 d hd) hG (pc os pw cj).n (Nat.le_refl _) d _ hd;exact Im (P:=pc os pw cj) g1 g3
theorem IC{xs:List (List Int)}(hx:OR os xs):rows xs=B2 os.length (xs.map fl):=by
  unfold rows B2;rw[List.map_map,List.length_map];congr 1
  refine List.map_congr_left fun x hm=>?_
  obtain⟨k,hk,rfl⟩:=List.getElem_of_mem hm;have:=(hx k hk).1;rw[List.getD_eq_getElem?_getD,List.getElem?_eq_getElem hk]at this;exact CN this
theorem XU{xs:List (List Int)}(hx:OR os xs):∀v∈xs.map fl,T (pc os pw cj) 0 v:=by
  intro v hv;obtain⟨x,hm,rfl⟩:=List.mem_map.1 hv;obtain⟨k,hk,rfl⟩:=List.getElem_of_mem hm;have:=pD (pw:=pw) (cj:=cj) hx hk;unfold uD at this;rwa [List.getD_eq_getElem?_getD,List.getElem?_eq_getElem hk]at this
end
end Go.Proofs.YtghmeeifjeafmaaGreat
namespace Go.Proofs.YtghmeeifjeafmaaGreat
end Go.Proofs.YtghmeeifjeafmaaGreat
namespace Go.Proofs.YtghmeeifjeafmaaGreat
end Go.Proofs.YtghmeeifjeafmaaGreat
namespace Go.Proofs.YtghmeeifjeafmaaGreat
structure HW(N:V→Prop)(m:V→V→V)(S:V→Prop):Prop where
  n:∀{a},S a→N a
  e:S z0
  mu:∀{a b},S a→S b→S (m a b)
  iv:∀{a b},S a→N b→m a b=z0→S b
section
variable{N:V→Prop}{m:V→V→V}(g:HL N m){S:V→Prop}
include g
theorem HW.l{a b:V}(h:HW N m S)(ha:S a)(hb:N b)(iK:S (m a b)):S b:=by
  obtain⟨c,c1,c2,c3⟩:=g.iv (h.n ha);have:=h.mu (h.iv ha c1 c3) iK;rwa [←g.ac c1 (h.n ha) hb,c2,g.l1 hb]at this
theorem HW.r{a b:V}(h:HW N m S)(ha:S a)(hb:N b)(iK:S (m b a)):S b:=by
  obtain⟨c,c1,c2,c3⟩:=g.iv (h.n ha);have:=h.mu iK (h.iv ha c1 c3);rwa [g.ac hb (h.n ha) c1,c3,g.r1 hb]at this
omit g in
theorem HW.rep{y:V}(h:HW N m S)(hy:S y)(k:Nat):S (Go.Proofs.YtghmeeifjeafmaaGreat.rep m y k):=by
  induction k with
  |zero=>exact h.e
  |succ k ih=>exact h.mu ih hy
theorem q8{y:V}(hy:N y)(a b:Nat):m (rep m y a) (rep m y b)=m (rep m y b) (rep m y a):=by
  rw[←g.EP hy,←g.EP hy,Nat.add_comm]
theorem eR{y:V}(h:HW N m S)(hy:N y)(hn:∀s,S s→∃s1,S s1∧m s y=m y s1):∀k s,S s→∃s1,S s1∧m s (rep m y k)=m (rep m y k) s1:=by
  intro k;induction k with
  |zero=>intro s hs;exact⟨s,hs,by show m s z0=m z0 s;rw[g.r1 (h.n hs),g.l1 (h.n hs)]⟩
  | succ k ih=>
    intro s hs;obtain⟨s1,q1,q2⟩:=ih s hs;obtain⟨s2,q3,q4⟩:=hn s1 q1;refine⟨s2,q3,?_⟩;show m s (m (rep m y k) y)=m (m (rep m y k) y) s2
    have hr:=g.rep hy k;rw[←g.ac (h.n hs) hr hy,q2,g.ac hr (h.n q1) hy,q4,g.ac hr hy (h.n q3)]
def Ad(N:V→Prop)(m:V→V→V)(S:V→Prop)(y x:V):Prop:=N x∧∃(a b:Nat) (s:V),S s∧m x (rep m y a)=m (rep m y b) s
theorem Ad.sub{y:V}(h:HW N m S)(hy:N y)(hn:∀s,S s→∃s1,S s1∧m s y=m y s1):HW N m (Ad N m S y):=by
  have hr:=fun k=>g.rep hy k
  refine⟨fun h=>h.1,⟨g.e0,0,0,z0,h.e,rfl⟩,?_,?_⟩
  · rintro x x' ⟨hx,a,b,s,hs,e1⟩ ⟨XV,a',b',s',tU,e2⟩;obtain⟨s1,q1,q2⟩:=eR g h hy hn a s' tU;obtain⟨s2,q3,q4⟩:=eR g h hy hn b' s hs;refine⟨g.cl hx XV,a'+a,b+b',m s2 s1,h.mu q3 q1,?_⟩;have n1:=h.n hs;have n2:=h.n tU;have n3:=h.n q1;have n4:=h.n q3;rw[g.EP hy,g.EP hy]
    calc m (m x x') (m (rep m y a') (rep m y a))
        =m x (m (m x' (rep m y a')) (rep m y a)):=by rw[g.ac hx XV (g.cl (hr _) (hr _)),g.ac XV (hr _) (hr _)]
      _=m x (m (rep m y b') (m s' (rep m y a))):=by rw[e2,g.ac (hr _) n2 (hr _)]
      _=m x (m (rep m y b') (m (rep m y a) s1)):=by rw[q2]
      _=m (m x (m (rep m y a) (rep m y b'))) s1:=by rw[←g.ac (hr _) (hr _) n3,q8 g hy b' a,g.ac hx (g.cl (hr _) (hr _)) n3]
      _=m (m (m (rep m y b) s) (rep m y b')) s1:=by rw[←g.ac hx (hr _) (hr _),e1]
      _=m (m (rep m y b) (m (rep m y b') s2)) s1:=by rw[g.ac (hr _) n1 (hr _),q4]
      _=m (m (rep m y b) (rep m y b')) (m s2 s1):=by rw[←g.ac (hr _) (hr _) n4,g.ac (g.cl (hr _) (hr _)) n4 n3]
  rintro x x' ⟨hx,a,b,s,hs,e1⟩ XV e0;obtain⟨c,c1,c2,c3⟩:=g.iv (h.n hs);refine⟨XV,b,a,c,h.iv hs c1 c3,?_⟩;have h0:m x' x=z0:=by
    obtain⟨w,w1,w2,w3⟩:=g.iv hx;have:x'=w:=g.lc hx XV w1 (by rw[e0,w3]);rw[this,w2]
  have h1:m (m x' (rep m y b)) s=rep m y a:=by
    rw[g.ac XV (hr _) (h.n hs),←e1,←g.ac XV hx (hr _),h0,g.l1 (hr _)]
  rw[←h1,g.ac (g.cl XV (hr _)) (h.n hs) c1,c3,g.r1 (g.cl XV (hr _))]
theorem Ad.of{y s:V}(h:HW N m S)(hs:S s):Ad N m S y s:=⟨h.n hs,0,0,s,hs,by show m s z0=m z0 s;rw[g.r1 (h.n hs),g.l1 (h.n hs)]⟩
theorem Ad.self{y:V}(h:HW N m S)(hy:N y):Ad N m S y y:=⟨hy,0,1,z0,h.e,by show m y z0=m (m z0 y) z0;rw[g.l1 hy]⟩
theorem Ad.least{y x:V}{A:V→Prop}(h:HW N m A)(hS:∀s,S s→A s)(hy:A y)(hx:Ad N m S y x):A x:=by
  obtain⟨h1,a,b,s,hs,e⟩:=hx;exact h.r g (h.rep hy a) h1 (by rw[e];exact h.mu (h.rep hy b) (hS s hs))
theorem xY{y:V}(h:HW N m S)(hy:N y)(hn:∀s,S s→∃s1,S s1∧m s y=m y s1){q:Nat}(hq:S (rep m y (q+1))):∀s,S s→∃s1,S s1∧m y s=m s1 y:=by
  intro s hs;obtain⟨c,c1,c2,c3⟩:=g.iv (h.n hq);have nc:=h.iv hq c1 c3;have ns:=h.n hs;have hr:=fun k=>g.rep hy k
  obtain⟨s1,q1,q2⟩:=eR g h hy hn q (m (m (rep m y (q+1)) s) c) (h.mu (h.mu hq hs) nc);have n1:=h.n q1;refine⟨s1,q1,?_⟩;refine g.lc (hr q) (g.cl hy ns) (g.cl n1 hy) ?_;have e2:m (rep m y q) y=rep m y (q+1):=rfl;rw[←g.ac (hr q) n1 hy,←q2,g.ac (g.cl (g.cl (hr _) ns) c1) (hr q) hy,e2,g.ac (g.cl (hr _) ns) c1 (hr _),c2,g.r1 (g.cl (hr _) ns),←g.ac (hr q) hy ns,e2]
end
def Sg(N:V→Prop)(m:V→V→V)(t:Nat→Option V)(n:Nat):Nat→V→Prop
  |0,x=>x=z0
  | f+1,x=>match t (n-(f+1))with
    |none=>Sg N m t n f x
    |some y=>Ad N m (Sg N m t n f) y x
theorem KK{N:V→Prop}{m:V→V→V}{t:Nat→Option V}{n f:Nat}(h:t (n-(f+1))=none):Sg N m t n (f+1)=Sg N m t n f:=by
  funext x;rw[Sg,h]
theorem KL{N:V→Prop}{m:V→V→V}{t:Nat→Option V}{n f:Nat}{y:V}(h:t (n-(f+1))=some y):Sg N m t n (f+1)=Ad N m (Sg N m t n f) y:=by
  funext x;rw[Sg,h]
section
variable{N:V→Prop}{m:V→V→V}(g:HL N m){t:Nat→Option V}{n:Nat}
include g
theorem Sg.step{f:Nat}(h:HW N m (Sg N m t n f)){x:V}(hx:Sg N m t n f x):Sg N m t n (f+1) x:=by
  cases ht:t (n-(f+1))with
  |none=>rw[KK ht];exact hx
  |some y=>rw[KL ht];exact Ad.of g h hx
theorem Sg.mono{f k:Nat}(h:∀f',f'<f+k→HW N m (Sg N m t n f')){x:V}(hx:Sg N m t n f x):Sg N m t n (f+k) x:=by
  induction k with
  |zero=>exact hx
  |succ k ih=>exact Sg.step g (h (f+k) (by omega)) (ih (fun f' hf=>h f' (by omega)))
theorem Sg.mem{d:Nat}{y:V}(hd:d<n)(ht:t d=some y)(hy:N y)(h:HW N m (Sg N m t n (n-(d+1)))):Sg N m t n (n-d) y:=by
  rw[show n-d=n-(d+1)+1 by omega,KL (y:=y) (by rw[show n-(n-(d+1)+1)=d by omega];exact ht)];exact Ad.self g h hy
theorem Sg.nrm(tb:∀d y,t d=some y→d<n∧N y)
    (cm:∀d e y z,t d=some y→t e=some z→d<e→(∀f',f'≤n-(d+1)→HW N m (Sg N m t n f'))→∃c,Sg N m t n (n-(d+1)) c∧m (m z y) c=m y z) {f:Nat} (hf:f+1≤n) (ih:∀f',f'≤f→HW N m (Sg N m t n f')) {y:V} (ht:t (n-(f+1))=some y):
    ∀s,Sg N m t n f s→∃s1,Sg N m t n f s1∧m s y=m y s1:=by
  have hK:=ih f (Nat.le_refl f);have hy:=(tb _ _ ht).2;have hA:HW N m (fun x=>N x∧∃s1,Sg N m t n f s1∧m x y=m y s1):=by
    refine⟨fun h=>h.1,⟨g.e0,z0,hK.e,by rw[g.l1 hy,g.r1 hy]⟩,?_,?_⟩
    · rintro x x' ⟨hx,s,hs,e1⟩ ⟨XV,s',tU,e2⟩;refine⟨g.cl hx XV,m s s',hK.mu hs tU,?_⟩;rw[g.ac hx XV hy,e2,←g.ac hx hy (hK.n tU),e1,g.ac hy (hK.n hs) (hK.n tU)]
    rintro x x' ⟨hx,s,hs,e1⟩ XV e0;obtain⟨c,c1,c2,c3⟩:=g.iv (hK.n hs);refine⟨XV,c,hK.iv hs c1 c3,?_⟩;have h0:m x' x=z0:=by
      obtain⟨w,w1,w2,w3⟩:=g.iv hx;have:x'=w:=g.lc hx XV w1 (by rw[e0,w3]);rw[this,w2]
    have h1:m (m x' y) s=y:=by
      rw[g.ac XV hy (hK.n hs),←e1,←g.ac XV hx hy,h0,g.l1 hy]
    have h2:=congrArg (fun u=>m u c) h1;rw[g.ac (g.cl XV hy) (hK.n hs) c1,c3,g.r1 (g.cl XV hy)]at h2;exact h2
  have hS :∀k,k≤f→∀x,Sg N m t n k x→N x∧∃s1,Sg N m t n f s1∧m x y=m y s1:=by
    intro k;induction k with
    |zero=>intro _ x hx;rw[Sg]at hx;rw[hx];exact hA.e
    | succ k mV=>
      intro hk x hx;cases hz:t (n-(k+1))with
      |none=>rw[KK hz]at hx;exact mV (by omega) x hx
      | some z=>
        rw[KL hz]at hx;have Sw:=(tb _ _ hz).2;refine Ad.least g hA (mV (by omega)) ?_ hx;obtain⟨c,c1,c2⟩:=cm _ _ _ _ ht hz (by omega) (fun f' aS=>ih f' (by omega));rw[show n-(n-(f+1)+1)=f by omega]at c1;have hzS:Sg N m t n f z:=by
          have h3:=Sg.mem g (t:=t) (n:=n) (d:=n-(k+1)) (by omega) hz Sw (ih _ (by omega));rw[show n-(n-(k+1))=k+1 by omega]at h3;have h4:=Sg.mono g (f:=k+1) (k:=f-(k+1)) (fun f' hf=>ih f' (by omega)) h3;rwa [show k+1+(f-(k+1))=f by omega]at h4
        obtain⟨w,w1,w2,w3⟩:=g.iv (hK.n c1);refine⟨Sw,m z w,hK.mu hzS (hK.iv c1 w1 w3),?_⟩;have h2:=congrArg (fun u=>m u w) c2;rw[g.ac (g.cl Sw hy) (hK.n c1) w1,w3,g.r1 (g.cl Sw hy)]at h2;rw[h2,g.ac hy Sw w1]
  exact fun s hs=>(hS f (Nat.le_refl f) s hs).2
theorem Sg.all(tb:∀d y,t d=some y→d<n∧N y)
    (cm:∀d e y z,t d=some y→t e=some z→d<e→(∀f',f'≤n-(d+1)→HW N m (Sg N m t n f'))→∃c,Sg N m t n (n-(d+1)) c∧m (m z y) c=m y z):∀f,f≤n→∀f',f'≤f→HW N m (Sg N m t n f'):=by
  intro f;induction f with
  | zero=>
    intro _ f' aS;obtain rfl:f'=0:=by omega
    refine⟨fun h=>by rw[h];exact g.e0,rfl,fun ha hb=>?_,fun ha hb iK=>?_⟩
    · rw[Sg]at ha hb ⊢;rw[ha,hb];exact g.l1 g.e0
    rw[Sg]at ha ⊢;rw[ha,g.l1 hb]at iK;exact iK
  | succ f ih=>
    intro hf f' aS;have ih:=ih (by omega);rcases Nat.lt_or_ge f' (f+1)with q|q
    · exact ih f' (by omega)
    obtain rfl:f'=f+1:=by omega
    have hK:=ih f (Nat.le_refl f);cases ht:t (n-(f+1))with
    |none=>rw[KK ht];exact hK
    | some y=>
      rw[KL ht];exact Ad.sub g hK (tb _ _ ht).2 (Sg.nrm g tb cm hf ih ht)
end
structure iY(n:Nat)(o:Nat→Int)(N:Nat→V→Prop)(m:V→V→V):Prop where
  g:∀d,HL (N d) m
  mono:∀{d x},N (d+1) x→N d x
  lead:∀{d a b},d<n→N d a→N d b→m a b d=(a d+b d)%o d
  op:∀{d},d<n→1<o d
  up:∀{d x},N d x→x d=0→N (d+1) x
  nz:∀{d x},N (d+1) x→x d=0
section
variable{n:Nat}{o:Nat→Int}{N:Nat→V→Prop}{m:V→V→V}(l:iY n o N m)
include l
theorem iY.le{d e:Nat}(h:d≤e){x:V}(hx:N e x):N d x:=by
  obtain⟨k,rfl⟩:∃k,e=d+k:=⟨e-d,by omega⟩;induction k with
  |zero=>exact hx
  |succ k ih=>exact ih (by omega) (l.mono hx)
theorem iY.Yz(d:Nat):HW (N 0) m (N d):=by
  refine⟨fun h=>l.le (Nat.zero_le d) h,(l.g d).e0,fun ha hb=>(l.g d).cl ha hb,fun {a b} ha hb iK=>?_⟩;obtain⟨c,c1,c2,c3⟩:=(l.g d).iv ha;have:b=c:=(l.g 0).lc (l.le (Nat.zero_le d) ha) hb (l.le (Nat.zero_le d) c1) (by rw[iK,c3]);rw[this];exact c1
theorem iY.EL{d:Nat}(hd:d<n){y:V}(hy:N d y)(h1:y d=1):∀k:Nat,rep m y k d=(k:Int)%o d:=by
  intro k;induction k with
  |zero=>simp[rep,CW,z0]
  | succ k ih=>
    show m (rep m y k) y d=_
    rw[l.lead hd ((l.g d).rep hy k) hy,ih,h1,Int.emod_add_emod,Int.natCast_succ]
variable{t:Nat→Option V}
theorem iY.Bq(tb:∀d y,t d=some y→d<n∧N d y∧y d=1):∀f,f≤n→∀x,Sg (N 0) m t n f x→N (n-f) x:=by
  intro f;induction f with
  |zero=>intro _ x hx;rw[Sg]at hx;rw[hx];exact(l.g _).e0
  | succ f ih=>
    intro hf x hx;have hle:n-f=n-(f+1)+1:=by omega
    have hi:∀x,Sg (N 0) m t n f x→N (n-(f+1)) x:=fun x hx=>l.mono (by rw[←hle];exact ih (by omega) x hx)
    cases ht:t (n-(f+1))with
    |none=>rw[KK ht]at hx;exact hi x hx
    | some y=>
      rw[KL ht]at hx;exact Ad.least (l.g 0) (l.Yz _) hi (tb _ _ ht).2.1 hx
theorem iY.xZ(tb:∀d y,t d=some y→d<n∧N d y∧y d=1){d:Nat}(hd:d<n){y:V}(ht:t d=some y)(hK:HW (N 0) m (Sg (N 0) m t n (n-(d+1))))
    (hn:∀s,Sg (N 0) m t n (n-(d+1)) s→∃s1,Sg (N 0) m t n (n-(d+1)) s1∧m s y=m y s1) (pw:Sg (N 0) m t n (n-(d+1)) (rep m y (o d).toNat))
    {x:V} (hx:Sg (N 0) m t n (n-d) x) (mZ:N (d+1) x):Sg (N 0) m t n (n-(d+1)) x:=by
  obtain⟨_,y1,y2⟩:=tb d y ht;have g:=l.g 0;have hy:=l.le (Nat.zero_le d) y1;have ho:=l.op hd;have hr:=fun k=>g.rep hy k
  rw[show n-d=n-(d+1)+1 by omega,KL (y:=y) (by rw[show n-(n-(d+1)+1)=d by omega];exact ht)]at hx;obtain⟨JA,a,b,s,hs,e⟩:=hx;have Sf:N (d+1) s:=by
    have:=l.Bq tb (n-(d+1)) (by omega) s hs;rwa [show n-(n-(d+1))=d+1 by omega]at this
  have hl:(a:Int)%o d=(b:Int)%o d:=by
    have h1:=l.lead hd (l.mono mZ) ((l.g d).rep y1 a);have h2:=l.lead hd ((l.g d).rep y1 b) (l.mono Sf);rw[←e,h1,l.nz mZ,l.nz Sf,l.EL hd y1 y2,l.EL hd y1 y2,Int.zero_add,Int.add_zero,Int.emod_emod,Int.emod_emod]at h2;exact h2
  obtain⟨w,hw⟩:∃w:Nat,o d=w:=⟨(o d).toNat,by omega⟩;rw[hw]at hl pw;rw[Int.toNat_natCast]at pw;have GK:a%w=b%w:=by omega
  have hmul:∀k:Nat,Sg (N 0) m t n (n-(d+1)) (rep m y (w*k)):=by
    intro k;induction k with
    |zero=>exact hK.e
    |succ k ih=>rw[Nat.mul_succ,g.EP hy];exact hK.mu ih pw
  have Sx:=xY g hK hy hn (q:=w-1) (by rw[show w-1+1=w by omega];exact pw);have T9:∀(k:Nat) s,Sg (N 0) m t n (n-(d+1)) s→∃s1,Sg (N 0) m t n (n-(d+1)) s1∧m (rep m y k) s=m s1 (rep m y k):=by
    intro k;induction k with
    |zero=>intro s hs;exact⟨s,hs,by show m z0 s=m s z0;rw[g.r1 (hK.n hs),g.l1 (hK.n hs)]⟩
    | succ k ih=>
      intro s hs;obtain⟨s1,q1,q2⟩:=Sx s hs;obtain⟨s2,q3,q4⟩:=ih s1 q1;refine⟨s2,q3,?_⟩;show m (m (rep m y k) y) s=m s2 (m (rep m y k) y)
      rw[g.ac (hr k) hy (hK.n hs),q2,←g.ac (hr k) (hK.n q1) hy,q4,g.ac (hK.n q3) (hr k) hy]
  have fin:∀(k:Nat) s,Sg (N 0) m t n (n-(d+1)) s→m x (rep m y k)=m (rep m y k) s→Sg (N 0) m t n (n-(d+1)) x:=by
    intro k s hs e;obtain⟨s1,q1,q2⟩:=T9 k s hs;have:x=s1:=g.rc (hr k) JA (hK.n q1) (by rw[e,q2]);rw[this];exact q1
  rcases Nat.le_total a b with h|h
  · obtain⟨q,hq⟩:∃q,b=a+w*q:=⟨(b-a)/w,by
      have:=Nat.sub_mod_eq_zero_of_mod_eq GK.symm;have:=Nat.div_add_mod (b-a) w;omega⟩
    refine fin a (m (rep m y (w*q)) s) (hK.mu (hmul q) hs) ?_;rw[e,hq,g.EP hy,g.ac (hr _) (hr _) (hK.n hs)]
  obtain⟨q,hq⟩:∃q,a=b+w*q:=⟨(a-b)/w,by
    have:=Nat.sub_mod_eq_zero_of_mod_eq GK;have:=Nat.div_add_mod (a-b) w;omega⟩
  obtain⟨c,c1,c2,c3⟩:=g.iv (hr (w*q));refine fin b (m s c) (hK.mu hs (hK.iv (hmul q) c1 c3)) ?_;rw[hq,g.EP hy]at e;have h2:=congrArg (fun u=>m u c) e;rw[←g.ac JA (hr _) (hr _),g.ac (g.cl JA (hr _)) (hr _) c1,c3,g.r1 (g.cl JA (hr _)),g.ac (hr _) (hK.n hs) c1]at h2;exact h2
end
structure XW(n:Nat)(o:Nat→Int)(N:Nat→V→Prop)(m:V→V→V)(t:Nat→Option V):Prop where
  tb:∀d y,t d=some y→d<n∧N d y∧y d=1
  cm:∀d e y z,t d=some y→t e=some z→d<e→∃c,Sg (N 0) m t n (n-(d+1)) c∧m (m z y) c=m y z
  pw:∀d y,t d=some y→Sg (N 0) m t n (n-(d+1)) (rep m y (o d).toNat)
section
variable{n:Nat}{o:Nat→Int}{N:Nat→V→Prop}{m:V→V→V}(l:iY n o N m){t:Nat→Option V}(c:XW n o N m t)
include l c
theorem XW.y4:∀d y,t d=some y→d<n∧N 0 y:=fun d y h=>⟨(c.tb d y h).1,l.le (Nat.zero_le d) (c.tb d y h).2.1⟩
theorem XW.sub{f:Nat}(hf:f≤n):HW (N 0) m (Sg (N 0) m t n f):=Sg.all (l.g 0) (c.y4 l) (fun d e y z h1 h2 h3 _=>c.cm d e y z h1 h2 h3) f hf f (Nat.le_refl f)
theorem XW.lev{d:Nat}(hd:d≤n){x:V}(hx:Sg (N 0) m t n (n-d) x):N d x:=by
  have:=l.Bq c.tb (n-d) (by omega) x hx;rwa [show n-(n-d)=d by omega]at this
theorem XW.next{d:Nat}(hd:d<n){x:V}(hx:Sg (N 0) m t n (n-d) x)(h0:x d=0):Sg (N 0) m t n (n-(d+1)) x:=by
  cases ht:t d with
  | none=>
    rw[show n-d=n-(d+1)+1 by omega,KK (by rw[show n-(n-(d+1)+1)=d by omega];exact ht)]at hx;exact hx
  | some y=>
    exact l.xZ c.tb hd ht (c.sub l (by omega)) (Sg.nrm (l.g 0) (c.y4 l) (fun d e y z h1 h2 h3 _=>c.cm d e y z h1 h2 h3) (f:=n-(d+1)) (by omega) (fun f' hf=>c.sub l (by omega)) (by rw[show n-(n-(d+1)+1)=d by omega];exact ht)) (c.pw d y ht) hx (l.up (c.lev l (by omega) hx) h0)
theorem XW.back{d:Nat}(hd:d<n){x:V}(hx:Sg (N 0) m t n (n-(d+1)) x):Sg (N 0) m t n (n-d) x:=by
  rw[show n-d=n-(d+1)+1 by omega];exact Sg.step (l.g 0) (c.sub l (by omega)) hx
theorem XW.zro{d:Nat}(hd:d<n)(ht:t d=none){x:V}(hx:Sg (N 0) m t n (n-d) x):x d=0:=by
  rw[show n-d=n-(d+1)+1 by omega,KK (by rw[show n-(n-(d+1)+1)=d by omega];exact ht)]at hx;exact l.nz (c.lev l (by omega) hx)
theorem XW.mem{d:Nat}{y:V}(ht:t d=some y):Sg (N 0) m t n (n-d) y:=
  Sg.mem (l.g 0) (c.tb d y ht).1 ht (c.y4 l d y ht).2 (c.sub l (by omega))
theorem XW.down{d e:Nat}(h:d≤e)(he:e≤n){x:V}(hx:Sg (N 0) m t n (n-e) x):Sg (N 0) m t n (n-d) x:=by
  obtain⟨k,rfl⟩:∃k,e=d+k:=⟨e-d,by omega⟩;induction k with
  |zero=>exact hx
  |succ k ih=>exact ih (by omega) (by omega) (c.back l (d:=d+k) (by omega) hx)
theorem XW.depth{d:Nat}(hd:d<n):t d≠none↔∃x,Sg (N 0) m t n n x∧N d x∧x d≠0:=by
  constructor
  · intro h;cases ht:t d with
    |none=>exact absurd ht h
    | some y=>
      obtain⟨_,h1,h2⟩:=c.tb d y ht;exact⟨y,by have:=c.down l (Nat.zero_le d) (by omega) (c.mem l ht);rwa [Nat.sub_zero]at this,h1,by rw[h2];omega⟩
  rintro⟨x,hx,hN,h0⟩ ht;have key:∀k,k≤d→Sg (N 0) m t n (n-k) x:=by
    intro k;induction k with
    |zero=>intro _;rw[Nat.sub_zero];exact hx
    |succ k ih=>intro hk;exact c.next l (by omega) (ih (by omega)) (l.nz (l.le hk hN))
  exact h0 (c.zro l hd ht (key d (Nat.le_refl d)))
end
def bI(N:V→Prop)(m:V→V→V)(us:V→Prop)(x:V):Prop:=∀A,HW N m A→(∀u,us u→A u)→A x
theorem Sg.least{N:V→Prop}{m:V→V→V}(g:HL N m){t:Nat→Option V}{n:Nat}{A:V→Prop}(hA:HW N m A)(ht:∀d y,t d=some y→A y):∀f x,Sg N m t n f x→A x:=by
  intro f;induction f with
  |zero=>intro x hx;rw[Sg]at hx;rw[hx];exact hA.e
  | succ f ih=>
    intro x hx;cases hz:t (n-(f+1))with
    |none=>rw[KK hz]at hx;exact ih x hx
    |some z=>rw[KL hz]at hx;exact Ad.least g hA ih (ht _ _ hz) hx
theorem XW.gen{n:Nat}{o:Nat→Int}{N:Nat→V→Prop}{m:V→V→V}(l:iY n o N m){t:Nat→Option V}(c:XW n o N m t){us:V→Prop}
    (h1:∀d y,t d=some y→bI (N 0) m us y) (h2:∀u,us u→Sg (N 0) m t n n u) (x:V):Sg (N 0) m t n n x↔bI (N 0) m us x:=
  ⟨fun h A hA hu=>Sg.least (l.g 0) hA (fun d y hy=>h1 d y hy A hA hu) n x h,fun h=>h _ (c.sub l (Nat.le_refl n)) h2⟩
theorem lvl{P:Pc}(hv:F9 P)(hc:DI P 0):iY P.n P.o (T P) (M P 0):=by
  have e:∀d {a b:V},T P d a→T P d b→M P 0 a b=M P d a b:=fun d a b ha hb=>RZ hv (Nat.zero_le d) ha hb
  refine⟨fun d=>?_,fun {d x} h=>h.mono hv (Nat.le_succ d),fun {d a b} hd ha hb=>?_,fun {d} hd=>hv.o d hd,fun {d x} h h0=>⟨fun k hk=>?_,fun k h2 h3=>h.r k (by omega) h3,h.t⟩,fun {d x} h=>h.z d (by omega)⟩
  · have g:=BO hv (hc.mono (Nat.zero_le d));refine⟨fun {a b} ha hb=>by rw[e d ha hb];exact g.cl ha hb,fun {a b c} ha hb hc=>?_,g.e0,fun {a} ha=>by rw[e d g.e0 ha];exact g.l1 ha,fun {a} ha=>by rw[e d ha g.e0];exact g.r1 ha,fun {a} ha=>?_⟩
    · rw[e d ha hb,e d hb hc,e d (g.cl ha hb) hc,e d ha (g.cl hb hc)];exact g.ac ha hb hc
    obtain⟨b,b1,b2,b3⟩:=g.iv ha;exact⟨b,b1,by rw[e d b1 ha];exact b2,by rw[e d ha b1];exact b3⟩
  · have h1:=ha.r d (Nat.le_refl _) hd;have h2:=hb.r d (Nat.le_refl _) hd;rw[e d ha hb,PN hd];unfold ZZ;split
    · rw[CM,←Int.sub_emod_right,Int.emod_eq_of_lt (by omega) (by omega)]
    rw[CM,Int.emod_eq_of_lt (by omega) (by omega)]
  by_cases q:k=d
  · subst q;exact h0
  exact h.z k (by omega)
def Cy(N:V→Prop)(m:V→V→V)(y u:V):Prop:=∀A,HW N m A→A y→A u
def Sm(N:V→Prop)(m:V→V→V)(y x r:V):Prop:=∀A,HW N m A→A y→(A x↔A r)
theorem Sm.right{N:V→Prop}{m:V→V→V}(g:HL N m){y x u:V}(hx:N x)(hu:Cy N m y u):Sm N m y x (m x u):=
  fun A hA hy=>⟨fun h=>hA.mu h (hu A hA hy),fun h=>hA.r g (hu A hA hy) hx h⟩
theorem Sm.left{N:V→Prop}{m:V→V→V}(g:HL N m){y x u:V}(hx:N x)(hu:Cy N m y u):Sm N m y x (m u x):=
  fun A hA hy=>⟨fun h=>hA.mu (hu A hA hy) h,fun h=>hA.l g (hu A hA hy) hx h⟩
def Ps(N:Nat→V→Prop)(m:V→V→V)(t:Nat→Option V)(n:Nat):Nat→V→Prop
  |0,x=>x=z0
  |f+1,x=>N 0 x∧((x (n-(f+1))=0∧Ps N m t n f x)∨∃y r,t (n-(f+1))=some y∧Sm (N 0) m y x r∧Ps N m t n f r)
theorem Ps.sg{n:Nat}{o:Nat→Int}{N:Nat→V→Prop}{m:V→V→V}(l:iY n o N m){t:Nat→Option V}(tb:∀d y,t d=some y→d<n∧N 0 y):
    ∀f,f≤n→(∀f',f'≤f→HW (N 0) m (Sg (N 0) m t n f'))→∀x,Ps N m t n f x→Sg (N 0) m t n f x:=by
  intro f;induction f with
  |zero=>intro _ _ x hx;exact hx
  | succ f ih=>
    intro hf hS x hx;have ih:=ih (by omega) (fun f' h=>hS f' (by omega));obtain⟨h0,⟨_,h2⟩|⟨y,u,h1,h2,h3⟩⟩:=hx
    · exact Sg.step (l.g 0) (hS f (by omega)) (ih x h2)
    have hK:=hS (f+1) (Nat.le_refl _);have hy:Sg (N 0) m t n (f+1) y:=by
      have:=Sg.mem (l.g 0) (t:=t) (n:=n) (d:=n-(f+1)) (tb _ _ h1).1 h1 (tb _ _ h1).2 (hS _ (by omega));rwa [show n-(n-(f+1))=f+1 by omega]at this
    exact(h2 _ hK hy).2 (Sg.step (l.g 0) (hS f (by omega)) (ih _ h3))
theorem XW.of{n:Nat}{o:Nat→Int}{N:Nat→V→Prop}{m:V→V→V}(l:iY n o N m){t:Nat→Option V}(tb:∀d y,t d=some y→d<n∧N d y∧y d=1)
    (hc:∀d e y z,t d=some y→t e=some z→d<e→∃c,Ps N m t n (n-(d+1)) c∧(m (m z y) c=m y z∨m (m y z) c=m z y))
    (hp:∀d y,t d=some y→Ps N m t n (n-(d+1)) (rep m y (o d).toNat)):XW n o N m t:=by
  have g:=l.g 0;have y4:∀d y,t d=some y→d<n∧N 0 y:=fun d y h=>⟨(tb d y h).1,l.le (Nat.zero_le d) (tb d y h).2.1⟩
  have cm:∀d e y z,t d=some y→t e=some z→d<e→(∀f',f'≤n-(d+1)→HW (N 0) m (Sg (N 0) m t n f'))→∃c,Sg (N 0) m t n (n-(d+1)) c∧m (m z y) c=m y z:=by
    intro d e y z h1 h2 h3 hS;have hK:=hS _ (Nat.le_refl _);obtain⟨c,c1,c2⟩:=hc d e y z h1 h2 h3;have c3:=Ps.sg l y4 _ (by omega) hS c c1;rcases c2 with c2|c2
    · exact⟨c,c3,c2⟩
    obtain⟨w,w1,w2,w3⟩:=g.iv (hK.n c3);have hy:=(y4 d y h1).2;have hz:=(y4 e z h2).2;refine⟨w,hK.iv c3 w1 w3,?_⟩;rw[←c2,g.ac (g.cl hy hz) (hK.n c3) w1,w3,g.r1 (g.cl hy hz)]
  have all:=Sg.all g y4 cm n (Nat.le_refl n);exact⟨tb,fun d e y z h1 h2 h3=>cm d e y z h1 h2 h3 (fun f' aS=>all f' (by omega)),fun d y h=>Ps.sg l y4 _ (by omega) (fun f' aS=>all f' (by omega)) _ (hp d y h)⟩
end Go.Proofs.YtghmeeifjeafmaaGreat
