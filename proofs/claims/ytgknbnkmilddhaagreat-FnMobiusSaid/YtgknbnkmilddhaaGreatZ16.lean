import Derived.Test.YtgknbnkmilddhaaGreatZ08
import Derived.Test.YtgknbnkmilddhaaGreatZ15
set_option linter.unusedVariables false
set_option linter.unusedSimpArgs false

namespace Go.Proofs.YtgknbnkmilddhaaGreat
structure E5(N:V->Prop)(m:V->V->V)(S:V->Prop):Prop where
  n:∀{a},S a->N a
  e:S z0
  mu:∀{a b},S a->S b->S (m a b)
  iv:∀{a b},S a->N b->m a b=z0->S b
section
variable{N:V->Prop}{m:V->V->V}(g:JU N m){S:V->Prop}
include g
theorem E5.l{a b:V}(h:E5 N m S)(ha:S a)(hb:N b)(jV:S (m a b)):S b:=by
  obtain⟨c,c1,c2,c3⟩:=g.iv (h.n ha);have:=h.mu (h.iv ha c1 c3) jV;rwa [<-g.ac c1 (h.n ha) hb,c2,g.l1 hb]at this
theorem E5.r{a b:V}(h:E5 N m S)(ha:S a)(hb:N b)(jV:S (m b a)):S b:=by
  obtain⟨c,c1,c2,c3⟩:=g.iv (h.n ha);have:=h.mu jV (h.iv ha c1 c3);rwa [g.ac hb (h.n ha) c1,c3,g.r1 hb]at this
omit g in
theorem E5.rep{y:V}(h:E5 N m S)(hy:S y)(k:Nat):S (Go.Proofs.YtgknbnkmilddhaaGreat.rep m y k):=by
  induction k with
  |zero=>exact h.e
  |succ k ih=>exact h.mu ih hy
theorem Fg{y:V}(hy:N y)(a b:Nat):m (rep m y a) (rep m y b)=m (rep m y b) (rep m y a):=by
  rw[<-g.FX hy,<-g.FX hy,Nat.add_comm]
theorem sB{y:V}(h:E5 N m S)(hy:N y)(hn:∀s,S s->∃s1,S s1/\m s y=m y s1):∀k s,S s->∃s1,S s1/\m s (rep m y k)=m (rep m y k) s1:=by
  intro k;induction k with
  |zero=>intro s hs;exact⟨s,hs,by show m s z0=m z0 s;rw[g.r1 (h.n hs),g.l1 (h.n hs)]⟩
  | succ k ih=>
    intro s hs;obtain⟨s1,q1,q2⟩:=ih s hs;obtain⟨s2,q3,q4⟩:=hn s1 q1;refine⟨s2,q3,?_⟩;show m s (m (rep m y k) y)=m (m (rep m y k) y) s2
    have hr:=g.rep hy k;rw[<-g.ac (h.n hs) hr hy,q2,g.ac hr (h.n q1) hy,q4,g.ac hr hy (h.n q3)]
def Ad(N:V->Prop)(m:V->V->V)(S:V->Prop)(y x:V):Prop:=N x/\∃(a b:Nat) (s:V),S s/\m x (rep m y a)=m (rep m y b) s
theorem Ad.sub{y:V}(h:E5 N m S)(hy:N y)(hn:∀s,S s->∃s1,S s1/\m s y=m y s1):E5 N m (Ad N m S y):=by
  have hr:=λk=>g.rep hy k
  refine⟨λh=>h.1,⟨g.e0,0,0,z0,h.e,rfl⟩,?_,?_⟩
  · rintro x x' ⟨hx,a,b,s,hs,e1⟩ ⟨fO,a',b',s',Lf,e2⟩;obtain⟨s1,q1,q2⟩:=sB g h hy hn a s' Lf;obtain⟨s2,q3,q4⟩:=sB g h hy hn b' s hs;refine⟨g.cl hx fO,a'+a,b+b',m s2 s1,h.mu q3 q1,?_⟩;have n1:=h.n hs;have n2:=h.n Lf;have n3:=h.n q1;have n4:=h.n q3;rw[g.FX hy,g.FX hy]
    calc m (m x x') (m (rep m y a') (rep m y a))
        =m x (m (m x' (rep m y a')) (rep m y a)):=by rw[g.ac hx fO (g.cl (hr _) (hr _)),g.ac fO (hr _) (hr _)]
      _=m x (m (rep m y b') (m s' (rep m y a))):=by rw[e2,g.ac (hr _) n2 (hr _)]
      _=m x (m (rep m y b') (m (rep m y a) s1)):=by rw[q2]
      _=m (m x (m (rep m y a) (rep m y b'))) s1:=by rw[<-g.ac (hr _) (hr _) n3,Fg g hy b' a,g.ac hx (g.cl (hr _) (hr _)) n3]
      _=m (m (m (rep m y b) s) (rep m y b')) s1:=by rw[<-g.ac hx (hr _) (hr _),e1]
      _=m (m (rep m y b) (m (rep m y b') s2)) s1:=by rw[g.ac (hr _) n1 (hr _),q4]
      _=m (m (rep m y b) (rep m y b')) (m s2 s1):=by rw[<-g.ac (hr _) (hr _) n4,g.ac (g.cl (hr _) (hr _)) n4 n3]
  rintro x x' ⟨hx,a,b,s,hs,e1⟩ fO e0;obtain⟨c,c1,c2,c3⟩:=g.iv (h.n hs);refine⟨fO,b,a,c,h.iv hs c1 c3,?_⟩;have h0:m x' x=z0:=by
    obtain⟨w,w1,w2,w3⟩:=g.iv hx;have:x'=w:=g.lc hx fO w1 (by rw[e0,w3]);rw[this,w2]
  have h1:m (m x' (rep m y b)) s=rep m y a:=by
    rw[g.ac fO (hr _) (h.n hs),<-e1,<-g.ac fO hx (hr _),h0,g.l1 (hr _)]
  rw[<-h1,g.ac (g.cl fO (hr _)) (h.n hs) c1,c3,g.r1 (g.cl fO (hr _))]
theorem Ad.of{y s:V}(h:E5 N m S)(hs:S s):Ad N m S y s:=⟨h.n hs,0,0,s,hs,by show m s z0=m z0 s;rw[g.r1 (h.n hs),g.l1 (h.n hs)]⟩
theorem Ad.self{y:V}(h:E5 N m S)(hy:N y):Ad N m S y y:=⟨hy,0,1,z0,h.e,by show m y z0=m (m z0 y) z0;rw[g.l1 hy]⟩
theorem Ad.least{y x:V}{A:V->Prop}(h:E5 N m A)(hS:∀s,S s->A s)(hy:A y)(hx:Ad N m S y x):A x:=by
  obtain⟨h1,a,b,s,hs,e⟩:=hx;exact h.r g (h.rep hy a) h1 (by rw[e];exact h.mu (h.rep hy b) (hS s hs))
theorem Px{y:V}(h:E5 N m S)(hy:N y)(hn:∀s,S s->∃s1,S s1/\m s y=m y s1){q:Nat}(hq:S (rep m y (q+1))):∀s,S s->∃s1,S s1/\m y s=m s1 y:=by
  intro s hs;obtain⟨c,c1,c2,c3⟩:=g.iv (h.n hq);have nc:=h.iv hq c1 c3;have ns:=h.n hs;have hr:=λk=>g.rep hy k
  obtain⟨s1,q1,q2⟩:=sB g h hy hn q (m (m (rep m y (q+1)) s) c) (h.mu (h.mu hq hs) nc);have n1:=h.n q1;refine⟨s1,q1,?_⟩;refine g.lc (hr q) (g.cl hy ns) (g.cl n1 hy) ?_;have e2:m (rep m y q) y=rep m y (q+1):=rfl;rw[<-g.ac (hr q) n1 hy,<-q2,g.ac (g.cl (g.cl (hr _) ns) c1) (hr q) hy,e2,g.ac (g.cl (hr _) ns) c1 (hr _),c2,g.r1 (g.cl (hr _) ns),<-g.ac (hr q) hy ns,e2]
end
def Sg(N:V->Prop)(m:V->V->V)(t:Nat->Option V)(n:Nat):Nat->V->Prop
  |0,x=>x=z0
  | f+1,x=>match t (n-(f+1))with
    |none=>Sg N m t n f x
    |some y=>Ad N m (Sg N m t n f) y x
theorem OH{N:V->Prop}{m:V->V->V}{t:Nat->Option V}{n f:Nat}(h:t (n-(f+1))=none):Sg N m t n (f+1)=Sg N m t n f:=by
  funext x;rw[Sg,h]
theorem OI{N:V->Prop}{m:V->V->V}{t:Nat->Option V}{n f:Nat}{y:V}(h:t (n-(f+1))=some y):Sg N m t n (f+1)=Ad N m (Sg N m t n f) y:=by
  funext x;rw[Sg,h]
section
variable{N:V->Prop}{m:V->V->V}(g:JU N m){t:Nat->Option V}{n:Nat}
include g
theorem Sg.step{f:Nat}(h:E5 N m (Sg N m t n f)){x:V}(hx:Sg N m t n f x):Sg N m t n (f+1) x:=by
  cases ht:t (n-(f+1))with
  |none=>rw[OH ht];exact hx
  |some y=>rw[OI ht];exact Ad.of g h hx
theorem Sg.mono{f k:Nat}(h:∀f',f'<f+k->E5 N m (Sg N m t n f')){x:V}(hx:Sg N m t n f x):Sg N m t n (f+k) x:=by
  induction k with
  |zero=>exact hx
  |succ k ih=>exact Sg.step g (h (f+k) A0) (ih (λf' hf=>h f' A0))
theorem Sg.mem{d:Nat}{y:V}(hd:d<n)(ht:t d=some y)(hy:N y)(h:E5 N m (Sg N m t n (n-(d+1)))):Sg N m t n (n-d) y:=by
  rw[show n-d=n-(d+1)+1 by omega,OI (y:=y) (by rw[show n-(n-(d+1)+1)=d by omega];exact ht)];exact Ad.self g h hy
theorem Sg.nrm(tb:∀d y,t d=some y->d<n/\N y)
    (cm:∀d e y z,t d=some y->t e=some z->d<e->(∀f',f'<=n-(d+1)->E5 N m (Sg N m t n f'))->∃c,Sg N m t n (n-(d+1)) c/\m (m z y) c=m y z) {f:Nat} (hf:f+1<=n) (ih:∀f',f'<=f->E5 N m (Sg N m t n f')) {y:V} (ht:t (n-(f+1))=some y):
    ∀s,Sg N m t n f s->∃s1,Sg N m t n f s1/\m s y=m y s1:=by
  have hK:=ih f (Nat.le_refl f);have hy:=(tb _ _ ht).2;have hA:E5 N m (λx=>N x/\∃s1,Sg N m t n f s1/\m x y=m y s1):=by
    refine⟨λh=>h.1,⟨g.e0,z0,hK.e,by rw[g.l1 hy,g.r1 hy]⟩,?_,?_⟩
    · rintro x x' ⟨hx,s,hs,e1⟩ ⟨fO,s',Lf,e2⟩;refine⟨g.cl hx fO,m s s',hK.mu hs Lf,?_⟩;rw[g.ac hx fO hy,e2,<-g.ac hx hy (hK.n Lf),e1,g.ac hy (hK.n hs) (hK.n Lf)]
    rintro x x' ⟨hx,s,hs,e1⟩ fO e0;obtain⟨c,c1,c2,c3⟩:=g.iv (hK.n hs);refine⟨fO,c,hK.iv hs c1 c3,?_⟩;have h0:m x' x=z0:=by
      obtain⟨w,w1,w2,w3⟩:=g.iv hx;have:x'=w:=g.lc hx fO w1 (by rw[e0,w3]);rw[this,w2]
    have h1:m (m x' y) s=y:=by
      rw[g.ac fO hy (hK.n hs),<-e1,<-g.ac fO hx hy,h0,g.l1 hy]
    have h2:=congrArg (λu=>m u c) h1;rw[g.ac (g.cl fO hy) (hK.n hs) c1,c3,g.r1 (g.cl fO hy)]at h2;exact h2
  have hS :∀k,k<=f->∀x,Sg N m t n k x->N x/\∃s1,Sg N m t n f s1/\m x y=m y s1:=by
    intro k;induction k with
    |zero=>intro _ x hx;rw[Sg]at hx;rw[hx];exact hA.e
    | succ k vB=>
      intro hk x hx;cases hz:t (n-(k+1))with
      |none=>rw[OH hz]at hx;exact vB A0 x hx
      | some z=>
        rw[OI hz]at hx;have hzn:=(tb _ _ hz).2;refine Ad.least g hA (vB A0) ?_ hx;obtain⟨c,c1,c2⟩:=cm _ _ _ _ ht hz A0 (λf' Um=>ih f' A0);rw[show n-(n-(f+1)+1)=f by omega]at c1;have hzS:Sg N m t n f z:=by
          have h3:=Sg.mem g (t:=t) (n:=n) (d:=n-(k+1)) A0 hz hzn (ih _ A0);rw[show n-(n-(k+1))=k+1 by omega]at h3;have h4:=Sg.mono g (f:=k+1) (k:=f-(k+1)) (λf' hf=>ih f' A0) h3;rwa [show k+1+(f-(k+1))=f by omega]at h4
        obtain⟨w,w1,w2,w3⟩:=g.iv (hK.n c1);refine⟨hzn,m z w,hK.mu hzS (hK.iv c1 w1 w3),?_⟩;have h2:=congrArg (λu=>m u w) c2;rw[g.ac (g.cl hzn hy) (hK.n c1) w1,w3,g.r1 (g.cl hzn hy)]at h2;rw[h2,g.ac hy hzn w1]
  exact λs hs=>(hS f (Nat.le_refl f) s hs).2
theorem Sg.all(tb:∀d y,t d=some y->d<n/\N y)
    (cm:∀d e y z,t d=some y->t e=some z->d<e->(∀f',f'<=n-(d+1)->E5 N m (Sg N m t n f'))->∃c,Sg N m t n (n-(d+1)) c/\m (m z y) c=m y z):∀f,f<=n->∀f',f'<=f->E5 N m (Sg N m t n f'):=by
  intro f;induction f with
  | zero=>
    intro _ f' Um;obtain rfl:f'=0:=A0;refine⟨λh=>by rw[h];exact g.e0,rfl,λha hb=>?_,λha hb jV=>?_⟩
    · rw[Sg]at ha hb ⊢;rw[ha,hb];exact g.l1 g.e0
    rw[Sg]at ha ⊢;rw[ha,g.l1 hb]at jV;exact jV
  | succ f ih=>
    intro hf f' Um;have ih:=ih A0;rcases Nat.lt_or_ge f' (f+1)with q|q
    · exact ih f' A0
    obtain rfl:f'=f+1:=A0;have hK:=ih f (Nat.le_refl f);cases ht:t (n-(f+1))with
    |none=>rw[OH ht];exact hK
    | some y=>
      rw[OI ht];exact Ad.sub g hK (tb _ _ ht).2 (Sg.nrm g tb cm hf ih ht)
end
structure vU(n:Nat)(o:Nat->Int)(N:Nat->V->Prop)(m:V->V->V):Prop where
  g:∀d,JU (N d) m
  mono:∀{d x},N (d+1) x->N d x
  lead:∀{d a b},d<n->N d a->N d b->m a b d=(a d+b d)%o d
  op:∀{d},d<n->1<o d
  up:∀{d x},N d x->x d=0->N (d+1) x
  nz:∀{d x},N (d+1) x->x d=0
section
variable{n:Nat}{o:Nat->Int}{N:Nat->V->Prop}{m:V->V->V}(l:vU n o N m)
include l
theorem vU.le{d e:Nat}(h:d<=e){x:V}(hx:N e x):N d x:=by
  obtain⟨k,rfl⟩:∃k,e=d+k:=⟨e-d,A0⟩;induction k with
  |zero=>exact hx
  |succ k ih=>exact ih A0 (l.mono hx)
theorem vU.sbg(d:Nat):E5 (N 0) m (N d):=by
  refine⟨λh=>l.le (Nat.zero_le d) h,(l.g d).e0,λha hb=>(l.g d).cl ha hb,λ{a b} ha hb jV=>?_⟩;obtain⟨c,c1,c2,c3⟩:=(l.g d).iv ha;have:b=c:=(l.g 0).lc (l.le (Nat.zero_le d) ha) hb (l.le (Nat.zero_le d) c1) (by rw[jV,c3]);rw[this];exact c1
theorem vU.F4{d:Nat}(hd:d<n){y:V}(hy:N d y)(h1:y d=1):∀k:Nat,rep m y k d=(k:Int)%o d:=by
  intro k;induction k with
  |zero=>simp[rep,DG,z0]
  | succ k ih=>
    show m (rep m y k) y d=_
    rw[l.lead hd ((l.g d).rep hy k) hy,ih,h1,Int.emod_add_emod,Int.natCast_succ]
variable{t:Nat->Option V}
theorem vU.Uz(tb:∀d y,t d=some y->d<n/\N d y/\y d=1):∀f,f<=n->∀x,Sg (N 0) m t n f x->N (n-f) x:=by
  intro f;induction f with
  |zero=>intro _ x hx;rw[Sg]at hx;rw[hx];exact(l.g _).e0
  | succ f ih=>
    intro hf x hx;have hle:n-f=n-(f+1)+1:=A0;have hi:∀x,Sg (N 0) m t n f x->N (n-(f+1)) x:=λx hx=>l.mono (by rw[<-hle];exact ih A0 x hx)
    cases ht:t (n-(f+1))with
    |none=>rw[OH ht]at hx;exact hi x hx
    | some y=>
      rw[OI ht]at hx;exact Ad.least (l.g 0) (l.sbg _) hi (tb _ _ ht).2.1 hx
theorem vU.Py(tb:∀d y,t d=some y->d<n/\N d y/\y d=1){d:Nat}(hd:d<n){y:V}(ht:t d=some y)(hK:E5 (N 0) m (Sg (N 0) m t n (n-(d+1))))
    (hn:∀s,Sg (N 0) m t n (n-(d+1)) s->∃s1,Sg (N 0) m t n (n-(d+1)) s1/\m s y=m y s1) (pw:Sg (N 0) m t n (n-(d+1)) (rep m y (o d).toNat))
    {x:V} (hx:Sg (N 0) m t n (n-d) x) (iJ:N (d+1) x):Sg (N 0) m t n (n-(d+1)) x:=by
  obtain⟨_,y1,y2⟩:=tb d y ht;have g:=l.g 0;have hy:=l.le (Nat.zero_le d) y1;have ho:=l.op hd;have hr:=λk=>g.rep hy k
  rw[show n-d=n-(d+1)+1 by omega,OI (y:=y) (by rw[show n-(n-(d+1)+1)=d by omega];exact ht)]at hx;obtain⟨cZ,a,b,s,hs,e⟩:=hx;have hsd:N (d+1) s:=by
    have:=l.Uz tb (n-(d+1)) A0 s hs;rwa [show n-(n-(d+1))=d+1 by omega]at this
  have hl:(a:Int)%o d=(b:Int)%o d:=by
    have h1:=l.lead hd (l.mono iJ) ((l.g d).rep y1 a);have h2:=l.lead hd ((l.g d).rep y1 b) (l.mono hsd);rw[<-e,h1,l.nz iJ,l.nz hsd,l.F4 hd y1 y2,l.F4 hd y1 y2,Int.zero_add,Int.add_zero,Int.emod_emod,Int.emod_emod]at h2;exact h2
  obtain⟨w,hw⟩:∃w:Nat,o d=w:=⟨(o d).toNat,A0⟩;rw[hw]at hl pw;rw[Int.toNat_natCast]at pw;have I9:a%w=b%w:=A0;have hmul:∀k:Nat,Sg (N 0) m t n (n-(d+1)) (rep m y (w*k)):=by
    intro k;induction k with
    |zero=>exact hK.e
    |succ k ih=>rw[Nat.mul_succ,g.FX hy];exact hK.mu ih pw
  have A6Q:=Px g hK hy hn (q:=w-1) (by rw[show w-1+1=w by omega];exact pw);have jQ:∀(k:Nat) s,Sg (N 0) m t n (n-(d+1)) s->∃s1,Sg (N 0) m t n (n-(d+1)) s1/\m (rep m y k) s=m s1 (rep m y k):=by
    intro k;induction k with
    |zero=>intro s hs;exact⟨s,hs,by show m z0 s=m s z0;rw[g.r1 (hK.n hs),g.l1 (hK.n hs)]⟩
    | succ k ih=>
      intro s hs;obtain⟨s1,q1,q2⟩:=A6Q s hs;obtain⟨s2,q3,q4⟩:=ih s1 q1;refine⟨s2,q3,?_⟩;show m (m (rep m y k) y) s=m s2 (m (rep m y k) y)
      rw[g.ac (hr k) hy (hK.n hs),q2,<-g.ac (hr k) (hK.n q1) hy,q4,g.ac (hK.n q3) (hr k) hy]
  have fin:∀(k:Nat) s,Sg (N 0) m t n (n-(d+1)) s->m x (rep m y k)=m (rep m y k) s->Sg (N 0) m t n (n-(d+1)) x:=by
    intro k s hs e;obtain⟨s1,q1,q2⟩:=jQ k s hs;have:x=s1:=g.rc (hr k) cZ (hK.n q1) (by rw[e,q2]);rw[this];exact q1
  rcases Nat.le_total a b with h|h
  · obtain⟨q,hq⟩:∃q,b=a+w*q:=⟨(b-a)/w,by
      have:=Nat.sub_mod_eq_zero_of_mod_eq I9.symm;have:=Nat.div_add_mod (b-a) w;omega⟩
    refine fin a (m (rep m y (w*q)) s) (hK.mu (hmul q) hs) ?_;rw[e,hq,g.FX hy,g.ac (hr _) (hr _) (hK.n hs)]
  obtain⟨q,hq⟩:∃q,a=b+w*q:=⟨(a-b)/w,by
    have:=Nat.sub_mod_eq_zero_of_mod_eq I9;have:=Nat.div_add_mod (a-b) w;omega⟩
  obtain⟨c,c1,c2,c3⟩:=g.iv (hr (w*q));refine fin b (m s c) (hK.mu hs (hK.iv (hmul q) c1 c3)) ?_;rw[hq,g.FX hy]at e;have h2:=congrArg (λu=>m u c) e;rw[<-g.ac cZ (hr _) (hr _),g.ac (g.cl cZ (hr _)) (hr _) c1,c3,g.r1 (g.cl cZ (hr _)),g.ac (hr _) (hK.n hs) c1]at h2;exact h2
end
structure W2(n:Nat)(o:Nat->Int)(N:Nat->V->Prop)(m:V->V->V)(t:Nat->Option V):Prop where
  tb:∀d y,t d=some y->d<n/\N d y/\y d=1
  cm:∀d e y z,t d=some y->t e=some z->d<e->∃c,Sg (N 0) m t n (n-(d+1)) c/\m (m z y) c=m y z
  pw:∀d y,t d=some y->Sg (N 0) m t n (n-(d+1)) (rep m y (o d).toNat)
section
variable{n:Nat}{o:Nat->Int}{N:Nat->V->Prop}{m:V->V->V}(l:vU n o N m){t:Nat->Option V}(c:W2 n o N m t)
include l c
theorem W2.Pz:∀d y,t d=some y->d<n/\N 0 y:=λd y h=>⟨(c.tb d y h).1,l.le (Nat.zero_le d) (c.tb d y h).2.1⟩
theorem W2.sub{f:Nat}(hf:f<=n):E5 (N 0) m (Sg (N 0) m t n f):=Sg.all (l.g 0) (c.Pz l) (λd e y z h1 h2 h3 _=>c.cm d e y z h1 h2 h3) f hf f (Nat.le_refl f)
theorem W2.lev{d:Nat}(hd:d<=n){x:V}(hx:Sg (N 0) m t n (n-d) x):N d x:=by
  have:=l.Uz c.tb (n-d) A0 x hx;rwa [show n-(n-d)=d by omega]at this
theorem W2.next{d:Nat}(hd:d<n){x:V}(hx:Sg (N 0) m t n (n-d) x)(h0:x d=0):Sg (N 0) m t n (n-(d+1)) x:=by
  cases ht:t d with
  | none=>
    rw[show n-d=n-(d+1)+1 by omega,OH (by rw[show n-(n-(d+1)+1)=d by omega];exact ht)]at hx;exact hx
  | some y=>
    exact l.Py c.tb hd ht (c.sub l A0) (Sg.nrm (l.g 0) (c.Pz l) (λd e y z h1 h2 h3 _=>c.cm d e y z h1 h2 h3) (f:=n-(d+1)) A0 (λf' hf=>c.sub l A0) (by rw[show n-(n-(d+1)+1)=d by omega];exact ht)) (c.pw d y ht) hx (l.up (c.lev l A0 hx) h0)
theorem W2.back{d:Nat}(hd:d<n){x:V}(hx:Sg (N 0) m t n (n-(d+1)) x):Sg (N 0) m t n (n-d) x:=by
  rw[show n-d=n-(d+1)+1 by omega];exact Sg.step (l.g 0) (c.sub l A0) hx
theorem W2.zro{d:Nat}(hd:d<n)(ht:t d=none){x:V}(hx:Sg (N 0) m t n (n-d) x):x d=0:=by
  rw[show n-d=n-(d+1)+1 by omega,OH (by rw[show n-(n-(d+1)+1)=d by omega];exact ht)]at hx;exact l.nz (c.lev l A0 hx)
theorem W2.mem{d:Nat}{y:V}(ht:t d=some y):Sg (N 0) m t n (n-d) y:=
  Sg.mem (l.g 0) (c.tb d y ht).1 ht (c.Pz l d y ht).2 (c.sub l A0)
theorem W2.down{d e:Nat}(h:d<=e)(he:e<=n){x:V}(hx:Sg (N 0) m t n (n-e) x):Sg (N 0) m t n (n-d) x:=by
  obtain⟨k,rfl⟩:∃k,e=d+k:=⟨e-d,A0⟩;induction k with
  |zero=>exact hx
  |succ k ih=>exact ih A0 A0 (c.back l (d:=d+k) A0 hx)
theorem W2.depth{d:Nat}(hd:d<n):t d≠none↔∃x,Sg (N 0) m t n n x/\N d x/\x d≠0:=by
  constructor
  · intro h;cases ht:t d with
    |none=>exact absurd ht h
    | some y=>
      obtain⟨_,h1,h2⟩:=c.tb d y ht;exact⟨y,by have:=c.down l (Nat.zero_le d) A0 (c.mem l ht);rwa [Nat.sub_zero]at this,h1,by rw[h2];omega⟩
  rintro⟨x,hx,hN,h0⟩ ht;have key:∀k,k<=d->Sg (N 0) m t n (n-k) x:=by
    intro k;induction k with
    |zero=>intro _;rw[Nat.sub_zero];exact hx
    |succ k ih=>intro hk;exact c.next l A0 (ih A0) (l.nz (l.le hk hN))
  exact h0 (c.zro l hd ht (key d (Nat.le_refl d)))
end
def iR(N:V->Prop)(m:V->V->V)(us:V->Prop)(x:V):Prop:=∀A,E5 N m A->(∀u,us u->A u)->A x
theorem Sg.least{N:V->Prop}{m:V->V->V}(g:JU N m){t:Nat->Option V}{n:Nat}{A:V->Prop}(hA:E5 N m A)(ht:∀d y,t d=some y->A y):∀f x,Sg N m t n f x->A x:=by
  intro f;induction f with
  |zero=>intro x hx;rw[Sg]at hx;rw[hx];exact hA.e
  | succ f ih=>
    intro x hx;cases hz:t (n-(f+1))with
    |none=>rw[OH hz]at hx;exact ih x hx
    |some z=>rw[OI hz]at hx;exact Ad.least g hA ih (ht _ _ hz) hx
theorem W2.gen{n:Nat}{o:Nat->Int}{N:Nat->V->Prop}{m:V->V->V}(l:vU n o N m){t:Nat->Option V}(c:W2 n o N m t){us:V->Prop}
    (h1:∀d y,t d=some y->iR (N 0) m us y) (h2:∀u,us u->Sg (N 0) m t n n u) (x:V):Sg (N 0) m t n n x↔iR (N 0) m us x:=
  ⟨λh A hA hu=>Sg.least (l.g 0) hA (λd y hy=>h1 d y hy A hA hu) n x h,λh=>h _ (c.sub l (Nat.le_refl n)) h2⟩
theorem lvl{P:Pc}(hv:GX P)(hc:CG P 0):vU P.n P.o (T P) (M P 0):=by
  have e:∀d {a b:V},T P d a->T P d b->M P 0 a b=M P d a b:=λd a b ha hb=>Y8 hv (Nat.zero_le d) ha hb
  refine⟨λd=>?_,λ{d x} h=>h.mono hv (Nat.le_succ d),λ{d a b} hd ha hb=>?_,λ{d} hd=>hv.o d hd,λ{d x} h h0=>⟨λk hk=>?_,λk h2 h3=>h.r k A0 h3,h.t⟩,λ{d x} h=>h.z d A0⟩
  · have g:=C0 hv (hc.mono (Nat.zero_le d));refine⟨λ{a b} ha hb=>by rw[e d ha hb];exact g.cl ha hb,λ{a b c} ha hb hc=>?_,g.e0,λ{a} ha=>by rw[e d g.e0 ha];exact g.l1 ha,λ{a} ha=>by rw[e d ha g.e0];exact g.r1 ha,λ{a} ha=>?_⟩
    · rw[e d ha hb,e d hb hc,e d (g.cl ha hb) hc,e d ha (g.cl hb hc)];exact g.ac ha hb hc
    obtain⟨b,b1,b2,b3⟩:=g.iv ha;exact⟨b,b1,by rw[e d b1 ha];exact b2,by rw[e d ha b1];exact b3⟩
  · have h1:=ha.r d (Nat.le_refl _) hd;have h2:=hb.r d (Nat.le_refl _) hd;rw[e d ha hb,UL hd];unfold mF;split
    · rw[D4,<-Int.sub_emod_right,Int.emod_eq_of_lt A0 A0]
    rw[D4,Int.emod_eq_of_lt A0 A0]
  by_cases q:k=d
  · subst q;exact h0
  exact h.z k A0
def Cy(N:V->Prop)(m:V->V->V)(y u:V):Prop:=∀A,E5 N m A->A y->A u
def Sm(N:V->Prop)(m:V->V->V)(y x r:V):Prop:=∀A,E5 N m A->A y->(A x↔A r)
theorem Sm.right{N:V->Prop}{m:V->V->V}(g:JU N m){y x u:V}(hx:N x)(hu:Cy N m y u):Sm N m y x (m x u):=
  λA hA hy=>⟨λh=>hA.mu h (hu A hA hy),λh=>hA.r g (hu A hA hy) hx h⟩
theorem Sm.left{N:V->Prop}{m:V->V->V}(g:JU N m){y x u:V}(hx:N x)(hu:Cy N m y u):Sm N m y x (m u x):=
  λA hA hy=>⟨λh=>hA.mu (hu A hA hy) h,λh=>hA.l g (hu A hA hy) hx h⟩
def Ps(N:Nat->V->Prop)(m:V->V->V)(t:Nat->Option V)(n:Nat):Nat->V->Prop
  |0,x=>x=z0
  |f+1,x=>N 0 x/\((x (n-(f+1))=0/\Ps N m t n f x)\/∃y r,t (n-(f+1))=some y/\Sm (N 0) m y x r/\Ps N m t n f r)
theorem Ps.sg{n:Nat}{o:Nat->Int}{N:Nat->V->Prop}{m:V->V->V}(l:vU n o N m){t:Nat->Option V}(tb:∀d y,t d=some y->d<n/\N 0 y):
    ∀f,f<=n->(∀f',f'<=f->E5 (N 0) m (Sg (N 0) m t n f'))->∀x,Ps N m t n f x->Sg (N 0) m t n f x:=by
  intro f;induction f with
  |zero=>intro _ _ x hx;exact hx
  | succ f ih=>
    intro hf hS x hx;have ih:=ih A0 (λf' h=>hS f' A0);obtain⟨h0,⟨_,h2⟩|⟨y,u,h1,h2,h3⟩⟩:=hx
    · exact Sg.step (l.g 0) (hS f A0) (ih x h2)
    have hK:=hS (f+1) (Nat.le_refl _);have hy:Sg (N 0) m t n (f+1) y:=by
      have:=Sg.mem (l.g 0) (t:=t) (n:=n) (d:=n-(f+1)) (tb _ _ h1).1 h1 (tb _ _ h1).2 (hS _ A0);rwa [show n-(n-(f+1))=f+1 by omega]at this
    exact(h2 _ hK hy).2 (Sg.step (l.g 0) (hS f A0) (ih _ h3))
theorem W2.of{n:Nat}{o:Nat->Int}{N:Nat->V->Prop}{m:V->V->V}(l:vU n o N m){t:Nat->Option V}(tb:∀d y,t d=some y->d<n/\N d y/\y d=1)
    (hc:∀d e y z,t d=some y->t e=some z->d<e->∃c,Ps N m t n (n-(d+1)) c/\(m (m z y) c=m y z\/m (m y z) c=m z y))
    (hp:∀d y,t d=some y->Ps N m t n (n-(d+1)) (rep m y (o d).toNat)):W2 n o N m t:=by
  have g:=l.g 0;have Pz:∀d y,t d=some y->d<n/\N 0 y:=λd y h=>⟨(tb d y h).1,l.le (Nat.zero_le d) (tb d y h).2.1⟩
  have cm:∀d e y z,t d=some y->t e=some z->d<e->(∀f',f'<=n-(d+1)->E5 (N 0) m (Sg (N 0) m t n f'))->∃c,Sg (N 0) m t n (n-(d+1)) c/\m (m z y) c=m y z:=by
    intro d e y z h1 h2 h3 hS;have hK:=hS _ (Nat.le_refl _);obtain⟨c,c1,c2⟩:=hc d e y z h1 h2 h3;have c3:=Ps.sg l Pz _ A0 hS c c1;rcases c2 with c2|c2
    · exact⟨c,c3,c2⟩
    obtain⟨w,w1,w2,w3⟩:=g.iv (hK.n c3);have hy:=(Pz d y h1).2;have hz:=(Pz e z h2).2;refine⟨w,hK.iv c3 w1 w3,?_⟩;rw[<-c2,g.ac (g.cl hy hz) (hK.n c3) w1,w3,g.r1 (g.cl hy hz)]
  have all:=Sg.all g Pz cm n (Nat.le_refl n);exact⟨tb,λd e y z h1 h2 h3=>cm d e y z h1 h2 h3 (λf' Um=>all f' A0),λd y h=>Ps.sg l Pz _ A0 (λf' Um=>all f' A0) _ (hp d y h)⟩
end Go.Proofs.YtgknbnkmilddhaaGreat

namespace Go.Proofs.YtgknbnkmilddhaaGreat
noncomputable def JA(rd:Nat->V->V->V)(t:Nat->Option V)(n:Nat):Nat->V->Nat×V
  |0,x=>(n,x)
  | f+1,x=>if x (n-(f+1))=0 then JA rd t n f x else match t (n-(f+1))with
    |none=>(n-(f+1),x)
    |some y=>JA rd t n f (rd (n-(f+1)) y x)
section
variable{rd:Nat->V->V->V}{n:Nat}
theorem L4{t:Nat->Option V}{f:Nat}{x:V}(h:x (n-(f+1))=0):JA rd t n (f+1) x=JA rd t n f x:=by rw[JA,if_pos h]
theorem NK{t:Nat->Option V}{f:Nat}{x:V}(h:x (n-(f+1))≠0)(ht:t (n-(f+1))=none):JA rd t n (f+1) x=(n-(f+1),x):=by rw[JA,if_neg h,ht]
theorem L7{t:Nat->Option V}{f:Nat}{x y:V}(h:x (n-(f+1))≠0)(ht:t (n-(f+1))=some y):JA rd t n (f+1) x=JA rd t n f (rd (n-(f+1)) y x):=by rw[JA,if_neg h,ht]
theorem dA{t:Nat->Option V}:∀f,f<=n->∀x,(JA rd t n f x).1=n\/(n-f<=(JA rd t n f x).1/\(JA rd t n f x).1<n/\t (JA rd t n f x).1=none/\(JA rd t n f x).2 (JA rd t n f x).1≠0):=by
  intro f;induction f with
  |zero=>intro _ x;exact .inl rfl
  | succ f ih=>
    intro hf x;have up:∀z,(JA rd t n f z).1=n\/(n-(f+1)<=(JA rd t n f z).1/\(JA rd t n f z).1<n/\t (JA rd t n f z).1=none/\(JA rd t n f z).2 (JA rd t n f z).1≠0):=λz=>by
      rcases ih A0 z with h|⟨h1,h2,h3,h4⟩
      · exact .inl h
      exact .inr ⟨A0,h2,h3,h4⟩
    by_cases h:x (n-(f+1))=0
    · rw[L4 h];exact up x
    cases ht:t (n-(f+1))with
    |none=>rw[NK h ht];exact .inr ⟨Nat.le_refl _,by dsimp only;omega,ht,h⟩
    |some y=>rw[L7 h ht];exact up _
theorem kO{t t':Nat->Option V}(hle:∀d y,t d=some y->t' d=some y):∀f,f<=n->∀x,JA rd t' n f x=JA rd t' n (n-(JA rd t n f x).1) (JA rd t n f x).2:=by
  intro f;induction f with
  |zero=>intro _ x;rw[JA,JA,Nat.sub_self,JA]
  | succ f ih=>
    intro hf x;by_cases h:x (n-(f+1))=0
    · rw[L4 h,L4 h];exact ih A0 x
    cases ht:t (n-(f+1))with
    |none=>rw[NK h ht];dsimp only;rw[show n-(n-(f+1))=f+1 by omega]
    |some y=>rw[L7 h ht,L7 h (hle _ _ ht)];exact ih A0 _
theorem dB{t:Nat->Option V}{x:V}:∀k f,f+k<=n->(∀j,n-(f+k)<=j->j<n-f->x j=0)->JA rd t n (f+k) x=JA rd t n f x:=by
  intro k;induction k with
  |zero=>intro f _ _;rfl
  | succ k ih=>
    intro f hf h;rw[<-Nat.add_assoc,L4 (h _ A0 A0)];exact ih f A0 (λj h1 h2=>h j A0 h2)
end
section
variable{rd:Nat->V->V->V}{n:Nat}{o:Nat->Int}{N:Nat->V->Prop}{m:V->V->V}(l:vU n o N m)(top:∀x,N n x->x=z0)
  {t:Nat->Option V} (rk:∀d y x,d<n->t d=some y->N d x->Sm (N 0) m y x (rd d y x)/\N (d+1) (rd d y x))
include l rk
theorem kP:∀f,f<=n->∀x,N (n-f) x->N (JA rd t n f x).1 (JA rd t n f x).2:=by
  intro f;induction f with
  |zero=>intro _ x hx;rw[JA];exact hx
  | succ f ih=>
    intro hf x hx;have e:n-f=n-(f+1)+1:=A0;by_cases h:x (n-(f+1))=0
    · rw[L4 h];exact ih A0 x (by rw[e];exact l.up hx h)
    cases ht:t (n-(f+1))with
    |none=>rw[NK h ht];exact hx
    | some y=>
      rw[L7 h ht];obtain⟨_,h3⟩:=rk _ y x A0 ht hx;exact ih A0 _ (by rw[e];exact h3)
theorem kQ{A:V->Prop}(hA:E5 (N 0) m A)(hy:∀d y,t d=some y->A y):∀f,f<=n->∀x,N (n-f) x->(A x↔A (JA rd t n f x).2):=by
  intro f;induction f with
  |zero=>intro _ x hx;rw[JA]
  | succ f ih=>
    intro hf x hx;have e:n-f=n-(f+1)+1:=A0;by_cases h:x (n-(f+1))=0
    · rw[L4 h];exact ih A0 x (by rw[e];exact l.up hx h)
    cases ht:t (n-(f+1))with
    |none=>rw[NK h ht]
    | some y=>
      rw[L7 h ht];obtain⟨h1,h3⟩:=rk _ y x A0 ht hx;rw[<-ih A0 _ (by rw[e];exact h3)];exact h1 A hA (hy _ _ ht)
include top
theorem A1F:∀f,f<=n->∀x,N (n-f) x->(JA rd t n f x).1=n->Ps N m t n f x:=by
  intro f;induction f with
  |zero=>intro _ x hx _;exact top x hx
  | succ f ih=>
    intro hf x hx hs;have e:n-f=n-(f+1)+1:=A0;refine⟨l.le (Nat.zero_le _) hx,?_⟩;by_cases h:x (n-(f+1))=0
    · rw[L4 h]at hs;exact .inl ⟨h,ih A0 x (by rw[e];exact l.up hx h) hs⟩
    cases ht:t (n-(f+1))with
    |none=>rw[NK h ht]at hs;dsimp only at hs;omega
    | some y=>
      rw[L7 h ht]at hs;obtain⟨h1,h3⟩:=rk _ y x A0 ht hx;exact .inr ⟨y,_,rfl,h1,ih A0 _ (by rw[e];exact h3) hs⟩
end
def Cm(m:V->V->V)(y z c:V):Prop:=m (m z y) c=m y z\/m (m y z) c=m z y
theorem Cm.sy{m:V->V->V}{y z c:V}(h:Cm m y z c):Cm m z y c:=h.symm
theorem Cm.mem{N:V->Prop}{m:V->V->V}(g:JU N m){A:V->Prop}(hA:E5 N m A){y z c:V}(h:Cm m y z c)(hy:A y)(hz:A z)(hc:N c):A c:=by
  rcases h with h|h
  · exact hA.l g (hA.mu hz hy) hc (by rw[h];exact hA.mu hy hz)
  exact hA.l g (hA.mu hy hz) hc (by rw[h];exact hA.mu hz hy)
def Pd(rd:Nat->V->V->V)(t:Nat->Option V)(n:Nat)(W:V->Prop)(z:V):Prop:=(JA rd t n n z).1=n\/∃r,W r/\JA rd t n n z=JA rd t n n r
structure Inv(n:Nat)(o:Nat->Int)(N:Nat->V->Prop)(m:V->V->V)(rd:Nat->V->V->V)(us:V->Prop)(t:Nat->Option V)(W:V->Prop):Prop where
  tb:∀d y,t d=some y->d<n/\N d y/\y d=1
  wn:∀v,W v->N 0 v
  pc:∀d e y z,t d=some y->t e=some z->d<e->∃c,N 0 c/\Cm m y z c/\Pd rd t n W c
  pp:∀d y,t d=some y->Pd rd t n W (rep m y (o d).toNat)
  g1:∀d y,t d=some y->iR (N 0) m us y
  g2:∀v,W v->iR (N 0) m us v
  g3:∀u,us u->iR (N 0) m (λv=>W v\/∃d,t d=some v) u
section
variable{n:Nat}{o:Nat->Int}{N:Nat->V->Prop}{m:V->V->V}{rd:Nat->V->V->V}{us:V->Prop}(l:vU n o N m)(top:∀x,N n x->x=z0)
  (rk:∀d y x,d<n->N d y->y d=1->N d x->Sm (N 0) m y x (rd d y x)/\N (d+1) (rd d y x)) {t:Nat->Option V} {W:V->Prop}
theorem Inv.rk'(rk:∀d y x,d<n->N d y->y d=1->N d x->Sm (N 0) m y x (rd d y x)/\N (d+1) (rd d y x))(h:Inv n o N m rd us t W):∀d y x,d<n->t d=some y->N d x->Sm (N 0) m y x (rd d y x)/\N (d+1) (rd d y x):=
  λd y x h1 h2 h3=>rk d y x h1 (h.tb d y h2).2.1 (h.tb d y h2).2.2 h3
include l rk
omit rk in
theorem Inv.low(h:Inv n o N m rd us t W){d e:Nat}{y z c:V}(h1:t d=some y)(h2:t e=some z)(hde:d<e)(hc:N 0 c)(hm:Cm m y z c):N (d+1) c:=by
  obtain⟨hd,y1,y2⟩:=h.tb d y h1;obtain⟨he,z1,z2⟩:=h.tb e z h2;have z3:=l.le (show d+1<=e by omega) z1;have zd:=l.mono z3;have As:N d c:=Cm.mem (l.g 0) (l.sbg d) hm y1 zd hc;refine l.up As ?_;have e0:=l.lead hd (l.g d).e0 As;rw[(l.g d).l1 As]at e0;have e1:=l.lead hd zd y1;have e2:=l.lead hd y1 zd;rw[l.nz z3,y2]at e1 e2;have ho:=l.op hd;have key:∀q:Int,(q%o d+c d)%o d=q%o d->c d=0:=by
    intro q hq;rw[Int.emod_add_emod]at hq;have:=Int.emod_eq_emod_iff_emod_sub_eq_zero.1 hq;rw[show q+c d-q=c d by omega]at this;rw[e0];show((z0 d:Int)+c d)%o d=0
    rw[show(z0 d:Int)=0 from rfl,Int.zero_add];exact this
  rcases hm with hm|hm
  · have e3:=l.lead hd ((l.g d).cl zd y1) As;rw[hm,e1,e2,show(0:Int)+1=1+0 by omega]at e3;exact key _ e3.symm
  have e3:=l.lead hd ((l.g d).cl y1 zd) As;rw[hm,e1,e2,show(0:Int)+1=1+0 by omega]at e3;exact key _ e3.symm
include top
theorem Inv.fin(h:Inv n o N m rd us t (λ_=>False)):W2 n o N m t/\∀x,Sg (N 0) m t n n x↔iR (N 0) m us x:=by
  have hps:∀d c,d<n->N (d+1) c->Pd rd t n (λ_=>False) c->Ps N m t n (n-(d+1)) c:=by
    intro d c hd hc hp;rcases hp with hp|⟨r,hr,_⟩
    · refine A1F l top (h.rk' rk) _ A0 c (by rw[show n-(n-(d+1))=d+1 by omega];exact hc) ?_;have:=dB (rd:=rd) (t:=t) (x:=c) (n:=n) (d+1) (n-(d+1)) A0 (λj _ h2=>l.nz (l.le A0 hc));rw[show n-(d+1)+(d+1)=n by omega]at this;rw[<-this];exact hp
    exact hr.elim
  have c:W2 n o N m t:=by
    refine W2.of l h.tb (λd e y z h1 h2 h3=>?_) (λd y h1=>?_)
    · obtain⟨c,c1,c2,c3⟩:=h.pc d e y z h1 h2 h3;exact⟨c,hps d c (h.tb d y h1).1 (h.low l h1 h2 h3 c1 c2) c3,c2⟩
    obtain⟨hd,y1,y2⟩:=h.tb d y h1;refine hps d _ hd (l.up ((l.g d).rep y1 _) ?_) (h.pp d y h1);have ho:=l.op hd;rw[l.F4 hd y1 y2,Int.toNat_of_nonneg A0,Int.emod_self]
  refine⟨c,c.gen l h.g1 (λu hu=>?_)⟩;refine h.g3 u hu _ (c.sub l (Nat.le_refl n)) (λv hv=>?_);rcases hv with hv|⟨d,hd⟩
  · exact hv.elim
  have:=c.down l (Nat.zero_le d) (by have:=(c.tb d v hd).1;omega) (c.mem l hd);rwa [Nat.sub_zero]at this
theorem Inv.drop(h:Inv n o N m rd us t W){x:V}{W':V->Prop}(hx:W x)(hs:(JA rd t n n x).1=n)(h1:∀v,W v->v=x\/W' v)(h2:∀v,W' v->W v):Inv n o N m rd us t W':=by
  have pd:∀z,Pd rd t n W z->Pd rd t n W' z:=by
    rintro z (hz|⟨r,r1,r2⟩)
    · exact .inl hz
    rcases h1 r r1 with rfl|r3
    · exact .inl (by rw[r2];exact hs)
    exact .inr ⟨r,r3,r2⟩
  refine⟨h.tb,λv hv=>h.wn v (h2 v hv),λd e y z a b c=>?_,λd y a=>pd _ (h.pp d y a),h.g1,λv hv=>h.g2 v (h2 v hv),λu hu A hA Au=>?_⟩
  · obtain⟨w,w1,w2,w3⟩:=h.pc d e y z a b c;exact⟨w,w1,w2,pd _ w3⟩
  refine h.g3 u hu A hA (λv hv=>?_);rcases hv with hv|hv
  · rcases h1 v hv with rfl|h3
    · have hN:=h.wn v hx;rw[kQ l (h.rk' rk) hA (λd y hy=>Au y (.inr ⟨d,hy⟩)) n (Nat.le_refl n) v (by rw[Nat.sub_self];exact hN)];have:=kP l (h.rk' rk) n (Nat.le_refl n) v (by rw[Nat.sub_self];exact hN);rw[hs]at this;rw[top _ this];exact hA.e
    exact Au v (.inl h3)
  exact Au v (.inr hv)
omit top in

theorem Inv.add(h:Inv n o N m rd us t W){x:V}{W':V->Prop}(hx:W x){d:Nat}{r y:V}(hs:JA rd t n n x=(d,r))(hd:d<n)(hy:N d y)(hy1:y d=1)(hcy:Cy (N 0) m r y)
    (h1:∀v,W v->v=x\/W' v) (hr:W' r) (hp:W' (rep m y (o d).toNat)) (hc:∀e z,e≠d->t e=some z->∃c,W' c/\Cm m y z c)
    (h2:∀v,W' v->W v\/v=r\/v=rep m y (o d).toNat\/∃e z,t e=some z/\Cm m y z v/\N 0 v):Inv n o N m rd us (λk=>if k=d then some y else t k) W':=by
  have hxN:=h.wn x hx;have g:=l.g 0;have oB:=l.le (Nat.zero_le d) hy;have htd:t d=none:=by
    have:=dA (rd:=rd) (t:=t) n (Nat.le_refl n) x;rw[hs]at this;rcases this with q|q
    · dsimp only at q;omega
    exact q.2.2.1
  have hrN:N d r:=by
    have:=kP l (h.rk' rk) n (Nat.le_refl n) x (by rw[Nat.sub_self];exact hxN);rwa [hs]at this
  have hle:∀e z,t e=some z->(if e=d then some y else t e)=some z:=λe z he=>by
    rw[if_neg (λq=>by rw[q,htd]at he;cases he)];exact he
  have A6R:JA rd (λk=>if k=d then some y else t k) n n r=JA rd (λk=>if k=d then some y else t k) n (n-d) r:=by
    have:=dB (rd:=rd) (t:=λk=>if k=d then some y else t k) (x:=r) (n:=n) d (n-d) A0 (λj _ q=>l.nz (l.le A0 hrN));rwa [show n-d+d=n by omega]at this
  have pd:∀z,Pd rd t n W z->Pd rd (λk=>if k=d then some y else t k) n W' z:=by
    rintro z (hz|⟨q,q1,q2⟩)
    · left
      rw[kO hle n (Nat.le_refl n) z,hz,Nat.sub_self,JA]
    right
    rcases h1 q q1 with rfl|q3
    · exact⟨r,hr,by rw[kO hle n (Nat.le_refl n) z,q2,hs,A6R]⟩
    exact⟨q,q3,by rw[kO hle n (Nat.le_refl n) z,kO hle n (Nat.le_refl n) q,q2]⟩
  have aH:∀A,E5 (N 0) m A->(∀e z,t e=some z->A z)->(A x↔A r):=λA hA ht=>by
    have:=kQ l (h.rk' rk) hA ht n (Nat.le_refl n) x (by rw[Nat.sub_self];exact hxN);rwa [hs]at this
  have hrG:iR (N 0) m us r:=λA hA hu=>(aH A hA (λe z he=>h.g1 e z he A hA hu)).1 (h.g2 x hx A hA hu)
  have hyG:iR (N 0) m us y:=λA hA hu=>hcy A hA (hrG A hA hu)
  have Uc:=l.le (Nat.zero_le d) hrN;refine⟨λe z he=>?_,λv hv=>?_,λe f z w he hf hef=>?_,λe z he=>?_,λe z he=>?_,λv hv=>?_,λu hu A hA Au=>?_⟩
  · split at he
    · rename_i q;cases he;subst q;exact⟨hd,hy,hy1⟩
    exact h.tb e z he
  · rcases h2 v hv with q|q|q|⟨_,_,_,_,q⟩
    · exact h.wn v q
    · rw[q];exact Uc
    · rw[q];exact g.rep oB _
    exact q
  · split at he
    · rename_i q;cases he;subst q;rw[if_neg A0]at hf;obtain⟨c,c1,c2⟩:=hc f w A0 hf;have cN:N 0 c:=by
        rcases h2 c c1 with q|q|q|⟨_,_,_,_,q⟩
        · exact h.wn c q
        · rw[q];exact Uc
        · rw[q];exact g.rep oB _
        exact q
      exact⟨c,cN,c2,.inr ⟨c,c1,rfl⟩⟩
    rename_i q;split at hf
    · rename_i q2;cases hf;subst q2;obtain⟨c,c1,c2⟩:=hc e z q he;have cN:N 0 c:=by
        rcases h2 c c1 with q|q|q|⟨_,_,_,_,q⟩
        · exact h.wn c q
        · rw[q];exact Uc
        · rw[q];exact g.rep oB _
        exact q
      exact⟨c,cN,c2.sy,.inr ⟨c,c1,rfl⟩⟩
    obtain⟨c,c1,c2,c3⟩:=h.pc e f z w he hf hef;exact⟨c,c1,c2,pd _ c3⟩
  · split at he
    · rename_i q;cases he;subst q;exact .inr ⟨_,hp,rfl⟩
    exact pd _ (h.pp e z he)
  · split at he
    · cases he;exact hyG
    exact h.g1 e z he
  · rcases h2 v hv with q|q|q|⟨e,z,q1,q2,q3⟩
    · exact h.g2 v q
    · rw[q];exact hrG
    · rw[q];exact λA hA hu=>hA.rep (hyG A hA hu) _
    exact λA hA hu=>q2.mem g hA (hyG A hA hu) (h.g1 e z q1 A hA hu) q3
  refine h.g3 u hu A hA (λv hv=>?_);have ht:∀e z,t e=some z->A z:=λe z he=>Au z (.inr ⟨e,hle e z he⟩)
  rcases hv with hv|⟨e,he⟩
  · rcases h1 v hv with rfl|h3
    · exact(aH A hA ht).2 (Au r (.inl hr))
    exact Au v (.inl h3)
  exact ht e v he
omit l rk top in

theorem Inv.start{W:V->Prop}(h:∀v,W v->N 0 v):Inv n o N m rd W (λ_=>none) W:=
  ⟨λd y q=>(by cases q),h,λd e y z q=>(by cases q),λd y q=>(by cases q),λd y q=>(by cases q),λv hv A hA hu=>hu v hv,λu hu A hA Au=>Au u (.inl hu)⟩
end
end Go.Proofs.YtgknbnkmilddhaaGreat

namespace Go.Proofs.YtgknbnkmilddhaaGreat
section
variable{P:Pc}(hv:GX P)(hc:CG P 0)
include hv hc
theorem A1G{e:Nat}(he:e<P.n){x u:V}(hx:T P 0 x)(hu:T P e u):(∀k,k<e->M P 0 x u k=x k)/\M P 0 x u e=(x e+u e)%P.o e:=by
  have h:=Dn hv e (l:=0) hx (u:=u) (by rw[Nat.zero_add];exact hu);rw[Nat.zero_add]at h;have ht:T P e (tl e x):=yW hv hx e;refine⟨λk hk=>by rw[h];simp only[if_pos hk],?_⟩;have h2:M P 0 x u e=M P e (tl e x) u e:=by rw[h];simp only[Nat.lt_irrefl,if_false]
  have h3:M P e (tl e x) u=M P 0 (tl e x) u:=(Y8 hv (Nat.zero_le e) ht hu).symm;have h4:tl e x e=x e:=by unfold tl;rw[if_neg A0]
  rw[h2,h3,(lvl hv hc).lead he ht hu,h4]
theorem dC{S:V->Prop}(hS:E5 (T P 0) (M P 0) S){d:Nat}{z z':V}(h1:S z)(h2:S z')(z1:T P d z)(z2:T P d z')(hd:d<P.n)(h0:z d=z' d)
    (hz:∀e,d<e->e<P.n->(∃x,S x/\T P e x/\x e≠0)->z e=0/\z' e=0):z=z':=by
  have l:=lvl hv hc;have g:=l.g 0;have n1:=hS.n h1;have n2:=hS.n h2;obtain⟨w,w1,w2,w3⟩:=g.iv n1;have hw:S w:=hS.iv h1 w1 w3;have hs:S (M P 0 w z'):=hS.mu hw h2;have hzs:M P 0 z (M P 0 w z')=z':=by rw[<-g.ac n1 w1 n2,w3,g.l1 n2]
  have hwd:T P d w:=(l.sbg d).iv z1 w1 w3;have key:∀k,d+k<=P.n->T P (d+k) (M P 0 w z'):=by
    intro k;induction k with
    |zero=>intro _;exact(l.g d).cl hwd z2
    | succ k ih=>
      intro hk;have hT:=ih A0;refine l.up hT ?_;have he:d+k<P.n:=A0;obtain⟨_,a2⟩:=A1G hv hc he n1 hT;rw[hzs]at a2;have hr:=hT.r (d+k) (Nat.le_refl _) he;have ho:=l.op he;apply Classical.byContradiction;intro AQ;rcases Nat.eq_zero_or_pos k with rfl|LP
      · have q1:=z1.r d (Nat.le_refl _) hd;have q2:=z2.r d (Nat.le_refl _) hd;have AQ:¬M P 0 w z' d=0:=AQ;rw[Nat.add_zero]at a2 hr;rw[h0]at a2;have q3:(z' d+M P 0 w z' d)%P.o d=z' d%P.o d:=by rw[<-a2,Int.emod_eq_of_lt q2.1 q2.2]
        have q4:=Int.emod_eq_emod_iff_emod_sub_eq_zero.1 q3;rw[show z' d+M P 0 w z' d-z' d=M P 0 w z' d by omega,Int.emod_eq_of_lt hr.1 hr.2]at q4;exact AQ q4
      obtain⟨b1,b2⟩:=hz (d+k) A0 he ⟨_,hs,hT,AQ⟩;rw[b1,b2,Int.zero_add,Int.emod_eq_of_lt hr.1 hr.2]at a2;exact AQ a2.symm
  have hz0:M P 0 w z'=z0:=(key (P.n-d) A0).ge A0;rw[hz0,g.r1 n1]at hzs;exact hzs
end
theorem Cy.rep{N:V->Prop}{m:V->V->V}(y:V)(k:Nat):Cy N m y (Go.Proofs.YtgknbnkmilddhaaGreat.rep m y k):=λA hA hy=>hA.rep hy k
theorem Cy.ABE{N:V->Prop}{m:V->V->V}{y w:V}(hw:N w)(h:m y w=z0)(k:Nat):Cy N m y (Go.Proofs.YtgknbnkmilddhaaGreat.rep m w k):=λA hA hy=>hA.rep (hA.iv hy hw h) k
noncomputable def W3(P:Pc)(d:Nat)(y x:V):V:=M P 0 (rep (M P 0) y (P.o d-x d).toNat) x
theorem QA{P:Pc}(hv:GX P)(hc:CG P 0):∀d y x,d<P.n->T P d y->y d=1->T P d x->Sm (T P 0) (M P 0) y x (W3 P d y x)/\T P (d+1) (W3 P d y x):=by
  intro d y x hd hy h1 hx;have l:=lvl hv hc;have hr:=hx.r d (Nat.le_refl _) hd;have hu:=(l.g d).rep hy (P.o d-x d).toNat;refine⟨Sm.left (l.g 0) (l.le (Nat.zero_le d) hx) (Cy.rep y _),?_⟩;refine l.up ((l.g d).cl hu hx) ?_;show M P 0 (rep (M P 0) y (P.o d-x d).toNat) x d=0
  rw[l.lead hd hu hx,l.F4 hd hy h1,Int.toNat_of_nonneg A0,Int.emod_add_emod,show P.o d-x d+x d=P.o d by omega,Int.emod_self]
end Go.Proofs.YtgknbnkmilddhaaGreat

namespace Go.Proofs.YtgknbnkmilddhaaGreat
noncomputable def qD(rd:Nat->V->V->V)(dn:Nat->Option V):Nat->Nat->V->V
  |0,_,x=>x
  | f+1,e,x=>qD rd dn f (e+1) (match dn e with
    |none=>x
    |some w=>if x e=0 then x else rd e w x)
section
variable{P:Pc}(hv:GX P)(hc:CG P 0){rd:Nat->V->V->V}
  (rk:∀e w x,e<P.n->T P e w->w e=1->T P 0 x->∃u,Cy (T P 0) (M P 0) w u/\T P e u/\rd e w x=M P 0 x u/\(x e+u e)%P.o e=0)
include hv hc rk
theorem A1H{S:V->Prop}(hS:E5 (T P 0) (M P 0) S){dn:Nat->Option V}(hd:∀e w,dn e=some w->e<P.n/\S w/\T P e w/\w e=1):
    ∀f e x,e+f<=P.n->S x->S (qD rd dn f e x)/\(∀k,k<e->qD rd dn f e x k=x k)/\∀k,e<=k->k<e+f->dn k≠none->qD rd dn f e x k=0:=by
  intro f;induction f with
  |zero=>intro e x _ hx;exact⟨hx,λ_ _=>rfl,λk h1 h2=>A0⟩
  | succ f ih=>
    intro e x he hx;rw[qD];have step:∃x',(match dn e with
        |none=>x
        |some w=>if x e=0 then x else rd e w x)=x'/\S x'/\(∀k,k<e->x' k=x k)/\(dn e≠none->x' e=0):=by
      cases hw:dn e with
      |none=>exact⟨x,rfl,hx,λ_ _=>rfl,λh=>absurd rfl h⟩
      | some w=>
        obtain⟨w0,w1,w2,w3⟩:=hd e w hw;by_cases h0:x e=0
        · exact⟨x,by dsimp only;rw[if_pos h0],hx,λ_ _=>rfl,λ_=>h0⟩
        obtain⟨u,u1,u2,u3,u4⟩:=rk e w x w0 w2 w3 (hS.n hx);obtain⟨a1,a2⟩:=A1G hv hc w0 (hS.n hx) u2;exact⟨M P 0 x u,by dsimp only;rw[if_neg h0,u3],hS.mu hx (u1 S hS w1),a1,λ_=>by rw[a2,u4]⟩
    obtain⟨x',e1,s1,s2,s3⟩:=step;rw[e1];obtain⟨i1,i2,i3⟩:=ih (e+1) x' A0 s1;refine⟨i1,λk hk=>by rw[i2 k A0,s2 k hk],λk h1 h2 h3=>?_⟩;by_cases q:k=e
    · subst q;rw[i2 k A0];exact s3 h3
    exact i3 k A0 A0 h3
end
structure Z2(P:Pc)(S:V->Prop)(dn:Nat->Option V):Prop where
  el:∀d z,dn d=some z->d<P.n/\S z/\T P d z/\z d=1/\∀e,d<e->e<P.n->(∃x,S x/\T P e x/\x e≠0)->z e=0
  no:∀d,d<P.n->dn d=none->¬∃x,S x/\T P d x/\x d≠0
theorem Z2.uniq{P:Pc}(hv:GX P)(hc:CG P 0){S:V->Prop}(hS:E5 (T P 0) (M P 0) S){dn Va:Nat->Option V}(h:Z2 P S dn)(h':Z2 P S Va){d:Nat}(hd:d<P.n):dn d=Va d:=by
  cases h1:dn d with
  | none=>
    cases h2:Va d with
    |none=>rfl
    | some z=>
      obtain⟨_,a1,a2,a3,_⟩:=h'.el d z h2;exact absurd ⟨z,a1,a2,by rw[a3];omega⟩ (h.no d hd h1)
  | some z=>
    obtain⟨_,a1,a2,a3,a4⟩:=h.el d z h1;cases h2:Va d with
    |none=>exact absurd ⟨z,a1,a2,by rw[a3];omega⟩ (h'.no d hd h2)
    | some z'=>
      obtain⟨_,b1,b2,b3,b4⟩:=h'.el d z' h2;rw[dC hv hc hS a1 b1 a2 b2 hd (by rw[a3,b3]) (λe q1 q2 q3=>⟨a4 e q1 q2 q3,b4 e q1 q2 q3⟩)]
end Go.Proofs.YtgknbnkmilddhaaGreat

namespace Go.Proofs.YtgknbnkmilddhaaGreat
noncomputable def RM(rd:Nat->V->V->V)(t:Nat->Option V)(n:Nat):Nat->Nat->Option V
  |0=>λ_=>none
  | j+1=>match t (n-1-j)with
    |none=>RM rd t n j
    |some y=>λk=>if k=n-1-j then some (qD rd (RM rd t n j) j (n-j) y)else RM rd t n j k
section
variable{P:Pc}(hv:GX P)(hc:CG P 0){rd:Nat->V->V->V}
  (rk:∀e w x,e<P.n->T P e w->w e=1->T P 0 x->∃u,Cy (T P 0) (M P 0) w u/\T P e u/\rd e w x=M P 0 x u/\(x e+u e)%P.o e=0)
include hv hc rk
theorem Fh{S:V->Prop}(hS:E5 (T P 0) (M P 0) S){t:Nat->Option V}(ht:∀d y,t d=some y->d<P.n/\S y/\T P d y/\y d=1):∀j,j<=P.n->
    (∀d z,RM rd t P.n j d=some z->P.n-j<=d/\d<P.n/\S z/\T P d z/\z d=1/\∀e,d<e->e<P.n->t e≠none->z e=0)/\∀d,P.n-j<=d->d<P.n->(RM rd t P.n j d=none↔t d=none):=by
  intro j;induction j with
  |zero=>intro _;exact⟨λd z h=>(by cases h),λd h1 h2=>A0⟩
  | succ j ih=>
    intro hj;obtain⟨i1,i2⟩:=ih A0;have eqn:P.n-1-j=P.n-(j+1):=A0;cases hy:t (P.n-1-j)with
    | none=>
      have e1:RM rd t P.n (j+1)=RM rd t P.n j:=by rw[RM,hy]
      rw[e1];refine⟨λd z h=>?_,λd h1 h2=>?_⟩
      · obtain⟨a1,a2,a3⟩:=i1 d z h;exact⟨A0,a2,a3⟩
      by_cases q:d=P.n-1-j
      · subst q;rw[hy];refine⟨λ_=>rfl,λ_=>?_⟩;cases hq:RM rd t P.n j (P.n-1-j)with
        |none=>rfl
        |some z=>have:=(i1 _ z hq).1;omega
      exact i2 d A0 h2
    | some y=>
      have e1:RM rd t P.n (j+1)=λk=>if k=P.n-1-j then some (qD rd (RM rd t P.n j) j (P.n-j) y)else RM rd t P.n j k:=by rw[RM,hy]
      rw[e1];obtain⟨y0,y1,y2,y3⟩:=ht _ y hy;obtain⟨r1,r2,r3⟩:=A1H hv hc rk hS (dn:=RM rd t P.n j) (λe w he=>by
        obtain⟨a1,a2,a3,a4,a5,_⟩:=i1 e w he;exact⟨a2,a3,a4,a5⟩) j (P.n-j) y A0 y1
      refine⟨λd z h=>?_,λd h1 h2=>?_⟩
      · dsimp only at h;split at h
        · rename_i q;cases h;have hT:=hS.n r1;refine⟨A0,A0,r1,⟨λk hk=>?_,λk _ h3=>hT.r k (Nat.zero_le k) h3,hT.t⟩,?_,λe h3 h4 h5=>?_⟩
          · rw[r2 k A0];exact y2.z k A0
          · rw[r2 d A0,q];exact y3
          refine r3 e A0 A0 (λh6=>h5 ((i2 e A0 h4).1 h6))
        obtain⟨a1,a2,a3⟩:=i1 d z h;exact⟨A0,a2,a3⟩
      dsimp only;by_cases q:d=P.n-1-j
      · rw[if_pos q,q,hy];exact⟨λh=>(by cases h),λh=>(by cases h)⟩
      rw[if_neg q];exact i2 d A0 h2
theorem kR{m:V->V->V}(l:vU P.n P.o (T P) m){t:Nat->Option V}(c:W2 P.n P.o (T P) m t)(hS:E5 (T P 0) (M P 0) (Sg (T P 0) m t P.n P.n)):Z2 P (Sg (T P 0) m t P.n P.n) (RM rd t P.n P.n):=by
  obtain⟨h1,h2⟩:=Fh hv hc rk hS (t:=t) (λd y hy=>by
    obtain⟨a1,a2,a3⟩:=c.tb d y hy;have:=c.down l (Nat.zero_le d) A0 (c.mem l hy);rw[Nat.sub_zero]at this;exact⟨a1,this,a2,a3⟩) P.n (Nat.le_refl _)
  refine⟨λd z h=>?_,λd hd h=>?_⟩
  · obtain⟨_,a2,a3,a4,a5,a6⟩:=h1 d z h;exact⟨a2,a3,a4,a5,λe q1 q2 q3=>a6 e q1 q2 ((c.depth l q2).2 q3)⟩
  rw[<-c.depth l hd];exact λq=>q ((h2 d A0 hd).1 h)
end
end Go.Proofs.YtgknbnkmilddhaaGreat

namespace Go.Proofs.YtgknbnkmilddhaaGreat
noncomputable def Aw(P:Pc)(d:Nat)(y x:V):V:=M P 0 x (RK P y (0-x d))
section
variable{P:Pc}(hv:GX P)(hc:CG P 0)
theorem Fi{t:Nat->Option V}:∀f d x,d+f=P.n->FL P t f d x=JA (Aw P) t P.n f x:=by
  intro f;induction f with
  |zero=>intro d x hd;rw[FL,JA,show d=P.n by omega]
  | succ f ih=>
    intro d x hd;have e:P.n-(f+1)=d:=A0;rw[FL,JA,e];split
    · exact ih _ _ A0
    cases t d with
    |none=>rfl
    |some y=>exact ih _ _ A0
theorem SH:∀x,T P P.n x->x=z0:=λx hx=>hx.ge (Nat.le_refl _)
theorem oC{t:Nat->Option V}{d:Nat}{y:V}:∀k v,v∈cW P t d y k↔∃e z,e<k/\e≠d/\t e=some z/\v=cmV P y z:=by
  intro k;induction k with
  |zero=>intro v;rw[cW];exact⟨λh=>(by cases h),λ⟨e,z,h,_⟩=> A0⟩
  | succ k ih=>
    intro v;rw[cW];split
    · rename_i hk;rw[ih v];constructor
      · rintro⟨e,z,h1,h2,h3,h4⟩;exact⟨e,z,A0,h2,h3,h4⟩
      rintro⟨e,z,h1,h2,h3,h4⟩;refine⟨e,z,?_,h2,h3,h4⟩;rcases Nat.lt_or_ge e k with q|q
      · exact q
      rw[show e=k by omega,hk]at h3;cases h3
    rename_i w hk;split
    · rename_i q0;rw[ih v];constructor
      · rintro⟨e,z,h1,h2,h3,h4⟩;exact⟨e,z,A0,h2,h3,h4⟩
      rintro⟨e,z,h1,h2,h3,h4⟩;exact⟨e,z,A0,h2,h3,h4⟩
    rename_i q0;rw[List.mem_append,ih v,List.mem_singleton];constructor
    · rintro(⟨e,z,h1,h2,h3,h4⟩|h)
      · exact⟨e,z,A0,h2,h3,h4⟩
      exact⟨k,w,A0,q0,hk,h⟩
    rintro⟨e,z,h1,h2,h3,h4⟩;rcases Nat.lt_or_ge e k with q|q
    · exact .inl ⟨e,z,q,h2,h3,h4⟩
    obtain rfl:e=k:=A0;rw[hk]at h3;cases h3;exact .inr h4
include hv hc
theorem Cy.pw{y:V}(hy:T P 0 y)(k:Int):Cy (T P 0) (M P 0) y (RK P y k):=by
  have hg:=C0 hv hc;unfold RK;split
  · exact Cy.ABE (EK hg hy).1 (EK hg hy).2 _
  exact Cy.rep y _
theorem sC:∀d y x,d<P.n->T P d y->y d=1->T P d x->Sm (T P 0) (M P 0) y x (Aw P d y x)/\T P (d+1) (Aw P d y x):=
  λd y x hd hy h1 hx=>⟨Sm.right (C0 hv hc) (hx.mono hv (Nat.zero_le d)) (Cy.pw hv hc (hy.mono hv (Nat.zero_le d)) _),iQ hv hc hd hx hy h1⟩
theorem Fj{y z:V}(hy:T P 0 y)(hz:T P 0 z):Cm (M P 0) y z (cmV P y z):=by
  have g:=C0 hv hc;left
  obtain⟨h1,h2⟩:=EK g (g.cl hz hy);unfold cmV;rw[<-g.ac (g.cl hz hy) h1 (g.cl hy hz),h2,g.l1 (g.cl hy hz)]
variable(hp:∀d,d<P.n->JG (P.o d)){us:V->Prop}
include hp
theorem Qa{t:Nat->Option V}{w:List V}{x:V}(hG:OW P t)(h:Inv P.n P.o (T P) (M P 0) (Aw P) us t (λv=>v∈w++[x])):
    Inv P.n P.o (T P) (M P 0) (Aw P) us (Fa P t w (FL P t P.n 0 x)).1 (λv=>v∈(Fa P t w (FL P t P.n 0 x)).2):=by
  have l:=lvl hv hc;have cZ:x∈w++[x]:=List.mem_append.2 (.inr (List.mem_singleton.2 rfl));have hx:T P 0 x:=h.wn x cZ;obtain⟨i1,i2,i3,i4⟩:=s9 hv hc hG P.n 0 x A0 hx;have hsf:=Fi (P:=P) (t:=t) P.n 0 x A0;obtain⟨s,hs⟩:∃s,FL P t P.n 0 x=s:=⟨_,rfl⟩;rw[hs]at i1 i2 i3 i4 hsf ⊢;unfold Fa;split
  · rename_i h1;refine h.drop l SH (sC hv hc) cZ (by rw[<-hsf];exact h1) (λv hw=>?_) (λv hw=>List.mem_append.2 (.inl hw));rcases List.mem_append.1 hw with q|q
    · exact .inr q
    exact .inl (List.mem_singleton.1 q)
  rename_i AQ;have hd:s.1<P.n:=A0;obtain⟨j1,j2⟩:=i4 hd;obtain⟨y1,y2⟩:=cY hv hc hp hd i3 j2;have oB:=y1.mono hv (Nat.zero_le _);have hs0:=i3.mono hv (Nat.zero_le _);have ho:=l.op hd;have tZ:RK P (V1 P s) (P.o s.1)=rep (M P 0) (V1 P s) (P.o s.1).toNat:=by unfold RK;rw[if_neg A0]
  have U2:∀e,e≠s.1->oset t s.1 (V1 P s) e=t e:=λe he=>by unfold oset;rw[if_neg he]
  dsimp only;rw[tZ];refine Inv.add l (sC hv hc) h cZ (d:=s.1) (r:=s.2) (y:=V1 P s) (by rw[<-hsf]) hd y1 y2 (Cy.pw hv hc hs0 _) (λv hw=>?_) ?_ ?_ (λe z h1 h2=>?_) (λv hw=>?_)
  · rcases List.mem_append.1 hw with q|q
    · exact .inr (by simp[q])
    exact .inl (List.mem_singleton.1 q)
  · simp
  · simp
  · refine⟨cmV P (V1 P s) z,?_,Fj hv hc oB ((hG e z h2).2.1.mono hv (Nat.zero_le _))⟩;refine List.mem_append.2 (.inr ((oC _ _).2 ⟨e,z,(hG e z h2).1,h1,by rw[U2 e h1];exact h2,rfl⟩))
  rcases List.mem_append.1 hw with q|q
  · rcases List.mem_append.1 q with q|q
    · rcases List.mem_append.1 q with q|q
      · exact .inl (List.mem_append.2 (.inl q))
      exact .inr (.inl (List.mem_singleton.1 q))
    exact .inr (.inr (.inl (List.mem_singleton.1 q)))
  obtain⟨e,z,e1,e2,e3,rfl⟩:=(oC _ _).1 q;rw[U2 e e2]at e3;have hz:=(hG e z e3).2.1.mono hv (Nat.zero_le _);exact .inr (.inr (.inr ⟨e,z,e3,Fj hv hc oB hz,Uw hv hc oB hz⟩))
theorem Fk:∀(f:Nat) (t:Nat->Option V) (w:List V),OW P t->Inv P.n P.o (T P) (M P 0) (Aw P) us t (λv=>v∈w)->aG P t w<=f->
    Inv P.n P.o (T P) (M P 0) (Aw P) us (o9 P f t w) (λ_=>False):=by
  have nl:∀(t:Nat->Option V) (w:List V),w.length=0->Inv P.n P.o (T P) (M P 0) (Aw P) us t (λv=>v∈w)->Inv P.n P.o (T P) (M P 0) (Aw P) us t (λ_=>False):=by
    intro t w hw h;have e:w=[]:=List.eq_nil_of_length_eq_zero hw;subst e;have e2:(λv:V=>v∈([]:List V))=λ_=>False:=by funext v;simp
    rw[e2]at h;exact h
  intro f;induction f with
  | zero=>
    intro t w hG h hM;rw[o9];refine nl t w ?_ h;unfold aG at hM;omega
  | succ f ih=>
    intro t w hG h hM;rw[o9];split
    · rename_i hw;exact nl t w hw h
    rename_i hw;have hwe:w=w.take (w.length-1)++[w.getD (w.length-1) z0]:=by
      have h1:=List.take_succ_eq_append_getElem (l:=w) (i:=w.length-1) A0;rw[show w.length-1+1=w.length by omega,List.take_length]at h1;rw[List.getD_eq_getElem?_getD,List.getElem?_eq_getElem (show w.length-1<w.length by omega)];exact h1
    have Qb:T P 0 (w.getD (w.length-1) z0):=h.wn _ (by rw[List.getD_eq_getElem?_getD,List.getElem?_eq_getElem (show w.length-1<w.length by omega)];exact List.getElem_mem _);have dD:=Pr hv hc hG hw Qb;obtain⟨x,hx⟩:∃x,w.getD (w.length-1) z0=x:=⟨_,rfl⟩;obtain⟨v,hvv⟩:∃v,w.take (w.length-1)=v:=⟨_,rfl⟩;unfold clS at dD ⊢;rw[hx]at dD Qb ⊢;rw[hvv]at dD ⊢;rw[hx,hvv]at hwe;rw[hwe]at h;have hi:=Qa hv hc hp hG h;refine ih _ _ (Uy hv hc hp hG (w:=v) (λz hz=>h.wn z (List.mem_append.2 (.inl hz))) Qb).1 hi A0
noncomputable def tbS(P:Pc)(us:List V):Nat->Option V:=o9 P (aG P (λ_=>none) us) (λ_=>none) us
theorem Qc{us:List V}(hu:∀x∈us,T P 0 x):W2 P.n P.o (T P) (M P 0) (tbS P us)/\∀x,Sg (T P 0) (M P 0) (tbS P us) P.n P.n x↔iR (T P 0) (M P 0) (λv=>v∈us) x:=
  (Fk hv hc hp _ _ us (λd y h=>by cases h) (Inv.start (W:=λv=>v∈us) hu) (Nat.le_refl _)).fin (lvl hv hc) SH (sC hv hc)
omit hp in
theorem Qd:∀e w x,e<P.n->T P e w->w e=1->T P 0 x->∃u,Cy (T P 0) (M P 0) w u/\T P e u/\Aw P e w x=M P 0 x u/\(x e+u e)%P.o e=0:=by
  intro e w x he hw h1 hx;obtain⟨p1,p2⟩:=aF hv hc he hw (0-x e);refine⟨RK P w (0-x e),Cy.pw hv hc (hw.mono hv (Nat.zero_le e)) _,p1,rfl,?_⟩;rw[p2,h1,Int.mul_one,Int.add_emod_emod,show x e+(0-x e)=0 by omega,Int.zero_emod]
omit hv hc hp in
theorem Fm{dn:Nat->Option V}:∀f e x,s6 P dn f e x=qD (Aw P) dn f e x:=by
  intro f;induction f with
  |zero=>intro e x;rfl
  |succ f ih=>intro e x;rw[s6,qD,ih];rfl
omit hv hc hp in
theorem Qe{n:Nat}{t:Nat->Option V}:∀j,Aq P n t j=RM (Aw P) t n j:=by
  intro j;induction j with
  |zero=>rfl
  | succ j ih=>
    rw[Aq,RM,ih];cases t (n-1-j)with
    |none=>rfl
    |some y=>dsimp only;rw[Fm];rfl
theorem vV{us:List V}(hu:∀x∈us,T P 0 x):Z2 P (iR (T P 0) (M P 0) (λv=>v∈us)) (Aq P P.n (tbS P us) P.n):=by
  obtain⟨c,hs⟩:=Qc hv hc hp hu;have l:=lvl hv hc;have e:Sg (T P 0) (M P 0) (tbS P us) P.n P.n=iR (T P 0) (M P 0) (λv=>v∈us):=funext λx=>propext (hs x)
  have h:=kR hv hc (Qd hv hc) l c (c.sub l (Nat.le_refl _));rw[e,<-Qe]at h;exact h
end
theorem dE{dn Va:Nat->Option V}{k:Nat}(h:∀d,d<k->dn d=Va d):BZ dn k=BZ Va k:=by
  induction k with
  |zero=>rfl
  | succ k ih=>
    have ih:=ih (λd hd=>h d A0);cases hk:dn k with
    |none=>rw[DI hk,DI (by rw[<-h k A0];exact hk)];exact ih
    |some y=>rw[DH hk,DH (y:=y) (by rw[<-h k A0];exact hk),ih]
end Go.Proofs.YtgknbnkmilddhaaGreat
