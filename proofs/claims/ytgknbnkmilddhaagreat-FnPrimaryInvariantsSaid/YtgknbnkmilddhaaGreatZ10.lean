import Derived.Test.YtgknbnkmilddhaaGreatZ05
import Derived.Test.YtgknbnkmilddhaaGreatZ06
import Derived.Test.YtgknbnkmilddhaaGreatZ09
set_option linter.all false

namespace Go.Proofs.YtgknbnkmilddhaaGreat
def A17{dn k y}(h:y∈LW dn k):∃d,dn d=some y:=by
 obtain⟨d,_,hd⟩:=IG.1 h;exact⟨d,hd⟩
section
variable(U:C2)(pw:D4)(cj:E6)
noncomputable def TK(P:Pc)(us:List V):List V:=LW (u9 P P.n (uD P (gQ P (λ_=>none) us) (λ_=>none) us) P.n) P.n
end
end Go.Proofs.YtgknbnkmilddhaaGreat
namespace Go.Proofs.YtgknbnkmilddhaaGreat
end Go.Proofs.YtgknbnkmilddhaaGreat
namespace Go.Proofs.YtgknbnkmilddhaaGreat
end Go.Proofs.YtgknbnkmilddhaaGreat
namespace Go.Proofs.YtgknbnkmilddhaaGreat
structure NO(N:V->Prop)(m:V->V->V)(S:V->Prop):Prop where
 n:∀{a},S a->N a
 e:S z0
 mu:∀{a b},S a->S b->S (m a b)
 iv:∀{a b},S a->N b->m a b=z0->S b
section
variable{N:V->Prop}{m:V->V->V}(g:TU N m){S:V->Prop}
include g
theorem NO.l{a b}(h:NO N m S)(ha:S a)(hb:N b)(l8:S (m a b)):S b:=by
 obtain⟨c,c1,c2,c3⟩:=g.iv (h.n ha);have:=h.mu (h.iv ha c1 c3) l8;rwa [<-g.ac c1 (h.n ha) hb,c2,g.l1 hb]at this
theorem NO.r{a b}(h:NO N m S)(ha:S a)(hb:N b)(l8:S (m b a)):S b:=by
 obtain⟨c,c1,c2,c3⟩:=g.iv (h.n ha);have:=h.mu l8 (h.iv ha c1 c3);rwa [g.ac hb (h.n ha) c1,c3,g.r1 hb]at this
omit g in
theorem NO.rep{y}(h:NO N m S)(hy:S y)(k):S (Go.Proofs.YtgknbnkmilddhaaGreat.rep m y k):=by
 induction k with
 |zero=>exact h.e
 |succ k ih=>exact h.mu ih hy
theorem A18{y}(hy:N y)(a b):m (rep m y a) (rep m y b)=m (rep m y b) (rep m y a):=by
 rw[<-g.OJ hy,<-g.OJ hy,FP]
theorem Lf{y}(h:NO N m S)(hy:N y)(hn:∀s,S s->∃s1,S s1/\m s y=m y s1):∀k s,S s->∃s1,S s1/\m s (rep m y k)=m (rep m y k) s1:=by
 intro k;induction k with
 |zero=>intro s hs;exact⟨s,hs,by show m s z0=m z0 s;rw[g.r1 (h.n hs),g.l1 (h.n hs)]⟩
 | succ k ih=>
   intro s hs;obtain⟨s1,q1,q2⟩:=ih s hs;obtain⟨s2,q3,q4⟩:=hn s1 q1;refine⟨s2,q3,?_⟩;show m s (m (rep m y k) y)=m (m (rep m y k) y) s2
   have hr:=g.rep hy k;rw[<-g.ac (h.n hs) hr hy,q2,g.ac hr (h.n q1) hy,q4,g.ac hr hy (h.n q3)]
def Ad(N:V->Prop)(m:V->V->V)(S:V->Prop)(y x:V):Prop:=N x/\∃(a b:Nat) (s:V),S s/\m x (rep m y a)=m (rep m y b) s
theorem Ad.sub{y}(h:NO N m S)(hy:N y)(hn:∀s,S s->∃s1,S s1/\m s y=m y s1):NO N m (Ad N m S y):=by
  have hr:=λk=>g.rep hy k
  refine⟨λh=>h.1,⟨g.e0,0,0,z0,h.e,rfl⟩,?_,?_⟩
  · rintro x x' ⟨hx,a,b,s,hs,e1⟩ ⟨yT,a',b',s',Ux,e2⟩;obtain⟨s1,q1,q2⟩:=Lf g h hy hn a s' Ux;obtain⟨s2,q3,q4⟩:=Lf g h hy hn b' s hs;refine⟨g.cl hx yT,a'+a,b+b',m s2 s1,h.mu q3 q1,?_⟩;have n1:=h.n hs;have n2:=h.n Ux;have n3:=h.n q1;have n4:=h.n q3;rw[g.OJ hy,g.OJ hy]
    calc m (m x x') (m (rep m y a') (rep m y a))
        =m x (m (m x' (rep m y a')) (rep m y a)):=by rw[g.ac hx yT (g.cl (hr _) (hr _)),g.ac yT (hr _) (hr _)]
      _=m x (m (rep m y b') (m s' (rep m y a))):=by rw[e2,g.ac (hr _) n2 (hr _)]
      _=m x (m (rep m y b') (m (rep m y a) s1)):=by rw[q2]
      _=m (m x (m (rep m y a) (rep m y b'))) s1:=by rw[<-g.ac (hr _) (hr _) n3,A18 g hy b' a,g.ac hx (g.cl (hr _) (hr _)) n3]
      _=m (m (m (rep m y b) s) (rep m y b')) s1:=by rw[<-g.ac hx (hr _) (hr _),e1]
      _=m (m (rep m y b) (m (rep m y b') s2)) s1:=by rw[g.ac (hr _) n1 (hr _),q4]
      _=m (m (rep m y b) (rep m y b')) (m s2 s1):=by rw[<-g.ac (hr _) (hr _) n4,g.ac (g.cl (hr _) (hr _)) n4 n3]
  rintro x x' ⟨hx,a,b,s,hs,e1⟩ yT e0;obtain⟨c,c1,c2,c3⟩:=g.iv (h.n hs);refine⟨yT,b,a,c,h.iv hs c1 c3,?_⟩;have h0:m x' x=z0:=by
    obtain⟨w,w1,w2,w3⟩:=g.iv hx;have:x'=w:=g.lc hx yT w1 (by rw[e0,w3]);rw[this,w2]
  have h1:m (m x' (rep m y b)) s=rep m y a:=by
    rw[g.ac yT (hr _) (h.n hs),<-e1,<-g.ac yT hx (hr _),h0,g.l1 (hr _)]
  rw[<-h1,g.ac (g.cl yT (hr _)) (h.n hs) c1,c3,g.r1 (g.cl yT (hr _))]
theorem Ad.of{y s}(h:NO N m S)(hs:S s):Ad N m S y s:=⟨h.n hs,0,0,s,hs,by show m s z0=m z0 s;rw[g.r1 (h.n hs),g.l1 (h.n hs)]⟩
theorem Ad.self{y}(h:NO N m S)(hy:N y):Ad N m S y y:=⟨hy,0,1,z0,h.e,by show m y z0=m (m z0 y) z0;rw[g.l1 hy]⟩
theorem Ad.least{y x A}(h:NO N m A)(hS:∀s,S s->A s)(hy:A y)(hx:Ad N m S y x):A x:=by
 obtain⟨h1,a,b,s,hs,e⟩:=hx;exact h.r g (h.rep hy a) h1 (by rw[e];exact h.mu (h.rep hy b) (hS s hs))
theorem A66{y}(h:NO N m S)(hy:N y)(hn:∀s,S s->∃s1,S s1/\m s y=m y s1){q}(hq:S (rep m y (q+1))):∀s,S s->∃s1,S s1/\m y s=m s1 y:=by
 intro s hs;obtain⟨c,c1,c2,c3⟩:=g.iv (h.n hq);have nc:=h.iv hq c1 c3;have ns:=h.n hs;have hr:=λk=>g.rep hy k
 obtain⟨s1,q1,q2⟩:=Lf g h hy hn q (m (m (rep m y (q+1)) s) c) (h.mu (h.mu hq hs) nc);have n1:=h.n q1;refine⟨s1,q1,?_⟩;refine g.lc (hr q) (g.cl hy ns) (g.cl n1 hy) ?_;have e2:m (rep m y q) y=rep m y (q+1):=rfl;rw[<-g.ac (hr q) n1 hy,<-q2,g.ac (g.cl (g.cl (hr _) ns) c1) (hr q) hy,e2,g.ac (g.cl (hr _) ns) c1 (hr _),c2,g.r1 (g.cl (hr _) ns),<-g.ac (hr q) hy ns,e2]
end
def Sg(N:V->Prop)(m:V->V->V)(t:Nat->Option V)(n:Nat):Nat->V->Prop
 |0,x=>x=z0
 | f+1,x=>match t (n-(f+1))with
   |none=>Sg N m t n f x
   |some y=>Ad N m (Sg N m t n f) y x
def YP{N m t n f}(h:t (n-(f+1))=none):Sg N m t n (f+1)=Sg N m t n f:=by
 funext x;rw[Sg,h]
def YQ{N m t n f y}(h:t (n-(f+1))=some y):Sg N m t n (f+1)=Ad N m (Sg N m t n f) y:=by
 funext x;rw[Sg,h]
section
variable{N:V->Prop}{m:V->V->V}(g:TU N m){t:Nat->Option V}{n:Nat}
include g
theorem Sg.step{f}(h:NO N m (Sg N m t n f)){x}(hx:Sg N m t n f x):Sg N m t n (f+1) x:=by
 cases ht:t (n-(f+1))with
 |none=>rw[YP ht];exact hx
 |some y=>rw[YQ ht];exact Ad.of g h hx
theorem Sg.mono{f k}(h:∀f',f'<f+k->NO N m (Sg N m t n f')){x}(hx:Sg N m t n f x):Sg N m t n (f+k) x:=by
 induction k with
 |zero=>exact hx
 |succ k ih=>exact Sg.step g (h (f+k) A0) (ih (λf' hf=>h f' A0))
theorem Sg.mem{d y}(hd:d<n)(ht:t d=some y)(hy:N y)(h:NO N m (Sg N m t n (n-(d+1)))):Sg N m t n (n-d) y:=by
 rw[show n-d=n-(d+1)+1 by omega,YQ (y:=y) (by rw[show n-(n-(d+1)+1)=d by omega];exact ht)];exact Ad.self g h hy
theorem Sg.nrm(tb:∀d y,t d=some y->d<n/\N y)(cm:∀d e y z,t d=some y->t e=some z->d<e->(∀f',f'<=n-(d+1)->NO N m (Sg N m t n f'))->∃c,Sg N m t n (n-(d+1)) c/\m (m z y) c=m y z){f}(hf:f+1<=n)(ih:∀f',f'<=f->NO N m (Sg N m t n f')){y}(ht:t (n-(f+1))=some y):
  ∀s,Sg N m t n f s->∃s1,Sg N m t n f s1/\m s y=m y s1:=by
 have hK:=ih f (A1 f);have hy:=(tb _ _ ht).2;have hA:NO N m (λx=>N x/\∃s1,Sg N m t n f s1/\m x y=m y s1):=by
  refine⟨λh=>h.1,⟨g.e0,z0,hK.e,by rw[g.l1 hy,g.r1 hy]⟩,?_,?_⟩
  · rintro x x' ⟨hx,s,hs,e1⟩ ⟨yT,s',Ux,e2⟩;refine⟨g.cl hx yT,m s s',hK.mu hs Ux,?_⟩;rw[g.ac hx yT hy,e2,<-g.ac hx hy (hK.n Ux),e1,g.ac hy (hK.n hs) (hK.n Ux)]
  rintro x x' ⟨hx,s,hs,e1⟩ yT e0;obtain⟨c,c1,c2,c3⟩:=g.iv (hK.n hs);refine⟨yT,c,hK.iv hs c1 c3,?_⟩;have h0:m x' x=z0:=by
    obtain⟨w,w1,w2,w3⟩:=g.iv hx;have:x'=w:=g.lc hx yT w1 (by rw[e0,w3]);rw[this,w2]
  have h1:m (m x' y) s=y:=by
    rw[g.ac yT hy (hK.n hs),<-e1,<-g.ac yT hx hy,h0,g.l1 hy]
  have h2:=congrArg (λu=>m u c) h1;rw[g.ac (g.cl yT hy) (hK.n hs) c1,c3,g.r1 (g.cl yT hy)]at h2;exact h2
 have hS :∀k,k<=f->∀x,Sg N m t n k x->N x/\∃s1,Sg N m t n f s1/\m x y=m y s1:=by
  intro k;induction k with
  |zero=>intro _ x hx;rw[Sg]at hx;rw[hx];exact hA.e
  | succ k ihk=>
    intro hk x hx;cases hz:t (n-(k+1))with
    |none=>rw[YP hz]at hx;exact ihk A0 x hx
    | some z=>
      rw[YQ hz]at hx;have hzn:=(tb _ _ hz).2;refine Ad.least g hA (ihk A0) ?_ hx;obtain⟨c,c1,c2⟩:=cm _ _ _ _ ht hz A0 (λf' hf'=>ih f' A0);rw[show n-(n-(f+1)+1)=f by omega]at c1;have hzS:Sg N m t n f z:=by
       have h3:=Sg.mem g (t:=t) (n:=n) (d:=n-(k+1)) A0 hz hzn (ih _ A0);rw[show n-(n-(k+1))=k+1 by omega]at h3;have h4:=Sg.mono g (f:=k+1) (k:=f-(k+1)) (λf' hf=>ih f' A0) h3;rwa [show k+1+(f-(k+1))=f by omega]at h4
      obtain⟨w,w1,w2,w3⟩:=g.iv (hK.n c1);refine⟨hzn,m z w,hK.mu hzS (hK.iv c1 w1 w3),?_⟩;have h2:=congrArg (λu=>m u w) c2;rw[g.ac (g.cl hzn hy) (hK.n c1) w1,w3,g.r1 (g.cl hzn hy)]at h2;rw[h2,g.ac hy hzn w1]
 exact λs hs=>(hS f (A1 f) s hs).2
theorem Sg.all(tb:∀d y,t d=some y->d<n/\N y)(cm:∀d e y z,t d=some y->t e=some z->d<e->(∀f',f'<=n-(d+1)->NO N m (Sg N m t n f'))->∃c,Sg N m t n (n-(d+1)) c/\m (m z y) c=m y z):∀f,f<=n->∀f',f'<=f->NO N m (Sg N m t n f'):=by
 intro f;induction f with
 |zero=>
  intro _ f' hf';obtain rfl:f'=0:=A0;refine⟨λh=>by rw[h];exact g.e0,rfl,λha hb=>?_,λha hb l8=>?_⟩
  · rw[Sg]at ha hb ⊢;rw[ha,hb];exact g.l1 g.e0
  rw[Sg]at ha ⊢;rw[ha,g.l1 hb]at l8;exact l8
 |succ f ih=>
  intro hf f' hf';have ih:=ih A0;rcases BL f' (f+1)with q|q
  · exact ih f' A0
  obtain rfl:f'=f+1:=A0;have hK:=ih f (A1 f);cases ht:t (n-(f+1))with
  |none=>rw[YP ht];exact hK
  | some y=>
    rw[YQ ht];exact Ad.sub g hK (tb _ _ ht).2 (Sg.nrm g tb cm hf ih ht)
end
structure Px(n:Nat)(o:Nat->Int)(N:Nat->V->Prop)(m:V->V->V):Prop where
 g:∀d,TU (N d) m
 mono:∀{d x},N (d+1) x->N d x
 lead:∀{d a b},d<n->N d a->N d b->m a b d=(a d+b d)%o d
 op:∀{d},d<n->1<o d
 up:∀{d x},N d x->x d=0->N (d+1) x
 nz:∀{d x},N (d+1) x->x d=0
section
variable{n:Nat}{o:Nat->Int}{N:Nat->V->Prop}{m:V->V->V}(l:Px n o N m)
include l
theorem Px.le{d e}(h:d<=e){x}(hx:N e x):N d x:=by
 obtain⟨k,rfl⟩:∃k,e=d+k:=⟨e-d,A0⟩;induction k with
 |zero=>exact hx
 |succ k ih=>exact ih A0 (l.mono hx)
theorem Px.wZ(d):NO (N 0) m (N d):=by
 refine⟨λh=>l.le (AE d) h,(l.g d).e0,λha hb=>(l.g d).cl ha hb,λ{a b} ha hb l8=>?_⟩;obtain⟨c,c1,c2,c3⟩:=(l.g d).iv ha;have:b=c:=(l.g 0).lc (l.le (AE d) ha) hb (l.le (AE d) c1) (by rw[l8,c3]);rw[this];exact c1
theorem Px.N0{d}(hd:d<n){y}(hy:N d y)(h1:y d=1):∀k:Nat,rep m y k d=(k:Int)%o d:=by
 intro k;induction k with
 |zero=>simp[rep,IS,z0]
 | succ k ih=>
   show m (rep m y k) y d=_
   rw[l.lead hd ((l.g d).rep hy k) hy,ih,h1,IV,HE]
variable{t:Nat->Option V}
theorem Px.A9D(tb:∀d y,t d=some y->d<n/\N d y/\y d=1):∀f,f<=n->∀x,Sg (N 0) m t n f x->N (n-f) x:=by
 intro f;induction f with
 |zero=>intro _ x hx;rw[Sg]at hx;rw[hx];exact(l.g _).e0
 | succ f ih=>
   intro hf x hx;have hle:n-f=n-(f+1)+1:=A0;have hi:∀x,Sg (N 0) m t n f x->N (n-(f+1)) x:=λx hx=>l.mono (by rw[<-hle];exact ih A0 x hx)
   cases ht:t (n-(f+1))with
   |none=>rw[YP ht]at hx;exact hi x hx
   | some y=>
     rw[YQ ht]at hx;exact Ad.least (l.g 0) (l.wZ _) hi (tb _ _ ht).2.1 hx
theorem Px.A67(tb:∀d y,t d=some y->d<n/\N d y/\y d=1){d}(hd:d<n){y}(ht:t d=some y)(hK:NO (N 0) m (Sg (N 0) m t n (n-(d+1))))(hn:∀s,Sg (N 0) m t n (n-(d+1)) s->∃s1,Sg (N 0) m t n (n-(d+1)) s1/\m s y=m y s1)(pw:Sg (N 0) m t n (n-(d+1)) (rep m y (o d).toNat)){x}(hx:Sg (N 0) m t n (n-d) x)(Di:N (d+1) x):Sg (N 0) m t n (n-(d+1)) x:=by
 obtain⟨_,y1,y2⟩:=tb d y ht;have g:=l.g 0;have hy:=l.le (AE d) y1;have ho:=l.op hd;have hr:=λk=>g.rep hy k
 rw[show n-d=n-(d+1)+1 by omega,YQ (y:=y) (by rw[show n-(n-(d+1)+1)=d by omega];exact ht)]at hx;obtain⟨cH,a,b,s,hs,e⟩:=hx;have hsd:N (d+1) s:=by
  have:=l.A9D tb (n-(d+1)) A0 s hs;rwa [show n-(n-(d+1))=d+1 by omega]at this
 have hl:(a:Int)%o d=(b:Int)%o d:=by
  have h1:=l.lead hd (l.mono Di) ((l.g d).rep y1 a);have h2:=l.lead hd ((l.g d).rep y1 b) (l.mono hsd);rw[<-e,h1,l.nz Di,l.nz hsd,l.N0 hd y1 y2,l.N0 hd y1 y2,KN,MO,RG,RG]at h2;exact h2
 obtain⟨w,hw⟩:∃w:Nat,o d=w:=⟨(o d).toNat,A0⟩;rw[hw]at hl pw;rw[CQ]at pw;have TT:a%w=b%w:=A0;have hmul:∀k:Nat,Sg (N 0) m t n (n-(d+1)) (rep m y (w*k)):=by
  intro k;induction k with
  |zero=>exact hK.e
  |succ k ih=>rw[P7,g.OJ hy];exact hK.mu ih pw
 have AJN:=A66 g hK hy hn (q:=w-1) (by rw[show w-1+1=w by omega];exact pw);have Od:∀(k:Nat) s,Sg (N 0) m t n (n-(d+1)) s->∃s1,Sg (N 0) m t n (n-(d+1)) s1/\m (rep m y k) s=m s1 (rep m y k):=by
  intro k;induction k with
  |zero=>intro s hs;exact⟨s,hs,by show m z0 s=m s z0;rw[g.r1 (hK.n hs),g.l1 (hK.n hs)]⟩
  | succ k ih=>
    intro s hs;obtain⟨s1,q1,q2⟩:=AJN s hs;obtain⟨s2,q3,q4⟩:=ih s1 q1;refine⟨s2,q3,?_⟩;show m (m (rep m y k) y) s=m s2 (m (rep m y k) y)
    rw[g.ac (hr k) hy (hK.n hs),q2,<-g.ac (hr k) (hK.n q1) hy,q4,g.ac (hK.n q3) (hr k) hy]
 have fin:∀(k:Nat) s,Sg (N 0) m t n (n-(d+1)) s->m x (rep m y k)=m (rep m y k) s->Sg (N 0) m t n (n-(d+1)) x:=by
  intro k s hs e;obtain⟨s1,q1,q2⟩:=Od k s hs;have:x=s1:=g.rc (hr k) cH (hK.n q1) (by rw[e,q2]);rw[this];exact q1
 rcases SB a b with h|h
 ·obtain⟨q,hq⟩:∃q,b=a+w*q:=⟨(b-a)/w,by
    have:=LA TT.symm;have:=PY (b-a) w;omega⟩
  refine fin a (m (rep m y (w*q)) s) (hK.mu (hmul q) hs) ?_;rw[e,hq,g.OJ hy,g.ac (hr _) (hr _) (hK.n hs)]
 obtain⟨q,hq⟩:∃q,a=b+w*q:=⟨(a-b)/w,by
  have:=LA TT;have:=PY (a-b) w;omega⟩
 obtain⟨c,c1,c2,c3⟩:=g.iv (hr (w*q));refine fin b (m s c) (hK.mu hs (hK.iv (hmul q) c1 c3)) ?_;rw[hq,g.OJ hy]at e;have h2:=congrArg (λu=>m u c) e;rw[<-g.ac cH (hr _) (hr _),g.ac (g.cl cH (hr _)) (hr _) c1,c3,g.r1 (g.cl cH (hr _)),g.ac (hr _) (hK.n hs) c1]at h2;exact h2
end
structure lA(n:Nat)(o:Nat->Int)(N:Nat->V->Prop)(m:V->V->V)(t:Nat->Option V):Prop where
 tb:∀d y,t d=some y->d<n/\N d y/\y d=1
 cm:∀d e y z,t d=some y->t e=some z->d<e->∃c,Sg (N 0) m t n (n-(d+1)) c/\m (m z y) c=m y z
 pw:∀d y,t d=some y->Sg (N 0) m t n (n-(d+1)) (rep m y (o d).toNat)
section
variable{n:Nat}{o:Nat->Int}{N:Nat->V->Prop}{m:V->V->V}(l:Px n o N m){t:Nat->Option V}(c:lA n o N m t)
include l c
theorem lA.tb0:∀d y,t d=some y->d<n/\N 0 y:=λd y h=>⟨(c.tb d y h).1,l.le (AE d) (c.tb d y h).2.1⟩
theorem lA.sub{f}(hf:f<=n):NO (N 0) m (Sg (N 0) m t n f):=Sg.all (l.g 0) (c.tb0 l) (λd e y z h1 h2 h3 _=>c.cm d e y z h1 h2 h3) f hf f (A1 f)
theorem lA.lev{d}(hd:d<=n){x}(hx:Sg (N 0) m t n (n-d) x):N d x:=by
 have:=l.A9D c.tb (n-d) A0 x hx;rwa [show n-(n-d)=d by omega]at this
theorem lA.next{d}(hd:d<n){x}(hx:Sg (N 0) m t n (n-d) x)(h0:x d=0):Sg (N 0) m t n (n-(d+1)) x:=by
 cases ht:t d with
 |none=>
  rw[show n-d=n-(d+1)+1 by omega,YP (by rw[show n-(n-(d+1)+1)=d by omega];exact ht)]at hx;exact hx
 |some y=>
  exact l.A67 c.tb hd ht (c.sub l A0) (Sg.nrm (l.g 0) (c.tb0 l) (λd e y z h1 h2 h3 _=>c.cm d e y z h1 h2 h3) (f:=n-(d+1)) A0 (λf' hf=>c.sub l A0) (by rw[show n-(n-(d+1)+1)=d by omega];exact ht)) (c.pw d y ht) hx (l.up (c.lev l A0 hx) h0)
theorem lA.back{d}(hd:d<n){x}(hx:Sg (N 0) m t n (n-(d+1)) x):Sg (N 0) m t n (n-d) x:=by
 rw[show n-d=n-(d+1)+1 by omega];exact Sg.step (l.g 0) (c.sub l A0) hx
theorem lA.zro{d}(hd:d<n)(ht:t d=none){x}(hx:Sg (N 0) m t n (n-d) x):x d=0:=by
 rw[show n-d=n-(d+1)+1 by omega,YP (by rw[show n-(n-(d+1)+1)=d by omega];exact ht)]at hx;exact l.nz (c.lev l A0 hx)
theorem lA.mem{d y}(ht:t d=some y):Sg (N 0) m t n (n-d) y:=
 Sg.mem (l.g 0) (c.tb d y ht).1 ht (c.tb0 l d y ht).2 (c.sub l A0)
theorem lA.down{d e}(h:d<=e)(he:e<=n){x}(hx:Sg (N 0) m t n (n-e) x):Sg (N 0) m t n (n-d) x:=by
 obtain⟨k,rfl⟩:∃k,e=d+k:=⟨e-d,A0⟩;induction k with
 |zero=>exact hx
 |succ k ih=>exact ih A0 A0 (c.back l (d:=d+k) A0 hx)
theorem lA.depth{d}(hd:d<n):t d≠none↔∃x,Sg (N 0) m t n n x/\N d x/\x d≠0:=by
 constructor
 ·intro h;cases ht:t d with
  |none=>exact absurd ht h
  | some y=>
    obtain⟨_,h1,h2⟩:=c.tb d y ht;exact⟨y,by have:=c.down l (AE d) A0 (c.mem l ht);rwa [EB]at this,h1,by rw[h2];omega⟩
 rintro⟨x,hx,hN,h0⟩ ht;have key:∀k,k<=d->Sg (N 0) m t n (n-k) x:=by
  intro k;induction k with
  |zero=>intro _;rw[EB];exact hx
  |succ k ih=>intro hk;exact c.next l A0 (ih A0) (l.nz (l.le hk hN))
 exact h0 (c.zro l hd ht (key d (A1 d)))
end
def Dk(N:V->Prop)(m:V->V->V)(us:V->Prop)(x:V):Prop:=∀A,NO N m A->(∀u,us u->A u)->A x
def Sg.least{N m}(g:TU N m){t n A}(hA:NO N m A)(ht:∀d y,t d=some y->A y):∀f x,Sg N m t n f x->A x:=by
 intro f;induction f with
 |zero=>intro x hx;rw[Sg]at hx;rw[hx];exact hA.e
 | succ f ih=>
   intro x hx;cases hz:t (n-(f+1))with
   |none=>rw[YP hz]at hx;exact ih x hx
   |some z=>rw[YQ hz]at hx;exact Ad.least g hA ih (ht _ _ hz) hx
def lA.gen{n o N m}(l:Px n o N m){t}(c:lA n o N m t){us}(h1:∀d y,t d=some y->Dk (N 0) m us y)(h2:∀u,us u->Sg (N 0) m t n n u)(x):Sg (N 0) m t n n x↔Dk (N 0) m us x:=
 ⟨λh A hA hu=>Sg.least (l.g 0) hA (λd y hy=>h1 d y hy A hA hu) n x h,λh=>h _ (c.sub l (A1 n)) h2⟩
def lvl{P}(hv:LK P)(hc:HN P 0):Px P.n P.o (T P) (M P 0):=by
 have e:∀d {a b:V},T P d a->T P d b->M P 0 a b=M P d a b:=λd a b ha hb=>aJ hv (AE d) ha hb
 refine⟨λd=>?_,λ{d x} h=>h.mono hv (LN d),λ{d a b} hd ha hb=>?_,λ{d} hd=>hv.o d hd,λ{d x} h h0=>⟨λk hk=>?_,λk h2 h3=>h.r k A0 h3,h.t⟩,λ{d x} h=>h.z d A0⟩
 ·have g:=CS hv (hc.mono (AE d));refine⟨λ{a b} ha hb=>by rw[e d ha hb];exact g.cl ha hb,λ{a b c} ha hb hc=>?_,g.e0,λ{a} ha=>by rw[e d g.e0 ha];exact g.l1 ha,λ{a} ha=>by rw[e d ha g.e0];exact g.r1 ha,λ{a} ha=>?_⟩
  ·rw[e d ha hb,e d hb hc,e d (g.cl ha hb) hc,e d ha (g.cl hb hc)];exact g.ac ha hb hc
  obtain⟨b,b1,b2,b3⟩:=g.iv ha;exact⟨b,b1,by rw[e d b1 ha];exact b2,by rw[e d ha b1];exact b3⟩
 ·have h1:=ha.r d (A1 _) hd;have h2:=hb.r d (A1 _) hd;rw[e d ha hb,YI hd];unfold wX;split
  ·rw[EM,<-Int.sub_emod_right,CV A0 A0]
  rw[EM,CV A0 A0]
 by_cases q:k=d
 ·subst q;exact h0
 exact h.z k A0
def Cy(N:V->Prop)(m:V->V->V)(y u:V):Prop:=∀A,NO N m A->A y->A u
def Sm(N:V->Prop)(m:V->V->V)(y x r:V):Prop:=∀A,NO N m A->A y->(A x↔A r)
def Sm.right{N m}(g:TU N m){y x u}(hx:N x)(hu:Cy N m y u):Sm N m y x (m x u):=
 λA hA hy=>⟨λh=>hA.mu h (hu A hA hy),λh=>hA.r g (hu A hA hy) hx h⟩
def Sm.left{N m}(g:TU N m){y x u}(hx:N x)(hu:Cy N m y u):Sm N m y x (m u x):=
 λA hA hy=>⟨λh=>hA.mu (hu A hA hy) h,λh=>hA.l g (hu A hA hy) hx h⟩
def Ps(N:Nat->V->Prop)(m:V->V->V)(t:Nat->Option V)(n:Nat):Nat->V->Prop
 |0,x=>x=z0
 |f+1,x=>N 0 x/\((x (n-(f+1))=0/\Ps N m t n f x)\/∃y r,t (n-(f+1))=some y/\Sm (N 0) m y x r/\Ps N m t n f r)
def Ps.sg{n o N m}(l:Px n o N m){t}(tb:∀d y,t d=some y->d<n/\N 0 y):
    ∀f,f<=n->(∀f',f'<=f->NO (N 0) m (Sg (N 0) m t n f'))->∀x,Ps N m t n f x->Sg (N 0) m t n f x:=by
  intro f;induction f with
  |zero=>intro _ _ x hx;exact hx
  | succ f ih=>
    intro hf hS x hx;have ih:=ih A0 (λf' h=>hS f' A0);obtain⟨h0,⟨_,h2⟩|⟨y,u,h1,h2,h3⟩⟩:=hx
    · exact Sg.step (l.g 0) (hS f A0) (ih x h2)
    have hK:=hS (f+1) (A1 _);have hy:Sg (N 0) m t n (f+1) y:=by
      have:=Sg.mem (l.g 0) (t:=t) (n:=n) (d:=n-(f+1)) (tb _ _ h1).1 h1 (tb _ _ h1).2 (hS _ A0);rwa [show n-(n-(f+1))=f+1 by omega]at this
    exact(h2 _ hK hy).2 (Sg.step (l.g 0) (hS f A0) (ih _ h3))
def lA.of{n o N m}(l:Px n o N m){t}(tb:∀d y,t d=some y->d<n/\N d y/\y d=1)(hc:∀d e y z,t d=some y->t e=some z->d<e->∃c,Ps N m t n (n-(d+1)) c/\(m (m z y) c=m y z\/m (m y z) c=m z y))(hp:∀d y,t d=some y->Ps N m t n (n-(d+1)) (rep m y (o d).toNat)):lA n o N m t:=by
 have g:=l.g 0;have tb0:∀d y,t d=some y->d<n/\N 0 y:=λd y h=>⟨(tb d y h).1,l.le (AE d) (tb d y h).2.1⟩
 have cm:∀d e y z,t d=some y->t e=some z->d<e->(∀f',f'<=n-(d+1)->NO (N 0) m (Sg (N 0) m t n f'))->∃c,Sg (N 0) m t n (n-(d+1)) c/\m (m z y) c=m y z:=by
  intro d e y z h1 h2 h3 hS;have hK:=hS _ (A1 _);obtain⟨c,c1,c2⟩:=hc d e y z h1 h2 h3;have c3:=Ps.sg l tb0 _ A0 hS c c1;rcases c2 with c2|c2
  ·exact⟨c,c3,c2⟩
  obtain⟨w,w1,w2,w3⟩:=g.iv (hK.n c3);have hy:=(tb0 d y h1).2;have hz:=(tb0 e z h2).2;refine⟨w,hK.iv c3 w1 w3,?_⟩;rw[<-c2,g.ac (g.cl hy hz) (hK.n c3) w1,w3,g.r1 (g.cl hy hz)]
 have all:=Sg.all g tb0 cm n (A1 n);exact⟨tb,λd e y z h1 h2 h3=>cm d e y z h1 h2 h3 (λf' hf'=>all f' A0),λd y h=>Ps.sg l tb0 _ A0 (λf' hf'=>all f' A0) _ (hp d y h)⟩
end Go.Proofs.YtgknbnkmilddhaaGreat
namespace Go.Proofs.YtgknbnkmilddhaaGreat
noncomputable def T8(rd:Nat->V->V->V)(t:Nat->Option V)(n:Nat):Nat->V->Nat×V
 |0,x=>(n,x)
 | f+1,x=>if x (n-(f+1))=0 then T8 rd t n f x else match t (n-(f+1))with
   |none=>(n-(f+1),x)
   |some y=>T8 rd t n f (rd (n-(f+1)) y x)
section
variable{rd:Nat->V->V->V}{n:Nat}
def V1{t f x}(h:x (n-(f+1))=0):T8 rd t n (f+1) x=T8 rd t n f x:=by rw[T8,if_pos h]
def XO{t f x}(h:x (n-(f+1))≠0)(ht:t (n-(f+1))=none):T8 rd t n (f+1) x=(n-(f+1),x):=by rw[T8,if_neg h,ht]
def V2{t f x y}(h:x (n-(f+1))≠0)(ht:t (n-(f+1))=some y):T8 rd t n (f+1) x=T8 rd t n f (rd (n-(f+1)) y x):=by rw[T8,if_neg h,ht]
def uE{t}:∀f,f<=n->∀x,(T8 rd t n f x).1=n\/(n-f<=(T8 rd t n f x).1/\(T8 rd t n f x).1<n/\t (T8 rd t n f x).1=none/\(T8 rd t n f x).2 (T8 rd t n f x).1≠0):=by
 intro f;induction f with
 |zero=>intro _ x;exact .inl rfl
 | succ f ih=>
   intro hf x;have up:∀z,(T8 rd t n f z).1=n\/(n-(f+1)<=(T8 rd t n f z).1/\(T8 rd t n f z).1<n/\t (T8 rd t n f z).1=none/\(T8 rd t n f z).2 (T8 rd t n f z).1≠0):=λz=>by
     rcases ih A0 z with h|⟨h1,h2,h3,h4⟩
     ·exact .inl h
     exact .inr ⟨A0,h2,h3,h4⟩
   by_cases h:x (n-(f+1))=0
   · rw[V1 h];exact up x
   cases ht:t (n-(f+1))with
   |none=>rw[XO h ht];exact .inr ⟨A1 _,by dsimp only;omega,ht,h⟩
   |some y=>rw[V2 h ht];exact up _
def An{t t'}(hle:∀d y,t d=some y->t' d=some y):∀f,f<=n->∀x,T8 rd t' n f x=T8 rd t' n (n-(T8 rd t n f x).1) (T8 rd t n f x).2:=by
 intro f;induction f with
 |zero=>intro _ x;rw[T8,T8,CM,T8]
 | succ f ih=>
   intro hf x;by_cases h:x (n-(f+1))=0
   · rw[V1 h,V1 h];exact ih A0 x
   cases ht:t (n-(f+1))with
   |none=>rw[XO h ht];dsimp only;rw[show n-(n-(f+1))=f+1 by omega]
   |some y=>rw[V2 h ht,V2 h (hle _ _ ht)];exact ih A0 _
def uF{t x}:∀k f,f+k<=n->(∀j,n-(f+k)<=j->j<n-f->x j=0)->T8 rd t n (f+k) x=T8 rd t n f x:=by
 intro k;induction k with
 |zero=>intro f _ _;rfl
 | succ k ih=>
   intro f hf h;rw[<-DS,V1 (h _ A0 A0)];exact ih f A0 (λj h1 h2=>h j A0 h2)
end
section
variable{rd:Nat->V->V->V}{n:Nat}{o:Nat->Int}{N:Nat->V->Prop}{m:V->V->V}(l:Px n o N m)(top:∀x,N n x->x=z0)
 {t:Nat->Option V} (rk:∀d y x,d<n->t d=some y->N d x->Sm (N 0) m y x (rd d y x)/\N (d+1) (rd d y x))
include l rk
theorem Ao:∀f,f<=n->∀x,N (n-f) x->N (T8 rd t n f x).1 (T8 rd t n f x).2:=by
 intro f;induction f with
 |zero=>intro _ x hx;rw[T8];exact hx
 | succ f ih=>
   intro hf x hx;have e:n-f=n-(f+1)+1:=A0;by_cases h:x (n-(f+1))=0
   · rw[V1 h];exact ih A0 x (by rw[e];exact l.up hx h)
   cases ht:t (n-(f+1))with
   |none=>rw[XO h ht];exact hx
   | some y=>
     rw[V2 h ht];obtain⟨_,h3⟩:=rk _ y x A0 ht hx;exact ih A0 _ (by rw[e];exact h3)
theorem Ap{A}(hA:NO (N 0) m A)(hy:∀d y,t d=some y->A y):∀f,f<=n->∀x,N (n-f) x->(A x↔A (T8 rd t n f x).2):=by
 intro f;induction f with
 |zero=>intro _ x hx;rw[T8]
 | succ f ih=>
   intro hf x hx;have e:n-f=n-(f+1)+1:=A0;by_cases h:x (n-(f+1))=0
   · rw[V1 h];exact ih A0 x (by rw[e];exact l.up hx h)
   cases ht:t (n-(f+1))with
   |none=>rw[XO h ht]
   | some y=>
     rw[V2 h ht];obtain⟨h1,h3⟩:=rk _ y x A0 ht hx;rw[<-ih A0 _ (by rw[e];exact h3)];exact h1 A hA (hy _ _ ht)
include top
theorem ADL:∀f,f<=n->∀x,N (n-f) x->(T8 rd t n f x).1=n->Ps N m t n f x:=by
 intro f;induction f with
 |zero=>intro _ x hx _;exact top x hx
 | succ f ih=>
   intro hf x hx hs;have e:n-f=n-(f+1)+1:=A0;refine⟨l.le (AE _) hx,?_⟩;by_cases h:x (n-(f+1))=0
   · rw[V1 h]at hs;exact .inl ⟨h,ih A0 x (by rw[e];exact l.up hx h) hs⟩
   cases ht:t (n-(f+1))with
   |none=>rw[XO h ht]at hs;dsimp only at hs;omega
   | some y=>
     rw[V2 h ht]at hs;obtain⟨h1,h3⟩:=rk _ y x A0 ht hx;exact .inr ⟨y,_,rfl,h1,ih A0 _ (by rw[e];exact h3) hs⟩
end
def Cm(m:V->V->V)(y z c:V):Prop:=m (m z y) c=m y z\/m (m y z) c=m z y
def Cm.sy{m y z c}(h:Cm m y z c):Cm m z y c:=h.symm
def Cm.mem{N m}(g:TU N m){A}(hA:NO N m A){y z c}(h:Cm m y z c)(hy:A y)(hz:A z)(hc:N c):A c:=by
 rcases h with h|h
 ·exact hA.l g (hA.mu hz hy) hc (by rw[h];exact hA.mu hy hz)
 exact hA.l g (hA.mu hy hz) hc (by rw[h];exact hA.mu hz hy)
def Pd(rd:Nat->V->V->V)(t:Nat->Option V)(n:Nat)(W:V->Prop)(z:V):Prop:=(T8 rd t n n z).1=n\/∃r,W r/\T8 rd t n n z=T8 rd t n n r
structure Inv(n:Nat)(o:Nat->Int)(N:Nat->V->Prop)(m:V->V->V)(rd:Nat->V->V->V)(us:V->Prop)(t:Nat->Option V)(W:V->Prop):Prop where
 tb:∀d y,t d=some y->d<n/\N d y/\y d=1
 wn:∀v,W v->N 0 v
 pc:∀d e y z,t d=some y->t e=some z->d<e->∃c,N 0 c/\Cm m y z c/\Pd rd t n W c
 pp:∀d y,t d=some y->Pd rd t n W (rep m y (o d).toNat)
 g1:∀d y,t d=some y->Dk (N 0) m us y
 g2:∀v,W v->Dk (N 0) m us v
 g3:∀u,us u->Dk (N 0) m (λv=>W v\/∃d,t d=some v) u
section
variable{n:Nat}{o:Nat->Int}{N:Nat->V->Prop}{m:V->V->V}{rd:Nat->V->V->V}{us:V->Prop}(l:Px n o N m)(top:∀x,N n x->x=z0)
 (rk:∀d y x,d<n->N d y->y d=1->N d x->Sm (N 0) m y x (rd d y x)/\N (d+1) (rd d y x)) {t:Nat->Option V} {W:V->Prop}
def Inv.rk'(rk:∀d y x,d<n->N d y->y d=1->N d x->Sm (N 0) m y x (rd d y x)/\N (d+1) (rd d y x))(h:Inv n o N m rd us t W):∀d y x,d<n->t d=some y->N d x->Sm (N 0) m y x (rd d y x)/\N (d+1) (rd d y x):=
 λd y x h1 h2 h3=>rk d y x h1 (h.tb d y h2).2.1 (h.tb d y h2).2.2 h3
include l rk
omit rk in
theorem Inv.low(h:Inv n o N m rd us t W){d e y z c}(h1:t d=some y)(h2:t e=some z)(hde:d<e)(hc:N 0 c)(hm:Cm m y z c):N (d+1) c:=by
 obtain⟨hd,y1,y2⟩:=h.tb d y h1;obtain⟨he,z1,z2⟩:=h.tb e z h2;have z3:=l.le (show d+1<=e by omega) z1;have zd:=l.mono z3;have hcd:N d c:=Cm.mem (l.g 0) (l.wZ d) hm y1 zd hc;refine l.up hcd ?_;have e0:=l.lead hd (l.g d).e0 hcd;rw[(l.g d).l1 hcd]at e0;have e1:=l.lead hd zd y1;have e2:=l.lead hd y1 zd;rw[l.nz z3,y2]at e1 e2;have ho:=l.op hd;have key:∀q:Int,(q%o d+c d)%o d=q%o d->c d=0:=by
  intro q hq;rw[IV]at hq;have:=E1.1 hq;rw[show q+c d-q=c d by omega]at this;rw[e0];show((z0 d:Int)+c d)%o d=0
  rw[show(z0 d:Int)=0 from rfl,KN];exact this
 rcases hm with hm|hm
 ·have e3:=l.lead hd ((l.g d).cl zd y1) hcd;rw[hm,e1,e2,show(0:Int)+1=1+0 by omega]at e3;exact key _ e3.symm
 have e3:=l.lead hd ((l.g d).cl y1 zd) hcd;rw[hm,e1,e2,show(0:Int)+1=1+0 by omega]at e3;exact key _ e3.symm
include top
theorem Inv.fin(h:Inv n o N m rd us t (λ_=>False)):lA n o N m t/\∀x,Sg (N 0) m t n n x↔Dk (N 0) m us x:=by
 have hps:∀d c,d<n->N (d+1) c->Pd rd t n (λ_=>False) c->Ps N m t n (n-(d+1)) c:=by
  intro d c hd hc hp;rcases hp with hp|⟨r,hr,_⟩
  ·refine ADL l top (h.rk' rk) _ A0 c (by rw[show n-(n-(d+1))=d+1 by omega];exact hc) ?_;have:=uF (rd:=rd) (t:=t) (x:=c) (n:=n) (d+1) (n-(d+1)) A0 (λj _ h2=>l.nz (l.le A0 hc));rw[show n-(d+1)+(d+1)=n by omega]at this;rw[<-this];exact hp
  exact hr.elim
 have c:lA n o N m t:=by
  refine lA.of l h.tb (λd e y z h1 h2 h3=>?_) (λd y h1=>?_)
  ·obtain⟨c,c1,c2,c3⟩:=h.pc d e y z h1 h2 h3;exact⟨c,hps d c (h.tb d y h1).1 (h.low l h1 h2 h3 c1 c2) c3,c2⟩
  obtain⟨hd,y1,y2⟩:=h.tb d y h1;refine hps d _ hd (l.up ((l.g d).rep y1 _) ?_) (h.pp d y h1);have ho:=l.op hd;rw[l.N0 hd y1 y2,BG A0,LU]
 refine⟨c,c.gen l h.g1 (λu hu=>?_)⟩;refine h.g3 u hu _ (c.sub l (A1 n)) (λv hv=>?_);rcases hv with hv|⟨d,hd⟩
 ·exact hv.elim
 have:=c.down l (AE d) (by have:=(c.tb d v hd).1;omega) (c.mem l hd);rwa [EB]at this
theorem Inv.drop(h:Inv n o N m rd us t W){x W'}(hx:W x)(hs:(T8 rd t n n x).1=n)(h1:∀v,W v->v=x\/W' v)(h2:∀v,W' v->W v):Inv n o N m rd us t W':=by
 have pd:∀z,Pd rd t n W z->Pd rd t n W' z:=by
  rintro z (hz|⟨r,r1,r2⟩)
  ·exact .inl hz
  rcases h1 r r1 with rfl|r3
  ·exact .inl (by rw[r2];exact hs)
  exact .inr ⟨r,r3,r2⟩
 refine⟨h.tb,λv hv=>h.wn v (h2 v hv),λd e y z a b c=>?_,λd y a=>pd _ (h.pp d y a),h.g1,λv hv=>h.g2 v (h2 v hv),λu hu A hA jI=>?_⟩
 ·obtain⟨w,w1,w2,w3⟩:=h.pc d e y z a b c;exact⟨w,w1,w2,pd _ w3⟩
 refine h.g3 u hu A hA (λv hv=>?_);rcases hv with hv|hv
 ·rcases h1 v hv with rfl|h3
  ·have hN:=h.wn v hx;rw[Ap l (h.rk' rk) hA (λd y hy=>jI y (.inr ⟨d,hy⟩)) n (A1 n) v (by rw[CM];exact hN)];have:=Ao l (h.rk' rk) n (A1 n) v (by rw[CM];exact hN);rw[hs]at this;rw[top _ this];exact hA.e
  exact jI v (.inl h3)
 exact jI v (.inr hv)
omit top in
theorem Inv.add(h:Inv n o N m rd us t W){x W'}(hx:W x){d r y}(hs:T8 rd t n n x=(d,r))(hd:d<n)(hy:N d y)(Xr:y d=1)(hcy:Cy (N 0) m r y)(h1:∀v,W v->v=x\/W' v)(hr:W' r)(hp:W' (rep m y (o d).toNat))(hc:∀e z,e≠d->t e=some z->∃c,W' c/\Cm m y z c)(h2:∀v,W' v->W v\/v=r\/v=rep m y (o d).toNat\/∃e z,t e=some z/\Cm m y z v/\N 0 v):Inv n o N m rd us (λk=>if k=d then some y else t k) W':=by
 have hxN:=h.wn x hx;have g:=l.g 0;have j6:=l.le (AE d) hy;have htd:t d=none:=by
  have:=uE (rd:=rd) (t:=t) n (A1 n) x;rw[hs]at this;rcases this with q|q
  ·dsimp only at q;omega
  exact q.2.2.1
 have hrN:N d r:=by
  have:=Ao l (h.rk' rk) n (A1 n) x (by rw[CM];exact hxN);rwa [hs]at this
 have hle:∀e z,t e=some z->(if e=d then some y else t e)=some z:=λe z he=>by
  rw[if_neg (λq=>by rw[q,htd]at he;cases he)];exact he
 have AJO:T8 rd (λk=>if k=d then some y else t k) n n r=T8 rd (λk=>if k=d then some y else t k) n (n-d) r:=by
  have:=uF (rd:=rd) (t:=λk=>if k=d then some y else t k) (x:=r) (n:=n) d (n-d) A0 (λj _ q=>l.nz (l.le A0 hrN));rwa [show n-d+d=n by omega]at this
 have pd:∀z,Pd rd t n W z->Pd rd (λk=>if k=d then some y else t k) n W' z:=by
  rintro z (hz|⟨q,q1,q2⟩)
  ·left
   rw[An hle n (A1 n) z,hz,CM,T8]
  right
  rcases h1 q q1 with rfl|q3
  ·exact⟨r,hr,by rw[An hle n (A1 n) z,q2,hs,AJO]⟩
  exact⟨q,q3,by rw[An hle n (A1 n) z,An hle n (A1 n) q,q2]⟩
 have dC:∀A,NO (N 0) m A->(∀e z,t e=some z->A z)->(A x↔A r):=λA hA ht=>by
  have:=Ap l (h.rk' rk) hA ht n (A1 n) x (by rw[CM];exact hxN);rwa [hs]at this
 have hrG:Dk (N 0) m us r:=λA hA hu=>(dC A hA (λe z he=>h.g1 e z he A hA hu)).1 (h.g2 x hx A hA hu)
 have hyG:Dk (N 0) m us y:=λA hA hu=>hcy A hA (hrG A hA hu)
 have Ik:=l.le (AE d) hrN;refine⟨λe z he=>?_,λv hv=>?_,λe f z w he hf hef=>?_,λe z he=>?_,λe z he=>?_,λv hv=>?_,λu hu A hA jI=>?_⟩
 ·split at he
  ·rename_i q;cases he;subst q;exact⟨hd,hy,Xr⟩
  exact h.tb e z he
 ·rcases h2 v hv with q|q|q|⟨_,_,_,_,q⟩
  ·exact h.wn v q
  ·rw[q];exact Ik
  ·rw[q];exact g.rep j6 _
  exact q
 ·split at he
  ·rename_i q;cases he;subst q;rw[if_neg A0]at hf;obtain⟨c,c1,c2⟩:=hc f w A0 hf;have cN:N 0 c:=by
    rcases h2 c c1 with q|q|q|⟨_,_,_,_,q⟩
    ·exact h.wn c q
    ·rw[q];exact Ik
    ·rw[q];exact g.rep j6 _
    exact q
   exact⟨c,cN,c2,.inr ⟨c,c1,rfl⟩⟩
  rename_i q;split at hf
  ·rename_i q2;cases hf;subst q2;obtain⟨c,c1,c2⟩:=hc e z q he;have cN:N 0 c:=by
    rcases h2 c c1 with q|q|q|⟨_,_,_,_,q⟩
    ·exact h.wn c q
    ·rw[q];exact Ik
    ·rw[q];exact g.rep j6 _
    exact q
   exact⟨c,cN,c2.sy,.inr ⟨c,c1,rfl⟩⟩
  obtain⟨c,c1,c2,c3⟩:=h.pc e f z w he hf hef;exact⟨c,c1,c2,pd _ c3⟩
 ·split at he
  ·rename_i q;cases he;subst q;exact .inr ⟨_,hp,rfl⟩
  exact pd _ (h.pp e z he)
 ·split at he
  ·cases he;exact hyG
  exact h.g1 e z he
 ·rcases h2 v hv with q|q|q|⟨e,z,q1,q2,q3⟩
  ·exact h.g2 v q
  ·rw[q];exact hrG
  ·rw[q];exact λA hA hu=>hA.rep (hyG A hA hu) _
  exact λA hA hu=>q2.mem g hA (hyG A hA hu) (h.g1 e z q1 A hA hu) q3
 refine h.g3 u hu A hA (λv hv=>?_);have ht:∀e z,t e=some z->A z:=λe z he=>jI z (.inr ⟨e,hle e z he⟩)
 rcases hv with hv|⟨e,he⟩
 ·rcases h1 v hv with rfl|h3
  ·exact(dC A hA ht).2 (jI r (.inl hr))
  exact jI v (.inl h3)
 exact ht e v he
omit l rk top in
theorem Inv.start{W}(h:∀v,W v->N 0 v):Inv n o N m rd W (λ_=>none) W:=
 ⟨λd y q=>(by cases q),h,λd e y z q=>(by cases q),λd y q=>(by cases q),λd y q=>(by cases q),λv hv A hA hu=>hu v hv,λu hu A hA jI=>jI u (.inl hu)⟩
end
end Go.Proofs.YtgknbnkmilddhaaGreat