import Derived.Test.YtghmeeifjeafmaaGreatZ09
set_option linter.unusedVariables false
set_option linter.unusedSimpArgs false
namespace Go.Proofs.YtghmeeifjeafmaaGreat
def itr {α:Type} (f:α→α):Nat→α→α
  |0,x=>x
  |k+1,x=>f (itr f k x)
theorem itr_add {α:Type} (f:α→α) (a b:Nat) (x:α):itr f (a+b) x=itr f b (itr f a x):=by
  induction b with
  |zero=>rfl
  |succ b ih=>rw[←Nat.add_assoc,itr,itr,ih]
theorem itr_inv {α:Type} {f:α→α} {p:α→Prop} (hf:∀x,p x→p (f x)):∀k x,p x→p (itr f k x):=by
  intro k
  induction k with
  |zero=>exact fun _ h=>h
  |succ k ih=>exact fun x h=>hf _ (ih x h)
abbrev V:=Nat→Int
def z0:V:=fun _=>0
theorem fset_z0 {i:Nat}:fset z0 i 0=z0:=by funext k;simp[fset,z0]
theorem fset_at {f:V} {i:Nat} {x:Int}:fset f i x i=x:=by simp[fset]
theorem fset_ne {f:V} {i k:Nat} {x:Int} (h:k≠i):fset f i x k=f k:=by simp[fset,h]
theorem fset_fset {f:V} {i:Nat} {x y:Int}:fset (fset f i x) i y=fset f i y:=by funext k;simp only[fset];split<;>rfl
theorem fset_id {f:V} {i:Nat} {x:Int} (h:f i=x):fset f i x=f:=by funext k;simp only[fset];split<;>simp_all
structure Pc where
  n:Nat
  o:Nat→Int
  pw:Nat→V
  cj:Nat→Nat→V
def fim (mul:V→V→V) (c:Nat→V) (x:V):Nat→Nat→V→V
  |0,_,u=>u
  |m+1,j,u=>fim mul c x m (j+1) (itr (fun u=>mul u (c j)) (x j).toNat u)
def img (P:Pc) (mul:V→V→V) (i:Nat) (x:V):V:=fim mul (P.cj i) x (P.n-(i+1)) (i+1) z0
def stp (P:Pc) (i:Nat) (mul:V→V→V) (a b:V):V:=
  if P.o i≤a i+b i then fset (mul (P.pw i) (mul (itr (img P mul i) (b i).toNat (fset a i 0)) (fset b i 0))) i (a i+b i-P.o i)
  else fset (mul (itr (img P mul i) (b i).toNat (fset a i 0)) (fset b i 0)) i (a i+b i)
def Md (P:Pc):Nat→V→V→V
  |0=>fun _ _=>z0
  |d+1=>stp P (P.n-(d+1)) (Md P d)
def M (P:Pc) (i:Nat):V→V→V:=Md P (P.n-i)
theorem M_ge {P:Pc} {i:Nat} (h:P.n≤i) (a b:V):M P i a b=z0:=by
  rw[M,show P.n-i=0 by omega];rfl
theorem M_lt {P:Pc} {i:Nat} (h:i<P.n):M P i=stp P i (M P (i+1)):=by
  rw[M,M,show P.n-i=(P.n-(i+1))+1 by omega,Md,show P.n-(P.n-(i+1)+1)=i by omega]
structure T (P:Pc) (i:Nat) (x:V):Prop where
  z:∀k,k<i→x k=0
  r:∀k,i≤k→k<P.n→0≤x k∧x k<P.o k
  t:∀k,P.n≤k→x k=0
structure Val (P:Pc):Prop where
  o:∀i,i<P.n→1<P.o i
  pw:∀i,i<P.n→T P (i+1) (P.pw i)
  cj:∀i j,i<j→j<P.n→T P (i+1) (P.cj i j)
variable {P:Pc}
theorem T.ge {i:Nat} {x:V} (h:T P i x) (hi:P.n≤i):x=z0:=by
  funext k
  by_cases e:k<i
  · exact h.z k e
  exact h.t k (by omega)
theorem T.zero (hv:Val P) (i:Nat):T P i z0:=⟨fun _ _=>rfl,fun k _ h=>by have:=hv.o k h;exact⟨Int.le_refl _,by show(0:Int)<_;omega⟩,fun _ _=>rfl⟩
theorem T.mono (hv:Val P) {i j:Nat} (hij:i≤j) {x:V} (h:T P j x):T P i x:=
  ⟨fun k hk=>h.z k (by omega),fun k h1 h2=>by
    by_cases e:j≤k
    · exact h.r k e h2
    rw[h.z k (by omega)];have:=hv.o k h2;omega,h.t⟩
theorem T.cut {i:Nat} {x:V} (h:T P i x):T P (i+1) (fset x i 0):=
  ⟨fun k hk=>by
    by_cases e:k=i
    · subst e;exact fset_at
    rw[fset_ne e];exact h.z k (by omega),
   fun k h1 h2=>by rw[fset_ne (by omega)];exact h.r k (by omega) h2,
   fun k hk=>by
    by_cases e:k=i
    · subst e;exact fset_at
    rw[fset_ne e];exact h.t k hk⟩
theorem T.put {i:Nat} (hi:i<P.n) {x:V} (h:T P (i+1) x) {a:Int} (h0:0≤a) (h1:a<P.o i):T P i (fset x i a):=
  ⟨fun k hk=>by rw[fset_ne (by omega)];exact h.z k (by omega),
   fun k h2 h3=>by
    by_cases e:k=i
    · subst e;rw[fset_at];exact⟨h0,h1⟩
    rw[fset_ne e];exact h.r k (by omega) h3,
   fun k hk=>by rw[fset_ne (by omega)];exact h.t k hk⟩
theorem T.cutput {i:Nat} {x:V} (h:T P (i+1) x) (a:Int):fset (fset x i a) i 0=x:=by
  rw[fset_fset];exact fset_id (h.z i (by omega))
theorem fim_T {mul:V→V→V} {N:V→Prop} (hm:∀a b,N a→N b→N (mul a b)) {c:Nat→V} {x:V}:∀m j u,(∀k,j≤k→k<j+m→N (c k))→N u→N (fim mul c x m j u):=by
  intro m
  induction m with
  |zero=>exact fun _ _ _ h=>h
  | succ m ih=>
    intro j u hc hu
    exact ih (j+1) _ (fun k h1 h2=>hc k (by omega) (by omega)) (itr_inv (fun y hy=>hm _ _ hy (hc j (by omega) (by omega))) _ _ hu)
theorem img_T (hv:Val P) {mul:V→V→V} {i:Nat} (hm:∀a b,T P (i+1) a→T P (i+1) b→T P (i+1) (mul a b)) (x:V):T P (i+1) (img P mul i x):=
  fim_T hm _ _ _ (fun k h1 h2=>hv.cj i k (by omega) (by omega)) (T.zero hv _)
theorem stp_T (hv:Val P) {mul:V→V→V} {i:Nat} (hi:i<P.n) (hm:∀a b,T P (i+1) a→T P (i+1) b→T P (i+1) (mul a b)) {a b:V} (ha:T P i a) (hb:T P i b):T P i (stp P i mul a b):=by
  have h1:=ha.r i (by omega) hi
  have h2:=hb.r i (by omega) hi
  have h3:T P (i+1) (mul (itr (img P mul i) (b i).toNat (fset a i 0)) (fset b i 0)):=hm _ _ (itr_inv (fun y _=>img_T hv hm y) _ _ ha.cut) hb.cut
  unfold stp
  split
  · exact T.put hi (hm _ _ (hv.pw i hi) h3) (by omega) (by omega)
  exact T.put hi h3 (by omega) (by omega)
theorem M_T (hv:Val P) {i:Nat} {a b:V} (ha:T P i a) (hb:T P i b):T P i (M P i a b):=by
  by_cases hi:P.n≤i
  · rw[M_ge hi];exact T.zero hv _
  have key:∀d i,P.n-i=d→∀a b,T P i a→T P i b→T P i (M P i a b):=by
    intro d
    induction d with
    |zero=>intro i hd a b _ _;rw[M_ge (by omega)];exact T.zero hv _
    | succ d ih=>
      intro i hd a b ha hb
      rw[M_lt (by omega)]
      exact stp_T hv (by omega) (ih (i+1) (by omega)) ha hb
  exact key _ i rfl a b ha hb
structure Grp (N:V→Prop) (m:V→V→V):Prop where
  cl:∀{a b},N a→N b→N (m a b)
  ac:∀{a b c},N a→N b→N c→m (m a b) c=m a (m b c)
  e0:N z0
  l1:∀{a},N a→m z0 a=a
  r1:∀{a},N a→m a z0=a
  iv:∀{a},N a→∃b,N b∧m b a=z0∧m a b=z0
section
variable {N:V→Prop} {m:V→V→V}
theorem Grp.lc (h:Grp N m) {a b c:V} (ha:N a) (hb:N b) (hc:N c) (e:m a b=m a c):b=c:=by
  obtain⟨v,h1,h2,h3⟩:=h.iv ha
  rw[←h.l1 hb,←h2,h.ac h1 ha hb,e,←h.ac h1 ha hc,h2,h.l1 hc]
def rep (m:V→V→V) (x:V) (k:Nat):V:=itr (fun u=>m u x) k z0
theorem Grp.rep (h:Grp N m) {x:V} (hx:N x) (k:Nat):N (rep m x k):=itr_inv (fun y hy=>h.cl hy hx) _ _ h.e0
theorem Grp.itr_rep (h:Grp N m) {x u:V} (hx:N x) (hu:N u) (k:Nat):itr (fun u=>m u x) k u=m u (Go.Proofs.YtghmeeifjeafmaaGreat.rep m x k):=by
  induction k with
  |zero=>exact(h.r1 hu).symm
  |succ k ih=>rw[itr,ih,h.ac hu (h.rep hx k) hx];rfl
theorem Grp.rep_add (h:Grp N m) {x:V} (hx:N x) (a b:Nat):Go.Proofs.YtghmeeifjeafmaaGreat.rep m x (a+b)=m (Go.Proofs.YtghmeeifjeafmaaGreat.rep m x a) (Go.Proofs.YtghmeeifjeafmaaGreat.rep m x b):=by
  rw[Go.Proofs.YtghmeeifjeafmaaGreat.rep,itr_add,←h.itr_rep hx (h.rep hx a)];rfl
theorem Grp.rep_one (h:Grp N m) {x:V} (hx:N x):Go.Proofs.YtghmeeifjeafmaaGreat.rep m x 1=x:=h.l1 hx
theorem Grp.rep_succ' (h:Grp N m) {x:V} (hx:N x) (k:Nat):Go.Proofs.YtghmeeifjeafmaaGreat.rep m x (k+1)=m x (Go.Proofs.YtghmeeifjeafmaaGreat.rep m x k):=by
  rw[Nat.add_comm,h.rep_add hx,h.rep_one hx]
theorem Grp.fim (h:Grp N m) {c:Nat→V} {x:V}:∀q j u,(∀k,j≤k→k<j+q→N (c k))→N u→Go.Proofs.YtghmeeifjeafmaaGreat.fim m c x q j u=m u (Go.Proofs.YtghmeeifjeafmaaGreat.fim m c x q j z0):=by
  intro q
  induction q with
  |zero=>exact fun _ u _ hu=>(h.r1 hu).symm
  | succ q ih=>
    intro j u hc hu
    have hj:N (c j):=hc j (by omega) (by omega)
    have hc':∀k,j+1≤k→k<j+1+q→N (c k):=fun k h1 h2=>hc k (by omega) (by omega)
    have h3:=fim_T (fun a b=>h.cl) q (j+1) z0 hc' h.e0 (x:=x)
    rw[Go.Proofs.YtghmeeifjeafmaaGreat.fim,ih (j+1) _ hc' (itr_inv (fun y hy=>h.cl hy hj) _ _ hu),h.itr_rep hj hu,h.ac hu (h.rep hj _) h3,Go.Proofs.YtghmeeifjeafmaaGreat.fim,
      ih (j+1) (itr _ _ z0) hc' (itr_inv (fun y hy=>h.cl hy hj) _ _ h.e0)]
    rfl
end
structure Ext (N:V→Prop) (m:V→V→V) (p:Nat) (w:V) (φ:V→V):Prop where
  g:Grp N m
  fc:∀{x},N x→N (φ x)
  fm:∀{x y},N x→N y→φ (m x y)=m (φ x) (φ y)
  f0:φ z0=z0
  hw:N w
  fw:φ w=w
  inn:∀{x},N x→m w (itr φ p x)=m x w
section
variable {N:V→Prop} {m:V→V→V} {p:Nat} {w:V} {φ:V→V}
theorem Ext.ic (h:Ext N m p w φ) {x:V} (hx:N x) (k:Nat):N (itr φ k x):=itr_inv (fun _ h'=>h.fc h') _ _ hx
theorem Ext.im (h:Ext N m p w φ) {x y:V} (hx:N x) (hy:N y) (k:Nat):itr φ k (m x y)=m (itr φ k x) (itr φ k y):=by
  induction k with
  |zero=>rfl
  |succ k ih=>rw[itr,ih,h.fm (h.ic hx k) (h.ic hy k)];rfl
theorem Ext.i0 (h:Ext N m p w φ) (k:Nat):itr φ k z0=z0:=by
  induction k with
  |zero=>rfl
  |succ k ih=>rw[itr,ih,h.f0]
theorem Ext.iw (h:Ext N m p w φ) (k:Nat):itr φ k w=w:=by
  induction k with
  |zero=>rfl
  |succ k ih=>rw[itr,ih,h.fw]
def xm (m:V→V→V) (p:Nat) (w:V) (φ:V→V) (a:Nat) (x:V) (b:Nat) (y:V):Nat×V:=
  if p≤a+b then (a+b-p,m w (m (itr φ b x) y))else (a+b,m (itr φ b x) y)
theorem Ext.assoc (h:Ext N m p w φ) {a b c:Nat} {x y z:V} (ha:a<p) (hb:b<p) (hc:c<p) (hx:N x) (hy:N y) (hz:N z):
    xm m p w φ (xm m p w φ a x b y).1 (xm m p w φ a x b y).2 c z=xm m p w φ a x (xm m p w φ b y c z).1 (xm m p w φ b y c z).2:=by
  have g:=h.g
  have e1:=h.ic hx
  have e2:=h.ic hy
  have key:∀q r,q=p+r→m w (itr φ q x)=m (itr φ r x) w:=by
    intro q r hq
    rw[hq,Nat.add_comm,itr_add,h.inn (e1 r)]
  unfold xm
  by_cases h1:p≤a+b<;>by_cases h2:p≤b+c
  · simp only[h1,h2,if_true]
    have q1:itr φ c (m w (m (itr φ b x) y))=m w (m (itr φ (b+c) x) (itr φ c y)):=by
      rw[h.im h.hw (g.cl (e1 b) hy),h.im (e1 b) hy,h.iw,←itr_add]
    have q2:m (itr φ (b+c-p) x) (m w (m (itr φ c y) z))=m w (m (itr φ (b+c) x) (m (itr φ c y) z)):=by
      rw[←g.ac (e1 _) h.hw (g.cl (e2 c) hz),←key (b+c) (b+c-p) (by omega),g.ac h.hw (e1 _) (g.cl (e2 c) hz)]
    have q3:m (m w (m (itr φ (b+c) x) (itr φ c y))) z=m w (m (itr φ (b+c) x) (m (itr φ c y) z)):=by
      rw[g.ac h.hw (g.cl (e1 _) (e2 c)) hz,g.ac (e1 _) (e2 c) hz]
    rw[q1,q2,q3]
    by_cases h3:p≤a+b-p+c
    · rw[if_pos h3,if_pos (by omega)];congr 1;omega
    rw[if_neg h3,if_neg (by omega)];congr 1;omega
  · simp only[h1,h2,if_true,if_false]
    have q1:itr φ c (m w (m (itr φ b x) y))=m w (m (itr φ (b+c) x) (itr φ c y)):=by
      rw[h.im h.hw (g.cl (e1 b) hy),h.im (e1 b) hy,h.iw,←itr_add]
    have q3:m (m w (m (itr φ (b+c) x) (itr φ c y))) z=m w (m (itr φ (b+c) x) (m (itr φ c y) z)):=by
      rw[g.ac h.hw (g.cl (e1 _) (e2 c)) hz,g.ac (e1 _) (e2 c) hz]
    rw[q1,q3,if_neg (by omega),if_pos (by omega)]
    congr 1;omega
  · simp only[h1,h2,if_true,if_false]
    have q1:itr φ c (m (itr φ b x) y)=m (itr φ (b+c) x) (itr φ c y):=by
      rw[h.im (e1 b) hy,←itr_add]
    have q2:m (itr φ (b+c-p) x) (m w (m (itr φ c y) z))=m w (m (itr φ (b+c) x) (m (itr φ c y) z)):=by
      rw[←g.ac (e1 _) h.hw (g.cl (e2 c) hz),←key (b+c) (b+c-p) (by omega),g.ac h.hw (e1 _) (g.cl (e2 c) hz)]
    rw[q1,q2,g.ac (e1 _) (e2 c) hz,if_pos (by omega),if_neg (by omega)]
    congr 1;omega
  simp only[h1,h2,if_true,if_false];have q1:itr φ c (m (itr φ b x) y)=m (itr φ (b+c) x) (itr φ c y):=by
    rw[h.im (e1 b) hy,←itr_add]
  rw[q1,g.ac (e1 _) (e2 c) hz]
  by_cases h3:p≤a+b+c
  · rw[if_pos h3,if_pos (by omega)];congr 1;omega
  rw[if_neg h3,if_neg (by omega)];congr 1;omega
end
end Go.Proofs.YtghmeeifjeafmaaGreat
