import Derived.Test.YtnlfbimjcabgiaaGreatZ16
import Derived.Test.YtnlfbimjcabgiaaGreatZ25
import Derived.Test.YtnlfbimjcabgiaaGreatZ30
set_option linter.unusedVariables false
set_option linter.unusedSimpArgs false
namespace Go.Proofs.YtnlfbimjcabgiaaGreat
open Nat (reduceAdd reduceSub reduceGT reduceEqDiff reduceMul)
theorem outS_mem {dn:Nat→Option V} {k:Nat} {y:V} (h:y∈outS dn k):∃d,dn d=some y:=by
  obtain⟨d,_,hd⟩:=List.mem_filterMap.1 h
  exact⟨d,hd⟩
section
variable (os:List Int) (pw:List (List Int)) (cj:List (List (List Int)))
noncomputable def cloU (P:Pc) (us:List V):List V:=outS (dnS P P.n (cloF P (clM P (fun _=>none) us) (fun _=>none) us) P.n) P.n
end
end Go.Proofs.YtnlfbimjcabgiaaGreat
namespace Go.Proofs.YtnlfbimjcabgiaaGreat
open Nat (reduceAdd reduceSub reduceGT reduceEqDiff reduceMul)
end Go.Proofs.YtnlfbimjcabgiaaGreat
namespace Go.Proofs.YtnlfbimjcabgiaaGreat
open Nat (reduceAdd reduceSub reduceGT reduceEqDiff reduceMul)
end Go.Proofs.YtnlfbimjcabgiaaGreat
namespace Go.Proofs.YtnlfbimjcabgiaaGreat
structure Sbg (N:V→Prop) (m:V→V→V) (S:V→Prop):Prop where
  n:∀{a},S a→N a
  e:S z0
  mu:∀{a b},S a→S b→S (m a b)
  iv:∀{a b},S a→N b→m a b=z0→S b
section
variable {N:V→Prop} {m:V→V→V} (g:Grp N m) {S:V→Prop}
include g
theorem Sbg.l {a b:V} (h:Sbg N m S) (ha:S a) (hb:N b) (hab:S (m a b)):S b:=by
  obtain⟨c,c1,c2,c3⟩:=g.iv (h.n ha)
  have:=h.mu (h.iv ha c1 c3) hab
  rwa [←g.ac c1 (h.n ha) hb,c2,g.l1 hb]at this
theorem Sbg.r {a b:V} (h:Sbg N m S) (ha:S a) (hb:N b) (hab:S (m b a)):S b:=by
  obtain⟨c,c1,c2,c3⟩:=g.iv (h.n ha)
  have:=h.mu hab (h.iv ha c1 c3)
  rwa [g.ac hb (h.n ha) c1,c3,g.r1 hb]at this
omit g in
theorem Sbg.rep {y:V} (h:Sbg N m S) (hy:S y) (k:Nat):S (Go.Proofs.YtnlfbimjcabgiaaGreat.rep m y k):=by
  induction k with
  |zero=>exact h.e
  |succ k ih=>exact h.mu ih hy
theorem rep_comm {y:V} (hy:N y) (a b:Nat):m (rep m y a) (rep m y b)=m (rep m y b) (rep m y a):=by
  rw[←g.rep_add hy,←g.rep_add hy,Nat.add_comm]
theorem mv_rep {y:V} (h:Sbg N m S) (hy:N y) (hn:∀s,S s→∃s1,S s1∧m s y=m y s1):∀k s,S s→∃s1,S s1∧m s (rep m y k)=m (rep m y k) s1:=by
  intro k
  induction k with
  |zero=>intro s hs;exact⟨s,hs,by show m s z0=m z0 s;rw[g.r1 (h.n hs),g.l1 (h.n hs)]⟩
  | succ k ih=>
    intro s hs
    obtain⟨s1,q1,q2⟩:=ih s hs
    obtain⟨s2,q3,q4⟩:=hn s1 q1
    refine⟨s2,q3,?_⟩
    show m s (m (rep m y k) y)=m (m (rep m y k) y) s2
    have hr:=g.rep hy k
    rw[←g.ac (h.n hs) hr hy,q2,g.ac hr (h.n q1) hy,q4,g.ac hr hy (h.n q3)]
def Ad (N:V→Prop) (m:V→V→V) (S:V→Prop) (y x:V):Prop:=N x∧∃(a b:Nat) (s:V),S s∧m x (rep m y a)=m (rep m y b) s
theorem Ad.sub {y:V} (h:Sbg N m S) (hy:N y) (hn:∀s,S s→∃s1,S s1∧m s y=m y s1):Sbg N m (Ad N m S y):=by
  have hr:=fun k=>g.rep hy k
  refine⟨fun h=>h.1,⟨g.e0,0,0,z0,h.e,rfl⟩,?_,?_⟩
  · rintro x x' ⟨hx,a,b,s,hs,e1⟩ ⟨hx',a',b',s',hs',e2⟩
    --x x' y^a' y^a=x y^b' s' y^a,and x y^b' y^a=y^b s y^b' ..
    obtain⟨s1,q1,q2⟩:=mv_rep g h hy hn a s' hs'
    obtain⟨s2,q3,q4⟩:=mv_rep g h hy hn b' s hs
    refine⟨g.cl hx hx',a'+a,b+b',m s2 s1,h.mu q3 q1,?_⟩
    have n1:=h.n hs;have n2:=h.n hs';have n3:=h.n q1;have n4:=h.n q3
    rw[g.rep_add hy,g.rep_add hy]
    calc m (m x x') (m (rep m y a') (rep m y a))
        =m x (m (m x' (rep m y a')) (rep m y a)):=by rw[g.ac hx hx' (g.cl (hr _) (hr _)),g.ac hx' (hr _) (hr _)]
      _=m x (m (rep m y b') (m s' (rep m y a))):=by rw[e2,g.ac (hr _) n2 (hr _)]
      _=m x (m (rep m y b') (m (rep m y a) s1)):=by rw[q2]
      _=m (m x (m (rep m y a) (rep m y b'))) s1:=by rw[←g.ac (hr _) (hr _) n3,rep_comm g hy b' a,g.ac hx (g.cl (hr _) (hr _)) n3]
      _=m (m (m (rep m y b) s) (rep m y b')) s1:=by rw[←g.ac hx (hr _) (hr _),e1]
      _=m (m (rep m y b) (m (rep m y b') s2)) s1:=by rw[g.ac (hr _) n1 (hr _),q4]
      _=m (m (rep m y b) (rep m y b')) (m s2 s1):=by rw[←g.ac (hr _) (hr _) n4,g.ac (g.cl (hr _) (hr _)) n4 n3]
  · rintro x x' ⟨hx,a,b,s,hs,e1⟩ hx' e0
    obtain⟨c,c1,c2,c3⟩:=g.iv (h.n hs)
    refine⟨hx',b,a,c,h.iv hs c1 c3,?_⟩
    --x y^a=y^b s,so x' y^b s=y^a
    have h0:m x' x=z0:=by
      obtain⟨w,w1,w2,w3⟩:=g.iv hx
      have:x'=w:=g.lc hx hx' w1 (by rw[e0,w3])
      rw[this,w2]
    have h1:m (m x' (rep m y b)) s=rep m y a:=by
      rw[g.ac hx' (hr _) (h.n hs),←e1,←g.ac hx' hx (hr _),h0,g.l1 (hr _)]
    rw[←h1,g.ac (g.cl hx' (hr _)) (h.n hs) c1,c3,g.r1 (g.cl hx' (hr _))]
theorem Ad.of {y s:V} (h:Sbg N m S) (hs:S s):Ad N m S y s:=⟨h.n hs,0,0,s,hs,by show m s z0=m z0 s;rw[g.r1 (h.n hs),g.l1 (h.n hs)]⟩
theorem Ad.self {y:V} (h:Sbg N m S) (hy:N y):Ad N m S y y:=⟨hy,0,1,z0,h.e,by show m y z0=m (m z0 y) z0;rw[g.l1 hy]⟩
theorem Ad.least {y x:V} {A:V→Prop} (h:Sbg N m A) (hS:∀s,S s→A s) (hy:A y) (hx:Ad N m S y x):A x:=by
  obtain⟨h1,a,b,s,hs,e⟩:=hx
  exact h.r g (h.rep hy a) h1 (by rw[e];exact h.mu (h.rep hy b) (hS s hs))
theorem mv_back {y:V} (h:Sbg N m S) (hy:N y) (hn:∀s,S s→∃s1,S s1∧m s y=m y s1) {q:Nat} (hq:S (rep m y (q+1))):∀s,S s→∃s1,S s1∧m y s=m s1 y:=by
  intro s hs
  --s1=y s y^-1:from w s w^-1=y (y^q s ..)
  obtain⟨c,c1,c2,c3⟩:=g.iv (h.n hq)
  have nc:=h.iv hq c1 c3
  have ns:=h.n hs
  have hr:=fun k=>g.rep hy k
  --u=w s w^-1;u y^q=y^q s1,s1=y s y^-1
  obtain⟨s1,q1,q2⟩:=mv_rep g h hy hn q (m (m (rep m y (q+1)) s) c) (h.mu (h.mu hq hs) nc)
  have n1:=h.n q1
  refine⟨s1,q1,?_⟩
  refine g.lc (hr q) (g.cl hy ns) (g.cl n1 hy) ?_
  --y^q (y s)=w s=u w=u y^q y=y^q s1 y
  have e2:m (rep m y q) y=rep m y (q+1):=rfl
  rw[←g.ac (hr q) n1 hy,←q2,g.ac (g.cl (g.cl (hr _) ns) c1) (hr q) hy,e2,g.ac (g.cl (hr _) ns) c1 (hr _),c2,g.r1 (g.cl (hr _) ns),←g.ac (hr q) hy ns,e2]
end
def Sg (N:V→Prop) (m:V→V→V) (t:Nat→Option V) (n:Nat):Nat→V→Prop
  |0,x=>x=z0
  | f+1,x=>match t (n-(f+1))with
    |none=>Sg N m t n f x
    |some y=>Ad N m (Sg N m t n f) y x
theorem Sg_none {N:V→Prop} {m:V→V→V} {t:Nat→Option V} {n f:Nat} (h:t (n-(f+1))=none):Sg N m t n (f+1)=Sg N m t n f:=by
  funext x;rw[Sg,h]
theorem Sg_some {N:V→Prop} {m:V→V→V} {t:Nat→Option V} {n f:Nat} {y:V} (h:t (n-(f+1))=some y):Sg N m t n (f+1)=Ad N m (Sg N m t n f) y:=by
  funext x;rw[Sg,h]
section
variable {N:V→Prop} {m:V→V→V} (g:Grp N m) {t:Nat→Option V} {n:Nat}
include g
theorem Sg.step {f:Nat} (h:Sbg N m (Sg N m t n f)) {x:V} (hx:Sg N m t n f x):Sg N m t n (f+1) x:=by
  cases ht:t (n-(f+1))with
  |none=>rw[Sg_none ht];exact hx
  |some y=>rw[Sg_some ht];exact Ad.of g h hx
theorem Sg.mono {f k:Nat} (h:∀f',f'<f+k→Sbg N m (Sg N m t n f')) {x:V} (hx:Sg N m t n f x):Sg N m t n (f+k) x:=by
  induction k with
  |zero=>exact hx
  |succ k ih=>exact Sg.step g (h (f+k) (by omega)) (ih (fun f' hf=>h f' (by omega)))
theorem Sg.mem {d:Nat} {y:V} (hd:d<n) (ht:t d=some y) (hy:N y) (h:Sbg N m (Sg N m t n (n-(d+1)))):Sg N m t n (n-d) y:=by
  rw[show n-d=n-(d+1)+1 by omega,Sg_some (y:=y) (by rw[show n-(n-(d+1)+1)=d by omega];exact ht)]
  exact Ad.self g h hy
theorem Sg.nrm (tb:∀d y,t d=some y→d<n∧N y)
    (cm:∀d e y z,t d=some y→t e=some z→d<e→(∀f',f'≤n-(d+1)→Sbg N m (Sg N m t n f'))→∃c,Sg N m t n (n-(d+1)) c∧m (m z y) c=m y z) {f:Nat} (hf:f+1≤n) (ih:∀f',f'≤f→Sbg N m (Sg N m t n f')) {y:V} (ht:t (n-(f+1))=some y):
    ∀s,Sg N m t n f s→∃s1,Sg N m t n f s1∧m s y=m y s1:=by
  have hK:=ih f (Nat.le_refl f)
  have hy:=(tb _ _ ht).2
  --the elements that may be moved over y
  have hA:Sbg N m (fun x=>N x∧∃s1,Sg N m t n f s1∧m x y=m y s1):=by
    refine⟨fun h=>h.1,⟨g.e0,z0,hK.e,by rw[g.l1 hy,g.r1 hy]⟩,?_,?_⟩
    · rintro x x' ⟨hx,s,hs,e1⟩ ⟨hx',s',hs',e2⟩
      refine⟨g.cl hx hx',m s s',hK.mu hs hs',?_⟩
      rw[g.ac hx hx' hy,e2,←g.ac hx hy (hK.n hs'),e1,g.ac hy (hK.n hs) (hK.n hs')]
    · rintro x x' ⟨hx,s,hs,e1⟩ hx' e0
      obtain⟨c,c1,c2,c3⟩:=g.iv (hK.n hs)
      refine⟨hx',c,hK.iv hs c1 c3,?_⟩
      have h0:m x' x=z0:=by
        obtain⟨w,w1,w2,w3⟩:=g.iv hx
        have:x'=w:=g.lc hx hx' w1 (by rw[e0,w3])
        rw[this,w2]
      have h1:m (m x' y) s=y:=by
        rw[g.ac hx' hy (hK.n hs),←e1,←g.ac hx' hx hy,h0,g.l1 hy]
      have h2:=congrArg (fun u=>m u c) h1
      rw[g.ac (g.cl hx' hy) (hK.n hs) c1,c3,g.r1 (g.cl hx' hy)]at h2
      exact h2
  have hS :∀k,k≤f→∀x,Sg N m t n k x→N x∧∃s1,Sg N m t n f s1∧m x y=m y s1:=by
    intro k
    induction k with
    |zero=>intro _ x hx;rw[Sg]at hx;rw[hx];exact hA.e
    | succ k ihk=>
      intro hk x hx
      cases hz:t (n-(k+1))with
      |none=>rw[Sg_none hz]at hx;exact ihk (by omega) x hx
      | some z=>
        rw[Sg_some hz]at hx
        have hzn:=(tb _ _ hz).2
        refine Ad.least g hA (ihk (by omega)) ?_ hx
        obtain⟨c,c1,c2⟩:=cm _ _ _ _ ht hz (by omega) (fun f' hf'=>ih f' (by omega))
        rw[show n-(n-(f+1)+1)=f by omega]at c1
        have hzS:Sg N m t n f z:=by
          have h3:=Sg.mem g (t:=t) (n:=n) (d:=n-(k+1)) (by omega) hz hzn (ih _ (by omega))
          rw[show n-(n-(k+1))=k+1 by omega]at h3
          have h4:=Sg.mono g (f:=k+1) (k:=f-(k+1)) (fun f' hf=>ih f' (by omega)) h3
          rwa [show k+1+(f-(k+1))=f by omega]at h4
        obtain⟨w,w1,w2,w3⟩:=g.iv (hK.n c1)
        refine⟨hzn,m z w,hK.mu hzS (hK.iv c1 w1 w3),?_⟩
        have h2:=congrArg (fun u=>m u w) c2
        rw[g.ac (g.cl hzn hy) (hK.n c1) w1,w3,g.r1 (g.cl hzn hy)]at h2
        rw[h2,g.ac hy hzn w1]
  exact fun s hs=>(hS f (Nat.le_refl f) s hs).2
theorem Sg.all (tb:∀d y,t d=some y→d<n∧N y)
    (cm:∀d e y z,t d=some y→t e=some z→d<e→(∀f',f'≤n-(d+1)→Sbg N m (Sg N m t n f'))→∃c,Sg N m t n (n-(d+1)) c∧m (m z y) c=m y z):∀f,f≤n→∀f',f'≤f→Sbg N m (Sg N m t n f'):=by
  intro f
  induction f with
  | zero=>
    intro _ f' hf'
    obtain rfl:f'=0:=by omega
    refine⟨fun h=>by rw[h];exact g.e0,rfl,fun ha hb=> ?_,fun ha hb hab=> ?_⟩
    · rw[Sg]at ha hb ⊢;rw[ha,hb];exact g.l1 g.e0
    · rw[Sg]at ha ⊢;rw[ha,g.l1 hb]at hab;exact hab
  | succ f ih=>
    intro hf f' hf'
    have ih:=ih (by omega)
    rcases Nat.lt_or_ge f' (f+1)with q|q
    · exact ih f' (by omega)
    obtain rfl:f'=f+1:=by omega
    have hK:=ih f (Nat.le_refl f)
    cases ht:t (n-(f+1))with
    |none=>rw[Sg_none ht];exact hK
    | some y=>
      rw[Sg_some ht]
      exact Ad.sub g hK (tb _ _ ht).2 (Sg.nrm g tb cm hf ih ht)
end
structure Lvl (n:Nat) (o:Nat→Int) (N:Nat→V→Prop) (m:V→V→V):Prop where
  g:∀d,Grp (N d) m
  mono:∀{d x},N (d+1) x→N d x
  lead:∀{d a b},d<n→N d a→N d b→m a b d=(a d+b d)%o d
  op:∀{d},d<n→1<o d
  up:∀{d x},N d x→x d=0→N (d+1) x
  nz:∀{d x},N (d+1) x→x d=0
section
variable {n:Nat} {o:Nat→Int} {N:Nat→V→Prop} {m:V→V→V} (l:Lvl n o N m)
include l
theorem Lvl.le {d e:Nat} (h:d≤e) {x:V} (hx:N e x):N d x:=by
  obtain⟨k,rfl⟩:∃k,e=d+k:=⟨e-d,by omega⟩
  induction k with
  |zero=>exact hx
  |succ k ih=>exact ih (by omega) (l.mono hx)
theorem Lvl.sbg (d:Nat):Sbg (N 0) m (N d):=by
  refine⟨fun h=>l.le (Nat.zero_le d) h,(l.g d).e0,fun ha hb=>(l.g d).cl ha hb,fun {a b} ha hb hab=> ?_⟩
  obtain⟨c,c1,c2,c3⟩:=(l.g d).iv ha
  have:b=c:=(l.g 0).lc (l.le (Nat.zero_le d) ha) hb (l.le (Nat.zero_le d) c1) (by rw[hab,c3])
  rw[this];exact c1
theorem Lvl.rep_lead {d:Nat} (hd:d<n) {y:V} (hy:N d y) (h1:y d=1):∀k:Nat,rep m y k d=(k:Int)%o d:=by
  intro k
  induction k with
  |zero=>simp[rep,itr,z0]
  | succ k ih=>
    show m (rep m y k) y d=_
    rw[l.lead hd ((l.g d).rep hy k) hy,ih,h1,Int.emod_add_emod,Int.natCast_succ]
variable {t:Nat→Option V}
theorem Lvl.Sg_in (tb:∀d y,t d=some y→d<n∧N d y∧y d=1):∀f,f≤n→∀x,Sg (N 0) m t n f x→N (n-f) x:=by
  intro f
  induction f with
  |zero=>intro _ x hx;rw[Sg]at hx;rw[hx];exact(l.g _).e0
  | succ f ih=>
    intro hf x hx
    have hle:n-f=n-(f+1)+1:=by omega
    have hi:∀x,Sg (N 0) m t n f x→N (n-(f+1)) x:=fun x hx=>l.mono (by rw[←hle];exact ih (by omega) x hx)
    cases ht:t (n-(f+1))with
    |none=>rw[Sg_none ht]at hx;exact hi x hx
    | some y=>
      rw[Sg_some ht]at hx
      exact Ad.least (l.g 0) (l.sbg _) hi (tb _ _ ht).2.1 hx
theorem Lvl.Sg_next (tb:∀d y,t d=some y→d<n∧N d y∧y d=1) {d:Nat} (hd:d<n) {y:V} (ht:t d=some y) (hK:Sbg (N 0) m (Sg (N 0) m t n (n-(d+1))))
    (hn:∀s,Sg (N 0) m t n (n-(d+1)) s→∃s1,Sg (N 0) m t n (n-(d+1)) s1∧m s y=m y s1) (pw:Sg (N 0) m t n (n-(d+1)) (rep m y (o d).toNat))
    {x:V} (hx:Sg (N 0) m t n (n-d) x) (hx1:N (d+1) x):Sg (N 0) m t n (n-(d+1)) x:=by
  obtain⟨_,y1,y2⟩:=tb d y ht
  have g:=l.g 0
  have hy:=l.le (Nat.zero_le d) y1
  have ho:=l.op hd
  have hr:=fun k=>g.rep hy k
  rw[show n-d=n-(d+1)+1 by omega,Sg_some (y:=y) (by rw[show n-(n-(d+1)+1)=d by omega];exact ht)]at hx
  obtain⟨hx0,a,b,s,hs,e⟩:=hx
  have hsd:N (d+1) s:=by
    have:=l.Sg_in tb (n-(d+1)) (by omega) s hs
    rwa [show n-(n-(d+1))=d+1 by omega]at this
  --the leading places
  have hl:(a:Int)%o d=(b:Int)%o d:=by
    have h1:=l.lead hd (l.mono hx1) ((l.g d).rep y1 a)
    have h2:=l.lead hd ((l.g d).rep y1 b) (l.mono hsd)
    rw[←e,h1,l.nz hx1,l.nz hsd,l.rep_lead hd y1 y2,l.rep_lead hd y1 y2,Int.zero_add,Int.add_zero,Int.emod_emod,Int.emod_emod]at h2
    exact h2
  obtain⟨w,hw⟩:∃w:Nat,o d=w:=⟨(o d).toNat,by omega⟩
  rw[hw]at hl pw
  rw[Int.toNat_natCast]at pw
  have hl':a%w=b%w:=by omega
  --multiples of the order
  have hmul:∀k:Nat,Sg (N 0) m t n (n-(d+1)) (rep m y (w*k)):=by
    intro k
    induction k with
    |zero=>exact hK.e
    |succ k ih=>rw[Nat.mul_succ,g.rep_add hy];exact hK.mu ih pw
  have hback:=mv_back g hK hy hn (q:=w-1) (by rw[show w-1+1=w by omega];exact pw)
  have hbk:∀(k:Nat) s,Sg (N 0) m t n (n-(d+1)) s→∃s1,Sg (N 0) m t n (n-(d+1)) s1∧m (rep m y k) s=m s1 (rep m y k):=by
    intro k
    induction k with
    |zero=>intro s hs;exact⟨s,hs,by show m z0 s=m s z0;rw[g.r1 (hK.n hs),g.l1 (hK.n hs)]⟩
    | succ k ih=>
      intro s hs
      obtain⟨s1,q1,q2⟩:=hback s hs
      obtain⟨s2,q3,q4⟩:=ih s1 q1
      refine⟨s2,q3,?_⟩
      show m (m (rep m y k) y) s=m s2 (m (rep m y k) y)
      rw[g.ac (hr k) hy (hK.n hs),q2,←g.ac (hr k) (hK.n q1) hy,q4,g.ac (hK.n q3) (hr k) hy]
  have fin:∀(k:Nat) s,Sg (N 0) m t n (n-(d+1)) s→m x (rep m y k)=m (rep m y k) s→Sg (N 0) m t n (n-(d+1)) x:=by
    intro k s hs e
    obtain⟨s1,q1,q2⟩:=hbk k s hs
    have:x=s1:=g.rc (hr k) hx0 (hK.n q1) (by rw[e,q2])
    rw[this];exact q1
  rcases Nat.le_total a b with h|h
  · obtain⟨q,hq⟩:∃q,b=a+w*q:=⟨(b-a)/w,by
      have:=Nat.sub_mod_eq_zero_of_mod_eq hl'.symm
      have:=Nat.div_add_mod (b-a) w
      omega⟩
    refine fin a (m (rep m y (w*q)) s) (hK.mu (hmul q) hs) ?_
    rw[e,hq,g.rep_add hy,g.ac (hr _) (hr _) (hK.n hs)]
  · obtain⟨q,hq⟩:∃q,a=b+w*q:=⟨(a-b)/w,by
      have:=Nat.sub_mod_eq_zero_of_mod_eq hl'
      have:=Nat.div_add_mod (a-b) w
      omega⟩
    obtain⟨c,c1,c2,c3⟩:=g.iv (hr (w*q))
    refine fin b (m s c) (hK.mu hs (hK.iv (hmul q) c1 c3)) ?_
    rw[hq,g.rep_add hy]at e
    have h2:=congrArg (fun u=>m u c) e
    rw[←g.ac hx0 (hr _) (hr _),g.ac (g.cl hx0 (hr _)) (hr _) c1,c3,g.r1 (g.cl hx0 (hr _)),g.ac (hr _) (hK.n hs) c1]at h2
    exact h2
end
structure Tbl (n:Nat) (o:Nat→Int) (N:Nat→V→Prop) (m:V→V→V) (t:Nat→Option V):Prop where
  tb:∀d y,t d=some y→d<n∧N d y∧y d=1
  cm:∀d e y z,t d=some y→t e=some z→d<e→∃c,Sg (N 0) m t n (n-(d+1)) c∧m (m z y) c=m y z
  pw:∀d y,t d=some y→Sg (N 0) m t n (n-(d+1)) (rep m y (o d).toNat)
section
variable {n:Nat} {o:Nat→Int} {N:Nat→V→Prop} {m:V→V→V} (l:Lvl n o N m) {t:Nat→Option V} (c:Tbl n o N m t)
include l c
theorem Tbl.tb0:∀d y,t d=some y→d<n∧N 0 y:=fun d y h=>⟨(c.tb d y h).1,l.le (Nat.zero_le d) (c.tb d y h).2.1⟩
theorem Tbl.sub {f:Nat} (hf:f≤n):Sbg (N 0) m (Sg (N 0) m t n f):=Sg.all (l.g 0) (c.tb0 l) (fun d e y z h1 h2 h3 _=>c.cm d e y z h1 h2 h3) f hf f (Nat.le_refl f)
theorem Tbl.lev {d:Nat} (hd:d≤n) {x:V} (hx:Sg (N 0) m t n (n-d) x):N d x:=by
  have:=l.Sg_in c.tb (n-d) (by omega) x hx
  rwa [show n-(n-d)=d by omega]at this
theorem Tbl.next {d:Nat} (hd:d<n) {x:V} (hx:Sg (N 0) m t n (n-d) x) (h0:x d=0):Sg (N 0) m t n (n-(d+1)) x:=by
  cases ht:t d with
  | none=>
    rw[show n-d=n-(d+1)+1 by omega,Sg_none (by rw[show n-(n-(d+1)+1)=d by omega];exact ht)]at hx
    exact hx
  | some y=>
    exact l.Sg_next c.tb hd ht (c.sub l (by omega)) (Sg.nrm (l.g 0) (c.tb0 l) (fun d e y z h1 h2 h3 _=>c.cm d e y z h1 h2 h3) (f:=n-(d+1)) (by omega) (fun f' hf=>c.sub l (by omega)) (by rw[show n-(n-(d+1)+1)=d by omega];exact ht)) (c.pw d y ht) hx (l.up (c.lev l (by omega) hx) h0)
theorem Tbl.back {d:Nat} (hd:d<n) {x:V} (hx:Sg (N 0) m t n (n-(d+1)) x):Sg (N 0) m t n (n-d) x:=by
  rw[show n-d=n-(d+1)+1 by omega]
  exact Sg.step (l.g 0) (c.sub l (by omega)) hx
theorem Tbl.zro {d:Nat} (hd:d<n) (ht:t d=none) {x:V} (hx:Sg (N 0) m t n (n-d) x):x d=0:=by
  rw[show n-d=n-(d+1)+1 by omega,Sg_none (by rw[show n-(n-(d+1)+1)=d by omega];exact ht)]at hx
  exact l.nz (c.lev l (by omega) hx)
theorem Tbl.mem {d:Nat} {y:V} (ht:t d=some y):Sg (N 0) m t n (n-d) y:=
  Sg.mem (l.g 0) (c.tb d y ht).1 ht (c.tb0 l d y ht).2 (c.sub l (by omega))
theorem Tbl.down {d e:Nat} (h:d≤e) (he:e≤n) {x:V} (hx:Sg (N 0) m t n (n-e) x):Sg (N 0) m t n (n-d) x:=by
  obtain⟨k,rfl⟩:∃k,e=d+k:=⟨e-d,by omega⟩
  induction k with
  |zero=>exact hx
  |succ k ih=>exact ih (by omega) (by omega) (c.back l (d:=d+k) (by omega) hx)
theorem Tbl.depth {d:Nat} (hd:d<n):t d≠none↔∃x,Sg (N 0) m t n n x∧N d x∧x d≠0:=by
  constructor
  · intro h
    cases ht:t d with
    |none=>exact absurd ht h
    | some y=>
      obtain⟨_,h1,h2⟩:=c.tb d y ht
      exact⟨y,by have:=c.down l (Nat.zero_le d) (by omega) (c.mem l ht);rwa [Nat.sub_zero]at this,h1,by rw[h2];omega⟩
  · rintro⟨x,hx,hN,h0⟩ ht
    have key:∀k,k≤d→Sg (N 0) m t n (n-k) x:=by
      intro k
      induction k with
      |zero=>intro _;rw[Nat.sub_zero];exact hx
      |succ k ih=>intro hk;exact c.next l (by omega) (ih (by omega)) (l.nz (l.le hk hN))
    exact h0 (c.zro l hd ht (key d (Nat.le_refl d)))
end
theorem Tbl.same {n:Nat} {o:Nat→Int} {N:Nat→V→Prop} {m m':V→V→V} (l:Lvl n o N m) (l':Lvl n o N m') {t t':Nat→Option V} (c:Tbl n o N m t) (c':Tbl n o N m' t')
    (h:∀x,Sg (N 0) m t n n x↔Sg (N 0) m' t' n n x) {d:Nat} (hd:d<n):t d=none↔t' d=none:=by
  have h1:=c.depth l hd
  have h2:=c'.depth l' hd
  have h3:t d≠none↔t' d≠none:=by
    rw[h1,h2]
    exact⟨fun ⟨x,a,b⟩=>⟨x,(h x).1 a,b⟩,fun ⟨x,a,b⟩=>⟨x,(h x).2 a,b⟩⟩
  constructor
  · intro e;exact Classical.byContradiction fun q=>(h3.2 q) e
  · intro e;exact Classical.byContradiction fun q=>(h3.1 q) e
def Gen (N:V→Prop) (m:V→V→V) (us:V→Prop) (x:V):Prop:=∀A,Sbg N m A→(∀u,us u→A u)→A x
theorem Sg.least {N:V→Prop} {m:V→V→V} (g:Grp N m) {t:Nat→Option V} {n:Nat} {A:V→Prop} (hA:Sbg N m A) (ht:∀d y,t d=some y→A y):∀f x,Sg N m t n f x→A x:=by
  intro f
  induction f with
  |zero=>intro x hx;rw[Sg]at hx;rw[hx];exact hA.e
  | succ f ih=>
    intro x hx
    cases hz:t (n-(f+1))with
    |none=>rw[Sg_none hz]at hx;exact ih x hx
    |some z=>rw[Sg_some hz]at hx;exact Ad.least g hA ih (ht _ _ hz) hx
theorem Tbl.gen {n:Nat} {o:Nat→Int} {N:Nat→V→Prop} {m:V→V→V} (l:Lvl n o N m) {t:Nat→Option V} (c:Tbl n o N m t) {us:V→Prop}
    (h1:∀d y,t d=some y→Gen (N 0) m us y) (h2:∀u,us u→Sg (N 0) m t n n u) (x:V):Sg (N 0) m t n n x↔Gen (N 0) m us x:=
  ⟨fun h A hA hu=>Sg.least (l.g 0) hA (fun d y hy=>h1 d y hy A hA hu) n x h,fun h=>h _ (c.sub l (Nat.le_refl n)) h2⟩
theorem Grp.op {N:V→Prop} {m:V→V→V} (g:Grp N m):Grp N (fun a b=>m b a) where
  cl:=fun ha hb=>g.cl hb ha
  ac:=fun ha hb hc=>(g.ac hc hb ha).symm
  e0:=g.e0
  l1:=fun ha=>g.r1 ha
  r1:=fun ha=>g.l1 ha
  iv:=fun ha=>by obtain⟨b,b1,b2,b3⟩:=g.iv ha;exact⟨b,b1,b3,b2⟩
theorem Sbg.op {N:V→Prop} {m:V→V→V} (g:Grp N m) {S:V→Prop} (h:Sbg N m S):Sbg N (fun a b=>m b a) S:=by
  refine⟨h.n,h.e,fun ha hb=>h.mu hb ha,fun {a b} ha hb hab=> ?_⟩
  obtain⟨c,c1,c2,c3⟩:=g.iv (h.n ha)
  have:b=c:=g.rc (h.n ha) hb c1 (by rw[c2];exact hab)
  rw[this];exact h.iv ha c1 c3
theorem Gen.op {N:V→Prop} {m:V→V→V} (g:Grp N m) {us:V→Prop} {x:V}:Gen N (fun a b=>m b a) us x↔Gen N m us x:=
  ⟨fun h A hA hu=>h A (hA.op g) hu,fun h A hA hu=>h A (Sbg.op g.op hA) hu⟩
theorem lvl {P:Pc} (hv:Val P) (hc:Con P 0):Lvl P.n P.o (T P) (M P 0):=by
  have e:∀d {a b:V},T P d a→T P d b→M P 0 a b=M P d a b:=fun d a b ha hb=>M_sub hv (Nat.zero_le d) ha hb
  refine⟨fun d=> ?_,fun {d x} h=>h.mono hv (Nat.le_succ d),fun {d a b} hd ha hb=> ?_,fun {d} hd=>hv.o d hd,fun {d x} h h0=>⟨fun k hk=> ?_,fun k h2 h3=>h.r k (by omega) h3,h.t⟩,fun {d x} h=>h.z d (by omega)⟩
  · have g:=con_grp hv (hc.mono (Nat.zero_le d))
    refine⟨fun {a b} ha hb=>by rw[e d ha hb];exact g.cl ha hb,fun {a b c} ha hb hc=> ?_,g.e0,fun {a} ha=>by rw[e d g.e0 ha];exact g.l1 ha,fun {a} ha=>by rw[e d ha g.e0];exact g.r1 ha,fun {a} ha=> ?_⟩
    · rw[e d ha hb,e d hb hc,e d (g.cl ha hb) hc,e d ha (g.cl hb hc)];exact g.ac ha hb hc
    · obtain⟨b,b1,b2,b3⟩:=g.iv ha
      exact⟨b,b1,by rw[e d b1 ha];exact b2,by rw[e d ha b1];exact b3⟩
  · have h1:=ha.r d (Nat.le_refl _) hd
    have h2:=hb.r d (Nat.le_refl _) hd
    rw[e d ha hb,M_lt hd]
    unfold stp
    split
    · rw[fset_at,←Int.sub_emod_right,Int.emod_eq_of_lt (by omega) (by omega)]
    · rw[fset_at,Int.emod_eq_of_lt (by omega) (by omega)]
  · by_cases q:k=d
    · subst q;exact h0
    · exact h.z k (by omega)
def Cy (N:V→Prop) (m:V→V→V) (y u:V):Prop:=∀A,Sbg N m A→A y→A u
def Sm (N:V→Prop) (m:V→V→V) (y x r:V):Prop:=∀A,Sbg N m A→A y→(A x↔A r)
theorem Sm.right {N:V→Prop} {m:V→V→V} (g:Grp N m) {y x u:V} (hx:N x) (hu:Cy N m y u):Sm N m y x (m x u):=
  fun A hA hy=>⟨fun h=>hA.mu h (hu A hA hy),fun h=>hA.r g (hu A hA hy) hx h⟩
theorem Sm.left {N:V→Prop} {m:V→V→V} (g:Grp N m) {y x u:V} (hx:N x) (hu:Cy N m y u):Sm N m y x (m u x):=
  fun A hA hy=>⟨fun h=>hA.mu (hu A hA hy) h,fun h=>hA.l g (hu A hA hy) hx h⟩
def Ps (N:Nat→V→Prop) (m:V→V→V) (t:Nat→Option V) (n:Nat):Nat→V→Prop
  |0,x=>x=z0
  |f+1,x=>N 0 x∧((x (n-(f+1))=0∧Ps N m t n f x)∨∃y r,t (n-(f+1))=some y∧Sm (N 0) m y x r∧Ps N m t n f r)
theorem Ps.sg {n:Nat} {o:Nat→Int} {N:Nat→V→Prop} {m:V→V→V} (l:Lvl n o N m) {t:Nat→Option V} (tb:∀d y,t d=some y→d<n∧N 0 y):
    ∀f,f≤n→(∀f',f'≤f→Sbg (N 0) m (Sg (N 0) m t n f'))→∀x,Ps N m t n f x→Sg (N 0) m t n f x:=by
  intro f
  induction f with
  |zero=>intro _ _ x hx;exact hx
  | succ f ih=>
    intro hf hS x hx
    have ih:=ih (by omega) (fun f' h=>hS f' (by omega))
    obtain⟨h0,⟨_,h2⟩|⟨y,u,h1,h2,h3⟩⟩:=hx
    · exact Sg.step (l.g 0) (hS f (by omega)) (ih x h2)
    · have hK:=hS (f+1) (Nat.le_refl _)
      have hy:Sg (N 0) m t n (f+1) y:=by
        have:=Sg.mem (l.g 0) (t:=t) (n:=n) (d:=n-(f+1)) (tb _ _ h1).1 h1 (tb _ _ h1).2 (hS _ (by omega))
        rwa [show n-(n-(f+1))=f+1 by omega]at this
      exact(h2 _ hK hy).2 (Sg.step (l.g 0) (hS f (by omega)) (ih _ h3))
theorem Tbl.of {n:Nat} {o:Nat→Int} {N:Nat→V→Prop} {m:V→V→V} (l:Lvl n o N m) {t:Nat→Option V} (tb:∀d y,t d=some y→d<n∧N d y∧y d=1)
    (hc:∀d e y z,t d=some y→t e=some z→d<e→∃c,Ps N m t n (n-(d+1)) c∧(m (m z y) c=m y z∨m (m y z) c=m z y))
    (hp:∀d y,t d=some y→Ps N m t n (n-(d+1)) (rep m y (o d).toNat)):Tbl n o N m t:=by
  have g:=l.g 0
  have tb0:∀d y,t d=some y→d<n∧N 0 y:=fun d y h=>⟨(tb d y h).1,l.le (Nat.zero_le d) (tb d y h).2.1⟩
  have cm:∀d e y z,t d=some y→t e=some z→d<e→(∀f',f'≤n-(d+1)→Sbg (N 0) m (Sg (N 0) m t n f'))→∃c,Sg (N 0) m t n (n-(d+1)) c∧m (m z y) c=m y z:=by
    intro d e y z h1 h2 h3 hS
    have hK:=hS _ (Nat.le_refl _)
    obtain⟨c,c1,c2⟩:=hc d e y z h1 h2 h3
    have c3:=Ps.sg l tb0 _ (by omega) hS c c1
    rcases c2 with c2|c2
    · exact⟨c,c3,c2⟩
    · obtain⟨w,w1,w2,w3⟩:=g.iv (hK.n c3)
      have hy:=(tb0 d y h1).2
      have hz:=(tb0 e z h2).2
      refine⟨w,hK.iv c3 w1 w3,?_⟩
      rw[←c2,g.ac (g.cl hy hz) (hK.n c3) w1,w3,g.r1 (g.cl hy hz)]
  have all:=Sg.all g tb0 cm n (Nat.le_refl n)
  exact⟨tb,fun d e y z h1 h2 h3=>cm d e y z h1 h2 h3 (fun f' hf'=>all f' (by omega)),fun d y h=>Ps.sg l tb0 _ (by omega) (fun f' hf'=>all f' (by omega)) _ (hp d y h)⟩
end Go.Proofs.YtnlfbimjcabgiaaGreat
