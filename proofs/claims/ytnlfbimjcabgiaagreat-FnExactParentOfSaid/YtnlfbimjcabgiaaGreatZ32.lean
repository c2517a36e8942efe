import Derived.Test.YtnlfbimjcabgiaaGreatZ31
set_option linter.unusedVariables false
set_option linter.unusedSimpArgs false
namespace Go.Proofs.YtnlfbimjcabgiaaGreat
noncomputable def sft (rd:Nat→V→V→V) (t:Nat→Option V) (n:Nat):Nat→V→Nat×V
  |0,x=>(n,x)
  | f+1,x=>if x (n-(f+1))=0 then sft rd t n f x else match t (n-(f+1))with
    |none=>(n-(f+1),x)
    |some y=>sft rd t n f (rd (n-(f+1)) y x)
section
variable {rd:Nat→V→V→V} {n:Nat}
theorem sft_zero {t:Nat→Option V} {f:Nat} {x:V} (h:x (n-(f+1))=0):sft rd t n (f+1) x=sft rd t n f x:=by rw[sft,if_pos h]
theorem sft_none {t:Nat→Option V} {f:Nat} {x:V} (h:x (n-(f+1))≠0) (ht:t (n-(f+1))=none):sft rd t n (f+1) x=(n-(f+1),x):=by rw[sft,if_neg h,ht]
theorem sft_some {t:Nat→Option V} {f:Nat} {x y:V} (h:x (n-(f+1))≠0) (ht:t (n-(f+1))=some y):sft rd t n (f+1) x=sft rd t n f (rd (n-(f+1)) y x):=by rw[sft,if_neg h,ht]
theorem sft_stop {t:Nat→Option V}:∀f,f≤n→∀x,(sft rd t n f x).1=n∨(n-f≤(sft rd t n f x).1∧(sft rd t n f x).1<n∧t (sft rd t n f x).1=none∧(sft rd t n f x).2 (sft rd t n f x).1≠0):=by
  intro f
  induction f with
  |zero=>intro _ x;exact .inl rfl
  | succ f ih=>
    intro hf x
    have up:∀z,(sft rd t n f z).1=n∨(n-(f+1)≤(sft rd t n f z).1∧(sft rd t n f z).1<n∧t (sft rd t n f z).1=none∧(sft rd t n f z).2 (sft rd t n f z).1≠0):=fun z=>by
      rcases ih (by omega) z with h|⟨h1,h2,h3,h4⟩
      · exact .inl h
      · exact .inr ⟨by omega,h2,h3,h4⟩
    by_cases h:x (n-(f+1))=0
    · rw[sft_zero h];exact up x
    · cases ht:t (n-(f+1))with
      |none=>rw[sft_none h ht];exact .inr ⟨Nat.le_refl _,by dsimp only;omega,ht,h⟩
      |some y=>rw[sft_some h ht];exact up _
theorem sft_on {t t':Nat→Option V} (hle:∀d y,t d=some y→t' d=some y):∀f,f≤n→∀x,sft rd t' n f x=sft rd t' n (n-(sft rd t n f x).1) (sft rd t n f x).2:=by
  intro f
  induction f with
  |zero=>intro _ x;rw[sft,sft,Nat.sub_self,sft]
  | succ f ih=>
    intro hf x
    by_cases h:x (n-(f+1))=0
    · rw[sft_zero h,sft_zero h];exact ih (by omega) x
    · cases ht:t (n-(f+1))with
      |none=>rw[sft_none h ht];dsimp only;rw[show n-(n-(f+1))=f+1 by omega]
      |some y=>rw[sft_some h ht,sft_some h (hle _ _ ht)];exact ih (by omega) _
theorem sft_skip {t:Nat→Option V} {x:V}:∀k f,f+k≤n→(∀j,n-(f+k)≤j→j<n-f→x j=0)→sft rd t n (f+k) x=sft rd t n f x:=by
  intro k
  induction k with
  |zero=>intro f _ _;rfl
  | succ k ih=>
    intro f hf h
    rw[←Nat.add_assoc,sft_zero (h _ (by omega) (by omega))]
    exact ih f (by omega) (fun j h1 h2=>h j (by omega) h2)
end
section
variable {rd:Nat→V→V→V} {n:Nat} {o:Nat→Int} {N:Nat→V→Prop} {m:V→V→V} (l:Lvl n o N m) (top:∀x,N n x→x=z0)
  {t:Nat→Option V} (rk:∀d y x,d<n→t d=some y→N d x→Sm (N 0) m y x (rd d y x)∧N (d+1) (rd d y x))
include l rk
theorem sft_in:∀f,f≤n→∀x,N (n-f) x→N (sft rd t n f x).1 (sft rd t n f x).2:=by
  intro f
  induction f with
  |zero=>intro _ x hx;rw[sft];exact hx
  | succ f ih=>
    intro hf x hx
    have e:n-f=n-(f+1)+1:=by omega
    by_cases h:x (n-(f+1))=0
    · rw[sft_zero h];exact ih (by omega) x (by rw[e];exact l.up hx h)
    · cases ht:t (n-(f+1))with
      |none=>rw[sft_none h ht];exact hx
      | some y=>
        rw[sft_some h ht]
        obtain⟨_,h3⟩:=rk _ y x (by omega) ht hx
        exact ih (by omega) _ (by rw[e];exact h3)
theorem sft_gen {A:V→Prop} (hA:Sbg (N 0) m A) (hy:∀d y,t d=some y→A y):∀f,f≤n→∀x,N (n-f) x→(A x↔A (sft rd t n f x).2):=by
  intro f
  induction f with
  |zero=>intro _ x hx;rw[sft]
  | succ f ih=>
    intro hf x hx
    have e:n-f=n-(f+1)+1:=by omega
    by_cases h:x (n-(f+1))=0
    · rw[sft_zero h];exact ih (by omega) x (by rw[e];exact l.up hx h)
    · cases ht:t (n-(f+1))with
      |none=>rw[sft_none h ht]
      | some y=>
        rw[sft_some h ht]
        obtain⟨h1,h3⟩:=rk _ y x (by omega) ht hx
        rw[←ih (by omega) _ (by rw[e];exact h3)]
        exact h1 A hA (hy _ _ ht)
include top
theorem sft_ps:∀f,f≤n→∀x,N (n-f) x→(sft rd t n f x).1=n→Ps N m t n f x:=by
  intro f
  induction f with
  |zero=>intro _ x hx _;exact top x hx
  | succ f ih=>
    intro hf x hx hs
    have e:n-f=n-(f+1)+1:=by omega
    refine⟨l.le (Nat.zero_le _) hx,?_⟩
    by_cases h:x (n-(f+1))=0
    · rw[sft_zero h]at hs
      exact .inl ⟨h,ih (by omega) x (by rw[e];exact l.up hx h) hs⟩
    · cases ht:t (n-(f+1))with
      |none=>rw[sft_none h ht]at hs;dsimp only at hs;omega
      | some y=>
        rw[sft_some h ht]at hs
        obtain⟨h1,h3⟩:=rk _ y x (by omega) ht hx
        exact .inr ⟨y,_,rfl,h1,ih (by omega) _ (by rw[e];exact h3) hs⟩
end
def Cm (m:V→V→V) (y z c:V):Prop:=m (m z y) c=m y z∨m (m y z) c=m z y
theorem Cm.sy {m:V→V→V} {y z c:V} (h:Cm m y z c):Cm m z y c:=h.symm
theorem Cm.mem {N:V→Prop} {m:V→V→V} (g:Grp N m) {A:V→Prop} (hA:Sbg N m A) {y z c:V} (h:Cm m y z c) (hy:A y) (hz:A z) (hc:N c):A c:=by
  rcases h with h|h
  · exact hA.l g (hA.mu hz hy) hc (by rw[h];exact hA.mu hy hz)
  · exact hA.l g (hA.mu hy hz) hc (by rw[h];exact hA.mu hz hy)
def Pd (rd:Nat→V→V→V) (t:Nat→Option V) (n:Nat) (W:V→Prop) (z:V):Prop:=(sft rd t n n z).1=n∨∃r,W r∧sft rd t n n z=sft rd t n n r
structure Inv (n:Nat) (o:Nat→Int) (N:Nat→V→Prop) (m:V→V→V) (rd:Nat→V→V→V) (us:V→Prop) (t:Nat→Option V) (W:V→Prop):Prop where
  tb:∀d y,t d=some y→d<n∧N d y∧y d=1
  wn:∀v,W v→N 0 v
  pc:∀d e y z,t d=some y→t e=some z→d<e→∃c,N 0 c∧Cm m y z c∧Pd rd t n W c
  pp:∀d y,t d=some y→Pd rd t n W (rep m y (o d).toNat)
  g1:∀d y,t d=some y→Gen (N 0) m us y
  g2:∀v,W v→Gen (N 0) m us v
  g3:∀u,us u→Gen (N 0) m (fun v=>W v∨∃d,t d=some v) u
section
variable {n:Nat} {o:Nat→Int} {N:Nat→V→Prop} {m:V→V→V} {rd:Nat→V→V→V} {us:V→Prop} (l:Lvl n o N m) (top:∀x,N n x→x=z0)
  (rk:∀d y x,d<n→N d y→y d=1→N d x→Sm (N 0) m y x (rd d y x)∧N (d+1) (rd d y x)) {t:Nat→Option V} {W:V→Prop}
theorem Inv.rk' (rk:∀d y x,d<n→N d y→y d=1→N d x→Sm (N 0) m y x (rd d y x)∧N (d+1) (rd d y x)) (h:Inv n o N m rd us t W):∀d y x,d<n→t d=some y→N d x→Sm (N 0) m y x (rd d y x)∧N (d+1) (rd d y x):=
  fun d y x h1 h2 h3=>rk d y x h1 (h.tb d y h2).2.1 (h.tb d y h2).2.2 h3
include l rk
omit rk in
theorem Inv.low (h:Inv n o N m rd us t W) {d e:Nat} {y z c:V} (h1:t d=some y) (h2:t e=some z) (hde:d<e) (hc:N 0 c) (hm:Cm m y z c):N (d+1) c:=by
  obtain⟨hd,y1,y2⟩:=h.tb d y h1
  obtain⟨he,z1,z2⟩:=h.tb e z h2
  have z3:=l.le (show d+1≤e by omega) z1
  have zd:=l.mono z3
  have hcd:N d c:=Cm.mem (l.g 0) (l.sbg d) hm y1 zd hc
  refine l.up hcd ?_
  have e0:=l.lead hd (l.g d).e0 hcd
  rw[(l.g d).l1 hcd]at e0
  have e1:=l.lead hd zd y1
  have e2:=l.lead hd y1 zd
  rw[l.nz z3,y2]at e1 e2
  have ho:=l.op hd
  have key:∀q:Int,(q%o d+c d)%o d=q%o d→c d=0:=by
    intro q hq
    rw[Int.emod_add_emod]at hq
    have:=Int.emod_eq_emod_iff_emod_sub_eq_zero.1 hq
    rw[show q+c d-q=c d by omega]at this
    rw[e0]
    show((z0 d:Int)+c d)%o d=0
    rw[show(z0 d:Int)=0 from rfl,Int.zero_add];exact this
  rcases hm with hm|hm
  · have e3:=l.lead hd ((l.g d).cl zd y1) hcd
    rw[hm,e1,e2,show(0:Int)+1=1+0 by omega]at e3
    exact key _ e3.symm
  · have e3:=l.lead hd ((l.g d).cl y1 zd) hcd
    rw[hm,e1,e2,show(0:Int)+1=1+0 by omega]at e3
    exact key _ e3.symm
include top
theorem Inv.fin (h:Inv n o N m rd us t (fun _=>False)):Tbl n o N m t∧∀x,Sg (N 0) m t n n x↔Gen (N 0) m us x:=by
  have hps:∀d c,d<n→N (d+1) c→Pd rd t n (fun _=>False) c→Ps N m t n (n-(d+1)) c:=by
    intro d c hd hc hp
    rcases hp with hp|⟨r,hr,_⟩
    · refine sft_ps l top (h.rk' rk) _ (by omega) c (by rw[show n-(n-(d+1))=d+1 by omega];exact hc) ?_
      have:=sft_skip (rd:=rd) (t:=t) (x:=c) (n:=n) (d+1) (n-(d+1)) (by omega) (fun j _ h2=>l.nz (l.le (by omega) hc))
      rw[show n-(d+1)+(d+1)=n by omega]at this
      rw[←this];exact hp
    · exact hr.elim
  have c:Tbl n o N m t:=by
    refine Tbl.of l h.tb (fun d e y z h1 h2 h3=> ?_) (fun d y h1=> ?_)
    · obtain⟨c,c1,c2,c3⟩:=h.pc d e y z h1 h2 h3
      exact⟨c,hps d c (h.tb d y h1).1 (h.low l h1 h2 h3 c1 c2) c3,c2⟩
    · obtain⟨hd,y1,y2⟩:=h.tb d y h1
      refine hps d _ hd (l.up ((l.g d).rep y1 _) ?_) (h.pp d y h1)
      have ho:=l.op hd
      rw[l.rep_lead hd y1 y2,Int.toNat_of_nonneg (by omega),Int.emod_self]
  refine⟨c,c.gen l h.g1 (fun u hu=> ?_)⟩
  refine h.g3 u hu _ (c.sub l (Nat.le_refl n)) (fun v hv=> ?_)
  rcases hv with hv|⟨d,hd⟩
  · exact hv.elim
  · have:=c.down l (Nat.zero_le d) (by have:=(c.tb d v hd).1;omega) (c.mem l hd)
    rwa [Nat.sub_zero]at this
theorem Inv.drop (h:Inv n o N m rd us t W) {x:V} {W':V→Prop} (hx:W x) (hs:(sft rd t n n x).1=n) (h1:∀v,W v→v=x∨W' v) (h2:∀v,W' v→W v):Inv n o N m rd us t W':=by
  have pd:∀z,Pd rd t n W z→Pd rd t n W' z:=by
    rintro z (hz|⟨r,r1,r2⟩)
    · exact .inl hz
    · rcases h1 r r1 with rfl|r3
      · exact .inl (by rw[r2];exact hs)
      · exact .inr ⟨r,r3,r2⟩
  refine⟨h.tb,fun v hv=>h.wn v (h2 v hv),fun d e y z a b c=> ?_,fun d y a=>pd _ (h.pp d y a),h.g1,fun v hv=>h.g2 v (h2 v hv),fun u hu A hA hu2=> ?_⟩
  · obtain⟨w,w1,w2,w3⟩:=h.pc d e y z a b c
    exact⟨w,w1,w2,pd _ w3⟩
  · refine h.g3 u hu A hA (fun v hv=> ?_)
    rcases hv with hv|hv
    · rcases h1 v hv with rfl|h3
      · have hN:=h.wn v hx
        rw[sft_gen l (h.rk' rk) hA (fun d y hy=>hu2 y (.inr ⟨d,hy⟩)) n (Nat.le_refl n) v (by rw[Nat.sub_self];exact hN)]
        have:=sft_in l (h.rk' rk) n (Nat.le_refl n) v (by rw[Nat.sub_self];exact hN)
        rw[hs]at this
        rw[top _ this];exact hA.e
      · exact hu2 v (.inl h3)
    · exact hu2 v (.inr hv)
omit top in
theorem Inv.add (h:Inv n o N m rd us t W) {x:V} {W':V→Prop} (hx:W x) {d:Nat} {r y:V} (hs:sft rd t n n x=(d,r)) (hd:d<n) (hy:N d y) (hy1:y d=1) (hcy:Cy (N 0) m r y)
    (h1:∀v,W v→v=x∨W' v) (hr:W' r) (hp:W' (rep m y (o d).toNat)) (hc:∀e z,e≠d→t e=some z→∃c,W' c∧Cm m y z c)
    (h2:∀v,W' v→W v∨v=r∨v=rep m y (o d).toNat∨∃e z,t e=some z∧Cm m y z v∧N 0 v):Inv n o N m rd us (fun k=>if k=d then some y else t k) W':=by
  have hxN:=h.wn x hx
  have g:=l.g 0
  have hy0:=l.le (Nat.zero_le d) hy
  have htd:t d=none:=by
    have:=sft_stop (rd:=rd) (t:=t) n (Nat.le_refl n) x
    rw[hs]at this
    rcases this with q|q
    · dsimp only at q;omega
    · exact q.2.2.1
  have hrN:N d r:=by
    have:=sft_in l (h.rk' rk) n (Nat.le_refl n) x (by rw[Nat.sub_self];exact hxN)
    rwa [hs]at this
  have hle:∀e z,t e=some z→(if e=d then some y else t e)=some z:=fun e z he=>by
    rw[if_neg (fun q=>by rw[q,htd]at he;cases he)];exact he
  have hskip:sft rd (fun k=>if k=d then some y else t k) n n r=sft rd (fun k=>if k=d then some y else t k) n (n-d) r:=by
    have:=sft_skip (rd:=rd) (t:=fun k=>if k=d then some y else t k) (x:=r) (n:=n) d (n-d) (by omega) (fun j _ q=>l.nz (l.le (by omega) hrN))
    rwa [show n-d+d=n by omega]at this
  have pd:∀z,Pd rd t n W z→Pd rd (fun k=>if k=d then some y else t k) n W' z:=by
    rintro z (hz|⟨q,q1,q2⟩)
    · left
      rw[sft_on hle n (Nat.le_refl n) z,hz,Nat.sub_self,sft]
    · right
      rcases h1 q q1 with rfl|q3
      · exact⟨r,hr,by rw[sft_on hle n (Nat.le_refl n) z,q2,hs,hskip]⟩
      · exact⟨q,q3,by rw[sft_on hle n (Nat.le_refl n) z,sft_on hle n (Nat.le_refl n) q,q2]⟩
  have hin:∀A,Sbg (N 0) m A→(∀e z,t e=some z→A z)→(A x↔A r):=fun A hA ht=>by
    have:=sft_gen l (h.rk' rk) hA ht n (Nat.le_refl n) x (by rw[Nat.sub_self];exact hxN)
    rwa [hs]at this
  have hrG:Gen (N 0) m us r:=fun A hA hu=>(hin A hA (fun e z he=>h.g1 e z he A hA hu)).1 (h.g2 x hx A hA hu)
  have hyG:Gen (N 0) m us y:=fun A hA hu=>hcy A hA (hrG A hA hu)
  have hr0:=l.le (Nat.zero_le d) hrN
  refine⟨fun e z he=> ?_,fun v hv=> ?_,fun e f z w he hf hef=> ?_,fun e z he=> ?_,fun e z he=> ?_,fun v hv=> ?_,fun u hu A hA hu2=> ?_⟩
  · split at he
    · rename_i q;cases he;subst q;exact⟨hd,hy,hy1⟩
    · exact h.tb e z he
  · rcases h2 v hv with q|q|q|⟨_,_,_,_,q⟩
    · exact h.wn v q
    · rw[q];exact hr0
    · rw[q];exact g.rep hy0 _
    · exact q
  · split at he
    · rename_i q;cases he;subst q
      rw[if_neg (by omega)]at hf
      obtain⟨c,c1,c2⟩:=hc f w (by omega) hf
      have cN:N 0 c:=by
        rcases h2 c c1 with q|q|q|⟨_,_,_,_,q⟩
        · exact h.wn c q
        · rw[q];exact hr0
        · rw[q];exact g.rep hy0 _
        · exact q
      exact⟨c,cN,c2,.inr ⟨c,c1,rfl⟩⟩
    · rename_i q
      split at hf
      · rename_i q2;cases hf;subst q2
        obtain⟨c,c1,c2⟩:=hc e z q he
        have cN:N 0 c:=by
          rcases h2 c c1 with q|q|q|⟨_,_,_,_,q⟩
          · exact h.wn c q
          · rw[q];exact hr0
          · rw[q];exact g.rep hy0 _
          · exact q
        exact⟨c,cN,c2.sy,.inr ⟨c,c1,rfl⟩⟩
      · obtain⟨c,c1,c2,c3⟩:=h.pc e f z w he hf hef
        exact⟨c,c1,c2,pd _ c3⟩
  · split at he
    · rename_i q;cases he;subst q
      exact .inr ⟨_,hp,rfl⟩
    · exact pd _ (h.pp e z he)
  · split at he
    · cases he;exact hyG
    · exact h.g1 e z he
  · rcases h2 v hv with q|q|q|⟨e,z,q1,q2,q3⟩
    · exact h.g2 v q
    · rw[q];exact hrG
    · rw[q];exact fun A hA hu=>hA.rep (hyG A hA hu) _
    · exact fun A hA hu=>q2.mem g hA (hyG A hA hu) (h.g1 e z q1 A hA hu) q3
  · refine h.g3 u hu A hA (fun v hv=> ?_)
    have ht:∀e z,t e=some z→A z:=fun e z he=>hu2 z (.inr ⟨e,hle e z he⟩)
    rcases hv with hv|⟨e,he⟩
    · rcases h1 v hv with rfl|h3
      · exact(hin A hA ht).2 (hu2 r (.inl hr))
      · exact hu2 v (.inl h3)
    · exact ht e v he
omit l rk top in
theorem Inv.start {W:V→Prop} (h:∀v,W v→N 0 v):Inv n o N m rd W (fun _=>none) W:=
  ⟨fun d y q=>(by cases q),h,fun d e y z q=>(by cases q),fun d y q=>(by cases q),fun d y q=>(by cases q),fun v hv A hA hu=>hu v hv,fun u hu A hA hu2=>hu2 u (.inl hu)⟩
end
end Go.Proofs.YtnlfbimjcabgiaaGreat
