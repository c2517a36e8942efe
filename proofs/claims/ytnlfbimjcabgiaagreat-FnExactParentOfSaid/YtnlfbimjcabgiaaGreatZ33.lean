import Derived.Test.YtnlfbimjcabgiaaGreatZ31
import Derived.Test.YtnlfbimjcabgiaaGreatZ32
set_option linter.unusedVariables false
set_option linter.unusedSimpArgs false
namespace Go.Proofs.YtnlfbimjcabgiaaGreat
section
variable {P:Pc} (hv:Val P) (hc:Con P 0)
include hv hc
theorem M_at {e:Nat} (he:e<P.n) {x u:V} (hx:T P 0 x) (hu:T P e u):(∀k,k<e→M P 0 x u k=x k)∧M P 0 x u e=(x e+u e)%P.o e:=by
  have h:=M_tail hv e (l:=0) hx (u:=u) (by rw[Nat.zero_add];exact hu)
  rw[Nat.zero_add]at h
  have ht:T P e (tl e x):=tl_T hv hx e
  refine⟨fun k hk=>by rw[h];simp only[if_pos hk],?_⟩
  have h2:M P 0 x u e=M P e (tl e x) u e:=by rw[h];simp only[Nat.lt_irrefl,if_false]
  have h3:M P e (tl e x) u=M P 0 (tl e x) u:=(M_sub hv (Nat.zero_le e) ht hu).symm
  have h4:tl e x e=x e:=by unfold tl;rw[if_neg (by omega)]
  rw[h2,h3,(lvl hv hc).lead he ht hu,h4]
theorem canon_uniq {S:V→Prop} (hS:Sbg (T P 0) (M P 0) S) {d:Nat} {z z':V} (h1:S z) (h2:S z') (z1:T P d z) (z2:T P d z') (hd:d<P.n) (h0:z d=z' d)
    (hz:∀e,d<e→e<P.n→(∃x,S x∧T P e x∧x e≠0)→z e=0∧z' e=0):z=z':=by
  have l:=lvl hv hc
  have g:=l.g 0
  have n1:=hS.n h1
  have n2:=hS.n h2
  obtain⟨w,w1,w2,w3⟩:=g.iv n1
  have hw:S w:=hS.iv h1 w1 w3
  have hs:S (M P 0 w z'):=hS.mu hw h2
  have hzs:M P 0 z (M P 0 w z')=z':=by rw[←g.ac n1 w1 n2,w3,g.l1 n2]
  have hwd:T P d w:=(l.sbg d).iv z1 w1 w3
  have key:∀k,d+k≤P.n→T P (d+k) (M P 0 w z'):=by
    intro k
    induction k with
    |zero=>intro _;exact(l.g d).cl hwd z2
    | succ k ih=>
      intro hk
      have hT:=ih (by omega)
      refine l.up hT ?_
      have he:d+k<P.n:=by omega
      obtain⟨_,a2⟩:=M_at hv hc he n1 hT
      rw[hzs]at a2
      have hr:=hT.r (d+k) (Nat.le_refl _) he
      have ho:=l.op he
      apply Classical.byContradiction
      intro hne
      rcases Nat.eq_zero_or_pos k with rfl|hk0
      · have q1:=z1.r d (Nat.le_refl _) hd
        have q2:=z2.r d (Nat.le_refl _) hd
        have hne:¬M P 0 w z' d=0:=hne
        rw[Nat.add_zero]at a2 hr
        rw[h0]at a2
        have q3:(z' d+M P 0 w z' d)%P.o d=z' d%P.o d:=by rw[←a2,Int.emod_eq_of_lt q2.1 q2.2]
        have q4:=Int.emod_eq_emod_iff_emod_sub_eq_zero.1 q3
        rw[show z' d+M P 0 w z' d-z' d=M P 0 w z' d by omega,Int.emod_eq_of_lt hr.1 hr.2]at q4
        exact hne q4
      · obtain⟨b1,b2⟩:=hz (d+k) (by omega) he ⟨_,hs,hT,hne⟩
        rw[b1,b2,Int.zero_add,Int.emod_eq_of_lt hr.1 hr.2]at a2
        exact hne a2.symm
  have hz0:M P 0 w z'=z0:=(key (P.n-d) (by omega)).ge (by omega)
  rw[hz0,g.r1 n1]at hzs
  exact hzs
end
theorem Cy.rep {N:V→Prop} {m:V→V→V} (y:V) (k:Nat):Cy N m y (Go.Proofs.YtnlfbimjcabgiaaGreat.rep m y k):=fun A hA hy=>hA.rep hy k
theorem Cy.irep {N:V→Prop} {m:V→V→V} {y w:V} (hw:N w) (h:m y w=z0) (k:Nat):Cy N m y (Go.Proofs.YtnlfbimjcabgiaaGreat.rep m w k):=fun A hA hy=>hA.rep (hA.iv hy hw h) k
noncomputable def rdI (P:Pc) (d:Nat) (y x:V):V:=M P 0 (rep (M P 0) y (P.o d-x d).toNat) x
theorem rdI_rk {P:Pc} (hv:Val P) (hc:Con P 0):∀d y x,d<P.n→T P d y→y d=1→T P d x→Sm (T P 0) (M P 0) y x (rdI P d y x)∧T P (d+1) (rdI P d y x):=by
  intro d y x hd hy h1 hx
  have l:=lvl hv hc
  have hr:=hx.r d (Nat.le_refl _) hd
  have hu:=(l.g d).rep hy (P.o d-x d).toNat
  refine⟨Sm.left (l.g 0) (l.le (Nat.zero_le d) hx) (Cy.rep y _),?_⟩
  refine l.up ((l.g d).cl hu hx) ?_
  show M P 0 (rep (M P 0) y (P.o d-x d).toNat) x d=0
  rw[l.lead hd hu hx,l.rep_lead hd hy h1,Int.toNat_of_nonneg (by omega),Int.emod_add_emod,show P.o d-x d+x d=P.o d by omega,Int.emod_self]
end Go.Proofs.YtnlfbimjcabgiaaGreat
namespace Go.Proofs.YtnlfbimjcabgiaaGreat
noncomputable def rdn (rd:Nat→V→V→V) (dn:Nat→Option V):Nat→Nat→V→V
  |0,_,x=>x
  | f+1,e,x=>rdn rd dn f (e+1) (match dn e with
    |none=>x
    |some w=>if x e=0 then x else rd e w x)
section
variable {P:Pc} (hv:Val P) (hc:Con P 0) {rd:Nat→V→V→V}
  (rk:∀e w x,e<P.n→T P e w→w e=1→T P 0 x→∃u,Cy (T P 0) (M P 0) w u∧T P e u∧rd e w x=M P 0 x u∧(x e+u e)%P.o e=0)
include hv hc rk
theorem rdn_ok {S:V→Prop} (hS:Sbg (T P 0) (M P 0) S) {dn:Nat→Option V} (hd:∀e w,dn e=some w→e<P.n∧S w∧T P e w∧w e=1):
    ∀f e x,e+f≤P.n→S x→S (rdn rd dn f e x)∧(∀k,k<e→rdn rd dn f e x k=x k)∧∀k,e≤k→k<e+f→dn k≠none→rdn rd dn f e x k=0:=by
  intro f
  induction f with
  |zero=>intro e x _ hx;exact⟨hx,fun _ _=>rfl,fun k h1 h2=>by omega⟩
  | succ f ih=>
    intro e x he hx
    rw[rdn]
    have step:∃x',(match dn e with
        |none=>x
        |some w=>if x e=0 then x else rd e w x)=x'∧S x'∧(∀k,k<e→x' k=x k)∧(dn e≠none→x' e=0):=by
      cases hw:dn e with
      |none=>exact⟨x,rfl,hx,fun _ _=>rfl,fun h=>absurd rfl h⟩
      | some w=>
        obtain⟨w0,w1,w2,w3⟩:=hd e w hw
        by_cases h0:x e=0
        · exact⟨x,by dsimp only;rw[if_pos h0],hx,fun _ _=>rfl,fun _=>h0⟩
        · obtain⟨u,u1,u2,u3,u4⟩:=rk e w x w0 w2 w3 (hS.n hx)
          obtain⟨a1,a2⟩:=M_at hv hc w0 (hS.n hx) u2
          exact⟨M P 0 x u,by dsimp only;rw[if_neg h0,u3],hS.mu hx (u1 S hS w1),a1,fun _=>by rw[a2,u4]⟩
    obtain⟨x',e1,s1,s2,s3⟩:=step
    rw[e1]
    obtain⟨i1,i2,i3⟩:=ih (e+1) x' (by omega) s1
    refine⟨i1,fun k hk=>by rw[i2 k (by omega),s2 k hk],fun k h1 h2 h3=> ?_⟩
    by_cases q:k=e
    · subst q;rw[i2 k (by omega)];exact s3 h3
    · exact i3 k (by omega) (by omega) h3
end
structure Can2 (P:Pc) (S:V→Prop) (dn:Nat→Option V):Prop where
  el:∀d z,dn d=some z→d<P.n∧S z∧T P d z∧z d=1∧∀e,d<e→e<P.n→(∃x,S x∧T P e x∧x e≠0)→z e=0
  no:∀d,d<P.n→dn d=none→¬∃x,S x∧T P d x∧x d≠0
theorem Can2.uniq {P:Pc} (hv:Val P) (hc:Con P 0) {S:V→Prop} (hS:Sbg (T P 0) (M P 0) S) {dn dn':Nat→Option V} (h:Can2 P S dn) (h':Can2 P S dn') {d:Nat} (hd:d<P.n):dn d=dn' d:=by
  cases h1:dn d with
  | none=>
    cases h2:dn' d with
    |none=>rfl
    | some z=>
      obtain⟨_,a1,a2,a3,_⟩:=h'.el d z h2
      exact absurd ⟨z,a1,a2,by rw[a3];omega⟩ (h.no d hd h1)
  | some z=>
    obtain⟨_,a1,a2,a3,a4⟩:=h.el d z h1
    cases h2:dn' d with
    |none=>exact absurd ⟨z,a1,a2,by rw[a3];omega⟩ (h'.no d hd h2)
    | some z'=>
      obtain⟨_,b1,b2,b3,b4⟩:=h'.el d z' h2
      rw[canon_uniq hv hc hS a1 b1 a2 b2 hd (by rw[a3,b3]) (fun e q1 q2 q3=>⟨a4 e q1 q2 q3,b4 e q1 q2 q3⟩)]
end Go.Proofs.YtnlfbimjcabgiaaGreat
namespace Go.Proofs.YtnlfbimjcabgiaaGreat
noncomputable def dnG (rd:Nat→V→V→V) (t:Nat→Option V) (n:Nat):Nat→Nat→Option V
  |0=>fun _=>none
  | j+1=>match t (n-1-j)with
    |none=>dnG rd t n j
    |some y=>fun k=>if k=n-1-j then some (rdn rd (dnG rd t n j) j (n-j) y)else dnG rd t n j k
section
variable {P:Pc} (hv:Val P) (hc:Con P 0) {rd:Nat→V→V→V}
  (rk:∀e w x,e<P.n→T P e w→w e=1→T P 0 x→∃u,Cy (T P 0) (M P 0) w u∧T P e u∧rd e w x=M P 0 x u∧(x e+u e)%P.o e=0)
include hv hc rk
theorem dnG_ok {S:V→Prop} (hS:Sbg (T P 0) (M P 0) S) {t:Nat→Option V} (ht:∀d y,t d=some y→d<P.n∧S y∧T P d y∧y d=1):∀j,j≤P.n→
    (∀d z,dnG rd t P.n j d=some z→P.n-j≤d∧d<P.n∧S z∧T P d z∧z d=1∧∀e,d<e→e<P.n→t e≠none→z e=0)∧∀d,P.n-j≤d→d<P.n→(dnG rd t P.n j d=none↔t d=none):=by
  intro j
  induction j with
  |zero=>intro _;exact⟨fun d z h=>(by cases h),fun d h1 h2=>by omega⟩
  | succ j ih=>
    intro hj
    obtain⟨i1,i2⟩:=ih (by omega)
    have eqn:P.n-1-j=P.n-(j+1):=by omega
    cases hy:t (P.n-1-j)with
    | none=>
      have e1:dnG rd t P.n (j+1)=dnG rd t P.n j:=by rw[dnG,hy]
      rw[e1]
      refine⟨fun d z h=> ?_,fun d h1 h2=> ?_⟩
      · obtain⟨a1,a2,a3⟩:=i1 d z h
        exact⟨by omega,a2,a3⟩
      · by_cases q:d=P.n-1-j
        · subst q
          rw[hy]
          refine⟨fun _=>rfl,fun _=> ?_⟩
          cases hq:dnG rd t P.n j (P.n-1-j)with
          |none=>rfl
          |some z=>have:=(i1 _ z hq).1;omega
        · exact i2 d (by omega) h2
    | some y=>
      have e1:dnG rd t P.n (j+1)=fun k=>if k=P.n-1-j then some (rdn rd (dnG rd t P.n j) j (P.n-j) y)else dnG rd t P.n j k:=by rw[dnG,hy]
      rw[e1]
      obtain⟨y0,y1,y2,y3⟩:=ht _ y hy
      obtain⟨r1,r2,r3⟩:=rdn_ok hv hc rk hS (dn:=dnG rd t P.n j) (fun e w he=>by
        obtain⟨a1,a2,a3,a4,a5,_⟩:=i1 e w he
        exact⟨a2,a3,a4,a5⟩) j (P.n-j) y (by omega) y1
      refine⟨fun d z h=> ?_,fun d h1 h2=> ?_⟩
      · dsimp only at h
        split at h
        · rename_i q
          cases h
          have hT:=hS.n r1
          refine⟨by omega,by omega,r1,⟨fun k hk=> ?_,fun k _ h3=>hT.r k (Nat.zero_le k) h3,hT.t⟩,?_,fun e h3 h4 h5=> ?_⟩
          · rw[r2 k (by omega)];exact y2.z k (by omega)
          · rw[r2 d (by omega),q];exact y3
          · refine r3 e (by omega) (by omega) (fun h6=>h5 ((i2 e (by omega) h4).1 h6))
        · obtain⟨a1,a2,a3⟩:=i1 d z h
          exact⟨by omega,a2,a3⟩
      · dsimp only
        by_cases q:d=P.n-1-j
        · rw[if_pos q,q,hy]
          exact⟨fun h=>(by cases h),fun h=>(by cases h)⟩
        · rw[if_neg q];exact i2 d (by omega) h2
theorem dnG_can {m:V→V→V} (l:Lvl P.n P.o (T P) m) {t:Nat→Option V} (c:Tbl P.n P.o (T P) m t) (hS:Sbg (T P 0) (M P 0) (Sg (T P 0) m t P.n P.n)):Can2 P (Sg (T P 0) m t P.n P.n) (dnG rd t P.n P.n):=by
  obtain⟨h1,h2⟩:=dnG_ok hv hc rk hS (t:=t) (fun d y hy=>by
    obtain⟨a1,a2,a3⟩:=c.tb d y hy
    have:=c.down l (Nat.zero_le d) (by omega) (c.mem l hy)
    rw[Nat.sub_zero]at this
    exact⟨a1,this,a2,a3⟩) P.n (Nat.le_refl _)
  refine⟨fun d z h=> ?_,fun d hd h=> ?_⟩
  · obtain⟨_,a2,a3,a4,a5,a6⟩:=h1 d z h
    exact⟨a2,a3,a4,a5,fun e q1 q2 q3=>a6 e q1 q2 ((c.depth l q2).2 q3)⟩
  · rw[←c.depth l hd]
    exact fun q=>q ((h2 d (by omega) hd).1 h)
end
end Go.Proofs.YtnlfbimjcabgiaaGreat
namespace Go.Proofs.YtnlfbimjcabgiaaGreat
noncomputable def rdS (P:Pc) (d:Nat) (y x:V):V:=M P 0 x (pwV P y (0-x d))
section
variable {P:Pc} (hv:Val P) (hc:Con P 0)
theorem strF_sft {t:Nat→Option V}:∀f d x,d+f=P.n→strF P t f d x=sft (rdS P) t P.n f x:=by
  intro f
  induction f with
  |zero=>intro d x hd;rw[strF,sft,show d=P.n by omega]
  | succ f ih=>
    intro d x hd
    have e:P.n-(f+1)=d:=by omega
    rw[strF,sft,e]
    split
    · exact ih _ _ (by omega)
    · cases t d with
      |none=>rfl
      |some y=>exact ih _ _ (by omega)
theorem T_top:∀x,T P P.n x→x=z0:=fun x hx=>hx.ge (Nat.le_refl _)
theorem comL_mem {t:Nat→Option V} {d:Nat} {y:V}:∀k v,v∈comL P t d y k↔∃e z,e<k∧e≠d∧t e=some z∧v=cmV P y z:=by
  intro k
  induction k with
  |zero=>intro v;rw[comL];exact⟨fun h=>(by cases h),fun ⟨e,z,h,_⟩=>(by omega)⟩
  | succ k ih=>
    intro v
    rw[comL]
    split
    · rename_i hk
      rw[ih v]
      constructor
      · rintro⟨e,z,h1,h2,h3,h4⟩;exact⟨e,z,by omega,h2,h3,h4⟩
      · rintro⟨e,z,h1,h2,h3,h4⟩
        refine⟨e,z,?_,h2,h3,h4⟩
        rcases Nat.lt_or_ge e k with q|q
        · exact q
        · rw[show e=k by omega,hk]at h3;cases h3
    · rename_i w hk
      split
      · rename_i q0
        rw[ih v]
        constructor
        · rintro⟨e,z,h1,h2,h3,h4⟩;exact⟨e,z,by omega,h2,h3,h4⟩
        · rintro⟨e,z,h1,h2,h3,h4⟩;exact⟨e,z,by omega,h2,h3,h4⟩
      · rename_i q0
        rw[List.mem_append,ih v,List.mem_singleton]
        constructor
        · rintro(⟨e,z,h1,h2,h3,h4⟩|h)
          · exact⟨e,z,by omega,h2,h3,h4⟩
          · exact⟨k,w,by omega,q0,hk,h⟩
        · rintro⟨e,z,h1,h2,h3,h4⟩
          rcases Nat.lt_or_ge e k with q|q
          · exact .inl ⟨e,z,q,h2,h3,h4⟩
          · obtain rfl:e=k:=by omega
            rw[hk]at h3;cases h3
            exact .inr h4
include hv hc
theorem Cy.pw {y:V} (hy:T P 0 y) (k:Int):Cy (T P 0) (M P 0) y (pwV P y k):=by
  have hg:=con_grp hv hc
  unfold pwV
  split
  · exact Cy.irep (inv_T hg hy).1 (inv_T hg hy).2 _
  · exact Cy.rep y _
theorem rdS_rk:∀d y x,d<P.n→T P d y→y d=1→T P d x→Sm (T P 0) (M P 0) y x (rdS P d y x)∧T P (d+1) (rdS P d y x):=
  fun d y x hd hy h1 hx=>⟨Sm.right (con_grp hv hc) (hx.mono hv (Nat.zero_le d)) (Cy.pw hv hc (hy.mono hv (Nat.zero_le d)) _),down_lead hv hc hd hx hy h1⟩
theorem cmV_Cm {y z:V} (hy:T P 0 y) (hz:T P 0 z):Cm (M P 0) y z (cmV P y z):=by
  have g:=con_grp hv hc
  left
  obtain⟨h1,h2⟩:=inv_T g (g.cl hz hy)
  unfold cmV
  rw[←g.ac (g.cl hz hy) h1 (g.cl hy hz),h2,g.l1 (g.cl hy hz)]
variable (hp:∀d,d<P.n→pr4 (P.o d)) {us:V→Prop}
include hp
theorem clR_inv {t:Nat→Option V} {w:List V} {x:V} (hG:tbG P t) (h:Inv P.n P.o (T P) (M P 0) (rdS P) us t (fun v=>v∈w++[x])):
    Inv P.n P.o (T P) (M P 0) (rdS P) us (clR P t w (strF P t P.n 0 x)).1 (fun v=>v∈(clR P t w (strF P t P.n 0 x)).2):=by
  have l:=lvl hv hc
  have hx0:x∈w++[x]:=List.mem_append.2 (.inr (List.mem_singleton.2 rfl))
  have hx:T P 0 x:=h.wn x hx0
  obtain⟨i1,i2,i3,i4⟩:=str_sp hv hc hG P.n 0 x (by omega) hx
  have hsf:=strF_sft (P:=P) (t:=t) P.n 0 x (by omega)
  obtain⟨s,hs⟩:∃s,strF P t P.n 0 x=s:=⟨_,rfl⟩
  rw[hs]at i1 i2 i3 i4 hsf ⊢
  unfold clR
  split
  · rename_i h1
    refine h.drop l T_top (rdS_rk hv hc) hx0 (by rw[←hsf];exact h1) (fun v hw=> ?_) (fun v hw=>List.mem_append.2 (.inl hw))
    rcases List.mem_append.1 hw with q|q
    · exact .inr q
    · exact .inl (List.mem_singleton.1 q)
  · rename_i hne
    have hd:s.1<P.n:=by omega
    obtain⟨j1,j2⟩:=i4 hd
    obtain⟨y1,y2⟩:=clY_sp hv hc hp hd i3 j2
    have hy0:=y1.mono hv (Nat.zero_le _)
    have hs0:=i3.mono hv (Nat.zero_le _)
    have ho:=l.op hd
    have hpw:pwV P (clY P s) (P.o s.1)=rep (M P 0) (clY P s) (P.o s.1).toNat:=by unfold pwV;rw[if_neg (by omega)]
    have hos:∀e,e≠s.1→oset t s.1 (clY P s) e=t e:=fun e he=>by unfold oset;rw[if_neg he]
    dsimp only
    rw[hpw]
    refine Inv.add l (rdS_rk hv hc) h hx0 (d:=s.1) (r:=s.2) (y:=clY P s) (by rw[←hsf]) hd y1 y2 (Cy.pw hv hc hs0 _) (fun v hw=> ?_) ?_ ?_ (fun e z h1 h2=> ?_) (fun v hw=> ?_)
    · rcases List.mem_append.1 hw with q|q
      · exact .inr (by simp[q])
      · exact .inl (List.mem_singleton.1 q)
    · simp
    · simp
    · refine⟨cmV P (clY P s) z,?_,cmV_Cm hv hc hy0 ((hG e z h2).2.1.mono hv (Nat.zero_le _))⟩
      refine List.mem_append.2 (.inr ((comL_mem _ _).2 ⟨e,z,(hG e z h2).1,h1,by rw[hos e h1];exact h2,rfl⟩))
    · rcases List.mem_append.1 hw with q|q
      · rcases List.mem_append.1 q with q|q
        · rcases List.mem_append.1 q with q|q
          · exact .inl (List.mem_append.2 (.inl q))
          · exact .inr (.inl (List.mem_singleton.1 q))
        · exact .inr (.inr (.inl (List.mem_singleton.1 q)))
      · obtain⟨e,z,e1,e2,e3,rfl⟩:=(comL_mem _ _).1 q
        rw[hos e e2]at e3
        have hz:=(hG e z e3).2.1.mono hv (Nat.zero_le _)
        exact .inr (.inr (.inr ⟨e,z,e3,cmV_Cm hv hc hy0 hz,cmV_T hv hc hy0 hz⟩))
theorem cloF_inv:∀(f:Nat) (t:Nat→Option V) (w:List V),tbG P t→Inv P.n P.o (T P) (M P 0) (rdS P) us t (fun v=>v∈w)→clM P t w≤f→
    Inv P.n P.o (T P) (M P 0) (rdS P) us (cloF P f t w) (fun _=>False):=by
  have nl:∀(t:Nat→Option V) (w:List V),w.length=0→Inv P.n P.o (T P) (M P 0) (rdS P) us t (fun v=>v∈w)→Inv P.n P.o (T P) (M P 0) (rdS P) us t (fun _=>False):=by
    intro t w hw h
    have e:w=[]:=List.eq_nil_of_length_eq_zero hw
    subst e
    have e2:(fun v:V=>v∈([]:List V))=fun _=>False:=by funext v;simp
    rw[e2]at h
    exact h
  intro f
  induction f with
  | zero=>
    intro t w hG h hM
    rw[cloF]
    refine nl t w ?_ h
    unfold clM at hM;omega
  | succ f ih=>
    intro t w hG h hM
    rw[cloF]
    split
    · rename_i hw;exact nl t w hw h
    · rename_i hw
      have hwe:w=w.take (w.length-1)++[w.getD (w.length-1) z0]:=by
        have h1:=List.take_succ_eq_append_getElem (l:=w) (i:=w.length-1) (by omega)
        rw[show w.length-1+1=w.length by omega,List.take_length]at h1
        rw[List.getD_eq_getElem?_getD,List.getElem?_eq_getElem (show w.length-1<w.length by omega)]
        exact h1
      have hxT:T P 0 (w.getD (w.length-1) z0):=h.wn _ (by rw[List.getD_eq_getElem?_getD,List.getElem?_eq_getElem (show w.length-1<w.length by omega)];exact List.getElem_mem _)
      have hdec:=clM_dec hv hc hG hw hxT
      obtain⟨x,hx⟩:∃x,w.getD (w.length-1) z0=x:=⟨_,rfl⟩
      obtain⟨v,hvv⟩:∃v,w.take (w.length-1)=v:=⟨_,rfl⟩
      unfold clS at hdec ⊢
      rw[hx]at hdec hxT ⊢
      rw[hvv]at hdec ⊢
      rw[hx,hvv]at hwe
      rw[hwe]at h
      have hi:=clR_inv hv hc hp hG h
      refine ih _ _ (clR_G hv hc hp hG (w:=v) (fun z hz=>h.wn z (List.mem_append.2 (.inl hz))) hxT).1 hi (by omega)
noncomputable def tbS (P:Pc) (us:List V):Nat→Option V:=cloF P (clM P (fun _=>none) us) (fun _=>none) us
theorem tbS_tbl {us:List V} (hu:∀x∈us,T P 0 x):Tbl P.n P.o (T P) (M P 0) (tbS P us)∧∀x,Sg (T P 0) (M P 0) (tbS P us) P.n P.n x↔Gen (T P 0) (M P 0) (fun v=>v∈us) x:=
  (cloF_inv hv hc hp _ _ us (fun d y h=>by cases h) (Inv.start (W:=fun v=>v∈us) hu) (Nat.le_refl _)).fin (lvl hv hc) T_top (rdS_rk hv hc)
omit hp in
theorem rdS_rk2:∀e w x,e<P.n→T P e w→w e=1→T P 0 x→∃u,Cy (T P 0) (M P 0) w u∧T P e u∧rdS P e w x=M P 0 x u∧(x e+u e)%P.o e=0:=by
  intro e w x he hw h1 hx
  obtain⟨p1,p2⟩:=pw_lead hv hc he hw (0-x e)
  refine⟨pwV P w (0-x e),Cy.pw hv hc (hw.mono hv (Nat.zero_le e)) _,p1,rfl,?_⟩
  rw[p2,h1,Int.mul_one,Int.add_emod_emod,show x e+(0-x e)=0 by omega,Int.zero_emod]
omit hv hc hp in
theorem redF_rdn {dn:Nat→Option V}:∀f e x,redF P dn f e x=rdn (rdS P) dn f e x:=by
  intro f
  induction f with
  |zero=>intro e x;rfl
  |succ f ih=>intro e x;rw[redF,rdn,ih];rfl
omit hv hc hp in
theorem dnS_dnG {n:Nat} {t:Nat→Option V}:∀j,dnS P n t j=dnG (rdS P) t n j:=by
  intro j
  induction j with
  |zero=>rfl
  | succ j ih=>
    rw[dnS,dnG,ih]
    cases t (n-1-j)with
    |none=>rfl
    |some y=>dsimp only;rw[redF_rdn];rfl
theorem dnS_can {us:List V} (hu:∀x∈us,T P 0 x):Can2 P (Gen (T P 0) (M P 0) (fun v=>v∈us)) (dnS P P.n (tbS P us) P.n):=by
  obtain⟨c,hs⟩:=tbS_tbl hv hc hp hu
  have l:=lvl hv hc
  have e:Sg (T P 0) (M P 0) (tbS P us) P.n P.n=Gen (T P 0) (M P 0) (fun v=>v∈us):=funext fun x=>propext (hs x)
  have h:=dnG_can hv hc (rdS_rk2 hv hc) l c (c.sub l (Nat.le_refl _))
  rw[e,←dnS_dnG]at h
  exact h
end
theorem outS_congr {dn dn':Nat→Option V} {k:Nat} (h:∀d,d<k→dn d=dn' d):outS dn k=outS dn' k:=by
  induction k with
  |zero=>rfl
  | succ k ih=>
    have ih:=ih (fun d hd=>h d (by omega))
    cases hk:dn k with
    |none=>rw[outS_none hk,outS_none (by rw[←h k (by omega)];exact hk)];exact ih
    |some y=>rw[outS_some hk,outS_some (y:=y) (by rw[←h k (by omega)];exact hk),ih]
end Go.Proofs.YtnlfbimjcabgiaaGreat
namespace Go.Proofs.YtnlfbimjcabgiaaGreat
noncomputable def cmI (P:Pc) (z y:V):V:=M P 0 (inv P 0 z) (M P 0 (inv P 0 y) (M P 0 z y))
noncomputable def comI (P:Pc) (t:Nat→Option V) (y:V):Nat→List V
  |0=>[]
  | e+1=>match t e with
    |none=>comI P t y e
    |some z=>comI P t y e++[cmI P z y]
noncomputable def siS (P:Pc) (t:Nat→Option V) (x:V):Nat×V:=sft (rdI P) t P.n P.n x
noncomputable def adR (P:Pc) (t:Nat→Option V) (q:List V) (s:Nat×V):(Nat→Option V)×List V:=
  if s.1=P.n then (t,q)else (oset t s.1 (clY P s),q++[s.2]++[pwV P (clY P s) (P.o s.1)]++comI P t (clY P s) P.n)
noncomputable def adF (P:Pc):Nat→(Nat→Option V)→List V→Nat→Option V
  |0,t,_=>t
  |f+1,t,w=>if w.length=0 then t else adF P f (adR P t (w.drop 1) (siS P t (w.getD 0 z0))).1 (adR P t (w.drop 1) (siS P t (w.getD 0 z0))).2
section
variable {P:Pc} (hv:Val P) (hc:Con P 0)
theorem comI_len {t:Nat→Option V} {y:V}:∀e,(comI P t y e).length≤e:=by
  intro e
  induction e with
  |zero=>exact Nat.le_refl _
  | succ e ih=>
    rw[comI]
    split
    · omega
    · rw[List.length_append];simp;omega
theorem comI_mem {t:Nat→Option V} {y:V}:∀k v,v∈comI P t y k↔∃e z,e<k∧t e=some z∧v=cmI P z y:=by
  intro k
  induction k with
  |zero=>intro v;rw[comI];exact⟨fun h=>(by cases h),fun ⟨e,z,h,_⟩=>(by omega)⟩
  | succ k ih=>
    intro v
    rw[comI]
    split
    · rename_i hk
      rw[ih v]
      constructor
      · rintro⟨e,z,h1,h3,h4⟩;exact⟨e,z,by omega,h3,h4⟩
      · rintro⟨e,z,h1,h3,h4⟩
        refine⟨e,z,?_,h3,h4⟩
        rcases Nat.lt_or_ge e k with q|q
        · exact q
        · rw[show e=k by omega,hk]at h3;cases h3
    · rename_i w hk
      rw[List.mem_append,ih v,List.mem_singleton]
      constructor
      · rintro(⟨e,z,h1,h3,h4⟩|h)
        · exact⟨e,z,by omega,h3,h4⟩
        · exact⟨k,w,by omega,hk,h⟩
      · rintro⟨e,z,h1,h3,h4⟩
        rcases Nat.lt_or_ge e k with q|q
        · exact .inl ⟨e,z,q,h3,h4⟩
        · obtain rfl:e=k:=by omega
          rw[hk]at h3;cases h3
          exact .inr h4
include hv hc
theorem cmI_T {y z:V} (hy:T P 0 y) (hz:T P 0 z):T P 0 (cmI P z y):=by
  have g:=con_grp hv hc
  exact g.cl (inv_T g hz).1 (g.cl (inv_T g hy).1 (g.cl hz hy))
theorem cmI_Cm {y z:V} (hy:T P 0 y) (hz:T P 0 z):Cm (M P 0) y z (cmI P z y):=by
  have g:=con_grp hv hc
  right
  obtain⟨y1,y2⟩:=inv_T g hy
  obtain⟨z1,z2⟩:=inv_T g hz
  have n1:=g.cl hz hy
  unfold cmI
  rw[g.ac hy hz (g.cl z1 (g.cl y1 n1)),←g.ac hz z1 (g.cl y1 n1),z2,g.l1 (g.cl y1 n1),←g.ac hy y1 n1,y2,g.l1 n1]
theorem siS_sp {t:Nat→Option V} (hG:tbG P t) {x:V} (hx:T P 0 x):(siS P t x).1≤P.n∧T P (siS P t x).1 (siS P t x).2∧((siS P t x).1<P.n→t (siS P t x).1=none∧(siS P t x).2 (siS P t x).1≠0):=by
  have l:=lvl hv hc
  have h1:=sft_stop (rd:=rdI P) (t:=t) P.n (Nat.le_refl _) x
  have h2:=sft_in l (t:=t) (rd:=rdI P) (fun d y x h1 h2 h3=>rdI_rk hv hc d y x h1 (hG d y h2).2.1 (hG d y h2).2.2 h3) P.n (Nat.le_refl _) x (by rw[Nat.sub_self];exact hx)
  unfold siS
  rcases h1 with h1|⟨h3,h4,h5,h6⟩
  · exact⟨by omega,h2,fun h=>by omega⟩
  · exact⟨by omega,h2,fun _=>⟨h5,h6⟩⟩
theorem adR_dec {t:Nat→Option V} (hG:tbG P t) {q:List V} {x:V} (hx:T P 0 x):clM P (adR P t q (siS P t x)).1 (adR P t q (siS P t x)).2<frN t P.n*(P.n+3)+(q.length+1):=by
  obtain⟨i2,i3,i4⟩:=siS_sp hv hc hG hx
  obtain⟨s,hs⟩:∃s,siS P t x=s:=⟨_,rfl⟩
  rw[hs]at i2 i3 i4 ⊢
  unfold clM adR
  split
  · dsimp only;omega
  · rename_i hne
    obtain⟨j1,j2⟩:=i4 (by omega)
    have h2:=(frN_set (y:=clY P s) j1 P.n).2 (by omega)
    have h3:=comI_len (P:=P) (t:=t) (y:=clY P s) P.n
    dsimp only
    rw[←h2,Nat.add_mul,Nat.one_mul]
    simp only[List.length_append,List.length_cons,List.length_nil]
    omega
variable (hp:∀d,d<P.n→pr4 (P.o d)) {us:V→Prop}
include hp
theorem adR_G {t:Nat→Option V} (hG:tbG P t) {q:List V} (hq:∀x∈q,T P 0 x) {x:V} (hx:T P 0 x):tbG P (adR P t q (siS P t x)).1∧∀z∈(adR P t q (siS P t x)).2,T P 0 z:=by
  obtain⟨i2,i3,i4⟩:=siS_sp hv hc hG hx
  obtain⟨s,hs⟩:∃s,siS P t x=s:=⟨_,rfl⟩
  rw[hs]at i2 i3 i4 ⊢
  unfold adR
  split
  · exact⟨hG,hq⟩
  · rename_i hne
    obtain⟨j1,j2⟩:=i4 (by omega)
    obtain⟨y1,y2⟩:=clY_sp hv hc hp (by omega) i3 j2
    have hy0:=y1.mono hv (Nat.zero_le _)
    refine⟨fun d z hz=> ?_,fun z hz=> ?_⟩
    · dsimp only at hz
      unfold oset at hz
      split at hz
      · rename_i e
        subst e;cases hz
        exact⟨by omega,y1,y2⟩
      · exact hG d z hz
    · dsimp only at hz
      rcases List.mem_append.1 hz with h|h
      · rcases List.mem_append.1 h with h|h
        · rcases List.mem_append.1 h with h|h
          · exact hq z h
          · rw[List.mem_singleton.1 h];exact i3.mono hv (Nat.zero_le _)
        · rw[List.mem_singleton.1 h];exact pwV_T hv hc hy0 _
      · obtain⟨e,w,_,e3,rfl⟩:=(comI_mem _ _).1 h
        exact cmI_T hv hc hy0 ((hG e w e3).2.1.mono hv (Nat.zero_le _))
theorem adR_inv {t:Nat→Option V} {q:List V} {x:V} (hG:tbG P t) (h:Inv P.n P.o (T P) (M P 0) (rdI P) us t (fun v=>v∈x::q)):
    Inv P.n P.o (T P) (M P 0) (rdI P) us (adR P t q (siS P t x)).1 (fun v=>v∈(adR P t q (siS P t x)).2):=by
  have l:=lvl hv hc
  have hx0:x∈x::q:=List.mem_cons_self
  have hx:T P 0 x:=h.wn x hx0
  obtain⟨i2,i3,i4⟩:=siS_sp hv hc hG hx
  obtain⟨s,hs⟩:∃s,siS P t x=s:=⟨_,rfl⟩
  have hsf:s=sft (rdI P) t P.n P.n x:=hs.symm
  rw[hs]at i2 i3 i4 ⊢
  unfold adR
  split
  · rename_i h1
    refine h.drop l T_top (rdI_rk hv hc) hx0 (by rw[←hsf];exact h1) (fun v hw=> ?_) (fun v hw=>List.mem_cons_of_mem _ hw)
    exact List.mem_cons.1 hw
  · rename_i hne
    have hd:s.1<P.n:=by omega
    obtain⟨j1,j2⟩:=i4 hd
    obtain⟨y1,y2⟩:=clY_sp hv hc hp hd i3 j2
    have hy0:=y1.mono hv (Nat.zero_le _)
    have hs0:=i3.mono hv (Nat.zero_le _)
    have ho:=l.op hd
    have hpw:pwV P (clY P s) (P.o s.1)=rep (M P 0) (clY P s) (P.o s.1).toNat:=by unfold pwV;rw[if_neg (by omega)]
    dsimp only
    rw[hpw]
    refine Inv.add l (rdI_rk hv hc) h hx0 (d:=s.1) (r:=s.2) (y:=clY P s) (by rw[←hsf]) hd y1 y2 (Cy.pw hv hc hs0 _) (fun v hw=> ?_) ?_ ?_ (fun e z h1 h2=> ?_) (fun v hw=> ?_)
    · rcases List.mem_cons.1 hw with q|q
      · exact .inl q
      · exact .inr (by simp[q])
    · simp
    · simp
    · refine⟨cmI P z (clY P s),?_,cmI_Cm hv hc hy0 ((hG e z h2).2.1.mono hv (Nat.zero_le _))⟩
      exact List.mem_append.2 (.inr ((comI_mem _ _).2 ⟨e,z,(hG e z h2).1,h2,rfl⟩))
    · rcases List.mem_append.1 hw with q|q
      · rcases List.mem_append.1 q with q|q
        · rcases List.mem_append.1 q with q|q
          · exact .inl (List.mem_cons_of_mem _ q)
          · exact .inr (.inl (List.mem_singleton.1 q))
        · exact .inr (.inr (.inl (List.mem_singleton.1 q)))
      · obtain⟨e,z,e1,e3,rfl⟩:=(comI_mem _ _).1 q
        have hz:=(hG e z e3).2.1.mono hv (Nat.zero_le _)
        exact .inr (.inr (.inr ⟨e,z,e3,cmI_Cm hv hc hy0 hz,cmI_T hv hc hy0 hz⟩))
theorem adF_inv:∀(f:Nat) (t:Nat→Option V) (w:List V),tbG P t→Inv P.n P.o (T P) (M P 0) (rdI P) us t (fun v=>v∈w)→clM P t w≤f→
    Inv P.n P.o (T P) (M P 0) (rdI P) us (adF P f t w) (fun _=>False):=by
  have nl:∀(t:Nat→Option V) (w:List V),w.length=0→Inv P.n P.o (T P) (M P 0) (rdI P) us t (fun v=>v∈w)→Inv P.n P.o (T P) (M P 0) (rdI P) us t (fun _=>False):=by
    intro t w hw h
    have e:w=[]:=List.eq_nil_of_length_eq_zero hw
    subst e
    have e2:(fun v:V=>v∈([]:List V))=fun _=>False:=by funext v;simp
    rw[e2]at h
    exact h
  intro f
  induction f with
  | zero=>
    intro t w hG h hM
    rw[adF]
    refine nl t w ?_ h
    unfold clM at hM;omega
  | succ f ih=>
    intro t w hG h hM
    rw[adF]
    split
    · rename_i hw;exact nl t w hw h
    · rename_i hw
      cases w with
      |nil=>exact absurd rfl hw
      | cons x q=>
        have hxT:T P 0 x:=h.wn _ List.mem_cons_self
        have hdec:=adR_dec hv hc hG (q:=q) hxT
        show Inv P.n P.o (T P) (M P 0) (rdI P) us (adF P f (adR P t q (siS P t x)).1 (adR P t q (siS P t x)).2) _
        refine ih _ _ (adR_G hv hc hp hG (fun z hz=>h.wn z (List.mem_cons_of_mem _ hz)) hxT).1 (adR_inv hv hc hp hG h) ?_
        unfold clM at hM
        rw[List.length_cons]at hM
        omega
theorem adF_G:∀(f:Nat) (t:Nat→Option V) (w:List V),tbG P t→(∀x∈w,T P 0 x)→tbG P (adF P f t w):=by
  intro f
  induction f with
  |zero=>intro t w hG _;exact hG
  | succ f ih=>
    intro t w hG hw
    rw[adF]
    split
    · exact hG
    · rename_i hne
      cases w with
      |nil=>exact absurd rfl hne
      | cons x q=>
        obtain⟨g1,g2⟩:=adR_G hv hc hp hG (fun z hz=>hw z (List.mem_cons_of_mem _ hz)) (hw x List.mem_cons_self)
        exact ih _ _ g1 g2
noncomputable def tbI (P:Pc) (us:List V):Nat→Option V:=adF P (clM P (fun _=>none) us) (fun _=>none) us
theorem tbI_G {us:List V} (hu:∀x∈us,T P 0 x):tbG P (tbI P us):=adF_G hv hc hp _ _ us (fun d y h=>by cases h) hu
theorem tbI_tbl {us:List V} (hu:∀x∈us,T P 0 x):Tbl P.n P.o (T P) (M P 0) (tbI P us)∧∀x,Sg (T P 0) (M P 0) (tbI P us) P.n P.n x↔Gen (T P 0) (M P 0) (fun v=>v∈us) x:=
  (adF_inv hv hc hp _ _ us (fun d y h=>by cases h) (Inv.start (W:=fun v=>v∈us) hu) (Nat.le_refl _)).fin (lvl hv hc) T_top (rdI_rk hv hc)
noncomputable def rdR (P:Pc) (e:Nat) (w x:V):V:=M P 0 x (rep (M P 0) w (P.o e-x e).toNat)
omit hp in
theorem rdR_rk2:∀e w x,e<P.n→T P e w→w e=1→T P 0 x→∃u,Cy (T P 0) (M P 0) w u∧T P e u∧rdR P e w x=M P 0 x u∧(x e+u e)%P.o e=0:=by
  intro e w x he hw h1 hx
  have l:=lvl hv hc
  have hr:=hx.r e (Nat.zero_le e) he
  refine⟨rep (M P 0) w (P.o e-x e).toNat,Cy.rep w _,(l.g e).rep hw _,rfl,?_⟩
  rw[l.rep_lead he hw h1,Int.toNat_of_nonneg (by omega),Int.add_emod_emod,show x e+(P.o e-x e)=P.o e by omega,Int.emod_self]
noncomputable def dnI (P:Pc) (us:List V) (j:Nat):Nat→Option V:=dnG (rdR P) (tbI P us) P.n j
theorem dnI_can {us:List V} (hu:∀x∈us,T P 0 x):Can2 P (Gen (T P 0) (M P 0) (fun v=>v∈us)) (dnI P us P.n):=by
  obtain⟨c,hs⟩:=tbI_tbl hv hc hp hu
  have l:=lvl hv hc
  have e:Sg (T P 0) (M P 0) (tbI P us) P.n P.n=Gen (T P 0) (M P 0) (fun v=>v∈us):=funext fun x=>propext (hs x)
  have h:=dnG_can hv hc (rdR_rk2 hv hc) l c (c.sub l (Nat.le_refl _))
  rw[e]at h
  exact h
theorem gen_sbg {us:List V} (hu:∀x∈us,T P 0 x):Sbg (T P 0) (M P 0) (Gen (T P 0) (M P 0) (fun v=>v∈us)):=by
  obtain⟨c,hs⟩:=tbI_tbl hv hc hp hu
  have e:Sg (T P 0) (M P 0) (tbI P us) P.n P.n=Gen (T P 0) (M P 0) (fun v=>v∈us):=funext fun x=>propext (hs x)
  rw[←e]
  exact c.sub (lvl hv hc) (Nat.le_refl _)
theorem out_same {us:List V} (hu:∀x∈us,T P 0 x):outS (dnI P us P.n) P.n=cloU P us:=
  outS_congr fun d hd=>Can2.uniq hv hc (gen_sbg hv hc hp hu) (dnI_can hv hc hp hu) (dnS_can hv hc hp hu) hd
end
end Go.Proofs.YtnlfbimjcabgiaaGreat
namespace Go.Proofs.YtnlfbimjcabgiaaGreat
theorem ldV_eq {n:Nat} {P:Pc} {d:Nat} {y:V} (hd:d<n) (hT:T P d y) (h1:y d=1):ldV n y=d:=by
  obtain⟨a1,a2,a3,a4⟩:=ldG_sp (x:=y) n 0
  unfold ldV
  rcases Nat.lt_trichotomy (ldG y n 0) d with h|h|h
  · exact absurd (hT.z _ h) (a4 (by omega))
  · exact h
  · have:=a3 d (Nat.zero_le d) h;omega
section
variable (os:List Int) (pw:List (List Int)) (cj:List (List (List Int)))
end
end Go.Proofs.YtnlfbimjcabgiaaGreat
