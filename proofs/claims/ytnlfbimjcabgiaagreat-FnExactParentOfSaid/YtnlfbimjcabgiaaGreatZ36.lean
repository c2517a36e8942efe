import Derived.Test.YtnlfbimjcabgiaaGreatZ35
set_option linter.unusedVariables false
set_option linter.unusedSimpArgs false
namespace Go.Proofs.YtnlfbimjcabgiaaGreat
def unL (n:Nat):List V:=(List.range n).map un
theorem unL_len {n:Nat}:(unL n).length=n:=by simp[unL]
theorem unL_get {n k:Nat} (h:k<n):(unL n).getD k z0=un k:=by simp[unL,h]
def Cmt (P:Pc) (N:V→Prop) (x y:V):Prop:=∃c,N c∧M P 0 (M P 0 y x) c=M P 0 x y
section
variable {P:Pc} (hv:Val P) (hc:Con P 0)
include hv hc
theorem cmI_sp {x y:V} (hx:T P 0 x) (hy:T P 0 y):T P 0 (cmI P x y)∧M P 0 (M P 0 y x) (cmI P x y)=M P 0 x y:=by
  have g:=con_grp hv hc
  obtain⟨i1,i2⟩:=inv_T g hx
  obtain⟨j1,j2⟩:=inv_T g hy
  have h1:=g.cl hx hy
  have h2:=g.cl j1 h1
  refine⟨g.cl i1 h2,?_⟩
  unfold cmI
  rw[g.ac hy hx (g.cl i1 h2),←g.ac hx i1 h2,i2,g.l1 h2,←g.ac hy j1 h1,j2,g.l1 h1]
omit hc in
theorem unV_T {j:Nat} (hj:j<P.n):T P j (un j)∧un j j=1:=by
  refine⟨⟨fun k hk=> ?_,fun k h1 h2=> ?_,fun k hk=> ?_⟩,by simp[un,fset]⟩
  · have:k≠j:=by omega
    simp[un,fset,z0,this]
  · have ho:=hv.o k h2
    by_cases e:k=j
    · subst e;simp[un,fset];omega
    · simp[un,fset,z0,e];omega
  · have:k≠j:=by omega
    simp[un,fset,z0,this]
omit hc in
theorem unL_T:∀x∈unL P.n,T P 0 x:=by
  intro x hx
  unfold unL at hx
  obtain⟨j,hj,rfl⟩:=List.mem_map.1 hx
  exact(unV_T hv (List.mem_range.1 hj)).1.mono hv (Nat.zero_le j)
omit hc in
theorem unL_cn:Cnl P (T P 0) (unL P.n):=by
  refine⟨fun d=>if d<P.n then some (un d)else none,⟨fun d z hz=> ?_,fun d hd hz=> ?_⟩,?_⟩
  · split at hz
    · rename_i hd
      cases hz
      obtain⟨a1,a2⟩:=unV_T hv hd
      refine⟨hd,a1.mono hv (Nat.zero_le d),a1,a2,fun e h1 h2 _=> ?_⟩
      have:e≠d:=by omega
      simp[un,fset,z0,this]
    · cases hz
  · simp[hd]at hz
  · have:∀k,k≤P.n→(List.range k).map un=outS (fun d=>if d<P.n then some (un d)else none) k:=by
      intro k
      induction k with
      |zero=>intro _;rfl
      |succ k ih=>intro hk;rw[outS_some (y:=un k) (by simp;omega),←ih (by omega),List.range_succ,List.map_append];rfl
    exact this P.n (Nat.le_refl _)
theorem unL_gen:T P 0=GL P (unL P.n):=Cnl.gen hv hc (T_sbg hv hc) (unL_cn hv)
theorem nrm_of {S:V→Prop} (hS:Sbg (T P 0) (M P 0) S) (h:∀b∈unL P.n,CjB P S b) {b:V} (hb:T P 0 b):CjB P S b:=
  CjB.all hv hc hS (bs:=unL P.n) (fun b hbb=>⟨unL_T hv b hbb,h b hbb⟩) (by rw[←unL_gen hv hc];exact hb)
section
variable {N:V→Prop} (hN:Sbg (T P 0) (M P 0) N)
include hN
theorem Cmt.sy {x y:V} (hx:T P 0 x) (hy:T P 0 y) (h:Cmt P N x y):Cmt P N y x:=by
  have g:=con_grp hv hc
  obtain⟨c,c1,c2⟩:=h
  obtain⟨w,w1,w2,w3⟩:=g.iv (hN.n c1)
  refine⟨w,hN.iv c1 w1 w3,?_⟩
  rw[←c2,g.ac (g.cl hy hx) (hN.n c1) w1,w3,g.r1 (g.cl hy hx)]
theorem Cmt.sbg (hn:∀b,T P 0 b→CjB P N b) {u:V} (hu:T P 0 u):Sbg (T P 0) (M P 0) (fun a=>T P 0 a∧Cmt P N u a):=by
  have g:=con_grp hv hc
  refine⟨fun h=>h.1,⟨g.e0,z0,hN.e,by rw[g.l1 hu,g.r1 hu]⟩,?_,?_⟩
  · rintro a b ⟨ha,c,c1,c2⟩ ⟨hb,d,d1,d2⟩
    have c3:=hN.n c1
    have d3:=hN.n d1
    obtain⟨e1,e2⟩:=cjE_T hv hc c3 hb
    refine⟨g.cl ha hb,M P 0 d (cjE P c b),hN.mu d1 (hn b hb c c1),?_⟩
    have hau:=g.cl ha hu
    calc M P 0 (M P 0 (M P 0 a b) u) (M P 0 d (cjE P c b))
        =M P 0 (M P 0 a (M P 0 b u)) (M P 0 d (cjE P c b)):=by rw[g.ac ha hb hu]
      _=M P 0 a (M P 0 (M P 0 b u) (M P 0 d (cjE P c b))):=by rw[g.ac ha (g.cl hb hu) (g.cl d3 e1)]
      _=M P 0 a (M P 0 (M P 0 u b) (cjE P c b)):=by rw[←g.ac (g.cl hb hu) d3 e1,d2]
      _=M P 0 a (M P 0 u (M P 0 c b)):=by rw[g.ac hu hb e1,e2]
      _=M P 0 (M P 0 (M P 0 a u) c) b:=by rw[←g.ac ha hu (g.cl c3 hb),←g.ac hau c3 hb]
      _=M P 0 u (M P 0 a b):=by rw[c2,g.ac hu ha hb]
  · rintro a b ⟨ha,c,c1,c2⟩ hb h0
    have c3:=hN.n c1
    obtain⟨e1,e2⟩:=cjE_T hv hc c3 hb
    have e3:=hn b hb c c1
    have hba:M P 0 b a=z0:=by
      obtain⟨w,w1,w2,w3⟩:=g.iv ha
      have:b=w:=g.lc ha hb w1 (by rw[h0,w3])
      rw[this,w2]
    --b u=u b c'
    have h1:M P 0 b u=M P 0 (M P 0 u b) (cjE P c b):=by
      have h2:M P 0 (M P 0 b u) a=M P 0 u c:=by
        rw[g.ac hb hu ha,←c2,←g.ac hb (g.cl ha hu) c3,←g.ac hb ha hu,hba,g.l1 hu]
      have h3:=congrArg (fun z=>M P 0 z b) h2
      rw[g.ac (g.cl hb hu) ha hb,h0,g.r1 (g.cl hb hu),g.ac hu c3 hb,←e2,←g.ac hu hb e1]at h3
      exact h3
    obtain⟨w,w1,w2,w3⟩:=g.iv e1
    refine⟨hb,w,hN.iv e3 w1 w3,?_⟩
    rw[h1,g.ac (g.cl hu hb) e1 w1,w3,g.r1 (g.cl hu hb)]
theorem Cmt.all (hn:∀b,T P 0 b→CjB P N b) {us vs:List V} (hus:∀x∈us,T P 0 x) (hvs:∀x∈vs,T P 0 x) (h:∀x∈us,∀y∈vs,Cmt P N x y) {a b:V} (ha:GL P us a) (hb:GL P vs b):Cmt P N a b:=by
  have h1:∀x∈us,T P 0 b∧Cmt P N x b:=fun x hx=>hb _ (Cmt.sbg hv hc hN hn (hus x hx)) (fun y hy=>⟨hvs y hy,h x hx y hy⟩)
  have hbT:=hb _ (T_sbg hv hc) hvs
  obtain⟨h2,h3⟩:=ha _ (Cmt.sbg hv hc hN hn hbT) (fun x hx=>⟨hus x hx,Cmt.sy hv hc hN (hus x hx) hbT (h1 x hx).2⟩)
  exact Cmt.sy hv hc hN hbT h2 h3
end
end
noncomputable def coL (P:Pc) (us vs:List V):List V:=us.flatMap fun x=>vs.map fun y=>cmI P x y
theorem coL_mem {P:Pc} {us vs:List V} {z:V}:z∈coL P us vs↔∃x∈us,∃y∈vs,cmI P x y=z:=by
  unfold coL
  rw[List.mem_flatMap]
  exact⟨fun ⟨x,h1,h2⟩=>⟨x,h1,by obtain⟨y,h3,h4⟩:=List.mem_map.1 h2;exact⟨y,h3,h4⟩⟩,fun ⟨x,h1,y,h3,h4⟩=>⟨x,h1,List.mem_map.2 ⟨y,h3,h4⟩⟩⟩
noncomputable def ccL (P:Pc) (us bs:List V):List V:=stF P bs (P.n+1) (cloU P us)
noncomputable def cmL (P:Pc) (us vs:List V):List V:=ccL P (coL P us vs) (us++vs)
noncomputable def exG (P:Pc) (q:Int) (us:List V):List V:=cmL P us (unL P.n)++us.map fun x=>pwV P x q
noncomputable def exN (P:Pc) (q:Int) (us:List V):List V:=cloU P (exG P q us)
noncomputable def exK (P:Pc) (q:Int):Nat→List V→List (List V)
  |0,us=>[us]
  |f+1,us=>if (exN P q us).length=us.length then [us]else us::exK P q f (exN P q us)
section
variable {P:Pc} (hv:Val P) (hc:Con P 0) (hp:∀d,d<P.n→pr4 (P.o d))
include hv hc hp
theorem ccL_cn {us bs:List V} (hu:∀x∈us,T P 0 x) (hb:∀b∈bs,T P 0 b):Cnl P (NG P us bs) (ccL P us bs):=by
  have cn:=clo_cn hv hc hp hu
  have s1:=GL_sbg hv hc hp hu
  have e:=Cnl.gen hv hc s1 cn
  have hT:=clo_T hv hc hp hu
  have cn2:=cn
  rw[e]at cn2
  have:=stF_cn hv hc hp hb (P.n+1) (cloU P us) hT cn2 (by omega)
  rw[NG.same (us:=us) (us':=cloU P us) (bs:=bs)]
  · exact this
  · intro u hu2
    have h3:GL P (cloU P us) u:=by rw[←e];exact GL.of hu2
    exact h3.le (NG.sbg hv hc hT hb) (fun v hv2=>NG.of hv2)
  · intro u hu2
    exact(cn.S hu2).le (NG.sbg hv hc hu hb) (fun v hv2=>NG.of hv2)
omit hp in
theorem coL_T {us vs:List V} (hu:∀x∈us,T P 0 x) (hw:∀x∈vs,T P 0 x):∀z∈coL P us vs,T P 0 z:=by
  intro z hz
  obtain⟨x,hx,y,hy,rfl⟩:=coL_mem.1 hz
  exact(cmI_sp hv hc (hu x hx) (hw y hy)).1
omit hv hc hp in
theorem apL_T {us vs:List V} (hu:∀x∈us,T P 0 x) (hw:∀x∈vs,T P 0 x):∀z∈us++vs,T P 0 z:=fun z hz=>by
  rcases List.mem_append.1 hz with q|q
  · exact hu z q
  · exact hw z q
theorem cmL_cn {us vs:List V} (hu:∀x∈us,T P 0 x) (hw:∀x∈vs,T P 0 x):Cnl P (NG P (coL P us vs) (us++vs)) (cmL P us vs):=
  ccL_cn hv hc hp (coL_T hv hc hu hw) (apL_T hu hw)
theorem cmL_T {us vs:List V} (hu:∀x∈us,T P 0 x) (hw:∀x∈vs,T P 0 x):∀z∈cmL P us vs,T P 0 z:=
  fun z hz=>(NG.sbg hv hc (coL_T hv hc hu hw) (apL_T hu hw)).n ((cmL_cn hv hc hp hu hw).S hz)
theorem exG_T {q:Int} {us:List V} (hu:∀x∈us,T P 0 x):∀z∈exG P q us,T P 0 z:=by
  refine apL_T (cmL_T hv hc hp hu (unL_T hv)) (fun z hz=> ?_)
  obtain⟨x,hx,rfl⟩:=List.mem_map.1 hz
  exact(Cy.pw hv hc (hu x hx) q _ (T_sbg hv hc) (hu x hx))
theorem exN_T {q:Int} {us:List V} (hu:∀x∈us,T P 0 x):∀z∈exN P q us,T P 0 z:=clo_T hv hc hp (exG_T hv hc hp hu)
theorem exN_sp {q:Int} {us:List V} (hu:∀x∈us,T P 0 x) (hn:∀b,T P 0 b→CjB P (GL P us) b):
    Cnl P (GL P (exN P q us)) (exN P q us)∧(∀x,GL P (exN P q us) x→GL P us x)∧∀b,T P 0 b→CjB P (GL P (exN P q us)) b:=by
  have g:=con_grp hv hc
  have hU:=unL_T hv
  have hG:=exG_T hv hc hp hu (q:=q)
  have hco:=coL_T hv hc hu hU
  have hap:=apL_T hu hU
  have s1:=GL_sbg hv hc hp hu
  have s2:=GL_sbg hv hc hp hG
  have s3:=NG.sbg hv hc hco hap
  have cn:=clo_cn hv hc hp hG
  have e:GL P (exG P q us)=GL P (exN P q us):=Cnl.gen hv hc s2 cn
  have e3:=Cnl.gen hv hc s3 (cmL_cn hv hc hp hu hU)
  have hN:∀x,NG P (coL P us (unL P.n)) (us++unL P.n) x→GL P (exG P q us) x:=fun x hx=>by
    rw[e3]at hx
    exact hx.le s2 (fun u hu=>GL.of (List.mem_append.2 (.inl hu)))
  have hNn:∀b,T P 0 b→CjB P (NG P (coL P us (unL P.n)) (us++unL P.n)) b:=fun b hb=>nrm_of hv hc s3 (fun b hbb=>NG.cj (List.mem_append.2 (.inr hbb))) hb
  rw[←e]
  refine⟨cn,fun x hx=> ?_,fun b hb=>nrm_of hv hc s2 (fun b hbb=>CjB.of hv hc s2 rfl (hU b hbb) (fun u hu2=> ?_)) hb⟩
  · refine hx.le s1 (fun u hu2=> ?_)
    rcases List.mem_append.1 hu2 with h|h
    · have h3:NG P (coL P us (unL P.n)) (us++unL P.n) u:=(cmL_cn hv hc hp hu hU).S h
      refine h3 _ s1 (fun z hz=> ?_) (fun a b ha hb=>hn b (hap b hb) a ha)
      obtain⟨x,hx,y,hy,rfl⟩:=coL_mem.1 hz
      have hxT:=hu x hx
      have hyT:=hU y hy
      obtain⟨d1,d2⟩:=cmI_sp hv hc hxT hyT
      have hxS:GL P us x:=GL.of hx
      --y (x c)=x y=y (x^y)
      obtain⟨f1,f2⟩:=cjE_T hv hc hxT hyT
      have h5:M P 0 x (cmI P x y)=cjE P x y:=g.lc hyT (g.cl hxT d1) f1 (by rw[←g.ac hyT hxT d1,d2,f2])
      exact s1.l g hxS d1 (by rw[h5];exact hn y hyT x hxS)
    · obtain⟨x,hx,rfl⟩:=List.mem_map.1 h
      exact Cy.pw hv hc (hu x hx) q _ s1 (GL.of hx)
  · have hbT:=hU b hbb
    rcases List.mem_append.1 hu2 with h|h
    · exact hN _ (hNn b hbT u ((cmL_cn hv hc hp hu hU).S h))
    · obtain⟨x,hx,rfl⟩:=List.mem_map.1 h
      have hxT:=hu x hx
      have hpT:=Cy.pw hv hc hxT q _ (T_sbg hv hc) hxT
      have hpS:GL P us (pwV P x q):=Cy.pw hv hc hxT q _ s1 (GL.of hx)
      obtain⟨c,c1,c2⟩:=Cmt.all hv hc s3 hNn hu hU (fun x hx y hy=>⟨cmI P x y,NG.of (coL_mem.2 ⟨x,hx,y,hy,rfl⟩),(cmI_sp hv hc (hu x hx) (hU y hy)).2⟩) hpS (show GL P (unL P.n) b from GL.of hbb)
      have h5:cjE P (pwV P x q) b=M P 0 (pwV P x q) c:=cjE_eq hv hc hpT hbT (g.cl hpT (s3.n c1)) (by rw[←c2,g.ac hbT hpT (s3.n c1)])
      rw[h5]
      exact s2.mu (GL.of (List.mem_append.2 (.inr (List.mem_map.2 ⟨x,hx,rfl⟩)))) (hN c c1)
def ExP (P:Pc) (us:List V):Prop:=(∀x∈us,T P 0 x)∧Cnl P (GL P us) us∧∀b,T P 0 b→CjB P (GL P us) b
omit hp in
theorem ExP.first:ExP P (unL P.n):=by
  refine⟨unL_T hv,?_,?_⟩
  · rw[←unL_gen hv hc];exact unL_cn hv
  · rw[←unL_gen hv hc];exact fun b hb a ha=>(cjE_T hv hc ha hb).1
theorem ExP.next {q:Int} {us:List V} (h:ExP P us):ExP P (exN P q us)∧(exN P q us).length≤us.length∧((exN P q us).length=us.length→exN P q us=us):=by
  obtain⟨h1,h2,h3⟩:=h
  obtain⟨n1,n2,n3⟩:=exN_sp hv hc hp h1 h3 (q:=q)
  have hT:=exN_T hv hc hp h1 (q:=q)
  have s1:=GL_sbg hv hc hp h1
  have s2:=GL_sbg hv hc hp hT
  obtain⟨c1,c2⟩:=Cnl.cmp hv hc s2 s1 n1 h2 n2
  refine⟨⟨hT,n1,n3⟩,c1,fun e=> ?_⟩
  have e2:=c2 e
  rw[e2]at n1
  exact Cnl.uniq hv hc s1 n1 h2
end
end Go.Proofs.YtnlfbimjcabgiaaGreat
namespace Go.Proofs.YtnlfbimjcabgiaaGreat
def tbU (n:Nat) (u:List V):Nat→Nat→Option V
  |0=>fun _=>none
  |k+1=>oset (tbU n u k) (ldV n (u.getD k z0)) (u.getD k z0)
theorem tbU_some {n:Nat} {u:List V} {d:Nat} {z:V}:∀k,k≤u.length→tbU n u k d=some z→z∈u∧ldV n z=d:=by
  intro k
  induction k with
  |zero=>intro _ h;cases h
  | succ k ih=>
    intro hk h
    rw[tbU]at h
    unfold oset at h
    split at h
    · rename_i e
      cases h
      exact⟨by rw[List.getD_eq_getElem?_getD,List.getElem?_eq_getElem (show k<u.length by omega)];exact List.getElem_mem _,e.symm⟩
    · exact ih (by omega) h
theorem tbU_not {n:Nat} {u:List V} {d:Nat}:∀k,k≤u.length→(∃i,i<k∧ldV n (u.getD i z0)=d)→tbU n u k d≠none:=by
  intro k
  induction k with
  |zero=>intro _ ⟨i,hi,_⟩;omega
  | succ k ih=>
    intro hk ⟨i,hi,he⟩
    rw[tbU]
    unfold oset
    split
    · simp
    · rename_i hne
      refine ih (by omega) ⟨i,?_,he⟩
      rcases Nat.lt_or_ge i k with q|q
      · exact q
      · obtain rfl:i=k:=by omega
        exact absurd he.symm hne
def tbA (n:Nat) (u:List V):Nat→Option V:=tbU n u u.length
theorem tbA_can {P:Pc} {S:V→Prop} {u:List V} (h:Cnl P S u):Can2 P S (tbA P.n u)∧u=outS (tbA P.n u) P.n:=by
  obtain⟨dn,h1,h2⟩:=h
  have hd:∀d z,dn d=some z→ldV P.n z=d:=fun d z hz=>by
    obtain⟨a1,_,a2,a3,_⟩:=h1.el d z hz
    exact ldV_eq (P:=P) a1 a2 a3
  have e:tbA P.n u=dn:=by
    funext d
    cases hz:tbA P.n u d with
    | none=>
      cases hw:dn d with
      |none=>rfl
      | some w=>
        have hdn:=(h1.el d w hw).1
        have hm:w∈u:=by rw[h2];exact outS_memd.2 ⟨d,hdn,hw⟩
        obtain⟨i,hi,e⟩:=List.getElem_of_mem hm
        refine absurd hz (tbU_not u.length (Nat.le_refl _) ⟨i,hi,?_⟩)
        rw[List.getD_eq_getElem?_getD,List.getElem?_eq_getElem hi]
        show ldV P.n u[i]=d
        rw[e];exact hd d w hw
    | some z=>
      obtain⟨hm,hl⟩:=tbU_some u.length (Nat.le_refl _) hz
      rw[h2]at hm
      obtain⟨d',hd',hz'⟩:=outS_memd.1 hm
      have:=hd d' z hz'
      rw[hl]at this
      subst this
      exact hz'.symm
  rw[e]
  exact⟨h1,h2⟩
section
variable {P:Pc} (hv:Val P) (hc:Con P 0)
include hv hc
theorem rdn_cos {rd:Nat→V→V→V} (rk:∀e w x,e<P.n→T P e w→w e=1→T P 0 x→∃u,Cy (T P 0) (M P 0) w u∧T P e u∧rd e w x=M P 0 x u∧(x e+u e)%P.o e=0)
    {S:V→Prop} (hS:Sbg (T P 0) (M P 0) S) {dn:Nat→Option V} (hd:∀e w,dn e=some w→e<P.n∧S w∧T P e w∧w e=1):∀f e x,T P 0 x→∃s,S s∧rdn rd dn f e x=M P 0 x s:=by
  have g:=con_grp hv hc
  intro f
  induction f with
  |zero=>intro e x hx;exact⟨z0,hS.e,(g.r1 hx).symm⟩
  | succ f ih=>
    intro e x hx
    rw[rdn]
    cases hw:dn e with
    |none=>exact ih (e+1) x hx
    | some w=>
      obtain⟨w0,w1,w2,w3⟩:=hd e w hw
      dsimp only
      by_cases h0:x e=0
      · rw[if_pos h0];exact ih (e+1) x hx
      · rw[if_neg h0]
        obtain⟨v,u1,u2,u3,u4⟩:=rk e w x w0 w2 w3 hx
        have hvS:=u1 S hS w1
        rw[u3]
        obtain⟨s,s1,s2⟩:=ih (e+1) (M P 0 x v) (g.cl hx (hS.n hvS))
        exact⟨M P 0 v s,hS.mu hvS s1,by rw[s2,g.ac hx (hS.n hvS) (hS.n s1)]⟩
theorem cos_uniq {S:V→Prop} (hS:Sbg (T P 0) (M P 0) S) {dn:Nat→Option V} (h:Can2 P S dn) {r s:V} (hr:T P 0 r) (hs:S s) (h1:∀k,k<P.n→dn k≠none→r k=0) (h2:∀k,k<P.n→dn k≠none→M P 0 r s k=0):s=z0:=by
  have hsT:=hS.n hs
  obtain⟨l1,l2,l3⟩:=ld_sp hsT
  rcases Nat.lt_or_ge (ldV P.n s) P.n with q|q
  · have h3:=l3 q
    have hdn:dn (ldV P.n s)≠none:=fun e=>h.no _ q e ⟨s,hs,l2,h3⟩
    have h4:=(M_at hv hc q hr l2).2
    rw[h1 _ q hdn,h2 _ q hdn,Int.zero_add]at h4
    have hr2:=l2.r _ (Nat.le_refl _) q
    rw[Int.emod_eq_of_lt hr2.1 hr2.2]at h4
    exact absurd h4.symm h3
  · have e:ldV P.n s=P.n:=by omega
    rw[e]at l2
    exact T_top s l2
theorem rdl_redF {S:V→Prop} (hS:Sbg (T P 0) (M P 0) S) {u:List V} (h:Cnl P S u) {x:V} (hx:T P 0 x):rdl P u x=redF P (tbA P.n u) P.n 0 x:=by
  have g:=con_grp hv hc
  obtain⟨h1,h2⟩:=tbA_can h
  have hd:∀e w,tbA P.n u e=some w→e<P.n∧S w∧T P e w∧w e=1:=fun e w he=>by
    obtain⟨a1,a2,a3,a4,_⟩:=h1.el e w he
    exact⟨a1,a2,a3,a4⟩
  have hdT:∀e w,tbA P.n u e=some w→e<P.n∧T P 0 w∧T P e w∧w e=1:=fun e w he=>by
    obtain⟨a1,a2,a3,a4⟩:=hd e w he
    exact⟨a1,hS.n a2,a3,a4⟩
  have e1:rdl P u x=rdn (rdR P) (tbA P.n u) P.n 0 x:=by
    rw[rdn_rdl (fun e w he=>by obtain⟨a1,_,a2,a3⟩:=hd e w he;exact ldV_eq (P:=P) a1 a2 a3),←h2]
  rw[e1,redF_rdn]
  obtain⟨s1,a1,a2⟩:=rdn_cos hv hc (rdR_rk2 hv hc) hS hd P.n 0 x hx
  obtain⟨s2,b1,b2⟩:=rdn_cos hv hc (rdS_rk2 hv hc) hS hd P.n 0 x hx
  obtain⟨t1,_,z1⟩:=rdn_ok hv hc (rdR_rk2 hv hc) (T_sbg hv hc) hdT P.n 0 x (by omega) hx
  obtain⟨t2,_,z2⟩:=rdn_ok hv hc (rdS_rk2 hv hc) (T_sbg hv hc) hdT P.n 0 x (by omega) hx
  obtain⟨w,w1,w2,w3⟩:=g.iv (hS.n a1)
  have hw:=hS.iv a1 w1 w3
  have e2:rdn (rdS P) (tbA P.n u) P.n 0 x=M P 0 (rdn (rdR P) (tbA P.n u) P.n 0 x) (M P 0 w s2):=by
    rw[a2,b2,g.ac hx (hS.n a1) (g.cl w1 (hS.n b1)),←g.ac (hS.n a1) w1 (hS.n b1),w3,g.l1 (hS.n b1)]
  have e3:M P 0 w s2=z0:=cos_uniq hv hc hS h1 t1 (hS.mu hw b1) (fun k hk hn=>z1 k (Nat.zero_le k) (by omega) hn) (fun k hk hn=>by rw[←e2];exact z2 k (Nat.zero_le k) (by omega) hn)
  rw[e2,e3,g.r1 t1]
end
def frU (n:Nat) (u:List V) (k:Nat):List Nat:=(List.range k).filter fun d=>(tbA n u d).isNone
theorem frU_s {n:Nat} {u:List V} {k:Nat}:frU n u (k+1)=if tbA n u k=none then frU n u k++[k]else frU n u k:=by
  unfold frU
  rw[List.range_succ,List.filter_append]
  cases h:tbA n u k with
  |none=>simp[h]
  |some z=>simp[h]
theorem frU_len {n:Nat} {u:List V}:∀k,(frU n u k).length≤k:=by
  intro k
  have:=List.length_filter_le (fun d=>(tbA n u d).isNone) (List.range k)
  rw[List.length_range]at this
  exact this
theorem frU_lt {n:Nat} {u:List V} {k i:Nat} (hi:i<(frU n u k).length):(frU n u k).getD i 0<k:=by
  have hm:(frU n u k).getD i 0∈frU n u k:=by rw[List.getD_eq_getElem?_getD,List.getElem?_eq_getElem hi];exact List.getElem_mem _
  exact List.mem_range.1 (List.mem_filter.1 hm).1
def frI (n:Nat) (u:List V):List Int:=(frU n u n).map fun d:Nat=>(d:Int)
theorem frI_len {n:Nat} {u:List V}:(frI n u).length=(frU n u n).length:=by simp[frI]
theorem frI_get {n:Nat} {u:List V} {i:Nat} (h:i<(frU n u n).length):(frI n u).getD i 0=((frU n u n).getD i 0:Int):=by simp[frI,h]
noncomputable def pjL (P:Pc) (u:List V) (x:V):List Int:=(frU P.n u P.n).map fun d=>rdl P u x d
theorem pjL_len {P:Pc} {u:List V} {x:V}:(pjL P u x).length=(frU P.n u P.n).length:=by simp[pjL]
def qoO (os:List Int) (u:List V):List Int:=(frU os.length u os.length).map fun d=>os.getD d 0
noncomputable def qoPr (P:Pc) (u:List V) (d:Nat):List Int:=pjL P u (pwV P (un d) (P.o d))
noncomputable def qoP (P:Pc) (u:List V):List (List Int):=(frU P.n u P.n).map fun d=>qoPr P u d
noncomputable def qoCr (P:Pc) (u:List V) (d j:Nat):List Int:=pjL P u (cjE P (un j) (un d))
noncomputable def qoCl (P:Pc) (u:List V) (a:Nat):List (List Int):=((frU P.n u P.n).drop (a+1)).map fun j=>qoCr P u ((frU P.n u P.n).getD a 0) j
noncomputable def qoC (P:Pc) (u:List V):List (List (List Int)):=(List.range (frU P.n u P.n).length).map fun a=>qoCl P u a
end Go.Proofs.YtnlfbimjcabgiaaGreat
