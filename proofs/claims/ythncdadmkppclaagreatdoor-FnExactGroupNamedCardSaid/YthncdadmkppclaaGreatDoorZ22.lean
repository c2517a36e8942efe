import Derived.Test.YthncdadmkppclaaGreatDoorZ07
set_option linter.unusedVariables false
set_option linter.unusedSimpArgs false
namespace Go.Proofs.YthncdadmkppclaaGreatDoor
theorem Waits.lt {ops:List Oper} (hlt:∀j o,ops[j]? =some o→∀e∈o.after.toList,Region.binds .any e=true→e.on<j) {i j:Nat} (h:Waits ops i j):i<j:=by
  induction h with
  |one o e ho he hb hi=>rw[←hi];exact hlt _ o ho e he hb
  |step a b iha ihb=>omega
section
variable {P:Program} {Γ:TEnv}
def apH (Γ:TEnv) (op:Op) (t:List AV) (H:HP) (id:Nat) (k:AV→HP→Prop):Prop:=
  match op with
  | .call ⟨.builtin .append,args,tys⟩=>match args.toList,tys.toList with
    |[x,y],[t1,t2]=>apop Γ H t1 t2 (evo t x) (evo t y) id k
    |_,_=>False
  |_=>False
section
variable {cX:Ctx}
def hfree (ops:List Oper) (m b:Nat):Bool:=ops.zipIdx.all fun (o,i)=> !(decide (b<i)&& decide (i<m))|| !(hdep o.op||lays o.op)
theorem apH_a {x y:Operand} {t1 t2:TypeId} {t:List AV} {H:HP} {id:Nat} {k:AV→HP→Prop}:apH Γ (.call ⟨.builtin .append,[x,y].toArray,[t1,t2].toArray⟩) t H id k=apop Γ H t1 t2 (evo t x) (evo t y) id k:=rfl
@[congr] theorem apH_cg {op:Op} {t t':List AV} {H H':HP} {id:Nat} {k:AV→HP→Prop} (h:t=t') (h2:H=H'):apH Γ op t H id k=apH Γ op t' H' id k:=by rw[h,h2]
attribute [go_sem ↓] apH_a
end
end
end Go.Proofs.YthncdadmkppclaaGreatDoor
namespace Go.Proofs.YthncdadmkppclaaGreatDoor
section
variable {P:Program} {Γ:TEnv}
def opT (o:Oper):List Nat:=o.op.operands.toList.filterMap fun| .tmp t=>some t|_=>none
theorem zip_all {ops:List Oper} {f:Oper×Nat→Bool} (h:ops.zipIdx.all f=true) {j:Nat} {o:Oper} (ho:ops[j]? =some o):f (o,j)=true:=
  List.all_eq_true.1 h (o,j) (List.mem_iff_getElem?.2 ⟨j,by rw[List.getElem?_zipIdx,ho];simp⟩)
def hrunF (Γ:TEnv) (P:Program) (base:Nat):List Bool→List Oper→Nat→List AV→(List AV→Prop)→Prop
  |true::m,o::rest,i,t,k=>qop Γ P o.op t noH (base+i) fun r _=>hrunF Γ P base m rest (i+1) (putA t o.dst r) k
  |false::m,_::rest,i,t,k=>hrunF Γ P base m rest (i+1) t k
  |[],_,_,t,k=>k t
  |_::_,[],_,t,k=>k t
def arunF (Γ:TEnv) (P:Program) (base:Nat):List Bool→List Oper→Nat→St→(St→Prop)→Prop
  |true::m,_::rest,i,s,K=>arunF Γ P base m rest (i+1) s K
  |false::m,o::rest,i,s,K=>aop Γ P o.dst o.op (base+i) s fun s'=>arunF Γ P base m rest (i+1) s' K
  |[],o::rest,i,s,K=>aop Γ P o.dst o.op (base+i) s fun s'=>arunF Γ P base [] rest (i+1) s' K
  |_,[],_,s,K=>K s
theorem hrunF_head (hG:GOk P Γ) {ops:List Oper} {base:Nat} {m:List Bool} {k:List AV→Prop}:∀(rest:List Oper) (mr:List Bool) (i:Nat) (t:List AV),rest=ops.drop i→mr=m.drop i→hrunF Γ P base mr rest i t k→
    ∃ (T:Nat→List AV) (res:Nat→AV),T i=t∧k (T ops.length)∧(∀j o,i≤j→ops[j]? =some o→m.getD j false=true→T (j+1)=putA (T j) o.dst (res j)∧∃d,QOk P o (evo (T j)) noH (base+j) (res j) d∧(lays o.op=false→d=none))∧
      (∀j,i≤j→j<ops.length→m.getD j false=false→T (j+1)=T j):=by
  intro rest
  induction rest with
  | nil=>
    intro mr i t hr hm h
    have hlen:ops.length≤i:=by
      have:=congrArg List.length hr
      simp at this;omega
    refine⟨fun _=>t,fun _=> .j,rfl,?_,?_,fun j h1 h2=>by omega⟩
    · cases mr with
      |nil=>simpa[hrunF]using h
      |cons b mr=>cases b<;>simpa[hrunF]using h
    · intro j o h1 h2
      have:=(List.getElem?_eq_some_iff.1 h2).1;omega
  | cons o rest ih=>
    intro mr i t hr hm h
    have hi:i<ops.length:=by
      apply Classical.byContradiction
      intro hn
      rw[List.drop_eq_nil_of_le (by omega)]at hr;cases hr
    rw[List.drop_eq_getElem_cons hi]at hr
    obtain⟨ho,hr'⟩:=List.cons.inj hr
    have hoi:ops[i]? =some o:=by rw[List.getElem?_eq_getElem hi,ho]
    by_cases hmi:m.getD i false=true
    · have hil:i<m.length:=by
        apply Classical.byContradiction
        intro hn
        rw[List.getD_eq_getElem?_getD,List.getElem?_eq_none (by omega)]at hmi;simp at hmi
      rw[List.drop_eq_getElem_cons hil]at hm
      have hb:m[i]=true:=by simpa[hil]using hmi
      rw[hb]at hm
      subst hm
      simp only[hrunF]at h
      obtain⟨r,d,h1,h2,h3⟩:=qop_ok' hG h
      obtain⟨T,res,g1,g2,g3,g4⟩:=ih _ (i+1) _ hr' rfl h1
      refine⟨fun j=>if j=i then t else T j,fun j=>if j=i then r else res j,by simp,by simp only;rw[if_neg (by omega)];exact g2,?_,?_⟩
      · intro j o' hj ho' hmj
        by_cases e:j=i
        · subst e
          rw[hoi]at ho';cases ho'
          simp only[if_true]
          rw[if_neg (by omega)]
          exact⟨g1,d,h2,h3⟩
        · simp only[e,if_false]
          rw[if_neg (by omega)]
          exact g3 j o' (by omega) ho' hmj
      · intro j hj hjl hmj
        by_cases e:j=i
        · subst e;rw[hmi]at hmj;cases hmj
        · simp only[e,if_false]
          rw[if_neg (by omega)]
          exact g4 j (by omega) hjl hmj
    · have hmf:m.getD i false=false:=by simpa using hmi
      have h':∃mr',mr'=m.drop (i+1)∧hrunF Γ P base mr' rest (i+1) t k:=by
        by_cases hil:i<m.length
        · rw[List.drop_eq_getElem_cons hil]at hm
          have hb:m[i]=false:=by simpa[hil]using hmf
          rw[hb]at hm
          subst hm
          simp only[hrunF]at h
          exact⟨_,rfl,h⟩
        · rw[List.drop_eq_nil_of_le (by omega)]at hm
          subst hm
          simp only[hrunF]at h
          refine⟨[],by rw[List.drop_eq_nil_of_le (by omega)],?_⟩
          cases rest<;>simpa[hrunF]using h
      obtain⟨mr',e1,h'⟩:=h'
      obtain⟨T,res,g1,g2,g3,g4⟩:=ih mr' (i+1) t hr' e1 h'
      refine⟨fun j=>if j=i then t else T j,res,by simp,by simp only;rw[if_neg (by omega)];exact g2,?_,?_⟩
      · intro j o' hj ho' hmj
        by_cases e:j=i
        · subst e;rw[hmf]at hmj;cases hmj
        · simp only[e,if_false]
          rw[if_neg (by omega)]
          exact g3 j o' (by omega) ho' hmj
      · intro j hj hjl hmj
        by_cases e:j=i
        · subst e
          simp only[if_true]
          rw[if_neg (by omega)]
          exact g1
        · simp only[e,if_false]
          rw[if_neg (by omega)]
          exact g4 j (by omega) hjl hmj
section
variable {cX:Ctx}
theorem aop_soundM (hG:GOk P Γ) {o:Oper} {s:St} {t':List AV} {L:LM} {a:Act} {w:World} {id:Nat} {K':St→Prop} (h:aop Γ P o.dst o.op id s K') (he:∀x∈o.op.operands,evo s.t x=evo t' x) (c:Cn cX ⟨t',s.H,s.nx⟩ L a w) (hid:L id=none) (hlo:id<s.nx) (hn0:cX.nx0≤id)
    {K:Act→World→Prop} {Q:Exit→Act→World→Prop}
    (hK:∀r H' nx' L' a' w',K' ⟨putA s.t o.dst r,H',nx'⟩→s.nx≤nx'→(∀i,i≠id→i<s.nx→L' i=L i)→Cn cX ⟨putA t' o.dst r,H',nx'⟩ L' a' w'→K a' w'):oWp cX.rd P o a w K Q:=by
  have hH:s.H id=none:=by
    cases hh:s.H id with
    |none=>rfl
    |some cs=>obtain⟨l,h1,_⟩:=c.sr.node id cs hh;rw[hid]at h1;cases h1
  have oops:∀{k:AV→HP→Prop},OpS P o (evo s.t) s.H id k→(∀r H',k r H'→K' ⟨putA s.t o.dst r,H',s.nx⟩)→oWp cX.rd P o a w K Q:=by
    intro k hk hkk
    have hk':=hk.ev he
    refine(hk' L cX.Av w a.eval c.sr ⟨_,c.fr⟩ hid hH (fun x _=>c.ev x)).wp ?_
    rintro u w' ⟨r,H',L',h1,h2,h3,h4,h5⟩
    obtain⟨q1,q2,q3⟩:=put_fits (a:=a) c.sz (fun k y hk=>(c.sl k y hk).step h4) o.dst h5
    refine hK r H' s.nx L' _ w' (hkk r H' h1) (Nat.le_refl _) (fun i hi _=>h2 i hi) ⟨dfp q1 (c.df.step c.sr h4),q2,q3,h3,?_,c.nx,?_,c.st.trans h4⟩
    · intro i hi;rw[h2 i (by simp only at hi;omega)];exact c.fr i hi
    · intro i hi;rw[h2 i (by omega)];exact c.lo i hi
  have callgo:∀(f:FuncId) (xs:List AV) (us:Array Value),AC P f s.nx s.H xs (fun nx' H' r=>K' ⟨putA s.t o.dst r,H',nx'⟩)→ArgsR L w (MM L s.H cX.Av) xs us→(execOp a.eval o).run P w= .ok (.enter f us) w→oWp cX.rd P o a w K Q:=by
    rintro f xs us ⟨hen,hrun⟩ ha h1
    have h2:=hrun L cX.Av w _ c.sr c.fr ha
    have h3:QV P o a.eval w fun u w'=>∃r L' nx' H',K' ⟨putA s.t o.dst r,H',nx'⟩∧s.nx≤nx'∧(∀i,nx'≤i→L' i=none)∧(∀i,i<s.nx→L' i=L i)∧SR L' H' cX.Av w'∧Step L s.H w L' H' w'∧R L' w' (MM L' H' cX.Av) r u:=by
      unfold QV
      rw[h1]
      exact h2.mono fun e w' ⟨u,r,L',nx',H',g1,g2,g3,g4,g5,g6,g7,g8⟩=>⟨u,g1,r,L',nx',H',g2,g3,g4,g5,g6,g7,g8⟩
    refine h3.wp ?_
    rintro u w' ⟨r,L',nx',H',g1,g2,g3,g4,g5,g6,g7⟩
    obtain⟨q1,q2,q3⟩:=put_fits (a:=a) c.sz (fun k y hk=>(c.sl k y hk).step g6) o.dst g7
    have h6:=c.nx
    refine hK r H' nx' L' _ w' g1 g2 (fun i _ hi=>g4 i hi) ⟨dfp q1 (c.df.step c.sr g6),q2,q3,g5,g3,by simp only at h6 ⊢;omega,?_,c.st.trans g6⟩
    intro i hi;simp only at h6;rw[g4 i (by omega)];exact c.lo i hi
  unfold aop at h
  split at h
  · rename_i op ty x y ty2 ho
    exact oops (nilop_ok hG ho h) (by rintro r H' ⟨hk,rfl⟩;exact hk)
  · rename_i ty x y ho
    exact oops (stop_ok hG ho h) (fun r H' hk=>hk)
  · rename_i args tys ho
    split at h
    · rename_i x y t1 t2 ha ht
      have ha':args=#[x,y]:=by apply Array.ext';simpa using ha
      subst ha'
      exact oops (apop_ok hG ho (by rw[←Array.getElem?_toList,ht];rfl) (by rw[←Array.getElem?_toList,ht];rfl) h) (fun r H' hk=>hk)
    · exact h.elim
  · rename_i f args tys ho
    have h1:=run_enter h.1 ho (show a.eval (.func f)= .func (.func f) #[] #[]from rfl) w
    have hmap:args.toList.map (evo s.t)=args.toList.map (evo t'):=List.map_congr_left fun x hx=>he x (by rw[ho];simp only[Op.operands,Call.operands,Array.mem_append];right;simpa using hx)
    rw[hmap]at h
    exact callgo f _ _ h (args_of ho (fun x _=>c.ev x)) h1
  · rename_i n args tys ho
    have hmap:args.toList.map (evo s.t)=args.toList.map (evo t'):=List.map_congr_left fun x hx=>he x (by rw[ho];simp only[Op.operands,Call.operands,Array.mem_append];right;simpa using hx)
    have hn:evo s.t (.tmp n)=evo t' (.tmp n):=he _ (by rw[ho];simp[Op.operands,Call.operands])
    rw[hmap,hn]at h
    unfold fnV at h
    split at h
    · rename_i f cs hv
      have hx:=c.ev (.tmp n)
      rw[hv]at hx
      obtain⟨us,hf,hus⟩:=hx.f_inv
      have h1:=run_enterV h.1 ho hf w
      exact callgo f _ _ h ((args_ofV ho (fun x _=>c.ev x)).append hus) h1
    · exact h.elim
  · rename_i ty ho
    exact oops (mkopM_ok ho h) (fun r H' hk=>hk)
  · rename_i ty x i ok ho
    exact oops (mlop_ok hG ho h) (by rintro r H' ⟨hk,rfl⟩;exact hk)
  · rename_i ty x i v ho
    exact oops (muop_ok hG (.inl ho) h) (fun r H' hk=>hk)
  · rename_i ty x i v ho
    exact oops (muop_ok hG (.inr ho) h) (fun r H' hk=>hk)
  · rename_i ty x ho
    exact oops (rgop_ok hG ho h) (fun r H' hk=>hk)
  · rename_i x ho
    exact oops (nxop_ok ho h) (fun r H' hk=>hk)
  · rename_i x ho
    exact oops (enop_ok ho h) (by rintro r H' ⟨hk,rfl⟩;exact hk)
  · rename_i ty x i ho
    exact oops (sxop_ok hG ho h) (by rintro r H' ⟨hk,rfl⟩;exact hk)
  · rename_i sty dty x ho
    exact oops (cvop_ok hG ho h) (by rintro r H' ⟨hk,rfl⟩;exact hk)
  · rename_i args tys ho
    split at h
    · rename_i x y t1 ts ha ht
      have ha':args=#[x,y]:=by apply Array.ext';simpa using ha
      subst ha'
      exact oops (cpop_ok hG ho (by rw[←Array.getElem?_toList,ht];rfl) h) (fun r H' hk=>hk)
    · exact h.elim
  · obtain⟨r,d,h1,h2⟩:=qop_ok hG h
    exact oops (h2 s.H (fun _ _ h=>h)) (by rintro r' H' ⟨rfl,rfl⟩;exact h1)
theorem op_step {o:Oper} {t':List AV} {H:HP} {nx:Nat} {L:LM} {a:Act} {w:World} {id:Nat} {k:AV→HP→Prop} (h:OpS P o (evo t') H id k) (c:Cn cX ⟨t',H,nx⟩ L a w) (hid:L id=none) (hlo:id<nx) (hn0:cX.nx0≤id)
    {K:Act→World→Prop} {Q:Exit→Act→World→Prop}
    (hK:∀r H' L' a' w',k r H'→(∀i,i≠id→L' i=L i)→Cn cX ⟨putA t' o.dst r,H',nx⟩ L' a' w'→K a' w'):oWp cX.rd P o a w K Q:=by
  have hH:H id=none:=by
    cases hh:H id with
    |none=>rfl
    |some cs=>obtain⟨l,h1,_⟩:=c.sr.node id cs hh;rw[hid]at h1;cases h1
  refine(h L cX.Av w a.eval c.sr ⟨_,c.fr⟩ hid hH (fun x _=>c.ev x)).wp ?_
  rintro u w' ⟨r,H',L',h1,h2,h3,h4,h5⟩
  obtain⟨q1,q2,q3⟩:=put_fits (a:=a) c.sz (fun k y hk=>(c.sl k y hk).step h4) o.dst h5
  refine hK r H' L' _ w' h1 h2 ⟨dfp q1 (c.df.step c.sr h4),q2,q3,h3,?_,c.nx,?_,c.st.trans h4⟩
  · intro i hi;rw[h2 i (by simp only at hi;omega)];exact c.fr i hi
  · intro i hi;rw[h2 i (by omega)];exact c.lo i hi
theorem putA_len {t:List AV} {d:Option Nat} {x:AV}:(putA t d x).length=t.length:=by
  cases d<;>simp[putA]
theorem putA_ne {t:List AV} {d:Option Nat} {x:AV} {u:Nat} (h:d≠some u):(putA t d x)[u]? =t[u]? :=by
  cases d with
  |none=>rfl
  |some d=>simp only[putA];exact List.getElem?_set_ne (fun e=>h (by rw[e]))
theorem putA_eq {t t':List AV} {d:Option Nat} {x:AV} {u:Nat} (h:t.length=t'.length) (he:d=some u∨t[u]? =t'[u]?):(putA t d x)[u]? =(putA t' d x)[u]? :=by
  by_cases e:d=some u
  · subst e
    simp only[putA]
    rw[List.getElem?_set,List.getElem?_set,if_pos rfl,if_pos rfl,h]
  · rw[putA_ne e,putA_ne e]
    exact he.resolve_left e
theorem ready_ex {ops:List Oper} {listed:Array Bool} (hlt:∀j o,ops[j]? =some o→∀e∈o.after.toList,Region.binds .any e=true→e.on<j) (hsz:listed.size=ops.length):∀i,i<ops.length→listed.getD i true=false→Region.ready .any ops.toArray listed≠ []:=by
  intro i
  induction i using Nat.strongRecOn with
  | _ i ih=>
    intro hi hn
    by_cases hall:∀j,j<i→listed.getD j true=true
    · intro he
      have:=first_ready hlt hi hsz hall hn
      rw[he]at this;cases this
    · obtain⟨j,hj⟩:=Classical.not_forall.1 hall
      obtain⟨h1,h2⟩:=Classical.not_imp.1 hj
      exact ih j h1 (by omega) (by simpa using h2)
theorem T_len {ops:List Oper} {m:List Bool} {T:Nat→List AV} {res:Nat→AV} (hT:∀(j:Nat) (o:Oper),ops[j]? =some o→m.getD j false=true→T (j+1)=putA (T j) o.dst (res j)) (hS:∀j,j<ops.length→m.getD j false=false→T (j+1)=T j):∀j,j≤ops.length→(T j).length=(T 0).length:=by
  intro j
  induction j with
  |zero=>intro _;rfl
  | succ j ih=>
    intro hj
    have hjl:j<ops.length:=by omega
    cases hm:m.getD j false with
    |true=>rw[hT j _ (List.getElem?_eq_getElem hjl) hm,putA_len];exact ih (by omega)
    |false=>rw[hS j hjl hm];exact ih (by omega)
theorem T_keep {ops:List Oper} {m:List Bool} {T:Nat→List AV} {res:Nat→AV} (hT:∀(j:Nat) (o:Oper),ops[j]? =some o→m.getD j false=true→T (j+1)=putA (T j) o.dst (res j)) (hS:∀j,j<ops.length→m.getD j false=false→T (j+1)=T j):∀(u i d:Nat),i+d≤ops.length→(∀g o,i≤g→g<i+d→ops[g]? =some o→m.getD g false=true→o.dst≠some u)→(T (i+d))[u]? =(T i)[u]? :=by
  intro u i d
  induction d with
  |zero=>intro _ _;rfl
  | succ d ih=>
    intro hl hk
    have h1:=ih (by omega) (fun g o a b=>hk g o a (by omega))
    have hjl:i+d<ops.length:=by omega
    have ho:=List.getElem?_eq_getElem hjl
    rw[←Nat.add_assoc]
    cases hm:m.getD (i+d) false with
    |true=>rw[hT _ _ ho hm,putA_ne (hk _ _ (by omega) (by omega) ho hm)];exact h1
    |false=>rw[hS _ hjl hm];exact h1
end
@[congr] theorem hrunF_cg {base i:Nat} {m:List Bool} {rest:List Oper} {t t':List AV} {k:List AV→Prop} (h:t=t'):hrunF Γ P base m rest i t k=hrunF Γ P base m rest i t' k:=by rw[h]
@[congr] theorem arunF_cg {base i:Nat} {m:List Bool} {rest:List Oper} {s s':St} {K:St→Prop} (h:s=s'):arunF Γ P base m rest i s K=arunF Γ P base m rest i s' K:=by rw[h]
theorem hrF_t {base i:Nat} {m:List Bool} {rest:List Oper} {t:List AV} {k:List AV→Prop} {dst:Option Nat} {op:Op} {ty:TypeId} {pos:String} {after:Array Edge} {g:Option (Nat×Bool)}:
    hrunF Γ P base (true::m) (⟨dst,op,ty,pos,after,g⟩::rest) i t k=qop Γ P op t noH (base+i) fun r _=>hrunF Γ P base m rest (i+1) (putA t dst r) k:=by rw[hrunF]
theorem hrF_f {base i:Nat} {m:List Bool} {o:Oper} {rest:List Oper} {t:List AV} {k:List AV→Prop}:hrunF Γ P base (false::m) (o::rest) i t k=hrunF Γ P base m rest (i+1) t k:=by rw[hrunF]
theorem hrF_n {base i:Nat} {rest:List Oper} {t:List AV} {k:List AV→Prop}:hrunF Γ P base [] rest i t k=k t:=by cases rest<;>rw[hrunF]
theorem arF_t {base i:Nat} {m:List Bool} {o:Oper} {rest:List Oper} {s:St} {K:St→Prop}:arunF Γ P base (true::m) (o::rest) i s K=arunF Γ P base m rest (i+1) s K:=by rw[arunF]
theorem arF_f {base i:Nat} {m:List Bool} {rest:List Oper} {s:St} {K:St→Prop} {dst:Option Nat} {op:Op} {ty:TypeId} {pos:String} {after:Array Edge} {g:Option (Nat×Bool)}:
    arunF Γ P base (false::m) (⟨dst,op,ty,pos,after,g⟩::rest) i s K=aop Γ P dst op (base+i) s fun s'=>arunF Γ P base m rest (i+1) s' K:=by rw[arunF]
theorem arF_n {base i:Nat} {s:St} {K:St→Prop}:arunF Γ P base [] [] i s K=K s:=by rw[arunF]
end
attribute [go_sem] hrF_t hrF_f hrF_n arF_t arF_f arF_n
end Go.Proofs.YthncdadmkppclaaGreatDoor
