import Derived.Test.YtghmeeifjeafmaaGreatZ07
set_option linter.unusedVariables false
set_option linter.unusedSimpArgs false
namespace Go.Proofs.YtghmeeifjeafmaaGreat
def dok2 (ops:List Oper) (m b:Nat):Bool:=
  let cl:=cls ops []
  dok ops m && decide (b<m)&&(match ops[b]? with|some o=>o.guard.isNone|none=>true)&& ops.zipIdx.all fun (o,i)=> !(decide (i<m)&& i !=b &&(hdep o.op||lays o.op))||wt ops cl i b
section
variable {P:Program} {Γ:TEnv}
def apH (Γ:TEnv) (op:Op) (t:List AV) (H:HP) (id:Nat) (k:AV→HP→Prop):Prop:=
  match op with
  | .call ⟨.builtin .append,args,tys⟩=>match args.toList,tys.toList with
    |[x,y],[t1,t2]=>apop Γ H t1 t2 (evo t x) (evo t y) id k
    |_,_=>False
  |_=>False
section
variable {cX:Ctx}
def hfree (ops:List Oper) (m b:Nat):Bool:=ops.zipIdx.all fun (o,i)=> !(decide (b<i)&& decide (i<m))|| !(hdep o.op||lays o.op)
theorem apH_a {x y:Operand} {t1 t2:TypeId} {t:List AV} {H:HP} {id:Nat} {k:AV→HP→Prop}:apH Γ (.call ⟨.builtin .append,[x,y].toArray,[t1,t2].toArray⟩) t H id k=apop Γ H t1 t2 (evo t x) (evo t y) id k:=rfl
@[congr] theorem apH_cg {op:Op} {t t':List AV} {H H':HP} {id:Nat} {k:AV→HP→Prop} (h:t=t') (h2:H=H'):apH Γ op t H id k=apH Γ op t' H' id k:=by rw[h,h2]
attribute [go_sem ↓] apH_a
end
end
end Go.Proofs.YtghmeeifjeafmaaGreat
namespace Go.Proofs.YtghmeeifjeafmaaGreat
section
variable {P:Program} {Γ:TEnv}
def opT (o:Oper):List Nat:=o.op.operands.toList.filterMap fun| .tmp t=>some t|_=>none
def dokF (ops:List Oper) (m:List Bool):Bool:=
  let cl:=cls ops []
  (ops.zipIdx.all fun (o,j)=>o.after.toList.all fun e=> !Region.binds .any e||e.on<j)&&
  (ops.all fun o=>o.guard.isNone)&&
  (ops.zipIdx.all fun (o,j)=>
    if m.getD j false=true then
      !lays o.op &&
      (match o.dst with|some d=>ops.zipIdx.all fun (o',i)=>i==j|| !(o'.dst==some d)|none=>false)&&
      ((opT o).all fun u=>ops.zipIdx.all fun (o',i)=> !(o'.dst==some u)||(if m.getD i false=true then decide (i<j)&& wt ops cl i j else wt ops cl j i))
    else
      ((List.range j).all fun i=>m.getD i false||wt ops cl i j)&&
      ((opT o).all fun u=>ops.zipIdx.all fun (o',i)=> !(m.getD i false && o'.dst==some u)||wt ops cl i j))
structure DokF (ops:List Oper) (m:List Bool):Prop where
  lt:∀j o,ops[j]? =some o→∀e∈o.after.toList,Region.binds .any e=true→e.on<j
  g:∀(j:Nat) (o:Oper),ops[j]? =some o→o.guard=none
  fl:∀j o,ops[j]? =some o→m.getD j false=true→lays o.op=false∧(∃d,o.dst=some d∧∀i o',ops[i]? =some o'→i≠j→o'.dst≠some d)∧
    ∀u,u∈opT o→∀i o',ops[i]? =some o'→o'.dst=some u→(m.getD i false=true∧i<j∧Waits ops i j)∨(m.getD i false=false∧Waits ops j i)
  sp:∀j o,ops[j]? =some o→m.getD j false=false→(∀i,i<j→m.getD i false=false→Waits ops i j)∧
    ∀u,u∈opT o→∀i o',ops[i]? =some o'→m.getD i false=true→o'.dst=some u→Waits ops i j
theorem zip_all {ops:List Oper} {f:Oper×Nat→Bool} (h:ops.zipIdx.all f=true) {j:Nat} {o:Oper} (ho:ops[j]? =some o):f (o,j)=true:=
  List.all_eq_true.1 h (o,j) (List.mem_iff_getElem?.2 ⟨j,by rw[List.getElem?_zipIdx,ho];simp⟩)
theorem dokF_parts {ops:List Oper} {m:List Bool} (h:dokF ops m=true):DokF ops m:=by
  unfold dokF at h
  simp only[Bool.and_eq_true]at h
  obtain⟨⟨h1,h2⟩,h3⟩:=h
  refine⟨?_,?_,?_,?_⟩
  · intro j o ho e he hb
    have:=List.all_eq_true.1 (zip_all h1 ho) e he
    simpa[hb]using this
  · intro j o ho
    have:=List.all_eq_true.1 h2 o (List.mem_of_getElem? ho)
    simpa using this
  · intro j o ho hm
    have h4:=zip_all h3 ho
    simp only[hm,if_true,Bool.and_eq_true]at h4
    obtain⟨⟨h5,h6⟩,h7⟩:=h4
    refine⟨by simpa using h5,?_,?_⟩
    · cases hd:o.dst with
      |none=>rw[hd]at h6;cases h6
      | some d=>
        rw[hd]at h6
        refine⟨d,rfl,fun i o' hi hij he=>?_⟩
        have:=zip_all h6 hi
        simp[hij,he]at this
    intro u hu i o' hi he
    have h8:=zip_all (List.all_eq_true.1 h7 u hu) hi
    simp only[he,beq_self_eq_true,Bool.not_true,Bool.false_or]at h8
    split at h8
    · rename_i hmi
      simp only[Bool.and_eq_true,decide_eq_true_eq]at h8
      exact .inl ⟨hmi,h8.1,wt_waits h8.2⟩
    rename_i hmi
    exact .inr ⟨by simpa using hmi,wt_waits h8⟩
  intro j o ho hm
  have h4:=zip_all h3 ho
  simp only[hm,Bool.false_eq_true,if_false,Bool.and_eq_true]at h4
  obtain⟨h5,h6⟩:=h4
  refine⟨?_,?_⟩
  · intro i hij hmi
    have:=List.all_eq_true.1 h5 i (List.mem_range.2 hij)
    simp only[hmi,Bool.false_or]at this
    exact wt_waits this
  intro u hu i o' hi hmi he
  have h8:=zip_all (List.all_eq_true.1 h6 u hu) hi
  simp only[hmi,he,beq_self_eq_true,Bool.and_self,Bool.not_true,Bool.false_or]at h8
  exact wt_waits h8
def hrunF (Γ:TEnv) (P:Program) (base:Nat):List Bool→List Oper→Nat→List AV→(List AV→Prop)→Prop
  |true::m,o::rest,i,t,k=>qop Γ P o.op t noH (base+i) fun r _=>hrunF Γ P base m rest (i+1) (putA t o.dst r) k
  |false::m,_::rest,i,t,k=>hrunF Γ P base m rest (i+1) t k
  |[],_,_,t,k=>k t
  |_::_,[],_,t,k=>k t
def arunF (Γ:TEnv) (P:Program) (base:Nat):List Bool→List Oper→Nat→St→(St→Prop)→Prop
  |true::m,_::rest,i,s,K=>arunF Γ P base m rest (i+1) s K
  |false::m,o::rest,i,s,K=>aop Γ P o.dst o.op (base+i) s fun s'=>arunF Γ P base m rest (i+1) s' K
  |[],o::rest,i,s,K=>aop Γ P o.dst o.op (base+i) s fun s'=>arunF Γ P base [] rest (i+1) s' K
  |_,[],_,s,K=>K s
theorem arunF_nil {base i:Nat} {m:List Bool} {s:St} {K:St→Prop} (h:arunF Γ P base m [] i s K):K s:=by
  cases m with
  |nil=>simpa[arunF]using h
  |cons b m=>cases b<;>simpa[arunF]using h
theorem arunF_fl {base i:Nat} {m:List Bool} {o:Oper} {rest:List Oper} {s:St} {K:St→Prop} (hm:m.getD 0 false=true) (h:arunF Γ P base m (o::rest) i s K):arunF Γ P base (m.drop 1) rest (i+1) s K:=by
  cases m with
  |nil=>simp at hm
  | cons b m=>
    simp at hm;subst hm
    simpa[arunF]using h
theorem arunF_sp {base i:Nat} {m:List Bool} {o:Oper} {rest:List Oper} {s:St} {K:St→Prop} (hm:m.getD 0 false=false) (h:arunF Γ P base m (o::rest) i s K):aop Γ P o.dst o.op (base+i) s fun s'=>arunF Γ P base (m.drop 1) rest (i+1) s' K:=by
  cases m with
  |nil=>simpa[arunF]using h
  | cons b m=>
    simp at hm;subst hm
    simpa[arunF]using h
theorem hrunF_head (hG:GOk P Γ) {ops:List Oper} {base:Nat} {m:List Bool} {k:List AV→Prop}:∀(rest:List Oper) (mr:List Bool) (i:Nat) (t:List AV),rest=ops.drop i→mr=m.drop i→hrunF Γ P base mr rest i t k→
    ∃ (T:Nat→List AV) (res:Nat→AV),T i=t∧k (T ops.length)∧(∀j o,i≤j→ops[j]? =some o→m.getD j false=true→T (j+1)=putA (T j) o.dst (res j)∧∃d,QOk P o (evo (T j)) noH (base+j) (res j) d∧(lays o.op=false→d=none))∧
      (∀j,i≤j→j<ops.length→m.getD j false=false→T (j+1)=T j):=by
  intro rest
  induction rest with
  | nil=>
    intro mr i t hr hm h
    have hlen:ops.length≤i:=by
      have:=congrArg List.length hr
      simp at this;omega
    refine⟨fun _=>t,fun _=> .j,rfl,?_,?_,fun j h1 h2=>by omega⟩
    · cases mr with
      |nil=>simpa[hrunF]using h
      |cons b mr=>cases b<;>simpa[hrunF]using h
    intro j o h1 h2
    have:=(List.getElem?_eq_some_iff.1 h2).1;omega
  | cons o rest ih=>
    intro mr i t hr hm h
    have hi:i<ops.length:=by
      apply Classical.byContradiction
      intro hn
      rw[List.drop_eq_nil_of_le (by omega)]at hr;cases hr
    rw[List.drop_eq_getElem_cons hi]at hr
    obtain⟨ho,hr'⟩:=List.cons.inj hr
    have hoi:ops[i]? =some o:=by rw[List.getElem?_eq_getElem hi,ho]
    by_cases hmi:m.getD i false=true
    · have hil:i<m.length:=by
        apply Classical.byContradiction
        intro hn
        rw[List.getD_eq_getElem?_getD,List.getElem?_eq_none (by omega)]at hmi;simp at hmi
      rw[List.drop_eq_getElem_cons hil]at hm
      have hb:m[i]=true:=by simpa[hil]using hmi
      rw[hb]at hm
      subst hm
      simp only[hrunF]at h
      obtain⟨r,d,h1,h2,h3⟩:=qop_ok' hG h
      obtain⟨T,res,g1,g2,g3,g4⟩:=ih _ (i+1) _ hr' rfl h1
      refine⟨fun j=>if j=i then t else T j,fun j=>if j=i then r else res j,by simp,by simp only;rw[if_neg (by omega)];exact g2,?_,?_⟩
      · intro j o' hj ho' hmj
        by_cases e:j=i
        · subst e
          rw[hoi]at ho';cases ho'
          simp only[if_true];rw[if_neg (by omega)]
          exact⟨g1,d,h2,h3⟩
        simp only[e,if_false];rw[if_neg (by omega)]
        exact g3 j o' (by omega) ho' hmj
      intro j hj hjl hmj
      by_cases e:j=i
      · subst e;rw[hmi]at hmj;cases hmj
      simp only[e,if_false];rw[if_neg (by omega)]
      exact g4 j (by omega) hjl hmj
    have hmf:m.getD i false=false:=by simpa using hmi
    have h':∃mr',mr'=m.drop (i+1)∧hrunF Γ P base mr' rest (i+1) t k:=by
      by_cases hil:i<m.length
      · rw[List.drop_eq_getElem_cons hil]at hm
        have hb:m[i]=false:=by simpa[hil]using hmf
        rw[hb]at hm
        subst hm
        simp only[hrunF]at h
        exact⟨_,rfl,h⟩
      rw[List.drop_eq_nil_of_le (by omega)]at hm
      subst hm
      simp only[hrunF]at h
      refine⟨[],by rw[List.drop_eq_nil_of_le (by omega)],?_⟩
      cases rest<;>simpa[hrunF]using h
    obtain⟨mr',e1,h'⟩:=h'
    obtain⟨T,res,g1,g2,g3,g4⟩:=ih mr' (i+1) t hr' e1 h'
    refine⟨fun j=>if j=i then t else T j,res,by simp,by simp only;rw[if_neg (by omega)];exact g2,?_,?_⟩
    · intro j o' hj ho' hmj
      by_cases e:j=i
      · subst e;rw[hmf]at hmj;cases hmj
      simp only[e,if_false];rw[if_neg (by omega)]
      exact g3 j o' (by omega) ho' hmj
    intro j hj hjl hmj
    by_cases e:j=i
    · subst e
      simp only[if_true];rw[if_neg (by omega)]
      exact g1
    simp only[e,if_false];rw[if_neg (by omega)]
    exact g4 j (by omega) hjl hmj
section
variable {cX:Ctx}
theorem aop_soundM (hG:GOk P Γ) {o:Oper} {s:St} {t':List AV} {L:LM} {a:Act} {w:World} {id:Nat} {K':St→Prop} (h:aop Γ P o.dst o.op id s K') (he:∀x∈o.op.operands,evo s.t x=evo t' x) (c:Cn cX ⟨t',s.H,s.nx⟩ L a w) (hid:L id=none) (hlo:id<s.nx) (hn0:cX.nx0≤id)
    {K:Act→World→Prop} {Q:Exit→Act→World→Prop}
    (hK:∀r H' nx' L' a' w',K' ⟨putA s.t o.dst r,H',nx'⟩→s.nx≤nx'→(∀i,i≠id→i<s.nx→L' i=L i)→Cn cX ⟨putA t' o.dst r,H',nx'⟩ L' a' w'→K a' w'):oWp cX.rd P o a w K Q:=by
  have hH:s.H id=none:=by
    cases hh:s.H id with
    |none=>rfl
    |some cs=>obtain⟨l,h1,_⟩:=c.sr.node id cs hh;rw[hid]at h1;cases h1
  have oops:∀{k:AV→HP→Prop},OpS P o (evo s.t) s.H id k→(∀r H',k r H'→K' ⟨putA s.t o.dst r,H',s.nx⟩)→oWp cX.rd P o a w K Q:=by
    intro k hk hkk
    have hk':=hk.ev he
    refine(hk' L cX.Av w a.eval c.sr ⟨_,c.fr⟩ hid hH (fun x _=>c.ev x)).wp ?_
    rintro u w' ⟨r,H',L',h1,h2,h3,h4,h5⟩
    obtain⟨q1,q2,q3⟩:=put_fits (a:=a) c.sz (fun k y hk=>(c.sl k y hk).step h4) o.dst h5
    refine hK r H' s.nx L' _ w' (hkk r H' h1) (Nat.le_refl _) (fun i hi _=>h2 i hi) ⟨dfp q1 (c.df.step c.sr h4),q2,q3,h3,?_,c.nx,?_,c.st.trans h4⟩
    · intro i hi;rw[h2 i (by simp only at hi;omega)];exact c.fr i hi
    intro i hi;rw[h2 i (by omega)];exact c.lo i hi
  have callgo:∀(f:FuncId) (xs:List AV) (us:Array Value),AC P f s.nx s.H xs (fun nx' H' r=>K' ⟨putA s.t o.dst r,H',nx'⟩)→ArgsR L w (MM L s.H cX.Av) xs us→(execOp a.eval o).run P w= .ok (.enter f us) w→oWp cX.rd P o a w K Q:=by
    rintro f xs us ⟨hen,hrun⟩ ha h1
    have h2:=hrun L cX.Av w _ c.sr c.fr ha
    have h3:QV P o a.eval w fun u w'=>∃r L' nx' H',K' ⟨putA s.t o.dst r,H',nx'⟩∧s.nx≤nx'∧(∀i,nx'≤i→L' i=none)∧(∀i,i<s.nx→L' i=L i)∧SR L' H' cX.Av w'∧Step L s.H w L' H' w'∧R L' w' (MM L' H' cX.Av) r u:=by
      unfold QV
      rw[h1]
      exact h2.mono fun e w' ⟨u,r,L',nx',H',g1,g2,g3,g4,g5,g6,g7,g8⟩=>⟨u,g1,r,L',nx',H',g2,g3,g4,g5,g6,g7,g8⟩
    refine h3.wp ?_
    rintro u w' ⟨r,L',nx',H',g1,g2,g3,g4,g5,g6,g7⟩
    obtain⟨q1,q2,q3⟩:=put_fits (a:=a) c.sz (fun k y hk=>(c.sl k y hk).step g6) o.dst g7
    have h6:=c.nx
    refine hK r H' nx' L' _ w' g1 g2 (fun i _ hi=>g4 i hi) ⟨dfp q1 (c.df.step c.sr g6),q2,q3,g5,g3,by simp only at h6 ⊢;omega,?_,c.st.trans g6⟩
    intro i hi;simp only at h6;rw[g4 i (by omega)];exact c.lo i hi
  unfold aop at h
  split at h
  · rename_i op ty x y ty2 ho
    exact oops (nilop_ok hG ho h) (by rintro r H' ⟨hk,rfl⟩;exact hk)
  · rename_i ty x y ho
    exact oops (stop_ok hG ho h) (fun r H' hk=>hk)
  · rename_i args tys ho
    split at h
    · rename_i x y t1 t2 ha ht
      have ha':args=#[x,y]:=by apply Array.ext';simpa using ha
      subst ha'
      exact oops (apop_ok hG ho (by rw[←Array.getElem?_toList,ht];rfl) (by rw[←Array.getElem?_toList,ht];rfl) h) (fun r H' hk=>hk)
    exact h.elim
  · rename_i f args tys ho
    have h1:=run_enter h.1 ho (show a.eval (.func f)= .func (.func f) #[] #[]from rfl) w
    have hmap:args.toList.map (evo s.t)=args.toList.map (evo t'):=List.map_congr_left fun x hx=>he x (by rw[ho];simp only[Op.operands,Call.operands,Array.mem_append];right;simpa using hx)
    rw[hmap]at h
    exact callgo f _ _ h (args_of ho (fun x _=>c.ev x)) h1
  · rename_i n args tys ho
    have hmap:args.toList.map (evo s.t)=args.toList.map (evo t'):=List.map_congr_left fun x hx=>he x (by rw[ho];simp only[Op.operands,Call.operands,Array.mem_append];right;simpa using hx)
    have hn:evo s.t (.tmp n)=evo t' (.tmp n):=he _ (by rw[ho];simp[Op.operands,Call.operands])
    rw[hmap,hn]at h
    unfold fnV at h
    split at h
    · rename_i f cs hv
      have hx:=c.ev (.tmp n)
      rw[hv]at hx
      obtain⟨us,hf,hus⟩:=hx.f_inv
      have h1:=run_enterV h.1 ho hf w
      exact callgo f _ _ h ((args_ofV ho (fun x _=>c.ev x)).append hus) h1
    exact h.elim
  · rename_i ty ho
    exact oops (mkopM_ok ho h) (fun r H' hk=>hk)
  · rename_i ty x i ok ho
    exact oops (mlop_ok hG ho h) (by rintro r H' ⟨hk,rfl⟩;exact hk)
  · rename_i ty x i v ho
    exact oops (muop_ok hG (.inl ho) h) (fun r H' hk=>hk)
  · rename_i ty x i v ho
    exact oops (muop_ok hG (.inr ho) h) (fun r H' hk=>hk)
  · rename_i ty x ho
    exact oops (rgop_ok hG ho h) (fun r H' hk=>hk)
  · rename_i x ho
    exact oops (nxop_ok ho h) (fun r H' hk=>hk)
  · rename_i x ho
    exact oops (enop_ok ho h) (by rintro r H' ⟨hk,rfl⟩;exact hk)
  · rename_i ty x i ho
    exact oops (sxop_ok hG ho h) (by rintro r H' ⟨hk,rfl⟩;exact hk)
  · rename_i sty dty x ho
    exact oops (cvop_ok hG ho h) (by rintro r H' ⟨hk,rfl⟩;exact hk)
  · rename_i args tys ho
    split at h
    · rename_i x y t1 ts ha ht
      have ha':args=#[x,y]:=by apply Array.ext';simpa using ha
      subst ha'
      exact oops (cpop_ok hG ho (by rw[←Array.getElem?_toList,ht];rfl) h) (fun r H' hk=>hk)
    exact h.elim
  obtain⟨r,d,h1,h2⟩:=qop_ok hG h
  exact oops (h2 s.H (fun _ _ h=>h)) (by rintro r' H' ⟨rfl,rfl⟩;exact h1)
theorem op_step {o:Oper} {t':List AV} {H:HP} {nx:Nat} {L:LM} {a:Act} {w:World} {id:Nat} {k:AV→HP→Prop} (h:OpS P o (evo t') H id k) (c:Cn cX ⟨t',H,nx⟩ L a w) (hid:L id=none) (hlo:id<nx) (hn0:cX.nx0≤id)
    {K:Act→World→Prop} {Q:Exit→Act→World→Prop}
    (hK:∀r H' L' a' w',k r H'→(∀i,i≠id→L' i=L i)→Cn cX ⟨putA t' o.dst r,H',nx⟩ L' a' w'→K a' w'):oWp cX.rd P o a w K Q:=by
  have hH:H id=none:=by
    cases hh:H id with
    |none=>rfl
    |some cs=>obtain⟨l,h1,_⟩:=c.sr.node id cs hh;rw[hid]at h1;cases h1
  refine(h L cX.Av w a.eval c.sr ⟨_,c.fr⟩ hid hH (fun x _=>c.ev x)).wp ?_
  rintro u w' ⟨r,H',L',h1,h2,h3,h4,h5⟩
  obtain⟨q1,q2,q3⟩:=put_fits (a:=a) c.sz (fun k y hk=>(c.sl k y hk).step h4) o.dst h5
  refine hK r H' L' _ w' h1 h2 ⟨dfp q1 (c.df.step c.sr h4),q2,q3,h3,?_,c.nx,?_,c.st.trans h4⟩
  · intro i hi;rw[h2 i (by simp only at hi;omega)];exact c.fr i hi
  intro i hi;rw[h2 i (by omega)];exact c.lo i hi
theorem putA_len {t:List AV} {d:Option Nat} {x:AV}:(putA t d x).length=t.length:=by
  cases d<;>simp[putA]
theorem putA_ne {t:List AV} {d:Option Nat} {x:AV} {u:Nat} (h:d≠some u):(putA t d x)[u]? =t[u]? :=by
  cases d with
  |none=>rfl
  |some d=>simp only[putA];exact List.getElem?_set_ne (fun e=>h (by rw[e]))
theorem putA_eq {t t':List AV} {d:Option Nat} {x:AV} {u:Nat} (h:t.length=t'.length) (he:d=some u∨t[u]? =t'[u]?):(putA t d x)[u]? =(putA t' d x)[u]? :=by
  by_cases e:d=some u
  · subst e
    simp only[putA];rw[List.getElem?_set,List.getElem?_set,if_pos rfl,if_pos rfl,h]
  rw[putA_ne e,putA_ne e]
  exact he.resolve_left e
theorem arunF_skip {ops:List Oper} {m:List Bool} {base:Nat} {s:St} {K:St→Prop}:∀(d q:Nat),q+d≤ops.length→(∀i,q≤i→i<q+d→m.getD i false=true)→arunF Γ P base (m.drop q) (ops.drop q) q s K→arunF Γ P base (m.drop (q+d)) (ops.drop (q+d)) (q+d) s K:=by
  intro d
  induction d with
  |zero=>intro q _ _ h;exact h
  | succ d ih=>
    intro q hq hm h
    have hql:q<ops.length:=by omega
    rw[List.drop_eq_getElem_cons hql]at h
    have h1:=arunF_fl (by have:=hm q (Nat.le_refl _) (by omega);simpa[List.getD_eq_getElem?_getD,List.getElem?_drop]using this) h
    rw[List.drop_drop]at h1
    have:=ih (q+1) (by omega) (fun i h1 h2=>hm i (by omega) (by omega)) h1
    rwa [show q+1+d=q+(d+1) by omega]at this
theorem ready_ex {ops:List Oper} {listed:Array Bool} (hlt:∀j o,ops[j]? =some o→∀e∈o.after.toList,Region.binds .any e=true→e.on<j) (hsz:listed.size=ops.length):∀i,i<ops.length→listed.getD i true=false→Region.ready .any ops.toArray listed≠ []:=by
  intro i
  induction i using Nat.strongRecOn with
  | _ i ih=>
    intro hi hn
    by_cases hall:∀j,j<i→listed.getD j true=true
    · intro he
      have:=first_ready hlt hi hsz hall hn
      rw[he]at this;cases this
    obtain⟨j,hj⟩:=Classical.not_forall.1 hall
    obtain⟨h1,h2⟩:=Classical.not_imp.1 hj
    exact ih j h1 (by omega) (by simpa using h2)
theorem T_len {ops:List Oper} {m:List Bool} {T:Nat→List AV} {res:Nat→AV} (hT:∀(j:Nat) (o:Oper),ops[j]? =some o→m.getD j false=true→T (j+1)=putA (T j) o.dst (res j)) (hS:∀j,j<ops.length→m.getD j false=false→T (j+1)=T j):∀j,j≤ops.length→(T j).length=(T 0).length:=by
  intro j
  induction j with
  |zero=>intro _;rfl
  | succ j ih=>
    intro hj
    have hjl:j<ops.length:=by omega
    cases hm:m.getD j false with
    |true=>rw[hT j _ (List.getElem?_eq_getElem hjl) hm,putA_len];exact ih (by omega)
    |false=>rw[hS j hjl hm];exact ih (by omega)
theorem T_keep {ops:List Oper} {m:List Bool} {T:Nat→List AV} {res:Nat→AV} (hT:∀(j:Nat) (o:Oper),ops[j]? =some o→m.getD j false=true→T (j+1)=putA (T j) o.dst (res j)) (hS:∀j,j<ops.length→m.getD j false=false→T (j+1)=T j):∀(u i d:Nat),i+d≤ops.length→(∀g o,i≤g→g<i+d→ops[g]? =some o→m.getD g false=true→o.dst≠some u)→(T (i+d))[u]? =(T i)[u]? :=by
  intro u i d
  induction d with
  |zero=>intro _ _;rfl
  | succ d ih=>
    intro hl hk
    have h1:=ih (by omega) (fun g o a b=>hk g o a (by omega))
    have hjl:i+d<ops.length:=by omega
    have ho:=List.getElem?_eq_getElem hjl
    rw[←Nat.add_assoc]
    cases hm:m.getD (i+d) false with
    |true=>rw[hT _ _ ho hm,putA_ne (hk _ _ (by omega) (by omega) ho hm)];exact h1
    |false=>rw[hS _ hjl hm];exact h1
theorem flt_any (hG:GOk P Γ) {ops:List Oper} {m:List Bool} (hd:DokF ops m) {base:Nat} {T:Nat→List AV} {res:Nat→AV} {Q:Exit→Act→World→Prop} {K':St→Prop}
    (hT:∀j o,ops[j]? =some o→m.getD j false=true→T (j+1)=putA (T j) o.dst (res j)∧∃d,QOk P o (evo (T j)) noH (base+j) (res j) d∧(lays o.op=false→d=none))
    (hS:∀j,j<ops.length→m.getD j false=false→T (j+1)=T j) (hn0:cX.nx0≤base)
    (hQ:∀s' L' a' w',K' s'→Cn cX s' L' a' w'→Q .normal a' w'):
    ∀ (fuel q:Nat) (listed:Array Bool) (s:St) (t':List AV) (L:LM) (a:Act) (w:World),unl ops.length listed≤fuel→listed.size=ops.length→Shut ops listed→q≤ops.length→
      (∀i,i<q→m.getD i false=false→listed.getD i true=true)→(∀i,q≤i→i<ops.length→m.getD i false=false→listed.getD i true=false)→
      arunF Γ P base (m.drop q) (ops.drop q) q s K'→
      (∀u,(∀(j:Nat) (o:Oper),ops[j]? =some o→m.getD j false=false→listed.getD j true=true→o.dst≠some u)→s.t[u]? =(T ops.length)[u]?)→s.t.length=(T ops.length).length→t'.length=s.t.length→
      (∀u,(∀(j:Nat) (o:Oper),ops[j]? =some o→m.getD j false=true→listed.getD j true=false→o.dst≠some u)→t'[u]? =s.t[u]?)→
      Cn cX ⟨t',s.H,s.nx⟩ L a w→(∀i,i<ops.length→listed.getD i true=false→L (base+i)=none)→base+ops.length≤s.nx→
      wpA cX.rd P .any ops.toArray Q fuel listed a w:=by
  have hT':=fun j o ho hm=>(hT j o ho hm).1
  have Tlen:=T_len hT' hS
  have Tkeep:=T_keep hT' hS
  have evT:∀{o:Oper} {t1 t2:List AV},(∀u∈opT o,t1[u]? =t2[u]?)→∀x∈o.op.operands,evo t1 x=evo t2 x:=by
    intro o t1 t2 h x hx
    cases x with
    | tmp u=>
      have:=h u (by unfold opT;exact List.mem_filterMap.2 ⟨.tmp u,by simpa using hx,rfl⟩)
      simp only[evo,List.getD_eq_getElem?_getD,this]
    |_=>simp[evo]
  intro fuel
  induction fuel with
  | zero=>
    intro q listed s t' L a w hf hsz hs hq hq1 hq2 h ha hl1 hl2 hmk hc hfr hnx
    have hall:∀i,i<ops.length→listed.getD i true=true:=by
      intro i hi
      cases hb:listed.getD i true with
      |true=>rfl
      |false=>have:=unl_set hb hi;omega
    have h1:=arunF_skip (ops.length-q) q (by omega) (fun i g1 g2=>by
      cases hb:m.getD i false with
      |true=>rfl
      |false=>have:=hq2 i g1 (by omega) hb;rw[hall i (by omega)]at this;cases this) h
    rw[show q+(ops.length-q)=ops.length by omega,List.drop_length]at h1
    have ht:t'=s.t:=List.ext_getElem? fun u=>hmk u fun j o ho _ hb=>by
      rw[hall j (List.getElem?_eq_some_iff.1 ho).1]at hb;cases hb
    subst ht
    refine⟨?_,hQ _ _ _ _ (arunF_nil h1) hc⟩
    rw[List.eq_nil_iff_forall_not_mem]
    intro i hi'
    obtain⟨h1,h2,_⟩:=ready_iff.1 hi'
    rw[hall i h1]at h2;cases h2
  | succ fuel ih=>
    intro q listed s t' L a w hf hsz hs hq hq1 hq2 h ha hl1 hl2 hmk hc hfr hnx
    refine⟨fun h0=>?_,?_⟩
    · have hall:∀i,i<ops.length→listed.getD i true=true:=by
        intro i hi
        cases hb:listed.getD i true with
        |true=>rfl
        |false=>exact absurd h0 (ready_ex hd.lt hsz i hi hb)
      have h1:=arunF_skip (ops.length-q) q (by omega) (fun i g1 g2=>by
        cases hb:m.getD i false with
        |true=>rfl
        |false=>have:=hq2 i g1 (by omega) hb;rw[hall i (by omega)]at this;cases this) h
      rw[show q+(ops.length-q)=ops.length by omega,List.drop_length]at h1
      have ht:t'=s.t:=List.ext_getElem? fun u=>hmk u fun j o ho _ hb=>by
        rw[hall j (List.getElem?_eq_some_iff.1 ho).1]at hb;cases hb
      subst ht
      exact hQ _ _ _ _ (arunF_nil h1) hc
    intro i hi'
    obtain⟨h1,h2,_⟩:=ready_iff.1 hi'
    have ho:ops[i]? =some ops[i]:=List.getElem?_eq_getElem h1
    have hgd:=hd.g i _ ho
    have hset:∀k,(listed.setIfInBounds i true).getD k true=false↔k≠i∧listed.getD k true=false:=by
      intro k
      rw[get_set h2]
      by_cases e:k=i
      · simp[e]
      simp[e]
    have hun:=unl_set h2 h1
    unfold wpO
    simp only[List.getElem?_toArray,ho]
    rw[if_pos (by simp[Region.wanted,hgd])]
    refine .inl ?_
    cases hm:m.getD i false with
    | true=>
      obtain⟨f1,⟨d,f2,f3⟩,f4⟩:=hd.fl i _ ho hm
      obtain⟨g1,dd,g2,g3⟩:=hT i _ ho hm
      have g3:=g3 f1
      subst g3
      have hev:∀u∈opT ops[i],(T i)[u]? =t'[u]? :=by
        intro u hu
        have hw:=f4 u hu
        have e1:t'[u]? =s.t[u]? :=hmk u fun j o hj hmj hlj he=>by
          rcases hw j o hj he with ⟨_,_,hwt⟩|⟨hmf,_⟩
          · rw[ready_waits hs hi' hwt]at hlj;cases hlj
          rw[hmf]at hmj;cases hmj
        have e2:s.t[u]? =(T ops.length)[u]? :=ha u fun j o hj hmj hlj he=>by
          rcases hw j o hj he with ⟨k1,_,_⟩|⟨_,hwt⟩
          · rw[k1]at hmj;cases hmj
          rw[hs i j hwt hlj]at h2;cases h2
        have e3:=Tkeep u i (ops.length-i) (by omega) (fun g o k1 k2 hg hmg he=>by
          rcases hw g o hg he with ⟨_,k3,_⟩|⟨k3,_⟩
          · omega
          rw[hmg]at k3;cases k3)
        rw[show i+(ops.length-i)=ops.length by omega]at e3
        rw[e1,e2,e3]
      have hop:=(g2 s.H (fun _ _ h=>by cases h)).ev (evT hev)
      refine op_step hop hc (hfr i h1 h2) (by omega) (by omega) ?_
      rintro r H' L' a' w' ⟨rfl,rfl⟩ hL hc'
      refine ih q _ s (putA t' ops[i].dst (res i)) L' a' w' (by omega) (by simpa using hsz) (hs.set hi') hq (fun k hk hmk2=>?_) (fun k k1 k2 hmk2=>?_) h (fun u hu=>ha u fun j o hj hmj hlj=>hu j o hj hmj (by rw[get_set h2];split<;>first|rfl|exact hlj)) hl1 (by rw[putA_len];exact hl2) (fun u hu=>?_) hc' (fun k hk hlk=>?_) hnx
      · rw[get_set h2];split
        · rfl
        exact hq1 k hk hmk2
      · exact(hset k).2 ⟨fun e=>(by rw[e,hm]at hmk2;cases hmk2),hq2 k k1 k2 hmk2⟩
      · by_cases e:u=d
        · subst e
          have e2:s.t[u]? =(T ops.length)[u]? :=ha u fun j o hj hmj _ he=>f3 j o hj (fun e=>by rw[e,hm]at hmj;cases hmj) he
          have e3:=Tkeep u (i+1) (ops.length-(i+1)) (by omega) (fun g o k1 k2 hg hmg he=>f3 g o hg (by omega) he)
          rw[show i+1+(ops.length-(i+1))=ops.length by omega]at e3
          rw[e2,e3,g1,f2]
          exact putA_eq (by rw[hl2,hl1,Tlen _ (Nat.le_refl _),Tlen i (by omega)]) (.inl rfl)
        rw[putA_ne (by rw[f2];intro e2;cases e2;exact e rfl)]
        refine hmk u fun j o hj hmj hlj he=>?_
        by_cases ej:j=i
        · subst ej;rw[ho]at hj;cases hj;rw[f2]at he;cases he;exact e rfl
        exact hu j o hj hmj ((hset j).2 ⟨ej,hlj⟩) he
      obtain⟨k1,k2⟩:=(hset k).1 hlk
      rw[hL _ (by omega)];exact hfr k hk k2
    | false=>
      obtain⟨f1,f2⟩:=hd.sp i _ ho hm
      have hqi:q≤i:=by
        apply Classical.byContradiction
        intro hn
        rw[hq1 i (by omega) hm]at h2;cases h2
      have hsk:∀k,q≤k→k<q+(i-q)→m.getD k false=true:=by
        intro k k1 k2
        cases hb:m.getD k false with
        |true=>rfl
        | false=>
          have:=ready_waits hs hi' (f1 k (by omega) hb)
          rw[hq2 k k1 (by omega) hb]at this;cases this
      have h3:=arunF_skip (i-q) q (by omega) hsk h
      rw[show q+(i-q)=i by omega,List.drop_eq_getElem_cons h1]at h3
      have h4:=arunF_sp (by simpa[List.getD_eq_getElem?_getD,List.getElem?_drop]using hm) h3
      rw[List.drop_drop]at h4
      have hev:∀u∈opT ops[i],s.t[u]? =t'[u]? :=by
        intro u hu
        exact(hmk u fun j o hj hmj hlj he=>by
          rw[ready_waits hs hi' (f2 u hu j o hj hmj he)]at hlj;cases hlj).symm
      refine aop_soundM hG h4 (evT hev) hc (hfr i h1 h2) (by omega) (by omega) ?_
      intro r H' nx' L' a' w' hk hnx' hL hc'
      refine ih (i+1) _ ⟨putA s.t ops[i].dst r,H',nx'⟩ (putA t' ops[i].dst r) L' a' w' (by omega) (by simpa using hsz) (hs.set hi') (by omega) (fun k hk hmk2=>?_) (fun k k1 k2 hmk2=>?_) (by simpa[Nat.add_comm]using hk) (fun u hu=>?_) (by simp only[putA_len];exact hl1) (by simp only[putA_len];exact hl2) (fun u hu=>?_) hc' (fun k hk hlk=>?_) (by simp only;omega)
      · rw[get_set h2];split
        · rfl
        rename_i e
        rcases Nat.lt_or_ge k q with hkq|hkq
        · exact hq1 k hkq hmk2
        rw[hsk k hkq (by omega)]at hmk2;cases hmk2
      · exact(hset k).2 ⟨by omega,hq2 k (by omega) k2 hmk2⟩
      · simp only
        rw[putA_ne (hu i _ ho hm (by rw[get_set h2,if_pos rfl]))]
        exact ha u fun j o hj hmj hlj=>hu j o hj hmj (by rw[get_set h2];split<;>first|rfl|exact hlj)
      · simp only
        refine putA_eq hl2 (.inr (hmk u fun j o hj hmj hlj he=>?_))
        exact hu j o hj hmj ((hset j).2 ⟨fun e=>(by rw[e,hm]at hmj;cases hmj),hlj⟩) he
      obtain⟨k1,k2⟩:=(hset k).1 hlk
      rw[hL _ (by omega) (by omega)];exact hfr k hk k2
end
theorem AW.drawF {cX:Ctx} (hG:GOk P Γ) (hmx:P.follows .mixedOrders=true) {n:Nat} {ops:List Oper} {s:St} {K:Exit→St→Prop} (m:List Bool) (hdk:dokF ops m=true)
    (h:hrunF Γ P s.nx m ops 0 s.t fun t=>arunF Γ P s.nx m ops 0 ⟨t,s.H,s.nx+ops.length⟩ (K .normal)):AW cX P (.region n ops.toArray true) s K:=by
  intro L a w Q hc hQ
  have hd:=dokF_parts hdk
  refine wpA_region hmx ?_
  obtain⟨T,res,h1,h2,h3,h4⟩:=hrunF_head hG (ops:=ops) (m:=m) ops m 0 s.t (by simp) (by simp) h
  have hdr:Cn cX ⟨s.t,s.H,s.nx+ops.length⟩ L a {w with drawn:=w.drawn+1}:=
    ⟨hc.df.same rfl,hc.sz,fun k x hk=>(hc.sl k x hk).drew,hc.sr.drew,fun i hi=>hc.fr i (by simp only at hi;omega),by have:=hc.nx;simp only;omega,hc.lo,hc.st.trans (Step.drew _ _ _)⟩
  have:=flt_any (Q:=Q) hG hd (base:=s.nx) (T:=T) (res:=res) (fun j o ho hm=>h3 j o (Nat.zero_le _) ho hm) (fun j hj hm=>h4 j (Nat.zero_le _) hj hm) hc.nx (fun s' L' a' w' hk hc'=>hQ _ _ _ _ _ hk hc')
    ops.length 0 (Array.replicate ops.length false) ⟨T ops.length,s.H,s.nx+ops.length⟩ s.t L a {w with drawn:=w.drawn+1} (by
      unfold unl
      exact Nat.le_trans (List.length_filter_le _ _) (by simp)) (by simp) (by
      intro i j hw hj
      have:=hw.len
      simp[Array.getD_eq_getD_getElem?,this]at hj) (Nat.zero_le _) (fun i hi=>by omega) (fun i _ hi _=>by
      simp[Array.getD_eq_getD_getElem?,hi]) (by simpa using h2) (fun u _=>rfl) rfl ?_ ?_ hdr (fun i hi _=>hc.fr _ (by omega)) (by simp only;omega)
  · simpa using this
  · simp only
    rw[T_len (fun j o ho hm=>(h3 j o (Nat.zero_le _) ho hm).1) (fun j hj hm=>h4 j (Nat.zero_le _) hj hm) _ (Nat.le_refl _),h1]
  intro u hu
  have:=T_keep (fun j o ho hm=>(h3 j o (Nat.zero_le _) ho hm).1) (fun j hj hm=>h4 j (Nat.zero_le _) hj hm) u 0 ops.length (by omega) (fun g o _ hg ho hm=>hu g o ho hm (by
    have:=(List.getElem?_eq_some_iff.1 ho).1
    simp[Array.getD_eq_getD_getElem?,this]))
  rw[Nat.zero_add]at this
  simp only
  rw[this,h1]
@[congr] theorem hrunF_cg {base i:Nat} {m:List Bool} {rest:List Oper} {t t':List AV} {k:List AV→Prop} (h:t=t'):hrunF Γ P base m rest i t k=hrunF Γ P base m rest i t' k:=by rw[h]
@[congr] theorem arunF_cg {base i:Nat} {m:List Bool} {rest:List Oper} {s s':St} {K:St→Prop} (h:s=s'):arunF Γ P base m rest i s K=arunF Γ P base m rest i s' K:=by rw[h]
theorem hrF_t {base i:Nat} {m:List Bool} {rest:List Oper} {t:List AV} {k:List AV→Prop} {dst:Option Nat} {op:Op} {ty:TypeId} {pos:String} {after:Array Edge} {g:Option (Nat×Bool)}:
    hrunF Γ P base (true::m) (⟨dst,op,ty,pos,after,g⟩::rest) i t k=qop Γ P op t noH (base+i) fun r _=>hrunF Γ P base m rest (i+1) (putA t dst r) k:=by rw[hrunF]
theorem hrF_f {base i:Nat} {m:List Bool} {o:Oper} {rest:List Oper} {t:List AV} {k:List AV→Prop}:hrunF Γ P base (false::m) (o::rest) i t k=hrunF Γ P base m rest (i+1) t k:=by rw[hrunF]
theorem hrF_n {base i:Nat} {rest:List Oper} {t:List AV} {k:List AV→Prop}:hrunF Γ P base [] rest i t k=k t:=by cases rest<;>rw[hrunF]
theorem arF_t {base i:Nat} {m:List Bool} {o:Oper} {rest:List Oper} {s:St} {K:St→Prop}:arunF Γ P base (true::m) (o::rest) i s K=arunF Γ P base m rest (i+1) s K:=by rw[arunF]
theorem arF_f {base i:Nat} {m:List Bool} {rest:List Oper} {s:St} {K:St→Prop} {dst:Option Nat} {op:Op} {ty:TypeId} {pos:String} {after:Array Edge} {g:Option (Nat×Bool)}:
    arunF Γ P base (false::m) (⟨dst,op,ty,pos,after,g⟩::rest) i s K=aop Γ P dst op (base+i) s fun s'=>arunF Γ P base m rest (i+1) s' K:=by rw[arunF]
theorem arF_n {base i:Nat} {s:St} {K:St→Prop}:arunF Γ P base [] [] i s K=K s:=by rw[arunF]
end
attribute [go_sem] hrF_t hrF_f hrF_n arF_t arF_f arF_n
end Go.Proofs.YtghmeeifjeafmaaGreat
