import Derived.Test.YtgknbnkmilddhaaGreatZ06
set_option linter.unusedVariables false
set_option linter.unusedSimpArgs false

namespace Go.Proofs.YtgknbnkmilddhaaGreat
section
variable{P:Program}{Γ:CA}
section
variable{cX:Ctx}
def SA(ops:List Oper)(m b:Nat):Bool:=ops.zipIdx.all λ(o,i)=> !(decide (b<i)&& decide (i<m))|| !(UC o.op||lays o.op)

end
end
end Go.Proofs.YtgknbnkmilddhaaGreat

namespace Go.Proofs.YtgknbnkmilddhaaGreat
section
variable{P:Program}{Γ:CA}
def qC(o:Oper):List Nat:=o.op.operands.toList.filterMap fun| .tmp t=>some t|_=>none
def A12(ops:List Oper)(m:List Bool):Bool:=
  let cl:=cls ops []
  (ops.zipIdx.all λ(o,j)=>o.after.toList.all λe=> !Region.binds .any e||e.on<j)&&
  (ops.all λo=>o.guard.isNone)&&
  (ops.zipIdx.all λ(o,j)=>
    if m.getD j false=true then
      !lays o.op &&
      (match o.dst with|some d=>ops.zipIdx.all λ(o',i)=>i==j|| !(o'.dst==some d)|none=>false)&&
      ((qC o).all λu=>ops.zipIdx.all λ(o',i)=> !(o'.dst==some u)||(if m.getD i false=true then decide (i<j)&& wt ops cl i j else wt ops cl j i))
    else
      ((List.range j).all λi=>m.getD i false||wt ops cl i j)&&
      ((qC o).all λu=>ops.zipIdx.all λ(o',i)=> !(m.getD i false && o'.dst==some u)||wt ops cl i j))
structure A6H(ops:List Oper)(m:List Bool):Prop where
  lt:∀j o,ops[j]? =some o->∀e∈o.after.toList,Region.binds .any e=true->e.on<j
  g:∀(j:Nat) (o:Oper),ops[j]? =some o->o.guard=none
  fl:∀j o,ops[j]? =some o->m.getD j false=true->lays o.op=false/\(∃d,o.dst=some d/\∀i o',ops[i]? =some o'->i≠j->o'.dst≠some d)/\
    ∀u,u∈qC o->∀i o',ops[i]? =some o'->o'.dst=some u->(m.getD i false=true/\i<j/\EI ops i j)\/(m.getD i false=false/\EI ops j i)
  sp:∀j o,ops[j]? =some o->m.getD j false=false->(∀i,i<j->m.getD i false=false->EI ops i j)/\
    ∀u,u∈qC o->∀i o',ops[i]? =some o'->m.getD i false=true->o'.dst=some u->EI ops i j
theorem GZ{ops:List Oper}{f:Oper×Nat->Bool}(h:ops.zipIdx.all f=true){j:Nat}{o:Oper}(ho:ops[j]? =some o):f (o,j)=true:=
  List.all_eq_true.1 h (o,j) (List.mem_iff_getElem?.2 ⟨j,by rw[List.getElem?_zipIdx,ho];simp⟩)
theorem rX{ops:List Oper}{m:List Bool}(h:A12 ops m=true):A6H ops m:=by
  unfold A12 at h;simp only[Bool.and_eq_true]at h;obtain⟨⟨h1,h2⟩,h3⟩:=h;refine⟨?_,?_,?_,?_⟩
  · intro j o ho e he hb;have:=List.all_eq_true.1 (GZ h1 ho) e he;simpa[hb]using this
  · intro j o ho;have:=List.all_eq_true.1 h2 o (List.mem_of_getElem? ho);simpa using this
  · intro j o ho hm;have h4:=GZ h3 ho;simp only[hm,if_true,Bool.and_eq_true]at h4;obtain⟨⟨h5,h6⟩,h7⟩:=h4;refine⟨by simpa using h5,?_,?_⟩
    · cases hd:o.dst with
      |none=>rw[hd]at h6;cases h6
      | some d=>
        rw[hd]at h6;refine⟨d,rfl,λi o' hi NZ he=>?_⟩;have:=GZ h6 hi;simp[NZ,he]at this
    intro u hu i o' hi he;have h8:=GZ (List.all_eq_true.1 h7 u hu) hi;simp only[he,beq_self_eq_true,Bool.not_true,Bool.false_or]at h8;split at h8
    · rename_i iM;simp only[Bool.and_eq_true,decide_eq_true_eq]at h8;exact .inl ⟨iM,h8.1,F0 h8.2⟩
    rename_i iM;exact .inr ⟨by simpa using iM,F0 h8⟩
  intro j o ho hm;have h4:=GZ h3 ho;simp only[hm,Bool.false_eq_true,if_false,Bool.and_eq_true]at h4;obtain⟨h5,h6⟩:=h4;refine⟨?_,?_⟩
  · intro i NZ iM;have:=List.all_eq_true.1 h5 i (List.mem_range.2 NZ);simp only[iM,Bool.false_or]at this;exact F0 this
  intro u hu i o' hi iM he;have h8:=GZ (List.all_eq_true.1 h6 u hu) hi;simp only[iM,he,beq_self_eq_true,Bool.and_self,Bool.not_true,Bool.false_or]at h8;exact F0 h8
def GD(Γ:CA)(P:Program)(base:Nat):List Bool->List Oper->Nat->List AV->(List AV->Prop)->Prop
  |true::m,o::rest,i,t,k=>RF Γ P o.op t BM (base+i) λr _=>GD Γ P base m rest (i+1) (BG t o.dst r) k
  |false::m,_::rest,i,t,k=>GD Γ P base m rest (i+1) t k
  |[],_,_,t,k=>k t
  |_::_,[],_,t,k=>k t
def EN(Γ:CA)(P:Program)(base:Nat):List Bool->List Oper->Nat->St->(St->Prop)->Prop
  |true::m,_::rest,i,s,K=>EN Γ P base m rest (i+1) s K
  |false::m,o::rest,i,s,K=>IG Γ P o.dst o.op (base+i) s λs'=>EN Γ P base m rest (i+1) s' K
  |[],o::rest,i,s,K=>IG Γ P o.dst o.op (base+i) s λs'=>EN Γ P base [] rest (i+1) s' K
  |_,[],_,s,K=>K s
theorem iN{base i:Nat}{m:List Bool}{s:St}{K:St->Prop}(h:EN Γ P base m [] i s K):K s:=by
  cases m with
  |nil=>simpa[EN]using h
  |cons b m=>cases b<;>simpa[EN]using h
theorem Em{base i:Nat}{m:List Bool}{o:Oper}{rest:List Oper}{s:St}{K:St->Prop}(hm:m.getD 0 false=true)(h:EN Γ P base m (o::rest) i s K):EN Γ P base (m.drop 1) rest (i+1) s K:=by
  cases m with
  |nil=>simp at hm
  | cons b m=>
    simp at hm;subst hm;simpa[EN]using h
theorem En{base i:Nat}{m:List Bool}{o:Oper}{rest:List Oper}{s:St}{K:St->Prop}(hm:m.getD 0 false=false)(h:EN Γ P base m (o::rest) i s K):IG Γ P o.dst o.op (base+i) s λs'=>EN Γ P base (m.drop 1) rest (i+1) s' K:=by
  cases m with
  |nil=>simpa[EN]using h
  | cons b m=>
    simp at hm;subst hm;simpa[EN]using h
theorem cR(hG:IB P Γ){ops:List Oper}{base:Nat}{m:List Bool}{k:List AV->Prop}:∀(rest:List Oper) (mr:List Bool) (i:Nat) (t:List AV),rest=ops.drop i->mr=m.drop i->GD Γ P base mr rest i t k->
    ∃ (T:Nat->List AV) (res:Nat->AV),T i=t/\k (T ops.length)/\(∀j o,i<=j->ops[j]? =some o->m.getD j false=true->T (j+1)=BG (T j) o.dst (res j)/\∃d,EZ P o (BQ (T j)) BM (base+j) (res j) d/\(lays o.op=false->d=none))/\
      (∀j,i<=j->j<ops.length->m.getD j false=false->T (j+1)=T j):=by
  intro rest;induction rest with
  | nil=>
    intro mr i t hr hm h;have hlen:ops.length<=i:=by
      have:=congrArg List.length hr;simp at this;omega
    refine⟨λ_=>t,λ_=> .j,rfl,?_,?_,λj h1 h2=>A0⟩
    · cases mr with
      |nil=>simpa[GD]using h
      |cons b mr=>cases b<;>simpa[GD]using h
    intro j o h1 h2;have:=(List.getElem?_eq_some_iff.1 h2).1;omega
  | cons o rest ih=>
    intro mr i t hr hm h;have hi:i<ops.length:=by
      apply Classical.byContradiction;intro hn;rw[List.drop_eq_nil_of_le A0]at hr;cases hr
    rw[List.drop_eq_getElem_cons hi]at hr;obtain⟨ho,hr'⟩:=List.cons.inj hr;have bM:ops[i]? =some o:=by rw[List.getElem?_eq_getElem hi,ho]
    by_cases iM:m.getD i false=true
    · have T9:i<m.length:=by
        apply Classical.byContradiction;intro hn;rw[List.getD_eq_getElem?_getD,List.getElem?_eq_none A0]at iM;simp at iM
      rw[List.drop_eq_getElem_cons T9]at hm;have hb:m[i]=true:=by simpa[T9]using iM
      rw[hb]at hm;subst hm;simp only[GD]at h;obtain⟨r,d,h1,h2,h3⟩:=ZZ hG h;obtain⟨T,res,g1,g2,g3,g4⟩:=ih _ (i+1) _ hr' rfl h1;refine⟨λj=>if j=i then t else T j,λj=>if j=i then r else res j,AB,by simp only;rw[if_neg A0];exact g2,?_,?_⟩
      · intro j o' hj Cs HB;by_cases e:j=i
        · subst e;rw[bM]at Cs;cases Cs;simp only[if_true];rw[if_neg A0];exact⟨g1,d,h2,h3⟩
        simp only[e,if_false];rw[if_neg A0];exact g3 j o' A0 Cs HB
      intro j hj bN HB;by_cases e:j=i
      · subst e;rw[iM]at HB;cases HB
      simp only[e,if_false];rw[if_neg A0];exact g4 j A0 bN HB
    have hmf:m.getD i false=false:=by simpa using iM
    have h':∃mr',mr'=m.drop (i+1)/\GD Γ P base mr' rest (i+1) t k:=by
      by_cases T9:i<m.length
      · rw[List.drop_eq_getElem_cons T9]at hm;have hb:m[i]=false:=by simpa[T9]using hmf
        rw[hb]at hm;subst hm;simp only[GD]at h;exact⟨_,rfl,h⟩
      rw[List.drop_eq_nil_of_le A0]at hm;subst hm;simp only[GD]at h;refine⟨[],by rw[List.drop_eq_nil_of_le A0],?_⟩;cases rest<;>simpa[GD]using h
    obtain⟨mr',e1,h'⟩:=h';obtain⟨T,res,g1,g2,g3,g4⟩:=ih mr' (i+1) t hr' e1 h';refine⟨λj=>if j=i then t else T j,res,AB,by simp only;rw[if_neg A0];exact g2,?_,?_⟩
    · intro j o' hj Cs HB;by_cases e:j=i
      · subst e;rw[hmf]at HB;cases HB
      simp only[e,if_false];rw[if_neg A0];exact g3 j o' A0 Cs HB
    intro j hj bN HB;by_cases e:j=i
    · subst e;simp only[if_true];rw[if_neg A0];exact g1
    simp only[e,if_false];rw[if_neg A0];exact g4 j A0 bN HB
section
variable{cX:Ctx}
theorem cS(hG:IB P Γ){o:Oper}{s:St}{t':List AV}{L:LM}{a:Act}{w:World}{id:Nat}{K':St->Prop}(h:IG Γ P o.dst o.op id s K')(he:∀x∈o.op.operands,BQ s.t x=BQ t' x)(c:Cn cX ⟨t',s.H,s.nx⟩ L a w)(DS:L id=none)(MD:id<s.nx)(PH:cX.Ui<=id)
    {K:Act->World->Prop} {Q:Exit->Act->World->Prop}
    (hK:∀r H' BB L' a' w',K' ⟨BG s.t o.dst r,H',BB⟩->s.nx<=BB->(∀i,i≠id->i<s.nx->L' i=L i)->Cn cX ⟨BG t' o.dst r,H',BB⟩ L' a' w'->K a' w'):Bi cX.rd P o a w K Q:=by
  have hH:s.H id=none:=by
    cases hh:s.H id with
    |none=>rfl
    |some cs=>obtain⟨l,h1,_⟩:=c.sr.node id cs hh;rw[DS]at h1;cases h1
  have UZ:∀{k:AV->HP->Prop},fT P o (BQ s.t) s.H id k->(∀r H',k r H'->K' ⟨BG s.t o.dst r,H',s.nx⟩)->Bi cX.rd P o a w K Q:=by
    intro k hk hkk;have KH:=hk.ev he;refine(KH L cX.Av w a.eval c.sr ⟨_,c.fr⟩ DS hH (λx _=>c.ev x)).wp ?_;rintro u w' ⟨r,H',L',h1,h2,h3,h4,h5⟩;obtain⟨q1,q2,q3⟩:=J4 (a:=a) c.sz (λk y hk=>(c.sl k y hk).step h4) o.dst h5;refine hK r H' s.nx L' _ w' (hkk r H' h1) (Nat.le_refl _) (λi hi _=>h2 i hi) ⟨Nk q1 (c.df.step c.sr h4),q2,q3,h3,?_,c.nx,?_,c.st.trans h4⟩
    · intro i hi;rw[h2 i (by simp only at hi;omega)];exact c.fr i hi
    intro i hi;rw[h2 i A0];exact c.lo i hi
  have bK:∀(f:FuncId) (xs:List AV) (us:Array Value),AC P f s.nx s.H xs (λBB H' r=>K' ⟨BG s.t o.dst r,H',BB⟩)->ID L w (MM L s.H cX.Av) xs us->(execOp a.eval o).run P w= .ok (.enter f us) w->Bi cX.rd P o a w K Q:=by
    rintro f xs us ⟨Lr,E8⟩ ha h1;have h2:=E8 L cX.Av w _ c.sr c.fr ha;have h3:QV P o a.eval w λu w'=>∃r L' BB H',K' ⟨BG s.t o.dst r,H',BB⟩/\s.nx<=BB/\(∀i,BB<=i->L' i=none)/\(∀i,i<s.nx->L' i=L i)/\SR L' H' cX.Av w'/\Step L s.H w L' H' w'/\R L' w' (MM L' H' cX.Av) r u:=by
      unfold QV;rw[h1];exact h2.mono λe w' ⟨u,r,L',BB,H',g1,g2,g3,g4,g5,g6,g7,g8⟩=>⟨u,g1,r,L',BB,H',g2,g3,g4,g5,g6,g7,g8⟩
    refine h3.wp ?_;rintro u w' ⟨r,L',BB,H',g1,g2,g3,g4,g5,g6,g7⟩;obtain⟨q1,q2,q3⟩:=J4 (a:=a) c.sz (λk y hk=>(c.sl k y hk).step g6) o.dst g7;have h6:=c.nx;refine hK r H' BB L' _ w' g1 g2 (λi _ hi=>g4 i hi) ⟨Nk q1 (c.df.step c.sr g6),q2,q3,g5,g3,by simp only at h6 ⊢;omega,?_,c.st.trans g6⟩;intro i hi;simp only at h6;rw[g4 i A0];exact c.lo i hi
  unfold IG at h;split at h
  · rename_i op ty x y ty2 ho;exact UZ (nC hG ho h) (by rintro r H' ⟨hk,rfl⟩;exact hk)
  · rename_i ty x y ho;exact UZ (uA hG ho h) (λr H' hk=>hk)
  · rename_i args ED ho;split at h
    · rename_i x y t1 t2 ha ht;have WB:args=#[x,y]:=by apply Array.ext';simpa using ha
      subst WB;exact UZ (uD hG ho (by rw[<-Array.getElem?_toList,ht];rfl) (by rw[<-Array.getElem?_toList,ht];rfl) h) (λr H' hk=>hk)
    exact h.elim
  · rename_i f args ED ho;have h1:=WK h.1 ho (show a.eval (.func f)= .func (.func f) #[] #[]from rfl) w;have A13:args.toList.map (BQ s.t)=args.toList.map (BQ t'):=List.map_congr_left λx hx=>he x (by rw[ho];simp only[Op.operands,Call.operands,Array.mem_append];right;simpa using hx)
    rw[A13]at h;exact bK f _ _ h (jI ho (λx _=>c.ev x)) h1
  · rename_i n args ED ho;have A13:args.toList.map (BQ s.t)=args.toList.map (BQ t'):=List.map_congr_left λx hx=>he x (by rw[ho];simp only[Op.operands,Call.operands,Array.mem_append];right;simpa using hx)
    have hn:BQ s.t (.tmp n)=BQ t' (.tmp n):=he _ (by rw[ho];simp[Op.operands,Call.operands]);rw[A13,hn]at h;unfold Nc at h;split at h
    · rename_i f cs hv;have hx:=c.ev (.tmp n);rw[hv]at hx;obtain⟨us,hf,Li⟩:=hx.mY;have h1:=T7 h.1 ho hf w;exact bK f _ _ h ((bG ho (λx _=>c.ev x)).append Li) h1
    exact h.elim
  · rename_i ty ho;exact UZ (n7 ho h) (λr H' hk=>hk)
  · rename_i ty x i ok ho;exact UZ (uI hG ho h) (by rintro r H' ⟨hk,rfl⟩;exact hk)
  · rename_i ty x i v ho;exact UZ (a7 hG (.inl ho) h) (λr H' hk=>hk)
  · rename_i ty x i v ho;exact UZ (a7 hG (.inr ho) h) (λr H' hk=>hk)
  · rename_i ty x ho;exact UZ (uJ hG ho h) (λr H' hk=>hk)
  · rename_i x ho;exact UZ (uL ho h) (λr H' hk=>hk)
  · rename_i x ho;exact UZ (uM ho h) (by rintro r H' ⟨hk,rfl⟩;exact hk)
  · rename_i ty x i ho;exact UZ (uN hG ho h) (by rintro r H' ⟨hk,rfl⟩;exact hk)
  · rename_i sty dty x ho;exact UZ (uP hG ho h) (by rintro r H' ⟨hk,rfl⟩;exact hk)
  · rename_i args ED ho;split at h
    · rename_i x y t1 ts ha ht;have WB:args=#[x,y]:=by apply Array.ext';simpa using ha
      subst WB;exact UZ (uQ hG ho (by rw[<-Array.getElem?_toList,ht];rfl) h) (λr H' hk=>hk)
    exact h.elim
  obtain⟨r,d,h1,h2⟩:=Cd hG h;exact UZ (h2 s.H (λ_ _ h=>h)) (by rintro r' H' ⟨rfl,rfl⟩;exact h1)
theorem vL{o:Oper}{t':List AV}{H:HP}{nx:Nat}{L:LM}{a:Act}{w:World}{id:Nat}{k:AV->HP->Prop}(h:fT P o (BQ t') H id k)(c:Cn cX ⟨t',H,nx⟩ L a w)(DS:L id=none)(MD:id<nx)(PH:cX.Ui<=id)
    {K:Act->World->Prop} {Q:Exit->Act->World->Prop}
    (hK:∀r H' L' a' w',k r H'->(∀i,i≠id->L' i=L i)->Cn cX ⟨BG t' o.dst r,H',nx⟩ L' a' w'->K a' w'):Bi cX.rd P o a w K Q:=by
  have hH:H id=none:=by
    cases hh:H id with
    |none=>rfl
    |some cs=>obtain⟨l,h1,_⟩:=c.sr.node id cs hh;rw[DS]at h1;cases h1
  refine(h L cX.Av w a.eval c.sr ⟨_,c.fr⟩ DS hH (λx _=>c.ev x)).wp ?_;rintro u w' ⟨r,H',L',h1,h2,h3,h4,h5⟩;obtain⟨q1,q2,q3⟩:=J4 (a:=a) c.sz (λk y hk=>(c.sl k y hk).step h4) o.dst h5;refine hK r H' L' _ w' h1 h2 ⟨Nk q1 (c.df.step c.sr h4),q2,q3,h3,?_,c.nx,?_,c.st.trans h4⟩
  · intro i hi;rw[h2 i (by simp only at hi;omega)];exact c.fr i hi
  intro i hi;rw[h2 i A0];exact c.lo i hi
theorem KZ{t:List AV}{d:Option Nat}{x:AV}:(BG t d x).length=t.length:=by
  cases d<;>simp[BG]
theorem OF{t:List AV}{d:Option Nat}{x:AV}{u:Nat}(h:d≠some u):(BG t d x)[u]? =t[u]? :=by
  cases d with
  |none=>rfl
  |some d=>simp only[BG];exact List.getElem?_set_ne (λe=>h (by rw[e]))
theorem aE{t t':List AV}{d:Option Nat}{x:AV}{u:Nat}(h:t.length=t'.length)(he:d=some u\/t[u]? =t'[u]?):(BG t d x)[u]? =(BG t' d x)[u]? :=by
  by_cases e:d=some u
  · subst e;simp only[BG];rw[List.getElem?_set,List.getElem?_set,if_pos rfl,if_pos rfl,h]
  rw[OF e,OF e];exact he.resolve_left e
theorem TL{ops:List Oper}{m:List Bool}{base:Nat}{s:St}{K:St->Prop}:∀(d q:Nat),q+d<=ops.length->(∀i,q<=i->i<q+d->m.getD i false=true)->EN Γ P base (m.drop q) (ops.drop q) q s K->EN Γ P base (m.drop (q+d)) (ops.drop (q+d)) (q+d) s K:=by
  intro d;induction d with
  |zero=>intro q _ _ h;exact h
  | succ d ih=>
    intro q hq hm h;have nY:q<ops.length:=A0;rw[List.drop_eq_getElem_cons nY]at h;have h1:=Em (by have:=hm q (Nat.le_refl _) A0;simpa[List.getD_eq_getElem?_getD,List.getElem?_drop]using this) h;rw[List.drop_drop]at h1;have:=ih (q+1) A0 (λi h1 h2=>hm i A0 A0) h1;rwa [show q+1+d=q+(d+1) by omega]at this
theorem nZ{ops:List Oper}{AE:Array Bool}(C4:∀j o,ops[j]? =some o->∀e∈o.after.toList,Region.binds .any e=true->e.on<j)(FV:AE.size=ops.length):∀i,i<ops.length->AE.getD i true=false->Region.ready .any ops.toArray AE≠ []:=by
  intro i;induction i using Nat.strongRecOn with
  | _ i ih=>
    intro hi hn;by_cases K6:∀j,j<i->AE.getD j true=true
    · intro he;have:=PU C4 hi FV K6 hn;rw[he]at this;cases this
    obtain⟨j,hj⟩:=Classical.not_forall.1 K6;obtain⟨h1,h2⟩:=Classical.not_imp.1 hj;exact ih j h1 A0 (by simpa using h2)
theorem vM{ops:List Oper}{m:List Bool}{T:Nat->List AV}{res:Nat->AV}(hT:∀(j:Nat) (o:Oper),ops[j]? =some o->m.getD j false=true->T (j+1)=BG (T j) o.dst (res j))(hS:∀j,j<ops.length->m.getD j false=false->T (j+1)=T j):∀j,j<=ops.length->(T j).length=(T 0).length:=by
  intro j;induction j with
  |zero=>intro _;rfl
  | succ j ih=>
    intro hj;have bN:j<ops.length:=A0;cases hm:m.getD j false with
    |true=>rw[hT j _ (List.getElem?_eq_getElem bN) hm,KZ];exact ih A0
    |false=>rw[hS j bN hm];exact ih A0
theorem kH{ops:List Oper}{m:List Bool}{T:Nat->List AV}{res:Nat->AV}(hT:∀(j:Nat) (o:Oper),ops[j]? =some o->m.getD j false=true->T (j+1)=BG (T j) o.dst (res j))(hS:∀j,j<ops.length->m.getD j false=false->T (j+1)=T j):∀(u i d:Nat),i+d<=ops.length->(∀g o,i<=g->g<i+d->ops[g]? =some o->m.getD g false=true->o.dst≠some u)->(T (i+d))[u]? =(T i)[u]? :=by
  intro u i d;induction d with
  |zero=>intro _ _;rfl
  | succ d ih=>
    intro hl hk;have h1:=ih A0 (λg o a b=>hk g o a A0);have bN:i+d<ops.length:=A0;have ho:=List.getElem?_eq_getElem bN;rw[<-Nat.add_assoc];cases hm:m.getD (i+d) false with
    |true=>rw[hT _ _ ho hm,OF (hk _ _ A0 A0 ho hm)];exact h1
    |false=>rw[hS _ bN hm];exact h1
theorem Pp(hG:IB P Γ){ops:List Oper}{m:List Bool}(hd:A6H ops m){base:Nat}{T:Nat->List AV}{res:Nat->AV}{Q:Exit->Act->World->Prop}{K':St->Prop}
    (hT:∀j o,ops[j]? =some o->m.getD j false=true->T (j+1)=BG (T j) o.dst (res j)/\∃d,EZ P o (BQ (T j)) BM (base+j) (res j) d/\(lays o.op=false->d=none))
    (hS:∀j,j<ops.length->m.getD j false=false->T (j+1)=T j) (PH:cX.Ui<=base)
    (hQ:∀s' L' a' w',K' s'->Cn cX s' L' a' w'->Q .normal a' w'):
    ∀ (fuel q:Nat) (AE:Array Bool) (s:St) (t':List AV) (L:LM) (a:Act) (w:World),nD ops.length AE<=fuel->AE.size=ops.length->gB ops AE->q<=ops.length->
      (∀i,i<q->m.getD i false=false->AE.getD i true=true)->(∀i,q<=i->i<ops.length->m.getD i false=false->AE.getD i true=false)->
      EN Γ P base (m.drop q) (ops.drop q) q s K'->
      (∀u,(∀(j:Nat) (o:Oper),ops[j]? =some o->m.getD j false=false->AE.getD j true=true->o.dst≠some u)->s.t[u]? =(T ops.length)[u]?)->s.t.length=(T ops.length).length->t'.length=s.t.length->
      (∀u,(∀(j:Nat) (o:Oper),ops[j]? =some o->m.getD j false=true->AE.getD j true=false->o.dst≠some u)->t'[u]? =s.t[u]?)->
      Cn cX ⟨t',s.H,s.nx⟩ L a w->(∀i,i<ops.length->AE.getD i true=false->L (base+i)=none)->base+ops.length<=s.nx->
      Lb cX.rd P .any ops.toArray Q fuel AE a w:=by
  have hT':=λj o ho hm=>(hT j o ho hm).1
  have Eo:=vM hT' hS;have o8:=kH hT' hS;have evT:∀{o:Oper} {t1 t2:List AV},(∀u∈qC o,t1[u]? =t2[u]?)->∀x∈o.op.operands,BQ t1 x=BQ t2 x:=by
    intro o t1 t2 h x hx;cases x with
    | tmp u=>
      have:=h u (by unfold qC;exact List.mem_filterMap.2 ⟨.tmp u,by simpa using hx,rfl⟩);simp only[BQ,List.getD_eq_getElem?_getD,this]
    |_=>simp[BQ]
  intro fuel;induction fuel with
  | zero=>
    intro q AE s t' L a w hf FV hs hq KY JT h ha K0 O1 GA hc CQ UE;have K6:∀i,i<ops.length->AE.getD i true=true:=by
      intro i hi;cases hb:AE.getD i true with
      |true=>rfl
      |false=>have:=UD hb hi;omega
    have h1:=TL (ops.length-q) q A0 (λi g1 g2=>by
      cases hb:m.getD i false with
      |true=>rfl
      |false=>have:=JT i g1 A0 hb;rw[K6 i A0]at this;cases this) h
    rw[show q+(ops.length-q)=ops.length by omega,List.drop_length]at h1;have ht:t'=s.t:=List.ext_getElem? λu=>GA u λj o ho _ hb=>by
      rw[K6 j (List.getElem?_eq_some_iff.1 ho).1]at hb;cases hb
    subst ht;refine⟨?_,hQ _ _ _ _ (iN h1) hc⟩;rw[List.eq_nil_iff_forall_not_mem];intro i HM;obtain⟨h1,h2,_⟩:=EJ.1 HM;rw[K6 i h1]at h2;cases h2
  | succ fuel ih=>
    intro q AE s t' L a w hf FV hs hq KY JT h ha K0 O1 GA hc CQ UE;refine⟨λh0=>?_,?_⟩
    · have K6:∀i,i<ops.length->AE.getD i true=true:=by
        intro i hi;cases hb:AE.getD i true with
        |true=>rfl
        |false=>exact absurd h0 (nZ hd.lt FV i hi hb)
      have h1:=TL (ops.length-q) q A0 (λi g1 g2=>by
        cases hb:m.getD i false with
        |true=>rfl
        |false=>have:=JT i g1 A0 hb;rw[K6 i A0]at this;cases this) h
      rw[show q+(ops.length-q)=ops.length by omega,List.drop_length]at h1;have ht:t'=s.t:=List.ext_getElem? λu=>GA u λj o ho _ hb=>by
        rw[K6 j (List.getElem?_eq_some_iff.1 ho).1]at hb;cases hb
      subst ht;exact hQ _ _ _ _ (iN h1) hc
    intro i HM;obtain⟨h1,h2,_⟩:=EJ.1 HM;have ho:ops[i]? =some ops[i]:=List.getElem?_eq_getElem h1;have Pq:=hd.g i _ ho;have IA:∀k,(AE.setIfInBounds i true).getD k true=false↔k≠i/\AE.getD k true=false:=by
      intro k;rw[E0 h2];by_cases e:k=i
      · simp[e]
      simp[e]
    have hun:=UD h2 h1;unfold wpO;simp only[List.getElem?_toArray,ho];rw[if_pos (by simp[Region.wanted,Pq])];refine .inl ?_;cases hm:m.getD i false with
    | true=>
      obtain⟨f1,⟨d,f2,f3⟩,f4⟩:=hd.fl i _ ho hm;obtain⟨g1,dd,g2,g3⟩:=hT i _ ho hm;have g3:=g3 f1;subst g3;have Ak:∀u∈qC ops[i],(T i)[u]? =t'[u]? :=by
        intro u hu;have hw:=f4 u hu;have e1:t'[u]? =s.t[u]? :=GA u λj o hj HB TM he=>by
          rcases hw j o hj he with ⟨_,_,uU⟩|⟨hmf,_⟩
          · rw[DA hs HM uU]at TM;cases TM
          rw[hmf]at HB;cases HB
        have e2:s.t[u]? =(T ops.length)[u]? :=ha u λj o hj HB TM he=>by
          rcases hw j o hj he with ⟨k1,_,_⟩|⟨_,uU⟩
          · rw[k1]at HB;cases HB
          rw[hs i j uU TM]at h2;cases h2
        have e3:=o8 u i (ops.length-i) A0 (λg o k1 k2 hg Ep he=>by
          rcases hw g o hg he with ⟨_,k3,_⟩|⟨k3,_⟩
          · omega
          rw[Ep]at k3;cases k3)
        rw[show i+(ops.length-i)=ops.length by omega]at e3;rw[e1,e2,e3]
      have Uj:=(g2 s.H (λ_ _ h=>by cases h)).ev (evT Ak);refine vL Uj hc (CQ i h1 h2) A0 A0 ?_;rintro r H' L' a' w' ⟨rfl,rfl⟩ hL UB;refine ih q _ s (BG t' ops[i].dst (res i)) L' a' w' A0 (by simpa using FV) (hs.set HM) hq (λk hk Q7=>?_) (λk k1 k2 Q7=>?_) h (λu hu=>ha u λj o hj HB TM=>hu j o hj HB (by rw[E0 h2];split<;>first|rfl|exact TM)) K0 (by rw[KZ];exact O1) (λu hu=>?_) UB (λk hk Cv=>?_) UE
      · rw[E0 h2];split
        · rfl
        exact KY k hk Q7
      · exact(IA k).2 ⟨λe=>(by rw[e,hm]at Q7;cases Q7),JT k k1 k2 Q7⟩
      · by_cases e:u=d
        · subst e;have e2:s.t[u]? =(T ops.length)[u]? :=ha u λj o hj HB _ he=>f3 j o hj (λe=>by rw[e,hm]at HB;cases HB) he
          have e3:=o8 u (i+1) (ops.length-(i+1)) A0 (λg o k1 k2 hg Ep he=>f3 g o hg A0 he);rw[show i+1+(ops.length-(i+1))=ops.length by omega]at e3;rw[e2,e3,g1,f2];exact aE (by rw[O1,K0,Eo _ (Nat.le_refl _),Eo i A0]) (.inl rfl)
        rw[OF (by rw[f2];intro e2;cases e2;exact e rfl)];refine GA u λj o hj HB TM he=>?_
        by_cases ej:j=i
        · subst ej;rw[ho]at hj;cases hj;rw[f2]at he;cases he;exact e rfl
        exact hu j o hj HB ((IA j).2 ⟨ej,TM⟩) he
      obtain⟨k1,k2⟩:=(IA k).1 Cv;rw[hL _ A0];exact CQ k hk k2
    | false=>
      obtain⟨f1,f2⟩:=hd.sp i _ ho hm;have hqi:q<=i:=by
        apply Classical.byContradiction;intro hn;rw[KY i A0 hm]at h2;cases h2
      have Lp:∀k,q<=k->k<q+(i-q)->m.getD k false=true:=by
        intro k k1 k2;cases hb:m.getD k false with
        |true=>rfl
        | false=>
          have:=DA hs HM (f1 k A0 hb);rw[JT k k1 A0 hb]at this;cases this
      have h3:=TL (i-q) q A0 Lp h;rw[show q+(i-q)=i by omega,List.drop_eq_getElem_cons h1]at h3;have h4:=En (by simpa[List.getD_eq_getElem?_getD,List.getElem?_drop]using hm) h3;rw[List.drop_drop]at h4;have Ak:∀u∈qC ops[i],s.t[u]? =t'[u]? :=by
        intro u hu;exact(GA u λj o hj HB TM he=>by
          rw[DA hs HM (f2 u hu j o hj HB he)]at TM;cases TM).symm
      refine cS hG h4 (evT Ak) hc (CQ i h1 h2) A0 A0 ?_;intro r H' BB L' a' w' hk A45 hL UB;refine ih (i+1) _ ⟨BG s.t ops[i].dst r,H',BB⟩ (BG t' ops[i].dst r) L' a' w' A0 (by simpa using FV) (hs.set HM) A0 (λk hk Q7=>?_) (λk k1 k2 Q7=>?_) (by simpa[Nat.add_comm]using hk) (λu hu=>?_) (by simp only[KZ];exact K0) (by simp only[KZ];exact O1) (λu hu=>?_) UB (λk hk Cv=>?_) (by simp only;omega)
      · rw[E0 h2];split
        · rfl
        rename_i e;rcases Nat.lt_or_ge k q with hkq|hkq
        · exact KY k hkq Q7
        rw[Lp k hkq A0]at Q7;cases Q7
      · exact(IA k).2 ⟨A0,JT k A0 k2 Q7⟩
      · simp only
        rw[OF (hu i _ ho hm (by rw[E0 h2,if_pos rfl]))];exact ha u λj o hj HB TM=>hu j o hj HB (by rw[E0 h2];split<;>first|rfl|exact TM)
      · simp only
        refine aE O1 (.inr (GA u λj o hj HB TM he=>?_));exact hu j o hj HB ((IA j).2 ⟨λe=>(by rw[e,hm]at HB;cases HB),TM⟩) he
      obtain⟨k1,k2⟩:=(IA k).1 Cv;rw[hL _ A0 A0];exact CQ k hk k2
end
theorem L1{cX:Ctx}(hG:IB P Γ)(Xx:P.follows .mixedOrders=true){n:Nat}{ops:List Oper}{s:St}{K:Exit->St->Prop}(m:List Bool)(uR:A12 ops m=true)
    (h:GD Γ P s.nx m ops 0 s.t λt=>EN Γ P s.nx m ops 0 ⟨t,s.H,s.nx+ops.length⟩ (K .normal)):AW cX P (.region n ops.toArray true) s K:=by
  intro L a w Q hc hQ;have hd:=rX uR;refine T2 Xx ?_;obtain⟨T,res,h1,h2,h3,h4⟩:=cR hG (ops:=ops) (m:=m) ops m 0 s.t AB AB h;have Cw:Cn cX ⟨s.t,s.H,s.nx+ops.length⟩ L a {w with drawn:=w.drawn+1}:=
    ⟨hc.df.same rfl,hc.sz,λk x hk=>(hc.sl k x hk).drew,hc.sr.drew,λi hi=>hc.fr i (by simp only at hi;omega),by have:=hc.nx;simp only;omega,hc.lo,hc.st.trans (Step.drew _ _ _)⟩
  have:=Pp (Q:=Q) hG hd (base:=s.nx) (T:=T) (res:=res) (λj o ho hm=>h3 j o (Nat.zero_le _) ho hm) (λj hj hm=>h4 j (Nat.zero_le _) hj hm) hc.nx (λs' L' a' w' hk UB=>hQ _ _ _ _ _ hk UB)
    ops.length 0 (Array.replicate ops.length false) ⟨T ops.length,s.H,s.nx+ops.length⟩ s.t L a {w with drawn:=w.drawn+1} (by
      unfold nD;exact Nat.le_trans (List.length_filter_le _ _) AB) AB (by
      intro i j hw hj;have:=hw.len;simp[Array.getD_eq_getD_getElem?,this]at hj) (Nat.zero_le _) (λi hi=>A0) (λi _ hi _=>by
      simp[Array.getD_eq_getD_getElem?,hi]) (by simpa using h2) (λu _=>rfl) rfl ?_ ?_ Cw (λi hi _=>hc.fr _ A0) (by simp only;omega)
  · simpa using this
  · simp only
    rw[vM (λj o ho hm=>(h3 j o (Nat.zero_le _) ho hm).1) (λj hj hm=>h4 j (Nat.zero_le _) hj hm) _ (Nat.le_refl _),h1]
  intro u hu;have:=kH (λj o ho hm=>(h3 j o (Nat.zero_le _) ho hm).1) (λj hj hm=>h4 j (Nat.zero_le _) hj hm) u 0 ops.length A0 (λg o _ hg ho hm=>hu g o ho hm (by
    have:=(List.getElem?_eq_some_iff.1 ho).1;simp[Array.getD_eq_getD_getElem?,this]))
  rw[Nat.zero_add]at this;simp only
  rw[this,h1]
@[congr] theorem A6I {base i:Nat} {m:List Bool} {rest:List Oper} {t t':List AV} {k:List AV->Prop} (h:t=t'):GD Γ P base m rest i t k=GD Γ P base m rest i t' k:=by rw[h]
@[congr] theorem A6J {base i:Nat} {m:List Bool} {rest:List Oper} {s s':St} {K:St->Prop} (h:s=s'):EN Γ P base m rest i s K=EN Γ P base m rest i s' K:=by rw[h]
theorem vN{base i:Nat}{m:List Bool}{rest:List Oper}{t:List AV}{k:List AV->Prop}{dst:Option Nat}{op:Op}{ty:TypeId}{pos:String}{after:Array Edge}{g:Option (Nat×Bool)}:
    GD Γ P base (true::m) (⟨dst,op,ty,pos,after,g⟩::rest) i t k=RF Γ P op t BM (base+i) λr _=>GD Γ P base m rest (i+1) (BG t dst r) k:=by rw[GD]
theorem vO{base i:Nat}{m:List Bool}{o:Oper}{rest:List Oper}{t:List AV}{k:List AV->Prop}:GD Γ P base (false::m) (o::rest) i t k=GD Γ P base m rest (i+1) t k:=by rw[GD]
theorem vP{base i:Nat}{rest:List Oper}{t:List AV}{k:List AV->Prop}:GD Γ P base [] rest i t k=k t:=by cases rest<;>rw[GD]
theorem A6K{base i:Nat}{m:List Bool}{o:Oper}{rest:List Oper}{s:St}{K:St->Prop}:EN Γ P base (true::m) (o::rest) i s K=EN Γ P base m rest (i+1) s K:=by rw[EN]
theorem A6L{base i:Nat}{m:List Bool}{rest:List Oper}{s:St}{K:St->Prop}{dst:Option Nat}{op:Op}{ty:TypeId}{pos:String}{after:Array Edge}{g:Option (Nat×Bool)}:
    EN Γ P base (false::m) (⟨dst,op,ty,pos,after,g⟩::rest) i s K=IG Γ P dst op (base+i) s λs'=>EN Γ P base m rest (i+1) s' K:=by rw[EN]
theorem A6M{base i:Nat}{s:St}{K:St->Prop}:EN Γ P base [] [] i s K=K s:=by rw[EN]
end
attribute [go_sem] vN vO vP A6K A6L A6M
end Go.Proofs.YtgknbnkmilddhaaGreat
