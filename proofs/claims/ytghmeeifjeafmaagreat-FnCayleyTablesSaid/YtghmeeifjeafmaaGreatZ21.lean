import Derived.Test.YtghmeeifjeafmaaGreatZ06
set_option linter.unusedVariables false
set_option linter.unusedSimpArgs false
namespace Go.Proofs.YtghmeeifjeafmaaGreat
def A3Q(ops:List Oper)(m b:Nat):Bool:=
  let cl:=cls ops []
  Mj ops m && decide (b<m)&&(match ops[b]? with|some o=>o.guard.isNone|none=>true)&& ops.zipIdx.all fun (o,i)=> !(decide (i<m)&& i !=b &&(PI o.op||KB o.op))||wt ops cl i b
section
variable{P:Program}{Γ:BV}
section
variable{cX:Ctx}
def O2(ops:List Oper)(m b:Nat):Bool:=ops.zipIdx.all fun (o,i)=> !(decide (b<i)&& decide (i<m))|| !(PI o.op||KB o.op)

end
end
end Go.Proofs.YtghmeeifjeafmaaGreat
namespace Go.Proofs.YtghmeeifjeafmaaGreat
section
variable{P:Program}{Γ:BV}
def dF(o:Oper):List Nat:=o.op.operands.toList.filterMap fun| .tmp t=>some t|_=>none
def Iv(ops:List Oper)(m:List Bool):Bool:=
  let cl:=cls ops []
  (ops.zipIdx.all fun (o,j)=>o.after.toList.all fun e=> !Region.binds .any e||e.on<j)&&
  (ops.all fun o=>o.guard.isNone)&&
  (ops.zipIdx.all fun (o,j)=>
    if m.getD j false=true then
      !KB o.op &&
      (match o.dst with|some d=>ops.zipIdx.all fun (o',i)=>i==j|| !(o'.dst==some d)|none=>false)&&
      ((dF o).all fun u=>ops.zipIdx.all fun (o',i)=> !(o'.dst==some u)||(if m.getD i false=true then decide (i<j)&& wt ops cl i j else wt ops cl j i))
    else
      ((List.range j).all fun i=>m.getD i false||wt ops cl i j)&&
      ((dF o).all fun u=>ops.zipIdx.all fun (o',i)=> !(m.getD i false && o'.dst==some u)||wt ops cl i j))
structure Tm(ops:List Oper)(m:List Bool):Prop where
  lt:∀j o,ops[j]? =some o→∀e∈o.after.toList,Region.binds .any e=true→e.on<j
  g:∀(j:Nat) (o:Oper),ops[j]? =some o→o.guard=none
  fl:∀j o,ops[j]? =some o→m.getD j false=true→KB o.op=false∧(∃d,o.dst=some d∧∀i o',ops[i]? =some o'→i≠j→o'.dst≠some d)∧
    ∀u,u∈dF o→∀i o',ops[i]? =some o'→o'.dst=some u→(m.getD i false=true∧i<j∧DO ops i j)∨(m.getD i false=false∧DO ops j i)
  sp:∀j o,ops[j]? =some o→m.getD j false=false→(∀i,i<j→m.getD i false=false→DO ops i j)∧
    ∀u,u∈dF o→∀i o',ops[i]? =some o'→m.getD i false=true→o'.dst=some u→DO ops i j
theorem FB{ops:List Oper}{f:Oper×Nat→Bool}(h:ops.zipIdx.all f=true){j:Nat}{o:Oper}(ho:ops[j]? =some o):f (o,j)=true:=
  List.all_eq_true.1 h (o,j) (List.mem_iff_getElem?.2 ⟨j,by rw[List.getElem?_zipIdx,ho];simp⟩)
theorem eW{ops:List Oper}{m:List Bool}(h:Iv ops m=true):Tm ops m:=by
  unfold Iv at h;simp only[Bool.and_eq_true]at h;obtain⟨⟨h1,h2⟩,h3⟩:=h;refine⟨?_,?_,?_,?_⟩
  · intro j o ho e he hb;have:=List.all_eq_true.1 (FB h1 ho) e he;simpa[hb]using this
  · intro j o ho;have:=List.all_eq_true.1 h2 o (List.mem_of_getElem? ho);simpa using this
  · intro j o ho hm;have h4:=FB h3 ho;simp only[hm,if_true,Bool.and_eq_true]at h4;obtain⟨⟨h5,h6⟩,h7⟩:=h4;refine⟨by simpa using h5,?_,?_⟩
    · cases hd:o.dst with
      |none=>rw[hd]at h6;cases h6
      | some d=>
        rw[hd]at h6;refine⟨d,rfl,fun i o' hi JI he=>?_⟩;have:=FB h6 hi;simp[JI,he]at this
    intro u hu i o' hi he;have h8:=FB (List.all_eq_true.1 h7 u hu) hi;simp only[he,beq_self_eq_true,Bool.not_true,Bool.false_or]at h8;split at h8
    · rename_i Z4;simp only[Bool.and_eq_true,decide_eq_true_eq]at h8;exact .inl ⟨Z4,h8.1,E8 h8.2⟩
    rename_i Z4;exact .inr ⟨by simpa using Z4,E8 h8⟩
  intro j o ho hm;have h4:=FB h3 ho;simp only[hm,Bool.false_eq_true,if_false,Bool.and_eq_true]at h4;obtain⟨h5,h6⟩:=h4;refine⟨?_,?_⟩
  · intro i JI Z4;have:=List.all_eq_true.1 h5 i (List.mem_range.2 JI);simp only[Z4,Bool.false_or]at this;exact E8 this
  intro u hu i o' hi Z4 he;have h8:=FB (List.all_eq_true.1 h6 u hu) hi;simp only[Z4,he,beq_self_eq_true,Bool.and_self,Bool.not_true,Bool.false_or]at h8;exact E8 h8
def EU(Γ:BV)(P:Program)(base:Nat):List Bool→List Oper→Nat→List AV→(List AV→Prop)→Prop
  |true::m,o::rest,i,t,k=>NG Γ P o.op t BN (base+i) fun r _=>EU Γ P base m rest (i+1) (BF t o.dst r) k
  |false::m,_::rest,i,t,k=>EU Γ P base m rest (i+1) t k
  |[],_,_,t,k=>k t
  |_::_,[],_,t,k=>k t
def DS(Γ:BV)(P:Program)(base:Nat):List Bool→List Oper→Nat→St→(St→Prop)→Prop
  |true::m,_::rest,i,s,K=>DS Γ P base m rest (i+1) s K
  |false::m,o::rest,i,s,K=>HA Γ P o.dst o.op (base+i) s fun s'=>DS Γ P base m rest (i+1) s' K
  |[],o::rest,i,s,K=>HA Γ P o.dst o.op (base+i) s fun s'=>DS Γ P base [] rest (i+1) s' K
  |_,[],_,s,K=>K s
theorem XX{base i:Nat}{m:List Bool}{s:St}{K:St→Prop}(h:DS Γ P base m [] i s K):K s:=by
  cases m with
  |nil=>simpa[DS]using h
  |cons b m=>cases b<;>simpa[DS]using h
theorem qM{base i:Nat}{m:List Bool}{o:Oper}{rest:List Oper}{s:St}{K:St→Prop}(hm:m.getD 0 false=true)(h:DS Γ P base m (o::rest) i s K):DS Γ P base (m.drop 1) rest (i+1) s K:=by
  cases m with
  |nil=>simp at hm
  | cons b m=>
    simp at hm;subst hm;simpa[DS]using h
theorem qN{base i:Nat}{m:List Bool}{o:Oper}{rest:List Oper}{s:St}{K:St→Prop}(hm:m.getD 0 false=false)(h:DS Γ P base m (o::rest) i s K):HA Γ P o.dst o.op (base+i) s fun s'=>DS Γ P base (m.drop 1) rest (i+1) s' K:=by
  cases m with
  |nil=>simpa[DS]using h
  | cons b m=>
    simp at hm;subst hm;simpa[DS]using h
theorem V0(hG:GJ P Γ){ops:List Oper}{base:Nat}{m:List Bool}{k:List AV→Prop}:∀(rest:List Oper) (mr:List Bool) (i:Nat) (t:List AV),rest=ops.drop i→mr=m.drop i→EU Γ P base mr rest i t k→
    ∃ (T:Nat→List AV) (res:Nat→AV),T i=t∧k (T ops.length)∧(∀j o,i≤j→ops[j]? =some o→m.getD j false=true→T (j+1)=BF (T j) o.dst (res j)∧∃d,E5 P o (BK (T j)) BN (base+j) (res j) d∧(KB o.op=false→d=none))∧
      (∀j,i≤j→j<ops.length→m.getD j false=false→T (j+1)=T j):=by
  intro rest;induction rest with
  | nil=>
    intro mr i t hr hm h;have hlen:ops.length≤i:=by
      have:=congrArg List.length hr;simp at this;omega
    refine⟨fun _=>t,fun _=> .j,rfl,?_,?_,fun j h1 h2=>by omega⟩
    · cases mr with
      |nil=>simpa[EU]using h
      |cons b mr=>cases b<;>simpa[EU]using h
    intro j o h1 h2;have:=(List.getElem?_eq_some_iff.1 h2).1;omega
  | cons o rest ih=>
    intro mr i t hr hm h;have hi:i<ops.length:=by
      apply Classical.byContradiction;intro hn;rw[List.drop_eq_nil_of_le (by omega)]at hr;cases hr
    rw[List.drop_eq_getElem_cons hi]at hr;obtain⟨ho,hr'⟩:=List.cons.inj hr;have UA:ops[i]? =some o:=by rw[List.getElem?_eq_getElem hi,ho]
    by_cases Z4:m.getD i false=true
    · have PK:i<m.length:=by
        apply Classical.byContradiction;intro hn;rw[List.getD_eq_getElem?_getD,List.getElem?_eq_none (by omega)]at Z4;simp at Z4
      rw[List.drop_eq_getElem_cons PK]at hm;have hb:m[i]=true:=by simpa[PK]using Z4
      rw[hb]at hm;subst hm;simp only[EU]at h;obtain⟨r,d,h1,h2,h3⟩:=T7 hG h;obtain⟨T,res,g1,g2,g3,g4⟩:=ih _ (i+1) _ hr' rfl h1;refine⟨fun j=>if j=i then t else T j,fun j=>if j=i then r else res j,by simp,by simp only;rw[if_neg (by omega)];exact g2,?_,?_⟩
      · intro j o' hj oE GZ;by_cases e:j=i
        · subst e;rw[UA]at oE;cases oE;simp only[if_true];rw[if_neg (by omega)];exact⟨g1,d,h2,h3⟩
        simp only[e,if_false];rw[if_neg (by omega)];exact g3 j o' (by omega) oE GZ
      intro j hj dA GZ;by_cases e:j=i
      · subst e;rw[Z4]at GZ;cases GZ
      simp only[e,if_false];rw[if_neg (by omega)];exact g4 j (by omega) dA GZ
    have Na:m.getD i false=false:=by simpa using Z4
    have h':∃Ze,Ze=m.drop (i+1)∧EU Γ P base Ze rest (i+1) t k:=by
      by_cases PK:i<m.length
      · rw[List.drop_eq_getElem_cons PK]at hm;have hb:m[i]=false:=by simpa[PK]using Na
        rw[hb]at hm;subst hm;simp only[EU]at h;exact⟨_,rfl,h⟩
      rw[List.drop_eq_nil_of_le (by omega)]at hm;subst hm;simp only[EU]at h;refine⟨[],by rw[List.drop_eq_nil_of_le (by omega)],?_⟩;cases rest<;>simpa[EU]using h
    obtain⟨Ze,e1,h'⟩:=h';obtain⟨T,res,g1,g2,g3,g4⟩:=ih Ze (i+1) t hr' e1 h';refine⟨fun j=>if j=i then t else T j,res,by simp,by simp only;rw[if_neg (by omega)];exact g2,?_,?_⟩
    · intro j o' hj oE GZ;by_cases e:j=i
      · subst e;rw[Na]at GZ;cases GZ
      simp only[e,if_false];rw[if_neg (by omega)];exact g3 j o' (by omega) oE GZ
    intro j hj dA GZ;by_cases e:j=i
    · subst e;simp only[if_true];rw[if_neg (by omega)];exact g1
    simp only[e,if_false];rw[if_neg (by omega)];exact g4 j (by omega) dA GZ
section
variable{cX:Ctx}
theorem V1(hG:GJ P Γ){o:Oper}{s:St}{t':List AV}{L:LM}{a:Act}{w:World}{id:Nat}{K':St→Prop}(h:HA Γ P o.dst o.op id s K')(he:∀x∈o.op.operands,BK s.t x=BK t' x)(c:Cn cX ⟨t',s.H,s.nx⟩ L a w)(DA:L id=none)(I6:id<s.nx)(LV:cX.Az≤id)
    {K:Act→World→Prop} {Q:Exit→Act→World→Prop}
    (hK:∀r H' nx' L' a' w',K' ⟨BF s.t o.dst r,H',nx'⟩→s.nx≤nx'→(∀i,i≠id→i<s.nx→L' i=L i)→Cn cX ⟨BF t' o.dst r,H',nx'⟩ L' a' w'→K a' w'):nD cX.rd P o a w K Q:=by
  have hH:s.H id=none:=by
    cases hh:s.H id with
    |none=>rfl
    |some cs=>obtain⟨l,h1,_⟩:=c.sr.node id cs hh;rw[DA]at h1;cases h1
  have Q0:∀{k:AV→HP→Prop},YE P o (BK s.t) s.H id k→(∀r H',k r H'→K' ⟨BF s.t o.dst r,H',s.nx⟩)→nD cX.rd P o a w K Q:=by
    intro k hk aM;have GA:=hk.ev he;refine(GA L cX.Av w a.eval c.sr ⟨_,c.fr⟩ DA hH (fun x _=>c.ev x)).wp ?_;rintro u w' ⟨r,H',L',h1,h2,h3,h4,h5⟩;obtain⟨q1,q2,q3⟩:=GV (a:=a) c.sz (fun k y hk=>(c.sl k y hk).step h4) o.dst h5;refine hK r H' s.nx L' _ w' (aM r H' h1) (Nat.le_refl _) (fun i hi _=>h2 i hi) ⟨vO q1 (c.df.step c.sr h4),q2,q3,h3,?_,c.nx,?_,c.st.trans h4⟩
    · intro i hi;rw[h2 i (by simp only at hi;omega)];exact c.fr i hi
    intro i hi;rw[h2 i (by omega)];exact c.lo i hi
  have U8:∀(f:FuncId) (xs:List AV) (us:Array Value),AC P f s.nx s.H xs (fun nx' H' r=>K' ⟨BF s.t o.dst r,H',nx'⟩)→GU L w (MM L s.H cX.Av) xs us→(execOp a.eval o).run P w= .ok (.enter f us) w→nD cX.rd P o a w K Q:=by
    rintro f xs us ⟨n7,DE⟩ ha h1;have h2:=DE L cX.Av w _ c.sr c.fr ha;have h3:QV P o a.eval w fun u w'=>∃r L' nx' H',K' ⟨BF s.t o.dst r,H',nx'⟩∧s.nx≤nx'∧(∀i,nx'≤i→L' i=none)∧(∀i,i<s.nx→L' i=L i)∧SR L' H' cX.Av w'∧Step L s.H w L' H' w'∧R L' w' (MM L' H' cX.Av) r u:=by
      unfold QV;rw[h1];exact h2.mono fun e w' ⟨u,r,L',nx',H',g1,g2,g3,g4,g5,g6,g7,g8⟩=>⟨u,g1,r,L',nx',H',g2,g3,g4,g5,g6,g7,g8⟩
    refine h3.wp ?_;rintro u w' ⟨r,L',nx',H',g1,g2,g3,g4,g5,g6,g7⟩;obtain⟨q1,q2,q3⟩:=GV (a:=a) c.sz (fun k y hk=>(c.sl k y hk).step g6) o.dst g7;have h6:=c.nx;refine hK r H' nx' L' _ w' g1 g2 (fun i _ hi=>g4 i hi) ⟨vO q1 (c.df.step c.sr g6),q2,q3,g5,g3,by simp only at h6 ⊢;omega,?_,c.st.trans g6⟩;intro i hi;simp only at h6;rw[g4 i (by omega)];exact c.lo i hi
  unfold HA at h;split at h
  · rename_i op ty x y Yb ho;exact Q0 (aQ hG ho h) (by rintro r H' ⟨hk,rfl⟩;exact hk)
  · rename_i ty x y ho;exact Q0 (gM hG ho h) (fun r H' hk=>hk)
  · rename_i args DV ho;split at h
    · rename_i x y t1 t2 ha ht;have QR:args=#[x,y]:=by apply Array.ext';simpa using ha
      subst QR;exact Q0 (gP hG ho (by rw[←Array.getElem?_toList,ht];rfl) (by rw[←Array.getElem?_toList,ht];rfl) h) (fun r H' hk=>hk)
    exact h.elim
  · rename_i f args DV ho;have h1:=QW h.1 ho (show a.eval (.func f)= .func (.func f) #[] #[]from rfl) w;have qO:args.toList.map (BK s.t)=args.toList.map (BK t'):=List.map_congr_left fun x hx=>he x (by rw[ho];simp only[Op.operands,Call.operands,Array.mem_append];right;simpa using hx)
    rw[qO]at h;exact U8 f _ _ h (YJ ho (fun x _=>c.ev x)) h1
  · rename_i n args DV ho;have qO:args.toList.map (BK s.t)=args.toList.map (BK t'):=List.map_congr_left fun x hx=>he x (by rw[ho];simp only[Op.operands,Call.operands,Array.mem_append];right;simpa using hx)
    have hn:BK s.t (.tmp n)=BK t' (.tmp n):=he _ (by rw[ho];simp[Op.operands,Call.operands]);rw[qO,hn]at h;unfold vH at h;split at h
    · rename_i f cs hv;have hx:=c.ev (.tmp n);rw[hv]at hx;obtain⟨us,hf,Aw⟩:=hx.gQ;have h1:=OG h.1 ho hf w;exact U8 f _ _ h ((U5 ho (fun x _=>c.ev x)).append Aw) h1
    exact h.elim
  · rename_i ty ho;exact Q0 (aL ho h) (fun r H' hk=>hk)
  · rename_i ty x i ok ho;exact Q0 (gT hG ho h) (by rintro r H' ⟨hk,rfl⟩;exact hk)
  · rename_i ty x i v ho;exact Q0 (T8 hG (.inl ho) h) (fun r H' hk=>hk)
  · rename_i ty x i v ho;exact Q0 (T8 hG (.inr ho) h) (fun r H' hk=>hk)
  · rename_i ty x ho;exact Q0 (gU hG ho h) (fun r H' hk=>hk)
  · rename_i x ho;exact Q0 (gW ho h) (fun r H' hk=>hk)
  · rename_i x ho;exact Q0 (gX ho h) (by rintro r H' ⟨hk,rfl⟩;exact hk)
  · rename_i ty x i ho;exact Q0 (gY hG ho h) (by rintro r H' ⟨hk,rfl⟩;exact hk)
  · rename_i sty dty x ho;exact Q0 (hU hG ho h) (by rintro r H' ⟨hk,rfl⟩;exact hk)
  · rename_i args DV ho;split at h
    · rename_i x y t1 ts ha ht;have QR:args=#[x,y]:=by apply Array.ext';simpa using ha
      subst QR;exact Q0 (iA hG ho (by rw[←Array.getElem?_toList,ht];rfl) h) (fun r H' hk=>hk)
    exact h.elim
  obtain⟨r,d,h1,h2⟩:=nW hG h;exact Q0 (h2 s.H (fun _ _ h=>h)) (by rintro r' H' ⟨rfl,rfl⟩;exact h1)
theorem j9{o:Oper}{t':List AV}{H:HP}{nx:Nat}{L:LM}{a:Act}{w:World}{id:Nat}{k:AV→HP→Prop}(h:YE P o (BK t') H id k)(c:Cn cX ⟨t',H,nx⟩ L a w)(DA:L id=none)(I6:id<nx)(LV:cX.Az≤id)
    {K:Act→World→Prop} {Q:Exit→Act→World→Prop}
    (hK:∀r H' L' a' w',k r H'→(∀i,i≠id→L' i=L i)→Cn cX ⟨BF t' o.dst r,H',nx⟩ L' a' w'→K a' w'):nD cX.rd P o a w K Q:=by
  have hH:H id=none:=by
    cases hh:H id with
    |none=>rfl
    |some cs=>obtain⟨l,h1,_⟩:=c.sr.node id cs hh;rw[DA]at h1;cases h1
  refine(h L cX.Av w a.eval c.sr ⟨_,c.fr⟩ DA hH (fun x _=>c.ev x)).wp ?_;rintro u w' ⟨r,H',L',h1,h2,h3,h4,h5⟩;obtain⟨q1,q2,q3⟩:=GV (a:=a) c.sz (fun k y hk=>(c.sl k y hk).step h4) o.dst h5;refine hK r H' L' _ w' h1 h2 ⟨vO q1 (c.df.step c.sr h4),q2,q3,h3,?_,c.nx,?_,c.st.trans h4⟩
  · intro i hi;rw[h2 i (by simp only at hi;omega)];exact c.fr i hi
  intro i hi;rw[h2 i (by omega)];exact c.lo i hi
theorem IF{t:List AV}{d:Option Nat}{x:AV}:(BF t d x).length=t.length:=by
  cases d<;>simp[BF]
theorem KM{t:List AV}{d:Option Nat}{x:AV}{u:Nat}(h:d≠some u):(BF t d x)[u]? =t[u]? :=by
  cases d with
  |none=>rfl
  |some d=>simp only[BF];exact List.getElem?_set_ne (fun e=>h (by rw[e]))
theorem TN{t t':List AV}{d:Option Nat}{x:AV}{u:Nat}(h:t.length=t'.length)(he:d=some u∨t[u]? =t'[u]?):(BF t d x)[u]? =(BF t' d x)[u]? :=by
  by_cases e:d=some u
  · subst e;simp only[BF];rw[List.getElem?_set,List.getElem?_set,if_pos rfl,if_pos rfl,h]
  rw[KM e,KM e];exact he.resolve_left e
theorem OV{ops:List Oper}{m:List Bool}{base:Nat}{s:St}{K:St→Prop}:∀(d q:Nat),q+d≤ops.length→(∀i,q≤i→i<q+d→m.getD i false=true)→DS Γ P base (m.drop q) (ops.drop q) q s K→DS Γ P base (m.drop (q+d)) (ops.drop (q+d)) (q+d) s K:=by
  intro d;induction d with
  |zero=>intro q _ _ h;exact h
  | succ d ih=>
    intro q hq hm h;have Zf:q<ops.length:=by omega
    rw[List.drop_eq_getElem_cons Zf]at h;have h1:=qM (by have:=hm q (Nat.le_refl _) (by omega);simpa[List.getD_eq_getElem?_getD,List.getElem?_drop]using this) h;rw[List.drop_drop]at h1;have:=ih (q+1) (by omega) (fun i h1 h2=>hm i (by omega) (by omega)) h1;rwa [show q+1+d=q+(d+1) by omega]at this
theorem bP{ops:List Oper}{AA:Array Bool}(BW:∀j o,ops[j]? =some o→∀e∈o.after.toList,Region.binds .any e=true→e.on<j)(EW:AA.size=ops.length):∀i,i<ops.length→AA.getD i true=false→Region.ready .any ops.toArray AA≠ []:=by
  intro i;induction i using Nat.strongRecOn with
  | _ i ih=>
    intro hi hn;by_cases HX:∀j,j<i→AA.getD j true=true
    · intro he;have:=LZ BW hi EW HX hn;rw[he]at this;cases this
    obtain⟨j,hj⟩:=Classical.not_forall.1 HX;obtain⟨h1,h2⟩:=Classical.not_imp.1 hj;exact ih j h1 (by omega) (by simpa using h2)
theorem jA{ops:List Oper}{m:List Bool}{T:Nat→List AV}{res:Nat→AV}(hT:∀(j:Nat) (o:Oper),ops[j]? =some o→m.getD j false=true→T (j+1)=BF (T j) o.dst (res j))(hS:∀j,j<ops.length→m.getD j false=false→T (j+1)=T j):∀j,j≤ops.length→(T j).length=(T 0).length:=by
  intro j;induction j with
  |zero=>intro _;rfl
  | succ j ih=>
    intro hj;have dA:j<ops.length:=by omega
    cases hm:m.getD j false with
    |true=>rw[hT j _ (List.getElem?_eq_getElem dA) hm,IF];exact ih (by omega)
    |false=>rw[hS j dA hm];exact ih (by omega)
theorem Z5{ops:List Oper}{m:List Bool}{T:Nat→List AV}{res:Nat→AV}(hT:∀(j:Nat) (o:Oper),ops[j]? =some o→m.getD j false=true→T (j+1)=BF (T j) o.dst (res j))(hS:∀j,j<ops.length→m.getD j false=false→T (j+1)=T j):∀(u i d:Nat),i+d≤ops.length→(∀g o,i≤g→g<i+d→ops[g]? =some o→m.getD g false=true→o.dst≠some u)→(T (i+d))[u]? =(T i)[u]? :=by
  intro u i d;induction d with
  |zero=>intro _ _;rfl
  | succ d ih=>
    intro hl hk;have h1:=ih (by omega) (fun g o a b=>hk g o a (by omega));have dA:i+d<ops.length:=by omega
    have ho:=List.getElem?_eq_getElem dA;rw[←Nat.add_assoc];cases hm:m.getD (i+d) false with
    |true=>rw[hT _ _ ho hm,KM (hk _ _ (by omega) (by omega) ho hm)];exact h1
    |false=>rw[hS _ dA hm];exact h1
theorem yG(hG:GJ P Γ){ops:List Oper}{m:List Bool}(hd:Tm ops m){base:Nat}{T:Nat→List AV}{res:Nat→AV}{Q:Exit→Act→World→Prop}{K':St→Prop}
    (hT:∀j o,ops[j]? =some o→m.getD j false=true→T (j+1)=BF (T j) o.dst (res j)∧∃d,E5 P o (BK (T j)) BN (base+j) (res j) d∧(KB o.op=false→d=none))
    (hS:∀j,j<ops.length→m.getD j false=false→T (j+1)=T j) (LV:cX.Az≤base)
    (hQ:∀s' L' a' w',K' s'→Cn cX s' L' a' w'→Q .normal a' w'):
    ∀ (fuel q:Nat) (AA:Array Bool) (s:St) (t':List AV) (L:LM) (a:Act) (w:World),aR ops.length AA≤fuel→AA.size=ops.length→WN ops AA→q≤ops.length→
      (∀i,i<q→m.getD i false=false→AA.getD i true=true)→(∀i,q≤i→i<ops.length→m.getD i false=false→AA.getD i true=false)→
      DS Γ P base (m.drop q) (ops.drop q) q s K'→
      (∀u,(∀(j:Nat) (o:Oper),ops[j]? =some o→m.getD j false=false→AA.getD j true=true→o.dst≠some u)→s.t[u]? =(T ops.length)[u]?)→s.t.length=(T ops.length).length→t'.length=s.t.length→
      (∀u,(∀(j:Nat) (o:Oper),ops[j]? =some o→m.getD j false=true→AA.getD j true=false→o.dst≠some u)→t'[u]? =s.t[u]?)→
      Cn cX ⟨t',s.H,s.nx⟩ L a w→(∀i,i<ops.length→AA.getD i true=false→L (base+i)=none)→base+ops.length≤s.nx→
      tS cX.rd P .any ops.toArray Q fuel AA a w:=by
  have Tn:=fun j o ho hm=>(hT j o ho hm).1
  have qP:=jA Tn hS;have bQ:=Z5 Tn hS;have To:∀{o:Oper} {t1 t2:List AV},(∀u∈dF o,t1[u]? =t2[u]?)→∀x∈o.op.operands,BK t1 x=BK t2 x:=by
    intro o t1 t2 h x hx;cases x with
    | tmp u=>
      have:=h u (by unfold dF;exact List.mem_filterMap.2 ⟨.tmp u,by simpa using hx,rfl⟩);simp only[BK,List.getD_eq_getElem?_getD,this]
    |_=>simp[BK]
  intro fuel;induction fuel with
  | zero=>
    intro q AA s t' L a w hf EW hs hq J9 NH h ha HR ME IZ hc C7 Ml;have HX:∀i,i<ops.length→AA.getD i true=true:=by
      intro i hi;cases hb:AA.getD i true with
      |true=>rfl
      |false=>have:=PJ hb hi;omega
    have h1:=OV (ops.length-q) q (by omega) (fun i g1 g2=>by
      cases hb:m.getD i false with
      |true=>rfl
      |false=>have:=NH i g1 (by omega) hb;rw[HX i (by omega)]at this;cases this) h
    rw[show q+(ops.length-q)=ops.length by omega,List.drop_length]at h1;have ht:t'=s.t:=List.ext_getElem? fun u=>IZ u fun j o ho _ hb=>by
      rw[HX j (List.getElem?_eq_some_iff.1 ho).1]at hb;cases hb
    subst ht;refine⟨?_,hQ _ _ _ _ (XX h1) hc⟩;rw[List.eq_nil_iff_forall_not_mem];intro i FV;obtain⟨h1,h2,_⟩:=DP.1 FV;rw[HX i h1]at h2;cases h2
  | succ fuel ih=>
    intro q AA s t' L a w hf EW hs hq J9 NH h ha HR ME IZ hc C7 Ml;refine⟨fun h0=>?_,?_⟩
    · have HX:∀i,i<ops.length→AA.getD i true=true:=by
        intro i hi;cases hb:AA.getD i true with
        |true=>rfl
        |false=>exact absurd h0 (bP hd.lt EW i hi hb)
      have h1:=OV (ops.length-q) q (by omega) (fun i g1 g2=>by
        cases hb:m.getD i false with
        |true=>rfl
        |false=>have:=NH i g1 (by omega) hb;rw[HX i (by omega)]at this;cases this) h
      rw[show q+(ops.length-q)=ops.length by omega,List.drop_length]at h1;have ht:t'=s.t:=List.ext_getElem? fun u=>IZ u fun j o ho _ hb=>by
        rw[HX j (List.getElem?_eq_some_iff.1 ho).1]at hb;cases hb
      subst ht;exact hQ _ _ _ _ (XX h1) hc
    intro i FV;obtain⟨h1,h2,_⟩:=DP.1 FV;have ho:ops[i]? =some ops[i]:=List.getElem?_eq_getElem h1;have Sr:=hd.g i _ ho;have HS:∀k,(AA.setIfInBounds i true).getD k true=false↔k≠i∧AA.getD k true=false:=by
      intro k;rw[DB h2];by_cases e:k=i
      · simp[e]
      simp[e]
    have hun:=PJ h2 h1;unfold Lt;simp only[List.getElem?_toArray,ho];rw[if_pos (by simp[Region.wanted,Sr])];refine .inl ?_;cases hm:m.getD i false with
    | true=>
      obtain⟨f1,⟨d,f2,f3⟩,f4⟩:=hd.fl i _ ho hm;obtain⟨g1,dd,g2,g3⟩:=hT i _ ho hm;have g3:=g3 f1;subst g3;have mS:∀u∈dF ops[i],(T i)[u]? =t'[u]? :=by
        intro u hu;have hw:=f4 u hu;have e1:t'[u]? =s.t[u]? :=IZ u fun j o hj GZ OW he=>by
          rcases hw j o hj he with ⟨_,_,iD⟩|⟨Na,_⟩
          · rw[CS hs FV iD]at OW;cases OW
          rw[Na]at GZ;cases GZ
        have e2:s.t[u]? =(T ops.length)[u]? :=ha u fun j o hj GZ OW he=>by
          rcases hw j o hj he with ⟨k1,_,_⟩|⟨_,iD⟩
          · rw[k1]at GZ;cases GZ
          rw[hs i j iD OW]at h2;cases h2
        have e3:=bQ u i (ops.length-i) (by omega) (fun g o k1 k2 hg Tp he=>by
          rcases hw g o hg he with ⟨_,k3,_⟩|⟨k3,_⟩
          · omega
          rw[Tp]at k3;cases k3)
        rw[show i+(ops.length-i)=ops.length by omega]at e3;rw[e1,e2,e3]
      have Ba:=(g2 s.H (fun _ _ h=>by cases h)).ev (To mS);refine j9 Ba hc (C7 i h1 h2) (by omega) (by omega) ?_;rintro r H' L' a' w' ⟨rfl,rfl⟩ hL PF;refine ih q _ s (BF t' ops[i].dst (res i)) L' a' w' (by omega) (by simpa using EW) (hs.set FV) hq (fun k hk MF=>?_) (fun k k1 k2 MF=>?_) h (fun u hu=>ha u fun j o hj GZ OW=>hu j o hj GZ (by rw[DB h2];split<;>first|rfl|exact OW)) HR (by rw[IF];exact ME) (fun u hu=>?_) PF (fun k hk eD=>?_) Ml
      · rw[DB h2];split
        · rfl
        exact J9 k hk MF
      · exact(HS k).2 ⟨fun e=>(by rw[e,hm]at MF;cases MF),NH k k1 k2 MF⟩
      · by_cases e:u=d
        · subst e;have e2:s.t[u]? =(T ops.length)[u]? :=ha u fun j o hj GZ _ he=>f3 j o hj (fun e=>by rw[e,hm]at GZ;cases GZ) he
          have e3:=bQ u (i+1) (ops.length-(i+1)) (by omega) (fun g o k1 k2 hg Tp he=>f3 g o hg (by omega) he);rw[show i+1+(ops.length-(i+1))=ops.length by omega]at e3;rw[e2,e3,g1,f2];exact TN (by rw[ME,HR,qP _ (Nat.le_refl _),qP i (by omega)]) (.inl rfl)
        rw[KM (by rw[f2];intro e2;cases e2;exact e rfl)];refine IZ u fun j o hj GZ OW he=>?_
        by_cases ej:j=i
        · subst ej;rw[ho]at hj;cases hj;rw[f2]at he;cases he;exact e rfl
        exact hu j o hj GZ ((HS j).2 ⟨ej,OW⟩) he
      obtain⟨k1,k2⟩:=(HS k).1 eD;rw[hL _ (by omega)];exact C7 k hk k2
    | false=>
      obtain⟨f1,f2⟩:=hd.sp i _ ho hm;have hqi:q≤i:=by
        apply Classical.byContradiction;intro hn;rw[J9 i (by omega) hm]at h2;cases h2
      have Bk:∀k,q≤k→k<q+(i-q)→m.getD k false=true:=by
        intro k k1 k2;cases hb:m.getD k false with
        |true=>rfl
        | false=>
          have:=CS hs FV (f1 k (by omega) hb);rw[NH k k1 (by omega) hb]at this;cases this
      have h3:=OV (i-q) q (by omega) Bk h;rw[show q+(i-q)=i by omega,List.drop_eq_getElem_cons h1]at h3;have h4:=qN (by simpa[List.getD_eq_getElem?_getD,List.getElem?_drop]using hm) h3;rw[List.drop_drop]at h4;have mS:∀u∈dF ops[i],s.t[u]? =t'[u]? :=by
        intro u hu;exact(IZ u fun j o hj GZ OW he=>by
          rw[CS hs FV (f2 u hu j o hj GZ he)]at OW;cases OW).symm
      refine V1 hG h4 (To mS) hc (C7 i h1 h2) (by omega) (by omega) ?_;intro r H' nx' L' a' w' hk Ox hL PF;refine ih (i+1) _ ⟨BF s.t ops[i].dst r,H',nx'⟩ (BF t' ops[i].dst r) L' a' w' (by omega) (by simpa using EW) (hs.set FV) (by omega) (fun k hk MF=>?_) (fun k k1 k2 MF=>?_) (by simpa[Nat.add_comm]using hk) (fun u hu=>?_) (by simp only[IF];exact HR) (by simp only[IF];exact ME) (fun u hu=>?_) PF (fun k hk eD=>?_) (by simp only;omega)
      · rw[DB h2];split
        · rfl
        rename_i e;rcases Nat.lt_or_ge k q with hkq|hkq
        · exact J9 k hkq MF
        rw[Bk k hkq (by omega)]at MF;cases MF
      · exact(HS k).2 ⟨by omega,NH k (by omega) k2 MF⟩
      · simp only
        rw[KM (hu i _ ho hm (by rw[DB h2,if_pos rfl]))];exact ha u fun j o hj GZ OW=>hu j o hj GZ (by rw[DB h2];split<;>first|rfl|exact OW)
      · simp only
        refine TN ME (.inr (IZ u fun j o hj GZ OW he=>?_));exact hu j o hj GZ ((HS j).2 ⟨fun e=>(by rw[e,hm]at GZ;cases GZ),OW⟩) he
      obtain⟨k1,k2⟩:=(HS k).1 eD;rw[hL _ (by omega) (by omega)];exact C7 k hk k2
end
theorem AW.qQ{cX:Ctx}(hG:GJ P Γ)(Ej:P.follows .mixedOrders=true){n:Nat}{ops:List Oper}{s:St}{K:Exit→St→Prop}(m:List Bool)(kX:Iv ops m=true)
    (h:EU Γ P s.nx m ops 0 s.t fun t=>DS Γ P s.nx m ops 0 ⟨t,s.H,s.nx+ops.length⟩ (K .normal)):AW cX P (.region n ops.toArray true) s K:=by
  intro L a w Q hc hQ;have hd:=eW kX;refine OD Ej ?_;obtain⟨T,res,h1,h2,h3,h4⟩:=V0 hG (ops:=ops) (m:=m) ops m 0 s.t (by simp) (by simp) h;have Ek:Cn cX ⟨s.t,s.H,s.nx+ops.length⟩ L a {w with drawn:=w.drawn+1}:=
    ⟨hc.df.same rfl,hc.sz,fun k x hk=>(hc.sl k x hk).drew,hc.sr.drew,fun i hi=>hc.fr i (by simp only at hi;omega),by have:=hc.nx;simp only;omega,hc.lo,hc.st.trans (Step.drew _ _ _)⟩
  have:=yG (Q:=Q) hG hd (base:=s.nx) (T:=T) (res:=res) (fun j o ho hm=>h3 j o (Nat.zero_le _) ho hm) (fun j hj hm=>h4 j (Nat.zero_le _) hj hm) hc.nx (fun s' L' a' w' hk PF=>hQ _ _ _ _ _ hk PF)
    ops.length 0 (Array.replicate ops.length false) ⟨T ops.length,s.H,s.nx+ops.length⟩ s.t L a {w with drawn:=w.drawn+1} (by
      unfold aR;exact Nat.le_trans (List.length_filter_le _ _) (by simp)) (by simp) (by
      intro i j hw hj;have:=hw.len;simp[Array.getD_eq_getD_getElem?,this]at hj) (Nat.zero_le _) (fun i hi=>by omega) (fun i _ hi _=>by
      simp[Array.getD_eq_getD_getElem?,hi]) (by simpa using h2) (fun u _=>rfl) rfl ?_ ?_ Ek (fun i hi _=>hc.fr _ (by omega)) (by simp only;omega)
  · simpa using this
  · simp only
    rw[jA (fun j o ho hm=>(h3 j o (Nat.zero_le _) ho hm).1) (fun j hj hm=>h4 j (Nat.zero_le _) hj hm) _ (Nat.le_refl _),h1]
  intro u hu;have:=Z5 (fun j o ho hm=>(h3 j o (Nat.zero_le _) ho hm).1) (fun j hj hm=>h4 j (Nat.zero_le _) hj hm) u 0 ops.length (by omega) (fun g o _ hg ho hm=>hu g o ho hm (by
    have:=(List.getElem?_eq_some_iff.1 ho).1;simp[Array.getD_eq_getD_getElem?,this]))
  rw[Nat.zero_add]at this;simp only
  rw[this,h1]
@[congr] theorem Ts {base i:Nat} {m:List Bool} {rest:List Oper} {t t':List AV} {k:List AV→Prop} (h:t=t'):EU Γ P base m rest i t k=EU Γ P base m rest i t' k:=by rw[h]
@[congr] theorem Tt {base i:Nat} {m:List Bool} {rest:List Oper} {s s':St} {K:St→Prop} (h:s=s'):DS Γ P base m rest i s K=DS Γ P base m rest i s' K:=by rw[h]
theorem jB{base i:Nat}{m:List Bool}{rest:List Oper}{t:List AV}{k:List AV→Prop}{dst:Option Nat}{op:Op}{ty:TypeId}{pos:String}{after:Array Edge}{g:Option (Nat×Bool)}:
    EU Γ P base (true::m) (⟨dst,op,ty,pos,after,g⟩::rest) i t k=NG Γ P op t BN (base+i) fun r _=>EU Γ P base m rest (i+1) (BF t dst r) k:=by rw[EU]
theorem jC{base i:Nat}{m:List Bool}{o:Oper}{rest:List Oper}{t:List AV}{k:List AV→Prop}:EU Γ P base (false::m) (o::rest) i t k=EU Γ P base m rest (i+1) t k:=by rw[EU]
theorem jD{base i:Nat}{rest:List Oper}{t:List AV}{k:List AV→Prop}:EU Γ P base [] rest i t k=k t:=by cases rest<;>rw[EU]
theorem Tu{base i:Nat}{m:List Bool}{o:Oper}{rest:List Oper}{s:St}{K:St→Prop}:DS Γ P base (true::m) (o::rest) i s K=DS Γ P base m rest (i+1) s K:=by rw[DS]
theorem Tv{base i:Nat}{m:List Bool}{rest:List Oper}{s:St}{K:St→Prop}{dst:Option Nat}{op:Op}{ty:TypeId}{pos:String}{after:Array Edge}{g:Option (Nat×Bool)}:
    DS Γ P base (false::m) (⟨dst,op,ty,pos,after,g⟩::rest) i s K=HA Γ P dst op (base+i) s fun s'=>DS Γ P base m rest (i+1) s' K:=by rw[DS]
theorem Tw{base i:Nat}{s:St}{K:St→Prop}:DS Γ P base [] [] i s K=K s:=by rw[DS]
end
attribute [go_sem] jB jC jD Tu Tv Tw
end Go.Proofs.YtghmeeifjeafmaaGreat
