import Derived.Test.YtgknbnkmilddhaaGreatZ04
set_option linter.unusedVariables false
set_option linter.unusedSimpArgs false

namespace Go.Proofs.YtgknbnkmilddhaaGreat
def msk(acc:List Nat):List Edge->Nat
  |[]=>0
  |e::r=>(if Region.binds .any e then 2^e.on|||acc.getD e.on 0 else 0)|||msk acc r
def cls:List Oper->List Nat->List Nat
  |[],acc=>acc
  |o::r,acc=>cls r (acc++[msk acc o.after.toList])
inductive EI (ops:List Oper):Nat->Nat->Prop
  |one {i j:Nat} (o:Oper) (e:Edge) (ho:ops[j]? =some o) (he:e∈o.after.toList) (hb:Region.binds .any e=true) (hi:e.on=i):EI ops i j
  |step {i k j:Nat} (a:EI ops i k) (b:EI ops k j):EI ops i j
theorem yN{ops:List Oper}{acc:List Nat}(AA1:∀j i,(acc.getD j 0).testBit i=true->EI ops i j){j:Nat}{o:Oper}(ho:ops[j]? =some o):∀(es:List Edge),(∀e∈es,e∈o.after.toList)->∀i,(msk acc es).testBit i=true->EI ops i j:=by
  intro es;induction es with
  |nil=>intro _ i h;simp[msk]at h
  | cons e es ih=>
    intro hm i h;simp only[msk,Nat.testBit_or,Bool.or_eq_true]at h;rcases h with h|h
    · split at h
      · rename_i hb;simp only[Nat.testBit_or,Bool.or_eq_true,Nat.testBit_two_pow,decide_eq_true_eq]at h;have h0:EI ops e.on j:= .one o e ho (hm e AB) hb rfl;rcases h with h|h
        · subst h;exact h0
        exact .step (AA1 _ _ h) h0
      simp at h
    exact ih (λe he=>hm e (by simp[he])) i h
theorem yO{ops:List Oper}:∀(rest:List Oper) (acc:List Nat),ops.drop acc.length=rest->(∀j i,(acc.getD j 0).testBit i=true->EI ops i j)->∀j i,((cls rest acc).getD j 0).testBit i=true->EI ops i j:=by
  intro rest;induction rest with
  |nil=>intro acc _ h;exact h
  | cons o rest ih=>
    intro acc hd h;simp only[cls];have ho:ops[acc.length]? =some o:=by
      have:(ops.drop acc.length)[0]? =some o:=by rw[hd];rfl
      simpa using this
    refine ih _ ?_ ?_
    · simp only[List.length_append,List.length_cons,List.length_nil,Nat.zero_add];rw[<-List.drop_drop,hd];rfl
    intro j i hj;rw[List.getD_eq_getElem?_getD,List.getElem?_append]at hj;split at hj
    · exact h j i (by rw[List.getD_eq_getElem?_getD];exact hj)
    rename_i C4;by_cases he:j=acc.length
    · subst he;simp only[Nat.sub_self,List.getElem?_cons_zero,Option.getD_some]at hj;exact yN h ho _ (λ_ h=>h) i hj
    rw[List.getElem?_eq_none (by simp;omega)]at hj;simp at hj
def wt(ops:List Oper)(cl:List Nat)(i j:Nat):Bool:=(cl.getD j 0).testBit i
theorem F0{ops:List Oper}{i j:Nat}(h:wt ops (cls ops []) i j=true):EI ops i j:=
  yO ops [] AB (by intro j i h;simp at h) j i h
def looks(ops:List Oper)(o:Oper):List Nat:=
  (o.op.operands.toList.filterMap fun| .tmp t=>some t|_=>none)++(match o.guard with|some (g,_)=>((ops[g]?).bind (·.dst)).toList|none=>[])
def UC:Op->Bool
  | .load .. =>true
  | .call ⟨.value _,_,_⟩=>true
  |_=>false
def dok(ops:List Oper)(m:Nat):Bool:=
  let cl:=cls ops []
  m<=ops.length &&
  (ops.zipIdx.all λ(o,j)=>o.after.toList.all λe=> !Region.binds .any e||e.on<j)&&
  (ops.zipIdx.all λ(o,j)=>if j<m then
      (match o.dst with
        |some d=>ops.zipIdx.all λ(o',i)=> !(i<m && i !=j && o'.dst==some d)
        |none=>false)&&
      ((looks ops o).all λu=>ops.zipIdx.all λ(o',i)=> !(i<m && i !=j && o'.dst==some u)||(if i<j then wt ops cl i j else wt ops cl j i))&&
      (!UC o.op||ops.zipIdx.all λ(o',i)=> !(i<j && lays o'.op)||wt ops cl i j)
    else (List.range j).all λi=>wt ops cl i j)
def E8(Γ:CA)(P:Program)(ops:List Oper)(base:Nat):List Oper->Nat->List AV->HP->(List AV->HP->Prop)->Prop
  |[],_,t,H,k=>k t H
  | o ::rest,i,t,H,k=>Lk ops o.guard t (λt=>RF Γ P o.op t H (base+i) λr d=>E8 Γ P ops base rest (i+1) (BG t o.dst r) (HN H (base+i) d) k)
      (λt=>E8 Γ P ops base rest (i+1) (BG t o.dst (.c undef)) H k)
def qA(ops:List Oper)(g:Option (Nat×Bool))(t:List AV):Option Bool:=
  match g with
  |none=>some true
  | some (j,want)=>match (ops[j]?).bind (·.dst)with
    | some d=>match t[d]? with
      |some (.b x)=>some (x==want)
      |some (.c (.tuple _))=>some false
      |_=>none
    |none=>none
theorem Np{ops:List Oper}{g:Option (Nat×Bool)}{t:List AV}{yes no:List AV->Prop}(h:Lk ops g t yes no):(qA ops g t=some true/\yes t)\/(qA ops g t=some false/\no t):=by
  unfold Lk at h;unfold qA;split at h
  · exact .inl ⟨rfl,h⟩
  rename_i j want;split at h
  · rename_i d hd;simp only[hd];split at h
    · rename_i x hx;simp only[hx];have IA:t.set d (.b x)=t:=by
        apply List.ext_getElem?;intro i;rw[List.getElem?_set];split
        · rename_i hi;subst hi;rw[if_pos (List.getElem?_eq_some_iff.1 hx).1,hx]
        rfl
      by_cases Cp:x=want
      · exact .inl ⟨by simp[Cp],by have:=h.1 Cp;rwa [<-Cp,IA]at this⟩
      have S7:x= !want:=by cases x<;>cases want<;>simp at Cp ⊢
      exact .inr ⟨by simp[Cp],by have:=h.2 S7;rwa [<-S7,IA]at this⟩
    · rename_i vs hx;simp only[hx];exact .inr ⟨AB,h⟩
    exact h.elim
  exact h.elim
section
variable{P:Program}{Γ:CA}
theorem yP{op:Op}(h:UC op=false)(t:List AV)(H H':HP)(id:Nat)(k:AV->Option (List AV)->Prop):RF Γ P op t H id k=RF Γ P op t H' id k:=by
  cases op;case load=>cases h
  case call c=>
    obtain⟨callee,args,ED⟩:=c;cases callee with
    |value f=>cases h
    |invoke r m=>rfl
    |builtin b=>cases b<;>rfl
  case slice ty x lo hi mx=>cases mx<;>rfl
  all_goals rfl
theorem EZ.mono{o:Oper}{ev:Operand->AV}{H H2:HP}{id:Nat}{r:AV}{d:Option (List AV)}(h:EZ P o ev H id r d)(hH:∀i c,H i=some c->H2 i=some c):EZ P o ev H2 id r d:=
  λH' h'=>h H' (λi c hc=>h' i c (hH i c hc))
theorem yQ(hG:IB P Γ){ops:List Oper}{base m:Nat}{k:List AV->HP->Prop}:∀(rest:List Oper) (i:Nat) (t:List AV) (H:HP),rest=(ops.take m).drop i->i<=m->E8 Γ P ops base rest i t H k->
    ∃ (T:Nat->List AV) (HH:Nat->HP) (res:Nat->AV) (dd:Nat->Option (List AV)),T i=t/\HH i=H/\k (T (min m ops.length)) (HH (min m ops.length))/\
      (∀j o,i<=j->j<m->ops[j]? =some o->T (j+1)=BG (T j) o.dst (res j))/\(∀j,i<=j->j<m->j<ops.length->HH (j+1)=HN (HH j) (base+j) (dd j))/\
      (∀j o,i<=j->j<m->ops[j]? =some o->(qA ops o.guard (T j)=some true/\EZ P o (BQ (T j)) (HH j) (base+j) (res j) (dd j)/\(UC o.op=false->∀H',EZ P o (BQ (T j)) H' (base+j) (res j) (dd j))/\(lays o.op=false->dd j=none))\/
        (qA ops o.guard (T j)=some false/\res j= .c undef/\dd j=none)):=by
  intro rest;induction rest with
  | nil=>
    intro i t H hr hi h;have hlen:(ops.take m).length<=i:=by
      have:=congrArg List.length hr;simp only[List.length_nil,List.length_drop]at this;omega
    rw[List.length_take]at hlen;refine⟨λ_=>t,λ_=>H,λ_=> .j,λ_=>none,rfl,rfl,h,?_,?_,?_⟩
    · intro j o h1 h2 h3;have:=(List.getElem?_eq_some_iff.1 h3).1;omega
    · intro j h1 h2 h3;omega
    intro j o h1 h2 h3;have:=(List.getElem?_eq_some_iff.1 h3).1;omega
  | cons o rest ih=>
    intro i t H hr hi h;have C4:i<(ops.take m).length:=by
      have:=congrArg List.length hr;simp only[List.length_cons,List.length_drop]at this;omega
    have hio:(ops.take m)[i]? =some o:=by
      have:((ops.take m).drop i)[0]? =some o:=by rw[<-hr];rfl
      simpa using this
    rw[List.length_take]at C4;have him:i<m:=A0;have bM:ops[i]? =some o:=by
      rw[List.getElem?_take]at hio;simpa[him]using hio
    have A3Y:rest=(ops.take m).drop (i+1):=by
      rw[<-List.drop_drop,<-hr];rfl
    simp only[E8]at h;have fin:∀(r:AV) (d:Option (List AV)),E8 Γ P ops base rest (i+1) (BG t o.dst r) (HN H (base+i) d) k->((qA ops o.guard t=some true/\EZ P o (BQ t) H (base+i) r d/\(UC o.op=false->∀H',EZ P o (BQ t) H' (base+i) r d)/\(lays o.op=false->d=none))\/(qA ops o.guard t=some false/\r= .c undef/\d=none))->
        ∃ (T:Nat->List AV) (HH:Nat->HP) (res:Nat->AV) (dd:Nat->Option (List AV)),T i=t/\HH i=H/\k (T (min m ops.length)) (HH (min m ops.length))/\
          (∀j o,i<=j->j<m->ops[j]? =some o->T (j+1)=BG (T j) o.dst (res j))/\(∀j,i<=j->j<m->j<ops.length->HH (j+1)=HN (HH j) (base+j) (dd j))/\
          (∀j o,i<=j->j<m->ops[j]? =some o->(qA ops o.guard (T j)=some true/\EZ P o (BQ (T j)) (HH j) (base+j) (res j) (dd j)/\(UC o.op=false->∀H',EZ P o (BQ (T j)) H' (base+j) (res j) (dd j))/\(lays o.op=false->dd j=none))\/
            (qA ops o.guard (T j)=some false/\res j= .c undef/\dd j=none)):=by
      intro r d A3Z Uj;obtain⟨T,HH,res,dd,h1,h2,h3,h4,h5,h6⟩:=ih (i+1) _ _ A3Y A0 A3Z;refine⟨λj=>if j=i then t else T j,λj=>if j=i then H else HH j,λj=>if j=i then r else res j,λj=>if j=i then d else dd j,AB,AB,?_,?_,?_,?_⟩
      · have:min m ops.length≠i:=A0;simpa[this]using h3
      · intro j o' h7 h8 h9;by_cases hj:j=i
        · subst hj;rw[bM]at h9;cases h9;simp[h1]
        have Cq:j+1≠i:=A0;simp only[hj,Cq,if_false];exact h4 j o' A0 h8 h9
      · intro j h7 h8 h9;by_cases hj:j=i
        · subst hj;simp[h2]
        have Cq:j+1≠i:=A0;simp only[hj,Cq,if_false];exact h5 j A0 h8 h9
      intro j o' h7 h8 h9;by_cases hj:j=i
      · subst hj;rw[bM]at h9;cases h9;simpa using Uj
      simp only[hj,if_false];exact h6 j o' A0 h8 h9
    rcases Np h with ⟨hw,hy⟩|⟨hw,hn⟩
    · cases hd:UC o.op with
      | true=>
        obtain⟨r,d,h1,h2,h3⟩:=ZZ hG hy;exact fin r d h1 (.inl ⟨hw,h2,(λhf=>by rw[hd]at hf;cases hf),h3⟩)
      | false=>
        rw[yP hd t H BM]at hy;obtain⟨r,d,h1,h2,h3⟩:=ZZ hG hy;have h4:∀H',EZ P o (BQ t) H' (base+i) r d:=λH'=>h2.mono (λi c hc=>by cases hc)
        exact fin r d h1 (.inl ⟨hw,h4 H,λ_=>h4,h3⟩)
    exact fin _ none (by simpa[HN]using hn) (.inr ⟨hw,rfl,rfl⟩)
theorem iA{ops:List Oper}{m:Nat}(h:dok ops m=true):
    m<=ops.length/\(∀j o,ops[j]? =some o->∀e∈o.after.toList,Region.binds .any e=true->e.on<j)/\
    (∀j o,j<m->ops[j]? =some o->(∃d,o.dst=some d/\∀i o',i<m->i≠j->ops[i]? =some o'->o'.dst≠some d)/\
      (∀u∈looks ops o,∀i o',i<m->i≠j->ops[i]? =some o'->o'.dst=some u->if i<j then EI ops i j else EI ops j i)/\
      (UC o.op=true->∀i o',i<j->ops[i]? =some o'->lays o'.op=true->EI ops i j))/\
    (∀j o,m<=j->ops[j]? =some o->∀i,i<j->EI ops i j):=by
  unfold dok at h;simp only[Bool.and_eq_true,decide_eq_true_eq,List.all_eq_true]at h;obtain⟨⟨h1,h2⟩,h3⟩:=h;have mem:∀{j:Nat} {o:Oper},ops[j]? =some o->(o,j)∈ops.zipIdx:=by
    intro j o ho;rw[List.mem_zipIdx_iff_getElem?];exact ho
  refine⟨h1,?_,?_,?_⟩
  · intro j o ho e he hb;have:=h2 (o,j) (mem ho);simp only[List.all_eq_true]at this;have:=this e he;simpa[hb]using this
  · intro j o hj ho;have h4:=h3 (o,j) (mem ho);simp only[hj,if_true,Bool.and_eq_true]at h4;obtain⟨⟨h5,h6⟩,h7⟩:=h4;refine⟨?_,?_,?_⟩
    · cases hd:o.dst with
      |none=>rw[hd]at h5;cases h5
      | some d=>
        rw[hd]at h5;refine⟨d,rfl,?_⟩;intro i o' hi NZ Cs hdd;simp only[List.all_eq_true]at h5;have:=h5 (o',i) (mem Cs);simp[hi,NZ,hdd]at this
    · intro u hu i o' hi NZ Cs hd;simp only[List.all_eq_true]at h6;have:=h6 u hu (o',i) (mem Cs);simp only[hi,NZ,hd,decide_true,Bool.and_self,ne_eq,not_false_eq_true,bne_iff_ne,beq_self_eq_true,Bool.not_true,Bool.false_or]at this;have AQ:(i !=j)=true:=by simpa using NZ
      simp only[AQ,Bool.and_self,Bool.not_true,Bool.false_or]at this;split
      · rename_i C4;rw[if_pos C4]at this;exact F0 this
      rename_i C4;rw[if_neg C4]at this;exact F0 this
    intro hh i o' hi Cs hl;simp only[hh,Bool.not_true,Bool.false_or,List.all_eq_true]at h7;have:=h7 (o',i) (mem Cs);simp only[hi,hl,decide_true,Bool.and_self,Bool.not_true,Bool.false_or]at this;exact F0 this
  intro j o hj ho i hi;have h4:=h3 (o,j) (mem ho);have:¬j<m:=A0;simp only[this,if_false,List.all_eq_true,List.mem_range]at h4;exact F0 (h4 i hi)
def nD(n:Nat)(AE:Array Bool):Nat:=((List.range n).filter λi=> !AE.getD i true).length
theorem UD{n j:Nat}{AE:Array Bool}(hj:AE.getD j true=false)(hn:j<n):nD n (AE.setIfInBounds j true)<nD n AE:=by
  unfold nD;have Bp:∀i,(AE.setIfInBounds j true).getD i true=if i=j then true else AE.getD i true:=by
    intro i;simp only[Array.getD_eq_getD_getElem?,Array.getElem?_setIfInBounds];by_cases h:i=j
    · subst h;simp only[if_true];split<;>simp
    have h':¬j=i:=λh'=>h h'.symm
    simp[h,h']
  have:((List.range n).filter λi=> !(AE.setIfInBounds j true).getD i true)=((List.range n).filter λi=> !AE.getD i true).filter λi=>i !=j:=by
    rw[List.filter_filter];apply List.filter_congr;intro i _;rw[Bp];by_cases h:i=j<;>simp[h]
  rw[this,List.length_filter_lt_length_iff_exists];refine⟨j,?_,AB⟩;rw[List.mem_filter];exact⟨List.mem_range.2 hn,by rw[hj];rfl⟩
theorem E0{j:Nat}{AE:Array Bool}(hj:AE.getD j true=false)(i:Nat):(AE.setIfInBounds j true).getD i true=if i=j then true else AE.getD i true:=by
  simp only[Array.getD_eq_getD_getElem?,Array.getElem?_setIfInBounds];by_cases h:i=j
  · subst h;simp only[if_true];split<;>simp
  have h':¬j=i:=λh'=>h h'.symm
  simp[h,h']
def gB(ops:List Oper)(AE:Array Bool):Prop:=∀i j,EI ops i j->AE.getD j true=true->AE.getD i true=true
theorem EI.len{ops:List Oper}{i j:Nat}(h:EI ops i j):j<ops.length:=by
  induction h with
  |one o e ho he hb hi=>exact(List.getElem?_eq_some_iff.1 ho).1
  |step a b iha ihb=>exact ihb
theorem EJ{ops:List Oper}{AE:Array Bool}{i:Nat}:i∈Region.ready .any ops.toArray AE↔i<ops.length/\AE.getD i true=false/\∀o,ops[i]? =some o->∀e∈o.after.toList,Region.binds .any e=true->AE.getD e.on false=true:=by
  unfold Region.ready;simp only[List.mem_filter,List.mem_range,List.size_toArray,List.getElem?_toArray,Bool.and_eq_true,Bool.not_eq_true'];constructor
  · rintro⟨h1,h2,h3⟩;refine⟨h1,h2,?_⟩;intro o ho e he hb;rw[ho]at h3;simp only[Option.map_some,Option.getD_some]at h3;rw[<-Array.all_toList]at h3;simp only[List.all_eq_true]at h3;have:=h3 e he;simpa[hb]using this
  rintro⟨h1,h2,h3⟩;refine⟨h1,h2,?_⟩;have ho:ops[i]? =some ops[i]:=List.getElem?_eq_getElem h1;rw[ho];simp only[Option.map_some,Option.getD_some];rw[<-Array.all_toList];simp only[List.all_eq_true];intro e he;by_cases hb:Region.binds .any e=true
  · simp[h3 _ ho e he hb]
  simp[hb]
theorem Nr{AE:Array Bool}{i:Nat}(h:AE.getD i false=true):AE.getD i true=true:=by
  simp only[Array.getD_eq_getD_getElem?]at*;cases hi:AE[i]? with
  |none=>simp
  |some b=>rw[hi]at h;simpa using h
theorem DA{ops:List Oper}{AE:Array Bool}{j:Nat}(hs:gB ops AE)(hr:j∈Region.ready .any ops.toArray AE){i:Nat}(hw:EI ops i j):AE.getD i true=true:=by
  obtain⟨h1,h2,h3⟩:=EJ.1 hr;have key:∀i j',EI ops i j'->j'=j->AE.getD i true=true:=by
    intro i j' hw;induction hw with
    | one o e ho he hb hi=>
      rintro rfl;rw[<-hi];exact Nr (h3 o ho e he hb)
    | @step i k j'' a b iha ihb=>
      rintro rfl;exact hs i k a (ihb rfl)
  exact key i j hw rfl
theorem gB.set{ops:List Oper}{AE:Array Bool}(hs:gB ops AE){j:Nat}(hr:j∈Region.ready .any ops.toArray AE):gB ops (AE.setIfInBounds j true):=by
  obtain⟨h1,h2,h3⟩:=EJ.1 hr;intro i k hw hk;rw[E0 h2]at hk ⊢;split
  · rfl
  by_cases Nf:k=j
  · subst Nf;exact DA hs hr hw
  rw[if_neg Nf]at hk;exact hs i k hw hk
theorem PU{ops:List Oper}{AE:Array Bool}(C4:∀j o,ops[j]? =some o->∀e∈o.after.toList,Region.binds .any e=true->e.on<j){q:Nat}(hq:q<ops.length)(FV:AE.size=ops.length)
    (hl:∀i,i<q->AE.getD i true=true) (hn:AE.getD q true=false):q∈Region.ready .any ops.toArray AE:=by
  refine EJ.2 ⟨hq,hn,?_⟩;intro o ho e he hb;have h1:=C4 q o ho e he hb;have h2:=hl _ h1;have h3:e.on<AE.size:=A0;simpa[Array.getD_eq_getD_getElem?,h3]using h2
section
variable{cX:Ctx}
theorem Ct(hG:IB P Γ){ops:List Oper}{base hi m:Nat}{Q:Exit->Act->World->Prop}{K':St->Prop}(C4:∀j o,ops[j]? =some o->∀e∈o.after.toList,Region.binds .any e=true->e.on<j)
    (YO:∀j o,m<=j->ops[j]? =some o->∀i,i<j->EI ops i j) (hhi:base+ops.length<=hi) (hQ:∀s' L' a' w',K' s'->Cn cX s' L' a' w'->Q .normal a' w'):
    ∀ (fuel q:Nat) (AE:Array Bool) (s:St) (L:LM) (a:Act) (w:World),m<=q->q<=ops.length->ops.length<=fuel+q->AE.size=ops.length->(∀i,i<ops.length->AE.getD i true=decide (i<q))->gB ops AE->
      DW Γ P ops base (ops.drop q) q s K'->Cr cX (base+q) hi s L a w->Lb cX.rd P .any ops.toArray Q fuel AE a w:=by
  intro fuel;induction fuel with
  | zero=>
    intro q AE s L a w hmq hq hf FV hl hs h c;have hqn:q=ops.length:=A0;subst hqn;rw[List.drop_length]at h;refine⟨?_,hQ _ _ _ _ h c.toCn⟩;rw[List.eq_nil_iff_forall_not_mem];intro i HM;obtain⟨h1,h2,_⟩:=EJ.1 HM;rw[hl i h1]at h2;simp[h1]at h2
  | succ fuel ih=>
    intro q AE s L a w hmq hq hf FV hl hs h c;by_cases hqn:q=ops.length
    · subst hqn;rw[List.drop_length]at h;refine⟨λ_=>hQ _ _ _ _ h c.toCn,?_⟩;intro i HM;obtain⟨h1,h2,_⟩:=EJ.1 HM;rw[hl i h1]at h2;simp[h1]at h2
    have Xq:q<ops.length:=A0;have hrd:=PU C4 Xq FV (λi HM=>by rw[hl i A0];simp[HM]) (by rw[hl q Xq];simp);refine⟨(λh0=>by rw[h0]at hrd;cases hrd),?_⟩;intro i HM;obtain⟨h1,h2,_⟩:=EJ.1 HM;have hiq:i=q:=by
      rw[hl i h1]at h2;simp only[decide_eq_false_iff_not,Nat.not_lt]at h2;by_cases AQ:i=q
      · exact AQ
      have:=DA hs HM (YO i ops[i] A0 (List.getElem?_eq_getElem h1) q A0);rw[hl q Xq]at this;simp at this
    subst hiq;have ho:ops[i]? =some ops[i]:=List.getElem?_eq_getElem h1;rw[List.drop_eq_getElem_cons h1]at h;simp only[DW]at h;have IA:∀k,k<ops.length->(AE.setIfInBounds i true).getD k true=decide (k<i+1):=by
      intro k hk;rw[E0 h2,hl k hk];by_cases Xr:k=i
      · simp[Xr]
      have:(k<i+1)=(k<i):=by apply propext;omega
      simp[Xr,this]
    unfold wpO;simp only[List.getElem?_toArray,ho];rcases O8 c.toCn h ops[i] rfl with ⟨hw,hy⟩|⟨hw,hn⟩
    · rw[if_pos hw];refine .inl (hU hG hy c A0 ?_);intro s' L' a' w' hk hc;exact ih (i+1) _ s' L' a' w' A0 A0 A0 (by simpa using FV) IA (hs.set HM) hk hc
    rw[if_neg (by simp[hw])];exact ih (i+1) _ _ L _ w A0 A0 A0 (by simpa using FV) IA (hs.set HM) hn (c.put _ (.c _)).skip
theorem uS{ops:List Oper}{g:Option (Nat×Bool)}{t:List AV}{z:Bool}(h:qA ops g t=some z):Lk ops g t (λ_=>z=true) (λ_=>z=false):=by
  unfold qA at h;unfold Lk;split at h
  · simpa using h.symm
  rename_i j want;split at h
  · rename_i d hd;simp only[hd];split at h
    · rename_i x hx;simp only[hx];simp only[Option.some.injEq]at h;refine⟨λhx=>?_,λhx=>?_⟩
      · rw[<-h,hx];simp
      rw[<-h,hx];cases want<;>rfl
    · rename_i vs hx;simp only[hx];simpa using h.symm
    cases h
  cases h
structure Part(ops:List Oper)(base m:Nat)(s:St)(res:Nat->AV)(dd:Nat->Option (List AV))(AE:Array Bool)(s':St):Prop where
  len:s'.t.length=s.t.length
  done:∀i o u,i<m->AE.getD i true=true->ops[i]? =some o->o.dst=some u->u<s.t.length->s'.t[u]? =some (res i)
  rest:∀u,(∀i o,i<m->AE.getD i true=true->ops[i]? =some o->o.dst≠some u)->s'.t[u]? =s.t[u]?
  heap:∀id,s'.H id=if base<=id/\id<base+m/\AE.getD (id-base) true=true then dd (id-base)else s.H id
  nx:s'.nx=s.nx
theorem Xt{ops:List Oper}{m:Nat}{s:St}{T:Nat->List AV}{res:Nat->AV}(hm:m<=ops.length)(h0:T 0=s.t)(hT:∀j o,j<m->ops[j]? =some o->T (j+1)=BG (T j) o.dst (res j))
    (hd:∀j o,j<m->ops[j]? =some o->∃d,o.dst=some d/\∀i o',i<m->i≠j->ops[i]? =some o'->o'.dst≠some d):∀i,i<=m->(T i).length=s.t.length/\
      (∀j o u,j<i->ops[j]? =some o->o.dst=some u->u<s.t.length->(T i)[u]? =some (res j))/\(∀u,(∀j o,j<i->ops[j]? =some o->o.dst≠some u)->(T i)[u]? =s.t[u]?):=by
  intro i;induction i with
  |zero=>intro _;rw[h0];exact⟨rfl,λj o u h=>A0,λu _=>rfl⟩
  | succ i ih=>
    intro hi;obtain⟨h1,h2,h3⟩:=ih A0;have T9:i<ops.length:=A0;have ho:ops[i]? =some ops[i]:=List.getElem?_eq_getElem T9;obtain⟨d,U7,XZ⟩:=hd i ops[i] A0 ho;rw[hT i ops[i] A0 ho,U7];simp only[BG];refine⟨by simpa using h1,?_,?_⟩
    · intro j o u hj Nt gC hu;rw[List.getElem?_set];by_cases hji:j=i
      · subst hji;rw[ho]at Nt;cases Nt;rw[U7]at gC;cases gC;simp[h1,hu]
      have AQ:d≠u:=by
        rintro rfl;exact XZ j o A0 hji Nt gC
      rw[if_neg AQ];exact h2 j o u A0 Nt gC hu
    intro u hu;have AQ:d≠u:=by
      rintro rfl;exact hu i ops[i] A0 ho U7
    rw[List.getElem?_set,if_neg AQ];exact h3 u (λj o hj Nt=>hu j o A0 Nt)
theorem Nu{base m:Nat}{s:St}{HH:Nat->HP}{dd:Nat->Option (List AV)}(h0:HH 0=s.H)(hH:∀j,j<m->HH (j+1)=HN (HH j) (base+j) (dd j))(SA:∀j,j<m->s.H (base+j)=none):
    ∀i,i<=m->∀id,HH i id=if base<=id/\id<base+i then dd (id-base)else s.H id:=by
  intro i;induction i with
  |zero=>intro _ id;rw[h0,if_neg A0]
  | succ i ih=>
    intro hi id;rw[hH i A0];have jG:=ih A0;by_cases DS:id=base+i
    · subst DS;rw[if_pos A0,show base+i-base=i by omega];cases hdd:dd i with
      | none=>
        simp only[HN];rw[jG,if_neg A0];exact SA i A0
      |some cs=>simp[HN]
    have hu:HN (HH i) (base+i) (dd i) id=HH i id:=by
      cases dd i with
      |none=>rfl
      |some cs=>exact A1 _ _ DS
    rw[hu,jG];by_cases hc:base<=id/\id<base+i
    · rw[if_pos hc,if_pos A0]
    rw[if_neg hc,if_neg A0]
theorem Nv{t t':List AV}{o:Oper}(h:∀u,Operand.tmp u∈o.op.operands->t[u]? =t'[u]?):∀x∈o.op.operands,BQ t x=BQ t' x:=by
  intro x hx;cases x with
  |tmp u=>simp only[BQ,List.getD_eq_getElem?_getD,h u hx]
  |const v=>rfl
  |global g=>rfl
  |func f=>rfl
theorem fT.ev{o:Oper}{ev ev':Operand->AV}{H:HP}{id:Nat}{k:AV->HP->Prop}(h:fT P o ev H id k)(he:∀x∈o.op.operands,ev x=ev' x):fT P o ev' H id k:=
  λL Av w ρ hs hf hL hH ho=>h L Av w ρ hs hf hL hH (λx hx=>by rw[he x hx];exact ho x hx)
theorem Xu{AE:Array Bool}{m:Nat}:∀n,(∀i,m<=i->i<n->AE.getD i true=false)->n-m<=nD n AE:=by
  intro n;induction n with
  |zero=>intro _;simp[nD]
  | succ n ih=>
    intro h;have h1:=ih (λi h1 h2=>h i h1 A0);have h2:nD (n+1) AE=nD n AE+(if AE.getD n true=false then 1 else 0):=by
      unfold nD;rw[List.range_succ,List.filter_append,List.length_append];simp only[List.filter_cons,List.filter_nil];cases AE.getD n true<;>rfl
    rw[h2];by_cases hn:m<=n
    · rw[if_pos (h n hn A0)];omega
    omega
theorem Cu(hG:IB P Γ){ops:List Oper}{base m:Nat}{Q:Exit->Act->World->Prop}{s:St}{T:Nat->List AV}{HH:Nat->HP}{res:Nat->AV}{dd:Nat->Option (List AV)}(uR:dok ops m=true)
    (hT0:T 0=s.t) (hT:∀j o,j<m->ops[j]? =some o->T (j+1)=BG (T j) o.dst (res j)) (Nw:HH 0=s.H) (hH:∀j,j<m->HH (j+1)=HN (HH j) (base+j) (dd j)) (SA:∀j,j<m->s.H (base+j)=none)
    (Uj:∀j o,j<m->ops[j]? =some o->(qA ops o.guard (T j)=some true/\EZ P o (BQ (T j)) (HH j) (base+j) (res j) (dd j)/\(UC o.op=false->∀H',EZ P o (BQ (T j)) H' (base+j) (res j) (dd j))/\(lays o.op=false->dd j=none))\/
        (qA ops o.guard (T j)=some false/\res j= .c undef/\dd j=none))
    (A40:∀(fuel:Nat) (AE:Array Bool) (L:LM) (a:Act) (w:World),ops.length<=fuel+m->AE.size=ops.length->(∀i,i<ops.length->AE.getD i true=decide (i<m))->gB ops AE->
      Cn cX ⟨T m,HH m,s.nx⟩ L a w->(∀i,m<=i->i<ops.length->L (base+i)=none)->Lb cX.rd P .any ops.toArray Q fuel AE a w) (UE:base+ops.length<=s.nx) (OR:cX.Ui<=base):
    ∀ (fuel:Nat) (AE:Array Bool) (s':St) (L:LM) (a:Act) (w:World),nD ops.length AE<=fuel->AE.size=ops.length->gB ops AE->(∀i,m<=i->i<ops.length->AE.getD i true=false)->Part ops base m s res dd AE s'->
      Cn cX s' L a w->(∀i,i<ops.length->AE.getD i true=false->L (base+i)=none)->Lb cX.rd P .any ops.toArray Q fuel AE a w:=by
  obtain⟨d1,d2,d3,d4⟩:=iA uR;have A41:∀j o,j<m->ops[j]? =some o->∃d,o.dst=some d/\∀i o',i<m->i≠j->ops[i]? =some o'->o'.dst≠some d:=λj o hj ho=>(d3 j o hj ho).1
  have tch:=Xt d1 hT0 hT A41;have hch:=Nu Nw hH SA;have fin:∀(fuel:Nat) (AE:Array Bool) (s':St) (L:LM) (a:Act) (w:World),nD ops.length AE<=fuel->AE.size=ops.length->gB ops AE->(∀i,m<=i->i<ops.length->AE.getD i true=false)->Part ops base m s res dd AE s'->
      Cn cX s' L a w->(∀i,i<ops.length->AE.getD i true=false->L (base+i)=none)->(∀i,i<m->AE.getD i true=true)->Lb cX.rd P .any ops.toArray Q fuel AE a w:=by
    intro fuel AE s' L a w hf FV hs YO hp c CQ iB;obtain⟨t1,t2,t3⟩:=tch m (Nat.le_refl _);have e1:s'.t=T m:=by
      apply List.ext_getElem?;intro u;by_cases hu:u<s.t.length
      · by_cases hex:∃i o,i<m/\ops[i]? =some o/\o.dst=some u
        · obtain⟨i,o,hi,ho,gC⟩:=hex;rw[hp.done i o u hi (iB i hi) ho gC hu,t2 i o u hi ho gC hu]
        rw[hp.rest u (λi o hi _ ho gC=>hex ⟨i,o,hi,ho,gC⟩),t3 u (λi o hi ho gC=>hex ⟨i,o,hi,ho,gC⟩)]
      rw[List.getElem?_eq_none (by have:=hp.len;omega),List.getElem?_eq_none A0]
    have e2:s'.H=HH m:=by
      funext id
      rw[hp.heap id,hch m (Nat.le_refl _) id];by_cases hc:base<=id/\id<base+m
      · rw[if_pos ⟨hc.1,hc.2,iB _ A0⟩,if_pos hc]
      rw[if_neg (λh=>hc ⟨h.1,h.2.1⟩),if_neg hc]
    have e3:s'=⟨T m,HH m,s.nx⟩:=by
      have:=hp.nx;cases s';simp only at e1 e2 this;rw[e1,e2,this]
    have Y5:=Xu ops.length YO;refine A40 fuel AE L a w A0 FV ?_ hs (e3▸c) (λi h1 h2=>CQ i h2 (YO i h1 h2));intro i hi;by_cases him:i<m
    · rw[iB i him];simp[him]
    rw[YO i A0 hi];simp[him]
  intro fuel;induction fuel with
  | zero=>
    intro AE s' L a w hf FV hs YO hp c CQ;refine fin 0 AE s' L a w hf FV hs YO hp c CQ ?_;intro i hi;cases hc:AE.getD i true with
    |true=>rfl
    | false=>
      have:0<nD ops.length AE:=by
        unfold nD;exact List.length_pos_of_mem (List.mem_filter.2 ⟨List.mem_range.2 (show i<ops.length by omega),by rw[hc];rfl⟩)
      omega
  | succ fuel ih=>
    intro AE s' L a w hf FV hs YO hp c CQ;by_cases iB:∀i,i<m->AE.getD i true=true
    · exact fin _ AE s' L a w hf FV hs YO hp c CQ iB
    have hex:∃i,i<m/\AE.getD i true=false:=by
      apply Classical.byContradiction;intro QR;apply iB;intro i hi;cases hc:AE.getD i true with
      |true=>rfl
      |false=>exact absurd ⟨i,hi,hc⟩ QR
    obtain⟨i0,hi0,hu0,AA2⟩:∃i,i<m/\AE.getD i true=false/\∀k,k<i->AE.getD k true=true:=by
      obtain⟨i,hi,hu⟩:=hex;induction i using Nat.strongRecOn with
      | _ i ihh=>
        by_cases hk:∃k,k<i/\AE.getD k true=false
        · obtain⟨k,FH,DN⟩:=hk;exact ihh k FH A0 DN
        refine⟨i,hi,hu,?_⟩;intro k FH;cases hc:AE.getD k true with
        |true=>rfl
        |false=>exact absurd ⟨k,FH,hc⟩ hk
    have hrd:=PU d2 (show i0<ops.length by omega) FV AA2 hu0;refine⟨(λh0=>by rw[h0]at hrd;cases hrd),?_⟩;intro j hj;obtain⟨bN,Aj,_⟩:=EJ.1 hj;have Uh:j<m:=by
      apply Classical.byContradiction;intro Uh;have:=DA hs hj (d4 j ops[j] A0 (List.getElem?_eq_getElem bN) i0 A0);rw[this]at hu0;cases hu0
    have ho:ops[j]? =some ops[j]:=List.getElem?_eq_getElem bN;obtain⟨⟨d,U7,XZ⟩,Cv,hhd⟩:=d3 j ops[j] Uh ho;have Uk:∀u∈looks ops ops[j],s'.t[u]? =(T j)[u]? :=by
      intro u hu;obtain⟨t1,t2,t3⟩:=tch j A0;by_cases qU:u<s.t.length
      · by_cases hex:∃i o,i<m/\i≠j/\ops[i]? =some o/\o.dst=some u
        · obtain⟨i,o,hi,NZ,bM,gC⟩:=hex;have hw:=Cv u hu i o hi NZ bM gC;by_cases C4:i<j
          · rw[if_pos C4]at hw;rw[hp.done i o u hi (DA hs hj hw) bM gC qU,t2 i o u C4 bM gC qU]
          rw[if_neg C4]at hw;obtain⟨d',A42,A43⟩:=A41 i o hi bM;rw[gC]at A42;cases A42;have hiu:AE.getD i true=false:=by
            cases hc:AE.getD i true with
            |false=>rfl
            |true=>have:=hs _ _ hw hc;rw[this]at Aj;cases Aj
          have q1:s'.t[u]? =s.t[u]? :=by
            refine hp.rest u (λk o' hk MU uT Xv=>?_);by_cases Xr:k=i
            · subst Xr;rw[hiu]at MU;cases MU
            exact A43 k o' hk Xr uT Xv
          have q2:(T j)[u]? =s.t[u]? :=t3 u (λk o' hk uT Xv=>A43 k o' A0 A0 uT Xv);rw[q1,q2]
        have q1:s'.t[u]? =s.t[u]? :=by
          refine hp.rest u (λk o' hk MU uT Xv=>?_);by_cases Nf:k=j
          · subst Nf;rw[Aj]at MU;cases MU
          exact hex ⟨k,o',hk,Nf,uT,Xv⟩
        have q2:(T j)[u]? =s.t[u]? :=t3 u (λk o' hk uT Xv=>hex ⟨k,o',A0,A0,uT,Xv⟩);rw[q1,q2]
      rw[List.getElem?_eq_none (by have:=hp.len;omega),List.getElem?_eq_none A0]
    have Ak:∀x∈ops[j].op.operands,BQ (T j) x=BQ s'.t x:=by
      refine Nv (λu hu=>(Uk u ?_).symm);unfold looks;refine List.mem_append_left _ (List.mem_filterMap.2 ⟨.tmp u,by simpa using hu,rfl⟩)
    have A44:qA ops ops[j].guard s'.t=qA ops ops[j].guard (T j):=by
      unfold qA;cases hg:ops[j].guard with
      |none=>rfl
      | some gw=>
        obtain⟨g,want⟩:=gw;simp only
        cases hb:(ops[g]?).bind (·.dst)with
        |none=>rfl
        | some dg=>
          simp only
          rw[Uk dg];unfold looks;rw[hg];simp only
          exact List.mem_append_right _ (by rw[hb];simp)
    have Ul:∀(L':LM) (u:Value) (w':World),Cn cX ⟨BG s'.t ops[j].dst (res j),HN s'.H (base+j) (dd j),s'.nx⟩ L' (a.put ops[j].dst u) w'->(∀i,i≠base+j->L' i=L i)->Lb cX.rd P .any ops.toArray Q fuel (AE.setIfInBounds j true) (a.put ops[j].dst u) w':=by
      intro L' u w' hc hL;refine ih _ _ L' _ w' (by have:=UD Aj bN;omega) (by simpa using FV) (hs.set hj) (λi h1 h2=>by rw[E0 Aj,if_neg A0];exact YO i h1 h2) ?_ hc ?_
      · rw[U7];simp only[BG];refine⟨by simpa using hp.len,?_,?_,?_,hp.nx⟩
        · intro i o u' hi T9 bM gC qU;rw[E0 Aj]at T9;simp only[List.getElem?_set];by_cases NZ:i=j
          · subst NZ;rw[ho]at bM;cases bM;rw[U7]at gC;cases gC;have:=hp.len;simp[this,qU]
          rw[if_neg NZ]at T9;have AQ:d≠u':=by rintro rfl;exact XZ i o hi NZ bM gC
          rw[if_neg AQ];exact hp.done i o u' hi T9 bM gC qU
        · intro u' JF;have AQ:d≠u':=by
            rintro rfl;exact JF j ops[j] Uh (by rw[E0 Aj,if_pos rfl]) ho U7
          simp only[List.getElem?_set];rw[if_neg AQ];refine hp.rest u' (λi o hi T9 bM=>JF i o hi ?_ bM);rw[E0 Aj];split
          · rfl
          exact T9
        intro id;show HN s'.H (base+j) (dd j) id=_
        have Xw:(base<=id/\id<base+m/\(AE.setIfInBounds j true).getD (id-base) true=true)↔(id=base+j\/(base<=id/\id<base+m/\AE.getD (id-base) true=true)):=by
          rw[E0 Aj];constructor
          · rintro⟨h1,h2,h3⟩;split at h3
            · exact .inl A0
            exact .inr ⟨h1,h2,h3⟩
          rintro(h1|⟨h1,h2,h3⟩)
          · exact⟨A0,A0,by rw[if_pos A0]⟩
          refine⟨h1,h2,?_⟩;split
          · rfl
          exact h3
        by_cases DS:id=base+j
        · rw[if_pos (Xw.2 (.inl DS))];subst DS;rw[show base+j-base=j by omega];cases hdd:dd j with
          | none=>
            simp only[HN];rw[hp.heap,if_neg]
            · exact SA j Uh
            rintro⟨_,_,h3⟩;rw[show base+j-base=j by omega,Aj]at h3;cases h3
          |some cs=>simp[HN]
        have hu:HN s'.H (base+j) (dd j) id=s'.H id:=by
          cases dd j with
          |none=>rfl
          |some cs=>exact A1 _ _ DS
        rw[hu,hp.heap id];by_cases Ll:base<=id/\id<base+m/\AE.getD (id-base) true=true
        · rw[if_pos Ll,if_pos (Xw.2 (.inr Ll))]
        rw[if_neg Ll,if_neg (λh=>(Xw.1 h).elim DS Ll)]
      intro i hi T9;rw[E0 Aj]at T9;by_cases NZ:i=j
      · rw[if_pos NZ]at T9;cases T9
      rw[if_neg NZ]at T9;rw[hL _ A0];exact CQ i hi T9
    unfold wpO;simp only[List.getElem?_toArray,ho];rcases Uj j ops[j] Uh ho with ⟨hw,hq,JT,YS⟩|⟨hw,hr,NY⟩
    · rw [<- A44] at hw;rcases O8 c (uS hw) ops[j] rfl with ⟨uU,_⟩|⟨_,Um⟩
      · rw[if_pos uU];left
        have WH :∀i c,(if UC ops[j].op=true then HH j else BM) i=some c->s'.H i=some c:=by
          intro id cs DS;cases Lm:UC ops[j].op with
          |false=>rw[Lm]at DS;cases DS
          | true=>
            rw[Lm]at DS;simp only[if_true]at DS;rw[hch j A0 id]at DS;rw[hp.heap id];by_cases Ll:base<=id/\id<base+j
            · rw[if_pos Ll]at DS;have Xr:id-base<ops.length:=A0;have YT:ops[id-base]? =some ops[id-base]:=List.getElem?_eq_getElem Xr;have AA3:lays ops[id-base].op=true:=by
                cases hly:lays ops[id-base].op with
                |true=>rfl
                | false=>
                  rcases Uj (id-base) _ A0 YT with ⟨_,_,_,h9⟩|⟨_,_,h9⟩
                  · rw[h9 hly]at DS;cases DS
                  rw[h9]at DS;cases DS
              have AA4:=DA hs hj (hhd Lm (id-base) _ A0 YT AA3);rw[if_pos ⟨Ll.1,A0,AA4⟩];exact DS
            rw[if_neg Ll]at DS;rw[if_neg]
            · exact DS
            rintro⟨h1,h2,_⟩;have:=SA (id-base) A0;rw[show base+(id-base)=id by omega,DS]at this;cases this
        have Xq:EZ P ops[j] (BQ (T j)) (if UC ops[j].op=true then HH j else BM) (base+j) (res j) (dd j):=by
          cases Lm:UC ops[j].op with
          |true=>simpa using hq
          |false=>simpa using JT Lm BM
        have hLj:=CQ j bN Aj;have hHj:s'.H (base+j)=none:=by
          cases hh:s'.H (base+j)with
          |none=>rfl
          |some cs=>obtain⟨l,h1,_⟩:=c.sr.node _ cs hh;rw[hLj]at h1;cases h1
        have U2:=(Xq s'.H WH).ev Ak;refine(U2 L cX.Av w a.eval c.sr ⟨_,c.fr⟩ hLj hHj (λx _=>c.ev x)).wp ?_;rintro u w' ⟨r,H',L',⟨rfl,rfl⟩,h2,h3,h4,h5⟩;refine Ul L' u w' ?_ h2;obtain⟨p1,p2,p3⟩:=J4 (a:=a) c.sz (λk y hk=>(c.sl k y hk).step h4) ops[j].dst h5;have A45:=hp.nx;refine⟨Nk p1 (c.df.step c.sr h4),p2,p3,h3,?_,c.nx,?_,c.st.trans h4⟩
        · intro i HM;simp only at HM;rw[h2 i A0];exact c.fr i HM
        intro i HM;rw[h2 i A0];exact c.lo i HM
      cases Um
    rw[<-A44]at hw;rcases O8 c (uS hw) ops[j] rfl with ⟨_,Um⟩|⟨uU,_⟩
    · cases Um
    rw[if_neg (by simp[uU])];refine Ul L _ w ?_ (λ_ _=>rfl);rw[hr,NY];obtain⟨p1,p2,p3⟩:=J4 (a:=a) c.sz c.sl ops[j].dst (R.c undef);exact⟨Nk p1 c.df,p2,p3,c.sr,c.fr,c.nx,c.lo,c.st⟩
theorem Nx{cX:Ctx}(hG:IB P Γ)(Xx:P.follows .mixedOrders=true){n:Nat}{ops:Array Oper}{s:St}{K:Exit->St->Prop}(m:Nat)(hd:dok ops.toList m=true)
    (h:E8 Γ P ops.toList s.nx (ops.toList.take m) 0 s.t s.H λt H=>DW Γ P ops.toList s.nx (ops.toList.drop m) m ⟨t,H,s.nx+ops.toList.length⟩ (K .normal)):AW cX P (.region n ops true) s K:=by
  intro L a w Q hc hQ;obtain⟨d1,d2,d3,d4⟩:=iA hd;refine T2 Xx ?_;obtain⟨T,HH,res,dd,h1,h2,h3,h4,h5,h6⟩:=yQ (m:=m) hG _ 0 s.t s.H AB A0 h;rw[show min m ops.toList.length=m by omega]at h3;have hHn:∀j,s.H (s.nx+j)=none:=by
    intro j;cases hh:s.H (s.nx+j)with
    |none=>rfl
    |some cs=>obtain⟨l,g1,_⟩:=hc.sr.node _ cs hh;rw[hc.fr _ A0]at g1;cases g1
  have Cw:Cn cX ⟨s.t,s.H,s.nx+ops.toList.length⟩ L a {w with drawn:=w.drawn+1}:=
    ⟨hc.df.same rfl,hc.sz,λk x hk=>(hc.sl k x hk).drew,hc.sr.drew,λi hi=>hc.fr i (by simp only at hi;omega),by have:=hc.nx;simp only;omega,hc.lo,hc.st.trans (Step.drew _ _ _)⟩
  have:=Cu (Q:=Q) (s:=⟨s.t,s.H,s.nx+ops.toList.length⟩) (base:=s.nx) hG hd h1 (λj o hj ho=>h4 j o A0 hj ho) h2 (λj hj=>h5 j A0 hj A0) (λj hj=>hHn j)
    (λj o hj ho=>h6 j o A0 hj ho) (λfuel AE L' a' w' g1 g2 g3 g4 g5 g6=>Ct (m:=m) (hi:=s.nx+ops.toList.length) (base:=s.nx) hG d2 d4 (Nat.le_refl _) (λs' L' a' w' hk UB=>hQ _ _ _ _ _ hk UB) fuel m AE _ L' a' w' (Nat.le_refl _) d1 g1 g2 g3 g4 h3
      ⟨g5,λi h1 h2=>by have:=g6 (i-s.nx) A0 A0;rwa [show s.nx+(i-s.nx)=i by omega]at this,by simp only;omega,by have:=hc.nx;omega⟩) (by simp only;omega) hc.nx
    ops.size (Array.replicate ops.size false) ⟨s.t,s.H,s.nx+ops.toList.length⟩ L a {w with drawn:=w.drawn+1} (by
      unfold nD;exact Nat.le_trans (List.length_filter_le _ _) AB) AB (by
      intro i j hw hj;have:=hw.len;simp only[Array.length_toList]at this;simp[Array.getD_eq_getD_getElem?,this]at hj) (by
      intro i _ hi;simp only[Array.length_toList]at hi;simp[Array.getD_eq_getD_getElem?,hi]) ⟨rfl,by
        intro i o u hi hl ho;have:=(List.getElem?_eq_some_iff.1 ho).1;simp only[Array.length_toList]at this;simp[Array.getD_eq_getD_getElem?,this]at hl,λu _=>rfl,by
        intro id;rw[if_neg];rintro⟨g1,g2,g3⟩;have:id-s.nx<ops.size:=by simp only[Array.length_toList]at d1;omega
        simp[Array.getD_eq_getD_getElem?,this]at g3,rfl⟩ Cw (λi hi _=>hc.fr _ A0)
  simpa using this
end
end
end Go.Proofs.YtgknbnkmilddhaaGreat
