import Derived.Deep.Slices
import Derived.Lib.SmallJoins
import Derived.ProofKit
import Derived.Test.YtgknbnkmilddhaaGreatZ01
set_option linter.all false

namespace Go.Proofs.YtgknbnkmilddhaaGreat
section
def msk(acc:List Nat):List Edge->Nat
 |[]=>0
 |e::r=>(if Region.binds .any e then 2^e.on|||acc.getD e.on 0 else 0)|||msk acc r
def cls:List Oper->List Nat->List Nat
 |[],acc=>acc
 |o::r,acc=>cls r (acc++[msk acc o.after.toList])
inductive MU (ops:List Oper):Nat->Nat->Prop
 |one {i j:Nat} (o:Oper) (e:Edge) (ho:ops[j]? =some o) (he:e∈o.after.toList) (hb:Region.binds .any e=true) (hi:e.on=i):MU ops i j
 |step {i k j:Nat} (a:MU ops i k) (b:MU ops k j):MU ops i j
def Vb{ops acc}(ANB:∀j i,(acc.getD j 0).testBit i=true->MU ops i j){j o}(ho:ops[j]? =some o):∀(es:List Edge),(∀e∈es,e∈o.after.toList)->∀i,(msk acc es).testBit i=true->MU ops i j:=by
 intro es;induction es with
 |nil=>intro _ i h;simp[msk]at h
 | cons e es ih=>
   intro hm i h;simp only[msk,Nat.testBit_or,HW]at h;rcases h with h|h
   ·split at h
    ·rename_i hb;simp only[Nat.testBit_or,HW,Nat.testBit_two_pow,decide_eq_true_eq]at h;have h0:MU ops e.on j:= .one o e ho (hm e B5) hb rfl;rcases h with h|h
     ·subst h;exact h0
     exact .step (ANB _ _ h) h0
    simp at h
   exact ih (λe he=>hm e (by simp[he])) i h
def Vc{ops}:∀(rest:List Oper) (acc:List Nat),ops.drop acc.length=rest->(∀j i,(acc.getD j 0).testBit i=true->MU ops i j)->∀j i,((cls rest acc).getD j 0).testBit i=true->MU ops i j:=by
 intro rest;induction rest with
 |nil=>intro acc _ h;exact h
 | cons o rest ih=>
   intro acc hd h;simp only[cls];have ho:ops[acc.length]? =some o:=by
    have:(ops.drop acc.length)[0]? =some o:=by rw[hd];rfl
    simpa using this
   refine ih _ ?_ ?_
   ·simp only[AH,C6,CR,BS];rw[<-KR,hd];rfl
   intro j i hj;rw[A5,EH]at hj;split at hj
   ·exact h j i (by rw[A5];exact hj)
   rename_i HX;by_cases he:j=acc.length
   ·subst he;simp only[CM,DT,FW]at hj;exact Vb h ho _ (λ_ h=>h) i hj
   rw[B8 (by simp;omega)]at hj;simp at hj
def wt(ops:List Oper)(cl:List Nat)(i j:Nat):Bool:=(cl.getD j 0).testBit i
def NT{ops i j}(h:wt ops (cls ops []) i j=true):MU ops i j:=
 Vc ops [] B5 (by intro j i h;simp at h) j i h
def looks(ops:List Oper)(o:Oper):List Nat:=
 (o.op.operands.toList.filterMap fun| .tmp t=>some t|_=>none)++(match o.guard with|some (g,_)=>((ops[g]?).bind (·.dst)).toList|none=>[])
def lL:Op->Bool
 | .load .. =>true
 | .call ⟨.value _,_,_⟩=>true
 |_=>false
def dok(ops:List Oper)(m:Nat):Bool:=
 let cl:=cls ops []
 m<=ops.length &&
 (ops.zipIdx.all λ(o,j)=>o.after.toList.all λe=> !Region.binds .any e||e.on<j)&&
 (ops.zipIdx.all λ(o,j)=>if j<m then
    (match o.dst with
      |some d=>ops.zipIdx.all λ(o',i)=> !(i<m && i !=j && o'.dst==some d)
      |none=>false)&&
    ((looks ops o).all λu=>ops.zipIdx.all λ(o',i)=> !(i<m && i !=j && o'.dst==some u)||(if i<j then wt ops cl i j else wt ops cl j i))&&
    (!lL o.op||ops.zipIdx.all λ(o',i)=> !(i<j && lays o'.op)||wt ops cl i j)
   else (List.range j).all λi=>wt ops cl i j)
def O7(Γ:KT)(P:Program)(ops:List Oper)(base:Nat):List Oper->Nat->List AV->HP->(List AV->HP->Prop)->Prop
  |[],_,t,H,k=>k t H
  | o ::rest,i,t,H,k=>gop ops o.guard t (λt=>eC Γ P o.op t H (base+i) λr d=>O7 Γ P ops base rest (i+1) (EX t o.dst r) (RI H (base+i) d) k)
      (λt=>O7 Γ P ops base rest (i+1) (EX t o.dst (.c undef)) H k)
def Im(ops:List Oper)(g:Option (Nat×Bool))(t:List AV):Option Bool:=
 match g with
 |none=>some true
 | some (j,want)=>match (ops[j]?).bind (·.dst)with
   | some d=>match t[d]? with
     |some (.b x)=>some (x==want)
     |some (.c (.tuple _))=>some false
     |_=>none
   |none=>none
def A55{ops g t yes no}(h:gop ops g t yes no):(Im ops g t=some true/\yes t)\/(Im ops g t=some false/\no t):=by
 unfold gop at h;unfold Im;split at h
 ·exact .inl ⟨rfl,h⟩
 rename_i j want;split at h
 ·rename_i d hd;try simp only[hd]
  split at h
  ·rename_i x hx;try simp only[hx]
   have U3:t.set d (.b x)=t:=by
    apply C7;intro i;rw[CL];split
    ·rename_i hi;subst hi;rw[if_pos (AL.1 hx).1,hx]
    rfl
   by_cases Ze:x=want
   ·exact .inl ⟨by simp[Ze],by have:=h.1 Ze;rwa [<-Ze,U3]at this⟩
   have lI:x= !want:=by cases x<;>cases want<;>simp at Ze ⊢
   exact .inr ⟨by simp[Ze],by have:=h.2 lI;rwa [<-lI,U3]at this⟩
  ·rename_i vs hx;try simp only[hx]
   exact .inr ⟨B5,h⟩
  exact h.elim
 exact h.elim
section
variable{P:Program}{Γ:KT}
def Vd{op}(h:lL op=false)(t H H' id k):eC Γ P op t H id k=eC Γ P op t H' id k:=by
 cases op;case load=>cases h
 case call c=>
  obtain⟨callee,args,NJ⟩:=c;cases callee with
  |value f=>cases h
  |invoke r m=>rfl
  |builtin b=>cases b<;>rfl
 case slice ty x lo hi mx=>cases mx<;>rfl
 all_goals rfl
def NN.mono{o ev H H2 id r d}(h:NN P o ev H id r d)(hH:∀i c,H i=some c->H2 i=some c):NN P o ev H2 id r d:=
 λH' h'=>h H' (λi c hc=>h' i c (hH i c hc))
def Ve(hG:U2 P Γ){ops base m k}:∀(rest:List Oper) (i:Nat) (t:List AV) (H:HP),rest=(ops.take m).drop i->i<=m->O7 Γ P ops base rest i t H k->
    ∃ (T:Nat->List AV) (HH:Nat->HP) (res:Nat->AV) (dd:Nat->Option (List AV)),T i=t/\HH i=H/\k (T (min m ops.length)) (HH (min m ops.length))/\
      (∀j o,i<=j->j<m->ops[j]? =some o->T (j+1)=EX (T j) o.dst (res j))/\(∀j,i<=j->j<m->j<ops.length->HH (j+1)=RI (HH j) (base+j) (dd j))/\
      (∀j o,i<=j->j<m->ops[j]? =some o->(Im ops o.guard (T j)=some true/\NN P o (FK (T j)) (HH j) (base+j) (res j) (dd j)/\(lL o.op=false->∀H',NN P o (FK (T j)) H' (base+j) (res j) (dd j))/\(lays o.op=false->dd j=none))\/
        (Im ops o.guard (T j)=some false/\res j= .c undef/\dd j=none)):=by
  intro rest;induction rest with
  | nil=>
    intro i t H hr hi h;have hlen:(ops.take m).length<=i:=by
      have:=congrArg List.length hr;simp only[CR,CC]at this;omega
    rw[B1]at hlen;refine⟨λ_=>t,λ_=>H,λ_=> .j,λ_=>none,rfl,rfl,h,?_,?_,?_⟩
    · intro j o h1 h2 h3;have:=(AL.1 h3).1;omega
    · intro j h1 h2 h3;omega
    intro j o h1 h2 h3;have:=(AL.1 h3).1;omega
  | cons o rest ih=>
    intro i t H hr hi h;have HX:i<(ops.take m).length:=by
      have:=congrArg List.length hr;simp only[C6,CC]at this;omega
    have hio:(ops.take m)[i]? =some o:=by
      have:((ops.take m).drop i)[0]? =some o:=by rw[<-hr];rfl
      simpa using this
    rw[B1]at HX;have him:i<m:=A0;have o9:ops[i]? =some o:=by
      rw[D9]at hio;simpa[him]using hio
    have AGR:rest=(ops.take m).drop (i+1):=by
      rw[<-KR,<-hr];rfl
    simp only[O7]at h;have fin:∀(r:AV) (d:Option (List AV)),O7 Γ P ops base rest (i+1) (EX t o.dst r) (RI H (base+i) d) k->((Im ops o.guard t=some true/\NN P o (FK t) H (base+i) r d/\(lL o.op=false->∀H',NN P o (FK t) H' (base+i) r d)/\(lays o.op=false->d=none))\/(Im ops o.guard t=some false/\r= .c undef/\d=none))->
        ∃ (T:Nat->List AV) (HH:Nat->HP) (res:Nat->AV) (dd:Nat->Option (List AV)),T i=t/\HH i=H/\k (T (min m ops.length)) (HH (min m ops.length))/\
          (∀j o,i<=j->j<m->ops[j]? =some o->T (j+1)=EX (T j) o.dst (res j))/\(∀j,i<=j->j<m->j<ops.length->HH (j+1)=RI (HH j) (base+j) (dd j))/\
          (∀j o,i<=j->j<m->ops[j]? =some o->(Im ops o.guard (T j)=some true/\NN P o (FK (T j)) (HH j) (base+j) (res j) (dd j)/\(lL o.op=false->∀H',NN P o (FK (T j)) H' (base+j) (res j) (dd j))/\(lays o.op=false->dd j=none))\/
            (Im ops o.guard (T j)=some false/\res j= .c undef/\dd j=none)):=by
      intro r d AGS hop;obtain⟨T,HH,res,dd,h1,h2,h3,h4,h5,h6⟩:=ih (i+1) _ _ AGR A0 AGS;refine⟨λj=>if j=i then t else T j,λj=>if j=i then H else HH j,λj=>if j=i then r else res j,λj=>if j=i then d else dd j,B5,B5,?_,?_,?_,?_⟩
      · have:min m ops.length≠i:=A0;simpa[this]using h3
      · intro j o' h7 h8 h9;by_cases hj:j=i
        · subst hj;rw[o9]at h9;cases h9;simp[h1]
        have yB:j+1≠i:=A0;simp only[hj,yB,if_false];exact h4 j o' A0 h8 h9
      · intro j h7 h8 h9;by_cases hj:j=i
        · subst hj;simp[h2]
        have yB:j+1≠i:=A0;simp only[hj,yB,if_false];exact h5 j A0 h8 h9
      intro j o' h7 h8 h9;by_cases hj:j=i
      · subst hj;rw[o9]at h9;cases h9;simpa using hop
      simp only[hj,if_false];exact h6 j o' A0 h8 h9
    rcases A55 h with ⟨hw,hy⟩|⟨hw,hn⟩
    · cases hd:lL o.op with
      | true=>
        obtain⟨r,d,h1,h2,h3⟩:=qN hG hy;exact fin r d h1 (.inl ⟨hw,h2,(λhf=>by rw[hd]at hf;cases hf),h3⟩)
      | false=>
        rw[Vd hd t H DD]at hy;obtain⟨r,d,h1,h2,h3⟩:=qN hG hy;have h4:∀H',NN P o (FK t) H' (base+i) r d:=λH'=>h2.mono (λi c hc=>by cases hc)
        exact fin r d h1 (.inl ⟨hw,h4 H,λ_=>h4,h3⟩)
    exact fin _ none (by simpa[RI]using hn) (.inr ⟨hw,rfl,rfl⟩)
def yC{ops m}(h:dok ops m=true):
    m<=ops.length/\(∀j o,ops[j]? =some o->∀e∈o.after.toList,Region.binds .any e=true->e.on<j)/\
    (∀j o,j<m->ops[j]? =some o->(∃d,o.dst=some d/\∀i o',i<m->i≠j->ops[i]? =some o'->o'.dst≠some d)/\
      (∀u∈looks ops o,∀i o',i<m->i≠j->ops[i]? =some o'->o'.dst=some u->if i<j then MU ops i j else MU ops j i)/\
      (lL o.op=true->∀i o',i<j->ops[i]? =some o'->lays o'.op=true->MU ops i j))/\
    (∀j o,m<=j->ops[j]? =some o->∀i,i<j->MU ops i j):=by
  unfold dok at h;simp only[CU,decide_eq_true_eq,BM]at h;obtain⟨⟨h1,h2⟩,h3⟩:=h;have mem:∀{j:Nat} {o:Oper},ops[j]? =some o->(o,j)∈ops.zipIdx:=by
    intro j o ho;rw[List.mem_zipIdx_iff_getElem?];exact ho
  refine⟨h1,?_,?_,?_⟩
  · intro j o ho e he hb;have:=h2 (o,j) (mem ho);simp only[BM]at this;have:=this e he;simpa[hb]using this
  · intro j o hj ho;have h4:=h3 (o,j) (mem ho);simp only[hj,if_true,CU]at h4;obtain⟨⟨h5,h6⟩,h7⟩:=h4;refine⟨?_,?_,?_⟩
    · cases hd:o.dst with
      |none=>rw[hd]at h5;cases h5
      | some d=>
        rw[hd]at h5;refine⟨d,rfl,?_⟩;intro i o' hi Q3 Zf hdd;simp only[BM]at h5;have:=h5 (o',i) (mem Zf);simp[hi,Q3,hdd]at this
    · intro u hu i o' hi Q3 Zf hd;simp only[BM]at h6;have:=h6 u hu (o',i) (mem Zf);simp only[hi,Q3,hd,decide_true,FR,ne_eq,not_false_eq_true,bne_iff_ne,beq_self_eq_true,C4,FA]at this;have CP:(i !=j)=true:=by simpa using Q3
      simp only[CP,FR,C4,FA]at this;split
      · rename_i HX;rw[if_pos HX]at this;exact NT this
      rename_i HX;rw[if_neg HX]at this;exact NT this
    intro hh i o' hi Zf hl;simp only[hh,C4,FA,BM]at h7;have:=h7 (o',i) (mem Zf);simp only[hi,hl,decide_true,FR,C4,FA]at this;exact NT this
  intro j o hj ho i hi;have h4:=h3 (o,j) (mem ho);have:¬j<m:=A0;simp only[this,if_false,BM,B3]at h4;exact NT (h4 i hi)
def El(n:Nat)(BP:Array Bool):Nat:=((List.range n).filter λi=> !BP.getD i true).length
def iV{n j BP}(hj:BP.getD j true=false)(hn:j<n):El n (BP.setIfInBounds j true)<El n BP:=by
 unfold El;have Yn:∀i,(BP.setIfInBounds j true).getD i true=if i=j then true else BP.getD i true:=by
  intro i;simp only[BC,GU];by_cases h:i=j
  ·subst h;simp only[if_true];split<;>simp
  have h':¬j=i:=λh'=>h h'.symm
  simp[h,h']
 have:((List.range n).filter λi=> !(BP.setIfInBounds j true).getD i true)=((List.range n).filter λi=> !BP.getD i true).filter λi=>i !=j:=by
  rw[List.filter_filter];apply List.filter_congr;intro i _;rw[Yn];by_cases h:i=j<;>simp[h]
 rw[this,List.length_filter_lt_length_iff_exists];refine⟨j,?_,B5⟩;rw[E0];exact⟨B3.2 hn,by rw[hj];rfl⟩
def L4{j:Nat}{BP:Array Bool}(hj:BP.getD j true=false)(i:Nat):(BP.setIfInBounds j true).getD i true=if i=j then true else BP.getD i true:=by
 simp only[BC,GU];by_cases h:i=j
 ·subst h;simp only[if_true];split<;>simp
 have h':¬j=i:=λh'=>h h'.symm
 simp[h,h']
def xE(ops:List Oper)(BP:Array Bool):Prop:=∀i j,MU ops i j->BP.getD j true=true->BP.getD i true=true
def MU.len{ops i j}(h:MU ops i j):j<ops.length:=by
 induction h with
 |one o e ho he hb hi=>exact(AL.1 ho).1
 |step a b iha ihb=>exact ihb
def MV{ops:List Oper}{BP:Array Bool}{i:Nat}:i∈Region.ready .any ops.toArray BP↔i<ops.length/\BP.getD i true=false/\∀o,ops[i]? =some o->∀e∈o.after.toList,Region.binds .any e=true->BP.getD e.on false=true:=by
 unfold Region.ready;simp only[E0,B3,List.size_toArray,CO,CU,Bool.not_eq_true'];constructor
 ·rintro⟨h1,h2,h3⟩;refine⟨h1,h2,?_⟩;intro o ho e he hb;rw[ho]at h3;simp only[DB,FW]at h3;rw[<-Array.all_toList]at h3;simp only[BM]at h3;have:=h3 e he;simpa[hb]using this
 rintro⟨h1,h2,h3⟩;refine⟨h1,h2,?_⟩;have ho:ops[i]? =some ops[i]:=A9 h1;rw[ho];simp only[DB,FW];rw[<-Array.all_toList];simp only[BM];intro e he;by_cases hb:Region.binds .any e=true
 ·simp[h3 _ ho e he hb]
 simp[hb]
def A56{BP:Array Bool}{i:Nat}(h:BP.getD i false=true):BP.getD i true=true:=by
 simp only[BC]at*;cases hi:BP[i]? with
 |none=>simp
 |some b=>rw[hi]at h;simpa using h
def JH{ops BP j}(hs:xE ops BP)(hr:j∈Region.ready .any ops.toArray BP){i}(hw:MU ops i j):BP.getD i true=true:=by
 obtain⟨h1,h2,h3⟩:=MV.1 hr;have key:∀i j',MU ops i j'->j'=j->BP.getD i true=true:=by
  intro i j' hw;induction hw with
  |one o e ho he hb hi=>
   rintro rfl;rw[<-hi];exact A56 (h3 o ho e he hb)
  |@step i k j'' a b iha ihb=>
   rintro rfl;exact hs i k a (ihb rfl)
 exact key i j hw rfl
def xE.set{ops BP}(hs:xE ops BP){j}(hr:j∈Region.ready .any ops.toArray BP):xE ops (BP.setIfInBounds j true):=by
 obtain⟨h1,h2,h3⟩:=MV.1 hr;intro i k hw hk;rw[L4 h2]at hk ⊢;split
 ·rfl
 by_cases hkj:k=j
 ·subst hkj;exact JH hs hr hw
 rw[if_neg hkj]at hk;exact hs i k hw hk
def aB{ops:List Oper}{BP:Array Bool}(HX:∀j o,ops[j]? =some o->∀e∈o.after.toList,Region.binds .any e=true->e.on<j){q:Nat}(hq:q<ops.length)(TH:BP.size=ops.length)
    (hl:∀i,i<q->BP.getD i true=true) (hn:BP.getD q true=false):q∈Region.ready .any ops.toArray BP:=by
  refine MV.2 ⟨hq,hn,?_⟩;intro o ho e he hb;have h1:=HX q o ho e he hb;have h2:=hl _ h1;have h3:e.on<BP.size:=A0;simpa[BC,h3]using h2
section
variable{cX:Ctx}
def Zg(hG:U2 P Γ){ops base hi m Q K'}(HX:∀j o,ops[j]? =some o->∀e∈o.after.toList,Region.binds .any e=true->e.on<j)(eD:∀j o,m<=j->ops[j]? =some o->∀i,i<j->MU ops i j)(hhi:base+ops.length<=hi)(hQ:∀s' L' a' w',K' s'->Cn cX s' L' a' w'->Q .normal a' w'):
    ∀ (fuel q:Nat) (BP:Array Bool) (s:St) (L:LM) (a:Act) (w:World),m<=q->q<=ops.length->ops.length<=fuel+q->BP.size=ops.length->(∀i,i<ops.length->BP.getD i true=decide (i<q))->xE ops BP->
      KO Γ P ops base (ops.drop q) q s K'->Cr cX (base+q) hi s L a w->wpA cX.rd P .any ops.toArray Q fuel BP a w:=by
  intro fuel;induction fuel with
  | zero=>
    intro q BP s L a w hmq hq hf TH hl hs h c;have hqn:q=ops.length:=A0;subst hqn;rw[JD]at h;refine⟨?_,hQ _ _ _ _ h c.toCn⟩;rw[F1];intro i OQ;obtain⟨h1,h2,_⟩:=MV.1 OQ;rw[hl i h1]at h2;simp[h1]at h2
  | succ fuel ih=>
    intro q BP s L a w hmq hq hf TH hl hs h c;by_cases hqn:q=ops.length
    · subst hqn;rw[JD]at h;refine⟨λ_=>hQ _ _ _ _ h c.toCn,?_⟩;intro i OQ;obtain⟨h1,h2,_⟩:=MV.1 OQ;rw[hl i h1]at h2;simp[h1]at h2
    have hq':q<ops.length:=A0;have hrd:=aB HX hq' TH (λi OQ=>by rw[hl i A0];simp[OQ]) (by rw[hl q hq'];simp);refine⟨(λh0=>by rw[h0]at hrd;cases hrd),?_⟩;intro i OQ;obtain⟨h1,h2,_⟩:=MV.1 OQ;have hiq:i=q:=by
      rw[hl i h1]at h2;simp only[decide_eq_false_iff_not,OT]at h2;by_cases CP:i=q
      · exact CP
      have:=JH hs OQ (eD i ops[i] A0 (A9 h1) q A0);rw[hl q hq']at this;simp at this
    subst hiq;have ho:ops[i]? =some ops[i]:=A9 h1;rw[DL h1]at h;simp only[KO]at h;have U3:∀k,k<ops.length->(BP.setIfInBounds i true).getD k true=decide (k<i+1):=by
      intro k hk;rw[L4 h2,hl k hk];by_cases hki:k=i
      · simp[hki]
      have:(k<i+1)=(k<i):=by apply propext;omega
      simp[hki,this]
    unfold wpO;simp only[CO,ho];rcases YG c.toCn h ops[i] rfl with ⟨hw,hy⟩|⟨hw,hn⟩
    · rw[if_pos hw];refine .inl (yA hG hy c A0 ?_);intro s' L' a' w' hk hc;exact ih (i+1) _ s' L' a' w' A0 A0 A0 (by simpa using TH) U3 (hs.set OQ) hk hc
    rw[if_neg (by simp[hw])];exact ih (i+1) _ _ L _ w A0 A0 A0 (by simpa using TH) U3 (hs.set OQ) hn (c.put _ (.c _)).skip
def Nz{ops g t z}(h:Im ops g t=some z):gop ops g t (λ_=>z=true) (λ_=>z=false):=by
 unfold Im at h;unfold gop;split at h
 ·simpa using h.symm
 rename_i j want;split at h
 ·rename_i d hd;try simp only[hd]
  split at h
  ·rename_i x hx;try simp only[hx]
   simp only[E4]at h;refine⟨λhx=>?_,λhx=>?_⟩
   ·rw[<-h,hx];simp
   rw[<-h,hx];cases want<;>rfl
  ·rename_i vs hx;try simp only[hx]
   simpa using h.symm
  cases h
 cases h
structure Part(ops:List Oper)(base m:Nat)(s:St)(res:Nat->AV)(dd:Nat->Option (List AV))(BP:Array Bool)(s':St):Prop where
 len:s'.t.length=s.t.length
 done:∀i o u,i<m->BP.getD i true=true->ops[i]? =some o->o.dst=some u->u<s.t.length->s'.t[u]? =some (res i)
 rest:∀u,(∀i o,i<m->BP.getD i true=true->ops[i]? =some o->o.dst≠some u)->s'.t[u]? =s.t[u]?
 heap:∀id,s'.H id=if base<=id/\id<base+m/\BP.getD (id-base) true=true then dd (id-base)else s.H id
 nx:s'.nx=s.nx
def AAU{ops:List Oper}{m:Nat}{s:St}{T:Nat->List AV}{res:Nat->AV}(hm:m<=ops.length)(h0:T 0=s.t)(hT:∀j o,j<m->ops[j]? =some o->T (j+1)=EX (T j) o.dst (res j))
    (hd:∀j o,j<m->ops[j]? =some o->∃d,o.dst=some d/\∀i o',i<m->i≠j->ops[i]? =some o'->o'.dst≠some d):∀i,i<=m->(T i).length=s.t.length/\
      (∀j o u,j<i->ops[j]? =some o->o.dst=some u->u<s.t.length->(T i)[u]? =some (res j))/\(∀u,(∀j o,j<i->ops[j]? =some o->o.dst≠some u)->(T i)[u]? =s.t[u]?):=by
  intro i;induction i with
  |zero=>intro _;rw[h0];exact⟨rfl,λj o u h=>A0,λu _=>rfl⟩
  | succ i ih=>
    intro hi;obtain⟨h1,h2,h3⟩:=ih A0;have iI:i<ops.length:=A0;have ho:ops[i]? =some ops[i]:=A9 iI;obtain⟨d,S3,WZ⟩:=hd i ops[i] A0 ho;rw[hT i ops[i] A0 ho,S3];simp only[EX];refine⟨by simpa using h1,?_,?_⟩
    · intro j o u hj hoj xF hu;rw[CL];by_cases hji:j=i
      · subst hji;rw[ho]at hoj;cases hoj;rw[S3]at xF;cases xF;simp[h1,hu]
      have CP:d≠u:=by
        rintro rfl;exact WZ j o A0 hji hoj xF
      rw[if_neg CP];exact h2 j o u A0 hoj xF hu
    intro u hu;have CP:d≠u:=by
      rintro rfl;exact hu i ops[i] A0 ho S3
    rw[CL,if_neg CP];exact h3 u (λj o hj hoj=>hu j o A0 hoj)
def A57{base m:Nat}{s:St}{HH:Nat->HP}{dd:Nat->Option (List AV)}(h0:HH 0=s.H)(hH:∀j,j<m->HH (j+1)=RI (HH j) (base+j) (dd j))(eF:∀j,j<m->s.H (base+j)=none):
    ∀i,i<=m->∀id,HH i id=if base<=id/\id<base+i then dd (id-base)else s.H id:=by
  intro i;induction i with
  |zero=>intro _ id;rw[h0,if_neg A0]
  | succ i ih=>
    intro hi id;rw[hH i A0];have Dg:=ih A0;by_cases GF:id=base+i
    · subst GF;rw[if_pos A0,show base+i-base=i by omega];cases hdd:dd i with
      | none=>
        simp only[RI];rw[Dg,if_neg A0];exact eF i A0
      |some cs=>simp[RI]
    have hu:RI (HH i) (base+i) (dd i) id=HH i id:=by
      cases dd i with
      |none=>rfl
      |some cs=>exact AB _ _ GF
    rw[hu,Dg];by_cases hc:base<=id/\id<base+i
    · rw[if_pos hc,if_pos A0]
    rw[if_neg hc,if_neg A0]
def A58{t t':List AV}{o:Oper}(h:∀u,Operand.tmp u∈o.op.operands->t[u]? =t'[u]?):∀x∈o.op.operands,FK t x=FK t' x:=by
 intro x hx;cases x with
 |tmp u=>simp only[FK,A5,h u hx]
 |const v=>rfl
 |global g=>rfl
 |func f=>rfl
def Us.ev{o ev ev' H id k}(h:Us P o ev H id k)(he:∀x∈o.op.operands,ev x=ev' x):Us P o ev' H id k:=
 λL Av w ρ hs hf hL hH ho=>h L Av w ρ hs hf hL hH (λx hx=>by rw[he x hx];exact ho x hx)
def AAV{BP m}:∀n,(∀i,m<=i->i<n->BP.getD i true=false)->n-m<=El n BP:=by
 intro n;induction n with
 |zero=>intro _;simp[El]
 | succ n ih=>
   intro h;have h1:=ih (λi h1 h2=>h i h1 A0);have h2:El (n+1) BP=El n BP+(if BP.getD n true=false then 1 else 0):=by
    unfold El;rw[CX,K9,AH];simp only[LQ,List.filter_nil];cases BP.getD n true<;>rfl
   rw[h2];by_cases hn:m<=n
   ·rw[if_pos (h n hn A0)];omega
   omega
def Zh(hG:U2 P Γ){ops:List Oper}{base m:Nat}{Q:Exit->Act->World->Prop}{s:St}{T:Nat->List AV}{HH:Nat->HP}{res:Nat->AV}{dd:Nat->Option (List AV)}(Ny:dok ops m=true)
    (hT0:T 0=s.t) (hT:∀j o,j<m->ops[j]? =some o->T (j+1)=EX (T j) o.dst (res j)) (Oa:HH 0=s.H) (hH:∀j,j<m->HH (j+1)=RI (HH j) (base+j) (dd j)) (eF:∀j,j<m->s.H (base+j)=none)
    (hop:∀j o,j<m->ops[j]? =some o->(Im ops o.guard (T j)=some true/\NN P o (FK (T j)) (HH j) (base+j) (res j) (dd j)/\(lL o.op=false->∀H',NN P o (FK (T j)) H' (base+j) (res j) (dd j))/\(lays o.op=false->dd j=none))\/
        (Im ops o.guard (T j)=some false/\res j= .c undef/\dd j=none))
    (AGT:∀(fuel:Nat) (BP:Array Bool) (L:LM) (a:Act) (w:World),ops.length<=fuel+m->BP.size=ops.length->(∀i,i<ops.length->BP.getD i true=decide (i<m))->xE ops BP->
      Cn cX ⟨T m,HH m,s.nx⟩ L a w->(∀i,m<=i->i<ops.length->L (base+i)=none)->wpA cX.rd P .any ops.toArray Q fuel BP a w) (Xi:base+ops.length<=s.nx) (iU:cX.nx0<=base):
    ∀ (fuel:Nat) (BP:Array Bool) (s':St) (L:LM) (a:Act) (w:World),El ops.length BP<=fuel->BP.size=ops.length->xE ops BP->(∀i,m<=i->i<ops.length->BP.getD i true=false)->Part ops base m s res dd BP s'->
      Cn cX s' L a w->(∀i,i<ops.length->BP.getD i true=false->L (base+i)=none)->wpA cX.rd P .any ops.toArray Q fuel BP a w:=by
  obtain⟨d1,d2,d3,d4⟩:=yC Ny;have AGU:∀j o,j<m->ops[j]? =some o->∃d,o.dst=some d/\∀i o',i<m->i≠j->ops[i]? =some o'->o'.dst≠some d:=λj o hj ho=>(d3 j o hj ho).1
  have tch:=AAU d1 hT0 hT AGU;have hch:=A57 Oa hH eF;have fin:∀(fuel:Nat) (BP:Array Bool) (s':St) (L:LM) (a:Act) (w:World),El ops.length BP<=fuel->BP.size=ops.length->xE ops BP->(∀i,m<=i->i<ops.length->BP.getD i true=false)->Part ops base m s res dd BP s'->
      Cn cX s' L a w->(∀i,i<ops.length->BP.getD i true=false->L (base+i)=none)->(∀i,i<m->BP.getD i true=true)->wpA cX.rd P .any ops.toArray Q fuel BP a w:=by
    intro fuel BP s' L a w hf TH hs eD hp c GM yD;obtain⟨t1,t2,t3⟩:=tch m (A1 _);have e1:s'.t=T m:=by
      apply C7;intro u;by_cases hu:u<s.t.length
      · by_cases hex:∃i o,i<m/\ops[i]? =some o/\o.dst=some u
        · obtain⟨i,o,hi,ho,xF⟩:=hex;rw[hp.done i o u hi (yD i hi) ho xF hu,t2 i o u hi ho xF hu]
        rw[hp.rest u (λi o hi _ ho xF=>hex ⟨i,o,hi,ho,xF⟩),t3 u (λi o hi ho xF=>hex ⟨i,o,hi,ho,xF⟩)]
      rw[B8 (by have:=hp.len;omega),B8 A0]
    have e2:s'.H=HH m:=by
      funext id
      rw[hp.heap id,hch m (A1 _) id];by_cases hc:base<=id/\id<base+m
      · rw[if_pos ⟨hc.1,hc.2,yD _ A0⟩,if_pos hc]
      rw[if_neg (λh=>hc ⟨h.1,h.2.1⟩),if_neg hc]
    have e3:s'=⟨T m,HH m,s.nx⟩:=by
      have:=hp.nx;cases s';simp only at e1 e2 this;rw[e1,e2,this]
    have hge:=AAV ops.length eD;refine AGT fuel BP L a w A0 TH ?_ hs (e3▸c) (λi h1 h2=>GM i h2 (eD i h1 h2));intro i hi;by_cases him:i<m
    · rw[yD i him];simp[him]
    rw[eD i A0 hi];simp[him]
  intro fuel;induction fuel with
  | zero=>
    intro BP s' L a w hf TH hs eD hp c GM;refine fin 0 BP s' L a w hf TH hs eD hp c GM ?_;intro i hi;cases hc:BP.getD i true with
    |true=>rfl
    | false=>
      have:0<El ops.length BP:=by
        unfold El;exact List.length_pos_of_mem (E0.2 ⟨B3.2 (show i<ops.length by omega),by rw[hc];rfl⟩)
      omega
  | succ fuel ih=>
    intro BP s' L a w hf TH hs eD hp c GM;by_cases yD:∀i,i<m->BP.getD i true=true
    · exact fin _ BP s' L a w hf TH hs eD hp c GM yD
    have hex:∃i,i<m/\BP.getD i true=false:=by
      apply AN;intro lG;apply yD;intro i hi;cases hc:BP.getD i true with
      |true=>rfl
      |false=>exact absurd ⟨i,hi,hc⟩ lG
    obtain⟨i0,hi0,hu0,AAW⟩:∃i,i<m/\BP.getD i true=false/\∀k,k<i->BP.getD k true=true:=by
      obtain⟨i,hi,hu⟩:=hex;induction i using Nat.strongRecOn with
      | _ i ihh=>
        by_cases hk:∃k,k<i/\BP.getD k true=false
        · obtain⟨k,eG,NC⟩:=hk;exact ihh k eG A0 NC
        refine⟨i,hi,hu,?_⟩;intro k eG;cases hc:BP.getD k true with
        |true=>rfl
        |false=>exact absurd ⟨k,eG,hc⟩ hk
    have hrd:=aB d2 (show i0<ops.length by omega) TH AAW hu0;refine⟨(λh0=>by rw[h0]at hrd;cases hrd),?_⟩;intro j hj;obtain⟨Em,Xj,_⟩:=MV.1 hj;have hjm:j<m:=by
      apply AN;intro hjm;have:=JH hs hj (d4 j ops[j] A0 (A9 Em) i0 A0);rw[this]at hu0;cases hu0
    have ho:ops[j]? =some ops[j]:=A9 Em;obtain⟨⟨d,S3,WZ⟩,Ob,hhd⟩:=d3 j ops[j] hjm ho;have A94:∀u∈looks ops ops[j],s'.t[u]? =(T j)[u]? :=by
      intro u hu;obtain⟨t1,t2,t3⟩:=tch j A0;by_cases zO:u<s.t.length
      · by_cases hex:∃i o,i<m/\i≠j/\ops[i]? =some o/\o.dst=some u
        · obtain⟨i,o,hi,Q3,o9,xF⟩:=hex;have hw:=Ob u hu i o hi Q3 o9 xF;by_cases HX:i<j
          · rw[if_pos HX]at hw;rw[hp.done i o u hi (JH hs hj hw) o9 xF zO,t2 i o u HX o9 xF zO]
          rw[if_neg HX]at hw;obtain⟨d',AGV,AGW⟩:=AGU i o hi o9;rw[xF]at AGV;cases AGV;have hiu:BP.getD i true=false:=by
            cases hc:BP.getD i true with
            |false=>rfl
            |true=>have:=hs _ _ hw hc;rw[this]at Xj;cases Xj
          have q1:s'.t[u]? =s.t[u]? :=by
            refine hp.rest u (λk o' hk P5 l7 hku=>?_);by_cases hki:k=i
            · subst hki;rw[hiu]at P5;cases P5
            exact AGW k o' hk hki l7 hku
          have q2:(T j)[u]? =s.t[u]? :=t3 u (λk o' hk l7 hku=>AGW k o' A0 A0 l7 hku);rw[q1,q2]
        have q1:s'.t[u]? =s.t[u]? :=by
          refine hp.rest u (λk o' hk P5 l7 hku=>?_);by_cases hkj:k=j
          · subst hkj;rw[Xj]at P5;cases P5
          exact hex ⟨k,o',hk,hkj,l7,hku⟩
        have q2:(T j)[u]? =s.t[u]? :=t3 u (λk o' hk l7 hku=>hex ⟨k,o',A0,A0,l7,hku⟩);rw[q1,q2]
      rw[B8 (by have:=hp.len;omega),B8 A0]
    have Xk:∀x∈ops[j].op.operands,FK (T j) x=FK s'.t x:=by
      refine A58 (λu hu=>(A94 u ?_).symm);unfold looks;refine List.mem_append_left _ (IG.2 ⟨.tmp u,by simpa using hu,rfl⟩)
    have AGX:Im ops ops[j].guard s'.t=Im ops ops[j].guard (T j):=by
      unfold Im;cases hg:ops[j].guard with
      |none=>rfl
      | some gw=>
        obtain⟨g,want⟩:=gw;simp only
        cases hb:(ops[g]?).bind (·.dst)with
        |none=>rfl
        | some dg=>
          simp only
          rw[A94 dg];unfold looks;rw[hg];simp only
          exact List.mem_append_right _ (by rw[hb];simp)
    have A95:∀(L':LM) (u:Value) (w':World),Cn cX ⟨EX s'.t ops[j].dst (res j),RI s'.H (base+j) (dd j),s'.nx⟩ L' (a.put ops[j].dst u) w'->(∀i,i≠base+j->L' i=L i)->wpA cX.rd P .any ops.toArray Q fuel (BP.setIfInBounds j true) (a.put ops[j].dst u) w':=by
      intro L' u w' hc hL;refine ih _ _ L' _ w' (by have:=iV Xj Em;omega) (by simpa using TH) (hs.set hj) (λi h1 h2=>by rw[L4 Xj,if_neg A0];exact eD i h1 h2) ?_ hc ?_
      · rw[S3];simp only[EX];refine⟨by simpa using hp.len,?_,?_,?_,hp.nx⟩
        · intro i o u' hi iI o9 xF zO;rw[L4 Xj]at iI;simp only[CL];by_cases Q3:i=j
          · subst Q3;rw[ho]at o9;cases o9;rw[S3]at xF;cases xF;have:=hp.len;simp[this,zO]
          rw[if_neg Q3]at iI;have CP:d≠u':=by rintro rfl;exact WZ i o hi Q3 o9 xF
          rw[if_neg CP];exact hp.done i o u' hi iI o9 xF zO
        · intro u' WU;have CP:d≠u':=by
            rintro rfl;exact WU j ops[j] hjm (by rw[L4 Xj,if_pos rfl]) ho S3
          simp only[CL];rw[if_neg CP];refine hp.rest u' (λi o hi iI o9=>WU i o hi ?_ o9);rw[L4 Xj];split
          · rfl
          exact iI
        intro id;show RI s'.H (base+j) (dd j) id=_
        have AAX:(base<=id/\id<base+m/\(BP.setIfInBounds j true).getD (id-base) true=true)↔(id=base+j\/(base<=id/\id<base+m/\BP.getD (id-base) true=true)):=by
          rw[L4 Xj];constructor
          · rintro⟨h1,h2,h3⟩;split at h3
            · exact .inl A0
            exact .inr ⟨h1,h2,h3⟩
          rintro(h1|⟨h1,h2,h3⟩)
          · exact⟨A0,A0,by rw[if_pos A0]⟩
          refine⟨h1,h2,?_⟩;split
          · rfl
          exact h3
        by_cases GF:id=base+j
        · rw[if_pos (AAX.2 (.inl GF))];subst GF;rw[show base+j-base=j by omega];cases hdd:dd j with
          | none=>
            simp only[RI];rw[hp.heap,if_neg]
            · exact eF j hjm
            rintro⟨_,_,h3⟩;rw[show base+j-base=j by omega,Xj]at h3;cases h3
          |some cs=>simp[RI]
        have hu:RI s'.H (base+j) (dd j) id=s'.H id:=by
          cases dd j with
          |none=>rfl
          |some cs=>exact AB _ _ GF
        rw[hu,hp.heap id];by_cases qO:base<=id/\id<base+m/\BP.getD (id-base) true=true
        · rw[if_pos qO,if_pos (AAX.2 (.inr qO))]
        rw[if_neg qO,if_neg (λh=>(AAX.1 h).elim GF qO)]
      intro i hi iI;rw[L4 Xj]at iI;by_cases Q3:i=j
      · rw[if_pos Q3]at iI;cases iI
      rw[if_neg Q3]at iI;rw[hL _ A0];exact GM i hi iI
    unfold wpO;simp only[CO,ho];rcases hop j ops[j] hjm ho with ⟨hw,hq,XA,sA⟩|⟨hw,hr,cB⟩
    · rw [<- AGX] at hw;rcases YG c (Nz hw) ops[j] rfl with ⟨Oc,_⟩|⟨_,hf'⟩
      · rw[if_pos Oc];left
        have fS :∀i c,(if lL ops[j].op=true then HH j else DD) i=some c->s'.H i=some c:=by
          intro id cs GF;cases hdp:lL ops[j].op with
          |false=>rw[hdp]at GF;cases GF
          | true=>
            rw[hdp]at GF;simp only[if_true]at GF;rw[hch j A0 id]at GF;rw[hp.heap id];by_cases qO:base<=id/\id<base+j
            · rw[if_pos qO]at GF;have hki:id-base<ops.length:=A0;have fX:ops[id-base]? =some ops[id-base]:=A9 hki;have ANC:lays ops[id-base].op=true:=by
                cases hly:lays ops[id-base].op with
                |true=>rfl
                | false=>
                  rcases hop (id-base) _ A0 fX with ⟨_,_,_,h9⟩|⟨_,_,h9⟩
                  · rw[h9 hly]at GF;cases GF
                  rw[h9]at GF;cases GF
              have AND:=JH hs hj (hhd hdp (id-base) _ A0 fX ANC);rw[if_pos ⟨qO.1,A0,AND⟩];exact GF
            rw[if_neg qO]at GF;rw[if_neg]
            · exact GF
            rintro⟨h1,h2,_⟩;have:=eF (id-base) A0;rw[show base+(id-base)=id by omega,GF]at this;cases this
        have hq':NN P ops[j] (FK (T j)) (if lL ops[j].op=true then HH j else DD) (base+j) (res j) (dd j):=by
          cases hdp:lL ops[j].op with
          |true=>simpa using hq
          |false=>simpa using XA hdp DD
        have hLj:=GM j Em Xj;have hHj:s'.H (base+j)=none:=by
          cases hh:s'.H (base+j)with
          |none=>rfl
          |some cs=>obtain⟨l,h1,_⟩:=c.sr.node _ cs hh;rw[hLj]at h1;cases h1
        have iJ:=(hq' s'.H fS).ev Xk;refine(iJ L cX.Av w a.eval c.sr ⟨_,c.fr⟩ hLj hHj (λx _=>c.ev x)).wp ?_;rintro u w' ⟨r,H',L',⟨rfl,rfl⟩,h2,h3,h4,h5⟩;refine A95 L' u w' ?_ h2;obtain⟨p1,p2,p3⟩:=SY (a:=a) c.sz (λk y hk=>(c.sl k y hk).step h4) ops[j].dst h5;have AGY:=hp.nx;refine⟨dfp p1 (c.df.step c.sr h4),p2,p3,h3,?_,c.nx,?_,c.st.trans h4⟩
        · intro i OQ;simp only at OQ;rw[h2 i A0];exact c.fr i OQ
        intro i OQ;rw[h2 i A0];exact c.lo i OQ
      cases hf'
    rw[<-AGX]at hw;rcases YG c (Nz hw) ops[j] rfl with ⟨_,hf'⟩|⟨Oc,_⟩
    · cases hf'
    rw[if_neg (by simp[Oc])];refine A95 L _ w ?_ (λ_ _=>rfl);rw[hr,cB];obtain⟨p1,p2,p3⟩:=SY (a:=a) c.sz c.sl ops[j].dst (R.c undef);exact⟨dfp p1 c.df,p2,p3,c.sr,c.fr,c.nx,c.lo,c.st⟩
def A59{cX}(hG:U2 P Γ)(hmx:P.follows .mixedOrders=true){n ops s K}(m)(hd:dok ops.toList m=true)(h:O7 Γ P ops.toList s.nx (ops.toList.take m) 0 s.t s.H λt H=>KO Γ P ops.toList s.nx (ops.toList.drop m) m ⟨t,H,s.nx+ops.toList.length⟩ (K .normal)):AW cX P (.region n ops true) s K:=by
 intro L a w Q hc hQ;obtain⟨d1,d2,d3,d4⟩:=yC hd;refine fL hmx ?_;obtain⟨T,HH,res,dd,h1,h2,h3,h4,h5,h6⟩:=Ve (m:=m) hG _ 0 s.t s.H B5 A0 h;rw[show min m ops.toList.length=m by omega]at h3;have hHn:∀j,s.H (s.nx+j)=none:=by
  intro j;cases hh:s.H (s.nx+j)with
  |none=>rfl
  |some cs=>obtain⟨l,g1,_⟩:=hc.sr.node _ cs hh;rw[hc.fr _ A0]at g1;cases g1
 have hdr:Cn cX ⟨s.t,s.H,s.nx+ops.toList.length⟩ L a {w with drawn:=w.drawn+1}:=
  ⟨hc.df.same rfl,hc.sz,λk x hk=>(hc.sl k x hk).drew,hc.sr.drew,λi hi=>hc.fr i (by simp only at hi;omega),by have:=hc.nx;simp only;omega,hc.lo,hc.st.trans (Step.drew _ _ _)⟩
 have:=Zh (Q:=Q) (s:=⟨s.t,s.H,s.nx+ops.toList.length⟩) (base:=s.nx) hG hd h1 (λj o hj ho=>h4 j o A0 hj ho) h2 (λj hj=>h5 j A0 hj A0) (λj hj=>hHn j)
  (λj o hj ho=>h6 j o A0 hj ho) (λfuel BP L' a' w' g1 g2 g3 g4 g5 g6=>Zg (m:=m) (hi:=s.nx+ops.toList.length) (base:=s.nx) hG d2 d4 (A1 _) (λs' L' a' w' hk VJ=>hQ _ _ _ _ _ hk VJ) fuel m BP _ L' a' w' (A1 _) d1 g1 g2 g3 g4 h3
    ⟨g5,λi h1 h2=>by have:=g6 (i-s.nx) A0 A0;rwa [show s.nx+(i-s.nx)=i by omega]at this,by simp only;omega,by have:=hc.nx;omega⟩) (by simp only;omega) hc.nx
  ops.size (Array.replicate ops.size false) ⟨s.t,s.H,s.nx+ops.toList.length⟩ L a {w with drawn:=w.drawn+1} (by
    unfold El;exact CH (F6 _ _) B5) B5 (by
    intro i j hw hj;have:=hw.len;simp only[EP]at this;simp[BC,this]at hj) (by
    intro i _ hi;simp only[EP]at hi;simp[BC,hi]) ⟨rfl,by
     intro i o u hi hl ho;have:=(AL.1 ho).1;simp only[EP]at this;simp[BC,this]at hl,λu _=>rfl,by
     intro id;rw[if_neg];rintro⟨g1,g2,g3⟩;have:id-s.nx<ops.size:=by simp only[EP]at d1;omega
     simp[BC,this]at g3,rfl⟩ hdr (λi hi _=>hc.fr _ A0)
 simpa using this
end
end
end
section
mutual
inductive Ow (H:HP):AV->AV->List Nat->Prop
 |leaf (a:AV) (hf:Fl a) (hn:NR a):Ow H a a []
 |nl:Ow H .nl (.v 0 []) []
 |h (id:Nat) (cs ts:List AV) (ids:List Nat) (h1:H id=some cs) (h2:PO H cs ts ids):Ow H (.h id 0 cs.length) (.v cs.length ts) (id::ids)
 |q (id:Nat) (cs ts:List AV) (ids:List Nat) (h1:H id=some cs) (h2:PO H cs ts ids):Ow H (.q id 0) (.p 0 ts) (id::ids)
 |g (cs ts:List AV) (ids:List Nat) (h2:PO H cs ts ids):Ow H (.g cs) (.g ts) ids
 |t (cs ts:List AV) (ids:List Nat) (h2:PO H cs ts ids):Ow H (.t cs) (.t ts) ids
inductive PO (H:HP):List AV->List AV->List Nat->Prop
 |nil:PO H [] [] []
 |cons (x y:AV) (xs ys:List AV) (is js:List Nat) (h1:Ow H x y is) (h2:PO H xs ys js):PO H (x::xs) (y::ys) (is++js)
end
def PO.len{H}:∀{cs ts:List AV} {ids:List Nat},PO H cs ts ids->ts.length=cs.length:=by
 intro cs;induction cs with
 |nil=>intro ts ids h;cases h;rfl
 |cons c cs ih=>intro ts ids h;cases h with|cons x y xs ys is js h1 h2=>simp[ih h2]
def PO.get{H}:∀{cs ts:List AV} {ids:List Nat},PO H cs ts ids->∀(k:Nat) (x:AV),cs[k]? =some x->∃y is,ts[k]? =some y/\Ow H x y is/\∀i∈is,i∈ids:=by
 intro cs;induction cs with
 |nil=>intro ts ids h k x hk;simp at hk
 | cons c cs ih=>
   intro ts ids h k x hk;cases h with
   |cons x' y xs ys is js h1 h2=>
    cases k with
    |zero=>simp at hk;subst hk;exact⟨y,is,rfl,h1,λi hi=>by simp[hi]⟩
    | succ k=>
      obtain⟨y',is',h3,h4,h5⟩:=ih h2 k x (by simpa using hk);exact⟨y',is',by simpa using h3,h4,λi hi=>by simp[h5 i hi]⟩
def PO.append{H}:∀{cs ts LI ts':List AV} {ids I1:List Nat},PO H cs ts ids->PO H LI ts' I1->PO H (cs++LI) (ts++ts') (ids++I1):=by
 intro cs;induction cs with
 |nil=>intro ts LI ts' ids I1 h h';cases h;exact h'
 | cons c cs ih=>
   intro ts LI ts' ids I1 h h';cases h with
   |cons x y xs ys is js h1 h2=>
    have:=PO.cons _ y _ _ is _ h1 (ih h2 h');simpa[BO]using this
def PO.leaves{H}:∀{cs:List AV},(∀x∈cs,Fl x/\NR x)->PO H cs cs []:=by
 intro cs;induction cs with
 |nil=>intro _;exact .nil
 | cons c cs ih=>
   intro h;have:=PO.cons c c cs cs [] [] (.leaf c (h c B5).1 (h c B5).2) (ih (λx hx=>h x (by simp[hx])));simpa using this
mutual
def Ow.BV{H H' r X ids}(h:Ow H r X ids)(hk:∀i∈ids,H' i=H i):Ow H' r X ids:=by
 cases h with
 |leaf _ hf hn=>exact .leaf _ hf hn
 |nl=>exact .nl
 |h id cs ts ids h1 h2=>exact .h id cs ts ids ((hk id B5).trans h1) (h2.BV (λi hi=>hk i (by simp[hi])))
 |q id cs ts ids h1 h2=>exact .q id cs ts ids ((hk id B5).trans h1) (h2.BV (λi hi=>hk i (by simp[hi])))
 |g cs ts ids h2=>exact .g cs ts ids (h2.BV hk)
 |t cs ts ids h2=>exact .t cs ts ids (h2.BV hk)
def PO.BV{H H' cs ts ids}(h:PO H cs ts ids)(hk:∀i∈ids,H' i=H i):PO H' cs ts ids:=by
 cases h with
 |nil=>exact .nil
 |cons x y xs ys is js h1 h2=>exact .cons x y xs ys is js (h1.BV (λi hi=>hk i (by simp[hi]))) (h2.BV (λi hi=>hk i (by simp[hi])))
end
mutual
def Ow.fl{H r X ids}(h:Ow H r X ids):Fl r/\(∀i∈ids,∃cs,H i=some cs/\∀(k:Nat) (x:AV),cs[k]? =some x->Fl x):=by
 cases h with
 |leaf _ hf hn=>exact⟨hf,B5⟩
 |nl=>exact⟨.nl,B5⟩
 | h id cs ts ids h1 h2=>
   obtain⟨h3,h4⟩:=h2.fl;refine⟨.h _ _ _,?_⟩;intro i hi;rcases BJ.1 hi with rfl|hi
   ·exact⟨cs,h1,h3⟩
   exact h4 i hi
 | q id cs ts ids h1 h2=>
   obtain⟨h3,h4⟩:=h2.fl;refine⟨.q _ _,?_⟩;intro i hi;rcases BJ.1 hi with rfl|hi
   ·exact⟨cs,h1,h3⟩
   exact h4 i hi
 |g cs ts ids h2=>obtain⟨h3,h4⟩:=h2.fl;exact⟨.g _ h3,h4⟩
 |t cs ts ids h2=>obtain⟨h3,h4⟩:=h2.fl;exact⟨.t _ h3,h4⟩
def PO.fl{H cs ts ids}(h:PO H cs ts ids):(∀(k:Nat) (x:AV),cs[k]? =some x->Fl x)/\(∀i∈ids,∃cs,H i=some cs/\∀(k:Nat) (x:AV),cs[k]? =some x->Fl x):=by
 cases h with
 |nil=>exact⟨B5,B5⟩
 | cons x y xs ys is js h1 h2=>
   obtain⟨h3,h4⟩:=h1.fl;obtain⟨h5,h6⟩:=h2.fl;refine⟨?_,?_⟩
   ·intro k z hk;cases k with
    |zero=>simp at hk;subst hk;exact h3
    |succ k=>exact h5 k z (by simpa using hk)
   intro i hi;rcases AG.1 hi with hi|hi
   ·exact h4 i hi
   exact h6 i hi
end
mutual
def Ow.vw{H r X ids}(h:Ow H r X ids):Vw H r X:=by
 cases h with
 |leaf _ hf hn=>exact .refl _
 |nl=>exact .nl
 |h id cs ts ids h1 h2=>exact .h id 0 cs.length cs ts h1 A0 h2.len (λk x y hx hy=>h2.vw k x y (by rwa [BS]at hx) hy)
 |q id cs ts ids h1 h2=>exact .q id 0 cs ts h1 h2.len h2.vw
 |g cs ts ids h2=>exact .g cs ts h2.len h2.vw
 |t cs ts ids h2=>exact .t cs ts h2.len h2.vw
def PO.vw{H cs ts ids}(h:PO H cs ts ids):∀(k:Nat) (x y:AV),cs[k]? =some x->ts[k]? =some y->Vw H x y:=by
 cases h with
 |nil=>intro k x y hx;simp at hx
 | cons x y xs ys is js h1 h2=>
   intro k a b ha hb;cases k with
   |zero=>simp at ha hb;subst ha;subst hb;exact h1.vw
   |succ k=>exact h2.vw k a b (by simpa using ha) (by simpa using hb)
end
def Own(nx DI:Nat)(H:HP)(r X:AV)(ids:List Nat):Prop:=Ow H r X ids/\ids.Nodup/\∀i∈ids,nx<=i/\i<DI
def cC(P:Program)(f:FuncId)(Zz:List AV)(X:AV):Prop:=∀nx,AC P f nx DD Zz λDI H' r=>∃ids,Own nx DI H' r X ids
def AC.own{P f nx H Zz ts X K}(h:cC P f ts X)(hv:wU H Zz ts)(hk:∀DI H' r ids,nx<=DI->(∀i,i<nx->H' i=H i)->Own nx DI H' r X ids->K DI H' r):AC P f nx H Zz K:=by
 obtain⟨he,O7⟩:=h nx;refine⟨he,λL Av w us hs GM ha=>(O7 L Av w us (fT hs.cW) GM (by rw[fU];exact ha.view hs hv)).mono ?_⟩;rintro e w' ⟨u,r,L',DI,H',h1,⟨ids,⟨h2,J7,A5A⟩⟩,h3,h4,h5,h6,h7,h8⟩;obtain⟨Vf,Jx⟩:=h2.fl;have hHn:∀i,nx<=i->H i=none:=by
  intro i hi;cases hh:H i with
  |none=>rfl
  |some cs=>obtain⟨l,g1,_⟩:=hs.node i cs hh;rw[GM i hi]at g1;cases g1
 let H2:HP:=λi=>if i<nx then H i else if i∈ids then H' i else none
 have IA:∀i,i<nx->H2 i=H i:=λi hi=>by simp only[H2,hi,if_true]
 have AAY:∀i∈ids,H2 i=H' i:=by
  intro i hi;have:=A5A i hi;simp only[H2];rw[if_neg A0,if_pos hi]
 have Y8:∀b,b<w.heap.size->w'.heap[b]? =w.heap[b]? :=λb hb=>h7.BV b hb SG
 have live:∀i cs,H2 i=some cs->(i<nx/\H i=some cs)\/(i∈ids/\nx<=i/\H' i=some cs):=by
  intro i cs hi;simp only[H2]at hi;split at hi
  · exact .inl ⟨by assumption,hi⟩
  split at hi
  · exact .inr ⟨by assumption,A0,hi⟩
  cases hi
 have UL:∀i cs l,H' i=some cs->L' i=some l->w.heap.size<=l.IY:=by
  intro i cs l g1 g2;apply AN;intro HX;exact SG (h7.old l.IY A0 ⟨i,cs,l,g1,g2,rfl⟩)
 have M4:Step L H w L' H2 w':=by
  refine⟨h7.le,h7.os,h7.tape,h7.output,h7.size,λb hb _=>Y8 b hb,?_⟩;rintro b hb ⟨i,cs,l,g1,g2,g3⟩;rcases live i cs g1 with ⟨g4,g5⟩|⟨g4,g5,g6⟩
  · exact⟨i,cs,l,g5,by rw[<-h5 i g4];exact g2,g3⟩
  have:=UL i cs l g6 g2;omega
 have hsr:SR L' H2 Av w':=by
  refine⟨?_,?_,?_,λb hb=>GA (hs.cW b hb) h7.size⟩
  · intro i cs hi;rcases live i cs hi with ⟨g4,g5⟩|⟨g4,g5,g6⟩
    ·obtain⟨l,g7,JO⟩:=hs.node i cs g5;exact⟨l,by rw[h5 i g4];exact g7,JO.mono (Y8 _ JO.lt) λk x hk c g13=>g13.step M4⟩
    obtain⟨l,g7,JO⟩:=h6.node i cs g6;refine⟨l,g7,JO.mono rfl λk x hk c g13=>?_⟩;obtain⟨LI,g14,g15⟩:=Jx i g4;rw[g6]at g14;cases g14;exact g13.fl (λ_ _ h=>h) (g15 k x hk)
  · intro i i' cs LI l l' g1 g2 g3 g4 g5;rcases live i cs g1 with ⟨q1,q2⟩|⟨q1,q2,q3⟩<;>rcases live i' LI g2 with ⟨q4,q5⟩|⟨q4,q5',q6⟩
    ·exact hs.inj i i' cs LI l l' q2 q5 (by rw[<-h5 i q1];exact g3) (by rw[<-h5 i' q4];exact g4) g5
    ·have a1:=a7 hs ⟨i,cs,l,q2,by rw[<-h5 i q1];exact g3,rfl⟩;have a2:=UL i' LI l' q6 g4;omega
    ·have a1:=a7 hs ⟨i',LI,l',q5,by rw[<-h5 i' q4];exact g4,rfl⟩;have a2:=UL i cs l q3 g3;omega
    exact h6.inj i i' cs LI l l' q3 q6 g3 g4 g5
  intro i cs l g1 g2;rcases live i cs g1 with ⟨q1,q2⟩|⟨q1,q2,q3⟩
  · exact hs.av i cs l q2 (by rw[<-h5 i q1];exact g2)
  exact h6.av i cs l q3 g2
 refine⟨u,r,L',DI,H2,h1,hk DI H2 r ids h3 IA ⟨h2.BV AAY,J7,A5A⟩,h3,h4,h5,hsr,M4,h8.fl (λ_ _ h=>h) Vf⟩
def ga0(x d):(#[x]:Array Value).getD 0 d=x:=rfl
def gs1(x):(#[x]:Array Value).size=1:=rfl
def sl(n:Nat)(kv:List (Nat×AV)):List AV:=kv.foldl (λl p=>l.set p.1 p.2) (List.replicate n .j)
def ints(xs:C2):AV:= .v xs.length (xs.map (.i .i64))
def rows(xs:D4):AV:= .v xs.length (xs.map ints)
def B6(xs:E6):AV:= .v xs.length (xs.map rows)
def DV{n}(h0: -9223372036854775808<=n)(h1:n<=9223372036854775807):IntKind.wrap .i64 n=n:=wrap_i64 h0 h1
def Ow.ints{H id xs n}(h:H id=some (xs.map (.i .i64)))(hn:n=xs.length):Ow H (.h id 0 n) (Go.Proofs.YtgknbnkmilddhaaGreat.ints xs) [id]:=by
 have:=Ow.h id _ _ [] h (PO.leaves (λx hx=>by
  obtain⟨y,_,rfl⟩:=AQ.1 hx;exact⟨.i _ _,.i _ _⟩))
 rw[A4]at this;rw[hn];exact this
def Own.ints{nx DI H id xs n}(h:H id=some (xs.map (.i .i64)))(hn:n=xs.length)(h1:nx<=id)(h2:id<DI):Own nx DI H (.h id 0 n) (Go.Proofs.YtgknbnkmilddhaaGreat.ints xs) [id]:=
 ⟨Ow.ints h hn,B5,by simp;omega⟩
def sB{α:Type}(f:α->AV)(xs:List α)(d:α){k}(h:k<xs.length):(xs.map f).getD k .j=f (xs.getD k d):=by
 simp[h]
def ANE{p q:Prop}(h:p):(p/\q)=q:=propext ⟨λh=>h.2,λhq=>⟨h,hq⟩⟩
def CB{xs:C2}{k:Nat}(h:k<xs.length):(xs.map (AV.i .i64)).getD k .j= .i .i64 (xs.getD k 0):=sB _ xs 0 h
def EY{xs:D4}{k:Nat}(h:k<xs.length):(xs.map Go.Proofs.YtgknbnkmilddhaaGreat.ints).getD k .j=Go.Proofs.YtgknbnkmilddhaaGreat.ints (xs.getD k []):=sB _ xs [] h
def IK{xs:E6}{k:Nat}(h:k<xs.length):(xs.map rows).getD k .j=rows (xs.getD k []):=sB _ xs [] h
def c_i(k n):I0 (.i k n)=[.i k n]:=rfl
def c_s(x):I0 (.s x)=[.s x]:=rfl
def ANF:I0 .nl=[.nl]:=rfl
def c_v(n cs):I0 (.v n cs)=[.v n cs]:=rfl
def c_p(n cs):I0 (.p n cs)=[.p n cs]:=rfl
def c_h(a b c):I0 (.h a b c)=[.h a b c]:=rfl
def c_g(cs):I0 (.g cs)=cs:=rfl
def o_i(k n):one (.i k n)=true:=rfl
def ANG:one .nl=true:=rfl
def o_v(n cs):one (.v n cs)=true:=rfl
def o_p(n cs):one (.p n cs)=true:=rfl
def o_h(a b c):one (.h a b c)=true:=rfl
def k_i(k n):wS (.i k n)=true:=rfl
def k_s(x):wS (.s x)=true:=rfl
def ANH:wS .nl=true:=rfl
def k_v(n cs):wS (.v n cs)=true:=rfl
def k_p(n cs):wS (.p n cs)=true:=rfl
def k_h(a b c):wS (.h a b c)=true:=rfl
def k_g(cs):wS (.g cs)=cs.all one:=rfl
def sp0(a x Zz xs):DH (a::Zz) 0 (x::xs)=x::DH Zz 0 xs:=by
 simp[DH]
def spn(cs o):DH cs o []=cs:=by simp[DH]
def sp1(a Zz xs n):DH (a::Zz) (n+1) xs=a::DH Zz n xs:=by
 simp[DH,Nat.add_right_comm]
def OW(cs k x)(h:k<cs.length):DH cs k [x]=cs.set k x:=by
 apply C7;intro i;rw[SX _ _ _ (by simp;omega),CL];by_cases hi:k=i
 ·subst hi;simp[h]
 rw[if_neg hi,if_neg (by simp;omega)]
attribute [go_sem] DV
end
section
open Go.Deep Go.ChangeShapes Go.WideShapes
def noL:LM:=λ_=>none
def noM:Nat->Prop:=λ_=>False
section
variable{T:Type}{enc:TypeId×Value->T}{P:Program}{w:World}{sp:Nat->Bool}{held:Bool}
def Zi{α:Type}[Inhabited α]{f:α->AV}{ok:α->Prop}{t e:TypeId}{fuel:Nat}{v:Value}{x:DataW T×List MemPlace}(ht:P.underlying t=some (.slice e))(hc:P.cellsOf e=1)
    (hel:∀n u y,DataW.trod enc P w 0 sp held n e [u]=some y->∃z:α,R noL w noM (f z) u/\ok z) (h:DataW.trod enc P w 0 sp held fuel t [v]=some x):
    ∃xs:List α,R noL w noM (.v xs.length (xs.map f)) v/\xs.length<=maxLen/\∀y∈xs,ok y:=by
  rcases open_slice1 ht hc h with ⟨h1,_⟩|⟨a,len,cap,m,n,V,D,Pl,h1,_,hl,hcm,hm,_,hx⟩
  · simp only[MD,and_true]at h1;subst h1;exact⟨[],.v0 _ _,AE _,B5⟩
  simp only[MD,and_true]at h1;subst h1;have hlm:len<=m:=by rw[hm];split<;>omega
  have hz:∀i,i<len->∃z:α,R noL w noM (f z) (V i)/\ok z:=λi hi=>hel n _ _ (hx i A0).2
  obtain⟨Z,hZ⟩:=choose_lt (α:=α) (p:=λi z=>R noL w noM (f z) (V i)/\ok z) hz;refine⟨(List.range len).map Z,?_,by simp;omega,?_⟩
  · simp only[A4,DG];by_cases h0:len=0
    · subst h0;exact .v0 _ _
    obtain⟨b,off,spot⟩:=a;have hc0:=(hx 0 A0).1;have AGZ:spot=none:=by simpa[Addr.add]using World.cell?_spot hc0
    subst AGZ;have Q6:∀i,i<len->w.cell? ⟨b,off+i,none⟩=some (V i):=λi hi=>by
      have:=(hx i A0).1;rwa [SV]at this
    have hb:=Q6 0 A0;unfold World.cell? at hb;simp only at hb
    cases Od:w.heap[b]? with
    |none=>rw[Od]at hb;cases hb
    | some o=>
      rw[Od]at hb;cases o with
      | cells arr et fr=>
        refine .v len _ b off cap arr et fr V (λh=>h) Od hl ?_ ?_
        · intro k hk;simp only[A4,DG]at hk;have:=Q6 k hk;unfold World.cell? at this;simp only[Od]at this;simpa using this
        intro k y hk;simp only[GN,BF,CG,FM,Function.comp]at hk;obtain⟨i,h5,h6⟩:=hk;have hi:=AL.1 h5;simp only[K8,DG]at hi;obtain⟨h7,h8⟩:=hi;subst h8;rw[<-h6];exact(hZ k h7).1
      |_=>cases hb
  intro y hy;obtain⟨i,h5,h6⟩:=AQ.1 hy;rw[<-h6];exact(hZ i (B3.1 h5)).2
def A5B{f Zz us}(h:DZ P f Zz (.b true))(ha:S8 noL w noM Zz us):Calls P f us w λe w'=>e= .returned (.bool true)/\RowKit.Below w.heap.size w w':=by
 refine(h.2 noL noM w us (λ_ h=>h.elim) ⟨0,λ_ _=>rfl⟩ ha).mono ?_;rintro e w' ⟨u,h1,h2,h3⟩;rw[h3.nX]at h1;exact⟨h1,h2.os,h2.tape,h2.output.1,h2.size,λk hk=>h2.BV k hk SG⟩
end
attribute [go_sem] DV
end
section
def Ow.slice{H r n ts ids}(h:Ow H r (.v n ts) ids):I0 r=[r]/\one r=true/\wS r=true:=by
 cases h<;>exact⟨rfl,rfl,rfl⟩
mutual
def Ow.nr{H r X ids}(h:Ow H r X ids):NR X:=by
 cases h with
 |leaf _ hf hn=>exact hn
 |nl=>exact .v _ _ B5
 |h id cs ts ids h1 h2=>exact .v _ _ h2.nr
 |q id cs ts ids h1 h2=>exact .p _ _ h2.nr
 |g cs ts ids h2=>exact .g _ h2.nr
 |t cs ts ids h2=>exact .t _ h2.nr
def PO.nr{H cs ts ids}(h:PO H cs ts ids):∀(k:Nat) (x:AV),ts[k]? =some x->NR x:=by
 cases h with
 |nil=>intro k x hk;simp at hk
 | cons x y xs ys is js h1 h2=>
   intro k z hk;cases k with
   |zero=>simp at hk;subst hk;exact h1.nr
   |succ k=>exact h2.nr k z (by simpa using hk)
end
def cC.pure{P f Zz X}(h:cC P f Zz X):DZ P f Zz X:=by
 refine⟨(h 0).1,λL M w us hM ⟨n,hn⟩ ha=>((h n).2 L M w us (fT hM) hn (by rw[fU];exact ha)).mono ?_⟩;rintro e w' ⟨u,r,L',DI,H',h1,⟨ids,h2,_⟩,h3,h4,h5,h6,h7,h8⟩;exact⟨u,h1,⟨λ_ _ h=>h,h7.os,h7.tape,h7.output,h7.size,h7.BV,λb _ hb=>absurd hb SG⟩,(h2.vw.sound h6 h8).nr h2.nr⟩
def Own.BV{a b a' b' H H' r X ids}(h:Own a b H r X ids)(hk:∀i,a<=i->i<b->H' i=H i)(ha:a'<=a)(hb:b<=b'):Own a' b' H' r X ids:=
 ⟨h.1.BV λi hi=>hk i (h.2.2 i hi).1 (h.2.2 i hi).2,h.2.1,λi hi=>by have:=h.2.2 i hi;omega⟩
def sC(a b:Nat)(H:HP)(rs Xs:List AV)(ids:List Nat):Prop:=PO H rs Xs ids/\ids.Nodup/\∀i∈ids,a<=i/\i<b
def sC.nil{a b H}:sC a b H [] [] []:=⟨.nil,B5,B5⟩
def sC.leaf{a b H x rs Xs js}(hf:Fl x)(hn:NR x)(h:sC a b H rs Xs js):sC a b H (x::rs) (x::Xs) js:=
 ⟨by simpa using PO.cons _ _ _ _ [] js (.leaf x hf hn) h.1,h.2.1,h.2.2⟩
def sC.cons{a b c H r X is rs Xs js}(h1:Own a b H r X is)(h2:sC b c H rs Xs js)(hb:b<=c)(ha:a<=b):sC a c H (r::rs) (X::Xs) (is++js):=by
 refine⟨.cons _ _ _ _ _ _ h1.1 h2.1,?_,?_⟩
 ·rw[BA];exact⟨h1.2.1,h2.2.1,λx hx y hy e=>by have:=h1.2.2 x hx;have:=h2.2.2 y hy;omega⟩
 intro i hi;rcases AG.1 hi with hi|hi
 ·have:=h1.2.2 i hi;omega
 have:=h2.2.2 i hi;omega
def sC.t{a b H rs Xs ids}(h:sC a b H rs Xs ids):Own a b H (.t rs) (.t Xs) ids:=⟨.t _ _ _ h.1,h.2.1,h.2.2⟩
attribute [go_sem] DV
end
section
variable{P:Program}{Γ:KT}
def sD{α:Type}(a:α)(f:α->Prop):Up (some a) f=f a:=by simp[Up]
@[congr] theorem ANI {α:Type}{o o'}(f:α->Prop)(h:o=o'):Up o f=Up o' f:=by rw[h]
@[congr] theorem AMT {ops rest base i s s' K}(h:s=s'):KO Γ P ops base rest i s K=KO Γ P ops base rest i s' K:=by rw[h]
@[congr] theorem AMU {ops rest base i t t' H H' k}(h:t=t')(h2:H=H'):O7 Γ P ops base rest i t H k=O7 Γ P ops base rest i t' H' k:=by rw[h,h2]
@[congr] theorem AMV {H x x' xs xs' id k}(h:x=x')(h2:xs=xs'):lH H x xs id k=lH H x' xs' id k:=by rw[h,h2]
@[congr] theorem AR4 {f H H' Zz as' r}(h:H=H')(h2:Zz=as'):RC P f H Zz r=RC P f H' as' r:=by rw[h,h2]
def ANJ{α:Type}{x d:α}{xs:List α}{n:Nat}:(x::xs).getD (n+1) d=xs.getD n d:=B5
def ANK{α:Type}{x d:α}{xs:List α}:(x::xs).getD 0 d=x:=B5
def ANL{α:Type}{x:α}{xs:List α}{n:Nat}:(x::xs)[n+1]? =xs[n]? :=B5
def ANM{α:Type}{x:α}{xs:List α}:(x::xs)[0]? =some x:=B5
def ANN{α:Type}{x y:α}{xs:List α}{n:Nat}:(x::xs).set (n+1) y=x::xs.set n y:=B5
def ANO{α:Type}{x y:α}{xs:List α}:(x::xs).set 0 y=y::xs:=B5
def iW(ops:List Oper)(j:Nat):Option Nat:=(ops[j]?).bind (·.dst)
def AH0{dst:Option Nat}{op:Op}{ty:TypeId}{pos:String}{after:Array Edge}{g:Option (Nat×Bool)}{ops:List Oper}:iW (⟨dst,op,ty,pos,after,g⟩::ops) 0=dst:=by simp[iW]
def AH1{o ops j}:iW (o::ops) (j+1)=iW ops j:=by simp[iW]
def En(v:Option AV)(d:Nat)(w:Bool)(t:List AV)(y n:List AV->Prop):Prop:=
 match v with
 |some (.b x)=>J5 x w (y (t.set d (.b w))) (n (t.set d (.b (!w)))) (.mk _) (.mk _)
 |some (.c (.tuple _))=>n t
 |_=>False
def Jy(o:Option Nat)(w:Bool)(t:List AV)(y n:List AV->Prop):Prop:=
 match o with
 |some d=>En t[d]? d w t y n
 |none=>False
def gD{d w t y n}:Jy (some d) w t y n=En t[d]? d w t y n:=rfl
def gV1{x d w t y n}:En (some (.b x)) d w t y n=J5 x w (y (t.set d (.b w))) (n (t.set d (.b (!w)))) (.mk _) (.mk _):=rfl
def gV2{vs d w t y n}:En (some (.c (.tuple vs))) d w t y n=n t:=rfl
@[congr] theorem AMW {o o' w t y n}(h:o=o'):Jy o w t y n=Jy o' w t y n:=by rw[h]
@[congr] theorem AMX {v v' d w t y n}(h:v=v'):En v d w t y n=En v' d w t y n:=by rw[h]
def AAZ{ops base i s K}:KO Γ P ops base [] i s K=K s:=rfl
def AB0{ops rest:List Oper}{base i:Nat}{s:St}{K:St->Prop}{dst:Option Nat}{op:Op}{ty:TypeId}{pos:String}{after:Array Edge}:
    KO Γ P ops base (⟨dst,op,ty,pos,after,none⟩::rest) i s K=SZ Γ P dst op (base+i) s (λs'=>KO Γ P ops base rest (i+1) s' K):=rfl
def AH2{ops rest:List Oper}{base i j:Nat}{w:Bool}{t:List AV}{H:HP}{nx:Nat}{K:St->Prop}{dst:Option Nat}{op:Op}{ty:TypeId}{pos:String}{after:Array Edge}:
    KO Γ P ops base (⟨dst,op,ty,pos,after,some (j,w)⟩::rest) i ⟨t,H,nx⟩ K=Jy (iW ops j) w t (λt=>SZ Γ P dst op (base+i) ⟨t,H,nx⟩ λs'=>KO Γ P ops base rest (i+1) s' K) (λt=>KO Γ P ops base rest (i+1) ⟨EX t dst (.c undef),H,nx⟩ K):=by
  simp only[KO,gop,Jy,En,iW];cases (ops[j]?).bind (·.dst)with
  |none=>rfl
  | some d=>cases t[d]? with
    |none=>rfl
    |some v=>cases v<;>rfl
def ES{ops base i t H k}:O7 Γ P ops base [] i t H k=k t H:=rfl
def ET{ops rest:List Oper}{base i:Nat}{t:List AV}{H:HP}{k:List AV->HP->Prop}{dst:Option Nat}{op:Op}{ty:TypeId}{pos:String}{after:Array Edge}:
    O7 Γ P ops base (⟨dst,op,ty,pos,after,none⟩::rest) i t H k=eC Γ P op t H (base+i) λr d=>O7 Γ P ops base rest (i+1) (EX t dst r) (RI H (base+i) d) k:=rfl
def GJ{ops rest:List Oper}{base i j:Nat}{w:Bool}{t:List AV}{H:HP}{k:List AV->HP->Prop}{dst:Option Nat}{op:Op}{ty:TypeId}{pos:String}{after:Array Edge}:
    O7 Γ P ops base (⟨dst,op,ty,pos,after,some (j,w)⟩::rest) i t H k=Jy (iW ops j) w t (λt=>eC Γ P op t H (base+i) λr d=>O7 Γ P ops base rest (i+1) (EX t dst r) (RI H (base+i) d) k) (λt=>O7 Γ P ops base rest (i+1) (EX t dst (.c undef)) H k):=by
  simp only[O7,gop,Jy,En,iW];cases (ops[j]?).bind (·.dst)with
  |none=>rfl
  | some d=>cases t[d]? with
    |none=>rfl
    |some v=>cases v<;>rfl
def Jz{cX}(hG:U2 P Γ){n ops s K}(h:KO Γ P ops s.nx ops 0 ⟨s.t,s.H,s.nx+ops.length⟩ (K .normal)):AW cX P (.region n ops.toArray false) s K:=
 AW.region hG h
def AW.sr{cX}(hG:U2 P Γ){n ops y s K}(h:∀N:St->Prop,(∀s',AW cX P y s' K->N s')->KO Γ P ops s.nx ops 0 ⟨s.t,s.H,s.nx+ops.length⟩ N):AW cX P (.seq (.region n ops.toArray false) y) s K:=
 A6 λN hN=>AW.region hG (h N hN)
def C9{cX}(hG:U2 P Γ)(hmx:P.follows .mixedOrders=true){n ops s K}(m)(hd:dok ops m=true)(h:O7 Γ P ops s.nx (ops.take m) 0 s.t s.H λt H'=>KO Γ P ops s.nx (ops.drop m) m ⟨t,H',s.nx+ops.length⟩ (K .normal)):AW cX P (.region n ops.toArray true) s K:=
 A59 hG hmx m hd h
def AM{cX c s K}{α:Type}(T:α->List AV)(H:α->HP)(I:α->Nat->Prop)(μ:α->Nat)(x0:α)(h0:I x0 s.nx)(ht:EJ s.t (T x0))(hH:∀id cs,H x0 id=some cs->s.H id=some cs)(round:∀x m,I x m->AW cX P c ⟨T x,H x,m⟩ (wW K λs'=>∃y,EJ s'.t (T y)/\(∀id cs,H y id=some cs->s'.H id=some cs)/\I y s'.nx/\μ y<μ x)):AW cX P (.loop c) s K:=
 AW.loop (α:=α×Nat) (λx=>⟨T x.1,H x.1,x.2⟩) (λx=>I x.1 x.2) (λx=>μ x.1) (x0,s.nx) h0 ⟨ht,hH,A1 _⟩
  (λx hx=>(round x.1 x.2 hx).mono (λe s' h=>by
    cases e<;>simp only[wW]at h ⊢
    case normal=>obtain⟨y,h1,h2,h3,h4⟩:=h;exact⟨(y,s'.nx),⟨h1,h2,A1 _⟩,h3,h4⟩
    all_goals exact h))
end
section
def AH3{t:List AV}{n:Nat}:FK t (.tmp n)=t.getD n .j:=by simp[FK]
def AH4{t x}:FK t (.const x)=Nl x:=by simp[FK]
def AH5{t n}:FK t (.func n)= .f n []:=by simp[FK]
def AH6{k n}:Nl (.int k n)= .i k n:=by simp[Nl,PA]
def AH7{x}:Nl (.bool x)= .b x:=by simp[Nl,PA]
def AH8{x}:Nl (.string x)= .s x:=by simp[Nl,PA]
def AB1:Nl (.slice none 0 0)= .nl:=by simp[Nl,PA]
def AB2{k n}:PA (.int k n)= .i k n:=by simp[PA]
def AB3{x}:PA (.string x)= .s x:=by simp[PA]
def A5C:PA (.slice none 0 0)= .nl:=by simp[PA]
def AB4{t d x}:EX t (some d) x=t.set d x:=by simp[EX]
def AB5{t x}:EX t none x=t:=by simp[EX]
def AB6{H id cs}:RI H id (some cs)=CJ H id (some cs):=by simp[RI]
def AB7{H id}:RI H id none=H:=by simp[RI]
attribute [go_sem] AH3 AH4 AH5 AH6 AH7 AH8 AB1 AB2 AB3 A5C AB4 AB5 AB6 AB7
inductive Tf {α:Type}:(α->Prop)->Type
 |mk (f:α->Prop):Tf f
inductive Tq:(Nat->HP->AV->Prop)->Type
 |mk (f:Nat->HP->AV->Prop):Tq f
def AB8{α:Type}(p f:α->Prop)(t:Tf f):Prop:=ex2 p f
def ACt(P:Program)(f:FuncId)(nx:Nat)(H:HP)(Zz:List AV)(Q:Nat->HP->AV->Prop)(t:Tq Q):Prop:=AC P f nx H Zz Q
@[congr] theorem AMY {α:Type} {p p' f:α->Prop} {t:Tf f} (h:∀a,p a=p' a):AB8 p f t=AB8 p' f t:=by rw[funext h]
@[congr] theorem ANP {P f nx DI H H' Zz as' Q t}(h1:nx=DI)(h:H=H')(h2:Zz=as'):ACt P f nx H Zz Q t=ACt P f DI H' as' Q t:=by rw[h1,h,h2]
section
variable{P:Program}{Γ:KT}{t:List AV}{H:HP}{id:Nat}{k:AV->Option (List AV)->Prop}
def AB9{x}:eC Γ P (.move x) t H id k=k (FK t x) none:=rfl
def Zj{x}:eC Γ P (.assign x) t H id k=k (FK t x) none:=rfl
def Eo(v:AV)(y n:Prop)(a:Tg y)(b:Tg n):Prop:=match v with
 | .b z=>Ei z y n a b
 |_=>False
def pV{z}{y n:Prop}{a b}:Eo (.b z) y n a b=Ei z y n a b:=rfl
def ABA{c x y}:eC Γ P (.pick c x y) t H id k=Eo (FK t c) (k (FK t x) none) (k (FK t y) none) (.mk _) (.mk _):=by
 simp only[eC,Eo];cases FK t c<;>rfl
def AH9{op ty ty' x y}:eC Γ P (.binOp op ty x y ty') t H id k=bop Γ op ty (FK t x) (FK t y) λr=>k r none:=rfl
def ANQ{op ty x}:eC Γ P (.unOp op ty x) t H id k=uop op (FK t x) λr=>k r none:=rfl
def ABB{a b x}:eC Γ P (.convert a b x) t H id k=cop Γ a b (FK t x) λr=>k r none:=rfl
def ABC{ty x}:eC Γ P (.load ty x) t H id k=lop Γ H ty (FK t x) λr=>k r none:=rfl
def AHA{ty x f}:eC Γ P (.fieldAddr ty x f) t H id k=fop Γ ty f λoff=>Jo (FK t x) off λr=>k r none:=rfl
def AHB{ty x i}:eC Γ P (.indexAddr ty x i) t H id k=iop Γ ty (FK t x) (FK t i) λr=>k r none:=rfl
def A5D{ty x lo hi}:eC Γ P (.slice ty x lo hi none) t H id k=sop Γ ty (FK t x) (lo.map (FK t)) (hi.map (FK t)) λr=>k r none:=rfl
def AHC{x n}:eC Γ P (.extract x n) t H id k=eop (FK t x) n λr=>k r none:=rfl
def AHD{x}:eC Γ P (.nilCheck x) t H id k=nop (FK t x) λr=>k r none:=rfl
def ANR{ty x i}:eC Γ P (.index ty x i) t H id k=zL Γ ty (FK t x) (FK t i) λr=>k r none:=rfl
def ANS{ty n ps}:eC Γ P (.buildSlice ty n ps) t H id k=xD Γ ty n (ps.toList.map λ(i,x)=>(i,FK t x)) id k:=rfl
def alV(o:Option TE)(id:Nat)(k:AV->Option (List AV)->Prop):Prop:=match o with
 |some e=>k (.q id 0) (some (UJ e))
 |none=>False
def aV{e}:alV (some e) id k=k (.q id 0) (some (UJ e)):=rfl
@[congr] theorem ANT {o o'}(h:o=o'):alV o id k=alV o' id k:=by rw[h]
@[congr] theorem AHE {v v'}{y n:Prop}{a b}(h:v=v'):Eo v y n a b=Eo v' y n a b:=by rw[h]
def Oe{ty}:eC Γ P (.alloc ty) t H id k=alV (Γ ty) id k:=by simp only[eC,alV];cases Γ ty<;>rfl
def AHF(v:AV)(id:Nat)(k:AV->Option (List AV)->Prop):Prop:=wS v=true/\k (.q id 0) (some (I0 v))
def AHG{x ty NJ}:eC Γ P (.call ⟨.builtin .len,[x].toArray,(ty::NJ).toArray⟩) t H id k=a8 Γ ty (FK t x) λr=>k r none:=rfl
def ABD{f args NJ}:eC Γ P (.call ⟨.value (.func f),args,NJ⟩) t H id k=AB8 (λr=>RC P f H (args.toList.map (FK t)) r) (λr=>k r none) (.mk _):=rfl
def fV{f cs k}:fnV (.f f cs) k=k f cs:=rfl
@[congr] theorem ANU {v v' k}(h:v=v'):fnV v k=fnV v' k:=by rw[h]
def mfV{f cs k}:Uy (.func f) [] cs k=k (.f f cs):=rfl
@[congr] theorem AMZ {fn a cs LI k}(h:cs=LI):Uy fn a cs k=Uy fn a LI k:=by rw[h]
variable{s:St}{K:St->Prop}{dst:Option Nat}
def A5E{n:Nat}{args:Array Operand}{NJ:Array TypeId}:SZ Γ P dst (.call ⟨.value (.tmp n),args,NJ⟩) id s K=fnV (FK s.t (.tmp n)) λf cs=>ACt P f s.nx s.H (args.toList.map (FK s.t)++cs) (λDI H' r=>K ⟨EX s.t dst r,H',DI⟩) (.mk _):=rfl
def ANV{fn a b}:SZ Γ P dst (.makeFunc fn a b) id s K=Uy fn a.toList (b.toList.map (FK s.t)) λr=>K ⟨EX s.t dst r,s.H,s.nx⟩:=rfl
def ABE{x}:SZ Γ P dst (.move x) id s K=K ⟨EX s.t dst (FK s.t x),s.H,s.nx⟩:=rfl
def Zk{x}:SZ Γ P dst (.assign x) id s K=K ⟨EX s.t dst (FK s.t x),s.H,s.nx⟩:=rfl
def ABF{c x y}:SZ Γ P dst (.pick c x y) id s K=eC Γ P (.pick c x y) s.t s.H id λr d=>K ⟨EX s.t dst r,RI s.H id d,s.nx⟩:=rfl
def AHH{op ty ty' x y}:SZ Γ P dst (.binOp op ty x y ty') id s K=Ej Γ op ty (FK s.t x) (FK s.t y) λr=>K ⟨EX s.t dst r,s.H,s.nx⟩:=rfl
def ANW{op ty x}:SZ Γ P dst (.unOp op ty x) id s K=uop op (FK s.t x) λr=>K ⟨EX s.t dst r,s.H,s.nx⟩:=rfl
def ABG{a b x}:SZ Γ P dst (.convert a b x) id s K=Zd Γ s.H a b (FK s.t x) λr=>K ⟨EX s.t dst r,s.H,s.nx⟩:=rfl
def ABH{ty x}:SZ Γ P dst (.load ty x) id s K=lop Γ s.H ty (FK s.t x) λr=>K ⟨EX s.t dst r,s.H,s.nx⟩:=rfl
def AHI{ty x f}:SZ Γ P dst (.fieldAddr ty x f) id s K=fop Γ ty f λoff=>Jo (FK s.t x) off λr=>K ⟨EX s.t dst r,s.H,s.nx⟩:=rfl
def AHJ{ty x i}:SZ Γ P dst (.indexAddr ty x i) id s K=iop Γ ty (FK s.t x) (FK s.t i) λr=>K ⟨EX s.t dst r,s.H,s.nx⟩:=rfl
def A5F{ty x lo hi}:SZ Γ P dst (.slice ty x lo hi none) id s K=sop Γ ty (FK s.t x) (lo.map (FK s.t)) (hi.map (FK s.t)) λr=>K ⟨EX s.t dst r,s.H,s.nx⟩:=rfl
def AHK{x n}:SZ Γ P dst (.extract x n) id s K=eop (FK s.t x) n λr=>K ⟨EX s.t dst r,s.H,s.nx⟩:=rfl
def AHL{x}:SZ Γ P dst (.nilCheck x) id s K=nop (FK s.t x) λr=>K ⟨EX s.t dst r,s.H,s.nx⟩:=rfl
def A5G{ty ps}:SZ Γ P dst (.build ty ps) id s K=Yt Γ ty (ps.toList.map λ(i,x)=>(i,FK s.t x)) λr=>K ⟨EX s.t dst r,s.H,s.nx⟩:=rfl
def Zl{ty n ps}:SZ Γ P dst (.buildSlice ty n ps) id s K=xD Γ ty n (ps.toList.map λ(i,x)=>(i,FK s.t x)) id λr d=>K ⟨EX s.t dst r,RI s.H id d,s.nx⟩:=rfl
def ANX{ty x y}:SZ Γ P dst (.makeSlice ty x y) id s K=Ys Γ ty (FK s.t x) (FK s.t y) id λr d=>K ⟨EX s.t dst r,RI s.H id d,s.nx⟩:=rfl
def A5H{ty}:SZ Γ P dst (.alloc ty) id s K=alV (Γ ty) id λr d=>K ⟨EX s.t dst r,RI s.H id d,s.nx⟩:=by
 rw[<-Oe (P:=P) (t:=s.t) (H:=s.H)];rfl
def AHM{ty x}:SZ Γ P dst (.box ty x) id s K=AHF (FK s.t x) id λr d=>K ⟨EX s.t dst r,RI s.H id d,s.nx⟩:=rfl
def ANY{ty x f}:SZ Γ P dst (.field ty x f) id s K=Yj Γ ty (FK s.t x) f λr=>K ⟨EX s.t dst r,s.H,s.nx⟩:=rfl
def AHN{x y NJ}:SZ Γ P dst (.call ⟨.builtin .max,[x,y].toArray,NJ⟩) id s K=Yk (FK s.t x) (FK s.t y) λr=>K ⟨EX s.t dst r,s.H,s.nx⟩:=rfl
def AHO{x ty NJ}:SZ Γ P dst (.call ⟨.builtin .cap,[x].toArray,(ty::NJ).toArray⟩) id s K=Ee Γ ty (FK s.t x) λr=>K ⟨EX s.t dst r,s.H,s.nx⟩:=rfl
def Zm{x ty NJ}:SZ Γ P dst (.call ⟨.builtin .len,[x].toArray,(ty::NJ).toArray⟩) id s K=a8 Γ ty (FK s.t x) λr=>K ⟨EX s.t dst r,s.H,s.nx⟩:=rfl
def ABI{f args NJ}:SZ Γ P dst (.call ⟨.value (.func f),args,NJ⟩) id s K=ACt P f s.nx s.H (args.toList.map (FK s.t)) (λDI H' r=>K ⟨EX s.t dst r,H',DI⟩) (.mk _):=rfl
def A5I{ty x y}:SZ Γ P dst (.store ty x y) id s K=stop Γ s.H ty (FK s.t x) (FK s.t y) λr H'=>K ⟨EX s.t dst r,H',s.nx⟩:=rfl
def Zn{x y t1 t2}:SZ Γ P dst (.call ⟨.builtin .append,[x,y].toArray,[t1,t2].toArray⟩) id s K=Yx Γ s.H t1 t2 (FK s.t x) (FK s.t y) id λr H'=>K ⟨EX s.t dst r,H',s.nx⟩:=rfl
def ANZ{ty x i}:SZ Γ P dst (.index ty x i) id s K=zL Γ ty (FK s.t x) (FK s.t i) λr=>K ⟨EX s.t dst r,s.H,s.nx⟩:=rfl
def AO0{x y t1 ts}:SZ Γ P dst (.call ⟨.builtin .copy,[x,y].toArray,(t1::ts).toArray⟩) id s K=cpop Γ s.H t1 (FK s.t x) (FK s.t y) λr H'=>K ⟨EX s.t dst r,H',s.nx⟩:=rfl
end
attribute [go_sem] Zd Nu zL cpop
attribute [go_sem ↓] ANZ AO0
attribute [go_sem] Yj Uu Ee Yk A4R fV mfV Ej Int.toNat_zero EB FW J9 pV aV AHF ES ET GJ BD
attribute [go_sem ↓] AB9 Zj ABA AH9 ANQ ANR ABB ABC AHA AHB A5D AHC AHD ANS Oe AHG ABD ABE Zk ABF AHH ANW ABG ABH AHI AHJ A5F AHK AHL A5G Zl ANX A5H AHM Zm AHO AHN ANY ABI A5E ANV A5I Zn
attribute [go_sem ↓] gB1 gB2 gB3 gB4 pB1 pB2
@[congr] theorem AO1 {c c'}{a b:Prop}(h:c=c'):ifS c a b=ifS c' a b:=by rw[h]
def Ep{a b:Prop}:ifS true a b=a:=rfl
def AHP:((1:Nat)==1)=true:=rfl
attribute [go_sem] Ep AHP Nat.reduceBEq
def ABJ{H xs id k}:lH H .nl xs id k=((xs=[]->k .nl H)/\(xs≠ []->k (.h id 0 xs.length) (CJ H id (some xs)))):=rfl
def ABK{H i off n xs id k}:lH H (.h i off n) xs id k=Up (H i) λcs=>off+n<=cs.length/\k (.h id 0 (n+xs.length)) (CJ (CJ H i none) id (some ((cs.drop off).take n++xs))):=rfl
def ABL{i off n}:rY (.h i off n)=n:=rfl
def ABM:rY .nl=0:=rfl
attribute [go_sem] AAZ AB0 AH2 AH0 AH1 gD gV1 gV2 bop uop cop lop Yi fop Jo iop eop nop a8 sop zH stop Yx ABJ ABK ABL ABM vw Ys xD Yt WY Uv TG c_i c_s ANF c_v c_p c_h c_g o_i ANG o_v o_p o_h k_i k_s ANH k_v k_p k_h k_g List.all_cons List.all_nil EZ UJ TE.agg zM ANN ANO ANJ ANK ANL ANM Option.bind_some DB HV BR BU C6 CR true_and and_true C4 F0 forall_const reduceCtorEq false_implies implies_true BS EG if_false if_true ga0 gs1 CQ GG A1 JZ CB EY IK A4 AH B1 BZ AD E4 exists_eq_left' sD ANE AB sp0 sp1 spn HI B4 AT AS AR BE
def ED{P Γ}(hG:U2 P Γ){f fn c n rs}(hf:P.funcs[f]? =some fn)(hb:fn.body=some c)(hn:(fn.name== "runtime.NumGoroutine")=false)(Jw:fn.ntmps=n)(oV:fn.results=rs){Zz nx H Q}(h:∀cX:Ctx,AW cX P c ⟨Zz++List.replicate (n-Zz.length) .j,H,nx⟩ (zQ Γ rs.toList Q)):AC P f nx H Zz Q:=
 AC.intro hG hf hb hn rfl (by rw[Jw,oV];exact h)
def BI{P Γ}(hG:U2 P Γ){f fn c n rs}(hf:P.funcs[f]? =some fn)(hb:fn.body=some c)(hn:(fn.name== "runtime.NumGoroutine")=false)(Jw:fn.ntmps=n)(oV:fn.results=rs){Zz r}(hr:NR r)(h:∀nx (cX:Ctx),AW cX P c ⟨Zz++List.replicate (n-Zz.length) .j,DD,nx⟩ (zQ Γ rs.toList λ_ _ r'=>r'=r)):DZ P f Zz r:=
 DZ.intro hG hf hb hn rfl hr (λnx=>by rw[Jw,oV];exact h nx)
@[congr] theorem AR5 {cX P c s s' K}(h:s=s'):AW cX P c s K=AW cX P c s' K:=by rw[h]
def HU{cX P c x y s K}(hc:FK s.t c= .b true)(h:AW cX P x s K):AW cX P (.cond c x y) s K:=MG hc (λ_=>h) (λe=>by cases e)
def DJ{cX P c x y s K}(hc:FK s.t c= .b false)(h:AW cX P y s K):AW cX P (.cond c x y) s K:=MG hc (λe=>by cases e) (λ_=>h)
attribute [go_sem] MK I7 HC C8 sl K1 List.foldl_nil wW IY zQ eE s9
noncomputable def tf(p:Prop):Bool:= @decide p (Classical.propDecidable p)
def KU{p:Prop}(h:p):tf p=true:=by simp[tf,h]
def JQ{p:Prop}(h:¬p):tf p=false:=by simp[tf,h]
def sE{p:Prop}:tf p=true↔p:=by simp[tf]
def A5J{p:Prop}:tf p=false↔¬p:=by simp[tf]
def oB{p q:Prop}(h:p↔q):tf p=tf q:=by rw[propext h]
def bt{a b}(h:a=b):AV.b a=AV.b b:=by rw[h]
def it{k a b}(h:a=b):AV.i k a=AV.i k b:=by rw[h]
def cn:(∀(p:Prop) [Decidable p],(decide p=true)=p)/\(∀(p:Prop) [Decidable p],(decide p=false)=¬p)/\(∀(α:Type) [BEq α] [LawfulBEq α] (a b:α),((a==b)=true)=(a=b))/\(∀(α:Type) [BEq α] [LawfulBEq α] (a b:α),((a==b)=false)=¬(a=b))/\(∀(α:Type) [BEq α] [LawfulBEq α] (a b:α),((a !=b)=true)=¬(a=b))/\(∀(α:Type) [BEq α] [LawfulBEq α] (a b:α),((a !=b)=false)=(a=b))/\
    (∀b:Bool,((!b)=true)=(b=false))/\(∀b:Bool,((!b)=false)=(b=true))/\(!true)=false/\(!false)=true/\(∀b:Bool,(¬b=true)=(b=false))/\(∀b:Bool,(¬b=false)=(b=true))/\(∀a b:Int,(a>=b)=(b<=a))/\(∀a b:Int,(a>b)=(b<a))/\(∀(α:Type) (a b:α),(a≠b)=¬(a=b))/\(∀a b:Int,(¬a<b)=(b<=a))/\(∀a b:Int,(¬a<=b)=(b<a))/\(∀p:Prop,(tf p=true)=p)/\∀p:Prop,(tf p=false)=¬p:=
  ⟨λ_=>B5,λ_=>B5,λ_ _ _ _ _=>B5,λ_ _ _ a b=>B5,λ_ _ _ _ _=>B5,λ_ _ _ _ _=>B5,B5,B5,rfl,rfl,B5,B5,B5,B5,λ_ _ _=>rfl,B5,B5,λ_=>propext sE,λ_=>propext A5J⟩
def Vg(xs:C2){n}(h:n<=xs.length):AV.v n (List.take n (xs.map (.i .i64)))=ints (xs.take n):=by
 simp[ints,JS,h]
def getD_take{α:Type}(xs:List α)(d:α){n j}(h:j<n):(xs.take n).getD j d=xs.getD j d:=by
 simp[D9,h]
def E2{P:Prop}(h:P:=by simp(disch:=omega)[EJ,EN,sl,ints,rows,DV]<;>omega):P:=h
def lM{P:Prop}{R0:Prop}(r0:R0)(h:R0->P:=by intro h0;simp(disch:=omega)[EJ,EN,sl,ints,rows,DV,h0]<;>omega):P:=h r0
def Zo{P:Prop}{R0 R1:Prop}(r0:R0)(r1:R1)(h:R0->R1->P:=by intro h0 h1;simp(disch:=omega)[EJ,EN,sl,ints,rows,DV,h0,h1]<;>omega):P:=h r0 r1
def FV{P:Prop}(h:P:=by simp(disch:=omega)[EJ,EN,sl,ints,rows,DV,B6]<;>omega):P:=h
def UM{P:Prop}{R0:Prop}(r0:R0)(h:R0->P:=by intro h0;simp(disch:=omega)[EJ,EN,sl,ints,rows,DV,B6,h0]<;>omega):P:=h r0
end
end Go.Proofs.YtgknbnkmilddhaaGreat