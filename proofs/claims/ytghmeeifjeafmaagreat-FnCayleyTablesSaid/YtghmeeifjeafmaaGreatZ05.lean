import Derived.Test.YtghmeeifjeafmaaGreatZ04
set_option linter.unusedVariables false
set_option linter.unusedSimpArgs false
namespace Go.Proofs.YtghmeeifjeafmaaGreat
def Oi(acc:List Nat):List Edge→Nat
  |[]=>0
  |e::r=>(if Region.binds .any e then 2^e.on|||acc.getD e.on 0 else 0)|||Oi acc r
def cls:List Oper→List Nat→List Nat
  |[],acc=>acc
  |o::r,acc=>cls r (acc++[Oi acc o.after.toList])
inductive DO (ops:List Oper):Nat→Nat→Prop
  |one {i j:Nat} (o:Oper) (e:Edge) (ho:ops[j]? =some o) (he:e∈o.after.toList) (hb:Region.binds .any e=true) (hi:e.on=i):DO ops i j
  |step {i k j:Nat} (a:DO ops i k) (b:DO ops k j):DO ops i j
theorem kZ{ops:List Oper}{acc:List Nat}(A09:∀j i,(acc.getD j 0).testBit i=true→DO ops i j){j:Nat}{o:Oper}(ho:ops[j]? =some o):∀(es:List Edge),(∀e∈es,e∈o.after.toList)→∀i,(Oi acc es).testBit i=true→DO ops i j:=by
  intro es;induction es with
  |nil=>intro _ i h;simp[Oi]at h
  | cons e es ih=>
    intro hm i h;simp only[Oi,Nat.testBit_or,Bool.or_eq_true]at h;rcases h with h|h
    · split at h
      · rename_i hb;simp only[Nat.testBit_or,Bool.or_eq_true,Nat.testBit_two_pow,decide_eq_true_eq]at h;have h0:DO ops e.on j:= .one o e ho (hm e (by simp)) hb rfl;rcases h with h|h
        · subst h;exact h0
        exact .step (A09 _ _ h) h0
      simp at h
    exact ih (fun e he=>hm e (by simp[he])) i h
theorem l5{ops:List Oper}:∀(rest:List Oper) (acc:List Nat),ops.drop acc.length=rest→(∀j i,(acc.getD j 0).testBit i=true→DO ops i j)→∀j i,((cls rest acc).getD j 0).testBit i=true→DO ops i j:=by
  intro rest;induction rest with
  |nil=>intro acc _ h;exact h
  | cons o rest ih=>
    intro acc hd h;simp only[cls];have ho:ops[acc.length]? =some o:=by
      have:(ops.drop acc.length)[0]? =some o:=by rw[hd];rfl
      simpa using this
    refine ih _ ?_ ?_
    · simp only[List.length_append,List.length_cons,List.length_nil,Nat.zero_add];rw[←List.drop_drop,hd];rfl
    intro j i hj;rw[List.getD_eq_getElem?_getD,List.getElem?_append]at hj;split at hj
    · exact h j i (by rw[List.getD_eq_getElem?_getD];exact hj)
    rename_i BW;by_cases he:j=acc.length
    · subst he;simp only[Nat.sub_self,List.getElem?_cons_zero,Option.getD_some]at hj;exact kZ h ho _ (fun _ h=>h) i hj
    rw[List.getElem?_eq_none (by simp;omega)]at hj;simp at hj
def wt(ops:List Oper)(cl:List Nat)(i j:Nat):Bool:=(cl.getD j 0).testBit i
theorem E8{ops:List Oper}{i j:Nat}(h:wt ops (cls ops []) i j=true):DO ops i j:=
  l5 ops [] (by simp) (by intro j i h;simp at h) j i h
def looks(ops:List Oper)(o:Oper):List Nat:=
  (o.op.operands.toList.filterMap fun| .tmp t=>some t|_=>none)++(match o.guard with|some (g,_)=>((ops[g]?).bind (·.dst)).toList|none=>[])
def PI:Op→Bool
  | .load .. =>true
  | .call ⟨.value _,_,_⟩=>true
  |_=>false
def Mj(ops:List Oper)(m:Nat):Bool:=
  let cl:=cls ops []
  m≤ops.length &&
  (ops.zipIdx.all fun (o,j)=>o.after.toList.all fun e=> !Region.binds .any e||e.on<j)&&
  (ops.zipIdx.all fun (o,j)=>if j<m then
      (match o.dst with
        |some d=>ops.zipIdx.all fun (o',i)=> !(i<m && i !=j && o'.dst==some d)
        |none=>false)&&
      ((looks ops o).all fun u=>ops.zipIdx.all fun (o',i)=> !(i<m && i !=j && o'.dst==some u)||(if i<j then wt ops cl i j else wt ops cl j i))&&
      (!PI o.op||ops.zipIdx.all fun (o',i)=> !(i<j && KB o'.op)||wt ops cl i j)
    else (List.range j).all fun i=>wt ops cl i j)
def DE(Γ:BV)(P:Program)(ops:List Oper)(base:Nat):List Oper→Nat→List AV→HP→(List AV→HP→Prop)→Prop
  |[],_,t,H,k=>k t H
  | o ::rest,i,t,H,k=>tX ops o.guard t (fun t=>NG Γ P o.op t H (base+i) fun r d=>DE Γ P ops base rest (i+1) (BF t o.dst r) (FG H (base+i) d) k)
      (fun t=>DE Γ P ops base rest (i+1) (BF t o.dst (.c undef)) H k)
def cZ(ops:List Oper)(g:Option (Nat×Bool))(t:List AV):Option Bool:=
  match g with
  |none=>some true
  | some (j,want)=>match (ops[j]?).bind (·.dst)with
    | some d=>match t[d]? with
      |some (.b x)=>some (x==want)
      |some (.c (.tuple _))=>some false
      |_=>none
    |none=>none
theorem vT{ops:List Oper}{g:Option (Nat×Bool)}{t:List AV}{yes no:List AV→Prop}(h:tX ops g t yes no):(cZ ops g t=some true∧yes t)∨(cZ ops g t=some false∧no t):=by
  unfold tX at h;unfold cZ;split at h
  · exact .inl ⟨rfl,h⟩
  rename_i j want;split at h
  · rename_i d hd;simp only[hd];split at h
    · rename_i x hx;simp only[hx];have HS:t.set d (.b x)=t:=by
        apply List.ext_getElem?;intro i;rw[List.getElem?_set];split
        · rename_i hi;subst hi;rw[if_pos (List.getElem?_eq_some_iff.1 hx).1,hx]
        rfl
      by_cases oC:x=want
      · exact .inl ⟨by simp[oC],by have:=h.1 oC;rwa [←oC,HS]at this⟩
      have KA:x= !want:=by cases x<;>cases want<;>simp at oC ⊢
      exact .inr ⟨by simp[oC],by have:=h.2 KA;rwa [←KA,HS]at this⟩
    · rename_i vs hx;simp only[hx];exact .inr ⟨by simp,h⟩
    exact h.elim
  exact h.elim
section
variable{P:Program}{Γ:BV}
theorem l6{op:Op}(h:PI op=false)(t:List AV)(H H':HP)(id:Nat)(k:AV→Option (List AV)→Prop):NG Γ P op t H id k=NG Γ P op t H' id k:=by
  cases op;case load=>cases h
  case call c=>
    obtain⟨callee,args,DV⟩:=c;cases callee with
    |value f=>cases h
    |invoke r m=>rfl
    |builtin b=>cases b<;>rfl
  case slice ty x lo hi mx=>cases mx<;>rfl
  all_goals rfl
theorem E5.mono{o:Oper}{ev:Operand→AV}{H H2:HP}{id:Nat}{r:AV}{d:Option (List AV)}(h:E5 P o ev H id r d)(hH:∀i c,H i=some c→H2 i=some c):E5 P o ev H2 id r d:=
  fun H' h'=>h H' (fun i c hc=>h' i c (hH i c hc))
theorem l7(hG:GJ P Γ){ops:List Oper}{base m:Nat}{k:List AV→HP→Prop}:∀(rest:List Oper) (i:Nat) (t:List AV) (H:HP),rest=(ops.take m).drop i→i≤m→DE Γ P ops base rest i t H k→
    ∃ (T:Nat→List AV) (HH:Nat→HP) (res:Nat→AV) (dd:Nat→Option (List AV)),T i=t∧HH i=H∧k (T (min m ops.length)) (HH (min m ops.length))∧
      (∀j o,i≤j→j<m→ops[j]? =some o→T (j+1)=BF (T j) o.dst (res j))∧(∀j,i≤j→j<m→j<ops.length→HH (j+1)=FG (HH j) (base+j) (dd j))∧
      (∀j o,i≤j→j<m→ops[j]? =some o→(cZ ops o.guard (T j)=some true∧E5 P o (BK (T j)) (HH j) (base+j) (res j) (dd j)∧(PI o.op=false→∀H',E5 P o (BK (T j)) H' (base+j) (res j) (dd j))∧(KB o.op=false→dd j=none))∨
        (cZ ops o.guard (T j)=some false∧res j= .c undef∧dd j=none)):=by
  intro rest;induction rest with
  | nil=>
    intro i t H hr hi h;have hlen:(ops.take m).length≤i:=by
      have:=congrArg List.length hr;simp only[List.length_nil,List.length_drop]at this;omega
    rw[List.length_take]at hlen;refine⟨fun _=>t,fun _=>H,fun _=> .j,fun _=>none,rfl,rfl,h,?_,?_,?_⟩
    · intro j o h1 h2 h3;have:=(List.getElem?_eq_some_iff.1 h3).1;omega
    · intro j h1 h2 h3;omega
    intro j o h1 h2 h3;have:=(List.getElem?_eq_some_iff.1 h3).1;omega
  | cons o rest ih=>
    intro i t H hr hi h;have BW:i<(ops.take m).length:=by
      have:=congrArg List.length hr;simp only[List.length_cons,List.length_drop]at this;omega
    have hio:(ops.take m)[i]? =some o:=by
      have:((ops.take m).drop i)[0]? =some o:=by rw[←hr];rfl
      simpa using this
    rw[List.length_take]at BW;have Oj:i<m:=by omega
    have UA:ops[i]? =some o:=by
      rw[List.getElem?_take]at hio;simpa[Oj]using hio
    have Ok:rest=(ops.take m).drop (i+1):=by
      rw[←List.drop_drop,←hr];rfl
    simp only[DE]at h;have fin:∀(r:AV) (d:Option (List AV)),DE Γ P ops base rest (i+1) (BF t o.dst r) (FG H (base+i) d) k→((cZ ops o.guard t=some true∧E5 P o (BK t) H (base+i) r d∧(PI o.op=false→∀H',E5 P o (BK t) H' (base+i) r d)∧(KB o.op=false→d=none))∨(cZ ops o.guard t=some false∧r= .c undef∧d=none))→
        ∃ (T:Nat→List AV) (HH:Nat→HP) (res:Nat→AV) (dd:Nat→Option (List AV)),T i=t∧HH i=H∧k (T (min m ops.length)) (HH (min m ops.length))∧
          (∀j o,i≤j→j<m→ops[j]? =some o→T (j+1)=BF (T j) o.dst (res j))∧(∀j,i≤j→j<m→j<ops.length→HH (j+1)=FG (HH j) (base+j) (dd j))∧
          (∀j o,i≤j→j<m→ops[j]? =some o→(cZ ops o.guard (T j)=some true∧E5 P o (BK (T j)) (HH j) (base+j) (res j) (dd j)∧(PI o.op=false→∀H',E5 P o (BK (T j)) H' (base+j) (res j) (dd j))∧(KB o.op=false→dd j=none))∨
            (cZ ops o.guard (T j)=some false∧res j= .c undef∧dd j=none)):=by
      intro r d Ol Ba;obtain⟨T,HH,res,dd,h1,h2,h3,h4,h5,h6⟩:=ih (i+1) _ _ Ok (by omega) Ol;refine⟨fun j=>if j=i then t else T j,fun j=>if j=i then H else HH j,fun j=>if j=i then r else res j,fun j=>if j=i then d else dd j,by simp,by simp,?_,?_,?_,?_⟩
      · have:min m ops.length≠i:=by omega
        simpa[this]using h3
      · intro j o' h7 h8 h9;by_cases hj:j=i
        · subst hj;rw[UA]at h9;cases h9;simp[h1]
        have oD:j+1≠i:=by omega
        simp only[hj,oD,if_false];exact h4 j o' (by omega) h8 h9
      · intro j h7 h8 h9;by_cases hj:j=i
        · subst hj;simp[h2]
        have oD:j+1≠i:=by omega
        simp only[hj,oD,if_false];exact h5 j (by omega) h8 h9
      intro j o' h7 h8 h9;by_cases hj:j=i
      · subst hj;rw[UA]at h9;cases h9;simpa using Ba
      simp only[hj,if_false];exact h6 j o' (by omega) h8 h9
    rcases vT h with ⟨hw,hy⟩|⟨hw,hn⟩
    · cases hd:PI o.op with
      | true=>
        obtain⟨r,d,h1,h2,h3⟩:=T7 hG hy;exact fin r d h1 (.inl ⟨hw,h2,(fun hf=>by rw[hd]at hf;cases hf),h3⟩)
      | false=>
        rw[l6 hd t H BN]at hy;obtain⟨r,d,h1,h2,h3⟩:=T7 hG hy;have h4:∀H',E5 P o (BK t) H' (base+i) r d:=fun H'=>h2.mono (fun i c hc=>by cases hc)
        exact fin r d h1 (.inl ⟨hw,h4 H,fun _=>h4,h3⟩)
    exact fin _ none (by simpa[FG]using hn) (.inr ⟨hw,rfl,rfl⟩)
theorem XL{ops:List Oper}{m:Nat}(h:Mj ops m=true):
    m≤ops.length∧(∀j o,ops[j]? =some o→∀e∈o.after.toList,Region.binds .any e=true→e.on<j)∧
    (∀j o,j<m→ops[j]? =some o→(∃d,o.dst=some d∧∀i o',i<m→i≠j→ops[i]? =some o'→o'.dst≠some d)∧
      (∀u∈looks ops o,∀i o',i<m→i≠j→ops[i]? =some o'→o'.dst=some u→if i<j then DO ops i j else DO ops j i)∧
      (PI o.op=true→∀i o',i<j→ops[i]? =some o'→KB o'.op=true→DO ops i j))∧
    (∀j o,m≤j→ops[j]? =some o→∀i,i<j→DO ops i j):=by
  unfold Mj at h;simp only[Bool.and_eq_true,decide_eq_true_eq,List.all_eq_true]at h;obtain⟨⟨h1,h2⟩,h3⟩:=h;have mem:∀{j:Nat} {o:Oper},ops[j]? =some o→(o,j)∈ops.zipIdx:=by
    intro j o ho;rw[List.mem_zipIdx_iff_getElem?];exact ho
  refine⟨h1,?_,?_,?_⟩
  · intro j o ho e he hb;have:=h2 (o,j) (mem ho);simp only[List.all_eq_true]at this;have:=this e he;simpa[hb]using this
  · intro j o hj ho;have h4:=h3 (o,j) (mem ho);simp only[hj,if_true,Bool.and_eq_true]at h4;obtain⟨⟨h5,h6⟩,h7⟩:=h4;refine⟨?_,?_,?_⟩
    · cases hd:o.dst with
      |none=>rw[hd]at h5;cases h5
      | some d=>
        rw[hd]at h5;refine⟨d,rfl,?_⟩;intro i o' hi JI oE hdd;simp only[List.all_eq_true]at h5;have:=h5 (o',i) (mem oE);simp[hi,JI,hdd]at this
    · intro u hu i o' hi JI oE hd;simp only[List.all_eq_true]at h6;have:=h6 u hu (o',i) (mem oE);simp only[hi,JI,hd,decide_true,Bool.and_self,ne_eq,not_false_eq_true,bne_iff_ne,beq_self_eq_true,Bool.not_true,Bool.false_or]at this;have AL:(i !=j)=true:=by simpa using JI
      simp only[AL,Bool.and_self,Bool.not_true,Bool.false_or]at this;split
      · rename_i BW;rw[if_pos BW]at this;exact E8 this
      rename_i BW;rw[if_neg BW]at this;exact E8 this
    intro hh i o' hi oE hl;simp only[hh,Bool.not_true,Bool.false_or,List.all_eq_true]at h7;have:=h7 (o',i) (mem oE);simp only[hi,hl,decide_true,Bool.and_self,Bool.not_true,Bool.false_or]at this;exact E8 this
  intro j o hj ho i hi;have h4:=h3 (o,j) (mem ho);have:¬j<m:=by omega
  simp only[this,if_false,List.all_eq_true,List.mem_range]at h4;exact E8 (h4 i hi)
def aR(n:Nat)(AA:Array Bool):Nat:=((List.range n).filter fun i=> !AA.getD i true).length
theorem PJ{n j:Nat}{AA:Array Bool}(hj:AA.getD j true=false)(hn:j<n):aR n (AA.setIfInBounds j true)<aR n AA:=by
  unfold aR;have dQ:∀i,(AA.setIfInBounds j true).getD i true=if i=j then true else AA.getD i true:=by
    intro i;simp only[Array.getD_eq_getD_getElem?,Array.getElem?_setIfInBounds];by_cases h:i=j
    · subst h;simp only[if_true];split<;>simp
    have h':¬j=i:=fun h'=>h h'.symm
    simp[h,h']
  have:((List.range n).filter fun i=> !(AA.setIfInBounds j true).getD i true)=((List.range n).filter fun i=> !AA.getD i true).filter fun i=>i !=j:=by
    rw[List.filter_filter];apply List.filter_congr;intro i _;rw[dQ];by_cases h:i=j<;>simp[h]
  rw[this,List.length_filter_lt_length_iff_exists];refine⟨j,?_,by simp⟩;rw[List.mem_filter];exact⟨List.mem_range.2 hn,by rw[hj];rfl⟩
theorem DB{j:Nat}{AA:Array Bool}(hj:AA.getD j true=false)(i:Nat):(AA.setIfInBounds j true).getD i true=if i=j then true else AA.getD i true:=by
  simp only[Array.getD_eq_getD_getElem?,Array.getElem?_setIfInBounds];by_cases h:i=j
  · subst h;simp only[if_true];split<;>simp
  have h':¬j=i:=fun h'=>h h'.symm
  simp[h,h']
def WN(ops:List Oper)(AA:Array Bool):Prop:=∀i j,DO ops i j→AA.getD j true=true→AA.getD i true=true
theorem DO.len{ops:List Oper}{i j:Nat}(h:DO ops i j):j<ops.length:=by
  induction h with
  |one o e ho he hb hi=>exact(List.getElem?_eq_some_iff.1 ho).1
  |step a b iha Om=>exact Om
theorem DP{ops:List Oper}{AA:Array Bool}{i:Nat}:i∈Region.ready .any ops.toArray AA↔i<ops.length∧AA.getD i true=false∧∀o,ops[i]? =some o→∀e∈o.after.toList,Region.binds .any e=true→AA.getD e.on false=true:=by
  unfold Region.ready;simp only[List.mem_filter,List.mem_range,List.size_toArray,List.getElem?_toArray,Bool.and_eq_true,Bool.not_eq_true'];constructor
  · rintro⟨h1,h2,h3⟩;refine⟨h1,h2,?_⟩;intro o ho e he hb;rw[ho]at h3;simp only[Option.map_some,Option.getD_some]at h3;rw[←Array.all_toList]at h3;simp only[List.all_eq_true]at h3;have:=h3 e he;simpa[hb]using this
  rintro⟨h1,h2,h3⟩;refine⟨h1,h2,?_⟩;have ho:ops[i]? =some ops[i]:=List.getElem?_eq_getElem h1;rw[ho];simp only[Option.map_some,Option.getD_some];rw[←Array.all_toList];simp only[List.all_eq_true];intro e he;by_cases hb:Region.binds .any e=true
  · simp[h3 _ ho e he hb]
  simp[hb]
theorem vU{AA:Array Bool}{i:Nat}(h:AA.getD i false=true):AA.getD i true=true:=by
  simp only[Array.getD_eq_getD_getElem?]at*;cases hi:AA[i]? with
  |none=>simp
  |some b=>rw[hi]at h;simpa using h
theorem CS{ops:List Oper}{AA:Array Bool}{j:Nat}(hs:WN ops AA)(hr:j∈Region.ready .any ops.toArray AA){i:Nat}(hw:DO ops i j):AA.getD i true=true:=by
  obtain⟨h1,h2,h3⟩:=DP.1 hr;have key:∀i j',DO ops i j'→j'=j→AA.getD i true=true:=by
    intro i j' hw;induction hw with
    | one o e ho he hb hi=>
      rintro rfl;rw[←hi];exact vU (h3 o ho e he hb)
    | @step i k j'' a b iha Om=>
      rintro rfl;exact hs i k a (Om rfl)
  exact key i j hw rfl
theorem WN.set{ops:List Oper}{AA:Array Bool}(hs:WN ops AA){j:Nat}(hr:j∈Region.ready .any ops.toArray AA):WN ops (AA.setIfInBounds j true):=by
  obtain⟨h1,h2,h3⟩:=DP.1 hr;intro i k hw hk;rw[DB h2]at hk ⊢;split
  · rfl
  by_cases vJ:k=j
  · subst vJ;exact CS hs hr hw
  rw[if_neg vJ]at hk;exact hs i k hw hk
theorem LZ{ops:List Oper}{AA:Array Bool}(BW:∀j o,ops[j]? =some o→∀e∈o.after.toList,Region.binds .any e=true→e.on<j){q:Nat}(hq:q<ops.length)(EW:AA.size=ops.length)
    (hl:∀i,i<q→AA.getD i true=true) (hn:AA.getD q true=false):q∈Region.ready .any ops.toArray AA:=by
  refine DP.2 ⟨hq,hn,?_⟩;intro o ho e he hb;have h1:=BW q o ho e he hb;have h2:=hl _ h1;have h3:e.on<AA.size:=by omega
  simpa[Array.getD_eq_getD_getElem?,h3]using h2
section
variable{cX:Ctx}
theorem oF(hG:GJ P Γ){ops:List Oper}{base hi m:Nat}{Q:Exit→Act→World→Prop}{K':St→Prop}(BW:∀j o,ops[j]? =some o→∀e∈o.after.toList,Region.binds .any e=true→e.on<j)
    (ZY:∀j o,m≤j→ops[j]? =some o→∀i,i<j→DO ops i j) (mM:base+ops.length≤hi) (hQ:∀s' L' a' w',K' s'→Cn cX s' L' a' w'→Q .normal a' w'):
    ∀ (fuel q:Nat) (AA:Array Bool) (s:St) (L:LM) (a:Act) (w:World),m≤q→q≤ops.length→ops.length≤fuel+q→AA.size=ops.length→(∀i,i<ops.length→AA.getD i true=decide (i<q))→WN ops AA→
      IP Γ P ops base (ops.drop q) q s K'→Cr cX (base+q) hi s L a w→tS cX.rd P .any ops.toArray Q fuel AA a w:=by
  intro fuel;induction fuel with
  | zero=>
    intro q AA s L a w hmq hq hf EW hl hs h c;have Yi:q=ops.length:=by omega
    subst Yi;rw[List.drop_length]at h;refine⟨?_,hQ _ _ _ _ h c.toCn⟩;rw[List.eq_nil_iff_forall_not_mem];intro i FV;obtain⟨h1,h2,_⟩:=DP.1 FV;rw[hl i h1]at h2;simp[h1]at h2
  | succ fuel ih=>
    intro q AA s L a w hmq hq hf EW hl hs h c;by_cases Yi:q=ops.length
    · subst Yi;rw[List.drop_length]at h;refine⟨fun _=>hQ _ _ _ _ h c.toCn,?_⟩;intro i FV;obtain⟨h1,h2,_⟩:=DP.1 FV;rw[hl i h1]at h2;simp[h1]at h2
    have vV:q<ops.length:=by omega
    have On:=LZ BW vV EW (fun i FV=>by rw[hl i (by omega)];simp[FV]) (by rw[hl q vV];simp);refine⟨(fun h0=>by rw[h0]at On;cases On),?_⟩;intro i FV;obtain⟨h1,h2,_⟩:=DP.1 FV;have Mk:i=q:=by
      rw[hl i h1]at h2;simp only[decide_eq_false_iff_not,Nat.not_lt]at h2;by_cases AL:i=q
      · exact AL
      have:=CS hs FV (ZY i ops[i] (by omega) (List.getElem?_eq_getElem h1) q (by omega));rw[hl q vV]at this;simp at this
    subst Mk;have ho:ops[i]? =some ops[i]:=List.getElem?_eq_getElem h1;rw[List.drop_eq_getElem_cons h1]at h;simp only[IP]at h;have HS:∀k,k<ops.length→(AA.setIfInBounds i true).getD k true=decide (k<i+1):=by
      intro k hk;rw[DB h2,hl k hk];by_cases Ed:k=i
      · simp[Ed]
      have:(k<i+1)=(k<i):=by apply propext;omega
      simp[Ed,this]
    unfold Lt;simp only[List.getElem?_toArray,ho];rcases KC c.toCn h ops[i] rfl with ⟨hw,hy⟩|⟨hw,hn⟩
    · rw[if_pos hw];refine .inl (XK hG hy c (by omega) ?_);intro s' L' a' w' hk hc;exact ih (i+1) _ s' L' a' w' (by omega) (by omega) (by omega) (by simpa using EW) HS (hs.set FV) hk hc
    rw[if_neg (by simp[hw])];exact ih (i+1) _ _ L _ w (by omega) (by omega) (by omega) (by simpa using EW) HS (hs.set FV) hn (c.put _ (.c _)).skip
theorem iB{ops:List Oper}{g:Option (Nat×Bool)}{t:List AV}{z:Bool}(h:cZ ops g t=some z):tX ops g t (fun _=>z=true) (fun _=>z=false):=by
  unfold cZ at h;unfold tX;split at h
  · simpa using h.symm
  rename_i j want;split at h
  · rename_i d hd;simp only[hd];split at h
    · rename_i x hx;simp only[hx];simp only[Option.some.injEq]at h;refine⟨fun hx=>?_,fun hx=>?_⟩
      · rw[←h,hx];simp
      rw[←h,hx];cases want<;>rfl
    · rename_i vs hx;simp only[hx];simpa using h.symm
    cases h
  cases h
structure Part(ops:List Oper)(base m:Nat)(s:St)(res:Nat→AV)(dd:Nat→Option (List AV))(AA:Array Bool)(s':St):Prop where
  len:s'.t.length=s.t.length
  done:∀i o u,i<m→AA.getD i true=true→ops[i]? =some o→o.dst=some u→u<s.t.length→s'.t[u]? =some (res i)
  rest:∀u,(∀i o,i<m→AA.getD i true=true→ops[i]? =some o→o.dst≠some u)→s'.t[u]? =s.t[u]?
  heap:∀id,s'.H id=if base≤id∧id<base+m∧AA.getD (id-base) true=true then dd (id-base)else s.H id
  nx:s'.nx=s.nx
theorem Ee{ops:List Oper}{m:Nat}{s:St}{T:Nat→List AV}{res:Nat→AV}(hm:m≤ops.length)(h0:T 0=s.t)(hT:∀j o,j<m→ops[j]? =some o→T (j+1)=BF (T j) o.dst (res j))
    (hd:∀j o,j<m→ops[j]? =some o→∃d,o.dst=some d∧∀i o',i<m→i≠j→ops[i]? =some o'→o'.dst≠some d):∀i,i≤m→(T i).length=s.t.length∧
      (∀j o u,j<i→ops[j]? =some o→o.dst=some u→u<s.t.length→(T i)[u]? =some (res j))∧(∀u,(∀j o,j<i→ops[j]? =some o→o.dst≠some u)→(T i)[u]? =s.t[u]?):=by
  intro i;induction i with
  |zero=>intro _;rw[h0];exact⟨rfl,fun j o u h=>by omega,fun u _=>rfl⟩
  | succ i ih=>
    intro hi;obtain⟨h1,h2,h3⟩:=ih (by omega);have PK:i<ops.length:=by omega
    have ho:ops[i]? =some ops[i]:=List.getElem?_eq_getElem PK;obtain⟨d,O0,W7⟩:=hd i ops[i] (by omega) ho;rw[hT i ops[i] (by omega) ho,O0];simp only[BF];refine⟨by simpa using h1,?_,?_⟩
    · intro j o u hj vW WO hu;rw[List.getElem?_set];by_cases hji:j=i
      · subst hji;rw[ho]at vW;cases vW;rw[O0]at WO;cases WO;simp[h1,hu]
      have AL:d≠u:=by
        rintro rfl;exact W7 j o (by omega) hji vW WO
      rw[if_neg AL];exact h2 j o u (by omega) vW WO hu
    intro u hu;have AL:d≠u:=by
      rintro rfl;exact hu i ops[i] (by omega) ho O0
    rw[List.getElem?_set,if_neg AL];exact h3 u (fun j o hj vW=>hu j o (by omega) vW)
theorem vX{base m:Nat}{s:St}{HH:Nat→HP}{dd:Nat→Option (List AV)}(h0:HH 0=s.H)(hH:∀j,j<m→HH (j+1)=FG (HH j) (base+j) (dd j))(O2:∀j,j<m→s.H (base+j)=none):
    ∀i,i≤m→∀id,HH i id=if base≤id∧id<base+i then dd (id-base)else s.H id:=by
  intro i;induction i with
  |zero=>intro _ id;rw[h0,if_neg (by omega)]
  | succ i ih=>
    intro hi id;rw[hH i (by omega)];have cY:=ih (by omega);by_cases DA:id=base+i
    · subst DA;rw[if_pos (by omega),show base+i-base=i by omega];cases hdd:dd i with
      | none=>
        simp only[FG];rw[cY,if_neg (by omega)];exact O2 i (by omega)
      |some cs=>simp[FG]
    have hu:FG (HH i) (base+i) (dd i) id=HH i id:=by
      cases dd i with
      |none=>rfl
      |some cs=>exact A0 _ _ DA
    rw[hu,cY];by_cases hc:base≤id∧id<base+i
    · rw[if_pos hc,if_pos (by omega)]
    rw[if_neg hc,if_neg (by omega)]
theorem vY{t t':List AV}{o:Oper}(h:∀u,Operand.tmp u∈o.op.operands→t[u]? =t'[u]?):∀x∈o.op.operands,BK t x=BK t' x:=by
  intro x hx;cases x with
  |tmp u=>simp only[BK,List.getD_eq_getElem?_getD,h u hx]
  |const v=>rfl
  |global g=>rfl
  |func f=>rfl
theorem YE.ev{o:Oper}{ev ev':Operand→AV}{H:HP}{id:Nat}{k:AV→HP→Prop}(h:YE P o ev H id k)(he:∀x∈o.op.operands,ev x=ev' x):YE P o ev' H id k:=
  fun L Av w ρ hs hf hL hH ho=>h L Av w ρ hs hf hL hH (fun x hx=>by rw[he x hx];exact ho x hx)
theorem Ef{AA:Array Bool}{m:Nat}:∀n,(∀i,m≤i→i<n→AA.getD i true=false)→n-m≤aR n AA:=by
  intro n;induction n with
  |zero=>intro _;simp[aR]
  | succ n ih=>
    intro h;have h1:=ih (fun i h1 h2=>h i h1 (by omega));have h2:aR (n+1) AA=aR n AA+(if AA.getD n true=false then 1 else 0):=by
      unfold aR;rw[List.range_succ,List.filter_append,List.length_append];simp only[List.filter_cons,List.filter_nil];cases AA.getD n true<;>rfl
    rw[h2];by_cases hn:m≤n
    · rw[if_pos (h n hn (by omega))];omega
    omega
theorem oG(hG:GJ P Γ){ops:List Oper}{base m:Nat}{Q:Exit→Act→World→Prop}{s:St}{T:Nat→List AV}{HH:Nat→HP}{res:Nat→AV}{dd:Nat→Option (List AV)}(kX:Mj ops m=true)
    (hT0:T 0=s.t) (hT:∀j o,j<m→ops[j]? =some o→T (j+1)=BF (T j) o.dst (res j)) (vZ:HH 0=s.H) (hH:∀j,j<m→HH (j+1)=FG (HH j) (base+j) (dd j)) (O2:∀j,j<m→s.H (base+j)=none)
    (Ba:∀j o,j<m→ops[j]? =some o→(cZ ops o.guard (T j)=some true∧E5 P o (BK (T j)) (HH j) (base+j) (res j) (dd j)∧(PI o.op=false→∀H',E5 P o (BK (T j)) H' (base+j) (res j) (dd j))∧(KB o.op=false→dd j=none))∨
        (cZ ops o.guard (T j)=some false∧res j= .c undef∧dd j=none))
    (Oo:∀(fuel:Nat) (AA:Array Bool) (L:LM) (a:Act) (w:World),ops.length≤fuel+m→AA.size=ops.length→(∀i,i<ops.length→AA.getD i true=decide (i<m))→WN ops AA→
      Cn cX ⟨T m,HH m,s.nx⟩ L a w→(∀i,m≤i→i<ops.length→L (base+i)=none)→tS cX.rd P .any ops.toArray Q fuel AA a w) (Ml:base+ops.length≤s.nx) (RV:cX.Az≤base):
    ∀ (fuel:Nat) (AA:Array Bool) (s':St) (L:LM) (a:Act) (w:World),aR ops.length AA≤fuel→AA.size=ops.length→WN ops AA→(∀i,m≤i→i<ops.length→AA.getD i true=false)→Part ops base m s res dd AA s'→
      Cn cX s' L a w→(∀i,i<ops.length→AA.getD i true=false→L (base+i)=none)→tS cX.rd P .any ops.toArray Q fuel AA a w:=by
  obtain⟨d1,d2,d3,d4⟩:=XL kX;have Oq:∀j o,j<m→ops[j]? =some o→∃d,o.dst=some d∧∀i o',i<m→i≠j→ops[i]? =some o'→o'.dst≠some d:=fun j o hj ho=>(d3 j o hj ho).1
  have tch:=Ee d1 hT0 hT Oq;have Eg:=vX vZ hH O2;have fin:∀(fuel:Nat) (AA:Array Bool) (s':St) (L:LM) (a:Act) (w:World),aR ops.length AA≤fuel→AA.size=ops.length→WN ops AA→(∀i,m≤i→i<ops.length→AA.getD i true=false)→Part ops base m s res dd AA s'→
      Cn cX s' L a w→(∀i,i<ops.length→AA.getD i true=false→L (base+i)=none)→(∀i,i<m→AA.getD i true=true)→tS cX.rd P .any ops.toArray Q fuel AA a w:=by
    intro fuel AA s' L a w hf EW hs ZY hp c C7 XM;obtain⟨t1,t2,t3⟩:=tch m (Nat.le_refl _);have e1:s'.t=T m:=by
      apply List.ext_getElem?;intro u;by_cases hu:u<s.t.length
      · by_cases hex:∃i o,i<m∧ops[i]? =some o∧o.dst=some u
        · obtain⟨i,o,hi,ho,WO⟩:=hex;rw[hp.done i o u hi (XM i hi) ho WO hu,t2 i o u hi ho WO hu]
        rw[hp.rest u (fun i o hi _ ho WO=>hex ⟨i,o,hi,ho,WO⟩),t3 u (fun i o hi ho WO=>hex ⟨i,o,hi,ho,WO⟩)]
      rw[List.getElem?_eq_none (by have:=hp.len;omega),List.getElem?_eq_none (by omega)]
    have e2:s'.H=HH m:=by
      funext id
      rw[hp.heap id,Eg m (Nat.le_refl _) id];by_cases hc:base≤id∧id<base+m
      · rw[if_pos ⟨hc.1,hc.2,XM _ (by omega)⟩,if_pos hc]
      rw[if_neg (fun h=>hc ⟨h.1,h.2.1⟩),if_neg hc]
    have e3:s'=⟨T m,HH m,s.nx⟩:=by
      have:=hp.nx;cases s';simp only at e1 e2 this;rw[e1,e2,this]
    have YM:=Ef ops.length ZY;refine Oo fuel AA L a w (by omega) EW ?_ hs (e3▸c) (fun i h1 h2=>C7 i h2 (ZY i h1 h2));intro i hi;by_cases Oj:i<m
    · rw[XM i Oj];simp[Oj]
    rw[ZY i (by omega) hi];simp[Oj]
  intro fuel;induction fuel with
  | zero=>
    intro AA s' L a w hf EW hs ZY hp c C7;refine fin 0 AA s' L a w hf EW hs ZY hp c C7 ?_;intro i hi;cases hc:AA.getD i true with
    |true=>rfl
    | false=>
      have:0<aR ops.length AA:=by
        unfold aR;exact List.length_pos_of_mem (List.mem_filter.2 ⟨List.mem_range.2 (show i<ops.length by omega),by rw[hc];rfl⟩)
      omega
  | succ fuel ih=>
    intro AA s' L a w hf EW hs ZY hp c C7;by_cases XM:∀i,i<m→AA.getD i true=true
    · exact fin _ AA s' L a w hf EW hs ZY hp c C7 XM
    have hex:∃i,i<m∧AA.getD i true=false:=by
      apply Classical.byContradiction;intro mO;apply XM;intro i hi;cases hc:AA.getD i true with
      |true=>rfl
      |false=>exact absurd ⟨i,hi,hc⟩ mO
    obtain⟨i0,l8,hu0,A0A⟩:∃i,i<m∧AA.getD i true=false∧∀k,k<i→AA.getD k true=true:=by
      obtain⟨i,hi,hu⟩:=hex;induction i using Nat.strongRecOn with
      | _ i ihh=>
        by_cases hk:∃k,k<i∧AA.getD k true=false
        · obtain⟨k,RW,EX⟩:=hk;exact ihh k RW (by omega) EX
        refine⟨i,hi,hu,?_⟩;intro k RW;cases hc:AA.getD k true with
        |true=>rfl
        |false=>exact absurd ⟨k,RW,hc⟩ hk
    have On:=LZ d2 (show i0<ops.length by omega) EW A0A hu0;refine⟨(fun h0=>by rw[h0]at On;cases On),?_⟩;intro j hj;obtain⟨dA,mR,_⟩:=DP.1 hj;have Ax:j<m:=by
      apply Classical.byContradiction;intro Ax;have:=CS hs hj (d4 j ops[j] (by omega) (List.getElem?_eq_getElem dA) i0 (by omega));rw[this]at hu0;cases hu0
    have ho:ops[j]? =some ops[j]:=List.getElem?_eq_getElem dA;obtain⟨⟨d,O0,W7⟩,eD,hhd⟩:=d3 j ops[j] Ax ho;have Bb:∀u∈looks ops ops[j],s'.t[u]? =(T j)[u]? :=by
      intro u hu;obtain⟨t1,t2,t3⟩:=tch j (by omega);by_cases mP:u<s.t.length
      · by_cases hex:∃i o,i<m∧i≠j∧ops[i]? =some o∧o.dst=some u
        · obtain⟨i,o,hi,JI,UA,WO⟩:=hex;have hw:=eD u hu i o hi JI UA WO;by_cases BW:i<j
          · rw[if_pos BW]at hw;rw[hp.done i o u hi (CS hs hj hw) UA WO mP,t2 i o u BW UA WO mP]
          rw[if_neg BW]at hw;obtain⟨d',Ot,Ou⟩:=Oq i o hi UA;rw[WO]at Ot;cases Ot;have hiu:AA.getD i true=false:=by
            cases hc:AA.getD i true with
            |false=>rfl
            |true=>have:=hs _ _ hw hc;rw[this]at mR;cases mR
          have q1:s'.t[u]? =s.t[u]? :=by
            refine hp.rest u (fun k o' hk oI iC Eh=>?_);by_cases Ed:k=i
            · subst Ed;rw[hiu]at oI;cases oI
            exact Ou k o' hk Ed iC Eh
          have q2:(T j)[u]? =s.t[u]? :=t3 u (fun k o' hk iC Eh=>Ou k o' (by omega) (by omega) iC Eh);rw[q1,q2]
        have q1:s'.t[u]? =s.t[u]? :=by
          refine hp.rest u (fun k o' hk oI iC Eh=>?_);by_cases vJ:k=j
          · subst vJ;rw[mR]at oI;cases oI
          exact hex ⟨k,o',hk,vJ,iC,Eh⟩
        have q2:(T j)[u]? =s.t[u]? :=t3 u (fun k o' hk iC Eh=>hex ⟨k,o',by omega,by omega,iC,Eh⟩);rw[q1,q2]
      rw[List.getElem?_eq_none (by have:=hp.len;omega),List.getElem?_eq_none (by omega)]
    have mS:∀x∈ops[j].op.operands,BK (T j) x=BK s'.t x:=by
      refine vY (fun u hu=>(Bb u ?_).symm);unfold looks;refine List.mem_append_left _ (List.mem_filterMap.2 ⟨.tmp u,by simpa using hu,rfl⟩)
    have Ov:cZ ops ops[j].guard s'.t=cZ ops ops[j].guard (T j):=by
      unfold cZ;cases hg:ops[j].guard with
      |none=>rfl
      | some gw=>
        obtain⟨g,want⟩:=gw;simp only
        cases hb:(ops[g]?).bind (·.dst)with
        |none=>rfl
        | some dg=>
          simp only
          rw[Bb dg];unfold looks;rw[hg];simp only
          exact List.mem_append_right _ (by rw[hb];simp)
    have Bc:∀(L':LM) (u:Value) (w':World),Cn cX ⟨BF s'.t ops[j].dst (res j),FG s'.H (base+j) (dd j),s'.nx⟩ L' (a.put ops[j].dst u) w'→(∀i,i≠base+j→L' i=L i)→tS cX.rd P .any ops.toArray Q fuel (AA.setIfInBounds j true) (a.put ops[j].dst u) w':=by
      intro L' u w' hc hL;refine ih _ _ L' _ w' (by have:=PJ mR dA;omega) (by simpa using EW) (hs.set hj) (fun i h1 h2=>by rw[DB mR,if_neg (by omega)];exact ZY i h1 h2) ?_ hc ?_
      · rw[O0];simp only[BF];refine⟨by simpa using hp.len,?_,?_,?_,hp.nx⟩
        · intro i o u' hi PK UA WO mP;rw[DB mR]at PK;simp only[List.getElem?_set];by_cases JI:i=j
          · subst JI;rw[ho]at UA;cases UA;rw[O0]at WO;cases WO;have:=hp.len;simp[this,mP]
          rw[if_neg JI]at PK;have AL:d≠u':=by rintro rfl;exact W7 i o hi JI UA WO
          rw[if_neg AL];exact hp.done i o u' hi PK UA WO mP
        · intro u' IM;have AL:d≠u':=by
            rintro rfl;exact IM j ops[j] Ax (by rw[DB mR,if_pos rfl]) ho O0
          simp only[List.getElem?_set];rw[if_neg AL];refine hp.rest u' (fun i o hi PK UA=>IM i o hi ?_ UA);rw[DB mR];split
          · rfl
          exact PK
        intro id;show FG s'.H (base+j) (dd j) id=_
        have Ei:(base≤id∧id<base+m∧(AA.setIfInBounds j true).getD (id-base) true=true)↔(id=base+j∨(base≤id∧id<base+m∧AA.getD (id-base) true=true)):=by
          rw[DB mR];constructor
          · rintro⟨h1,h2,h3⟩;split at h3
            · exact .inl (by omega)
            exact .inr ⟨h1,h2,h3⟩
          rintro(h1|⟨h1,h2,h3⟩)
          · exact⟨by omega,by omega,by rw[if_pos (by omega)]⟩
          refine⟨h1,h2,?_⟩;split
          · rfl
          exact h3
        by_cases DA:id=base+j
        · rw[if_pos (Ei.2 (.inl DA))];subst DA;rw[show base+j-base=j by omega];cases hdd:dd j with
          | none=>
            simp only[FG];rw[hp.heap,if_neg]
            · exact O2 j Ax
            rintro⟨_,_,h3⟩;rw[show base+j-base=j by omega,mR]at h3;cases h3
          |some cs=>simp[FG]
        have hu:FG s'.H (base+j) (dd j) id=s'.H id:=by
          cases dd j with
          |none=>rfl
          |some cs=>exact A0 _ _ DA
        rw[hu,hp.heap id];by_cases tZ:base≤id∧id<base+m∧AA.getD (id-base) true=true
        · rw[if_pos tZ,if_pos (Ei.2 (.inr tZ))]
        rw[if_neg tZ,if_neg (fun h=>(Ei.1 h).elim DA tZ)]
      intro i hi PK;rw[DB mR]at PK;by_cases JI:i=j
      · rw[if_pos JI]at PK;cases PK
      rw[if_neg JI]at PK;rw[hL _ (by omega)];exact C7 i hi PK
    unfold Lt;simp only[List.getElem?_toArray,ho];rcases Ba j ops[j] Ax ho with ⟨hw,hq,NH,WQ⟩|⟨hw,hr,YI⟩
    · rw [← Ov] at hw;rcases KC c (iB hw) ops[j] rfl with ⟨iD,_⟩|⟨_,aS⟩
      · rw[if_pos iD];left
        have U4 :∀i c,(if PI ops[j].op=true then HH j else BN) i=some c→s'.H i=some c:=by
          intro id cs DA;cases u9:PI ops[j].op with
          |false=>rw[u9]at DA;cases DA
          | true=>
            rw[u9]at DA;simp only[if_true]at DA;rw[Eg j (by omega) id]at DA;rw[hp.heap id];by_cases tZ:base≤id∧id<base+j
            · rw[if_pos tZ]at DA;have Ed:id-base<ops.length:=by omega
              have LK:ops[id-base]? =some ops[id-base]:=List.getElem?_eq_getElem Ed;have A0B:KB ops[id-base].op=true:=by
                cases hly:KB ops[id-base].op with
                |true=>rfl
                | false=>
                  rcases Ba (id-base) _ (by omega) LK with ⟨_,_,_,h9⟩|⟨_,_,h9⟩
                  · rw[h9 hly]at DA;cases DA
                  rw[h9]at DA;cases DA
              have A0C:=CS hs hj (hhd u9 (id-base) _ (by omega) LK A0B);rw[if_pos ⟨tZ.1,by omega,A0C⟩];exact DA
            rw[if_neg tZ]at DA;rw[if_neg]
            · exact DA
            rintro⟨h1,h2,_⟩;have:=O2 (id-base) (by omega);rw[show base+(id-base)=id by omega,DA]at this;cases this
        have vV:E5 P ops[j] (BK (T j)) (if PI ops[j].op=true then HH j else BN) (base+j) (res j) (dd j):=by
          cases u9:PI ops[j].op with
          |true=>simpa using hq
          |false=>simpa using NH u9 BN
        have hLj:=C7 j dA mR;have hHj:s'.H (base+j)=none:=by
          cases hh:s'.H (base+j)with
          |none=>rfl
          |some cs=>obtain⟨l,h1,_⟩:=c.sr.node _ cs hh;rw[hLj]at h1;cases h1
        have OI:=(vV s'.H U4).ev mS;refine(OI L cX.Av w a.eval c.sr ⟨_,c.fr⟩ hLj hHj (fun x _=>c.ev x)).wp ?_;rintro u w' ⟨r,H',L',⟨rfl,rfl⟩,h2,h3,h4,h5⟩;refine Bc L' u w' ?_ h2;obtain⟨p1,p2,p3⟩:=GV (a:=a) c.sz (fun k y hk=>(c.sl k y hk).step h4) ops[j].dst h5;have Ox:=hp.nx;refine⟨vO p1 (c.df.step c.sr h4),p2,p3,h3,?_,c.nx,?_,c.st.trans h4⟩
        · intro i FV;simp only at FV;rw[h2 i (by omega)];exact c.fr i FV
        intro i FV;rw[h2 i (by omega)];exact c.lo i FV
      cases aS
    rw[←Ov]at hw;rcases KC c (iB hw) ops[j] rfl with ⟨_,aS⟩|⟨iD,_⟩
    · cases aS
    rw[if_neg (by simp[iD])];refine Bc L _ w ?_ (fun _ _=>rfl);rw[hr,YI];obtain⟨p1,p2,p3⟩:=GV (a:=a) c.sz c.sl ops[j].dst (R.c undef);exact⟨vO p1 c.df,p2,p3,c.sr,c.fr,c.nx,c.lo,c.st⟩
theorem AW.draw{cX:Ctx}(hG:GJ P Γ)(Ej:P.follows .mixedOrders=true){n:Nat}{ops:Array Oper}{s:St}{K:Exit→St→Prop}(m:Nat)(hd:Mj ops.toList m=true)
    (h:DE Γ P ops.toList s.nx (ops.toList.take m) 0 s.t s.H fun t H=>IP Γ P ops.toList s.nx (ops.toList.drop m) m ⟨t,H,s.nx+ops.toList.length⟩ (K .normal)):AW cX P (.region n ops true) s K:=by
  intro L a w Q hc hQ;obtain⟨d1,d2,d3,d4⟩:=XL hd;refine OD Ej ?_;obtain⟨T,HH,res,dd,h1,h2,h3,h4,h5,h6⟩:=l7 (m:=m) hG _ 0 s.t s.H (by simp) (by omega) h;rw[show min m ops.toList.length=m by omega]at h3;have Yj:∀j,s.H (s.nx+j)=none:=by
    intro j;cases hh:s.H (s.nx+j)with
    |none=>rfl
    |some cs=>obtain⟨l,g1,_⟩:=hc.sr.node _ cs hh;rw[hc.fr _ (by omega)]at g1;cases g1
  have Ek:Cn cX ⟨s.t,s.H,s.nx+ops.toList.length⟩ L a {w with drawn:=w.drawn+1}:=
    ⟨hc.df.same rfl,hc.sz,fun k x hk=>(hc.sl k x hk).drew,hc.sr.drew,fun i hi=>hc.fr i (by simp only at hi;omega),by have:=hc.nx;simp only;omega,hc.lo,hc.st.trans (Step.drew _ _ _)⟩
  have:=oG (Q:=Q) (s:=⟨s.t,s.H,s.nx+ops.toList.length⟩) (base:=s.nx) hG hd h1 (fun j o hj ho=>h4 j o (by omega) hj ho) h2 (fun j hj=>h5 j (by omega) hj (by omega)) (fun j hj=>Yj j)
    (fun j o hj ho=>h6 j o (by omega) hj ho) (fun fuel AA L' a' w' g1 g2 g3 g4 g5 g6=>oF (m:=m) (hi:=s.nx+ops.toList.length) (base:=s.nx) hG d2 d4 (Nat.le_refl _) (fun s' L' a' w' hk PF=>hQ _ _ _ _ _ hk PF) fuel m AA _ L' a' w' (Nat.le_refl _) d1 g1 g2 g3 g4 h3
      ⟨g5,fun i h1 h2=>by have:=g6 (i-s.nx) (by omega) (by omega);rwa [show s.nx+(i-s.nx)=i by omega]at this,by simp only;omega,by have:=hc.nx;omega⟩) (by simp only;omega) hc.nx
    ops.size (Array.replicate ops.size false) ⟨s.t,s.H,s.nx+ops.toList.length⟩ L a {w with drawn:=w.drawn+1} (by
      unfold aR;exact Nat.le_trans (List.length_filter_le _ _) (by simp)) (by simp) (by
      intro i j hw hj;have:=hw.len;simp only[Array.length_toList]at this;simp[Array.getD_eq_getD_getElem?,this]at hj) (by
      intro i _ hi;simp only[Array.length_toList]at hi;simp[Array.getD_eq_getD_getElem?,hi]) ⟨rfl,by
        intro i o u hi hl ho;have:=(List.getElem?_eq_some_iff.1 ho).1;simp only[Array.length_toList]at this;simp[Array.getD_eq_getD_getElem?,this]at hl,fun u _=>rfl,by
        intro id;rw[if_neg];rintro⟨g1,g2,g3⟩;have:id-s.nx<ops.size:=by simp only[Array.length_toList]at d1;omega
        simp[Array.getD_eq_getD_getElem?,this]at g3,rfl⟩ Ek (fun i hi _=>hc.fr _ (by omega))
  simpa using this
end
end
end Go.Proofs.YtghmeeifjeafmaaGreat
