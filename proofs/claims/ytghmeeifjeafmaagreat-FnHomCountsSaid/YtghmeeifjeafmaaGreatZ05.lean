import Derived.Test.YtghmeeifjeafmaaGreatZ04
set_option linter.unusedVariables false
set_option linter.unusedSimpArgs false
namespace Go.Proofs.YtghmeeifjeafmaaGreat
def msk (acc:List Nat):List Edge→Nat
  |[]=>0
  |e::r=>(if Region.binds .any e then 2^e.on|||acc.getD e.on 0 else 0)|||msk acc r
def cls:List Oper→List Nat→List Nat
  |[],acc=>acc
  |o::r,acc=>cls r (acc++[msk acc o.after.toList])
inductive Waits (ops:List Oper):Nat→Nat→Prop
  |one {i j:Nat} (o:Oper) (e:Edge) (ho:ops[j]? =some o) (he:e∈o.after.toList) (hb:Region.binds .any e=true) (hi:e.on=i):Waits ops i j
  |step {i k j:Nat} (a:Waits ops i k) (b:Waits ops k j):Waits ops i j
theorem msk_waits {ops:List Oper} {acc:List Nat} (hacc:∀j i,(acc.getD j 0).testBit i=true→Waits ops i j) {j:Nat} {o:Oper} (ho:ops[j]? =some o):∀(es:List Edge),(∀e∈es,e∈o.after.toList)→∀i,(msk acc es).testBit i=true→Waits ops i j:=by
  intro es
  induction es with
  |nil=>intro _ i h;simp[msk]at h
  | cons e es ih=>
    intro hm i h
    simp only[msk,Nat.testBit_or,Bool.or_eq_true]at h
    rcases h with h|h
    · split at h
      · rename_i hb
        simp only[Nat.testBit_or,Bool.or_eq_true,Nat.testBit_two_pow,decide_eq_true_eq]at h
        have h0:Waits ops e.on j:= .one o e ho (hm e (by simp)) hb rfl
        rcases h with h|h
        · subst h;exact h0
        exact .step (hacc _ _ h) h0
      simp at h
    exact ih (fun e he=>hm e (by simp[he])) i h
theorem cls_waits {ops:List Oper}:∀(rest:List Oper) (acc:List Nat),ops.drop acc.length=rest→(∀j i,(acc.getD j 0).testBit i=true→Waits ops i j)→∀j i,((cls rest acc).getD j 0).testBit i=true→Waits ops i j:=by
  intro rest
  induction rest with
  |nil=>intro acc _ h;exact h
  | cons o rest ih=>
    intro acc hd h
    simp only[cls];have ho:ops[acc.length]? =some o:=by
      have:(ops.drop acc.length)[0]? =some o:=by rw[hd];rfl
      simpa using this
    refine ih _ ?_ ?_
    · simp only[List.length_append,List.length_cons,List.length_nil,Nat.zero_add]
      rw[←List.drop_drop,hd];rfl
    intro j i hj
    rw[List.getD_eq_getElem?_getD,List.getElem?_append]at hj
    split at hj
    · exact h j i (by rw[List.getD_eq_getElem?_getD];exact hj)
    rename_i hlt
    by_cases he:j=acc.length
    · subst he
      simp only[Nat.sub_self,List.getElem?_cons_zero,Option.getD_some]at hj
      exact msk_waits h ho _ (fun _ h=>h) i hj
    rw[List.getElem?_eq_none (by simp;omega)]at hj
    simp at hj
def wt (ops:List Oper) (cl:List Nat) (i j:Nat):Bool:=(cl.getD j 0).testBit i
theorem wt_waits {ops:List Oper} {i j:Nat} (h:wt ops (cls ops []) i j=true):Waits ops i j:=
  cls_waits ops [] (by simp) (by intro j i h;simp at h) j i h
def looks (ops:List Oper) (o:Oper):List Nat:=
  (o.op.operands.toList.filterMap fun| .tmp t=>some t|_=>none)++(match o.guard with|some (g,_)=>((ops[g]?).bind (·.dst)).toList|none=>[])
def hdep:Op→Bool
  | .load .. =>true
  | .call ⟨.value _,_,_⟩=>true
  |_=>false
def dok (ops:List Oper) (m:Nat):Bool:=
  let cl:=cls ops []
  m≤ops.length &&
  (ops.zipIdx.all fun (o,j)=>o.after.toList.all fun e=> !Region.binds .any e||e.on<j)&&
  (ops.zipIdx.all fun (o,j)=>if j<m then
      (match o.dst with
        |some d=>ops.zipIdx.all fun (o',i)=> !(i<m && i !=j && o'.dst==some d)
        |none=>false)&&
      ((looks ops o).all fun u=>ops.zipIdx.all fun (o',i)=> !(i<m && i !=j && o'.dst==some u)||(if i<j then wt ops cl i j else wt ops cl j i))&&
      (!hdep o.op||ops.zipIdx.all fun (o',i)=> !(i<j && lays o'.op)||wt ops cl i j)
    else (List.range j).all fun i=>wt ops cl i j)
def hrun (Γ:TEnv) (P:Program) (ops:List Oper) (base:Nat):List Oper→Nat→List AV→HP→(List AV→HP→Prop)→Prop
  |[],_,t,H,k=>k t H
  | o ::rest,i,t,H,k=>gop ops o.guard t (fun t=>qop Γ P o.op t H (base+i) fun r d=>hrun Γ P ops base rest (i+1) (putA t o.dst r) (updo H (base+i) d) k)
      (fun t=>hrun Γ P ops base rest (i+1) (putA t o.dst (.c undef)) H k)
def wan (ops:List Oper) (g:Option (Nat×Bool)) (t:List AV):Option Bool:=
  match g with
  |none=>some true
  | some (j,want)=>match (ops[j]?).bind (·.dst)with
    | some d=>match t[d]? with
      |some (.b x)=>some (x==want)
      |some (.c (.tuple _))=>some false
      |_=>none
    |none=>none
theorem gop_wan {ops:List Oper} {g:Option (Nat×Bool)} {t:List AV} {yes no:List AV→Prop} (h:gop ops g t yes no):(wan ops g t=some true∧yes t)∨(wan ops g t=some false∧no t):=by
  unfold gop at h
  unfold wan
  split at h
  · exact .inl ⟨rfl,h⟩
  rename_i j want
  split at h
  · rename_i d hd
    simp only[hd];split at h
    · rename_i x hx
      simp only[hx];have hset:t.set d (.b x)=t:=by
        apply List.ext_getElem?
        intro i
        rw[List.getElem?_set]
        split
        · rename_i hi;subst hi
          rw[if_pos (List.getElem?_eq_some_iff.1 hx).1,hx]
        rfl
      by_cases hxw:x=want
      · exact .inl ⟨by simp[hxw],by have:=h.1 hxw;rwa [←hxw,hset]at this⟩
      have hxn:x= !want:=by cases x<;>cases want<;>simp at hxw ⊢
      exact .inr ⟨by simp[hxw],by have:=h.2 hxn;rwa [←hxn,hset]at this⟩
    · rename_i vs hx
      simp only[hx];exact .inr ⟨by simp,h⟩
    exact h.elim
  exact h.elim
section
variable {P:Program} {Γ:TEnv}
theorem qop_indep {op:Op} (h:hdep op=false) (t:List AV) (H H':HP) (id:Nat) (k:AV→Option (List AV)→Prop):qop Γ P op t H id k=qop Γ P op t H' id k:=by
  cases op
  case load=>cases h
  case call c=>
    obtain⟨callee,args,tys⟩:=c
    cases callee with
    |value f=>cases h
    |invoke r m=>rfl
    |builtin b=>cases b<;>rfl
  case slice ty x lo hi mx=>cases mx<;>rfl
  all_goals rfl
theorem QOk.mono {o:Oper} {ev:Operand→AV} {H H2:HP} {id:Nat} {r:AV} {d:Option (List AV)} (h:QOk P o ev H id r d) (hH:∀i c,H i=some c→H2 i=some c):QOk P o ev H2 id r d:=
  fun H' h'=>h H' (fun i c hc=>h' i c (hH i c hc))
theorem hrun_head (hG:GOk P Γ) {ops:List Oper} {base m:Nat} {k:List AV→HP→Prop}:∀(rest:List Oper) (i:Nat) (t:List AV) (H:HP),rest=(ops.take m).drop i→i≤m→hrun Γ P ops base rest i t H k→
    ∃ (T:Nat→List AV) (HH:Nat→HP) (res:Nat→AV) (dd:Nat→Option (List AV)),T i=t∧HH i=H∧k (T (min m ops.length)) (HH (min m ops.length))∧
      (∀j o,i≤j→j<m→ops[j]? =some o→T (j+1)=putA (T j) o.dst (res j))∧(∀j,i≤j→j<m→j<ops.length→HH (j+1)=updo (HH j) (base+j) (dd j))∧
      (∀j o,i≤j→j<m→ops[j]? =some o→(wan ops o.guard (T j)=some true∧QOk P o (evo (T j)) (HH j) (base+j) (res j) (dd j)∧(hdep o.op=false→∀H',QOk P o (evo (T j)) H' (base+j) (res j) (dd j))∧(lays o.op=false→dd j=none))∨
        (wan ops o.guard (T j)=some false∧res j= .c undef∧dd j=none)):=by
  intro rest
  induction rest with
  | nil=>
    intro i t H hr hi h
    have hlen:(ops.take m).length≤i:=by
      have:=congrArg List.length hr
      simp only[List.length_nil,List.length_drop]at this
      omega
    rw[List.length_take]at hlen
    refine⟨fun _=>t,fun _=>H,fun _=> .j,fun _=>none,rfl,rfl,h,?_,?_,?_⟩
    · intro j o h1 h2 h3
      have:=(List.getElem?_eq_some_iff.1 h3).1;omega
    · intro j h1 h2 h3;omega
    intro j o h1 h2 h3
    have:=(List.getElem?_eq_some_iff.1 h3).1;omega
  | cons o rest ih=>
    intro i t H hr hi h
    have hlt:i<(ops.take m).length:=by
      have:=congrArg List.length hr
      simp only[List.length_cons,List.length_drop]at this
      omega
    have hio:(ops.take m)[i]? =some o:=by
      have:((ops.take m).drop i)[0]? =some o:=by rw[←hr];rfl
      simpa using this
    rw[List.length_take]at hlt
    have him:i<m:=by omega
    have hoi:ops[i]? =some o:=by
      rw[List.getElem?_take]at hio
      simpa[him]using hio
    have hrest:rest=(ops.take m).drop (i+1):=by
      rw[←List.drop_drop,←hr];rfl
    simp only[hrun]at h
    --the two ways
    have fin:∀(r:AV) (d:Option (List AV)),hrun Γ P ops base rest (i+1) (putA t o.dst r) (updo H (base+i) d) k→((wan ops o.guard t=some true∧QOk P o (evo t) H (base+i) r d∧(hdep o.op=false→∀H',QOk P o (evo t) H' (base+i) r d)∧(lays o.op=false→d=none))∨(wan ops o.guard t=some false∧r= .c undef∧d=none))→
        ∃ (T:Nat→List AV) (HH:Nat→HP) (res:Nat→AV) (dd:Nat→Option (List AV)),T i=t∧HH i=H∧k (T (min m ops.length)) (HH (min m ops.length))∧
          (∀j o,i≤j→j<m→ops[j]? =some o→T (j+1)=putA (T j) o.dst (res j))∧(∀j,i≤j→j<m→j<ops.length→HH (j+1)=updo (HH j) (base+j) (dd j))∧
          (∀j o,i≤j→j<m→ops[j]? =some o→(wan ops o.guard (T j)=some true∧QOk P o (evo (T j)) (HH j) (base+j) (res j) (dd j)∧(hdep o.op=false→∀H',QOk P o (evo (T j)) H' (base+j) (res j) (dd j))∧(lays o.op=false→dd j=none))∨
            (wan ops o.guard (T j)=some false∧res j= .c undef∧dd j=none)):=by
      intro r d hrun' hop
      obtain⟨T,HH,res,dd,h1,h2,h3,h4,h5,h6⟩:=ih (i+1) _ _ hrest (by omega) hrun'
      refine⟨fun j=>if j=i then t else T j,fun j=>if j=i then H else HH j,fun j=>if j=i then r else res j,fun j=>if j=i then d else dd j,by simp,by simp,?_,?_,?_,?_⟩
      · have:min m ops.length≠i:=by omega
        simpa[this]using h3
      · intro j o' h7 h8 h9
        by_cases hj:j=i
        · subst hj
          rw[hoi]at h9;cases h9
          simp[h1]
        have hj1:j+1≠i:=by omega
        simp only[hj,hj1,if_false];exact h4 j o' (by omega) h8 h9
      · intro j h7 h8 h9
        by_cases hj:j=i
        · subst hj;simp[h2]
        have hj1:j+1≠i:=by omega
        simp only[hj,hj1,if_false];exact h5 j (by omega) h8 h9
      intro j o' h7 h8 h9
      by_cases hj:j=i
      · subst hj
        rw[hoi]at h9;cases h9
        simpa using hop
      simp only[hj,if_false];exact h6 j o' (by omega) h8 h9
    rcases gop_wan h with ⟨hw,hy⟩|⟨hw,hn⟩
    · cases hd:hdep o.op with
      | true=>
        obtain⟨r,d,h1,h2,h3⟩:=qop_ok' hG hy
        exact fin r d h1 (.inl ⟨hw,h2,(fun hf=>by rw[hd]at hf;cases hf),h3⟩)
      | false=>
        rw[qop_indep hd t H noH]at hy
        obtain⟨r,d,h1,h2,h3⟩:=qop_ok' hG hy
        have h4:∀H',QOk P o (evo t) H' (base+i) r d:=fun H'=>h2.mono (fun i c hc=>by cases hc)
        exact fin r d h1 (.inl ⟨hw,h4 H,fun _=>h4,h3⟩)
    exact fin _ none (by simpa[updo]using hn) (.inr ⟨hw,rfl,rfl⟩)
theorem dok_parts {ops:List Oper} {m:Nat} (h:dok ops m=true):
    m≤ops.length∧(∀j o,ops[j]? =some o→∀e∈o.after.toList,Region.binds .any e=true→e.on<j)∧
    (∀j o,j<m→ops[j]? =some o→(∃d,o.dst=some d∧∀i o',i<m→i≠j→ops[i]? =some o'→o'.dst≠some d)∧
      (∀u∈looks ops o,∀i o',i<m→i≠j→ops[i]? =some o'→o'.dst=some u→if i<j then Waits ops i j else Waits ops j i)∧
      (hdep o.op=true→∀i o',i<j→ops[i]? =some o'→lays o'.op=true→Waits ops i j))∧
    (∀j o,m≤j→ops[j]? =some o→∀i,i<j→Waits ops i j):=by
  unfold dok at h
  simp only[Bool.and_eq_true,decide_eq_true_eq,List.all_eq_true]at h
  obtain⟨⟨h1,h2⟩,h3⟩:=h
  have mem:∀{j:Nat} {o:Oper},ops[j]? =some o→(o,j)∈ops.zipIdx:=by
    intro j o ho
    rw[List.mem_zipIdx_iff_getElem?];exact ho
  refine⟨h1,?_,?_,?_⟩
  · intro j o ho e he hb
    have:=h2 (o,j) (mem ho)
    simp only[List.all_eq_true]at this
    have:=this e he
    simpa[hb]using this
  · intro j o hj ho
    have h4:=h3 (o,j) (mem ho)
    simp only[hj,if_true,Bool.and_eq_true]at h4
    obtain⟨⟨h5,h6⟩,h7⟩:=h4
    refine⟨?_,?_,?_⟩
    · cases hd:o.dst with
      |none=>rw[hd]at h5;cases h5
      | some d=>
        rw[hd]at h5
        refine⟨d,rfl,?_⟩
        intro i o' hi hij ho' hdd
        simp only[List.all_eq_true]at h5
        have:=h5 (o',i) (mem ho')
        simp[hi,hij,hdd]at this
    · intro u hu i o' hi hij ho' hd
      simp only[List.all_eq_true]at h6
      have:=h6 u hu (o',i) (mem ho')
      simp only[hi,hij,hd,decide_true,Bool.and_self,ne_eq,not_false_eq_true,bne_iff_ne,beq_self_eq_true,Bool.not_true,Bool.false_or]at this
      have hne:(i !=j)=true:=by simpa using hij
      simp only[hne,Bool.and_self,Bool.not_true,Bool.false_or]at this
      split
      · rename_i hlt;rw[if_pos hlt]at this;exact wt_waits this
      rename_i hlt;rw[if_neg hlt]at this;exact wt_waits this
    intro hh i o' hi ho' hl
    simp only[hh,Bool.not_true,Bool.false_or,List.all_eq_true]at h7
    have:=h7 (o',i) (mem ho')
    simp only[hi,hl,decide_true,Bool.and_self,Bool.not_true,Bool.false_or]at this
    exact wt_waits this
  intro j o hj ho i hi
  have h4:=h3 (o,j) (mem ho)
  have:¬j<m:=by omega
  simp only[this,if_false,List.all_eq_true,List.mem_range]at h4
  exact wt_waits (h4 i hi)
def unl (n:Nat) (listed:Array Bool):Nat:=((List.range n).filter fun i=> !listed.getD i true).length
theorem unl_set {n j:Nat} {listed:Array Bool} (hj:listed.getD j true=false) (hn:j<n):unl n (listed.setIfInBounds j true)<unl n listed:=by
  unfold unl
  have hget:∀i,(listed.setIfInBounds j true).getD i true=if i=j then true else listed.getD i true:=by
    intro i
    simp only[Array.getD_eq_getD_getElem?,Array.getElem?_setIfInBounds]
    by_cases h:i=j
    · subst h
      simp only[if_true];split<;>simp
    have h':¬j=i:=fun h'=>h h'.symm
    simp[h,h']
  have:((List.range n).filter fun i=> !(listed.setIfInBounds j true).getD i true)=((List.range n).filter fun i=> !listed.getD i true).filter fun i=>i !=j:=by
    rw[List.filter_filter]
    apply List.filter_congr
    intro i _
    rw[hget]
    by_cases h:i=j<;>simp[h]
  rw[this,List.length_filter_lt_length_iff_exists]
  refine⟨j,?_,by simp⟩
  rw[List.mem_filter]
  exact⟨List.mem_range.2 hn,by rw[hj];rfl⟩
theorem get_set {j:Nat} {listed:Array Bool} (hj:listed.getD j true=false) (i:Nat):(listed.setIfInBounds j true).getD i true=if i=j then true else listed.getD i true:=by
  simp only[Array.getD_eq_getD_getElem?,Array.getElem?_setIfInBounds]
  by_cases h:i=j
  · subst h
    simp only[if_true];split<;>simp
  have h':¬j=i:=fun h'=>h h'.symm
  simp[h,h']
def Shut (ops:List Oper) (listed:Array Bool):Prop:=∀i j,Waits ops i j→listed.getD j true=true→listed.getD i true=true
theorem Waits.len {ops:List Oper} {i j:Nat} (h:Waits ops i j):j<ops.length:=by
  induction h with
  |one o e ho he hb hi=>exact(List.getElem?_eq_some_iff.1 ho).1
  |step a b iha ihb=>exact ihb
theorem ready_iff {ops:List Oper} {listed:Array Bool} {i:Nat}:i∈Region.ready .any ops.toArray listed↔i<ops.length∧listed.getD i true=false∧∀o,ops[i]? =some o→∀e∈o.after.toList,Region.binds .any e=true→listed.getD e.on false=true:=by
  unfold Region.ready
  simp only[List.mem_filter,List.mem_range,List.size_toArray,List.getElem?_toArray,Bool.and_eq_true,Bool.not_eq_true']
  constructor
  · rintro⟨h1,h2,h3⟩
    refine⟨h1,h2,?_⟩
    intro o ho e he hb
    rw[ho]at h3
    simp only[Option.map_some,Option.getD_some]at h3
    rw[←Array.all_toList]at h3
    simp only[List.all_eq_true]at h3
    have:=h3 e he
    simpa[hb]using this
  rintro⟨h1,h2,h3⟩
  refine⟨h1,h2,?_⟩
  have ho:ops[i]? =some ops[i]:=List.getElem?_eq_getElem h1
  rw[ho]
  simp only[Option.map_some,Option.getD_some]
  rw[←Array.all_toList]
  simp only[List.all_eq_true]
  intro e he
  by_cases hb:Region.binds .any e=true
  · simp[h3 _ ho e he hb]
  simp[hb]
theorem getD_le {listed:Array Bool} {i:Nat} (h:listed.getD i false=true):listed.getD i true=true:=by
  simp only[Array.getD_eq_getD_getElem?]at*
  cases hi:listed[i]? with
  |none=>simp
  |some b=>rw[hi]at h;simpa using h
theorem ready_waits {ops:List Oper} {listed:Array Bool} {j:Nat} (hs:Shut ops listed) (hr:j∈Region.ready .any ops.toArray listed) {i:Nat} (hw:Waits ops i j):listed.getD i true=true:=by
  obtain⟨h1,h2,h3⟩:=ready_iff.1 hr
  have key:∀i j',Waits ops i j'→j'=j→listed.getD i true=true:=by
    intro i j' hw
    induction hw with
    | one o e ho he hb hi=>
      rintro rfl
      rw[←hi];exact getD_le (h3 o ho e he hb)
    | @step i k j'' a b iha ihb=>
      rintro rfl
      exact hs i k a (ihb rfl)
  exact key i j hw rfl
theorem Shut.set {ops:List Oper} {listed:Array Bool} (hs:Shut ops listed) {j:Nat} (hr:j∈Region.ready .any ops.toArray listed):Shut ops (listed.setIfInBounds j true):=by
  obtain⟨h1,h2,h3⟩:=ready_iff.1 hr
  intro i k hw hk
  rw[get_set h2]at hk ⊢
  split
  · rfl
  by_cases hkj:k=j
  · subst hkj;exact ready_waits hs hr hw
  rw[if_neg hkj]at hk;exact hs i k hw hk
theorem first_ready {ops:List Oper} {listed:Array Bool} (hlt:∀j o,ops[j]? =some o→∀e∈o.after.toList,Region.binds .any e=true→e.on<j) {q:Nat} (hq:q<ops.length) (hsz:listed.size=ops.length)
    (hl:∀i,i<q→listed.getD i true=true) (hn:listed.getD q true=false):q∈Region.ready .any ops.toArray listed:=by
  refine ready_iff.2 ⟨hq,hn,?_⟩
  intro o ho e he hb
  have h1:=hlt q o ho e he hb
  have h2:=hl _ h1
  have h3:e.on<listed.size:=by omega
  simpa[Array.getD_eq_getD_getElem?,h3]using h2
section
variable {cX:Ctx}
theorem tail_any (hG:GOk P Γ) {ops:List Oper} {base hi m:Nat} {Q:Exit→Act→World→Prop} {K':St→Prop} (hlt:∀j o,ops[j]? =some o→∀e∈o.after.toList,Region.binds .any e=true→e.on<j)
    (htl:∀j o,m≤j→ops[j]? =some o→∀i,i<j→Waits ops i j) (hhi:base+ops.length≤hi) (hQ:∀s' L' a' w',K' s'→Cn cX s' L' a' w'→Q .normal a' w'):
    ∀ (fuel q:Nat) (listed:Array Bool) (s:St) (L:LM) (a:Act) (w:World),m≤q→q≤ops.length→ops.length≤fuel+q→listed.size=ops.length→(∀i,i<ops.length→listed.getD i true=decide (i<q))→Shut ops listed→
      arun Γ P ops base (ops.drop q) q s K'→Cr cX (base+q) hi s L a w→wpA cX.rd P .any ops.toArray Q fuel listed a w:=by
  intro fuel
  induction fuel with
  | zero=>
    intro q listed s L a w hmq hq hf hsz hl hs h c
    have hqn:q=ops.length:=by omega
    subst hqn
    rw[List.drop_length]at h
    refine⟨?_,hQ _ _ _ _ h c.toCn⟩
    rw[List.eq_nil_iff_forall_not_mem]
    intro i hi'
    obtain⟨h1,h2,_⟩:=ready_iff.1 hi'
    rw[hl i h1]at h2;simp[h1]at h2
  | succ fuel ih=>
    intro q listed s L a w hmq hq hf hsz hl hs h c
    by_cases hqn:q=ops.length
    · subst hqn
      rw[List.drop_length]at h
      refine⟨fun _=>hQ _ _ _ _ h c.toCn,?_⟩
      intro i hi'
      obtain⟨h1,h2,_⟩:=ready_iff.1 hi'
      rw[hl i h1]at h2;simp[h1]at h2
    have hq':q<ops.length:=by omega
    have hrd:=first_ready hlt hq' hsz (fun i hi'=>by rw[hl i (by omega)];simp[hi']) (by rw[hl q hq'];simp)
    refine⟨(fun h0=>by rw[h0]at hrd;cases hrd),?_⟩
    intro i hi'
    obtain⟨h1,h2,_⟩:=ready_iff.1 hi'
    have hiq:i=q:=by
      rw[hl i h1]at h2
      simp only[decide_eq_false_iff_not,Nat.not_lt]at h2
      by_cases hne:i=q
      · exact hne
      have:=ready_waits hs hi' (htl i ops[i] (by omega) (List.getElem?_eq_getElem h1) q (by omega))
      rw[hl q hq']at this;simp at this
    subst hiq
    have ho:ops[i]? =some ops[i]:=List.getElem?_eq_getElem h1
    rw[List.drop_eq_getElem_cons h1]at h
    simp only[arun]at h
    have hset:∀k,k<ops.length→(listed.setIfInBounds i true).getD k true=decide (k<i+1):=by
      intro k hk
      rw[get_set h2,hl k hk]
      by_cases hki:k=i
      · simp[hki]
      have:(k<i+1)=(k<i):=by apply propext;omega
      simp[hki,this]
    unfold wpO
    simp only[List.getElem?_toArray,ho]
    rcases gop_wanted c.toCn h ops[i] rfl with ⟨hw,hy⟩|⟨hw,hn⟩
    · rw[if_pos hw]
      refine .inl (aop_sound hG hy c (by omega) ?_)
      intro s' L' a' w' hk hc
      exact ih (i+1) _ s' L' a' w' (by omega) (by omega) (by omega) (by simpa using hsz) hset (hs.set hi') hk hc
    rw[if_neg (by simp[hw])]
    exact ih (i+1) _ _ L _ w (by omega) (by omega) (by omega) (by simpa using hsz) hset (hs.set hi') hn (c.put _ (.c _)).skip
theorem wan_gop {ops:List Oper} {g:Option (Nat×Bool)} {t:List AV} {z:Bool} (h:wan ops g t=some z):gop ops g t (fun _=>z=true) (fun _=>z=false):=by
  unfold wan at h
  unfold gop
  split at h
  · simpa using h.symm
  rename_i j want
  split at h
  · rename_i d hd
    simp only[hd];split at h
    · rename_i x hx
      simp only[hx];simp only[Option.some.injEq]at h
      refine⟨fun hx=>?_,fun hx=>?_⟩
      · rw[←h,hx];simp
      rw[←h,hx];cases want<;>rfl
    · rename_i vs hx
      simp only[hx];simpa using h.symm
    cases h
  cases h
structure Part (ops:List Oper) (base m:Nat) (s:St) (res:Nat→AV) (dd:Nat→Option (List AV)) (listed:Array Bool) (s':St):Prop where
  len:s'.t.length=s.t.length
  done:∀i o u,i<m→listed.getD i true=true→ops[i]? =some o→o.dst=some u→u<s.t.length→s'.t[u]? =some (res i)
  rest:∀u,(∀i o,i<m→listed.getD i true=true→ops[i]? =some o→o.dst≠some u)→s'.t[u]? =s.t[u]?
  heap:∀id,s'.H id=if base≤id∧id<base+m∧listed.getD (id-base) true=true then dd (id-base)else s.H id
  nx:s'.nx=s.nx
theorem T_char {ops:List Oper} {m:Nat} {s:St} {T:Nat→List AV} {res:Nat→AV} (hm:m≤ops.length) (h0:T 0=s.t) (hT:∀j o,j<m→ops[j]? =some o→T (j+1)=putA (T j) o.dst (res j))
    (hd:∀j o,j<m→ops[j]? =some o→∃d,o.dst=some d∧∀i o',i<m→i≠j→ops[i]? =some o'→o'.dst≠some d):∀i,i≤m→(T i).length=s.t.length∧
      (∀j o u,j<i→ops[j]? =some o→o.dst=some u→u<s.t.length→(T i)[u]? =some (res j))∧(∀u,(∀j o,j<i→ops[j]? =some o→o.dst≠some u)→(T i)[u]? =s.t[u]?):=by
  intro i
  induction i with
  |zero=>intro _;rw[h0];exact⟨rfl,fun j o u h=>by omega,fun u _=>rfl⟩
  | succ i ih=>
    intro hi
    obtain⟨h1,h2,h3⟩:=ih (by omega)
    have hil:i<ops.length:=by omega
    have ho:ops[i]? =some ops[i]:=List.getElem?_eq_getElem hil
    obtain⟨d,hd1,hd2⟩:=hd i ops[i] (by omega) ho
    rw[hT i ops[i] (by omega) ho,hd1]
    simp only[putA];refine⟨by simpa using h1,?_,?_⟩
    · intro j o u hj hoj hou hu
      rw[List.getElem?_set]
      by_cases hji:j=i
      · subst hji
        rw[ho]at hoj;cases hoj
        rw[hd1]at hou;cases hou
        simp[h1,hu]
      have hne:d≠u:=by
        rintro rfl
        exact hd2 j o (by omega) hji hoj hou
      rw[if_neg hne]
      exact h2 j o u (by omega) hoj hou hu
    intro u hu
    have hne:d≠u:=by
      rintro rfl
      exact hu i ops[i] (by omega) ho hd1
    rw[List.getElem?_set,if_neg hne]
    exact h3 u (fun j o hj hoj=>hu j o (by omega) hoj)
theorem HH_char {base m:Nat} {s:St} {HH:Nat→HP} {dd:Nat→Option (List AV)} (h0:HH 0=s.H) (hH:∀j,j<m→HH (j+1)=updo (HH j) (base+j) (dd j)) (hfree:∀j,j<m→s.H (base+j)=none):
    ∀i,i≤m→∀id,HH i id=if base≤id∧id<base+i then dd (id-base)else s.H id:=by
  intro i
  induction i with
  |zero=>intro _ id;rw[h0,if_neg (by omega)]
  | succ i ih=>
    intro hi id
    rw[hH i (by omega)]
    have hi1:=ih (by omega)
    by_cases hid:id=base+i
    · subst hid
      rw[if_pos (by omega),show base+i-base=i by omega]
      cases hdd:dd i with
      | none=>
        simp only[updo];rw[hi1,if_neg (by omega)]
        exact hfree i (by omega)
      |some cs=>simp[updo]
    have hu:updo (HH i) (base+i) (dd i) id=HH i id:=by
      cases dd i with
      |none=>rfl
      |some cs=>exact upd_ne _ _ hid
    rw[hu,hi1]
    by_cases hc:base≤id∧id<base+i
    · rw[if_pos hc,if_pos (by omega)]
    rw[if_neg hc,if_neg (by omega)]
theorem ev_same {t t':List AV} {o:Oper} (h:∀u,Operand.tmp u∈o.op.operands→t[u]? =t'[u]?):∀x∈o.op.operands,evo t x=evo t' x:=by
  intro x hx
  cases x with
  |tmp u=>simp only[evo,List.getD_eq_getElem?_getD,h u hx]
  |const v=>rfl
  |global g=>rfl
  |func f=>rfl
theorem OpS.ev {o:Oper} {ev ev':Operand→AV} {H:HP} {id:Nat} {k:AV→HP→Prop} (h:OpS P o ev H id k) (he:∀x∈o.op.operands,ev x=ev' x):OpS P o ev' H id k:=
  fun L Av w ρ hs hf hL hH ho=>h L Av w ρ hs hf hL hH (fun x hx=>by rw[he x hx];exact ho x hx)
theorem unl_ge {listed:Array Bool} {m:Nat}:∀n,(∀i,m≤i→i<n→listed.getD i true=false)→n-m≤unl n listed:=by
  intro n
  induction n with
  |zero=>intro _;simp[unl]
  | succ n ih=>
    intro h
    have h1:=ih (fun i h1 h2=>h i h1 (by omega))
    have h2:unl (n+1) listed=unl n listed+(if listed.getD n true=false then 1 else 0):=by
      unfold unl
      rw[List.range_succ,List.filter_append,List.length_append]
      simp only[List.filter_cons,List.filter_nil]
      cases listed.getD n true<;>rfl
    rw[h2]
    by_cases hn:m≤n
    · rw[if_pos (h n hn (by omega))];omega
    omega
theorem head_any (hG:GOk P Γ) {ops:List Oper} {base m:Nat} {Q:Exit→Act→World→Prop} {s:St} {T:Nat→List AV} {HH:Nat→HP} {res:Nat→AV} {dd:Nat→Option (List AV)} (hdk:dok ops m=true)
    (hT0:T 0=s.t) (hT:∀j o,j<m→ops[j]? =some o→T (j+1)=putA (T j) o.dst (res j)) (hH0:HH 0=s.H) (hH:∀j,j<m→HH (j+1)=updo (HH j) (base+j) (dd j)) (hfree:∀j,j<m→s.H (base+j)=none)
    (hop:∀j o,j<m→ops[j]? =some o→(wan ops o.guard (T j)=some true∧QOk P o (evo (T j)) (HH j) (base+j) (res j) (dd j)∧(hdep o.op=false→∀H',QOk P o (evo (T j)) H' (base+j) (res j) (dd j))∧(lays o.op=false→dd j=none))∨
        (wan ops o.guard (T j)=some false∧res j= .c undef∧dd j=none))
    (htail:∀(fuel:Nat) (listed:Array Bool) (L:LM) (a:Act) (w:World),ops.length≤fuel+m→listed.size=ops.length→(∀i,i<ops.length→listed.getD i true=decide (i<m))→Shut ops listed→
      Cn cX ⟨T m,HH m,s.nx⟩ L a w→(∀i,m≤i→i<ops.length→L (base+i)=none)→wpA cX.rd P .any ops.toArray Q fuel listed a w) (hnx:base+ops.length≤s.nx) (hb0:cX.nx0≤base):
    ∀ (fuel:Nat) (listed:Array Bool) (s':St) (L:LM) (a:Act) (w:World),unl ops.length listed≤fuel→listed.size=ops.length→Shut ops listed→(∀i,m≤i→i<ops.length→listed.getD i true=false)→Part ops base m s res dd listed s'→
      Cn cX s' L a w→(∀i,i<ops.length→listed.getD i true=false→L (base+i)=none)→wpA cX.rd P .any ops.toArray Q fuel listed a w:=by
  obtain⟨d1,d2,d3,d4⟩:=dok_parts hdk
  have hdst:∀j o,j<m→ops[j]? =some o→∃d,o.dst=some d∧∀i o',i<m→i≠j→ops[i]? =some o'→o'.dst≠some d:=fun j o hj ho=>(d3 j o hj ho).1
  have tch:=T_char d1 hT0 hT hdst
  have hch:=HH_char hH0 hH hfree
  --all of the head has run
  have fin:∀(fuel:Nat) (listed:Array Bool) (s':St) (L:LM) (a:Act) (w:World),unl ops.length listed≤fuel→listed.size=ops.length→Shut ops listed→(∀i,m≤i→i<ops.length→listed.getD i true=false)→Part ops base m s res dd listed s'→
      Cn cX s' L a w→(∀i,i<ops.length→listed.getD i true=false→L (base+i)=none)→(∀i,i<m→listed.getD i true=true)→wpA cX.rd P .any ops.toArray Q fuel listed a w:=by
    intro fuel listed s' L a w hf hsz hs htl hp c hfr hdone
    obtain⟨t1,t2,t3⟩:=tch m (Nat.le_refl _)
    have e1:s'.t=T m:=by
      apply List.ext_getElem?
      intro u
      by_cases hu:u<s.t.length
      · by_cases hex:∃i o,i<m∧ops[i]? =some o∧o.dst=some u
        · obtain⟨i,o,hi,ho,hou⟩:=hex
          rw[hp.done i o u hi (hdone i hi) ho hou hu,t2 i o u hi ho hou hu]
        rw[hp.rest u (fun i o hi _ ho hou=>hex ⟨i,o,hi,ho,hou⟩),t3 u (fun i o hi ho hou=>hex ⟨i,o,hi,ho,hou⟩)]
      rw[List.getElem?_eq_none (by have:=hp.len;omega),List.getElem?_eq_none (by omega)]
    have e2:s'.H=HH m:=by
      funext id
      rw[hp.heap id,hch m (Nat.le_refl _) id]
      by_cases hc:base≤id∧id<base+m
      · rw[if_pos ⟨hc.1,hc.2,hdone _ (by omega)⟩,if_pos hc]
      rw[if_neg (fun h=>hc ⟨h.1,h.2.1⟩),if_neg hc]
    have e3:s'=⟨T m,HH m,s.nx⟩:=by
      have:=hp.nx
      cases s';simp only at e1 e2 this;rw[e1,e2,this]
    have hge:=unl_ge ops.length htl
    refine htail fuel listed L a w (by omega) hsz ?_ hs (e3▸c) (fun i h1 h2=>hfr i h2 (htl i h1 h2))
    intro i hi
    by_cases him:i<m
    · rw[hdone i him];simp[him]
    rw[htl i (by omega) hi];simp[him]
  intro fuel
  induction fuel with
  | zero=>
    intro listed s' L a w hf hsz hs htl hp c hfr
    refine fin 0 listed s' L a w hf hsz hs htl hp c hfr ?_
    intro i hi
    cases hc:listed.getD i true with
    |true=>rfl
    | false=>
      have:0<unl ops.length listed:=by
        unfold unl
        exact List.length_pos_of_mem (List.mem_filter.2 ⟨List.mem_range.2 (show i<ops.length by omega),by rw[hc];rfl⟩)
      omega
  | succ fuel ih=>
    intro listed s' L a w hf hsz hs htl hp c hfr
    by_cases hdone:∀i,i<m→listed.getD i true=true
    · exact fin _ listed s' L a w hf hsz hs htl hp c hfr hdone
    --the first that has not run
    have hex:∃i,i<m∧listed.getD i true=false:=by
      apply Classical.byContradiction
      intro hno
      apply hdone
      intro i hi
      cases hc:listed.getD i true with
      |true=>rfl
      |false=>exact absurd ⟨i,hi,hc⟩ hno
    obtain⟨i0,hi0,hu0,hmin⟩:∃i,i<m∧listed.getD i true=false∧∀k,k<i→listed.getD k true=true:=by
      obtain⟨i,hi,hu⟩:=hex
      induction i using Nat.strongRecOn with
      | _ i ihh=>
        by_cases hk:∃k,k<i∧listed.getD k true=false
        · obtain⟨k,hk1,hk2⟩:=hk
          exact ihh k hk1 (by omega) hk2
        refine⟨i,hi,hu,?_⟩
        intro k hk1
        cases hc:listed.getD k true with
        |true=>rfl
        |false=>exact absurd ⟨k,hk1,hc⟩ hk
    have hrd:=first_ready d2 (show i0<ops.length by omega) hsz hmin hu0
    refine⟨(fun h0=>by rw[h0]at hrd;cases hrd),?_⟩
    intro j hj
    obtain⟨hjl,hju,_⟩:=ready_iff.1 hj
    have hjm:j<m:=by
      apply Classical.byContradiction
      intro hjm
      have:=ready_waits hs hj (d4 j ops[j] (by omega) (List.getElem?_eq_getElem hjl) i0 (by omega))
      rw[this]at hu0;cases hu0
    have ho:ops[j]? =some ops[j]:=List.getElem?_eq_getElem hjl
    obtain⟨⟨d,hd1,hd2⟩,hlk,hhd⟩:=d3 j ops[j] hjm ho
    --what it looks at is as in the text's order
    have hsame:∀u∈looks ops ops[j],s'.t[u]? =(T j)[u]? :=by
      intro u hu
      obtain⟨t1,t2,t3⟩:=tch j (by omega)
      by_cases hul:u<s.t.length
      · by_cases hex:∃i o,i<m∧i≠j∧ops[i]? =some o∧o.dst=some u
        · obtain⟨i,o,hi,hij,hoi,hou⟩:=hex
          have hw:=hlk u hu i o hi hij hoi hou
          by_cases hlt:i<j
          · rw[if_pos hlt]at hw
            rw[hp.done i o u hi (ready_waits hs hj hw) hoi hou hul,t2 i o u hlt hoi hou hul]
          rw[if_neg hlt]at hw
          obtain⟨d',hd1',hd2'⟩:=hdst i o hi hoi
          rw[hou]at hd1';cases hd1'
          have hiu:listed.getD i true=false:=by
            cases hc:listed.getD i true with
            |false=>rfl
            |true=>have:=hs _ _ hw hc;rw[this]at hju;cases hju
          have q1:s'.t[u]? =s.t[u]? :=by
            refine hp.rest u (fun k o' hk hkl hko hku=>?_)
            by_cases hki:k=i
            · subst hki;rw[hiu]at hkl;cases hkl
            exact hd2' k o' hk hki hko hku
          have q2:(T j)[u]? =s.t[u]? :=t3 u (fun k o' hk hko hku=>hd2' k o' (by omega) (by omega) hko hku)
          rw[q1,q2]
        have q1:s'.t[u]? =s.t[u]? :=by
          refine hp.rest u (fun k o' hk hkl hko hku=>?_)
          by_cases hkj:k=j
          · subst hkj;rw[hju]at hkl;cases hkl
          exact hex ⟨k,o',hk,hkj,hko,hku⟩
        have q2:(T j)[u]? =s.t[u]? :=t3 u (fun k o' hk hko hku=>hex ⟨k,o',by omega,by omega,hko,hku⟩)
        rw[q1,q2]
      rw[List.getElem?_eq_none (by have:=hp.len;omega),List.getElem?_eq_none (by omega)]
    have hev:∀x∈ops[j].op.operands,evo (T j) x=evo s'.t x:=by
      refine ev_same (fun u hu=>(hsame u ?_).symm)
      unfold looks
      refine List.mem_append_left _ (List.mem_filterMap.2 ⟨.tmp u,by simpa using hu,rfl⟩)
    have hwan:wan ops ops[j].guard s'.t=wan ops ops[j].guard (T j):=by
      unfold wan
      cases hg:ops[j].guard with
      |none=>rfl
      | some gw=>
        obtain⟨g,want⟩:=gw
        simp only
        cases hb:(ops[g]?).bind (·.dst)with
        |none=>rfl
        | some dg=>
          simp only
          rw[hsame dg]
          unfold looks
          rw[hg]
          simp only
          exact List.mem_append_right _ (by rw[hb];simp)
    --the state behind it
    have hnext:∀(L':LM) (u:Value) (w':World),Cn cX ⟨putA s'.t ops[j].dst (res j),updo s'.H (base+j) (dd j),s'.nx⟩ L' (a.put ops[j].dst u) w'→(∀i,i≠base+j→L' i=L i)→wpA cX.rd P .any ops.toArray Q fuel (listed.setIfInBounds j true) (a.put ops[j].dst u) w':=by
      intro L' u w' hc hL
      refine ih _ _ L' _ w' (by have:=unl_set hju hjl;omega) (by simpa using hsz) (hs.set hj) (fun i h1 h2=>by rw[get_set hju,if_neg (by omega)];exact htl i h1 h2) ?_ hc ?_
      · rw[hd1]
        simp only[putA];refine⟨by simpa using hp.len,?_,?_,?_,hp.nx⟩
        · intro i o u' hi hil hoi hou hul
          rw[get_set hju]at hil
          simp only[List.getElem?_set]
          by_cases hij:i=j
          · subst hij
            rw[ho]at hoi;cases hoi
            rw[hd1]at hou;cases hou
            have:=hp.len
            simp[this,hul]
          rw[if_neg hij]at hil
          have hne:d≠u':=by rintro rfl;exact hd2 i o hi hij hoi hou
          rw[if_neg hne]
          exact hp.done i o u' hi hil hoi hou hul
        · intro u' hu'
          have hne:d≠u':=by
            rintro rfl
            exact hu' j ops[j] hjm (by rw[get_set hju,if_pos rfl]) ho hd1
          simp only[List.getElem?_set]
          rw[if_neg hne]
          refine hp.rest u' (fun i o hi hil hoi=>hu' i o hi ?_ hoi)
          rw[get_set hju];split
          · rfl
          exact hil
        intro id
        show updo s'.H (base+j) (dd j) id=_
        have hidx:(base≤id∧id<base+m∧(listed.setIfInBounds j true).getD (id-base) true=true)↔(id=base+j∨(base≤id∧id<base+m∧listed.getD (id-base) true=true)):=by
          rw[get_set hju]
          constructor
          · rintro⟨h1,h2,h3⟩
            split at h3
            · exact .inl (by omega)
            exact .inr ⟨h1,h2,h3⟩
          rintro(h1|⟨h1,h2,h3⟩)
          · exact⟨by omega,by omega,by rw[if_pos (by omega)]⟩
          refine⟨h1,h2,?_⟩
          split
          · rfl
          exact h3
        by_cases hid:id=base+j
        · rw[if_pos (hidx.2 (.inl hid))]
          subst hid
          rw[show base+j-base=j by omega]
          cases hdd:dd j with
          | none=>
            simp only[updo];rw[hp.heap,if_neg]
            · exact hfree j hjm
            rintro⟨_,_,h3⟩
            rw[show base+j-base=j by omega,hju]at h3;cases h3
          |some cs=>simp[updo]
        have hu:updo s'.H (base+j) (dd j) id=s'.H id:=by
          cases dd j with
          |none=>rfl
          |some cs=>exact upd_ne _ _ hid
        rw[hu,hp.heap id]
        by_cases hc2:base≤id∧id<base+m∧listed.getD (id-base) true=true
        · rw[if_pos hc2,if_pos (hidx.2 (.inr hc2))]
        rw[if_neg hc2,if_neg (fun h=>(hidx.1 h).elim hid hc2)]
      intro i hi hil
      rw[get_set hju]at hil
      by_cases hij:i=j
      · rw[if_pos hij]at hil;cases hil
      rw[if_neg hij]at hil
      rw[hL _ (by omega)]
      exact hfr i hi hil
    unfold wpO
    simp only[List.getElem?_toArray,ho]
    rcases hop j ops[j] hjm ho with ⟨hw,hq,hq2,hq3⟩|⟨hw,hr,hdn⟩
    · rw [← hwan] at hw
      rcases gop_wanted c (wan_gop hw) ops[j] rfl with ⟨hwt,_⟩|⟨_,hf'⟩
      · rw[if_pos hwt]
        left
        have hsub :∀i c,(if hdep ops[j].op=true then HH j else noH) i=some c→s'.H i=some c:=by
          intro id cs hid
          cases hdp:hdep ops[j].op with
          |false=>rw[hdp]at hid;cases hid
          | true=>
            rw[hdp]at hid
            simp only[if_true]at hid
            rw[hch j (by omega) id]at hid
            rw[hp.heap id]
            by_cases hc2:base≤id∧id<base+j
            · rw[if_pos hc2]at hid
              have hki:id-base<ops.length:=by omega
              have hok:ops[id-base]? =some ops[id-base]:=List.getElem?_eq_getElem hki
              have hlk':lays ops[id-base].op=true:=by
                cases hly:lays ops[id-base].op with
                |true=>rfl
                | false=>
                  rcases hop (id-base) _ (by omega) hok with ⟨_,_,_,h9⟩|⟨_,_,h9⟩
                  · rw[h9 hly]at hid;cases hid
                  rw[h9]at hid;cases hid
              have hwt2:=ready_waits hs hj (hhd hdp (id-base) _ (by omega) hok hlk')
              rw[if_pos ⟨hc2.1,by omega,hwt2⟩];exact hid
            rw[if_neg hc2]at hid
            rw[if_neg]
            · exact hid
            rintro⟨h1,h2,_⟩
            have:=hfree (id-base) (by omega)
            rw[show base+(id-base)=id by omega,hid]at this;cases this
        have hq':QOk P ops[j] (evo (T j)) (if hdep ops[j].op=true then HH j else noH) (base+j) (res j) (dd j):=by
          cases hdp:hdep ops[j].op with
          |true=>simpa using hq
          |false=>simpa using hq2 hdp noH
        have hLj:=hfr j hjl hju
        have hHj:s'.H (base+j)=none:=by
          cases hh:s'.H (base+j)with
          |none=>rfl
          |some cs=>obtain⟨l,h1,_⟩:=c.sr.node _ cs hh;rw[hLj]at h1;cases h1
        have hos:=(hq' s'.H hsub).ev hev
        refine(hos L cX.Av w a.eval c.sr ⟨_,c.fr⟩ hLj hHj (fun x _=>c.ev x)).wp ?_
        rintro u w' ⟨r,H',L',⟨rfl,rfl⟩,h2,h3,h4,h5⟩
        refine hnext L' u w' ?_ h2
        obtain⟨p1,p2,p3⟩:=put_fits (a:=a) c.sz (fun k y hk=>(c.sl k y hk).step h4) ops[j].dst h5
        have hnx':=hp.nx
        refine⟨dfp p1 (c.df.step c.sr h4),p2,p3,h3,?_,c.nx,?_,c.st.trans h4⟩
        · intro i hi';simp only at hi';rw[h2 i (by omega)];exact c.fr i hi'
        intro i hi';rw[h2 i (by omega)];exact c.lo i hi'
      cases hf'
    rw[←hwan]at hw
    rcases gop_wanted c (wan_gop hw) ops[j] rfl with ⟨_,hf'⟩|⟨hwt,_⟩
    · cases hf'
    rw[if_neg (by simp[hwt])]
    refine hnext L _ w ?_ (fun _ _=>rfl)
    rw[hr,hdn]
    obtain⟨p1,p2,p3⟩:=put_fits (a:=a) c.sz c.sl ops[j].dst (R.c undef)
    exact⟨dfp p1 c.df,p2,p3,c.sr,c.fr,c.nx,c.lo,c.st⟩
theorem AW.draw {cX:Ctx} (hG:GOk P Γ) (hmx:P.follows .mixedOrders=true) {n:Nat} {ops:Array Oper} {s:St} {K:Exit→St→Prop} (m:Nat) (hd:dok ops.toList m=true)
    (h:hrun Γ P ops.toList s.nx (ops.toList.take m) 0 s.t s.H fun t H=>arun Γ P ops.toList s.nx (ops.toList.drop m) m ⟨t,H,s.nx+ops.toList.length⟩ (K .normal)):AW cX P (.region n ops true) s K:=by
  intro L a w Q hc hQ
  obtain⟨d1,d2,d3,d4⟩:=dok_parts hd
  refine wpA_region hmx ?_
  obtain⟨T,HH,res,dd,h1,h2,h3,h4,h5,h6⟩:=hrun_head (m:=m) hG _ 0 s.t s.H (by simp) (by omega) h
  rw[show min m ops.toList.length=m by omega]at h3
  have hHn:∀j,s.H (s.nx+j)=none:=by
    intro j
    cases hh:s.H (s.nx+j)with
    |none=>rfl
    |some cs=>obtain⟨l,g1,_⟩:=hc.sr.node _ cs hh;rw[hc.fr _ (by omega)]at g1;cases g1
  have hdr:Cn cX ⟨s.t,s.H,s.nx+ops.toList.length⟩ L a {w with drawn:=w.drawn+1}:=
    ⟨hc.df.same rfl,hc.sz,fun k x hk=>(hc.sl k x hk).drew,hc.sr.drew,fun i hi=>hc.fr i (by simp only at hi;omega),by have:=hc.nx;simp only;omega,hc.lo,hc.st.trans (Step.drew _ _ _)⟩
  have:=head_any (Q:=Q) (s:=⟨s.t,s.H,s.nx+ops.toList.length⟩) (base:=s.nx) hG hd h1 (fun j o hj ho=>h4 j o (by omega) hj ho) h2 (fun j hj=>h5 j (by omega) hj (by omega)) (fun j hj=>hHn j)
    (fun j o hj ho=>h6 j o (by omega) hj ho) (fun fuel listed L' a' w' g1 g2 g3 g4 g5 g6=>tail_any (m:=m) (hi:=s.nx+ops.toList.length) (base:=s.nx) hG d2 d4 (Nat.le_refl _) (fun s' L' a' w' hk hc'=>hQ _ _ _ _ _ hk hc') fuel m listed _ L' a' w' (Nat.le_refl _) d1 g1 g2 g3 g4 h3
      ⟨g5,fun i h1 h2=>by have:=g6 (i-s.nx) (by omega) (by omega);rwa [show s.nx+(i-s.nx)=i by omega]at this,by simp only;omega,by have:=hc.nx;omega⟩) (by simp only;omega) hc.nx
    ops.size (Array.replicate ops.size false) ⟨s.t,s.H,s.nx+ops.toList.length⟩ L a {w with drawn:=w.drawn+1} (by
      unfold unl
      exact Nat.le_trans (List.length_filter_le _ _) (by simp)) (by simp) (by
      intro i j hw hj
      have:=hw.len
      simp only[Array.length_toList]at this
      simp[Array.getD_eq_getD_getElem?,this]at hj) (by
      intro i _ hi
      simp only[Array.length_toList]at hi
      simp[Array.getD_eq_getD_getElem?,hi]) ⟨rfl,by
        intro i o u hi hl ho
        have:=(List.getElem?_eq_some_iff.1 ho).1
        simp only[Array.length_toList]at this
        simp[Array.getD_eq_getD_getElem?,this]at hl,fun u _=>rfl,by
        intro id
        rw[if_neg]
        rintro⟨g1,g2,g3⟩
        have:id-s.nx<ops.size:=by simp only[Array.length_toList]at d1;omega
        simp[Array.getD_eq_getD_getElem?,this]at g3,rfl⟩ hdr (fun i hi _=>hc.fr _ (by omega))
  simpa using this
end
end
end Go.Proofs.YtghmeeifjeafmaaGreat
