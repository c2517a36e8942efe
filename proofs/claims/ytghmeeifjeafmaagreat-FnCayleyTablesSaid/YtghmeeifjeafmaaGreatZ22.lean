import Derived.Test.YtghmeeifjeafmaaGreatZ20
import Derived.Test.YtghmeeifjeafmaaGreatZ21
set_option linter.unusedVariables false
set_option linter.unusedSimpArgs false
namespace Go.Proofs.YtghmeeifjeafmaaGreat
section
variable{P:Program}{Γ:BV}
inductive Tr
  |nil
  |br (j:Nat) (sub next:Tr)
def Tr.isNil:Tr→Bool
  | .nil=>true
  | .br _ _ _=>false
def lP:Tr→Nat→Bool
  | .nil,_=>false
  | .br j _ next,i=>j==i||lP next i
def jE(ops:List Oper)(t:Tr)(rem:List Nat):Bool:=(rem.all fun i=>(rem.any fun k=>k !=i && wt ops (cls ops []) k i)||lP t i)&&(!rem.isEmpty||t.isNil)
def NA(ops:List Oper):Tr→List Nat→Bool
  | .nil,_=>true
  | .br j sub next,rem=>jE ops sub (rem.erase j)&& NA ops sub (rem.erase j)&& NA ops next rem
def MG(ops:List Oper)(t:Tr)(rem:List Nat):Bool:=jE ops t rem && NA ops t rem
theorem XY{ops:List Oper}{t:Tr}(h:MG ops t []=true):t= .nil:=by
  cases t with
  |nil=>rfl
  |br j sub next=>simp[MG,jE,Tr.isNil]at h
theorem qR{ops:List Oper}{t:Tr}{rem:List Nat}(h:MG ops t rem=true){i:Nat}(hi:i∈rem)(hn:(rem.any fun k=>k !=i && wt ops (cls ops []) k i)=false):lP t i=true:=by
  simp only[MG,jE,Bool.and_eq_true]at h;have:=List.all_eq_true.1 h.1.1 i hi;rw[hn]at this;simpa using this
theorem qS{ops:List Oper}{t:Tr}{rem:List Nat}(h:MG ops t rem=true):NA ops t rem=true:=by
  simp only[MG,Bool.and_eq_true]at h;exact h.2
def RE:List Oper→Nat→(Oper→Prop)→Prop
  |[],_,_=>False
  |o::_,0,k=>k o
  |_::l,n+1,k=>RE l n k
theorem qU:∀{ops:List Oper} {i:Nat} {o:Oper} {k:Oper→Prop},ops[i]? =some o→RE ops i k→k o:=by
  intro ops;induction ops with
  |nil=>intro i o k h;simp at h
  | cons a l ih=>
    intro i o k h hk;cases i with
    |zero=>simp at h;subst h;exact hk
    |succ i=>exact ih (by simpa using h) hk
def ES(Γ:BV)(P:Program)(base:Nat)(ops:List Oper):Tr→St→(St→Prop)→Prop
  | .nil,s,K=>K s
  | .br j sub .nil,s,K=>RE ops j fun o=>HA Γ P o.dst o.op (base+j) s fun s'=>ES Γ P base ops sub s' K
  | .br j sub (.br k a b),s,K=>(RE ops j fun o=>HA Γ P o.dst o.op (base+j) s fun s'=>ES Γ P base ops sub s' K)∧ES Γ P base ops (.br k a b) s K
theorem Iw{ops:List Oper}{base i:Nat}{rem:List Nat}{s:St}{K:St→Prop}:∀{t:Tr},lP t i=true→NA ops t rem=true→ES Γ P base ops t s K→
    ∃sub,MG ops sub (rem.erase i)=true∧RE ops i fun o=>HA Γ P o.dst o.op (base+i) s fun s'=>ES Γ P base ops sub s' K:=by
  intro t;induction t with
  |nil=>intro h;cases h
  | br j sub next ih1 ih2=>
    intro h1 h2 h3;simp only[NA,Bool.and_eq_true]at h2;have h4:RE ops j fun o=>HA Γ P o.dst o.op (base+j) s fun s'=>ES Γ P base ops sub s' K:=by
      cases next with
      |nil=>simpa only[ES]using h3
      |br k a b=>simp only[ES]at h3;exact h3.1
    by_cases e:j=i
    · subst e;exact⟨sub,by simp only[MG,Bool.and_eq_true];exact h2.1,h4⟩
    have h5:lP next i=true:=by
      simp only[lP,Bool.or_eq_true,beq_iff_eq]at h1;exact h1.resolve_left e
    cases next with
    |nil=>cases h5
    |br k a b=>simp only[ES]at h3;exact ih2 h5 h2.2 h3.2
structure Tx(ops:List Oper)(m:List Bool):Prop where
  lt:∀j o,ops[j]? =some o→∀e∈o.after.toList,Region.binds .any e=true→e.on<j
  g:∀(j:Nat) (o:Oper),ops[j]? =some o→o.guard=none
  fl:∀j o,ops[j]? =some o→m.getD j false=true→KB o.op=false∧(∃d,o.dst=some d∧∀i o',ops[i]? =some o'→i≠j→o'.dst≠some d)∧
    ∀u,u∈dF o→∀i o',ops[i]? =some o'→o'.dst=some u→(m.getD i false=true∧i<j∧DO ops i j)∨(m.getD i false=false∧DO ops j i)
  sp:∀j o,ops[j]? =some o→m.getD j false=false→∀u,u∈dF o→∀i o',ops[i]? =some o'→m.getD i false=true→o'.dst=some u→DO ops i j
def others(ops:List Oper)(m:List Bool):List Nat:=(List.range ops.length).filter fun i=> !m.getD i false
def Ix(ops:List Oper)(m:List Bool)(t:Tr):Bool:=
  let cl:=cls ops []
  (ops.zipIdx.all fun (o,j)=>o.after.toList.all fun e=> !Region.binds .any e||e.on<j)&&
  (ops.all fun o=>o.guard.isNone)&&
  (ops.zipIdx.all fun (o,j)=>
    if m.getD j false=true then
      !KB o.op &&
      (match o.dst with|some d=>ops.zipIdx.all fun (o',i)=>i==j|| !(o'.dst==some d)|none=>false)&&
      ((dF o).all fun u=>ops.zipIdx.all fun (o',i)=> !(o'.dst==some u)||(if m.getD i false=true then decide (i<j)&& wt ops cl i j else wt ops cl j i))
    else
      ((dF o).all fun u=>ops.zipIdx.all fun (o',i)=> !(m.getD i false && o'.dst==some u)||wt ops cl i j))&&
  MG ops t (others ops m)
theorem eX{ops:List Oper}{m:List Bool}{t:Tr}(h:Ix ops m t=true):Tx ops m∧MG ops t (others ops m)=true:=by
  unfold Ix at h;simp only[Bool.and_eq_true]at h;obtain⟨⟨⟨h1,h2⟩,h3⟩,hto⟩:=h;refine⟨⟨?_,?_,?_,?_⟩,hto⟩
  · intro j o ho e he hb;have:=List.all_eq_true.1 (FB h1 ho) e he;simpa[hb]using this
  · intro j o ho;have:=List.all_eq_true.1 h2 o (List.mem_of_getElem? ho);simpa using this
  · intro j o ho hm;have h4:=FB h3 ho;simp only[hm,if_true,Bool.and_eq_true]at h4;obtain⟨⟨h5,h6⟩,h7⟩:=h4;refine⟨by simpa using h5,?_,?_⟩
    · cases hd:o.dst with
      |none=>rw[hd]at h6;cases h6
      | some d=>
        rw[hd]at h6;refine⟨d,rfl,fun i o' hi JI he=>?_⟩;have:=FB h6 hi;simp[JI,he]at this
    intro u hu i o' hi he;have h8:=FB (List.all_eq_true.1 h7 u hu) hi;simp only[he,beq_self_eq_true,Bool.not_true,Bool.false_or]at h8;split at h8
    · rename_i Z4;simp only[Bool.and_eq_true,decide_eq_true_eq]at h8;exact .inl ⟨Z4,h8.1,E8 h8.2⟩
    rename_i Z4;exact .inr ⟨by simpa using Z4,E8 h8⟩
  intro j o ho hm;have h4:=FB h3 ho;simp only[hm,Bool.false_eq_true,if_false]at h4;intro u hu i o' hi Z4 he;have h8:=FB (List.all_eq_true.1 h4 u hu) hi;simp only[Z4,he,beq_self_eq_true,Bool.and_self,Bool.not_true,Bool.false_or]at h8;exact E8 h8
end
section
variable{P:Program}{Γ:BV}{cX:Ctx}
theorem qV(hG:GJ P Γ){ops:List Oper}{m:List Bool}(hd:Tx ops m){base:Nat}{T:Nat→List AV}{res:Nat→AV}{Q:Exit→Act→World→Prop}{K':St→Prop}
    (hT:∀j o,ops[j]? =some o→m.getD j false=true→T (j+1)=BF (T j) o.dst (res j)∧∃d,E5 P o (BK (T j)) BN (base+j) (res j) d∧(KB o.op=false→d=none))
    (hS:∀j,j<ops.length→m.getD j false=false→T (j+1)=T j) (LV:cX.Az≤base)
    (hQ:∀s' L' a' w',K' s'→Cn cX s' L' a' w'→Q .normal a' w'):
    ∀ (fuel:Nat) (tr:Tr) (rem:List Nat) (AA:Array Bool) (s:St) (t':List AV) (L:LM) (a:Act) (w:World),aR ops.length AA≤fuel→AA.size=ops.length→WN ops AA→
      (∀i,i<ops.length→m.getD i false=false→(AA.getD i true=false↔i∈rem))→rem.Nodup→(∀i∈rem,i<ops.length∧m.getD i false=false)→MG ops tr rem=true→
      ES Γ P base ops tr s K'→
      (∀u,(∀(j:Nat) (o:Oper),ops[j]? =some o→m.getD j false=false→AA.getD j true=true→o.dst≠some u)→s.t[u]? =(T ops.length)[u]?)→s.t.length=(T ops.length).length→t'.length=s.t.length→
      (∀u,(∀(j:Nat) (o:Oper),ops[j]? =some o→m.getD j false=true→AA.getD j true=false→o.dst≠some u)→t'[u]? =s.t[u]?)→
      Cn cX ⟨t',s.H,s.nx⟩ L a w→(∀i,i<ops.length→AA.getD i true=false→L (base+i)=none)→base+ops.length≤s.nx→
      tS cX.rd P .any ops.toArray Q fuel AA a w:=by
  have Tn:=fun j o ho hm=>(hT j o ho hm).1
  have qP:=jA Tn hS;have bQ:=Z5 Tn hS;have To:∀{o:Oper} {t1 t2:List AV},(∀u∈dF o,t1[u]? =t2[u]?)→∀x∈o.op.operands,BK t1 x=BK t2 x:=by
    intro o t1 t2 h x hx;cases x with
    | tmp u=>
      have:=h u (by unfold dF;exact List.mem_filterMap.2 ⟨.tmp u,by simpa using hx,rfl⟩);simp only[BK,List.getD_eq_getElem?_getD,this]
    |_=>simp[BK]
  intro fuel;induction fuel with
  | zero=>
    intro tr rem AA s t' L a w hf EW hs J9 NH WQ LK h ha HR ME IZ hc C7 Ml;have HX:∀i,i<ops.length→AA.getD i true=true:=by
      intro i hi;cases hb:AA.getD i true with
      |true=>rfl
      |false=>have:=PJ hb hi;omega
    obtain rfl:rem=[]:=List.eq_nil_iff_forall_not_mem.2 fun i hi=>by
      have:=(J9 i (WQ i hi).1 (WQ i hi).2).2 hi;rw[HX i (WQ i hi).1]at this;cases this
    obtain rfl:=XY LK;have ht:t'=s.t:=List.ext_getElem? fun u=>IZ u fun j o ho _ hb=>by
      rw[HX j (List.getElem?_eq_some_iff.1 ho).1]at hb;cases hb
    subst ht;refine⟨?_,hQ _ _ _ _ h hc⟩;rw[List.eq_nil_iff_forall_not_mem];intro i FV;obtain⟨h1,h2,_⟩:=DP.1 FV;rw[HX i h1]at h2;cases h2
  | succ fuel ih=>
    intro tr rem AA s t' L a w hf EW hs J9 NH WQ LK h ha HR ME IZ hc C7 Ml;refine⟨fun h0=>?_,?_⟩
    · have HX:∀i,i<ops.length→AA.getD i true=true:=by
        intro i hi;cases hb:AA.getD i true with
        |true=>rfl
        |false=>exact absurd h0 (bP hd.lt EW i hi hb)
      obtain rfl:rem=[]:=List.eq_nil_iff_forall_not_mem.2 fun i hi=>by
        have:=(J9 i (WQ i hi).1 (WQ i hi).2).2 hi;rw[HX i (WQ i hi).1]at this;cases this
      obtain rfl:=XY LK;have ht:t'=s.t:=List.ext_getElem? fun u=>IZ u fun j o ho _ hb=>by
        rw[HX j (List.getElem?_eq_some_iff.1 ho).1]at hb;cases hb
      subst ht;exact hQ _ _ _ _ h hc
    intro i FV;obtain⟨h1,h2,_⟩:=DP.1 FV;have ho:ops[i]? =some ops[i]:=List.getElem?_eq_getElem h1;have Sr:=hd.g i _ ho;have HS:∀k,(AA.setIfInBounds i true).getD k true=false↔k≠i∧AA.getD k true=false:=by
      intro k;rw[DB h2];by_cases e:k=i
      · simp[e]
      simp[e]
    have hun:=PJ h2 h1;unfold Lt;simp only[List.getElem?_toArray,ho];rw[if_pos (by simp[Region.wanted,Sr])];refine .inl ?_;cases hm:m.getD i false with
    | true=>
      obtain⟨f1,⟨d,f2,f3⟩,f4⟩:=hd.fl i _ ho hm;obtain⟨g1,dd,g2,g3⟩:=hT i _ ho hm;have g3:=g3 f1;subst g3;have mS:∀u∈dF ops[i],(T i)[u]? =t'[u]? :=by
        intro u hu;have hw:=f4 u hu;have e1:t'[u]? =s.t[u]? :=IZ u fun j o hj GZ OW he=>by
          rcases hw j o hj he with ⟨_,_,iD⟩|⟨Na,_⟩
          · rw[CS hs FV iD]at OW;cases OW
          rw[Na]at GZ;cases GZ
        have e2:s.t[u]? =(T ops.length)[u]? :=ha u fun j o hj GZ OW he=>by
          rcases hw j o hj he with ⟨k1,_,_⟩|⟨_,iD⟩
          · rw[k1]at GZ;cases GZ
          rw[hs i j iD OW]at h2;cases h2
        have e3:=bQ u i (ops.length-i) (by omega) (fun g o k1 k2 hg Tp he=>by
          rcases hw g o hg he with ⟨_,k3,_⟩|⟨k3,_⟩
          · omega
          rw[Tp]at k3;cases k3)
        rw[show i+(ops.length-i)=ops.length by omega]at e3;rw[e1,e2,e3]
      have Ba:=(g2 s.H (fun _ _ h=>by cases h)).ev (To mS);refine j9 Ba hc (C7 i h1 h2) (by omega) (by omega) ?_;rintro r H' L' a' w' ⟨rfl,rfl⟩ hL PF;refine ih tr rem _ s (BF t' ops[i].dst (res i)) L' a' w' (by omega) (by simpa using EW) (hs.set FV) (fun k hk MF=>?_) NH WQ LK h (fun u hu=>ha u fun j o hj GZ OW=>hu j o hj GZ (by rw[DB h2];split<;>first|rfl|exact OW)) HR (by rw[IF];exact ME) (fun u hu=>?_) PF (fun k hk eD=>?_) Ml
      · rw[←J9 k hk MF,HS k];exact⟨fun h=>h.2,fun h=>⟨fun e=>(by rw[e,hm]at MF;cases MF),h⟩⟩
      · by_cases e:u=d
        · subst e;have e2:s.t[u]? =(T ops.length)[u]? :=ha u fun j o hj GZ _ he=>f3 j o hj (fun e=>by rw[e,hm]at GZ;cases GZ) he
          have e3:=bQ u (i+1) (ops.length-(i+1)) (by omega) (fun g o k1 k2 hg Tp he=>f3 g o hg (by omega) he);rw[show i+1+(ops.length-(i+1))=ops.length by omega]at e3;rw[e2,e3,g1,f2];exact TN (by rw[ME,HR,qP _ (Nat.le_refl _),qP i (by omega)]) (.inl rfl)
        rw[KM (by rw[f2];intro e2;cases e2;exact e rfl)];refine IZ u fun j o hj GZ OW he=>?_
        by_cases ej:j=i
        · subst ej;rw[ho]at hj;cases hj;rw[f2]at he;cases he;exact e rfl
        exact hu j o hj GZ ((HS j).2 ⟨ej,OW⟩) he
      obtain⟨k1,k2⟩:=(HS k).1 eD;rw[hL _ (by omega)];exact C7 k hk k2
    | false=>
      have f2:=hd.sp i _ ho hm;have hir:i∈rem:=(J9 i h1 hm).1 h2;have hnr:(rem.any fun k=>k !=i && wt ops (cls ops []) k i)=false:=by
        cases hb:rem.any fun k=>k !=i && wt ops (cls ops []) k i with
        |false=>rfl
        | true=>
          obtain⟨k,hk,EX⟩:=List.any_eq_true.1 hb;simp only[Bool.and_eq_true]at EX;have h5:=CS hs FV (E8 EX.2);rw[(J9 k (WQ k hk).1 (WQ k hk).2).2 hk]at h5;cases h5
      obtain⟨sub,U4,h3⟩:=Iw (qR LK hir hnr) (qS LK) h;have h4:=qU ho h3;have mS:∀u∈dF ops[i],s.t[u]? =t'[u]? :=by
        intro u hu;exact(IZ u fun j o hj GZ OW he=>by
          rw[CS hs FV (f2 u hu j o hj GZ he)]at OW;cases OW).symm
      refine V1 hG h4 (To mS) hc (C7 i h1 h2) (by omega) (by omega) ?_;intro r H' nx' L' a' w' hk Ox hL PF;refine ih sub (rem.erase i) _ ⟨BF s.t ops[i].dst r,H',nx'⟩ (BF t' ops[i].dst r) L' a' w' (by omega) (by simpa using EW) (hs.set FV) (fun k hk MF=>?_) (NH.erase i) (fun k hk=>WQ k (List.mem_of_mem_erase hk)) U4 hk (fun u hu=>?_) (by simp only[IF];exact HR) (by simp only[IF];exact ME) (fun u hu=>?_) PF (fun k hk eD=>?_) (by simp only;omega)
      · rw[HS k,J9 k hk MF,NH.mem_erase_iff]
      · simp only
        rw[KM (hu i _ ho hm (by rw[DB h2,if_pos rfl]))];exact ha u fun j o hj GZ OW=>hu j o hj GZ (by rw[DB h2];split<;>first|rfl|exact OW)
      · simp only
        refine TN ME (.inr (IZ u fun j o hj GZ OW he=>?_));exact hu j o hj GZ ((HS j).2 ⟨fun e=>(by rw[e,hm]at GZ;cases GZ),OW⟩) he
      obtain⟨k1,k2⟩:=(HS k).1 eD;rw[hL _ (by omega) (by omega)];exact C7 k hk k2
end
section
variable{P:Program}{Γ:BV}
theorem AW.KX{cX:Ctx}(hG:GJ P Γ)(Ej:P.follows .mixedOrders=true){n:Nat}{ops:List Oper}{s:St}{K:Exit→St→Prop}(m:List Bool)(tr:Tr)(kX:Ix ops m tr=true)
    (h:EU Γ P s.nx m ops 0 s.t fun t=>ES Γ P s.nx ops tr ⟨t,s.H,s.nx+ops.length⟩ (K .normal)):AW cX P (.region n ops.toArray true) s K:=by
  intro L a w Q hc hQ;obtain⟨hd,hto⟩:=eX kX;refine OD Ej ?_;obtain⟨T,res,h1,h2,h3,h4⟩:=V0 hG (ops:=ops) (m:=m) ops m 0 s.t (by simp) (by simp) h;have Ek:Cn cX ⟨s.t,s.H,s.nx+ops.length⟩ L a {w with drawn:=w.drawn+1}:=
    ⟨hc.df.same rfl,hc.sz,fun k x hk=>(hc.sl k x hk).drew,hc.sr.drew,fun i hi=>hc.fr i (by simp only at hi;omega),by have:=hc.nx;simp only;omega,hc.lo,hc.st.trans (Step.drew _ _ _)⟩
  have:=qV (Q:=Q) hG hd (base:=s.nx) (T:=T) (res:=res) (fun j o ho hm=>h3 j o (Nat.zero_le _) ho hm) (fun j hj hm=>h4 j (Nat.zero_le _) hj hm) hc.nx (fun s' L' a' w' hk PF=>hQ _ _ _ _ _ hk PF)
    ops.length tr (others ops m) (Array.replicate ops.length false) ⟨T ops.length,s.H,s.nx+ops.length⟩ s.t L a {w with drawn:=w.drawn+1} (by
      unfold aR;exact Nat.le_trans (List.length_filter_le _ _) (by simp)) (by simp) (by
      intro i j hw hj;have:=hw.len;simp[Array.getD_eq_getD_getElem?,this]at hj) (fun i hi hm=>by
      rw[List.getD_eq_getElem?_getD]at hm;simp[Array.getD_eq_getD_getElem?,hi,others,hm]) (List.nodup_range.filter _) (fun i hi=>by
      have:=List.mem_filter.1 hi;exact⟨List.mem_range.1 this.1,by simpa using this.2⟩) hto h2 (fun u _=>rfl) rfl ?_ ?_ Ek (fun i hi _=>hc.fr _ (by omega)) (by simp only;omega)
  · simpa using this
  · simp only
    rw[jA (fun j o ho hm=>(h3 j o (Nat.zero_le _) ho hm).1) (fun j hj hm=>h4 j (Nat.zero_le _) hj hm) _ (Nat.le_refl _),h1]
  intro u hu;have:=Z5 (fun j o ho hm=>(h3 j o (Nat.zero_le _) ho hm).1) (fun j hj hm=>h4 j (Nat.zero_le _) hj hm) u 0 ops.length (by omega) (fun g o _ hg ho hm=>hu g o ho hm (by
    have:=(List.getElem?_eq_some_iff.1 ho).1;simp[Array.getD_eq_getD_getElem?,this]))
  rw[Nat.zero_add]at this;simp only
  rw[this,h1]
@[congr] theorem Zg {base:Nat} {ops:List Oper} {t:Tr} {s s':St} {K:St→Prop} (h:s=s'):ES Γ P base ops t s K=ES Γ P base ops t s' K:=by rw[h]
theorem A1L{base:Nat}{ops:List Oper}{s:St}{K:St→Prop}:ES Γ P base ops .nil s K=K s:=by rw[ES]
theorem A1M{base j:Nat}{ops:List Oper}{sub:Tr}{s:St}{K:St→Prop}:ES Γ P base ops (.br j sub .nil) s K=RE ops j fun o=>HA Γ P o.dst o.op (base+j) s fun s'=>ES Γ P base ops sub s' K:=by rw[ES]
theorem A1N{base j k:Nat}{ops:List Oper}{sub a b:Tr}{s:St}{K:St→Prop}:ES Γ P base ops (.br j sub (.br k a b)) s K=((RE ops j fun o=>HA Γ P o.dst o.op (base+j) s fun s'=>ES Γ P base ops sub s' K)∧ES Γ P base ops (.br k a b) s K):=by rw[ES]
theorem A1O{o:Oper}{l:List Oper}{n:Nat}{k:Oper→Prop}:RE (o::l) (n+1) k=RE l n k:=by rw[RE]
theorem A1P{dst:Option Nat}{op:Op}{ty:TypeId}{pos:String}{after:Array Edge}{g:Option (Nat×Bool)}{l:List Oper}{id:Nat}{s:St}{K:St→Prop}:RE (⟨dst,op,ty,pos,after,g⟩::l) 0 (fun o=>HA Γ P o.dst o.op id s K)=HA Γ P dst op id s K:=by rw[RE]
end
attribute [go_sem ↓] A1L A1M A1N A1O A1P
end Go.Proofs.YtghmeeifjeafmaaGreat
namespace Go.Proofs.YtghmeeifjeafmaaGreat
section
variable{s b:Nat}{z:Value}{q:Bool}{o:Nat}{cs:List AV}{k:AV→Prop}
theorem Iy{t:TypeId}:nE ⟨.slice t,s,b,z,q⟩ o cs k=(o<cs.length∧k (cs.getD o .j)):=by unfold nE;simp[TE.agg]
theorem Iz{t:IntKind}:nE ⟨.int t,s,b,z,q⟩ o cs k=(o<cs.length∧k (cs.getD o .j)):=by unfold nE;simp[TE.agg]
theorem Ja:nE ⟨.other,s,b,z,q⟩ o cs k=(o<cs.length∧k (cs.getD o .j)):=by unfold nE;simp[TE.agg]
end
attribute [go_sem ↓] Iy Iz Ja
theorem IG(n:Nat)(hn:n≤1048576)(f:V):BG Tryz.prog 123 [vi n f] (.i .i64 (F1 n f)):=by
 refine BG.AM A9 Tryz.func123 rfl (by kernel_rfl) Tryz.ntmps123 Tryz.results123 (.i _ _) (fun nx cX=>?_)
 refine sQ fun N hN=>?_;simp-dsimp-implicitDefEqProofs(maxSteps:=800000) (disch:=omega)only[go_sem,vi];apply hN;refine AW.seq fun N1 BC=>?_;refine sQ fun N hN=>?_;simp-dsimp-implicitDefEqProofs(maxSteps:=800000) (disch:=omega)only[go_sem,vi];apply hN;apply AW.block;refine AW.AF (α:=Nat) (fun x=>sl 18 [(0,vi n f),(5,vi n f),(6,.i .i64 n),(7,.i .i64 x)]) (fun _=>BN) (fun x m=>x≤n∧S1 f (n-x) x=F1 n f) (fun x=>n-x) (0) ?_ ?_ (fun _ _ h=>h) ?_
 ·exact⟨by omega,rfl⟩
 ·simp(disch:=omega) [AO,AQ,sl,vi]
 skip
 rintro k m ⟨hk,hI⟩
 simp-dsimp-implicitDefEqProofs(maxSteps:=800000) (disch:=omega)only[go_sem];refine sQ fun N hN=>?_;simp-dsimp-implicitDefEqProofs(maxSteps:=800000) (disch:=omega)only[go_sem,vi];apply hN;refine AW.seq fun N2 BM=>?_;refine AW.cond rfl ?_ ?_<;>intro h1
 ·try simp only[cn]at h1
  have hs:S1 f (n-k) k=if f k=0 then S1 f (n-(k+1)) (k+1)else k:=by
   obtain⟨q,hq⟩:∃q,n-k=q+1:=⟨n-k-1,by omega⟩;rw[hq,S1,show n-(k+1)=q by omega]
  apply AW.skip;apply BM;refine AW.seq fun N3 BQ=>?_;apply AW.block;refine sQ fun N hN=>?_;simp-dsimp-implicitDefEqProofs(maxSteps:=800000) (disch:=omega)only[go_sem,vi];apply hN;refine sQ fun N hN=>?_;simp-dsimp-implicitDefEqProofs(maxSteps:=800000) (disch:=omega)only[go_sem,vi];apply hN;refine AW.cond rfl ?_ ?_<;>intro h2
  ·try simp only[cn]at h2
   refine sQ fun N hN=>?_;simp-dsimp-implicitDefEqProofs(maxSteps:=800000) (disch:=omega)only[go_sem,vi];apply hN;apply AW.ret;simp-dsimp-implicitDefEqProofs(maxSteps:=800000) (disch:=omega)only[go_sem];rw[←hI,hs,if_neg h2]
  try simp only[cn]at h2
  apply AW.skip;apply BQ;apply rQ;simp-dsimp-implicitDefEqProofs(maxSteps:=800000) (disch:=omega)only[go_sem,vi];refine⟨k+1,?_,fun _ _ h=>h,?_,?_⟩
  ·simp(disch:=omega) [AO,AQ,sl,AJ,ints,rows,A4,AJ,vi]<;>omega
  ·exact⟨by omega,by rw[←hI,hs,if_pos h2]⟩
  first|omega|(simp only;omega)
 try simp only[cn]at h1
 apply AW.exit;apply BC;refine sQ fun N hN=>?_;simp-dsimp-implicitDefEqProofs(maxSteps:=800000) (disch:=omega)only[go_sem,vi];apply hN;apply AW.ret;simp-dsimp-implicitDefEqProofs(maxSteps:=800000) (disch:=omega)only[go_sem];rw[←hI,show n-k=0 by omega,S1,show k=n by omega]
theorem SI(a:Int):BG Tryz.prog 120 [.i .i64 a] (.b (a !=0)):=by
 refine BG.AM A9 Tryz.func120 rfl (by kernel_rfl) Tryz.ntmps120 Tryz.results120 (.b _) (fun nx cX=>?_)
 refine sQ fun N hN=>?_;simp-dsimp-implicitDefEqProofs(maxSteps:=800000) (disch:=omega)only[go_sem,];apply hN;refine sQ fun N hN=>?_;simp-dsimp-implicitDefEqProofs(maxSteps:=800000) (disch:=omega)only[go_sem,];apply hN;apply AW.ret;simp-dsimp-implicitDefEqProofs(maxSteps:=800000) (disch:=omega)only[go_sem];skip
theorem IH(n:Nat)(f:V)(hn:n≤1048576)(hd:F1 n f<n):BG Tryz.prog 119 [vi n f,.f 120 []] (.i .i64 (F1 n f)):=by
 have Bj:=(R5 (x:=f) n 0).2.2.2 (by unfold F1 at hd;omega)
 refine BG.AM A9 Tryz.func119 rfl (by kernel_rfl) Tryz.ntmps119 Tryz.results119 (.i _ _) (fun nx cX=>?_)
 refine sQ fun N hN=>?_;simp-dsimp-implicitDefEqProofs(maxSteps:=800000) (disch:=omega)only[go_sem,vi];apply hN;refine AW.seq fun N1 BC=>?_;refine sQ fun N hN=>?_;simp-dsimp-implicitDefEqProofs(maxSteps:=800000) (disch:=omega)only[go_sem,vi];apply hN;apply AW.block;refine AW.AF (α:=Nat) (fun x=>sl 19 [(0,vi n f),(1,.f 120 []),(7,.i .i64 n),(8,.i .i64 x)]) (fun _=>BN) (fun x m=>x≤n∧S1 f (n-x) x=F1 n f) (fun x=>n-x) (0) ?_ ?_ (fun _ _ h=>h) ?_
 ·exact⟨by omega,rfl⟩
 ·simp(disch:=omega) [AO,AQ,sl,vi]
 skip
 rintro k m ⟨hk,hI⟩
 simp-dsimp-implicitDefEqProofs(maxSteps:=800000) (disch:=omega)only[go_sem];refine sQ fun N hN=>?_;simp-dsimp-implicitDefEqProofs(maxSteps:=800000) (disch:=omega)only[go_sem,vi];apply hN;refine AW.seq fun N2 BM=>?_;refine AW.cond rfl ?_ ?_<;>intro h1
 ·try simp only[cn]at h1
  have hs:S1 f (n-k) k=if f k=0 then S1 f (n-(k+1)) (k+1)else k:=by
   obtain⟨q,hq⟩:∃q,n-k=q+1:=⟨n-k-1,by omega⟩;rw[hq,S1,show n-(k+1)=q by omega]
  apply AW.skip;apply BM;refine AW.seq fun N3 BQ=>?_;apply AW.block;refine sQ fun N hN=>?_;simp-dsimp-implicitDefEqProofs(maxSteps:=800000) (disch:=omega)only[go_sem,vi];apply hN;refine sQ fun N hN=>?_;simp-dsimp-implicitDefEqProofs(maxSteps:=800000) (disch:=omega)only[go_sem,vi];refine AC.pure (.of (SI (f k))) ?_;try simp-dsimp-implicitDefEqProofs(maxSteps:=800000) (disch:=omega)only[go_sem,vi]
  apply hN;refine AW.cond rfl ?_ ?_<;>intro h2
  ·try simp only[cn]at h2
   refine sQ fun N hN=>?_;simp-dsimp-implicitDefEqProofs(maxSteps:=800000) (disch:=omega)only[go_sem,vi];apply hN;apply AW.ret;simp-dsimp-implicitDefEqProofs(maxSteps:=800000) (disch:=omega)only[go_sem];rw[←hI,hs,if_neg h2]
  try simp only[cn]at h2
  apply AW.skip;apply BQ;apply rQ;simp-dsimp-implicitDefEqProofs(maxSteps:=800000) (disch:=omega)only[go_sem,vi];refine⟨k+1,?_,fun _ _ h=>h,?_,?_⟩
  ·simp(disch:=omega) [AO,AQ,sl,AJ,ints,rows,A4,vi,AJ]<;>omega
  ·exact⟨by omega,by rw[←hI,hs,if_pos h2]⟩
  first|omega|(simp only;omega)
 try simp only[cn]at h1
 apply AW.exit;apply BC;refine sQ fun N hN=>?_;simp-dsimp-implicitDefEqProofs(maxSteps:=800000) (disch:=omega)only[go_sem,vi];apply hN;apply AW.ret;simp-dsimp-implicitDefEqProofs(maxSteps:=800000) (disch:=omega)only[go_sem];rw[show n-k=0 by omega,S1]at hI;omega
def lQ(n:Nat)(us:List V):List Int:=us.map fun b=>(F1 n b:Int)
theorem bR{n:Nat}{u:List V}{k:Nat}(h:k<u.length):List.map (fun b=>AV.i .i64 (F1 n b)) (u.take k)++[AV.i .i64 (F1 n (u.getD k z0))]=List.map (fun b=>AV.i .i64 (F1 n b)) (u.take (k+1)):=by
  rw[List.take_add_one,List.map_append];congr 1
  simp[h]
theorem JB(n:Nat)(hn:n≤6)(us:List V)(hu:us.length≤1048576)(hl:∀k,k<us.length→F1 n (us.getD k z0)<n):BG Tryz.prog 79 [B2 n us] (ints (lQ n us)):=by
 refine BG.GD A9 Tryz.func79 rfl (by kernel_rfl) Tryz.ntmps79 Tryz.results79 ((TB _)) (fun nx cX=>?_)
 refine sQ fun N hN=>?_;simp-dsimp-implicitDefEqProofs(maxSteps:=800000) (disch:=omega)only[go_sem,B2,vi,Nat.min_eq_left];apply hN;refine sQ fun N hN=>?_;simp-dsimp-implicitDefEqProofs(maxSteps:=800000) (disch:=omega)only[go_sem,B2,vi,Nat.min_eq_left];apply hN;refine AW.seq fun N1 BC=>?_;refine sQ fun N hN=>?_;simp-dsimp-implicitDefEqProofs(maxSteps:=800000) (disch:=omega)only[go_sem,B2,vi,Nat.min_eq_left];apply hN;apply AW.block;refine AW.AF (α:=Nat×Option Nat) (fun x=>sl 19 [(3,oA x.2 x.1),(6,B2 n us),(7,.i .i64 us.length),(8,.i .i64 x.1)]) (fun x=>oH BN x.2 ((us.take x.1).map fun b=>AV.i .i64 (F1 n b))) (fun x m=>(x.1≤us.length∧nx≤m)∧(x.2=none→x.1=0)∧(∀id,x.2=some id→nx≤id∧id<m)) (fun x=>us.length-x.1) ((0,none)) ?_ ?_ (fun _ _ h=>h) ?_
 ·exact⟨⟨by simp,by first|omega|(dsimp only;omega)⟩,fun _=>rfl,by simp⟩
 ·simp[AO,AQ,sl,B2,oA]
 skip
 rintro⟨k,_|id⟩ m ⟨⟨hk,hm⟩,h0,DA⟩
 ·skip
  simp-dsimp-implicitDefEqProofs(maxSteps:=800000) (disch:=omega)only[go_sem];dsimp only[oA,oH]at hk hm h0 DA ⊢;have YG:k=0:=h0 rfl;refine sQ fun N hN=>?_;simp-dsimp-implicitDefEqProofs(maxSteps:=800000) (disch:=omega)only[go_sem,B2,vi,Nat.min_eq_left];apply hN;refine AW.seq fun N2 BM=>?_;refine AW.cond rfl ?_ ?_<;>intro h1
  ·try simp only[cn]at h1
   have HR:=hl k (by omega);apply AW.skip;apply BM;refine AW.seq fun N3 BQ=>?_;apply AW.block;refine sQ fun N hN=>?_;simp-dsimp-implicitDefEqProofs(maxSteps:=800000) (disch:=omega)only[go_sem,B2,vi,Nat.min_eq_left];apply hN;apply rQ;simp-dsimp-implicitDefEqProofs(maxSteps:=800000) (disch:=omega)only[go_sem,B2,vi,Nat.min_eq_left];refine AC.pure (.of (IH n (us.getD k z0) (by omega) (by omega))) ?_;try simp-dsimp-implicitDefEqProofs(maxSteps:=800000) (disch:=omega)only[go_sem,B2,vi,Nat.min_eq_left]
   apply BQ;apply rQ;simp-dsimp-implicitDefEqProofs(maxSteps:=800000) (disch:=omega)only[go_sem,B2,vi,Nat.min_eq_left];refine⟨(k+1,some (m+1+3+4)),?_,by subst YG;rw[←bR (by omega)];intro d cs hd;simp only[oH,AU,BN]at hd ⊢;grind,?_,?_⟩
   ·simp(disch:=omega) [AO,AQ,sl,B2,oA,AJ]<;>omega
   ·exact⟨⟨by omega,by first|omega|(dsimp only;omega)⟩,by simp,by simp;omega⟩
   first|omega|(simp only;omega)
  try simp only[cn]at h1
  apply AW.exit;apply BC;refine sQ fun N hN=>?_;simp-dsimp-implicitDefEqProofs(maxSteps:=800000) (disch:=omega)only[go_sem,B2,vi,Nat.min_eq_left];apply hN;apply AW.ret;simp-dsimp-implicitDefEqProofs(maxSteps:=800000) (disch:=omega)only[go_sem];have MH:us=[]:=List.length_eq_zero_iff.1 (by omega)
  subst MH;exact .nl
 skip
 simp-dsimp-implicitDefEqProofs(maxSteps:=800000) (disch:=omega)only[go_sem];dsimp only[oA,oH]at hk hm h0 DA ⊢
 have Ty:=DA id rfl
 refine sQ fun N hN=>?_;simp-dsimp-implicitDefEqProofs(maxSteps:=800000) (disch:=omega)only[go_sem,B2,vi,Nat.min_eq_left];apply hN;refine AW.seq fun N4 CG=>?_;refine AW.cond rfl ?_ ?_<;>intro h2
 ·try simp only[cn]at h2
  have HR:=hl k (by omega);apply AW.skip;apply CG;refine AW.seq fun N5 DW=>?_;apply AW.block;refine sQ fun N hN=>?_;simp-dsimp-implicitDefEqProofs(maxSteps:=800000) (disch:=omega)only[go_sem,B2,vi,Nat.min_eq_left];apply hN;apply rQ;simp-dsimp-implicitDefEqProofs(maxSteps:=800000) (disch:=omega)only[go_sem,B2,vi,Nat.min_eq_left];refine AC.pure (.of (IH n (us.getD k z0) (by omega) (by omega))) ?_;try simp-dsimp-implicitDefEqProofs(maxSteps:=800000) (disch:=omega)only[go_sem,B2,vi,Nat.min_eq_left]
  apply DW;apply rQ;simp-dsimp-implicitDefEqProofs(maxSteps:=800000) (disch:=omega)only[go_sem,B2,vi,Nat.min_eq_left];refine⟨(k+1,some (m+1+3+4)),?_,by rw[←bR (by omega)];intro d cs hd;simp only[oH,AU,BN]at hd ⊢;grind,?_,?_⟩
  ·simp(disch:=omega) [AO,AQ,sl,B2,oA,AJ]<;>omega
  ·exact⟨⟨by omega,by first|omega|(dsimp only;omega)⟩,by simp,by simp;omega⟩
  first|omega|(simp only;omega)
 try simp only[cn]at h2
 apply AW.exit;apply BC;refine sQ fun N hN=>?_;simp-dsimp-implicitDefEqProofs(maxSteps:=800000) (disch:=omega)only[go_sem,B2,vi,Nat.min_eq_left];apply hN;apply AW.ret;simp-dsimp-implicitDefEqProofs(maxSteps:=800000) (disch:=omega)only[go_sem];have GA:k=us.length:=by omega
 subst GA
 have hx:List.map (fun b=>AV.i .i64 (F1 n b)) (us.take us.length)=(lQ n us).map (.i .i64):=by simp[lQ]
 refine wP ?_ (by simp[lQ])
 rw[A1,hx]
theorem CO{n:Nat}{us:List V}:(lQ n us).length=us.length:=by simp[lQ]
theorem DN{n:Nat}{us:List V}{k:Nat}(h:k<us.length):(lQ n us).getD k 0=F1 n (us.getD k z0):=by simp[lQ,h]
section
variable(os:List Int)(pw:List (List Int))(cj:List (List (List Int)))
theorem OX(h:AI os pw cj)(hc:DI (pc os pw cj) 0)(z y:V)(hz:T (pc os pw cj) 0 z)(hy:T (pc os pw cj) 0 y):BG Tryz.prog 126 [A5 os pw cj,vi os.length z,vi os.length y] (vi os.length (y9 (pc os pw cj) z y)):=by
 have hv:=h.val
 have g:=BO hv hc
 have h1:=(DY g hz).1
 have h2:=(DY g hy).1
 refine BG.AM A9 Tryz.func126 rfl (by kernel_rfl) Tryz.ntmps126 Tryz.results126 (J3 _ _) (fun nx cX=>?_)
 refine sQ fun N hN=>?_;simp-dsimp-implicitDefEqProofs(maxSteps:=800000) (disch:=omega)only[go_sem,];apply hN;refine sQ fun N hN=>?_;simp-dsimp-implicitDefEqProofs(maxSteps:=800000) (disch:=omega)only[go_sem,];refine AC.pure (.of ((M8 os pw cj h 0 hc z hz).pure)) ?_;try simp-dsimp-implicitDefEqProofs(maxSteps:=800000) (disch:=omega)only[go_sem,]
 refine AC.pure (.of ((FL os pw cj h 0 hc z y hz hy).pure)) ?_;try simp-dsimp-implicitDefEqProofs(maxSteps:=800000) (disch:=omega)only[go_sem,]
 refine AC.pure (.of ((BX os pw cj h 0 hc _ _ h1 (g.cl h2 (g.cl hz hy))).pure)) ?_;try simp-dsimp-implicitDefEqProofs(maxSteps:=800000) (disch:=omega)only[go_sem,]
 apply hN;apply AW.ret;simp-dsimp-implicitDefEqProofs(maxSteps:=800000) (disch:=omega)only[go_sem];rfl
end
def Nb(n:Nat):Option V→AV
  |none=> .nl
  |some y=>vi n y
def WE(n:Nat)(t:Nat→Option V):List AV:=(List.range n).map fun d=>Nb n (t d)
theorem jF{n:Nat}{t:Nat→Option V}:(WE n t).length=n:=by simp[WE]
theorem yH{n:Nat}{t:Nat→Option V}{d:Nat}(h:d<n):(WE n t).getD d .j=Nb n (t d):=by simp[WE,h]
theorem yI{n:Nat}:List.replicate n .nl=WE n (fun _=>none):=by
  apply List.ext_getElem?;intro i;by_cases h:i<n<;>simp[WE,h,Nb]
theorem jG{n d:Nat}{t:Nat→Option V}{y:V}(h:d<n):B0 (WE n t) d [.v n (DM n y)]=WE n (oset t d y):=by
  rw[BL _ _ _ (by rw[jF];exact h)];apply List.ext_getElem?;intro i;rw[List.getElem?_set];by_cases hi:d=i
  · subst hi;simp[WE,oset,h,Nb,vi]
  simp only[hi,if_false,WE,List.getElem?_map];by_cases hn:i<n
  · simp[hn,oset,Ne.symm hi]
  simp[hn]
def Zh:Option V→Nat
  |none=>0
  |some _=>1
theorem AH{n:Nat}{o:Option V}(h:Zh o=0):Nb n o= .nl:=by
  cases o with
  |none=>rfl
  |some y=>cases h
theorem AS{n:Nat}{o:Option V}(h:0<Zh o):Nb n o= .v n (DM n (o.getD z0)):=by
  cases o with
  |none=>exact absurd h (Nat.lt_irrefl 0)
  |some y=>rfl
theorem Q1{o:Option V}(h:o=none):Zh o=0:=by rw[h];rfl
theorem Q2{o:Option V}(h:o≠none):0<Zh o∧o=some (o.getD z0):=by
  cases o with
  |none=>exact absurd rfl h
  |some y=>exact⟨Nat.one_pos,rfl⟩
theorem AE{n:Nat}{t f:Prop}(h:0<n):Ec n t f=f:=propext ⟨fun hh=>hh.f,fun hh=>⟨fun h0=>by omega,hh⟩⟩
theorem B8{t:TypeId}{s b:Nat}{z:Value}{q:Bool}:(∃e el,(⟨.slice t,s,b,z,q⟩:TE)=e∧e.d=TD.slice el)=True:=eq_true ⟨_,_,rfl,rfl⟩
attribute [go_sem] jF yH jG
section
variable{P:Pc}(hv:F9 P)(hc:DI P 0)
theorem qW{x:V}(hx:T P 0 x):F1 P.n x≤P.n∧T P (F1 P.n x) x∧(F1 P.n x<P.n→x (F1 P.n x)≠0):=by
  obtain⟨a1,a2,a3,a4⟩:=R5 (x:=x) P.n 0;unfold F1;exact⟨by omega,⟨fun k hk=>a3 k (Nat.zero_le k) hk,fun k _ h2=>hx.r k (Nat.zero_le k) h2,hx.t⟩,fun h=>a4 (by omega)⟩
theorem Tz{x:V}{d:Nat}(hd:d≤P.n)(hx:T P d x)(h:d<P.n→x d≠0):F1 P.n x=d:=by
  obtain⟨a1,a2,a3,a4⟩:=R5 (x:=x) P.n 0;unfold F1;rcases Nat.lt_trichotomy (S1 x P.n 0) d with q|q|q
  · exact absurd (hx.z _ q) (a4 (by omega))
  · exact q
  exact absurd (a3 d (Nat.zero_le d) q) (h (by omega))
theorem Ua{x:V}{d:Nat}(hd:d≤P.n)(hx:T P d x):d≤F1 P.n x:=by
  obtain⟨a1,a2,a3,a4⟩:=R5 (x:=x) P.n 0;unfold F1;apply Classical.byContradiction;intro q;exact absurd (hx.z _ (by omega)) (a4 (by omega))
theorem V2{t:Nat→Option V}{x:V}{d:Nat}(hd:d≤P.n)(hx:T P d x):OT P t x=HE (WB P) t P.n (P.n-d) x:=by
  have:=UR (rd:=WB P) (t:=t) (x:=x) (n:=P.n) d (P.n-d) (by omega) (fun j _ h2=>hx.z j (by omega));rw[show P.n-d+d=P.n by omega]at this;exact this
theorem yJ{t:Nat→Option V}{x:V}(hx:T P 0 x)(h:F1 P.n x=P.n∨t (F1 P.n x)=none):OT P t x=(F1 P.n x,x):=by
  obtain⟨h1,h2,h3⟩:=qW hx;obtain⟨d,hd⟩:∃d,F1 P.n x=d:=⟨_,rfl⟩;rw[hd]at h h1 h2 h3 ⊢;rw[V2 h1 h2];by_cases e:d=P.n
  · rw[e,Nat.sub_self,HE]
  obtain⟨f,hf⟩:∃f,P.n-d=f+1:=⟨P.n-d-1,by omega⟩;have e2:P.n-(f+1)=d:=by omega
  rw[hf,JQ (by rw[e2];exact h3 (by omega)) (by rw[e2];exact h.resolve_left e),e2]
include hv hc
theorem qX{t:Nat→Option V}(hG:LN P t){x y:V}(hx:T P 0 x)(hd:F1 P.n x<P.n)(hy:t (F1 P.n x)=some y):
    OT P t (WB P (F1 P.n x) y x)=OT P t x∧T P (F1 P.n x+1) (WB P (F1 P.n x) y x):=by
  obtain⟨h1,h2,h3⟩:=qW hx;obtain⟨d,W7⟩:∃d,F1 P.n x=d:=⟨_,rfl⟩;rw[W7]at hd hy h1 h2 h3 ⊢;obtain⟨y1,y2,y3⟩:=hG d y hy;have hT:=(US hv hc d y x hd y2 y3 h2).2;refine⟨?_,hT⟩;rw[V2 (by omega) hT,V2 h1 h2];have e2:P.n-(P.n-(d+1)+1)=d:=by omega
  have:=IE (rd:=WB P) (t:=t) (n:=P.n) (f:=P.n-(d+1)) (x:=x) (y:=y) (by rw[e2];exact h3 hd) (by rw[e2];exact hy);rw[e2]at this;rw[show P.n-d=P.n-(d+1)+1 by omega,this]
theorem Jb{t:Nat→Option V}(hG:LN P t){x:V}(hx:T P 0 x):F1 P.n (OT P t x).2=(OT P t x).1:=by
  obtain⟨i1,i2,i3⟩:=UY hv hc hG hx;exact Tz i1 i2 (fun h=>(i3 h).2)
end
section
variable(os:List Int)(pw:List (List Int))(cj:List (List (List Int)))
set_option maxRecDepth 20000 in
set_option maxHeartbeats 1000000 in
theorem Z6(h:AI os pw cj)(hc:DI (pc os pw cj) 0)(t:Nat→Option V)(hG:LN (pc os pw cj) t)(a:V)(ha:T (pc os pw cj) 0 a)(nx:Nat)(H:HP)(ids HD:Nat)(D2:H ids=some [A5 os pw cj,.h HD 0 os.length])(CR:H HD=some (WE os.length t)):AC Tryz.prog 122 nx H [.q ids 0,vi os.length a] (fun _ H' r=>r=vi os.length (OT (pc os pw cj) t a).2∧H'=H):=by
 have J4:=h.1.1
 have hv:=h.val
 refine AC.C2 A9 Tryz.func122 rfl (by kernel_rfl) Tryz.ntmps122 Tryz.results122 (fun C7 cX=>?_)
 refine sQ fun N hN=>?_;simp-dsimp-implicitDefEqProofs(maxSteps:=800000) (disch:=omega)only[go_sem,A5,vi,ints,A6,D2,CR,AH,AS,AE,B8,eq_self]
 apply hN;refine AW.seq fun N1 BC=>?_;refine sQ fun N hN=>?_;simp-dsimp-implicitDefEqProofs(maxSteps:=800000) (disch:=omega)only[go_sem,A5,vi,ints,A6,D2,CR,AH,AS,AE,B8,eq_self]
 refine AC.pure (.of (IG os.length (by omega) a)) ?_;try simp-dsimp-implicitDefEqProofs(maxSteps:=800000) (disch:=omega)only[go_sem,A5,vi,ints,A6,D2,CR,AH,AS,AE,B8,eq_self]
 apply hN;apply AW.block;refine AW.AF (α:=V) (fun x=>sl 96 [(0,.q ids 0),(1,vi os.length x),(5,.i .i64 (F1 os.length x))]) (fun _=>H) (fun x m=>T (pc os pw cj) 0 x∧OT (pc os pw cj) t x=OT (pc os pw cj) t a) (fun x=>os.length-F1 os.length x) (a) ?_ ?_ (fun _ _ h=>h) ?_
 ·exact⟨ha,rfl⟩
 ·simp(disch:=omega) [AO,AQ,sl,vi]
 skip
 rintro u m ⟨hu,hI⟩
 dsimp only at hu hI ⊢
 have mP:=qW hu
 obtain⟨d,hd⟩:∃d,F1 os.length u=d:=⟨_,rfl⟩
 have hle:d≤os.length:=by rw[←hd];exact mP.1
 have EM:=fun y=>qX hv hc hG (y:=y) hu
 have n7:=yJ (t:=t) hu
 have Ub:=mP.2.2
 have LV:(pc os pw cj).n=os.length:=rfl
 rw[LV,hd]at EM n7 Ub
 rw[hd]
 by_cases hb:t d=none
 ·skip
  have RV:=Q1 hb;simp only[vi];simp-dsimp-implicitDefEqProofs(maxSteps:=800000) (disch:=omega)only[go_sem];refine AW.seq fun N2 BM=>?_;refine sQ fun N hN=>?_;simp-dsimp-implicitDefEqProofs(maxSteps:=800000) (disch:=omega)only[go_sem,A5,vi,ints,A6,D2,CR,AH,AS,AE,B8,eq_self]
  refine C9.mk' (fun h1=>?_) (fun h1=>?_)
  ·try simp only[cn]at h1
   try simp-dsimp-implicitDefEqProofs(maxSteps:=800000) (disch:=omega)only[go_sem,A5,vi,ints,A6,D2,CR,AH,AS,AE,B8,eq_self]
   apply hN;refine AW.cond rfl ?_ ?_<;>intro h2
   ·(try simp only[cn]at h2);first|done|(cases h2)|(simp at h2)
   try simp only[cn]at h2
   apply AW.exit;apply BC;refine sQ fun N hN=>?_;simp-dsimp-implicitDefEqProofs(maxSteps:=800000) (disch:=omega)only[go_sem,A5,vi,ints,A6,D2,CR,AH,AS,AE,B8,eq_self]
   apply hN;apply AW.ret;simp-dsimp-implicitDefEqProofs(maxSteps:=800000) (disch:=omega)only[go_sem];exact⟨_,fun _ _ h=>h,by rw[←hI,n7 (.inr hb)];rfl,rfl⟩
  try simp only[cn]at h1
  try simp-dsimp-implicitDefEqProofs(maxSteps:=800000) (disch:=omega)only[go_sem,A5,vi,ints,A6,D2,CR,AH,AS,AE,B8,eq_self]
  apply hN;refine AW.C8 rfl ?_;apply AW.exit;apply BC;refine sQ fun N hN=>?_;simp-dsimp-implicitDefEqProofs(maxSteps:=800000) (disch:=omega)only[go_sem,A5,vi,ints,A6,D2,CR,AH,AS,AE,B8,eq_self]
  apply hN;apply AW.ret;simp-dsimp-implicitDefEqProofs(maxSteps:=800000) (disch:=omega)only[go_sem];exact⟨_,fun _ _ h=>h,by rw[←hI,n7 (.inr hb)];rfl,rfl⟩
 skip
 obtain⟨RV,hy⟩:=Q2 hb
 obtain⟨y,Bx⟩:∃y,(t d).getD z0=y:=⟨_,rfl⟩
 rw[Bx]at hy
 simp only[vi];simp-dsimp-implicitDefEqProofs(maxSteps:=800000) (disch:=omega)only[go_sem];refine AW.seq fun N3 BQ=>?_;refine sQ fun N hN=>?_;simp-dsimp-implicitDefEqProofs(maxSteps:=800000) (disch:=omega)only[go_sem,A5,vi,ints,A6,D2,CR,AH,AS,AE,B8,eq_self]
 refine C9.mk' (fun h3=>?_) (fun h3=>?_)
 ·try simp only[cn]at h3
  try simp-dsimp-implicitDefEqProofs(maxSteps:=800000) (disch:=omega)only[go_sem,A5,vi,ints,A6,D2,CR,AH,AS,AE,B8,eq_self]
  apply hN;refine AW.cond rfl ?_ ?_<;>intro h4
  ·try simp only[cn]at h4
   obtain⟨s1,s2⟩:=EM y (by omega) hy;have I4:=(hG d y hy).2.1.mono hv (Nat.zero_le d);have Ig:=hu.r d (Nat.zero_le d) (show d<os.length by omega);have huo:=D0 (h.2.1 d (by omega));have lN:(pc os pw cj).o d=os.getD d 0:=rfl;have hz:WB (pc os pw cj) d y u d=0:=s2.z d (by omega);have Su:=s2.mono hv (Nat.zero_le _);have hsl:=Ua (P:=pc os pw cj) (show d+1≤os.length by omega) s2;rw[LV]at hsl;apply AW.skip;apply BQ;refine AW.seq fun N4 CG=>?_;apply AW.block;refine AW.seq fun N hN=>?_;refine AW.BI A9 (by kernel_rfl) 34 (by kernel_rfl) ?_
   simp-dsimp-implicitDefEqProofs(maxSteps:=800000) (disch:=omega)only[B3,B4,BH,List.take_succ_cons,List.take_zero,List.drop_succ_cons,List.drop_zero,List.take_nil,List.drop_nil,go_sem,undef,A5,AJ,vi,ints,A6,D2,CR,AH,AS,AE,B8,eq_self,Bx];refine⟨_,.of (HU h 0 hc y I4 (os.getD d 0-u d) (by omega) (by omega)),?_⟩;try simp-dsimp-implicitDefEqProofs(maxSteps:=800000) (disch:=omega)only[go_sem,A5,vi,ints,A6,D2,CR,AH,AS,AE,B8,eq_self]
   refine⟨_,.of ((BX os pw cj h 0 hc (rep (M (pc os pw cj) 0) y (os.getD d 0-u d).toNat) u ((BO hv hc).rep I4 _) hu).pure),?_⟩;try simp-dsimp-implicitDefEqProofs(maxSteps:=800000) (disch:=omega)only[go_sem,A5,vi,ints,A6,D2,CR,AH,AS,AE,B8,eq_self]
   rw[show M (pc os pw cj) 0 (rep (M (pc os pw cj) 0) y (os.getD d 0-u d).toNat) u=WB (pc os pw cj) d y u from rfl];try simp-dsimp-implicitDefEqProofs(maxSteps:=800000) (disch:=omega)only[go_sem,A5,vi,ints,A6,D2,CR]
   apply hN;refine sQ fun N hN=>?_;simp-dsimp-implicitDefEqProofs(maxSteps:=800000) (disch:=omega)only[go_sem,A5,vi,ints,A6,D2,CR,AH,AS,AE,B8,eq_self]
   apply hN;refine AW.cond rfl ?_ ?_<;>intro h5
   ·(try simp only[cn]at h5);exact absurd hz h5
   try simp only[cn]at h5
   apply AW.skip;apply CG;apply rQ;simp-dsimp-implicitDefEqProofs(maxSteps:=800000) (disch:=omega)only[go_sem,A5,vi,ints,A6,D2,CR,AH,AS,AE,B8,eq_self];refine AC.pure (.of (IG os.length (by omega) (WB (pc os pw cj) d y u))) ?_;try simp-dsimp-implicitDefEqProofs(maxSteps:=800000) (disch:=omega)only[go_sem,A5,vi,ints,A6,D2,CR,AH,AS,AE,B8,eq_self]
   refine⟨WB (pc os pw cj) d y u,?_,fun _ _ h=>h,?_,?_⟩
   ·simp(disch:=omega) [AO,AQ,sl,AJ,ints,rows,A4,A5,AJ,vi,ints,A6,D2,CR,AH,AS,AE,B8,eq_self]<;>omega
   ·exact⟨Su,s1.trans hI⟩
   first|omega|(dsimp only;omega)
  try simp only[cn]at h4
  first|done|(cases h4)|(exact absurd h4 (by simp))
 try simp only[cn]at h3
 try simp-dsimp-implicitDefEqProofs(maxSteps:=800000) (disch:=omega)only[go_sem,A5,vi,ints,A6,D2,CR,AH,AS,AE,B8,eq_self]
 apply hN;refine AW.C8 rfl ?_;apply AW.exit;apply BC;refine sQ fun N hN=>?_;simp-dsimp-implicitDefEqProofs(maxSteps:=800000) (disch:=omega)only[go_sem,A5,vi,ints,A6,D2,CR,AH,AS,AE,B8,eq_self]
 apply hN;apply AW.ret;simp-dsimp-implicitDefEqProofs(maxSteps:=800000) (disch:=omega)only[go_sem];exact⟨_,fun _ _ h=>h,by rw[←hI,n7 (.inl (by omega))];rfl,rfl⟩
end
end Go.Proofs.YtghmeeifjeafmaaGreat
