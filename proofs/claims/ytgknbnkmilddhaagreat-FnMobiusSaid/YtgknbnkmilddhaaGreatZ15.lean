import Derived.Test.YtgknbnkmilddhaaGreatZ09
import Derived.Test.YtgknbnkmilddhaaGreatZ13
import Derived.Test.YtgknbnkmilddhaaGreatZ14
set_option linter.unusedVariables false
set_option linter.unusedSimpArgs false

namespace Go.Proofs.YtgknbnkmilddhaaGreat
section
variable{P:Program}{Γ:CA}
inductive Tr
  |nil
  |br (j:Nat) (sub next:Tr)
def Tr.isNil:Tr->Bool
  | .nil=>true
  | .br _ _ _=>false
def zA:Tr->Nat->Bool
  | .nil,_=>false
  | .br j _ next,i=>j==i||zA next i
def vQ(ops:List Oper)(t:Tr)(rem:List Nat):Bool:=(rem.all λi=>(rem.any λk=>k !=i && wt ops (cls ops []) k i)||zA t i)&&(!rem.isEmpty||t.isNil)
def QU(ops:List Oper):Tr->List Nat->Bool
  | .nil,_=>true
  | .br j sub next,rem=>vQ ops sub (rem.erase j)&& QU ops sub (rem.erase j)&& QU ops next rem
def Q8(ops:List Oper)(t:Tr)(rem:List Nat):Bool:=vQ ops t rem && QU ops t rem
theorem iO{ops:List Oper}{t:Tr}(h:Q8 ops t []=true):t= .nil:=by
  cases t with
  |nil=>rfl
  |br j sub next=>simp[Q8,vQ,Tr.isNil]at h
theorem Er{ops:List Oper}{t:Tr}{rem:List Nat}(h:Q8 ops t rem=true){i:Nat}(hi:i∈rem)(hn:(rem.any λk=>k !=i && wt ops (cls ops []) k i)=false):zA t i=true:=by
  simp only[Q8,vQ,Bool.and_eq_true]at h;have:=List.all_eq_true.1 h.1.1 i hi;rw[hn]at this;simpa using this
theorem Es{ops:List Oper}{t:Tr}{rem:List Nat}(h:Q8 ops t rem=true):QU ops t rem=true:=by
  simp only[Q8,Bool.and_eq_true]at h;exact h.2
def X8:List Oper->Nat->(Oper->Prop)->Prop
  |[],_,_=>False
  |o::_,0,k=>k o
  |_::l,n+1,k=>X8 l n k
theorem Et:∀{ops:List Oper} {i:Nat} {o:Oper} {k:Oper->Prop},ops[i]? =some o->X8 ops i k->k o:=by
  intro ops;induction ops with
  |nil=>intro i o k h;simp at h
  | cons a l ih=>
    intro i o k h hk;cases i with
    |zero=>simp at h;subst h;exact hk
    |succ i=>exact ih (by simpa using h) hk
def FZ(Γ:CA)(P:Program)(base:Nat)(ops:List Oper):Tr->St->(St->Prop)->Prop
  | .nil,s,K=>K s
  | .br j sub .nil,s,K=>X8 ops j λo=>IG Γ P o.dst o.op (base+j) s λs'=>FZ Γ P base ops sub s' K
  | .br j sub (.br k a b),s,K=>(X8 ops j λo=>IG Γ P o.dst o.op (base+j) s λs'=>FZ Γ P base ops sub s' K)/\FZ Γ P base ops (.br k a b) s K
theorem A14{ops:List Oper}{base i:Nat}{rem:List Nat}{s:St}{K:St->Prop}:∀{t:Tr},zA t i=true->QU ops t rem=true->FZ Γ P base ops t s K->
    ∃sub,Q8 ops sub (rem.erase i)=true/\X8 ops i λo=>IG Γ P o.dst o.op (base+i) s λs'=>FZ Γ P base ops sub s' K:=by
  intro t;induction t with
  |nil=>intro h;cases h
  | br j sub next ih1 ih2=>
    intro h1 h2 h3;simp only[QU,Bool.and_eq_true]at h2;have h4:X8 ops j λo=>IG Γ P o.dst o.op (base+j) s λs'=>FZ Γ P base ops sub s' K:=by
      cases next with
      |nil=>simpa only[FZ]using h3
      |br k a b=>simp only[FZ]at h3;exact h3.1
    by_cases e:j=i
    · subst e;exact⟨sub,by simp only[Q8,Bool.and_eq_true];exact h2.1,h4⟩
    have h5:zA next i=true:=by
      simp only[zA,Bool.or_eq_true,beq_iff_eq]at h1;exact h1.resolve_left e
    cases next with
    |nil=>cases h5
    |br k a b=>simp only[FZ]at h3;exact ih2 h5 h2.2 h3.2
structure A6N(ops:List Oper)(m:List Bool):Prop where
  lt:∀j o,ops[j]? =some o->∀e∈o.after.toList,Region.binds .any e=true->e.on<j
  g:∀(j:Nat) (o:Oper),ops[j]? =some o->o.guard=none
  fl:∀j o,ops[j]? =some o->m.getD j false=true->lays o.op=false/\(∃d,o.dst=some d/\∀i o',ops[i]? =some o'->i≠j->o'.dst≠some d)/\
    ∀u,u∈qC o->∀i o',ops[i]? =some o'->o'.dst=some u->(m.getD i false=true/\i<j/\EI ops i j)\/(m.getD i false=false/\EI ops j i)
  sp:∀j o,ops[j]? =some o->m.getD j false=false->∀u,u∈qC o->∀i o',ops[i]? =some o'->m.getD i false=true->o'.dst=some u->EI ops i j
def others(ops:List Oper)(m:List Bool):List Nat:=(List.range ops.length).filter λi=> !m.getD i false
def A15(ops:List Oper)(m:List Bool)(t:Tr):Bool:=
  let cl:=cls ops []
  (ops.zipIdx.all λ(o,j)=>o.after.toList.all λe=> !Region.binds .any e||e.on<j)&&
  (ops.all λo=>o.guard.isNone)&&
  (ops.zipIdx.all λ(o,j)=>
    if m.getD j false=true then
      !lays o.op &&
      (match o.dst with|some d=>ops.zipIdx.all λ(o',i)=>i==j|| !(o'.dst==some d)|none=>false)&&
      ((qC o).all λu=>ops.zipIdx.all λ(o',i)=> !(o'.dst==some u)||(if m.getD i false=true then decide (i<j)&& wt ops cl i j else wt ops cl j i))
    else
      ((qC o).all λu=>ops.zipIdx.all λ(o',i)=> !(m.getD i false && o'.dst==some u)||wt ops cl i j))&&
  Q8 ops t (others ops m)
theorem rY{ops:List Oper}{m:List Bool}{t:Tr}(h:A15 ops m t=true):A6N ops m/\Q8 ops t (others ops m)=true:=by
  unfold A15 at h;simp only[Bool.and_eq_true]at h;obtain⟨⟨⟨h1,h2⟩,h3⟩,hto⟩:=h;refine⟨⟨?_,?_,?_,?_⟩,hto⟩
  · intro j o ho e he hb;have:=List.all_eq_true.1 (GZ h1 ho) e he;simpa[hb]using this
  · intro j o ho;have:=List.all_eq_true.1 h2 o (List.mem_of_getElem? ho);simpa using this
  · intro j o ho hm;have h4:=GZ h3 ho;simp only[hm,if_true,Bool.and_eq_true]at h4;obtain⟨⟨h5,h6⟩,h7⟩:=h4;refine⟨by simpa using h5,?_,?_⟩
    · cases hd:o.dst with
      |none=>rw[hd]at h6;cases h6
      | some d=>
        rw[hd]at h6;refine⟨d,rfl,λi o' hi NZ he=>?_⟩;have:=GZ h6 hi;simp[NZ,he]at this
    intro u hu i o' hi he;have h8:=GZ (List.all_eq_true.1 h7 u hu) hi;simp only[he,beq_self_eq_true,Bool.not_true,Bool.false_or]at h8;split at h8
    · rename_i iM;simp only[Bool.and_eq_true,decide_eq_true_eq]at h8;exact .inl ⟨iM,h8.1,F0 h8.2⟩
    rename_i iM;exact .inr ⟨by simpa using iM,F0 h8⟩
  intro j o ho hm;have h4:=GZ h3 ho;simp only[hm,Bool.false_eq_true,if_false]at h4;intro u hu i o' hi iM he;have h8:=GZ (List.all_eq_true.1 h4 u hu) hi;simp only[iM,he,beq_self_eq_true,Bool.and_self,Bool.not_true,Bool.false_or]at h8;exact F0 h8
end
section
variable{P:Program}{Γ:CA}{cX:Ctx}
theorem Eu(hG:IB P Γ){ops:List Oper}{m:List Bool}(hd:A6N ops m){base:Nat}{T:Nat->List AV}{res:Nat->AV}{Q:Exit->Act->World->Prop}{K':St->Prop}
    (hT:∀j o,ops[j]? =some o->m.getD j false=true->T (j+1)=BG (T j) o.dst (res j)/\∃d,EZ P o (BQ (T j)) BM (base+j) (res j) d/\(lays o.op=false->d=none))
    (hS:∀j,j<ops.length->m.getD j false=false->T (j+1)=T j) (PH:cX.Ui<=base)
    (hQ:∀s' L' a' w',K' s'->Cn cX s' L' a' w'->Q .normal a' w'):
    ∀ (fuel:Nat) (tr:Tr) (rem:List Nat) (AE:Array Bool) (s:St) (t':List AV) (L:LM) (a:Act) (w:World),nD ops.length AE<=fuel->AE.size=ops.length->gB ops AE->
      (∀i,i<ops.length->m.getD i false=false->(AE.getD i true=false↔i∈rem))->rem.Nodup->(∀i∈rem,i<ops.length/\m.getD i false=false)->Q8 ops tr rem=true->
      FZ Γ P base ops tr s K'->
      (∀u,(∀(j:Nat) (o:Oper),ops[j]? =some o->m.getD j false=false->AE.getD j true=true->o.dst≠some u)->s.t[u]? =(T ops.length)[u]?)->s.t.length=(T ops.length).length->t'.length=s.t.length->
      (∀u,(∀(j:Nat) (o:Oper),ops[j]? =some o->m.getD j false=true->AE.getD j true=false->o.dst≠some u)->t'[u]? =s.t[u]?)->
      Cn cX ⟨t',s.H,s.nx⟩ L a w->(∀i,i<ops.length->AE.getD i true=false->L (base+i)=none)->base+ops.length<=s.nx->
      Lb cX.rd P .any ops.toArray Q fuel AE a w:=by
  have hT':=λj o ho hm=>(hT j o ho hm).1
  have Eo:=vM hT' hS;have o8:=kH hT' hS;have evT:∀{o:Oper} {t1 t2:List AV},(∀u∈qC o,t1[u]? =t2[u]?)->∀x∈o.op.operands,BQ t1 x=BQ t2 x:=by
    intro o t1 t2 h x hx;cases x with
    | tmp u=>
      have:=h u (by unfold qC;exact List.mem_filterMap.2 ⟨.tmp u,by simpa using hx,rfl⟩);simp only[BQ,List.getD_eq_getElem?_getD,this]
    |_=>simp[BQ]
  intro fuel;induction fuel with
  | zero=>
    intro tr rem AE s t' L a w hf FV hs KY JT YS YT h ha K0 O1 GA hc CQ UE;have K6:∀i,i<ops.length->AE.getD i true=true:=by
      intro i hi;cases hb:AE.getD i true with
      |true=>rfl
      |false=>have:=UD hb hi;omega
    obtain rfl:rem=[]:=List.eq_nil_iff_forall_not_mem.2 λi hi=>by
      have:=(KY i (YS i hi).1 (YS i hi).2).2 hi;rw[K6 i (YS i hi).1]at this;cases this
    obtain rfl:=iO YT;have ht:t'=s.t:=List.ext_getElem? λu=>GA u λj o ho _ hb=>by
      rw[K6 j (List.getElem?_eq_some_iff.1 ho).1]at hb;cases hb
    subst ht;refine⟨?_,hQ _ _ _ _ h hc⟩;rw[List.eq_nil_iff_forall_not_mem];intro i HM;obtain⟨h1,h2,_⟩:=EJ.1 HM;rw[K6 i h1]at h2;cases h2
  | succ fuel ih=>
    intro tr rem AE s t' L a w hf FV hs KY JT YS YT h ha K0 O1 GA hc CQ UE;refine⟨λh0=>?_,?_⟩
    · have K6:∀i,i<ops.length->AE.getD i true=true:=by
        intro i hi;cases hb:AE.getD i true with
        |true=>rfl
        |false=>exact absurd h0 (nZ hd.lt FV i hi hb)
      obtain rfl:rem=[]:=List.eq_nil_iff_forall_not_mem.2 λi hi=>by
        have:=(KY i (YS i hi).1 (YS i hi).2).2 hi;rw[K6 i (YS i hi).1]at this;cases this
      obtain rfl:=iO YT;have ht:t'=s.t:=List.ext_getElem? λu=>GA u λj o ho _ hb=>by
        rw[K6 j (List.getElem?_eq_some_iff.1 ho).1]at hb;cases hb
      subst ht;exact hQ _ _ _ _ h hc
    intro i HM;obtain⟨h1,h2,_⟩:=EJ.1 HM;have ho:ops[i]? =some ops[i]:=List.getElem?_eq_getElem h1;have Pq:=hd.g i _ ho;have IA:∀k,(AE.setIfInBounds i true).getD k true=false↔k≠i/\AE.getD k true=false:=by
      intro k;rw[E0 h2];by_cases e:k=i
      · simp[e]
      simp[e]
    have hun:=UD h2 h1;unfold wpO;simp only[List.getElem?_toArray,ho];rw[if_pos (by simp[Region.wanted,Pq])];refine .inl ?_;cases hm:m.getD i false with
    | true=>
      obtain⟨f1,⟨d,f2,f3⟩,f4⟩:=hd.fl i _ ho hm;obtain⟨g1,dd,g2,g3⟩:=hT i _ ho hm;have g3:=g3 f1;subst g3;have Ak:∀u∈qC ops[i],(T i)[u]? =t'[u]? :=by
        intro u hu;have hw:=f4 u hu;have e1:t'[u]? =s.t[u]? :=GA u λj o hj HB TM he=>by
          rcases hw j o hj he with ⟨_,_,uU⟩|⟨hmf,_⟩
          · rw[DA hs HM uU]at TM;cases TM
          rw[hmf]at HB;cases HB
        have e2:s.t[u]? =(T ops.length)[u]? :=ha u λj o hj HB TM he=>by
          rcases hw j o hj he with ⟨k1,_,_⟩|⟨_,uU⟩
          · rw[k1]at HB;cases HB
          rw[hs i j uU TM]at h2;cases h2
        have e3:=o8 u i (ops.length-i) A0 (λg o k1 k2 hg Ep he=>by
          rcases hw g o hg he with ⟨_,k3,_⟩|⟨k3,_⟩
          · omega
          rw[Ep]at k3;cases k3)
        rw[show i+(ops.length-i)=ops.length by omega]at e3;rw[e1,e2,e3]
      have Uj:=(g2 s.H (λ_ _ h=>by cases h)).ev (evT Ak);refine vL Uj hc (CQ i h1 h2) A0 A0 ?_;rintro r H' L' a' w' ⟨rfl,rfl⟩ hL UB;refine ih tr rem _ s (BG t' ops[i].dst (res i)) L' a' w' A0 (by simpa using FV) (hs.set HM) (λk hk Q7=>?_) JT YS YT h (λu hu=>ha u λj o hj HB TM=>hu j o hj HB (by rw[E0 h2];split<;>first|rfl|exact TM)) K0 (by rw[KZ];exact O1) (λu hu=>?_) UB (λk hk Cv=>?_) UE
      · rw[<-KY k hk Q7,IA k];exact⟨λh=>h.2,λh=>⟨λe=>(by rw[e,hm]at Q7;cases Q7),h⟩⟩
      · by_cases e:u=d
        · subst e;have e2:s.t[u]? =(T ops.length)[u]? :=ha u λj o hj HB _ he=>f3 j o hj (λe=>by rw[e,hm]at HB;cases HB) he
          have e3:=o8 u (i+1) (ops.length-(i+1)) A0 (λg o k1 k2 hg Ep he=>f3 g o hg A0 he);rw[show i+1+(ops.length-(i+1))=ops.length by omega]at e3;rw[e2,e3,g1,f2];exact aE (by rw[O1,K0,Eo _ (Nat.le_refl _),Eo i A0]) (.inl rfl)
        rw[OF (by rw[f2];intro e2;cases e2;exact e rfl)];refine GA u λj o hj HB TM he=>?_
        by_cases ej:j=i
        · subst ej;rw[ho]at hj;cases hj;rw[f2]at he;cases he;exact e rfl
        exact hu j o hj HB ((IA j).2 ⟨ej,TM⟩) he
      obtain⟨k1,k2⟩:=(IA k).1 Cv;rw[hL _ A0];exact CQ k hk k2
    | false=>
      have f2:=hd.sp i _ ho hm;have hir:i∈rem:=(KY i h1 hm).1 h2;have hnr:(rem.any λk=>k !=i && wt ops (cls ops []) k i)=false:=by
        cases hb:rem.any λk=>k !=i && wt ops (cls ops []) k i with
        |false=>rfl
        | true=>
          obtain⟨k,hk,DN⟩:=List.any_eq_true.1 hb;simp only[Bool.and_eq_true]at DN;have h5:=DA hs HM (F0 DN.2);rw[(KY k (YS k hk).1 (YS k hk).2).2 hk]at h5;cases h5
      obtain⟨sub,WH,h3⟩:=A14 (Er YT hir hnr) (Es YT) h;have h4:=Et ho h3;have Ak:∀u∈qC ops[i],s.t[u]? =t'[u]? :=by
        intro u hu;exact(GA u λj o hj HB TM he=>by
          rw[DA hs HM (f2 u hu j o hj HB he)]at TM;cases TM).symm
      refine cS hG h4 (evT Ak) hc (CQ i h1 h2) A0 A0 ?_;intro r H' BB L' a' w' hk A45 hL UB;refine ih sub (rem.erase i) _ ⟨BG s.t ops[i].dst r,H',BB⟩ (BG t' ops[i].dst r) L' a' w' A0 (by simpa using FV) (hs.set HM) (λk hk Q7=>?_) (JT.erase i) (λk hk=>YS k (List.mem_of_mem_erase hk)) WH hk (λu hu=>?_) (by simp only[KZ];exact K0) (by simp only[KZ];exact O1) (λu hu=>?_) UB (λk hk Cv=>?_) (by simp only;omega)
      · rw[IA k,KY k hk Q7,JT.mem_erase_iff]
      · simp only
        rw[OF (hu i _ ho hm (by rw[E0 h2,if_pos rfl]))];exact ha u λj o hj HB TM=>hu j o hj HB (by rw[E0 h2];split<;>first|rfl|exact TM)
      · simp only
        refine aE O1 (.inr (GA u λj o hj HB TM he=>?_));exact hu j o hj HB ((IA j).2 ⟨λe=>(by rw[e,hm]at HB;cases HB),TM⟩) he
      obtain⟨k1,k2⟩:=(IA k).1 Cv;rw[hL _ A0 A0];exact CQ k hk k2
end
section
variable{P:Program}{Γ:CA}
theorem EO{cX:Ctx}(hG:IB P Γ)(Xx:P.follows .mixedOrders=true){n:Nat}{ops:List Oper}{s:St}{K:Exit->St->Prop}(m:List Bool)(tr:Tr)(uR:A15 ops m tr=true)
    (h:GD Γ P s.nx m ops 0 s.t λt=>FZ Γ P s.nx ops tr ⟨t,s.H,s.nx+ops.length⟩ (K .normal)):AW cX P (.region n ops.toArray true) s K:=by
  intro L a w Q hc hQ;obtain⟨hd,hto⟩:=rY uR;refine T2 Xx ?_;obtain⟨T,res,h1,h2,h3,h4⟩:=cR hG (ops:=ops) (m:=m) ops m 0 s.t AB AB h;have Cw:Cn cX ⟨s.t,s.H,s.nx+ops.length⟩ L a {w with drawn:=w.drawn+1}:=
    ⟨hc.df.same rfl,hc.sz,λk x hk=>(hc.sl k x hk).drew,hc.sr.drew,λi hi=>hc.fr i (by simp only at hi;omega),by have:=hc.nx;simp only;omega,hc.lo,hc.st.trans (Step.drew _ _ _)⟩
  have:=Eu (Q:=Q) hG hd (base:=s.nx) (T:=T) (res:=res) (λj o ho hm=>h3 j o (Nat.zero_le _) ho hm) (λj hj hm=>h4 j (Nat.zero_le _) hj hm) hc.nx (λs' L' a' w' hk UB=>hQ _ _ _ _ _ hk UB)
    ops.length tr (others ops m) (Array.replicate ops.length false) ⟨T ops.length,s.H,s.nx+ops.length⟩ s.t L a {w with drawn:=w.drawn+1} (by
      unfold nD;exact Nat.le_trans (List.length_filter_le _ _) AB) AB (by
      intro i j hw hj;have:=hw.len;simp[Array.getD_eq_getD_getElem?,this]at hj) (λi hi hm=>by
      rw[List.getD_eq_getElem?_getD]at hm;simp[Array.getD_eq_getD_getElem?,hi,others,hm]) (List.nodup_range.filter _) (λi hi=>by
      have:=List.mem_filter.1 hi;exact⟨List.mem_range.1 this.1,by simpa using this.2⟩) hto h2 (λu _=>rfl) rfl ?_ ?_ Cw (λi hi _=>hc.fr _ A0) (by simp only;omega)
  · simpa using this
  · simp only
    rw[vM (λj o ho hm=>(h3 j o (Nat.zero_le _) ho hm).1) (λj hj hm=>h4 j (Nat.zero_le _) hj hm) _ (Nat.le_refl _),h1]
  intro u hu;have:=kH (λj o ho hm=>(h3 j o (Nat.zero_le _) ho hm).1) (λj hj hm=>h4 j (Nat.zero_le _) hj hm) u 0 ops.length A0 (λg o _ hg ho hm=>hu g o ho hm (by
    have:=(List.getElem?_eq_some_iff.1 ho).1;simp[Array.getD_eq_getD_getElem?,this]))
  rw[Nat.zero_add]at this;simp only
  rw[this,h1]
@[congr] theorem A9R {base:Nat} {ops:List Oper} {t:Tr} {s s':St} {K:St->Prop} (h:s=s'):FZ Γ P base ops t s K=FZ Γ P base ops t s' K:=by rw[h]
theorem AB8{base:Nat}{ops:List Oper}{s:St}{K:St->Prop}:FZ Γ P base ops .nil s K=K s:=by rw[FZ]
theorem AB9{base j:Nat}{ops:List Oper}{sub:Tr}{s:St}{K:St->Prop}:FZ Γ P base ops (.br j sub .nil) s K=X8 ops j λo=>IG Γ P o.dst o.op (base+j) s λs'=>FZ Γ P base ops sub s' K:=by rw[FZ]
theorem ABA{base j k:Nat}{ops:List Oper}{sub a b:Tr}{s:St}{K:St->Prop}:FZ Γ P base ops (.br j sub (.br k a b)) s K=((X8 ops j λo=>IG Γ P o.dst o.op (base+j) s λs'=>FZ Γ P base ops sub s' K)/\FZ Γ P base ops (.br k a b) s K):=by rw[FZ]
theorem ABB{o:Oper}{l:List Oper}{n:Nat}{k:Oper->Prop}:X8 (o::l) (n+1) k=X8 l n k:=by rw[X8]
theorem ABC{dst:Option Nat}{op:Op}{ty:TypeId}{pos:String}{after:Array Edge}{g:Option (Nat×Bool)}{l:List Oper}{id:Nat}{s:St}{K:St->Prop}:X8 (⟨dst,op,ty,pos,after,g⟩::l) 0 (λo=>IG Γ P o.dst o.op id s K)=IG Γ P dst op id s K:=by rw[X8]
end
attribute [go_sem ↓] AB8 AB9 ABA ABB ABC
theorem cT{cX n ops y s s1 K}(q:AW cX Tryz.prog y s1 K)(e:BV ops s s1:=by intro N hN;(try simp-dsimp-implicitDefEqProofs(maxSteps:=800000) (disch:=omega)only[go_sem,AL,ints,AP,A5,AZ]);exact hN):BU cX n ops y s K:=BY q e
theorem E7{cX n ops y s s1 K}(q:AW cX Tryz.prog y s1 K)(e:BV ops s s1:=by intro N hN;(try simp-dsimp-implicitDefEqProofs(maxSteps:=800000) (disch:=omega)only[go_sem,vi,AZ]);exact hN):BU cX n ops y s K:=BY q e
theorem V0{cX n ops y s s1 K}(q:AW cX Tryz.prog y s1 K)(e:BV ops s s1:=by intro N hN;(try simp-dsimp-implicitDefEqProofs(maxSteps:=800000) (disch:=omega)only[go_sem,Nat.min_eq_left,vi,AZ]);exact hN):BU cX n ops y s K:=BY q e
theorem cU{cX n ops y s s1 K}(q:AW cX Tryz.prog y s1 K)(e:BV ops s s1:=by intro N hN;(try simp-dsimp-implicitDefEqProofs(maxSteps:=800000) (disch:=omega)only[go_sem,HY,A6,ints,AP,A5,rows,AZ]);exact hN):BU cX n ops y s K:=BY q e
theorem Ev{cX n ops y s s1 K f Zz r}(x:BI Tryz.prog f Zz r)(q:AW cX Tryz.prog y s1 K)(e:BI Tryz.prog f Zz r->BV ops s s1:=by intro x N hN;(try simp-dsimp-implicitDefEqProofs(maxSteps:=800000) (disch:=omega)only[go_sem,HY,A6,ints,AP,A5,rows,AZ]);refine AC.pure (.of x) ?_;(try simp-dsimp-implicitDefEqProofs(maxSteps:=800000) (disch:=omega)only[go_sem,HY,A6,ints,AP,A5,rows,AZ]);exact hN):BU cX n ops y s K:=BY q (e x)
theorem iP{cX n ops y s s1 K}(q:AW cX Tryz.prog y s1 K)(e:BV ops s s1:=by intro N hN;(try simp-dsimp-implicitDefEqProofs(maxSteps:=800000) (disch:=omega)only[go_sem,ints,vi,AZ]);exact hN):BU cX n ops y s K:=BY q e
theorem TN{cX n ops s}{K:Exit->St->Prop}{Q:Prop}(q:Q)(e:Q->DW env Tryz.prog ops s.nx ops 0 ⟨s.t,s.H,s.nx+ops.length⟩ (K .normal):=by intro q;(try simp-dsimp-implicitDefEqProofs(maxSteps:=800000) (disch:=omega)only[go_sem,vi,AZ]);exact q):AW cX Tryz.prog (.region n ops.toArray false) s K:=rQ (e q)
theorem kI{cX n ops y s s1 K}(q:AW cX Tryz.prog y s1 K)(e:BV ops s s1:=by intro N hN;(try simp-dsimp-implicitDefEqProofs(maxSteps:=800000) (disch:=omega)only[go_sem,AL,ints,AP,A5,vi,AZ]);exact hN):BU cX n ops y s K:=BY q e
theorem kJ{cX n ops s}{K:Exit->St->Prop}{Q:Prop}(q:Q)(e:Q->DW env Tryz.prog ops s.nx ops 0 ⟨s.t,s.H,s.nx+ops.length⟩ (K .normal):=by intro q;(try simp-dsimp-implicitDefEqProofs(maxSteps:=800000) (disch:=omega)only[go_sem,HY,A6,ints,AP,A5,rows,AZ]);exact q):AW cX Tryz.prog (.region n ops.toArray false) s K:=rQ (e q)
theorem kK{cX n ops s}{K:Exit->St->Prop}{Q:Prop}(q:Q)(e:Q->DW env Tryz.prog ops s.nx ops 0 ⟨s.t,s.H,s.nx+ops.length⟩ (K .normal):=by intro q;(try simp-dsimp-implicitDefEqProofs(maxSteps:=800000) (disch:=omega)only[go_sem,Nat.min_eq_left,vi,AZ]);exact q):AW cX Tryz.prog (.region n ops.toArray false) s K:=rQ (e q)
theorem kL{P Q:Prop}(q:Q)(e:Q->P:=by intro q;(try simp-dsimp-implicitDefEqProofs(maxSteps:=800000) (disch:=omega)only[go_sem,ints,A5,AZ]);exact q):P:=e q
theorem rZ{P Q:Prop}(q:Q)(e:Q->P:=by intro q;(try simp-dsimp-implicitDefEqProofs(maxSteps:=800000) (disch:=omega)only[go_sem,HY,A6,ints,AP,A5,rows,AZ]);exact q):P:=e q
theorem s5{P Q:Prop}(q:Q)(e:Q->P:=by intro q;(try simp-dsimp-implicitDefEqProofs(maxSteps:=800000) (disch:=omega)only[go_sem,ints,vi,AZ]);exact q):P:=e q
end Go.Proofs.YtgknbnkmilddhaaGreat

namespace Go.Proofs.YtgknbnkmilddhaaGreat

def tbT(P:Pc)(t:Nat->Option V):Prop:=∀d y,t d=some y->T P 0 y
noncomputable def FL(P:Pc)(t:Nat->Option V):Nat->Nat->V->Nat×V
  |0,d,x=>(d,x)
  | f+1,d,x=>if x d=0 then FL P t f (d+1) x else match t d with
    |none=>(d,x)
    |some y=>FL P t f (d+1) (M P 0 x (RK P y (0-x d)))
section
variable(os:List Int)(pw:List (List Int))(cj:List (List (List Int)))
def AZ(n:Nat)(us:List V):AV:= .v us.length (us.map (vi n))
theorem E9{n:Nat}{us:List V}{k:Nat}(h:k<us.length):(us.map (vi n)).getD k .j=vi n (us.getD k z0):=by simp[h]
attribute [go_sem] E9
def NJ(os:List Int)(us:List V):Nat->Int
  |0=>1
  |k+1=>NJ os us k*os.getD (E4 os.length (us.getD k z0)) 0
theorem Ew{os:List Int}{us:List V}(hp:∀i,i<os.length->JG (os.getD i 0))(hu:∀k,k<us.length->E4 os.length (us.getD k z0)<os.length):∀k,k<=us.length->1<=NJ os us k/\NJ os us k<=((7^k:Nat):Int):=by
  intro k;induction k with
  |zero=>intro _;simp[NJ]
  | succ k ih=>
    intro hk;have h1:=ih A0;have h2:=CE (hp _ (hu k A0));have:=Q1 h1.1 h1.2 (show 1<=os.getD (E4 os.length (us.getD k z0)) 0 by omega) (show os.getD (E4 os.length (us.getD k z0)) 0<=7 by omega);rw[NJ,Nat.pow_succ,Int.natCast_mul];exact⟨this.1,this.2.1⟩
theorem G8(h:AF os pw cj)(us:List V)(hl:us.length<=6)(hu:∀k,k<us.length->E4 os.length (us.getD k z0)<os.length):BI Tryz.prog 92 [AP os pw cj,AZ os.length us] (.i .i64 (NJ os us us.length)):=by
 have FU:=h.1.1
 have IY:=h.2.1
 refine AD AA Tryz.func92 rfl A7 Tryz.ntmps92 Tryz.results92 (.i _ _) (λnx cX=>?_)
 refine cT ?_;refine AK 2 nx _ rfl (A4 _ _ _) ?_
 refine AG ?_;refine cT ?_;refine AW.seq λN1 B2=>?_;refine cT ?_;apply AW.block;refine A8 (α:=Nat) (λx=>sl 25 [(1,AZ os.length us),(2,A5 os pw cj),(5,.i .i64 (NJ os us x)),(6,.i .i64 x)]) (λ_=>BM) (λx m=>x<=us.length) (λx=>us.length-x) (0) ?_ ?_ (by intro d cs hd;cases hd) ?_
 ·omega
 ·simp(disch:=omega) [AN,AO,sl,A5,ints,rows,A6,AZ,NJ]
 skip
 rintro k m hk
 refine AG ?_;refine AW.seq λN2 B7=>?_;refine cT ?_;refine AW.cond rfl ?_ ?_<;>intro h1<;>try simp only[cn]at h1
 ·have hd:=hu k A0;have hb:=Ew IY hu (k+1) A0;have h7:(7^(k+1):Nat)<=7^6:=Nat.pow_le_pow_right A0 A0;have hs:NJ os us (k+1)=NJ os us k*os.getD (E4 os.length (us.getD k z0)) 0:=rfl;apply AW.skip;apply B7;refine AW.seq λN3 BC=>?_;apply AW.block;refine AM AA A7 12 A7 ?_
  (try simp-dsimp-implicitDefEqProofs(maxSteps:=800000) (disch:=omega)only[go_sem,List.drop_nil,List.drop_succ_cons,List.drop_zero,List.take_nil,List.take_succ_cons,List.take_zero,AL,BW,BE,BF,ints,AP,A5,AZ,AR]);refine⟨_,.of (FY os.length A0 _),?_⟩;(try simp-dsimp-implicitDefEqProofs(maxSteps:=800000) (disch:=omega)only[go_sem,AL,ints,AP,A5,AZ])
  apply BC;apply rQ;simp-dsimp-implicitDefEqProofs(maxSteps:=800000) (disch:=omega)only[go_sem,AL,ints,AP,A5,AZ];refine⟨k+1,?_,λ_ _ h=>h,?_,?_⟩
  ·simp(disch:=omega) [AN,AO,sl,A5,ints,rows,A6,AZ,hs,AR]
  ·omega
  first|omega|(simp only;omega)
 apply AW.exit;apply B2;refine cT ?_;refine AH ?_;rw[show k=us.length by omega]
end
end Go.Proofs.YtgknbnkmilddhaaGreat

namespace Go.Proofs.YtgknbnkmilddhaaGreat
def oset(t:Nat->Option V)(d:Nat)(y:V):Nat->Option V:=λk=>if k=d then some y else t k
noncomputable def s6(P:Pc)(dn:Nat->Option V):Nat->Nat->V->V
  |0,_,x=>x
  | f+1,e,x=>s6 P dn f (e+1) (match dn e with
    |none=>x
    |some z=>if x e=0 then x else M P 0 x (RK P z (0-x e)))
noncomputable def Aq(P:Pc)(n:Nat)(t:Nat->Option V):Nat->Nat->Option V
  |0=>λ_=>none
  | j+1=>match t (n-1-j)with
    |none=>Aq P n t j
    |some y=>oset (Aq P n t j) (n-1-j) (s6 P (Aq P n t j) j (n-j) y)
def BZ(dn:Nat->Option V)(k:Nat):List V:=(List.range k).filterMap dn
theorem DH{dn:Nat->Option V}{k:Nat}{y:V}(h:dn k=some y):BZ dn (k+1)=BZ dn k++[y]:=by simp[BZ,List.range_succ,List.filterMap_append,h]
theorem DI{dn:Nat->Option V}{k:Nat}(h:dn k=none):BZ dn (k+1)=BZ dn k:=by simp[BZ,List.range_succ,List.filterMap_append,h]
theorem Q9{dn:Nat->Option V}{k:Nat}:(BZ dn k).length<=k:=by
  have:=List.length_filterMap_le dn (List.range k);rw[List.length_range]at this;exact this
theorem cV(n:Nat)(us:List V):NR (AZ n us):= .v _ _ (λk y hk=>by
  obtain⟨z,_,rfl⟩:=List.mem_map.1 (List.mem_of_getElem? hk);exact J8 _ _)
def OwS(n nx BB:Nat)(H H':HP)(r:AV)(X:List V):Prop:=∃id,r= .h id 0 X.length/\nx<=id/\id<BB/\H'=AT H id (some (X.map (vi n)))
theorem A17{P:Program}{f:FuncId}{nx:Nat}{H:HP}{xs:List AV}{Q:Nat->HP->AV->Prop}(e:Ent P f)(h:(∀i,nx<=i->H i=none)->AC P f nx H xs Q):AC P f nx H xs Q:=by
  refine⟨e,λL Av w us a b c=>(h λi hi=>?_).2 L Av w us a b c⟩;cases hh:H i with
  |none=>rfl
  |some cs=>obtain⟨l,h1,_⟩:=a.node i cs hh;rw[b i hi]at h1;cases h1
section
variable(os:List Int)(pw:List (List Int))(cj:List (List (List Int)))
end
end Go.Proofs.YtgknbnkmilddhaaGreat

namespace Go.Proofs.YtgknbnkmilddhaaGreat
section
variable(os:List Int)(pw:List (List Int))(cj:List (List (List Int)))
end
end Go.Proofs.YtgknbnkmilddhaaGreat

namespace Go.Proofs.YtgknbnkmilddhaaGreat
section
variable{P:Pc}(hv:GX P){d:Nat}
include hv
theorem kM(hd:d<P.n){a b:V}(ha:T P d a)(hb:T P d b):M P 0 a b d=(a d+b d)%P.o d:=by
  have h1:=ha.r d (Nat.le_refl _) hd;have h2:=hb.r d (Nat.le_refl _) hd;rw[Y8 hv (Nat.zero_le d) ha hb,UL hd];unfold mF;split
  · rw[D4,<-Int.sub_emod_right,Int.emod_eq_of_lt A0 A0]
  rw[D4,Int.emod_eq_of_lt A0 A0]
theorem A18{a b:V}(ha:T P d a)(hb:T P d b):T P d (M P 0 a b):=by
  rw[Y8 hv (Nat.zero_le d) ha hb];exact gH hv ha hb
theorem F4(hd:d<P.n){a:V}(ha:T P d a):∀k:Nat,T P d (rep (M P 0) a k)/\rep (M P 0) a k d=((k:Int)*a d)%P.o d:=by
  intro k;have h1:=ha.r d (Nat.le_refl _) hd;induction k with
  |zero=>exact⟨T.zero hv d,by simp[rep,DG,z0]⟩
  | succ k ih=>
    have hs:rep (M P 0) a (k+1)=M P 0 (rep (M P 0) a k) a:=rfl;refine⟨by rw[hs];exact A18 hv ih.1 ha,?_⟩;rw[hs,kM hv hd ih.1 ha,ih.2,Int.emod_add_emod,Int.natCast_succ,Int.add_mul,Int.one_mul]
theorem Ex(hc:CG P 0){a:V}(ha:T P d a):T P d (inv P 0 a):=by
  have s8:=C0 hv hc;have Pq:=C0 hv (hc.mono (Nat.zero_le d));obtain⟨h1,h2⟩:=EK Pq ha;have h3:inv P d a=inv P 0 a:=inv_eq s8 (ha.mono hv (Nat.zero_le d)) (h1.mono hv (Nat.zero_le d)) (by rw[Y8 hv (Nat.zero_le d) ha h1];exact h2);rw[<-h3];exact h1
theorem Ey(hc:CG P 0)(hd:d<P.n){a:V}(ha:T P d a):(a d+inv P 0 a d)%P.o d=0:=by
  have s8:=C0 hv hc;have h2:=(EK s8 (ha.mono hv (Nat.zero_le d))).2;rw[<-kM hv hd ha (Ex hv hc ha),h2];rfl
theorem aF(hc:CG P 0)(hd:d<P.n){a:V}(ha:T P d a)(k:Int):T P d (RK P a k)/\RK P a k d=(k*a d)%P.o d:=by
  unfold RK;split
  · rename_i hk;obtain⟨h1,h2⟩:=F4 hv hd (Ex hv hc ha) (0-k).toNat;refine⟨h1,?_⟩;rw[h2,Int.toNat_of_nonneg A0];have h3:=Ey hv hc hd ha;rw[Int.emod_eq_emod_iff_emod_sub_eq_zero];rw[show(0-k)*inv P 0 a d-k*a d=(0-k)*(a d+inv P 0 a d) by rw[Int.mul_add,Int.sub_mul,Int.sub_mul,Int.zero_mul,Int.zero_mul];omega];rw[Int.mul_emod,h3,Int.mul_zero,Int.zero_emod]
  rename_i hk;obtain⟨h1,h2⟩:=F4 hv hd ha k.toNat;refine⟨h1,?_⟩;rw[h2,Int.toNat_of_nonneg A0]
theorem iQ(hc:CG P 0)(hd:d<P.n){u y:V}(hu:T P d u)(hy:T P d y)(h1:y d=1):T P (d+1) (M P 0 u (RK P y (0-u d))):=by
  obtain⟨p1,p2⟩:=aF hv hc hd hy (0-u d);have hT:=A18 hv hu p1;have hl:=kM hv hd hu p1;rw[p2,h1,Int.mul_one,Int.add_emod_emod,show u d+(0-u d)=0 by omega,Int.zero_emod]at hl;refine⟨λk hk=>?_,λk h2 h3=>hT.r k A0 h3,hT.t⟩;by_cases e:k=d
  · subst e;exact hl
  exact hT.z k A0
end
end Go.Proofs.YtgknbnkmilddhaaGreat

namespace Go.Proofs.YtgknbnkmilddhaaGreat
section
variable(os:List Int)
end
end Go.Proofs.YtgknbnkmilddhaaGreat

namespace Go.Proofs.YtgknbnkmilddhaaGreat
def OW(P:Pc)(t:Nat->Option V):Prop:=∀d y,t d=some y->d<P.n/\T P d y/\y d=1
theorem OW.T{P:Pc}(hv:GX P){t:Nat->Option V}(h:OW P t):tbT P t:=λd y hy=>(h d y hy).2.1.mono hv (Nat.zero_le d)
theorem T.up{P:Pc}{d:Nat}{x:V}(h:Go.Proofs.YtgknbnkmilddhaaGreat.T P d x)(h0:x d=0):Go.Proofs.YtgknbnkmilddhaaGreat.T P (d+1) x:=by
  refine⟨λk hk=>?_,λk h2 h3=>h.r k A0 h3,h.t⟩;by_cases e:k=d
  · subst e;exact h0
  exact h.z k A0
theorem s9{P:Pc}(hv:GX P)(hc:CG P 0){t:Nat->Option V}(ht:OW P t):∀f d x,d+f=P.n->T P d x->
    d<=(FL P t f d x).1/\(FL P t f d x).1<=P.n/\T P (FL P t f d x).1 (FL P t f d x).2/\((FL P t f d x).1<P.n->t (FL P t f d x).1=none/\(FL P t f d x).2 (FL P t f d x).1≠0):=by
  intro f;induction f with
  |zero=>intro d x hd hx;rw[FL];exact⟨Nat.le_refl _,A0,hx,λh=>absurd h (by dsimp only;omega)⟩
  | succ f ih=>
    intro d x hd hx;rw[FL];split
    · rename_i h0;obtain⟨i1,i2,i3,i4⟩:=ih (d+1) x A0 (hx.up h0);exact⟨A0,i2,i3,i4⟩
    rename_i h0;cases hy:t d with
    |none=>exact⟨Nat.le_refl _,by dsimp only;omega,hx,λ_=>⟨hy,h0⟩⟩
    | some y=>
      obtain⟨y1,y2,y3⟩:=ht d y hy;obtain⟨i1,i2,i3,i4⟩:=ih (d+1) _ A0 (iQ hv hc y1 hx y2 y3);exact⟨Nat.le_trans (Nat.le_succ d) i1,i2,i3,i4⟩
noncomputable def cW(P:Pc)(t:Nat->Option V)(d:Nat)(y:V):Nat->List V
  |0=>[]
  | e+1=>match t e with
    |none=>cW P t d y e
    |some z=>if e=d then cW P t d y e else cW P t d y e++[cmV P y z]
theorem Ez{P:Pc}{t:Nat->Option V}{d:Nat}{y:V}:∀e,(cW P t d y e).length<=e:=by
  intro e;induction e with
  |zero=>exact Nat.le_refl _
  | succ e ih=>
    rw[cW];split
    · omega
    split
    · omega
    rw[List.length_append];simp;omega
noncomputable def V1(P:Pc)(s:Nat×V):V:=RK P s.2 (UY (P.o s.1) (s.2 s.1))
noncomputable def Fa(P:Pc)(t:Nat->Option V)(w:List V)(s:Nat×V):(Nat->Option V)×List V:=
  if s.1=P.n then (t,w)else (oset t s.1 (V1 P s),w++[s.2]++[RK P (V1 P s) (P.o s.1)]++cW P (oset t s.1 (V1 P s)) s.1 (V1 P s) P.n)
noncomputable def clS(P:Pc)(t:Nat->Option V)(w:List V):Nat×V:=FL P t P.n 0 (w.getD (w.length-1) z0)
noncomputable def o9(P:Pc):Nat->(Nat->Option V)->List V->Nat->Option V
  |0,t,_=>t
  |f+1,t,w=>if w.length=0 then t else o9 P f (Fa P t (w.take (w.length-1)) (clS P t w)).1 (Fa P t (w.take (w.length-1)) (clS P t w)).2
def OG(t:Nat->Option V):Nat->Nat
  |0=>0
  | k+1=>match t k with
    |none=>OG t k+1
    |some _=>OG t k
theorem vR{t:Nat->Option V}{d:Nat}{y:V}(hd:t d=none):∀k,(k<=d->OG (oset t d y) k=OG t k)/\(d<k->OG (oset t d y) k+1=OG t k):=by
  intro k;induction k with
  |zero=>exact⟨λ_=>rfl,λh=>A0⟩
  | succ k ih=>
    rw[OG,OG];by_cases e:k=d
    · subst e;have h1:oset t k y k=some y:=by simp[oset]
      rw[h1,hd];exact⟨λh=>A0,λ_=>by have:=ih.1 (Nat.le_refl _);dsimp only;omega⟩
    have h1:oset t d y k=t k:=by simp[oset,e]
    rw[h1];refine⟨λh=>?_,λh=>?_⟩
    · have:=ih.1 A0;cases t k<;>dsimp only<;>omega
    have:=ih.2 A0;cases t k<;>dsimp only<;>omega
def aG(P:Pc)(t:Nat->Option V)(w:List V):Nat:=OG t P.n*(P.n+3)+w.length
theorem Pr{P:Pc}(hv:GX P)(hc:CG P 0){t:Nat->Option V}(ht:OW P t){w:List V}(hw:w.length≠0)(hT:T P 0 (w.getD (w.length-1) z0)):
    aG P (Fa P t (w.take (w.length-1)) (clS P t w)).1 (Fa P t (w.take (w.length-1)) (clS P t w)).2<aG P t w:=by
  obtain⟨i1,i2,i3,i4⟩:=s9 hv hc ht P.n 0 _ A0 hT;have hl:(w.take (w.length-1)).length=w.length-1:=by rw[List.length_take];omega
  unfold aG Fa clS;split
  · dsimp only;rw[hl];omega
  rename_i AQ;obtain⟨j1,j2⟩:=i4 A0;have h2:=(vR (y:=V1 P (FL P t P.n 0 (w.getD (w.length-1) z0))) j1 P.n).2 A0;have h3:=Ez (P:=P) (t:=oset t (FL P t P.n 0 (w.getD (w.length-1) z0)).1 (V1 P (FL P t P.n 0 (w.getD (w.length-1) z0)))) (d:=(FL P t P.n 0 (w.getD (w.length-1) z0)).1) (y:=V1 P (FL P t P.n 0 (w.getD (w.length-1) z0))) P.n;dsimp only;rw[<-h2,Nat.add_mul,Nat.one_mul];simp only[List.length_append,List.length_cons,List.length_nil,hl];omega
theorem cY{P:Pc}(hv:GX P)(hc:CG P 0)(hp:∀d,d<P.n->JG (P.o d)){s:Nat×V}(h1:s.1<P.n)(hT:T P s.1 s.2)(hn:s.2 s.1≠0):T P s.1 (V1 P s)/\V1 P s s.1=1:=by
  have hr:=hT.r s.1 (Nat.le_refl _) h1;obtain⟨p1,p2⟩:=aF hv hc h1 hT (UY (P.o s.1) (s.2 s.1));obtain⟨q1,q2,q3⟩:=kG (hp _ h1) (show 1<=s.2 s.1 by omega) hr.2;refine⟨p1,?_⟩;rw[V1,p2,Int.mul_comm];exact q3
theorem A19{P:Pc}(hv:GX P)(hc:CG P 0){t:Nat->Option V}(ht:tbT P t){d:Nat}{y:V}(hy:T P 0 y):∀e x,x∈cW P t d y e->T P 0 x:=by
  intro e;induction e with
  |zero=>intro x hx;cases hx
  | succ e ih=>
    intro x hx;rw[cW]at hx;split at hx
    · exact ih x hx
    rename_i z hz;split at hx
    · exact ih x hx
    rcases List.mem_append.1 hx with h|h
    · exact ih x h
    rw[List.mem_singleton.1 h];exact Uw hv hc hy (ht _ _ hz)
theorem Uy{P:Pc}(hv:GX P)(hc:CG P 0)(hp:∀d,d<P.n->JG (P.o d)){t:Nat->Option V}(ht:OW P t){w:List V}(hw:∀x∈w,T P 0 x){x:V}(hx:T P 0 x):
    OW P (Fa P t w (FL P t P.n 0 x)).1/\∀z∈(Fa P t w (FL P t P.n 0 x)).2,T P 0 z:=by
  obtain⟨i1,i2,i3,i4⟩:=s9 hv hc ht P.n 0 x A0 hx;obtain⟨s,hs⟩:∃s,FL P t P.n 0 x=s:=⟨_,rfl⟩;rw[hs]at i1 i2 i3 i4 ⊢;unfold Fa;split
  · exact⟨ht,hw⟩
  rename_i AQ;obtain⟨j1,j2⟩:=i4 A0;obtain⟨y1,y2⟩:=cY hv hc hp A0 i3 j2;have oB:=y1.mono hv (Nat.zero_le _);have hG:OW P (oset t s.1 (V1 P s)):=by
    intro d z hz;unfold oset at hz;split at hz
    · rename_i e;subst e;cases hz;exact⟨A0,y1,y2⟩
    exact ht d z hz
  refine⟨hG,λz hz=>?_⟩;rcases List.mem_append.1 hz with h|h
  · rcases List.mem_append.1 h with h|h
    · rcases List.mem_append.1 h with h|h
      · exact hw z h
      rw[List.mem_singleton.1 h];exact i3.mono hv (Nat.zero_le _)
    rw[List.mem_singleton.1 h];exact nX hv hc oB _
  exact A19 hv hc (hG.T hv) oB _ z h
end Go.Proofs.YtgknbnkmilddhaaGreat

namespace Go.Proofs.YtgknbnkmilddhaaGreat
theorem A1A{t:Nat->Option V}:∀k,OG t k<=k:=by
  intro k;induction k with
  |zero=>exact Nat.le_refl _
  |succ k ih=>rw[OG];split<;>omega
section
variable(os:List Int)(pw:List (List Int))(cj:List (List (List Int)))
end
end Go.Proofs.YtgknbnkmilddhaaGreat

namespace Go.Proofs.YtgknbnkmilddhaaGreat
def sm(f:Nat->Int):Nat->Int
  |0=>0
  |k+1=>sm f k+f k
theorem GG{f g:Nat->Int}:∀n,(∀k,k<n->f k=g k)->sm f n=sm g n:=by
  intro n;induction n with
  |zero=>intro _;rfl
  |succ n ih=>intro h;rw[sm,sm,ih (λk hk=>h k A0),h n A0]
theorem A1B{f:Nat->Int}{m:Nat}:∀b,sm f (m+b)=sm f m+sm (λy=>f (m+y)) b:=by
  intro b;induction b with
  |zero=>simp[sm]
  |succ b ih=>rw[Nat.add_succ,sm,ih,sm];omega
theorem sA{f:Nat->Int}{b:Nat}:∀a,sm f (a*b)=sm (λx=>sm (λy=>f (x*b+y)) b) a:=by
  intro a;induction a with
  |zero=>simp[sm]
  |succ a ih=>rw[Nat.succ_mul,A1B,ih,sm]
theorem vS:∀n,sm (λ_=>0) n=0:=by
  intro n;induction n with
  |zero=>rfl
  |succ n ih=>rw[sm,ih];rfl
theorem Fb{f g:Nat->Int}:∀n,sm (λk=>f k+g k) n=sm f n+sm g n:=by
  intro n;induction n with
  |zero=>rfl
  |succ n ih=>rw[sm,sm,sm,ih];omega
theorem Pt{f:Nat->Nat->Int}{b:Nat}:∀a,sm (λx=>sm (λy=>f x y) b) a=sm (λy=>sm (λx=>f x y) a) b:=by
  intro a;induction a with
  |zero=>simp only[sm];exact(vS b).symm
  |succ a ih=>rw[sm,ih,<-Fb];rfl
theorem A1C{p:Nat->Prop}:∀n,NI p n=sm (λk=>if tf (p k)=true then 1 else 0) n:=by
  intro n;induction n with
  |zero=>rfl
  |succ n ih=>rw[NI,sm,ih];split<;>omega
def dS(n c k:Nat):List Nat:=(List.range c).map λi=>k/n^(c-1-i)%n
def dI(n c k:Nat):List Nat:=(List.range c).map λi=>k/n^i%n
theorem vT{n c x y:Nat}(h1:1<=n)(hx:x<n)(hy:y<n^c):dS n (c+1) (x*n^c+y)=x::dS n c y:=by
  unfold dS;rw[List.range_succ_eq_map,List.map_cons,List.map_map];have hp:0<n^c:=Nat.pow_pos A0;congr 1
  · rw[show c+1-1-0=c by omega,Nat.add_comm,Nat.add_mul_div_right _ _ hp,Nat.div_eq_of_lt hy,Nat.zero_add,Nat.mod_eq_of_lt hx]
  refine List.map_congr_left λi hi=>?_
  have hi:=List.mem_range.1 hi;simp only[Function.comp];rw[show c+1-1-i.succ=c-1-i by omega];obtain⟨j,hj⟩:∃j,c-1-i=j:=⟨_,rfl⟩;rw[hj];have hpj:0<n^j:=Nat.pow_pos A0;have e:n^c=n^(c-j-1)*n*n^j:=by rw[<-Nat.pow_succ,<-Nat.pow_add];congr 1;omega
  rw[e,<-Nat.mul_assoc,Nat.add_comm,Nat.add_mul_div_right _ _ hpj,<-Nat.mul_assoc,Nat.add_mul_mod_self_right]
theorem Pu{n c x y:Nat}(h1:1<=n)(hx:x<n):dI n (c+1) (y*n+x)=x::dI n c y:=by
  unfold dI;rw[List.range_succ_eq_map,List.map_cons,List.map_map];congr 1
  · rw[Nat.pow_zero,Nat.div_one,Nat.add_comm,Nat.add_mul_mod_self_right,Nat.mod_eq_of_lt hx]
  refine List.map_congr_left λi hi=>?_
  simp only[Function.comp];rw[show n^i.succ=n*n^i by rw[Nat.pow_succ,Nat.mul_comm],<-Nat.div_div_eq_div_mul,Nat.add_comm,Nat.add_mul_div_right _ _ A0,Nat.div_eq_of_lt hx,Nat.zero_add]
theorem digits{n:Nat}(h1:1<=n):∀(c:Nat) (g:List Nat->Int),sm (λk=>g (dS n c k)) (n^c)=sm (λk=>g (dI n c k)) (n^c):=by
  intro c;induction c with
  |zero=>intro g;rfl
  | succ c ih=>
    intro g;have hL:sm (λk=>g (dS n (c+1) k)) (n^(c+1))=sm (λx=>sm (λy=>g (x::dI n c y)) (n^c)) n:=by
      rw[show n^(c+1)=n*n^c by rw[Nat.pow_succ,Nat.mul_comm],sA];refine GG n λx hx=>?_
      rw[<-ih λl=>g (x::l)];refine GG _ λy hy=>?_
      rw[vT h1 hx hy]
    have hR:sm (λk=>g (dI n (c+1) k)) (n^(c+1))=sm (λy=>sm (λx=>g (x::dI n c y)) n) (n^c):=by
      rw[Nat.pow_succ,sA];refine GG _ λy hy=>?_
      refine GG n λx hx=>?_
      rw[Pu h1 hx]
    rw[hL,hR,Pt]
theorem Pv{n k:Nat}:∀d,fN (n:Int) (k:Int) d=((k/n^d:Nat):Int):=by
  intro d;induction d with
  |zero=>simp[fN]
  |succ d ih=>rw[fN,ih,Nat.pow_succ,<-Nat.div_div_eq_div_mul];rfl
theorem Fc{os:List Int}{n c k:Nat}:TJ os (n:Int) c (k:Int)=(dI n c k).map λd:Nat=>atR os (d:Int):=by
  unfold TJ dI;rw[List.map_map];refine List.map_congr_left λi _=>?_
  rw[Pv];rfl
theorem Pw{n c:Nat}(h1:1<=n)(h:OU (n:Int) c<=4096):OU (n:Int) c=((n^c:Nat):Int):=by
  have:∀k,k<=c->OU (n:Int) k=((n^k:Nat):Int):=by
    intro k;induction k with
    |zero=>intro _;simp[OU]
    | succ k ih=>
      intro hk;have h2:OU (n:Int) k<=4096:=by
        apply Classical.byContradiction;intro hn;have:=nV (N:=(n:Int)) (k:=k) (c:=c) A0 A0;omega
      rw[OU,if_pos h2,ih A0,Nat.pow_succ];simp
  exact this c (Nat.le_refl _)
end Go.Proofs.YtgknbnkmilddhaaGreat

namespace Go.Proofs.YtgknbnkmilddhaaGreat
theorem A1D{P:Pc}(hv:GX P)(hc:CG P 0)(hp:∀d,d<P.n->JG (P.o d)):∀(f:Nat) (t:Nat->Option V) (w:List V),OW P t->(∀x∈w,T P 0 x)->OW P (o9 P f t w):=by
  intro f;induction f with
  |zero=>intro t w ht _;exact ht
  | succ f ih=>
    intro t w ht hw;rw[o9];split
    · exact ht
    rename_i AQ;have hx:T P 0 (w.getD (w.length-1) z0):=hw _ (by rw[List.getD_eq_getElem?_getD,List.getElem?_eq_getElem A0];exact List.getElem_mem _);obtain⟨g1,g2⟩:=Uy hv hc hp ht (w:=w.take (w.length-1)) (λx h=>hw x (List.mem_of_mem_take h)) hx;exact ih _ _ g1 g2
theorem A1E{P:Pc}(hv:GX P)(hc:CG P 0)(hp:∀d,d<P.n->JG (P.o d)){dn:Nat->Option V}(hd:OW P dn){d:Nat}(NY:d<P.n):∀(f e:Nat) (x:V),d<e->T P d x->x d=1->T P d (s6 P dn f e x)/\s6 P dn f e x d=1:=by
  intro f;induction f with
  |zero=>intro e x _ h1 h2;exact⟨h1,h2⟩
  | succ f ih=>
    intro e x he hx h1;rw[s6];cases hz:dn e with
    |none=>exact ih _ _ A0 hx h1
    | some z=>
      dsimp only;split
      · exact ih _ _ A0 hx h1
      obtain⟨z1,z2,z3⟩:=hd e z hz;obtain⟨p1,p2⟩:=aF hv hc z1 z2 (0-x e);have p3:=p1.mono hv (Nat.le_of_lt he);have p4:RK P z (0-x e) d=0:=p1.z d he;refine ih _ _ A0 (A18 hv hx p3) ?_;have:=CE (hp d NY);rw[kM hv NY hx p3,p4,h1,Int.add_zero,Int.emod_eq_of_lt A0 A0]
theorem A6O{P:Pc}(hv:GX P)(hc:CG P 0)(hp:∀d,d<P.n->JG (P.o d)){t:Nat->Option V}(ht:OW P t):∀j,j<=P.n->OW P (Aq P P.n t j):=by
  intro j;induction j with
  |zero=>intro _ d y h;cases h
  | succ j ih=>
    intro hj;rw[Aq];split
    · exact ih A0
    rename_i y hy;intro d z hz;unfold oset at hz;split at hz
    · rename_i e;subst e;cases hz;obtain⟨y1,y2,y3⟩:=ht _ y hy;exact⟨y1,A1E hv hc hp (ih A0) y1 j (P.n-j) y A0 y2 y3⟩
    exact ih A0 d z hz
theorem Fe{dn:Nat->Option V}{k:Nat}{y:V}(h:y∈BZ dn k):∃d,dn d=some y:=by
  obtain⟨d,_,hd⟩:=List.mem_filterMap.1 h;exact⟨d,hd⟩
section
variable(os:List Int)(pw:List (List Int))(cj:List (List (List Int)))
noncomputable def RL(P:Pc)(us:List V):List V:=BZ (Aq P P.n (o9 P (aG P (λ_=>none) us) (λ_=>none) us) P.n) P.n
theorem Ff{xs:List (List Int)}(hx:YY os xs):rows xs=AZ os.length (xs.map fl):=by
  unfold rows AZ;rw[List.map_map,List.length_map];congr 1
  refine List.map_congr_left λx hm=>?_
  obtain⟨k,hk,rfl⟩:=List.getElem_of_mem hm;have:=(hx k hk).1;rw[List.getD_eq_getElem?_getD,List.getElem?_eq_getElem hk]at this;exact D5 this
theorem A6P{xs:List (List Int)}(hx:YY os xs):∀v∈xs.map fl,T (pc os pw cj) 0 v:=by
  intro v hv;obtain⟨x,hm,rfl⟩:=List.mem_map.1 hv;obtain⟨k,hk,rfl⟩:=List.getElem_of_mem hm;have:=vG (pw:=pw) (cj:=cj) hx hk;unfold imX at this;rwa [List.getD_eq_getElem?_getD,List.getElem?_eq_getElem hk]at this
end
end Go.Proofs.YtgknbnkmilddhaaGreat

namespace Go.Proofs.YtgknbnkmilddhaaGreat
def kN(os:List Int)(P:Pc)(xs:List (List Int)):Prop:=NJ os (RL P (xs.map fl)) (RL P (xs.map fl)).length=CV os os.length
end Go.Proofs.YtgknbnkmilddhaaGreat

namespace Go.Proofs.YtgknbnkmilddhaaGreat
end Go.Proofs.YtgknbnkmilddhaaGreat
