import Derived.Maps.RangeRun
import Derived.Laws.BytesArg
import Derived.Laws.BytesString
import Derived.Below
import Derived.Test.YtghmeeifjeafmaaGreatZ02
set_option linter.unusedVariables false
set_option linter.unusedSimpArgs false
namespace Go.Proofs.YtghmeeifjeafmaaGreat
def OH(kd:IntKind)(n:Int):List AV→Option (Option AV)
  |[]=>some none
  | .g [.i k m,v]::r=>if k=kd then (if n=m then some (some v)else OH kd n r)else none
  |_=>none
def aK(kd:IntKind)(n:Int)(v:AV):List AV→Option (List AV)
  |[]=>some [.g [.i kd n,v]]
  | .g [.i k m,u]::r=>if k=kd then (if n=m then some (.g [.i kd n,v]::r)else (aK kd n v r).map (AV.g [.i k m,u]:: ·))else none
  |_=>none
section
variable{P:Program}{Γ:BV}{o:Oper}{ev:Operand→AV}{H:HP}{id:Nat}{L:LM}{w:World}{M:Nat→Prop}
theorem R.YK{a b:AV}{x y:Value}(h:R L w M (.g [a,b]) (.agg #[x,y])):R L w M a x∧R L w M b y:=by
  cases h with
  |g _ _ hs hr=>exact⟨hr 0 a rfl,hr 1 b rfl⟩
theorem R.g2{a b:AV}{x y:Value}(h1:R L w M a x)(h2:R L w M b y):R L w M (.g [a,b]) (.agg #[x,y]):=by
  refine .g _ _ rfl fun k z hk=>?_
  match k,hk with
  |0,hk=>cases hk;exact h1
  |1,hk=>cases hk;exact h2
theorem R.t2{a b:AV}{x y:Value}(h1:R L w M a x)(h2:R L w M b y):R L w M (.t [a,b]) (.tuple #[x,y]):=by
  refine .t _ _ rfl fun k z hk=>?_
  match k,hk with
  |0,hk=>cases hk;exact h1
  |1,hk=>cases hk;exact h2
theorem R.gR{id:Nat}{u:Value}(h:R L w M (.m id) u):∃l,(L id=some l∧l.kd=1)∧u= .map (some l.D1):=by
  cases h with|m _ l hl h0=>exact⟨l,⟨hl,h0⟩,rfl⟩
theorem R.nX{id:Nat}{u:Value}(h:R L w M (.it id) u):∃l,(L id=some l∧l.kd=2)∧u= .pointer (some ⟨l.D1,0,none⟩):=by
  cases h with|it _ l hl h0=>exact⟨l,⟨hl,h0⟩,rfl⟩
theorem U6{kd kd':IntKind}{n:Int}:∀(cs:List AV) (es:List MapEntry) (i:Nat) (r:Option AV),OH kd n cs=some r→cs.length=es.length→(∀(k:Nat) (x:AV),cs[k]? =some x→∃e:MapEntry,es[k]? =some e∧R L w M x (.agg #[e.key,e.val]))→
    (r=none→Instr.findNow (.int kd') (.int kd n) es i=some none)∧
    ∀v,r=some v→∃(j:Nat) (e:MapEntry),es[j]? =some e∧cs[j]? =some (.g [.i kd n,v])∧e.key= .int kd n∧R L w M v e.val∧Instr.findNow (.int kd') (.int kd n) es i=some (some (i+j,e.val)):=by
  intro cs;induction cs with
  | nil=>
    intro es i r h hl hr;have:es=[]:=by cases es with|nil=>rfl|cons=>simp at hl
    subst this;simp only[OH,Option.some.injEq]at h;subst h;exact⟨fun _=>rfl,fun v hv=>by cases hv⟩
  | cons c cs ih=>
    intro es i r h hl hr;cases es with
    |nil=>simp at hl
    | cons e es=>
      unfold OH at h;split at h
      · rename_i h';cases h'
      · rename_i k m v rr h';cases h'
        obtain⟨e',he,hR⟩:=hr 0 _ rfl;cases he;obtain⟨q1,q2⟩:=hR.YK;have q3:=q1.D4;split at h
        · rename_i hk;subst hk;split at h
          · rename_i hn;subst hn;cases h;exact⟨fun h=>(by cases h),fun v' hv=>by
              cases hv;exact⟨0,e,rfl,rfl,q3,q2,by simp[Instr.findNow,Instr.sameNow,q3]⟩⟩
          rename_i hn;obtain⟨g1,g2⟩:=ih es (i+1) r h (by simpa using hl) (fun k x hx=>hr (k+1) x hx);have e1:Instr.findNow (.int kd') (.int k n) (e::es) i=Instr.findNow (.int kd') (.int k n) es (i+1):=by
            simp only[Instr.findNow,Instr.sameNow,q3,if_true];rw[show(n==m)=false from by simpa using hn]
          rw[e1];exact⟨g1,fun v' hv=>by
            obtain⟨j,e2,g3,g4,g5,g6,g7⟩:=g2 v' hv;exact⟨j+1,e2,g3,g4,g5,g6,by rw[g7];congr 3;omega⟩⟩
        cases h
      cases h
theorem nY{kd:IntKind}{n:Int}{v:AV}:∀(cs CX:List AV),aK kd n v cs=some CX→(OH kd n cs=some none∧CX=cs++[.g [.i kd n,v]])∨∃(u:AV),OH kd n cs=some (some u)∧
    ∀j,cs[j]? =some (.g [.i kd n,u])→(∀i,i<j→∀z,cs[i]?≠some (.g [.i kd n,z]))→CX=cs.set j (.g [.i kd n,v]):=by
  intro cs;induction cs with
  |nil=>intro CX h;cases h;exact .inl ⟨rfl,rfl⟩
  | cons c cs ih=>
    intro CX h;unfold aK at h;split at h
    · rename_i h';cases h'
    · rename_i k m u rr h';cases h'
      split at h
      · rename_i hk;subst hk;split at h
        · rename_i hn;subst hn;cases h;refine .inr ⟨u,by simp[OH],fun j hj BW=>?_⟩;cases j with
          |zero=>rfl
          |succ j=>exact absurd rfl (BW 0 (by omega) u)
        rename_i hn;cases hm:aK k n v cs with
        |none=>rw[hm]at h;cases h
        | some d=>
          rw[hm]at h;simp only[Option.map_some,Option.some.injEq]at h;subst h;have e1:OH k n (.g [.i k m,u]::cs)=OH k n cs:=by simp[OH,hn]
          rw[e1];rcases ih d hm with ⟨g1,g2⟩|⟨z,g1,g2⟩
          · exact .inl ⟨g1,by rw[g2];rfl⟩
          refine .inr ⟨z,g1,fun j hj BW=>?_⟩;cases j with
          |zero=>simp at hj;exact absurd hj.1.symm hn
          |succ j=>rw[g2 j hj (fun i hi y hy=>BW (i+1) (by omega) y hy)];rfl
      cases h
    cases h
theorem dV{kd kd':IntKind}{n:Int}:∀(es:List MapEntry) (i j:Nat) (u:Value),Instr.findNow (.int kd') (.int kd n) es i=some (some (i+j,u))→∀k e,k<j→es[k]? =some e→e.key≠ .int kd n:=by
  intro es;induction es with
  |nil=>intro i j u h;simp[Instr.findNow]at h
  | cons e es ih=>
    intro i j u h k e' hk he;unfold Instr.findNow at h;split at h
    · simp only[Option.some.injEq,Prod.mk.injEq]at h;omega
    · rename_i hs;cases k with
      | zero=>
        cases he;intro A06;rw[A06]at hs;simp[Instr.sameNow]at hs
      | succ k=>
        cases j with
        |zero=>omega
        |succ j=>exact ih (i+1) j u (by rw[h];congr 3;omega) k e' (by omega) he
    cases h
theorem YL{Av:Nat→Prop}(hs:SR L H Av w){PE:Nat}{cs:List AV}(hc:H PE=some cs){l:Loc}(hl:L PE=some l)(h0:l.kd=1):
    ∃es:Array MapEntry,w.heap[l.D1]? =some (.map es es.size)∧cs.length=es.size∧∀(k:Nat) (x:AV),cs[k]? =some x→∃e:MapEntry,es[k]? =some e∧e.born=k∧R L w (MM L H Av) x (.agg #[e.key,e.val]):=by
  obtain⟨l',GK,CY⟩:=hs.node PE cs hc;rw[hl]at GK;cases GK;exact CY.mp h0
def gS(id:Nat)(k:AV→HP→Prop)(H:HP):Prop:=k (.m id) (AU H id (some []))
theorem aL{ty:TypeId}(ho:o.op= .makeMap ty none){k:AV→HP→Prop}(h:gS id k H):YE P o ev H id k:=by
  intro L Av w ρ hs ZW hL hi AZ;obtain⟨h1,h2⟩:=LQ hs hL hi (.map #[] 0) ⟨w.heap.size,0,0,1⟩ rfl [] (fun _=>⟨by simp,fun h=>(by cases h),fun _=>⟨#[],heap_alloc_new _ _,rfl,fun k x hk=>by simp at hk⟩,fun h=>(by cases h),Nat.le_succ 1⟩);refine .CJ (u:= .map (some w.heap.size)) (w':=w.alloc (.map #[] 0)) ?_ ⟨_,_,_,h,fun i AL=>C3 _ _ AL,h1,h2,.m _ _ (BR _ _ _) rfl⟩;simp[execOp,ho,Instr.makeMap,newObj,Sem.run,Result.andThen]
def nZ(Γ:BV)(H:HP)(ty:TypeId)(x i:AV)(ok:Bool)(k:AV→Prop):Prop:=
  match Γ ty with
  | some e=>match e.d with
    | .map kt el=>match Γ kt,Γ el,x,i with
      | some ke,some ee,.m PE,.i kd n=>K7 ke.d=true∧QK (H PE) fun cs=>QK (OH kd n cs) fun r=>match r with
        |some v=>k (if ok then .t [v,.b true]else v)
        |none=>k (if ok then .t [XF ee.zero,.b false]else XF ee.zero)
      |_,_,_,_=>False
    |_=>False
  |none=>False
theorem XJ{d:TD}(h:K7 d=true):∃k,d= .int k:=by cases d<;>simp[K7]at h;exact⟨_,rfl⟩
theorem I8{b:Nat}{es:Array MapEntry}{c:Nat}(h:w.heap[b]? =some (.map es c)):(getObj b).run P w= .ok (.map es c) w:=by simp[getObj,Sem.run,h]
theorem U7{b:Nat}{es:Array MapEntry}{c:Nat}(h:w.heap[b]? =some (.map es c))(o':Obj):(setObj b o').run P w= .ok () (CQ w b o'):=by simp[setObj,Sem.run,h];rfl
theorem gT(hG:GJ P Γ){ty:TypeId}{x i:Operand}{ok:Bool}(ho:o.op= .lookup ty x i ok){k:AV→Prop}(h:nZ Γ H ty (ev x) (ev i) ok k):YE P o ev H id fun r H'=>k r∧H'=H:=by
  intro L Av w ρ hs ZW hL hi AZ;unfold nZ at h;split at h
  · rename_i e he;split at h
    · rename_i kt el hd;split at h
      · rename_i ke ee PE kd n W8 S4 hx hn;obtain⟨h1,cs,hc,r,hr,h⟩:=h;obtain⟨kk,aM⟩:=XJ h1;have hu:=AZ x (by rw[ho];simp[Op.operands]);have hv:=AZ i (by rw[ho];simp[Op.operands]);rw[hx]at hu;rw[hn]at hv;obtain⟨l,⟨hl,h0⟩,e1⟩:=hu.gR;obtain⟨es,e2,e3,e4⟩:=YL hs hc hl h0;obtain⟨f1,f2⟩:=U6 (kd':=kk) (L:=L) (w:=w) (M:=MM L H Av) cs es.toList 0 r hr (by simpa using e3) (fun k x hk=>by
          obtain⟨e',g1,g2,g3⟩:=e4 k x hk;exact⟨e',by rw[Array.getElem?_toList];exact g1,g3⟩)
        have u1:=(hG ty e he).map hd;have u2:=(hG kt ke W8).int aM;have u3:=(hG el ee S4).F3;have fin:∀(rv:AV) (z:Value),k rv→(Instr.lookup ty (ρ x) (ρ i) ok).run P w= .ok z w→R L w (MM L H Av) rv z→QV P o ρ w fun u w'=>∃r H' L',(k r∧H'=H)∧(∀i,i≠id→L' i=L i)∧SR L' H' Av w'∧Step L H w L' H' w'∧R L' w' (MM L' H' Av) r u:=by
          intro rv z hk DE hR;refine .CJ (u:=z) (w':=w) ?_ ⟨rv,H,L,⟨hk,rfl⟩,fun _ _=>rfl,hs,Step.refl _ _ _,hR⟩;simp only[execOp,ho,DE,Sem.run_bind,Sem.run_pure,Result.andThen_ok]
        have Ob:∀b,(Instr.checkKey b 10000 kt (.int kd n)).run P w= .ok () w:=fun b=>by
          unfold Instr.checkKey;simp only[Sem.run_bind,u2,Result.andThen_ok,Sem.run_pure]
        cases r with
        | none=>
          refine fin (if ok then .t [XF ee.zero,.b false]else XF ee.zero) (if ok then .tuple #[ee.zero,.bool false]else ee.zero) h ?_ ?_
          · simp only[Instr.lookup,Sem.run_bind,u1,Result.andThen_ok,e1,hv.D4,I8 e2,Sem.run_pure,Ob,Instr.findKey,u2,f1 rfl,u3]
          cases ok
          · exact R.XF _ _ _ _
          exact R.t2 (R.XF _ _ _ _) (.b _)
        | some v=>
          obtain⟨j,e',g1,g2,g3,g4,g5⟩:=f2 v rfl;refine fin (if ok then .t [v,.b true]else v) (if ok then .tuple #[e'.val,.bool true]else e'.val) h ?_ ?_
          · simp only[Instr.lookup,Sem.run_bind,u1,Result.andThen_ok,e1,hv.D4,I8 e2,Sem.run_pure,Ob,Instr.findKey,u2,g5]
          cases ok
          · exact g4
          exact R.t2 g4 (.b _)
      exact h.elim
    exact h.elim
  exact h.elim
def dW(Γ:BV)(H:HP)(ty:TypeId)(x i v:AV)(k:AV→HP→Prop):Prop:=
  match Γ ty with
  | some e=>match e.d with
    | .map kt el=>match Γ kt,x,i with
      |some ke,.m PE,.i kd n=>K7 ke.d=true∧QK (H PE) fun cs=>QK (aK kd n v cs) fun CX=>k .j (AU H PE (some CX))
      |_,_,_=>False
    |_=>False
  |none=>False
theorem T8(hG:GJ P Γ){ty:TypeId}{x i v:Operand}(ho:o.op= .mapUpdate ty x i v∨o.op= .insert ty x i v){k:AV→HP→Prop}(h:dW Γ H ty (ev x) (ev i) (ev v) k):YE P o ev H id k:=by
  intro L Av w ρ hs ZW hL hi AZ;unfold dW at h;split at h
  · rename_i e he;split at h
    · rename_i kt el hd;split at h
      · rename_i ke PE kd n W8 hx hn;obtain⟨h1,cs,hc,CX,JL,h⟩:=h;obtain⟨kk,aM⟩:=XJ h1;have hu:=AZ x (by rcases ho with ho|ho<;>(rw[ho];simp[Op.operands]));have hv:=AZ i (by rcases ho with ho|ho<;>(rw[ho];simp[Op.operands]));have hw:=AZ v (by rcases ho with ho|ho<;>(rw[ho];simp[Op.operands]));rw[hx]at hu;rw[hn]at hv;obtain⟨l,⟨hl,h0⟩,e1⟩:=hu.gR;obtain⟨es,e2,e3,e4⟩:=YL hs hc hl h0;have u1:=(hG ty e he).map hd;have u2:=(hG kt ke W8).int aM;have Ob:∀b,(Instr.checkKey b 10000 kt (.int kd n)).run P w= .ok () w:=fun b=>by
          unfold Instr.checkKey;simp only[Sem.run_bind,u2,Result.andThen_ok,Sem.run_pure]
        have fin:∀tV:Array MapEntry,tV.size=CX.length→(Instr.mapUpdate ty (ρ x) (ρ i) (ρ v)).run P w= .ok () (CQ w l.D1 (.map tV tV.size))→
            (∀(k:Nat) (x:AV),CX[k]? =some x→∃e:MapEntry,tV[k]? =some e∧e.born=k∧R L w (MM L H Av) x (.agg #[e.key,e.val]))→
            QV P o ρ w fun u w'=>∃r H' L',k r H'∧(∀i,i≠id→L' i=L i)∧SR L' H' Av w'∧Step L H w L' H' w'∧R L' w' (MM L' H' Av) r u:=by
          intro tV EW DE A07;obtain⟨q1,q2⟩:=OC hs hc hl (.inl ⟨rfl,rfl⟩) rfl (.map tV tV.size) CX (fun hR=>⟨by rw[IY];exact(IX hs ⟨PE,cs,l,hc,hl,rfl⟩),fun h=>by omega,fun _=>
            ⟨tV,LR _ _ (IX hs ⟨PE,cs,l,hc,hl,rfl⟩),EW.symm,fun k x hk=>by
              obtain⟨e',g1,g2,g3⟩:=A07 k x hk;exact⟨e',g1,g2,hR g3⟩⟩,fun h=>by omega,by omega⟩)
          rw[T3 L hl,K4]at q1 q2;refine .gG (w':=CQ w l.D1 (.map tV tV.size)) ?_ ⟨_,_,L,h,fun _ _=>rfl,q1,q2,.j _⟩;rcases ho with ho|ho<;>simp only[execOp,ho,DE,Sem.run_bind,Sem.run_pure,Result.andThen_ok]
        have hes:∀(k:Nat) (x:AV),cs[k]? =some x→∃e:MapEntry,es.toList[k]? =some e∧R L w (MM L H Av) x (.agg #[e.key,e.val]):=fun k x hk=>by
          obtain⟨e',g1,g2,g3⟩:=e4 k x hk;exact⟨e',by rw[Array.getElem?_toList];exact g1,g3⟩
        rcases nY cs CX JL with ⟨m1,m2⟩|⟨u,m1,m2⟩
        · have f1:=(U6 (kd':=kk) (L:=L) (w:=w) (M:=MM L H Av) cs es.toList 0 none m1 (by simpa using e3) hes).1 rfl;refine fin (es.push ⟨.int kd n,ρ v,es.size⟩) (by rw[m2];simp[e3]) ?_ ?_
          · simp only[Instr.mapUpdate,Sem.run_bind,u1,Result.andThen_ok,e1,hv.D4,I8 e2,Sem.run_pure,Ob,Instr.findKey,u2,f1,U7 e2,Array.size_push]
          intro k x hk;rw[m2,List.getElem?_append]at hk;split at hk
          · rename_i BW;obtain⟨e',g1,g2,g3⟩:=e4 k x hk;exact⟨e',by rw[Array.getElem?_push,if_neg (by omega)];exact g1,g2,g3⟩
          rename_i YM;rcases Nat.eq_zero_or_pos (k-cs.length)with hz|hz
          · rw[hz]at hk;cases hk;exact⟨_,by rw[Array.getElem?_push,if_pos (by omega)],by simp only;omega,R.g2 (.i _ _) hw⟩
          rw[List.getElem?_eq_none (by simp;omega)]at hk;cases hk
        obtain⟨j,e',g1,g2,g3,g4,g5⟩:=(U6 (kd':=kk) (L:=L) (w:=w) (M:=MM L H Av) cs es.toList 0 (some u) m1 (by simpa using e3) hes).2 u rfl;have g6:=dV es.toList 0 j e'.val (by simpa using g5);have m3:=m2 j g2 (fun i hi z hz=>by
          obtain⟨Mg,q1,q2⟩:=hes i _ hz;exact g6 i Mg hi q1 (q2.YK.1.D4))
        have hj:j<es.size:=by have:=(List.getElem?_eq_some_iff.1 g1).1;simpa using this
        have vI:es[j]? =some e':=by simpa using g1
        refine fin (es.modify j fun e=>{e with key:= .int kd n,val:=ρ v}) (by rw[m3];simp[e3]) ?_ ?_
        · simp only[Instr.mapUpdate,Sem.run_bind,u1,Result.andThen_ok,e1,hv.D4,I8 e2,Sem.run_pure,Ob,Instr.findKey,u2,g5,Nat.zero_add,vI,Option.map_some,Option.getD_some,g3,Instr.keyThatStays,Instr.sameBits,beq_self_eq_true,Bool.and_self,if_true,U7 e2,Array.size_modify]
        intro k x hk;rw[m3,List.getElem?_set]at hk;rw[Array.getElem?_modify];split at hk
        · rename_i vJ;subst vJ;rw[if_pos (by omega)]at hk;cases hk;obtain⟨Oc,q1,q2,q3⟩:=e4 j _ g2;rw[if_pos rfl,vI];rw[vI]at q1;cases q1;exact⟨_,rfl,q2,R.g2 (.i _ _) hw⟩
        rename_i vJ;obtain⟨Oc,q1,q2,q3⟩:=e4 k x hk;rw[if_neg vJ];exact⟨Oc,q1,q2,q3⟩
      exact h.elim
    exact h.elim
  exact h.elim
def dec:List AV→Option (List Nat)
  |[]=>some []
  | .i .i64 n::r=>if 0≤n then (dec r).map (n.toNat:: ·)else none
  |_=>none
theorem YN:∀(cs:List AV) (l:List Nat) (f:Nat→Nat),dec cs=some l→(∀(k:Nat) (x:AV),cs[k]? =some x→R L w M x (.int .i64 (f k)))→l.length=cs.length∧∀k,k<l.length→l[k]? =some (f k):=by
  intro cs;induction cs with
  |nil=>intro l f h _;cases h;exact⟨rfl,fun k hk=>by simp at hk⟩
  | cons c cs ih=>
    intro l f h hr;unfold dec at h;split at h
    · rename_i h';cases h'
    · rename_i n r h';cases h'
      split at h
      · rename_i hn;cases hm:dec cs with
        |none=>rw[hm]at h;cases h
        | some d=>
          rw[hm]at h;simp only[Option.map_some,Option.some.injEq]at h;subst h;obtain⟨g1,g2⟩:=ih d (fun k=>f (k+1)) hm (fun k x hx=>hr (k+1) x hx);refine⟨by simp[g1],fun k hk=>?_⟩;cases k with
          | zero=>
            have:=(hr 0 _ rfl).D4;simp only[Value.int.injEq,true_and]at this;rw[List.getElem?_cons_zero];congr 1
            omega
          |succ k=>exact g2 k (by simpa using hk)
      cases h
    cases h
def o8:List AV→Bool
  |[]=>true
  | .g [_,_]::r=>o8 r
  |_=>false
theorem vK:∀{cs:List AV},o8 cs=true→∀z∈cs,∃a b,z= .g [a,b]:=by
  intro cs;induction cs with
  |nil=>intro _ z hz;simp at hz
  | cons c cs ih=>
    intro h z hz;unfold o8 at h;split at h
    · rename_i h';cases h'
    · rename_i a b r h';cases h'
      rcases List.mem_cons.1 hz with rfl|hz
      · exact⟨a,b,rfl⟩
      exact ih h z hz
    cases h
structure nxK(WL:List AV)(l:List Nat)(Dy:Prop)(more:Nat→AV→AV→Prop):Prop where
  o:(∀j,j<WL.length→j∈l)→Dy
  m:∀j key val,WL[j]? =some (.g [key,val])→j∉l→more j key val
def vL(Γ:BV)(H:HP)(ty:TypeId)(x:AV)(id:Nat)(k:AV→HP→Prop):Prop:=
  match Γ ty with
  | some e=>match e.d,x with
    | .map _ _,.m PE=>QK (H PE) fun cs=>k (.it id) (AU H id (some [.m PE,.i .i64 (cs.length:Int)]))
    |_,_=>False
  |none=>False
def vM(H:HP)(x:AV)(k:AV→HP→Prop):Prop:=
  match x with
  | .it i=>QK (H i) fun cs=>match cs with
    | .m PE:: .i .i64 n::seen=>QK (H PE) fun WL=>QK (dec seen) fun l=>n=(WL.length:Int)∧o8 WL=true∧
        nxK WL l (k (.t [.b false]) H) fun j key val=>k (.t [.b true,key,val]) (AU H i (some (cs++[.i .i64 (j:Int)])))
    |_=>False
  |_=>False
def vN(H:HP)(x:AV)(k:AV→Prop):Prop:=
  match x with
  | .it i=>QK (H i) fun cs=>match cs with
    | .m PE:: .i .i64 n::seen=>QK (H PE) fun WL=>QK (dec seen) fun l=>n=(WL.length:Int)∧QK (l.getLast?) fun j=>QK (WL[j]?) fun z=>match z with
      | .g [a,b]=>k (.t [a,b])
      |_=>False
    |_=>False
  |_=>False
theorem gU(hG:GJ P Γ){ty:TypeId}{x:Operand}(ho:o.op= .range ty x){k:AV→HP→Prop}(h:vL Γ H ty (ev x) id k):YE P o ev H id k:=by
  intro L Av w ρ hs ZW hL hi AZ;unfold vL at h;split at h
  · rename_i e he;split at h
    · rename_i kt el PE hd hx;obtain⟨cs,hc,h⟩:=h;have hu:=AZ x (by rw[ho];simp[Op.operands]);rw[hx]at hu;obtain⟨l,⟨hl,h0⟩,e1⟩:=hu.gR;obtain⟨es,e2,e3,e4⟩:=YL hs hc hl h0;have u1:=(hG ty e he).map hd;obtain⟨q1,q2⟩:=LQ hs hL hi (.mapIter (some l.D1) es.size #[] es.size) ⟨w.heap.size,0,0,2⟩ rfl [.m PE,.i .i64 (cs.length:Int)] (fun hR=>⟨by simp,fun h=>(by cases h),fun h=>(by cases h),fun _=>⟨l.D1,es.size,#[],heap_alloc_new _ _,rfl,fun k x hk=>by
        match k,hk with
        |0,hk=>cases hk;rw[e1]at hu;exact hR hu
        |1,hk=>cases hk;rw[e3];exact .i _ _⟩,Nat.le_refl 2⟩)
      refine .CJ (u:= .pointer (some ⟨w.heap.size,0,none⟩)) (w':=w.alloc (.mapIter (some l.D1) es.size #[] es.size)) ?_ ⟨_,_,_,h,fun i AL=>C3 _ _ AL,q1,q2,.it _ _ (BR _ _ _) rfl⟩;simp only[execOp,ho,Instr.range,Sem.run_bind,u1,Result.andThen_ok,e1,I8 e2,Sem.run_pure];simp[newObj,Sem.run]
    exact h.elim
  exact h.elim
theorem Od{Av:Nat→Prop}(hs:SR L H Av w){i:Nat}{cs:List AV}(hc:H i=some cs){l:Loc}(hl:L i=some l)(h0:l.kd=2):
    ∃(mb since:Nat) (seen:Array Nat),w.heap[l.D1]? =some (.mapIter (some mb) since seen since)∧cs.length=seen.size+2∧∀(k:Nat) (x:AV),cs[k]? =some x→R L w (MM L H Av) x (Cv mb since seen k):=by
  obtain⟨l',GK,CY⟩:=hs.node i cs hc;rw[hl]at GK;cases GK;exact CY.it h0
theorem gV{Av:Nat→Prop}(hs:SR L H Av w){i PE:Nat}{n:Int}{seen WL:List AV}{ls:List Nat}(hc:H i=some (.m PE:: .i .i64 n::seen))(hm:H PE=some WL)(hd:dec seen=some ls)(hn:n=(WL.length:Int)){l:Loc}(hl:L i=some l)(h0:l.kd=2):
    ∃ (lm:Loc) (es:Array MapEntry) (sa:Array Nat),L PE=some lm∧lm.kd=1∧w.heap[l.D1]? =some (.mapIter (some lm.D1) es.size sa es.size)∧w.heap[lm.D1]? =some (.map es es.size)∧WL.length=es.size∧
      (∀(k:Nat) (x:AV),WL[k]? =some x→∃e:MapEntry,es[k]? =some e∧e.born=k∧R L w (MM L H Av) x (.agg #[e.key,e.val]))∧sa.toList=ls∧(∀(k:Nat) (x:AV),(AV.m PE:: .i .i64 n::seen)[k]? =some x→R L w (MM L H Av) x (Cv lm.D1 es.size sa k)):=by
  obtain⟨mb,since,sa,g1,g2,g3⟩:=Od hs hc hl h0;obtain⟨lm,⟨Dz,RW⟩,e1⟩:=(g3 0 _ rfl).gR;have Mh:mb=lm.D1:=by simpa[Cv]using e1
  subst Mh;obtain⟨es,e2,e3,e4⟩:=YL hs hm Dz RW;have e5:=(g3 1 _ rfl).D4;have e6:since=es.size:=by
    simp only[Cv,Value.int.injEq,true_and]at e5;omega
  subst e6;obtain⟨q1,q2⟩:=YN (L:=L) (w:=w) (M:=MM L H Av) seen ls (fun k=>sa.getD k 0) hd (fun k x hx=>g3 (k+2) x hx);refine⟨lm,es,sa,Dz,RW,g1,e2,e3,e4,?_,g3⟩;apply List.ext_getElem?;intro k;simp only[List.length_cons]at g2;rcases Nat.lt_or_ge k sa.size with hk|hk
  · rw[q2 k (by omega),Array.getElem?_toList,Array.getElem?_eq_getElem hk];simp[hk]
  rw[List.getElem?_eq_none (by simpa using hk),List.getElem?_eq_none (by omega)]
theorem gW{x:Operand}(ho:o.op= .next x false){k:AV→HP→Prop}(h:vM H (ev x) k):YE P o ev H id k:=by
  intro L Av w ρ hs ZW hL hi AZ;unfold vM at h;split at h
  · rename_i i hx;obtain⟨cs,hc,h⟩:=h;split at h
    · rename_i PE n seen;obtain⟨WL,hm,ls,hd,hn,FY,h⟩:=h;have hu:=AZ x (by rw[ho];simp[Op.operands]);rw[hx]at hu;obtain⟨l,⟨hl,h0⟩,e1⟩:=hu.nX;obtain⟨lm,es,sa,Dz,RW,g1,g2,g3,g4,g5,g6⟩:=gV hs hc hm hd hn hl h0;have aN:∀(j:Nat) (e:MapEntry),es[j]? =some e→e.born=j:=fun j e he=>by
        have hj:j<WL.length:=by rw[g3];exact(Array.getElem?_eq_some_iff.1 he).1
        obtain⟨e',q1,q2,_⟩:=g4 j _ (List.getElem?_eq_getElem hj);rw[he]at q1;cases q1;exact q2
      have hex:∀z w',(Instr.next (.pointer (some ⟨l.D1,0,none⟩)) false o.type).run P w= .ok z w'→(execOp ρ o).run P w= .ok (.value z) w':=by
        intro z w' hz;simp only[execOp,ho,e1,hz,Sem.run_bind,Sem.run_pure,Result.andThen_ok]
      rcases run_next_at (P:=P) w o.type l.D1 lm.D1 es.size es.size sa es es.size g1 g2 (fun x hx=>by
          obtain⟨j,hj,hjx⟩:=List.getElem_of_mem hx;have:=aN j x (by rw[←Array.getElem?_toList,List.getElem?_eq_getElem hj,hjx]);have dT:j<es.size:=by simpa using hj
          omega) (Nat.le_refl _)with ⟨a1,a2⟩|⟨e,a1,w1,a2,a3⟩
      · refine .CJ (hex _ _ a2) ⟨_,H,L,h.o ?_,fun _ _=>rfl,hs,Step.refl _ _ _,?_⟩
        · intro j hj;have he:es[j]? =some es[j]:=Array.getElem?_eq_getElem (by omega);have hb:=aN j _ he;apply Classical.byContradiction;intro hnj;have:es[j]∈leftOf es sa:=by
            unfold leftOf;rw[Array.mem_filter];refine⟨by simp,?_⟩;rw[hb];simpa[←g5]using hnj
          rw[Array.eq_empty_of_size_eq_zero a1]at this;simp at this
        refine .t _ _ rfl fun k z hk=>?_
        match k,hk with
        |0,hk=>cases hk;exact .b _
      have o9:e∈leftOf es sa:=by simpa using a1
      unfold leftOf at o9;rw[Array.mem_filter]at o9;obtain⟨b1,b2⟩:=o9;obtain⟨j,hj,hje⟩:=Array.getElem_of_mem b1;have he:es[j]? =some e:=by rw[Array.getElem?_eq_getElem hj,hje]
      have hb:=aN j e he;have Ax:j<WL.length:=by omega
      obtain⟨ka,va,hz⟩:=vK FY WL[j] (List.getElem_mem Ax);have hzj:WL[j]? =some (.g [ka,va]):=by rw[List.getElem?_eq_getElem Ax,hz]
      obtain⟨e',q1,q2,q3⟩:=g4 j _ hzj;rw[he]at q1;cases q1;have hk:=h.m j ka va hzj (by rw[←g5];rw[hb]at b2;simpa using b2);have tW:SR L H Av w1∧Step L H w L H w1:=by
        rcases a2 with rfl|rfl
        · exact⟨hs,Step.refl _ _ _⟩
        exact⟨hs.drew,Step.drew _ _ _⟩
      have hw1:w1.heap=w.heap:=by rcases a2 with rfl|rfl<;>rfl
      have hR1:∀{x:AV} {u:Value},R L w (MM L H Av) x u→R L w1 (MM L H Av) x u:=fun h=>h.step tW.2
      have QP:=IX tW.1 ⟨i,_,l,hc,hl,rfl⟩;obtain ⟨q4,q5⟩:=OC tW.1 hc hl (.inl ⟨rfl,rfl⟩) rfl (.mapIter (some lm.D1) es.size (sa.push e.born) es.size) ((AV.m PE:: .i .i64 n::seen)++[.i .i64 (j:Int)]) (fun hR=>⟨by rw[IY];exact QP,fun h=>by omega,fun h=>by omega,fun _=>
        ⟨lm.D1,es.size,sa.push e.born,LR _ _ QP,by
          have h9:seen.length=ls.length:=(YN (L:=L) (w:=w) (M:=MM L H Av) seen ls (fun k=>sa.getD k 0) hd (fun k x hx=>g6 (k+2) x hx)).1.symm;rw[←g5]at h9;simp at h9 ⊢;omega,fun k x GA=>by
          have h9:seen.length=sa.size:=by
            have:=(YN (L:=L) (w:=w) (M:=MM L H Av) seen ls (fun k=>sa.getD k 0) hd (fun k x hx=>g6 (k+2) x hx)).1.symm;rw[←g5]at this;simpa using this
          rw[List.getElem?_append]at GA;split at GA
          · rename_i BW;have:=hR (hR1 (g6 k x GA));match k,this with
            |0,this=>exact this
            |1,this=>exact this
            | k +2,this=>
              simp only[List.length_cons]at BW;simp only[Cv]at this ⊢;rwa [show(sa.push e.born).getD k 0=sa.getD k 0 from by
                simp only[Array.getD_eq_getD_getElem?,Array.getElem?_push];rw[if_neg (by omega)]]
          rename_i YM;simp only[List.length_cons,Nat.not_lt]at YM GA;rcases Nat.eq_zero_or_pos (k-(seen.length+1+1))with KV|KV
          · rw[KV]at GA;cases GA
            have EX:k=sa.size+2:=by omega
            subst EX;simp only[Cv];rw[show(sa.push e.born).getD sa.size 0=j from by simp[hb]];exact .i _ _
          rw[List.getElem?_eq_none (by simp;omega)]at GA;cases GA⟩,by omega⟩)
      rw[T3 L hl,K4]at q4 q5;refine .CJ (hex _ _ a3) ⟨_,_,L,hk,fun _ _=>rfl,q4,tW.2.trans q5,?_⟩;refine .t _ _ rfl fun k z GA=>?_
      obtain⟨r1,r2⟩:=q3.YK;match k,GA with
      |0,GA=>cases GA;exact .b _
      |1,GA=>cases GA;exact(hR1 r1).step q5
      |2,GA=>cases GA;exact(hR1 r2).step q5
    exact h.elim
  exact h.elim
theorem gX{x:Operand}(ho:o.op= .entry x){k:AV→Prop}(h:vN H (ev x) k):YE P o ev H id fun r H'=>k r∧H'=H:=by
  intro L Av w ρ hs ZW hL hi AZ;unfold vN at h;split at h
  · rename_i i hx;obtain⟨cs,hc,h⟩:=h;split at h
    · rename_i PE n seen;obtain⟨WL,hm,ls,hd,hn,j,hj,z,hz,h⟩:=h;split at h
      · rename_i a b;have hu:=AZ x (by rw[ho];simp[Op.operands]);rw[hx]at hu;obtain⟨l,⟨hl,h0⟩,e1⟩:=hu.nX;obtain⟨lm,es,sa,Dz,RW,g1,g2,g3,g4,g5,g6⟩:=gV hs hc hm hd hn hl h0;have aN:∀(j:Nat) (e:MapEntry),es[j]? =some e→e.born=j:=fun j e he=>by
          have hj:j<WL.length:=by rw[g3];exact(Array.getElem?_eq_some_iff.1 he).1
          obtain⟨e',q1,q2,_⟩:=g4 j _ (List.getElem?_eq_getElem hj);rw[he]at q1;cases q1;exact q2
        obtain⟨e,q1,q2,q3⟩:=g4 j _ hz;have hsa:sa=sa.pop.push e.born:=by
          apply Array.ext';rw[Array.toList_push,Array.toList_pop,g5,q2];rw[List.getLast?_eq_some_iff]at hj;obtain⟨l',GK⟩:=hj;rw[GK,List.dropLast_concat]
        have CY:(es.toList.map (·.born)).Nodup:=by
          have:es.toList.map (·.born)=List.range es.size:=by
            apply List.ext_getElem?;intro k;rw[List.getElem?_map,Array.getElem?_toList];rcases Nat.lt_or_ge k es.size with hk|hk
            · rw[Array.getElem?_eq_getElem hk,List.getElem?_range hk];exact congrArg some (aN k _ (Array.getElem?_eq_getElem hk))
            rw[Array.getElem?_eq_none hk,List.getElem?_eq_none (by simpa using hk)];rfl
          rw[this];exact List.nodup_range
        rw[hsa]at g1;have DE:=run_entry_at (P:=P) w l.D1 lm.D1 es.size sa.pop es es.size e g1 g2 (by have:=Array.mem_of_getElem? q1;simpa using this) CY;obtain⟨r1,r2⟩:=q3.YK;refine .CJ (u:= .tuple #[e.key,e.val]) (w':=w) ?_ ⟨_,H,L,⟨h,rfl⟩,fun _ _=>rfl,hs,Step.refl _ _ _,R.t2 r1 r2⟩;simp only[execOp,ho,e1,DE,Sem.run_bind,Sem.run_pure,Result.andThen_ok]
      exact h.elim
    exact h.elim
  exact h.elim
theorem gY(hG:GJ P Γ){ty:TypeId}{x i:Operand}(ho:o.op= .index ty x i){k:AV→Prop}(h:YH Γ ty (ev x) (ev i) k):YE P o ev H id fun r H'=>k r∧H'=H:=by
  intro L Av w ρ hs ZW hL hi AZ;unfold YH at h;split at h
  · rename_i e s kk n he hx hn;obtain⟨h0,h1,h2,h⟩:=h;have hu:=AZ x (by rw[ho];simp[Op.operands]);have hv:=AZ i (by rw[ho];simp[Op.operands]);rw[hx]at hu;rw[hn]at hv;obtain⟨d,g1,_,g2⟩:=(hG ty e he).CL;have g3:=OB (g1.trans h0);subst g3;have h4:n.toNat<s.size:=by omega
    have h5:s[n.toNat]? =some (s.data.getD n.toNat 0):=by
      rw[getElem?_pos s n.toNat h4];congr 1
      have h6:n.toNat<s.data.size:=h4;rw[Array.getD_eq_getD_getElem?,Array.getElem?_eq_getElem h6];rfl
    refine .CJ (u:= .int .u8 ((s.data.getD n.toNat 0).toNat:Int)) (w':=w) ?_ ⟨_,H,L,⟨h,rfl⟩,fun _ _=>rfl,hs,Step.refl _ _ _,.i _ _⟩;simp only[execOp,ho,Instr.index,asIntOf,hu.RU,hv.D4,Sem.run_bind,Sem.run_pure,Result.andThen_ok,g2,h1,if_true,h5]
  exact h.elim
def dX(xs:List AV):List Int:=xs.map fun| .i _ n=>n|_=>0
theorem gZ{ns:List Int}:dX (ns.map (AV.i .u8))=ns:=by
  unfold dX;rw[List.map_map];conv=>rhs;rw[←List.map_id ns]
  rfl
def Yc(x:ByteArray):List AV:=x.data.toList.map fun b=> .i .u8 (b.toNat:Int)
theorem hO(x:ByteArray):(Yc x).length=x.size:=by rw[Yc,List.length_map,Array.length_toList];rfl
def oB(Γ:BV)(H:HP)(src dst:TypeId)(x:AV)(k:AV→Prop):Prop:=
  match x with
  | .i kd n=>Lw Γ src dst (.i kd n) k
  | .s x=>match Γ src,Γ dst with
    | some e,some ed=>e.d= .str∧match ed.d with
      | .str=>k (.s x)
      | .slice el=>match Γ el with
        |some ee=>ee.d= .int .u8∧k (.v x.size (Yc x))
        |none=>False
      |_=>False
    |_,_=>False
  | y =>match Γ src,Γ dst with
    | some e,some ed=>ed.d= .str∧match e.d with
      | .slice el=>match Γ el with
        |some ee=>ee.d= .int .u8∧QK (vw H y) fun xs=>xs=(dX xs).map (AV.i .u8)∧k (.s (strOfNums (dX xs)))
        |none=>False
      |_=>False
    |_,_=>False
theorem hU(hG:GJ P Γ){src dst:TypeId}{x:Operand}(ho:o.op= .convert src dst x){k:AV→Prop}(h:oB Γ H src dst (ev x) k):YE P o ev H id fun r H'=>k r∧H'=H:=by
  intro L Av w ρ hs ZW hL hi AZ;have hu:=AZ x (by rw[ho];simp[Op.operands]);unfold oB at h;split at h
  · rename_i kd n hx;obtain⟨r,h1,h2⟩:=gJ hG h;rw[hx]at hu;obtain⟨z,h3,h4⟩:=h2 L w _ _ hu;exact .CJ (u:=z) (w':=w) (by simp[execOp,ho,h3]) ⟨_,H,L,⟨h1,rfl⟩,fun _ _=>rfl,hs,Step.refl _ _ _,h4⟩
  · rename_i xs hx;rw[hx]at hu;have IM:=hu.RU;split at h
    · rename_i e ed he hed;obtain⟨hd,h⟩:=h;obtain⟨d1,g1,Yd,g1c⟩:=(hG src e he).CL;obtain⟨d2,g2,Ye,g2c⟩:=(hG dst ed hed).CL;have e1:=OB (g1.trans hd);subst e1;split at h
      · rename_i Ay;have e2:=OB (g2.trans Ay);subst e2;refine .CJ (u:= .string xs) (w':=w) ?_ ⟨_,H,L,⟨h,rfl⟩,fun _ _=>rfl,hs,Step.refl _ _ _,.s _⟩;simp[execOp,ho,IM,convert,g1c,g2c]
      · rename_i el Ay;split at h
        · rename_i ee S4;obtain⟨h0,h⟩:=h;obtain⟨d3,g3,Yf,_⟩:=(hG el ee S4).CL;have e2:=GS (g2.trans Ay);have e3:=YC (g3.trans h0);subst e2 e3;have DE:=run_bytes_of_string (P:=P) w src dst el xs Yd Ye Yf;generalize TX:grownCap w xs.size 0 el=cp at DE
          have EM:Step L BN w L BN (w.drew.alloc (.cells (bytesRow xs cp) el ((bytesRow xs cp).size,(bytesRow xs cp).size+1))):=
            (Step.drew _ _ _).trans (Step.aC _ (fun _ _ h=>h) (fun _ _ h=>h))
          have Yg:=hs.kept EM;refine .CJ (u:= .slice (some ⟨w.heap.size,0,none⟩) xs.size cp) (w':=w.drew.alloc (.cells (bytesRow xs cp) el ((bytesRow xs cp).size,(bytesRow xs cp).size+1))) ?_ ⟨_,H,L,⟨h,rfl⟩,fun _ _=>rfl,Yg.1,Yg.2,?_⟩
          · simp[execOp,ho,IM,DE]
          have E7:(w.drew.alloc (.cells (bytesRow xs cp) el ((bytesRow xs cp).size,(bytesRow xs cp).size+1))).heap[w.heap.size]? =some (.cells (bytesRow xs cp) el ((bytesRow xs cp).size,(bytesRow xs cp).size+1)):=heap_alloc_new w.drew _;have hle:xs.size≤cp:=by rw[←TX];simp[grownCap,Question.cut]
          refine .v _ _ w.heap.size 0 cp (bytesRow xs cp) el _ (fun k=> .int .u8 (((xs.data.getD k 0).toNat:Nat):Int)) (fun hM=>Nat.lt_irrefl _ (nV hs _ hM)) E7 hle ?_ ?_
          · intro k hk;rw[hO]at hk;have GA:k<xs.data.size:=hk;simp only[bytesRow,Nat.zero_add,Array.getD_eq_getD_getElem?];rw[Array.getElem?_append_left (by rw[Array.size_map];exact GA),Array.getElem?_map,Array.getElem?_eq_getElem GA];rfl
          intro k y hy;have hk:=(List.getElem?_eq_some_iff.1 hy).1;rw[hO]at hk;have GA:k<xs.data.size:=hk;simp only[Yc,List.getElem?_map,Option.map_eq_some_iff]at hy;obtain⟨bb,MX,rfl⟩:=hy;have:xs.data.getD k 0=bb:=by
            rw[Array.getElem?_toList,Array.getElem?_eq_getElem GA]at MX;cases MX;rw[Array.getD_eq_getD_getElem?,Array.getElem?_eq_getElem GA];rfl
          rw[this];exact .i _ _
        exact h.elim
      exact h.elim
    exact h.elim
  split at h
  · rename_i e ed he hed;obtain⟨hd,h⟩:=h;split at h
    · rename_i el Ay;split at h
      · rename_i ee S4;obtain⟨h0,xs,hv,JH,h⟩:=h;obtain⟨d1,g1,Yd,_⟩:=(hG src e he).CL;obtain⟨d2,g2,Ye,_⟩:=(hG dst ed hed).CL;obtain⟨d3,g3,Yf,_⟩:=(hG el ee S4).CL;have e1:=GS (g1.trans Ay);have e2:=OB (g2.trans hd);have e3:=YC (g3.trans h0);subst e1 e2 e3;obtain⟨a,n,cp,Ea,hn,us,mP,DE,JL⟩:=U1 (P:=P) hs hu hv;refine .CJ (u:= .string (strOfNums (dX xs))) (w':=w) ?_ ⟨_,H,L,⟨h,rfl⟩,fun _ _=>rfl,hs,Step.refl _ _ _,.s _⟩;have Aw:us=(dX xs).map (Value.int .u8):=by
          apply List.ext_getElem?;intro i;rcases Nat.lt_or_ge i xs.length with hi|hi
          · have hy:xs[i]? =some (xs[i]):=List.getElem?_eq_getElem hi;obtain⟨c,c1,c2⟩:=JL i _ hy;have h5:xs[i]? =((dX xs).map (AV.i .u8))[i]? :=congrArg (fun l=>l[i]?) JH;have L5:(dX xs).length=xs.length:=by simp[dX]
            rw[List.getElem?_map,List.getElem?_eq_getElem (show i<(dX xs).length by omega),hy]at h5;simp only[Option.map_some,Option.some.injEq]at h5;rw[h5]at c2;rw[c1,c2.D4,List.getElem?_map,List.getElem?_eq_getElem (show i<(dX xs).length by omega)];rfl
          rw[List.getElem?_eq_none (by omega),List.getElem?_eq_none (by simp[dX];omega)]
        have hr:=DE w rfl;rw[Aw,Ea]at hr;cases a with
        | none=>
          have hb:dX xs=[]:=by
            simp only[Builtin.firstCells,Sem.run_pure,Result.ok.injEq]at hr;have:=congrArg Array.toList hr.1;simpa using this.symm
          have h6:=run_convert_bytes_nil (P:=P) w src el Yd Yf n cp dst Ye;simp only[execOp,ho,Ea,hb,h6,Sem.run_bind,Sem.run_pure,Result.andThen_ok];rfl
        | some a=>
          have hl:(loadCells a n).run P w= .ok ((dX xs).map (Value.int .u8)).toArray w:=by
            simpa[Builtin.firstCells]using hr
          have h6:=run_convert_bytes_string (P:=P) w src dst el (some a) n cp Yd Yf Ye;have h7:=run_bytesToString w a n cp _ hl;rw[h7,foldl_push_bytes]at h6;simp only[execOp,ho,Ea,h6,Sem.run_bind,Sem.run_pure,Result.andThen_ok];simp[strOfNums,ByteArray.empty,ByteArray.emptyWithCapacity];rfl
      exact h.elim
    exact h.elim
  exact h.elim
def cpop(Γ:BV)(H:HP)(t1:TypeId)(x y:AV)(k:AV→HP→Prop):Prop:=
  match Γ t1,x with
  | some e,.h i off n=>match e.d with
    | .slice el=>match Γ el with
      |some ee=>ee.size=1∧QK (H i) fun cs=>off+n≤cs.length∧QK (vw H y) fun xs=>(∀z∈xs,one z=true)∧k (.i .i64 ((min xs.length n:Nat):Int)) (AU H i (some (B0 cs off (xs.take n))))
      |none=>False
    |_=>False
  |_,_=>False
theorem dY{Av:Nat→Prop}(hs:SR L H Av w){y:AV}{u:Value}(hu:R L w (MM L H Av) y u){xs:List AV}(hx:vw H y=some xs)(m:Nat)(hm:m≤xs.length):
    ∃us:List Value,us.length=m∧(Builtin.firstCells 1 m u).run P w= .ok us.toArray w∧∀(k:Nat) (y:AV),(xs.take m)[k]? =some y→∃c,us[k]? =some c∧R L w (MM L H Av) y c:=by
  have key:∀(y':AV) (u':Value),R L w (MM L H Av) y' u'→vw H y'=some (xs.take m)→(Builtin.firstCells 1 m u').run P w=(Builtin.firstCells 1 m u).run P w→∃us:List Value,us.length=m∧(Builtin.firstCells 1 m u).run P w= .ok us.toArray w∧∀(k:Nat) (y:AV),(xs.take m)[k]? =some y→∃c,us[k]? =some c∧R L w (MM L H Av) y c:=by
    intro y' u' IM Oe hf;obtain⟨a,n,cp,e1,e2,us,e3,e4,e5⟩:=U1 (P:=P) hs IM Oe;have hl:(xs.take m).length=m:=by simp;omega
    refine⟨us,by omega,?_,e5⟩;rw[←hf,show m=n by omega];exact e4 w rfl
  unfold vw at hx;split at hx
  · rename_i n cs;split at hx
    · rename_i hlen;cases hx;cases hu with
      | v0 a cp=>
        have:m=0:=by simpa using hm
        subst this;exact key (.v 0 []) (.slice a 0 cp) (.v0 a cp) (by simp[vw]) rfl
      | v _ _ b off cp arr e f us hM hb hn hu hr=>
        exact key (.v m (xs.take m)) (.slice (some ⟨b,off,none⟩) m cp) (.v m _ b off cp arr e f us hM hb (by omega) (fun k hk=>hu k (by simp at hk;omega)) (fun k x hk=>hr k x (by
          rw[List.getElem?_take]at hk;split at hk
          · exact hk
          cases hk))) (by simp[vw,hm]) rfl
    cases hx
  · rename_i i off n;cases hc:H i with
    |none=>rw[hc]at hx;cases hx
    | some cs=>
      rw[hc]at hx;simp only at hx
      split at hx
      · rename_i hlen;cases hx;simp only[List.length_take,List.length_drop]at hm;cases hu with
        | h _ _ _ l' a cp GK hn Eb ha h0=>
          exact key (.h i off m) (.slice (some a) m cp) (.h _ _ _ l' a cp GK (by omega) Eb ha h0) (by
            simp only[vw,hc];rw[if_pos (by omega),List.take_take,Nat.min_eq_left (by omega)]) rfl
      cases hx
  · cases hx;have:m=0:=by simpa using hm
    subst this;exact key .nl u hu (by simp[vw]) rfl
  cases hx
theorem iA(hG:GJ P Γ){x y:Operand}{t1:TypeId}{DV:Array TypeId}(ho:o.op= .call ⟨.builtin .copy,#[x,y],DV⟩)(At:DV[0]? =some t1){k:AV→HP→Prop}
    (h:cpop Γ H t1 (ev x) (ev y) k):YE P o ev H id k:=by
  intro L Av w ρ hs ZW hL hi AZ;unfold cpop at h;split at h
  · rename_i e i off n he hx;split at h
    · rename_i el hd;split at h
      · rename_i ee S4;obtain⟨h1,cs,hc,h2,xs,JH,h3,h⟩:=h;have hu:=AZ x (by rw[ho];simp[Op.operands,Call.operands]);have hv:=AZ y (by rw[ho];simp[Op.operands,Call.operands]);rw[hx]at hu;have u1:=((hG t1 e he).slice hd).2;have u2:=(hG el ee S4).CI;rw[h1]at u2;obtain⟨us,g1,g2,g3⟩:=dY (P:=P) hs hv JH (min xs.length n) (Nat.min_le_left _ _);obtain⟨a',n',cp',f1,f2,_⟩:=U1 (P:=P) hs hv JH;have I6:(Builtin.lenOf (ρ y)).run P w= .ok xs.length w:=by rw[f1,←f2];rfl
        have mQ:xs.take (min xs.length n)=xs.take n:=by rw[List.take_eq_take_iff];omega
        rw[mQ]at g3;obtain⟨l,hl,CY⟩:=hs.node i cs hc;generalize hρ:ρ x=ux at hu
        cases hu with
        | h _ _ _ l' a cp GK hn Eb ha h0=>
          rw[hl]at GK;cases GK;obtain⟨arr,et,e2,e3,e4,e5⟩:=CY.ex h0;have dU:∀v∈us,v.oneCell'=true:=by
            intro v Oe;obtain⟨j,hj,Dq⟩:=List.getElem_of_mem Oe;have dT:j<(xs.take n).length:=by simp;omega
            obtain⟨c,q1,q2⟩:=g3 j _ (List.getElem?_eq_getElem dT);have Ny:c=v:=by
              rw[List.getElem?_eq_getElem hj,Dq]at q1;exact(Option.some.inj q1).symm
            rw[←Ny];exact(I2 q2 (h3 _ (List.mem_of_mem_take (List.getElem_mem dT)))).2
          have hlen:(xs.take n).length=us.length:=by simp;omega
          have EM:(storeCells a us).run P w= .ok () (CQ w l.D1 (.cells (arr.toList.take (l.off+off)++us++arr.toList.drop (l.off+off+us.length)).toArray et (0,0))):=by
            by_cases TX:cp=0
            · have h9:us=[]:=by rw[←List.length_eq_zero_iff];omega
              subst h9;have:(arr.toList.take (l.off+off)++[]++arr.toList.drop (l.off+off+([]:List Value).length)).toArray=arr:=by simp
              rw[this,QU e2];simp[storeCells]
            have:=K5 (P:=P) (w:=w) (g:=l.D1) (o:=l.off+off) us e2 (by omega) dU;rw[ha.resolve_left TX];exact this
          obtain⟨q1,q2⟩:=MV hs hc hl (.inl ⟨rfl,rfl⟩) rfl h0 (arr.toList.take (l.off+off)++us++arr.toList.drop (l.off+off+us.length)).toArray et (B0 cs off (xs.take n)) (by simp;omega) (by rw[OF (by omega)];exact e4) (by
            intro k x hk;rw[LW cs off _ (by omega)]at hk;rw[K6 arr _ _ (by omega)];split at hk
            · rename_i Eb;rw[if_pos ⟨by omega,by omega⟩];obtain⟨c,e14,e15⟩:=g3 (k-off) x hk;exact⟨c,by rw[show l.off+k-(l.off+off)=k-off by omega];exact e14,e15⟩
            rename_i Eb;rw[if_neg (by omega)];exact e5 k x hk)
          rw[T3 L hl,K4]at q1 q2;refine .CJ (u:= .int .i64 ((min xs.length n:Nat):Int)) (w':=CQ w l.D1 (.cells (arr.toList.take (l.off+off)++us++arr.toList.drop (l.off+off+us.length)).toArray et (0,0))) ?_ ⟨_,_,L,h,fun _ _=>rfl,q1,q2,.i _ _⟩;have Of:(Builtin.copy_ DV o.type #[.slice (some a) n cp,ρ y]).run P w= .ok (.int .i64 ((min xs.length n:Nat):Int)) (CQ w l.D1 (.cells (arr.toList.take (l.off+off)++us++arr.toList.drop (l.off+off+us.length)).toArray et (0,0))):=by
            unfold Builtin.copy_;have Og:(Builtin.firstCells 1 (Nat.min xs.length n) (ρ y)).run P w= .ok us.toArray w:=g2;simp only[At,List.getElem?_toArray,List.getElem?_cons_zero,List.getElem?_cons_succ,Sem.run_bind,u1,Result.andThen_ok,Sem.run_pure,I6,u2,Og,EM];rfl
          simp only[execOp,ho,resolve,invoke,builtin,Sem.run_bind,Sem.run_pure,Result.andThen_ok,List.map_toArray,List.map_cons,List.map_nil,hρ,Of]
      exact h.elim
    exact h.elim
  exact h.elim
end
end Go.Proofs.YtghmeeifjeafmaaGreat
