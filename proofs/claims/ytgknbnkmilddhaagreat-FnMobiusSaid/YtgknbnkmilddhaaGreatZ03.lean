import Derived.Maps.RangeRun
import Derived.Laws.BytesArg
import Derived.Laws.BytesString
import Derived.Below
import Derived.Test.YtgknbnkmilddhaaGreatZ02
set_option linter.unusedVariables false
set_option linter.unusedSimpArgs false

namespace Go.Proofs.YtgknbnkmilddhaaGreat
def bH(kd:IntKind)(n:Int):List AV->Option (Option AV)
  |[]=>some none
  | .g [.i k m,v]::r=>if k=kd then (if n=m then some (some v)else bH kd n r)else none
  |_=>none
def fZ(kd:IntKind)(n:Int)(v:AV):List AV->Option (List AV)
  |[]=>some [.g [.i kd n,v]]
  | .g [.i k m,u]::r=>if k=kd then (if n=m then some (.g [.i kd n,v]::r)else (fZ kd n v r).map (AV.g [.i k m,u]:: ·))else none
  |_=>none
def qR:AV->AV->Option Bool
  | .i k n,.i k' m=>if k'=k then some (n==m)else none
  | .s x,.s y=>some (x==y)
  |_,_=>none
def IE(a:AV):List AV->Option (Option AV)
  |[]=>some none
  | .g [b,v]::r=>match qR a b with|some true=>some (some v)|some false=>IE a r|none=>none
  |_=>none
def PS(a v:AV):List AV->Option (List AV)
  |[]=>some [.g [a,v]]
  | .g [b,u]::r=>match qR a b with|some true=>some (.g [a,v]::r)|some false=>(PS a v r).map (AV.g [b,u]:: ·)|none=>none
  |_=>none
theorem Xj{kd:IntKind}{n:Int}:∀{cs:List AV} {r:Option AV},bH kd n cs=some r->IE (.i kd n) cs=some r:=by
  intro cs;induction cs with
  |nil=>exact λh=>h
  | cons c cs ih=>
    intro r h;unfold bH at h;split at h
    · rename_i h';cases h'
    · rename_i k m v rr h';cases h'
      split at h
      · rename_i hk;subst hk;simp only[IE,qR,if_true];by_cases hn:n=m
        · subst hn;simpa using h
        rw[if_neg hn]at h;rw[show(n==m)=false from by simpa using hn];exact ih h
      cases h
    cases h
theorem Xk{kd:IntKind}{n:Int}{v:AV}:∀{cs CT:List AV},fZ kd n v cs=some CT->PS (.i kd n) v cs=some CT:=by
  intro cs;induction cs with
  |nil=>exact λh=>h
  | cons c cs ih=>
    intro CT h;unfold fZ at h;split at h
    · rename_i h';cases h'
    · rename_i k m u rr h';cases h'
      split at h
      · rename_i hk;subst hk;simp only[PS,qR,if_true];by_cases hn:n=m
        · subst hn;simpa using h
        rw[if_neg hn]at h;rw[show(n==m)=false from by simpa using hn];cases hm:fZ k n v cs with
        |none=>rw[hm]at h;cases h
        |some d=>rw[hm]at h;simp only[ih hm];exact h
      cases h
    cases h
theorem PT{x y:ByteArray}:(x==y)=true↔x=y:=by
  obtain⟨a⟩:=x;obtain⟨b⟩:=y;rw[ByteArray.mk.injEq];exact(beq_iff_eq (a:=a) (b:=b))
theorem Ce{a b:AV}(h:qR a b=some true):a=b:=by
  unfold qR at h;split at h
  · split at h
    · rename_i hk;subst hk;simp at h;rw[h]
    cases h
  · simp only[Option.some.injEq]at h;rw[PT.1 h]
  cases h
def KM:AV->Value
  | .i k n=> .int k n
  | .s x=> .string x
  |_=>undef
def YP:TypeDesc->AV->Bool
  | .int _,.i _ _=>true
  | .string,.s _=>true
  |_,_=>false
theorem n5{td:TypeDesc}{a b:AV}{q:Bool}(hd:YP td a=true)(hq:qR a b=some q):Instr.sameNow td (KM a) (KM b)=some q:=by
  unfold qR at hq;split at hq
  · split at hq
    · rename_i hk;subst hk;cases td<;>simp[YP]at hd
      simpa[Instr.sameNow,KM]using hq
    cases hq
  · cases td<;>simp[YP]at hd
    simpa[Instr.sameNow,KM]using hq
  cases hq
theorem yF{td:TypeDesc}{a:AV}(hd:YP td a=true):Instr.sameNow td (KM a) (KM a)=some true:=by
  cases a<;>cases td<;>simp[YP]at hd
  · simp[Instr.sameNow,KM]
  simp[Instr.sameNow,KM,PT]
theorem R.QS{L:LM}{w:World}{M:Nat->Prop}{a:AV}{td:TypeDesc}{u:Value}(h:R L w M a u)(hd:YP td a=true):u=KM a:=by
  cases a<;>cases td<;>simp[YP]at hd
  · exact h.DV
  exact h.U6
theorem Ug{a b:AV}{td:TypeDesc}{q:Bool}(hd:YP td a=true)(hq:qR a b=some q):YP td b=true:=by
  cases a<;>cases td<;>simp[YP]at hd<;>cases b<;>simp[qR]at hq<;>rfl
section
variable{P:Program}{Γ:CA}{o:Oper}{ev:Operand->AV}{H:HP}{id:Nat}{L:LM}{w:World}{M:Nat->Prop}
theorem R.jJ{a b:AV}{x y:Value}(h:R L w M (.g [a,b]) (.agg #[x,y])):R L w M a x/\R L w M b y:=by
  cases h with
  |g _ _ hs hr=>exact⟨hr 0 a rfl,hr 1 b rfl⟩
theorem R.g2{a b:AV}{x y:Value}(h1:R L w M a x)(h2:R L w M b y):R L w M (.g [a,b]) (.agg #[x,y]):=by
  refine .g _ _ rfl λk z hk=>?_
  match k,hk with
  |0,hk=>cases hk;exact h1
  |1,hk=>cases hk;exact h2
theorem R.t2{a b:AV}{x y:Value}(h1:R L w M a x)(h2:R L w M b y):R L w M (.t [a,b]) (.tuple #[x,y]):=by
  refine .t _ _ rfl λk z hk=>?_
  match k,hk with
  |0,hk=>cases hk;exact h1
  |1,hk=>cases hk;exact h2
theorem R.uF{id:Nat}{u:Value}(h:R L w M (.m id) u):∃l,(L id=some l/\l.kd=1)/\u= .map (some l.CP):=by
  cases h with|m _ l hl h0=>exact⟨l,⟨hl,h0⟩,rfl⟩
theorem R.Cf{id:Nat}{u:Value}(h:R L w M (.it id) u):∃l,(L id=some l/\l.kd=2)/\u= .pointer (some ⟨l.CP,0,none⟩):=by
  cases h with|it _ l hl h0=>exact⟨l,⟨hl,h0⟩,rfl⟩
theorem bI{td:TypeDesc}{a:AV}(hd:YP td a=true):∀(cs:List AV) (es:List MapEntry) (i:Nat) (r:Option AV),IE a cs=some r->cs.length=es.length->(∀(k:Nat) (x:AV),cs[k]? =some x->∃e:MapEntry,es[k]? =some e/\R L w M x (.agg #[e.key,e.val]))->
    (r=none->Instr.findNow td (KM a) es i=some none)/\
    ∀v,r=some v->∃(j:Nat) (e:MapEntry),es[j]? =some e/\cs[j]? =some (.g [a,v])/\e.key=KM a/\R L w M v e.val/\Instr.findNow td (KM a) es i=some (some (i+j,e.val)):=by
  intro cs;induction cs with
  | nil=>
    intro es i r h hl hr;have:es=[]:=by cases es with|nil=>rfl|cons=>simp at hl
    subst this;simp only[IE,Option.some.injEq]at h;subst h;exact⟨λ_=>rfl,λv hv=>by cases hv⟩
  | cons c cs ih=>
    intro es i r h hl hr;cases es with
    |nil=>simp at hl
    | cons e es=>
      unfold IE at h;split at h
      · rename_i h';cases h'
      · rename_i b v rr h';cases h'
        obtain⟨e',he,hR⟩:=hr 0 _ rfl;cases he;obtain⟨q1,q2⟩:=hR.jJ;split at h
        · rename_i hq;have q3:=q1.QS (Ug hd hq);have q4:=n5 hd hq;have q5:=Ce hq;subst q5;cases h;exact⟨λh=>(by cases h),λv' hv=>by
            cases hv;exact⟨0,e,rfl,rfl,q3,q2,by rw[<-q3]at q4;unfold Instr.findNow;rw[<-q3,q4];rfl⟩⟩
        · rename_i hq;have q3:=q1.QS (Ug hd hq);have q4:=n5 hd hq;obtain⟨g1,g2⟩:=ih es (i+1) r h (by simpa using hl) (λk x hx=>hr (k+1) x hx);have e1:Instr.findNow td (KM a) (e::es) i=Instr.findNow td (KM a) es (i+1):=by
            rw[<-q3]at q4;conv=>lhs;unfold Instr.findNow
            rw[q4]
          rw[e1];exact⟨g1,λv' hv=>by
            obtain⟨j,e2,g3,g4,g5,g6,g7⟩:=g2 v' hv;exact⟨j+1,e2,g3,g4,g5,g6,by rw[g7];congr 3;omega⟩⟩
        cases h
      cases h
theorem Cg{a v:AV}:∀(cs CT:List AV),PS a v cs=some CT->(IE a cs=some none/\CT=cs++[.g [a,v]])\/∃(u:AV),IE a cs=some (some u)/\
    ∀j,cs[j]? =some (.g [a,u])->(∀i,i<j->∀z,cs[i]?≠some (.g [a,z]))->CT=cs.set j (.g [a,v]):=by
  intro cs;induction cs with
  |nil=>intro CT h;cases h;exact .inl ⟨rfl,rfl⟩
  | cons c cs ih=>
    intro CT h;unfold PS at h;split at h
    · rename_i h';cases h'
    · rename_i b u rr h';cases h'
      split at h
      · rename_i hq;have q5:=Ce hq;subst q5;cases h;refine .inr ⟨u,by simp[IE,hq],λj hj C4=>?_⟩;cases j with
        |zero=>rfl
        |succ j=>exact absurd rfl (C4 0 A0 u)
      · rename_i hq;cases hm:PS a v cs with
        |none=>rw[hm]at h;cases h
        | some d=>
          rw[hm]at h;simp only[Option.map_some,Option.some.injEq]at h;subst h;have e1:IE a (.g [b,u]::cs)=IE a cs:=by simp[IE,hq]
          rw[e1];rcases ih d hm with ⟨g1,g2⟩|⟨z,g1,g2⟩
          · exact .inl ⟨g1,by rw[g2];rfl⟩
          refine .inr ⟨z,g1,λj hj C4=>?_⟩;cases j with
          | zero=>
            simp at hj;rw[hj.1]at hq;exfalso
            unfold qR at hq;split at hq<;>simp[PT]at hq
            rw[PT.2 rfl]at hq;cases hq
          |succ j=>rw[g2 j hj (λi hi y hy=>C4 (i+1) A0 y hy)];rfl
      cases h
    cases h
theorem qS{td:TypeDesc}{kv:Value}(hs:Instr.sameNow td kv kv=some true):∀(es:List MapEntry) (i j:Nat) (u:Value),Instr.findNow td kv es i=some (some (i+j,u))->∀k e,k<j->es[k]? =some e->e.key≠kv:=by
  intro es;induction es with
  |nil=>intro i j u h;simp[Instr.findNow]at h
  | cons e es ih=>
    intro i j u h k e' hk he;unfold Instr.findNow at h;split at h
    · simp only[Option.some.injEq,Prod.mk.injEq]at h;omega
    · rename_i hq;cases k with
      | zero=>
        cases he;intro A9Y;rw[A9Y,hs]at hq;cases hq
      | succ k=>
        cases j with
        |zero=>omega
        |succ j=>exact ih (i+1) j u (by rw[h];congr 3;omega) k e' A0 he
    cases h
theorem jK{Av:Nat->Prop}(hs:SR L H Av w){ME:Nat}{cs:List AV}(hc:H ME=some cs){l:Loc}(hl:L ME=some l)(h0:l.kd=1):
    ∃es:Array MapEntry,w.heap[l.CP]? =some (.map es es.size)/\cs.length=es.size/\∀(k:Nat) (x:AV),cs[k]? =some x->∃e:MapEntry,es[k]? =some e/\e.born=k/\R L w (MM L H Av) x (.agg #[e.key,e.val]):=by
  obtain⟨l',I9,D0⟩:=hs.node ME cs hc;rw[hl]at I9;cases I9;exact D0.mp h0
def uG(id:Nat)(k:AV->HP->Prop)(H:HP):Prop:=k (.m id) (AT H id (some []))
theorem n7{ty:TypeId}(ho:o.op= .makeMap ty none){k:AV->HP->Prop}(h:uG id k H):fT P o ev H id k:=by
  intro L Av w ρ hs mC hL hi B0;obtain⟨h1,h2⟩:=PN hs hL hi (.map #[] 0) ⟨w.heap.size,0,0,1⟩ rfl [] (λ_=>⟨AB,λh=>(by cases h),λ_=>⟨#[],heap_alloc_new _ _,rfl,λk x hk=>by simp at hk⟩,λh=>(by cases h),Nat.le_succ 1⟩);refine .CX (u:= .map (some w.heap.size)) (w':=w.alloc (.map #[] 0)) ?_ ⟨_,_,_,h,λi AQ=>CK _ _ AQ,h1,h2,.m _ _ (C3 _ _ _) rfl⟩;simp[execOp,ho,Instr.makeMap,newObj,Sem.run,Result.andThen]
def MF:TD->Bool
  | .str=>true
  |_=>false
def Ch(Γ:CA)(H:HP)(ty:TypeId)(x i:AV)(ok:Bool)(k:AV->Prop):Prop:=
  match Γ ty with
  | some e=>match e.d with
    | .map kt el=>match Γ kt,Γ el,x,i with
      | some ke,some ee,.m ME,.i kd n=>IM ke.d=true/\S5 (H ME) λcs=>S5 (bH kd n cs) λr=>match r with
        |some v=>k (if ok then .t [v,.b true]else v)
        |none=>k (if ok then .t [YM ee.zero,.b false]else YM ee.zero)
      | some ke,some ee,.m ME,.s y=>MF ke.d=true/\S5 (H ME) λcs=>S5 (IE (.s y) cs) λr=>match r with
        |some v=>k (if ok then .t [v,.b true]else v)
        |none=>k (if ok then .t [YM ee.zero,.b false]else YM ee.zero)
      |_,_,_,_=>False
    |_=>False
  |none=>False
theorem yG{d:TD}(h:IM d=true):∃k,d= .int k:=by cases d<;>simp[IM]at h;exact⟨_,rfl⟩
theorem KN{b:Nat}{es:Array MapEntry}{c:Nat}(h:w.heap[b]? =some (.map es c)):(getObj b).run P w= .ok (.map es c) w:=by simp[getObj,Sem.run,h]
theorem bJ{b:Nat}{es:Array MapEntry}{c:Nat}(h:w.heap[b]? =some (.map es c))(o':Obj):(setObj b o').run P w= .ok () (CM w b o'):=by simp[setObj,Sem.run,h];rfl
theorem yH{d:TD}(h:MF d=true):d= .str:=by cases d<;>simp[MF]at h;rfl
theorem uH(hG:IB P Γ){kt:TypeId}{ke:TE}(S8:Γ kt=some ke){a:AV}(h:(∃kd n,a= .i kd n/\IM ke.d=true)\/∃y,a= .s y/\MF ke.d=true):
    ∃td,YP td a=true/\(∀w,(underlying kt).run P w= .ok td w)/\∀b w,(Instr.checkKey b 10000 kt (KM a)).run P w= .ok () w:=by
  obtain⟨d,h1,-,h2⟩:=(hG kt ke S8).D1;rcases h with ⟨kd,n,rfl,h3⟩|⟨y,rfl,h3⟩
  · obtain⟨kk,hkk⟩:=yG h3;have:=jC (h1.trans hkk);subst this;exact⟨_,rfl,h2,λb w=>by unfold Instr.checkKey;simp only[Sem.run_bind,h2,Result.andThen_ok,Sem.run_pure,KM]⟩
  have:=PM (h1.trans (yH h3));subst this;exact⟨_,rfl,h2,λb w=>by unfold Instr.checkKey;simp only[Sem.run_bind,h2,Result.andThen_ok,Sem.run_pure,KM]⟩
theorem n8(hG:IB P Γ){ty:TypeId}{x i:Operand}{ok:Bool}(ho:o.op= .lookup ty x i ok){k:AV->Prop}{e ke ee:TE}{kt el:TypeId}{ME:Nat}{a:AV}{cs:List AV}{r:Option AV}(he:Γ ty=some e)(hd:e.d= .map kt el)(S8:Γ kt=some ke)(U8:Γ el=some ee)
    (hx:ev x= .m ME) (hn:ev i=a) (h1:(∃kd n,a= .i kd n/\IM ke.d=true)\/∃y,a= .s y/\MF ke.d=true) (hc:H ME=some cs) (hr:IE a cs=some r)
    (h:match (generalizing:=false) r with|some v=>k (if ok then .t [v,.b true]else v)|none=>k (if ok then .t [YM ee.zero,.b false]else YM ee.zero)):fT P o ev H id λr H'=>k r/\H'=H:=by
  intro L Av w ρ hs mC hL hi B0;obtain⟨td,k1,u2,hck⟩:=uH hG S8 h1;have hu:=B0 x (by rw[ho];simp[Op.operands]);have hv:=B0 i (by rw[ho];simp[Op.operands]);rw[hx]at hu;rw[hn]at hv;obtain⟨l,⟨hl,h0⟩,e1⟩:=hu.uF;obtain⟨es,e2,e3,e4⟩:=jK hs hc hl h0;obtain⟨f1,f2⟩:=bI (L:=L) (w:=w) (M:=MM L H Av) k1 cs es.toList 0 r hr (by simpa using e3) (λk x hk=>by
    obtain⟨e',g1,g2,g3⟩:=e4 k x hk;exact⟨e',by rw[Array.getElem?_toList];exact g1,g3⟩)
  have u1:=(hG ty e he).map hd;have u3:=(hG el ee U8).GM;have fin:∀(rv:AV) (z:Value),k rv->(Instr.lookup ty (ρ x) (ρ i) ok).run P w= .ok z w->R L w (MM L H Av) rv z->QV P o ρ w λu w'=>∃r H' L',(k r/\H'=H)/\(∀i,i≠id->L' i=L i)/\SR L' H' Av w'/\Step L H w L' H' w'/\R L' w' (MM L' H' Av) r u:=by
    intro rv z hk E8 hR;refine .CX (u:=z) (w':=w) ?_ ⟨rv,H,L,⟨hk,rfl⟩,λ_ _=>rfl,hs,Step.refl _ _ _,hR⟩;simp only[execOp,ho,E8,Sem.run_bind,Sem.run_pure,Result.andThen_ok]
  cases r with
  | none=>
    refine fin (if ok then .t [YM ee.zero,.b false]else YM ee.zero) (if ok then .tuple #[ee.zero,.bool false]else ee.zero) h ?_ ?_
    · simp only[Instr.lookup,Sem.run_bind,u1,Result.andThen_ok,e1,hv.QS k1,KN e2,Sem.run_pure,hck,Instr.findKey,u2,f1 rfl,u3]
    cases ok
    · exact R.YM _ _ _ _
    exact R.t2 (R.YM _ _ _ _) (.b _)
  | some v=>
    obtain⟨j,e',g1,g2,g3,g4,g5⟩:=f2 v rfl;refine fin (if ok then .t [v,.b true]else v) (if ok then .tuple #[e'.val,.bool true]else e'.val) h ?_ ?_
    · simp only[Instr.lookup,Sem.run_bind,u1,Result.andThen_ok,e1,hv.QS k1,KN e2,Sem.run_pure,hck,Instr.findKey,u2,g5]
    cases ok
    · exact g4
    exact R.t2 g4 (.b _)
theorem uI(hG:IB P Γ){ty:TypeId}{x i:Operand}{ok:Bool}(ho:o.op= .lookup ty x i ok){k:AV->Prop}(h:Ch Γ H ty (ev x) (ev i) ok k):fT P o ev H id λr H'=>k r/\H'=H:=by
  unfold Ch at h;split at h
  · rename_i e he;split at h
    · rename_i kt el hd;split at h
      · rename_i ke ee ME kd n S8 U8 hx hn;obtain⟨h1,cs,hc,r,hr,h⟩:=h;exact n8 hG ho he hd S8 U8 hx hn (.inl ⟨_,_,rfl,h1⟩) hc (Xj hr) h
      · rename_i ke ee ME y S8 U8 hx hn;obtain⟨h1,cs,hc,r,hr,h⟩:=h;exact n8 hG ho he hd S8 U8 hx hn (.inr ⟨_,rfl,h1⟩) hc hr h
      exact h.elim
    exact h.elim
  exact h.elim
def qT(Γ:CA)(H:HP)(ty:TypeId)(x i v:AV)(k:AV->HP->Prop):Prop:=
  match Γ ty with
  | some e=>match e.d with
    | .map kt el=>match Γ kt,x,i with
      |some ke,.m ME,.i kd n=>IM ke.d=true/\S5 (H ME) λcs=>S5 (fZ kd n v cs) λCT=>k .j (AT H ME (some CT))
      |some ke,.m ME,.s y=>MF ke.d=true/\S5 (H ME) λcs=>S5 (PS (.s y) v cs) λCT=>k .j (AT H ME (some CT))
      |_,_,_=>False
    |_=>False
  |none=>False
theorem jL{ke:TE}{a:AV}(h:(∃kd n,a= .i kd n/\IM ke.d=true)\/∃y,a= .s y/\MF ke.d=true):Instr.sameBits 10000 (KM a) (KM a)=true:=by
  rcases h with ⟨kd,n,rfl,_⟩|⟨y,rfl,_⟩<;>simp[Instr.sameBits,KM,PT]
theorem n9(hG:IB P Γ){ty:TypeId}{x i v:Operand}(ho:o.op= .mapUpdate ty x i v\/o.op= .insert ty x i v){k:AV->HP->Prop}{e ke:TE}{kt el:TypeId}{ME:Nat}{a:AV}{cs CT:List AV}(he:Γ ty=some e)(hd:e.d= .map kt el)(S8:Γ kt=some ke)
    (hx:ev x= .m ME) (hn:ev i=a) (h1:(∃kd n,a= .i kd n/\IM ke.d=true)\/∃y,a= .s y/\MF ke.d=true) (hc:H ME=some cs) (P6:PS a (ev v) cs=some CT) (h:k .j (AT H ME (some CT))):fT P o ev H id k:=by
  intro L Av w ρ hs mC hL hi B0;obtain⟨td,k1,u2,hck⟩:=uH hG S8 h1;have hu:=B0 x (by rcases ho with ho|ho<;>(rw[ho];simp[Op.operands]));have hv:=B0 i (by rcases ho with ho|ho<;>(rw[ho];simp[Op.operands]));have hw:=B0 v (by rcases ho with ho|ho<;>(rw[ho];simp[Op.operands]));rw[hx]at hu;rw[hn]at hv;have hvk:=hv.QS k1;obtain⟨l,⟨hl,h0⟩,e1⟩:=hu.uF;obtain⟨es,e2,e3,e4⟩:=jK hs hc hl h0;have u1:=(hG ty e he).map hd;have hRk:∀{L':LM} {w':World} {M':Nat->Prop},R L' w' M' a (KM a):=by
    intro L' w' M';rcases h1 with ⟨kd,n,rfl,_⟩|⟨y,rfl,_⟩
    · exact .i _ _
    exact .s _
  have fin:∀Lj:Array MapEntry,Lj.size=CT.length->(Instr.mapUpdate ty (ρ x) (ρ i) (ρ v)).run P w= .ok () (CM w l.CP (.map Lj Lj.size))->
      (∀(k:Nat) (x:AV),CT[k]? =some x->∃e:MapEntry,Lj[k]? =some e/\e.born=k/\R L w (MM L H Av) x (.agg #[e.key,e.val]))->
      QV P o ρ w λu w'=>∃r H' L',k r H'/\(∀i,i≠id->L' i=L i)/\SR L' H' Av w'/\Step L H w L' H' w'/\R L' w' (MM L' H' Av) r u:=by
    intro Lj FV E8 A9Z;obtain⟨q1,q2⟩:=T1 hs hc hl (.inl ⟨rfl,rfl⟩) rfl (.map Lj Lj.size) CT (λhR=>⟨by rw[HE];exact(LX hs ⟨ME,cs,l,hc,hl,rfl⟩),λh=>A0,λ_=>
      ⟨Lj,PO _ _ (LX hs ⟨ME,cs,l,hc,hl,rfl⟩),FV.symm,λk x hk=>by
        obtain⟨e',g1,g2,g3⟩:=A9Z k x hk;exact⟨e',g1,g2,hR g3⟩⟩,λh=>A0,A0⟩)
    rw[U5 L hl,LY]at q1 q2;refine .tW (w':=CM w l.CP (.map Lj Lj.size)) ?_ ⟨_,_,L,h,λ_ _=>rfl,q1,q2,.j _⟩;rcases ho with ho|ho<;>simp only[execOp,ho,E8,Sem.run_bind,Sem.run_pure,Result.andThen_ok]
  have hes:∀(k:Nat) (x:AV),cs[k]? =some x->∃e:MapEntry,es.toList[k]? =some e/\R L w (MM L H Av) x (.agg #[e.key,e.val]):=λk x hk=>by
    obtain⟨e',g1,g2,g3⟩:=e4 k x hk;exact⟨e',by rw[Array.getElem?_toList];exact g1,g3⟩
  rcases Cg cs CT P6 with ⟨m1,m2⟩|⟨u,m1,m2⟩
  · have f1:=(bI (L:=L) (w:=w) (M:=MM L H Av) k1 cs es.toList 0 none m1 (by simpa using e3) hes).1 rfl;refine fin (es.push ⟨KM a,ρ v,es.size⟩) (by rw[m2];simp[e3]) ?_ ?_
    · simp only[Instr.mapUpdate,Sem.run_bind,u1,Result.andThen_ok,e1,hvk,KN e2,Sem.run_pure,hck,Instr.findKey,u2,f1,bJ e2,Array.size_push]
    intro k x hk;rw[m2,List.getElem?_append]at hk;split at hk
    · rename_i C4;obtain⟨e',g1,g2,g3⟩:=e4 k x hk;exact⟨e',by rw[Array.getElem?_push,if_neg A0];exact g1,g2,g3⟩
    rename_i Y5;rcases Nat.eq_zero_or_pos (k-cs.length)with hz|hz
    · rw[hz]at hk;cases hk;exact⟨_,by rw[Array.getElem?_push,if_pos A0],by simp only;omega,R.g2 hRk hw⟩
    rw[List.getElem?_eq_none (by simp;omega)]at hk;cases hk
  obtain⟨j,e',g1,g2,g3,g4,g5⟩:=(bI (L:=L) (w:=w) (M:=MM L H Av) k1 cs es.toList 0 (some u) m1 (by simpa using e3) hes).2 u rfl;have g6:=qS (yF k1) es.toList 0 j e'.val (by simpa using g5);have m3:=m2 j g2 (λi hi z hz=>by
    obtain⟨e2',q1,q2⟩:=hes i _ hz;exact g6 i e2' hi q1 (q2.jJ.1.QS k1))
  have hj:j<es.size:=by have:=(List.getElem?_eq_some_iff.1 g1).1;simpa using this
  have Nd:es[j]? =some e':=by simpa using g1
  refine fin (es.modify j λe=>{e with key:=KM a,val:=ρ v}) (by rw[m3];simp[e3]) ?_ ?_
  · simp only[Instr.mapUpdate,Sem.run_bind,u1,Result.andThen_ok,e1,hvk,KN e2,Sem.run_pure,hck,Instr.findKey,u2,g5,Nat.zero_add,Nd,Option.map_some,Option.getD_some,g3,Instr.keyThatStays,jL h1,if_true,bJ e2,Array.size_modify]
  intro k x hk;rw[m3,List.getElem?_set]at hk;rw[Array.getElem?_modify];split at hk
  · rename_i Nf;subst Nf;rw[if_pos A0]at hk;cases hk;obtain⟨e3',q1,q2,q3⟩:=e4 j _ g2;rw[if_pos rfl,Nd];rw[Nd]at q1;cases q1;exact⟨_,rfl,q2,R.g2 hRk hw⟩
  rename_i Nf;obtain⟨e3',q1,q2,q3⟩:=e4 k x hk;rw[if_neg Nf];exact⟨e3',q1,q2,q3⟩
theorem a7(hG:IB P Γ){ty:TypeId}{x i v:Operand}(ho:o.op= .mapUpdate ty x i v\/o.op= .insert ty x i v){k:AV->HP->Prop}(h:qT Γ H ty (ev x) (ev i) (ev v) k):fT P o ev H id k:=by
  unfold qT at h;split at h
  · rename_i e he;split at h
    · rename_i kt el hd;split at h
      · rename_i ke ME kd n S8 hx hn;obtain⟨h1,cs,hc,CT,P6,h⟩:=h;exact n9 hG ho he hd S8 hx hn (.inl ⟨_,_,rfl,h1⟩) hc (Xk P6) h
      · rename_i ke ME y S8 hx hn;obtain⟨h1,cs,hc,CT,P6,h⟩:=h;exact n9 hG ho he hd S8 hx hn (.inr ⟨_,rfl,h1⟩) hc P6 h
      exact h.elim
    exact h.elim
  exact h.elim
def dec:List AV->Option (List Nat)
  |[]=>some []
  | .i .i64 n::r=>if 0<=n then (dec r).map (n.toNat:: ·)else none
  |_=>none
theorem jM:∀(cs:List AV) (l:List Nat) (f:Nat->Nat),dec cs=some l->(∀(k:Nat) (x:AV),cs[k]? =some x->R L w M x (.int .i64 (f k)))->l.length=cs.length/\∀k,k<l.length->l[k]? =some (f k):=by
  intro cs;induction cs with
  |nil=>intro l f h _;cases h;exact⟨rfl,λk hk=>by simp at hk⟩
  | cons c cs ih=>
    intro l f h hr;unfold dec at h;split at h
    · rename_i h';cases h'
    · rename_i n r h';cases h'
      split at h
      · rename_i hn;cases hm:dec cs with
        |none=>rw[hm]at h;cases h
        | some d=>
          rw[hm]at h;simp only[Option.map_some,Option.some.injEq]at h;subst h;obtain⟨g1,g2⟩:=ih d (λk=>f (k+1)) hm (λk x hx=>hr (k+1) x hx);refine⟨by simp[g1],λk hk=>?_⟩;cases k with
          | zero=>
            have:=(hr 0 _ rfl).DV;simp only[Value.int.injEq,true_and]at this;rw[List.getElem?_cons_zero];congr 1
            omega
          |succ k=>exact g2 k (by simpa using hk)
      cases h
    cases h
def Ci:List AV->Bool
  |[]=>true
  | .g [_,_]::r=>Ci r
  |_=>false
theorem Ng:∀{cs:List AV},Ci cs=true->∀z∈cs,∃a b,z= .g [a,b]:=by
  intro cs;induction cs with
  |nil=>intro _ z hz;simp at hz
  | cons c cs ih=>
    intro h z hz;unfold Ci at h;split at h
    · rename_i h';cases h'
    · rename_i a b r h';cases h'
      rcases List.mem_cons.1 hz with rfl|hz
      · exact⟨a,b,rfl⟩
      exact ih h z hz
    cases h
structure nxK(gA:List AV)(l:List Nat)(Xl:Prop)(more:Nat->AV->AV->Prop):Prop where
  o:(∀j,j<gA.length->j∈l)->Xl
  m:∀j key val,gA[j]? =some (.g [key,val])->j∉l->more j key val
def Nh(Γ:CA)(H:HP)(ty:TypeId)(x:AV)(id:Nat)(k:AV->HP->Prop):Prop:=
  match Γ ty with
  | some e=>match e.d,x with
    | .map _ _,.m ME=>S5 (H ME) λcs=>k (.it id) (AT H id (some [.m ME,.i .i64 (cs.length:Int)]))
    |_,_=>False
  |none=>False
def Ni(H:HP)(x:AV)(k:AV->HP->Prop):Prop:=
  match x with
  | .it i=>S5 (H i) λcs=>match cs with
    | .m ME:: .i .i64 n::seen=>S5 (H ME) λgA=>S5 (dec seen) λl=>n=(gA.length:Int)/\Ci gA=true/\
        nxK gA l (k (.t [.b false]) H) λj key val=>k (.t [.b true,key,val]) (AT H i (some (cs++[.i .i64 (j:Int)])))
    |_=>False
  |_=>False
def Nj(H:HP)(x:AV)(k:AV->Prop):Prop:=
  match x with
  | .it i=>S5 (H i) λcs=>match cs with
    | .m ME:: .i .i64 n::seen=>S5 (H ME) λgA=>S5 (dec seen) λl=>n=(gA.length:Int)/\S5 (l.getLast?) λj=>S5 (gA[j]?) λz=>match z with
      | .g [a,b]=>k (.t [a,b])
      |_=>False
    |_=>False
  |_=>False
theorem uJ(hG:IB P Γ){ty:TypeId}{x:Operand}(ho:o.op= .range ty x){k:AV->HP->Prop}(h:Nh Γ H ty (ev x) id k):fT P o ev H id k:=by
  intro L Av w ρ hs mC hL hi B0;unfold Nh at h;split at h
  · rename_i e he;split at h
    · rename_i kt el ME hd hx;obtain⟨cs,hc,h⟩:=h;have hu:=B0 x (by rw[ho];simp[Op.operands]);rw[hx]at hu;obtain⟨l,⟨hl,h0⟩,e1⟩:=hu.uF;obtain⟨es,e2,e3,e4⟩:=jK hs hc hl h0;have u1:=(hG ty e he).map hd;obtain⟨q1,q2⟩:=PN hs hL hi (.mapIter (some l.CP) es.size #[] es.size) ⟨w.heap.size,0,0,2⟩ rfl [.m ME,.i .i64 (cs.length:Int)] (λhR=>⟨AB,λh=>(by cases h),λh=>(by cases h),λ_=>⟨l.CP,es.size,#[],heap_alloc_new _ _,rfl,λk x hk=>by
        match k,hk with
        |0,hk=>cases hk;rw[e1]at hu;exact hR hu
        |1,hk=>cases hk;rw[e3];exact .i _ _⟩,Nat.le_refl 2⟩)
      refine .CX (u:= .pointer (some ⟨w.heap.size,0,none⟩)) (w':=w.alloc (.mapIter (some l.CP) es.size #[] es.size)) ?_ ⟨_,_,_,h,λi AQ=>CK _ _ AQ,q1,q2,.it _ _ (C3 _ _ _) rfl⟩;simp only[execOp,ho,Instr.range,Sem.run_bind,u1,Result.andThen_ok,e1,KN e2,Sem.run_pure];simp[newObj,Sem.run]
    exact h.elim
  exact h.elim
theorem A3W{Av:Nat->Prop}(hs:SR L H Av w){i:Nat}{cs:List AV}(hc:H i=some cs){l:Loc}(hl:L i=some l)(h0:l.kd=2):
    ∃(mb since:Nat) (seen:Array Nat),w.heap[l.CP]? =some (.mapIter (some mb) since seen since)/\cs.length=seen.size+2/\∀(k:Nat) (x:AV),cs[k]? =some x->R L w (MM L H Av) x (Wf mb since seen k):=by
  obtain⟨l',I9,D0⟩:=hs.node i cs hc;rw[hl]at I9;cases I9;exact D0.it h0
theorem uK{Av:Nat->Prop}(hs:SR L H Av w){i ME:Nat}{n:Int}{seen gA:List AV}{ls:List Nat}(hc:H i=some (.m ME:: .i .i64 n::seen))(hm:H ME=some gA)(hd:dec seen=some ls)(hn:n=(gA.length:Int)){l:Loc}(hl:L i=some l)(h0:l.kd=2):
    ∃ (lm:Loc) (es:Array MapEntry) (sa:Array Nat),L ME=some lm/\lm.kd=1/\w.heap[l.CP]? =some (.mapIter (some lm.CP) es.size sa es.size)/\w.heap[lm.CP]? =some (.map es es.size)/\gA.length=es.size/\
      (∀(k:Nat) (x:AV),gA[k]? =some x->∃e:MapEntry,es[k]? =some e/\e.born=k/\R L w (MM L H Av) x (.agg #[e.key,e.val]))/\sa.toList=ls/\(∀(k:Nat) (x:AV),(AV.m ME:: .i .i64 n::seen)[k]? =some x->R L w (MM L H Av) x (Wf lm.CP es.size sa k)):=by
  obtain⟨mb,since,sa,g1,g2,g3⟩:=A3W hs hc hl h0;obtain⟨lm,⟨Xm,FH⟩,e1⟩:=(g3 0 _ rfl).uF;have e1':mb=lm.CP:=by simpa[Wf]using e1
  subst e1';obtain⟨es,e2,e3,e4⟩:=jK hs hm Xm FH;have e5:=(g3 1 _ rfl).DV;have e6:since=es.size:=by
    simp only[Wf,Value.int.injEq,true_and]at e5;omega
  subst e6;obtain⟨q1,q2⟩:=jM (L:=L) (w:=w) (M:=MM L H Av) seen ls (λk=>sa.getD k 0) hd (λk x hx=>g3 (k+2) x hx);refine⟨lm,es,sa,Xm,FH,g1,e2,e3,e4,?_,g3⟩;apply List.ext_getElem?;intro k;simp only[List.length_cons]at g2;rcases Nat.lt_or_ge k sa.size with hk|hk
  · rw[q2 k A0,Array.getElem?_toList,Array.getElem?_eq_getElem hk];simp[hk]
  rw[List.getElem?_eq_none (by simpa using hk),List.getElem?_eq_none A0]
theorem uL{x:Operand}(ho:o.op= .next x false){k:AV->HP->Prop}(h:Ni H (ev x) k):fT P o ev H id k:=by
  intro L Av w ρ hs mC hL hi B0;unfold Ni at h;split at h
  · rename_i i hx;obtain⟨cs,hc,h⟩:=h;split at h
    · rename_i ME n seen;obtain⟨gA,hm,ls,hd,hn,IF,h⟩:=h;have hu:=B0 x (by rw[ho];simp[Op.operands]);rw[hx]at hu;obtain⟨l,⟨hl,h0⟩,e1⟩:=hu.Cf;obtain⟨lm,es,sa,Xm,FH,g1,g2,g3,g4,g5,g6⟩:=uK hs hc hm hd hn hl h0;have nA:∀(j:Nat) (e:MapEntry),es[j]? =some e->e.born=j:=λj e he=>by
        have hj:j<gA.length:=by rw[g3];exact(Array.getElem?_eq_some_iff.1 he).1
        obtain⟨e',q1,q2,_⟩:=g4 j _ (List.getElem?_eq_getElem hj);rw[he]at q1;cases q1;exact q2
      have hex:∀z w',(Instr.next (.pointer (some ⟨l.CP,0,none⟩)) false o.type).run P w= .ok z w'->(execOp ρ o).run P w= .ok (.value z) w':=by
        intro z w' hz;simp only[execOp,ho,e1,hz,Sem.run_bind,Sem.run_pure,Result.andThen_ok]
      rcases run_next_at (P:=P) w o.type l.CP lm.CP es.size es.size sa es es.size g1 g2 (λx hx=>by
          obtain⟨j,hj,hjx⟩:=List.getElem_of_mem hx;have:=nA j x (by rw[<-Array.getElem?_toList,List.getElem?_eq_getElem hj,hjx]);have fM:j<es.size:=by simpa using hj
          omega) (Nat.le_refl _)with ⟨a1,a2⟩|⟨e,a1,w1,a2,a3⟩
      · refine .CX (hex _ _ a2) ⟨_,H,L,h.o ?_,λ_ _=>rfl,hs,Step.refl _ _ _,?_⟩
        · intro j hj;have he:es[j]? =some es[j]:=Array.getElem?_eq_getElem A0;have hb:=nA j _ he;apply Classical.byContradiction;intro hnj;have:es[j]∈leftOf es sa:=by
            unfold leftOf;rw[Array.mem_filter];refine⟨AB,?_⟩;rw[hb];simpa[<-g5]using hnj
          rw[Array.eq_empty_of_size_eq_zero a1]at this;simp at this
        refine .t _ _ rfl λk z hk=>?_
        match k,hk with
        |0,hk=>cases hk;exact .b _
      have T8:e∈leftOf es sa:=by simpa using a1
      unfold leftOf at T8;rw[Array.mem_filter]at T8;obtain⟨b1,b2⟩:=T8;obtain⟨j,hj,hje⟩:=Array.getElem_of_mem b1;have he:es[j]? =some e:=by rw[Array.getElem?_eq_getElem hj,hje]
      have hb:=nA j e he;have Uh:j<gA.length:=A0;obtain⟨ka,va,hz⟩:=Ng IF gA[j] (List.getElem_mem Uh);have hzj:gA[j]? =some (.g [ka,va]):=by rw[List.getElem?_eq_getElem Uh,hz]
      obtain⟨e',q1,q2,q3⟩:=g4 j _ hzj;rw[he]at q1;cases q1;have hk:=h.m j ka va hzj (by rw[<-g5];rw[hb]at b2;simpa using b2);have Cj:SR L H Av w1/\Step L H w L H w1:=by
        rcases a2 with rfl|rfl
        · exact⟨hs,Step.refl _ _ _⟩
        exact⟨hs.drew,Step.drew _ _ _⟩
      have hw1:w1.heap=w.heap:=by rcases a2 with rfl|rfl<;>rfl
      have hR1:∀{x:AV} {u:Value},R L w (MM L H Av) x u->R L w1 (MM L H Av) x u:=λh=>h.step Cj.2
      have W9:=LX Cj.1 ⟨i,_,l,hc,hl,rfl⟩;obtain ⟨q4,q5⟩:=T1 Cj.1 hc hl (.inl ⟨rfl,rfl⟩) rfl (.mapIter (some lm.CP) es.size (sa.push e.born) es.size) ((AV.m ME:: .i .i64 n::seen)++[.i .i64 (j:Int)]) (λhR=>⟨by rw[HE];exact W9,λh=>A0,λh=>A0,λ_=>
        ⟨lm.CP,es.size,sa.push e.born,PO _ _ W9,by
          have h9:seen.length=ls.length:=(jM (L:=L) (w:=w) (M:=MM L H Av) seen ls (λk=>sa.getD k 0) hd (λk x hx=>g6 (k+2) x hx)).1.symm;rw[<-g5]at h9;simp at h9 ⊢;omega,λk x KH=>by
          have h9:seen.length=sa.size:=by
            have:=(jM (L:=L) (w:=w) (M:=MM L H Av) seen ls (λk=>sa.getD k 0) hd (λk x hx=>g6 (k+2) x hx)).1.symm;rw[<-g5]at this;simpa using this
          rw[List.getElem?_append]at KH;split at KH
          · rename_i C4;have:=hR (hR1 (g6 k x KH));match k,this with
            |0,this=>exact this
            |1,this=>exact this
            | k +2,this=>
              simp only[List.length_cons]at C4;simp only[Wf]at this ⊢;rwa [show(sa.push e.born).getD k 0=sa.getD k 0 from by
                simp only[Array.getD_eq_getD_getElem?,Array.getElem?_push];rw[if_neg A0]]
          rename_i Y5;simp only[List.length_cons,Nat.not_lt]at Y5 KH;rcases Nat.eq_zero_or_pos (k-(seen.length+1+1))with hz0|hz0
          · rw[hz0]at KH;cases KH
            have DN:k=sa.size+2:=A0;subst DN;simp only[Wf];rw[show(sa.push e.born).getD sa.size 0=j from by simp[hb]];exact .i _ _
          rw[List.getElem?_eq_none (by simp;omega)]at KH;cases KH⟩,A0⟩)
      rw[U5 L hl,LY]at q4 q5;refine .CX (hex _ _ a3) ⟨_,_,L,hk,λ_ _=>rfl,q4,Cj.2.trans q5,?_⟩;refine .t _ _ rfl λk z KH=>?_
      obtain⟨r1,r2⟩:=q3.jJ;match k,KH with
      |0,KH=>cases KH;exact .b _
      |1,KH=>cases KH;exact(hR1 r1).step q5
      |2,KH=>cases KH;exact(hR1 r2).step q5
    exact h.elim
  exact h.elim
theorem uM{x:Operand}(ho:o.op= .entry x){k:AV->Prop}(h:Nj H (ev x) k):fT P o ev H id λr H'=>k r/\H'=H:=by
  intro L Av w ρ hs mC hL hi B0;unfold Nj at h;split at h
  · rename_i i hx;obtain⟨cs,hc,h⟩:=h;split at h
    · rename_i ME n seen;obtain⟨gA,hm,ls,hd,hn,j,hj,z,hz,h⟩:=h;split at h
      · rename_i a b;have hu:=B0 x (by rw[ho];simp[Op.operands]);rw[hx]at hu;obtain⟨l,⟨hl,h0⟩,e1⟩:=hu.Cf;obtain⟨lm,es,sa,Xm,FH,g1,g2,g3,g4,g5,g6⟩:=uK hs hc hm hd hn hl h0;have nA:∀(j:Nat) (e:MapEntry),es[j]? =some e->e.born=j:=λj e he=>by
          have hj:j<gA.length:=by rw[g3];exact(Array.getElem?_eq_some_iff.1 he).1
          obtain⟨e',q1,q2,_⟩:=g4 j _ (List.getElem?_eq_getElem hj);rw[he]at q1;cases q1;exact q2
        obtain⟨e,q1,q2,q3⟩:=g4 j _ hz;have Ck:sa=sa.pop.push e.born:=by
          apply Array.ext';rw[Array.toList_push,Array.toList_pop,g5,q2];rw[List.getLast?_eq_some_iff]at hj;obtain⟨l',I9⟩:=hj;rw[I9,List.dropLast_concat]
        have D0:(es.toList.map (·.born)).Nodup:=by
          have:es.toList.map (·.born)=List.range es.size:=by
            apply List.ext_getElem?;intro k;rw[List.getElem?_map,Array.getElem?_toList];rcases Nat.lt_or_ge k es.size with hk|hk
            · rw[Array.getElem?_eq_getElem hk,List.getElem?_range hk];exact congrArg some (nA k _ (Array.getElem?_eq_getElem hk))
            rw[Array.getElem?_eq_none hk,List.getElem?_eq_none (by simpa using hk)];rfl
          rw[this];exact List.nodup_range
        rw[Ck]at g1;have E8:=run_entry_at (P:=P) w l.CP lm.CP es.size sa.pop es es.size e g1 g2 (by have:=Array.mem_of_getElem? q1;simpa using this) D0;obtain⟨r1,r2⟩:=q3.jJ;refine .CX (u:= .tuple #[e.key,e.val]) (w':=w) ?_ ⟨_,H,L,⟨h,rfl⟩,λ_ _=>rfl,hs,Step.refl _ _ _,R.t2 r1 r2⟩;simp only[execOp,ho,e1,E8,Sem.run_bind,Sem.run_pure,Result.andThen_ok]
      exact h.elim
    exact h.elim
  exact h.elim
theorem uN(hG:IB P Γ){ty:TypeId}{x i:Operand}(ho:o.op= .index ty x i){k:AV->Prop}(h:jF Γ ty (ev x) (ev i) k):fT P o ev H id λr H'=>k r/\H'=H:=by
  intro L Av w ρ hs mC hL hi B0;unfold jF at h;split at h
  · rename_i e s kk n he hx hn;obtain⟨h0,h1,h2,h⟩:=h;have hu:=B0 x (by rw[ho];simp[Op.operands]);have hv:=B0 i (by rw[ho];simp[Op.operands]);rw[hx]at hu;rw[hn]at hv;obtain⟨d,g1,_,g2⟩:=(hG ty e he).D1;have g3:=PM (g1.trans h0);subst g3;have h4:n.toNat<s.size:=A0;have h5:s[n.toNat]? =some (s.data.getD n.toNat 0):=by
      rw[getElem?_pos s n.toNat h4];congr 1
      have h6:n.toNat<s.data.size:=h4;rw[Array.getD_eq_getD_getElem?,Array.getElem?_eq_getElem h6];rfl
    refine .CX (u:= .int .u8 ((s.data.getD n.toNat 0).toNat:Int)) (w':=w) ?_ ⟨_,H,L,⟨h,rfl⟩,λ_ _=>rfl,hs,Step.refl _ _ _,.i _ _⟩;simp only[execOp,ho,Instr.index,asIntOf,hu.U6,hv.DV,Sem.run_bind,Sem.run_pure,Result.andThen_ok,g2,h1,if_true,h5]
  exact h.elim
def q8(xs:List AV):List Int:=xs.map fun| .i _ n=>n|_=>0
theorem jN{ns:List Int}:q8 (ns.map (AV.i .u8))=ns:=by
  unfold q8;rw[List.map_map];conv=>rhs;rw[<-List.map_id ns]
  rfl
def bys(x:ByteArray):List AV:=x.data.toList.map λb=> .i .u8 (b.toNat:Int)
theorem uO(x:ByteArray):(bys x).length=x.size:=by rw[bys,List.length_map,Array.length_toList];rfl
def Cl(Γ:CA)(H:HP)(src dst:TypeId)(x:AV)(k:AV->Prop):Prop:=
  match x with
  | .i kd n=>cop Γ src dst (.i kd n) k
  | .s x=>match Γ src,Γ dst with
    | some e,some ed=>e.d= .str/\match ed.d with
      | .str=>k (.s x)
      | .slice el=>match Γ el with
        |some ee=>ee.d= .int .u8/\k (.v x.size (bys x))
        |none=>False
      |_=>False
    |_,_=>False
  | y =>match Γ src,Γ dst with
    | some e,some ed=>ed.d= .str/\match e.d with
      | .slice el=>match Γ el with
        |some ee=>ee.d= .int .u8/\S5 (vw H y) λxs=>xs=(q8 xs).map (AV.i .u8)/\k (.s (strOfNums (q8 xs)))
        |none=>False
      |_=>False
    |_,_=>False
theorem uP(hG:IB P Γ){src dst:TypeId}{x:Operand}(ho:o.op= .convert src dst x){k:AV->Prop}(h:Cl Γ H src dst (ev x) k):fT P o ev H id λr H'=>k r/\H'=H:=by
  intro L Av w ρ hs mC hL hi B0;have hu:=B0 x (by rw[ho];simp[Op.operands]);unfold Cl at h;split at h
  · rename_i kd n hx;obtain⟨r,h1,h2⟩:=tY hG h;rw[hx]at hu;obtain⟨z,h3,h4⟩:=h2 L w _ _ hu;exact .CX (u:=z) (w':=w) (by simp[execOp,ho,h3]) ⟨_,H,L,⟨h1,rfl⟩,λ_ _=>rfl,hs,Step.refl _ _ _,h4⟩
  · rename_i xs hx;rw[hx]at hu;have JF:=hu.U6;split at h
    · rename_i e ed he hed;obtain⟨hd,h⟩:=h;obtain⟨d1,g1,g1b,g1c⟩:=(hG src e he).D1;obtain⟨d2,g2,g2b,g2c⟩:=(hG dst ed hed).D1;have e1:=PM (g1.trans hd);subst e1;split at h
      · rename_i yI;have e2:=PM (g2.trans yI);subst e2;refine .CX (u:= .string xs) (w':=w) ?_ ⟨_,H,L,⟨h,rfl⟩,λ_ _=>rfl,hs,Step.refl _ _ _,.s _⟩;simp[execOp,ho,JF,convert,g1c,g2c]
      · rename_i el yI;split at h
        · rename_i ee U8;obtain⟨h0,h⟩:=h;obtain⟨d3,g3,g3b,_⟩:=(hG el ee U8).D1;have e2:=J3 (g2.trans yI);have e3:=jC (g3.trans h0);subst e2 e3;have E8:=run_bytes_of_string (P:=P) w src dst el xs g1b g2b g3b;generalize YL:grownCap w xs.size 0 el=cp at E8
          have ER:Step L BM w L BM (w.drew.alloc (.cells (bytesRow xs cp) el ((bytesRow xs cp).size,(bytesRow xs cp).size+1))):=
            (Step.drew _ _ _).trans (Step.mQ _ (λ_ _ h=>h) (λ_ _ h=>h))
          have hkp:=hs.kept ER;refine .CX (u:= .slice (some ⟨w.heap.size,0,none⟩) xs.size cp) (w':=w.drew.alloc (.cells (bytesRow xs cp) el ((bytesRow xs cp).size,(bytesRow xs cp).size+1))) ?_ ⟨_,H,L,⟨h,rfl⟩,λ_ _=>rfl,hkp.1,hkp.2,?_⟩
          · simp[execOp,ho,JF,E8]
          have UA:(w.drew.alloc (.cells (bytesRow xs cp) el ((bytesRow xs cp).size,(bytesRow xs cp).size+1))).heap[w.heap.size]? =some (.cells (bytesRow xs cp) el ((bytesRow xs cp).size,(bytesRow xs cp).size+1)):=heap_alloc_new w.drew _;have hle:xs.size<=cp:=by rw[<-YL];simp[grownCap,Question.cut]
          refine .v _ _ w.heap.size 0 cp (bytesRow xs cp) el _ (λk=> .int .u8 (((xs.data.getD k 0).toNat:Nat):Int)) (λhM=>Nat.lt_irrefl _ (uE hs _ hM)) UA hle ?_ ?_
          · intro k hk;rw[uO]at hk;have KH:k<xs.data.size:=hk;simp only[bytesRow,Nat.zero_add,Array.getD_eq_getD_getElem?];rw[Array.getElem?_append_left (by rw[Array.size_map];exact KH),Array.getElem?_map,Array.getElem?_eq_getElem KH];rfl
          intro k y hy;have hk:=(List.getElem?_eq_some_iff.1 hy).1;rw[uO]at hk;have KH:k<xs.data.size:=hk;simp only[bys,List.getElem?_map,Option.map_eq_some_iff]at hy;obtain⟨bb,LZ,rfl⟩:=hy;have:xs.data.getD k 0=bb:=by
            rw[Array.getElem?_toList,Array.getElem?_eq_getElem KH]at LZ;cases LZ;rw[Array.getD_eq_getD_getElem?,Array.getElem?_eq_getElem KH];rfl
          rw[this];exact .i _ _
        exact h.elim
      exact h.elim
    exact h.elim
  split at h
  · rename_i e ed he hed;obtain⟨hd,h⟩:=h;split at h
    · rename_i el yI;split at h
      · rename_i ee U8;obtain⟨h0,xs,hv,Cc,h⟩:=h;obtain⟨d1,g1,g1b,_⟩:=(hG src e he).D1;obtain⟨d2,g2,g2b,_⟩:=(hG dst ed hed).D1;obtain⟨d3,g3,g3b,_⟩:=(hG el ee U8).D1;have e1:=J3 (g1.trans yI);have e2:=PM (g2.trans hd);have e3:=jC (g3.trans h0);subst e1 e2 e3;obtain⟨a,n,cp,Xn,hn,us,qU,E8,P6⟩:=bE (P:=P) hs hu hv;refine .CX (u:= .string (strOfNums (q8 xs))) (w':=w) ?_ ⟨_,H,L,⟨h,rfl⟩,λ_ _=>rfl,hs,Step.refl _ _ _,.s _⟩;have Li:us=(q8 xs).map (Value.int .u8):=by
          apply List.ext_getElem?;intro i;rcases Nat.lt_or_ge i xs.length with hi|hi
          · have hy:xs[i]? =some (xs[i]):=List.getElem?_eq_getElem hi;obtain⟨c,c1,c2⟩:=P6 i _ hy;have h5:xs[i]? =((q8 xs).map (AV.i .u8))[i]? :=congrArg (λl=>l[i]?) Cc;have P8:(q8 xs).length=xs.length:=by simp[q8]
            rw[List.getElem?_map,List.getElem?_eq_getElem (show i<(q8 xs).length by omega),hy]at h5;simp only[Option.map_some,Option.some.injEq]at h5;rw[h5]at c2;rw[c1,c2.DV,List.getElem?_map,List.getElem?_eq_getElem (show i<(q8 xs).length by omega)];rfl
          rw[List.getElem?_eq_none A0,List.getElem?_eq_none (by simp[q8];omega)]
        have hr:=E8 w rfl;rw[Li,Xn]at hr;cases a with
        | none=>
          have hb:q8 xs=[]:=by
            simp only[Builtin.firstCells,Sem.run_pure,Result.ok.injEq]at hr;have:=congrArg Array.toList hr.1;simpa using this.symm
          have h6:=run_convert_bytes_nil (P:=P) w src el g1b g3b n cp dst g2b;simp only[execOp,ho,Xn,hb,h6,Sem.run_bind,Sem.run_pure,Result.andThen_ok];rfl
        | some a=>
          have hl:(loadCells a n).run P w= .ok ((q8 xs).map (Value.int .u8)).toArray w:=by
            simpa[Builtin.firstCells]using hr
          have h6:=run_convert_bytes_string (P:=P) w src dst el (some a) n cp g1b g3b g2b;have h7:=run_bytesToString w a n cp _ hl;rw[h7,foldl_push_bytes]at h6;simp only[execOp,ho,Xn,h6,Sem.run_bind,Sem.run_pure,Result.andThen_ok];simp[strOfNums,ByteArray.empty,ByteArray.emptyWithCapacity];rfl
      exact h.elim
    exact h.elim
  exact h.elim
def cpop(Γ:CA)(H:HP)(t1:TypeId)(x y:AV)(k:AV->HP->Prop):Prop:=
  match Γ t1,x with
  | some e,.h i off n=>match e.d with
    | .slice el=>match Γ el with
      |some ee=>ee.size=1/\S5 (H i) λcs=>off+n<=cs.length/\S5 (vw H y) λxs=>(∀z∈xs,one z=true)/\k (.i .i64 ((min xs.length n:Nat):Int)) (AT H i (some (B3 cs off (xs.take n))))
      |none=>False
    |_=>False
  |_,_=>False
theorem qV{Av:Nat->Prop}(hs:SR L H Av w){y:AV}{u:Value}(hu:R L w (MM L H Av) y u){xs:List AV}(hx:vw H y=some xs)(m:Nat)(hm:m<=xs.length):
    ∃us:List Value,us.length=m/\(Builtin.firstCells 1 m u).run P w= .ok us.toArray w/\∀(k:Nat) (y:AV),(xs.take m)[k]? =some y->∃c,us[k]? =some c/\R L w (MM L H Av) y c:=by
  have key:∀(y':AV) (u':Value),R L w (MM L H Av) y' u'->vw H y'=some (xs.take m)->(Builtin.firstCells 1 m u').run P w=(Builtin.firstCells 1 m u).run P w->∃us:List Value,us.length=m/\(Builtin.firstCells 1 m u).run P w= .ok us.toArray w/\∀(k:Nat) (y:AV),(xs.take m)[k]? =some y->∃c,us[k]? =some c/\R L w (MM L H Av) y c:=by
    intro y' u' JF hv' hf;obtain⟨a,n,cp,e1,e2,us,e3,e4,e5⟩:=bE (P:=P) hs JF hv';have hl:(xs.take m).length=m:=by simp;omega
    refine⟨us,A0,?_,e5⟩;rw[<-hf,show m=n by omega];exact e4 w rfl
  unfold vw at hx;split at hx
  · rename_i n cs;split at hx
    · rename_i hlen;cases hx;cases hu with
      | v0 a cp=>
        have:m=0:=by simpa using hm
        subst this;exact key (.v 0 []) (.slice a 0 cp) (.v0 a cp) (by simp[vw]) rfl
      | v _ _ b off cp arr e f us hM hb hn hu hr=>
        exact key (.v m (xs.take m)) (.slice (some ⟨b,off,none⟩) m cp) (.v m _ b off cp arr e f us hM hb A0 (λk hk=>hu k (by simp at hk;omega)) (λk x hk=>hr k x (by
          rw[List.getElem?_take]at hk;split at hk
          · exact hk
          cases hk))) (by simp[vw,hm]) rfl
    cases hx
  · rename_i i off n;cases hc:H i with
    |none=>rw[hc]at hx;cases hx
    | some cs=>
      rw[hc]at hx;simp only at hx
      split at hx
      · rename_i hlen;cases hx;simp only[List.length_take,List.length_drop]at hm;cases hu with
        | h _ _ _ l' a cp I9 hn Xo ha h0=>
          exact key (.h i off m) (.slice (some a) m cp) (.h _ _ _ l' a cp I9 A0 Xo ha h0) (by
            simp only[vw,hc];rw[if_pos A0,List.take_take,Nat.min_eq_left A0]) rfl
      cases hx
  · cases hx;have:m=0:=by simpa using hm
    subst this;exact key .nl u hu (by simp[vw]) rfl
  cases hx
theorem uQ(hG:IB P Γ){x y:Operand}{t1:TypeId}{ED:Array TypeId}(ho:o.op= .call ⟨.builtin .copy,#[x,y],ED⟩)(Ue:ED[0]? =some t1){k:AV->HP->Prop}
    (h:cpop Γ H t1 (ev x) (ev y) k):fT P o ev H id k:=by
  intro L Av w ρ hs mC hL hi B0;unfold cpop at h;split at h
  · rename_i e i off n he hx;split at h
    · rename_i el hd;split at h
      · rename_i ee U8;obtain⟨h1,cs,hc,h2,xs,Cc,h3,h⟩:=h;have hu:=B0 x (by rw[ho];simp[Op.operands,Call.operands]);have hv:=B0 y (by rw[ho];simp[Op.operands,Call.operands]);rw[hx]at hu;have u1:=((hG t1 e he).slice hd).2;have u2:=(hG el ee U8).CW;rw[h1]at u2;obtain⟨us,g1,g2,g3⟩:=qV (P:=P) hs hv Cc (min xs.length n) (Nat.min_le_left _ _);obtain⟨a',n',cp',f1,f2,_⟩:=bE (P:=P) hs hv Cc;have MD:(Builtin.lenOf (ρ y)).run P w= .ok xs.length w:=by rw[f1,<-f2];rfl
        have W0:xs.take (min xs.length n)=xs.take n:=by rw[List.take_eq_take_iff];omega
        rw[W0]at g3;obtain⟨l,hl,D0⟩:=hs.node i cs hc;generalize hρ:ρ x=ux at hu
        cases hu with
        | h _ _ _ l' a cp I9 hn Xo ha h0=>
          rw[hl]at I9;cases I9;obtain⟨arr,et,e2,e3,e4,e5⟩:=D0.ex h0;have jH:∀v∈us,v.oneCell'=true:=by
            intro v hv';obtain⟨j,hj,Xb⟩:=List.getElem_of_mem hv';have fM:j<(xs.take n).length:=by simp;omega
            obtain⟨c,q1,q2⟩:=g3 j _ (List.getElem?_eq_getElem fM);have hcv:c=v:=by
              rw[List.getElem?_eq_getElem hj,Xb]at q1;exact(Option.some.inj q1).symm
            rw[<-hcv];exact(IK q2 (h3 _ (List.mem_of_mem_take (List.getElem_mem fM)))).2
          have hlen:(xs.take n).length=us.length:=by simp;omega
          have ER:(storeCells a us).run P w= .ok () (CM w l.CP (.cells (arr.toList.take (l.off+off)++us++arr.toList.drop (l.off+off+us.length)).toArray et (0,0))):=by
            by_cases YL:cp=0
            · have h9:us=[]:=by rw[<-List.length_eq_zero_iff];omega
              subst h9;have:(arr.toList.take (l.off+off)++[]++arr.toList.drop (l.off+off+([]:List Value).length)).toArray=arr:=AB;rw[this,WG e2];simp[storeCells]
            have:=O4 (P:=P) (w:=w) (g:=l.CP) (o:=l.off+off) us e2 A0 jH;rw[ha.resolve_left YL];exact this
          obtain⟨q1,q2⟩:=MX hs hc hl (.inl ⟨rfl,rfl⟩) rfl h0 (arr.toList.take (l.off+off)++us++arr.toList.drop (l.off+off+us.length)).toArray et (B3 cs off (xs.take n)) (by simp;omega) (by rw[T5 A0];exact e4) (by
            intro k x hk;rw[PR cs off _ A0]at hk;rw[O5 arr _ _ A0];split at hk
            · rename_i Xo;rw[if_pos ⟨A0,A0⟩];obtain⟨c,e14,e15⟩:=g3 (k-off) x hk;exact⟨c,by rw[show l.off+k-(l.off+off)=k-off by omega];exact e14,e15⟩
            rename_i Xo;rw[if_neg A0];exact e5 k x hk)
          rw[U5 L hl,LY]at q1 q2;refine .CX (u:= .int .i64 ((min xs.length n:Nat):Int)) (w':=CM w l.CP (.cells (arr.toList.take (l.off+off)++us++arr.toList.drop (l.off+off+us.length)).toArray et (0,0))) ?_ ⟨_,_,L,h,λ_ _=>rfl,q1,q2,.i _ _⟩;have A3X:(Builtin.copy_ ED o.type #[.slice (some a) n cp,ρ y]).run P w= .ok (.int .i64 ((min xs.length n:Nat):Int)) (CM w l.CP (.cells (arr.toList.take (l.off+off)++us++arr.toList.drop (l.off+off+us.length)).toArray et (0,0))):=by
            unfold Builtin.copy_;have g2':(Builtin.firstCells 1 (Nat.min xs.length n) (ρ y)).run P w= .ok us.toArray w:=g2;simp only[Ue,List.getElem?_toArray,List.getElem?_cons_zero,List.getElem?_cons_succ,Sem.run_bind,u1,Result.andThen_ok,Sem.run_pure,MD,u2,g2',ER];rfl
          simp only[execOp,ho,resolve,invoke,builtin,Sem.run_bind,Sem.run_pure,Result.andThen_ok,List.map_toArray,List.map_cons,List.map_nil,hρ,A3X]
      exact h.elim
    exact h.elim
  exact h.elim
end
end Go.Proofs.YtgknbnkmilddhaaGreat
