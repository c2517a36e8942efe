import Derived.Maps.RangeRun
import Derived.Laws.BytesArg
import Derived.Laws.BytesString
import Derived.Below
import Derived.Orders
import Derived.LoopNIn
import Derived.RangeFuncLeaves
import Derived.Test.YtgknbnkmilddhaaGreatZ00
set_option linter.all false

namespace Go.Proofs.YtgknbnkmilddhaaGreat
section
def Uw(w g old cs t fr)(hg:w.heap[g]? =some (.cells old t fr)):w.setRow g cs=J3 w g (.cells cs t fr):=by
 have HX:=QS hg;unfold World.setRow J3;congr 1
 apply KI
 ·simp
 intro i h1 h2;rw[Array.getElem_modify,M9]
 ·split
  ·rename_i h;subst h;have:w.heap[g]= .cells old t fr:=by rw[D1 HX]at hg;simpa using hg
   simp[this]
  rfl
def fP{P w g o cur t}(vs)(hg:w.heap[g]? =some (.cells cur t (0,0)))(hf:o+vs.length<=cur.size)(h1:∀v∈vs,v.oneCell'=true):
    (storeCells ⟨g,o,none⟩ vs).run P w= .ok () (J3 w g (.cells (cur.toList.take o++vs++cur.toList.drop (o+vs.length)).toArray t (0,0))):=by
  have h:=run_storeCells_at P g o t vs 0 cur w hg (by simpa using hf) h1;rw[Uw w g cur _ t _ hg]at h;simpa using h
def fQ{α:Type}(cur:Array α)(o:Nat)(vs:List α)(h:o+vs.length<=cur.size)(k:Nat):
    (cur.toList.take o++vs++cur.toList.drop (o+vs.length)).toArray[k]? =if o<=k/\k<o+vs.length then vs[k-o]? else cur[k]? :=by
  simp only[CO];rw[BO,EH];have hl:(cur.toList.take o).length=o:=by simp;omega
  rw[hl];split
  · rename_i hk;rw[if_neg A0,D9,if_pos hk];simp
  rename_i hk;rw[EH];split
  · rename_i NC;rw[if_pos ⟨A0,A0⟩]
  rename_i NC;rw[if_neg A0,CK];rw[show o+vs.length+(k-o-vs.length)=k by omega];simp
def DH(cs:List AV)(o:Nat)(xs:List AV):List AV:=cs.take o++xs++cs.drop (o+xs.length)
def fR{cs o xs}(h:o+xs.length<=cs.length):(DH cs o xs).length=cs.length:=by
 simp[DH];omega
def SX(cs o xs)(h:o+xs.length<=cs.length)(k):
    (DH cs o xs)[k]? =if o<=k/\k<o+xs.length then xs[k-o]? else cs[k]? :=by
  unfold DH;rw[BO,EH];have hl:(cs.take o).length=o:=by simp;omega
  rw[hl];split
  · rename_i hk;rw[if_neg A0,D9,if_pos hk]
  rename_i hk;rw[EH];split
  · rename_i NC;rw[if_pos ⟨A0,A0⟩]
  rename_i NC;rw[if_neg A0,CK];rw[show o+xs.length+(k-o-xs.length)=k by omega]
section
variable{P:Program}{Γ:KT}{o:Oper}{ev:Operand->AV}{H:HP}{id:Nat}
def stop(Γ:KT)(H:HP)(ty:TypeId)(x y:AV)(k:AV->HP->Prop):Prop:=
 match Γ ty,x with
 |some e,.q i off=>Up (H i) λcs=>wS y=true/\(I0 y).length=e.size/\off+e.size<=cs.length/\k .j (CJ H i (some (DH cs off (I0 y))))
 |_,_=>False
def Np(hG:U2 P Γ){ty x y}(ho:o.op= .store ty x y){k}(h:stop Γ H ty (ev x) (ev y) k):Us P o ev H id k:=by
 unfold stop at h;split at h
 ·rename_i e i off he hx;obtain⟨cs,c8,h1,h2,h3,h⟩:=h;intro L Av w ρ hs Ed hL hi DU;have hu:=DU x (by rw[ho];simp[Op.operands]);have hv:=DU y (by rw[ho];simp[Op.operands]);rw[hx]at hu;obtain⟨l,⟨hl,h0⟩,e1⟩:=hu.y8;obtain⟨l',TT,JO⟩:=hs.node i cs c8;rw[hl]at TT;cases TT;obtain⟨arr,et,e2,e3,e4,e5⟩:=JO.ex h0;obtain⟨e6,e7⟩:=lE hv h1;have e8:=(hG ty e he).K3 w;have hlen:(ρ y).cells.toList.length=e.size:=by simp[e6,h2]
  have RJ:∀v∈(ρ y).cells.toList,v.oneCell'=true:=by
   intro v hv;obtain⟨j,hj,hjv⟩:=GX hv;have l6:j<(I0 (ev y)).length:=by rw[<-e6];simpa using hj
   obtain⟨c,e9,_,e10⟩:=e7 j _ (A9 l6);have:c=v:=by
    rw[<-hjv];have:(ρ y).cells.toList[j]? =some c:=by simpa using e9
    rw[A9 hj]at this;exact(F5 this).symm
   rw[<-this];exact e10
  have e11:=fP (P:=P) (w:=w) (g:=l.IY) (o:=l.off+off) (ρ y).cells.toList e2 (by rw[hlen];omega) RJ;obtain⟨e12,e13⟩:=c9 hs c8 hl (.inl ⟨rfl,rfl⟩) rfl h0 (arr.toList.take (l.off+off)++(ρ y).cells.toList++arr.toList.drop (l.off+off+(ρ y).cells.toList.length)).toArray et (DH cs off (I0 (ev y))) (by simp;omega) (by rw[fR A0];exact e4) (by
   intro k x hk;rw[SX cs off _ A0]at hk;rw[fQ arr _ _ (by rw[hlen];omega),hlen];split at hk
   ·rename_i hc;rw[if_pos ⟨A0,A0⟩];obtain⟨c,e14,e15,_⟩:=e7 (k-off) x hk;exact⟨c,by rw[show l.off+k-(l.off+off)=k-off by omega];simpa using e14,e15⟩
   rename_i hc;rw[if_neg A0];exact e5 k x hk)
  rw[zG L hl,cA]at e12 e13;refine .A4Q ?_ ⟨_,_,L,h,λ_ _=>rfl,e12,e13,.j _⟩;have a1:¬((ρ y).cells.size≠e.size):=by rw[e6,h2];simp
  simp only[execOp,ho,e1,Instr.storeAt,Instr.sureAddr,Sem.run_bind,Sem.run_pure,Result.andThen_ok,storeVar,e8];simp only[e6,h2];simp[e11]
 exact h.elim
def vw(H:HP):AV->Option (List AV)
 | .v n cs=>if cs.length=n then some cs else none
 | .h i off n=>match H i with
   |some cs=>if off+n<=cs.length then some ((cs.drop off).take n)else none
   |none=>none
 | .nl=>some []
 |_=>none
def rX{L Av w}(hs:SR L H Av w){x u}(hu:R L w (MM L H Av) x u){xs}(hx:vw H x=some xs):
    ∃a n cp,u= .slice a n cp/\n=xs.length/\∃us:List Value,us.length=xs.length/\(∀w':World,w'.heap=w.heap->(Builtin.firstCells 1 n u).run P w'= .ok us.toArray w')/\∀(k:Nat) (y:AV),xs[k]? =some y->∃c,us[k]? =some c/\R L w (MM L H Av) y c:=by
  unfold vw at hx;split at hx
  · rename_i n cs;split at hx
    · rename_i hlen;cases hx;cases hu with
      | v0 a cp=>
        refine⟨a,0,cp,rfl,rfl,[],rfl,?_,B5⟩;intro w' _;cases a<;>simp[Builtin.firstCells,loadCells,loadCellsFrom]
      | v _ _ b off cp arr e f us hM hb hn hu hr=>
        refine⟨_,n,cp,rfl,hlen.symm,(List.range' 0 n).map us,by simp[hlen],?_,?_⟩
        · intro w' Yv;have:=run_loadCells (P:=P) (w:=w') (b:=b) (off:=off) (us:=us) n 0 #[] (λk hk=>by
            rw[BS];exact cell_of (by rw[Yv];exact hb) (hu k A0))
          simp[Builtin.firstCells,loadCells,this]
        intro k y hk;have HX:=(AL.1 hk).1;exact⟨us k,by simp[show k<n by omega],hr k y hk⟩
    cases hx
  · rename_i i off n;split at hx
    · rename_i cs c8;split at hx
      · rename_i hlen;cases hx;obtain⟨l,hl,JO⟩:=hs.node i cs c8;cases hu with
        | h _ _ _ l' a cp TT hn hc ha h0=>
          rw[hl]at TT;cases TT;obtain⟨arr,et,e2,e3,e4,e5⟩:=JO.ex h0;let us:Nat->Value:=λj=>arr.getD (l.off+off+j) undef
          have Q6:∀j,j<n->∃u,arr[l.off+off+j]? =some u/\R L w (MM L H Av) (cs.getD (off+j) .j) u:=by
            intro j hj;have HX:off+j<cs.length:=A0;obtain⟨u,h3,h4⟩:=e5 (off+j) cs[off+j] (A9 HX);exact⟨u,by rw[DS];exact h3,by simpa[HX]using h4⟩
          refine⟨_,n,cp,rfl,by simp;omega,(List.range' 0 n).map us,by simp;omega,?_,?_⟩
          · intro w' Yv;by_cases PN:n=0
            · subst PN;simp[Builtin.firstCells,loadCells,loadCellsFrom]
            have dY:=ha.resolve_left A0;have:=run_loadCells (P:=P) (w:=w') (b:=l.IY) (off:=l.off+off) (us:=us) n 0 #[] (λk hk=>by
              rw[BS];obtain⟨u,h6,_⟩:=Q6 k hk;exact cell_of (by rw[Yv];exact e2) (by rw[h6];simp[us,h6]))
            simp[Builtin.firstCells,loadCells,dY,this]
          intro k y hk;simp only[D9,CK]at hk;split at hk
          · rename_i eA;obtain⟨u,h6,h7⟩:=Q6 k eA;refine⟨u,by simp[eA,us,h6],?_⟩;rw[show cs.getD (off+k) .j=y by simp[hk]]at h7;exact h7
          cases hk
      cases hx
    cases hx
  · cases hx;rw[hu.Q1];exact⟨none,0,0,rfl,rfl,[],rfl,by intro w' _;simp[Builtin.firstCells],B5⟩
  cases hx
def lH(H:HP)(x:AV)(xs:List AV)(id:Nat)(k:AV->HP->Prop):Prop:=
 match x with
 | .nl=>(xs=[]->k .nl H)/\(xs≠ []->k (.h id 0 xs.length) (CJ H id (some xs)))
 | .h i off n=>Up (H i) λcs=>off+n<=cs.length/\k (.h id 0 (n+xs.length)) (CJ (CJ H i none) id (some ((cs.drop off).take n++xs)))
 |_=>False
def rY:AV->Nat
 | .h _ _ n=>n
 |_=>0
def YF:TypeDesc->Bool
 | .int _=>true
 |_=>false
def zM:TD->Bool
 | .int _=>true
 |_=>false
def Yw{d}:YF d=zM (cY d):=by cases d<;>rfl
def Yx(Γ:KT)(H:HP)(t1 t2:TypeId)(x y:AV)(id:Nat)(k:AV->HP->Prop):Prop:=
 match Γ t1,Γ t2 with
 | some e1,some e2=>match e1.d with
   | .slice el=>match Γ el with
     | some ee=>ifS (ee.size==1) (ee.zero.cells.size=1/\(match y with
       | .i _ n=>zM e2.d=true/\0<=n/\n<=9223372036854775807/\(rY x+n.toNat)*ee.bytes<=140737488355328/\(rY x+n.toNat<=9223372036854775807)/\one (PA (ee.zero.cells.getD 0 undef))=true/\lH H x (List.replicate n.toNat (PA (ee.zero.cells.getD 0 undef))) id k
       |_=>zM e2.d=false/\Up (vw H y) λxs=>(∀z∈xs,one z=true)/\(rY x+xs.length)*ee.bytes<=140737488355328/\(rY x+xs.length<=9223372036854775807)/\lH H x xs id k))
       False
     |none=>False
   |_=>False
 |_,_=>False
section
variable{NJ:Array TypeId}{ty t1 t2 el:TypeId}{d2:TypeDesc}{ee:TE}{w w':World}{base:Option Addr}{HL M5 n:Nat}{v:Value}{us:List Value}
def A51(h0:NJ[0]? =some t1)(h1:NJ[1]? =some t2)(oS:∀w,(underlying t1).run P w= .ok (.slice el) w)(oT:∀w,(underlying t2).run P w= .ok d2 w)(WZ:YF d2=false)(TH:∀w,(sizeOf el).run P w= .ok 1 w)(hv:(Builtin.lenOf v).run P w= .ok n w)(hfc:(Builtin.firstCells 1 n v).run P w= .ok us.toArray w)(aA:HL+n<=M5)(M4:(match base with|some a=>storeCells (a.add HL) us|none=>pure ():Sem Unit).run P w= .ok () w'):
    (Builtin.append_ NJ ty #[.slice base HL M5,v]).run P w= .ok (.slice base (HL+n) M5) w':=by
  cases d2<;>simp only[YF,reduceCtorEq]at WZ
  all_goals
    unfold Builtin.append_;simp only[h0,h1,CO,DT,GV,Sem.run_bind,oS,oT,Result.andThen_ok,TH,Sem.run_pure,EG,if_false,hv,aA,if_true,F0,hfc,JZ];cases base with
    | none=>
      simp only[Sem.run_pure]at M4;cases M4;simp
    |some a=>simp at M4;simp[M4]
def Yy(h0:NJ[0]? =some t1)(h1:NJ[1]? =some t2)(oS:∀w,(underlying t1).run P w= .ok (.slice el) w)(oT:∀w,(underlying t2).run P w= .ok d2 w)(WZ:YF d2=true)(hE:LJ P el ee)
    (TH:ee.size=1) {k:IntKind} {m:Int} (hm0:0<=m) (SF:m<=9223372036854775807) (hmb:m*ee.bytes<=281474976710656) {z:Value} (hz:ee.zero.cells=#[z]) (aA:HL+m.toNat<=M5)
    (M4:(match base with|some a=>storeCells (a.add HL) (List.replicate m.toNat z)|none=>pure ():Sem Unit).run P w= .ok () w'):
    (Builtin.append_ NJ ty #[.slice base HL M5,.int k m]).run P w= .ok (.slice base (HL+m.toNat) M5) w':=by
  have hs:=λw=>hE.K3 w
  rw[TH]at hs;have hzr:=λw=>hE.SU w
  obtain⟨ii,h9,Df,iT,h12⟩:=hE.SS w;have w1:=wrap_i64 (n:=m) A0 A0;have a1:¬m<0:=A0;have a2:¬(281474976710656:Int)<m*ee.bytes:=A0;have hzc:∀n,Builtin.zeroCells #[z] n=(List.replicate n z).toArray:=by
    intro n;apply KI
    · simp[Builtin.zeroCells]
    intro i h1 h2;simp[Builtin.zeroCells,NP]
  cases d2<;>simp only[YF,EG]at WZ
  unfold Builtin.append_;simp only[h0,h1,CO,DT,GV,Sem.run_bind,oS,oT,Result.andThen_ok,hs,Sem.run_pure,if_true,asInt,asIntOf,w1,h9,iT];by_cases hm:m.toNat=0
  · cases base with
    | none=>
      simp only[Sem.run_pure]at M4;cases M4;simp[a1,a2,h9,iT,hm,show HL<=M5 by omega]
    | some a=>
      simp[hm,storeCells]at M4;cases M4;simp[a1,a2,h9,iT,hm,storeCells,show HL<=M5 by omega]
  cases base with
  | none=>
    simp only[Sem.run_pure]at M4;cases M4;simp[a1,a2,h9,iT,hm,aA,hzr,hz,hzc]
  | some a=>
    simp at M4;simp[a1,a2,h9,iT,hm,aA,hzr,hz,hzc,M4]
def A52(h0:NJ[0]? =some t1)(h1:NJ[1]? =some t2)(oS:∀w,(underlying t1).run P w= .ok (.slice el) w)(oT:∀w,(underlying t2).run P w= .ok d2 w)(WZ:YF d2=false)(hE:LJ P el ee)(TH:ee.size=1)(hv:(Builtin.lenOf v).run P w= .ok n w)(hfc:(Builtin.firstCells 1 n v).run P w.drew= .ok us.toArray w.drew){U}(hold:(Builtin.firstCells 1 HL (.slice base HL M5)).run P w.drew= .ok U.toArray w.drew)(aA:¬HL+n<=M5)(AGO:HL+n<=9223372036854775807)(hb:(HL+n)*ee.bytes<=140737488355328)(iU:ee.bytes≠0\/HL+n<=9223372036854775807):
    ∃cap rest,HL+n<=cap/\(U++us).length+rest.length=(U++us).length+(cap-(HL+n))*ee.zero.cells.size/\
    (Builtin.append_ NJ ty #[.slice base HL M5,v]).run P w= .ok (.slice (some ⟨w.heap.size,0,none⟩) (HL+n) cap) (w.drew.alloc (.cells (U++us++rest).toArray el (0,0))):=by
  have hs:=λw=>hE.K3 w
  rw[TH]at hs;have hzr:=λw=>hE.SU w
  obtain⟨ii,h9,Df,iT,h12⟩:=hE.SS w;obtain⟨ij,g9,g10,g11,g12⟩:=hE.SS w.drew;have hf:=growslice_fits (need:=HL+n) (old:=M5) (bytes:=ee.bytes) A0 hb;have a2:¬(281474976710656<Builtin.nextslicecap (HL+n) M5*ee.bytes):=A0;have a3:¬(((HL+n:Nat):Int)>IntKind.i64.max):=by
    have:IntKind.i64.max=9223372036854775807:=rfl;rw[this];omega
  refine⟨(Question.appendCap (HL+n) M5 el).cut (w.tape w.drawn (.appendCap (HL+n) M5 el)),(Builtin.zeroCells ee.zero.cells ((Question.appendCap (HL+n) M5 el).cut (w.tape w.drawn (.appendCap (HL+n) M5 el))-(HL+n))).toList,by simp[Question.cut],by simp[Builtin.zeroCells],?_⟩;clear iU;cases d2<;>simp only[YF,reduceCtorEq]at WZ
  all_goals
    unfold Builtin.append_;simp only[h0,h1,CO,DT,GV,Sem.run_bind,oS,oT,Result.andThen_ok,hs,Sem.run_pure,EG,if_false,hv,aA,F0,if_true,h9,iT];rw[if_neg (by intro hc;exact a3 hc.1)];simp only[Sem.run_bind,h9,Result.andThen_ok,iT];rw[if_neg (by simpa using a2)];simp[Question.forced,hs,g9,g11,hold,hfc,hzr,newRow];congr 2
    apply FL;simp
def Yz(h0:NJ[0]? =some t1)(h1:NJ[1]? =some t2)(oS:∀w,(underlying t1).run P w= .ok (.slice el) w)(oT:∀w,(underlying t2).run P w= .ok d2 w)(WZ:YF d2=true)(hE:LJ P el ee)
    (TH:ee.size=1) {k:IntKind} {m:Int} (hm0:0<=m) (SF:m<=9223372036854775807) (hmb:m*ee.bytes<=281474976710656) {z:Value} (hz:ee.zero.cells=#[z]) {U:List Value} (hold:(Builtin.firstCells 1 HL (.slice base HL M5)).run P w.drew= .ok U.toArray w.drew)
    (aA:¬HL+m.toNat<=M5) (AGO:HL+m.toNat<=9223372036854775807) (hb:(HL+m.toNat)*ee.bytes<=140737488355328):
    ∃cap rest,HL+m.toNat<=cap/\(U++List.replicate m.toNat z).length+rest.length=(U++List.replicate m.toNat z).length+(cap-(HL+m.toNat))*ee.zero.cells.size/\
    (Builtin.append_ NJ ty #[.slice base HL M5,.int k m]).run P w= .ok (.slice (some ⟨w.heap.size,0,none⟩) (HL+m.toNat) cap) (w.drew.alloc (.cells (U++List.replicate m.toNat z++rest).toArray el (0,0))):=by
  have hs:=λw=>hE.K3 w
  rw[TH]at hs;have hzr:=λw=>hE.SU w
  obtain⟨ii,h9,Df,iT,h12⟩:=hE.SS w;obtain⟨ij,g9,g10,g11,g12⟩:=hE.SS w.drew;have hf:=growslice_fits (need:=HL+m.toNat) (old:=M5) (bytes:=ee.bytes) A0 hb;have a0:¬m<0:=A0;have a1:¬(281474976710656:Int)<m*ee.bytes:=A0;have a2:¬(281474976710656<Builtin.nextslicecap (HL+m.toNat) M5*ee.bytes):=A0;have a3:¬(((HL+m.toNat:Nat):Int)>IntKind.i64.max):=by
    have:IntKind.i64.max=9223372036854775807:=rfl;rw[this];omega
  have w1:=wrap_i64 (n:=m) A0 A0;have hzc:∀n,Builtin.zeroCells #[z] n=(List.replicate n z).toArray:=by
    intro n;apply KI
    · simp[Builtin.zeroCells]
    intro i h1 h2;simp[Builtin.zeroCells,NP]
  refine⟨(Question.appendCap (HL+m.toNat) M5 el).cut (w.tape w.drawn (.appendCap (HL+m.toNat) M5 el)),(Builtin.zeroCells ee.zero.cells ((Question.appendCap (HL+m.toNat) M5 el).cut (w.tape w.drawn (.appendCap (HL+m.toNat) M5 el))-(HL+m.toNat))).toList,by simp[Question.cut],by simp[Builtin.zeroCells],?_⟩;cases d2<;>simp only[YF,EG]at WZ
  unfold Builtin.append_;simp only[h0,h1,CO,DT,GV,Sem.run_bind,oS,oT,Result.andThen_ok,hs,Sem.run_pure,if_true,asInt,asIntOf,w1,h9,iT];rw[if_neg a0];simp only[Sem.run_bind,h9,Result.andThen_ok,iT];rw[if_neg (by simpa using a1)];simp only[Sem.run_pure,Result.andThen_ok,aA,if_false,Sem.run_bind,h9,iT];rw[if_neg (by intro hc;exact a3 hc.1)];simp only[Sem.run_bind,h9,Result.andThen_ok,iT];rw[if_neg (by simpa using a2)];by_cases hm:m.toNat=0
  · simp only[hm,I7,C5,HI]at*;simp[Question.forced,hs,g9,g11,hold,hzr,newRow,hm];congr 2
    apply FL;simp
  simp[Question.forced,hs,g9,g11,hold,hzr,newRow,hm,hz,hzc];congr 2
  apply FL;simp
end
def R.drew{L M w x u}(h:R L w M x u):R L w.drew M x u:=R.mono (w:=w) (w':=w.drew) (M:=M) (M':=M) (λ_ _ h=>h) (λ_ _ _=>rfl) (λ_ _ h=>h) h
def R.AAP{L M w x u}(h:R L w.drew M x u):R L w M x u:=R.mono (w:=w.drew) (w':=w) (M:=M) (M':=M) (λ_ _ h=>h) (λ_ _ _=>rfl) (λ_ _ h=>h) h
def SR.drew{L Av w}(s:SR L H Av w):SR L H Av w.drew:=
 ⟨λid cs h=>by
   obtain⟨l,h1,JO⟩:=s.node id cs h;exact⟨l,h1,JO.mono rfl λk x hk u h7=>h7.drew⟩,
  s.inj,s.av,s.cW⟩
def Step.drew(L H w):Step L H w L H w.drew:=⟨λ_ _ h=>h,rfl,rfl,⟨rfl,LN _⟩,A1 _,λ_ _ _=>rfl,λ_ _ h=>h⟩
def y9{w b o}(h:w.heap[b]? =some o):J3 w b o=w:=by
 have HX:=QS h;unfold J3;have:w.heap.setIfInBounds b o=w.heap:=by
  apply KI
  ·simp
  intro i h1 h2;rw[M9];split
  ·rename_i hi;subst hi;rw[D1 HX]at h;simpa using h.symm
  rfl
 rw[this]
def rZ{L Av w}(hs:SR L H Av w)(hL:L id=none)(hi:H id=none){x u}(hu:R L w (MM L H Av) x u){el xs us}(hl:us.length=xs.length)(hr:∀(k:Nat) (y:AV),xs[k]? =some y->∃c,us[k]? =some c/\R L w (MM L H Av) y c)(RJ:∀v∈us,v.oneCell'=true){k}(h:lH H x xs id k)(run:Sem Value)(aA:∀base HL M5 w',u= .slice base HL M5->HL+us.length<=M5->(match base with|some a=>storeCells (a.add HL) us|none=>pure ():Sem Unit).run P w= .ok () w'->run.run P w= .ok (.slice base (HL+us.length) M5) w')(A93:∀base HL M5 U,u= .slice base HL M5->¬HL+us.length<=M5->(Builtin.firstCells 1 HL u).run P w.drew= .ok (List.toArray U) w.drew->∃cap rest,HL+us.length<=cap/\(rest:List Value).length=cap-(HL+us.length)/\
   run.run P w= .ok (.slice (some ⟨w.heap.size,0,none⟩) (HL+us.length) cap) (w.drew.alloc (.cells (U++us++rest).toArray el (0,0)))):
  ∃z w',run.run P w= .ok z w'/\∃r H' L',k r H'/\(∀i,i≠id->L' i=L i)/\SR L' H' Av w'/\Step L H w L' H' w'/\R L' w' (MM L' H' Av) r z:=by
 unfold lH at h;split at h
 ·have WU:=hu.Q1;by_cases hx:xs=[]
  ·have h0:us=[]:=by rw[<-AX,hl,hx];rfl
   have:=aA none 0 0 w WU (by simp[h0]) rfl;refine⟨_,_,this,.nl,H,L,h.1 hx,λ_ _=>rfl,hs,Step.refl _ _ _,?_⟩;rw[h0];exact .nl
  have s5:0<us.length:=by rw[hl];exact MJ.2 hx
  obtain⟨cap,rest,h1,h2,h3⟩:=A93 none 0 0 [] WU A0 (by rw[WU];simp[Builtin.firstCells]);obtain⟨h4,h5⟩:=fK hs.drew hL hi ([]++us++rest).toArray el cap xs (by simp;omega) A0 (by
   intro k y hk;obtain⟨c,h6,h7⟩:=hr k y hk;have HX:=(AL.1 h6).1;exact⟨c,by rw[CO,C8,F3 HX];exact h6,h7.drew⟩)
  refine⟨_,_,h3,_,_,_,h.2 hx,λi CP=>JV _ _ CP,h4,(Step.drew _ _ _).trans h5,?_⟩;rw[BS,hl];exact .h _ _ _ _ _ _ (J2 _ _ _) A0 B5 (.inr B5) rfl
 ·rename_i i off n;obtain⟨cs,c8,hlen,h⟩:=h;cases hu with
  |h _ _ _ l a cp Za hn hc ha h0=>
   obtain⟨l',TT,JO⟩:=hs.node i cs c8;rw[Za]at TT;cases TT;obtain⟨arr,et,e2,e3,e4,e5⟩:=JO.ex h0;by_cases Il:n+us.length<=cp
   ·have M4:(storeCells (a.add n) us).run P w= .ok () (J3 w l.IY (.cells (arr.toList.take (l.off+off+n)++us++arr.toList.drop (l.off+off+n+us.length)).toArray et (0,0))):=by
     by_cases rU:cp=0
     ·have h0:us=[]:=by rw[<-AX];omega
      subst h0;have:(arr.toList.take (l.off+off+n)++[]++arr.toList.drop (l.off+off+n+([]:List Value).length)).toArray=arr:=B5;rw[this,y9 e2];simp[storeCells]
     have:=fP (P:=P) (w:=w) (g:=l.IY) (o:=l.off+off+n) us e2 A0 RJ;rw[ha.resolve_left rU,SV];exact this
    have h1:=aA (some a) n cp _ rfl Il M4;obtain⟨h2,h3⟩:=c9 (l':=⟨l.IY,l.off+off,cp,0⟩) (id':=id) hs c8 Za (.inr ⟨hL,hi⟩) rfl rfl (arr.toList.take (l.off+off+n)++us++arr.toList.drop (l.off+off+n+us.length)).toArray et ((cs.drop off).take n++xs) (by simp;omega) (by simp;omega) (by
     intro k y hk;simp only
     rw[fQ arr _ _ A0];rw[EH]at hk;have UC:((cs.drop off).take n).length=n:=by simp;omega
     rw[UC]at hk;split at hk
     ·rename_i eA;rw[if_neg A0];simp only[D9,CK,eA,if_true]at hk;obtain⟨c,h6,h7⟩:=e5 (off+k) y hk;exact⟨c,by rw[DS];exact h6,h7⟩
     rename_i eA;have HX:=(AL.1 hk).1;rw[if_pos ⟨A0,A0⟩];obtain⟨c,h6,h7⟩:=hr (k-n) y hk;exact⟨c,by rw[show l.off+off+k-(l.off+off+n)=k-n by omega];exact h6,h7⟩)
    refine⟨_,_,h1,_,_,_,h,λj CP=>JV _ _ CP,h2,h3,?_⟩;rw[<-hl];exact .h _ _ _ _ _ _ (J2 _ _ _) A0 B5 (by simpa using ha) rfl
   obtain⟨a',n',cp',f1,f2,U,f3,f4,f5⟩:=rX (P:=P) hs.drew (x:= .h i off n) (u:= .slice (some a) n cp) (.h _ _ _ l a cp Za hn hc ha h0) (xs:=(cs.drop off).take n) (by simp[vw,c8,hlen]);cases f1;obtain⟨cap,rest,h1,h2,h3⟩:=A93 (some a) n cp U rfl Il (f4 _ rfl);have Eg:U.length=n:=by rw[f3];simp;omega
   have Ux:SR L (CJ H i none) Av w:=by
    have fS:∀b,LB L (CJ H i none) b->LB L H b:=by
     rintro b ⟨j,c,m,g1,g2,g3⟩;unfold CJ at g1;split at g1
     ·cases g1
     exact⟨j,c,m,g1,g2,g3⟩
    have hlv:∀j c,CJ H i none j=some c->H j=some c:=by
     intro j c g;unfold CJ at g;split at g
     ·cases g
     exact g
    refine⟨?_,λj j' c c' m m' g1 g2=>hs.inj j j' c c' m m' (hlv _ _ g1) (hlv _ _ g2),λj c m g=>hs.av j c m (hlv _ _ g),hs.cW⟩;intro j c g;obtain⟨m,g1,AN8⟩:=hs.node j c (hlv _ _ g);exact⟨m,g1,AN8.mono rfl λk y hk c' g7=>R.mono (w:=w) (w':=w) (M:=MM L H Av) (M':=MM L (CJ H i none) Av) (λ_ _ h=>h) (λ_ _ _=>rfl) (λb _ hb=>Or.elim hb .inl (λh=> .inr (fS b h))) g7⟩
   have OQ:CJ H i none id=none:=by unfold CJ;split;rfl;exact hi
   have cB:∀{y:AV} {c:Value},R L w (MM L H Av) y c->R L w.drew (MM L (CJ H i none) Av) y c:=by
    intro y c g;refine R.mono (w:=w) (w':=w.drew) (M:=MM L H Av) (M':=MM L (CJ H i none) Av) (λ_ _ h=>h) (λ_ _ _=>rfl) ?_ g;rintro b _ (hb|⟨j,c,m,g1,g2,g3⟩)
    ·exact .inl hb
    unfold CJ at g1;split at g1
    ·cases g1
    exact .inr ⟨j,c,m,g1,g2,g3⟩
   obtain⟨h4,h5⟩:=fK Ux.drew hL OQ (U++us++rest).toArray el cap ((cs.drop off).take n++xs) (by simp;omega) (by simp;omega) (by
    intro k y hk;rw[EH]at hk;have UC:((cs.drop off).take n).length=n:=by simp;omega
    rw[UC]at hk;split at hk
    ·rename_i eA;obtain⟨c,h6,h7⟩:=f5 k y hk;refine⟨c,?_,cB h7.AAP⟩;rw[CO,BO,F3 A0];exact h6
    rename_i eA;have HX:=(AL.1 hk).1;obtain⟨c,h6,h7⟩:=hr (k-n) y hk;refine⟨c,?_,cB h7⟩;rw[CO,BO,EA A0,Eg,F3 A0];exact h6)
   have h6:Step L H w L (CJ H i none) w:=by
    refine⟨λ_ _ h=>h,rfl,rfl,⟨rfl,A1 _⟩,A1 _,λ_ _ _=>rfl,?_⟩;rintro b _ ⟨j,c,m,g1,g2,g3⟩;unfold CJ at g1;split at g1
    ·cases g1
    exact⟨j,c,m,g1,g2,g3⟩
   refine⟨_,_,h3,_,_,_,h,λj CP=>JV _ _ CP,h4,(h6.trans (Step.drew _ _ _)).trans h5,?_⟩;rw[<-hl];exact .h _ _ _ _ _ _ (J2 _ _ _) A0 B5 (.inr B5) rfl
 exact h.elim
def Nr(hG:U2 P Γ){x y t1 t2 NJ}(ho:o.op= .call ⟨.builtin .append,#[x,y],NJ⟩)(ht1:NJ[0]? =some t1)(ht2:NJ[1]? =some t2){k}(h:Yx Γ H t1 t2 (ev x) (ev y) id k):Us P o ev H id k:=by
 unfold Yx at h;split at h
 ·rename_i e1 e2 he1 dZ;split at h
  ·rename_i el hd;split at h
   ·rename_i ee wT;by_cases h1:ee.size=1
    ·rw[A91 h1]at h;obtain⟨h2,h⟩:=h;intro L Av w ρ hs Ed hL hi DU;have hu:=DU x (by rw[ho];simp[Op.operands,Call.operands]);have hv:=DU y (by rw[ho];simp[Op.operands,Call.operands]);have oS:=((hG t1 e1 he1).slice hd).2;obtain⟨d2,WZ,_,oT⟩:=(hG t2 e2 dZ).KC;rw[<-WZ,<-Yw]at h;have hE:=hG el ee wT;have TH:=λw=>hE.K3 w
     rw[h1]at TH;obtain⟨z,hz⟩:∃z,ee.zero.cells=#[z]:=by
      cases hzc:ee.zero.cells with
      |mk l=>rw[hzc]at h2;match l,h2 with|[z],_=>exact⟨z,rfl⟩
     have hex:∀z w',(Builtin.append_ NJ o.type #[ρ x,ρ y]).run P w= .ok z w'->(execOp ρ o).run P w= .ok (.value z) w':=by
      intro z w' hz;simp only[execOp,ho,resolve,invoke,builtin,Sem.run_bind,Sem.run_pure,Result.andThen_ok,List.map_toArray,BR,BU,hz]
     split at h
     ·rename_i kk m hy;obtain⟨c1,c2,c3,c4,c5,c6,h⟩:=h;have hmb:m*ee.bytes<=281474976710656:=by
        have h6:(m.toNat:Int)*(ee.bytes:Int)<=140737488355328:=by
          have:m.toNat*ee.bytes<=(rY (ev x)+m.toNat)*ee.bytes:=LY _ A0;have h7:m.toNat*ee.bytes<=140737488355328:=A0;rw[<-EE];generalize m.toNat*ee.bytes=q at h7
          omega
        rw[BG c2]at h6;omega
      rw[hy]at hv;have hlen:∀base HL M5,ρ x= .slice base HL M5->HL=rY (ev x):=by
        intro base HL M5 hρ;unfold lH at h;split at h
        · rename_i lI;rw[lI]at hu;have:=hu.Q1;rw[hρ]at this;cases this;rw[lI];rfl
        · rename_i i off n lI;rw[lI]at hu;rw[hρ]at hu;cases hu;rw[lI];rfl
        exact h.elim
      have hz0:ee.zero.cells.getD 0 undef=z:=by rw[hz];rfl
      rw[hz0]at c6 h;have Zb:z.oneCell'=true:=(UB (R.PA L w (MM L H Av) z) c6).2;obtain⟨zz,w',O7,r,H',L',q1,q2,q3,q4,q5⟩:=rZ (P:=P) (el:=el) hs hL hi hu (xs:=List.replicate m.toNat (PA z)) (us:=List.replicate m.toNat z) B5 (by
          intro k y hk;simp only[EV]at hk;split at hk
          ·rename_i HX;cases hk;exact⟨z,by simp[HX],R.PA _ _ _ _⟩
          cases hk) (by intro v hv;rw[(DX.1 hv).2];exact Zb) h (Builtin.append_ NJ o.type #[ρ x,ρ y])
        (by
          intro base HL M5 w' hρ Il M4;rw[hρ,hv.OG];simp only[BZ]at Il ⊢;exact Yy ht1 ht2 oS oT c1 hE h1 c2 c3 hmb hz Il M4)
        (by
          intro base HL M5 U hρ Il hold;have:=hlen _ _ _ hρ;rw[hρ]at hold;rw[hρ,hv.OG];simp only[BZ]at Il ⊢;obtain⟨cap,rest,g1,g2,g3⟩:=Yz (ty:=o.type) ht1 ht2 oS oT c1 hE h1 (k:=kk) c2 c3 hmb hz hold Il A0 (by rw[this];exact c4);refine⟨cap,rest,g1,?_,g3⟩;rw[h2]at g2;omega)
      exact .OV (hex _ _ O7) ⟨r,H',L',q1,q2,q3,q4,q5⟩
     obtain⟨c1,xs,hxs,c6,c4,c5,h⟩:=h;obtain⟨a,n,cp,f1,f2,us,f3,f4,f5⟩:=rX (P:=P) hs hv hxs;have hlen:∀base HL M5,ρ x= .slice base HL M5->HL=rY (ev x):=by
      intro base HL M5 hρ;unfold lH at h;split at h
      · rename_i lI;rw[lI]at hu;have:=hu.Q1;rw[hρ]at this;cases this;rw[lI];rfl
      · rename_i i off n lI;rw[lI]at hu;rw[hρ]at hu;cases hu;rw[lI];rfl
      exact h.elim
     have Zb:∀v∈us,v.oneCell'=true:=by
      intro v hv;obtain⟨j,hj,hjv⟩:=GX hv;have l6:j<xs.length:=A0;obtain⟨c,e9,e10⟩:=f5 j _ (A9 l6);have hcv:c=v:=by
        rw[A9 hj,hjv]at e9;exact(F5 e9).symm
      rw[<-hcv];exact(UB e10 (c6 _ (BK l6))).2
     have cZ:∀w,(Builtin.lenOf (ρ y)).run P w= .ok us.length w:=by
      intro w;rw[f1];simp only[Builtin.lenOf,Sem.run_pure];rw[show us.length=n by omega]
     have hf4:(Builtin.firstCells 1 us.length (ρ y)).run P w= .ok us.toArray w:=by
      rw[show us.length=n by omega];exact f4 _ rfl
     have AN9:(Builtin.firstCells 1 us.length (ρ y)).run P w.drew= .ok us.toArray w.drew:=by
      rw[show us.length=n by omega];exact f4 _ rfl
     obtain⟨zz,w',O7,r,H',L',q1,q2,q3,q4,q5⟩:=rZ (P:=P) (el:=el) hs hL hi hu (xs:=xs) (us:=us) f3 f5 Zb h (Builtin.append_ NJ o.type #[ρ x,ρ y])
      (by
        intro base HL M5 w' hρ Il M4;rw[hρ];exact A51 ht1 ht2 oS oT c1 TH (cZ w) hf4 Il M4)
      (by
        intro base HL M5 U hρ Il hold;have:=hlen _ _ _ hρ;rw[hρ]at hold;rw[hρ];obtain⟨cap,rest,g1,g2,g3⟩:=A52 (ty:=o.type) ht1 ht2 oS oT c1 hE h1 (cZ w) AN9 hold Il A0 (by rw[this,f3];exact c4) (.inr A0);refine⟨cap,rest,g1,?_,g3⟩;rw[h2]at g2;omega)
     exact .OV (hex _ _ O7) ⟨r,H',L',q1,q2,q3,q4,q5⟩
    rw[A92 h1]at h;exact h.elim
   exact h.elim
  exact h.elim
 exact h.elim
end
end
section
def Ent(P:Program)(f:FuncId):Prop:=∃fn,P.funcs[f]? =some fn/\fn.body.isNone=false/\(fn.name== "runtime.NumGoroutine")=false
def S8(L:LM)(w:World)(M:Nat->Prop)(Zz:List AV)(us:Array Value):Prop:=
 us.size=Zz.length/\∀(k:Nat) (x:AV),Zz[k]? =some x->R L w M x (us.getD k undef)
def AC(P:Program)(f:FuncId)(nx:Nat)(H:HP)(Zz:List AV)(Q:Nat->HP->AV->Prop):Prop:=
 Ent P f/\∀(L:LM) (Av:Nat->Prop) (w:World) (us:Array Value),SR L H Av w->(∀i,nx<=i->L i=none)->S8 L w (MM L H Av) Zz us->
  Calls P f us w λe w'=>∃u r L' DI H',e= .returned u/\Q DI H' r/\nx<=DI/\(∀i,DI<=i->L' i=none)/\(∀i,i<nx->L' i=L i)/\SR L' H' Av w'/\Step L H w L' H' w'/\R L' w' (MM L' H' Av) r u
def AC.mono{P f nx H Zz Q Q'}(h:AC P f nx H Zz Q)(hq:∀n H r,Q n H r->Q' n H r):AC P f nx H Zz Q':=
 ⟨h.1,λL Av w us a b c=>(h.2 L Av w us a b c).mono λe w' ⟨u,r,L',DI,H',h1,h2,h3⟩=>⟨u,r,L',DI,H',h1,hq _ _ _ h2,h3⟩⟩
def DD:HP:=λ_=>none
def DZ(P:Program)(f:FuncId)(Zz:List AV)(r:AV):Prop:=
 Ent P f/\∀(L:LM) (M:Nat->Prop) (w:World) (us:Array Value),(∀b,M b->b<w.heap.size)->(∃n,∀i,n<=i->L i=none)->S8 L w M Zz us->
  Calls P f us w λe w'=>∃u,e= .returned u/\Step L DD w L DD w'/\R L w' M r u
def SG{L b}:¬LB L DD b:=by rintro⟨id,cs,l,h,_⟩;cases h
def fT{L M w}(h:∀b,M b->b<w.heap.size):SR L DD M w:=
 ⟨λid cs h=>(by cases h),λid id' cs LI l l' h=>(by cases h),λid cs l h=>(by cases h),h⟩
def fU{L M}:MM L DD M=M:=by
 funext b;apply propext
 exact⟨λh=>h.elim id (λh=>absurd h SG),.inl⟩
def Ns{L H Av w}(s:SR L H Av w):∀b,MM L H Av b->b<w.heap.size:=
 λb h=>h.elim (s.cW b) (a7 s)
def SR.kept{L H Av w w'}(s:SR L H Av w)(st:Step L DD w L DD w'):SR L H Av w'/\Step L H w L H w':=by
 have hk:∀b,b<w.heap.size->w'.heap[b]? =w.heap[b]? :=λb hb=>st.BV b hb SG
 have M4:Step L H w L H w':=⟨λ_ _ h=>h,st.os,st.tape,st.output,st.size,λb hb _=>hk b hb,λ_ _ h=>h⟩;refine⟨⟨?_,s.inj,s.av,λb hb=>GA (s.cW b hb) st.size⟩,M4⟩;intro id cs h;obtain⟨l,h1,JO⟩:=s.node id cs h;exact⟨l,h1,JO.mono (hk _ JO.lt) λk x hx u h7=>h7.step M4⟩
inductive Vw (H:HP):AV->AV->Prop
 |refl (a:AV):Vw H a a
 |nl:Vw H .nl (.v 0 [])
 |h (id o n:Nat) (cs ts:List AV) (h1:H id=some cs) (h2:o+n<=cs.length) (h3:ts.length=n) (h4:∀(k:Nat) (x y:AV),cs[o+k]? =some x->ts[k]? =some y->Vw H x y):Vw H (.h id o n) (.v n ts)
 |hs (s id o n:Nat) (cs ts:List AV) (h1:H id=some cs) (h2:o+n*s<=cs.length) (h3:ts.length=n*s) (h4:∀(k:Nat) (x y:AV),cs[o+k]? =some x->ts[k]? =some y->Vw H x y):Vw H (.hs s id o n) (.v n ts)
 |q (id o:Nat) (cs ts:List AV) (h1:H id=some cs) (h3:ts.length=cs.length) (h4:∀(k:Nat) (x y:AV),cs[k]? =some x->ts[k]? =some y->Vw H x y):Vw H (.q id o) (.p o ts)
 |g (cs ts:List AV) (h3:ts.length=cs.length) (h4:∀(k:Nat) (x y:AV),cs[k]? =some x->ts[k]? =some y->Vw H x y):Vw H (.g cs) (.g ts)
 |t (cs ts:List AV) (h3:ts.length=cs.length) (h4:∀(k:Nat) (x y:AV),cs[k]? =some x->ts[k]? =some y->Vw H x y):Vw H (.t cs) (.t ts)
 |v (n:Nat) (cs ts:List AV) (h3:ts.length=cs.length) (h4:∀(k:Nat) (x y:AV),cs[k]? =some x->ts[k]? =some y->Vw H x y):Vw H (.v n cs) (.v n ts)
 |p (n:Nat) (cs ts:List AV) (h3:ts.length=cs.length) (h4:∀(k:Nat) (x y:AV),cs[k]? =some x->ts[k]? =some y->Vw H x y):Vw H (.p n cs) (.p n ts)
 |f (n:Nat) (cs ts:List AV) (h3:ts.length=cs.length) (h4:∀(k:Nat) (x y:AV),cs[k]? =some x->ts[k]? =some y->Vw H x y):Vw H (.f n cs) (.f n ts)
def Vw.sound{L H Av w}(s:SR L H Av w){a t}(v:Vw H a t):∀{u:Value},R L w (MM L H Av) a u->R L w Av t u:=by
 have hM:∀{x:AV} {u:Value},R L w (MM L H Av) x u->R L w Av x u:=λh=>h.mono (λ_ _ h=>h) (λ_ _ _=>rfl) (λ_ _ h=> .inl h)
 induction v with
 |refl a=>intro u h;exact hM h
 |nl=>intro u h;rw[h.Q1];exact .v0 _ _
 | h id o n cs ts h1 h2 h3 h4 ih=>
   intro u h;obtain⟨l,hl,JO⟩:=s.node id cs h1;cases h with
   |h _ _ _ l' ad cp TT hn hc ha h0=>
    rw[hl]at TT;cases TT;obtain⟨arr,e,e2,e3,e4,e5⟩:=JO.ex h0;by_cases PN:n=0
    ·subst PN;have:ts=[]:=AX.1 h3;subst this;exact .v0 _ _
    rw[ha.resolve_left A0];have Q6:∀k,k<n->∃u,arr[l.off+o+k]? =some u/\R L w (MM L H Av) (cs.getD (o+k) .j) u:=by
     intro j hj;have HX:o+j<cs.length:=A0;obtain⟨u,h3,h4⟩:=e5 (o+j) cs[o+j] (A9 HX);exact⟨u,by rw[DS];exact h3,by simpa[HX]using h4⟩
    refine .v n ts l.IY (l.off+o) cp arr e _ (λk=>arr.getD (l.off+o+k) undef) (s.av id cs l h1 hl) e2 hn ?_ ?_
    ·intro k hk;obtain⟨u,h6,_⟩:=Q6 k A0;rw[h6];simp[h6]
    intro k y hy;have hk:=(AL.1 hy).1;obtain⟨u,h6,h7⟩:=Q6 k A0;have HX:o+k<cs.length:=A0;have hx:cs[o+k]? =some (cs.getD (o+k) .j):=by simp[HX]
    have:=ih k _ y hx hy h7;rw[show arr.getD (l.off+o+k) undef=u by simp[h6]];exact this
 | hs z id o n cs ts h1 h2 h3 h4 ih=>
   intro u h;obtain⟨l,hl,JO⟩:=s.node id cs h1;cases h with
   |hs _ _ _ _ l' ad cp TT hn hc ha h0=>
    rw[hl]at TT;cases TT;obtain⟨arr,e,e2,e3,e4,e5⟩:=JO.ex h0;by_cases PN:n=0
    ·subst PN;have:ts=[]:=AX.1 (by simpa using h3);subst this;exact .v0 _ _
    rw[ha.resolve_left A0];have Q6:∀k,k<n*z->∃u,arr[l.off+o+k]? =some u/\R L w (MM L H Av) (cs.getD (o+k) .j) u:=by
     intro j hj;have HX:o+j<cs.length:=A0;obtain⟨u,h3,h4⟩:=e5 (o+j) cs[o+j] (A9 HX);exact⟨u,by rw[DS];exact h3,by simpa[HX]using h4⟩
    refine .v n ts l.IY (l.off+o) cp arr e _ (λk=>arr.getD (l.off+o+k) undef) (s.av id cs l h1 hl) e2 hn ?_ ?_
    ·intro k hk;obtain⟨u,h6,_⟩:=Q6 k A0;rw[h6];simp[h6]
    intro k y hy;have hk:=(AL.1 hy).1;obtain⟨u,h6,h7⟩:=Q6 k A0;have HX:o+k<cs.length:=A0;have hx:cs[o+k]? =some (cs.getD (o+k) .j):=by simp[HX]
    have:=ih k _ y hx hy h7;rw[show arr.getD (l.off+o+k) undef=u by simp[h6]];exact this
 | q id o cs ts h1 h3 h4 ih=>
   intro u h;obtain⟨l,hl,JO⟩:=s.node id cs h1;obtain⟨l',⟨TT,h0⟩,hu⟩:=h.y8;rw[hl]at TT;cases TT;obtain⟨arr,e,e2,e3,e4,e5⟩:=JO.ex h0;rw[hu];refine .p o ts l.IY l.off arr e _ (λk=>arr.getD (l.off+k) undef) (s.av id cs l h1 hl) e2 ?_ ?_
   ·intro k hk;obtain⟨u,h6,_⟩:=e5 k cs[k] (A9 A0);rw[h6];simp[h6]
   intro k y hy;have hk:=(AL.1 hy).1;obtain⟨u,h6,h7⟩:=e5 k cs[k] (A9 A0);have:=ih k _ y (A9 A0) hy h7;rw[show arr.getD (l.off+k) undef=u by simp[h6]];exact this
 | g cs ts h3 h4 ih=>
   intro u h;cases h with
   |g _ us hs hr=>
    refine .g ts us A0 ?_;intro k y hy;have hk:=(AL.1 hy).1;have hx:cs[k]? =some cs[k]:=A9 A0;exact ih k _ y hx hy (hr k _ hx)
 | t cs ts h3 h4 ih=>
   intro u h;cases h with
   |t _ us hs hr=>
    refine .t ts us A0 ?_;intro k y hy;have hk:=(AL.1 hy).1;have hx:cs[k]? =some cs[k]:=A9 A0;exact ih k _ y hx hy (hr k _ hx)
 | f n cs ts h3 h4 ih=>
   intro u h;cases h with
   |f _ _ us hs hr=>
    refine .f n ts us A0 ?_;intro k y hy;have hk:=(AL.1 hy).1;have hx:cs[k]? =some cs[k]:=A9 A0;exact ih k _ y hx hy (hr k _ hx)
 | v n cs ts h3 h4 ih=>
   intro u h;cases h with
   |v0 a cp=>
    have:ts=[]:=AX.1 (by simpa using h3);subst this;exact .v0 _ _
   |v _ _ b off cp arr e f us hm hb hn hu hr=>
    refine .v n ts b off cp arr e f us (λh=>hm (.inl h)) hb hn (λk hk=>hu k A0) ?_;intro k y hy;have hk:=(AL.1 hy).1;have hx:cs[k]? =some cs[k]:=A9 A0;exact ih k _ y hx hy (hr k _ hx)
 | p n cs ts h3 h4 ih=>
   intro u h;cases h with
   |p _ _ b off arr e f us hm hb hu hr=>
    refine .p n ts b off arr e f us (λh=>hm (.inl h)) hb (λk hk=>hu k A0) ?_;intro k y hy;have hk:=(AL.1 hy).1;have hx:cs[k]? =some cs[k]:=A9 A0;exact ih k _ y hx hy (hr k _ hx)
inductive wU (H:HP):List AV->List AV->Prop
 |nil:wU H [] []
 |cons {a t:AV} {Zz ts:List AV} (h:Vw H a t) (hs:wU H Zz ts):wU H (a::Zz) (t::ts)
def wU.get{H Zz ts}(h:wU H Zz ts):ts.length=Zz.length/\∀(k:Nat) (t:AV),ts[k]? =some t->∃a,Zz[k]? =some a/\Vw H a t:=by
 induction h with
 |nil=>exact⟨rfl,B5⟩
 | cons h hs ih=>
   refine⟨by simp[ih.1],?_⟩;intro k t hk;cases k with
   |zero=>simp at hk;subst hk;exact⟨_,rfl,h⟩
   |succ k=>exact ih.2 k t (by simpa using hk)
def S8.view{L H Av w}(s:SR L H Av w){Zz ts us}(h:S8 L w (MM L H Av) Zz us)(v:wU H Zz ts):S8 L w Av ts us:=by
 obtain⟨h1,h2⟩:=v.get;refine⟨by rw[h.1,h1],?_⟩;intro k t hk;obtain⟨a,h3,h4⟩:=h2 k t hk;exact h4.sound s (h.2 k a h3)
def RC(P:Program)(f:FuncId)(H:HP)(Zz:List AV)(r:AV):Prop:=
 DZ P f Zz r\/∃ts,wU H Zz ts/\DZ P f ts r/\Fl r
def RC.run{P f H H' Zz r}(h:RC P f H Zz r)(hH:∀i c,H i=some c->H' i=some c):Ent P f/\∀(L:LM) (Av:Nat->Prop) (w:World) (us:Array Value),SR L H' Av w->(∃n,∀i,n<=i->L i=none)->S8 L w (MM L H' Av) Zz us->
    Calls P f us w λe w'=>∃u,e= .returned u/\SR L H' Av w'/\Step L H' w L H' w'/\R L w' (MM L H' Av) r u:=by
  rcases h with h|⟨ts,hv,h,hf⟩
  · refine⟨h.1,λL Av w us s hn a=>(h.2 L _ w us (Ns s) hn a).mono ?_⟩;rintro e w' ⟨u,h1,h2,h3⟩;exact⟨u,h1,(s.kept h2).1,(s.kept h2).2,h3⟩
  refine⟨h.1,λL Av w us s hn a=>(h.2 L _ w us s.cW hn (a.view s ?_)).mono ?_⟩
  · have mono:∀{a t:AV},Vw H a t->Vw H' a t:=by
      intro a t v;induction v with
      |refl a=>exact .refl a
      |nl=>exact .nl
      |h id o n cs ts h1 h2 h3 h4 ih=>exact .h id o n cs ts (hH _ _ h1) h2 h3 ih
      |hs s id o n cs ts h1 h2 h3 h4 ih=>exact .hs s id o n cs ts (hH _ _ h1) h2 h3 ih
      |q id o cs ts h1 h3 h4 ih=>exact .q id o cs ts (hH _ _ h1) h3 ih
      |g cs ts h3 h4 ih=>exact .g cs ts h3 ih
      |t cs ts h3 h4 ih=>exact .t cs ts h3 ih
      |v n cs ts h3 h4 ih=>exact .v n cs ts h3 ih
      |p n cs ts h3 h4 ih=>exact .p n cs ts h3 ih
      |f n cs ts h3 h4 ih=>exact .f n cs ts h3 ih
    clear a h;induction hv with
    |nil=>exact .nil
    |cons h hs ih=>exact .cons (mono h) ih
  rintro e w' ⟨u,h1,h2,h3⟩;exact⟨u,h1,(s.kept h2).1,(s.kept h2).2,h3.fl (λ_ _ h=>h) hf⟩
def lJ{P f}(he:Ent P f){o ρ args NJ}(ho:o.op= .call ⟨.value (.func f),args,NJ⟩)(hρ:ρ (.func f)= .func (.func f) #[] #[])(w):
    (execOp ρ o).run P w= .ok (.enter f (args.map ρ)) w:=by
  obtain⟨fn,h1,h2,h3⟩:=he;have J7:¬fn.body=none:=by intro hn;rw[hn]at h2;cases h2
  have h3':¬fn.name= "runtime.NumGoroutine" :=by simpa using h3
  simp[execOp,ho,resolve,Deferred.ofValue,hρ,invoke,callFunc,h1,J7,h3']
def zN{L:LM}{w:World}{M:Nat->Prop}{o:Oper}{ev:Operand->AV}{ρ:Operand->Value}{f:FuncId}{args:Array Operand}{NJ:Array TypeId}(ho:o.op= .call ⟨.value (.func f),args,NJ⟩)
    (DU:∀x∈o.op.operands,R L w M (ev x) (ρ x)):S8 L w M (args.toList.map ev) (args.map ρ):=by
  refine⟨B5,?_⟩;intro k x hk;simp only[BF,CG,CE]at hk;obtain⟨y,h1,h2⟩:=hk;have hm:y∈o.op.operands:=by
    rw[ho];simp only[Op.operands,Call.operands,JB];exact .inr (KQ h1)
  have:=DU y hm;rw[<-h2];simpa[h1]using this
def R.Eh{L w M f cs u}(h:R L w M (.f f cs) u):∃us,u= .func (.func f) #[] us/\S8 L w M cs us:=by
 cases h with
 |f _ _ us hs hr=>exact⟨us,rfl,hs,hr⟩
def R.AAQ{L w M f u}(h:R L w M (.f f []) u):u= .func (.func f) #[] #[]:=by
 obtain⟨us,h1,h2,_⟩:=h.Eh;have:us=#[]:=by simpa using h2
 rw[h1,this]
def S8.append{L w M xs cs us vs}(h1:S8 L w M xs us)(h2:S8 L w M cs vs):S8 L w M (xs++cs) (us++vs):=by
 refine⟨by simp[h1.1,h2.1],?_⟩;intro k x hk;rw[EH]at hk;rw[BC,FZ];split at hk
 ·rename_i HX;rw[if_pos (by rw[h1.1];exact HX)];have:=h1.2 k x hk;rwa [BC]at this
 rename_i HX;rw[if_neg (by rw[h1.1];exact HX),h1.1];have:=h2.2 _ x hk;rwa [BC]at this
def fW{P f}(he:Ent P f){o ρ x args NJ us}(ho:o.op= .call ⟨.value x,args,NJ⟩)(hρ:ρ x= .func (.func f) #[] us)(w):
    (execOp ρ o).run P w= .ok (.enter f (args.map ρ++us)) w:=by
  obtain⟨fn,h1,h2,h3⟩:=he;have J7:¬fn.body=none:=by intro hn;rw[hn]at h2;cases h2
  have h3':¬fn.name= "runtime.NumGoroutine" :=by simpa using h3
  simp[execOp,ho,resolve,Deferred.ofValue,hρ,invoke,callFunc,h1,J7,h3']
def s6{L:LM}{w:World}{M:Nat->Prop}{o:Oper}{ev:Operand->AV}{ρ:Operand->Value}{x:Operand}{args:Array Operand}{NJ:Array TypeId}(ho:o.op= .call ⟨.value x,args,NJ⟩)
    (DU:∀x∈o.op.operands,R L w M (ev x) (ρ x)):S8 L w M (args.toList.map ev) (args.map ρ):=by
  refine⟨B5,?_⟩;intro k x hk;simp only[BF,CG,CE]at hk;obtain⟨y,h1,h2⟩:=hk;have hm:y∈o.op.operands:=by
    rw[ho];simp only[Op.operands,Call.operands,JB];exact .inr (KQ h1)
  have:=DU y hm;rw[<-h2];simpa[h1]using this
def R.AGP{L w M x u}(h:R L w M (.c x) u):u=x:=by cases h;rfl
inductive Tg:Prop->Type
 |mk (p:Prop):Tg p
structure J5(x want:Bool)(yes no:Prop)(a:Tg yes)(b:Tg no):Prop where
 y:x=want->yes
 n:x=(!want)->no
structure Ei(z:Bool)(yes no:Prop)(a:Tg yes)(b:Tg no):Prop where
 y:z=true->yes
 n:z=false->no
def gB1{y n:Prop}{a b}:J5 true true y n a b=y:=propext ⟨λh=>h.1 rfl,λh=>⟨λ_=>h,(λe=>by cases e)⟩⟩
def gB2{y n:Prop}{a b}:J5 false false y n a b=y:=propext ⟨λh=>h.1 rfl,λh=>⟨λ_=>h,(λe=>by cases e)⟩⟩
def gB3{y n:Prop}{a b}:J5 true false y n a b=n:=propext ⟨λh=>h.2 rfl,λh=>⟨(λe=>by cases e),λ_=>h⟩⟩
def gB4{y n:Prop}{a b}:J5 false true y n a b=n:=propext ⟨λh=>h.2 rfl,λh=>⟨(λe=>by cases e),λ_=>h⟩⟩
def pB1{y n:Prop}{a b}:Ei true y n a b=y:=propext ⟨λh=>h.1 rfl,λh=>⟨λ_=>h,(λe=>by cases e)⟩⟩
def pB2{y n:Prop}{a b}:Ei false y n a b=n:=propext ⟨λh=>h.2 rfl,λh=>⟨(λe=>by cases e),λ_=>h⟩⟩
def J5.mk'{x want}{yes no:Prop}{a b}(y:x=want->yes)(n:x=(!want)->no):J5 x want yes no a b:=⟨y,n⟩
def Uy(fn:Fn)(first:List Operand)(cs:List AV)(k:AV->Prop):Prop:=match fn,first with
 | .func f,[]=>k (.f f cs)
 |_,_=>False
def fnV(v:AV)(k:Nat->List AV->Prop):Prop:=match v with
 | .f f cs=>k f cs
 |_=>False
def eC(Γ:KT)(P:Program)(op:Op)(t:List AV)(H:HP)(id:Nat)(k:AV->Option (List AV)->Prop):Prop:=
 match op with
 | .move x=>k (FK t x) none
 | .assign x=>k (FK t x) none
 | .pick c a b=>match FK t c with
   | .b z=>Ei z (k (FK t a) none) (k (FK t b) none) (.mk _) (.mk _)
   |_=>False
 | .binOp op ty x y _=>bop Γ op ty (FK t x) (FK t y) λr=>k r none
 | .unOp op _ x=>uop op (FK t x) λr=>k r none
 | .convert src dst x=>cop Γ src dst (FK t x) λr=>k r none
 | .load ty x=>lop Γ H ty (FK t x) λr=>k r none
 | .fieldAddr ty x f=>fop Γ ty f λoff=>Jo (FK t x) off λr=>k r none
 | .indexAddr ty x i=>iop Γ ty (FK t x) (FK t i) λr=>k r none
 | .slice ty x lo hi none=>sop Γ ty (FK t x) (lo.map (FK t)) (hi.map (FK t)) λr=>k r none
 | .extract x n=>eop (FK t x) n λr=>k r none
 | .field ty x f=>Yj Γ ty (FK t x) f λr=>k r none
 | .nilCheck x=>nop (FK t x) λr=>k r none
 | .index ty x i=>zL Γ ty (FK t x) (FK t i) λr=>k r none
 | .build ty parts=>Yt Γ ty (parts.toList.map λ(i,x)=>(i,FK t x)) λr=>k r none
 | .buildSlice ty len parts=>xD Γ ty len (parts.toList.map λ(i,x)=>(i,FK t x)) id k
 | .makeSlice ty x y=>Ys Γ ty (FK t x) (FK t y) id k
 | .alloc ty=>match Γ ty with
   |some e=>k (.q id 0) (some (UJ e))
   |none=>False
 | .box ty x=>wS (FK t x)=true/\k (.q id 0) (some (I0 (FK t x)))
 | .call ⟨.builtin .len,args,NJ⟩=>match args.toList,NJ.toList with
   |[x],ty::_=>a8 Γ ty (FK t x) λr=>k r none
   |_,_=>False
 | .call ⟨.builtin .cap,args,NJ⟩=>match args.toList,NJ.toList with
   |[x],ty::_=>Ee Γ ty (FK t x) λr=>k r none
   |_,_=>False
 | .call ⟨.builtin .max,args,_⟩=>match args.toList with
   |[x,y]=>Yk (FK t x) (FK t y) λr=>k r none
   |_=>False
 | .call ⟨.builtin .min,args,_⟩=>match args.toList with
   |[x,y]=>A4R (FK t x) (FK t y) λr=>k r none
   |_=>False
 | .call ⟨.value (.func f),args,_⟩=>ex2 (λr=>RC P f H (args.toList.map (FK t)) r) λr=>k r none
 | .call ⟨.value (.tmp n),args,_⟩=>fnV (FK t (.tmp n)) λf cs=>ex2 (λr=>RC P f H (args.toList.map (FK t)++cs) r) λr=>k r none
 | .makeFunc fn first cap=>Uy fn first.toList (cap.toList.map (FK t)) λr=>k r none
 |_=>False
def lays:Op->Bool
 | .alloc _| .box .. | .makeSlice .. | .buildSlice .. =>true
 |_=>false
def qN{P Γ}(hG:U2 P Γ){o t H id k}(h:eC Γ P o.op t H id k):∃r d,k r d/\NN P o (FK t) H id r d/\(lays o.op=false->d=none):=by
 have val:∀x,(∀ρ:Operand->Value,∀w,(execOp ρ o).run P w= .ok (.value (ρ x)) w)->x∈o.op.operands->NN P o (FK t) H id (FK t x) none:=
  λx hx hm=>NN.pure λH' hH L Av w ρ hs DU=>⟨ρ x,hx ρ w,DU x hm⟩
 have lift:∀{K:AV->Prop},(∃r,K r/\NN P o (FK t) H id r none)->(∀r,K r->k r none)->∃r d,k r d/\NN P o (FK t) H id r d/\(lays o.op=false->d=none):=
  λ⟨r,h1,h2⟩ h3=>⟨r,none,h3 r h1,h2,λ_=>rfl⟩
 cases ho:o.op<;>rw[ho]at h lift<;>simp only[eC]at h
 case move x=>exact⟨_,_,h,val x (fun ρ w=>by simp[execOp,ho]) (by simp[ho,Op.operands]),λ_=>rfl⟩
 case assign x=>exact⟨_,_,h,val x (fun ρ w=>by simp[execOp,ho]) (by simp[ho,Op.operands]),λ_=>rfl⟩
 case pick c a b=>
  split at h
  · rename_i z hz;cases z with
    |true=>
     refine⟨_,_,h.1 rfl,NN.pure λH' hH L Av w ρ hs DU=>⟨ρ a,?_,DU a (by simp[ho,Op.operands])⟩,λ_=>rfl⟩;have hc:=DU c (by simp[ho,Op.operands]);rw[hz]at hc;simp[execOp,ho,hc.nX,asBool]
    |false=>
     refine⟨_,_,h.2 rfl,NN.pure λH' hH L Av w ρ hs DU=>⟨ρ b,?_,DU b (by simp[ho,Op.operands])⟩,λ_=>rfl⟩;have hc:=DU c (by simp[ho,Op.operands]);rw[hz]at hc;simp[execOp,ho,hc.nX,asBool]
  exact h.elim
 case binOp op ty x y ty2=>
  obtain⟨r,h1,h2⟩:=Nn hG h x y;refine⟨r,none,h1,NN.pure λH' hH L Av w ρ hs DU=>?_,λ_=>rfl⟩;obtain⟨z,h3,h4⟩:=h2 L w _ _ _ (DU x (by simp[ho,Op.operands])) (DU y (by simp[ho,Op.operands]));exact⟨z,by simp only[execOp,ho,Sem.run_bind,Sem.run_pure]at h3 ⊢;rw[h3];rfl,h4⟩
 case unOp op ty x=>
  obtain⟨r,h1,h2⟩:=A4S (P:=P) h;refine⟨r,none,h1,NN.pure λH' hH L Av w ρ hs DU=>?_,λ_=>rfl⟩;obtain⟨z,h3,h4⟩:=h2 L w _ _ (DU x (by simp[ho,Op.operands]));exact⟨z,by simp[execOp,ho,h3],h4⟩
 case convert s d x=>
  obtain⟨r,h1,h2⟩:=No hG h;refine⟨r,none,h1,NN.pure λH' hH L Av w ρ hs DU=>?_,λ_=>rfl⟩;obtain⟨z,h3,h4⟩:=h2 L w _ _ (DU x (by simp[ho,Op.operands]));exact⟨z,by simp[execOp,ho,h3],h4⟩
 case load ty x=>exact lift (AAH hG ho h) (λ_ h=>h)
 case fieldAddr ty x f=>exact lift (AAI hG ho h) (λ_ h=>h)
 case indexAddr ty x i=>exact lift (AAJ hG ho h) (λ_ h=>h)
 case slice ty x lo hi mx=>
  cases mx with
  |none=>exact lift (AAN hG ho h) (λ_ h=>h)
  |some _=>exact h.elim
 case extract x n=>exact lift (AAK ho h) (λ_ h=>h)
 case field ty x f=>exact lift (A4T hG ho h) (λ_ h=>h)
 case index ty x i=>exact lift (AAL hG ho h) (λ_ h=>h)
 case nilCheck x=>exact lift (AAM ho h) (λ_ h=>h)
 case build ty parts=>exact lift (A50 hG ho h) (λ_ h=>h)
 case buildSlice ty len parts=>obtain⟨r,d,h1,h2⟩:=A4Z hG ho h;exact⟨r,d,h1,h2,λh=>by cases h⟩
 case makeSlice ty x y=>obtain⟨r,d,h1,h2⟩:=A4Y hG ho h;exact⟨r,d,h1,h2,λh=>by cases h⟩
 case alloc ty=>
  split at h
  · rename_i e he;exact⟨_,_,h,Yr hG ho he,λh=>by cases h⟩
  exact h.elim
 case box ty x=>exact⟨_,_,h.2,AAO ho h.1,λh=>by cases h⟩
 case makeFunc fn first cap=>
  unfold Uy at h;split at h
  · rename_i f AAR;refine⟨_,none,h,NN.pure λH' hH L Av w ρ hs DU=>?_,λ_=>rfl⟩;have h0:first=#[]:=by apply FL;simpa using AAR
    subst h0;refine⟨.func (.func f) #[] (cap.map ρ),by simp[execOp,ho,Instr.makeFunc],.f _ _ _ B5 ?_⟩;intro k x hk;simp only[BF,CG,CE]at hk;obtain⟨y,h1,h2⟩:=hk;have hm:y∈o.op.operands:=by
     rw[ho];simp only[Op.operands,JB];exact .inr (KQ h1)
    have:=DU y hm;rw[<-h2];simpa[h1]using this
  exact h.elim
 case call c=>
  obtain⟨callee,args,NJ⟩:=c;cases callee with
  | builtin b=>
    cases b<;>simp only at h<;>try exact h.elim
    ·split at h
     ·rename_i x ty tl ha eD;have dY:args=#[x]:=by apply FL;simpa using ha
      subst dY;have Jp:NJ[0]? =some ty:=by rw[<-CE,eD];rfl
      exact lift (Yp hG ho Jp h) (λ_ h=>h)
     exact h.elim
    split at h
    ·rename_i x ty tl ha eD;have dY:args=#[x]:=by apply FL;simpa using ha
     subst dY;have Jp:NJ[0]? =some ty:=by rw[<-CE,eD];rfl
     exact lift (Yo hG ho Jp h) (λ_ h=>h)
    ·exact h.elim
    split at h
    ·rename_i x y ha;have dY:args=#[x,y]:=by apply FL;simpa using ha
     subst dY;exact lift (A4U ho h) (λ_ h=>h)
    ·exact h.elim
    split at h
    ·rename_i x y ha;have dY:args=#[x,y]:=by apply FL;simpa using ha
     subst dY;exact lift (A4V ho h) (λ_ h=>h)
    exact h.elim
  |invoke r m=>exact h.elim
  | value fo=>
    cases fo<;>simp only at h<;>try exact h.elim
    ·rename_i n;unfold fnV at h;split at h
     ·rename_i f cs hv;obtain⟨r,hr,hk⟩:=h;refine⟨r,none,hk,?_,λ_=>rfl⟩;intro H' hH L Av w ρ hs Ed hL hi DU;obtain⟨he,O7⟩:=hr.run hH;have hx:=DU (.tmp n) (by rw[ho];simp[Op.operands,Call.operands]);rw[hv]at hx;obtain⟨us,hf,Xh⟩:=hx.Eh;have h1:=fW he ho hf w;have h2:=O7 L Av w _ hs Ed ((s6 ho DU).append Xh);unfold QV;rw[h1];exact h2.mono λe w' ⟨u,h3,h4,h5,h6⟩=>⟨u,h3,r,H',L,⟨rfl,rfl⟩,λ_ _=>rfl,h4,h5,h6⟩
     exact h.elim
    rename_i f;obtain⟨r,hr,hk⟩:=h;refine⟨r,none,hk,?_,λ_=>rfl⟩;intro H' hH L Av w ρ hs Ed hL hi DU;obtain⟨he,O7⟩:=hr.run hH;have hf:ρ (.func f)= .func (.func f) #[] #[]:=(DU (.func f) (by rw[ho];simp[Op.operands,Call.operands])).AAQ;have h1:=lJ he ho hf w;have h2:=O7 L Av w _ hs Ed (zN ho DU);unfold QV;rw[h1];exact h2.mono λe w' ⟨u,h3,h4,h5,h6⟩=>⟨u,h3,r,H',L,⟨rfl,rfl⟩,λ_ _=>rfl,h4,h5,h6⟩
def Zc{P Γ}(hG:U2 P Γ){o t H id k}(h:eC Γ P o.op t H id k):∃r d,k r d/\NN P o (FK t) H id r d:=
 let ⟨r,d,h1,h2,_⟩:=qN hG h
 ⟨r,d,h1,h2⟩
end
section
section
variable{P:Program}{Γ:KT}{o:Oper}{ev:Operand->AV}{H:HP}{id:Nat}{L:LM}{w:World}{M:Nat->Prop}
def R.g2{a b x y}(h1:R L w M a x)(h2:R L w M b y):R L w M (.g [a,b]) (.agg #[x,y]):=by
 refine .g _ _ rfl λk z hk=>?_
 match k,hk with
 |0,hk=>cases hk;exact h1
 |1,hk=>cases hk;exact h2
def R.t2{a b x y}(h1:R L w M a x)(h2:R L w M b y):R L w M (.t [a,b]) (.tuple #[x,y]):=by
 refine .t _ _ rfl λk z hk=>?_
 match k,hk with
 |0,hk=>cases hk;exact h1
 |1,hk=>cases hk;exact h2
def Nt(hG:U2 P Γ){ty x i}(ho:o.op= .index ty x i){k}(h:zL Γ ty (ev x) (ev i) k):Us P o ev H id λr H'=>k r/\H'=H:=by
 intro L Av w ρ hs Ed hL hi DU;unfold zL at h;split at h
 ·rename_i e s kk n he hx hn;obtain⟨h0,h1,h2,h⟩:=h;have hu:=DU x (by rw[ho];simp[Op.operands]);have hv:=DU i (by rw[ho];simp[Op.operands]);rw[hx]at hu;rw[hn]at hv;obtain⟨d,g1,_,g2⟩:=(hG ty e he).KC;have g3:=fJ (g1.trans h0);subst g3;have h4:n.toNat<s.size:=A0;have h5:s[n.toNat]? =some (s.data.getD n.toNat 0):=by
   rw[getElem?_pos s n.toNat h4];congr 1
   have h6:n.toNat<s.data.size:=h4;rw[BC,D1 h6];rfl
  refine .OV (u:= .int .u8 ((s.data.getD n.toNat 0).toNat:Int)) (w':=w) ?_ ⟨_,H,L,⟨h,rfl⟩,λ_ _=>rfl,hs,Step.refl _ _ _,.i _ _⟩;simp only[execOp,ho,Instr.index,asIntOf,hu.nY,hv.OG,Sem.run_bind,Sem.run_pure,Result.andThen_ok,g2,h1,if_true,h5]
 exact h.elim
def Js(xs:List AV):C2:=xs.map fun| .i _ n=>n|_=>0
def Nu{ns}:Js (ns.map (AV.i .u8))=ns:=by
 unfold Js;rw[GN];conv=>rhs;rw[<-List.map_id ns]
 rfl
def bys(x:ByteArray):List AV:=x.data.toList.map λb=> .i .u8 (b.toNat:Int)
def Nv(x):(bys x).length=x.size:=by rw[bys,A4,EP];rfl
def Zd(Γ:KT)(H:HP)(src dst:TypeId)(x:AV)(k:AV->Prop):Prop:=
 match x with
 |.i kd n=>cop Γ src dst (.i kd n) k
 |.s x=>match Γ src,Γ dst with
  | some e,some ed=>e.d= .str/\match ed.d with
    | .str=>k (.s x)
    | .slice el=>match Γ el with
      |some ee=>ee.d= .int .u8/\k (.v x.size (bys x))
      |none=>False
    |_=>False
  |_,_=>False
 |y =>match Γ src,Γ dst with
  | some e,some ed=>ed.d= .str/\match e.d with
    | .slice el=>match Γ el with
      |some ee=>ee.d= .int .u8/\Up (vw H y) λxs=>xs=(Js xs).map (AV.i .u8)/\k (.s (strOfNums (Js xs)))
      |none=>False
    |_=>False
  |_,_=>False
def Nw(hG:U2 P Γ){src dst x}(ho:o.op= .convert src dst x){k}(h:Zd Γ H src dst (ev x) k):Us P o ev H id λr H'=>k r/\H'=H:=by
 intro L Av w ρ hs Ed hL hi DU;have hu:=DU x (by rw[ho];simp[Op.operands]);unfold Zd at h;split at h
 ·rename_i kd n hx;obtain⟨r,h1,h2⟩:=No hG h;rw[hx]at hu;obtain⟨z,h3,h4⟩:=h2 L w _ _ hu;exact .OV (u:=z) (w':=w) (by simp[execOp,ho,h3]) ⟨_,H,L,⟨h1,rfl⟩,λ_ _=>rfl,hs,Step.refl _ _ _,h4⟩
 ·rename_i xs hx;rw[hx]at hu;have WU:=hu.nY;split at h
  ·rename_i e ed he hed;obtain⟨hd,h⟩:=h;obtain⟨d1,g1,g1b,g1c⟩:=(hG src e he).KC;obtain⟨d2,g2,g2b,g2c⟩:=(hG dst ed hed).KC;have e1:=fJ (g1.trans hd);subst e1;split at h
   ·rename_i hel;have e2:=fJ (g2.trans hel);subst e2;refine .OV (u:= .string xs) (w':=w) ?_ ⟨_,H,L,⟨h,rfl⟩,λ_ _=>rfl,hs,Step.refl _ _ _,.s _⟩;simp[execOp,ho,WU,convert,g1c,g2c]
   ·rename_i el hel;split at h
    ·rename_i ee wT;obtain⟨h0,h⟩:=h;obtain⟨d3,g3,g3b,_⟩:=(hG el ee wT).KC;have e2:=SQ (g2.trans hel);have e3:=Jl (g3.trans h0);subst e2 e3;have O7:=run_bytes_of_string (P:=P) w src dst el xs g1b g2b g3b;generalize rU:grownCap w xs.size 0 el=cp at O7
     have M4:Step L DD w L DD (w.drew.alloc (.cells (bytesRow xs cp) el ((bytesRow xs cp).size,(bytesRow xs cp).size+1))):=
      (Step.drew _ _ _).trans (Step.Ea _ (λ_ _ h=>h) (λ_ _ h=>h))
     have hkp:=hs.kept M4;refine .OV (u:= .slice (some ⟨w.heap.size,0,none⟩) xs.size cp) (w':=w.drew.alloc (.cells (bytesRow xs cp) el ((bytesRow xs cp).size,(bytesRow xs cp).size+1))) ?_ ⟨_,H,L,⟨h,rfl⟩,λ_ _=>rfl,hkp.1,hkp.2,?_⟩
     ·simp[execOp,ho,WU,O7]
     have s7:(w.drew.alloc (.cells (bytesRow xs cp) el ((bytesRow xs cp).size,(bytesRow xs cp).size+1))).heap[w.heap.size]? =some (.cells (bytesRow xs cp) el ((bytesRow xs cp).size,(bytesRow xs cp).size+1)):=heap_alloc_new w.drew _;have hle:xs.size<=cp:=by rw[<-rU];simp[grownCap,Question.cut]
     refine .v _ _ w.heap.size 0 cp (bytesRow xs cp) el _ (λk=> .int .u8 (((xs.data.getD k 0).toNat:Nat):Int)) (λhM=>RE _ (Ns hs _ hM)) s7 hle ?_ ?_
     ·intro k hk;rw[Nv]at hk;have Y8:k<xs.data.size:=hk;simp only[bytesRow,BS,BC];rw[Array.getElem?_append_left (by rw[Array.size_map];exact Y8),Array.getElem?_map,D1 Y8];rfl
     intro k y hy;have hk:=(AL.1 hy).1;rw[Nv]at hk;have Y8:k<xs.data.size:=hk;simp only[bys,BF,CG]at hy;obtain⟨bb,UK,rfl⟩:=hy;have:xs.data.getD k 0=bb:=by
      rw[CE,D1 Y8]at UK;cases UK;rw[BC,D1 Y8];rfl
     rw[this];exact .i _ _
    exact h.elim
   exact h.elim
  exact h.elim
 split at h
 ·rename_i e ed he hed;obtain⟨hd,h⟩:=h;split at h
  ·rename_i el hel;split at h
   ·rename_i ee wT;obtain⟨h0,xs,hv,hxs,h⟩:=h;obtain⟨d1,g1,g1b,_⟩:=(hG src e he).KC;obtain⟨d2,g2,g2b,_⟩:=(hG dst ed hed).KC;obtain⟨d3,g3,g3b,_⟩:=(hG el ee wT).KC;have e1:=SQ (g1.trans hel);have e2:=fJ (g2.trans hd);have e3:=Jl (g3.trans h0);subst e1 e2 e3;obtain⟨a,n,cp,AAS,hn,us,zO,O7,c8⟩:=rX (P:=P) hs hu hv;refine .OV (u:= .string (strOfNums (Js xs))) (w':=w) ?_ ⟨_,H,L,⟨h,rfl⟩,λ_ _=>rfl,hs,Step.refl _ _ _,.s _⟩;have Xh:us=(Js xs).map (Value.int .u8):=by
     apply C7;intro i;rcases BL i xs.length with hi|hi
     ·have hy:xs[i]? =some (xs[i]):=A9 hi;obtain⟨c,c1,c2⟩:=c8 i _ hy;have h5:xs[i]? =((Js xs).map (AV.i .u8))[i]? :=congrArg (λl=>l[i]?) hxs;have X5:(Js xs).length=xs.length:=by simp[Js]
      rw[BF,A9 (show i<(Js xs).length by omega),hy]at h5;simp only[DB,E4]at h5;rw[h5]at c2;rw[c1,c2.OG,BF,A9 (show i<(Js xs).length by omega)];rfl
     rw[B8 A0,B8 (by simp[Js];omega)]
    have hr:=O7 w rfl;rw[Xh,AAS]at hr;cases a with
    |none=>
     have hb:Js xs=[]:=by
      simp only[Builtin.firstCells,Sem.run_pure,Result.ok.injEq]at hr;have:=congrArg Array.toList hr.1;simpa using this.symm
     have h6:=run_convert_bytes_nil (P:=P) w src el g1b g3b n cp dst g2b;simp only[execOp,ho,AAS,hb,h6,Sem.run_bind,Sem.run_pure,Result.andThen_ok];rfl
    |some a=>
     have hl:(loadCells a n).run P w= .ok ((Js xs).map (Value.int .u8)).toArray w:=by
      simpa[Builtin.firstCells]using hr
     have h6:=run_convert_bytes_string (P:=P) w src dst el (some a) n cp g1b g3b g2b;have h7:=run_bytesToString w a n cp _ hl;rw[h7,foldl_push_bytes]at h6;simp only[execOp,ho,AAS,h6,Sem.run_bind,Sem.run_pure,Result.andThen_ok];simp[strOfNums,ByteArray.empty,ByteArray.emptyWithCapacity];rfl
   exact h.elim
  exact h.elim
 exact h.elim
def cpop(Γ:KT)(H:HP)(t1:TypeId)(x y:AV)(k:AV->HP->Prop):Prop:=
 match Γ t1,x with
 | some e,.h i off n=>match e.d with
   | .slice el=>match Γ el with
     |some ee=>ee.size=1/\Up (H i) λcs=>off+n<=cs.length/\Up (vw H y) λxs=>(∀z∈xs,one z=true)/\k (.i .i64 ((min xs.length n:Nat):Int)) (CJ H i (some (DH cs off (xs.take n))))
     |none=>False
   |_=>False
 |_,_=>False
def Jt{Av}(hs:SR L H Av w){y u}(hu:R L w (MM L H Av) y u){xs}(hx:vw H y=some xs)(m)(hm:m<=xs.length):
    ∃us:List Value,us.length=m/\(Builtin.firstCells 1 m u).run P w= .ok us.toArray w/\∀(k:Nat) (y:AV),(xs.take m)[k]? =some y->∃c,us[k]? =some c/\R L w (MM L H Av) y c:=by
  have key:∀(y':AV) (u':Value),R L w (MM L H Av) y' u'->vw H y'=some (xs.take m)->(Builtin.firstCells 1 m u').run P w=(Builtin.firstCells 1 m u).run P w->∃us:List Value,us.length=m/\(Builtin.firstCells 1 m u).run P w= .ok us.toArray w/\∀(k:Nat) (y:AV),(xs.take m)[k]? =some y->∃c,us[k]? =some c/\R L w (MM L H Av) y c:=by
    intro y' u' WU hv' hf;obtain⟨a,n,cp,e1,e2,us,e3,e4,e5⟩:=rX (P:=P) hs WU hv';have hl:(xs.take m).length=m:=by simp;omega
    refine⟨us,A0,?_,e5⟩;rw[<-hf,show m=n by omega];exact e4 w rfl
  unfold vw at hx;split at hx
  · rename_i n cs;split at hx
    · rename_i hlen;cases hx;cases hu with
      | v0 a cp=>
        have:m=0:=by simpa using hm
        subst this;exact key (.v 0 []) (.slice a 0 cp) (.v0 a cp) (by simp[vw]) rfl
      | v _ _ b off cp arr e f us hM hb hn hu hr=>
        exact key (.v m (xs.take m)) (.slice (some ⟨b,off,none⟩) m cp) (.v m _ b off cp arr e f us hM hb A0 (λk hk=>hu k (by simp at hk;omega)) (λk x hk=>hr k x (by
          rw[D9]at hk;split at hk
          · exact hk
          cases hk))) (by simp[vw,hm]) rfl
    cases hx
  · rename_i i off n;cases hc:H i with
    |none=>rw[hc]at hx;cases hx
    | some cs=>
      rw[hc]at hx;simp only at hx
      split at hx
      · rename_i hlen;cases hx;simp only[B1,CC]at hm;cases hu with
        | h _ _ _ l' a cp TT hn wV ha h0=>
          exact key (.h i off m) (.slice (some a) m cp) (.h _ _ _ l' a cp TT A0 wV ha h0) (by
            simp only[vw,hc];rw[if_pos A0,NH,EF A0]) rfl
      cases hx
  · cases hx;have:m=0:=by simpa using hm
    subst this;exact key .nl u hu (by simp[vw]) rfl
  cases hx
def Nx(hG:U2 P Γ){x y t1 NJ}(ho:o.op= .call ⟨.builtin .copy,#[x,y],NJ⟩)(ht1:NJ[0]? =some t1){k}(h:cpop Γ H t1 (ev x) (ev y) k):Us P o ev H id k:=by
 intro L Av w ρ hs Ed hL hi DU;unfold cpop at h;split at h
 ·rename_i e i off n he hx;split at h
  ·rename_i el hd;split at h
   ·rename_i ee wT;obtain⟨h1,cs,hc,h2,xs,hxs,h3,h⟩:=h;have hu:=DU x (by rw[ho];simp[Op.operands,Call.operands]);have hv:=DU y (by rw[ho];simp[Op.operands,Call.operands]);rw[hx]at hu;have u1:=((hG t1 e he).slice hd).2;have u2:=(hG el ee wT).K3;rw[h1]at u2;obtain⟨us,g1,g2,g3⟩:=Jt (P:=P) hs hv hxs (min xs.length n) (Nat.min_le_left _ _);obtain⟨a',n',cp',f1,f2,_⟩:=rX (P:=P) hs hv hxs;have cZ:(Builtin.lenOf (ρ y)).run P w= .ok xs.length w:=by rw[f1,<-f2];rfl
    have YA:xs.take (min xs.length n)=xs.take n:=by rw[List.take_eq_take_iff];omega
    rw[YA]at g3;obtain⟨l,hl,JO⟩:=hs.node i cs hc;generalize hρ:ρ x=ux at hu
    cases hu with
    |h _ _ _ l' a cp TT hn wV ha h0=>
     rw[hl]at TT;cases TT;obtain⟨arr,et,e2,e3,e4,e5⟩:=JO.ex h0;have RJ:∀v∈us,v.oneCell'=true:=by
      intro v hv';obtain⟨j,hj,hjv⟩:=GX hv';have l6:j<(xs.take n).length:=by simp;omega
      obtain⟨c,q1,q2⟩:=g3 j _ (A9 l6);have hcv:c=v:=by
       rw[A9 hj,hjv]at q1;exact(F5 q1).symm
      rw[<-hcv];exact(UB q2 (h3 _ (GO (BK l6)))).2
     have hlen:(xs.take n).length=us.length:=by simp;omega
     have M4:(storeCells a us).run P w= .ok () (J3 w l.IY (.cells (arr.toList.take (l.off+off)++us++arr.toList.drop (l.off+off+us.length)).toArray et (0,0))):=by
      by_cases rU:cp=0
      ·have h9:us=[]:=by rw[<-AX];omega
       subst h9;have:(arr.toList.take (l.off+off)++[]++arr.toList.drop (l.off+off+([]:List Value).length)).toArray=arr:=B5;rw[this,y9 e2];simp[storeCells]
      have:=fP (P:=P) (w:=w) (g:=l.IY) (o:=l.off+off) us e2 A0 RJ;rw[ha.resolve_left rU];exact this
     obtain⟨q1,q2⟩:=c9 hs hc hl (.inl ⟨rfl,rfl⟩) rfl h0 (arr.toList.take (l.off+off)++us++arr.toList.drop (l.off+off+us.length)).toArray et (DH cs off (xs.take n)) (by simp;omega) (by rw[fR A0];exact e4) (by
      intro k x hk;rw[SX cs off _ A0]at hk;rw[fQ arr _ _ A0];split at hk
      ·rename_i wV;rw[if_pos ⟨A0,A0⟩];obtain⟨c,e14,e15⟩:=g3 (k-off) x hk;exact⟨c,by rw[show l.off+k-(l.off+off)=k-off by omega];exact e14,e15⟩
      rename_i wV;rw[if_neg A0];exact e5 k x hk)
     rw[zG L hl,cA]at q1 q2;refine .OV (u:= .int .i64 ((min xs.length n:Nat):Int)) (w':=J3 w l.IY (.cells (arr.toList.take (l.off+off)++us++arr.toList.drop (l.off+off+us.length)).toArray et (0,0))) ?_ ⟨_,_,L,h,λ_ _=>rfl,q1,q2,.i _ _⟩;have AGQ:(Builtin.copy_ NJ o.type #[.slice (some a) n cp,ρ y]).run P w= .ok (.int .i64 ((min xs.length n:Nat):Int)) (J3 w l.IY (.cells (arr.toList.take (l.off+off)++us++arr.toList.drop (l.off+off+us.length)).toArray et (0,0))):=by
      unfold Builtin.copy_;have g2':(Builtin.firstCells 1 (Nat.min xs.length n) (ρ y)).run P w= .ok us.toArray w:=g2;simp only[ht1,CO,DT,GV,Sem.run_bind,u1,Result.andThen_ok,Sem.run_pure,cZ,u2,g2',M4];rfl
     simp only[execOp,ho,resolve,invoke,builtin,Sem.run_bind,Sem.run_pure,Result.andThen_ok,List.map_toArray,BR,BU,hρ,AGQ]
   exact h.elim
  exact h.elim
 exact h.elim
end
end
section
structure Ctx where
 rd:Option Nat
 rf:Bool
 nx0:Nat
 L0:LM
 H0:HP
 w0:World
 Av:Nat->Prop
def DF(cX:Ctx)(ds:List Deferred)(w:World):Prop:=oR cX.w0.heap.size ds w/\(cX.rf=false->ds=[])
def DF.step{cX L L' H H' Av w w' ds}(h:DF cX ds w)(s:SR L H Av w)(st:Step L H w L' H' w'):DF cX ds w':=⟨h.1.step s st,h.2⟩
def DF.same{cX w w' ds}(h:DF cX ds w)(hw:w'.heap=w.heap):DF cX ds w':=⟨h.1.same hw,h.2⟩
def dfp{cX ds ds' w}(h1:ds'=ds)(h:DF cX ds w):DF cX ds' w:=by rw[h1];exact h
def DF.nil{cX w}:DF cX [] w:=⟨trivial,λ_=>rfl⟩
structure Cn(cX:Ctx)(s:St)(L:LM)(a:Act)(w:World):Prop where
 df:DF cX a.defers w
 sz:a.tmps.size=s.t.length
 sl:∀(k:Nat) (x:AV),s.t[k]? =some x->R L w (MM L s.H cX.Av) x (a.tmps.getD k undef)
 sr:SR L s.H cX.Av w
 fr:∀i,s.nx<=i->L i=none
 nx:cX.nx0<=s.nx
 lo:∀i,i<cX.nx0->L i=cX.L0 i
 st:Step cX.L0 cX.H0 cX.w0 L s.H w
def Cn.ev{cX s L a w}(c:Cn cX s L a w)(x):R L w (MM L s.H cX.Av) (FK s.t x) (a.eval x):=by
 cases x with
 | tmp n=>
   simp only[FK,Act.eval];by_cases hn:n<s.t.length
   ·have:=c.sl n s.t[n] (A9 hn);simpa[hn]using this
   have hle:s.t.length<=n:=JC hn;have:s.t.getD n .j= .j:=by rw[A5,B8 hle];rfl
   rw[this];exact .j _
 |const v=>exact R.Nl _ _ _ _
 |global g=>exact .c _
 |func f=>exact .f _ _ #[] rfl B5
def EX(t:List AV)(d:Option Nat)(x:AV):List AV:=
 match d with
 |some d=>t.set d x
 |none=>t
def SY{L:LM}{w:World}{M:Nat->Prop}{t:List AV}{a:Act}(hs:a.tmps.size=t.length)(hr:∀(k:Nat) (x:AV),t[k]? =some x->R L w M x (a.tmps.getD k undef))(d:Option Nat){x:AV}{u:Value}(hx:R L w M x u):
    (a.put d u).defers=a.defers/\(a.put d u).tmps.size=(EX t d x).length/\∀(k:Nat) (y:AV),(EX t d x)[k]? =some y->R L w M y ((a.put d u).tmps.getD k undef):=by
  cases d with
  |none=>exact⟨rfl,hs,hr⟩
  | some d=>
    refine⟨rfl,by simp[Act.put,EX,hs],?_⟩;intro k y hk;simp only[EX,CL]at hk;simp only[Act.put,BC,GU];split at hk
    · rename_i Ny;subst Ny;split at hk
      · rename_i HX;cases hk;simp[hs,HX,hx]
      cases hk
    rename_i Ny;simp only[Ny,if_false];have:=hr k y hk;simpa using this
def AW(cX:Ctx)(P:Program)(c:Code)(s:St)(K:Exit->St->Prop):Prop:=
  ∀ (L:LM) (a:Act) (w:World) (Q:Exit->Act->World->Prop),Cn cX s L a w->
    (∀e s' L' a' w',K e s'->Cn cX s' L' a' w'->Q e a' w')->c.wpIn (fw cX.rd) 0 P Q a w
variable{cX:Ctx}
def AW.mono{P c s K K'}(h:AW cX P c s K)(hk:∀e s',K e s'->K' e s'):AW cX P c s K':=
 λL a w Q hc hQ=>h L a w Q hc (λe s' L' a' w' k=>hQ e s' L' a' w' (hk e s' k))
def AF{P s K}(h:K .normal s):AW cX P .skip s K:=λ_ _ _ _ hc hQ=>wpIn_skip (hQ _ _ _ _ _ h hc)
def DQ{P s K}(h:K .ret s):AW cX P .ret s K:=λ_ _ _ _ hc hQ=>wpIn_ret (hQ _ _ _ _ _ h hc)
def AO{P s n K}(h:K (.exit n) s):AW cX P (.exit n) s K:=λ_ _ _ _ hc hQ=>wpIn_exit (hQ _ _ _ _ _ h hc)
def wW(K:Exit->St->Prop)(next:St->Prop):Exit->St->Prop
 | .normal,s=>next s
 |e,s=>K e s
def A6{P x y s K}(h:∀N:St->Prop,(∀s',AW cX P y s' K->N s')->AW cX P x s (wW K N)):AW cX P (.seq x y) s K:=by
 intro L a w Q hc hQ;refine wpIn_seq (h _ (λ_ h=>h) L a w _ hc ?_);intro e s' L' a' w' hk VJ;cases e<;>simp only[wW,Exit.then]at hk ⊢
 case normal=>exact hk L' a' w' Q VJ hQ
 all_goals exact hQ _ _ _ _ _ hk VJ
def MG{P c x y s z K}(hc:FK s.t c= .b z)(ht:z=true->AW cX P x s K)(hf:z=false->AW cX P y s K):AW cX P (.cond c x y) s K:=by
 intro L a w Q MC hQ;have:=MC.ev c;rw[hc]at this;exact wpIn_cond_split this.nX (λh=>ht h L a w Q MC hQ) (λh=>hf h L a w Q MC hQ)
def IY(K:Exit->St->Prop)(id:Nat):Exit->St->Prop
 | .exit id',s=>if id'=id then K .normal s else K (.exit id') s
 |e,s=>K e s
def AA{P id c s K}(h:AW cX P c s (IY K id)):AW cX P (.block id c) s K:=by
 intro L a w Q hc hQ;refine wpIn_block (h L a w _ hc ?_);intro e s' L' a' w' hk VJ;cases e<;>simp only[IY,Exit.inBlock]at hk ⊢
 case exit id'=>
  split at hk
  ·rename_i GF;rw[if_pos GF];exact hQ _ _ _ _ _ hk VJ
  rename_i GF;rw[if_neg GF];exact hQ _ _ _ _ _ hk VJ
 all_goals exact hQ _ _ _ _ _ hk VJ
def EN(x y:AV):Prop:=y= .j\/x=y\/(x= .nl/\y= .v 0 [])
def EJ:List AV->List AV->Prop
 |[],[]=>True
 |x::xs,y::ys=>EN x y/\EJ xs ys
 |_,_=>False
def Wk(s s':St):Prop:=EJ s.t s'.t/\(∀id cs,s'.H id=some cs->s.H id=some cs)/\s.nx<=s'.nx
def A53:∀{xs ys:List AV},EJ xs ys->ys.length=xs.length/\∀(k:Nat) (y:AV),ys[k]? =some y->∃x,xs[k]? =some x/\EN x y:=by
 intro xs;induction xs with
 |nil=>intro ys h;cases ys with|nil=>exact⟨rfl,B5⟩|cons=>exact h.elim
 | cons x xs ih=>
   intro ys h;cases ys with
   |nil=>exact h.elim
   | cons y ys=>
     obtain⟨h1,h2⟩:=ih h.2;refine⟨by simp[h1],?_⟩;intro k z hk;cases k with
     |zero=>simp at hk;subst hk;exact⟨x,rfl,h.1⟩
     |succ k=>exact h2 k z (by simpa using hk)
def lK{L H H'}(h:∀id cs,H' id=some cs->H id=some cs){b}:LB L H' b->LB L H b:=
 λ⟨id,cs,l,h1,h2,h3⟩=>⟨id,cs,l,h id cs h1,h2,h3⟩
def SR.sub{L H H' Av w}(s:SR L H Av w)(h:∀id cs,H' id=some cs->H id=some cs):SR L H' Av w:=by
 refine⟨?_,λi i' c c' l l' h1 h2=>s.inj i i' c c' l l' (h _ _ h1) (h _ _ h2),λi c l h1=>s.av i c l (h _ _ h1),s.cW⟩;intro id cs GF;obtain⟨l,h1,JO⟩:=s.node id cs (h _ _ GF);exact⟨l,h1,JO.mono rfl λk x hk u h7=>h7.mono (λ_ _ h=>h) (λ_ _ _=>rfl) (λb _ hb=>Or.elim hb .inl (λhl=> .inr (lK h hl)))⟩
def Cn.wk{cX s s' L a w}(c:Cn cX s L a w)(h:Wk s s'):Cn cX s' L a w:=by
 obtain⟨h1,h2,h3⟩:=h;obtain⟨h4,h5⟩:=A53 h1;have hm:∀{x:AV} {u:Value},R L w (MM L s.H cX.Av) x u->R L w (MM L s'.H cX.Av) x u:=
  λhr=>hr.mono (λ_ _ h=>h) (λ_ _ _=>rfl) (λb _ hb=>Or.elim hb .inl (λhl=> .inr (lK h2 hl)))
 refine⟨c.df,by rw[c.sz,h4],?_,c.sr.sub h2,λi hi=>c.fr i A0,by have:=c.nx;omega,c.lo,?_⟩
 ·intro k y hk;obtain⟨x,h6,h7⟩:=h5 k y hk;have h8:=c.sl k x h6;rcases h7 with rfl|rfl|⟨rfl,rfl⟩
  ·exact .j _
  ·exact hm h8
  rw[h8.Q1];exact .v0 _ _
 exact⟨c.st.le,c.st.os,c.st.tape,c.st.output,c.st.size,c.st.BV,λb hb hl=>c.st.old b hb (lK h2 hl)⟩
def oU{F n0 P c Q}(I:Nat->Act->World->Prop)(round:∀n a w,I n a w->c.wpIn F n0 P (Exit.then (λa' w'=>∃m,m<n/\I m a' w') Q) a w)(n:Nat)(a:Act)(w:World)(hI:I n a w):(Code.loop c).wpIn F n0 P Q a w:=by
 refine wpIn_loop_rounds (n+1) ?_;have key:∀m n a w,n<m->I n a w->Code.roundsIn F n0 P c Q m a w:=by
  intro m;induction m with
  |zero=>intro n a w h;omega
  | succ m ih=>
    intro n a w hn hI;unfold Code.roundsIn;refine wpIn_mono (round n a w hI) ?_;intro e a' w' h;cases e<;>simp only[Exit.then]at h ⊢
    case normal=>
     obtain⟨k,hk,hI'⟩:=h;exact ih k a' w' A0 hI'
    all_goals exact h
 exact key (n+1) n a w A0 hI
def AW.loop{P c s K}{α:Type}(S:α->St)(I:α->Prop)(μ:α->Nat)(x0:α)(h0:I x0)(hw:Wk s (S x0))(round:∀x,I x->AW cX P c (S x) (wW K λs'=>∃y,Wk s' (S y)/\I y/\μ y<μ x)):AW cX P (.loop c) s K:=by
 intro L a w Q hc hQ;refine oU (λn a w=>∃x L,μ x=n/\I x/\Cn cX (S x) L a w) ?_ (μ x0) a w ⟨x0,L,rfl,h0,hc.wk hw⟩;rintro n a w ⟨x,L,rfl,hI,MC⟩;refine round x hI L a w _ MC ?_;intro e s' L' a' w' hk VJ;cases e<;>simp only[wW,Exit.then]at hk ⊢
 case normal=>
  obtain⟨y,h1,h2,h3⟩:=hk;exact⟨μ y,h3,y,L',rfl,h2,VJ.wk h1⟩
 all_goals exact hQ _ _ _ _ _ hk VJ
end
section
def gop(ops:List Oper)(g:Option (Nat×Bool))(t:List AV)(yes no:List AV->Prop):Prop:=
 match g with
 |none=>yes t
 | some (j,want)=>match (ops[j]?).bind (·.dst)with
   | some d=>match t[d]? with
     |some (.b x)=>J5 x want (yes (t.set d (.b want))) (no (t.set d (.b (!want)))) (.mk _) (.mk _)
     |some (.c (.tuple _))=>no t
     |_=>False
   |none=>False
structure AAT(n:Nat)(t f:Prop):Prop where
 t:n=0->t
 f:f
def Ej(Γ:KT)(op:BinOp)(ty:TypeId)(x y:AV)(k:AV->Prop):Prop:=
 match op,x,y with
 | .eql,.v n _,.nl=>(∃e el,Γ ty=some e/\e.d= .slice el)/\AAT n (k (.b true)) (k (.b false))
 | .neq,.v n _,.nl=>(∃e el,Γ ty=some e/\e.d= .slice el)/\AAT n (k (.b false)) (k (.b true))
 |op,x,y=>bop Γ op ty x y k
def Ek{P Γ}(hG:U2 P Γ){o ev H id op ty ty2 x y}(ho:o.op= .binOp op ty x y ty2){k}(h:Ej Γ op ty (ev x) (ev y) k):
    Us P o ev H id λr H'=>k r/\H'=H:=by
  intro L Av w ρ hs Ed hL hi DU;have fin:∀{z:Value} {r:AV},k r->(do eqGuard op ty x y (ρ x) (ρ y);binOp op ty (ρ x) (ρ y):Sem Value).run P w= .ok z w->R L w (MM L H Av) r z->
      QV P o ρ w λu w'=>∃r H' L',(k r/\H'=H)/\(∀i,i≠id->L' i=L i)/\SR L' H' Av w'/\Step L H w L' H' w'/\R L' w' (MM L' H' Av) r u:=by
    intro z r hk h3 h4;refine .OV (u:=z) ?_ ⟨r,H,L,⟨hk,rfl⟩,λ_ _=>rfl,hs,Step.refl _ _ _,h4⟩;simp only[execOp,ho,Sem.run_bind,Sem.run_pure]at h3 ⊢;rw[h3];rfl
  unfold Ej at h;split at h
  · rename_i n cs hx hy;obtain⟨⟨e,el,he,hd⟩,h⟩:=h;have WU:=((hG ty e he).slice hd).1;have h1:=DU x (by simp[ho,Op.operands]);have h2:=DU y (by simp[ho,Op.operands]);rw[hx]at h1;rw[hy]at h2;have J7:=h2.Q1;obtain⟨u,X8⟩:=EK (ρ x);rw[X8]at h1;cases h1 with
    | v0 ad cp=>
      cases ad with
      | none=>
        refine fin (h.t rfl) (z:= .bool true) ?_ (.b _);rw[X8,J7];simp[eqGuard,Lib.run_eql_slice_nil w ty el _ _ _ _ _ WU]
      | some ad=>
        refine fin h.f (z:= .bool false) ?_ (.b _);rw[X8,J7];simp[eqGuard,Lib.run_eql_slice_nil w ty el _ _ _ _ _ WU]
    | v _ _ b off cp arr et ff us hM hb hn hu hr=>
      refine fin h.f (z:= .bool false) ?_ (.b _);rw[X8,J7];simp[eqGuard,Lib.run_eql_slice_nil w ty el _ _ _ _ _ WU]
  · rename_i n cs hx hy;obtain⟨⟨e,el,he,hd⟩,h⟩:=h;have WU:=((hG ty e he).slice hd).1;have h1:=DU x (by simp[ho,Op.operands]);have h2:=DU y (by simp[ho,Op.operands]);rw[hx]at h1;rw[hy]at h2;have J7:=h2.Q1;obtain⟨u,X8⟩:=EK (ρ x);rw[X8]at h1;cases h1 with
    | v0 ad cp=>
      cases ad with
      | none=>
        refine fin (h.t rfl) (z:= .bool false) ?_ (.b _);rw[X8,J7];simp[eqGuard,F7 w ty el _ _ _ _ _ WU]
      | some ad=>
        refine fin h.f (z:= .bool true) ?_ (.b _);rw[X8,J7];simp[eqGuard,F7 w ty el _ _ _ _ _ WU]
    | v _ _ b off cp arr et ff us hM hb hn hu hr=>
      refine fin h.f (z:= .bool true) ?_ (.b _);rw[X8,J7];simp[eqGuard,F7 w ty el _ _ _ _ _ WU]
  obtain⟨r,h1,h2⟩:=Nn hG h x y;obtain⟨z,h3,h4⟩:=h2 L w _ _ _ (DU x (by simp[ho,Op.operands])) (DU y (by simp[ho,Op.operands]));exact fin h1 h3 h4
def SZ(Γ:KT)(P:Program)(dst:Option Nat)(op:Op)(id:Nat)(s:St)(K:St->Prop):Prop:=
 match op with
 | .binOp op ty x y _=>Ej Γ op ty (FK s.t x) (FK s.t y) λr=>K ⟨EX s.t dst r,s.H,s.nx⟩
 | .store ty x y=>stop Γ s.H ty (FK s.t x) (FK s.t y) λr H'=>K ⟨EX s.t dst r,H',s.nx⟩
 | .call ⟨.builtin .append,args,NJ⟩=>match args.toList,NJ.toList with
   |[x,y],[t1,t2]=>Yx Γ s.H t1 t2 (FK s.t x) (FK s.t y) id λr H'=>K ⟨EX s.t dst r,H',s.nx⟩
   |_,_=>False
 | .call ⟨.value (.func f),args,_⟩=>AC P f s.nx s.H (args.toList.map (FK s.t)) λDI H' r=>K ⟨EX s.t dst r,H',DI⟩
 | .call ⟨.value (.tmp n),args,_⟩=>fnV (FK s.t (.tmp n)) λf cs=>AC P f s.nx s.H (args.toList.map (FK s.t)++cs) λDI H' r=>K ⟨EX s.t dst r,H',DI⟩
 | .index ty x i=>zL Γ ty (FK s.t x) (FK s.t i) λr=>K ⟨EX s.t dst r,s.H,s.nx⟩
 | .convert sty dty x=>Zd Γ s.H sty dty (FK s.t x) λr=>K ⟨EX s.t dst r,s.H,s.nx⟩
 | .call ⟨.builtin .copy,args,NJ⟩=>match args.toList,NJ.toList with
   |[x,y],t1::_=>cpop Γ s.H t1 (FK s.t x) (FK s.t y) λr H'=>K ⟨EX s.t dst r,H',s.nx⟩
   |_,_=>False
 |op=>eC Γ P op s.t s.H id λr d=>K ⟨EX s.t dst r,RI s.H id d,s.nx⟩
def KO(Γ:KT)(P:Program)(ops:List Oper)(base:Nat):List Oper->Nat->St->(St->Prop)->Prop
 |[],_,s,K=>K s
 |o::rest,i,s,K=>gop ops o.guard s.t (λt=>SZ Γ P o.dst o.op (base+i) ⟨t,s.H,s.nx⟩ λs'=>KO Γ P ops base rest (i+1) s' K) (λt=>KO Γ P ops base rest (i+1) ⟨EX t o.dst (.c undef),s.H,s.nx⟩ K)
section
variable{P:Program}{Γ:KT}{cX:Ctx}{s:St}{L:LM}{a:Act}{w:World}
structure Cr(cX:Ctx)(fa fb:Nat)(s:St)(L:LM)(a:Act)(w:World):Prop extends Cn cX s L a w where
 free:∀i,fa<=i->i<fb->L i=none
 hi:fb<=s.nx
 nlo:cX.nx0<=fa
def YG{ops g}(c:Cn cX s L a w){yes no}(h:gop ops g s.t yes no)(o)(ho:o.guard=g):
    (Region.wanted o (yielded ops.toArray a.tmps)=true/\yes s.t)\/(Region.wanted o (yielded ops.toArray a.tmps)=false/\no s.t):=by
  unfold gop at h;split at h
  · exact .inl ⟨by simp[Region.wanted,ho],h⟩
  rename_i j want;split at h
  · rename_i d hd;have hy:yielded ops.toArray a.tmps j=match a.tmps[d]? with|some (.bool b)=>some b|_=>none:=by
      unfold yielded;simp only[CO,hd,Option.bind_some];rfl
    split at h
    · rename_i x hx;have h1:=c.sl d _ hx;have HX:d<a.tmps.size:=by rw[c.sz];exact(AL.1 hx).1
      have h2:a.tmps[d]? =some (.bool x):=by
        have:=h1.nX;simp[HX]at this ⊢;exact this
      rw[h2]at hy;simp only at hy
      have U3:s.t.set d (.b x)=s.t:=by
        apply C7;intro i;rw[CL];split
        · rename_i hi;subst hi;rw[if_pos (AL.1 hx).1,hx]
        rfl
      by_cases Ze:x=want
      · exact .inl ⟨by simp[Region.wanted,ho,hy,Ze],by have:=h.1 Ze;rwa [<-Ze,U3]at this⟩
      have lI:x= !want:=by cases x<;>cases want<;>simp at Ze ⊢
      exact .inr ⟨by simp[Region.wanted,ho,hy,Ze],by have:=h.2 lI;rwa [<-lI,U3]at this⟩
    · rename_i vs hx;have h1:=c.sl d _ hx;have HX:d<a.tmps.size:=by rw[c.sz];exact(AL.1 hx).1
      have h2:a.tmps[d]? =some (.tuple vs):=by
        have:=h1.AGP;simp[HX]at this ⊢;exact this
      rw[h2]at hy;simp only at hy
      exact .inr ⟨by simp[Region.wanted,ho,hy],h⟩
    exact h.elim
  exact h.elim
def Cr.put{lo hi}(c:Cr cX lo hi s L a w)(d){x u}(hx:R L w (MM L s.H cX.Av) x u):Cr cX lo hi ⟨EX s.t d x,s.H,s.nx⟩ L (a.put d u) w:=by
 obtain⟨h1,h2,h3⟩:=SY c.sz c.sl d hx;exact⟨⟨dfp h1 c.df,h2,h3,c.sr,c.fr,c.nx,c.lo,c.st⟩,c.free,c.hi,c.nlo⟩
def Cr.next{lo hi}(c:Cr cX lo hi s L a w)(d){x u L' H' w'}(cZ:lo<hi)(hL:∀i,i≠lo->L' i=L i)(hs:SR L' H' cX.Av w')(st:Step L s.H w L' H' w')(hx:R L' w' (MM L' H' cX.Av) x u):Cr cX (lo+1) hi ⟨EX s.t d x,H',s.nx⟩ L' (a.put d u) w':=by
 obtain⟨h1,h2,h3⟩:=SY (a:=a) c.sz (λk y hk=>(c.sl k y hk).step st) d hx;have h4:=c.hi;have h5:=c.nlo;refine⟨⟨dfp h1 (c.df.step c.sr st),h2,h3,hs,?_,c.nx,?_,c.st.trans st⟩,?_,c.hi,A0⟩
 ·intro i OQ;simp only at OQ;rw[hL i A0];exact c.fr i OQ
 ·intro i OQ;rw[hL i A0];exact c.lo i OQ
 intro i h1 h2;rw[hL i A0];exact c.free i A0 h2
def Cr.skip{lo hi}(c:Cr cX lo hi s L a w):Cr cX (lo+1) hi s L a w:=
 ⟨c.toCn,λi h1 h2=>c.free i A0 h2,c.hi,by have:=c.nlo;omega⟩
def SH{o id hi k}(h:Us P o (FK s.t) s.H id k)(c:Cr cX id hi s L a w)(cZ:id<hi){K Q}(hK:∀r H' L' u w',k r H'->Cr cX (id+1) hi ⟨EX s.t o.dst r,H',s.nx⟩ L' (a.put o.dst u) w'->K (a.put o.dst u) w'):Yh cX.rd P o a w K Q:=by
 have hL:=c.free id (A1 _) cZ;have hH:s.H id=none:=by
  cases hh:s.H id with
  |none=>rfl
  |some cs=>obtain⟨l,h1,_⟩:=c.sr.node id cs hh;rw[hL]at h1;cases h1
 refine(h L cX.Av w a.eval c.sr ⟨_,c.fr⟩ hL hH (λx _=>c.ev x)).wp ?_;rintro u w' ⟨r,H',L',h1,h2,h3,h4,h5⟩;exact hK r H' L' u w' h1 (c.next o.dst cZ h2 h3 h4 h5)
def yA(hG:U2 P Γ){o id hi K'}(h:SZ Γ P o.dst o.op id s K')(c:Cr cX id hi s L a w)(cZ:id<hi){K Q}(hK:∀s' L' a' w',K' s'->Cr cX (id+1) hi s' L' a' w'->K a' w'):Yh cX.rd P o a w K Q:=by
 have gen:∀{K':St->Prop},(eC Γ P o.op s.t s.H id λr d=>K' ⟨EX s.t o.dst r,RI s.H id d,s.nx⟩)->(∀s' L' a' w',K' s'->Cr cX (id+1) hi s' L' a' w'->K a' w')->Yh cX.rd P o a w K Q:=by
  intro K' h hK;obtain⟨r,d,h1,h2⟩:=Zc hG h;refine SH (h2 s.H (λ_ _ h=>h)) c cZ ?_;rintro r' H' L' u w' ⟨rfl,rfl⟩ hc;exact hK _ _ _ _ h1 hc
 have s8:∀(f:FuncId) (xs:List AV) (us:Array Value),AC P f s.nx s.H xs (λDI H' r=>K' ⟨EX s.t o.dst r,H',DI⟩)->S8 L w (MM L s.H cX.Av) xs us->(execOp a.eval o).run P w= .ok (.enter f us) w->Yh cX.rd P o a w K Q:=by
  rintro f xs us ⟨he,O7⟩ ha h1;have h2:=O7 L cX.Av w _ c.sr c.fr ha;have h3:QV P o a.eval w λu w'=>∃r L' DI H',K' ⟨EX s.t o.dst r,H',DI⟩/\s.nx<=DI/\(∀i,DI<=i->L' i=none)/\(∀i,i<s.nx->L' i=L i)/\SR L' H' cX.Av w'/\Step L s.H w L' H' w'/\R L' w' (MM L' H' cX.Av) r u:=by
   unfold QV;rw[h1];exact h2.mono λe w' ⟨u,r,L',DI,H',g1,g2,g3,g4,g5,g6,g7,g8⟩=>⟨u,g1,r,L',DI,H',g2,g3,g4,g5,g6,g7,g8⟩
  refine h3.wp ?_;rintro u w' ⟨r,L',DI,H',g1,g2,g3,g4,g5,g6,g7⟩;obtain⟨q1,q2,q3⟩:=SY (a:=a) c.sz (λk y hk=>(c.sl k y hk).step g6) o.dst g7;have h4:=c.hi;have h5:=c.nlo;have h6:=c.nx;refine hK _ L' _ w' g1 ⟨⟨dfp q1 (c.df.step c.sr g6),q2,q3,g5,g3,by simp only;omega,?_,c.st.trans g6⟩,?_,by simp only;omega,A0⟩
  ·intro i OQ;rw[g4 i A0];exact c.lo i OQ
  intro i h7 h8;rw[g4 i A0];exact c.free i A0 h8
 unfold SZ at h;split at h
 ·rename_i op ty x y ty2 ho;refine SH (Ek hG ho h) c cZ ?_;rintro r H' L' u w' ⟨hk,rfl⟩ hc;exact hK _ _ _ _ hk hc
 ·rename_i ty x y ho;refine SH (Np hG ho h) c cZ ?_;intro r H' L' u w' hk hc;exact hK _ _ _ _ hk hc
 ·rename_i args NJ ho;split at h
  ·rename_i x y t1 t2 ha ht;have dY:args=#[x,y]:=by apply FL;simpa using ha
   subst dY;refine SH (Nr hG ho (by rw[<-CE,ht];rfl) (by rw[<-CE,ht];rfl) h) c cZ ?_;intro r H' L' u w' hk hc;exact hK _ _ _ _ hk hc
  exact h.elim
 ·rename_i f args NJ ho;have h1:=lJ h.1 ho (show a.eval (.func f)= .func (.func f) #[] #[]from rfl) w;exact s8 f _ _ h (zN ho (λx _=>c.ev x)) h1
 ·rename_i n args NJ ho;unfold fnV at h;split at h
  ·rename_i f cs hv;have hx:=c.ev (.tmp n);rw[hv]at hx;obtain⟨us,hf,Xh⟩:=hx.Eh;have h1:=fW h.1 ho hf w;exact s8 f _ _ h ((s6 ho (λx _=>c.ev x)).append Xh) h1
  exact h.elim
 ·rename_i ty x i ho;exact SH (Nt hG ho h) c cZ (by rintro r H' L' u w' ⟨hk,rfl⟩ hc;exact hK _ _ _ _ hk hc)
 ·rename_i src dst x ho;exact SH (Nw hG ho h) c cZ (by rintro r H' L' u w' ⟨hk,rfl⟩ hc;exact hK _ _ _ _ hk hc)
 ·rename_i args NJ ho;split at h
  ·rename_i x y t1 ts ha ht;have dY:args=#[x,y]:=by apply FL;simpa using ha
   subst dY;exact SH (Nx hG ho (by rw[<-CE,ht];rfl) h) c cZ (λr H' L' u w' hk hc=>hK _ _ _ _ hk hc)
  exact h.elim
 exact gen h hK
def Ju(hG:U2 P Γ){ops base hi Q K'}:∀(rest:List Oper) (i:Nat) (s:St) (L:LM) (a:Act) (w:World),KO Γ P ops base rest i s K'->
    Cr cX (base+i) hi s L a w->base+i+rest.length<=hi->(∀s' L' a' w',K' s'->Cn cX s' L' a' w'->Q .normal a' w')->wpL cX.rd P ops.toArray Q rest a w:=by
  intro rest;induction rest with
  |nil=>intro i s L a w h c _ hQ;exact hQ s L a w h c.toCn
  | cons o rest ih=>
    intro i s L a w h c hlen hQ;simp only[C6]at hlen;simp only[KO]at h;unfold wpL;rcases YG c.toCn h o rfl with ⟨hw,hy⟩|⟨hw,hn⟩
    · rw[if_pos hw];refine .inl (yA hG hy c A0 ?_);intro s' L' a' w' hk hc;exact ih (i+1) s' L' a' w' hk hc A0 hQ
    rw[if_neg (by simp[hw])];exact ih (i+1) _ L _ w hn (c.put o.dst (.c _)).skip A0 hQ
def AW.region(hG:U2 P Γ){n ops K}(h:KO Γ P ops.toList s.nx ops.toList 0 ⟨s.t,s.H,s.nx+ops.toList.length⟩ (K .normal)):AW cX P (.region n ops false) s K:=by
 intro L a w Q hc hQ;refine Jn ?_;have hcr:Cr cX (s.nx+0) (s.nx+ops.toList.length) ⟨s.t,s.H,s.nx+ops.toList.length⟩ L a w:=
  ⟨⟨hc.df,hc.sz,hc.sl,hc.sr,λi hi=>hc.fr i (by simp only at hi;omega),by have:=hc.nx;simp only;omega,hc.lo,hc.st⟩,λi h1 _=>hc.fr i A0,by simp only;omega,by have:=hc.nx;omega⟩
 have:=Ju (Q:=Q) hG ops.toList 0 _ L a w h hcr A0 (λs' L' a' w' hk VJ=>hQ _ _ _ _ _ hk VJ);simpa using this
end
end
section
section
variable{P:Program}{Γ:KT}
def A54(hG:U2 P Γ){H ty x k}(h:lop Γ H ty x k):
    ∃r,k r/\∀(L:LM) (Av:Nat->Prop) (w:World) (u:Value),SR L H Av w->R L w (MM L H Av) x u->∃z ad,u= .pointer (some ad)/\(Instr.loadAt ty u).run P w= .ok z w/\R L w (MM L H Av) r z:=by
  unfold lop at h;split at h
  · rename_i e oo cs he;obtain⟨r,hk,hr⟩:=qM (hG ty e he) h;refine⟨r,hk,λL Av w u hs hu=>?_⟩;obtain⟨b,off,arr,et,f,h1,_,h2,h3⟩:=hu.Yl;obtain⟨z,h4,h5⟩:=hr L w (MM L H Av) b off arr et f h2 h3;exact⟨z,_,h1,by rw[h1];exact h4,h5⟩
  · rename_i e id' oo he;obtain⟨cs,c8,h⟩:=h;obtain⟨r,hk,hr⟩:=qM (hG ty e he) h;refine⟨r,hk,λL Av w u hs hu=>?_⟩;obtain⟨l,⟨hl,h0⟩,h1⟩:=hu.y8;obtain⟨l',TT,JO⟩:=hs.node id' cs c8;rw[hl]at TT;cases TT;obtain⟨arr,et,h2,_,_,h3⟩:=JO.ex h0;obtain⟨z,h4,h5⟩:=hr L w (MM L H Av) l.IY l.off arr et _ h2 h3;exact⟨z,_,h1,by rw[h1];exact h4,h5⟩
  exact h.elim
def eE(Γ:KT)(s:St):List ResultVar->(List AV->Prop)->Prop
 |[],k=>k []
 | .tmp t::r,k=>eE Γ s r λrs=>k (s.t.getD t .j::rs)
 | .cell a ty::r,k=>lop Γ s.H ty (s.t.getD a .j) λx=>eE Γ s r λrs=>k (x::rs)
def s9:List AV->AV
 |[x]=>x
 |rs=> .t rs
def zQ(Γ:KT)(res:List ResultVar)(K:Nat->HP->AV->Prop):Exit->St->Prop
 | .normal,s=>eE Γ s res λrs=>K s.nx s.H (s9 rs)
 | .ret,s=>eE Γ s res λrs=>K s.nx s.H (s9 rs)
 |_,_=>False
def rv(tmps:Array Value):ResultVar->Sem Value
 |.tmp t=>pure (tmps.getD t undef)
 |.cell b t=>do loadVar t (<-asAddr (tmps.getD b undef))
def Jv(fn tmps):results fn tmps=(do let vs<-fn.results.mapM (rv tmps);pure (if h:vs.size=1 then vs[0]else .tuple vs)):=rfl
def Uz(hG:U2 P Γ){cX s L a w}(c:Cn cX s L a w):∀(res:List ResultVar) (k:List AV->Prop),eE Γ s res k->
    ∃ rs us,k rs/\(res.mapM (rv a.tmps)).run P w= .ok us w/\us.length=rs.length/\
      ∀(i:Nat) (x:AV),rs[i]? =some x->R L w (MM L s.H cX.Av) x (us.getD i undef):=by
  intro res;induction res with
  |nil=>intro k h;exact⟨[],[],h,B5,rfl,B5⟩
  | cons x res ih=>
    intro k h;cases x with
    | tmp t=>
      simp only[eE]at h;obtain⟨rs,us,h1,h2,h3,h4⟩:=ih _ h;refine⟨_,a.tmps.getD t undef::us,h1,?_,by simp[h3],?_⟩
      · simp only[QN,rv,Sem.run_bind,Sem.run_pure,Result.andThen_ok,h2]
      intro i y hi;cases i with
      | zero=>
        simp only[DT,E4]at hi;subst hi;exact c.ev (.tmp t)
      |succ i=>exact h4 i y (by simpa using hi)
    | cell b ty=>
      simp only[eE]at h;obtain⟨r,h1,h2⟩:=A54 (P:=P) hG h;obtain⟨rs,us,h3,h4,h5,h6⟩:=ih _ h1;obtain⟨z,ad,g1,g2,g3⟩:=h2 L cX.Av w _ c.sr (c.ev (.tmp b));refine⟨_,z::us,h3,?_,by simp[h5],?_⟩
      · have g1':a.tmps.getD b undef= .pointer (some ad):=g1;have g2':(Instr.loadAt ty (a.tmps.getD b undef)).run P w= .ok z w:=g2;rw[g1']at g2';simp only[Instr.loadAt,Instr.sureAddr,Sem.run_bind,Sem.run_pure,Result.andThen_ok]at g2';have g3':(rv a.tmps (.cell b ty)).run P w= .ok z w:=by
          simp only[rv,g1',asAddr,Sem.run_bind,Sem.run_pure,Result.andThen_ok,g2']
        simp only[QN,Sem.run_bind,Sem.run_pure,Result.andThen_ok,h4,g3']
      intro i y hi;cases i with
      | zero=>
        simp only[DT,E4]at hi;subst hi;exact g3
      |succ i=>exact h6 i y (by simpa using hi)
def Cn.VU{cX s L a w}(c:Cn cX s L a w){b o}(hb:w.heap[b]? =some o)(ho:Nj o)(hB:cX.w0.heap.size<=b)(o')(hd:a.defers=[]):Cn cX s L a (w.putObj b o'):=
 ⟨dfp hd DF.nil,c.sz,λk x hk=>(c.sl k x hk).VU hb ho o',c.sr.VU hb ho o',c.fr,c.nx,c.lo,c.st.VU hB o'⟩
def AC.run(hG:U2 P Γ){f fn c n}(hf:P.funcs[f]? =some fn)(hb:fn.body=some c){Zz}(Jw:fn.ntmps-Zz.length=n){nx H Q L Av w us}(hs:SR L H Av w)(GM:∀i,nx<=i->L i=none)(ha:S8 L w (MM L H Av) Zz us)(h:AW ⟨none,true,nx,L,H,w,Av⟩ P c ⟨Zz++List.replicate n .j,H,nx⟩ (zQ Γ fn.results.toList Q)):
    Calls P f us w λe w'=>∃u r L' DI H',e= .returned u/\Q DI H' r/\nx<=DI/\(∀i,DI<=i->L' i=none)/\(∀i,i<nx->L' i=L i)/\SR L' H' Av w'/\Step L H w L' H' w'/\R L' w' (MM L' H' Av) r u:=by
  obtain⟨TH,hr⟩:=ha;refine(callsIn_wide (n:=0)).1 (callsIn_of_wp_marks hf hb trivial (h L _ w _ ⟨DF.nil,?_,?_,hs,GM,A1 _,λ_ _=>rfl,Step.refl _ _ _⟩ ?_) rfl)
  · simp[TH,Jw]
  · intro k x hk;rw[EH]at hk;split at hk
    · rename_i HX;have:=hr k x hk;have ANA:k<us.size:=A0;simpa[FZ,ANA]using this
    rw[EV]at hk;split at hk
    · cases hk;exact .j _
    cases hk
  intro e s' L' a' w' hk hc;have fin:∀(a':Act) (w':World),Cn ⟨none,true,nx,L,H,w,Av⟩ s' L' a' w'->(eE Γ s' fn.results.toList λrs=>Q s'.nx s'.H (s9 rs))->∃v,(results fn a'.tmps).run P w'= .ok v w'/\∃u r L' DI H',Ending.returned v= .returned u/\Q DI H' r/\nx<=DI/\(∀i,DI<=i->L' i=none)/\(∀i,i<nx->L' i=L i)/\SR L' H' Av w'/\Step L H w L' H' w'/\R L' w' (MM L' H' Av) r u:=by
    intro a' w' hc hk;obtain⟨rs,vs,h1,h2,h3,h4⟩:=Uz hG hc fn.results.toList _ hk;have hm:(fn.results.mapM (rv a'.tmps)).run P w'= .ok vs.toArray w':=by
      rw[NF];simp only[Sem.run_map,h2,Result.andThen_ok]
    have oV:(results fn a'.tmps).run P w'= .ok (if h:vs.toArray.size=1 then vs.toArray[0]else .tuple vs.toArray) w':=by
      rw[Jv];simp only[Sem.run_bind];rw[hm];simp only[Result.andThen_ok,Sem.run_pure]
    refine⟨_,oV,_,s9 rs,L',s'.nx,s'.H,rfl,h1,hc.nx,hc.fr,hc.lo,hc.sr,hc.st,?_⟩;match rs,vs,h3,h4 with
    |[],[],_,_=>exact .t _ _ rfl B5
    |[x],[v],_,h4=>simpa[s9]using h4 0 x rfl
    | x::y::rs,v::v'::vs,h3,h4=>
      have:¬(v::v'::vs).toArray.size=1:=B5;rw[dif_neg this];refine .t _ _ (by simpa using h3) ?_;intro k z hk;have:=h4 k z hk;simpa using this
  have both:(eE Γ s' fn.results.toList λrs=>Q s'.nx s'.H (s9 rs))->LeavesInM Fence.wide 0 P fn a'.tmps (λe w'=>∃u r L' DI H',e= .returned u/\Q DI H' r/\nx<=DI/\(∀i,DI<=i->L' i=none)/\(∀i,i<nx->L' i=L i)/\SR L' H' Av w'/\Step L H w L' H' w'/\R L' w' (MM L' H' Av) r u) a'.defers .returning w':=by
    intro hk;have key:∀(ds:List Deferred) (w1:World),oR w.heap.size ds w1->Cn ⟨none,true,nx,L,H,w,Av⟩ s' L' {a' with defers:=[]} w1->LeavesInM Fence.wide 0 P fn a'.tmps (λe w'=>∃u r L' DI H',e= .returned u/\Q DI H' r/\nx<=DI/\(∀i,DI<=i->L' i=none)/\(∀i,i<nx->L' i=L i)/\SR L' H' Av w'/\Step L H w L' H' w'/\R L' w' (MM L' H' Av) r u) ds .returning w1:=by
      intro ds;induction ds with
      |nil=>intro w1 _ o8;exact fin {a' with defers:=[]} w1 o8 hk
      | cons d ds ih=>
        rintro w1 ⟨⟨D,rfl,hD,hB,CP⟩,hds⟩ o8;refine⟨B5,.inl ⟨D,_,rfl,run_takeDeferred hD,ih _ ?_ (o8.VU hD trivial hB _ rfl)⟩⟩;exact hds.of λE hE _=>World.putObj_heap_other (CP E hE)
    exact key a'.defers w' hc.df.1 ⟨DF.nil,hc.sz,hc.sl,hc.sr,hc.fr,hc.nx,hc.lo,hc.st⟩
  cases e<;>simp only[zQ,bodyPostM]at hk ⊢
  · exact both hk
  exact both hk
def AC.intro(hG:U2 P Γ){f fn c n}(hf:P.funcs[f]? =some fn)(hb:fn.body=some c)(hn:(fn.name== "runtime.NumGoroutine")=false){Zz}(Jw:fn.ntmps-Zz.length=n){nx H Q}(h:∀cX:Ctx,AW cX P c ⟨Zz++List.replicate n .j,H,nx⟩ (zQ Γ fn.results.toList Q)):AC P f nx H Zz Q:=
 ⟨⟨fn,hf,by rw[hb];rfl,hn⟩,λL Av w us hs GM ha=>AC.run hG hf hb Jw hs GM ha (h _)⟩
def AC.pure{f nx H Zz r K}(h:RC P f H Zz r)(hk:K nx H r):AC P f nx H Zz K:=by
 obtain⟨h1,h2⟩:=h.run (λ_ _ h=>h);refine⟨h1,λL Av w us hs GM ha=>(h2 L Av w us hs ⟨_,GM⟩ ha).mono ?_⟩;rintro e w' ⟨u,g1,g2,g3,g4⟩;exact⟨u,r,L,nx,H,g1,hk,A1 _,GM,λ_ _=>rfl,g2,g3,g4⟩
def DZ.intro(hG:U2 P Γ){f fn c n}(hf:P.funcs[f]? =some fn)(hb:fn.body=some c)(hn:(fn.name== "runtime.NumGoroutine")=false){Zz}(Jw:fn.ntmps-Zz.length=n){r}(hr:NR r)(h:∀nx (cX:Ctx),AW cX P c ⟨Zz++List.replicate n .j,DD,nx⟩ (zQ Γ fn.results.toList λ_ _ r'=>r'=r)):DZ P f Zz r:=by
 refine⟨⟨fn,hf,by rw[hb];rfl,hn⟩,?_⟩;rintro L M w us hM ⟨nx,GM⟩ ha;have hac:=AC.intro (Q:=λ_ _ r'=>r'=r) hG hf hb hn Jw (h nx);refine(hac.2 L M w us (fT hM) GM (by rw[fU];exact ha)).mono ?_;rintro e w' ⟨u,r',L',DI,H',g1,rfl,g2,g3,g4,g5,g6,g7⟩;refine⟨u,g1,⟨λ_ _ h=>h,g6.os,g6.tape,g6.output,g6.size,g6.BV,λb _ hl=>hl⟩,?_⟩;exact R.mono (L:=L) (M:=MM L' H' M) (w:=w') (λ_ _ h=>h) (λ_ _ _=>rfl) (λb _ hb=> .inl hb) (g7.nr hr)
def RC.of{f H Zz r}(h:DZ P f Zz r):RC P f H Zz r:= .inl h
def RC.Va{f H Zz ts r}(h:DZ P f ts r)(hv:wU H Zz ts)(hf:Fl r):RC P f H Zz r:= .inr ⟨ts,hv,h,hf⟩
end
end
end Go.Proofs.YtgknbnkmilddhaaGreat