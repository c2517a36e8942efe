import Derived.Test.YtgknbnkmilddhaaGreatZ01
set_option linter.unusedVariables false
set_option linter.unusedSimpArgs false

namespace Go.Proofs.YtgknbnkmilddhaaGreat
theorem yD(w:World)(g:Nat)(old cs:Array Value)(t:TypeId)(fr:Nat×Nat)(hg:w.heap[g]? =some (.cells old t fr)):w.setRow g cs=CM w g (.cells cs t fr):=by
  have C4:=HD hg;unfold World.setRow CM;congr 1
  apply Array.ext
  · simp
  intro i h1 h2;rw[Array.getElem_modify,Array.getElem_setIfInBounds]
  · split
    · rename_i h;subst h;have:w.heap[g]= .cells old t fr:=by rw[Array.getElem?_eq_getElem C4]at hg;simpa using hg
      simp[this]
    rfl
theorem O4{P:Program}{w:World}{g o:Nat}{cur:Array Value}{t:TypeId}(vs:List Value)(hg:w.heap[g]? =some (.cells cur t (0,0)))(hf:o+vs.length<=cur.size)(h1:∀v∈vs,v.oneCell'=true):
    (storeCells ⟨g,o,none⟩ vs).run P w= .ok () (CM w g (.cells (cur.toList.take o++vs++cur.toList.drop (o+vs.length)).toArray t (0,0))):=by
  have h:=run_storeCells_at P g o t vs 0 cur w hg (by simpa using hf) h1;rw[yD w g cur _ t _ hg]at h;simpa using h
theorem O5{α:Type}(cur:Array α)(o:Nat)(vs:List α)(h:o+vs.length<=cur.size)(k:Nat):
    (cur.toList.take o++vs++cur.toList.drop (o+vs.length)).toArray[k]? =if o<=k/\k<o+vs.length then vs[k-o]? else cur[k]? :=by
  simp only[List.getElem?_toArray];rw[List.append_assoc,List.getElem?_append];have hl:(cur.toList.take o).length=o:=by simp;omega
  rw[hl];split
  · rename_i hk;rw[if_neg A0,List.getElem?_take,if_pos hk];simp
  rename_i hk;rw[List.getElem?_append];split
  · rename_i DN;rw[if_pos ⟨A0,A0⟩]
  rename_i DN;rw[if_neg A0,List.getElem?_drop];rw[show o+vs.length+(k-o-vs.length)=k by omega];simp
def B3(cs:List AV)(o:Nat)(xs:List AV):List AV:=cs.take o++xs++cs.drop (o+xs.length)
theorem T5{cs:List AV}{o:Nat}{xs:List AV}(h:o+xs.length<=cs.length):(B3 cs o xs).length=cs.length:=by
  simp[B3];omega
theorem PR(cs:List AV)(o:Nat)(xs:List AV)(h:o+xs.length<=cs.length)(k:Nat):
    (B3 cs o xs)[k]? =if o<=k/\k<o+xs.length then xs[k-o]? else cs[k]? :=by
  unfold B3;rw[List.append_assoc,List.getElem?_append];have hl:(cs.take o).length=o:=by simp;omega
  rw[hl];split
  · rename_i hk;rw[if_neg A0,List.getElem?_take,if_pos hk]
  rename_i hk;rw[List.getElem?_append];split
  · rename_i DN;rw[if_pos ⟨A0,A0⟩]
  rename_i DN;rw[if_neg A0,List.getElem?_drop];rw[show o+xs.length+(k-o-xs.length)=k by omega]
section
variable{P:Program}{Γ:CA}{o:Oper}{ev:Operand->AV}{H:HP}{id:Nat}
def stop(Γ:CA)(H:HP)(ty:TypeId)(x y:AV)(k:AV->HP->Prop):Prop:=
  match Γ ty,x with
  |some e,.q i off=>S5 (H i) λcs=>fU y=true/\(CN y).length=e.size/\off+e.size<=cs.length/\k .j (AT H i (some (B3 cs off (CN y))))
  |_,_=>False
theorem uA(hG:IB P Γ){ty:TypeId}{x y:Operand}(ho:o.op= .store ty x y){k:AV->HP->Prop}(h:stop Γ H ty (ev x) (ev y) k):fT P o ev H id k:=by
  unfold stop at h;split at h
  · rename_i e i off he hx;obtain⟨cs,P6,h1,h2,h3,h⟩:=h;intro L Av w ρ hs mC hL hi B0;have hu:=B0 x (by rw[ho];simp[Op.operands]);have hv:=B0 y (by rw[ho];simp[Op.operands]);rw[hx]at hu;obtain⟨l,⟨hl,h0⟩,e1⟩:=hu.gZ;obtain⟨l',I9,D0⟩:=hs.node i cs P6;rw[hl]at I9;cases I9;obtain⟨arr,et,e2,e3,e4,e5⟩:=D0.ex h0;obtain⟨e6,e7⟩:=WA hv h1;have e8:=(hG ty e he).CW w;have hlen:(ρ y).cells.toList.length=e.size:=by simp[e6,h2]
    have jH:∀v∈(ρ y).cells.toList,v.oneCell'=true:=by
      intro v hv;obtain⟨j,hj,Xb⟩:=List.getElem_of_mem hv;have fM:j<(CN (ev y)).length:=by rw[<-e6];simpa using hj
      obtain⟨c,e9,_,e10⟩:=e7 j _ (List.getElem?_eq_getElem fM);have:c=v:=by
        rw[<-Xb];have:(ρ y).cells.toList[j]? =some c:=by simpa using e9
        rw[List.getElem?_eq_getElem hj]at this;exact(Option.some.inj this).symm
      rw[<-this];exact e10
    have e11:=O4 (P:=P) (w:=w) (g:=l.CP) (o:=l.off+off) (ρ y).cells.toList e2 (by rw[hlen];omega) jH;obtain⟨e12,e13⟩:=MX hs P6 hl (.inl ⟨rfl,rfl⟩) rfl h0 (arr.toList.take (l.off+off)++(ρ y).cells.toList++arr.toList.drop (l.off+off+(ρ y).cells.toList.length)).toArray et (B3 cs off (CN (ev y))) (by simp;omega) (by rw[T5 A0];exact e4) (by
      intro k x hk;rw[PR cs off _ A0]at hk;rw[O5 arr _ _ (by rw[hlen];omega),hlen];split at hk
      · rename_i hc;rw[if_pos ⟨A0,A0⟩];obtain⟨c,e14,e15,_⟩:=e7 (k-off) x hk;exact⟨c,by rw[show l.off+k-(l.off+off)=k-off by omega];simpa using e14,e15⟩
      rename_i hc;rw[if_neg A0];exact e5 k x hk)
    rw[U5 L hl,LY]at e12 e13;refine .tW ?_ ⟨_,_,L,h,λ_ _=>rfl,e12,e13,.j _⟩;have a1:¬((ρ y).cells.size≠e.size):=by rw[e6,h2];simp
    simp only[execOp,ho,e1,Instr.storeAt,Instr.sureAddr,Sem.run_bind,Sem.run_pure,Result.andThen_ok,storeVar,e8];simp only[e6,h2];simp[e11]
  exact h.elim
def vw(H:HP):AV->Option (List AV)
  | .v n cs=>if cs.length=n then some cs else none
  | .h i off n=>match H i with
    |some cs=>if off+n<=cs.length then some ((cs.drop off).take n)else none
    |none=>none
  | .nl=>some []
  |_=>none
theorem bE{L:LM}{Av:Nat->Prop}{w:World}(hs:SR L H Av w){x:AV}{u:Value}(hu:R L w (MM L H Av) x u){xs:List AV}(hx:vw H x=some xs):
    ∃a n cp,u= .slice a n cp/\n=xs.length/\∃us:List Value,us.length=xs.length/\(∀w':World,w'.heap=w.heap->(Builtin.firstCells 1 n u).run P w'= .ok us.toArray w')/\∀(k:Nat) (y:AV),xs[k]? =some y->∃c,us[k]? =some c/\R L w (MM L H Av) y c:=by
  unfold vw at hx;split at hx
  · rename_i n cs;split at hx
    · rename_i hlen;cases hx;cases hu with
      | v0 a cp=>
        refine⟨a,0,cp,rfl,rfl,[],rfl,?_,AB⟩;intro w' _;cases a<;>simp[Builtin.firstCells,loadCells,loadCellsFrom]
      | v _ _ b off cp arr e f us hM hb hn hu hr=>
        refine⟨_,n,cp,rfl,hlen.symm,(List.range' 0 n).map us,by simp[hlen],?_,?_⟩
        · intro w' Xc;have:=run_loadCells (P:=P) (w:=w') (b:=b) (off:=off) (us:=us) n 0 #[] (λk hk=>by
            rw[Nat.zero_add];exact cell_of (by rw[Xc];exact hb) (hu k A0))
          simp[Builtin.firstCells,loadCells,this]
        intro k y hk;have C4:=(List.getElem?_eq_some_iff.1 hk).1;exact⟨us k,by simp[show k<n by omega],hr k y hk⟩
    cases hx
  · rename_i i off n;split at hx
    · rename_i cs P6;split at hx
      · rename_i hlen;cases hx;obtain⟨l,hl,D0⟩:=hs.node i cs P6;cases hu with
        | h _ _ _ l' a cp I9 hn hc ha h0=>
          rw[hl]at I9;cases I9;obtain⟨arr,et,e2,e3,e4,e5⟩:=D0.ex h0;let us:Nat->Value:=λj=>arr.getD (l.off+off+j) undef
          have F7:∀j,j<n->∃u,arr[l.off+off+j]? =some u/\R L w (MM L H Av) (cs.getD (off+j) .j) u:=by
            intro j hj;have C4:off+j<cs.length:=A0;obtain⟨u,h3,h4⟩:=e5 (off+j) cs[off+j] (List.getElem?_eq_getElem C4);exact⟨u,by rw[Nat.add_assoc];exact h3,by simpa[C4]using h4⟩
          refine⟨_,n,cp,rfl,by simp;omega,(List.range' 0 n).map us,by simp;omega,?_,?_⟩
          · intro w' Xc;by_cases PH:n=0
            · subst PH;simp[Builtin.firstCells,loadCells,loadCellsFrom]
            have WB:=ha.resolve_left A0;have:=run_loadCells (P:=P) (w:=w') (b:=l.CP) (off:=l.off+off) (us:=us) n 0 #[] (λk hk=>by
              rw[Nat.zero_add];obtain⟨u,h6,_⟩:=F7 k hk;exact cell_of (by rw[Xc];exact e2) (by rw[h6];simp[us,h6]))
            simp[Builtin.firstCells,loadCells,WB,this]
          intro k y hk;simp only[List.getElem?_take,List.getElem?_drop]at hk;split at hk
          · rename_i WE;obtain⟨u,h6,h7⟩:=F7 k WE;refine⟨u,by simp[WE,us,h6],?_⟩;rw[show cs.getD (off+k) .j=y by simp[hk]]at h7;exact h7
          cases hk
      cases hx
    cases hx
  · cases hx;rw[hu.EV];exact⟨none,0,0,rfl,rfl,[],rfl,by intro w' _;simp[Builtin.firstCells],AB⟩
  cases hx
def U9(H:HP)(x:AV)(xs:List AV)(id:Nat)(k:AV->HP->Prop):Prop:=
  match x with
  | .nl=>(xs=[]->k .nl H)/\(xs≠ []->k (.h id 0 xs.length) (AT H id (some xs)))
  | .h i off n=>S5 (H i) λcs=>off+n<=cs.length/\k (.h id 0 (n+xs.length)) (AT (AT H i none) id (some ((cs.drop off).take n++xs)))
  |_=>False
def fY:AV->Nat
  | .h _ _ n=>n
  |_=>0
def IL:TypeDesc->Bool
  | .int _=>true
  |_=>false
def IM:TD->Bool
  | .int _=>true
  |_=>false
theorem mT{d:TypeDesc}:IL d=IM (RE d):=by cases d<;>rfl
def vwS(sz:Nat)(H:HP):AV->Option (Nat×List AV)
  | .v n cs=>if cs.length=n*sz then some (n,cs)else none
  | .hs s i off n=>if s=sz then (match H i with
    |some cs=>if off+n*sz<=cs.length then some (n,(cs.drop off).take (n*sz))else none
    |none=>none)else none
  | .nl=>some (0,[])
  |_=>none
def mU(sz:Nat)(H:HP)(x:AV)(m:Nat)(xs:List AV)(id:Nat)(k:AV->HP->Prop):Prop:=
  match x with
  | .nl=>(m=0->k .nl H)/\(m≠0->k (.hs sz id 0 m) (AT H id (some xs)))
  | .hs s i off n=>s=sz/\S5 (H i) λcs=>off+n*sz<=cs.length/\k (.hs sz id 0 (n+m)) (AT (AT H i none) id (some ((cs.drop off).take (n*sz)++xs)))
  |_=>False
def Mx:AV->Nat
  | .hs _ _ _ n=>n
  |_=>0
def Bw(Γ:CA)(H:HP)(t1 t2:TypeId)(x y:AV)(id:Nat)(k:AV->HP->Prop):Prop:=
  match Γ t1,Γ t2 with
  | some e1,some e2=>match e1.d with
    | .slice el=>match Γ el with
      | some ee=>Wm (ee.size==1) (ee.zero.cells.size=1/\(match y with
        | .i _ n=>IM e2.d=true/\0<=n/\n<=9223372036854775807/\(fY x+n.toNat)*ee.bytes<=140737488355328/\(fY x+n.toNat<=9223372036854775807)/\one (F6 (ee.zero.cells.getD 0 undef))=true/\U9 H x (List.replicate n.toNat (F6 (ee.zero.cells.getD 0 undef))) id k
        |_=>IM e2.d=false/\S5 (vw H y) λxs=>(∀z∈xs,one z=true)/\(fY x+xs.length)*ee.bytes<=140737488355328/\(fY x+xs.length<=9223372036854775807)/\U9 H x xs id k))
        (IM e2.d=false/\ee.zero.cells.size=ee.size/\S5 (vwS ee.size H y) λm=>(∀z∈m.2,one z=true)/\(Mx x+m.1)*ee.bytes<=140737488355328/\(Mx x+m.1<=9223372036854775807)/\mU ee.size H x m.1 m.2 id k)
      |none=>False
    |_=>False
  |_,_=>False
theorem uB{P:Program}{sz:Nat}{L:LM}{H:HP}{Av:Nat->Prop}{w:World}(hs:SR L H Av w){x:AV}{u:Value}(hu:R L w (MM L H Av) x u){m:Nat}{xs:List AV}(hx:vwS sz H x=some (m,xs)):
    ∃a cp,u= .slice a m cp/\xs.length=m*sz/\∃us:List Value,us.length=xs.length/\(∀w':World,w'.heap=w.heap->(Builtin.firstCells sz m u).run P w'= .ok us.toArray w')/\∀(k:Nat) (y:AV),xs[k]? =some y->∃c,us[k]? =some c/\R L w (MM L H Av) y c:=by
  unfold vwS at hx;split at hx
  · rename_i n cs;split at hx
    · rename_i hlen;cases hx;cases hu with
      | v0 a cp=>
        refine⟨a,cp,rfl,AB,[],rfl,?_,AB⟩;intro w' _;cases a<;>simp[Builtin.firstCells,loadCells,loadCellsFrom]
      | v _ _ b off cp arr e f us hM hb hn hu hr=>
        refine⟨_,cp,rfl,hlen,(List.range' 0 (m*sz)).map us,by simp[hlen],?_,?_⟩
        · intro w' Xc;have:=run_loadCells (P:=P) (w:=w') (b:=b) (off:=off) (us:=us) (m*sz) 0 #[] (λk hk=>by
            rw[Nat.zero_add];exact cell_of (by rw[Xc];exact hb) (hu k A0))
          simp[Builtin.firstCells,loadCells,this]
        intro k y hk;have C4:=(List.getElem?_eq_some_iff.1 hk).1;exact⟨us k,by simp[show k<m*sz by omega],hr k y hk⟩
    cases hx
  · rename_i s i off n;split at hx
    · rename_i hss;subst hss;split at hx
      · rename_i cs P6;split at hx
        · rename_i hlen;cases hx;obtain⟨l,hl,D0⟩:=hs.node i cs P6;cases hu with
          | hs _ _ _ _ l' a cp I9 hn hc ha h0=>
            rw[hl]at I9;cases I9;obtain⟨arr,et,e2,e3,e4,e5⟩:=D0.ex h0;let us:Nat->Value:=λj=>arr.getD (l.off+off+j) undef
            have F7:∀j,j<m*s->∃u,arr[l.off+off+j]? =some u/\R L w (MM L H Av) (cs.getD (off+j) .j) u:=by
              intro j hj;have C4:off+j<cs.length:=A0;obtain⟨u,h3,h4⟩:=e5 (off+j) cs[off+j] (List.getElem?_eq_getElem C4);exact⟨u,by rw[Nat.add_assoc];exact h3,by simpa[C4]using h4⟩
            refine⟨_,cp,rfl,by simp;omega,(List.range' 0 (m*s)).map us,by simp;omega,?_,?_⟩
            · intro w' Xc;by_cases PH:m*s=0
              · simp[Builtin.firstCells,loadCells,PH,loadCellsFrom]
              have WB:=ha.resolve_left (by
                rintro rfl;have:m=0:=A0;subst this;simp at PH)
              have:=run_loadCells (P:=P) (w:=w') (b:=l.CP) (off:=l.off+off) (us:=us) (m*s) 0 #[] (λk hk=>by
                rw[Nat.zero_add];obtain⟨u,h6,_⟩:=F7 k hk;exact cell_of (by rw[Xc];exact e2) (by rw[h6];simp[us,h6]))
              simp[Builtin.firstCells,loadCells,WB,this]
            intro k y hk;simp only[List.getElem?_take,List.getElem?_drop]at hk;split at hk
            · rename_i WE;obtain⟨u,h6,h7⟩:=F7 k WE;refine⟨u,by simp[WE,us,h6],?_⟩;rw[show cs.getD (off+k) .j=y by simp[hk]]at h7;exact h7
            cases hk
        cases hx
      cases hx
    cases hx
  · cases hx;rw[hu.EV];exact⟨none,0,rfl,AB,[],rfl,by intro w' _;simp[Builtin.firstCells],AB⟩
  cases hx
section
variable{ED:Array TypeId}{ty t1 t2 el:TypeId}{d2:TypeDesc}{ee:TE}{w w':World}{base:Option Addr}{BD CC n:Nat}{v:Value}{us:List Value}
theorem My(h0:ED[0]? =some t1)(h1:ED[1]? =some t2)(O6:∀w,(underlying t1).run P w= .ok (.slice el) w)(O7:∀w,(underlying t2).run P w= .ok d2 w)(XZ:IL d2=false)
    (FV:∀w,(sizeOf el).run P w= .ok 1 w) (hv:(Builtin.lenOf v).run P w= .ok n w) (Xd:(Builtin.firstCells 1 n v).run P w= .ok us.toArray w) (IC:BD+n<=CC)
    (ER:(match base with|some a=>storeCells (a.add BD) us|none=>pure ():Sem Unit).run P w= .ok () w'):
    (Builtin.append_ ED ty #[.slice base BD CC,v]).run P w= .ok (.slice base (BD+n) CC) w':=by
  cases d2<;>simp only[IL,reduceCtorEq]at XZ
  all_goals
    unfold Builtin.append_;simp only[h0,h1,List.getElem?_toArray,List.getElem?_cons_zero,List.getElem?_cons_succ,Sem.run_bind,O6,O7,Result.andThen_ok,FV,Sem.run_pure,Bool.false_eq_true,if_false,hv,IC,if_true,Bool.not_false,Xd,Nat.mul_one];cases base with
    | none=>
      simp only[Sem.run_pure]at ER;cases ER;simp
    |some a=>simp at ER;simp[ER]
theorem Bx(h0:ED[0]? =some t1)(h1:ED[1]? =some t2)(O6:∀w,(underlying t1).run P w= .ok (.slice el) w)(O7:∀w,(underlying t2).run P w= .ok d2 w)(XZ:IL d2=true)(hE:E6 P el ee)
    (FV:ee.size=1) {k:IntKind} {m:Int} (uC:0<=m) (T6:m<=9223372036854775807) (ZW:m*ee.bytes<=281474976710656) {z:Value} (hz:ee.zero.cells=#[z]) (IC:BD+m.toNat<=CC)
    (ER:(match base with|some a=>storeCells (a.add BD) (List.replicate m.toNat z)|none=>pure ():Sem Unit).run P w= .ok () w'):
    (Builtin.append_ ED ty #[.slice base BD CC,.int k m]).run P w= .ok (.slice base (BD+m.toNat) CC) w':=by
  have hs:=λw=>hE.CW w
  rw[FV]at hs;have Mz:=λw=>hE.GM w
  obtain⟨ii,h9,VZ,LL,mD⟩:=hE.GK w;have w1:=wrap_i64 (n:=m) A0 A0;have a1:¬m<0:=A0;have a2:¬(281474976710656:Int)<m*ee.bytes:=A0;have Lc:∀n,Builtin.zeroCells #[z] n=(List.replicate n z).toArray:=by
    intro n;apply Array.ext
    · simp[Builtin.zeroCells]
    intro i h1 h2;simp[Builtin.zeroCells,Nat.mod_one]
  cases d2<;>simp only[IL,Bool.false_eq_true]at XZ
  unfold Builtin.append_;simp only[h0,h1,List.getElem?_toArray,List.getElem?_cons_zero,List.getElem?_cons_succ,Sem.run_bind,O6,O7,Result.andThen_ok,hs,Sem.run_pure,if_true,asInt,asIntOf,w1,h9,LL];by_cases hm:m.toNat=0
  · cases base with
    | none=>
      simp only[Sem.run_pure]at ER;cases ER;simp[a1,a2,h9,LL,hm,show BD<=CC by omega]
    | some a=>
      simp[hm,storeCells]at ER;cases ER;simp[a1,a2,h9,LL,hm,storeCells,show BD<=CC by omega]
  cases base with
  | none=>
    simp only[Sem.run_pure]at ER;cases ER;simp[a1,a2,h9,LL,hm,IC,Mz,hz,Lc]
  | some a=>
    simp at ER;simp[a1,a2,h9,LL,hm,IC,Mz,hz,Lc,ER]
theorem Na(h0:ED[0]? =some t1)(h1:ED[1]? =some t2)(O6:∀w,(underlying t1).run P w= .ok (.slice el) w)(O7:∀w,(underlying t2).run P w= .ok d2 w)(XZ:IL d2=false)(hE:E6 P el ee)
    (FV:ee.size=1) (hv:(Builtin.lenOf v).run P w= .ok n w) (Xd:(Builtin.firstCells 1 n v).run P w.drew= .ok us.toArray w.drew) {os:List Value} (hold:(Builtin.firstCells 1 BD (.slice base BD CC)).run P w.drew= .ok os.toArray w.drew)
    (IC:¬BD+n<=CC) (Ud:BD+n<=9223372036854775807) (hb:(BD+n)*ee.bytes<=140737488355328) (OR:ee.bytes≠0\/BD+n<=9223372036854775807):
    ∃cap rest,BD+n<=cap/\(os++us).length+rest.length=(os++us).length+(cap-(BD+n))*ee.zero.cells.size/\
    (Builtin.append_ ED ty #[.slice base BD CC,v]).run P w= .ok (.slice (some ⟨w.heap.size,0,none⟩) (BD+n) cap) (w.drew.alloc (.cells (os++us++rest).toArray el (0,0))):=by
  have hs:=λw=>hE.CW w
  rw[FV]at hs;have Mz:=λw=>hE.GM w
  obtain⟨ii,h9,VZ,LL,mD⟩:=hE.GK w;obtain⟨ij,g9,g10,g11,g12⟩:=hE.GK w.drew;have hf:=growslice_fits (need:=BD+n) (old:=CC) (bytes:=ee.bytes) A0 hb;have a2:¬(281474976710656<Builtin.nextslicecap (BD+n) CC*ee.bytes):=A0;have a3:¬(((BD+n:Nat):Int)>IntKind.i64.max):=by
    have:IntKind.i64.max=9223372036854775807:=rfl;rw[this];omega
  refine⟨(Question.appendCap (BD+n) CC el).cut (w.tape w.drawn (.appendCap (BD+n) CC el)),(Builtin.zeroCells ee.zero.cells ((Question.appendCap (BD+n) CC el).cut (w.tape w.drawn (.appendCap (BD+n) CC el))-(BD+n))).toList,by simp[Question.cut],by simp[Builtin.zeroCells],?_⟩;clear OR;cases d2<;>simp only[IL,reduceCtorEq]at XZ
  all_goals
    unfold Builtin.append_;simp only[h0,h1,List.getElem?_toArray,List.getElem?_cons_zero,List.getElem?_cons_succ,Sem.run_bind,O6,O7,Result.andThen_ok,hs,Sem.run_pure,Bool.false_eq_true,if_false,hv,IC,Bool.not_false,if_true,h9,LL];rw[if_neg (by intro hc;exact a3 hc.1)];simp only[Sem.run_bind,h9,Result.andThen_ok,LL];rw[if_neg (by simpa using a2)];simp[Question.forced,hs,g9,g11,hold,Xd,Mz,newRow];congr 2
    apply Array.ext';simp
theorem By(h0:ED[0]? =some t1)(h1:ED[1]? =some t2)(O6:∀w,(underlying t1).run P w= .ok (.slice el) w)(O7:∀w,(underlying t2).run P w= .ok d2 w)(XZ:IL d2=true)(hE:E6 P el ee)
    (FV:ee.size=1) {k:IntKind} {m:Int} (uC:0<=m) (T6:m<=9223372036854775807) (ZW:m*ee.bytes<=281474976710656) {z:Value} (hz:ee.zero.cells=#[z]) {os:List Value} (hold:(Builtin.firstCells 1 BD (.slice base BD CC)).run P w.drew= .ok os.toArray w.drew)
    (IC:¬BD+m.toNat<=CC) (Ud:BD+m.toNat<=9223372036854775807) (hb:(BD+m.toNat)*ee.bytes<=140737488355328):
    ∃cap rest,BD+m.toNat<=cap/\(os++List.replicate m.toNat z).length+rest.length=(os++List.replicate m.toNat z).length+(cap-(BD+m.toNat))*ee.zero.cells.size/\
    (Builtin.append_ ED ty #[.slice base BD CC,.int k m]).run P w= .ok (.slice (some ⟨w.heap.size,0,none⟩) (BD+m.toNat) cap) (w.drew.alloc (.cells (os++List.replicate m.toNat z++rest).toArray el (0,0))):=by
  have hs:=λw=>hE.CW w
  rw[FV]at hs;have Mz:=λw=>hE.GM w
  obtain⟨ii,h9,VZ,LL,mD⟩:=hE.GK w;obtain⟨ij,g9,g10,g11,g12⟩:=hE.GK w.drew;have hf:=growslice_fits (need:=BD+m.toNat) (old:=CC) (bytes:=ee.bytes) A0 hb;have a0:¬m<0:=A0;have a1:¬(281474976710656:Int)<m*ee.bytes:=A0;have a2:¬(281474976710656<Builtin.nextslicecap (BD+m.toNat) CC*ee.bytes):=A0;have a3:¬(((BD+m.toNat:Nat):Int)>IntKind.i64.max):=by
    have:IntKind.i64.max=9223372036854775807:=rfl;rw[this];omega
  have w1:=wrap_i64 (n:=m) A0 A0;have Lc:∀n,Builtin.zeroCells #[z] n=(List.replicate n z).toArray:=by
    intro n;apply Array.ext
    · simp[Builtin.zeroCells]
    intro i h1 h2;simp[Builtin.zeroCells,Nat.mod_one]
  refine⟨(Question.appendCap (BD+m.toNat) CC el).cut (w.tape w.drawn (.appendCap (BD+m.toNat) CC el)),(Builtin.zeroCells ee.zero.cells ((Question.appendCap (BD+m.toNat) CC el).cut (w.tape w.drawn (.appendCap (BD+m.toNat) CC el))-(BD+m.toNat))).toList,by simp[Question.cut],by simp[Builtin.zeroCells],?_⟩;cases d2<;>simp only[IL,Bool.false_eq_true]at XZ
  unfold Builtin.append_;simp only[h0,h1,List.getElem?_toArray,List.getElem?_cons_zero,List.getElem?_cons_succ,Sem.run_bind,O6,O7,Result.andThen_ok,hs,Sem.run_pure,if_true,asInt,asIntOf,w1,h9,LL];rw[if_neg a0];simp only[Sem.run_bind,h9,Result.andThen_ok,LL];rw[if_neg (by simpa using a1)];simp only[Sem.run_pure,Result.andThen_ok,IC,if_false,Sem.run_bind,h9,LL];rw[if_neg (by intro hc;exact a3 hc.1)];simp only[Sem.run_bind,h9,Result.andThen_ok,LL];rw[if_neg (by simpa using a2)];by_cases hm:m.toNat=0
  · simp only[hm,List.replicate_zero,List.append_nil,Nat.add_zero]at*;simp[Question.forced,hs,g9,g11,hold,Mz,newRow,hm];congr 2
    apply Array.ext';simp
  simp[Question.forced,hs,g9,g11,hold,Mz,newRow,hm,hz,Lc];congr 2
  apply Array.ext';simp
theorem Bz{sz:Nat}(h0:ED[0]? =some t1)(h1:ED[1]? =some t2)(O6:∀w,(underlying t1).run P w= .ok (.slice el) w)(O7:∀w,(underlying t2).run P w= .ok d2 w)(XZ:IL d2=false)
    (FV:∀w,(sizeOf el).run P w= .ok sz w) (hv:(Builtin.lenOf v).run P w= .ok n w) (Xd:(Builtin.firstCells sz n v).run P w= .ok us.toArray w) (IC:BD+n<=CC)
    (ER:(match base with|some a=>storeCells (a.add (BD*sz)) us|none=>pure ():Sem Unit).run P w= .ok () w'):
    (Builtin.append_ ED ty #[.slice base BD CC,v]).run P w= .ok (.slice base (BD+n) CC) w':=by
  cases d2<;>simp only[IL,reduceCtorEq]at XZ
  all_goals
    unfold Builtin.append_;simp only[h0,h1,List.getElem?_toArray,List.getElem?_cons_zero,List.getElem?_cons_succ,Sem.run_bind,O6,O7,Result.andThen_ok,FV,Sem.run_pure,Bool.false_eq_true,if_false,hv,IC,if_true,Bool.not_false,Xd];cases base with
    | none=>
      simp only[Sem.run_pure]at ER;cases ER;simp
    |some a=>simp at ER;simp[ER]
theorem Ca{sz:Nat}(h0:ED[0]? =some t1)(h1:ED[1]? =some t2)(O6:∀w,(underlying t1).run P w= .ok (.slice el) w)(O7:∀w,(underlying t2).run P w= .ok d2 w)(XZ:IL d2=false)(hE:E6 P el ee)
    (FV:ee.size=sz) (hv:(Builtin.lenOf v).run P w= .ok n w) (Xd:(Builtin.firstCells sz n v).run P w.drew= .ok us.toArray w.drew) {os:List Value} (hold:(Builtin.firstCells sz BD (.slice base BD CC)).run P w.drew= .ok os.toArray w.drew)
    (IC:¬BD+n<=CC) (Ud:BD+n<=9223372036854775807) (hb:(BD+n)*ee.bytes<=140737488355328) (OR:ee.bytes≠0\/BD+n<=9223372036854775807):
    ∃cap rest,BD+n<=cap/\(os++us).length+rest.length=(os++us).length+(cap-(BD+n))*ee.zero.cells.size/\
    (Builtin.append_ ED ty #[.slice base BD CC,v]).run P w= .ok (.slice (some ⟨w.heap.size,0,none⟩) (BD+n) cap) (w.drew.alloc (.cells (os++us++rest).toArray el (0,0))):=by
  have hs:=λw=>hE.CW w
  rw[FV]at hs;have Mz:=λw=>hE.GM w
  obtain⟨ii,h9,VZ,LL,mD⟩:=hE.GK w;obtain⟨ij,g9,g10,g11,g12⟩:=hE.GK w.drew;have hf:=growslice_fits (need:=BD+n) (old:=CC) (bytes:=ee.bytes) A0 hb;have a2:¬(281474976710656<Builtin.nextslicecap (BD+n) CC*ee.bytes):=A0;have a3:¬(((BD+n:Nat):Int)>IntKind.i64.max):=by
    have:IntKind.i64.max=9223372036854775807:=rfl;rw[this];omega
  refine⟨(Question.appendCap (BD+n) CC el).cut (w.tape w.drawn (.appendCap (BD+n) CC el)),(Builtin.zeroCells ee.zero.cells ((Question.appendCap (BD+n) CC el).cut (w.tape w.drawn (.appendCap (BD+n) CC el))-(BD+n))).toList,by simp[Question.cut],by simp[Builtin.zeroCells],?_⟩;clear OR;cases d2<;>simp only[IL,reduceCtorEq]at XZ
  all_goals
    unfold Builtin.append_;simp only[h0,h1,List.getElem?_toArray,List.getElem?_cons_zero,List.getElem?_cons_succ,Sem.run_bind,O6,O7,Result.andThen_ok,hs,Sem.run_pure,Bool.false_eq_true,if_false,hv,IC,Bool.not_false,if_true,h9,LL];rw[if_neg (by intro hc;exact a3 hc.1)];simp only[Sem.run_bind,h9,Result.andThen_ok,LL];rw[if_neg (by simpa using a2)];simp[Question.forced,hs,g9,g11,hold,Xd,Mz,newRow];congr 2
    apply Array.ext';simp
end
theorem R.drew{L:LM}{M:Nat->Prop}{w:World}{x:AV}{u:Value}(h:R L w M x u):R L w.drew M x u:=R.mono (w:=w) (w':=w.drew) (M:=M) (M':=M) (λ_ _ h=>h) (λ_ _ _=>rfl) (λ_ _ h=>h) h
theorem R.Cb{L:LM}{M:Nat->Prop}{w:World}{x:AV}{u:Value}(h:R L w.drew M x u):R L w M x u:=R.mono (w:=w.drew) (w':=w) (M:=M) (M':=M) (λ_ _ h=>h) (λ_ _ _=>rfl) (λ_ _ h=>h) h
theorem SR.drew{L:LM}{Av:Nat->Prop}{w:World}(s:SR L H Av w):SR L H Av w.drew:=
  ⟨λid cs h=>by
    obtain⟨l,h1,D0⟩:=s.node id cs h;exact⟨l,h1,D0.mono rfl λk x hk u h7=>h7.drew⟩,
   s.inj,s.av,s.PL⟩
theorem Step.drew(L:LM)(H:HP)(w:World):Step L H w L H w.drew:=⟨λ_ _ h=>h,rfl,rfl,⟨rfl,Nat.le_succ _⟩,Nat.le_refl _,λ_ _ _=>rfl,λ_ _ h=>h⟩
theorem WG{w:World}{b:Nat}{o:Obj}(h:w.heap[b]? =some o):CM w b o=w:=by
  have C4:=HD h;unfold CM;have:w.heap.setIfInBounds b o=w.heap:=by
    apply Array.ext
    · simp
    intro i h1 h2;rw[Array.getElem_setIfInBounds];split
    · rename_i hi;subst hi;rw[Array.getElem?_eq_getElem C4]at h;simpa using h.symm
    rfl
  rw[this]
theorem bF{L:LM}{Av:Nat->Prop}{w:World}(hs:SR L H Av w)(hL:L id=none)(hi:H id=none){x:AV}{u:Value}(hu:R L w (MM L H Av) x u){el:TypeId}
    {xs:List AV} {us:List Value} (hl:us.length=xs.length) (hr:∀(k:Nat) (y:AV),xs[k]? =some y->∃c,us[k]? =some c/\R L w (MM L H Av) y c) (jH:∀v∈us,v.oneCell'=true)
    {k:AV->HP->Prop} (h:U9 H x xs id k) (run:Sem Value)
    (IC:∀base BD CC w',u= .slice base BD CC->BD+us.length<=CC->(match base with|some a=>storeCells (a.add BD) us|none=>pure ():Sem Unit).run P w= .ok () w'->run.run P w= .ok (.slice base (BD+us.length) CC) w')
    (mV:∀base BD CC os,u= .slice base BD CC->¬BD+us.length<=CC->(Builtin.firstCells 1 BD u).run P w.drew= .ok (List.toArray os) w.drew->∃cap rest,BD+us.length<=cap/\(rest:List Value).length=cap-(BD+us.length)/\
      run.run P w= .ok (.slice (some ⟨w.heap.size,0,none⟩) (BD+us.length) cap) (w.drew.alloc (.cells (os++us++rest).toArray el (0,0)))):
    ∃z w',run.run P w= .ok z w'/\∃r H' L',k r H'/\(∀i,i≠id->L' i=L i)/\SR L' H' Av w'/\Step L H w L' H' w'/\R L' w' (MM L' H' Av) r z:=by
  unfold U9 at h;split at h
  · have JF:=hu.EV;by_cases hx:xs=[]
    · have h0:us=[]:=by rw[<-List.length_eq_zero_iff,hl,hx];rfl
      have:=IC none 0 0 w JF (by simp[h0]) rfl;refine⟨_,_,this,.nl,H,L,h.1 hx,λ_ _=>rfl,hs,Step.refl _ _ _,?_⟩;rw[h0];exact .nl
    have qQ:0<us.length:=by rw[hl];exact List.length_pos_iff.2 hx
    obtain⟨cap,rest,h1,h2,h3⟩:=mV none 0 0 [] JF A0 (by rw[JF];simp[Builtin.firstCells]);obtain⟨h4,h5⟩:=KK hs.drew hL hi ([]++us++rest).toArray el cap xs (by simp;omega) A0 (by
      intro k y hk;obtain⟨c,h6,h7⟩:=hr k y hk;have C4:=(List.getElem?_eq_some_iff.1 h6).1;exact⟨c,by rw[List.getElem?_toArray,List.nil_append,List.getElem?_append_left C4];exact h6,h7.drew⟩)
    refine⟨_,_,h3,_,_,_,h.2 hx,λi AQ=>CK _ _ AQ,h4,(Step.drew _ _ _).trans h5,?_⟩;rw[Nat.zero_add,hl];exact .h _ _ _ _ _ _ (C3 _ _ _) A0 AB (.inr AB) rfl
  · rename_i i off n;obtain⟨cs,P6,hlen,h⟩:=h;cases hu with
    | h _ _ _ l a cp Xe hn hc ha h0=>
      obtain⟨l',I9,D0⟩:=hs.node i cs P6;rw[Xe]at I9;cases I9;obtain⟨arr,et,e2,e3,e4,e5⟩:=D0.ex h0;by_cases ZX:n+us.length<=cp
      · have ER:(storeCells (a.add n) us).run P w= .ok () (CM w l.CP (.cells (arr.toList.take (l.off+off+n)++us++arr.toList.drop (l.off+off+n+us.length)).toArray et (0,0))):=by
          by_cases YL:cp=0
          · have h0:us=[]:=by rw[<-List.length_eq_zero_iff];omega
            subst h0;have:(arr.toList.take (l.off+off+n)++[]++arr.toList.drop (l.off+off+n+([]:List Value).length)).toArray=arr:=AB;rw[this,WG e2];simp[storeCells]
          have:=O4 (P:=P) (w:=w) (g:=l.CP) (o:=l.off+off+n) us e2 A0 jH;rw[ha.resolve_left YL,HO];exact this
        have h1:=IC (some a) n cp _ rfl ZX ER;obtain⟨h2,h3⟩:=MX (l':=⟨l.CP,l.off+off,cp,0⟩) (id':=id) hs P6 Xe (.inr ⟨hL,hi⟩) rfl rfl (arr.toList.take (l.off+off+n)++us++arr.toList.drop (l.off+off+n+us.length)).toArray et ((cs.drop off).take n++xs) (by simp;omega) (by simp;omega) (by
          intro k y hk;simp only
          rw[O5 arr _ _ A0];rw[List.getElem?_append]at hk;have K0:((cs.drop off).take n).length=n:=by simp;omega
          rw[K0]at hk;split at hk
          · rename_i WE;rw[if_neg A0];simp only[List.getElem?_take,List.getElem?_drop,WE,if_true]at hk;obtain⟨c,h6,h7⟩:=e5 (off+k) y hk;exact⟨c,by rw[Nat.add_assoc];exact h6,h7⟩
          rename_i WE;have C4:=(List.getElem?_eq_some_iff.1 hk).1;rw[if_pos ⟨A0,A0⟩];obtain⟨c,h6,h7⟩:=hr (k-n) y hk;exact⟨c,by rw[show l.off+off+k-(l.off+off+n)=k-n by omega];exact h6,h7⟩)
        refine⟨_,_,h1,_,_,_,h,λj AQ=>CK _ _ AQ,h2,h3,?_⟩;rw[<-hl];exact .h _ _ _ _ _ _ (C3 _ _ _) A0 AB (by simpa using ha) rfl
      obtain⟨a',n',cp',f1,f2,os,f3,f4,f5⟩:=bE (P:=P) hs.drew (x:= .h i off n) (u:= .slice (some a) n cp) (.h _ _ _ l a cp Xe hn hc ha h0) (xs:=(cs.drop off).take n) (by simp[vw,P6,hlen]);cases f1;obtain⟨cap,rest,h1,h2,h3⟩:=mV (some a) n cp os rfl ZX (f4 _ rfl);have mE:os.length=n:=by rw[f3];simp;omega
      have Lf:SR L (AT H i none) Av w:=by
        have WH:∀b,LB L (AT H i none) b->LB L H b:=by
          rintro b ⟨j,c,m,g1,g2,g3⟩;unfold AT at g1;split at g1
          · cases g1
          exact⟨j,c,m,g1,g2,g3⟩
        have Nb:∀j c,AT H i none j=some c->H j=some c:=by
          intro j c g;unfold AT at g;split at g
          · cases g
          exact g
        refine⟨?_,λj j' c c' m m' g1 g2=>hs.inj j j' c c' m m' (Nb _ _ g1) (Nb _ _ g2),λj c m g=>hs.av j c m (Nb _ _ g),hs.PL⟩;intro j c g;obtain⟨m,g1,Xf⟩:=hs.node j c (Nb _ _ g);exact⟨m,g1,Xf.mono rfl λk y hk c' g7=>R.mono (w:=w) (w':=w) (M:=MM L H Av) (M':=MM L (AT H i none) Av) (λ_ _ h=>h) (λ_ _ _=>rfl) (λb _ hb=>Or.elim hb .inl (λh=> .inr (WH b h))) g7⟩
      have HM:AT H i none id=none:=by unfold AT;split;rfl;exact hi
      have NY:∀{y:AV} {c:Value},R L w (MM L H Av) y c->R L w.drew (MM L (AT H i none) Av) y c:=by
        intro y c g;refine R.mono (w:=w) (w':=w.drew) (M:=MM L H Av) (M':=MM L (AT H i none) Av) (λ_ _ h=>h) (λ_ _ _=>rfl) ?_ g;rintro b _ (hb|⟨j,c,m,g1,g2,g3⟩)
        · exact .inl hb
        unfold AT at g1;split at g1
        · cases g1
        exact .inr ⟨j,c,m,g1,g2,g3⟩
      obtain⟨h4,h5⟩:=KK Lf.drew hL HM (os++us++rest).toArray el cap ((cs.drop off).take n++xs) (by simp;omega) (by simp;omega) (by
        intro k y hk;rw[List.getElem?_append]at hk;have K0:((cs.drop off).take n).length=n:=by simp;omega
        rw[K0]at hk;split at hk
        · rename_i WE;obtain⟨c,h6,h7⟩:=f5 k y hk;refine⟨c,?_,NY h7.Cb⟩;rw[List.getElem?_toArray,List.append_assoc,List.getElem?_append_left A0];exact h6
        rename_i WE;have C4:=(List.getElem?_eq_some_iff.1 hk).1;obtain⟨c,h6,h7⟩:=hr (k-n) y hk;refine⟨c,?_,NY h7⟩;rw[List.getElem?_toArray,List.append_assoc,List.getElem?_append_right A0,mE,List.getElem?_append_left A0];exact h6)
      have h6:Step L H w L (AT H i none) w:=by
        refine⟨λ_ _ h=>h,rfl,rfl,⟨rfl,Nat.le_refl _⟩,Nat.le_refl _,λ_ _ _=>rfl,?_⟩;rintro b _ ⟨j,c,m,g1,g2,g3⟩;unfold AT at g1;split at g1
        · cases g1
        exact⟨j,c,m,g1,g2,g3⟩
      refine⟨_,_,h3,_,_,_,h,λj AQ=>CK _ _ AQ,h4,(h6.trans (Step.drew _ _ _)).trans h5,?_⟩;rw[<-hl];exact .h _ _ _ _ _ _ (C3 _ _ _) A0 AB (.inr AB) rfl
  exact h.elim
theorem mW{sz m:Nat}{L:LM}{Av:Nat->Prop}{w:World}(hs:SR L H Av w)(hL:L id=none)(hi:H id=none){x:AV}{u:Value}(hu:R L w (MM L H Av) x u){el:TypeId}
    {xs:List AV} {us:List Value} (hl:us.length=xs.length) (Lg:xs.length=m*sz) (hr:∀(k:Nat) (y:AV),xs[k]? =some y->∃c,us[k]? =some c/\R L w (MM L H Av) y c) (jH:∀v∈us,v.oneCell'=true)
    {k:AV->HP->Prop} (h:mU sz H x m xs id k) (run:Sem Value)
    (IC:∀base BD CC w',u= .slice base BD CC->BD+m<=CC->(match base with|some a=>storeCells (a.add (BD*sz)) us|none=>pure ():Sem Unit).run P w= .ok () w'->run.run P w= .ok (.slice base (BD+m) CC) w')
    (mV:∀base BD CC os,u= .slice base BD CC->¬BD+m<=CC->(Builtin.firstCells sz BD u).run P w.drew= .ok (List.toArray os) w.drew->∃cap rest,BD+m<=cap/\(rest:List Value).length=(cap-(BD+m))*sz/\
      run.run P w= .ok (.slice (some ⟨w.heap.size,0,none⟩) (BD+m) cap) (w.drew.alloc (.cells (os++us++rest).toArray el (0,0)))):
    ∃z w',run.run P w= .ok z w'/\∃r H' L',k r H'/\(∀i,i≠id->L' i=L i)/\SR L' H' Av w'/\Step L H w L' H' w'/\R L' w' (MM L' H' Av) r z:=by
  unfold mU at h;split at h
  · have JF:=hu.EV;by_cases hx:m=0
    · have h0:us=[]:=by rw[<-List.length_eq_zero_iff,hl,Lg,hx];simp
      have:=IC none 0 0 w JF (by simp[hx]) rfl;refine⟨_,_,this,.nl,H,L,h.1 hx,λ_ _=>rfl,hs,Step.refl _ _ _,?_⟩;rw[hx];exact .nl
    obtain⟨cap,rest,h1,h2,h3⟩:=mV none 0 0 [] JF A0 (by rw[JF];simp[Builtin.firstCells]);have e1:(0+m)*sz+(cap-(0+m))*sz=cap*sz:=by rw[<-Nat.add_mul];congr 1;omega
    rw[Nat.zero_add]at e1 h2;obtain⟨h4,h5⟩:=KK hs.drew hL hi ([]++us++rest).toArray el (cap*sz) xs (by simp;omega) A0 (by
      intro k y hk;obtain⟨c,h6,h7⟩:=hr k y hk;have C4:=(List.getElem?_eq_some_iff.1 h6).1;exact⟨c,by rw[List.getElem?_toArray,List.nil_append,List.getElem?_append_left C4];exact h6,h7.drew⟩)
    refine⟨_,_,h3,_,_,_,h.2 hx,λi AQ=>CK _ _ AQ,h4,(Step.drew _ _ _).trans h5,?_⟩;rw[Nat.zero_add];exact .hs _ _ _ _ _ _ _ (C3 _ _ _) A0 AB (.inr AB) rfl
  · rename_i s i off n;obtain⟨hss,cs,P6,hlen,h⟩:=h;subst hss;cases hu with
    | hs _ _ _ _ l a cp Xe hn hc ha h0=>
      obtain⟨l',I9,D0⟩:=hs.node i cs P6;rw[Xe]at I9;cases I9;obtain⟨arr,et,e2,e3,e4,e5⟩:=D0.ex h0;have K0:((cs.drop off).take (n*s)).length=n*s:=by simp;omega
      by_cases ZX:n+m<=cp
      · have hmul:n*s+m*s<=cp*s:=by rw[<-Nat.add_mul];exact Nat.mul_le_mul_right _ ZX
        have ER:(storeCells (a.add (n*s)) us).run P w= .ok () (CM w l.CP (.cells (arr.toList.take (l.off+off+n*s)++us++arr.toList.drop (l.off+off+n*s+us.length)).toArray et (0,0))):=by
          by_cases YL:cp=0
          · have uC:m=0:=A0;have h0:us=[]:=by rw[<-List.length_eq_zero_iff,hl,Lg,uC];simp
            subst h0;have:(arr.toList.take (l.off+off+n*s)++[]++arr.toList.drop (l.off+off+n*s+([]:List Value).length)).toArray=arr:=AB;rw[this,WG e2];simp[storeCells]
          have:=O4 (P:=P) (w:=w) (g:=l.CP) (o:=l.off+off+n*s) us e2 A0 jH;rw[ha.resolve_left YL,HO];exact this
        have h1:=IC (some a) n cp _ rfl ZX ER;obtain⟨h2,h3⟩:=MX (l':=⟨l.CP,l.off+off,cp*s,0⟩) (id':=id) hs P6 Xe (.inr ⟨hL,hi⟩) rfl rfl (arr.toList.take (l.off+off+n*s)++us++arr.toList.drop (l.off+off+n*s+us.length)).toArray et ((cs.drop off).take (n*s)++xs) (by simp;omega) (by rw[List.length_append,K0];show _<=cp*s;omega) (by
          intro k y hk;simp only
          rw[O5 arr _ _ A0];rw[List.getElem?_append,K0]at hk;split at hk
          · rename_i WE;rw[if_neg A0];simp only[List.getElem?_take,List.getElem?_drop,WE,if_true]at hk;obtain⟨c,h6,h7⟩:=e5 (off+k) y hk;exact⟨c,by rw[Nat.add_assoc];exact h6,h7⟩
          rename_i WE;have C4:=(List.getElem?_eq_some_iff.1 hk).1;rw[if_pos ⟨A0,A0⟩];obtain⟨c,h6,h7⟩:=hr (k-n*s) y hk;exact⟨c,by rw[show l.off+off+k-(l.off+off+n*s)=k-n*s by omega];exact h6,h7⟩)
        refine⟨_,_,h1,_,_,_,h,λj AQ=>CK _ _ AQ,h2,h3,?_⟩;exact .hs _ _ _ _ _ _ _ (C3 _ _ _) A0 AB (by simpa using ha) rfl
      obtain⟨a',cp',f1,f2,os,f3,f4,f5⟩:=uB (P:=P) (sz:=s) hs.drew (x:= .hs s i off n) (u:= .slice (some a) n cp) (.hs _ _ _ _ l a cp Xe hn hc ha h0) (m:=n) (xs:=(cs.drop off).take (n*s)) (by simp[vwS,P6,hlen]);cases f1;obtain⟨cap,rest,h1,h2,h3⟩:=mV (some a) n cp os rfl ZX (f4 _ rfl);have mE:os.length=n*s:=by rw[f3];exact K0
      have e1:n*s+m*s+(cap-(n+m))*s=cap*s:=by rw[<-Nat.add_mul,<-Nat.add_mul];congr 1;omega
      have Lf:SR L (AT H i none) Av w:=by
        have WH:∀b,LB L (AT H i none) b->LB L H b:=by
          rintro b ⟨j,c,m,g1,g2,g3⟩;unfold AT at g1;split at g1
          · cases g1
          exact⟨j,c,m,g1,g2,g3⟩
        have Nb:∀j c,AT H i none j=some c->H j=some c:=by
          intro j c g;unfold AT at g;split at g
          · cases g
          exact g
        refine⟨?_,λj j' c c' m m' g1 g2=>hs.inj j j' c c' m m' (Nb _ _ g1) (Nb _ _ g2),λj c m g=>hs.av j c m (Nb _ _ g),hs.PL⟩;intro j c g;obtain⟨m,g1,Xf⟩:=hs.node j c (Nb _ _ g);exact⟨m,g1,Xf.mono rfl λk y hk c' g7=>R.mono (w:=w) (w':=w) (M:=MM L H Av) (M':=MM L (AT H i none) Av) (λ_ _ h=>h) (λ_ _ _=>rfl) (λb _ hb=>Or.elim hb .inl (λh=> .inr (WH b h))) g7⟩
      have HM:AT H i none id=none:=by unfold AT;split;rfl;exact hi
      have NY:∀{y:AV} {c:Value},R L w (MM L H Av) y c->R L w.drew (MM L (AT H i none) Av) y c:=by
        intro y c g;refine R.mono (w:=w) (w':=w.drew) (M:=MM L H Av) (M':=MM L (AT H i none) Av) (λ_ _ h=>h) (λ_ _ _=>rfl) ?_ g;rintro b _ (hb|⟨j,c,m,g1,g2,g3⟩)
        · exact .inl hb
        unfold AT at g1;split at g1
        · cases g1
        exact .inr ⟨j,c,m,g1,g2,g3⟩
      obtain⟨h4,h5⟩:=KK Lf.drew hL HM (os++us++rest).toArray el (cap*s) ((cs.drop off).take (n*s)++xs) (by simp;omega) (by rw[List.length_append,K0];omega) (by
        intro k y hk;rw[List.getElem?_append,K0]at hk;split at hk
        · rename_i WE;obtain⟨c,h6,h7⟩:=f5 k y (by rw[List.getElem?_eq_getElem A0]at hk ⊢;exact hk);refine⟨c,?_,NY h7.Cb⟩;rw[List.getElem?_toArray,List.append_assoc,List.getElem?_append_left A0];exact h6
        rename_i WE;have C4:=(List.getElem?_eq_some_iff.1 hk).1;obtain⟨c,h6,h7⟩:=hr (k-n*s) y hk;refine⟨c,?_,NY h7⟩;rw[List.getElem?_toArray,List.append_assoc,List.getElem?_append_right A0,mE,List.getElem?_append_left A0];exact h6)
      have h6:Step L H w L (AT H i none) w:=by
        refine⟨λ_ _ h=>h,rfl,rfl,⟨rfl,Nat.le_refl _⟩,Nat.le_refl _,λ_ _ _=>rfl,?_⟩;rintro b _ ⟨j,c,m,g1,g2,g3⟩;unfold AT at g1;split at g1
        · cases g1
        exact⟨j,c,m,g1,g2,g3⟩
      refine⟨_,_,h3,_,_,_,h,λj AQ=>CK _ _ AQ,h4,(h6.trans (Step.drew _ _ _)).trans h5,?_⟩;exact .hs _ _ _ _ _ _ _ (C3 _ _ _) A0 AB (.inr AB) rfl
  exact h.elim
theorem uD(hG:IB P Γ){x y:Operand}{t1 t2:TypeId}{ED:Array TypeId}(ho:o.op= .call ⟨.builtin .append,#[x,y],ED⟩)(Ue:ED[0]? =some t1)(Uf:ED[1]? =some t2){k:AV->HP->Prop}
    (h:Bw Γ H t1 t2 (ev x) (ev y) id k):fT P o ev H id k:=by
  unfold Bw at h;split at h
  · rename_i e1 e2 Lh PQ;split at h
    · rename_i el hd;split at h
      · rename_i ee U8;by_cases h1:ee.size=1
        · rw[Ua h1]at h;obtain⟨h2,h⟩:=h;intro L Av w ρ hs mC hL hi B0;have hu:=B0 x (by rw[ho];simp[Op.operands,Call.operands]);have hv:=B0 y (by rw[ho];simp[Op.operands,Call.operands]);have O6:=((hG t1 e1 Lh).slice hd).2;obtain⟨d2,XZ,_,O7⟩:=(hG t2 e2 PQ).D1;rw[<-XZ,<-mT]at h;have hE:=hG el ee U8;have FV:=λw=>hE.CW w
          rw[h1]at FV;obtain⟨z,hz⟩:∃z,ee.zero.cells=#[z]:=by
            cases Lc:ee.zero.cells with
            |mk l=>rw[Lc]at h2;match l,h2 with|[z],_=>exact⟨z,rfl⟩
          have hex:∀z w',(Builtin.append_ ED o.type #[ρ x,ρ y]).run P w= .ok z w'->(execOp ρ o).run P w= .ok (.value z) w':=by
            intro z w' hz;simp only[execOp,ho,resolve,invoke,builtin,Sem.run_bind,Sem.run_pure,Result.andThen_ok,List.map_toArray,List.map_cons,List.map_nil,hz]
          split at h
          · rename_i kk m hy;obtain⟨c1,c2,c3,c4,c5,c6,h⟩:=h;have ZW:m*ee.bytes<=281474976710656:=by
              have h6:(m.toNat:Int)*(ee.bytes:Int)<=140737488355328:=by
                have:m.toNat*ee.bytes<=(fY (ev x)+m.toNat)*ee.bytes:=Nat.mul_le_mul_right _ A0;have h7:m.toNat*ee.bytes<=140737488355328:=A0;rw[<-Int.natCast_mul];generalize m.toNat*ee.bytes=q at h7
                omega
              rw[Int.toNat_of_nonneg c2]at h6;omega
            rw[hy]at hv;have hlen:∀base BD CC,ρ x= .slice base BD CC->BD=fY (ev x):=by
              intro base BD CC hρ;unfold U9 at h;split at h
              · rename_i S7;rw[S7]at hu;have:=hu.EV;rw[hρ]at this;cases this;rw[S7];rfl
              · rename_i i off n S7;rw[S7]at hu;rw[hρ]at hu;cases hu;rw[S7];rfl
              exact h.elim
            have hz0:ee.zero.cells.getD 0 undef=z:=by rw[hz];rfl
            rw[hz0]at c6 h;have mX:z.oneCell'=true:=(IK (R.F6 L w (MM L H Av) z) c6).2;obtain⟨zz,w',E8,r,H',L',q1,q2,q3,q4,q5⟩:=bF (P:=P) (el:=el) hs hL hi hu (xs:=List.replicate m.toNat (F6 z)) (us:=List.replicate m.toNat z) AB (by
                intro k y hk;simp only[List.getElem?_replicate]at hk;split at hk
                · rename_i C4;cases hk;exact⟨z,by simp[C4],R.F6 _ _ _ _⟩
                cases hk) (by intro v hv;rw[(List.mem_replicate.1 hv).2];exact mX) h (Builtin.append_ ED o.type #[ρ x,ρ y])
              (by
                intro base BD CC w' hρ ZX ER;rw[hρ,hv.DV];simp only[List.length_replicate]at ZX ⊢;exact Bx Ue Uf O6 O7 c1 hE h1 c2 c3 ZW hz ZX ER)
              (by
                intro base BD CC os hρ ZX hold;have:=hlen _ _ _ hρ;rw[hρ]at hold;rw[hρ,hv.DV];simp only[List.length_replicate]at ZX ⊢;obtain⟨cap,rest,g1,g2,g3⟩:=By (ty:=o.type) Ue Uf O6 O7 c1 hE h1 (k:=kk) c2 c3 ZW hz hold ZX A0 (by rw[this];exact c4);refine⟨cap,rest,g1,?_,g3⟩;rw[h2]at g2;omega)
            exact .CX (hex _ _ E8) ⟨r,H',L',q1,q2,q3,q4,q5⟩
          obtain⟨c1,xs,Cc,c6,c4,c5,h⟩:=h;obtain⟨a,n,cp,f1,f2,us,f3,f4,f5⟩:=bE (P:=P) hs hv Cc;have hlen:∀base BD CC,ρ x= .slice base BD CC->BD=fY (ev x):=by
            intro base BD CC hρ;unfold U9 at h;split at h
            · rename_i S7;rw[S7]at hu;have:=hu.EV;rw[hρ]at this;cases this;rw[S7];rfl
            · rename_i i off n S7;rw[S7]at hu;rw[hρ]at hu;cases hu;rw[S7];rfl
            exact h.elim
          have mX:∀v∈us,v.oneCell'=true:=by
            intro v hv;obtain⟨j,hj,Xb⟩:=List.getElem_of_mem hv;have fM:j<xs.length:=A0;obtain⟨c,e9,e10⟩:=f5 j _ (List.getElem?_eq_getElem fM);have hcv:c=v:=by
              rw[List.getElem?_eq_getElem hj,Xb]at e9;exact(Option.some.inj e9).symm
            rw[<-hcv];exact(IK e10 (c6 _ (List.getElem_mem fM))).2
          have MD:∀w,(Builtin.lenOf (ρ y)).run P w= .ok us.length w:=by
            intro w;rw[f1];simp only[Builtin.lenOf,Sem.run_pure];rw[show us.length=n by omega]
          have hf4:(Builtin.firstCells 1 us.length (ρ y)).run P w= .ok us.toArray w:=by
            rw[show us.length=n by omega];exact f4 _ rfl
          have A9X:(Builtin.firstCells 1 us.length (ρ y)).run P w.drew= .ok us.toArray w.drew:=by
            rw[show us.length=n by omega];exact f4 _ rfl
          obtain⟨zz,w',E8,r,H',L',q1,q2,q3,q4,q5⟩:=bF (P:=P) (el:=el) hs hL hi hu (xs:=xs) (us:=us) f3 f5 mX h (Builtin.append_ ED o.type #[ρ x,ρ y])
            (by
              intro base BD CC w' hρ ZX ER;rw[hρ];exact My Ue Uf O6 O7 c1 FV (MD w) hf4 ZX ER)
            (by
              intro base BD CC os hρ ZX hold;have:=hlen _ _ _ hρ;rw[hρ]at hold;rw[hρ];obtain⟨cap,rest,g1,g2,g3⟩:=Na (ty:=o.type) Ue Uf O6 O7 c1 hE h1 (MD w) A9X hold ZX A0 (by rw[this,f3];exact c4) (.inr A0);refine⟨cap,rest,g1,?_,g3⟩;rw[h2]at g2;omega)
          exact .CX (hex _ _ E8) ⟨r,H',L',q1,q2,q3,q4,q5⟩
        rw[Ub h1]at h;obtain⟨c1,h2,⟨m,xs⟩,Cc,c6,c4,c5,h⟩:=h;intro L Av w ρ hs mC hL hi B0;have hu:=B0 x (by rw[ho];simp[Op.operands,Call.operands]);have hv:=B0 y (by rw[ho];simp[Op.operands,Call.operands]);have O6:=((hG t1 e1 Lh).slice hd).2;obtain⟨d2,XZ,_,O7⟩:=(hG t2 e2 PQ).D1;rw[<-XZ,<-mT]at c1;have hE:=hG el ee U8;have FV:=λw=>hE.CW w
        have hex:∀z w',(Builtin.append_ ED o.type #[ρ x,ρ y]).run P w= .ok z w'->(execOp ρ o).run P w= .ok (.value z) w':=by
          intro z w' hz;simp only[execOp,ho,resolve,invoke,builtin,Sem.run_bind,Sem.run_pure,Result.andThen_ok,List.map_toArray,List.map_cons,List.map_nil,hz]
        obtain⟨a,cp,f1,f2,us,f3,f4,f5⟩:=uB (P:=P) hs hv Cc;have hlen:∀base BD CC,ρ x= .slice base BD CC->BD=Mx (ev x):=by
          intro base BD CC hρ;unfold mU at h;split at h
          · rename_i S7;rw[S7]at hu;have:=hu.EV;rw[hρ]at this;cases this;rw[S7];rfl
          · rename_i s i off n S7;rw[S7]at hu;rw[hρ]at hu;cases hu;rw[S7];rfl
          exact h.elim
        have mX:∀v∈us,v.oneCell'=true:=by
          intro v hv;obtain⟨j,hj,Xb⟩:=List.getElem_of_mem hv;have fM:j<xs.length:=A0;obtain⟨c,e9,e10⟩:=f5 j _ (List.getElem?_eq_getElem fM);have hcv:c=v:=by
            rw[List.getElem?_eq_getElem hj,Xb]at e9;exact(Option.some.inj e9).symm
          rw[<-hcv];exact(IK e10 (c6 _ (List.getElem_mem fM))).2
        have MD:∀w,(Builtin.lenOf (ρ y)).run P w= .ok m w:=by
          intro w;rw[f1];simp only[Builtin.lenOf,Sem.run_pure]
        obtain⟨zz,w',E8,r,H',L',q1,q2,q3,q4,q5⟩:=mW (P:=P) (el:=el) hs hL hi hu (xs:=xs) (us:=us) f3 f2 f5 mX h (Builtin.append_ ED o.type #[ρ x,ρ y])
          (by
            intro base BD CC w' hρ ZX ER;rw[hρ];exact Bz Ue Uf O6 O7 c1 FV (MD w) (f4 _ rfl) ZX ER)
          (by
            intro base BD CC os hρ ZX hold;have:=hlen _ _ _ hρ;rw[hρ]at hold;rw[hρ];obtain⟨cap,rest,g1,g2,g3⟩:=Ca (ty:=o.type) Ue Uf O6 O7 c1 hE rfl (MD w) (f4 _ rfl) hold ZX A0 (by rw[this];exact c4) (.inr A0);refine⟨cap,rest,g1,?_,g3⟩;rw[h2]at g2;omega)
        exact .CX (hex _ _ E8) ⟨r,H',L',q1,q2,q3,q4,q5⟩
      exact h.elim
    exact h.elim
  exact h.elim
end
end Go.Proofs.YtgknbnkmilddhaaGreat

namespace Go.Proofs.YtgknbnkmilddhaaGreat
def Ent(P:Program)(f:FuncId):Prop:=∃fn,P.funcs[f]? =some fn/\fn.body.isNone=false/\(fn.name== "runtime.NumGoroutine")=false
def ID(L:LM)(w:World)(M:Nat->Prop)(Zz:List AV)(us:Array Value):Prop:=
  us.size=Zz.length/\∀(k:Nat) (x:AV),Zz[k]? =some x->R L w M x (us.getD k undef)
def AC(P:Program)(f:FuncId)(nx:Nat)(H:HP)(Zz:List AV)(Q:Nat->HP->AV->Prop):Prop:=
  Ent P f/\∀(L:LM) (Av:Nat->Prop) (w:World) (us:Array Value),SR L H Av w->(∀i,nx<=i->L i=none)->ID L w (MM L H Av) Zz us->
    Calls P f us w λe w'=>∃u r L' BB H',e= .returned u/\Q BB H' r/\nx<=BB/\(∀i,BB<=i->L' i=none)/\(∀i,i<nx->L' i=L i)/\SR L' H' Av w'/\Step L H w L' H' w'/\R L' w' (MM L' H' Av) r u
theorem AC.mono{P:Program}{f:FuncId}{nx:Nat}{H:HP}{Zz:List AV}{Q Q':Nat->HP->AV->Prop}(h:AC P f nx H Zz Q)(hq:∀n H r,Q n H r->Q' n H r):AC P f nx H Zz Q':=
  ⟨h.1,λL Av w us a b c=>(h.2 L Av w us a b c).mono λe w' ⟨u,r,L',BB,H',h1,h2,h3⟩=>⟨u,r,L',BB,H',h1,hq _ _ _ h2,h3⟩⟩
def BM:HP:=λ_=>none
def BI(P:Program)(f:FuncId)(Zz:List AV)(r:AV):Prop:=
  Ent P f/\∀(L:LM) (M:Nat->Prop) (w:World) (us:Array Value),(∀b,M b->b<w.heap.size)->(∃n,∀i,n<=i->L i=none)->ID L w M Zz us->
    Calls P f us w λe w'=>∃u,e= .returned u/\Step L BM w L BM w'/\R L w' M r u
theorem JK{L:LM}{b:Nat}:¬LB L BM b:=by rintro⟨id,cs,l,h,_⟩;cases h
theorem WI{L:LM}{M:Nat->Prop}{w:World}(h:∀b,M b->b<w.heap.size):SR L BM M w:=
  ⟨λid cs h=>(by cases h),λid id' cs CT l l' h=>(by cases h),λid cs l h=>(by cases h),h⟩
theorem WJ{L:LM}{M:Nat->Prop}:MM L BM M=M:=by
  funext b;apply propext
  exact⟨λh=>h.elim id (λh=>absurd h JK),.inl⟩
theorem uE{L:LM}{H:HP}{Av:Nat->Prop}{w:World}(s:SR L H Av w):∀b,MM L H Av b->b<w.heap.size:=
  λb h=>h.elim (s.PL b) (LX s)
theorem SR.kept{L:LM}{H:HP}{Av:Nat->Prop}{w w':World}(s:SR L H Av w)(st:Step L BM w L BM w'):SR L H Av w'/\Step L H w L H w':=by
  have hk:∀b,b<w.heap.size->w'.heap[b]? =w.heap[b]? :=λb hb=>st.AJ b hb JK
  have ER:Step L H w L H w':=⟨λ_ _ h=>h,st.os,st.tape,st.output,st.size,λb hb _=>hk b hb,λ_ _ h=>h⟩;refine⟨⟨?_,s.inj,s.av,λb hb=>Nat.lt_of_lt_of_le (s.PL b hb) st.size⟩,ER⟩;intro id cs h;obtain⟨l,h1,D0⟩:=s.node id cs h;exact⟨l,h1,D0.mono (hk _ D0.lt) λk x hx u h7=>h7.step ER⟩
inductive Vw (H:HP):AV->AV->Prop
  |refl (a:AV):Vw H a a
  |nl:Vw H .nl (.v 0 [])
  |h (id o n:Nat) (cs ts:List AV) (h1:H id=some cs) (h2:o+n<=cs.length) (h3:ts.length=n) (h4:∀(k:Nat) (x y:AV),cs[o+k]? =some x->ts[k]? =some y->Vw H x y):Vw H (.h id o n) (.v n ts)
  |hs (s id o n:Nat) (cs ts:List AV) (h1:H id=some cs) (h2:o+n*s<=cs.length) (h3:ts.length=n*s) (h4:∀(k:Nat) (x y:AV),cs[o+k]? =some x->ts[k]? =some y->Vw H x y):Vw H (.hs s id o n) (.v n ts)
  |q (id o:Nat) (cs ts:List AV) (h1:H id=some cs) (h3:ts.length=cs.length) (h4:∀(k:Nat) (x y:AV),cs[k]? =some x->ts[k]? =some y->Vw H x y):Vw H (.q id o) (.p o ts)
  |g (cs ts:List AV) (h3:ts.length=cs.length) (h4:∀(k:Nat) (x y:AV),cs[k]? =some x->ts[k]? =some y->Vw H x y):Vw H (.g cs) (.g ts)
  |t (cs ts:List AV) (h3:ts.length=cs.length) (h4:∀(k:Nat) (x y:AV),cs[k]? =some x->ts[k]? =some y->Vw H x y):Vw H (.t cs) (.t ts)
  |v (n:Nat) (cs ts:List AV) (h3:ts.length=cs.length) (h4:∀(k:Nat) (x y:AV),cs[k]? =some x->ts[k]? =some y->Vw H x y):Vw H (.v n cs) (.v n ts)
  |p (n:Nat) (cs ts:List AV) (h3:ts.length=cs.length) (h4:∀(k:Nat) (x y:AV),cs[k]? =some x->ts[k]? =some y->Vw H x y):Vw H (.p n cs) (.p n ts)
  |f (n:Nat) (cs ts:List AV) (h3:ts.length=cs.length) (h4:∀(k:Nat) (x y:AV),cs[k]? =some x->ts[k]? =some y->Vw H x y):Vw H (.f n cs) (.f n ts)
theorem Vw.sound{L:LM}{H:HP}{Av:Nat->Prop}{w:World}(s:SR L H Av w){a t:AV}(v:Vw H a t):∀{u:Value},R L w (MM L H Av) a u->R L w Av t u:=by
  have hM:∀{x:AV} {u:Value},R L w (MM L H Av) x u->R L w Av x u:=λh=>h.mono (λ_ _ h=>h) (λ_ _ _=>rfl) (λ_ _ h=> .inl h)
  induction v with
  |refl a=>intro u h;exact hM h
  |nl=>intro u h;rw[h.EV];exact .v0 _ _
  | h id o n cs ts h1 h2 h3 h4 ih=>
    intro u h;obtain⟨l,hl,D0⟩:=s.node id cs h1;cases h with
    | h _ _ _ l' ad cp I9 hn hc ha h0=>
      rw[hl]at I9;cases I9;obtain⟨arr,e,e2,e3,e4,e5⟩:=D0.ex h0;by_cases PH:n=0
      · subst PH;have:ts=[]:=List.length_eq_zero_iff.1 h3;subst this;exact .v0 _ _
      rw[ha.resolve_left A0];have F7:∀k,k<n->∃u,arr[l.off+o+k]? =some u/\R L w (MM L H Av) (cs.getD (o+k) .j) u:=by
        intro j hj;have C4:o+j<cs.length:=A0;obtain⟨u,h3,h4⟩:=e5 (o+j) cs[o+j] (List.getElem?_eq_getElem C4);exact⟨u,by rw[Nat.add_assoc];exact h3,by simpa[C4]using h4⟩
      refine .v n ts l.CP (l.off+o) cp arr e _ (λk=>arr.getD (l.off+o+k) undef) (s.av id cs l h1 hl) e2 hn ?_ ?_
      · intro k hk;obtain⟨u,h6,_⟩:=F7 k A0;rw[h6];simp[h6]
      intro k y hy;have hk:=(List.getElem?_eq_some_iff.1 hy).1;obtain⟨u,h6,h7⟩:=F7 k A0;have C4:o+k<cs.length:=A0;have hx:cs[o+k]? =some (cs.getD (o+k) .j):=by simp[C4]
      have:=ih k _ y hx hy h7;rw[show arr.getD (l.off+o+k) undef=u by simp[h6]];exact this
  | hs z id o n cs ts h1 h2 h3 h4 ih=>
    intro u h;obtain⟨l,hl,D0⟩:=s.node id cs h1;cases h with
    | hs _ _ _ _ l' ad cp I9 hn hc ha h0=>
      rw[hl]at I9;cases I9;obtain⟨arr,e,e2,e3,e4,e5⟩:=D0.ex h0;by_cases PH:n=0
      · subst PH;have:ts=[]:=List.length_eq_zero_iff.1 (by simpa using h3);subst this;exact .v0 _ _
      rw[ha.resolve_left A0];have F7:∀k,k<n*z->∃u,arr[l.off+o+k]? =some u/\R L w (MM L H Av) (cs.getD (o+k) .j) u:=by
        intro j hj;have C4:o+j<cs.length:=A0;obtain⟨u,h3,h4⟩:=e5 (o+j) cs[o+j] (List.getElem?_eq_getElem C4);exact⟨u,by rw[Nat.add_assoc];exact h3,by simpa[C4]using h4⟩
      refine .v n ts l.CP (l.off+o) cp arr e _ (λk=>arr.getD (l.off+o+k) undef) (s.av id cs l h1 hl) e2 hn ?_ ?_
      · intro k hk;obtain⟨u,h6,_⟩:=F7 k A0;rw[h6];simp[h6]
      intro k y hy;have hk:=(List.getElem?_eq_some_iff.1 hy).1;obtain⟨u,h6,h7⟩:=F7 k A0;have C4:o+k<cs.length:=A0;have hx:cs[o+k]? =some (cs.getD (o+k) .j):=by simp[C4]
      have:=ih k _ y hx hy h7;rw[show arr.getD (l.off+o+k) undef=u by simp[h6]];exact this
  | q id o cs ts h1 h3 h4 ih=>
    intro u h;obtain⟨l,hl,D0⟩:=s.node id cs h1;obtain⟨l',⟨I9,h0⟩,hu⟩:=h.gZ;rw[hl]at I9;cases I9;obtain⟨arr,e,e2,e3,e4,e5⟩:=D0.ex h0;rw[hu];refine .p o ts l.CP l.off arr e _ (λk=>arr.getD (l.off+k) undef) (s.av id cs l h1 hl) e2 ?_ ?_
    · intro k hk;obtain⟨u,h6,_⟩:=e5 k cs[k] (List.getElem?_eq_getElem A0);rw[h6];simp[h6]
    intro k y hy;have hk:=(List.getElem?_eq_some_iff.1 hy).1;obtain⟨u,h6,h7⟩:=e5 k cs[k] (List.getElem?_eq_getElem A0);have:=ih k _ y (List.getElem?_eq_getElem A0) hy h7;rw[show arr.getD (l.off+k) undef=u by simp[h6]];exact this
  | g cs ts h3 h4 ih=>
    intro u h;cases h with
    | g _ us hs hr=>
      refine .g ts us A0 ?_;intro k y hy;have hk:=(List.getElem?_eq_some_iff.1 hy).1;have hx:cs[k]? =some cs[k]:=List.getElem?_eq_getElem A0;exact ih k _ y hx hy (hr k _ hx)
  | t cs ts h3 h4 ih=>
    intro u h;cases h with
    | t _ us hs hr=>
      refine .t ts us A0 ?_;intro k y hy;have hk:=(List.getElem?_eq_some_iff.1 hy).1;have hx:cs[k]? =some cs[k]:=List.getElem?_eq_getElem A0;exact ih k _ y hx hy (hr k _ hx)
  | f n cs ts h3 h4 ih=>
    intro u h;cases h with
    | f _ _ us hs hr=>
      refine .f n ts us A0 ?_;intro k y hy;have hk:=(List.getElem?_eq_some_iff.1 hy).1;have hx:cs[k]? =some cs[k]:=List.getElem?_eq_getElem A0;exact ih k _ y hx hy (hr k _ hx)
  | v n cs ts h3 h4 ih=>
    intro u h;cases h with
    | v0 a cp=>
      have:ts=[]:=List.length_eq_zero_iff.1 (by simpa using h3);subst this;exact .v0 _ _
    | v _ _ b off cp arr e f us hm hb hn hu hr=>
      refine .v n ts b off cp arr e f us (λh=>hm (.inl h)) hb hn (λk hk=>hu k A0) ?_;intro k y hy;have hk:=(List.getElem?_eq_some_iff.1 hy).1;have hx:cs[k]? =some cs[k]:=List.getElem?_eq_getElem A0;exact ih k _ y hx hy (hr k _ hx)
  | p n cs ts h3 h4 ih=>
    intro u h;cases h with
    | p _ _ b off arr e f us hm hb hu hr=>
      refine .p n ts b off arr e f us (λh=>hm (.inl h)) hb (λk hk=>hu k A0) ?_;intro k y hy;have hk:=(List.getElem?_eq_some_iff.1 hy).1;have hx:cs[k]? =some cs[k]:=List.getElem?_eq_getElem A0;exact ih k _ y hx hy (hr k _ hx)
inductive ZY (H:HP):List AV->List AV->Prop
  |nil:ZY H [] []
  |cons {a t:AV} {Zz ts:List AV} (h:Vw H a t) (hs:ZY H Zz ts):ZY H (a::Zz) (t::ts)
theorem ZY.get{H:HP}{Zz ts:List AV}(h:ZY H Zz ts):ts.length=Zz.length/\∀(k:Nat) (t:AV),ts[k]? =some t->∃a,Zz[k]? =some a/\Vw H a t:=by
  induction h with
  |nil=>exact⟨rfl,AB⟩
  | cons h hs ih=>
    refine⟨by simp[ih.1],?_⟩;intro k t hk;cases k with
    |zero=>simp at hk;subst hk;exact⟨_,rfl,h⟩
    |succ k=>exact ih.2 k t (by simpa using hk)
theorem ID.view{L:LM}{H:HP}{Av:Nat->Prop}{w:World}(s:SR L H Av w){Zz ts:List AV}{us:Array Value}(h:ID L w (MM L H Av) Zz us)(v:ZY H Zz ts):ID L w Av ts us:=by
  obtain⟨h1,h2⟩:=v.get;refine⟨by rw[h.1,h1],?_⟩;intro k t hk;obtain⟨a,h3,h4⟩:=h2 k t hk;exact h4.sound s (h.2 k a h3)
def RC(P:Program)(f:FuncId)(H:HP)(Zz:List AV)(r:AV):Prop:=
  BI P f Zz r\/∃ts,ZY H Zz ts/\BI P f ts r/\Fl r
theorem RC.run{P:Program}{f:FuncId}{H H':HP}{Zz:List AV}{r:AV}(h:RC P f H Zz r)(hH:∀i c,H i=some c->H' i=some c):Ent P f/\∀(L:LM) (Av:Nat->Prop) (w:World) (us:Array Value),SR L H' Av w->(∃n,∀i,n<=i->L i=none)->ID L w (MM L H' Av) Zz us->
    Calls P f us w λe w'=>∃u,e= .returned u/\SR L H' Av w'/\Step L H' w L H' w'/\R L w' (MM L H' Av) r u:=by
  rcases h with h|⟨ts,hv,h,hf⟩
  · refine⟨h.1,λL Av w us s hn a=>(h.2 L _ w us (uE s) hn a).mono ?_⟩;rintro e w' ⟨u,h1,h2,h3⟩;exact⟨u,h1,(s.kept h2).1,(s.kept h2).2,h3⟩
  refine⟨h.1,λL Av w us s hn a=>(h.2 L _ w us s.PL hn (a.view s ?_)).mono ?_⟩
  · have mono:∀{a t:AV},Vw H a t->Vw H' a t:=by
      intro a t v;induction v with
      |refl a=>exact .refl a
      |nl=>exact .nl
      |h id o n cs ts h1 h2 h3 h4 ih=>exact .h id o n cs ts (hH _ _ h1) h2 h3 ih
      |hs s id o n cs ts h1 h2 h3 h4 ih=>exact .hs s id o n cs ts (hH _ _ h1) h2 h3 ih
      |q id o cs ts h1 h3 h4 ih=>exact .q id o cs ts (hH _ _ h1) h3 ih
      |g cs ts h3 h4 ih=>exact .g cs ts h3 ih
      |t cs ts h3 h4 ih=>exact .t cs ts h3 ih
      |v n cs ts h3 h4 ih=>exact .v n cs ts h3 ih
      |p n cs ts h3 h4 ih=>exact .p n cs ts h3 ih
      |f n cs ts h3 h4 ih=>exact .f n cs ts h3 ih
    clear a h;induction hv with
    |nil=>exact .nil
    |cons h hs ih=>exact .cons (mono h) ih
  rintro e w' ⟨u,h1,h2,h3⟩;exact⟨u,h1,(s.kept h2).1,(s.kept h2).2,h3.fl (λ_ _ h=>h) hf⟩
theorem WK{P:Program}{f:FuncId}(he:Ent P f){o:Oper}{ρ:Operand->Value}{args:Array Operand}{ED:Array TypeId}(ho:o.op= .call ⟨.value (.func f),args,ED⟩)(hρ:ρ (.func f)= .func (.func f) #[] #[])(w:World):
    (execOp ρ o).run P w= .ok (.enter f (args.map ρ)) w:=by
  obtain⟨fn,h1,h2,h3⟩:=he;have D9:¬fn.body=none:=by intro hn;rw[hn]at h2;cases h2
  have Xg:¬fn.name= "runtime.NumGoroutine" :=by simpa using h3
  simp[execOp,ho,resolve,Deferred.ofValue,hρ,invoke,callFunc,h1,D9,Xg]
theorem jI{L:LM}{w:World}{M:Nat->Prop}{o:Oper}{ev:Operand->AV}{ρ:Operand->Value}{f:FuncId}{args:Array Operand}{ED:Array TypeId}(ho:o.op= .call ⟨.value (.func f),args,ED⟩)
    (B0:∀x∈o.op.operands,R L w M (ev x) (ρ x)):ID L w M (args.toList.map ev) (args.map ρ):=by
  refine⟨AB,?_⟩;intro k x hk;simp only[List.getElem?_map,Option.map_eq_some_iff,Array.getElem?_toList]at hk;obtain⟨y,h1,h2⟩:=hk;have hm:y∈o.op.operands:=by
    rw[ho];simp only[Op.operands,Call.operands,Array.mem_append];exact .inr (Array.mem_of_getElem? h1)
  have:=B0 y hm;rw[<-h2];simpa[h1]using this
theorem R.mY{L:LM}{w:World}{M:Nat->Prop}{f:Nat}{cs:List AV}{u:Value}(h:R L w M (.f f cs) u):∃us,u= .func (.func f) #[] us/\ID L w M cs us:=by
  cases h with
  |f _ _ us hs hr=>exact⟨us,rfl,hs,hr⟩
theorem R.Xh{L:LM}{w:World}{M:Nat->Prop}{f:Nat}{u:Value}(h:R L w M (.f f []) u):u= .func (.func f) #[] #[]:=by
  obtain⟨us,h1,h2,_⟩:=h.mY;have:us=#[]:=by simpa using h2
  rw[h1,this]
theorem ID.append{L:LM}{w:World}{M:Nat->Prop}{xs cs:List AV}{us vs:Array Value}(h1:ID L w M xs us)(h2:ID L w M cs vs):ID L w M (xs++cs) (us++vs):=by
  refine⟨by simp[h1.1,h2.1],?_⟩;intro k x hk;rw[List.getElem?_append]at hk;rw[Array.getD_eq_getD_getElem?,Array.getElem?_append];split at hk
  · rename_i C4;rw[if_pos (by rw[h1.1];exact C4)];have:=h1.2 k x hk;rwa [Array.getD_eq_getD_getElem?]at this
  rename_i C4;rw[if_neg (by rw[h1.1];exact C4),h1.1];have:=h2.2 _ x hk;rwa [Array.getD_eq_getD_getElem?]at this
theorem T7{P:Program}{f:FuncId}(he:Ent P f){o:Oper}{ρ:Operand->Value}{x:Operand}{args:Array Operand}{ED:Array TypeId}{us:Array Value}(ho:o.op= .call ⟨.value x,args,ED⟩)(hρ:ρ x= .func (.func f) #[] us)(w:World):
    (execOp ρ o).run P w= .ok (.enter f (args.map ρ++us)) w:=by
  obtain⟨fn,h1,h2,h3⟩:=he;have D9:¬fn.body=none:=by intro hn;rw[hn]at h2;cases h2
  have Xg:¬fn.name= "runtime.NumGoroutine" :=by simpa using h3
  simp[execOp,ho,resolve,Deferred.ofValue,hρ,invoke,callFunc,h1,D9,Xg]
theorem bG{L:LM}{w:World}{M:Nat->Prop}{o:Oper}{ev:Operand->AV}{ρ:Operand->Value}{x:Operand}{args:Array Operand}{ED:Array TypeId}(ho:o.op= .call ⟨.value x,args,ED⟩)
    (B0:∀x∈o.op.operands,R L w M (ev x) (ρ x)):ID L w M (args.toList.map ev) (args.map ρ):=by
  refine⟨AB,?_⟩;intro k x hk;simp only[List.getElem?_map,Option.map_eq_some_iff,Array.getElem?_toList]at hk;obtain⟨y,h1,h2⟩:=hk;have hm:y∈o.op.operands:=by
    rw[ho];simp only[Op.operands,Call.operands,Array.mem_append];exact .inr (Array.mem_of_getElem? h1)
  have:=B0 y hm;rw[<-h2];simpa[h1]using this
theorem R.A3V{L:LM}{w:World}{M:Nat->Prop}{x u:Value}(h:R L w M (.c x) u):u=x:=by cases h;rfl
inductive Tg:Prop->Type
  |mk (p:Prop):Tg p
structure CH(x want:Bool)(yes no:Prop)(a:Tg yes)(b:Tg no):Prop where
  y:x=want->yes
  n:x=(!want)->no
structure mZ(z:Bool)(yes no:Prop)(a:Tg yes)(b:Tg no):Prop where
  y:z=true->yes
  n:z=false->no
theorem gB1{y n:Prop}{a:Tg y}{b:Tg n}:CH true true y n a b=y:=propext ⟨λh=>h.1 rfl,λh=>⟨λ_=>h,(λe=>by cases e)⟩⟩
theorem gB2{y n:Prop}{a:Tg y}{b:Tg n}:CH false false y n a b=y:=propext ⟨λh=>h.1 rfl,λh=>⟨λ_=>h,(λe=>by cases e)⟩⟩
theorem gB3{y n:Prop}{a:Tg y}{b:Tg n}:CH true false y n a b=n:=propext ⟨λh=>h.2 rfl,λh=>⟨(λe=>by cases e),λ_=>h⟩⟩
theorem gB4{y n:Prop}{a:Tg y}{b:Tg n}:CH false true y n a b=n:=propext ⟨λh=>h.2 rfl,λh=>⟨(λe=>by cases e),λ_=>h⟩⟩
theorem pB1{y n:Prop}{a:Tg y}{b:Tg n}:mZ true y n a b=y:=propext ⟨λh=>h.1 rfl,λh=>⟨λ_=>h,(λe=>by cases e)⟩⟩
theorem pB2{y n:Prop}{a:Tg y}{b:Tg n}:mZ false y n a b=n:=propext ⟨λh=>h.2 rfl,λh=>⟨(λe=>by cases e),λ_=>h⟩⟩
theorem CH.mk'{x want:Bool}{yes no:Prop}{a:Tg yes}{b:Tg no}(y:x=want->yes)(n:x=(!want)->no):CH x want yes no a b:=⟨y,n⟩
def yE(fn:Fn)(first:List Operand)(cs:List AV)(k:AV->Prop):Prop:=match fn,first with
  | .func f,[]=>k (.f f cs)
  |_,_=>False
def Nc(v:AV)(k:Nat->List AV->Prop):Prop:=match v with
  | .f f cs=>k f cs
  |_=>False
def RF(Γ:CA)(P:Program)(op:Op)(t:List AV)(H:HP)(id:Nat)(k:AV->Option (List AV)->Prop):Prop:=
  match op with
  | .move x=>k (BQ t x) none
  | .assign x=>k (BQ t x) none
  | .pick c a b=>match BQ t c with
    | .b z=>mZ z (k (BQ t a) none) (k (BQ t b) none) (.mk _) (.mk _)
    |_=>False
  | .binOp op ty x y _=>bop Γ op ty (BQ t x) (BQ t y) λr=>k r none
  | .unOp op _ x=>uop op (BQ t x) λr=>k r none
  | .convert src dst x=>cop Γ src dst (BQ t x) λr=>k r none
  | .load ty x=>Mj Γ H ty (BQ t x) λr=>k r none
  | .fieldAddr ty x f=>fop Γ ty f λoff=>qO (BQ t x) off λr=>k r none
  | .indexAddr ty x i=>iop Γ ty (BQ t x) (BQ t i) λr=>k r none
  | .slice ty x lo hi none=>sop Γ ty (BQ t x) (lo.map (BQ t)) (hi.map (BQ t)) λr=>k r none
  | .extract x n=>eop (BQ t x) n λr=>k r none
  | .field ty x f=>Bk Γ ty (BQ t x) f λr=>k r none
  | .nilCheck x=>nop (BQ t x) λr=>k r none
  | .index ty x i=>jF Γ ty (BQ t x) (BQ t i) λr=>k r none
  | .build ty parts=>yC Γ ty (parts.toList.map λ(i,x)=>(i,BQ t x)) λr=>k r none
  | .buildSlice ty len parts=>fX Γ ty len (parts.toList.map λ(i,x)=>(i,BQ t x)) id k
  | .makeSlice ty x y=>Bu Γ ty (BQ t x) (BQ t y) id k
  | .alloc ty=>match Γ ty with
    |some e=>k (.q id 0) (some (KL e))
    |none=>False
  | .box ty x=>fU (BQ t x)=true/\k (.q id 0) (some (CN (BQ t x)))
  | .call ⟨.builtin .len,args,ED⟩=>match args.toList,ED.toList with
    |[x],ty::_=>XX Γ ty (BQ t x) λr=>k r none
    |_,_=>False
  | .call ⟨.builtin .cap,args,ED⟩=>match args.toList,ED.toList with
    |[x],ty::_=>mR Γ ty (BQ t x) λr=>k r none
    |_,_=>False
  | .call ⟨.builtin .max,args,_⟩=>match args.toList with
    |[x,y]=>Bm (BQ t x) (BQ t y) λr=>k r none
    |_=>False
  | .call ⟨.builtin .min,args,_⟩=>match args.toList with
    |[x,y]=>Bl (BQ t x) (BQ t y) λr=>k r none
    |_=>False
  | .call ⟨.value (.func f),args,_⟩=>ex2 (λr=>RC P f H (args.toList.map (BQ t)) r) λr=>k r none
  | .call ⟨.value (.tmp n),args,_⟩=>Nc (BQ t (.tmp n)) λf cs=>ex2 (λr=>RC P f H (args.toList.map (BQ t)++cs) r) λr=>k r none
  | .makeFunc fn first cap=>yE fn first.toList (cap.toList.map (BQ t)) λr=>k r none
  |_=>False
def lays:Op->Bool
  | .alloc _| .box .. | .makeSlice .. | .buildSlice .. =>true
  |_=>false
theorem ZZ{P:Program}{Γ:CA}(hG:IB P Γ){o:Oper}{t:List AV}{H:HP}{id:Nat}{k:AV->Option (List AV)->Prop}(h:RF Γ P o.op t H id k):∃r d,k r d/\EZ P o (BQ t) H id r d/\(lays o.op=false->d=none):=by
  have val:∀x,(∀ρ:Operand->Value,∀w,(execOp ρ o).run P w= .ok (.value (ρ x)) w)->x∈o.op.operands->EZ P o (BQ t) H id (BQ t x) none:=
    λx hx hm=>EZ.pure λH' hH L Av w ρ hs B0=>⟨ρ x,hx ρ w,B0 x hm⟩
  have lift:∀{K:AV->Prop},(∃r,K r/\EZ P o (BQ t) H id r none)->(∀r,K r->k r none)->∃r d,k r d/\EZ P o (BQ t) H id r d/\(lays o.op=false->d=none):=
    λ⟨r,h1,h2⟩ h3=>⟨r,none,h3 r h1,h2,λ_=>rfl⟩
  cases ho:o.op<;>rw[ho]at h lift<;>simp only[RF]at h
  case move x=>exact⟨_,_,h,val x (fun ρ w=>by simp[execOp,ho]) (by simp[ho,Op.operands]),λ_=>rfl⟩
  case assign x=>exact⟨_,_,h,val x (fun ρ w=>by simp[execOp,ho]) (by simp[ho,Op.operands]),λ_=>rfl⟩
  case pick c a b=>
    split at h
    · rename_i z hz;cases z with
      | true=>
        refine⟨_,_,h.1 rfl,EZ.pure λH' hH L Av w ρ hs B0=>⟨ρ a,?_,B0 a (by simp[ho,Op.operands])⟩,λ_=>rfl⟩;have hc:=B0 c (by simp[ho,Op.operands]);rw[hz]at hc;simp[execOp,ho,hc.XY,asBool]
      | false=>
        refine⟨_,_,h.2 rfl,EZ.pure λH' hH L Av w ρ hs B0=>⟨ρ b,?_,B0 b (by simp[ho,Op.operands])⟩,λ_=>rfl⟩;have hc:=B0 c (by simp[ho,Op.operands]);rw[hz]at hc;simp[execOp,ho,hc.XY,asBool]
    exact h.elim
  case binOp op ty x y ty2=>
    obtain⟨r,h1,h2⟩:=tX hG h x y;refine⟨r,none,h1,EZ.pure λH' hH L Av w ρ hs B0=>?_,λ_=>rfl⟩;obtain⟨z,h3,h4⟩:=h2 L w _ _ _ (B0 x (by simp[ho,Op.operands])) (B0 y (by simp[ho,Op.operands]));exact⟨z,by simp only[execOp,ho,Sem.run_bind,Sem.run_pure]at h3 ⊢;rw[h3];rfl,h4⟩
  case unOp op ty x=>
    obtain⟨r,h1,h2⟩:=Ml (P:=P) h;refine⟨r,none,h1,EZ.pure λH' hH L Av w ρ hs B0=>?_,λ_=>rfl⟩;obtain⟨z,h3,h4⟩:=h2 L w _ _ (B0 x (by simp[ho,Op.operands]));exact⟨z,by simp[execOp,ho,h3],h4⟩
  case convert s d x=>
    obtain⟨r,h1,h2⟩:=tY hG h;refine⟨r,none,h1,EZ.pure λH' hH L Av w ρ hs B0=>?_,λ_=>rfl⟩;obtain⟨z,h3,h4⟩:=h2 L w _ _ (B0 x (by simp[ho,Op.operands]));exact⟨z,by simp[execOp,ho,h3],h4⟩
  case load ty x=>exact lift (Wo hG ho h) (λ_ h=>h)
  case fieldAddr ty x f=>exact lift (Wp hG ho h) (λ_ h=>h)
  case indexAddr ty x i=>exact lift (Wr hG ho h) (λ_ h=>h)
  case slice ty x lo hi mx=>
    cases mx with
    |none=>exact lift (Wv hG ho h) (λ_ h=>h)
    |some _=>exact h.elim
  case extract x n=>exact lift (Ws ho h) (λ_ h=>h)
  case field ty x f=>exact lift (Mm hG ho h) (λ_ h=>h)
  case index ty x i=>exact lift (Wt hG ho h) (λ_ h=>h)
  case nilCheck x=>exact lift (Wu ho h) (λ_ h=>h)
  case build ty parts=>exact lift (Mw hG ho h) (λ_ h=>h)
  case buildSlice ty len parts=>obtain⟨r,d,h1,h2⟩:=Mu hG ho h;exact⟨r,d,h1,h2,λh=>by cases h⟩
  case makeSlice ty x y=>obtain⟨r,d,h1,h2⟩:=Mt hG ho h;exact⟨r,d,h1,h2,λh=>by cases h⟩
  case alloc ty=>
    split at h
    · rename_i e he;exact⟨_,_,h,Bt hG ho he,λh=>by cases h⟩
    exact h.elim
  case box ty x=>exact⟨_,_,h.2,Wx ho h.1,λh=>by cases h⟩
  case makeFunc fn first cap=>
    unfold yE at h;split at h
    · rename_i f Xi;refine⟨_,none,h,EZ.pure λH' hH L Av w ρ hs B0=>?_,λ_=>rfl⟩;have h0:first=#[]:=by apply Array.ext';simpa using Xi
      subst h0;refine⟨.func (.func f) #[] (cap.map ρ),by simp[execOp,ho,Instr.makeFunc],.f _ _ _ AB ?_⟩;intro k x hk;simp only[List.getElem?_map,Option.map_eq_some_iff,Array.getElem?_toList]at hk;obtain⟨y,h1,h2⟩:=hk;have hm:y∈o.op.operands:=by
        rw[ho];simp only[Op.operands,Array.mem_append];exact .inr (Array.mem_of_getElem? h1)
      have:=B0 y hm;rw[<-h2];simpa[h1]using this
    exact h.elim
  case call c=>
    obtain⟨callee,args,ED⟩:=c;cases callee with
    | builtin b=>
      cases b<;>simp only at h<;>try exact h.elim
      · split at h
        · rename_i x ty tl ha YO;have WB:args=#[x]:=by apply Array.ext';simpa using ha
          subst WB;have y8:ED[0]? =some ty:=by rw[<-Array.getElem?_toList,YO];rfl
          exact lift (Br hG ho y8 h) (λ_ h=>h)
        exact h.elim
      split at h
      · rename_i x ty tl ha YO;have WB:args=#[x]:=by apply Array.ext';simpa using ha
        subst WB;have y8:ED[0]? =some ty:=by rw[<-Array.getElem?_toList,YO];rfl
        exact lift (Bq hG ho y8 h) (λ_ h=>h)
      · exact h.elim
      split at h
      · rename_i x y ha;have WB:args=#[x,y]:=by apply Array.ext';simpa using ha
        subst WB;exact lift (Mn ho h) (λ_ h=>h)
      · exact h.elim
      split at h
      · rename_i x y ha;have WB:args=#[x,y]:=by apply Array.ext';simpa using ha
        subst WB;exact lift (Mo ho h) (λ_ h=>h)
      exact h.elim
    |invoke r m=>exact h.elim
    | value fo=>
      cases fo<;>simp only at h<;>try exact h.elim
      · rename_i n;unfold Nc at h;split at h
        · rename_i f cs hv;obtain⟨r,hr,hk⟩:=h;refine⟨r,none,hk,?_,λ_=>rfl⟩;intro H' hH L Av w ρ hs mC hL hi B0;obtain⟨he,E8⟩:=hr.run hH;have hx:=B0 (.tmp n) (by rw[ho];simp[Op.operands,Call.operands]);rw[hv]at hx;obtain⟨us,hf,Li⟩:=hx.mY;have h1:=T7 he ho hf w;have h2:=E8 L Av w _ hs mC ((bG ho B0).append Li);unfold QV;rw[h1];exact h2.mono λe w' ⟨u,h3,h4,h5,h6⟩=>⟨u,h3,r,H',L,⟨rfl,rfl⟩,λ_ _=>rfl,h4,h5,h6⟩
        exact h.elim
      rename_i f;obtain⟨r,hr,hk⟩:=h;refine⟨r,none,hk,?_,λ_=>rfl⟩;intro H' hH L Av w ρ hs mC hL hi B0;obtain⟨he,E8⟩:=hr.run hH;have hf:ρ (.func f)= .func (.func f) #[] #[]:=(B0 (.func f) (by rw[ho];simp[Op.operands,Call.operands])).Xh;have h1:=WK he ho hf w;have h2:=E8 L Av w _ hs mC (jI ho B0);unfold QV;rw[h1];exact h2.mono λe w' ⟨u,h3,h4,h5,h6⟩=>⟨u,h3,r,H',L,⟨rfl,rfl⟩,λ_ _=>rfl,h4,h5,h6⟩
theorem Cd{P:Program}{Γ:CA}(hG:IB P Γ){o:Oper}{t:List AV}{H:HP}{id:Nat}{k:AV->Option (List AV)->Prop}(h:RF Γ P o.op t H id k):∃r d,k r d/\EZ P o (BQ t) H id r d:=
  let ⟨r,d,h1,h2,_⟩:=ZZ hG h
  ⟨r,d,h1,h2⟩
end Go.Proofs.YtgknbnkmilddhaaGreat
